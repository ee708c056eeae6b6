-- CUT by prune.py, a program of this session, to what the claim reaches (out of a text that the kit's printer, the session's programs or the session wrote)
import Derived.Test.YtlppmfffdjfekaaPPlainLessX0
import Derived.Test.YtlppmfffdjfekaaPPlainLessXEq
import Derived.Test.YtlppmfffdjfekaaPPlainLessXUsual
import Derived.Test.YtlppmfffdjfekaaPPlainLessXShown
import Derived.Test.YtlppmfffdjfekaaPPlainLessHPlain
namespace Go.Proofs.Ytlppmfffdjfekaa.X
open Go.RowKit Go.Proofs.YtlppmfffdjfekaaW.PrintWords Go.Proofs.YtlppmfffdjfekaaW.PrintLast Go.Proofs.YtlppmfffdjfekaaW.PrintMore
set_option linter.unusedVariables false
set_option linter.unusedSimpArgs false

attribute [local go_sem high] eqA37
mutual
def demurragelaw19_PlainLess.j0 : Nat → Int → Int → List (S42) → Bool → Int → Bool → Option (Bool)
 | 0, _, _, _, _, _, _ => none
 | k + 1, x0, x1, x2, x7, x8, x31 => if x31 = true then (some x7) else ((plain_Bullet.f k (wrap64 (Int.tmod x0 1000000000000001)) (Int.tmod (wrap64 (x1)) 9001) x2).bind fun bt741 => ((plain_Equal.f k (wrap64 (Int.tmod x0 1000000000000001)) (Int.tmod (wrap64 (x1)) 9001) x2).bind fun bt745 => ((plain_Equal.f k (wrap64 (Int.tmod x0 1000000000000001)) 0 x2).bind fun bt749 => (if bt741.2 = 0 then (if bt745.2 = 0 then (if bt749.2 = 0 then (if (bt741.1.length : Int) = x8 then (if (bt745.1.length : Int) = x8 then (if (bt749.1.length : Int) = x8 then (demurragelaw19_PlainLess.l0 k x7 x8 bt741.1 bt745.1 bt749.1 0) else (none)) else (none)) else (none)) else (none)) else (none)) else (none)))))
def demurragelaw19_PlainLess.l0 : Nat → Bool → Int → List (S37) → List (S37) → List (S37) → Int → Option (Bool)
 | 0, _, _, _, _, _, _ => none
 | k + 1, x7, x8, x11, x13, x15, x17 => if x17 < x8 then (if 0 ≤ x17 then (if x17 < (x13.length : Int) then (if x17 < (x11.length : Int) then (if ((rd_T37 x13 x17).f1) > ((rd_T37 x11 x17).f1) then (none) else (if x17 < (x15.length : Int) then (if ((rd_T37 x15 x17).f1) = 0 then (if ((rd_T37 x15 x17).f2) = ((rd_T37 x13 x17).f2) then (if ((rd_T37 x15 x17).f3) = ((rd_T37 x15 x17).f2) then (demurragelaw19_PlainLess.l0 k x7 x8 x11 x13 x15 (wrap64 (x17 + 1))) else (none)) else (none)) else (none)) else (none))) else (none)) else (none)) else (none)) else (if x7 = true then (if x8 > 1 then (some true) else (if 0 < (x11.length : Int) then (if 0 < (x13.length : Int) then (some (((rd_T37 x11 0).f0) == ((rd_T37 x13 0).f0) && (((rd_T37 x11 0).f1) == ((rd_T37 x13 0).f1) && (((rd_T37 x11 0).f2) == ((rd_T37 x13 0).f2) && (((rd_T37 x11 0).f3) == ((rd_T37 x13 0).f3) && (((rd_T37 x11 0).f4) == ((rd_T37 x13 0).f4))))))) else (none)) else (none))) else (none))
end
def demurragelaw19_PlainLess.f (k : Nat) (a0 : Int) (a1 : Int) (l2 : List (S42)) : Option (Bool) := (demurragelaw19_shown.f k).bind fun t595 => (if (l2.length : Int) < 1 then (demurragelaw19_PlainLess.j0 k a0 a1 l2 t595 (l2.length : Int) true) else (if (l2.length : Int) > 40 then (demurragelaw19_PlainLess.j0 k a0 a1 l2 t595 (l2.length : Int) true) else ((demurrageref18_Usual.f k l2).bind fun t596 => (demurragelaw19_PlainLess.j0 k a0 a1 l2 t595 (l2.length : Int) (!t596)))))
set_option maxHeartbeats 8000000 in
set_option maxRecDepth 100000 in
theorem demurragelaw19_PlainLess.calls (k : Nat) (a0 : Int) (a1 : Int) (A2 : Option Addr) (c2 : Nat) (l2 : List (S42)) (r : Bool) (w : World) (hr2 : Kd.C k42 w A2 l2.length l2) (hc2 : l2.length ≤ c2) (h : demurragelaw19_PlainLess.f k a0 a1 l2 = some r) :
  Calls Try.prog 5 #[.int .u64 a0, .int .u16 a1, .slice A2 l2.length c2] w fun e w' => e = .returned (.bool r) ∧ Below w.heap.size w w' := by
 have hu37 := Try.underlying37
 have HR2 := Aside0.mk hr2
 have HC2 := Aside0.mk hc2
 clear hr2 hc2
 have HB := Aside0.mk (Below.refl w.heap.size w)
 have H : ((demurragelaw19_shown.f k).bind fun t595 => (if (l2.length : Int) < 1 then (demurragelaw19_PlainLess.j0 k a0 a1 l2 t595 (l2.length : Int) true) else (if (l2.length : Int) > 40 then (demurragelaw19_PlainLess.j0 k a0 a1 l2 t595 (l2.length : Int) true) else ((demurrageref18_Usual.f k l2).bind fun t596 => (demurragelaw19_PlainLess.j0 k a0 a1 l2 t595 (l2.length : Int) (!t596)))))) = some r := h
 clear h
 replace H := Option.bind_eq_some_iff.mp H
 obtain ⟨t595, A40, H⟩ := H
 (try dsimp only at H)
 have A4 := Aside0.mk A40
 clear A40
 have HC5 := Aside0.mk H
 clear H
 go_enter Try.func5, Try.ntmps5
 go_upto_region 3 with (first | (go_at_call 8; (with_reducible refine (demurragelaw19_shown.calls k  t595 _ A4.out).mono ?_); rintro e w6 ⟨rfl, hb⟩; replace HB := Aside0.mk (below_step (by repeat (first | (with_reducible first | exact HB.out | apply below_alloc | apply pw_below_drewN | apply below_drew1) | exact HB.out)) hb); (try clear hb)))
 repeat (go_quiet (first | (go_at_call 8; (with_reducible refine (demurragelaw19_shown.calls k  t595 _ A4.out).mono ?_); rintro e w6 ⟨rfl, hb⟩; replace HB := Aside0.mk (below_step (by repeat (first | (with_reducible first | exact HB.out | apply below_alloc | apply pw_below_drewN | apply below_drew1) | exact HB.out)) hb); (try clear hb))); go_upto_region 3 with (first | (go_at_call 8; (with_reducible refine (demurragelaw19_shown.calls k  t595 _ A4.out).mono ?_); rintro e w6 ⟨rfl, hb⟩; replace HB := Aside0.mk (below_step (by repeat (first | (with_reducible first | exact HB.out | apply below_alloc | apply pw_below_drewN | apply below_drew1) | exact HB.out)) hb); (try clear hb))))
 (try simp only [Act.put, List.setIfInBounds_toArray, List.set_cons_zero, List.set_cons_succ])
 go_cut [31] (fun v31 wc => ∃ (kq : Nat) (x31_4 : Bool), v31 = .bool x31_4 ∧ Aside0 (demurragelaw19_PlainLess.j0 kq a0 a1 l2 t595 (l2.length : Int) x31_4 = some r) ∧ Aside0 (kq ≤ k) ∧ Aside0 (Below w.heap.size w wc))
 case first =>
  have H := HC5.out
  clear HC5
  by_cases c7 : (l2.length : Int) < 1
  ·rw [if_pos c7] at H
   have c7b0 : decide ((l2.length : Int) < 1) = true := decide_eq_true c7
   have c7b1 : decide (l2.length < 1) = true := decide_eq_true (by omega)
   clear c7
   (first | rw [c7b0] | (simp only [i64_w, i32_w]; rw [c7b0]) | rw [c7b1] | skip)
   have H' := Aside0.mk H
   clear H
   go_wp2
   repeat (go_quiet (fail); try go_wp2)
   go_meet
   case rel => exact ⟨_, _, (by first | rfl | (simp; done) | (simp [*]; done)), H', ⟨by first | omega | exact Nat.le_refl _⟩, ⟨by repeat (first | (with_reducible first | exact HB.out | apply below_alloc | apply pw_below_drewN | apply below_drew1) | exact HB.out)⟩⟩
  ·rw [if_neg c7] at H
   have c7b0 : decide ((l2.length : Int) < 1) = false := decide_eq_false c7
   have c7b1 : decide (l2.length < 1) = false := decide_eq_false (by omega)
   clear c7
   (first | rw [c7b0] | (simp only [i64_w, i32_w]; rw [c7b0]) | rw [c7b1] | skip)
   by_cases c8 : (l2.length : Int) > 40
   ·rw [if_pos c8] at H
    have c8b0 : decide (40 < (l2.length : Int)) = true := decide_eq_true c8
    have c8b1 : decide (40 < l2.length) = true := decide_eq_true (by omega)
    clear c8
    have H' := Aside0.mk H
    clear H
    go_wp2
    repeat (go_quiet (fail); try go_wp2)
    go_meet
    case rel => exact ⟨_, _, (by first | rfl | (simp; done) | (simp [*]; done)), H', ⟨by first | omega | exact Nat.le_refl _⟩, ⟨by repeat (first | (with_reducible first | exact HB.out | apply below_alloc | apply pw_below_drewN | apply below_drew1) | exact HB.out)⟩⟩
   ·rw [if_neg c8] at H
    have c8b0 : decide (40 < (l2.length : Int)) = false := decide_eq_false c8
    have c8b1 : decide (40 < l2.length) = false := decide_eq_false (by omega)
    clear c8
    replace H := Option.bind_eq_some_iff.mp H
    obtain ⟨t596, A90, H⟩ := H
    (try dsimp only at H)
    have A9 := Aside0.mk A90
    clear A90
    have H' := Aside0.mk H
    clear H
    go_wp2_with (first | (go_at_call 14; (with_reducible refine (demurrageref18_Usual.calls k _ _ l2 t596 _ ?side1 ?side2 A9.out).mono ?_); (case side1 => repeat (first | exact (Kd.C_below HR2.out HB.out) | (with_reducible refine Kd.C_alloc ?_ _) | (with_reducible refine Kd.C_drewN ?_ _) | (with_reducible refine Kd.C_drew ?_))); (case side2 => exact HC2.out); rintro e w10 ⟨rfl, hb⟩; replace HB := Aside0.mk (below_step (by repeat (first | (with_reducible first | exact HB.out | apply below_alloc | apply pw_below_drewN | apply below_drew1) | exact HB.out)) hb); (try clear hb)))
    repeat (go_quiet (first | (go_at_call 14; (with_reducible refine (demurrageref18_Usual.calls k _ _ l2 t596 _ ?side1 ?side2 A9.out).mono ?_); (case side1 => repeat (first | exact (Kd.C_below HR2.out HB.out) | (with_reducible refine Kd.C_alloc ?_ _) | (with_reducible refine Kd.C_drewN ?_ _) | (with_reducible refine Kd.C_drew ?_))); (case side2 => exact HC2.out); rintro e w10 ⟨rfl, hb⟩; replace HB := Aside0.mk (below_step (by repeat (first | (with_reducible first | exact HB.out | apply below_alloc | apply pw_below_drewN | apply below_drew1) | exact HB.out)) hb); (try clear hb))); try go_wp2_with (first | (go_at_call 14; (with_reducible refine (demurrageref18_Usual.calls k _ _ l2 t596 _ ?side1 ?side2 A9.out).mono ?_); (case side1 => repeat (first | exact (Kd.C_below HR2.out HB.out) | (with_reducible refine Kd.C_alloc ?_ _) | (with_reducible refine Kd.C_drewN ?_ _) | (with_reducible refine Kd.C_drew ?_))); (case side2 => exact HC2.out); rintro e w10 ⟨rfl, hb⟩; replace HB := Aside0.mk (below_step (by repeat (first | (with_reducible first | exact HB.out | apply below_alloc | apply pw_below_drewN | apply below_drew1) | exact HB.out)) hb); (try clear hb))))
    go_meet
    case rel => exact ⟨_, _, (by first | rfl | (simp; done) | (simp [*]; done)), H', ⟨by first | omega | exact Nat.le_refl _⟩, ⟨by repeat (first | (with_reducible first | exact HB.out | apply below_alloc | apply pw_below_drewN | apply below_drew1) | exact HB.out)⟩⟩
 case rest =>
  clear HC5
  try clear c2
  try clear p2
  try clear c5
  try clear c7
  try clear c7b0
  try clear c7b1
  try clear c8
  try clear c8b0
  try clear c8b1
  obtain ⟨kq, x31_4, rfl, HA, HJ4, HB⟩ := hcut
  cases kq with
  | zero => exact absurd HA.out (by simp [demurragelaw19_PlainLess.j0])
  | succ kj4 =>
   have H := HA.out
   clear HA
   simp only [demurragelaw19_PlainLess.j0] at H
   by_cases c11 : x31_4 = true
   ·subst c11
    rw [if_pos rfl] at H
    obtain rfl := Option.some.inj H
    go_wp2
    repeat (go_quiet (fail); try go_wp2)
    go_ret
    exact ⟨by rfl, by repeat (first | (with_reducible first | exact HB.out | apply below_alloc | apply pw_below_drewN | apply below_drew1) | exact HB.out)⟩
   ·replace c11 := Bool.eq_false_iff.mpr c11
    subst c11
    rw [if_neg (show ¬ (false = true) by decide)] at H
    replace H := Option.bind_eq_some_iff.mp H
    obtain ⟨⟨t741, t742⟩, A120, H⟩ := H
    (try dsimp only at H)
    have A12 := Aside0.mk A120
    clear A120
    replace H := Option.bind_eq_some_iff.mp H
    obtain ⟨⟨t745, t746⟩, A130, H⟩ := H
    (try dsimp only at H)
    have A13 := Aside0.mk A130
    clear A130
    replace H := Option.bind_eq_some_iff.mp H
    obtain ⟨⟨t749, t750⟩, A140, H⟩ := H
    (try dsimp only at H)
    have A14 := Aside0.mk A140
    clear A140
    by_cases c15 : t742 = 0
    ·rw [if_pos c15] at H
     have c15b0 : (t742 == 0) = true := beq_iff_eq.mpr c15
     have c15b1 : (t742 != 0) = false := bne_eq_false_iff_eq.mpr c15
     clear c15
     by_cases c16 : t746 = 0
     ·rw [if_pos c16] at H
      have c16b0 : (t746 == 0) = true := beq_iff_eq.mpr c16
      have c16b1 : (t746 != 0) = false := bne_eq_false_iff_eq.mpr c16
      clear c16
      by_cases c17 : t750 = 0
      ·rw [if_pos c17] at H
       have c17b0 : (t750 == 0) = true := beq_iff_eq.mpr c17
       have c17b1 : (t750 != 0) = false := bne_eq_false_iff_eq.mpr c17
       clear c17
       by_cases c18 : (t741.length : Int) = (l2.length : Int)
       ·rw [if_pos c18] at H
        have c18b0 : ((t741.length : Int) == (l2.length : Int)) = true := beq_iff_eq.mpr c18
        have c18b1 : ((t741.length : Int) != (l2.length : Int)) = false := bne_eq_false_iff_eq.mpr c18
        have c18b2 : (t741.length == l2.length) = true := by first | simpa using c18 | (simp at c18 ⊢; omega)
        clear c18
        by_cases c19 : (t745.length : Int) = (l2.length : Int)
        ·rw [if_pos c19] at H
         have c19b0 : ((t745.length : Int) == (l2.length : Int)) = true := beq_iff_eq.mpr c19
         have c19b1 : ((t745.length : Int) != (l2.length : Int)) = false := bne_eq_false_iff_eq.mpr c19
         have c19b2 : (t745.length == l2.length) = true := by first | simpa using c19 | (simp at c19 ⊢; omega)
         clear c19
         by_cases c20 : (t749.length : Int) = (l2.length : Int)
         ·rw [if_pos c20] at H
          have c20b0 : ((t749.length : Int) == (l2.length : Int)) = true := beq_iff_eq.mpr c20
          have c20b1 : ((t749.length : Int) != (l2.length : Int)) = false := bne_eq_false_iff_eq.mpr c20
          have c20b2 : (t749.length == l2.length) = true := by first | simpa using c20 | (simp at c20 ⊢; omega)
          clear c20
          have H' := Aside0.mk H
          clear H
          go_wp2_with (first | (go_at_call 9; (with_reducible refine (plain_Bullet.calls kj4 (wrap64 (Int.tmod a0 1000000000000001)) (Int.tmod (wrap64 (a1)) 9001) _ _ l2 t741 t742 _ ?side1 ?side2 A12.out).mono ?_); (case side1 => repeat (first | exact (Kd.C_below HR2.out HB.out) | (with_reducible refine Kd.C_alloc ?_ _) | (with_reducible refine Kd.C_drewN ?_ _) | (with_reducible refine Kd.C_drew ?_))); (case side2 => exact HC2.out); rintro e w21 ⟨v743, rfl, ho0, hb⟩; have HO744 := Aside0.mk (Kd.R_lower ho0 (below_size (by repeat (first | (with_reducible first | exact HB.out | apply below_alloc | apply pw_below_drewN | apply below_drew1) | exact HB.out)))); replace HB := Aside0.mk (below_step (by repeat (first | (with_reducible first | exact HB.out | apply below_alloc | apply pw_below_drewN | apply below_drew1) | exact HB.out)) hb); (try clear hb); (try clear ho0)) | (go_at_call 11; (with_reducible refine (plain_Equal.calls kj4 (wrap64 (Int.tmod a0 1000000000000001)) (Int.tmod (wrap64 (a1)) 9001) _ _ l2 t745 t746 _ ?side1 ?side2 A13.out).mono ?_); (case side1 => repeat (first | exact (Kd.C_below HR2.out HB.out) | (with_reducible refine Kd.C_alloc ?_ _) | (with_reducible refine Kd.C_drewN ?_ _) | (with_reducible refine Kd.C_drew ?_))); (case side2 => exact HC2.out); rintro e w22 ⟨v747, rfl, ho0, hb⟩; have HO748 := Aside0.mk (Kd.R_lower (Kd.R_new' ho0 (Kd.R_lt HO744.out)) (below_size (by repeat (first | (with_reducible first | exact HB.out | apply below_alloc | apply pw_below_drewN | apply below_drew1) | exact HB.out)))); replace HO744 := Aside0.mk (Kd.R_elder' HO744.out (Kd.R_base ho0) hb); replace HB := Aside0.mk (below_step (by repeat (first | (with_reducible first | exact HB.out | apply below_alloc | apply pw_below_drewN | apply below_drew1) | exact HB.out)) hb); (try clear hb); (try clear ho0)) | (go_at_call 11; (with_reducible refine (plain_Equal.calls kj4 (wrap64 (Int.tmod a0 1000000000000001)) 0 _ _ l2 t749 t750 _ ?side1 ?side2 A14.out).mono ?_); (case side1 => repeat (first | exact (Kd.C_below HR2.out HB.out) | (with_reducible refine Kd.C_alloc ?_ _) | (with_reducible refine Kd.C_drewN ?_ _) | (with_reducible refine Kd.C_drew ?_))); (case side2 => exact HC2.out); rintro e w23 ⟨v751, rfl, ho0, hb⟩; have HO752 := Aside0.mk (Kd.R_lower (Kd.R_new' (Kd.R_new' ho0 (Kd.R_lt HO744.out)) (Kd.R_lt HO748.out)) (below_size (by repeat (first | (with_reducible first | exact HB.out | apply below_alloc | apply pw_below_drewN | apply below_drew1) | exact HB.out)))); replace HO744 := Aside0.mk (Kd.R_elder' HO744.out (Kd.R_base ho0) hb); replace HO748 := Aside0.mk (Kd.R_elder' HO748.out (Kd.R_base ho0) hb); replace HB := Aside0.mk (below_step (by repeat (first | (with_reducible first | exact HB.out | apply below_alloc | apply pw_below_drewN | apply below_drew1) | exact HB.out)) hb); (try clear hb); (try clear ho0); obtain ⟨Ao24, co24, eo24⟩ := Kd.R_slice HO744.out; subst eo24; obtain ⟨Ao25, co25, eo25⟩ := Kd.R_slice HO748.out; subst eo25; obtain ⟨Ao26, co26, eo26⟩ := Kd.R_slice HO752.out; subst eo26))
          repeat (go_quiet (first | (go_at_call 9; (with_reducible refine (plain_Bullet.calls kj4 (wrap64 (Int.tmod a0 1000000000000001)) (Int.tmod (wrap64 (a1)) 9001) _ _ l2 t741 t742 _ ?side1 ?side2 A12.out).mono ?_); (case side1 => repeat (first | exact (Kd.C_below HR2.out HB.out) | (with_reducible refine Kd.C_alloc ?_ _) | (with_reducible refine Kd.C_drewN ?_ _) | (with_reducible refine Kd.C_drew ?_))); (case side2 => exact HC2.out); rintro e w21 ⟨v743, rfl, ho0, hb⟩; have HO744 := Aside0.mk (Kd.R_lower ho0 (below_size (by repeat (first | (with_reducible first | exact HB.out | apply below_alloc | apply pw_below_drewN | apply below_drew1) | exact HB.out)))); replace HB := Aside0.mk (below_step (by repeat (first | (with_reducible first | exact HB.out | apply below_alloc | apply pw_below_drewN | apply below_drew1) | exact HB.out)) hb); (try clear hb); (try clear ho0)) | (go_at_call 11; (with_reducible refine (plain_Equal.calls kj4 (wrap64 (Int.tmod a0 1000000000000001)) (Int.tmod (wrap64 (a1)) 9001) _ _ l2 t745 t746 _ ?side1 ?side2 A13.out).mono ?_); (case side1 => repeat (first | exact (Kd.C_below HR2.out HB.out) | (with_reducible refine Kd.C_alloc ?_ _) | (with_reducible refine Kd.C_drewN ?_ _) | (with_reducible refine Kd.C_drew ?_))); (case side2 => exact HC2.out); rintro e w22 ⟨v747, rfl, ho0, hb⟩; have HO748 := Aside0.mk (Kd.R_lower (Kd.R_new' ho0 (Kd.R_lt HO744.out)) (below_size (by repeat (first | (with_reducible first | exact HB.out | apply below_alloc | apply pw_below_drewN | apply below_drew1) | exact HB.out)))); replace HO744 := Aside0.mk (Kd.R_elder' HO744.out (Kd.R_base ho0) hb); replace HB := Aside0.mk (below_step (by repeat (first | (with_reducible first | exact HB.out | apply below_alloc | apply pw_below_drewN | apply below_drew1) | exact HB.out)) hb); (try clear hb); (try clear ho0)) | (go_at_call 11; (with_reducible refine (plain_Equal.calls kj4 (wrap64 (Int.tmod a0 1000000000000001)) 0 _ _ l2 t749 t750 _ ?side1 ?side2 A14.out).mono ?_); (case side1 => repeat (first | exact (Kd.C_below HR2.out HB.out) | (with_reducible refine Kd.C_alloc ?_ _) | (with_reducible refine Kd.C_drewN ?_ _) | (with_reducible refine Kd.C_drew ?_))); (case side2 => exact HC2.out); rintro e w23 ⟨v751, rfl, ho0, hb⟩; have HO752 := Aside0.mk (Kd.R_lower (Kd.R_new' (Kd.R_new' ho0 (Kd.R_lt HO744.out)) (Kd.R_lt HO748.out)) (below_size (by repeat (first | (with_reducible first | exact HB.out | apply below_alloc | apply pw_below_drewN | apply below_drew1) | exact HB.out)))); replace HO744 := Aside0.mk (Kd.R_elder' HO744.out (Kd.R_base ho0) hb); replace HO748 := Aside0.mk (Kd.R_elder' HO748.out (Kd.R_base ho0) hb); replace HB := Aside0.mk (below_step (by repeat (first | (with_reducible first | exact HB.out | apply below_alloc | apply pw_below_drewN | apply below_drew1) | exact HB.out)) hb); (try clear hb); (try clear ho0); obtain ⟨Ao24, co24, eo24⟩ := Kd.R_slice HO744.out; subst eo24; obtain ⟨Ao25, co25, eo25⟩ := Kd.R_slice HO748.out; subst eo25; obtain ⟨Ao26, co26, eo26⟩ := Kd.R_slice HO752.out; subst eo26)); try go_wp2_with (first | (go_at_call 9; (with_reducible refine (plain_Bullet.calls kj4 (wrap64 (Int.tmod a0 1000000000000001)) (Int.tmod (wrap64 (a1)) 9001) _ _ l2 t741 t742 _ ?side1 ?side2 A12.out).mono ?_); (case side1 => repeat (first | exact (Kd.C_below HR2.out HB.out) | (with_reducible refine Kd.C_alloc ?_ _) | (with_reducible refine Kd.C_drewN ?_ _) | (with_reducible refine Kd.C_drew ?_))); (case side2 => exact HC2.out); rintro e w21 ⟨v743, rfl, ho0, hb⟩; have HO744 := Aside0.mk (Kd.R_lower ho0 (below_size (by repeat (first | (with_reducible first | exact HB.out | apply below_alloc | apply pw_below_drewN | apply below_drew1) | exact HB.out)))); replace HB := Aside0.mk (below_step (by repeat (first | (with_reducible first | exact HB.out | apply below_alloc | apply pw_below_drewN | apply below_drew1) | exact HB.out)) hb); (try clear hb); (try clear ho0)) | (go_at_call 11; (with_reducible refine (plain_Equal.calls kj4 (wrap64 (Int.tmod a0 1000000000000001)) (Int.tmod (wrap64 (a1)) 9001) _ _ l2 t745 t746 _ ?side1 ?side2 A13.out).mono ?_); (case side1 => repeat (first | exact (Kd.C_below HR2.out HB.out) | (with_reducible refine Kd.C_alloc ?_ _) | (with_reducible refine Kd.C_drewN ?_ _) | (with_reducible refine Kd.C_drew ?_))); (case side2 => exact HC2.out); rintro e w22 ⟨v747, rfl, ho0, hb⟩; have HO748 := Aside0.mk (Kd.R_lower (Kd.R_new' ho0 (Kd.R_lt HO744.out)) (below_size (by repeat (first | (with_reducible first | exact HB.out | apply below_alloc | apply pw_below_drewN | apply below_drew1) | exact HB.out)))); replace HO744 := Aside0.mk (Kd.R_elder' HO744.out (Kd.R_base ho0) hb); replace HB := Aside0.mk (below_step (by repeat (first | (with_reducible first | exact HB.out | apply below_alloc | apply pw_below_drewN | apply below_drew1) | exact HB.out)) hb); (try clear hb); (try clear ho0)) | (go_at_call 11; (with_reducible refine (plain_Equal.calls kj4 (wrap64 (Int.tmod a0 1000000000000001)) 0 _ _ l2 t749 t750 _ ?side1 ?side2 A14.out).mono ?_); (case side1 => repeat (first | exact (Kd.C_below HR2.out HB.out) | (with_reducible refine Kd.C_alloc ?_ _) | (with_reducible refine Kd.C_drewN ?_ _) | (with_reducible refine Kd.C_drew ?_))); (case side2 => exact HC2.out); rintro e w23 ⟨v751, rfl, ho0, hb⟩; have HO752 := Aside0.mk (Kd.R_lower (Kd.R_new' (Kd.R_new' ho0 (Kd.R_lt HO744.out)) (Kd.R_lt HO748.out)) (below_size (by repeat (first | (with_reducible first | exact HB.out | apply below_alloc | apply pw_below_drewN | apply below_drew1) | exact HB.out)))); replace HO744 := Aside0.mk (Kd.R_elder' HO744.out (Kd.R_base ho0) hb); replace HO748 := Aside0.mk (Kd.R_elder' HO748.out (Kd.R_base ho0) hb); replace HB := Aside0.mk (below_step (by repeat (first | (with_reducible first | exact HB.out | apply below_alloc | apply pw_below_drewN | apply below_drew1) | exact HB.out)) hb); (try clear hb); (try clear ho0); obtain ⟨Ao24, co24, eo24⟩ := Kd.R_slice HO744.out; subst eo24; obtain ⟨Ao25, co25, eo25⟩ := Kd.R_slice HO748.out; subst eo25; obtain ⟨Ao26, co26, eo26⟩ := Kd.R_slice HO752.out; subst eo26)))
          (try simp only [Act.put, List.setIfInBounds_toArray, List.set_cons_zero, List.set_cons_succ])
          go_loopg [17] kj4 (fun kq v17 w' => ∃ (x17_2 : Int), v17 = .int .i64 x17_2 ∧ Aside0 (demurragelaw19_PlainLess.l0 kq t595 (l2.length : Int) t741 t745 t749 x17_2 = some r) ∧ Aside0 (kq ≤ kj4) ∧ Aside0 (Kd.R k37 37 w' w.heap.size (fun k_ => some k_ ≠ ((.slice Ao25 t745.length co25) : Value).ownBlock ∧ some k_ ≠ ((.slice Ao26 t749.length co26) : Value).ownBlock) (.slice Ao24 t741.length co24) t741) ∧ Aside0 (Kd.R k37 37 w' w.heap.size (fun k_ => some k_ ≠ ((.slice Ao24 t741.length co24) : Value).ownBlock ∧ some k_ ≠ ((.slice Ao26 t749.length co26) : Value).ownBlock) (.slice Ao25 t745.length co25) t745) ∧ Aside0 (Kd.R k37 37 w' w.heap.size (fun k_ => some k_ ≠ ((.slice Ao24 t741.length co24) : Value).ownBlock ∧ some k_ ≠ ((.slice Ao25 t745.length co25) : Value).ownBlock) (.slice Ao26 t749.length co26) t749) ∧ Aside0 (Below w.heap.size w w'))
          case atStart => exact ⟨(0), (by first | rfl | (simp; done) | (simp [*]; done)), H', ⟨Nat.le_refl _⟩, ⟨by (with_reducible repeat (first | apply Kd.R_alloc | apply Kd.R_drewN | apply Kd.R_drew)); exact Kd.R_mono HO744.out (fun _ hk => (And.intro (hk.1.2) (hk.2)))⟩, ⟨by (with_reducible repeat (first | apply Kd.R_alloc | apply Kd.R_drewN | apply Kd.R_drew)); exact Kd.R_mono HO748.out (fun _ hk => (And.intro (hk.1.2) (hk.2)))⟩, ⟨by (with_reducible repeat (first | apply Kd.R_alloc | apply Kd.R_drewN | apply Kd.R_drew)); exact Kd.R_mono HO752.out (fun _ hk => (And.intro (hk.1.2) (hk.2)))⟩, ⟨by repeat (first | (with_reducible first | exact HB.out | apply below_alloc | apply pw_below_drewN | apply below_drew1) | exact HB.out)⟩⟩
          case round =>
           clear H'
           try clear c1
           try clear c2
           try clear p2
           try clear c5
           try clear p6
           try clear c7
           try clear c7b0
           try clear c7b1
           try clear c8
           try clear c8b0
           try clear c8b1
           try clear c11
           try clear c15
           try clear c15b0
           try clear c15b1
           try clear c16
           try clear c16b0
           try clear c16b1
           try clear c17
           try clear c17b0
           try clear c17b1
           try clear c18
           try clear c18b0
           try clear c18b1
           try clear c18b2
           try clear c19
           try clear c19b0
           try clear c19b1
           try clear c19b2
           try clear c20
           try clear c20b0
           try clear c20b1
           try clear c20b2
           try clear p2
           obtain ⟨x17_2, rfl, HA, HK2, HO_11, HO_13, HO_15, HB⟩ := hrel
           cases gk with
           | zero => exact absurd HA.out (by simp [demurragelaw19_PlainLess.l0])
           | succ k2 =>
            have H := HA.out
            clear HA
            simp only [demurragelaw19_PlainLess.l0] at H
            by_cases c27 : x17_2 < (l2.length : Int)
            ·rw [if_pos c27] at H
             have c27b0 : decide (x17_2 < (l2.length : Int)) = true := decide_eq_true c27
             clear c27
             by_cases c28 : 0 ≤ x17_2
             ·rw [if_pos c28] at H
              have c28b0 : decide (0 ≤ x17_2) = true := decide_eq_true c28
              clear c28
              by_cases c29 : x17_2 < (t745.length : Int)
              ·rw [if_pos c29] at H
               have c29b0 : decide (x17_2 < (t745.length : Int)) = true := decide_eq_true c29
               clear c29
               by_cases c30 : x17_2 < (t741.length : Int)
               ·rw [if_pos c30] at H
                have c30b0 : decide (x17_2 < (t741.length : Int)) = true := decide_eq_true c30
                clear c30
                by_cases c31 : ((rd_T37 t745 x17_2).f1) > ((rd_T37 t741 x17_2).f1)
                ·rw [if_pos c31] at H
                 exact absurd H (by simp)
                ·rw [if_neg c31] at H
                 have c31b0 : decide (((rd_T37 t741 x17_2).f1) < ((rd_T37 t745 x17_2).f1)) = false := decide_eq_false c31
                 clear c31
                 by_cases c32 : x17_2 < (t749.length : Int)
                 ·rw [if_pos c32] at H
                  have c32b0 : decide (x17_2 < (t749.length : Int)) = true := decide_eq_true c32
                  clear c32
                  by_cases c33 : ((rd_T37 t749 x17_2).f1) = 0
                  ·rw [if_pos c33] at H
                   have c33b0 : (((rd_T37 t749 x17_2).f1) == 0) = true := beq_iff_eq.mpr c33
                   have c33b1 : (((rd_T37 t749 x17_2).f1) != 0) = false := bne_eq_false_iff_eq.mpr c33
                   clear c33
                   by_cases c34 : ((rd_T37 t749 x17_2).f2) = ((rd_T37 t745 x17_2).f2)
                   ·rw [if_pos c34] at H
                    have c34b0 : (((rd_T37 t749 x17_2).f2) == ((rd_T37 t745 x17_2).f2)) = true := beq_iff_eq.mpr c34
                    have c34b1 : (((rd_T37 t749 x17_2).f2) != ((rd_T37 t745 x17_2).f2)) = false := bne_eq_false_iff_eq.mpr c34
                    clear c34
                    by_cases c35 : ((rd_T37 t749 x17_2).f3) = ((rd_T37 t749 x17_2).f2)
                    ·rw [if_pos c35] at H
                     have c35b0 : (((rd_T37 t749 x17_2).f3) == ((rd_T37 t749 x17_2).f2)) = true := beq_iff_eq.mpr c35
                     have c35b1 : (((rd_T37 t749 x17_2).f3) != ((rd_T37 t749 x17_2).f2)) = false := bne_eq_false_iff_eq.mpr c35
                     clear c35
                     have H' := Aside0.mk H
                     clear H
                     have p780 : 0 ≤ (x17_2 : Int) := of_decide_eq_true (by first | (with_reducible assumption) | assumption)
                     have q780 : x17_2 < (t745.length : Int) := of_decide_eq_true (by first | (with_reducible assumption) | assumption)
                     obtain ⟨ad780, e780, hx780_0, hx780_1, hx780_2, hx780_3, hx780_4⟩ := at_T37 (Kd.R_reads' HO_13.out).2.2 x17_2 p780 q780
                     cases e780
                     replace p780 := eq_true p780
                     replace q780 := eq_true q780
                     have p781 : 0 ≤ (x17_2 : Int) := of_decide_eq_true (by first | (with_reducible assumption) | assumption)
                     have q781 : x17_2 < (t741.length : Int) := of_decide_eq_true (by first | (with_reducible assumption) | assumption)
                     obtain ⟨ad781, e781, hx781_0, hx781_1, hx781_2, hx781_3, hx781_4⟩ := at_T37 (Kd.R_reads' HO_11.out).2.2 x17_2 p781 q781
                     cases e781
                     replace p781 := eq_true p781
                     replace q781 := eq_true q781
                     have p782 : 0 ≤ (x17_2 : Int) := of_decide_eq_true (by first | (with_reducible assumption) | assumption)
                     have q782 : x17_2 < (t749.length : Int) := of_decide_eq_true (by first | (with_reducible assumption) | assumption)
                     obtain ⟨ad782, e782, hx782_0, hx782_1, hx782_2, hx782_3, hx782_4⟩ := at_T37 (Kd.R_reads' HO_15.out).2.2 x17_2 p782 q782
                     cases e782
                     replace p782 := eq_true p782
                     replace q782 := eq_true q782
                     have p783 : 0 ≤ (x17_2 : Int) := of_decide_eq_true (by first | (with_reducible assumption) | assumption)
                     have q783 : x17_2 < (t749.length : Int) := of_decide_eq_true (by first | (with_reducible assumption) | assumption)
                     obtain ⟨ad783, e783, hx783_0, hx783_1, hx783_2, hx783_3, hx783_4⟩ := at_T37 (Kd.R_reads' HO_15.out).2.2 x17_2 p783 q783
                     obtain rfl : ad782 = ad783 := (by injection e783)
                     replace p783 := eq_true p783
                     replace q783 := eq_true q783
                     have p784 : 0 ≤ (x17_2 : Int) := of_decide_eq_true (by first | (with_reducible assumption) | assumption)
                     have q784 : x17_2 < (t745.length : Int) := of_decide_eq_true (by first | (with_reducible assumption) | assumption)
                     obtain ⟨ad784, e784, hx784_0, hx784_1, hx784_2, hx784_3, hx784_4⟩ := at_T37 (Kd.R_reads' HO_13.out).2.2 x17_2 p784 q784
                     obtain rfl : ad780 = ad784 := (by injection e784)
                     replace p784 := eq_true p784
                     replace q784 := eq_true q784
                     have p785 : 0 ≤ (x17_2 : Int) := of_decide_eq_true (by first | (with_reducible assumption) | assumption)
                     have q785 : x17_2 < (t749.length : Int) := of_decide_eq_true (by first | (with_reducible assumption) | assumption)
                     obtain ⟨ad785, e785, hx785_0, hx785_1, hx785_2, hx785_3, hx785_4⟩ := at_T37 (Kd.R_reads' HO_15.out).2.2 x17_2 p785 q785
                     obtain rfl : ad782 = ad785 := (by injection e785)
                     replace p785 := eq_true p785
                     replace q785 := eq_true q785
                     have p786 : 0 ≤ (x17_2 : Int) := of_decide_eq_true (by first | (with_reducible assumption) | assumption)
                     have q786 : x17_2 < (t749.length : Int) := of_decide_eq_true (by first | (with_reducible assumption) | assumption)
                     obtain ⟨ad786, e786, hx786_0, hx786_1, hx786_2, hx786_3, hx786_4⟩ := at_T37 (Kd.R_reads' HO_15.out).2.2 x17_2 p786 q786
                     obtain rfl : ad782 = ad786 := (by injection e786)
                     replace p786 := eq_true p786
                     replace q786 := eq_true q786
                     go_wp2
                     repeat (go_quiet (fail); try go_wp2)
                     go_roundg k2
                     case measure => have := HJ4.out; have := HK2.out; omega
                     case rel => exact ⟨(wrap64 (x17_2 + 1)), (by first | rfl | (simp; done) | (simp [*]; done)), H', ⟨by have := HJ4.out; have := HK2.out; omega⟩, ⟨by (with_reducible repeat (first | apply Kd.R_alloc | apply Kd.R_drewN | apply Kd.R_drew)); exact HO_11.out⟩, ⟨by (with_reducible repeat (first | apply Kd.R_alloc | apply Kd.R_drewN | apply Kd.R_drew)); exact HO_13.out⟩, ⟨by (with_reducible repeat (first | apply Kd.R_alloc | apply Kd.R_drewN | apply Kd.R_drew)); exact HO_15.out⟩, ⟨by repeat (first | (with_reducible first | exact HB.out | apply below_alloc | apply pw_below_drewN | apply below_drew1) | exact HB.out)⟩⟩
                    ·rw [if_neg c35] at H
                     exact absurd H (by simp)
                   ·rw [if_neg c34] at H
                    exact absurd H (by simp)
                  ·rw [if_neg c33] at H
                   exact absurd H (by simp)
                 ·rw [if_neg c32] at H
                  exact absurd H (by simp)
               ·rw [if_neg c30] at H
                exact absurd H (by simp)
              ·rw [if_neg c29] at H
               exact absurd H (by simp)
             ·rw [if_neg c28] at H
              exact absurd H (by simp)
            ·rw [if_neg c27] at H
             have c27b0 : decide (x17_2 < (l2.length : Int)) = false := decide_eq_false c27
             clear c27
             by_cases c36 : t595 = true
             ·subst c36
              rw [if_pos rfl] at H
              by_cases c37 : (l2.length : Int) > 1
              ·rw [if_pos c37] at H
               have c37b0 : decide (1 < (l2.length : Int)) = true := decide_eq_true c37
               have c37b1 : decide (1 < l2.length) = true := decide_eq_true (by omega)
               clear c37
               obtain rfl := Option.some.inj H
               go_wp2
               repeat (go_quiet (fail); try go_wp2)
               go_ret
               exact ⟨by rfl, by repeat (first | (with_reducible first | exact HB.out | apply below_alloc | apply pw_below_drewN | apply below_drew1) | exact HB.out)⟩
              ·rw [if_neg c37] at H
               have c37b0 : decide (1 < (l2.length : Int)) = false := decide_eq_false c37
               have c37b1 : decide (1 < l2.length) = false := decide_eq_false (by omega)
               clear c37
               by_cases c38 : 0 < (t741.length : Int)
               ·rw [if_pos c38] at H
                have c38b0 : decide (0 < (t741.length : Int)) = true := decide_eq_true c38
                have c38b1 : decide (0 < t741.length) = true := decide_eq_true (by omega)
                clear c38
                by_cases c39 : 0 < (t745.length : Int)
                ·rw [if_pos c39] at H
                 have c39b0 : decide (0 < (t745.length : Int)) = true := decide_eq_true c39
                 have c39b1 : decide (0 < t745.length) = true := decide_eq_true (by omega)
                 clear c39
                 obtain rfl := Option.some.inj H
                 have p787 : 0 ≤ (0 : Int) := (by omega)
                 have q787 : 0 < (t741.length : Int) := of_decide_eq_true (by first | (with_reducible assumption) | assumption)
                 obtain ⟨ad787, e787, hx787_0, hx787_1, hx787_2, hx787_3, hx787_4⟩ := at_T37 (Kd.R_reads' HO_11.out).2.2 0 p787 q787
                 cases e787
                 have qi787 : (0 < t741.length) = True := eq_true (by omega)
                 (try rw [show ((0 : Int)).toNat = 0 from rfl] at hx787_0)
                 (try rw [show 0 * 5 = 0 from rfl] at hx787_0)
                 (try rw [Addr.add_zero'] at hx787_0)
                 (try rw [show ((0 : Int)).toNat = 0 from rfl] at hx787_1)
                 (try rw [show 0 * 5 = 0 from rfl] at hx787_1)
                 (try rw [Addr.add_zero'] at hx787_1)
                 (try rw [show ((0 : Int)).toNat = 0 from rfl] at hx787_2)
                 (try rw [show 0 * 5 = 0 from rfl] at hx787_2)
                 (try rw [Addr.add_zero'] at hx787_2)
                 (try rw [show ((0 : Int)).toNat = 0 from rfl] at hx787_3)
                 (try rw [show 0 * 5 = 0 from rfl] at hx787_3)
                 (try rw [Addr.add_zero'] at hx787_3)
                 (try rw [show ((0 : Int)).toNat = 0 from rfl] at hx787_4)
                 (try rw [show 0 * 5 = 0 from rfl] at hx787_4)
                 (try rw [Addr.add_zero'] at hx787_4)
                 replace p787 := eq_true p787
                 replace q787 := eq_true q787
                 have p788 : 0 ≤ (0 : Int) := (by omega)
                 have q788 : 0 < (t745.length : Int) := of_decide_eq_true (by first | (with_reducible assumption) | assumption)
                 obtain ⟨ad788, e788, hx788_0, hx788_1, hx788_2, hx788_3, hx788_4⟩ := at_T37 (Kd.R_reads' HO_13.out).2.2 0 p788 q788
                 cases e788
                 have qi788 : (0 < t745.length) = True := eq_true (by omega)
                 (try rw [show ((0 : Int)).toNat = 0 from rfl] at hx788_0)
                 (try rw [show 0 * 5 = 0 from rfl] at hx788_0)
                 (try rw [Addr.add_zero'] at hx788_0)
                 (try rw [show ((0 : Int)).toNat = 0 from rfl] at hx788_1)
                 (try rw [show 0 * 5 = 0 from rfl] at hx788_1)
                 (try rw [Addr.add_zero'] at hx788_1)
                 (try rw [show ((0 : Int)).toNat = 0 from rfl] at hx788_2)
                 (try rw [show 0 * 5 = 0 from rfl] at hx788_2)
                 (try rw [Addr.add_zero'] at hx788_2)
                 (try rw [show ((0 : Int)).toNat = 0 from rfl] at hx788_3)
                 (try rw [show 0 * 5 = 0 from rfl] at hx788_3)
                 (try rw [Addr.add_zero'] at hx788_3)
                 (try rw [show ((0 : Int)).toNat = 0 from rfl] at hx788_4)
                 (try rw [show 0 * 5 = 0 from rfl] at hx788_4)
                 (try rw [Addr.add_zero'] at hx788_4)
                 replace p788 := eq_true p788
                 replace q788 := eq_true q788
                 go_wp2
                 repeat (go_quiet (fail); try go_wp2)
                 go_ret
                 exact ⟨by rfl, by repeat (first | (with_reducible first | exact HB.out | apply below_alloc | apply pw_below_drewN | apply below_drew1) | exact HB.out)⟩
                ·rw [if_neg c39] at H
                 exact absurd H (by simp)
               ·rw [if_neg c38] at H
                exact absurd H (by simp)
             ·replace c36 := Bool.eq_false_iff.mpr c36
              subst c36
              rw [if_neg (show ¬ (false = true) by decide)] at H
              exact absurd H (by simp)
         ·rw [if_neg c20] at H
          exact absurd H (by simp)
        ·rw [if_neg c19] at H
         exact absurd H (by simp)
       ·rw [if_neg c18] at H
        exact absurd H (by simp)
      ·rw [if_neg c17] at H
       exact absurd H (by simp)
     ·rw [if_neg c16] at H
      exact absurd H (by simp)
    ·rw [if_neg c15] at H
     exact absurd H (by simp)

end Go.Proofs.Ytlppmfffdjfekaa.X
