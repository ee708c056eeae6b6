-- CUT by prune.py, a program of this session, to what the claim reaches (out of a text that the kit's printer, the session's programs or the session wrote)
import Derived.Test.YtlppmfffdjfekaaPPlainTwiceX0
import Derived.Test.YtlppmfffdjfekaaPPlainTwiceXUsual
import Derived.Test.YtlppmfffdjfekaaPPlainTwiceXShown
import Derived.Test.YtlppmfffdjfekaaPPlainTwiceHPlain
namespace Go.Proofs.Ytlppmfffdjfekaa.X
open Go.RowKit Go.Proofs.YtlppmfffdjfekaaW.PrintWords Go.Proofs.YtlppmfffdjfekaaW.PrintLast Go.Proofs.YtlppmfffdjfekaaW.PrintMore
set_option linter.unusedVariables false
set_option linter.unusedSimpArgs false

mutual
def demurragelaw19_PlainTwice.j0 : Nat → Int → Int → List (S42) → Bool → Int → Bool → Option (Bool)
 | 0, _, _, _, _, _, _ => none
 | k + 1, x0, x1, x2, x7, x8, x31 => if x31 = true then (some x7) else ((plain_Bullet.f k (wrap64 (Int.tmod x0 100000000000000)) (wrap64 (2 * (Int.tmod (wrap64 (x1)) 4501))) x2).bind fun bt875 => ((plain_Bullet.f k (wrap64 (2 * (wrap64 (Int.tmod x0 100000000000000)))) (Int.tmod (wrap64 (x1)) 4501) x2).bind fun bt879 => (if x8 = 0 then (none) else ((plain_Equal.f k (wrap64 ((wrap64 (Int.tdiv (wrap64 (Int.tmod x0 100000000000000)) x8)) * x8)) (Int.tmod (wrap64 (x1)) 4501) x2).bind fun bt883 => (if bt875.2 = 0 then (if bt879.2 = 0 then (if bt883.2 = 0 then (if (bt875.1.length : Int) = x8 then (if (bt879.1.length : Int) = x8 then (if (bt883.1.length : Int) = x8 then (demurragelaw19_PlainTwice.l0 k x7 x8 (wrap64 (Int.tmod x0 100000000000000)) bt875.1 bt879.1 bt883.1 0) else (none)) else (none)) else (none)) else (none)) else (none)) else (none))))))
def demurragelaw19_PlainTwice.l0 : Nat → Bool → Int → Int → List (S37) → List (S37) → List (S37) → Int → Option (Bool)
 | 0, _, _, _, _, _, _, _ => none
 | k + 1, x7, x8, x9, x11, x13, x15, x17 => if x17 < x8 then (if 0 ≤ x17 then (if x17 < (x11.length : Int) then (if x17 < (x13.length : Int) then (if ((rd_T37 x11 x17).f1) = ((rd_T37 x13 x17).f1) then (if x17 < (x15.length : Int) then (if x8 = 0 then (none) else (if ((rd_T37 x15 x17).f2) = (wrap64 (Int.tdiv x9 x8)) then (if ((rd_T37 x15 x17).f0) = (wrap64 ((wrap64 (Int.tdiv x9 x8)) * (wrap64 (x8 - x17)))) then (demurragelaw19_PlainTwice.l0 k x7 x8 x9 x11 x13 x15 (wrap64 (x17 + 1))) else (none)) else (none))) else (none)) else (none)) else (none)) else (none)) else (none)) else (some x7)
end
def demurragelaw19_PlainTwice.f (k : Nat) (a0 : Int) (a1 : Int) (l2 : List (S42)) : Option (Bool) := (demurragelaw19_shown.f k).bind fun t789 => (if (l2.length : Int) < 1 then (demurragelaw19_PlainTwice.j0 k a0 a1 l2 t789 (l2.length : Int) true) else (if (l2.length : Int) > 30 then (demurragelaw19_PlainTwice.j0 k a0 a1 l2 t789 (l2.length : Int) true) else ((demurrageref18_Usual.f k l2).bind fun t790 => (demurragelaw19_PlainTwice.j0 k a0 a1 l2 t789 (l2.length : Int) (!t790)))))
set_option maxHeartbeats 8000000 in
set_option maxRecDepth 100000 in
theorem demurragelaw19_PlainTwice.calls (k : Nat) (a0 : Int) (a1 : Int) (A2 : Option Addr) (c2 : Nat) (l2 : List (S42)) (r : Bool) (w : World) (hr2 : Kd.C k42 w A2 l2.length l2) (hc2 : l2.length ≤ c2) (h : demurragelaw19_PlainTwice.f k a0 a1 l2 = some r) :
  Calls Try.prog 6 #[.int .u64 a0, .int .u16 a1, .slice A2 l2.length c2] w fun e w' => e = .returned (.bool r) ∧ Below w.heap.size w w' := by
 have HR2 := Aside0.mk hr2
 have HC2 := Aside0.mk hc2
 clear hr2 hc2
 have HB := Aside0.mk (Below.refl w.heap.size w)
 have H : ((demurragelaw19_shown.f k).bind fun t789 => (if (l2.length : Int) < 1 then (demurragelaw19_PlainTwice.j0 k a0 a1 l2 t789 (l2.length : Int) true) else (if (l2.length : Int) > 30 then (demurragelaw19_PlainTwice.j0 k a0 a1 l2 t789 (l2.length : Int) true) else ((demurrageref18_Usual.f k l2).bind fun t790 => (demurragelaw19_PlainTwice.j0 k a0 a1 l2 t789 (l2.length : Int) (!t790)))))) = some r := h
 clear h
 replace H := Option.bind_eq_some_iff.mp H
 obtain ⟨t789, A40, H⟩ := H
 (try dsimp only at H)
 have A4 := Aside0.mk A40
 clear A40
 have HC5 := Aside0.mk H
 clear H
 go_enter Try.func6, Try.ntmps6
 go_upto_region 3 with (first | (go_at_call 8; (with_reducible refine (demurragelaw19_shown.calls k  t789 _ A4.out).mono ?_); rintro e w6 ⟨rfl, hb⟩; replace HB := Aside0.mk (below_step (by repeat (first | (with_reducible first | exact HB.out | apply below_alloc | apply pw_below_drewN | apply below_drew1) | exact HB.out)) hb); (try clear hb)))
 repeat (go_quiet (first | (go_at_call 8; (with_reducible refine (demurragelaw19_shown.calls k  t789 _ A4.out).mono ?_); rintro e w6 ⟨rfl, hb⟩; replace HB := Aside0.mk (below_step (by repeat (first | (with_reducible first | exact HB.out | apply below_alloc | apply pw_below_drewN | apply below_drew1) | exact HB.out)) hb); (try clear hb))); go_upto_region 3 with (first | (go_at_call 8; (with_reducible refine (demurragelaw19_shown.calls k  t789 _ A4.out).mono ?_); rintro e w6 ⟨rfl, hb⟩; replace HB := Aside0.mk (below_step (by repeat (first | (with_reducible first | exact HB.out | apply below_alloc | apply pw_below_drewN | apply below_drew1) | exact HB.out)) hb); (try clear hb))))
 (try simp only [Act.put, List.setIfInBounds_toArray, List.set_cons_zero, List.set_cons_succ])
 go_cut [31] (fun v31 wc => ∃ (kq : Nat) (x31_4 : Bool), v31 = .bool x31_4 ∧ Aside0 (demurragelaw19_PlainTwice.j0 kq a0 a1 l2 t789 (l2.length : Int) x31_4 = some r) ∧ Aside0 (kq ≤ k) ∧ Aside0 (Below w.heap.size w wc))
 case first =>
  have H := HC5.out
  clear HC5
  by_cases c7 : (l2.length : Int) < 1
  ·rw [if_pos c7] at H
   have c7b0 : decide ((l2.length : Int) < 1) = true := decide_eq_true c7
   have c7b1 : decide (l2.length < 1) = true := decide_eq_true (by omega)
   clear c7
   (first | rw [c7b0] | (simp only [i64_w, i32_w]; rw [c7b0]) | rw [c7b1] | skip)
   have H' := Aside0.mk H
   clear H
   go_wp2
   repeat (go_quiet (fail); try go_wp2)
   go_meet
   case rel => exact ⟨_, _, (by first | rfl | (simp; done) | (simp [*]; done)), H', ⟨by first | omega | exact Nat.le_refl _⟩, ⟨by repeat (first | (with_reducible first | exact HB.out | apply below_alloc | apply pw_below_drewN | apply below_drew1) | exact HB.out)⟩⟩
  ·rw [if_neg c7] at H
   have c7b0 : decide ((l2.length : Int) < 1) = false := decide_eq_false c7
   have c7b1 : decide (l2.length < 1) = false := decide_eq_false (by omega)
   clear c7
   (first | rw [c7b0] | (simp only [i64_w, i32_w]; rw [c7b0]) | rw [c7b1] | skip)
   by_cases c8 : (l2.length : Int) > 30
   ·rw [if_pos c8] at H
    have c8b0 : decide (30 < (l2.length : Int)) = true := decide_eq_true c8
    have c8b1 : decide (30 < l2.length) = true := decide_eq_true (by omega)
    clear c8
    have H' := Aside0.mk H
    clear H
    go_wp2
    repeat (go_quiet (fail); try go_wp2)
    go_meet
    case rel => exact ⟨_, _, (by first | rfl | (simp; done) | (simp [*]; done)), H', ⟨by first | omega | exact Nat.le_refl _⟩, ⟨by repeat (first | (with_reducible first | exact HB.out | apply below_alloc | apply pw_below_drewN | apply below_drew1) | exact HB.out)⟩⟩
   ·rw [if_neg c8] at H
    have c8b0 : decide (30 < (l2.length : Int)) = false := decide_eq_false c8
    have c8b1 : decide (30 < l2.length) = false := decide_eq_false (by omega)
    clear c8
    replace H := Option.bind_eq_some_iff.mp H
    obtain ⟨t790, A90, H⟩ := H
    (try dsimp only at H)
    have A9 := Aside0.mk A90
    clear A90
    have H' := Aside0.mk H
    clear H
    go_wp2_with (first | (go_at_call 14; (with_reducible refine (demurrageref18_Usual.calls k _ _ l2 t790 _ ?side1 ?side2 A9.out).mono ?_); (case side1 => repeat (first | exact (Kd.C_below HR2.out HB.out) | (with_reducible refine Kd.C_alloc ?_ _) | (with_reducible refine Kd.C_drewN ?_ _) | (with_reducible refine Kd.C_drew ?_))); (case side2 => exact HC2.out); rintro e w10 ⟨rfl, hb⟩; replace HB := Aside0.mk (below_step (by repeat (first | (with_reducible first | exact HB.out | apply below_alloc | apply pw_below_drewN | apply below_drew1) | exact HB.out)) hb); (try clear hb)))
    repeat (go_quiet (first | (go_at_call 14; (with_reducible refine (demurrageref18_Usual.calls k _ _ l2 t790 _ ?side1 ?side2 A9.out).mono ?_); (case side1 => repeat (first | exact (Kd.C_below HR2.out HB.out) | (with_reducible refine Kd.C_alloc ?_ _) | (with_reducible refine Kd.C_drewN ?_ _) | (with_reducible refine Kd.C_drew ?_))); (case side2 => exact HC2.out); rintro e w10 ⟨rfl, hb⟩; replace HB := Aside0.mk (below_step (by repeat (first | (with_reducible first | exact HB.out | apply below_alloc | apply pw_below_drewN | apply below_drew1) | exact HB.out)) hb); (try clear hb))); try go_wp2_with (first | (go_at_call 14; (with_reducible refine (demurrageref18_Usual.calls k _ _ l2 t790 _ ?side1 ?side2 A9.out).mono ?_); (case side1 => repeat (first | exact (Kd.C_below HR2.out HB.out) | (with_reducible refine Kd.C_alloc ?_ _) | (with_reducible refine Kd.C_drewN ?_ _) | (with_reducible refine Kd.C_drew ?_))); (case side2 => exact HC2.out); rintro e w10 ⟨rfl, hb⟩; replace HB := Aside0.mk (below_step (by repeat (first | (with_reducible first | exact HB.out | apply below_alloc | apply pw_below_drewN | apply below_drew1) | exact HB.out)) hb); (try clear hb))))
    go_meet
    case rel => exact ⟨_, _, (by first | rfl | (simp; done) | (simp [*]; done)), H', ⟨by first | omega | exact Nat.le_refl _⟩, ⟨by repeat (first | (with_reducible first | exact HB.out | apply below_alloc | apply pw_below_drewN | apply below_drew1) | exact HB.out)⟩⟩
 case rest =>
  clear HC5
  try clear c2
  try clear p2
  try clear c6
  try clear c7
  try clear c7b0
  try clear c7b1
  try clear c8
  try clear c8b0
  try clear c8b1
  obtain ⟨kq, x31_4, rfl, HA, HJ4, HB⟩ := hcut
  cases kq with
  | zero => exact absurd HA.out (by simp [demurragelaw19_PlainTwice.j0])
  | succ kj4 =>
   have H := HA.out
   clear HA
   simp only [demurragelaw19_PlainTwice.j0] at H
   by_cases c11 : x31_4 = true
   ·subst c11
    rw [if_pos rfl] at H
    obtain rfl := Option.some.inj H
    go_wp2
    repeat (go_quiet (fail); try go_wp2)
    go_ret
    exact ⟨by rfl, by repeat (first | (with_reducible first | exact HB.out | apply below_alloc | apply pw_below_drewN | apply below_drew1) | exact HB.out)⟩
   ·replace c11 := Bool.eq_false_iff.mpr c11
    subst c11
    rw [if_neg (show ¬ (false = true) by decide)] at H
    replace H := Option.bind_eq_some_iff.mp H
    obtain ⟨⟨t875, t876⟩, A120, H⟩ := H
    (try dsimp only at H)
    have A12 := Aside0.mk A120
    clear A120
    replace H := Option.bind_eq_some_iff.mp H
    obtain ⟨⟨t879, t880⟩, A130, H⟩ := H
    (try dsimp only at H)
    have A13 := Aside0.mk A130
    clear A130
    by_cases c14 : (l2.length : Int) = 0
    ·rw [if_pos c14] at H
     exact absurd H (by simp)
    ·rw [if_neg c14] at H
     have c14b0 : ((l2.length : Int) == 0) = false := beq_eq_false_iff_ne.mpr c14
     have c14b1 : ((l2.length : Int) != 0) = true := bne_iff_ne.mpr c14
     have c14b2 : ¬ (l2 = []) := fun h_ => c14 (by rw [h_]; rfl)
     replace H := Option.bind_eq_some_iff.mp H
     obtain ⟨⟨t883, t884⟩, A150, H⟩ := H
     (try dsimp only at H)
     have A15 := Aside0.mk A150
     clear A150
     by_cases c16 : t876 = 0
     ·rw [if_pos c16] at H
      have c16b0 : (t876 == 0) = true := beq_iff_eq.mpr c16
      have c16b1 : (t876 != 0) = false := bne_eq_false_iff_eq.mpr c16
      clear c16
      by_cases c17 : t880 = 0
      ·rw [if_pos c17] at H
       have c17b0 : (t880 == 0) = true := beq_iff_eq.mpr c17
       have c17b1 : (t880 != 0) = false := bne_eq_false_iff_eq.mpr c17
       clear c17
       by_cases c18 : t884 = 0
       ·rw [if_pos c18] at H
        have c18b0 : (t884 == 0) = true := beq_iff_eq.mpr c18
        have c18b1 : (t884 != 0) = false := bne_eq_false_iff_eq.mpr c18
        clear c18
        by_cases c19 : (t875.length : Int) = (l2.length : Int)
        ·rw [if_pos c19] at H
         have c19b0 : ((t875.length : Int) == (l2.length : Int)) = true := beq_iff_eq.mpr c19
         have c19b1 : ((t875.length : Int) != (l2.length : Int)) = false := bne_eq_false_iff_eq.mpr c19
         have c19b2 : (t875.length == l2.length) = true := by first | simpa using c19 | (simp at c19 ⊢; omega)
         clear c19
         by_cases c20 : (t879.length : Int) = (l2.length : Int)
         ·rw [if_pos c20] at H
          have c20b0 : ((t879.length : Int) == (l2.length : Int)) = true := beq_iff_eq.mpr c20
          have c20b1 : ((t879.length : Int) != (l2.length : Int)) = false := bne_eq_false_iff_eq.mpr c20
          have c20b2 : (t879.length == l2.length) = true := by first | simpa using c20 | (simp at c20 ⊢; omega)
          clear c20
          by_cases c21 : (t883.length : Int) = (l2.length : Int)
          ·rw [if_pos c21] at H
           have c21b0 : ((t883.length : Int) == (l2.length : Int)) = true := beq_iff_eq.mpr c21
           have c21b1 : ((t883.length : Int) != (l2.length : Int)) = false := bne_eq_false_iff_eq.mpr c21
           have c21b2 : (t883.length == l2.length) = true := by first | simpa using c21 | (simp at c21 ⊢; omega)
           clear c21
           have H' := Aside0.mk H
           clear H
           go_wp2_with (first | (go_at_call 9; (with_reducible refine (plain_Bullet.calls kj4 (wrap64 (Int.tmod a0 100000000000000)) (wrap64 (2 * (Int.tmod (wrap64 (a1)) 4501))) _ _ l2 t875 t876 _ ?side1 ?side2 A12.out).mono ?_); (case side1 => repeat (first | exact (Kd.C_below HR2.out HB.out) | (with_reducible refine Kd.C_alloc ?_ _) | (with_reducible refine Kd.C_drewN ?_ _) | (with_reducible refine Kd.C_drew ?_))); (case side2 => exact HC2.out); rintro e w22 ⟨v877, rfl, ho0, hb⟩; have HO878 := Aside0.mk (Kd.R_lower ho0 (below_size (by repeat (first | (with_reducible first | exact HB.out | apply below_alloc | apply pw_below_drewN | apply below_drew1) | exact HB.out)))); replace HB := Aside0.mk (below_step (by repeat (first | (with_reducible first | exact HB.out | apply below_alloc | apply pw_below_drewN | apply below_drew1) | exact HB.out)) hb); (try clear hb); (try clear ho0)) | (go_at_call 9; (with_reducible refine (plain_Bullet.calls kj4 (wrap64 (2 * (wrap64 (Int.tmod a0 100000000000000)))) (Int.tmod (wrap64 (a1)) 4501) _ _ l2 t879 t880 _ ?side1 ?side2 A13.out).mono ?_); (case side1 => repeat (first | exact (Kd.C_below HR2.out HB.out) | (with_reducible refine Kd.C_alloc ?_ _) | (with_reducible refine Kd.C_drewN ?_ _) | (with_reducible refine Kd.C_drew ?_))); (case side2 => exact HC2.out); rintro e w23 ⟨v881, rfl, ho0, hb⟩; have HO882 := Aside0.mk (Kd.R_lower (Kd.R_new' ho0 (Kd.R_lt HO878.out)) (below_size (by repeat (first | (with_reducible first | exact HB.out | apply below_alloc | apply pw_below_drewN | apply below_drew1) | exact HB.out)))); replace HO878 := Aside0.mk (Kd.R_elder' HO878.out (Kd.R_base ho0) hb); replace HB := Aside0.mk (below_step (by repeat (first | (with_reducible first | exact HB.out | apply below_alloc | apply pw_below_drewN | apply below_drew1) | exact HB.out)) hb); (try clear hb); (try clear ho0)) | (go_at_call 11; (with_reducible refine (plain_Equal.calls kj4 (wrap64 ((wrap64 (Int.tdiv (wrap64 (Int.tmod a0 100000000000000)) (l2.length : Int))) * (l2.length : Int))) (Int.tmod (wrap64 (a1)) 4501) _ _ l2 t883 t884 _ ?side1 ?side2 A15.out).mono ?_); (case side1 => repeat (first | exact (Kd.C_below HR2.out HB.out) | (with_reducible refine Kd.C_alloc ?_ _) | (with_reducible refine Kd.C_drewN ?_ _) | (with_reducible refine Kd.C_drew ?_))); (case side2 => exact HC2.out); rintro e w24 ⟨v885, rfl, ho0, hb⟩; have HO886 := Aside0.mk (Kd.R_lower (Kd.R_new' (Kd.R_new' ho0 (Kd.R_lt HO878.out)) (Kd.R_lt HO882.out)) (below_size (by repeat (first | (with_reducible first | exact HB.out | apply below_alloc | apply pw_below_drewN | apply below_drew1) | exact HB.out)))); replace HO878 := Aside0.mk (Kd.R_elder' HO878.out (Kd.R_base ho0) hb); replace HO882 := Aside0.mk (Kd.R_elder' HO882.out (Kd.R_base ho0) hb); replace HB := Aside0.mk (below_step (by repeat (first | (with_reducible first | exact HB.out | apply below_alloc | apply pw_below_drewN | apply below_drew1) | exact HB.out)) hb); (try clear hb); (try clear ho0); obtain ⟨Ao25, co25, eo25⟩ := Kd.R_slice HO878.out; subst eo25; obtain ⟨Ao26, co26, eo26⟩ := Kd.R_slice HO882.out; subst eo26; obtain ⟨Ao27, co27, eo27⟩ := Kd.R_slice HO886.out; subst eo27))
           repeat (go_quiet (first | (go_at_call 9; (with_reducible refine (plain_Bullet.calls kj4 (wrap64 (Int.tmod a0 100000000000000)) (wrap64 (2 * (Int.tmod (wrap64 (a1)) 4501))) _ _ l2 t875 t876 _ ?side1 ?side2 A12.out).mono ?_); (case side1 => repeat (first | exact (Kd.C_below HR2.out HB.out) | (with_reducible refine Kd.C_alloc ?_ _) | (with_reducible refine Kd.C_drewN ?_ _) | (with_reducible refine Kd.C_drew ?_))); (case side2 => exact HC2.out); rintro e w22 ⟨v877, rfl, ho0, hb⟩; have HO878 := Aside0.mk (Kd.R_lower ho0 (below_size (by repeat (first | (with_reducible first | exact HB.out | apply below_alloc | apply pw_below_drewN | apply below_drew1) | exact HB.out)))); replace HB := Aside0.mk (below_step (by repeat (first | (with_reducible first | exact HB.out | apply below_alloc | apply pw_below_drewN | apply below_drew1) | exact HB.out)) hb); (try clear hb); (try clear ho0)) | (go_at_call 9; (with_reducible refine (plain_Bullet.calls kj4 (wrap64 (2 * (wrap64 (Int.tmod a0 100000000000000)))) (Int.tmod (wrap64 (a1)) 4501) _ _ l2 t879 t880 _ ?side1 ?side2 A13.out).mono ?_); (case side1 => repeat (first | exact (Kd.C_below HR2.out HB.out) | (with_reducible refine Kd.C_alloc ?_ _) | (with_reducible refine Kd.C_drewN ?_ _) | (with_reducible refine Kd.C_drew ?_))); (case side2 => exact HC2.out); rintro e w23 ⟨v881, rfl, ho0, hb⟩; have HO882 := Aside0.mk (Kd.R_lower (Kd.R_new' ho0 (Kd.R_lt HO878.out)) (below_size (by repeat (first | (with_reducible first | exact HB.out | apply below_alloc | apply pw_below_drewN | apply below_drew1) | exact HB.out)))); replace HO878 := Aside0.mk (Kd.R_elder' HO878.out (Kd.R_base ho0) hb); replace HB := Aside0.mk (below_step (by repeat (first | (with_reducible first | exact HB.out | apply below_alloc | apply pw_below_drewN | apply below_drew1) | exact HB.out)) hb); (try clear hb); (try clear ho0)) | (go_at_call 11; (with_reducible refine (plain_Equal.calls kj4 (wrap64 ((wrap64 (Int.tdiv (wrap64 (Int.tmod a0 100000000000000)) (l2.length : Int))) * (l2.length : Int))) (Int.tmod (wrap64 (a1)) 4501) _ _ l2 t883 t884 _ ?side1 ?side2 A15.out).mono ?_); (case side1 => repeat (first | exact (Kd.C_below HR2.out HB.out) | (with_reducible refine Kd.C_alloc ?_ _) | (with_reducible refine Kd.C_drewN ?_ _) | (with_reducible refine Kd.C_drew ?_))); (case side2 => exact HC2.out); rintro e w24 ⟨v885, rfl, ho0, hb⟩; have HO886 := Aside0.mk (Kd.R_lower (Kd.R_new' (Kd.R_new' ho0 (Kd.R_lt HO878.out)) (Kd.R_lt HO882.out)) (below_size (by repeat (first | (with_reducible first | exact HB.out | apply below_alloc | apply pw_below_drewN | apply below_drew1) | exact HB.out)))); replace HO878 := Aside0.mk (Kd.R_elder' HO878.out (Kd.R_base ho0) hb); replace HO882 := Aside0.mk (Kd.R_elder' HO882.out (Kd.R_base ho0) hb); replace HB := Aside0.mk (below_step (by repeat (first | (with_reducible first | exact HB.out | apply below_alloc | apply pw_below_drewN | apply below_drew1) | exact HB.out)) hb); (try clear hb); (try clear ho0); obtain ⟨Ao25, co25, eo25⟩ := Kd.R_slice HO878.out; subst eo25; obtain ⟨Ao26, co26, eo26⟩ := Kd.R_slice HO882.out; subst eo26; obtain ⟨Ao27, co27, eo27⟩ := Kd.R_slice HO886.out; subst eo27)); try go_wp2_with (first | (go_at_call 9; (with_reducible refine (plain_Bullet.calls kj4 (wrap64 (Int.tmod a0 100000000000000)) (wrap64 (2 * (Int.tmod (wrap64 (a1)) 4501))) _ _ l2 t875 t876 _ ?side1 ?side2 A12.out).mono ?_); (case side1 => repeat (first | exact (Kd.C_below HR2.out HB.out) | (with_reducible refine Kd.C_alloc ?_ _) | (with_reducible refine Kd.C_drewN ?_ _) | (with_reducible refine Kd.C_drew ?_))); (case side2 => exact HC2.out); rintro e w22 ⟨v877, rfl, ho0, hb⟩; have HO878 := Aside0.mk (Kd.R_lower ho0 (below_size (by repeat (first | (with_reducible first | exact HB.out | apply below_alloc | apply pw_below_drewN | apply below_drew1) | exact HB.out)))); replace HB := Aside0.mk (below_step (by repeat (first | (with_reducible first | exact HB.out | apply below_alloc | apply pw_below_drewN | apply below_drew1) | exact HB.out)) hb); (try clear hb); (try clear ho0)) | (go_at_call 9; (with_reducible refine (plain_Bullet.calls kj4 (wrap64 (2 * (wrap64 (Int.tmod a0 100000000000000)))) (Int.tmod (wrap64 (a1)) 4501) _ _ l2 t879 t880 _ ?side1 ?side2 A13.out).mono ?_); (case side1 => repeat (first | exact (Kd.C_below HR2.out HB.out) | (with_reducible refine Kd.C_alloc ?_ _) | (with_reducible refine Kd.C_drewN ?_ _) | (with_reducible refine Kd.C_drew ?_))); (case side2 => exact HC2.out); rintro e w23 ⟨v881, rfl, ho0, hb⟩; have HO882 := Aside0.mk (Kd.R_lower (Kd.R_new' ho0 (Kd.R_lt HO878.out)) (below_size (by repeat (first | (with_reducible first | exact HB.out | apply below_alloc | apply pw_below_drewN | apply below_drew1) | exact HB.out)))); replace HO878 := Aside0.mk (Kd.R_elder' HO878.out (Kd.R_base ho0) hb); replace HB := Aside0.mk (below_step (by repeat (first | (with_reducible first | exact HB.out | apply below_alloc | apply pw_below_drewN | apply below_drew1) | exact HB.out)) hb); (try clear hb); (try clear ho0)) | (go_at_call 11; (with_reducible refine (plain_Equal.calls kj4 (wrap64 ((wrap64 (Int.tdiv (wrap64 (Int.tmod a0 100000000000000)) (l2.length : Int))) * (l2.length : Int))) (Int.tmod (wrap64 (a1)) 4501) _ _ l2 t883 t884 _ ?side1 ?side2 A15.out).mono ?_); (case side1 => repeat (first | exact (Kd.C_below HR2.out HB.out) | (with_reducible refine Kd.C_alloc ?_ _) | (with_reducible refine Kd.C_drewN ?_ _) | (with_reducible refine Kd.C_drew ?_))); (case side2 => exact HC2.out); rintro e w24 ⟨v885, rfl, ho0, hb⟩; have HO886 := Aside0.mk (Kd.R_lower (Kd.R_new' (Kd.R_new' ho0 (Kd.R_lt HO878.out)) (Kd.R_lt HO882.out)) (below_size (by repeat (first | (with_reducible first | exact HB.out | apply below_alloc | apply pw_below_drewN | apply below_drew1) | exact HB.out)))); replace HO878 := Aside0.mk (Kd.R_elder' HO878.out (Kd.R_base ho0) hb); replace HO882 := Aside0.mk (Kd.R_elder' HO882.out (Kd.R_base ho0) hb); replace HB := Aside0.mk (below_step (by repeat (first | (with_reducible first | exact HB.out | apply below_alloc | apply pw_below_drewN | apply below_drew1) | exact HB.out)) hb); (try clear hb); (try clear ho0); obtain ⟨Ao25, co25, eo25⟩ := Kd.R_slice HO878.out; subst eo25; obtain ⟨Ao26, co26, eo26⟩ := Kd.R_slice HO882.out; subst eo26; obtain ⟨Ao27, co27, eo27⟩ := Kd.R_slice HO886.out; subst eo27)))
           (try simp only [Act.put, List.setIfInBounds_toArray, List.set_cons_zero, List.set_cons_succ])
           go_loopg [17] kj4 (fun kq v17 w' => ∃ (x17_2 : Int), v17 = .int .i64 x17_2 ∧ Aside0 (demurragelaw19_PlainTwice.l0 kq t789 (l2.length : Int) (wrap64 (Int.tmod a0 100000000000000)) t875 t879 t883 x17_2 = some r) ∧ Aside0 (kq ≤ kj4) ∧ Aside0 (Kd.R k37 37 w' w.heap.size (fun k_ => some k_ ≠ ((.slice Ao26 t879.length co26) : Value).ownBlock ∧ some k_ ≠ ((.slice Ao27 t883.length co27) : Value).ownBlock) (.slice Ao25 t875.length co25) t875) ∧ Aside0 (Kd.R k37 37 w' w.heap.size (fun k_ => some k_ ≠ ((.slice Ao25 t875.length co25) : Value).ownBlock ∧ some k_ ≠ ((.slice Ao27 t883.length co27) : Value).ownBlock) (.slice Ao26 t879.length co26) t879) ∧ Aside0 (Kd.R k37 37 w' w.heap.size (fun k_ => some k_ ≠ ((.slice Ao25 t875.length co25) : Value).ownBlock ∧ some k_ ≠ ((.slice Ao26 t879.length co26) : Value).ownBlock) (.slice Ao27 t883.length co27) t883) ∧ Aside0 (Below w.heap.size w w'))
           case atStart => exact ⟨(0), (by first | rfl | (simp; done) | (simp [*]; done)), H', ⟨Nat.le_refl _⟩, ⟨by (with_reducible repeat (first | apply Kd.R_alloc | apply Kd.R_drewN | apply Kd.R_drew)); exact Kd.R_mono HO878.out (fun _ hk => (And.intro (hk.1.2) (hk.2)))⟩, ⟨by (with_reducible repeat (first | apply Kd.R_alloc | apply Kd.R_drewN | apply Kd.R_drew)); exact Kd.R_mono HO882.out (fun _ hk => (And.intro (hk.1.2) (hk.2)))⟩, ⟨by (with_reducible repeat (first | apply Kd.R_alloc | apply Kd.R_drewN | apply Kd.R_drew)); exact Kd.R_mono HO886.out (fun _ hk => (And.intro (hk.1.2) (hk.2)))⟩, ⟨by repeat (first | (with_reducible first | exact HB.out | apply below_alloc | apply pw_below_drewN | apply below_drew1) | exact HB.out)⟩⟩
           case round =>
            clear H'
            try clear c1
            try clear c2
            try clear p2
            try clear c6
            try clear p6
            try clear c7
            try clear c7b0
            try clear c7b1
            try clear c8
            try clear c8b0
            try clear c8b1
            try clear c11
            try clear c14
            try clear c14b0
            try clear c14b1
            try clear c14b2
            try clear c16
            try clear c16b0
            try clear c16b1
            try clear c17
            try clear c17b0
            try clear c17b1
            try clear c18
            try clear c18b0
            try clear c18b1
            try clear c19
            try clear c19b0
            try clear c19b1
            try clear c19b2
            try clear c20
            try clear c20b0
            try clear c20b1
            try clear c20b2
            try clear c21
            try clear c21b0
            try clear c21b1
            try clear c21b2
            try clear p2
            obtain ⟨x17_2, rfl, HA, HK2, HO_11, HO_13, HO_15, HB⟩ := hrel
            cases gk with
            | zero => exact absurd HA.out (by simp [demurragelaw19_PlainTwice.l0])
            | succ k2 =>
             have H := HA.out
             clear HA
             simp only [demurragelaw19_PlainTwice.l0] at H
             by_cases c28 : x17_2 < (l2.length : Int)
             ·rw [if_pos c28] at H
              have c28b0 : decide (x17_2 < (l2.length : Int)) = true := decide_eq_true c28
              clear c28
              by_cases c29 : 0 ≤ x17_2
              ·rw [if_pos c29] at H
               have c29b0 : decide (0 ≤ x17_2) = true := decide_eq_true c29
               clear c29
               by_cases c30 : x17_2 < (t875.length : Int)
               ·rw [if_pos c30] at H
                have c30b0 : decide (x17_2 < (t875.length : Int)) = true := decide_eq_true c30
                clear c30
                by_cases c31 : x17_2 < (t879.length : Int)
                ·rw [if_pos c31] at H
                 have c31b0 : decide (x17_2 < (t879.length : Int)) = true := decide_eq_true c31
                 clear c31
                 by_cases c32 : ((rd_T37 t875 x17_2).f1) = ((rd_T37 t879 x17_2).f1)
                 ·rw [if_pos c32] at H
                  have c32b0 : (((rd_T37 t875 x17_2).f1) == ((rd_T37 t879 x17_2).f1)) = true := beq_iff_eq.mpr c32
                  have c32b1 : (((rd_T37 t875 x17_2).f1) != ((rd_T37 t879 x17_2).f1)) = false := bne_eq_false_iff_eq.mpr c32
                  clear c32
                  by_cases c33 : x17_2 < (t883.length : Int)
                  ·rw [if_pos c33] at H
                   have c33b0 : decide (x17_2 < (t883.length : Int)) = true := decide_eq_true c33
                   clear c33
                   by_cases c34 : (l2.length : Int) = 0
                   ·rw [if_pos c34] at H
                    exact absurd H (by simp)
                   ·rw [if_neg c34] at H
                    have c34b0 : ((l2.length : Int) == 0) = false := beq_eq_false_iff_ne.mpr c34
                    have c34b1 : ((l2.length : Int) != 0) = true := bne_iff_ne.mpr c34
                    have c34b2 : ¬ (l2 = []) := fun h_ => c34 (by rw [h_]; rfl)
                    by_cases c35 : ((rd_T37 t883 x17_2).f2) = (wrap64 (Int.tdiv (wrap64 (Int.tmod a0 100000000000000)) (l2.length : Int)))
                    ·rw [if_pos c35] at H
                     have c35b0 : (((rd_T37 t883 x17_2).f2) == (wrap64 (Int.tdiv (wrap64 (Int.tmod a0 100000000000000)) (l2.length : Int)))) = true := beq_iff_eq.mpr c35
                     have c35b1 : (((rd_T37 t883 x17_2).f2) != (wrap64 (Int.tdiv (wrap64 (Int.tmod a0 100000000000000)) (l2.length : Int)))) = false := bne_eq_false_iff_eq.mpr c35
                     clear c35
                     by_cases c36 : ((rd_T37 t883 x17_2).f0) = (wrap64 ((wrap64 (Int.tdiv (wrap64 (Int.tmod a0 100000000000000)) (l2.length : Int))) * (wrap64 ((l2.length : Int) - x17_2))))
                     ·rw [if_pos c36] at H
                      have c36b0 : (((rd_T37 t883 x17_2).f0) == (wrap64 ((wrap64 (Int.tdiv (wrap64 (Int.tmod a0 100000000000000)) (l2.length : Int))) * (wrap64 ((l2.length : Int) - x17_2))))) = true := beq_iff_eq.mpr c36
                      have c36b1 : (((rd_T37 t883 x17_2).f0) != (wrap64 ((wrap64 (Int.tdiv (wrap64 (Int.tmod a0 100000000000000)) (l2.length : Int))) * (wrap64 ((l2.length : Int) - x17_2))))) = false := bne_eq_false_iff_eq.mpr c36
                      clear c36
                      have H' := Aside0.mk H
                      clear H
                      have p899 : 0 ≤ (x17_2 : Int) := of_decide_eq_true (by first | (with_reducible assumption) | assumption)
                      have q899 : x17_2 < (t875.length : Int) := of_decide_eq_true (by first | (with_reducible assumption) | assumption)
                      obtain ⟨ad899, e899, hx899_0, hx899_1, hx899_2, hx899_3, hx899_4⟩ := at_T37 (Kd.R_reads' HO_11.out).2.2 x17_2 p899 q899
                      cases e899
                      replace p899 := eq_true p899
                      replace q899 := eq_true q899
                      have p900 : 0 ≤ (x17_2 : Int) := of_decide_eq_true (by first | (with_reducible assumption) | assumption)
                      have q900 : x17_2 < (t879.length : Int) := of_decide_eq_true (by first | (with_reducible assumption) | assumption)
                      obtain ⟨ad900, e900, hx900_0, hx900_1, hx900_2, hx900_3, hx900_4⟩ := at_T37 (Kd.R_reads' HO_13.out).2.2 x17_2 p900 q900
                      cases e900
                      replace p900 := eq_true p900
                      replace q900 := eq_true q900
                      have p901 : 0 ≤ (x17_2 : Int) := of_decide_eq_true (by first | (with_reducible assumption) | assumption)
                      have q901 : x17_2 < (t883.length : Int) := of_decide_eq_true (by first | (with_reducible assumption) | assumption)
                      obtain ⟨ad901, e901, hx901_0, hx901_1, hx901_2, hx901_3, hx901_4⟩ := at_T37 (Kd.R_reads' HO_15.out).2.2 x17_2 p901 q901
                      cases e901
                      replace p901 := eq_true p901
                      replace q901 := eq_true q901
                      have p902 : 0 ≤ (x17_2 : Int) := of_decide_eq_true (by first | (with_reducible assumption) | assumption)
                      have q902 : x17_2 < (t883.length : Int) := of_decide_eq_true (by first | (with_reducible assumption) | assumption)
                      obtain ⟨ad902, e902, hx902_0, hx902_1, hx902_2, hx902_3, hx902_4⟩ := at_T37 (Kd.R_reads' HO_15.out).2.2 x17_2 p902 q902
                      obtain rfl : ad901 = ad902 := (by injection e902)
                      replace p902 := eq_true p902
                      replace q902 := eq_true q902
                      go_wp2
                      repeat (go_quiet (fail); try go_wp2)
                      go_roundg k2
                      case measure => have := HJ4.out; have := HK2.out; omega
                      case rel => exact ⟨(wrap64 (x17_2 + 1)), (by first | rfl | (simp; done) | (simp [*]; done)), H', ⟨by have := HJ4.out; have := HK2.out; omega⟩, ⟨by (with_reducible repeat (first | apply Kd.R_alloc | apply Kd.R_drewN | apply Kd.R_drew)); exact HO_11.out⟩, ⟨by (with_reducible repeat (first | apply Kd.R_alloc | apply Kd.R_drewN | apply Kd.R_drew)); exact HO_13.out⟩, ⟨by (with_reducible repeat (first | apply Kd.R_alloc | apply Kd.R_drewN | apply Kd.R_drew)); exact HO_15.out⟩, ⟨by repeat (first | (with_reducible first | exact HB.out | apply below_alloc | apply pw_below_drewN | apply below_drew1) | exact HB.out)⟩⟩
                     ·rw [if_neg c36] at H
                      exact absurd H (by simp)
                    ·rw [if_neg c35] at H
                     exact absurd H (by simp)
                  ·rw [if_neg c33] at H
                   exact absurd H (by simp)
                 ·rw [if_neg c32] at H
                  exact absurd H (by simp)
                ·rw [if_neg c31] at H
                 exact absurd H (by simp)
               ·rw [if_neg c30] at H
                exact absurd H (by simp)
              ·rw [if_neg c29] at H
               exact absurd H (by simp)
             ·rw [if_neg c28] at H
              have c28b0 : decide (x17_2 < (l2.length : Int)) = false := decide_eq_false c28
              clear c28
              obtain rfl := Option.some.inj H
              go_wp2
              repeat (go_quiet (fail); try go_wp2)
              go_ret
              exact ⟨by rfl, by repeat (first | (with_reducible first | exact HB.out | apply below_alloc | apply pw_below_drewN | apply below_drew1) | exact HB.out)⟩
          ·rw [if_neg c21] at H
           exact absurd H (by simp)
         ·rw [if_neg c20] at H
          exact absurd H (by simp)
        ·rw [if_neg c19] at H
         exact absurd H (by simp)
       ·rw [if_neg c18] at H
        exact absurd H (by simp)
      ·rw [if_neg c17] at H
       exact absurd H (by simp)
     ·rw [if_neg c16] at H
      exact absurd H (by simp)

end Go.Proofs.Ytlppmfffdjfekaa.X
