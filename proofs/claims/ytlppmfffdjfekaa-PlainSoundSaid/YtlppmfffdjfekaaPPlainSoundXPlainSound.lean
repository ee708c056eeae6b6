-- cut by prune.py, a program of this session
import Derived.Test.YtlppmfffdjfekaaPPlainSoundX0
import Derived.Test.YtlppmfffdjfekaaPPlainSoundXUsual
import Derived.Test.YtlppmfffdjfekaaPPlainSoundXSound
import Derived.Test.YtlppmfffdjfekaaPPlainSoundXShown
import Derived.Test.YtlppmfffdjfekaaPPlainSoundHPlain
namespace Go.Proofs.Ytlppmfffdjfekaa.X
open Go.RowKit Go.Proofs.YtlppmfffdjfekaaW.PrintWords Go.Proofs.YtlppmfffdjfekaaW.PrintLast Go.Proofs.YtlppmfffdjfekaaW.PrintMore
set_option linter.unusedVariables false
set_option linter.unusedSimpArgs false

mutual
def demurragelaw19_PlainSound.j0 : Nat → Int → Int → List (S42) → Bool → Bool → Option (Bool)
 | 0, _, _, _, _, _ => none
 | k + 1, x0, x1, x2, x7, x30 => if x30 = true then (some x7) else ((plain_Bullet.f k (wrap64 (Int.tmod x0 1000000000000001)) (Int.tmod (wrap64 (x1)) 9001) x2).bind fun bt545 => ((plain_Equal.f k (wrap64 (Int.tmod x0 1000000000000001)) (Int.tmod (wrap64 (x1)) 9001) x2).bind fun bt549 => (if bt545.2 = 0 then (if bt549.2 = 0 then ((demurrageref19_Sound.f k bt545.1 (wrap64 (Int.tmod x0 1000000000000001)) (Int.tmod (wrap64 (x1)) 9001) x2).bind fun t553 => (if t553 = true then ((demurrageref19_Sound.f k bt549.1 (wrap64 (Int.tmod x0 1000000000000001)) (Int.tmod (wrap64 (x1)) 9001) x2).bind fun t554 => (if t554 = true then (demurragelaw19_PlainSound.l0 k x7 (wrap64 (Int.tmod x0 1000000000000001)) bt545.1 bt549.1 0 (x2.length : Int) 0) else (none))) else (none))) else (none)) else (none))))
def demurragelaw19_PlainSound.l0 : Nat → Bool → Int → List (S37) → List (S37) → Int → Int → Int → Option (Bool)
 | 0, _, _, _, _, _, _, _ => none
 | k + 1, x7, x8, x10, x12, x14, x15, x16 => if x16 < x15 then (if 0 ≤ x16 then (if x16 < (x12.length : Int) then (if x16 < (wrap64 (x15 - 1)) then (if x16 < (x10.length : Int) then (if ((rd_T37 x10 x16).f2) = 0 then (if x15 = 0 then (none) else (if ((rd_T37 x12 x16).f2) = (wrap64 (Int.tdiv x8 x15)) then (if ((rd_T37 x10 x16).f0) = x8 then (if ((rd_T37 x12 x16).f4) > x8 then (none) else (demurragelaw19_PlainSound.l0 k x7 x8 x10 x12 (wrap64 (x14 + ((rd_T37 x12 x16).f2))) x15 (wrap64 (x16 + 1)))) else (none)) else (none))) else (none)) else (none)) else (if x16 < (x10.length : Int) then (if ((rd_T37 x10 x16).f0) = x8 then (if ((rd_T37 x12 x16).f4) > x8 then (none) else (demurragelaw19_PlainSound.l0 k x7 x8 x10 x12 (wrap64 (x14 + ((rd_T37 x12 x16).f2))) x15 (wrap64 (x16 + 1)))) else (none)) else (none))) else (none)) else (none)) else (if x7 = true then (if x14 = x8 then (if 0 ≤ (wrap64 (x15 - 1)) then (if (wrap64 (x15 - 1)) < (x10.length : Int) then (if ((rd_T37 x10 (wrap64 (x15 - 1))).f2) = x8 then (if (wrap64 (x15 - 1)) < (x12.length : Int) then (if x15 = 0 then (none) else (if ((rd_T37 x12 (wrap64 (x15 - 1))).f2) ≥ (wrap64 (Int.tdiv x8 x15)) then (some (decide (((rd_T37 x12 (wrap64 (x15 - 1))).f2) < (wrap64 ((wrap64 (Int.tdiv x8 x15)) + x15))))) else (none))) else (none)) else (none)) else (none)) else (none)) else (none)) else (none))
end
def demurragelaw19_PlainSound.f (k : Nat) (a0 : Int) (a1 : Int) (l2 : List (S42)) : Option (Bool) := (demurragelaw19_shown.f k).bind fun t393 => (if (l2.length : Int) < 1 then (demurragelaw19_PlainSound.j0 k a0 a1 l2 t393 true) else (if (l2.length : Int) > 40 then (demurragelaw19_PlainSound.j0 k a0 a1 l2 t393 true) else ((demurrageref18_Usual.f k l2).bind fun t394 => (demurragelaw19_PlainSound.j0 k a0 a1 l2 t393 (!t394)))))
set_option maxHeartbeats 8000000 in
set_option maxRecDepth 100000 in
theorem demurragelaw19_PlainSound.calls (k : Nat) (a0 : Int) (a1 : Int) (A2 : Option Addr) (c2 : Nat) (l2 : List (S42)) (r : Bool) (w : World) (hr2 : Kd.C k42 w A2 l2.length l2) (hc2 : l2.length ≤ c2) (h : demurragelaw19_PlainSound.f k a0 a1 l2 = some r) :
  Calls Try.prog 4 #[.int .u64 a0, .int .u16 a1, .slice A2 l2.length c2] w fun e w' => e = .returned (.bool r) ∧ Below w.heap.size w w' := by
 have HR2 := Aside0.mk hr2
 have HC2 := Aside0.mk hc2
 clear hr2 hc2
 have HB := Aside0.mk (Below.refl w.heap.size w)
 have H : ((demurragelaw19_shown.f k).bind fun t393 => (if (l2.length : Int) < 1 then (demurragelaw19_PlainSound.j0 k a0 a1 l2 t393 true) else (if (l2.length : Int) > 40 then (demurragelaw19_PlainSound.j0 k a0 a1 l2 t393 true) else ((demurrageref18_Usual.f k l2).bind fun t394 => (demurragelaw19_PlainSound.j0 k a0 a1 l2 t393 (!t394)))))) = some r := h
 clear h
 replace H := Option.bind_eq_some_iff.mp H
 obtain ⟨t393, A40, H⟩ := H
 (try dsimp only at H)
 have A4 := Aside0.mk A40
 clear A40
 have HC5 := Aside0.mk H
 clear H
 go_enter Try.func4, Try.ntmps4
 go_upto_region 2 with (first | (go_at_call 8; (with_reducible refine (demurragelaw19_shown.calls k  t393 _ A4.out).mono ?_); rintro e w6 ⟨rfl, hb⟩; replace HB := Aside0.mk (below_step (by repeat (first | (with_reducible first | exact HB.out | apply bA_ | apply bN_ | apply bD_) | exact HB.out)) hb); (try clear hb)))
 repeat (go_quiet (first | (go_at_call 8; (with_reducible refine (demurragelaw19_shown.calls k  t393 _ A4.out).mono ?_); rintro e w6 ⟨rfl, hb⟩; replace HB := Aside0.mk (below_step (by repeat (first | (with_reducible first | exact HB.out | apply bA_ | apply bN_ | apply bD_) | exact HB.out)) hb); (try clear hb))); go_upto_region 2 with (first | (go_at_call 8; (with_reducible refine (demurragelaw19_shown.calls k  t393 _ A4.out).mono ?_); rintro e w6 ⟨rfl, hb⟩; replace HB := Aside0.mk (below_step (by repeat (first | (with_reducible first | exact HB.out | apply bA_ | apply bN_ | apply bD_) | exact HB.out)) hb); (try clear hb))))
 (try simp only [Act.put, sT_, sZ_, sS_])
 go_cut [30] (fun v30 wc => ∃ (kq : Nat) (x30_4 : Bool), v30 = .bool x30_4 ∧ Aside0 (demurragelaw19_PlainSound.j0 kq a0 a1 l2 t393 x30_4 = some r) ∧ Aside0 (kq ≤ k) ∧ Aside0 (Below w.heap.size w wc))
 case first =>
  have H := HC5.out
  clear HC5
  by_cases c7 : (l2.length : Int) < 1
  ·rw [if_pos c7] at H
   have c7b0 : decide ((l2.length : Int) < 1) = true := decide_eq_true c7
   have c7b1 : decide (l2.length < 1) = true := decide_eq_true (by omega)
   clear c7
   (first | rw [c7b0] | (simp only [i64_w, i32_w]; rw [c7b0]) | rw [c7b1] | skip)
   have H' := Aside0.mk H
   clear H
   go_wp2
   repeat (go_quiet (fail); try go_wp2)
   go_meet
   case rel => exact ⟨_, _, (by first | rfl | (simp; done) | (simp [*]; done)), H', ⟨by first | omega | exact Nat.le_refl _⟩, ⟨by repeat (first | (with_reducible first | exact HB.out | apply bA_ | apply bN_ | apply bD_) | exact HB.out)⟩⟩
  ·rw [if_neg c7] at H
   have c7b0 : decide ((l2.length : Int) < 1) = false := decide_eq_false c7
   have c7b1 : decide (l2.length < 1) = false := decide_eq_false (by omega)
   clear c7
   (first | rw [c7b0] | (simp only [i64_w, i32_w]; rw [c7b0]) | rw [c7b1] | skip)
   by_cases c8 : (l2.length : Int) > 40
   ·rw [if_pos c8] at H
    have c8b0 : decide (40 < (l2.length : Int)) = true := decide_eq_true c8
    have c8b1 : decide (40 < l2.length) = true := decide_eq_true (by omega)
    clear c8
    have H' := Aside0.mk H
    clear H
    go_wp2
    repeat (go_quiet (fail); try go_wp2)
    go_meet
    case rel => exact ⟨_, _, (by first | rfl | (simp; done) | (simp [*]; done)), H', ⟨by first | omega | exact Nat.le_refl _⟩, ⟨by repeat (first | (with_reducible first | exact HB.out | apply bA_ | apply bN_ | apply bD_) | exact HB.out)⟩⟩
   ·rw [if_neg c8] at H
    have c8b0 : decide (40 < (l2.length : Int)) = false := decide_eq_false c8
    have c8b1 : decide (40 < l2.length) = false := decide_eq_false (by omega)
    clear c8
    replace H := Option.bind_eq_some_iff.mp H
    obtain ⟨t394, A90, H⟩ := H
    (try dsimp only at H)
    have A9 := Aside0.mk A90
    clear A90
    have H' := Aside0.mk H
    clear H
    go_wp2_with (first | (go_at_call 14; (with_reducible refine (demurrageref18_Usual.calls k _ _ l2 t394 _ ?side1 ?side2 A9.out).mono ?_); (case side1 => repeat (first | exact (Kd.C_below HR2.out HB.out) | (with_reducible refine Kd.C_alloc ?_ _) | (with_reducible refine Kd.C_drewN ?_ _) | (with_reducible refine Kd.C_drew ?_))); (case side2 => exact HC2.out); rintro e w10 ⟨rfl, hb⟩; replace HB := Aside0.mk (below_step (by repeat (first | (with_reducible first | exact HB.out | apply bA_ | apply bN_ | apply bD_) | exact HB.out)) hb); (try clear hb)))
    repeat (go_quiet (first | (go_at_call 14; (with_reducible refine (demurrageref18_Usual.calls k _ _ l2 t394 _ ?side1 ?side2 A9.out).mono ?_); (case side1 => repeat (first | exact (Kd.C_below HR2.out HB.out) | (with_reducible refine Kd.C_alloc ?_ _) | (with_reducible refine Kd.C_drewN ?_ _) | (with_reducible refine Kd.C_drew ?_))); (case side2 => exact HC2.out); rintro e w10 ⟨rfl, hb⟩; replace HB := Aside0.mk (below_step (by repeat (first | (with_reducible first | exact HB.out | apply bA_ | apply bN_ | apply bD_) | exact HB.out)) hb); (try clear hb))); try go_wp2_with (first | (go_at_call 14; (with_reducible refine (demurrageref18_Usual.calls k _ _ l2 t394 _ ?side1 ?side2 A9.out).mono ?_); (case side1 => repeat (first | exact (Kd.C_below HR2.out HB.out) | (with_reducible refine Kd.C_alloc ?_ _) | (with_reducible refine Kd.C_drewN ?_ _) | (with_reducible refine Kd.C_drew ?_))); (case side2 => exact HC2.out); rintro e w10 ⟨rfl, hb⟩; replace HB := Aside0.mk (below_step (by repeat (first | (with_reducible first | exact HB.out | apply bA_ | apply bN_ | apply bD_) | exact HB.out)) hb); (try clear hb))))
    go_meet
    case rel => exact ⟨_, _, (by first | rfl | (simp; done) | (simp [*]; done)), H', ⟨by first | omega | exact Nat.le_refl _⟩, ⟨by repeat (first | (with_reducible first | exact HB.out | apply bA_ | apply bN_ | apply bD_) | exact HB.out)⟩⟩
 case rest =>
  clear HC5
  try clear c2
  try clear p2
  try clear c4
  try clear c7
  try clear c7b0
  try clear c7b1
  try clear c8
  try clear c8b0
  try clear c8b1
  obtain ⟨kq, x30_4, rfl, HA, HJ4, HB⟩ := hcut
  cases kq with
  | zero => exact absurd HA.out (by simp [demurragelaw19_PlainSound.j0])
  | succ kj4 =>
   have H := HA.out
   clear HA
   simp only [demurragelaw19_PlainSound.j0] at H
   by_cases c11 : x30_4 = true
   ·subst c11
    rw [if_pos rfl] at H
    obtain rfl := Option.some.inj H
    go_wp2
    repeat (go_quiet (fail); try go_wp2)
    go_ret
    exact ⟨by rfl, by repeat (first | (with_reducible first | exact HB.out | apply bA_ | apply bN_ | apply bD_) | exact HB.out)⟩
   ·replace c11 := Bool.eq_false_iff.mpr c11
    subst c11
    rw [if_neg (show ¬ (false = true) by decide)] at H
    replace H := Option.bind_eq_some_iff.mp H
    obtain ⟨⟨t545, t546⟩, A120, H⟩ := H
    (try dsimp only at H)
    have A12 := Aside0.mk A120
    clear A120
    replace H := Option.bind_eq_some_iff.mp H
    obtain ⟨⟨t549, t550⟩, A130, H⟩ := H
    (try dsimp only at H)
    have A13 := Aside0.mk A130
    clear A130
    by_cases c14 : t546 = 0
    ·rw [if_pos c14] at H
     have c14b0 : (t546 == 0) = true := beq_iff_eq.mpr c14
     have c14b1 : (t546 != 0) = false := bne_eq_false_iff_eq.mpr c14
     clear c14
     by_cases c15 : t550 = 0
     ·rw [if_pos c15] at H
      have c15b0 : (t550 == 0) = true := beq_iff_eq.mpr c15
      have c15b1 : (t550 != 0) = false := bne_eq_false_iff_eq.mpr c15
      clear c15
      replace H := Option.bind_eq_some_iff.mp H
      obtain ⟨t553, A160, H⟩ := H
      (try dsimp only at H)
      have A16 := Aside0.mk A160
      clear A160
      by_cases c17 : t553 = true
      ·subst c17
       rw [if_pos rfl] at H
       replace H := Option.bind_eq_some_iff.mp H
       obtain ⟨t554, A180, H⟩ := H
       (try dsimp only at H)
       have A18 := Aside0.mk A180
       clear A180
       by_cases c19 : t554 = true
       ·subst c19
        rw [if_pos rfl] at H
        have H' := Aside0.mk H
        clear H
        go_wp2_with (first | (go_at_call 9; (with_reducible refine (plain_Bullet.calls kj4 (wrap64 (Int.tmod a0 1000000000000001)) (Int.tmod (wrap64 (a1)) 9001) _ _ l2 t545 t546 _ ?side1 ?side2 A12.out).mono ?_); (case side1 => repeat (first | exact (Kd.C_below HR2.out HB.out) | (with_reducible refine Kd.C_alloc ?_ _) | (with_reducible refine Kd.C_drewN ?_ _) | (with_reducible refine Kd.C_drew ?_))); (case side2 => exact HC2.out); rintro e w20 ⟨v547, rfl, ho0, hb⟩; have HO548 := Aside0.mk (Kd.R_lower ho0 (below_size (by repeat (first | (with_reducible first | exact HB.out | apply bA_ | apply bN_ | apply bD_) | exact HB.out)))); replace HB := Aside0.mk (below_step (by repeat (first | (with_reducible first | exact HB.out | apply bA_ | apply bN_ | apply bD_) | exact HB.out)) hb); (try clear hb); (try clear ho0)) | (go_at_call 11; (with_reducible refine (plain_Equal.calls kj4 (wrap64 (Int.tmod a0 1000000000000001)) (Int.tmod (wrap64 (a1)) 9001) _ _ l2 t549 t550 _ ?side1 ?side2 A13.out).mono ?_); (case side1 => repeat (first | exact (Kd.C_below HR2.out HB.out) | (with_reducible refine Kd.C_alloc ?_ _) | (with_reducible refine Kd.C_drewN ?_ _) | (with_reducible refine Kd.C_drew ?_))); (case side2 => exact HC2.out); rintro e w21 ⟨v551, rfl, ho0, hb⟩; have HO552 := Aside0.mk (Kd.R_lower (Kd.R_new' ho0 (Kd.R_lt HO548.out)) (below_size (by repeat (first | (with_reducible first | exact HB.out | apply bA_ | apply bN_ | apply bD_) | exact HB.out)))); replace HO548 := Aside0.mk (Kd.R_elder' HO548.out (Kd.R_base ho0) hb); replace HB := Aside0.mk (below_step (by repeat (first | (with_reducible first | exact HB.out | apply bA_ | apply bN_ | apply bD_) | exact HB.out)) hb); (try clear hb); (try clear ho0); obtain ⟨Ao22, co22, eo22⟩ := Kd.R_slice HO548.out; subst eo22) | (go_at_call 15; (with_reducible refine (demurrageref19_Sound.calls kj4 _ _ t545 (wrap64 (Int.tmod a0 1000000000000001)) (Int.tmod (wrap64 (a1)) 9001) _ _ l2 true _ ?side1 ?side2 ?side3 ?side4 A16.out).mono ?_); (case side1 => repeat (first | exact (Kd.R_reads' HO548.out).2.2 | (with_reducible refine Kd.C_alloc ?_ _) | (with_reducible refine Kd.C_drewN ?_ _) | (with_reducible refine Kd.C_drew ?_))); (case side2 => exact (Kd.R_reads' HO548.out).2.1); (case side3 => repeat (first | exact (Kd.C_below HR2.out HB.out) | (with_reducible refine Kd.C_alloc ?_ _) | (with_reducible refine Kd.C_drewN ?_ _) | (with_reducible refine Kd.C_drew ?_))); (case side4 => exact HC2.out); rintro e w23 ⟨rfl, hb⟩; replace HO548 := Aside0.mk (Kd.R_below HO548.out hb); replace HO552 := Aside0.mk (Kd.R_below HO552.out hb); replace HB := Aside0.mk (below_step (by repeat (first | (with_reducible first | exact HB.out | apply bA_ | apply bN_ | apply bD_) | exact HB.out)) hb); (try clear hb); obtain ⟨Ao24, co24, eo24⟩ := Kd.R_slice HO552.out; subst eo24) | (go_at_call 15; (with_reducible refine (demurrageref19_Sound.calls kj4 _ _ t549 (wrap64 (Int.tmod a0 1000000000000001)) (Int.tmod (wrap64 (a1)) 9001) _ _ l2 true _ ?side1 ?side2 ?side3 ?side4 A18.out).mono ?_); (case side1 => repeat (first | exact (Kd.R_reads' HO552.out).2.2 | (with_reducible refine Kd.C_alloc ?_ _) | (with_reducible refine Kd.C_drewN ?_ _) | (with_reducible refine Kd.C_drew ?_))); (case side2 => exact (Kd.R_reads' HO552.out).2.1); (case side3 => repeat (first | exact (Kd.C_below HR2.out HB.out) | (with_reducible refine Kd.C_alloc ?_ _) | (with_reducible refine Kd.C_drewN ?_ _) | (with_reducible refine Kd.C_drew ?_))); (case side4 => exact HC2.out); rintro e w25 ⟨rfl, hb⟩; replace HO548 := Aside0.mk (Kd.R_below HO548.out hb); replace HO552 := Aside0.mk (Kd.R_below HO552.out hb); replace HB := Aside0.mk (below_step (by repeat (first | (with_reducible first | exact HB.out | apply bA_ | apply bN_ | apply bD_) | exact HB.out)) hb); (try clear hb)))
        repeat (go_quiet (first | (go_at_call 9; (with_reducible refine (plain_Bullet.calls kj4 (wrap64 (Int.tmod a0 1000000000000001)) (Int.tmod (wrap64 (a1)) 9001) _ _ l2 t545 t546 _ ?side1 ?side2 A12.out).mono ?_); (case side1 => repeat (first | exact (Kd.C_below HR2.out HB.out) | (with_reducible refine Kd.C_alloc ?_ _) | (with_reducible refine Kd.C_drewN ?_ _) | (with_reducible refine Kd.C_drew ?_))); (case side2 => exact HC2.out); rintro e w20 ⟨v547, rfl, ho0, hb⟩; have HO548 := Aside0.mk (Kd.R_lower ho0 (below_size (by repeat (first | (with_reducible first | exact HB.out | apply bA_ | apply bN_ | apply bD_) | exact HB.out)))); replace HB := Aside0.mk (below_step (by repeat (first | (with_reducible first | exact HB.out | apply bA_ | apply bN_ | apply bD_) | exact HB.out)) hb); (try clear hb); (try clear ho0)) | (go_at_call 11; (with_reducible refine (plain_Equal.calls kj4 (wrap64 (Int.tmod a0 1000000000000001)) (Int.tmod (wrap64 (a1)) 9001) _ _ l2 t549 t550 _ ?side1 ?side2 A13.out).mono ?_); (case side1 => repeat (first | exact (Kd.C_below HR2.out HB.out) | (with_reducible refine Kd.C_alloc ?_ _) | (with_reducible refine Kd.C_drewN ?_ _) | (with_reducible refine Kd.C_drew ?_))); (case side2 => exact HC2.out); rintro e w21 ⟨v551, rfl, ho0, hb⟩; have HO552 := Aside0.mk (Kd.R_lower (Kd.R_new' ho0 (Kd.R_lt HO548.out)) (below_size (by repeat (first | (with_reducible first | exact HB.out | apply bA_ | apply bN_ | apply bD_) | exact HB.out)))); replace HO548 := Aside0.mk (Kd.R_elder' HO548.out (Kd.R_base ho0) hb); replace HB := Aside0.mk (below_step (by repeat (first | (with_reducible first | exact HB.out | apply bA_ | apply bN_ | apply bD_) | exact HB.out)) hb); (try clear hb); (try clear ho0); obtain ⟨Ao22, co22, eo22⟩ := Kd.R_slice HO548.out; subst eo22) | (go_at_call 15; (with_reducible refine (demurrageref19_Sound.calls kj4 _ _ t545 (wrap64 (Int.tmod a0 1000000000000001)) (Int.tmod (wrap64 (a1)) 9001) _ _ l2 true _ ?side1 ?side2 ?side3 ?side4 A16.out).mono ?_); (case side1 => repeat (first | exact (Kd.R_reads' HO548.out).2.2 | (with_reducible refine Kd.C_alloc ?_ _) | (with_reducible refine Kd.C_drewN ?_ _) | (with_reducible refine Kd.C_drew ?_))); (case side2 => exact (Kd.R_reads' HO548.out).2.1); (case side3 => repeat (first | exact (Kd.C_below HR2.out HB.out) | (with_reducible refine Kd.C_alloc ?_ _) | (with_reducible refine Kd.C_drewN ?_ _) | (with_reducible refine Kd.C_drew ?_))); (case side4 => exact HC2.out); rintro e w23 ⟨rfl, hb⟩; replace HO548 := Aside0.mk (Kd.R_below HO548.out hb); replace HO552 := Aside0.mk (Kd.R_below HO552.out hb); replace HB := Aside0.mk (below_step (by repeat (first | (with_reducible first | exact HB.out | apply bA_ | apply bN_ | apply bD_) | exact HB.out)) hb); (try clear hb); obtain ⟨Ao24, co24, eo24⟩ := Kd.R_slice HO552.out; subst eo24) | (go_at_call 15; (with_reducible refine (demurrageref19_Sound.calls kj4 _ _ t549 (wrap64 (Int.tmod a0 1000000000000001)) (Int.tmod (wrap64 (a1)) 9001) _ _ l2 true _ ?side1 ?side2 ?side3 ?side4 A18.out).mono ?_); (case side1 => repeat (first | exact (Kd.R_reads' HO552.out).2.2 | (with_reducible refine Kd.C_alloc ?_ _) | (with_reducible refine Kd.C_drewN ?_ _) | (with_reducible refine Kd.C_drew ?_))); (case side2 => exact (Kd.R_reads' HO552.out).2.1); (case side3 => repeat (first | exact (Kd.C_below HR2.out HB.out) | (with_reducible refine Kd.C_alloc ?_ _) | (with_reducible refine Kd.C_drewN ?_ _) | (with_reducible refine Kd.C_drew ?_))); (case side4 => exact HC2.out); rintro e w25 ⟨rfl, hb⟩; replace HO548 := Aside0.mk (Kd.R_below HO548.out hb); replace HO552 := Aside0.mk (Kd.R_below HO552.out hb); replace HB := Aside0.mk (below_step (by repeat (first | (with_reducible first | exact HB.out | apply bA_ | apply bN_ | apply bD_) | exact HB.out)) hb); (try clear hb))); try go_wp2_with (first | (go_at_call 9; (with_reducible refine (plain_Bullet.calls kj4 (wrap64 (Int.tmod a0 1000000000000001)) (Int.tmod (wrap64 (a1)) 9001) _ _ l2 t545 t546 _ ?side1 ?side2 A12.out).mono ?_); (case side1 => repeat (first | exact (Kd.C_below HR2.out HB.out) | (with_reducible refine Kd.C_alloc ?_ _) | (with_reducible refine Kd.C_drewN ?_ _) | (with_reducible refine Kd.C_drew ?_))); (case side2 => exact HC2.out); rintro e w20 ⟨v547, rfl, ho0, hb⟩; have HO548 := Aside0.mk (Kd.R_lower ho0 (below_size (by repeat (first | (with_reducible first | exact HB.out | apply bA_ | apply bN_ | apply bD_) | exact HB.out)))); replace HB := Aside0.mk (below_step (by repeat (first | (with_reducible first | exact HB.out | apply bA_ | apply bN_ | apply bD_) | exact HB.out)) hb); (try clear hb); (try clear ho0)) | (go_at_call 11; (with_reducible refine (plain_Equal.calls kj4 (wrap64 (Int.tmod a0 1000000000000001)) (Int.tmod (wrap64 (a1)) 9001) _ _ l2 t549 t550 _ ?side1 ?side2 A13.out).mono ?_); (case side1 => repeat (first | exact (Kd.C_below HR2.out HB.out) | (with_reducible refine Kd.C_alloc ?_ _) | (with_reducible refine Kd.C_drewN ?_ _) | (with_reducible refine Kd.C_drew ?_))); (case side2 => exact HC2.out); rintro e w21 ⟨v551, rfl, ho0, hb⟩; have HO552 := Aside0.mk (Kd.R_lower (Kd.R_new' ho0 (Kd.R_lt HO548.out)) (below_size (by repeat (first | (with_reducible first | exact HB.out | apply bA_ | apply bN_ | apply bD_) | exact HB.out)))); replace HO548 := Aside0.mk (Kd.R_elder' HO548.out (Kd.R_base ho0) hb); replace HB := Aside0.mk (below_step (by repeat (first | (with_reducible first | exact HB.out | apply bA_ | apply bN_ | apply bD_) | exact HB.out)) hb); (try clear hb); (try clear ho0); obtain ⟨Ao22, co22, eo22⟩ := Kd.R_slice HO548.out; subst eo22) | (go_at_call 15; (with_reducible refine (demurrageref19_Sound.calls kj4 _ _ t545 (wrap64 (Int.tmod a0 1000000000000001)) (Int.tmod (wrap64 (a1)) 9001) _ _ l2 true _ ?side1 ?side2 ?side3 ?side4 A16.out).mono ?_); (case side1 => repeat (first | exact (Kd.R_reads' HO548.out).2.2 | (with_reducible refine Kd.C_alloc ?_ _) | (with_reducible refine Kd.C_drewN ?_ _) | (with_reducible refine Kd.C_drew ?_))); (case side2 => exact (Kd.R_reads' HO548.out).2.1); (case side3 => repeat (first | exact (Kd.C_below HR2.out HB.out) | (with_reducible refine Kd.C_alloc ?_ _) | (with_reducible refine Kd.C_drewN ?_ _) | (with_reducible refine Kd.C_drew ?_))); (case side4 => exact HC2.out); rintro e w23 ⟨rfl, hb⟩; replace HO548 := Aside0.mk (Kd.R_below HO548.out hb); replace HO552 := Aside0.mk (Kd.R_below HO552.out hb); replace HB := Aside0.mk (below_step (by repeat (first | (with_reducible first | exact HB.out | apply bA_ | apply bN_ | apply bD_) | exact HB.out)) hb); (try clear hb); obtain ⟨Ao24, co24, eo24⟩ := Kd.R_slice HO552.out; subst eo24) | (go_at_call 15; (with_reducible refine (demurrageref19_Sound.calls kj4 _ _ t549 (wrap64 (Int.tmod a0 1000000000000001)) (Int.tmod (wrap64 (a1)) 9001) _ _ l2 true _ ?side1 ?side2 ?side3 ?side4 A18.out).mono ?_); (case side1 => repeat (first | exact (Kd.R_reads' HO552.out).2.2 | (with_reducible refine Kd.C_alloc ?_ _) | (with_reducible refine Kd.C_drewN ?_ _) | (with_reducible refine Kd.C_drew ?_))); (case side2 => exact (Kd.R_reads' HO552.out).2.1); (case side3 => repeat (first | exact (Kd.C_below HR2.out HB.out) | (with_reducible refine Kd.C_alloc ?_ _) | (with_reducible refine Kd.C_drewN ?_ _) | (with_reducible refine Kd.C_drew ?_))); (case side4 => exact HC2.out); rintro e w25 ⟨rfl, hb⟩; replace HO548 := Aside0.mk (Kd.R_below HO548.out hb); replace HO552 := Aside0.mk (Kd.R_below HO552.out hb); replace HB := Aside0.mk (below_step (by repeat (first | (with_reducible first | exact HB.out | apply bA_ | apply bN_ | apply bD_) | exact HB.out)) hb); (try clear hb))))
        (try simp only [Act.put, sT_, sZ_, sS_])
        go_loopg [14, 16] kj4 (fun kq v14 v16 w' => ∃ (x14_2 : Int) (x16_2 : Int), v14 = .int .i64 x14_2 ∧ v16 = .int .i64 x16_2 ∧ Aside0 (demurragelaw19_PlainSound.l0 kq t393 (wrap64 (Int.tmod a0 1000000000000001)) t545 t549 x14_2 (l2.length : Int) x16_2 = some r) ∧ Aside0 (kq ≤ kj4) ∧ Aside0 (Kd.R k37 37 w' w.heap.size (fun k_ => some k_ ≠ ((.slice Ao24 t549.length co24) : Value).ownBlock) (.slice Ao22 t545.length co22) t545) ∧ Aside0 (Kd.R k37 37 w' w.heap.size (fun k_ => some k_ ≠ ((.slice Ao22 t545.length co22) : Value).ownBlock) (.slice Ao24 t549.length co24) t549) ∧ Aside0 (Below w.heap.size w w'))
        case atStart => exact ⟨(0), (0), (by first | rfl | (simp; done) | (simp [*]; done)), (by first | rfl | (simp; done) | (simp [*]; done)), H', ⟨Nat.le_refl _⟩, ⟨by (with_reducible repeat (first | apply Kd.R_alloc | apply Kd.R_drewN | apply Kd.R_drew)); exact Kd.R_mono HO548.out (fun _ hk => hk.2)⟩, ⟨by (with_reducible repeat (first | apply Kd.R_alloc | apply Kd.R_drewN | apply Kd.R_drew)); exact Kd.R_mono HO552.out (fun _ hk => hk.2)⟩, ⟨by repeat (first | (with_reducible first | exact HB.out | apply bA_ | apply bN_ | apply bD_) | exact HB.out)⟩⟩
        case round =>
         clear H'
         try clear c1
         try clear c2
         try clear p2
         try clear c4
         try clear p6
         try clear c7
         try clear c7b0
         try clear c7b1
         try clear c8
         try clear c8b0
         try clear c8b1
         try clear c11
         try clear c14
         try clear c14b0
         try clear c14b1
         try clear c15
         try clear c15b0
         try clear c15b1
         try clear c17
         try clear c19
         try clear p2
         obtain ⟨x14_2, x16_2, rfl, rfl, HA, HK2, HO_10, HO_12, HB⟩ := hrel
         cases gk with
         | zero => exact absurd HA.out (by simp [demurragelaw19_PlainSound.l0])
         | succ k2 =>
          have H := HA.out
          clear HA
          simp only [demurragelaw19_PlainSound.l0] at H
          by_cases c26 : x16_2 < (l2.length : Int)
          ·rw [if_pos c26] at H
           have c26b0 : decide (x16_2 < (l2.length : Int)) = true := decide_eq_true c26
           clear c26
           by_cases c27 : 0 ≤ x16_2
           ·rw [if_pos c27] at H
            have c27b0 : decide (0 ≤ x16_2) = true := decide_eq_true c27
            clear c27
            by_cases c28 : x16_2 < (t549.length : Int)
            ·rw [if_pos c28] at H
             have c28b0 : decide (x16_2 < (t549.length : Int)) = true := decide_eq_true c28
             clear c28
             by_cases c29 : x16_2 < (wrap64 ((l2.length : Int) - 1))
             ·rw [if_pos c29] at H
              have c29b0 : decide (x16_2 < (wrap64 ((l2.length : Int) - 1))) = true := decide_eq_true c29
              clear c29
              by_cases c30 : x16_2 < (t545.length : Int)
              ·rw [if_pos c30] at H
               have c30b0 : decide (x16_2 < (t545.length : Int)) = true := decide_eq_true c30
               clear c30
               by_cases c31 : ((rd_T37 t545 x16_2).f2) = 0
               ·rw [if_pos c31] at H
                have c31b0 : (((rd_T37 t545 x16_2).f2) == 0) = true := beq_iff_eq.mpr c31
                have c31b1 : (((rd_T37 t545 x16_2).f2) != 0) = false := bne_eq_false_iff_eq.mpr c31
                clear c31
                by_cases c32 : (l2.length : Int) = 0
                ·rw [if_pos c32] at H
                 exact absurd H (by simp)
                ·rw [if_neg c32] at H
                 have c32b0 : ((l2.length : Int) == 0) = false := beq_eq_false_iff_ne.mpr c32
                 have c32b1 : ((l2.length : Int) != 0) = true := bne_iff_ne.mpr c32
                 have c32b2 : ¬ (l2 = []) := fun h_ => c32 (by rw [h_]; rfl)
                 by_cases c33 : ((rd_T37 t549 x16_2).f2) = (wrap64 (Int.tdiv (wrap64 (Int.tmod a0 1000000000000001)) (l2.length : Int)))
                 ·rw [if_pos c33] at H
                  have c33b0 : (((rd_T37 t549 x16_2).f2) == (wrap64 (Int.tdiv (wrap64 (Int.tmod a0 1000000000000001)) (l2.length : Int)))) = true := beq_iff_eq.mpr c33
                  have c33b1 : (((rd_T37 t549 x16_2).f2) != (wrap64 (Int.tdiv (wrap64 (Int.tmod a0 1000000000000001)) (l2.length : Int)))) = false := bne_eq_false_iff_eq.mpr c33
                  clear c33
                  by_cases c34 : ((rd_T37 t545 x16_2).f0) = (wrap64 (Int.tmod a0 1000000000000001))
                  ·rw [if_pos c34] at H
                   have c34b0 : (((rd_T37 t545 x16_2).f0) == (wrap64 (Int.tmod a0 1000000000000001))) = true := beq_iff_eq.mpr c34
                   have c34b1 : (((rd_T37 t545 x16_2).f0) != (wrap64 (Int.tmod a0 1000000000000001))) = false := bne_eq_false_iff_eq.mpr c34
                   clear c34
                   by_cases c35 : ((rd_T37 t549 x16_2).f4) > (wrap64 (Int.tmod a0 1000000000000001))
                   ·rw [if_pos c35] at H
                    exact absurd H (by simp)
                   ·rw [if_neg c35] at H
                    have c35b0 : decide ((wrap64 (Int.tmod a0 1000000000000001)) < ((rd_T37 t549 x16_2).f4)) = false := decide_eq_false c35
                    clear c35
                    have H' := Aside0.mk H
                    clear H
                    have p585 : 0 ≤ (x16_2 : Int) := of_decide_eq_true (by first | (with_reducible assumption) | assumption)
                    have q585 : x16_2 < (t549.length : Int) := of_decide_eq_true (by first | (with_reducible assumption) | assumption)
                    obtain ⟨ad585, e585, hx585_0, hx585_1, hx585_2, hx585_3, hx585_4⟩ := at_T37 (Kd.R_reads' HO_12.out).2.2 x16_2 p585 q585
                    cases e585
                    replace p585 := eq_true p585
                    replace q585 := eq_true q585
                    have p586 : 0 ≤ (x16_2 : Int) := of_decide_eq_true (by first | (with_reducible assumption) | assumption)
                    have q586 : x16_2 < (t545.length : Int) := of_decide_eq_true (by first | (with_reducible assumption) | assumption)
                    obtain ⟨ad586, e586, hx586_0, hx586_1, hx586_2, hx586_3, hx586_4⟩ := at_T37 (Kd.R_reads' HO_10.out).2.2 x16_2 p586 q586
                    cases e586
                    replace p586 := eq_true p586
                    replace q586 := eq_true q586
                    have p587 : 0 ≤ (x16_2 : Int) := of_decide_eq_true (by first | (with_reducible assumption) | assumption)
                    have q587 : x16_2 < (t549.length : Int) := of_decide_eq_true (by first | (with_reducible assumption) | assumption)
                    obtain ⟨ad587, e587, hx587_0, hx587_1, hx587_2, hx587_3, hx587_4⟩ := at_T37 (Kd.R_reads' HO_12.out).2.2 x16_2 p587 q587
                    obtain rfl : ad585 = ad587 := (by injection e587)
                    replace p587 := eq_true p587
                    replace q587 := eq_true q587
                    have p588 : 0 ≤ (x16_2 : Int) := of_decide_eq_true (by first | (with_reducible assumption) | assumption)
                    have q588 : x16_2 < (t545.length : Int) := of_decide_eq_true (by first | (with_reducible assumption) | assumption)
                    obtain ⟨ad588, e588, hx588_0, hx588_1, hx588_2, hx588_3, hx588_4⟩ := at_T37 (Kd.R_reads' HO_10.out).2.2 x16_2 p588 q588
                    obtain rfl : ad586 = ad588 := (by injection e588)
                    replace p588 := eq_true p588
                    replace q588 := eq_true q588
                    have p589 : 0 ≤ (x16_2 : Int) := of_decide_eq_true (by first | (with_reducible assumption) | assumption)
                    have q589 : x16_2 < (t549.length : Int) := of_decide_eq_true (by first | (with_reducible assumption) | assumption)
                    obtain ⟨ad589, e589, hx589_0, hx589_1, hx589_2, hx589_3, hx589_4⟩ := at_T37 (Kd.R_reads' HO_12.out).2.2 x16_2 p589 q589
                    obtain rfl : ad585 = ad589 := (by injection e589)
                    replace p589 := eq_true p589
                    replace q589 := eq_true q589
                    go_wp2
                    repeat (go_quiet (fail); try go_wp2)
                    go_roundg k2
                    case measure => have := HJ4.out; have := HK2.out; omega
                    case rel => exact ⟨(wrap64 (x14_2 + ((rd_T37 t549 x16_2).f2))), (wrap64 (x16_2 + 1)), (by first | rfl | (simp; done) | (simp [*]; done)), (by first | rfl | (simp; done) | (simp [*]; done)), H', ⟨by have := HJ4.out; have := HK2.out; omega⟩, ⟨by (with_reducible repeat (first | apply Kd.R_alloc | apply Kd.R_drewN | apply Kd.R_drew)); exact HO_10.out⟩, ⟨by (with_reducible repeat (first | apply Kd.R_alloc | apply Kd.R_drewN | apply Kd.R_drew)); exact HO_12.out⟩, ⟨by repeat (first | (with_reducible first | exact HB.out | apply bA_ | apply bN_ | apply bD_) | exact HB.out)⟩⟩
                  ·rw [if_neg c34] at H
                   exact absurd H (by simp)
                 ·rw [if_neg c33] at H
                  exact absurd H (by simp)
               ·rw [if_neg c31] at H
                exact absurd H (by simp)
              ·rw [if_neg c30] at H
               exact absurd H (by simp)
             ·rw [if_neg c29] at H
              have c29b0 : decide (x16_2 < (wrap64 ((l2.length : Int) - 1))) = false := decide_eq_false c29
              clear c29
              by_cases c36 : x16_2 < (t545.length : Int)
              ·rw [if_pos c36] at H
               have c36b0 : decide (x16_2 < (t545.length : Int)) = true := decide_eq_true c36
               clear c36
               by_cases c37 : ((rd_T37 t545 x16_2).f0) = (wrap64 (Int.tmod a0 1000000000000001))
               ·rw [if_pos c37] at H
                have c37b0 : (((rd_T37 t545 x16_2).f0) == (wrap64 (Int.tmod a0 1000000000000001))) = true := beq_iff_eq.mpr c37
                have c37b1 : (((rd_T37 t545 x16_2).f0) != (wrap64 (Int.tmod a0 1000000000000001))) = false := bne_eq_false_iff_eq.mpr c37
                clear c37
                by_cases c38 : ((rd_T37 t549 x16_2).f4) > (wrap64 (Int.tmod a0 1000000000000001))
                ·rw [if_pos c38] at H
                 exact absurd H (by simp)
                ·rw [if_neg c38] at H
                 have c38b0 : decide ((wrap64 (Int.tmod a0 1000000000000001)) < ((rd_T37 t549 x16_2).f4)) = false := decide_eq_false c38
                 clear c38
                 have H' := Aside0.mk H
                 clear H
                 have p585 : 0 ≤ (x16_2 : Int) := of_decide_eq_true (by first | (with_reducible assumption) | assumption)
                 have q585 : x16_2 < (t549.length : Int) := of_decide_eq_true (by first | (with_reducible assumption) | assumption)
                 obtain ⟨ad585, e585, hx585_0, hx585_1, hx585_2, hx585_3, hx585_4⟩ := at_T37 (Kd.R_reads' HO_12.out).2.2 x16_2 p585 q585
                 cases e585
                 replace p585 := eq_true p585
                 replace q585 := eq_true q585
                 have p590 : 0 ≤ (x16_2 : Int) := of_decide_eq_true (by first | (with_reducible assumption) | assumption)
                 have q590 : x16_2 < (t545.length : Int) := of_decide_eq_true (by first | (with_reducible assumption) | assumption)
                 obtain ⟨ad590, e590, hx590_0, hx590_1, hx590_2, hx590_3, hx590_4⟩ := at_T37 (Kd.R_reads' HO_10.out).2.2 x16_2 p590 q590
                 cases e590
                 replace p590 := eq_true p590
                 replace q590 := eq_true q590
                 have p591 : 0 ≤ (x16_2 : Int) := of_decide_eq_true (by first | (with_reducible assumption) | assumption)
                 have q591 : x16_2 < (t549.length : Int) := of_decide_eq_true (by first | (with_reducible assumption) | assumption)
                 obtain ⟨ad591, e591, hx591_0, hx591_1, hx591_2, hx591_3, hx591_4⟩ := at_T37 (Kd.R_reads' HO_12.out).2.2 x16_2 p591 q591
                 obtain rfl : ad585 = ad591 := (by injection e591)
                 replace p591 := eq_true p591
                 replace q591 := eq_true q591
                 go_wp2
                 repeat (go_quiet (fail); try go_wp2)
                 go_roundg k2
                 case measure => have := HJ4.out; have := HK2.out; omega
                 case rel => exact ⟨(wrap64 (x14_2 + ((rd_T37 t549 x16_2).f2))), (wrap64 (x16_2 + 1)), (by first | rfl | (simp; done) | (simp [*]; done)), (by first | rfl | (simp; done) | (simp [*]; done)), H', ⟨by have := HJ4.out; have := HK2.out; omega⟩, ⟨by (with_reducible repeat (first | apply Kd.R_alloc | apply Kd.R_drewN | apply Kd.R_drew)); exact HO_10.out⟩, ⟨by (with_reducible repeat (first | apply Kd.R_alloc | apply Kd.R_drewN | apply Kd.R_drew)); exact HO_12.out⟩, ⟨by repeat (first | (with_reducible first | exact HB.out | apply bA_ | apply bN_ | apply bD_) | exact HB.out)⟩⟩
               ·rw [if_neg c37] at H
                exact absurd H (by simp)
              ·rw [if_neg c36] at H
               exact absurd H (by simp)
            ·rw [if_neg c28] at H
             exact absurd H (by simp)
           ·rw [if_neg c27] at H
            exact absurd H (by simp)
          ·rw [if_neg c26] at H
           have c26b0 : decide (x16_2 < (l2.length : Int)) = false := decide_eq_false c26
           clear c26
           by_cases c39 : t393 = true
           ·subst c39
            rw [if_pos rfl] at H
            by_cases c40 : x14_2 = (wrap64 (Int.tmod a0 1000000000000001))
            ·rw [if_pos c40] at H
             have c40b0 : (x14_2 == (wrap64 (Int.tmod a0 1000000000000001))) = true := beq_iff_eq.mpr c40
             have c40b1 : (x14_2 != (wrap64 (Int.tmod a0 1000000000000001))) = false := bne_eq_false_iff_eq.mpr c40
             clear c40
             obtain ⟨ji41, hji41⟩ : ∃ j_ : Int, (wrap64 ((l2.length : Int) - 1)) = j_ := ⟨_, rfl⟩
             replace H : (if 0 ≤ (ji41) then (if (ji41) < (t545.length : Int) then (if ((rd_T37 t545 (ji41)).f2) = (wrap64 (Int.tmod a0 1000000000000001)) then (if (ji41) < (t549.length : Int) then (if (l2.length : Int) = 0 then (none) else (if ((rd_T37 t549 (ji41)).f2) ≥ (wrap64 (Int.tdiv (wrap64 (Int.tmod a0 1000000000000001)) (l2.length : Int))) then (some (decide (((rd_T37 t549 (ji41)).f2) < (wrap64 ((wrap64 (Int.tdiv (wrap64 (Int.tmod a0 1000000000000001)) (l2.length : Int))) + (l2.length : Int)))))) else (none))) else (none)) else (none)) else (none)) else (none)) = some r := by first | (rw [hji41] at H; exact H) | (simp only [hji41] at H ⊢; exact H)
             have hji41w : (IntKind.i64.wrap ((l2.length : Int) - 1)) = ji41 := (i64_w _).trans hji41
             by_cases c42 : 0 ≤ (ji41)
             ·rw [if_pos c42] at H
              have c42b0 : decide (0 ≤ (ji41)) = true := decide_eq_true c42
              clear c42
              by_cases c43 : (ji41) < (t545.length : Int)
              ·rw [if_pos c43] at H
               have c43b0 : decide ((ji41) < (t545.length : Int)) = true := decide_eq_true c43
               clear c43
               by_cases c44 : ((rd_T37 t545 (ji41)).f2) = (wrap64 (Int.tmod a0 1000000000000001))
               ·rw [if_pos c44] at H
                have c44b0 : (((rd_T37 t545 (ji41)).f2) == (wrap64 (Int.tmod a0 1000000000000001))) = true := beq_iff_eq.mpr c44
                have c44b1 : (((rd_T37 t545 (ji41)).f2) != (wrap64 (Int.tmod a0 1000000000000001))) = false := bne_eq_false_iff_eq.mpr c44
                clear c44
                by_cases c45 : (ji41) < (t549.length : Int)
                ·rw [if_pos c45] at H
                 have c45b0 : decide ((ji41) < (t549.length : Int)) = true := decide_eq_true c45
                 clear c45
                 by_cases c46 : (l2.length : Int) = 0
                 ·rw [if_pos c46] at H
                  exact absurd H (by simp)
                 ·rw [if_neg c46] at H
                  have c46b0 : ((l2.length : Int) == 0) = false := beq_eq_false_iff_ne.mpr c46
                  have c46b1 : ((l2.length : Int) != 0) = true := bne_iff_ne.mpr c46
                  have c46b2 : ¬ (l2 = []) := fun h_ => c46 (by rw [h_]; rfl)
                  by_cases c47 : ((rd_T37 t549 (ji41)).f2) ≥ (wrap64 (Int.tdiv (wrap64 (Int.tmod a0 1000000000000001)) (l2.length : Int)))
                  ·rw [if_pos c47] at H
                   have c47b0 : decide ((wrap64 (Int.tdiv (wrap64 (Int.tmod a0 1000000000000001)) (l2.length : Int))) ≤ ((rd_T37 t549 (ji41)).f2)) = true := decide_eq_true c47
                   clear c47
                   obtain rfl := Option.some.inj H
                   have p592 : 0 ≤ ((ji41) : Int) := of_decide_eq_true (by first | (with_reducible assumption) | assumption)
                   have q592 : (ji41) < (t545.length : Int) := of_decide_eq_true (by first | (with_reducible assumption) | assumption)
                   obtain ⟨ad592, e592, hx592_0, hx592_1, hx592_2, hx592_3, hx592_4⟩ := at_T37 (Kd.R_reads' HO_10.out).2.2 (ji41) p592 q592
                   cases e592
                   replace p592 := eq_true p592
                   replace q592 := eq_true q592
                   have p593 : 0 ≤ ((ji41) : Int) := of_decide_eq_true (by first | (with_reducible assumption) | assumption)
                   have q593 : (ji41) < (t549.length : Int) := of_decide_eq_true (by first | (with_reducible assumption) | assumption)
                   obtain ⟨ad593, e593, hx593_0, hx593_1, hx593_2, hx593_3, hx593_4⟩ := at_T37 (Kd.R_reads' HO_12.out).2.2 (ji41) p593 q593
                   cases e593
                   replace p593 := eq_true p593
                   replace q593 := eq_true q593
                   have p594 : 0 ≤ ((ji41) : Int) := of_decide_eq_true (by first | (with_reducible assumption) | assumption)
                   have q594 : (ji41) < (t549.length : Int) := of_decide_eq_true (by first | (with_reducible assumption) | assumption)
                   obtain ⟨ad594, e594, hx594_0, hx594_1, hx594_2, hx594_3, hx594_4⟩ := at_T37 (Kd.R_reads' HO_12.out).2.2 (ji41) p594 q594
                   obtain rfl : ad593 = ad594 := (by injection e594)
                   replace p594 := eq_true p594
                   replace q594 := eq_true q594
                   go_wp2
                   repeat (go_quiet (fail); try go_wp2)
                   go_ret
                   exact ⟨by first | rfl | (simp [errW_none, errW_some] <;> rfl) | (simp only [← hji41]; first | rfl | (simp [errW_none, errW_some] <;> rfl)) | (simp [*, errW_none, errW_some] <;> rfl), by repeat (first | (with_reducible first | exact HB.out | apply bA_ | apply bN_ | apply bD_) | exact HB.out)⟩
                  ·rw [if_neg c47] at H
                   exact absurd H (by simp)
                ·rw [if_neg c45] at H
                 exact absurd H (by simp)
               ·rw [if_neg c44] at H
                exact absurd H (by simp)
              ·rw [if_neg c43] at H
               exact absurd H (by simp)
             ·rw [if_neg c42] at H
              exact absurd H (by simp)
            ·rw [if_neg c40] at H
             exact absurd H (by simp)
           ·replace c39 := Bool.eq_false_iff.mpr c39
            subst c39
            rw [if_neg (show ¬ (false = true) by decide)] at H
            exact absurd H (by simp)
       ·replace c19 := Bool.eq_false_iff.mpr c19
        subst c19
        rw [if_neg (show ¬ (false = true) by decide)] at H
        exact absurd H (by simp)
      ·replace c17 := Bool.eq_false_iff.mpr c17
       subst c17
       rw [if_neg (show ¬ (false = true) by decide)] at H
       exact absurd H (by simp)
     ·rw [if_neg c15] at H
      exact absurd H (by simp)
    ·rw [if_neg c14] at H
     exact absurd H (by simp)

end Go.Proofs.Ytlppmfffdjfekaa.X
