-- cut by prune.py, a program of this session
import Derived.Test.YteikafepdkijdaaPLevelSmallX0
import Derived.Test.YteikafepdkijdaaPLevelSmallXUsual
import Derived.Test.YteikafepdkijdaaPLevelSmallXRefLeast
import Derived.Test.YteikafepdkijdaaPLevelSmallXShownL
import Derived.Test.YteikafepdkijdaaPLevelSmallHLeast
namespace Go.Proofs.Yteikafepdkijdaa.X
open Go.RowKit Go.Proofs.YteikafepdkijdaaW.PrintWords Go.Proofs.YteikafepdkijdaaW.PrintLast Go.Proofs.YteikafepdkijdaaW.PrintMore
attribute [local go_sem] max2_int min2_int max_two min_two
set_option linter.unusedVariables false
set_option linter.unusedSimpArgs false

def demurragelaw20_LevelSmall.j0 : Nat → Int → Int → List (S56) → Bool → Bool → Option (Bool)
 | 0, _, _, _, _, _ => none
 | k + 1, x0, x1, x2, x7, x27 => if x27 = true then (some x7) else ((level_Least.f k (Int.tmod (wrap64 (x0)) 61) (Int.tmod (wrap64 (x1)) 9001) x2).bind fun bt1295 => ((demurrageref20_Least.f k (Int.tmod (wrap64 (x0)) 61) (Int.tmod (wrap64 (x1)) 9001) x2 400).bind fun bt1297 => (if x7 = true then (if bt1295.2 = 0 then (if bt1297.2 = true then (some (bt1295.1 == bt1297.1)) else (if bt1295.1 > 400 then (some true) else (none))) else (none)) else (none))))
def demurragelaw20_LevelSmall.f (k : Nat) (a0 : Int) (a1 : Int) (l2 : List (S56)) : Option (Bool) := (demurragelaw20_shown.f k).bind fun t1289 => (if (l2.length : Int) < 1 then (demurragelaw20_LevelSmall.j0 k a0 a1 l2 t1289 true) else (if (l2.length : Int) > 6 then (demurragelaw20_LevelSmall.j0 k a0 a1 l2 t1289 true) else ((demurrageref18_Usual.f k l2).bind fun t1290 => (demurragelaw20_LevelSmall.j0 k a0 a1 l2 t1289 (!t1290)))))
set_option maxHeartbeats 8000000 in
set_option maxRecDepth 100000 in
theorem demurragelaw20_LevelSmall.calls (k : Nat) (a0 : Int) (a1 : Int) (A2 : Option Addr) (c2 : Nat) (l2 : List (S56)) (r : Bool) (w : World) (hr2 : Kd.C k56 w A2 l2.length l2) (hc2 : l2.length ≤ c2) (h : demurragelaw20_LevelSmall.f k a0 a1 l2 = some r) :
  Calls Try.prog 6 #[.int .u8 a0, .int .u16 a1, .slice A2 l2.length c2] w fun e w' => e = .returned (.bool r) ∧ Below w.heap.size w w' := by
 have HR2 := aA_ hr2
 have HC2 := aA_ hc2
 clear hr2 hc2
 have HB := aA_ (Below.refl w.heap.size w)
 have H : ((demurragelaw20_shown.f k).bind fun t1289 => (if (l2.length : Int) < 1 then (demurragelaw20_LevelSmall.j0 k a0 a1 l2 t1289 true) else (if (l2.length : Int) > 6 then (demurragelaw20_LevelSmall.j0 k a0 a1 l2 t1289 true) else ((demurrageref18_Usual.f k l2).bind fun t1290 => (demurragelaw20_LevelSmall.j0 k a0 a1 l2 t1289 (!t1290)))))) = some r := h
 clear h
 replace H := bI_ H
 obtain ⟨t1289, A40, H⟩ := H
 (try dsimp only at H)
 have A4 := aA_ A40
 clear A40
 have HC5 := aA_ H
 clear H
 go_enter Try.func6, Try.ntmps6
 go_upto_region 2 with (first | (refine goesL_ (some 14) rfl rfl Try.func15 (by kernel_rfl) rfl #[] rfl (by (try simp only [mT_, mC_, mN_]); first | done | rfl) ?_; (with_reducible refine (demurragelaw20_shown.calls k  t1289 _ A4.out).mono ?_); rintro e w6 ⟨rfl, hb⟩; refine ⟨_, rfl, ?_⟩; replace HB := bB_ (by repeat (with_reducible first | exact HB.out | apply bA_ | apply bN_ | apply bD_)) hb; (try clear hb)))
 (try simp only [Act.put, sT_, sZ_, sS_])
 go_cut [27] (fun v27 wc => ∃ (kq : Nat) (x27_4 : Bool), v27 = .bool x27_4 ∧ Aside0 (demurragelaw20_LevelSmall.j0 kq a0 a1 l2 t1289 x27_4 = some r) ∧ Aside0 (kq ≤ k) ∧ Aside0 (Below w.heap.size w wc))
 case first =>
  have H := HC5.out
  clear HC5
  by_cases c7 : (l2.length : Int) < 1
  ·rw [if_pos c7] at H
   have c7b0 : decide ((l2.length : Int) < 1) = true := decide_eq_true c7
   have c7b1 : decide (l2.length < 1) = true := decide_eq_true (by omega)
   clear c7
   (first | rw [c7b0] | (simp only [i64_w, i32_w]; rw [c7b0]) | rw [c7b1] | skip)
   have H' := aA_ H
   clear H
   go_wp2
   go_meet
   case rel => exact ⟨_, _, (by first | rfl | simp | simp [*]), H', ⟨by first | omega | exact Nat.le_refl _⟩, ⟨by repeat (with_reducible first | exact HB.out | apply bA_ | apply bN_ | apply bD_)⟩⟩
  ·rw [if_neg c7] at H
   have c7b0 : decide ((l2.length : Int) < 1) = false := decide_eq_false c7
   have c7b1 : decide (l2.length < 1) = false := decide_eq_false (by omega)
   clear c7
   (first | rw [c7b0] | (simp only [i64_w, i32_w]; rw [c7b0]) | rw [c7b1] | skip)
   by_cases c8 : (l2.length : Int) > 6
   ·rw [if_pos c8] at H
    have c8b0 : decide (6 < (l2.length : Int)) = true := decide_eq_true c8
    have c8b1 : decide (6 < l2.length) = true := decide_eq_true (by omega)
    clear c8
    have H' := aA_ H
    clear H
    go_wp2
    go_meet
    case rel => exact ⟨_, _, (by first | rfl | simp | simp [*]), H', ⟨by first | omega | exact Nat.le_refl _⟩, ⟨by repeat (with_reducible first | exact HB.out | apply bA_ | apply bN_ | apply bD_)⟩⟩
   ·rw [if_neg c8] at H
    have c8b0 : decide (6 < (l2.length : Int)) = false := decide_eq_false c8
    have c8b1 : decide (6 < l2.length) = false := decide_eq_false (by omega)
    clear c8
    replace H := bI_ H
    obtain ⟨t1290, A90, H⟩ := H
    (try dsimp only at H)
    have A9 := aA_ A90
    clear A90
    have H' := aA_ H
    clear H
    go_wp2_with (first | (go_at_call 21; (with_reducible refine (demurrageref18_Usual.calls k _ _ l2 t1290 _ ?side1 ?side2 A9.out).mono ?_); (case side1 => repeat (first | exact (Kd.C_below HR2.out HB.out) | (with_reducible first | refine Kd.C_alloc ?_ _ | refine Kd.C_drewN ?_ _ | refine Kd.C_drew ?_))); (case side2 => exact HC2.out); rintro e w10 ⟨rfl, hb⟩; replace HB := bB_ (by repeat (with_reducible first | exact HB.out | apply bA_ | apply bN_ | apply bD_)) hb; (try clear hb)))
    go_meet
    case rel => exact ⟨_, _, (by first | rfl | simp | simp [*]), H', ⟨by first | omega | exact Nat.le_refl _⟩, ⟨by repeat (with_reducible first | exact HB.out | apply bA_ | apply bN_ | apply bD_)⟩⟩
 case rest =>
  clear HC5
  try clear c1
  try clear c2
  try clear p2
  try clear c6
  try clear c7
  try clear c7b0
  try clear c7b1
  try clear c8
  try clear c8b0
  try clear c8b1
  obtain ⟨kq, x27_4, rfl, HA, HJ4, HB⟩ := hcut
  cases kq with
  | zero => exact absurd HA.out (by simp [demurragelaw20_LevelSmall.j0])
  | succ kj4 =>
   have H := HA.out
   clear HA
   simp only [demurragelaw20_LevelSmall.j0] at H
   by_cases c11 : x27_4 = true
   ·subst c11
    rw [if_pos rfl] at H
    obtain rfl := Option.some.inj H
    go_wp2
    go_ret
    exact ⟨by rfl, by repeat (with_reducible first | exact HB.out | apply bA_ | apply bN_ | apply bD_)⟩
   ·replace c11 := Bool.eq_false_iff.mpr c11
    subst c11
    rw [if_neg (show ¬ (false = true) by decide)] at H
    replace H := bI_ H
    obtain ⟨⟨t1295, t1296⟩, A120, H⟩ := H
    (try dsimp only at H)
    have A12 := aA_ A120
    clear A120
    replace H := bI_ H
    obtain ⟨⟨t1297, t1298⟩, A130, H⟩ := H
    (try dsimp only at H)
    have A13 := aA_ A130
    clear A130
    by_cases c14 : t1289 = true
    ·subst c14
     rw [if_pos rfl] at H
     by_cases c15 : t1296 = 0
     ·rw [if_pos c15] at H
      have c15b0 : (t1296 == 0) = true := beq_iff_eq.mpr c15
      have c15b1 : (t1296 != 0) = false := bne_eq_false_iff_eq.mpr c15
      clear c15
      by_cases c16 : t1298 = true
      ·subst c16
       rw [if_pos rfl] at H
       obtain rfl := Option.some.inj H
       go_wp2_with (first | (refine goesL_ (some 39) rfl rfl Try.func18 (by kernel_rfl) rfl #[.int .i64 (Int.tmod (wrap64 (a0)) 61), .int .i64 (Int.tmod (wrap64 (a1)) 9001), .slice A2 l2.length c2] rfl (by (try simp only [mT_, mC_, mN_]); first | done | rfl) ?_; (with_reducible refine (level_Least.calls kj4 (Int.tmod (wrap64 (a0)) 61) (Int.tmod (wrap64 (a1)) 9001) _ _ l2 t1295 t1296 _ ?side1 ?side2 A12.out).mono ?_); (case side1 => repeat (first | exact (Kd.C_below HR2.out HB.out) | (with_reducible first | refine Kd.C_alloc ?_ _ | refine Kd.C_drewN ?_ _ | refine Kd.C_drew ?_))); (case side2 => exact HC2.out); rintro e w17 ⟨rfl, hb⟩; refine ⟨_, rfl, ?_⟩; replace HB := bB_ (by repeat (with_reducible first | exact HB.out | apply bA_ | apply bN_ | apply bD_)) hb; (try clear hb)) | (refine goesL_ (some 46) rfl rfl Try.func25 (by kernel_rfl) rfl #[.int .i64 (Int.tmod (wrap64 (a0)) 61), .int .i64 (Int.tmod (wrap64 (a1)) 9001), .slice A2 l2.length c2, .int .i64 400] rfl (by (try simp only [mT_, mC_, mN_]); first | done | rfl) ?_; (with_reducible refine (demurrageref20_Least.calls kj4 (Int.tmod (wrap64 (a0)) 61) (Int.tmod (wrap64 (a1)) 9001) _ _ l2 400 t1297 true _ ?side1 ?side2 A13.out).mono ?_); (case side1 => repeat (first | exact (Kd.C_below HR2.out HB.out) | (with_reducible first | refine Kd.C_alloc ?_ _ | refine Kd.C_drewN ?_ _ | refine Kd.C_drew ?_))); (case side2 => exact HC2.out); rintro e w18 ⟨rfl, hb⟩; refine ⟨_, rfl, ?_⟩; replace HB := bB_ (by repeat (with_reducible first | exact HB.out | apply bA_ | apply bN_ | apply bD_)) hb; (try clear hb)))
       go_ret
       exact ⟨by rfl, by repeat (with_reducible first | exact HB.out | apply bA_ | apply bN_ | apply bD_)⟩
      ·replace c16 := Bool.eq_false_iff.mpr c16
       subst c16
       rw [if_neg (show ¬ (false = true) by decide)] at H
       by_cases c19 : t1295 > 400
       ·rw [if_pos c19] at H
        have c19b0 : decide (400 < t1295) = true := decide_eq_true c19
        clear c19
        obtain rfl := Option.some.inj H
        go_wp2_with (first | (refine goesL_ (some 39) rfl rfl Try.func18 (by kernel_rfl) rfl #[.int .i64 (Int.tmod (wrap64 (a0)) 61), .int .i64 (Int.tmod (wrap64 (a1)) 9001), .slice A2 l2.length c2] rfl (by (try simp only [mT_, mC_, mN_]); first | done | rfl) ?_; (with_reducible refine (level_Least.calls kj4 (Int.tmod (wrap64 (a0)) 61) (Int.tmod (wrap64 (a1)) 9001) _ _ l2 t1295 t1296 _ ?side1 ?side2 A12.out).mono ?_); (case side1 => repeat (first | exact (Kd.C_below HR2.out HB.out) | (with_reducible first | refine Kd.C_alloc ?_ _ | refine Kd.C_drewN ?_ _ | refine Kd.C_drew ?_))); (case side2 => exact HC2.out); rintro e w20 ⟨rfl, hb⟩; refine ⟨_, rfl, ?_⟩; replace HB := bB_ (by repeat (with_reducible first | exact HB.out | apply bA_ | apply bN_ | apply bD_)) hb; (try clear hb)) | (refine goesL_ (some 46) rfl rfl Try.func25 (by kernel_rfl) rfl #[.int .i64 (Int.tmod (wrap64 (a0)) 61), .int .i64 (Int.tmod (wrap64 (a1)) 9001), .slice A2 l2.length c2, .int .i64 400] rfl (by (try simp only [mT_, mC_, mN_]); first | done | rfl) ?_; (with_reducible refine (demurrageref20_Least.calls kj4 (Int.tmod (wrap64 (a0)) 61) (Int.tmod (wrap64 (a1)) 9001) _ _ l2 400 t1297 false _ ?side1 ?side2 A13.out).mono ?_); (case side1 => repeat (first | exact (Kd.C_below HR2.out HB.out) | (with_reducible first | refine Kd.C_alloc ?_ _ | refine Kd.C_drewN ?_ _ | refine Kd.C_drew ?_))); (case side2 => exact HC2.out); rintro e w21 ⟨rfl, hb⟩; refine ⟨_, rfl, ?_⟩; replace HB := bB_ (by repeat (with_reducible first | exact HB.out | apply bA_ | apply bN_ | apply bD_)) hb; (try clear hb)))
        go_ret
        exact ⟨by rfl, by repeat (with_reducible first | exact HB.out | apply bA_ | apply bN_ | apply bD_)⟩
       ·rw [if_neg c19] at H
        exact absurd H (by simp)
     ·rw [if_neg c15] at H
      exact absurd H (by simp)
    ·replace c14 := Bool.eq_false_iff.mpr c14
     subst c14
     rw [if_neg (show ¬ (false = true) by decide)] at H
     exact absurd H (by simp)

end Go.Proofs.Yteikafepdkijdaa.X
