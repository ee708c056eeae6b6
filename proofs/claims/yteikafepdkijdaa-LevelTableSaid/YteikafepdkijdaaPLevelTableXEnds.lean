-- cut by prune.py, a program of this session
import Derived.Test.YteikafepdkijdaaPLevelTableX0
import Derived.Test.YteikafepdkijdaaPLevelTableXMost
import Derived.Test.YteikafepdkijdaaPLevelTableHEnds
namespace Go.Proofs.Yteikafepdkijdaa.X
open Go.RowKit Go.Proofs.YteikafepdkijdaaW.PrintWords Go.Proofs.YteikafepdkijdaaW.PrintLast Go.Proofs.YteikafepdkijdaaW.PrintMore
attribute [local go_sem] max2_int min2_int max_two min_two
set_option linter.unusedVariables false
set_option linter.unusedSimpArgs false

def level_Ends.j0 : Nat → Int → Int → List (S56) → Int → Int → Bool → Option (Bool × Int)
 | 0, _, _, _, _, _, _ => none
 | k + 1, x0, x1, x2, x3, x11, x38 => if x38 = true then (if 2 = 0 then ((level_ends.f k x0 x1 x2 x3).bind fun t166 => (some (t166, 0))) else (some (false, 2))) else (if x11 = 0 then ((level_ends.f k x0 x1 x2 x3).bind fun t167 => (some (t167, 0))) else (some (false, x11)))
def level_Ends.f (k : Nat) (a0 : Int) (a1 : Int) (l2 : List (S56)) (a3 : Int) : Option (Bool × Int) := (level_most.f k a0 a1 l2).bind fun bt164 => (if a3 < 0 then (if bt164.2 = 0 then (level_Ends.j0 k a0 a1 l2 a3 bt164.2 true) else (if bt164.2 = 6 then (level_Ends.j0 k a0 a1 l2 a3 bt164.2 true) else (if (l2.length : Int) > 0 then (level_Ends.j0 k a0 a1 l2 a3 bt164.2 (decide ((l2.length : Int) ≤ 1200))) else (level_Ends.j0 k a0 a1 l2 a3 bt164.2 false)))) else (level_Ends.j0 k a0 a1 l2 a3 bt164.2 false))
theorem level_Ends.mono_l : ∀ k, (∀ y0 y1 y2 y3 y4 y5, LeO (level_Ends.j0 k y0 y1 y2 y3 y4 y5) (level_Ends.j0 (k + 1) y0 y1 y2 y3 y4 y5))
 | 0 => fun _ _ _ _ _ _ r h => by simp [level_Ends.j0] at h
 | k + 1 => by
  have ih0 := level_Ends.mono_l k
  ·intro y0 y1 y2 y3 y4 y5
   unfold level_Ends.j0
   repeat' first
   | (with_reducible exact ih0 _ _ _ _ _ _)
   | (with_reducible exact level_ends.mono _ _ _ _ _)
   | (with_reducible exact level_most.mono _ _ _ _)
   | (with_reducible exact LeO.refl _)
   | (with_reducible exact LeO.none _)
   | (with_reducible refine LeO.ite ?_ ?_)
   | (with_reducible refine LeO.bind ?_ (fun _ => ?_))
   | exact ih0 _ _ _ _ _ _
   | exact level_ends.mono _ _ _ _ _
   | exact level_most.mono _ _ _ _
   | exact LeO.none _
   | refine LeO.ite ?_ ?_
   | refine LeO.bind ?_ (fun _ => ?_)
theorem level_Ends.mono : ∀ a0 a1 a2 a3 k, LeO (level_Ends.f k a0 a1 a2 a3) (level_Ends.f (k + 1) a0 a1 a2 a3) := by
 intro a0 a1 a2 a3 k
 have ih0 := level_Ends.mono_l k
 unfold level_Ends.f
 repeat' first
   | (with_reducible exact ih0 _ _ _ _ _ _)
   | (with_reducible exact level_ends.mono _ _ _ _ _)
   | (with_reducible exact level_most.mono _ _ _ _)
   | (with_reducible exact LeO.refl _)
   | (with_reducible exact LeO.none _)
   | (with_reducible refine LeO.ite ?_ ?_)
   | (with_reducible refine LeO.bind ?_ (fun _ => ?_))
   | exact ih0 _ _ _ _ _ _
   | exact level_ends.mono _ _ _ _ _
   | exact level_most.mono _ _ _ _
   | exact LeO.none _
   | refine LeO.ite ?_ ?_
   | refine LeO.bind ?_ (fun _ => ?_)
set_option maxHeartbeats 8000000 in
set_option maxRecDepth 100000 in
theorem level_Ends.calls (k : Nat) (a0 : Int) (a1 : Int) (A2 : Option Addr) (c2 : Nat) (l2 : List (S56)) (a3 : Int) (r1 : Bool) (r2 : Int) (w : World) (hr2 : Kd.C k56 w A2 l2.length l2) (hc2 : l2.length ≤ c2) (h : level_Ends.f k a0 a1 l2 a3 = some (r1, r2)) :
  Calls Try.prog 16 #[.int .i64 a0, .int .i64 a1, .slice A2 l2.length c2, .int .i64 a3] w fun e w' => e = .returned (.tuple #[.bool r1, .int .i64 r2]) ∧ Below w.heap.size w w' := by
 have HR2 := aA_ hr2
 have HC2 := aA_ hc2
 clear hr2 hc2
 have HB := aA_ (Below.refl w.heap.size w)
 have H : ((level_most.f k a0 a1 l2).bind fun bt164 => (if a3 < 0 then (if bt164.2 = 0 then (level_Ends.j0 k a0 a1 l2 a3 bt164.2 true) else (if bt164.2 = 6 then (level_Ends.j0 k a0 a1 l2 a3 bt164.2 true) else (if (l2.length : Int) > 0 then (level_Ends.j0 k a0 a1 l2 a3 bt164.2 (decide ((l2.length : Int) ≤ 1200))) else (level_Ends.j0 k a0 a1 l2 a3 bt164.2 false)))) else (level_Ends.j0 k a0 a1 l2 a3 bt164.2 false))) = some (r1, r2) := h
 clear h
 replace H := bI_ H
 obtain ⟨⟨t164, t165⟩, A50, H⟩ := H
 (try dsimp only at H)
 have A5 := aA_ A50
 clear A50
 have HC6 := aA_ H
 clear H
 go_enter Try.func16, Try.ntmps16
 go_upto_region 2 with (first | (refine goesL_ (some 16) rfl rfl Try.func35 (by kernel_rfl) rfl #[.int .i64 a0, .int .i64 a1, .slice A2 l2.length c2] rfl (by (try simp only [mT_, mC_, mN_]); first | done | rfl) ?_; (with_reducible refine (level_most.calls k a0 a1 _ _ l2 t164 t165 _ ?side1 ?side2 A5.out).mono ?_); (case side1 => repeat (first | exact HR2.out | (with_reducible first | refine Kd.C_alloc ?_ _ | refine Kd.C_drewN ?_ _ | refine Kd.C_drew ?_))); (case side2 => exact HC2.out); rintro e w7 ⟨rfl, hb⟩; refine ⟨_, rfl, ?_⟩; replace HB := bB_ (by repeat (with_reducible first | exact HB.out | apply bA_ | apply bN_ | apply bD_)) hb; (try clear hb)))
 (try simp only [Act.put, sT_, sZ_, sS_])
 go_cut [38] (fun v38 wc => ∃ (kq : Nat) (x38_5 : Bool), v38 = .bool x38_5 ∧ Aside0 (level_Ends.j0 kq a0 a1 l2 a3 t165 x38_5 = some (r1, r2)) ∧ Aside0 (kq ≤ k) ∧ Aside0 (Below w.heap.size w wc))
 case first =>
  have H := HC6.out
  clear HC6
  by_cases c8 : a3 < 0
  ·rw [if_pos c8] at H
   have c8b0 : decide (a3 < 0) = true := decide_eq_true c8
   clear c8
   (first | rw [c8b0] | (simp only [i64_w, i32_w]; rw [c8b0]) | rw [c8b1] | skip)
   by_cases c9 : t165 = 0
   ·rw [if_pos c9] at H
    have c9b0 : (t165 == 0) = true := beq_iff_eq.mpr c9
    have c9b1 : (t165 != 0) = false := bne_eq_false_iff_eq.mpr c9
    clear c9
    have H' := aA_ H
    clear H
    go_wp2
    go_meet
    case rel => exact ⟨_, _, (by first | rfl | simp | simp [*]), H', ⟨by first | omega | exact Nat.le_refl _⟩, ⟨by repeat (with_reducible first | exact HB.out | apply bA_ | apply bN_ | apply bD_)⟩⟩
   ·rw [if_neg c9] at H
    have c9b0 : (t165 == 0) = false := beq_eq_false_iff_ne.mpr c9
    have c9b1 : (t165 != 0) = true := bne_iff_ne.mpr c9
    by_cases c10 : t165 = 6
    ·rw [if_pos c10] at H
     have c10b0 : (t165 == 6) = true := beq_iff_eq.mpr c10
     have c10b1 : (t165 != 6) = false := bne_eq_false_iff_eq.mpr c10
     clear c10
     have H' := aA_ H
     clear H
     go_wp2
     go_meet
     case rel => exact ⟨_, _, (by first | rfl | simp | simp [*]), H', ⟨by first | omega | exact Nat.le_refl _⟩, ⟨by repeat (with_reducible first | exact HB.out | apply bA_ | apply bN_ | apply bD_)⟩⟩
    ·rw [if_neg c10] at H
     have c10b0 : (t165 == 6) = false := beq_eq_false_iff_ne.mpr c10
     have c10b1 : (t165 != 6) = true := bne_iff_ne.mpr c10
     by_cases c11 : (l2.length : Int) > 0
     ·rw [if_pos c11] at H
      have c11b0 : decide (0 < (l2.length : Int)) = true := decide_eq_true c11
      have c11b1 : decide (0 < l2.length) = true := decide_eq_true (by omega)
      clear c11
      have H' := aA_ H
      clear H
      go_wp2
      go_meet
      case rel => exact ⟨_, (decide ((l2.length : Int) ≤ 1200)), (by first | rfl | simp | simp [*]), H', ⟨by first | omega | exact Nat.le_refl _⟩, ⟨by repeat (with_reducible first | exact HB.out | apply bA_ | apply bN_ | apply bD_)⟩⟩
     ·rw [if_neg c11] at H
      have c11b0 : decide (0 < (l2.length : Int)) = false := decide_eq_false c11
      have c11b1 : decide (0 < l2.length) = false := decide_eq_false (by omega)
      clear c11
      have H' := aA_ H
      clear H
      go_wp2
      go_meet
      case rel => exact ⟨_, _, (by first | rfl | simp | simp [*]), H', ⟨by first | omega | exact Nat.le_refl _⟩, ⟨by repeat (with_reducible first | exact HB.out | apply bA_ | apply bN_ | apply bD_)⟩⟩
  ·rw [if_neg c8] at H
   have c8b0 : decide (a3 < 0) = false := decide_eq_false c8
   clear c8
   (first | rw [c8b0] | (simp only [i64_w, i32_w]; rw [c8b0]) | rw [c8b1] | skip)
   have H' := aA_ H
   clear H
   go_wp2
   go_meet
   case rel => exact ⟨_, _, (by first | rfl | simp | simp [*]), H', ⟨by first | omega | exact Nat.le_refl _⟩, ⟨by repeat (with_reducible first | exact HB.out | apply bA_ | apply bN_ | apply bD_)⟩⟩
 case rest =>
  clear HC6
  try clear c1
  try clear c2
  try clear p2
  try clear c3
  try clear c8
  try clear c8b0
  try clear c8b1
  try clear c9
  try clear c9b0
  try clear c9b1
  try clear c10
  try clear c10b0
  try clear c10b1
  try clear c11
  try clear c11b0
  try clear c11b1
  obtain ⟨kq, x38_5, rfl, HA, HJ5, HB⟩ := hcut
  cases kq with
  | zero => exact absurd HA.out (by simp [level_Ends.j0])
  | succ kj5 =>
   have H := HA.out
   clear HA
   simp only [level_Ends.j0] at H
   by_cases c12 : x38_5 = true
   ·subst c12
    rw [if_pos rfl] at H
    by_cases c13 : 2 = 0
    ·exact absurd c13 (by decide)
    ·rw [if_neg c13] at H
     have c13b0 : (2 == 0) = false := beq_eq_false_iff_ne.mpr c13
     have c13b1 : (2 != 0) = true := bne_iff_ne.mpr c13
     simp only [Option.some.injEq, Prod.mk.injEq] at H
     obtain ⟨rfl, rfl⟩ := H
     go_wp2
     go_ret2
     exact ⟨by rfl, by repeat (with_reducible first | exact HB.out | apply bA_ | apply bN_ | apply bD_)⟩
   ·replace c12 := Bool.eq_false_iff.mpr c12
    subst c12
    rw [if_neg (show ¬ (false = true) by decide)] at H
    by_cases c16 : t165 = 0
    ·rw [if_pos c16] at H
     have c16b0 : (t165 == 0) = true := beq_iff_eq.mpr c16
     have c16b1 : (t165 != 0) = false := bne_eq_false_iff_eq.mpr c16
     clear c16
     replace H := bI_ H
     obtain ⟨t167, A170, H⟩ := H
     (try dsimp only at H)
     have A17 := aA_ A170
     clear A170
     simp only [Option.some.injEq, Prod.mk.injEq] at H
     obtain ⟨rfl, rfl⟩ := H
     go_wp2_with (first | (refine goesL_ (some 46) rfl rfl Try.func36 (by kernel_rfl) rfl #[.int .i64 a0, .int .i64 a1, .slice A2 l2.length c2, .int .i64 a3] rfl (by (try simp only [mT_, mC_, mN_]); first | done | rfl) ?_; (with_reducible refine (level_ends.calls kj5 a0 a1 _ _ l2 a3 t167 _ ?side1 ?side2 A17.out).mono ?_); (case side1 => repeat (first | exact (Kd.C_below HR2.out HB.out) | (with_reducible first | refine Kd.C_alloc ?_ _ | refine Kd.C_drewN ?_ _ | refine Kd.C_drew ?_))); (case side2 => exact HC2.out); rintro e w18 ⟨rfl, hb⟩; refine ⟨_, rfl, ?_⟩; replace HB := bB_ (by repeat (with_reducible first | exact HB.out | apply bA_ | apply bN_ | apply bD_)) hb; (try clear hb)))
     go_ret2
     exact ⟨by rfl, by repeat (with_reducible first | exact HB.out | apply bA_ | apply bN_ | apply bD_)⟩
    ·rw [if_neg c16] at H
     have c16b0 : (t165 == 0) = false := beq_eq_false_iff_ne.mpr c16
     have c16b1 : (t165 != 0) = true := bne_iff_ne.mpr c16
     simp only [Option.some.injEq, Prod.mk.injEq] at H
     obtain ⟨rfl, rfl⟩ := H
     go_wp2
     go_ret2
     exact ⟨by rfl, by repeat (with_reducible first | exact HB.out | apply bA_ | apply bN_ | apply bD_)⟩

end Go.Proofs.Yteikafepdkijdaa.X
