-- cut by prune.py, a program of this session
import Derived.Test.YteikafepdkijdaaPLevelSmallX0
import Derived.Test.YteikafepdkijdaaPLevelSmallXRefLevel
namespace Go.Proofs.Yteikafepdkijdaa.X
open Go.RowKit Go.Proofs.YteikafepdkijdaaW.PrintWords Go.Proofs.YteikafepdkijdaaW.PrintLast Go.Proofs.YteikafepdkijdaaW.PrintMore
attribute [local go_sem] max2_int min2_int max_two min_two
set_option linter.unusedVariables false
set_option linter.unusedSimpArgs false

def demurrageref20_Least.l0 : Nat → Int → Int → List (S56) → Int → Int → Option (Int × Bool)
 | 0, _, _, _, _, _ => none
 | k + 1, x0, x1, x2, x3, x10 => if x10 ≤ x3 then ((demurrageref20_Ends.f k x0 x1 x2 x10).bind fun bt1287 => (if bt1287.1 = true then (some (x10, true)) else (demurrageref20_Least.l0 k x0 x1 x2 x3 (wrap64 (x10 + 1))))) else (some (0, false))
def demurrageref20_Least.f (k : Nat) (a0 : Int) (a1 : Int) (l2 : List (S56)) (a3 : Int) : Option (Int × Bool) := demurrageref20_Least.l0 k a0 a1 l2 a3 0
set_option maxHeartbeats 8000000 in
set_option maxRecDepth 100000 in
theorem demurrageref20_Least.calls (k : Nat) (a0 : Int) (a1 : Int) (A2 : Option Addr) (c2 : Nat) (l2 : List (S56)) (a3 : Int) (r1 : Int) (r2 : Bool) (w : World) (hr2 : Kd.C k56 w A2 l2.length l2) (hc2 : l2.length ≤ c2) (h : demurrageref20_Least.f k a0 a1 l2 a3 = some (r1, r2)) :
  Calls Try.prog 25 #[.int .i64 a0, .int .i64 a1, .slice A2 l2.length c2, .int .i64 a3] w fun e w' => e = .returned (.tuple #[.int .i64 r1, .bool r2]) ∧ Below w.heap.size w w' := by
 have HR2 := aA_ hr2
 have HC2 := aA_ hc2
 clear hr2 hc2
 have HB := aA_ (Below.refl w.heap.size w)
 have H : (demurrageref20_Least.l0 k a0 a1 l2 a3 0) = some (r1, r2) := h
 clear h
 have H' := aA_ H
 clear H
 go_enter Try.func25, Try.ntmps25
 go_wp2
 (try simp only [Act.put, sT_, sZ_, sS_])
 go_loopg [10] k (fun kq v10 w' => ∃ (x10_1 : Int), v10 = .int .i64 x10_1 ∧ Aside0 (demurrageref20_Least.l0 kq a0 a1 l2 a3 x10_1 = some (r1, r2)) ∧ Aside0 (kq ≤ k) ∧ Aside0 (Below w.heap.size w w'))
 case atStart => exact ⟨(0), (by first | rfl | simp | simp [*]), H', ⟨Nat.le_refl _⟩, ⟨by repeat (with_reducible first | exact HB.out | apply bA_ | apply bN_ | apply bD_)⟩⟩
 case round =>
  clear H'
  try clear c2
  try clear p2
  obtain ⟨x10_1, rfl, HA, HK1, HB⟩ := hrel
  cases gk with
  | zero => exact absurd HA.out (by simp [demurrageref20_Least.l0])
  | succ k1 =>
   have H := HA.out
   clear HA
   simp only [demurrageref20_Least.l0] at H
   by_cases c5 : x10_1 ≤ a3
   ·rw [if_pos c5] at H
    have c5b0 : decide (x10_1 ≤ a3) = true := decide_eq_true c5
    clear c5
    replace H := bI_ H
    obtain ⟨⟨t1287, t1288⟩, A60, H⟩ := H
    (try dsimp only at H)
    have A6 := aA_ A60
    clear A60
    by_cases c7 : t1287 = true
    ·subst c7
     rw [if_pos rfl] at H
     simp only [Option.some.injEq, Prod.mk.injEq] at H
     obtain ⟨rfl, rfl⟩ := H
     go_wp2_with (first | (refine goesL_ (some 23) rfl rfl Try.func17 (by kernel_rfl) rfl #[.int .i64 a0, .int .i64 a1, .slice A2 l2.length c2, .int .i64 x10_1] rfl (by (try simp only [mT_, mC_, mN_]); first | done | rfl) ?_; (with_reducible refine (demurrageref20_Ends.calls k1 a0 a1 _ _ l2 x10_1 true t1288 _ ?side1 ?side2 A6.out).mono ?_); (case side1 => repeat (first | exact (Kd.C_below HR2.out HB.out) | (with_reducible first | refine Kd.C_alloc ?_ _ | refine Kd.C_drewN ?_ _ | refine Kd.C_drew ?_))); (case side2 => exact HC2.out); rintro e w8 ⟨rfl, hb⟩; refine ⟨_, rfl, ?_⟩; replace HB := bB_ (by repeat (with_reducible first | exact HB.out | apply bA_ | apply bN_ | apply bD_)) hb; (try clear hb)))
     go_ret2
     exact ⟨by rfl, by repeat (with_reducible first | exact HB.out | apply bA_ | apply bN_ | apply bD_)⟩
    ·replace c7 := Bool.eq_false_iff.mpr c7
     subst c7
     rw [if_neg (show ¬ (false = true) by decide)] at H
     have H' := aA_ H
     clear H
     go_wp2_with (first | (refine goesL_ (some 23) rfl rfl Try.func17 (by kernel_rfl) rfl #[.int .i64 a0, .int .i64 a1, .slice A2 l2.length c2, .int .i64 x10_1] rfl (by (try simp only [mT_, mC_, mN_]); first | done | rfl) ?_; (with_reducible refine (demurrageref20_Ends.calls k1 a0 a1 _ _ l2 x10_1 false t1288 _ ?side1 ?side2 A6.out).mono ?_); (case side1 => repeat (first | exact (Kd.C_below HR2.out HB.out) | (with_reducible first | refine Kd.C_alloc ?_ _ | refine Kd.C_drewN ?_ _ | refine Kd.C_drew ?_))); (case side2 => exact HC2.out); rintro e w9 ⟨rfl, hb⟩; refine ⟨_, rfl, ?_⟩; replace HB := bB_ (by repeat (with_reducible first | exact HB.out | apply bA_ | apply bN_ | apply bD_)) hb; (try clear hb)))
     go_roundg k1
     case measure => have := HK1.out; omega
     case rel => exact ⟨(wrap64 (x10_1 + 1)), (by first | rfl | simp | simp [*]), H', ⟨by have := HK1.out; omega⟩, ⟨by repeat (with_reducible first | exact HB.out | apply bA_ | apply bN_ | apply bD_)⟩⟩
   ·rw [if_neg c5] at H
    have c5b0 : decide (x10_1 ≤ a3) = false := decide_eq_false c5
    clear c5
    simp only [Option.some.injEq, Prod.mk.injEq] at H
    obtain ⟨rfl, rfl⟩ := H
    go_wp2
    go_ret2
    exact ⟨by rfl, by repeat (with_reducible first | exact HB.out | apply bA_ | apply bN_ | apply bD_)⟩

end Go.Proofs.Yteikafepdkijdaa.X
