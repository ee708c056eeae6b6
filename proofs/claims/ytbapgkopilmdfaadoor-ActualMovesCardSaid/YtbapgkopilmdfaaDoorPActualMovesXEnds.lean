-- cut by prune.py, a program of this session
import Derived.Test.YtbapgkopilmdfaaDoorPActualMovesX0
import Derived.Test.YtbapgkopilmdfaaDoorPActualMovesXCLeap
import Derived.Test.YtbapgkopilmdfaaDoorPActualMovesXCivil
namespace Go.Proofs.YtbapgkopilmdfaaDoor.X
open Go.RowKit Go.Proofs.YtbapgkopilmdfaaDoorW.PrintWords Go.Proofs.YtbapgkopilmdfaaDoorW.PrintLast Go.Proofs.YtbapgkopilmdfaaDoorW.PrintMore
attribute [local go_sem] max2_int min2_int max_two min_two
set_option linter.unusedVariables false
set_option linter.unusedSimpArgs false

def actual_ends.f (k : Nat) (a0 : Int) : Option (Int × Int) := (civil_Number.f k a0 1 1).bind fun bt1794 => ((civil_Leap.f a0).bind fun t1796 => (if t1796 = true then (some (bt1794.1, 366)) else (some (bt1794.1, 365))))
theorem actual_ends.mono : ∀ a0 k, LeO (actual_ends.f k a0) (actual_ends.f (k + 1) a0) := by
 intro a0 k
 unfold actual_ends.f
 repeat' first
   | (with_reducible exact civil_Number.mono _ _ _ _)
   | (with_reducible exact LeO.refl _)
   | (with_reducible exact LeO.none _)
   | (with_reducible refine LeO.ite ?_ ?_)
   | (with_reducible refine LeO.bind ?_ (fun _ => ?_))
   | exact civil_Number.mono _ _ _ _
   | exact LeO.none _
   | refine LeO.ite ?_ ?_
   | refine LeO.bind ?_ (fun _ => ?_)
set_option maxHeartbeats 8000000 in
set_option maxRecDepth 100000 in
theorem actual_ends.calls (k : Nat) (a0 : Int) (r1 : Int) (r2 : Int) (w : World) (hv : Vars w) (h : actual_ends.f k a0 = some (r1, r2)) :
  Calls Tryd.prog 29 #[.int .i64 a0] w fun e w' => e = .returned (.tuple #[.int .i64 r1, .int .i64 r2]) ∧ Below w.heap.size w w' := by
 have HV := aA_ hv
 clear hv
 have hu41 := Tryd.underlying41
 have HB := aA_ (Below.refl w.heap.size w)
 have H : ((civil_Number.f k a0 1 1).bind fun bt1794 => ((civil_Leap.f a0).bind fun t1796 => (if t1796 = true then (some (bt1794.1, 366)) else (some (bt1794.1, 365))))) = some (r1, r2) := h
 clear h
 replace H := bI_ H
 obtain ⟨⟨t1794, t1795⟩, A20, H⟩ := H
 (try dsimp only at H)
 have A2 := aA_ A20
 clear A20
 replace H := bI_ H
 obtain ⟨t1796, A30, H⟩ := H
 (try dsimp only at H)
 have A3 := aA_ A30
 clear A30
 by_cases c4 : t1796 = true
 ·subst c4
  rw [if_pos rfl] at H
  simp only [Option.some.injEq, Prod.mk.injEq] at H
  obtain ⟨rfl, rfl⟩ := H
  go_enter Tryd.func29, Tryd.ntmps29
  go_wp2_with (first | (refine goesL_ (some 9) rfl rfl Tryd.func47 (by kernel_rfl) rfl #[.agg #[.int .i64 a0, .int .i64 1, .int .i64 1]] rfl (by (try simp only [mT_, mC_, mN_]); first | done | rfl) ?_; (with_reducible refine (civil_Number.calls k a0 1 1 t1794 t1795 _ ?sv A2.out).mono ?_); (case sv => exact (Vars.below HV.out (by repeat (with_reducible first | exact HB.out | apply bA_ | apply bN_ | apply bD_)))); rintro e w5 ⟨rfl, hb⟩; refine ⟨_, rfl, ?_⟩; replace HB := bB_ (by repeat (with_reducible first | exact HB.out | apply bA_ | apply bN_ | apply bD_)) hb; (try clear hb)) | (refine goesL_ (some 13) rfl rfl Tryd.func48 (by kernel_rfl) rfl #[.int .i64 a0] rfl (by (try simp only [mT_, mC_, mN_]); first | done | rfl) ?_; (with_reducible refine (civil_Leap.calls a0 true _ A3.out).mono ?_); rintro e w' ⟨rfl, ⟨nd, rfl⟩⟩; refine ⟨_, rfl, ?_⟩))
  go_ret2
  exact ⟨by rfl, by repeat (with_reducible first | exact HB.out | apply bA_ | apply bN_ | apply bD_)⟩
 ·replace c4 := Bool.eq_false_iff.mpr c4
  subst c4
  rw [if_neg (show ¬ (false = true) by decide)] at H
  simp only [Option.some.injEq, Prod.mk.injEq] at H
  obtain ⟨rfl, rfl⟩ := H
  go_enter Tryd.func29, Tryd.ntmps29
  go_wp2_with (first | (refine goesL_ (some 9) rfl rfl Tryd.func47 (by kernel_rfl) rfl #[.agg #[.int .i64 a0, .int .i64 1, .int .i64 1]] rfl (by (try simp only [mT_, mC_, mN_]); first | done | rfl) ?_; (with_reducible refine (civil_Number.calls k a0 1 1 t1794 t1795 _ ?sv A2.out).mono ?_); (case sv => exact (Vars.below HV.out (by repeat (with_reducible first | exact HB.out | apply bA_ | apply bN_ | apply bD_)))); rintro e w6 ⟨rfl, hb⟩; refine ⟨_, rfl, ?_⟩; replace HB := bB_ (by repeat (with_reducible first | exact HB.out | apply bA_ | apply bN_ | apply bD_)) hb; (try clear hb)) | (refine goesL_ (some 13) rfl rfl Tryd.func48 (by kernel_rfl) rfl #[.int .i64 a0] rfl (by (try simp only [mT_, mC_, mN_]); first | done | rfl) ?_; (with_reducible refine (civil_Leap.calls a0 false _ A3.out).mono ?_); rintro e w' ⟨rfl, ⟨nd, rfl⟩⟩; refine ⟨_, rfl, ?_⟩))
  go_ret2
  exact ⟨by rfl, by repeat (with_reducible first | exact HB.out | apply bA_ | apply bN_ | apply bD_)⟩

end Go.Proofs.YtbapgkopilmdfaaDoor.X
