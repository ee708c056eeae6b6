-- WRITTEN BY printx.py, a program of this session, with the kit's printer
import Derived.Test.YtcdbmmlnmefoeaaX0
import Derived.Test.YtcdbmmlnmefoeaaXRound
import Derived.Test.YtcdbmmlnmefoeaaXSThree
namespace Go.Proofs.Ytcdbmmlnmefoeaa.X
open Go.RowKit Go.Proofs.YtcdbmmlnmefoeaaW.PrintWords Go.Proofs.YtcdbmmlnmefoeaaW.PrintLast Go.Proofs.YtcdbmmlnmefoeaaW.PrintMore
attribute [local go_sem] max2_int min2_int max_two min_two max_three min_three max_four min_four   -- for this text's walks alone
set_option linter.unusedVariables false
set_option linter.unusedSimpArgs false

/-! ### demurragelaw03_RoundSplits: function 21 -/
def demurragelaw03_RoundSplits.f (k : Nat) (a0 : Int) (a1 : Int) (a2 : Int) : Option (Bool) := (demurragelaw03_shown.f k).bind fun t5841 => ((demurragelaw03_wide.f (IntKind.u64.wrap ((a0 / 4) + (a1 / 4)))).bind fun bt5842 => ((round_Even.f k bt5842.1 bt5842.2 (IntKind.u64.wrap (2 + (IntKind.u64.wrap (a2))))).bind fun bt5844 => ((demurragelaw03_wide.f (a0 / 4)).bind fun bt5846 => ((round_Even.f k bt5846.1 bt5846.2 (IntKind.u64.wrap (2 + (IntKind.u64.wrap (a2))))).bind fun bt5848 => ((demurragelaw03_wide.f (a1 / 4)).bind fun bt5850 => ((round_Even.f k bt5850.1 bt5850.2 (IntKind.u64.wrap (2 + (IntKind.u64.wrap (a2))))).bind fun bt5852 => ((demurragelaw03_wide.f (IntKind.u64.wrap ((a0 / 4) + (a1 / 4)))).bind fun bt5854 => ((round_Down.f bt5854.1 bt5854.2 (IntKind.u64.wrap (2 + (IntKind.u64.wrap (a2))))).bind fun bt5856 => ((demurragelaw03_wide.f (a0 / 4)).bind fun bt5858 => ((round_Down.f bt5858.1 bt5858.2 (IntKind.u64.wrap (2 + (IntKind.u64.wrap (a2))))).bind fun bt5860 => ((demurragelaw03_wide.f (a1 / 4)).bind fun bt5862 => ((round_Down.f bt5862.1 bt5862.2 (IntKind.u64.wrap (2 + (IntKind.u64.wrap (a2))))).bind fun bt5864 => (if t5841 = true then (if bt5844.2 = 0 then (if bt5848.2 = 0 then (if bt5852.2 = 0 then (if bt5856.2 = 0 then (if bt5860.2 = 0 then (if bt5864.2 = 0 then (if (wrap64 ((wrap64 (bt5844.1 - bt5848.1)) - bt5852.1)) ≥ (-1) then (if (wrap64 ((wrap64 (bt5844.1 - bt5848.1)) - bt5852.1)) ≤ 1 then (if (wrap64 ((wrap64 (bt5856.1 - bt5860.1)) - bt5864.1)) ≥ 0 then (some (decide ((wrap64 ((wrap64 (bt5856.1 - bt5860.1)) - bt5864.1)) ≤ 1))) else (none)) else (none)) else (none)) else (none)) else (none)) else (none)) else (none)) else (none)) else (none)) else (none))))))))))))))
theorem demurragelaw03_RoundSplits.mono : ∀ a0 a1 a2 k, LeO (demurragelaw03_RoundSplits.f k a0 a1 a2) (demurragelaw03_RoundSplits.f (k + 1) a0 a1 a2) := by
  intro a0 a1 a2 k
  unfold demurragelaw03_RoundSplits.f
  repeat' first
      | (with_reducible exact demurragelaw03_shown.mono _)
      | (with_reducible exact round_Even.mono _ _ _ _)
      | (with_reducible exact LeO.refl _)
      | (with_reducible exact LeO.none _)
      | (with_reducible refine LeO.ite ?_ ?_)
      | (with_reducible refine LeO.bind ?_ (fun _ => ?_))
      | exact demurragelaw03_shown.mono _
      | exact round_Even.mono _ _ _ _
      | exact LeO.none _
      | refine LeO.ite ?_ ?_
      | refine LeO.bind ?_ (fun _ => ?_)
set_option maxHeartbeats 8000000 in
set_option maxRecDepth 100000 in
theorem demurragelaw03_RoundSplits.calls (k : Nat) (a0 : Int) (a1 : Int) (a2 : Int) (r : Bool) (w : World) (h : demurragelaw03_RoundSplits.f k a0 a1 a2 = some r) :
    Calls Try.prog 21 #[.int .u64 a0, .int .u64 a1, .int .u32 a2] w fun e w' => e = .returned (.bool r) ∧ Below w.heap.size w w' := by
  have HB := Aside0.mk (Below.refl w.heap.size w)
  have H : ((demurragelaw03_shown.f k).bind fun t5841 => ((demurragelaw03_wide.f (IntKind.u64.wrap ((a0 / 4) + (a1 / 4)))).bind fun bt5842 => ((round_Even.f k bt5842.1 bt5842.2 (IntKind.u64.wrap (2 + (IntKind.u64.wrap (a2))))).bind fun bt5844 => ((demurragelaw03_wide.f (a0 / 4)).bind fun bt5846 => ((round_Even.f k bt5846.1 bt5846.2 (IntKind.u64.wrap (2 + (IntKind.u64.wrap (a2))))).bind fun bt5848 => ((demurragelaw03_wide.f (a1 / 4)).bind fun bt5850 => ((round_Even.f k bt5850.1 bt5850.2 (IntKind.u64.wrap (2 + (IntKind.u64.wrap (a2))))).bind fun bt5852 => ((demurragelaw03_wide.f (IntKind.u64.wrap ((a0 / 4) + (a1 / 4)))).bind fun bt5854 => ((round_Down.f bt5854.1 bt5854.2 (IntKind.u64.wrap (2 + (IntKind.u64.wrap (a2))))).bind fun bt5856 => ((demurragelaw03_wide.f (a0 / 4)).bind fun bt5858 => ((round_Down.f bt5858.1 bt5858.2 (IntKind.u64.wrap (2 + (IntKind.u64.wrap (a2))))).bind fun bt5860 => ((demurragelaw03_wide.f (a1 / 4)).bind fun bt5862 => ((round_Down.f bt5862.1 bt5862.2 (IntKind.u64.wrap (2 + (IntKind.u64.wrap (a2))))).bind fun bt5864 => (if t5841 = true then (if bt5844.2 = 0 then (if bt5848.2 = 0 then (if bt5852.2 = 0 then (if bt5856.2 = 0 then (if bt5860.2 = 0 then (if bt5864.2 = 0 then (if (wrap64 ((wrap64 (bt5844.1 - bt5848.1)) - bt5852.1)) ≥ (-1) then (if (wrap64 ((wrap64 (bt5844.1 - bt5848.1)) - bt5852.1)) ≤ 1 then (if (wrap64 ((wrap64 (bt5856.1 - bt5860.1)) - bt5864.1)) ≥ 0 then (some (decide ((wrap64 ((wrap64 (bt5856.1 - bt5860.1)) - bt5864.1)) ≤ 1))) else (none)) else (none)) else (none)) else (none)) else (none)) else (none)) else (none)) else (none)) else (none)) else (none))))))))))))))) = some r := h
  clear h
  replace H := Option.bind_eq_some_iff.mp H
  obtain ⟨t5841, A40, H⟩ := H
  replace H : ((demurragelaw03_wide.f (IntKind.u64.wrap ((a0 / 4) + (a1 / 4)))).bind fun bt5842 => ((round_Even.f k bt5842.1 bt5842.2 (IntKind.u64.wrap (2 + (IntKind.u64.wrap (a2))))).bind fun bt5844 => ((demurragelaw03_wide.f (a0 / 4)).bind fun bt5846 => ((round_Even.f k bt5846.1 bt5846.2 (IntKind.u64.wrap (2 + (IntKind.u64.wrap (a2))))).bind fun bt5848 => ((demurragelaw03_wide.f (a1 / 4)).bind fun bt5850 => ((round_Even.f k bt5850.1 bt5850.2 (IntKind.u64.wrap (2 + (IntKind.u64.wrap (a2))))).bind fun bt5852 => ((demurragelaw03_wide.f (IntKind.u64.wrap ((a0 / 4) + (a1 / 4)))).bind fun bt5854 => ((round_Down.f bt5854.1 bt5854.2 (IntKind.u64.wrap (2 + (IntKind.u64.wrap (a2))))).bind fun bt5856 => ((demurragelaw03_wide.f (a0 / 4)).bind fun bt5858 => ((round_Down.f bt5858.1 bt5858.2 (IntKind.u64.wrap (2 + (IntKind.u64.wrap (a2))))).bind fun bt5860 => ((demurragelaw03_wide.f (a1 / 4)).bind fun bt5862 => ((round_Down.f bt5862.1 bt5862.2 (IntKind.u64.wrap (2 + (IntKind.u64.wrap (a2))))).bind fun bt5864 => (if t5841 = true then (if bt5844.2 = 0 then (if bt5848.2 = 0 then (if bt5852.2 = 0 then (if bt5856.2 = 0 then (if bt5860.2 = 0 then (if bt5864.2 = 0 then (if (wrap64 ((wrap64 (bt5844.1 - bt5848.1)) - bt5852.1)) ≥ (-1) then (if (wrap64 ((wrap64 (bt5844.1 - bt5848.1)) - bt5852.1)) ≤ 1 then (if (wrap64 ((wrap64 (bt5856.1 - bt5860.1)) - bt5864.1)) ≥ 0 then (some (decide ((wrap64 ((wrap64 (bt5856.1 - bt5860.1)) - bt5864.1)) ≤ 1))) else (none)) else (none)) else (none)) else (none)) else (none)) else (none)) else (none)) else (none)) else (none)) else (none)))))))))))))) = some r := H
  have A4 := Aside0.mk A40
  clear A40
  replace H := Option.bind_eq_some_iff.mp H
  obtain ⟨⟨t5842, t5843⟩, A50, H⟩ := H
  replace H : ((round_Even.f k t5842 t5843 (IntKind.u64.wrap (2 + (IntKind.u64.wrap (a2))))).bind fun bt5844 => ((demurragelaw03_wide.f (a0 / 4)).bind fun bt5846 => ((round_Even.f k bt5846.1 bt5846.2 (IntKind.u64.wrap (2 + (IntKind.u64.wrap (a2))))).bind fun bt5848 => ((demurragelaw03_wide.f (a1 / 4)).bind fun bt5850 => ((round_Even.f k bt5850.1 bt5850.2 (IntKind.u64.wrap (2 + (IntKind.u64.wrap (a2))))).bind fun bt5852 => ((demurragelaw03_wide.f (IntKind.u64.wrap ((a0 / 4) + (a1 / 4)))).bind fun bt5854 => ((round_Down.f bt5854.1 bt5854.2 (IntKind.u64.wrap (2 + (IntKind.u64.wrap (a2))))).bind fun bt5856 => ((demurragelaw03_wide.f (a0 / 4)).bind fun bt5858 => ((round_Down.f bt5858.1 bt5858.2 (IntKind.u64.wrap (2 + (IntKind.u64.wrap (a2))))).bind fun bt5860 => ((demurragelaw03_wide.f (a1 / 4)).bind fun bt5862 => ((round_Down.f bt5862.1 bt5862.2 (IntKind.u64.wrap (2 + (IntKind.u64.wrap (a2))))).bind fun bt5864 => (if t5841 = true then (if bt5844.2 = 0 then (if bt5848.2 = 0 then (if bt5852.2 = 0 then (if bt5856.2 = 0 then (if bt5860.2 = 0 then (if bt5864.2 = 0 then (if (wrap64 ((wrap64 (bt5844.1 - bt5848.1)) - bt5852.1)) ≥ (-1) then (if (wrap64 ((wrap64 (bt5844.1 - bt5848.1)) - bt5852.1)) ≤ 1 then (if (wrap64 ((wrap64 (bt5856.1 - bt5860.1)) - bt5864.1)) ≥ 0 then (some (decide ((wrap64 ((wrap64 (bt5856.1 - bt5860.1)) - bt5864.1)) ≤ 1))) else (none)) else (none)) else (none)) else (none)) else (none)) else (none)) else (none)) else (none)) else (none)) else (none))))))))))))) = some r := H
  have A5 := Aside0.mk A50
  clear A50
  replace H := Option.bind_eq_some_iff.mp H
  obtain ⟨⟨t5844, t5845⟩, A60, H⟩ := H
  replace H : ((demurragelaw03_wide.f (a0 / 4)).bind fun bt5846 => ((round_Even.f k bt5846.1 bt5846.2 (IntKind.u64.wrap (2 + (IntKind.u64.wrap (a2))))).bind fun bt5848 => ((demurragelaw03_wide.f (a1 / 4)).bind fun bt5850 => ((round_Even.f k bt5850.1 bt5850.2 (IntKind.u64.wrap (2 + (IntKind.u64.wrap (a2))))).bind fun bt5852 => ((demurragelaw03_wide.f (IntKind.u64.wrap ((a0 / 4) + (a1 / 4)))).bind fun bt5854 => ((round_Down.f bt5854.1 bt5854.2 (IntKind.u64.wrap (2 + (IntKind.u64.wrap (a2))))).bind fun bt5856 => ((demurragelaw03_wide.f (a0 / 4)).bind fun bt5858 => ((round_Down.f bt5858.1 bt5858.2 (IntKind.u64.wrap (2 + (IntKind.u64.wrap (a2))))).bind fun bt5860 => ((demurragelaw03_wide.f (a1 / 4)).bind fun bt5862 => ((round_Down.f bt5862.1 bt5862.2 (IntKind.u64.wrap (2 + (IntKind.u64.wrap (a2))))).bind fun bt5864 => (if t5841 = true then (if t5845 = 0 then (if bt5848.2 = 0 then (if bt5852.2 = 0 then (if bt5856.2 = 0 then (if bt5860.2 = 0 then (if bt5864.2 = 0 then (if (wrap64 ((wrap64 (t5844 - bt5848.1)) - bt5852.1)) ≥ (-1) then (if (wrap64 ((wrap64 (t5844 - bt5848.1)) - bt5852.1)) ≤ 1 then (if (wrap64 ((wrap64 (bt5856.1 - bt5860.1)) - bt5864.1)) ≥ 0 then (some (decide ((wrap64 ((wrap64 (bt5856.1 - bt5860.1)) - bt5864.1)) ≤ 1))) else (none)) else (none)) else (none)) else (none)) else (none)) else (none)) else (none)) else (none)) else (none)) else (none)))))))))))) = some r := H
  have A6 := Aside0.mk A60
  clear A60
  replace H := Option.bind_eq_some_iff.mp H
  obtain ⟨⟨t5846, t5847⟩, A70, H⟩ := H
  replace H : ((round_Even.f k t5846 t5847 (IntKind.u64.wrap (2 + (IntKind.u64.wrap (a2))))).bind fun bt5848 => ((demurragelaw03_wide.f (a1 / 4)).bind fun bt5850 => ((round_Even.f k bt5850.1 bt5850.2 (IntKind.u64.wrap (2 + (IntKind.u64.wrap (a2))))).bind fun bt5852 => ((demurragelaw03_wide.f (IntKind.u64.wrap ((a0 / 4) + (a1 / 4)))).bind fun bt5854 => ((round_Down.f bt5854.1 bt5854.2 (IntKind.u64.wrap (2 + (IntKind.u64.wrap (a2))))).bind fun bt5856 => ((demurragelaw03_wide.f (a0 / 4)).bind fun bt5858 => ((round_Down.f bt5858.1 bt5858.2 (IntKind.u64.wrap (2 + (IntKind.u64.wrap (a2))))).bind fun bt5860 => ((demurragelaw03_wide.f (a1 / 4)).bind fun bt5862 => ((round_Down.f bt5862.1 bt5862.2 (IntKind.u64.wrap (2 + (IntKind.u64.wrap (a2))))).bind fun bt5864 => (if t5841 = true then (if t5845 = 0 then (if bt5848.2 = 0 then (if bt5852.2 = 0 then (if bt5856.2 = 0 then (if bt5860.2 = 0 then (if bt5864.2 = 0 then (if (wrap64 ((wrap64 (t5844 - bt5848.1)) - bt5852.1)) ≥ (-1) then (if (wrap64 ((wrap64 (t5844 - bt5848.1)) - bt5852.1)) ≤ 1 then (if (wrap64 ((wrap64 (bt5856.1 - bt5860.1)) - bt5864.1)) ≥ 0 then (some (decide ((wrap64 ((wrap64 (bt5856.1 - bt5860.1)) - bt5864.1)) ≤ 1))) else (none)) else (none)) else (none)) else (none)) else (none)) else (none)) else (none)) else (none)) else (none)) else (none))))))))))) = some r := H
  have A7 := Aside0.mk A70
  clear A70
  replace H := Option.bind_eq_some_iff.mp H
  obtain ⟨⟨t5848, t5849⟩, A80, H⟩ := H
  replace H : ((demurragelaw03_wide.f (a1 / 4)).bind fun bt5850 => ((round_Even.f k bt5850.1 bt5850.2 (IntKind.u64.wrap (2 + (IntKind.u64.wrap (a2))))).bind fun bt5852 => ((demurragelaw03_wide.f (IntKind.u64.wrap ((a0 / 4) + (a1 / 4)))).bind fun bt5854 => ((round_Down.f bt5854.1 bt5854.2 (IntKind.u64.wrap (2 + (IntKind.u64.wrap (a2))))).bind fun bt5856 => ((demurragelaw03_wide.f (a0 / 4)).bind fun bt5858 => ((round_Down.f bt5858.1 bt5858.2 (IntKind.u64.wrap (2 + (IntKind.u64.wrap (a2))))).bind fun bt5860 => ((demurragelaw03_wide.f (a1 / 4)).bind fun bt5862 => ((round_Down.f bt5862.1 bt5862.2 (IntKind.u64.wrap (2 + (IntKind.u64.wrap (a2))))).bind fun bt5864 => (if t5841 = true then (if t5845 = 0 then (if t5849 = 0 then (if bt5852.2 = 0 then (if bt5856.2 = 0 then (if bt5860.2 = 0 then (if bt5864.2 = 0 then (if (wrap64 ((wrap64 (t5844 - t5848)) - bt5852.1)) ≥ (-1) then (if (wrap64 ((wrap64 (t5844 - t5848)) - bt5852.1)) ≤ 1 then (if (wrap64 ((wrap64 (bt5856.1 - bt5860.1)) - bt5864.1)) ≥ 0 then (some (decide ((wrap64 ((wrap64 (bt5856.1 - bt5860.1)) - bt5864.1)) ≤ 1))) else (none)) else (none)) else (none)) else (none)) else (none)) else (none)) else (none)) else (none)) else (none)) else (none)))))))))) = some r := H
  have A8 := Aside0.mk A80
  clear A80
  replace H := Option.bind_eq_some_iff.mp H
  obtain ⟨⟨t5850, t5851⟩, A90, H⟩ := H
  replace H : ((round_Even.f k t5850 t5851 (IntKind.u64.wrap (2 + (IntKind.u64.wrap (a2))))).bind fun bt5852 => ((demurragelaw03_wide.f (IntKind.u64.wrap ((a0 / 4) + (a1 / 4)))).bind fun bt5854 => ((round_Down.f bt5854.1 bt5854.2 (IntKind.u64.wrap (2 + (IntKind.u64.wrap (a2))))).bind fun bt5856 => ((demurragelaw03_wide.f (a0 / 4)).bind fun bt5858 => ((round_Down.f bt5858.1 bt5858.2 (IntKind.u64.wrap (2 + (IntKind.u64.wrap (a2))))).bind fun bt5860 => ((demurragelaw03_wide.f (a1 / 4)).bind fun bt5862 => ((round_Down.f bt5862.1 bt5862.2 (IntKind.u64.wrap (2 + (IntKind.u64.wrap (a2))))).bind fun bt5864 => (if t5841 = true then (if t5845 = 0 then (if t5849 = 0 then (if bt5852.2 = 0 then (if bt5856.2 = 0 then (if bt5860.2 = 0 then (if bt5864.2 = 0 then (if (wrap64 ((wrap64 (t5844 - t5848)) - bt5852.1)) ≥ (-1) then (if (wrap64 ((wrap64 (t5844 - t5848)) - bt5852.1)) ≤ 1 then (if (wrap64 ((wrap64 (bt5856.1 - bt5860.1)) - bt5864.1)) ≥ 0 then (some (decide ((wrap64 ((wrap64 (bt5856.1 - bt5860.1)) - bt5864.1)) ≤ 1))) else (none)) else (none)) else (none)) else (none)) else (none)) else (none)) else (none)) else (none)) else (none)) else (none))))))))) = some r := H
  have A9 := Aside0.mk A90
  clear A90
  replace H := Option.bind_eq_some_iff.mp H
  obtain ⟨⟨t5852, t5853⟩, A100, H⟩ := H
  replace H : ((demurragelaw03_wide.f (IntKind.u64.wrap ((a0 / 4) + (a1 / 4)))).bind fun bt5854 => ((round_Down.f bt5854.1 bt5854.2 (IntKind.u64.wrap (2 + (IntKind.u64.wrap (a2))))).bind fun bt5856 => ((demurragelaw03_wide.f (a0 / 4)).bind fun bt5858 => ((round_Down.f bt5858.1 bt5858.2 (IntKind.u64.wrap (2 + (IntKind.u64.wrap (a2))))).bind fun bt5860 => ((demurragelaw03_wide.f (a1 / 4)).bind fun bt5862 => ((round_Down.f bt5862.1 bt5862.2 (IntKind.u64.wrap (2 + (IntKind.u64.wrap (a2))))).bind fun bt5864 => (if t5841 = true then (if t5845 = 0 then (if t5849 = 0 then (if t5853 = 0 then (if bt5856.2 = 0 then (if bt5860.2 = 0 then (if bt5864.2 = 0 then (if (wrap64 ((wrap64 (t5844 - t5848)) - t5852)) ≥ (-1) then (if (wrap64 ((wrap64 (t5844 - t5848)) - t5852)) ≤ 1 then (if (wrap64 ((wrap64 (bt5856.1 - bt5860.1)) - bt5864.1)) ≥ 0 then (some (decide ((wrap64 ((wrap64 (bt5856.1 - bt5860.1)) - bt5864.1)) ≤ 1))) else (none)) else (none)) else (none)) else (none)) else (none)) else (none)) else (none)) else (none)) else (none)) else (none)))))))) = some r := H
  have A10 := Aside0.mk A100
  clear A100
  replace H := Option.bind_eq_some_iff.mp H
  obtain ⟨⟨t5854, t5855⟩, A110, H⟩ := H
  replace H : ((round_Down.f t5854 t5855 (IntKind.u64.wrap (2 + (IntKind.u64.wrap (a2))))).bind fun bt5856 => ((demurragelaw03_wide.f (a0 / 4)).bind fun bt5858 => ((round_Down.f bt5858.1 bt5858.2 (IntKind.u64.wrap (2 + (IntKind.u64.wrap (a2))))).bind fun bt5860 => ((demurragelaw03_wide.f (a1 / 4)).bind fun bt5862 => ((round_Down.f bt5862.1 bt5862.2 (IntKind.u64.wrap (2 + (IntKind.u64.wrap (a2))))).bind fun bt5864 => (if t5841 = true then (if t5845 = 0 then (if t5849 = 0 then (if t5853 = 0 then (if bt5856.2 = 0 then (if bt5860.2 = 0 then (if bt5864.2 = 0 then (if (wrap64 ((wrap64 (t5844 - t5848)) - t5852)) ≥ (-1) then (if (wrap64 ((wrap64 (t5844 - t5848)) - t5852)) ≤ 1 then (if (wrap64 ((wrap64 (bt5856.1 - bt5860.1)) - bt5864.1)) ≥ 0 then (some (decide ((wrap64 ((wrap64 (bt5856.1 - bt5860.1)) - bt5864.1)) ≤ 1))) else (none)) else (none)) else (none)) else (none)) else (none)) else (none)) else (none)) else (none)) else (none)) else (none))))))) = some r := H
  have A11 := Aside0.mk A110
  clear A110
  replace H := Option.bind_eq_some_iff.mp H
  obtain ⟨⟨t5856, t5857⟩, A120, H⟩ := H
  replace H : ((demurragelaw03_wide.f (a0 / 4)).bind fun bt5858 => ((round_Down.f bt5858.1 bt5858.2 (IntKind.u64.wrap (2 + (IntKind.u64.wrap (a2))))).bind fun bt5860 => ((demurragelaw03_wide.f (a1 / 4)).bind fun bt5862 => ((round_Down.f bt5862.1 bt5862.2 (IntKind.u64.wrap (2 + (IntKind.u64.wrap (a2))))).bind fun bt5864 => (if t5841 = true then (if t5845 = 0 then (if t5849 = 0 then (if t5853 = 0 then (if t5857 = 0 then (if bt5860.2 = 0 then (if bt5864.2 = 0 then (if (wrap64 ((wrap64 (t5844 - t5848)) - t5852)) ≥ (-1) then (if (wrap64 ((wrap64 (t5844 - t5848)) - t5852)) ≤ 1 then (if (wrap64 ((wrap64 (t5856 - bt5860.1)) - bt5864.1)) ≥ 0 then (some (decide ((wrap64 ((wrap64 (t5856 - bt5860.1)) - bt5864.1)) ≤ 1))) else (none)) else (none)) else (none)) else (none)) else (none)) else (none)) else (none)) else (none)) else (none)) else (none)))))) = some r := H
  have A12 := Aside0.mk A120
  clear A120
  replace H := Option.bind_eq_some_iff.mp H
  obtain ⟨⟨t5858, t5859⟩, A130, H⟩ := H
  replace H : ((round_Down.f t5858 t5859 (IntKind.u64.wrap (2 + (IntKind.u64.wrap (a2))))).bind fun bt5860 => ((demurragelaw03_wide.f (a1 / 4)).bind fun bt5862 => ((round_Down.f bt5862.1 bt5862.2 (IntKind.u64.wrap (2 + (IntKind.u64.wrap (a2))))).bind fun bt5864 => (if t5841 = true then (if t5845 = 0 then (if t5849 = 0 then (if t5853 = 0 then (if t5857 = 0 then (if bt5860.2 = 0 then (if bt5864.2 = 0 then (if (wrap64 ((wrap64 (t5844 - t5848)) - t5852)) ≥ (-1) then (if (wrap64 ((wrap64 (t5844 - t5848)) - t5852)) ≤ 1 then (if (wrap64 ((wrap64 (t5856 - bt5860.1)) - bt5864.1)) ≥ 0 then (some (decide ((wrap64 ((wrap64 (t5856 - bt5860.1)) - bt5864.1)) ≤ 1))) else (none)) else (none)) else (none)) else (none)) else (none)) else (none)) else (none)) else (none)) else (none)) else (none))))) = some r := H
  have A13 := Aside0.mk A130
  clear A130
  replace H := Option.bind_eq_some_iff.mp H
  obtain ⟨⟨t5860, t5861⟩, A140, H⟩ := H
  replace H : ((demurragelaw03_wide.f (a1 / 4)).bind fun bt5862 => ((round_Down.f bt5862.1 bt5862.2 (IntKind.u64.wrap (2 + (IntKind.u64.wrap (a2))))).bind fun bt5864 => (if t5841 = true then (if t5845 = 0 then (if t5849 = 0 then (if t5853 = 0 then (if t5857 = 0 then (if t5861 = 0 then (if bt5864.2 = 0 then (if (wrap64 ((wrap64 (t5844 - t5848)) - t5852)) ≥ (-1) then (if (wrap64 ((wrap64 (t5844 - t5848)) - t5852)) ≤ 1 then (if (wrap64 ((wrap64 (t5856 - t5860)) - bt5864.1)) ≥ 0 then (some (decide ((wrap64 ((wrap64 (t5856 - t5860)) - bt5864.1)) ≤ 1))) else (none)) else (none)) else (none)) else (none)) else (none)) else (none)) else (none)) else (none)) else (none)) else (none)))) = some r := H
  have A14 := Aside0.mk A140
  clear A140
  replace H := Option.bind_eq_some_iff.mp H
  obtain ⟨⟨t5862, t5863⟩, A150, H⟩ := H
  replace H : ((round_Down.f t5862 t5863 (IntKind.u64.wrap (2 + (IntKind.u64.wrap (a2))))).bind fun bt5864 => (if t5841 = true then (if t5845 = 0 then (if t5849 = 0 then (if t5853 = 0 then (if t5857 = 0 then (if t5861 = 0 then (if bt5864.2 = 0 then (if (wrap64 ((wrap64 (t5844 - t5848)) - t5852)) ≥ (-1) then (if (wrap64 ((wrap64 (t5844 - t5848)) - t5852)) ≤ 1 then (if (wrap64 ((wrap64 (t5856 - t5860)) - bt5864.1)) ≥ 0 then (some (decide ((wrap64 ((wrap64 (t5856 - t5860)) - bt5864.1)) ≤ 1))) else (none)) else (none)) else (none)) else (none)) else (none)) else (none)) else (none)) else (none)) else (none)) else (none))) = some r := H
  have A15 := Aside0.mk A150
  clear A150
  replace H := Option.bind_eq_some_iff.mp H
  obtain ⟨⟨t5864, t5865⟩, A160, H⟩ := H
  replace H : (if t5841 = true then (if t5845 = 0 then (if t5849 = 0 then (if t5853 = 0 then (if t5857 = 0 then (if t5861 = 0 then (if t5865 = 0 then (if (wrap64 ((wrap64 (t5844 - t5848)) - t5852)) ≥ (-1) then (if (wrap64 ((wrap64 (t5844 - t5848)) - t5852)) ≤ 1 then (if (wrap64 ((wrap64 (t5856 - t5860)) - t5864)) ≥ 0 then (some (decide ((wrap64 ((wrap64 (t5856 - t5860)) - t5864)) ≤ 1))) else (none)) else (none)) else (none)) else (none)) else (none)) else (none)) else (none)) else (none)) else (none)) else (none)) = some r := H
  have A16 := Aside0.mk A160
  clear A160
  by_cases c17 : t5841 = true
  · subst c17
    have H1 : (if t5845 = 0 then (if t5849 = 0 then (if t5853 = 0 then (if t5857 = 0 then (if t5861 = 0 then (if t5865 = 0 then (if (wrap64 ((wrap64 (t5844 - t5848)) - t5852)) ≥ (-1) then (if (wrap64 ((wrap64 (t5844 - t5848)) - t5852)) ≤ 1 then (if (wrap64 ((wrap64 (t5856 - t5860)) - t5864)) ≥ 0 then (some (decide ((wrap64 ((wrap64 (t5856 - t5860)) - t5864)) ≤ 1))) else (none)) else (none)) else (none)) else (none)) else (none)) else (none)) else (none)) else (none)) else (none)) = some r := by rw [if_pos rfl] at H; exact H
    clear H
    have H := H1
    clear H1
    by_cases c18 : t5845 = 0
    · rw [if_pos c18] at H
      have c18b0 : (t5845 == 0) = true := beq_iff_eq.mpr c18
      have c18b1 : (t5845 != 0) = false := bne_eq_false_iff_eq.mpr c18
      clear c18
      by_cases c19 : t5849 = 0
      · rw [if_pos c19] at H
        have c19b0 : (t5849 == 0) = true := beq_iff_eq.mpr c19
        have c19b1 : (t5849 != 0) = false := bne_eq_false_iff_eq.mpr c19
        clear c19
        by_cases c20 : t5853 = 0
        · rw [if_pos c20] at H
          have c20b0 : (t5853 == 0) = true := beq_iff_eq.mpr c20
          have c20b1 : (t5853 != 0) = false := bne_eq_false_iff_eq.mpr c20
          clear c20
          by_cases c21 : t5857 = 0
          · rw [if_pos c21] at H
            have c21b0 : (t5857 == 0) = true := beq_iff_eq.mpr c21
            have c21b1 : (t5857 != 0) = false := bne_eq_false_iff_eq.mpr c21
            clear c21
            by_cases c22 : t5861 = 0
            · rw [if_pos c22] at H
              have c22b0 : (t5861 == 0) = true := beq_iff_eq.mpr c22
              have c22b1 : (t5861 != 0) = false := bne_eq_false_iff_eq.mpr c22
              clear c22
              by_cases c23 : t5865 = 0
              · rw [if_pos c23] at H
                have c23b0 : (t5865 == 0) = true := beq_iff_eq.mpr c23
                have c23b1 : (t5865 != 0) = false := bne_eq_false_iff_eq.mpr c23
                clear c23
                by_cases c24 : (wrap64 ((wrap64 (t5844 - t5848)) - t5852)) ≥ (-1)
                · rw [if_pos c24] at H
                  have c24b0 : decide ((-1) ≤ (wrap64 ((wrap64 (t5844 - t5848)) - t5852))) = true := decide_eq_true c24
                  clear c24
                  by_cases c25 : (wrap64 ((wrap64 (t5844 - t5848)) - t5852)) ≤ 1
                  · rw [if_pos c25] at H
                    have c25b0 : decide ((wrap64 ((wrap64 (t5844 - t5848)) - t5852)) ≤ 1) = true := decide_eq_true c25
                    clear c25
                    by_cases c26 : (wrap64 ((wrap64 (t5856 - t5860)) - t5864)) ≥ 0
                    · rw [if_pos c26] at H
                      have c26b0 : decide (0 ≤ (wrap64 ((wrap64 (t5856 - t5860)) - t5864))) = true := decide_eq_true c26
                      clear c26
                      obtain rfl := Option.some.inj H
                      go_enter Try.func21, Try.ntmps21
                      go_wp2_with (first | ((with_reducible refine gate_callee (f := 53) rfl ?_); refine goesL_ (some 24) rfl rfl Try.func53 (by kernel_rfl) rfl #[] rfl (by (try simp only [List.map_toArray, List.map_cons, List.map_nil]); first | done | rfl | (simp only [List.length_drop, List.length_take]; rfl)) ?_; (with_reducible refine (demurragelaw03_shown.calls k  true _ A4.out).mono ?_); rintro e w27 ⟨rfl, hb⟩; refine ⟨_, rfl, ?_⟩; have n0_ := Aside0.mk (below_step (by repeat (first | (with_reducible first | exact HB.out | apply below_alloc | apply pw_below_drewN | apply below_drew1) | exact HB.out)) hb); clear HB; have HB := n0_; clear n0_; (try clear hb); (try clear hb2); (try clear hk); (try clear hi)) | ((with_reducible refine gate_callee (f := 60) rfl ?_); refine goesL_ (some 36) rfl rfl Try.func60 (by kernel_rfl) rfl #[.int .u64 (IntKind.u64.wrap ((a0 / 4) + (a1 / 4)))] rfl (by (try simp only [List.map_toArray, List.map_cons, List.map_nil]); first | done | rfl | (simp only [List.length_drop, List.length_take]; rfl)) ?_; (with_reducible refine (demurragelaw03_wide.calls (IntKind.u64.wrap ((a0 / 4) + (a1 / 4))) t5842 t5843 _ A5.out).mono ?_); rintro e w28 ⟨rfl, hb⟩; refine ⟨_, rfl, ?_⟩; have n0_ := Aside0.mk (below_step (by repeat (first | (with_reducible first | exact HB.out | apply below_alloc | apply pw_below_drewN | apply below_drew1) | exact HB.out)) hb); clear HB; have HB := n0_; clear n0_; (try clear hb); (try clear hb2); (try clear hk); (try clear hi)) | ((with_reducible refine gate_callee (f := 56) rfl ?_); refine goesL_ (some 38) rfl rfl Try.func56 (by kernel_rfl) rfl #[.agg #[.int .u64 t5842, .int .u64 t5843], .int .u64 (IntKind.u64.wrap (2 + (IntKind.u64.wrap (a2))))] rfl (by (try simp only [List.map_toArray, List.map_cons, List.map_nil]); first | done | rfl | (simp only [List.length_drop, List.length_take]; rfl)) ?_; (with_reducible refine (round_Even.calls k t5842 t5843 (IntKind.u64.wrap (2 + (IntKind.u64.wrap (a2)))) t5844 t5845 _ A6.out).mono ?_); rintro e w29 ⟨rfl, hb⟩; refine ⟨_, rfl, ?_⟩; have n0_ := Aside0.mk (below_step (by repeat (first | (with_reducible first | exact HB.out | apply below_alloc | apply pw_below_drewN | apply below_drew1) | exact HB.out)) hb); clear HB; have HB := n0_; clear n0_; (try clear hb); (try clear hb2); (try clear hk); (try clear hi)) | ((with_reducible refine gate_callee (f := 60) rfl ?_); refine goesL_ (some 43) rfl rfl Try.func60 (by kernel_rfl) rfl #[.int .u64 (a0 / 4)] rfl (by (try simp only [List.map_toArray, List.map_cons, List.map_nil]); first | done | rfl | (simp only [List.length_drop, List.length_take]; rfl)) ?_; (with_reducible refine (demurragelaw03_wide.calls (a0 / 4) t5846 t5847 _ A7.out).mono ?_); rintro e w30 ⟨rfl, hb⟩; refine ⟨_, rfl, ?_⟩; have n0_ := Aside0.mk (below_step (by repeat (first | (with_reducible first | exact HB.out | apply below_alloc | apply pw_below_drewN | apply below_drew1) | exact HB.out)) hb); clear HB; have HB := n0_; clear n0_; (try clear hb); (try clear hb2); (try clear hk); (try clear hi)) | ((with_reducible refine gate_callee (f := 56) rfl ?_); refine goesL_ (some 45) rfl rfl Try.func56 (by kernel_rfl) rfl #[.agg #[.int .u64 t5846, .int .u64 t5847], .int .u64 (IntKind.u64.wrap (2 + (IntKind.u64.wrap (a2))))] rfl (by (try simp only [List.map_toArray, List.map_cons, List.map_nil]); first | done | rfl | (simp only [List.length_drop, List.length_take]; rfl)) ?_; (with_reducible refine (round_Even.calls k t5846 t5847 (IntKind.u64.wrap (2 + (IntKind.u64.wrap (a2)))) t5848 t5849 _ A8.out).mono ?_); rintro e w31 ⟨rfl, hb⟩; refine ⟨_, rfl, ?_⟩; have n0_ := Aside0.mk (below_step (by repeat (first | (with_reducible first | exact HB.out | apply below_alloc | apply pw_below_drewN | apply below_drew1) | exact HB.out)) hb); clear HB; have HB := n0_; clear n0_; (try clear hb); (try clear hb2); (try clear hk); (try clear hi)) | ((with_reducible refine gate_callee (f := 60) rfl ?_); refine goesL_ (some 50) rfl rfl Try.func60 (by kernel_rfl) rfl #[.int .u64 (a1 / 4)] rfl (by (try simp only [List.map_toArray, List.map_cons, List.map_nil]); first | done | rfl | (simp only [List.length_drop, List.length_take]; rfl)) ?_; (with_reducible refine (demurragelaw03_wide.calls (a1 / 4) t5850 t5851 _ A9.out).mono ?_); rintro e w32 ⟨rfl, hb⟩; refine ⟨_, rfl, ?_⟩; have n0_ := Aside0.mk (below_step (by repeat (first | (with_reducible first | exact HB.out | apply below_alloc | apply pw_below_drewN | apply below_drew1) | exact HB.out)) hb); clear HB; have HB := n0_; clear n0_; (try clear hb); (try clear hb2); (try clear hk); (try clear hi)) | ((with_reducible refine gate_callee (f := 56) rfl ?_); refine goesL_ (some 52) rfl rfl Try.func56 (by kernel_rfl) rfl #[.agg #[.int .u64 t5850, .int .u64 t5851], .int .u64 (IntKind.u64.wrap (2 + (IntKind.u64.wrap (a2))))] rfl (by (try simp only [List.map_toArray, List.map_cons, List.map_nil]); first | done | rfl | (simp only [List.length_drop, List.length_take]; rfl)) ?_; (with_reducible refine (round_Even.calls k t5850 t5851 (IntKind.u64.wrap (2 + (IntKind.u64.wrap (a2)))) t5852 t5853 _ A10.out).mono ?_); rintro e w33 ⟨rfl, hb⟩; refine ⟨_, rfl, ?_⟩; have n0_ := Aside0.mk (below_step (by repeat (first | (with_reducible first | exact HB.out | apply below_alloc | apply pw_below_drewN | apply below_drew1) | exact HB.out)) hb); clear HB; have HB := n0_; clear n0_; (try clear hb); (try clear hb2); (try clear hk); (try clear hi)) | ((with_reducible refine gate_callee (f := 60) rfl ?_); refine goesL_ (some 59) rfl rfl Try.func60 (by kernel_rfl) rfl #[.int .u64 (IntKind.u64.wrap ((a0 / 4) + (a1 / 4)))] rfl (by (try simp only [List.map_toArray, List.map_cons, List.map_nil]); first | done | rfl | (simp only [List.length_drop, List.length_take]; rfl)) ?_; (with_reducible refine (demurragelaw03_wide.calls (IntKind.u64.wrap ((a0 / 4) + (a1 / 4))) t5854 t5855 _ A11.out).mono ?_); rintro e w34 ⟨rfl, hb⟩; refine ⟨_, rfl, ?_⟩; have n0_ := Aside0.mk (below_step (by repeat (first | (with_reducible first | exact HB.out | apply below_alloc | apply pw_below_drewN | apply below_drew1) | exact HB.out)) hb); clear HB; have HB := n0_; clear n0_; (try clear hb); (try clear hb2); (try clear hk); (try clear hi)) | ((with_reducible refine gate_callee (f := 54) rfl ?_); refine goesL_ (some 61) rfl rfl Try.func54 (by kernel_rfl) rfl #[.agg #[.int .u64 t5854, .int .u64 t5855], .int .u64 (IntKind.u64.wrap (2 + (IntKind.u64.wrap (a2))))] rfl (by (try simp only [List.map_toArray, List.map_cons, List.map_nil]); first | done | rfl | (simp only [List.length_drop, List.length_take]; rfl)) ?_; (with_reducible refine (round_Down.calls t5854 t5855 (IntKind.u64.wrap (2 + (IntKind.u64.wrap (a2)))) t5856 t5857 _ A12.out).mono ?_); rintro e w35 ⟨rfl, hb⟩; refine ⟨_, rfl, ?_⟩; have n0_ := Aside0.mk (below_step (by repeat (first | (with_reducible first | exact HB.out | apply below_alloc | apply pw_below_drewN | apply below_drew1) | exact HB.out)) hb); clear HB; have HB := n0_; clear n0_; (try clear hb); (try clear hb2); (try clear hk); (try clear hi)) | ((with_reducible refine gate_callee (f := 60) rfl ?_); refine goesL_ (some 66) rfl rfl Try.func60 (by kernel_rfl) rfl #[.int .u64 (a0 / 4)] rfl (by (try simp only [List.map_toArray, List.map_cons, List.map_nil]); first | done | rfl | (simp only [List.length_drop, List.length_take]; rfl)) ?_; (with_reducible refine (demurragelaw03_wide.calls (a0 / 4) t5858 t5859 _ A13.out).mono ?_); rintro e w36 ⟨rfl, hb⟩; refine ⟨_, rfl, ?_⟩; have n0_ := Aside0.mk (below_step (by repeat (first | (with_reducible first | exact HB.out | apply below_alloc | apply pw_below_drewN | apply below_drew1) | exact HB.out)) hb); clear HB; have HB := n0_; clear n0_; (try clear hb); (try clear hb2); (try clear hk); (try clear hi)) | ((with_reducible refine gate_callee (f := 54) rfl ?_); refine goesL_ (some 68) rfl rfl Try.func54 (by kernel_rfl) rfl #[.agg #[.int .u64 t5858, .int .u64 t5859], .int .u64 (IntKind.u64.wrap (2 + (IntKind.u64.wrap (a2))))] rfl (by (try simp only [List.map_toArray, List.map_cons, List.map_nil]); first | done | rfl | (simp only [List.length_drop, List.length_take]; rfl)) ?_; (with_reducible refine (round_Down.calls t5858 t5859 (IntKind.u64.wrap (2 + (IntKind.u64.wrap (a2)))) t5860 t5861 _ A14.out).mono ?_); rintro e w37 ⟨rfl, hb⟩; refine ⟨_, rfl, ?_⟩; have n0_ := Aside0.mk (below_step (by repeat (first | (with_reducible first | exact HB.out | apply below_alloc | apply pw_below_drewN | apply below_drew1) | exact HB.out)) hb); clear HB; have HB := n0_; clear n0_; (try clear hb); (try clear hb2); (try clear hk); (try clear hi)) | ((with_reducible refine gate_callee (f := 60) rfl ?_); refine goesL_ (some 73) rfl rfl Try.func60 (by kernel_rfl) rfl #[.int .u64 (a1 / 4)] rfl (by (try simp only [List.map_toArray, List.map_cons, List.map_nil]); first | done | rfl | (simp only [List.length_drop, List.length_take]; rfl)) ?_; (with_reducible refine (demurragelaw03_wide.calls (a1 / 4) t5862 t5863 _ A15.out).mono ?_); rintro e w38 ⟨rfl, hb⟩; refine ⟨_, rfl, ?_⟩; have n0_ := Aside0.mk (below_step (by repeat (first | (with_reducible first | exact HB.out | apply below_alloc | apply pw_below_drewN | apply below_drew1) | exact HB.out)) hb); clear HB; have HB := n0_; clear n0_; (try clear hb); (try clear hb2); (try clear hk); (try clear hi)) | ((with_reducible refine gate_callee (f := 54) rfl ?_); refine goesL_ (some 75) rfl rfl Try.func54 (by kernel_rfl) rfl #[.agg #[.int .u64 t5862, .int .u64 t5863], .int .u64 (IntKind.u64.wrap (2 + (IntKind.u64.wrap (a2))))] rfl (by (try simp only [List.map_toArray, List.map_cons, List.map_nil]); first | done | rfl | (simp only [List.length_drop, List.length_take]; rfl)) ?_; (with_reducible refine (round_Down.calls t5862 t5863 (IntKind.u64.wrap (2 + (IntKind.u64.wrap (a2)))) t5864 t5865 _ A16.out).mono ?_); rintro e w39 ⟨rfl, hb⟩; refine ⟨_, rfl, ?_⟩; have n0_ := Aside0.mk (below_step (by repeat (first | (with_reducible first | exact HB.out | apply below_alloc | apply pw_below_drewN | apply below_drew1) | exact HB.out)) hb); clear HB; have HB := n0_; clear n0_; (try clear hb); (try clear hb2); (try clear hk); (try clear hi)))
                      go_ret
                      exact ⟨by first | rfl | (simp [errW_none, errW_some] <;> rfl) | (simp [*, errW_none, errW_some] <;> rfl), by repeat (first | (with_reducible first | exact HB.out | apply below_alloc | apply pw_below_drewN | apply below_drew1) | exact HB.out)⟩
                    · rw [if_neg c26] at H
                      exact absurd H (by simp)
                  · rw [if_neg c25] at H
                    exact absurd H (by simp)
                · rw [if_neg c24] at H
                  exact absurd H (by simp)
              · rw [if_neg c23] at H
                exact absurd H (by simp)
            · rw [if_neg c22] at H
              exact absurd H (by simp)
          · rw [if_neg c21] at H
            exact absurd H (by simp)
        · rw [if_neg c20] at H
          exact absurd H (by simp)
      · rw [if_neg c19] at H
        exact absurd H (by simp)
    · rw [if_neg c18] at H
      exact absurd H (by simp)
  · replace c17 := Bool.eq_false_iff.mpr c17
    subst c17
    have H1 : (none) = some r := by rw [if_neg (show ¬ (false = true) by decide)] at H; exact H
    clear H
    have H := H1
    clear H1
    exact absurd H (by simp)

/-- THE ONE PURE STATEMENT of demurragelaw03_RoundSplits: yours. -/
def demurragelaw03_RoundSplits.Pure : Prop := ∀ (a0 : Int) (a1 : Int) (a2 : Int), (Lit.int .u64 a0).wf = true → (Lit.int .u64 a1).wf = true → (Lit.int .u32 a2).wf = true → ∃ k, demurragelaw03_RoundSplits.f k a0 a1 a2 = some true
theorem demurragelaw03_RoundSplits.walk (P : demurragelaw03_RoundSplits.Pure) (a0 : Int) (a1 : Int) (a2 : Int) (w : World) (w0 : (Lit.int .u64 a0).wf = true) (w1 : (Lit.int .u64 a1).wf = true) (w2 : (Lit.int .u32 a2).wf = true) :
    Calls Try.prog 21 #[.int .u64 a0, .int .u64 a1, .int .u32 a2] w fun e w' => e = .returned (.bool true) ∧ Below w.heap.size w w' := by
  obtain ⟨k, h⟩ := P a0 a1 a2 w0 w1 w2
  refine (demurragelaw03_RoundSplits.calls k a0 a1 a2 true w h).mono ?_
  rintro e w' ⟨rfl, hd⟩
  exact ⟨rfl, hd⟩

end Go.Proofs.Ytcdbmmlnmefoeaa.X
