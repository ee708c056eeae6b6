-- CUT by prune.py, a program of this session, to what the claim reaches (out of a text that the kit's printer, the session's programs or the session wrote)
import Derived.Test.YtcdbmmlnmefoeaaPRatioSumsXFew
import Derived.Test.YtcdbmmlnmefoeaaPRatioSumsTRight
set_option maxRecDepth 10000
namespace Go.Proofs.Ytcdbmmlnmefoeaa.X
open Go.RowKit Go.Proofs.YtcdbmmlnmefoeaaW.PrintWords Go.Proofs.YtcdbmmlnmefoeaaW.PrintLast

theorem few_at (n d : Int) : At (fun k => demurragelaw02_few.f k n d) (decide (Rgt n d ∧ n < 1000000 ∧ d < 1000000)) := by
  obtain ⟨K, h⟩ := right_at n d
  refine ⟨K, fun k hk => ?_⟩
  have h : demurrageref02_Right.f k n d = some (decide (Rgt n d)) := h k hk
  show demurragelaw02_few.f k n d = _
  unfold demurragelaw02_few.f
  rw [h, Option.bind_some]
  by_cases r : Rgt n d
  · rw [decide_eq_true r, if_pos rfl]
    by_cases c : n < 1000000
    · rw [if_pos c]
      congr 1
      rw [decide_eq_decide]
      exact ⟨fun e => ⟨r, c, e⟩, fun e => e.2.2⟩
    · rw [if_neg c, decide_eq_false (fun e => c e.2.1)]
  · rw [decide_eq_false r, if_neg (by decide), decide_eq_false (fun e => r e.1)]
end Go.Proofs.Ytcdbmmlnmefoeaa.X
