-- CUT by prune.py, a program of this session, to what the claim reaches (out of a text that the kit's printer, the session's programs or the session wrote)
import Derived.Test.YtcdbmmlnmefoeaaPRatioLawsTBig
namespace Go.Proofs.Ytcdbmmlnmefoeaa.X
open Go.RowKit Go.Proofs.YtcdbmmlnmefoeaaW.PrintWords Go.Proofs.YtcdbmmlnmefoeaaW.PrintLast

/-- What is answered in so many rounds is answered in more. -/
theorem At.grow {α : Type} {f : Nat → Option α} {r : α} {K : Nat} (m : ∀ k, LeO (f k) (f (k + 1))) (h : f K = some r) : At f r := by
  refine ⟨K, fun k hk => ?_⟩
  obtain ⟨n, rfl⟩ : ∃ n, k = K + n := ⟨k - K, by omega⟩
  clear hk
  induction n with
  | zero => exact h
  | succ n ih => exact m (K + n) r ih
end Go.Proofs.Ytcdbmmlnmefoeaa.X
