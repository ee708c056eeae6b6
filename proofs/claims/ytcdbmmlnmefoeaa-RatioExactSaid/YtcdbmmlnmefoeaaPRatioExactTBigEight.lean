-- CUT by prune.py, a program of this session, to what the claim reaches (out of a text that the kit's printer, the session's programs or the session wrote)
import Derived.Test.YtcdbmmlnmefoeaaPRatioExactTBigSeven
set_option maxRecDepth 10000
namespace Go.Proofs.Ytcdbmmlnmefoeaa.X
open Go.RowKit Go.Proofs.YtcdbmmlnmefoeaaW.PrintWords Go.Proofs.YtcdbmmlnmefoeaaW.PrintLast

theorem At.done {α : Type} {f : Nat → Option α} {a : α} (h : At f a) : At (fun k => (f k).bind fun t => some t) a := At.bind h ⟨0, fun _ _ => rfl⟩

end Go.Proofs.Ytcdbmmlnmefoeaa.X
