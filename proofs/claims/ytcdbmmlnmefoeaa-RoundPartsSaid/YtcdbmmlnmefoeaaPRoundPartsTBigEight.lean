-- CUT by prune.py, a program of this session, to what the claim reaches (out of a text that the kit's printer, the session's programs or the session wrote)
import Derived.Test.YtcdbmmlnmefoeaaPRoundPartsTBigSeven
set_option maxRecDepth 10000
namespace Go.Proofs.Ytcdbmmlnmefoeaa.X
open Go.RowKit Go.Proofs.YtcdbmmlnmefoeaaW.PrintWords Go.Proofs.YtcdbmmlnmefoeaaW.PrintLast

theorem At.done {α : Type} {f : Nat → Option α} {a : α} (h : At f a) : At (fun k => (f k).bind fun t => some t) a := At.bind h ⟨0, fun _ _ => rfl⟩

theorem limit_at : ∃ s, At (fun k => demurrageref01_Limit.f k) s ∧ Digs s ∧ bv s = 340282366920938463463374607431768211456 ∧ s.length < 100 := by
  obtain ⟨b, b1, b2, b3, b4, b5⟩ := fromU_at (x := 4294967296) ⟨by omega, by omega⟩
  obtain ⟨p, p1, p2, p3, p4, p5⟩ := prod_at b2 b2 (by omega) (by omega)
  obtain ⟨q, q1, q2, q3, q4, q5⟩ := prod_at p2 p2 (by omega) (by omega)
  refine ⟨q, ?_, q2, ?_, by omega⟩
  · unfold demurrageref01_Limit.f
    exact At.bind b1 (At.bind p1 (At.bind p1 (At.done q1)))
  · rw [q3, p3, b3]
    omega

end Go.Proofs.Ytcdbmmlnmefoeaa.X
