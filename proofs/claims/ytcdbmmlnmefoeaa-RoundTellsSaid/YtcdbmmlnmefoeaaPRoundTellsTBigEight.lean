-- CUT by prune.py, a program of this session, to what the claim reaches (out of a text that the kit's printer, the session's programs or the session wrote)
import Derived.Test.YtcdbmmlnmefoeaaPRoundTellsTBigSeven
set_option maxRecDepth 10000
namespace Go.Proofs.Ytcdbmmlnmefoeaa.X
open Go.RowKit Go.Proofs.YtcdbmmlnmefoeaaW.PrintWords Go.Proofs.YtcdbmmlnmefoeaaW.PrintLast

theorem At.done {α : Type} {f : Nat → Option α} {a : α} (h : At f a) : At (fun k => (f k).bind fun t => some t) a := At.bind h ⟨0, fun _ _ => rfl⟩

theorem fromW_at {h l : Int} (a1 : U64 h) (a2 : U64 l) : ∃ s, At (fun k => demurrageref01_FromW.f k h l) s ∧ Digs s ∧ bv s = wv h l ∧ s.length < 100 := by
  obtain ⟨b, b1, b2, b3, b4, b5⟩ := fromU_at (x := 4294967296) ⟨by omega, by omega⟩
  obtain ⟨x, x1, x2, x3, x4, x5⟩ := fromU_at a1
  obtain ⟨y, y1, y2, y3, y4, y5⟩ := fromU_at a2
  obtain ⟨p, p1, p2, p3, p4, p5⟩ := prod_at x2 b2 (by omega) (by omega)
  obtain ⟨q, q1, q2, q3, q4, q5⟩ := prod_at p2 b2 (by omega) (by omega)
  obtain ⟨s, s1, s2, s3, s4⟩ := plus_at q2 y2 (by omega) (by omega)
  refine ⟨s, ?_, s2, ?_, by omega⟩
  · unfold demurrageref01_FromW.f
    exact At.bind b1 (At.bind x1 (At.bind p1 (At.bind q1 (At.bind y1 (At.done s1)))))
  · rw [s3, q3, p3, x3, b3, y3]
    unfold wv
    omega

end Go.Proofs.Ytcdbmmlnmefoeaa.X
