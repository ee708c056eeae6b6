/- RoundParts: a product of a few numbers, divided, is rounded to the next whole number exactly, or told as too great. -/
import Derived.Test.YtcdbmmlnmefoeaaPRoundPartsXRoundParts
import Derived.Test.YtcdbmmlnmefoeaaPRoundPartsTRight
import Derived.Test.YtcdbmmlnmefoeaaPRoundPartsTRefPart
set_option maxRecDepth 10000
namespace Go.Proofs.Ytcdbmmlnmefoeaa.Pure
open Go.RowKit Go.Proofs.Ytcdbmmlnmefoeaa.X Go.Proofs.YtcdbmmlnmefoeaaW.PrintWords Go.Proofs.YtcdbmmlnmefoeaaW.PrintLast

theorem RoundParts (a b n d p : Int) (wa : (Lit.int .i64 a).wf = true) (wb : (Lit.int .i64 b).wf = true) (_ : (Lit.int .i64 n).wf = true) (_ : (Lit.int .i64 d).wf = true) (wp : (Lit.int .i64 p).wf = true) :
    ∃ k, demurragelaw03_RoundParts.f k a b n d p = some true := by
  have ha := i64_wf wa
  have hb := i64_wf wb
  have hp := i64_wf wp
  obtain ⟨K0, h0⟩ : At (fun k => demurragelaw03_shown.f k) true := At.grow (K := 5) demurragelaw03_shown.mono shown_three
  obtain ⟨K1, h1⟩ := right_at n d
  by_cases r : Rgt n d
  · obtain ⟨n0, n1, d0, d1, _⟩ := id r
    obtain ⟨K2, h2⟩ := refpart_at (p := p) ha.2 hb.2 n0 n1 d0 d1 hp.2
    have h3 := rpart_at (p := p) ha.2 hb.2 n0 n1 d0 d1 hp.2 (K0 + K1 + K2)
    rw [decide_eq_true r] at h1
    generalize parts a b n d p = R at h2 h3
    have h0 : demurragelaw03_shown.f (K0 + K1 + K2 + 2) = some true := h0 _ (by omega)
    have h1 : demurrageref02_Right.f (K0 + K1 + K2 + 2) n d = some true := h1 _ (by omega)
    have h2 : demurrageref03_Part.f (K0 + K1 + K2 + 2) a b n d p = some R := h2 _ (by omega)
    refine ⟨K0 + K1 + K2 + 2, ?_⟩
    unfold demurragelaw03_RoundParts.f
    rw [h0, Option.bind_some, h1, Option.bind_some, if_pos rfl, h3, Option.bind_some, h2, Option.bind_some, if_pos rfl, if_pos rfl, beq_self_eq_true]
  · rw [decide_eq_false r] at h1
    have h0 : demurragelaw03_shown.f (K0 + K1) = some true := h0 _ (by omega)
    have h1 : demurrageref02_Right.f (K0 + K1) n d = some false := h1 _ (by omega)
    refine ⟨K0 + K1, ?_⟩
    unfold demurragelaw03_RoundParts.f
    rw [h0, Option.bind_some, h1, Option.bind_some, if_neg (by decide)]
end Go.Proofs.Ytcdbmmlnmefoeaa.Pure
