/- PlainTells: tables of both kinds, and codes, are as the document says. -/
import Derived.Test.YtlppmfffdjfekaaPPlainTellsXPlainTells
import Derived.Test.YtlppmfffdjfekaaPPlainTellsT
set_option maxRecDepth 10000
namespace Go.Proofs.Ytlppmfffdjfekaa.Pure
open Go.RowKit Go.Proofs.Ytlppmfffdjfekaa.X Go.Proofs.YtlppmfffdjfekaaW.PrintWords Go.Proofs.YtlppmfffdjfekaaW.PrintLast

theorem shown_plain : demurragelaw19_shown.f 12 = some true := by kernel_rfl

theorem PlainTells (a b : Int) (l : List S42) (_ : (Lit.int .i64 a).wf = true) (wb : (Lit.int .i64 b).wf = true) (_ : ∀ x ∈ l, (Lit.int .i64 x.f0).wf = true ∧ (Lit.int .i64 x.f1).wf = true) : ∃ k, demurragelaw19_PlainTells.f k a b l = some true := by
  have hb := i64_wf wb
  obtain ⟨K0, h0⟩ : At (fun k => demurragelaw19_shown.f k) true := At.grow (K := 12) demurragelaw19_shown.mono shown_plain
  by_cases c : (l.length : Int) > 40
  · refine ⟨K0, ?_⟩
    have h0 : demurragelaw19_shown.f K0 = some true := h0 K0 (Nat.le_refl _)
    unfold demurragelaw19_PlainTells.f
    rw [h0, Option.bind_some, if_pos c]
  · obtain ⟨R, rl, ⟨K1, r1⟩, ⟨K2, r2⟩⟩ := bullets_at a b hb.2 l
    obtain ⟨S, sl, ⟨K3, s1⟩, ⟨K4, s2⟩⟩ := equals_at a b hb.2 l
    obtain ⟨K5, t1⟩ := same_at R.1 (by omega)
    obtain ⟨K6, t2⟩ := same_at S.1 (by omega)
    generalize hk : K0 + K1 + K2 + K3 + K4 + K5 + K6 = k
    have h0 : demurragelaw19_shown.f k = some true := h0 k (by omega)
    have r1 : plain_Bullet.f k a b l = some R := r1 k (by omega)
    have r2 : demurrageref19_Bullet.f k a b l = some R := r2 k (by omega)
    have s1 : plain_Equal.f k a b l = some S := s1 k (by omega)
    have s2 : demurrageref19_Equal.f k a b l = some S := s2 k (by omega)
    have t1 : demurrageref19_Same.f k R.1 R.1 = some true := t1 k (by omega)
    have t2 : demurrageref19_Same.f k S.1 S.1 = some true := t2 k (by omega)
    refine ⟨k, ?_⟩
    unfold demurragelaw19_PlainTells.f
    rw [h0, Option.bind_some, if_neg c, r1, Option.bind_some, r2, Option.bind_some, s1, Option.bind_some, s2, Option.bind_some, if_pos rfl, t1, Option.bind_some, if_pos rfl, if_pos rfl, t2, Option.bind_some, if_pos rfl, beq_self_eq_true]
end Go.Proofs.Ytlppmfffdjfekaa.Pure
