/- ActualTells: all three ways, and codes, are as the document says. -/
import Derived.Test.YtbapgkopilmdfaaDoorPActualTellsXActualTells
import Derived.Test.YtbapgkopilmdfaaDoorPActualTellsT
set_option maxRecDepth 10000
namespace Go.Proofs.YtbapgkopilmdfaaDoor.Pure
open Go.RowKit Go.Proofs.YtbapgkopilmdfaaDoor.X Go.Proofs.YtbapgkopilmdfaaDoor.Cal Go.Proofs.YtbapgkopilmdfaaDoorW.PrintWords Go.Proofs.YtbapgkopilmdfaaDoorW.PrintLast

theorem both_years (a b : Int) : ∃ R, At (fun k => actual_ByYears.f k a b) R ∧ At (fun k => demurrageref08_ByYears.f k a b) R := by
 by_cases c : codev a b = 0
 ·have o := code_ok c
  obtain ⟨ya, ha⟩ := In.exists (n := a) (by omega) (by omega)
  obtain ⟨yb, hb⟩ := In.exists (n := b) (by omega) (by omega)
  exact ⟨_, byyears_at ha hb o.2.1, refyears_at ha hb o.2.1⟩
 ·exact ⟨_, byyears_bad c, refyears_bad c⟩
theorem ActualTells (a b : Int) (_ : (Lit.int .i64 a).wf = true) (_ : (Lit.int .i64 b).wf = true) : ∃ k, demurragelaw08_ActualTells.f k a b = some true := by
 obtain ⟨R, ⟨K5, h5⟩, ⟨K6, h6⟩⟩ := both_years a b
 obtain ⟨K0, h0⟩ := shown_at
 obtain ⟨K1, h1⟩ := by360_at a b
 obtain ⟨K2, h2⟩ := ref360_at a b
 obtain ⟨K3, h3⟩ := by365_at a b
 obtain ⟨K4, h4⟩ := ref365_at a b
 generalize partv (fr (b - a).toNat 360) (codev a b) = P at h1 h2
 generalize partv (fr (b - a).toNat 365) (codev a b) = Q at h3 h4
 obtain ⟨P1, P2, P3⟩ := P
 obtain ⟨Q1, Q2, Q3⟩ := Q
 obtain ⟨R1, R2, R3⟩ := R
 generalize hk : K0 + K1 + K2 + K3 + K4 + K5 + K6 = k
 have h0 : demurragelaw08_shown.f k = some true := h0 k (by omega)
 have h1 : actual_By360.f k a b = some (P1, P2, P3) := h1 k (by omega)
 have h2 : demurrageref08_By360.f k a b = some (P1, P2, P3) := h2 k (by omega)
 have h3 : actual_By365.f k a b = some (Q1, Q2, Q3) := h3 k (by omega)
 have h4 : demurrageref08_By365.f k a b = some (Q1, Q2, Q3) := h4 k (by omega)
 have h5 : actual_ByYears.f k a b = some (R1, R2, R3) := h5 k (by omega)
 have h6 : demurrageref08_ByYears.f k a b = some (R1, R2, R3) := h6 k (by omega)
 refine ⟨k, ?_⟩
 unfold demurragelaw08_ActualTells.f
 rw [h0, Option.bind_some, h1, Option.bind_some, h2, Option.bind_some, h3, Option.bind_some, h4, Option.bind_some, h5, Option.bind_some, h6, Option.bind_some]
 simp
end Go.Proofs.YtbapgkopilmdfaaDoor.Pure
