/- WideTells: for every input the law's function returns true, without a panic, and its arguments read as they did. No condition. -/
import Derived.Test.YtdgflpefjinleaaRows
import Derived.Test.YtdgflpefjinleaaPWideTellsXWideTells
import Derived.Test.YtdgflpefjinleaaPWideTellsPureWideTells
import Derived.Test.YtdgflpefjinleaaEnter
import Derived.Test.YtdgflpefjinleaaTRow
import Derived.WalkKit
import Derived.ProofKit
import Derived.OpenShut
import Derived.ShutString
import Derived.ChangeOld
import Derived.Below
import Derived.Carry
import Derived.SizedLaws
namespace Go.Proofs.Ytdgflpefjinleaa.wideTells
open Go.ChangeShapes Go.WideShapes Go.ChangeAt Go.RowKit Go.Proofs.Ytdgflpefjinleaa.Flat
set_option linter.unusedVariables false
theorem own : ownKnob Try.prog.godebug = none := by kernel_rfl
set_option maxRecDepth 100000 in
theorem lifted (os : Os) (started : os.Started) (H : Type) (enc : TypeId × Value → H) :
    ReturnsInHanded {} Try.checked os 3 .any (Rows.wideTellsSpec.pre6 enc Try.prog Try.f3 Rows.wideTellsRow.domain false) (Rows.wideTellsSpec.post enc Try.prog Try.f3 false true false false) := by
  refine returnsInHanded_of_change_sized (C := Try.checked) own started (by kernel_rfl) Try.func3
    (ChangeSpec.witness6 (enc := enc) (C := Try.checked) false ⟨#[], #[.agg #[.int .u64 0, .int .u64 0], .agg #[.int .u64 0, .int .u64 0], .int .u64 0], []⟩ 8 (by kernel_rfl) (by kernel_rfl) (by kernel_rfl) (by kernel_rfl)) ?_
  intro W base args ds gs before hval0 hW hcnd hsz0 _
  have hval : ∀ (j : Nat) t v, Try.f3.params[j]? = some t → args[j]? = some v → Value.okWide Try.prog W .any base t v := hval0
  have hW' := hW
  obtain ⟨p, q, hA0, hV, rfl, hfz, hnd⟩ := hW
  have hA : DataW.TrodAll enc Try.prog W 0 (fun _ => true) true Try.f3.params.toList args.toList ds p := hA0
  rw [Try.params3] at hA hval
  obtain ⟨v0, vs0, d0, ds0, p0, q0, hargs, rfl, rfl, h0, r0⟩ := trodAll_cons hA
  obtain ⟨v1, vs1, d1, ds1, p1, q1, rfl, rfl, rfl, h1, r1⟩ := trodAll_cons r0
  obtain ⟨v2, vs2, d2, ds2, p2, q2, rfl, rfl, rfl, h2, r2⟩ := trodAll_cons r1
  obtain ⟨rfl, rfl, rfl⟩ := trodAll_nil r2
  obtain rfl : args = #[v0, v1, v2] := by cases args; simp_all
  obtain ⟨rfl, rfl⟩ := trodVars_none hV
  obtain ⟨l0, rfl, rfl, c0⟩ := open_flat (n := 6) (ks := [.u64, .u64]) Try.underlying24 (by kernel_rfl) (by kernel_rfl) (hval 0 24 v0 rfl rfl) h0
  obtain ⟨a0_0, l0, rfl, w0_0, c0⟩ := cells_cons c0
  obtain ⟨a0_1, l0, rfl, w0_1, c0⟩ := cells_cons c0
  obtain rfl := cells_nil c0
  obtain ⟨l1, rfl, rfl, c1⟩ := open_flat (n := 6) (ks := [.u64, .u64]) Try.underlying24 (by kernel_rfl) (by kernel_rfl) (hval 1 24 v1 rfl rfl) h1
  obtain ⟨a1_0, l1, rfl, w1_0, c1⟩ := cells_cons c1
  obtain ⟨a1_1, l1, rfl, w1_1, c1⟩ := cells_cons c1
  obtain rfl := cells_nil c1
  obtain ⟨a2, rfl, rfl, rfl, w2⟩ := open_int Try.underlying22 (hval 2 22 v2 rfl rfl) h2
  clear hA0 hval0 hsz0
  obtain ⟨k, hk⟩ := Pure.WideTells a0_0 a0_1 a1_0 a1_1 a2 w0_0 w0_1 w1_0 w1_1 w2
  refine (X.demurragelaw01_WideTells.calls k a0_0 a0_1 a1_0 a1_1 a2 true W hk).mono fun e W' ⟨he, bel⟩ => ?_
  subst he
  exact ⟨_, rfl, _, _, _, [], _, [], hW', trodAll_mk1 (shut_bool Try.underlying4 _), (trodAll_cons_mk (Below.trod headLaid (by kernel_rfl) (of_decide_eq_true (by kernel_rfl)) h0 bel (by simp)) (trodAll_cons_mk (Below.trod headLaid (by kernel_rfl) (of_decide_eq_true (by kernel_rfl)) h1 bel (by simp)) (trodAll_cons_mk (shut_int Try.underlying22 w2) trodAll_mk0))), rfl, bel.frame _, fun h => by cases h⟩
theorem closed : joinedFacts Try.prog 3 Try.f3 Rows.wideTellsSpec Rows.wideTellsRow = true := by
  unfold joinedFacts; rw [headEnter, headLifts, headMake]; kernel_rfl
theorem over : Rows.wideTellsRow.holds Try.pinned (OpenSpec.ofChange Rows.wideTellsSpec) :=
  OpenClaim.holds_of_wide 3 Try.f3 rfl rfl rfl rfl rfl rfl rfl ⟨rfl, rfl, rfl, rfl, rfl⟩ rfl rfl rfl rfl rfl (by kernel_rfl) Try.func3 closed
    (of_decide_eq_true (by kernel_rfl)) (by unfold Func.isWrapper; rw [if_neg (of_decide_eq_false (by kernel_rfl))]; exact ⟨rfl, rfl⟩)
    (fun os started H enc _ => lifted os started H enc)
theorem proved : Rows.WideTellsSaid := over
end Go.Proofs.Ytdgflpefjinleaa.wideTells
namespace Go.Proofs.Ytdgflpefjinleaa
/-- The row, under a short name, for the claim. -/
theorem wideTells_holds : Rows.WideTellsSaid := wideTells.proved
#print axioms wideTells_holds
end Go.Proofs.Ytdgflpefjinleaa
