/- RoundParts: for every input the law's function returns true, without a panic, and its arguments read as they did. No condition. -/
import Derived.Test.YtcdbmmlnmefoeaaRows
import Derived.Test.YtcdbmmlnmefoeaaPRoundPartsXRoundParts
import Derived.Test.YtcdbmmlnmefoeaaPRoundPartsPureRoundParts
import Derived.Test.YtcdbmmlnmefoeaaEnter
import Derived.Test.YtcdbmmlnmefoeaaTRow
import Derived.WalkKit
import Derived.ProofKit
import Derived.OpenShut
import Derived.ShutString
import Derived.ChangeOld
import Derived.Below
import Derived.Carry
import Derived.SizedLaws
namespace Go.Proofs.Ytcdbmmlnmefoeaa.roundParts
open Go.ChangeShapes Go.WideShapes Go.ChangeAt Go.RowKit Go.Proofs.Ytcdbmmlnmefoeaa.Flat
set_option linter.unusedVariables false
theorem own : ownKnob Try.prog.godebug = none := by kernel_rfl
set_option maxRecDepth 100000 in
theorem lifted (os : Os) (started : os.Started) (H : Type) (enc : TypeId × Value → H) :
    ReturnsInHanded {} Try.checked os 17 .any (Rows.roundPartsSpec.pre6 enc Try.prog Try.f17 Rows.roundPartsRow.domain false) (Rows.roundPartsSpec.post enc Try.prog Try.f17 false true false false) := by
  refine returnsInHanded_of_change_sized (C := Try.checked) own started (by kernel_rfl) Try.func17
    (ChangeSpec.witness6 (enc := enc) (C := Try.checked) false ⟨#[], #[.agg #[.int .i64 0, .int .i64 0, .int .i64 0, .int .i64 0, .int .i64 0]], []⟩ 8 (by kernel_rfl) (by kernel_rfl) (by kernel_rfl) (by kernel_rfl)) ?_
  intro W base args ds gs before hval0 hW hcnd hsz0 _
  have hval : ∀ (j : Nat) t v, Try.f17.params[j]? = some t → args[j]? = some v → Value.okWide Try.prog W .any base t v := hval0
  have hW' := hW
  obtain ⟨p, q, hA0, hV, rfl, hfz, hnd⟩ := hW
  have hA : DataW.TrodAll enc Try.prog W 0 (fun _ => true) true Try.f17.params.toList args.toList ds p := hA0
  rw [Try.params17] at hA hval
  obtain ⟨v0, vs0, d0, ds0, p0, q0, hargs, rfl, rfl, h0, r0⟩ := trodAll_cons hA
  obtain ⟨rfl, rfl, rfl⟩ := trodAll_nil r0
  obtain rfl : args = #[v0] := by cases args; simp_all
  obtain ⟨rfl, rfl⟩ := trodVars_none hV
  obtain ⟨l0, rfl, rfl, c0⟩ := open_flat (n := 6) (ks := [.i64, .i64, .i64, .i64, .i64]) Try.underlying82 (by kernel_rfl) (by kernel_rfl) (hval 0 82 v0 rfl rfl) h0
  obtain ⟨a0_0, l0, rfl, w0_0, c0⟩ := cells_cons c0
  obtain ⟨a0_1, l0, rfl, w0_1, c0⟩ := cells_cons c0
  obtain ⟨a0_2, l0, rfl, w0_2, c0⟩ := cells_cons c0
  obtain ⟨a0_3, l0, rfl, w0_3, c0⟩ := cells_cons c0
  obtain ⟨a0_4, l0, rfl, w0_4, c0⟩ := cells_cons c0
  obtain rfl := cells_nil c0
  clear hA0 hval0 hsz0
  obtain ⟨k, hk⟩ := Pure.RoundParts a0_0 a0_1 a0_2 a0_3 a0_4 w0_0 w0_1 w0_2 w0_3 w0_4
  refine (X.demurragelaw03_RoundParts.calls k a0_0 a0_1 a0_2 a0_3 a0_4 true W hk).mono fun e W' ⟨he, bel⟩ => ?_
  subst he
  exact ⟨_, rfl, _, _, _, [], _, [], hW', trodAll_mk1 (shut_bool Try.underlying4 _), (trodAll_cons_mk (Below.trod headLaid (by kernel_rfl) (of_decide_eq_true (by kernel_rfl)) h0 bel (by simp)) trodAll_mk0), rfl, bel.frame _, fun h => by cases h⟩
theorem closed : joinedFacts Try.prog 17 Try.f17 Rows.roundPartsSpec Rows.roundPartsRow = true := by
  unfold joinedFacts; rw [headEnter, headLifts, headMake]; kernel_rfl
theorem over : Rows.roundPartsRow.holds Try.pinned (OpenSpec.ofChange Rows.roundPartsSpec) :=
  OpenClaim.holds_of_wide 17 Try.f17 rfl rfl rfl rfl rfl rfl rfl ⟨rfl, rfl, rfl, rfl, rfl⟩ rfl rfl rfl rfl rfl (by kernel_rfl) Try.func17 closed
    (of_decide_eq_true (by kernel_rfl)) (by unfold Func.isWrapper; rw [if_neg (of_decide_eq_false (by kernel_rfl))]; exact ⟨rfl, rfl⟩)
    (fun os started H enc _ => lifted os started H enc)
theorem proved : Rows.RoundPartsSaid := over
end Go.Proofs.Ytcdbmmlnmefoeaa.roundParts
namespace Go.Proofs.Ytcdbmmlnmefoeaa
/-- The row, under a short name, for the claim. -/
theorem roundParts_holds : Rows.RoundPartsSaid := roundParts.proved
#print axioms roundParts_holds
end Go.Proofs.Ytcdbmmlnmefoeaa
