/- LevelLeast: for every input the law's function returns true, without a panic, and its arguments read as they did. No condition. -/
import Derived.Test.YteikafepdkijdaaRows
import Derived.Test.YteikafepdkijdaaPLevelLeastXLevelLeast
import Derived.Test.YteikafepdkijdaaPLevelLeastPureLevelLeast
import Derived.Test.YteikafepdkijdaaEnter
import Derived.Test.YteikafepdkijdaaPLevelLeastTRow
import Derived.Test.YteikafepdkijdaaPLevelLeastT
import Derived.WalkKit
import Derived.ProofKit
import Derived.OpenShut
import Derived.ShutString
import Derived.ChangeOld
import Derived.Below
import Derived.Carry
import Derived.SizedLaws
namespace Go.Proofs.Yteikafepdkijdaa.levelLeast
open Go.ChangeShapes Go.WideShapes Go.ChangeAt Go.RowKit Go.Proofs.Yteikafepdkijdaa.Flat
set_option linter.unusedVariables false
theorem own : ownKnob Try.prog.godebug = none := by kernel_rfl
set_option maxRecDepth 100000 in
theorem lifted (os : Os) (started : os.Started) (H : Type) (enc : TypeId × Value → H) :
    ReturnsInHanded {} Try.checked os 4 .any (Rows.levelLeastSpec.pre6 enc Try.prog Try.f4 Rows.levelLeastRow.domain false) (Rows.levelLeastSpec.post enc Try.prog Try.f4 false true false false) := by
  refine returnsInHanded_of_change_sized (C := Try.checked) own started (by kernel_rfl) Try.func4
    (ChangeSpec.witness6 (enc := enc) (C := Try.checked) false ⟨#[], #[.agg #[.int .u64 0, .int .u16 0, .slice none 0 0, .int .u64 0]], []⟩ 8 (by kernel_rfl) (by kernel_rfl) (by kernel_rfl) (by kernel_rfl)) ?_
  intro W base args ds gs before hval0 hW hcnd hsz0 _
  have hval : ∀ (j : Nat) t v, Try.f4.params[j]? = some t → args[j]? = some v → Value.okWide Try.prog W .any base t v := hval0
  have hW' := hW
  obtain ⟨p, q, hA0, hV, rfl, hfz, hnd⟩ := hW
  have hA : DataW.TrodAll enc Try.prog W 0 (fun _ => true) true Try.f4.params.toList args.toList ds p := hA0
  rw [Try.params4] at hA hval
  obtain ⟨v0, vs0, d0, ds0, p0, q0, hargs, rfl, rfl, h0, r0⟩ := trodAll_cons hA
  obtain ⟨rfl, rfl, rfl⟩ := trodAll_nil r0
  obtain rfl : args = #[v0] := by cases args; simp_all
  obtain ⟨rfl, rfl⟩ := trodVars_none hV
  have lt0 : ∀ x ∈ p0, x.block < W.heap.size := by obtain ⟨m, hm⟩ := h0; exact DataW.trod_lt m _ _ _ hm
  obtain ⟨l0, rfl, c0⟩ := open_mixed (ks := [some .u64, some .u16, none, some .u64]) Try.underlying41 (by kernel_rfl) (by kernel_rfl) (hval 0 41 v0 rfl rfl) h0
  obtain ⟨a0_0, l0, rfl, w0_0, c0⟩ := mixed_int c0
  obtain ⟨a0_1, l0, rfl, w0_1, c0⟩ := mixed_int c0
  obtain ⟨A0_2, c0_2, a0_2, l0, rfl, hc0_2, hr0_2, w0_2, c0⟩ := mixed_ratios c0
  obtain ⟨a0_3, l0, rfl, w0_3, c0⟩ := mixed_int c0
  obtain rfl := mixed_nil c0
  clear hA0 hval0 hsz0
  obtain ⟨k, hk⟩ := Pure.LevelLeast a0_0 a0_1 a0_2 a0_3 w0_0 w0_1 w0_2 w0_3
  refine (X.demurragelaw20_LevelLeast.calls k a0_0 a0_1 A0_2 c0_2 a0_2 a0_3 true W hr0_2 hc0_2 hk).mono fun e W' ⟨he, bel⟩ => ?_
  subst he
  exact ⟨_, rfl, _, _, _, [], _, [], hW', trodAll_mk1 (shut_bool Try.underlying4 _), (trodAll_cons_mk (Below.trod headLaid (by kernel_rfl) (of_decide_eq_true (by kernel_rfl)) h0 bel lt0) trodAll_mk0), rfl, bel.frame _, fun h => by cases h⟩
theorem closed : joinedFacts Try.prog 4 Try.f4 Rows.levelLeastSpec Rows.levelLeastRow = true := by
  unfold joinedFacts; rw [headEnter, headLifts, headMake]; kernel_rfl
theorem over : Rows.levelLeastRow.holds Try.pinned (OpenSpec.ofChange Rows.levelLeastSpec) :=
  OpenClaim.holds_of_wide 4 Try.f4 rfl rfl rfl rfl rfl rfl rfl ⟨rfl, rfl, rfl, rfl, rfl⟩ rfl rfl rfl rfl rfl (by kernel_rfl) Try.func4 closed
    (of_decide_eq_true (by kernel_rfl)) (by unfold Func.isWrapper; rw [if_neg (of_decide_eq_false (by kernel_rfl))]; exact ⟨rfl, rfl⟩)
    (fun os started H enc _ => lifted os started H enc)
theorem proved : Rows.LevelLeastSaid := over
end Go.Proofs.Yteikafepdkijdaa.levelLeast
namespace Go.Proofs.Yteikafepdkijdaa
theorem levelLeast_holds : Rows.LevelLeastSaid := levelLeast.proved
#print axioms levelLeast_holds
end Go.Proofs.Yteikafepdkijdaa
