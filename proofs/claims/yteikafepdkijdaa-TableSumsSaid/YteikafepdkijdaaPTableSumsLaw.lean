/- TableSums: for every input the law's function returns true, without a panic, and its arguments read as they did. No condition. -/
import Derived.Test.YteikafepdkijdaaRows
import Derived.Test.YteikafepdkijdaaPTableSumsXTableSums
import Derived.Test.YteikafepdkijdaaPTableSumsPureTableSums
import Derived.Test.YteikafepdkijdaaEnter
import Derived.Test.YteikafepdkijdaaPTableSumsTRow
import Derived.Test.YteikafepdkijdaaPTableSumsT
import Derived.WalkKit
import Derived.ProofKit
import Derived.OpenShut
import Derived.ShutString
import Derived.ChangeOld
import Derived.Below
import Derived.Carry
import Derived.SizedLaws
namespace Go.Proofs.Yteikafepdkijdaa.tableSums
open Go.ChangeShapes Go.WideShapes Go.ChangeAt Go.RowKit Go.Proofs.Yteikafepdkijdaa.Flat
set_option linter.unusedVariables false
theorem own : ownKnob Try.prog.godebug = none := by kernel_rfl
set_option maxRecDepth 100000 in
theorem lifted (os : Os) (started : os.Started) (H : Type) (enc : TypeId × Value → H) :
    ReturnsInHanded {} Try.checked os 10 .any (Rows.tableSumsSpec.pre6 enc Try.prog Try.f10 Rows.tableSumsRow.domain false) (Rows.tableSumsSpec.post enc Try.prog Try.f10 false true false false) := by
  refine returnsInHanded_of_change_sized (C := Try.checked) own started (by kernel_rfl) Try.func10
    (ChangeSpec.witness6 (enc := enc) (C := Try.checked) false ⟨#[], #[.slice none 0 0], []⟩ 8 (by kernel_rfl) (by kernel_rfl) (by kernel_rfl) (by kernel_rfl)) ?_
  intro W base args ds gs before hval0 hW hcnd hsz0 _
  have hval : ∀ (j : Nat) t v, Try.f10.params[j]? = some t → args[j]? = some v → Value.okWide Try.prog W .any base t v := hval0
  have hW' := hW
  obtain ⟨p, q, hA0, hV, rfl, hfz, hnd⟩ := hW
  have hA : DataW.TrodAll enc Try.prog W 0 (fun _ => true) true Try.f10.params.toList args.toList ds p := hA0
  rw [Try.params10] at hA hval
  obtain ⟨v0, vs0, d0, ds0, p0, q0, hargs, rfl, rfl, h0, r0⟩ := trodAll_cons hA
  obtain ⟨rfl, rfl, rfl⟩ := trodAll_nil r0
  obtain rfl : args = #[v0] := by cases args; simp_all
  obtain ⟨rfl, rfl⟩ := trodVars_none hV
  have lt0 : ∀ x ∈ p0, x.block < W.heap.size := by obtain ⟨m, hm⟩ := h0; exact DataW.trod_lt m _ _ _ hm
  obtain ⟨A0, c0, a0, rfl, hc0, hr0, w0⟩ := open_rows (hval 0 33 v0 rfl rfl) h0
  clear hA0 hval0 hsz0
  obtain ⟨k, hk⟩ := Pure.TableSums a0 w0
  refine (X.demurragelaw21_TableSums.calls k A0 c0 a0 true W hr0 hc0 hk).mono fun e W' ⟨he, bel⟩ => ?_
  subst he
  exact ⟨_, rfl, _, _, _, [], _, [], hW', trodAll_mk1 (shut_bool Try.underlying4 _), (trodAll_cons_mk (Below.trod headLaid (by kernel_rfl) (of_decide_eq_true (by kernel_rfl)) h0 bel lt0) trodAll_mk0), rfl, bel.frame _, fun h => by cases h⟩
theorem closed : joinedFacts Try.prog 10 Try.f10 Rows.tableSumsSpec Rows.tableSumsRow = true := by
  unfold joinedFacts; rw [headEnter, headLifts, headMake]; kernel_rfl
theorem over : Rows.tableSumsRow.holds Try.pinned (OpenSpec.ofChange Rows.tableSumsSpec) :=
  OpenClaim.holds_of_wide 10 Try.f10 rfl rfl rfl rfl rfl rfl rfl ⟨rfl, rfl, rfl, rfl, rfl⟩ rfl rfl rfl rfl rfl (by kernel_rfl) Try.func10 closed
    (of_decide_eq_true (by kernel_rfl)) (by unfold Func.isWrapper; rw [if_neg (of_decide_eq_false (by kernel_rfl))]; exact ⟨rfl, rfl⟩)
    (fun os started H enc _ => lifted os started H enc)
theorem proved : Rows.TableSumsSaid := over
end Go.Proofs.Yteikafepdkijdaa.tableSums
namespace Go.Proofs.Yteikafepdkijdaa
theorem tableSums_holds : Rows.TableSumsSaid := tableSums.proved
#print axioms tableSums_holds
end Go.Proofs.Yteikafepdkijdaa
