/- ActualYears: for every input the law's function returns true, without a panic, and its arguments read as they did; with the package variables as the program's text lays them (the card ties them). No other condition. -/
import Derived.Test.YtbapgkopilmdfaaDoorRows
import Derived.Test.YtbapgkopilmdfaaDoorCards
import Derived.Test.YtbapgkopilmdfaaDoorTie
import Derived.Test.YtbapgkopilmdfaaDoorPActualYearsXActualYears
import Derived.Test.YtbapgkopilmdfaaDoorPActualYearsPureActualYears
import Derived.Test.YtbapgkopilmdfaaDoorEnter
import Derived.Test.YtbapgkopilmdfaaDoorTRow
import Derived.Test.YtbapgkopilmdfaaDoorPActualYearsT
import Derived.WalkKit
import Derived.ProofKit
import Derived.OpenShut
import Derived.ShutString
import Derived.ChangeOld
import Derived.Below
import Derived.Carry
import Derived.SizedLaws
import Derived.Handed
import Derived.SevenTiedAt
namespace Go.Proofs.YtbapgkopilmdfaaDoor.actualYears
open Go.ChangeShapes Go.WideShapes Go.ChangeAt Go.RowKit Go.Proofs.YtbapgkopilmdfaaDoor.Flat
set_option linter.unusedVariables false
theorem own : ownKnob Tryd.prog.godebug = none := by kernel_rfl
set_option maxRecDepth 100000 in
theorem lifted (os : Os) (started : os.Started) (H : Type) (enc : TypeId × Value → H) :
    ReturnsInHanded {} Tryd.checked os 5 .any (fun w args => (Rows.actualYearsSpec.pre enc Tryd.prog Tryd.f5 [] false w args ∧ laidMet Tryd.prog laid3 w) ∧ sizedMet enc Tryd.prog Tryd.f5 (OpenSpec.ofChange Rows.actualYearsSpec) false w args) (Rows.actualYearsSpec.post enc Tryd.prog Tryd.f5 false true false false) := by
  refine returnsInHanded_of_change_and (C := Tryd.checked) (X := (fun w _ => laidMet Tryd.prog laid3 w)) (fun _ _ _ hh h => h.of_heap hh) own started (by kernel_rfl) Tryd.func5
    (ChangeSpec.witness_at (enc := enc) (C := Tryd.checked) (os := os) (X := (fun w _ => laidMet Tryd.prog laid3 w)) false (laidWorld os) #[.agg #[.int .u16 0, .int .u16 0, .int .u16 0, .int .u16 0]] 8 rfl (by kernel_rfl) (by kernel_rfl) (by kernel_rfl) (by kernel_rfl) (by kernel_rfl) (laidWorld_met os _)) ?_
  intro W base args ds gs before hval0 hW hcnd hsz0 hL _
  have hval : ∀ (j : Nat) t v, Tryd.f5.params[j]? = some t → args[j]? = some v → Value.okWide Tryd.prog W .any base t v := hval0
  have hW' := hW
  obtain ⟨p, q, hA0, hV, rfl, hfz, hnd⟩ := hW
  have hA : DataW.TrodAll enc Tryd.prog W 0 (fun _ => true) true Tryd.f5.params.toList args.toList ds p := hA0
  rw [Tryd.params5] at hA hval
  obtain ⟨v0, vs0, d0, ds0, p0, q0, hargs, rfl, rfl, h0, r0⟩ := trodAll_cons hA
  obtain ⟨rfl, rfl, rfl⟩ := trodAll_nil r0
  obtain rfl : args = #[v0] := by cases args; simp_all
  obtain ⟨rfl, rfl⟩ := trodVars_none hV
  obtain ⟨l0, rfl, rfl, c0⟩ := open_flat (n := 6) (ks := [.u16, .u16, .u16, .u16]) Tryd.underlying36 (by kernel_rfl) (by kernel_rfl) (hval 0 36 v0 rfl rfl) h0
  obtain ⟨a0_0, l0, rfl, w0_0, c0⟩ := cells_cons c0
  obtain ⟨a0_1, l0, rfl, w0_1, c0⟩ := cells_cons c0
  obtain ⟨a0_2, l0, rfl, w0_2, c0⟩ := cells_cons c0
  obtain ⟨a0_3, l0, rfl, w0_3, c0⟩ := cells_cons c0
  obtain rfl := cells_nil c0
  clear hA0 hval0 hsz0
  obtain ⟨k, hk⟩ := Pure.ActualYears a0_0 a0_1 a0_2 a0_3 w0_0 w0_1 w0_2 w0_3
  refine (X.demurragelaw08_ActualYears.calls k a0_0 a0_1 a0_2 a0_3 true W (vars_of_laid hL) hk).mono fun e W' ⟨he, bel⟩ => ?_
  subst he
  exact ⟨_, rfl, _, _, _, [], _, [], hW', trodAll_mk1 (shut_bool Tryd.underlying4 _), (trodAll_cons_mk (Below.trod headLaid (by kernel_rfl) (of_decide_eq_true (by kernel_rfl)) h0 bel (by simp)) trodAll_mk0), rfl, bel.frame _, fun h => by cases h⟩
theorem closed : joinedFacts Tryd.prog 5 Tryd.f5 Rows.actualYearsSpec Rows.actualYearsRow = true := by
  unfold joinedFacts; rw [headEnter, headLifts, headMake]; kernel_rfl
theorem over : Rows.actualYearsRow.holds Tryd.pinned (OpenSpec.ofChange Rows.actualYearsSpec) :=
  OpenClaim.holds_of_wide 5 Tryd.f5 rfl rfl rfl rfl rfl rfl rfl ⟨rfl, rfl, rfl, rfl, rfl⟩ rfl rfl rfl rfl rfl (by kernel_rfl) Tryd.func5 closed
    (of_decide_eq_true (by kernel_rfl)) (by unfold Func.isWrapper; rw [if_neg (of_decide_eq_false (by kernel_rfl))]; exact ⟨rfl, rfl⟩)
    (fun os started H enc _ => lifted os started H enc)
theorem proved : Rows.ActualYearsSaid := over
theorem card : Rows.ActualYearsCardSaid :=
  Claim7.holds_tied_plain_at .later [] [.data, .sentinel, .sentinel] true (true, "0da9cd50c49a01554891ccfe21f4aa668ec550e21f9cfc581cb074644c8edb74") true
    proved (fun _ h => by cases h) (by kernel_rfl) (fun _ h => by cases h) actualYears_row_tie rfl ⟨rfl, rfl⟩ (by kernel_rfl) rfl
    (fun f fn hf hfn => by
      obtain rfl : f = 5 := Option.some.inj ((show Tryd.prog.funcNamed "demurrage/demurragelaw08.ActualYears" = some 5 by kernel_rfl).symm.trans hf) |>.symm
      obtain rfl : fn = Tryd.f5 := (Option.some.inj (Tryd.func5.symm.trans hfn)).symm
      exact ⟨by kernel_rfl, fun j t ht => by
        rw [Tryd.params5] at ht
        have h3 : t = 36 := by
          rcases j with _ | j
          · simpa using ht.symm
          · simp at ht
        subst h3
        exact (show Tryd.prog.wantsStandIn 36 = false by kernel_rfl)⟩)
    (by kernel_rfl)
end Go.Proofs.YtbapgkopilmdfaaDoor.actualYears
namespace Go.Proofs.YtbapgkopilmdfaaDoor
theorem actualYears_holds : Rows.ActualYearsCardSaid := actualYears.card
#print axioms actualYears_holds
end Go.Proofs.YtbapgkopilmdfaaDoor
