/- ActualMoves: for every input the law's function returns true, without a panic, and its arguments read as they did; with the package variables as the program's text lays them (the card ties them). No other condition. -/
import Derived.Test.YtbapgkopilmdfaaDoorRows
import Derived.Test.YtbapgkopilmdfaaDoorCards
import Derived.Test.YtbapgkopilmdfaaDoorTie
import Derived.Test.YtbapgkopilmdfaaDoorPActualMovesXActualMoves
import Derived.Test.YtbapgkopilmdfaaDoorPActualMovesPureActualMoves
import Derived.Test.YtbapgkopilmdfaaDoorEnter
import Derived.WalkKit
import Derived.ProofKit
import Derived.OpenShut
import Derived.ChangeArms
import Derived.WideShapes
import Derived.Below
import Derived.Carry
import Derived.Test.YtbapgkopilmdfaaDoorPActualMovesT
import Derived.ShutString
import Derived.ChangeOld
import Derived.SizedLaws
import Derived.Handed
import Derived.SevenTiedAt
namespace Go.Proofs.YtbapgkopilmdfaaDoor.actualMoves
open Go.ChangeShapes Go.WideShapes Go.ChangeAt Go.RowKit
set_option linter.unusedVariables false
theorem own : ownKnob Tryd.prog.godebug = none := by kernel_rfl
set_option maxRecDepth 100000 in
theorem lifted (os : Os) (started : os.Started) (H : Type) (enc : TypeId × Value → H) :
    ReturnsInHanded {} Tryd.checked os 7 .any (fun w args => (Rows.actualMovesSpec.pre enc Tryd.prog Tryd.f7 [] false w args ∧ laidMet Tryd.prog laid3 w) ∧ sizedMet enc Tryd.prog Tryd.f7 (OpenSpec.ofChange Rows.actualMovesSpec) false w args) (Rows.actualMovesSpec.post enc Tryd.prog Tryd.f7 false true false false) := by
  refine returnsInHanded_of_change_and (C := Tryd.checked) (X := (fun w _ => laidMet Tryd.prog laid3 w)) (fun _ _ _ hh h => h.of_heap hh) own started (by kernel_rfl) Tryd.func7
    (ChangeSpec.witness_at (enc := enc) (C := Tryd.checked) (os := os) (X := (fun w _ => laidMet Tryd.prog laid3 w)) false (laidWorld os) #[.int .i64 0, .int .i64 0] 8 rfl (by kernel_rfl) (by kernel_rfl) (by kernel_rfl) (by kernel_rfl) (by kernel_rfl) (laidWorld_met os _)) ?_
  intro W base args ds gs before hval0 hW hcnd hsz0 hL _
  have hval : ∀ (j : Nat) t v, Tryd.f7.params[j]? = some t → args[j]? = some v → Value.okWide Tryd.prog W .any base t v := hval0
  have hW' := hW
  obtain ⟨p, q, hA0, hV, rfl, hfz, hnd⟩ := hW
  have hA : DataW.TrodAll enc Tryd.prog W 0 (fun _ => true) true Tryd.f7.params.toList args.toList ds p := hA0
  rw [Tryd.params7] at hA hval
  obtain ⟨v0, vs0, d0, ds0, p0, q0, hargs, rfl, rfl, h0, r0⟩ := trodAll_cons hA
  obtain ⟨v1, vs1, d1, ds1, p1, q1, rfl, rfl, rfl, h1, r1⟩ := trodAll_cons r0
  obtain ⟨rfl, rfl, rfl⟩ := trodAll_nil r1
  obtain rfl : args = #[v0, v1] := by cases args; simp_all
  obtain ⟨rfl, rfl⟩ := trodVars_none hV
  obtain ⟨a0, rfl, rfl, rfl, w0⟩ := open_int Tryd.underlying3 (hval 0 3 v0 rfl rfl) h0
  obtain ⟨a1, rfl, rfl, rfl, w1⟩ := open_int Tryd.underlying3 (hval 1 3 v1 rfl rfl) h1
  clear hA0 hval0 hsz0
  obtain ⟨k, hk⟩ := Pure.ActualMoves a0 a1 w0 w1
  refine (X.demurragelaw08_ActualMoves.calls k a0 a1 true W (vars_of_laid hL) hk).mono fun e W' ⟨he, bel⟩ => ?_
  subst he
  exact ⟨_, rfl, _, _, _, [], _, [], hW', trodAll_mk1 (shut_bool Tryd.underlying4 _), (trodAll_cons_mk (shut_int Tryd.underlying3 w0) (trodAll_cons_mk (shut_int Tryd.underlying3 w1) trodAll_mk0)), rfl, bel.frame _, fun h => by cases h⟩
theorem closed : joinedFacts Tryd.prog 7 Tryd.f7 Rows.actualMovesSpec Rows.actualMovesRow = true := by
  unfold joinedFacts; rw [headEnter, headLifts, headMake]; kernel_rfl
theorem over : Rows.actualMovesRow.holds Tryd.pinned (OpenSpec.ofChange Rows.actualMovesSpec) :=
  OpenClaim.holds_of_wide 7 Tryd.f7 rfl rfl rfl rfl rfl rfl rfl ⟨rfl, rfl, rfl, rfl, rfl⟩ rfl rfl rfl rfl rfl (by kernel_rfl) Tryd.func7 closed
    (of_decide_eq_true (by kernel_rfl)) (by unfold Func.isWrapper; rw [if_neg (of_decide_eq_false (by kernel_rfl))]; exact ⟨rfl, rfl⟩)
    (fun os started H enc _ => lifted os started H enc)
theorem proved : Rows.ActualMovesSaid := over
theorem card : Rows.ActualMovesCardSaid :=
  Claim7.holds_tied_plain_at .later [] [.data, .sentinel, .sentinel] true (true, "0da9cd50c49a01554891ccfe21f4aa668ec550e21f9cfc581cb074644c8edb74") true
    proved (fun _ h => by cases h) (by kernel_rfl) (fun _ h => by cases h) actualMoves_row_tie rfl ⟨rfl, rfl⟩ (by kernel_rfl) rfl
    (fun f fn hf hfn => by
      obtain rfl : f = 7 := Option.some.inj ((show Tryd.prog.funcNamed "demurrage/demurragelaw08.ActualMoves" = some 7 by kernel_rfl).symm.trans hf) |>.symm
      obtain rfl : fn = Tryd.f7 := (Option.some.inj (Tryd.func7.symm.trans hfn)).symm
      exact ⟨by kernel_rfl, fun j t ht => by
        rw [Tryd.params7] at ht
        have h3 : t = 3 := by
          rcases j with _ | _ | j
          · simpa using ht.symm
          · simpa using ht.symm
          · simp at ht
        subst h3
        exact (show Tryd.prog.wantsStandIn 3 = false by kernel_rfl)⟩)
    (by kernel_rfl)
end Go.Proofs.YtbapgkopilmdfaaDoor.actualMoves
namespace Go.Proofs.YtbapgkopilmdfaaDoor
theorem actualMoves_holds : Rows.ActualMovesCardSaid := actualMoves.card
#print axioms actualMoves_holds
end Go.Proofs.YtbapgkopilmdfaaDoor
