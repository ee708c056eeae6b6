/-
  NARROWER THAN 'FOR EVERY INPUT', by the rows' own cells (each row's printed sentence says how): ActualTells: laid · ActualAdds: laid · ActualYears: laid · ActualBetween: laid · ActualMoves: laid.
  DERIVED. THE GIVEN ROWS OF THIS SEAT. 5 by the template 'for every input the law returns true; each argument reads behind the call as it read before'; 0 by the template 'total and deterministic' (their statements: YtbapgkopilmdfaaDoorTotals.lean).
  GIVEN WITH THE SEED: the statements are not yours to turn. If you find one false, say at which input.
  Laid BY PROGRAM, IN A SANDBOX (cutbox-rows.mjs): the forced cells as the released guide's own fill.sh prints them over the translation 7d378cab14afd02d… (all of the seat's roots in one cut). By AI agents, Wed Nov 11 2026. No macro, syntax, notation, axiom, sorry.
-/
import Derived.Test.YtbapgkopilmdfaaDoorChecked
import GoSem.Claim
import GoSem.ClaimJoined
import GoSem.ClaimMapViews
import Derived.JoinedTies
import Derived.KernelRfl
namespace Go.Proofs.YtbapgkopilmdfaaDoor
/- THE CELL 'sum', in the pinned program and in every row, IS THE sha256 OF THE DUMP (.gsa) THAT YtbapgkopilmdfaaDoorProg.lean LOADS. Nothing in Lean hashes anything: it is a label: what it is worth is what the hold of that sum in a sandbox is worth. -/
noncomputable def Tryd.pinned : Pinned := { name := "ytbapgkopilmdfaadoor", sum := "7d378cab14afd02d2e2b5e330b7335bb0fe1c8307ef0577cfc3fee25c1d1e268", checked := Tryd.checked }
namespace Rows
def none {H : Type} : Left H := { results := [], args := [] }

/- WHAT THE LISTED PACKAGE-LEVEL VARIABLES READ AS WHEN THE CALL BEGINS. Each datum BY PROGRAM (the guide's laid-datum.mjs) off the statement by which the dump's own 'gosem.cut.vars' lays the variable. In a bare row this is a premise. The card (YtbapgkopilmdfaaDoorCards.lean) ties it to the program's text. -/
def laid_demurrage_civil_lengths {H : Type} : DataW H := .agg [.lit (.int .i64 0), .lit (.int .i64 31), .lit (.int .i64 28), .lit (.int .i64 31), .lit (.int .i64 30), .lit (.int .i64 31), .lit (.int .i64 30), .lit (.int .i64 31), .lit (.int .i64 31), .lit (.int .i64 30), .lit (.int .i64 31), .lit (.int .i64 30), .lit (.int .i64 31)]
def laid_demurrage_actual_errNone {H : Type} : DataW H := .iface "*errors.errorString" (.ptr (.agg [.lit (.string [110, 111, 32, 100, 97, 121])]))
def laid_demurrage_actual_errTurns {H : Type} : DataW H := .iface "*errors.errorString" (.ptr (.agg [.lit (.string [100, 97, 121, 115, 32, 116, 104, 101, 32, 119, 114, 111, 110, 103, 32, 119, 97, 121, 32, 114, 111, 117, 110, 100])]))

/-- 'demurragelaw08.ActualTells': WHATEVER THE INPUT: true; the input reads as it did. -/
def actualTellsSpec : ChangeSpec := { name := "actualTells", fn := fun _ => fun
  | [d1, d2] => { results := [.lit (.bool true)], args := [d1, d2] }
  | _ => none }
def actualTellsRow : OpenClaim := { program := "ytbapgkopilmdfaadoor", sum := "7d378cab14afd02d2e2b5e330b7335bb0fe1c8307ef0577cfc3fee25c1d1e268", func := "demurrage/demurragelaw08.ActualTells", spec := "actualTells", inPlace := ["internal/reflectlite.TypeOf", "math/bits.Add64"], unfollowed := true, recurses := true, named := ["demurrage/actual.errNone", "demurrage/actual.errTurns", "demurrage/civil.lengths", "math/bits.divideError", "math/bits.overflowError"], apart := false, laid := [("demurrage/civil.lengths", laid_demurrage_civil_lengths), ("demurrage/actual.errNone", laid_demurrage_actual_errNone), ("demurrage/actual.errTurns", laid_demurrage_actual_errTurns)] }
def ActualTellsSaid : Prop := actualTellsRow.holds Tryd.pinned (OpenSpec.ofChange actualTellsSpec)

/-- ITS FALSE NEIGHBOUR: 'it returns false'. Refute it at one input. -/
def actualTellsWrong : ChangeSpec := { name := "actualTells", fn := fun _ => fun
  | [d1, d2] => { results := [.lit (.bool false)], args := [d1, d2] }
  | _ => none }
def ActualTellsWrongFalsely : Prop := actualTellsRow.holds Tryd.pinned (OpenSpec.ofChange actualTellsWrong)

/-- 'demurragelaw08.ActualAdds': WHATEVER THE INPUT: true; the input reads as it did. -/
def actualAddsSpec : ChangeSpec := { name := "actualAdds", fn := fun _ => fun
  | [d1, d2, d3] => { results := [.lit (.bool true)], args := [d1, d2, d3] }
  | _ => none }
def actualAddsRow : OpenClaim := { program := "ytbapgkopilmdfaadoor", sum := "7d378cab14afd02d2e2b5e330b7335bb0fe1c8307ef0577cfc3fee25c1d1e268", func := "demurrage/demurragelaw08.ActualAdds", spec := "actualAdds", inPlace := ["internal/reflectlite.TypeOf", "math/bits.Add64"], unfollowed := true, recurses := true, named := ["demurrage/actual.errNone", "demurrage/actual.errTurns", "demurrage/civil.lengths", "math/bits.divideError", "math/bits.overflowError"], apart := false, laid := [("demurrage/civil.lengths", laid_demurrage_civil_lengths), ("demurrage/actual.errNone", laid_demurrage_actual_errNone), ("demurrage/actual.errTurns", laid_demurrage_actual_errTurns)] }
def ActualAddsSaid : Prop := actualAddsRow.holds Tryd.pinned (OpenSpec.ofChange actualAddsSpec)

/-- ITS FALSE NEIGHBOUR: 'it returns false'. Refute it at one input. -/
def actualAddsWrong : ChangeSpec := { name := "actualAdds", fn := fun _ => fun
  | [d1, d2, d3] => { results := [.lit (.bool false)], args := [d1, d2, d3] }
  | _ => none }
def ActualAddsWrongFalsely : Prop := actualAddsRow.holds Tryd.pinned (OpenSpec.ofChange actualAddsWrong)

/-- 'demurragelaw08.ActualYears': WHATEVER THE INPUT: true; the input reads as it did. -/
def actualYearsSpec : ChangeSpec := { name := "actualYears", fn := fun _ => fun
  | [d] => { results := [.lit (.bool true)], args := [d] }
  | _ => none }
def actualYearsRow : OpenClaim := { program := "ytbapgkopilmdfaadoor", sum := "7d378cab14afd02d2e2b5e330b7335bb0fe1c8307ef0577cfc3fee25c1d1e268", func := "demurrage/demurragelaw08.ActualYears", spec := "actualYears", inPlace := ["internal/reflectlite.TypeOf", "math/bits.Add64"], unfollowed := true, recurses := true, named := ["demurrage/actual.errNone", "demurrage/actual.errTurns", "demurrage/civil.lengths", "math/bits.divideError", "math/bits.overflowError"], apart := false, laid := [("demurrage/civil.lengths", laid_demurrage_civil_lengths), ("demurrage/actual.errNone", laid_demurrage_actual_errNone), ("demurrage/actual.errTurns", laid_demurrage_actual_errTurns)] }
def ActualYearsSaid : Prop := actualYearsRow.holds Tryd.pinned (OpenSpec.ofChange actualYearsSpec)

/-- ITS FALSE NEIGHBOUR: 'it returns false'. Refute it at one input. -/
def actualYearsWrong : ChangeSpec := { name := "actualYears", fn := fun _ => fun
  | [d] => { results := [.lit (.bool false)], args := [d] }
  | _ => none }
def ActualYearsWrongFalsely : Prop := actualYearsRow.holds Tryd.pinned (OpenSpec.ofChange actualYearsWrong)

/-- 'demurragelaw08.ActualBetween': WHATEVER THE INPUT: true; the input reads as it did. -/
def actualBetweenSpec : ChangeSpec := { name := "actualBetween", fn := fun _ => fun
  | [d1, d2] => { results := [.lit (.bool true)], args := [d1, d2] }
  | _ => none }
def actualBetweenRow : OpenClaim := { program := "ytbapgkopilmdfaadoor", sum := "7d378cab14afd02d2e2b5e330b7335bb0fe1c8307ef0577cfc3fee25c1d1e268", func := "demurrage/demurragelaw08.ActualBetween", spec := "actualBetween", inPlace := ["internal/reflectlite.TypeOf", "math/bits.Add64"], unfollowed := true, recurses := true, named := ["demurrage/actual.errNone", "demurrage/actual.errTurns", "demurrage/civil.lengths", "math/bits.divideError", "math/bits.overflowError"], apart := false, laid := [("demurrage/civil.lengths", laid_demurrage_civil_lengths), ("demurrage/actual.errNone", laid_demurrage_actual_errNone), ("demurrage/actual.errTurns", laid_demurrage_actual_errTurns)] }
def ActualBetweenSaid : Prop := actualBetweenRow.holds Tryd.pinned (OpenSpec.ofChange actualBetweenSpec)

/-- ITS FALSE NEIGHBOUR: 'it returns false'. Refute it at one input. -/
def actualBetweenWrong : ChangeSpec := { name := "actualBetween", fn := fun _ => fun
  | [d1, d2] => { results := [.lit (.bool false)], args := [d1, d2] }
  | _ => none }
def ActualBetweenWrongFalsely : Prop := actualBetweenRow.holds Tryd.pinned (OpenSpec.ofChange actualBetweenWrong)

/-- 'demurragelaw08.ActualMoves': WHATEVER THE INPUT: true; the input reads as it did. -/
def actualMovesSpec : ChangeSpec := { name := "actualMoves", fn := fun _ => fun
  | [d1, d2] => { results := [.lit (.bool true)], args := [d1, d2] }
  | _ => none }
def actualMovesRow : OpenClaim := { program := "ytbapgkopilmdfaadoor", sum := "7d378cab14afd02d2e2b5e330b7335bb0fe1c8307ef0577cfc3fee25c1d1e268", func := "demurrage/demurragelaw08.ActualMoves", spec := "actualMoves", inPlace := ["internal/reflectlite.TypeOf", "math/bits.Add64"], unfollowed := true, recurses := true, named := ["demurrage/actual.errNone", "demurrage/actual.errTurns", "demurrage/civil.lengths", "math/bits.divideError", "math/bits.overflowError"], apart := false, laid := [("demurrage/civil.lengths", laid_demurrage_civil_lengths), ("demurrage/actual.errNone", laid_demurrage_actual_errNone), ("demurrage/actual.errTurns", laid_demurrage_actual_errTurns)] }
def ActualMovesSaid : Prop := actualMovesRow.holds Tryd.pinned (OpenSpec.ofChange actualMovesSpec)

/-- ITS FALSE NEIGHBOUR: 'it returns false'. Refute it at one input. -/
def actualMovesWrong : ChangeSpec := { name := "actualMoves", fn := fun _ => fun
  | [d1, d2] => { results := [.lit (.bool false)], args := [d1, d2] }
  | _ => none }
def ActualMovesWrongFalsely : Prop := actualMovesRow.holds Tryd.pinned (OpenSpec.ofChange actualMovesWrong)

/- THE SECOND FORM. 'bulk': how many values and letters a reading holds, each counted each time it is reached (what is shared counts as often as it is met; a slice's spare places count too). A statement '..UptoSaid' is the law's where the arguments, and the package variables that the reading takes, are together of bulk at most 1048576: NARROWER than '..Said'. Prove '..Said' where nothing that the law and all that it calls make is longer than what came in: it says more and counts as full. Else prove '..UptoSaid'. A law counts once. -/
mutual
def uptoBulk {H : Type} : DataW H → Nat
  | .lit (.string bytes) => bytes.length + 1
  | .lit _ => 1
  | .nil => 1
  | .ptr d => uptoBulk d + 1
  | .slice elems spare => uptoBulkAll elems + uptoBulkAll spare + 1
  | .agg parts => uptoBulkAll parts + 1
  | .iface _ d => uptoBulk d + 1
  | .map entries => uptoBulkEntries entries + 1
  | .held _ => 1
def uptoBulkAll {H : Type} : List (DataW H) → Nat
  | [] => 0
  | d :: r => uptoBulk d + uptoBulkAll r
def uptoBulkEntries {H : Type} : List (Lit × DataW H) → Nat
  | [] => 0
  | x :: r => uptoBulkEntry x + uptoBulkEntries r
def uptoBulkEntry {H : Type} : Lit × DataW H → Nat
  | (.string bytes, d) => bytes.length + uptoBulk d + 1
  | (_, d) => uptoBulk d + 1
 end
def uptoSmall : (H : Type) → List (DataW H) → Bool := fun _ ds => decide (uptoBulkAll ds ≤ 1048576)
def OpenSpec.upto (s : _root_.Go.ChangeSpec) : _root_.Go.OpenSpec := { _root_.Go.OpenSpec.ofChange s with cond := some uptoSmall }

/-- 'demurragelaw08.ActualTells', WHERE WHAT IT READS IS OF BULK AT MOST 1048576: true; the input reads as it did. -/
def actualTellsUptoRow : OpenClaim := { program := "ytbapgkopilmdfaadoor", sum := "7d378cab14afd02d2e2b5e330b7335bb0fe1c8307ef0577cfc3fee25c1d1e268", func := "demurrage/demurragelaw08.ActualTells", spec := "actualTells", inPlace := ["internal/reflectlite.TypeOf", "math/bits.Add64"], unfollowed := true, recurses := true, named := ["demurrage/actual.errNone", "demurrage/actual.errTurns", "demurrage/civil.lengths", "math/bits.divideError", "math/bits.overflowError"], apart := false, laid := [("demurrage/civil.lengths", laid_demurrage_civil_lengths), ("demurrage/actual.errNone", laid_demurrage_actual_errNone), ("demurrage/actual.errTurns", laid_demurrage_actual_errTurns)], narrowed := true }
def ActualTellsUptoSaid : Prop := actualTellsUptoRow.holds Tryd.pinned (OpenSpec.upto actualTellsSpec)

/-- 'demurragelaw08.ActualAdds', WHERE WHAT IT READS IS OF BULK AT MOST 1048576: true; the input reads as it did. -/
def actualAddsUptoRow : OpenClaim := { program := "ytbapgkopilmdfaadoor", sum := "7d378cab14afd02d2e2b5e330b7335bb0fe1c8307ef0577cfc3fee25c1d1e268", func := "demurrage/demurragelaw08.ActualAdds", spec := "actualAdds", inPlace := ["internal/reflectlite.TypeOf", "math/bits.Add64"], unfollowed := true, recurses := true, named := ["demurrage/actual.errNone", "demurrage/actual.errTurns", "demurrage/civil.lengths", "math/bits.divideError", "math/bits.overflowError"], apart := false, laid := [("demurrage/civil.lengths", laid_demurrage_civil_lengths), ("demurrage/actual.errNone", laid_demurrage_actual_errNone), ("demurrage/actual.errTurns", laid_demurrage_actual_errTurns)], narrowed := true }
def ActualAddsUptoSaid : Prop := actualAddsUptoRow.holds Tryd.pinned (OpenSpec.upto actualAddsSpec)

/-- 'demurragelaw08.ActualYears', WHERE WHAT IT READS IS OF BULK AT MOST 1048576: true; the input reads as it did. -/
def actualYearsUptoRow : OpenClaim := { program := "ytbapgkopilmdfaadoor", sum := "7d378cab14afd02d2e2b5e330b7335bb0fe1c8307ef0577cfc3fee25c1d1e268", func := "demurrage/demurragelaw08.ActualYears", spec := "actualYears", inPlace := ["internal/reflectlite.TypeOf", "math/bits.Add64"], unfollowed := true, recurses := true, named := ["demurrage/actual.errNone", "demurrage/actual.errTurns", "demurrage/civil.lengths", "math/bits.divideError", "math/bits.overflowError"], apart := false, laid := [("demurrage/civil.lengths", laid_demurrage_civil_lengths), ("demurrage/actual.errNone", laid_demurrage_actual_errNone), ("demurrage/actual.errTurns", laid_demurrage_actual_errTurns)], narrowed := true }
def ActualYearsUptoSaid : Prop := actualYearsUptoRow.holds Tryd.pinned (OpenSpec.upto actualYearsSpec)

/-- 'demurragelaw08.ActualBetween', WHERE WHAT IT READS IS OF BULK AT MOST 1048576: true; the input reads as it did. -/
def actualBetweenUptoRow : OpenClaim := { program := "ytbapgkopilmdfaadoor", sum := "7d378cab14afd02d2e2b5e330b7335bb0fe1c8307ef0577cfc3fee25c1d1e268", func := "demurrage/demurragelaw08.ActualBetween", spec := "actualBetween", inPlace := ["internal/reflectlite.TypeOf", "math/bits.Add64"], unfollowed := true, recurses := true, named := ["demurrage/actual.errNone", "demurrage/actual.errTurns", "demurrage/civil.lengths", "math/bits.divideError", "math/bits.overflowError"], apart := false, laid := [("demurrage/civil.lengths", laid_demurrage_civil_lengths), ("demurrage/actual.errNone", laid_demurrage_actual_errNone), ("demurrage/actual.errTurns", laid_demurrage_actual_errTurns)], narrowed := true }
def ActualBetweenUptoSaid : Prop := actualBetweenUptoRow.holds Tryd.pinned (OpenSpec.upto actualBetweenSpec)

/-- 'demurragelaw08.ActualMoves', WHERE WHAT IT READS IS OF BULK AT MOST 1048576: true; the input reads as it did. -/
def actualMovesUptoRow : OpenClaim := { program := "ytbapgkopilmdfaadoor", sum := "7d378cab14afd02d2e2b5e330b7335bb0fe1c8307ef0577cfc3fee25c1d1e268", func := "demurrage/demurragelaw08.ActualMoves", spec := "actualMoves", inPlace := ["internal/reflectlite.TypeOf", "math/bits.Add64"], unfollowed := true, recurses := true, named := ["demurrage/actual.errNone", "demurrage/actual.errTurns", "demurrage/civil.lengths", "math/bits.divideError", "math/bits.overflowError"], apart := false, laid := [("demurrage/civil.lengths", laid_demurrage_civil_lengths), ("demurrage/actual.errNone", laid_demurrage_actual_errNone), ("demurrage/actual.errTurns", laid_demurrage_actual_errTurns)], narrowed := true }
def ActualMovesUptoSaid : Prop := actualMovesUptoRow.holds Tryd.pinned (OpenSpec.upto actualMovesSpec)

end Rows
end Go.Proofs.YtbapgkopilmdfaaDoor
