/-
  No cell of these rows narrows 'for every input' (looked for: loops, veiled, ifaces, maps, wideKeys, modest, calm, conditions, laid).
  DERIVED. THE GIVEN ROWS OF THIS SEAT. 12 by the template 'for every input the law returns true; each argument reads behind the call as it read before'; 0 by the template 'total and deterministic' (their statements: YteikafepdkijdaaTotals.lean).
  GIVEN WITH THE SEED: the statements are not yours to turn. If you find one false, say at which input.
  Laid BY PROGRAM, IN A SANDBOX (cutbox-rows.mjs): the forced cells as the released guide's own fill.sh prints them over the translation 55beece360103d78… (all of the seat's roots in one cut). By AI agents, Wed Nov 11 2026. No macro, syntax, notation, axiom, sorry.
-/
import Derived.Test.YteikafepdkijdaaChecked
import GoSem.Claim
import GoSem.ClaimJoined
import GoSem.ClaimMapViews
import Derived.JoinedTies
import Derived.KernelRfl
namespace Go.Proofs.Yteikafepdkijdaa
/- THE CELL 'sum', in the pinned program and in every row, IS THE sha256 OF THE DUMP (.gsa) THAT YteikafepdkijdaaProg.lean LOADS. Nothing in Lean hashes anything: it is a label: what it is worth is what the hold of that sum in a sandbox is worth. -/
noncomputable def Try.pinned : Pinned := { name := "yteikafepdkijdaa", sum := "55beece360103d78a33398ef48debff0d33d8b21f547017bca2f332bc06e1cd3", checked := Try.checked }
namespace Rows
def none {H : Type} : Left H := { results := [], args := [] }

/-- 'demurragelaw20.LevelEnds': WHATEVER THE INPUT: true; the input reads as it did. -/
def levelEndsSpec : ChangeSpec := { name := "levelEnds", fn := fun _ => fun
  | [d] => { results := [.lit (.bool true)], args := [d] }
  | _ => none }
def levelEndsRow : OpenClaim := { program := "yteikafepdkijdaa", sum := "55beece360103d78a33398ef48debff0d33d8b21f547017bca2f332bc06e1cd3", func := "demurrage/demurragelaw20.LevelEnds", spec := "levelEnds", inPlace := ["math/bits.Add64"], unfollowed := true, recurses := true, named := ["math/bits.divideError", "math/bits.overflowError"], apart := false }
def LevelEndsSaid : Prop := levelEndsRow.holds Try.pinned (OpenSpec.ofChange levelEndsSpec)

/-- ITS FALSE NEIGHBOUR: 'it returns false'. Refute it at one input. -/
def levelEndsWrong : ChangeSpec := { name := "levelEnds", fn := fun _ => fun
  | [d] => { results := [.lit (.bool false)], args := [d] }
  | _ => none }
def LevelEndsWrongFalsely : Prop := levelEndsRow.holds Try.pinned (OpenSpec.ofChange levelEndsWrong)

/-- 'demurragelaw20.LevelLeast': WHATEVER THE INPUT: true; the input reads as it did. -/
def levelLeastSpec : ChangeSpec := { name := "levelLeast", fn := fun _ => fun
  | [d] => { results := [.lit (.bool true)], args := [d] }
  | _ => none }
def levelLeastRow : OpenClaim := { program := "yteikafepdkijdaa", sum := "55beece360103d78a33398ef48debff0d33d8b21f547017bca2f332bc06e1cd3", func := "demurrage/demurragelaw20.LevelLeast", spec := "levelLeast", inPlace := ["math/bits.Add64"], unfollowed := true, recurses := true, named := ["math/bits.divideError", "math/bits.overflowError"], apart := false }
def LevelLeastSaid : Prop := levelLeastRow.holds Try.pinned (OpenSpec.ofChange levelLeastSpec)

/-- ITS FALSE NEIGHBOUR: 'it returns false'. Refute it at one input. -/
def levelLeastWrong : ChangeSpec := { name := "levelLeast", fn := fun _ => fun
  | [d] => { results := [.lit (.bool false)], args := [d] }
  | _ => none }
def LevelLeastWrongFalsely : Prop := levelLeastRow.holds Try.pinned (OpenSpec.ofChange levelLeastWrong)

/-- 'demurragelaw20.LevelTable': WHATEVER THE INPUT: true; the input reads as it did. -/
def levelTableSpec : ChangeSpec := { name := "levelTable", fn := fun _ => fun
  | [d1, d2, d3] => { results := [.lit (.bool true)], args := [d1, d2, d3] }
  | _ => none }
def levelTableRow : OpenClaim := { program := "yteikafepdkijdaa", sum := "55beece360103d78a33398ef48debff0d33d8b21f547017bca2f332bc06e1cd3", func := "demurrage/demurragelaw20.LevelTable", spec := "levelTable", inPlace := ["math/bits.Add64"], unfollowed := true, recurses := true, named := ["math/bits.divideError", "math/bits.overflowError"], apart := false }
def LevelTableSaid : Prop := levelTableRow.holds Try.pinned (OpenSpec.ofChange levelTableSpec)

/-- ITS FALSE NEIGHBOUR: 'it returns false'. Refute it at one input. -/
def levelTableWrong : ChangeSpec := { name := "levelTable", fn := fun _ => fun
  | [d1, d2, d3] => { results := [.lit (.bool false)], args := [d1, d2, d3] }
  | _ => none }
def LevelTableWrongFalsely : Prop := levelTableRow.holds Try.pinned (OpenSpec.ofChange levelTableWrong)

/-- 'demurragelaw20.LevelSmall': WHATEVER THE INPUT: true; the input reads as it did. -/
def levelSmallSpec : ChangeSpec := { name := "levelSmall", fn := fun _ => fun
  | [d1, d2, d3] => { results := [.lit (.bool true)], args := [d1, d2, d3] }
  | _ => none }
def levelSmallRow : OpenClaim := { program := "yteikafepdkijdaa", sum := "55beece360103d78a33398ef48debff0d33d8b21f547017bca2f332bc06e1cd3", func := "demurrage/demurragelaw20.LevelSmall", spec := "levelSmall", inPlace := ["math/bits.Add64"], unfollowed := true, recurses := true, named := ["math/bits.divideError", "math/bits.overflowError"], apart := false }
def LevelSmallSaid : Prop := levelSmallRow.holds Try.pinned (OpenSpec.ofChange levelSmallSpec)

/-- ITS FALSE NEIGHBOUR: 'it returns false'. Refute it at one input. -/
def levelSmallWrong : ChangeSpec := { name := "levelSmall", fn := fun _ => fun
  | [d1, d2, d3] => { results := [.lit (.bool false)], args := [d1, d2, d3] }
  | _ => none }
def LevelSmallWrongFalsely : Prop := levelSmallRow.holds Try.pinned (OpenSpec.ofChange levelSmallWrong)

/-- 'demurragelaw20.LevelFree': WHATEVER THE INPUT: true; the input reads as it did. -/
def levelFreeSpec : ChangeSpec := { name := "levelFree", fn := fun _ => fun
  | [d1, d2, d3] => { results := [.lit (.bool true)], args := [d1, d2, d3] }
  | _ => none }
def levelFreeRow : OpenClaim := { program := "yteikafepdkijdaa", sum := "55beece360103d78a33398ef48debff0d33d8b21f547017bca2f332bc06e1cd3", func := "demurrage/demurragelaw20.LevelFree", spec := "levelFree", inPlace := ["math/bits.Add64"], unfollowed := true, recurses := true, named := ["math/bits.divideError", "math/bits.overflowError"], apart := false }
def LevelFreeSaid : Prop := levelFreeRow.holds Try.pinned (OpenSpec.ofChange levelFreeSpec)

/-- ITS FALSE NEIGHBOUR: 'it returns false'. Refute it at one input. -/
def levelFreeWrong : ChangeSpec := { name := "levelFree", fn := fun _ => fun
  | [d1, d2, d3] => { results := [.lit (.bool false)], args := [d1, d2, d3] }
  | _ => none }
def LevelFreeWrongFalsely : Prop := levelFreeRow.holds Try.pinned (OpenSpec.ofChange levelFreeWrong)

/-- 'demurragelaw20.LevelGrows': WHATEVER THE INPUT: true; the input reads as it did. -/
def levelGrowsSpec : ChangeSpec := { name := "levelGrows", fn := fun _ => fun
  | [d] => { results := [.lit (.bool true)], args := [d] }
  | _ => none }
def levelGrowsRow : OpenClaim := { program := "yteikafepdkijdaa", sum := "55beece360103d78a33398ef48debff0d33d8b21f547017bca2f332bc06e1cd3", func := "demurrage/demurragelaw20.LevelGrows", spec := "levelGrows", inPlace := ["math/bits.Add64"], unfollowed := true, recurses := true, named := ["math/bits.divideError", "math/bits.overflowError"], apart := false }
def LevelGrowsSaid : Prop := levelGrowsRow.holds Try.pinned (OpenSpec.ofChange levelGrowsSpec)

/-- ITS FALSE NEIGHBOUR: 'it returns false'. Refute it at one input. -/
def levelGrowsWrong : ChangeSpec := { name := "levelGrows", fn := fun _ => fun
  | [d] => { results := [.lit (.bool false)], args := [d] }
  | _ => none }
def LevelGrowsWrongFalsely : Prop := levelGrowsRow.holds Try.pinned (OpenSpec.ofChange levelGrowsWrong)

/-- 'demurragelaw21.TableTells': WHATEVER THE INPUT: true; the input reads as it did. -/
def tableTellsSpec : ChangeSpec := { name := "tableTells", fn := fun _ => fun
  | [d] => { results := [.lit (.bool true)], args := [d] }
  | _ => none }
def tableTellsRow : OpenClaim := { program := "yteikafepdkijdaa", sum := "55beece360103d78a33398ef48debff0d33d8b21f547017bca2f332bc06e1cd3", func := "demurrage/demurragelaw21.TableTells", spec := "tableTells", inPlace := ["math/bits.Add64"], unfollowed := true, recurses := true, named := ["math/bits.divideError", "math/bits.overflowError"], apart := false }
def TableTellsSaid : Prop := tableTellsRow.holds Try.pinned (OpenSpec.ofChange tableTellsSpec)

/-- ITS FALSE NEIGHBOUR: 'it returns false'. Refute it at one input. -/
def tableTellsWrong : ChangeSpec := { name := "tableTells", fn := fun _ => fun
  | [d] => { results := [.lit (.bool false)], args := [d] }
  | _ => none }
def TableTellsWrongFalsely : Prop := tableTellsRow.holds Try.pinned (OpenSpec.ofChange tableTellsWrong)

/-- 'demurragelaw21.TableSums': WHATEVER THE INPUT: true; the input reads as it did. -/
def tableSumsSpec : ChangeSpec := { name := "tableSums", fn := fun _ => fun
  | [d] => { results := [.lit (.bool true)], args := [d] }
  | _ => none }
def tableSumsRow : OpenClaim := { program := "yteikafepdkijdaa", sum := "55beece360103d78a33398ef48debff0d33d8b21f547017bca2f332bc06e1cd3", func := "demurrage/demurragelaw21.TableSums", spec := "tableSums", inPlace := ["math/bits.Add64"], unfollowed := true, recurses := true, named := ["math/bits.divideError", "math/bits.overflowError"], apart := false }
def TableSumsSaid : Prop := tableSumsRow.holds Try.pinned (OpenSpec.ofChange tableSumsSpec)

/-- ITS FALSE NEIGHBOUR: 'it returns false'. Refute it at one input. -/
def tableSumsWrong : ChangeSpec := { name := "tableSums", fn := fun _ => fun
  | [d] => { results := [.lit (.bool false)], args := [d] }
  | _ => none }
def TableSumsWrongFalsely : Prop := tableSumsRow.holds Try.pinned (OpenSpec.ofChange tableSumsWrong)

/-- 'demurragelaw21.TableSound': WHATEVER THE INPUT: true; the input reads as it did. -/
def tableSoundSpec : ChangeSpec := { name := "tableSound", fn := fun _ => fun
  | [d] => { results := [.lit (.bool true)], args := [d] }
  | _ => none }
def tableSoundRow : OpenClaim := { program := "yteikafepdkijdaa", sum := "55beece360103d78a33398ef48debff0d33d8b21f547017bca2f332bc06e1cd3", func := "demurrage/demurragelaw21.TableSound", spec := "tableSound", inPlace := ["math/bits.Add64"], unfollowed := true, recurses := true, named := ["math/bits.divideError", "math/bits.overflowError"], apart := false }
def TableSoundSaid : Prop := tableSoundRow.holds Try.pinned (OpenSpec.ofChange tableSoundSpec)

/-- ITS FALSE NEIGHBOUR: 'it returns false'. Refute it at one input. -/
def tableSoundWrong : ChangeSpec := { name := "tableSound", fn := fun _ => fun
  | [d] => { results := [.lit (.bool false)], args := [d] }
  | _ => none }
def TableSoundWrongFalsely : Prop := tableSoundRow.holds Try.pinned (OpenSpec.ofChange tableSoundWrong)

/-- 'demurragelaw21.TableLess': WHATEVER THE INPUT: true; the input reads as it did. -/
def tableLessSpec : ChangeSpec := { name := "tableLess", fn := fun _ => fun
  | [d1, d2, d3] => { results := [.lit (.bool true)], args := [d1, d2, d3] }
  | _ => none }
def tableLessRow : OpenClaim := { program := "yteikafepdkijdaa", sum := "55beece360103d78a33398ef48debff0d33d8b21f547017bca2f332bc06e1cd3", func := "demurrage/demurragelaw21.TableLess", spec := "tableLess", inPlace := ["math/bits.Add64"], unfollowed := true, recurses := true, named := ["math/bits.divideError", "math/bits.overflowError"], apart := false }
def TableLessSaid : Prop := tableLessRow.holds Try.pinned (OpenSpec.ofChange tableLessSpec)

/-- ITS FALSE NEIGHBOUR: 'it returns false'. Refute it at one input. -/
def tableLessWrong : ChangeSpec := { name := "tableLess", fn := fun _ => fun
  | [d1, d2, d3] => { results := [.lit (.bool false)], args := [d1, d2, d3] }
  | _ => none }
def TableLessWrongFalsely : Prop := tableLessRow.holds Try.pinned (OpenSpec.ofChange tableLessWrong)

/-- 'demurragelaw21.TableAdds': WHATEVER THE INPUT: true; the input reads as it did. -/
def tableAddsSpec : ChangeSpec := { name := "tableAdds", fn := fun _ => fun
  | [d1, d2] => { results := [.lit (.bool true)], args := [d1, d2] }
  | _ => none }
def tableAddsRow : OpenClaim := { program := "yteikafepdkijdaa", sum := "55beece360103d78a33398ef48debff0d33d8b21f547017bca2f332bc06e1cd3", func := "demurrage/demurragelaw21.TableAdds", spec := "tableAdds", inPlace := ["math/bits.Add64"], unfollowed := true, recurses := true, named := ["math/bits.divideError", "math/bits.overflowError"], apart := false }
def TableAddsSaid : Prop := tableAddsRow.holds Try.pinned (OpenSpec.ofChange tableAddsSpec)

/-- ITS FALSE NEIGHBOUR: 'it returns false'. Refute it at one input. -/
def tableAddsWrong : ChangeSpec := { name := "tableAdds", fn := fun _ => fun
  | [d1, d2] => { results := [.lit (.bool false)], args := [d1, d2] }
  | _ => none }
def TableAddsWrongFalsely : Prop := tableAddsRow.holds Try.pinned (OpenSpec.ofChange tableAddsWrong)

/-- 'demurragelaw21.TableKinds': WHATEVER THE INPUT: true; the input reads as it did. -/
def tableKindsSpec : ChangeSpec := { name := "tableKinds", fn := fun _ => fun
  | [d] => { results := [.lit (.bool true)], args := [d] }
  | _ => none }
def tableKindsRow : OpenClaim := { program := "yteikafepdkijdaa", sum := "55beece360103d78a33398ef48debff0d33d8b21f547017bca2f332bc06e1cd3", func := "demurrage/demurragelaw21.TableKinds", spec := "tableKinds", inPlace := ["math/bits.Add64"], unfollowed := true, recurses := true, named := ["math/bits.divideError", "math/bits.overflowError"], apart := false }
def TableKindsSaid : Prop := tableKindsRow.holds Try.pinned (OpenSpec.ofChange tableKindsSpec)

/-- ITS FALSE NEIGHBOUR: 'it returns false'. Refute it at one input. -/
def tableKindsWrong : ChangeSpec := { name := "tableKinds", fn := fun _ => fun
  | [d] => { results := [.lit (.bool false)], args := [d] }
  | _ => none }
def TableKindsWrongFalsely : Prop := tableKindsRow.holds Try.pinned (OpenSpec.ofChange tableKindsWrong)

/- THE SECOND FORM. 'bulk': how many values and letters a reading holds, each counted each time it is reached (what is shared counts as often as it is met; a slice's spare places count too). A statement '..UptoSaid' is the law's where the arguments, and the package variables that the reading takes, are together of bulk at most 1048576: NARROWER than '..Said'. Prove '..Said' where nothing that the law and all that it calls make is longer than what came in: it says more and counts as full. Else prove '..UptoSaid'. A law counts once. -/
mutual
def uptoBulk {H : Type} : DataW H → Nat
  | .lit (.string bytes) => bytes.length + 1
  | .lit _ => 1
  | .nil => 1
  | .ptr d => uptoBulk d + 1
  | .slice elems spare => uptoBulkAll elems + uptoBulkAll spare + 1
  | .agg parts => uptoBulkAll parts + 1
  | .iface _ d => uptoBulk d + 1
  | .map entries => uptoBulkEntries entries + 1
  | .held _ => 1
def uptoBulkAll {H : Type} : List (DataW H) → Nat
  | [] => 0
  | d :: r => uptoBulk d + uptoBulkAll r
def uptoBulkEntries {H : Type} : List (Lit × DataW H) → Nat
  | [] => 0
  | x :: r => uptoBulkEntry x + uptoBulkEntries r
def uptoBulkEntry {H : Type} : Lit × DataW H → Nat
  | (.string bytes, d) => bytes.length + uptoBulk d + 1
  | (_, d) => uptoBulk d + 1
 end
def uptoSmall : (H : Type) → List (DataW H) → Bool := fun _ ds => decide (uptoBulkAll ds ≤ 1048576)
def OpenSpec.upto (s : _root_.Go.ChangeSpec) : _root_.Go.OpenSpec := { _root_.Go.OpenSpec.ofChange s with cond := some uptoSmall }

/-- 'demurragelaw20.LevelEnds', WHERE WHAT IT READS IS OF BULK AT MOST 1048576: true; the input reads as it did. -/
def levelEndsUptoRow : OpenClaim := { program := "yteikafepdkijdaa", sum := "55beece360103d78a33398ef48debff0d33d8b21f547017bca2f332bc06e1cd3", func := "demurrage/demurragelaw20.LevelEnds", spec := "levelEnds", inPlace := ["math/bits.Add64"], unfollowed := true, recurses := true, named := ["math/bits.divideError", "math/bits.overflowError"], apart := false, narrowed := true }
def LevelEndsUptoSaid : Prop := levelEndsUptoRow.holds Try.pinned (OpenSpec.upto levelEndsSpec)

/-- 'demurragelaw20.LevelLeast', WHERE WHAT IT READS IS OF BULK AT MOST 1048576: true; the input reads as it did. -/
def levelLeastUptoRow : OpenClaim := { program := "yteikafepdkijdaa", sum := "55beece360103d78a33398ef48debff0d33d8b21f547017bca2f332bc06e1cd3", func := "demurrage/demurragelaw20.LevelLeast", spec := "levelLeast", inPlace := ["math/bits.Add64"], unfollowed := true, recurses := true, named := ["math/bits.divideError", "math/bits.overflowError"], apart := false, narrowed := true }
def LevelLeastUptoSaid : Prop := levelLeastUptoRow.holds Try.pinned (OpenSpec.upto levelLeastSpec)

/-- 'demurragelaw20.LevelTable', WHERE WHAT IT READS IS OF BULK AT MOST 1048576: true; the input reads as it did. -/
def levelTableUptoRow : OpenClaim := { program := "yteikafepdkijdaa", sum := "55beece360103d78a33398ef48debff0d33d8b21f547017bca2f332bc06e1cd3", func := "demurrage/demurragelaw20.LevelTable", spec := "levelTable", inPlace := ["math/bits.Add64"], unfollowed := true, recurses := true, named := ["math/bits.divideError", "math/bits.overflowError"], apart := false, narrowed := true }
def LevelTableUptoSaid : Prop := levelTableUptoRow.holds Try.pinned (OpenSpec.upto levelTableSpec)

/-- 'demurragelaw20.LevelSmall', WHERE WHAT IT READS IS OF BULK AT MOST 1048576: true; the input reads as it did. -/
def levelSmallUptoRow : OpenClaim := { program := "yteikafepdkijdaa", sum := "55beece360103d78a33398ef48debff0d33d8b21f547017bca2f332bc06e1cd3", func := "demurrage/demurragelaw20.LevelSmall", spec := "levelSmall", inPlace := ["math/bits.Add64"], unfollowed := true, recurses := true, named := ["math/bits.divideError", "math/bits.overflowError"], apart := false, narrowed := true }
def LevelSmallUptoSaid : Prop := levelSmallUptoRow.holds Try.pinned (OpenSpec.upto levelSmallSpec)

/-- 'demurragelaw20.LevelFree', WHERE WHAT IT READS IS OF BULK AT MOST 1048576: true; the input reads as it did. -/
def levelFreeUptoRow : OpenClaim := { program := "yteikafepdkijdaa", sum := "55beece360103d78a33398ef48debff0d33d8b21f547017bca2f332bc06e1cd3", func := "demurrage/demurragelaw20.LevelFree", spec := "levelFree", inPlace := ["math/bits.Add64"], unfollowed := true, recurses := true, named := ["math/bits.divideError", "math/bits.overflowError"], apart := false, narrowed := true }
def LevelFreeUptoSaid : Prop := levelFreeUptoRow.holds Try.pinned (OpenSpec.upto levelFreeSpec)

/-- 'demurragelaw20.LevelGrows', WHERE WHAT IT READS IS OF BULK AT MOST 1048576: true; the input reads as it did. -/
def levelGrowsUptoRow : OpenClaim := { program := "yteikafepdkijdaa", sum := "55beece360103d78a33398ef48debff0d33d8b21f547017bca2f332bc06e1cd3", func := "demurrage/demurragelaw20.LevelGrows", spec := "levelGrows", inPlace := ["math/bits.Add64"], unfollowed := true, recurses := true, named := ["math/bits.divideError", "math/bits.overflowError"], apart := false, narrowed := true }
def LevelGrowsUptoSaid : Prop := levelGrowsUptoRow.holds Try.pinned (OpenSpec.upto levelGrowsSpec)

/-- 'demurragelaw21.TableTells', WHERE WHAT IT READS IS OF BULK AT MOST 1048576: true; the input reads as it did. -/
def tableTellsUptoRow : OpenClaim := { program := "yteikafepdkijdaa", sum := "55beece360103d78a33398ef48debff0d33d8b21f547017bca2f332bc06e1cd3", func := "demurrage/demurragelaw21.TableTells", spec := "tableTells", inPlace := ["math/bits.Add64"], unfollowed := true, recurses := true, named := ["math/bits.divideError", "math/bits.overflowError"], apart := false, narrowed := true }
def TableTellsUptoSaid : Prop := tableTellsUptoRow.holds Try.pinned (OpenSpec.upto tableTellsSpec)

/-- 'demurragelaw21.TableSums', WHERE WHAT IT READS IS OF BULK AT MOST 1048576: true; the input reads as it did. -/
def tableSumsUptoRow : OpenClaim := { program := "yteikafepdkijdaa", sum := "55beece360103d78a33398ef48debff0d33d8b21f547017bca2f332bc06e1cd3", func := "demurrage/demurragelaw21.TableSums", spec := "tableSums", inPlace := ["math/bits.Add64"], unfollowed := true, recurses := true, named := ["math/bits.divideError", "math/bits.overflowError"], apart := false, narrowed := true }
def TableSumsUptoSaid : Prop := tableSumsUptoRow.holds Try.pinned (OpenSpec.upto tableSumsSpec)

/-- 'demurragelaw21.TableSound', WHERE WHAT IT READS IS OF BULK AT MOST 1048576: true; the input reads as it did. -/
def tableSoundUptoRow : OpenClaim := { program := "yteikafepdkijdaa", sum := "55beece360103d78a33398ef48debff0d33d8b21f547017bca2f332bc06e1cd3", func := "demurrage/demurragelaw21.TableSound", spec := "tableSound", inPlace := ["math/bits.Add64"], unfollowed := true, recurses := true, named := ["math/bits.divideError", "math/bits.overflowError"], apart := false, narrowed := true }
def TableSoundUptoSaid : Prop := tableSoundUptoRow.holds Try.pinned (OpenSpec.upto tableSoundSpec)

/-- 'demurragelaw21.TableLess', WHERE WHAT IT READS IS OF BULK AT MOST 1048576: true; the input reads as it did. -/
def tableLessUptoRow : OpenClaim := { program := "yteikafepdkijdaa", sum := "55beece360103d78a33398ef48debff0d33d8b21f547017bca2f332bc06e1cd3", func := "demurrage/demurragelaw21.TableLess", spec := "tableLess", inPlace := ["math/bits.Add64"], unfollowed := true, recurses := true, named := ["math/bits.divideError", "math/bits.overflowError"], apart := false, narrowed := true }
def TableLessUptoSaid : Prop := tableLessUptoRow.holds Try.pinned (OpenSpec.upto tableLessSpec)

/-- 'demurragelaw21.TableAdds', WHERE WHAT IT READS IS OF BULK AT MOST 1048576: true; the input reads as it did. -/
def tableAddsUptoRow : OpenClaim := { program := "yteikafepdkijdaa", sum := "55beece360103d78a33398ef48debff0d33d8b21f547017bca2f332bc06e1cd3", func := "demurrage/demurragelaw21.TableAdds", spec := "tableAdds", inPlace := ["math/bits.Add64"], unfollowed := true, recurses := true, named := ["math/bits.divideError", "math/bits.overflowError"], apart := false, narrowed := true }
def TableAddsUptoSaid : Prop := tableAddsUptoRow.holds Try.pinned (OpenSpec.upto tableAddsSpec)

/-- 'demurragelaw21.TableKinds', WHERE WHAT IT READS IS OF BULK AT MOST 1048576: true; the input reads as it did. -/
def tableKindsUptoRow : OpenClaim := { program := "yteikafepdkijdaa", sum := "55beece360103d78a33398ef48debff0d33d8b21f547017bca2f332bc06e1cd3", func := "demurrage/demurragelaw21.TableKinds", spec := "tableKinds", inPlace := ["math/bits.Add64"], unfollowed := true, recurses := true, named := ["math/bits.divideError", "math/bits.overflowError"], apart := false, narrowed := true }
def TableKindsUptoSaid : Prop := tableKindsUptoRow.holds Try.pinned (OpenSpec.upto tableKindsSpec)

end Rows
end Go.Proofs.Yteikafepdkijdaa
