/-
  No cell of these rows narrows 'for every input' (looked for: loops, veiled, ifaces, maps, wideKeys, modest, calm, conditions, laid).
  DERIVED. THE GIVEN ROWS OF THIS SEAT. 5 by the template 'for every input the law returns true; each argument reads behind the call as it read before'; 0 by the template 'total and deterministic' (their statements: YtlppmfffdjfekaaTotals.lean).
  GIVEN WITH THE SEED: the statements are not yours to turn. If you find one false, say at which input.
  Laid BY PROGRAM, IN A SANDBOX (cutbox-rows.mjs): the forced cells as the released guide's own fill.sh prints them over the translation 1226f4a9d47e1afa… (all of the seat's roots in one cut). By AI agents, Wed Nov 11 2026. No macro, syntax, notation, axiom, sorry.
-/
import Derived.Test.YtlppmfffdjfekaaChecked
import GoSem.Claim
import GoSem.ClaimJoined
import GoSem.ClaimMapViews
import Derived.JoinedTies
import Derived.KernelRfl
namespace Go.Proofs.Ytlppmfffdjfekaa
/- THE CELL 'sum', in the pinned program and in every row, IS THE sha256 OF THE DUMP (.gsa) THAT YtlppmfffdjfekaaProg.lean LOADS. Nothing in Lean hashes anything: it is a label: what it is worth is what the hold of that sum in a sandbox is worth. -/
noncomputable def Try.pinned : Pinned := { name := "ytlppmfffdjfekaa", sum := "1226f4a9d47e1afac1dd37f66053d89f962aeac807f78e0c08e9a24ec3c5b4cd", checked := Try.checked }
namespace Rows
def none {H : Type} : Left H := { results := [], args := [] }

/-- 'demurragelaw19.PlainTells': WHATEVER THE INPUT: true; the input reads as it did. -/
def plainTellsSpec : ChangeSpec := { name := "plainTells", fn := fun _ => fun
  | [d1, d2, d3] => { results := [.lit (.bool true)], args := [d1, d2, d3] }
  | _ => none }
def plainTellsRow : OpenClaim := { program := "ytlppmfffdjfekaa", sum := "1226f4a9d47e1afac1dd37f66053d89f962aeac807f78e0c08e9a24ec3c5b4cd", func := "demurrage/demurragelaw19.PlainTells", spec := "plainTells", inPlace := ["math/bits.Add64"], unfollowed := true, recurses := true, named := ["math/bits.divideError", "math/bits.overflowError"], apart := false }
def PlainTellsSaid : Prop := plainTellsRow.holds Try.pinned (OpenSpec.ofChange plainTellsSpec)

/-- ITS FALSE NEIGHBOUR: 'it returns false'. Refute it at one input. -/
def plainTellsWrong : ChangeSpec := { name := "plainTells", fn := fun _ => fun
  | [d1, d2, d3] => { results := [.lit (.bool false)], args := [d1, d2, d3] }
  | _ => none }
def PlainTellsWrongFalsely : Prop := plainTellsRow.holds Try.pinned (OpenSpec.ofChange plainTellsWrong)

/-- 'demurragelaw19.PlainSound': WHATEVER THE INPUT: true; the input reads as it did. -/
def plainSoundSpec : ChangeSpec := { name := "plainSound", fn := fun _ => fun
  | [d1, d2, d3] => { results := [.lit (.bool true)], args := [d1, d2, d3] }
  | _ => none }
def plainSoundRow : OpenClaim := { program := "ytlppmfffdjfekaa", sum := "1226f4a9d47e1afac1dd37f66053d89f962aeac807f78e0c08e9a24ec3c5b4cd", func := "demurrage/demurragelaw19.PlainSound", spec := "plainSound", inPlace := ["math/bits.Add64"], unfollowed := true, recurses := true, named := ["math/bits.divideError", "math/bits.overflowError"], apart := false }
def PlainSoundSaid : Prop := plainSoundRow.holds Try.pinned (OpenSpec.ofChange plainSoundSpec)

/-- ITS FALSE NEIGHBOUR: 'it returns false'. Refute it at one input. -/
def plainSoundWrong : ChangeSpec := { name := "plainSound", fn := fun _ => fun
  | [d1, d2, d3] => { results := [.lit (.bool false)], args := [d1, d2, d3] }
  | _ => none }
def PlainSoundWrongFalsely : Prop := plainSoundRow.holds Try.pinned (OpenSpec.ofChange plainSoundWrong)

/-- 'demurragelaw19.PlainLess': WHATEVER THE INPUT: true; the input reads as it did. -/
def plainLessSpec : ChangeSpec := { name := "plainLess", fn := fun _ => fun
  | [d1, d2, d3] => { results := [.lit (.bool true)], args := [d1, d2, d3] }
  | _ => none }
def plainLessRow : OpenClaim := { program := "ytlppmfffdjfekaa", sum := "1226f4a9d47e1afac1dd37f66053d89f962aeac807f78e0c08e9a24ec3c5b4cd", func := "demurrage/demurragelaw19.PlainLess", spec := "plainLess", inPlace := ["math/bits.Add64"], unfollowed := true, recurses := true, named := ["math/bits.divideError", "math/bits.overflowError"], apart := false }
def PlainLessSaid : Prop := plainLessRow.holds Try.pinned (OpenSpec.ofChange plainLessSpec)

/-- ITS FALSE NEIGHBOUR: 'it returns false'. Refute it at one input. -/
def plainLessWrong : ChangeSpec := { name := "plainLess", fn := fun _ => fun
  | [d1, d2, d3] => { results := [.lit (.bool false)], args := [d1, d2, d3] }
  | _ => none }
def PlainLessWrongFalsely : Prop := plainLessRow.holds Try.pinned (OpenSpec.ofChange plainLessWrong)

/-- 'demurragelaw19.PlainTwice': WHATEVER THE INPUT: true; the input reads as it did. -/
def plainTwiceSpec : ChangeSpec := { name := "plainTwice", fn := fun _ => fun
  | [d1, d2, d3] => { results := [.lit (.bool true)], args := [d1, d2, d3] }
  | _ => none }
def plainTwiceRow : OpenClaim := { program := "ytlppmfffdjfekaa", sum := "1226f4a9d47e1afac1dd37f66053d89f962aeac807f78e0c08e9a24ec3c5b4cd", func := "demurrage/demurragelaw19.PlainTwice", spec := "plainTwice", inPlace := ["math/bits.Add64"], unfollowed := true, recurses := true, named := ["math/bits.divideError", "math/bits.overflowError"], apart := false }
def PlainTwiceSaid : Prop := plainTwiceRow.holds Try.pinned (OpenSpec.ofChange plainTwiceSpec)

/-- ITS FALSE NEIGHBOUR: 'it returns false'. Refute it at one input. -/
def plainTwiceWrong : ChangeSpec := { name := "plainTwice", fn := fun _ => fun
  | [d1, d2, d3] => { results := [.lit (.bool false)], args := [d1, d2, d3] }
  | _ => none }
def PlainTwiceWrongFalsely : Prop := plainTwiceRow.holds Try.pinned (OpenSpec.ofChange plainTwiceWrong)

/-- 'demurragelaw19.PlainParts': WHATEVER THE INPUT: true; the input reads as it did. -/
def plainPartsSpec : ChangeSpec := { name := "plainParts", fn := fun _ => fun
  | [d] => { results := [.lit (.bool true)], args := [d] }
  | _ => none }
def plainPartsRow : OpenClaim := { program := "ytlppmfffdjfekaa", sum := "1226f4a9d47e1afac1dd37f66053d89f962aeac807f78e0c08e9a24ec3c5b4cd", func := "demurrage/demurragelaw19.PlainParts", spec := "plainParts", inPlace := ["math/bits.Add64"], unfollowed := true, recurses := true, named := ["math/bits.divideError", "math/bits.overflowError"], apart := false }
def PlainPartsSaid : Prop := plainPartsRow.holds Try.pinned (OpenSpec.ofChange plainPartsSpec)

/-- ITS FALSE NEIGHBOUR: 'it returns false'. Refute it at one input. -/
def plainPartsWrong : ChangeSpec := { name := "plainParts", fn := fun _ => fun
  | [d] => { results := [.lit (.bool false)], args := [d] }
  | _ => none }
def PlainPartsWrongFalsely : Prop := plainPartsRow.holds Try.pinned (OpenSpec.ofChange plainPartsWrong)

/- THE SECOND FORM. 'bulk': how many values and letters a reading holds, each counted each time it is reached (what is shared counts as often as it is met; a slice's spare places count too). A statement '..UptoSaid' is the law's where the arguments, and the package variables that the reading takes, are together of bulk at most 1048576: NARROWER than '..Said'. Prove '..Said' where nothing that the law and all that it calls make is longer than what came in: it says more and counts as full. Else prove '..UptoSaid'. A law counts once. -/
mutual
def uptoBulk {H : Type} : DataW H → Nat
  | .lit (.string bytes) => bytes.length + 1
  | .lit _ => 1
  | .nil => 1
  | .ptr d => uptoBulk d + 1
  | .slice elems spare => uptoBulkAll elems + uptoBulkAll spare + 1
  | .agg parts => uptoBulkAll parts + 1
  | .iface _ d => uptoBulk d + 1
  | .map entries => uptoBulkEntries entries + 1
  | .held _ => 1
def uptoBulkAll {H : Type} : List (DataW H) → Nat
  | [] => 0
  | d :: r => uptoBulk d + uptoBulkAll r
def uptoBulkEntries {H : Type} : List (Lit × DataW H) → Nat
  | [] => 0
  | x :: r => uptoBulkEntry x + uptoBulkEntries r
def uptoBulkEntry {H : Type} : Lit × DataW H → Nat
  | (.string bytes, d) => bytes.length + uptoBulk d + 1
  | (_, d) => uptoBulk d + 1
 end
def uptoSmall : (H : Type) → List (DataW H) → Bool := fun _ ds => decide (uptoBulkAll ds ≤ 1048576)
def OpenSpec.upto (s : _root_.Go.ChangeSpec) : _root_.Go.OpenSpec := { _root_.Go.OpenSpec.ofChange s with cond := some uptoSmall }

/-- 'demurragelaw19.PlainTells', WHERE WHAT IT READS IS OF BULK AT MOST 1048576: true; the input reads as it did. -/
def plainTellsUptoRow : OpenClaim := { program := "ytlppmfffdjfekaa", sum := "1226f4a9d47e1afac1dd37f66053d89f962aeac807f78e0c08e9a24ec3c5b4cd", func := "demurrage/demurragelaw19.PlainTells", spec := "plainTells", inPlace := ["math/bits.Add64"], unfollowed := true, recurses := true, named := ["math/bits.divideError", "math/bits.overflowError"], apart := false, narrowed := true }
def PlainTellsUptoSaid : Prop := plainTellsUptoRow.holds Try.pinned (OpenSpec.upto plainTellsSpec)

/-- 'demurragelaw19.PlainSound', WHERE WHAT IT READS IS OF BULK AT MOST 1048576: true; the input reads as it did. -/
def plainSoundUptoRow : OpenClaim := { program := "ytlppmfffdjfekaa", sum := "1226f4a9d47e1afac1dd37f66053d89f962aeac807f78e0c08e9a24ec3c5b4cd", func := "demurrage/demurragelaw19.PlainSound", spec := "plainSound", inPlace := ["math/bits.Add64"], unfollowed := true, recurses := true, named := ["math/bits.divideError", "math/bits.overflowError"], apart := false, narrowed := true }
def PlainSoundUptoSaid : Prop := plainSoundUptoRow.holds Try.pinned (OpenSpec.upto plainSoundSpec)

/-- 'demurragelaw19.PlainLess', WHERE WHAT IT READS IS OF BULK AT MOST 1048576: true; the input reads as it did. -/
def plainLessUptoRow : OpenClaim := { program := "ytlppmfffdjfekaa", sum := "1226f4a9d47e1afac1dd37f66053d89f962aeac807f78e0c08e9a24ec3c5b4cd", func := "demurrage/demurragelaw19.PlainLess", spec := "plainLess", inPlace := ["math/bits.Add64"], unfollowed := true, recurses := true, named := ["math/bits.divideError", "math/bits.overflowError"], apart := false, narrowed := true }
def PlainLessUptoSaid : Prop := plainLessUptoRow.holds Try.pinned (OpenSpec.upto plainLessSpec)

/-- 'demurragelaw19.PlainTwice', WHERE WHAT IT READS IS OF BULK AT MOST 1048576: true; the input reads as it did. -/
def plainTwiceUptoRow : OpenClaim := { program := "ytlppmfffdjfekaa", sum := "1226f4a9d47e1afac1dd37f66053d89f962aeac807f78e0c08e9a24ec3c5b4cd", func := "demurrage/demurragelaw19.PlainTwice", spec := "plainTwice", inPlace := ["math/bits.Add64"], unfollowed := true, recurses := true, named := ["math/bits.divideError", "math/bits.overflowError"], apart := false, narrowed := true }
def PlainTwiceUptoSaid : Prop := plainTwiceUptoRow.holds Try.pinned (OpenSpec.upto plainTwiceSpec)

/-- 'demurragelaw19.PlainParts', WHERE WHAT IT READS IS OF BULK AT MOST 1048576: true; the input reads as it did. -/
def plainPartsUptoRow : OpenClaim := { program := "ytlppmfffdjfekaa", sum := "1226f4a9d47e1afac1dd37f66053d89f962aeac807f78e0c08e9a24ec3c5b4cd", func := "demurrage/demurragelaw19.PlainParts", spec := "plainParts", inPlace := ["math/bits.Add64"], unfollowed := true, recurses := true, named := ["math/bits.divideError", "math/bits.overflowError"], apart := false, narrowed := true }
def PlainPartsUptoSaid : Prop := plainPartsUptoRow.holds Try.pinned (OpenSpec.upto plainPartsSpec)

end Rows
end Go.Proofs.Ytlppmfffdjfekaa
