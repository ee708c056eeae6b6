/-
  No cell of these rows narrows 'for every input' (looked for: loops, veiled, ifaces, maps, wideKeys, modest, calm, conditions, laid).
  DERIVED. THE GIVEN ROWS OF THIS SEAT. 19 by the template 'for every input the law returns true; each argument reads behind the call as it read before'; 0 by the template 'total and deterministic' (their statements: YtcdbmmlnmefoeaaTotals.lean).
  GIVEN WITH THE SEED: the statements are not yours to turn. If you find one false, say at which input.
  Laid BY PROGRAM, IN A SANDBOX (cutbox-rows.mjs): the forced cells as the released guide's own fill.sh prints them over the translation eefabe106ba62fa5… (all of the seat's roots in one cut). By AI agents, Wed Nov 11 2026. No macro, syntax, notation, axiom, sorry.
-/
import Derived.Test.YtcdbmmlnmefoeaaChecked
import GoSem.Claim
import GoSem.ClaimJoined
import GoSem.ClaimMapViews
import Derived.JoinedTies
import Derived.KernelRfl
namespace Go.Proofs.Ytcdbmmlnmefoeaa
/- THE CELL 'sum', in the pinned program and in every row, IS THE sha256 OF THE DUMP (.gsa) THAT YtcdbmmlnmefoeaaProg.lean LOADS. Nothing in Lean hashes anything: it is a label: what it is worth is what the hold of that sum in a sandbox is worth. -/
noncomputable def Try.pinned : Pinned := { name := "ytcdbmmlnmefoeaa", sum := "eefabe106ba62fa5c305f4a127140b2ebef9d950729e7304081a7b0f88d1905e", checked := Try.checked }
namespace Rows
def none {H : Type} : Left H := { results := [], args := [] }

/-- 'demurragelaw01.WideTells': WHATEVER THE INPUT: true; the input reads as it did. -/
def wideTellsSpec : ChangeSpec := { name := "wideTells", fn := fun _ => fun
  | [d1, d2, d3] => { results := [.lit (.bool true)], args := [d1, d2, d3] }
  | _ => none }
def wideTellsRow : OpenClaim := { program := "ytcdbmmlnmefoeaa", sum := "eefabe106ba62fa5c305f4a127140b2ebef9d950729e7304081a7b0f88d1905e", func := "demurrage/demurragelaw01.WideTells", spec := "wideTells", inPlace := ["math/bits.Add64", "math/bits.Sub64"], unfollowed := true, recurses := true, named := ["math/bits.divideError", "math/bits.overflowError"], apart := false }
def WideTellsSaid : Prop := wideTellsRow.holds Try.pinned (OpenSpec.ofChange wideTellsSpec)

/-- ITS FALSE NEIGHBOUR: 'it returns false'. Refute it at one input. -/
def wideTellsWrong : ChangeSpec := { name := "wideTells", fn := fun _ => fun
  | [d1, d2, d3] => { results := [.lit (.bool false)], args := [d1, d2, d3] }
  | _ => none }
def WideTellsWrongFalsely : Prop := wideTellsRow.holds Try.pinned (OpenSpec.ofChange wideTellsWrong)

/-- 'demurragelaw01.WideDivides': WHATEVER THE INPUT: true; the input reads as it did. -/
def wideDividesSpec : ChangeSpec := { name := "wideDivides", fn := fun _ => fun
  | [d1, d2] => { results := [.lit (.bool true)], args := [d1, d2] }
  | _ => none }
def wideDividesRow : OpenClaim := { program := "ytcdbmmlnmefoeaa", sum := "eefabe106ba62fa5c305f4a127140b2ebef9d950729e7304081a7b0f88d1905e", func := "demurrage/demurragelaw01.WideDivides", spec := "wideDivides", inPlace := ["math/bits.Add64", "math/bits.Sub64"], unfollowed := true, recurses := true, named := ["math/bits.divideError", "math/bits.overflowError"], apart := false }
def WideDividesSaid : Prop := wideDividesRow.holds Try.pinned (OpenSpec.ofChange wideDividesSpec)

/-- ITS FALSE NEIGHBOUR: 'it returns false'. Refute it at one input. -/
def wideDividesWrong : ChangeSpec := { name := "wideDivides", fn := fun _ => fun
  | [d1, d2] => { results := [.lit (.bool false)], args := [d1, d2] }
  | _ => none }
def WideDividesWrongFalsely : Prop := wideDividesRow.holds Try.pinned (OpenSpec.ofChange wideDividesWrong)

/-- 'demurragelaw01.WideBack': WHATEVER THE INPUT: true; the input reads as it did. -/
def wideBackSpec : ChangeSpec := { name := "wideBack", fn := fun _ => fun
  | [d1, d2, d3] => { results := [.lit (.bool true)], args := [d1, d2, d3] }
  | _ => none }
def wideBackRow : OpenClaim := { program := "ytcdbmmlnmefoeaa", sum := "eefabe106ba62fa5c305f4a127140b2ebef9d950729e7304081a7b0f88d1905e", func := "demurrage/demurragelaw01.WideBack", spec := "wideBack", inPlace := ["math/bits.Add64", "math/bits.Sub64"], unfollowed := true, recurses := true, named := ["math/bits.divideError", "math/bits.overflowError"], apart := false }
def WideBackSaid : Prop := wideBackRow.holds Try.pinned (OpenSpec.ofChange wideBackSpec)

/-- ITS FALSE NEIGHBOUR: 'it returns false'. Refute it at one input. -/
def wideBackWrong : ChangeSpec := { name := "wideBack", fn := fun _ => fun
  | [d1, d2, d3] => { results := [.lit (.bool false)], args := [d1, d2, d3] }
  | _ => none }
def WideBackWrongFalsely : Prop := wideBackRow.holds Try.pinned (OpenSpec.ofChange wideBackWrong)

/-- 'demurragelaw01.WideOrders': WHATEVER THE INPUT: true; the input reads as it did. -/
def wideOrdersSpec : ChangeSpec := { name := "wideOrders", fn := fun _ => fun
  | [d] => { results := [.lit (.bool true)], args := [d] }
  | _ => none }
def wideOrdersRow : OpenClaim := { program := "ytcdbmmlnmefoeaa", sum := "eefabe106ba62fa5c305f4a127140b2ebef9d950729e7304081a7b0f88d1905e", func := "demurrage/demurragelaw01.WideOrders", spec := "wideOrders", inPlace := ["math/bits.Add64", "math/bits.Sub64"], unfollowed := true, recurses := true, named := ["math/bits.divideError", "math/bits.overflowError"], apart := false }
def WideOrdersSaid : Prop := wideOrdersRow.holds Try.pinned (OpenSpec.ofChange wideOrdersSpec)

/-- ITS FALSE NEIGHBOUR: 'it returns false'. Refute it at one input. -/
def wideOrdersWrong : ChangeSpec := { name := "wideOrders", fn := fun _ => fun
  | [d] => { results := [.lit (.bool false)], args := [d] }
  | _ => none }
def WideOrdersWrongFalsely : Prop := wideOrdersRow.holds Try.pinned (OpenSpec.ofChange wideOrdersWrong)

/-- 'demurragelaw01.WideMuls': WHATEVER THE INPUT: true; the input reads as it did. -/
def wideMulsSpec : ChangeSpec := { name := "wideMuls", fn := fun _ => fun
  | [d1, d2, d3] => { results := [.lit (.bool true)], args := [d1, d2, d3] }
  | _ => none }
def wideMulsRow : OpenClaim := { program := "ytcdbmmlnmefoeaa", sum := "eefabe106ba62fa5c305f4a127140b2ebef9d950729e7304081a7b0f88d1905e", func := "demurrage/demurragelaw01.WideMuls", spec := "wideMuls", inPlace := ["math/bits.Add64", "math/bits.Sub64"], unfollowed := true, recurses := true, named := ["math/bits.divideError", "math/bits.overflowError"], apart := false }
def WideMulsSaid : Prop := wideMulsRow.holds Try.pinned (OpenSpec.ofChange wideMulsSpec)

/-- ITS FALSE NEIGHBOUR: 'it returns false'. Refute it at one input. -/
def wideMulsWrong : ChangeSpec := { name := "wideMuls", fn := fun _ => fun
  | [d1, d2, d3] => { results := [.lit (.bool false)], args := [d1, d2, d3] }
  | _ => none }
def WideMulsWrongFalsely : Prop := wideMulsRow.holds Try.pinned (OpenSpec.ofChange wideMulsWrong)

/-- 'demurragelaw01.WideSpreads': WHATEVER THE INPUT: true; the input reads as it did. -/
def wideSpreadsSpec : ChangeSpec := { name := "wideSpreads", fn := fun _ => fun
  | [d1, d2, d3] => { results := [.lit (.bool true)], args := [d1, d2, d3] }
  | _ => none }
def wideSpreadsRow : OpenClaim := { program := "ytcdbmmlnmefoeaa", sum := "eefabe106ba62fa5c305f4a127140b2ebef9d950729e7304081a7b0f88d1905e", func := "demurrage/demurragelaw01.WideSpreads", spec := "wideSpreads", inPlace := ["math/bits.Add64", "math/bits.Sub64"], unfollowed := true, recurses := true, named := ["math/bits.divideError", "math/bits.overflowError"], apart := false }
def WideSpreadsSaid : Prop := wideSpreadsRow.holds Try.pinned (OpenSpec.ofChange wideSpreadsSpec)

/-- ITS FALSE NEIGHBOUR: 'it returns false'. Refute it at one input. -/
def wideSpreadsWrong : ChangeSpec := { name := "wideSpreads", fn := fun _ => fun
  | [d1, d2, d3] => { results := [.lit (.bool false)], args := [d1, d2, d3] }
  | _ => none }
def WideSpreadsWrongFalsely : Prop := wideSpreadsRow.holds Try.pinned (OpenSpec.ofChange wideSpreadsWrong)

/-- 'demurragelaw01.WideParts': WHATEVER THE INPUT: true; the input reads as it did. -/
def widePartsSpec : ChangeSpec := { name := "wideParts", fn := fun _ => fun
  | [d] => { results := [.lit (.bool true)], args := [d] }
  | _ => none }
def widePartsRow : OpenClaim := { program := "ytcdbmmlnmefoeaa", sum := "eefabe106ba62fa5c305f4a127140b2ebef9d950729e7304081a7b0f88d1905e", func := "demurrage/demurragelaw01.WideParts", spec := "wideParts", inPlace := ["math/bits.Add64", "math/bits.Sub64"], unfollowed := true, recurses := true, named := ["math/bits.divideError", "math/bits.overflowError"], apart := false }
def WidePartsSaid : Prop := widePartsRow.holds Try.pinned (OpenSpec.ofChange widePartsSpec)

/-- ITS FALSE NEIGHBOUR: 'it returns false'. Refute it at one input. -/
def widePartsWrong : ChangeSpec := { name := "wideParts", fn := fun _ => fun
  | [d] => { results := [.lit (.bool false)], args := [d] }
  | _ => none }
def WidePartsWrongFalsely : Prop := widePartsRow.holds Try.pinned (OpenSpec.ofChange widePartsWrong)

/-- 'demurragelaw02.RatioTells': WHATEVER THE INPUT: true; the input reads as it did. -/
def ratioTellsSpec : ChangeSpec := { name := "ratioTells", fn := fun _ => fun
  | [d] => { results := [.lit (.bool true)], args := [d] }
  | _ => none }
def ratioTellsRow : OpenClaim := { program := "ytcdbmmlnmefoeaa", sum := "eefabe106ba62fa5c305f4a127140b2ebef9d950729e7304081a7b0f88d1905e", func := "demurrage/demurragelaw02.RatioTells", spec := "ratioTells", inPlace := ["math/bits.Add64"], unfollowed := true, recurses := true, named := ["math/bits.divideError", "math/bits.overflowError"], apart := false }
def RatioTellsSaid : Prop := ratioTellsRow.holds Try.pinned (OpenSpec.ofChange ratioTellsSpec)

/-- ITS FALSE NEIGHBOUR: 'it returns false'. Refute it at one input. -/
def ratioTellsWrong : ChangeSpec := { name := "ratioTells", fn := fun _ => fun
  | [d] => { results := [.lit (.bool false)], args := [d] }
  | _ => none }
def RatioTellsWrongFalsely : Prop := ratioTellsRow.holds Try.pinned (OpenSpec.ofChange ratioTellsWrong)

/-- 'demurragelaw02.RatioExact': WHATEVER THE INPUT: true; the input reads as it did. -/
def ratioExactSpec : ChangeSpec := { name := "ratioExact", fn := fun _ => fun
  | [d1, d2] => { results := [.lit (.bool true)], args := [d1, d2] }
  | _ => none }
def ratioExactRow : OpenClaim := { program := "ytcdbmmlnmefoeaa", sum := "eefabe106ba62fa5c305f4a127140b2ebef9d950729e7304081a7b0f88d1905e", func := "demurrage/demurragelaw02.RatioExact", spec := "ratioExact", inPlace := ["math/bits.Add64"], unfollowed := true, recurses := true, named := ["math/bits.divideError", "math/bits.overflowError"], apart := false }
def RatioExactSaid : Prop := ratioExactRow.holds Try.pinned (OpenSpec.ofChange ratioExactSpec)

/-- ITS FALSE NEIGHBOUR: 'it returns false'. Refute it at one input. -/
def ratioExactWrong : ChangeSpec := { name := "ratioExact", fn := fun _ => fun
  | [d1, d2] => { results := [.lit (.bool false)], args := [d1, d2] }
  | _ => none }
def RatioExactWrongFalsely : Prop := ratioExactRow.holds Try.pinned (OpenSpec.ofChange ratioExactWrong)

/-- 'demurragelaw02.RatioLaws': WHATEVER THE INPUT: true; the input reads as it did. -/
def ratioLawsSpec : ChangeSpec := { name := "ratioLaws", fn := fun _ => fun
  | [d1, d2] => { results := [.lit (.bool true)], args := [d1, d2] }
  | _ => none }
def ratioLawsRow : OpenClaim := { program := "ytcdbmmlnmefoeaa", sum := "eefabe106ba62fa5c305f4a127140b2ebef9d950729e7304081a7b0f88d1905e", func := "demurrage/demurragelaw02.RatioLaws", spec := "ratioLaws", inPlace := ["math/bits.Add64"], unfollowed := true, recurses := true, named := ["math/bits.divideError", "math/bits.overflowError"], apart := false }
def RatioLawsSaid : Prop := ratioLawsRow.holds Try.pinned (OpenSpec.ofChange ratioLawsSpec)

/-- ITS FALSE NEIGHBOUR: 'it returns false'. Refute it at one input. -/
def ratioLawsWrong : ChangeSpec := { name := "ratioLaws", fn := fun _ => fun
  | [d1, d2] => { results := [.lit (.bool false)], args := [d1, d2] }
  | _ => none }
def RatioLawsWrongFalsely : Prop := ratioLawsRow.holds Try.pinned (OpenSpec.ofChange ratioLawsWrong)

/-- 'demurragelaw02.RatioSmall': WHATEVER THE INPUT: true; the input reads as it did. -/
def ratioSmallSpec : ChangeSpec := { name := "ratioSmall", fn := fun _ => fun
  | [d] => { results := [.lit (.bool true)], args := [d] }
  | _ => none }
def ratioSmallRow : OpenClaim := { program := "ytcdbmmlnmefoeaa", sum := "eefabe106ba62fa5c305f4a127140b2ebef9d950729e7304081a7b0f88d1905e", func := "demurrage/demurragelaw02.RatioSmall", spec := "ratioSmall", inPlace := ["math/bits.Add64"], unfollowed := true, recurses := true, named := ["math/bits.divideError", "math/bits.overflowError"], apart := false }
def RatioSmallSaid : Prop := ratioSmallRow.holds Try.pinned (OpenSpec.ofChange ratioSmallSpec)

/-- ITS FALSE NEIGHBOUR: 'it returns false'. Refute it at one input. -/
def ratioSmallWrong : ChangeSpec := { name := "ratioSmall", fn := fun _ => fun
  | [d] => { results := [.lit (.bool false)], args := [d] }
  | _ => none }
def RatioSmallWrongFalsely : Prop := ratioSmallRow.holds Try.pinned (OpenSpec.ofChange ratioSmallWrong)

/-- 'demurragelaw02.RatioGcd': WHATEVER THE INPUT: true; the input reads as it did. -/
def ratioGcdSpec : ChangeSpec := { name := "ratioGcd", fn := fun _ => fun
  | [d1, d2] => { results := [.lit (.bool true)], args := [d1, d2] }
  | _ => none }
def ratioGcdRow : OpenClaim := { program := "ytcdbmmlnmefoeaa", sum := "eefabe106ba62fa5c305f4a127140b2ebef9d950729e7304081a7b0f88d1905e", func := "demurrage/demurragelaw02.RatioGcd", spec := "ratioGcd", inPlace := ["math/bits.Add64"], unfollowed := true, recurses := true, named := ["math/bits.divideError", "math/bits.overflowError"], apart := false }
def RatioGcdSaid : Prop := ratioGcdRow.holds Try.pinned (OpenSpec.ofChange ratioGcdSpec)

/-- ITS FALSE NEIGHBOUR: 'it returns false'. Refute it at one input. -/
def ratioGcdWrong : ChangeSpec := { name := "ratioGcd", fn := fun _ => fun
  | [d1, d2] => { results := [.lit (.bool false)], args := [d1, d2] }
  | _ => none }
def RatioGcdWrongFalsely : Prop := ratioGcdRow.holds Try.pinned (OpenSpec.ofChange ratioGcdWrong)

/-- 'demurragelaw02.RatioSums': WHATEVER THE INPUT: true; the input reads as it did. -/
def ratioSumsSpec : ChangeSpec := { name := "ratioSums", fn := fun _ => fun
  | [d1, d2, d3] => { results := [.lit (.bool true)], args := [d1, d2, d3] }
  | _ => none }
def ratioSumsRow : OpenClaim := { program := "ytcdbmmlnmefoeaa", sum := "eefabe106ba62fa5c305f4a127140b2ebef9d950729e7304081a7b0f88d1905e", func := "demurrage/demurragelaw02.RatioSums", spec := "ratioSums", inPlace := ["math/bits.Add64"], unfollowed := true, recurses := true, named := ["math/bits.divideError", "math/bits.overflowError"], apart := false }
def RatioSumsSaid : Prop := ratioSumsRow.holds Try.pinned (OpenSpec.ofChange ratioSumsSpec)

/-- ITS FALSE NEIGHBOUR: 'it returns false'. Refute it at one input. -/
def ratioSumsWrong : ChangeSpec := { name := "ratioSums", fn := fun _ => fun
  | [d1, d2, d3] => { results := [.lit (.bool false)], args := [d1, d2, d3] }
  | _ => none }
def RatioSumsWrongFalsely : Prop := ratioSumsRow.holds Try.pinned (OpenSpec.ofChange ratioSumsWrong)

/-- 'demurragelaw03.RoundTells': WHATEVER THE INPUT: true; the input reads as it did. -/
def roundTellsSpec : ChangeSpec := { name := "roundTells", fn := fun _ => fun
  | [d1, d2] => { results := [.lit (.bool true)], args := [d1, d2] }
  | _ => none }
def roundTellsRow : OpenClaim := { program := "ytcdbmmlnmefoeaa", sum := "eefabe106ba62fa5c305f4a127140b2ebef9d950729e7304081a7b0f88d1905e", func := "demurrage/demurragelaw03.RoundTells", spec := "roundTells", inPlace := ["math/bits.Add64"], unfollowed := true, recurses := true, named := ["math/bits.divideError", "math/bits.overflowError"], apart := false }
def RoundTellsSaid : Prop := roundTellsRow.holds Try.pinned (OpenSpec.ofChange roundTellsSpec)

/-- ITS FALSE NEIGHBOUR: 'it returns false'. Refute it at one input. -/
def roundTellsWrong : ChangeSpec := { name := "roundTells", fn := fun _ => fun
  | [d1, d2] => { results := [.lit (.bool false)], args := [d1, d2] }
  | _ => none }
def RoundTellsWrongFalsely : Prop := roundTellsRow.holds Try.pinned (OpenSpec.ofChange roundTellsWrong)

/-- 'demurragelaw03.RoundParts': WHATEVER THE INPUT: true; the input reads as it did. -/
def roundPartsSpec : ChangeSpec := { name := "roundParts", fn := fun _ => fun
  | [d] => { results := [.lit (.bool true)], args := [d] }
  | _ => none }
def roundPartsRow : OpenClaim := { program := "ytcdbmmlnmefoeaa", sum := "eefabe106ba62fa5c305f4a127140b2ebef9d950729e7304081a7b0f88d1905e", func := "demurrage/demurragelaw03.RoundParts", spec := "roundParts", inPlace := ["math/bits.Add64"], unfollowed := true, recurses := true, named := ["math/bits.divideError", "math/bits.overflowError"], apart := false }
def RoundPartsSaid : Prop := roundPartsRow.holds Try.pinned (OpenSpec.ofChange roundPartsSpec)

/-- ITS FALSE NEIGHBOUR: 'it returns false'. Refute it at one input. -/
def roundPartsWrong : ChangeSpec := { name := "roundParts", fn := fun _ => fun
  | [d] => { results := [.lit (.bool false)], args := [d] }
  | _ => none }
def RoundPartsWrongFalsely : Prop := roundPartsRow.holds Try.pinned (OpenSpec.ofChange roundPartsWrong)

/-- 'demurragelaw03.RoundNear': WHATEVER THE INPUT: true; the input reads as it did. -/
def roundNearSpec : ChangeSpec := { name := "roundNear", fn := fun _ => fun
  | [d1, d2] => { results := [.lit (.bool true)], args := [d1, d2] }
  | _ => none }
def roundNearRow : OpenClaim := { program := "ytcdbmmlnmefoeaa", sum := "eefabe106ba62fa5c305f4a127140b2ebef9d950729e7304081a7b0f88d1905e", func := "demurrage/demurragelaw03.RoundNear", spec := "roundNear", inPlace := ["math/bits.Add64"], unfollowed := true, recurses := true, named := ["math/bits.divideError", "math/bits.overflowError"], apart := false }
def RoundNearSaid : Prop := roundNearRow.holds Try.pinned (OpenSpec.ofChange roundNearSpec)

/-- ITS FALSE NEIGHBOUR: 'it returns false'. Refute it at one input. -/
def roundNearWrong : ChangeSpec := { name := "roundNear", fn := fun _ => fun
  | [d1, d2] => { results := [.lit (.bool false)], args := [d1, d2] }
  | _ => none }
def RoundNearWrongFalsely : Prop := roundNearRow.holds Try.pinned (OpenSpec.ofChange roundNearWrong)

/-- 'demurragelaw03.RoundGrows': WHATEVER THE INPUT: true; the input reads as it did. -/
def roundGrowsSpec : ChangeSpec := { name := "roundGrows", fn := fun _ => fun
  | [d1, d2, d3] => { results := [.lit (.bool true)], args := [d1, d2, d3] }
  | _ => none }
def roundGrowsRow : OpenClaim := { program := "ytcdbmmlnmefoeaa", sum := "eefabe106ba62fa5c305f4a127140b2ebef9d950729e7304081a7b0f88d1905e", func := "demurrage/demurragelaw03.RoundGrows", spec := "roundGrows", inPlace := ["math/bits.Add64"], unfollowed := true, recurses := true, named := ["math/bits.divideError", "math/bits.overflowError"], apart := false }
def RoundGrowsSaid : Prop := roundGrowsRow.holds Try.pinned (OpenSpec.ofChange roundGrowsSpec)

/-- ITS FALSE NEIGHBOUR: 'it returns false'. Refute it at one input. -/
def roundGrowsWrong : ChangeSpec := { name := "roundGrows", fn := fun _ => fun
  | [d1, d2, d3] => { results := [.lit (.bool false)], args := [d1, d2, d3] }
  | _ => none }
def RoundGrowsWrongFalsely : Prop := roundGrowsRow.holds Try.pinned (OpenSpec.ofChange roundGrowsWrong)

/-- 'demurragelaw03.RoundTurns': WHATEVER THE INPUT: true; the input reads as it did. -/
def roundTurnsSpec : ChangeSpec := { name := "roundTurns", fn := fun _ => fun
  | [d] => { results := [.lit (.bool true)], args := [d] }
  | _ => none }
def roundTurnsRow : OpenClaim := { program := "ytcdbmmlnmefoeaa", sum := "eefabe106ba62fa5c305f4a127140b2ebef9d950729e7304081a7b0f88d1905e", func := "demurrage/demurragelaw03.RoundTurns", spec := "roundTurns", inPlace := ["math/bits.Add64"], unfollowed := true, recurses := true, named := ["math/bits.divideError", "math/bits.overflowError"], apart := false }
def RoundTurnsSaid : Prop := roundTurnsRow.holds Try.pinned (OpenSpec.ofChange roundTurnsSpec)

/-- ITS FALSE NEIGHBOUR: 'it returns false'. Refute it at one input. -/
def roundTurnsWrong : ChangeSpec := { name := "roundTurns", fn := fun _ => fun
  | [d] => { results := [.lit (.bool false)], args := [d] }
  | _ => none }
def RoundTurnsWrongFalsely : Prop := roundTurnsRow.holds Try.pinned (OpenSpec.ofChange roundTurnsWrong)

/-- 'demurragelaw03.RoundSplits': WHATEVER THE INPUT: true; the input reads as it did. -/
def roundSplitsSpec : ChangeSpec := { name := "roundSplits", fn := fun _ => fun
  | [d1, d2, d3] => { results := [.lit (.bool true)], args := [d1, d2, d3] }
  | _ => none }
def roundSplitsRow : OpenClaim := { program := "ytcdbmmlnmefoeaa", sum := "eefabe106ba62fa5c305f4a127140b2ebef9d950729e7304081a7b0f88d1905e", func := "demurrage/demurragelaw03.RoundSplits", spec := "roundSplits", inPlace := ["math/bits.Add64"], unfollowed := true, recurses := true, named := ["math/bits.divideError", "math/bits.overflowError"], apart := false }
def RoundSplitsSaid : Prop := roundSplitsRow.holds Try.pinned (OpenSpec.ofChange roundSplitsSpec)

/-- ITS FALSE NEIGHBOUR: 'it returns false'. Refute it at one input. -/
def roundSplitsWrong : ChangeSpec := { name := "roundSplits", fn := fun _ => fun
  | [d1, d2, d3] => { results := [.lit (.bool false)], args := [d1, d2, d3] }
  | _ => none }
def RoundSplitsWrongFalsely : Prop := roundSplitsRow.holds Try.pinned (OpenSpec.ofChange roundSplitsWrong)

/- THE SECOND FORM. 'bulk': how many values and letters a reading holds, each counted each time it is reached (what is shared counts as often as it is met; a slice's spare places count too). A statement '..UptoSaid' is the law's where the arguments, and the package variables that the reading takes, are together of bulk at most 1048576: NARROWER than '..Said'. Prove '..Said' where nothing that the law and all that it calls make is longer than what came in: it says more and counts as full. Else prove '..UptoSaid'. A law counts once. -/
mutual
def uptoBulk {H : Type} : DataW H → Nat
  | .lit (.string bytes) => bytes.length + 1
  | .lit _ => 1
  | .nil => 1
  | .ptr d => uptoBulk d + 1
  | .slice elems spare => uptoBulkAll elems + uptoBulkAll spare + 1
  | .agg parts => uptoBulkAll parts + 1
  | .iface _ d => uptoBulk d + 1
  | .map entries => uptoBulkEntries entries + 1
  | .held _ => 1
def uptoBulkAll {H : Type} : List (DataW H) → Nat
  | [] => 0
  | d :: r => uptoBulk d + uptoBulkAll r
def uptoBulkEntries {H : Type} : List (Lit × DataW H) → Nat
  | [] => 0
  | x :: r => uptoBulkEntry x + uptoBulkEntries r
def uptoBulkEntry {H : Type} : Lit × DataW H → Nat
  | (.string bytes, d) => bytes.length + uptoBulk d + 1
  | (_, d) => uptoBulk d + 1
 end
def uptoSmall : (H : Type) → List (DataW H) → Bool := fun _ ds => decide (uptoBulkAll ds ≤ 1048576)
def OpenSpec.upto (s : _root_.Go.ChangeSpec) : _root_.Go.OpenSpec := { _root_.Go.OpenSpec.ofChange s with cond := some uptoSmall }

/-- 'demurragelaw01.WideTells', WHERE WHAT IT READS IS OF BULK AT MOST 1048576: true; the input reads as it did. -/
def wideTellsUptoRow : OpenClaim := { program := "ytcdbmmlnmefoeaa", sum := "eefabe106ba62fa5c305f4a127140b2ebef9d950729e7304081a7b0f88d1905e", func := "demurrage/demurragelaw01.WideTells", spec := "wideTells", inPlace := ["math/bits.Add64", "math/bits.Sub64"], unfollowed := true, recurses := true, named := ["math/bits.divideError", "math/bits.overflowError"], apart := false, narrowed := true }
def WideTellsUptoSaid : Prop := wideTellsUptoRow.holds Try.pinned (OpenSpec.upto wideTellsSpec)

/-- 'demurragelaw01.WideDivides', WHERE WHAT IT READS IS OF BULK AT MOST 1048576: true; the input reads as it did. -/
def wideDividesUptoRow : OpenClaim := { program := "ytcdbmmlnmefoeaa", sum := "eefabe106ba62fa5c305f4a127140b2ebef9d950729e7304081a7b0f88d1905e", func := "demurrage/demurragelaw01.WideDivides", spec := "wideDivides", inPlace := ["math/bits.Add64", "math/bits.Sub64"], unfollowed := true, recurses := true, named := ["math/bits.divideError", "math/bits.overflowError"], apart := false, narrowed := true }
def WideDividesUptoSaid : Prop := wideDividesUptoRow.holds Try.pinned (OpenSpec.upto wideDividesSpec)

/-- 'demurragelaw01.WideBack', WHERE WHAT IT READS IS OF BULK AT MOST 1048576: true; the input reads as it did. -/
def wideBackUptoRow : OpenClaim := { program := "ytcdbmmlnmefoeaa", sum := "eefabe106ba62fa5c305f4a127140b2ebef9d950729e7304081a7b0f88d1905e", func := "demurrage/demurragelaw01.WideBack", spec := "wideBack", inPlace := ["math/bits.Add64", "math/bits.Sub64"], unfollowed := true, recurses := true, named := ["math/bits.divideError", "math/bits.overflowError"], apart := false, narrowed := true }
def WideBackUptoSaid : Prop := wideBackUptoRow.holds Try.pinned (OpenSpec.upto wideBackSpec)

/-- 'demurragelaw01.WideOrders', WHERE WHAT IT READS IS OF BULK AT MOST 1048576: true; the input reads as it did. -/
def wideOrdersUptoRow : OpenClaim := { program := "ytcdbmmlnmefoeaa", sum := "eefabe106ba62fa5c305f4a127140b2ebef9d950729e7304081a7b0f88d1905e", func := "demurrage/demurragelaw01.WideOrders", spec := "wideOrders", inPlace := ["math/bits.Add64", "math/bits.Sub64"], unfollowed := true, recurses := true, named := ["math/bits.divideError", "math/bits.overflowError"], apart := false, narrowed := true }
def WideOrdersUptoSaid : Prop := wideOrdersUptoRow.holds Try.pinned (OpenSpec.upto wideOrdersSpec)

/-- 'demurragelaw01.WideMuls', WHERE WHAT IT READS IS OF BULK AT MOST 1048576: true; the input reads as it did. -/
def wideMulsUptoRow : OpenClaim := { program := "ytcdbmmlnmefoeaa", sum := "eefabe106ba62fa5c305f4a127140b2ebef9d950729e7304081a7b0f88d1905e", func := "demurrage/demurragelaw01.WideMuls", spec := "wideMuls", inPlace := ["math/bits.Add64", "math/bits.Sub64"], unfollowed := true, recurses := true, named := ["math/bits.divideError", "math/bits.overflowError"], apart := false, narrowed := true }
def WideMulsUptoSaid : Prop := wideMulsUptoRow.holds Try.pinned (OpenSpec.upto wideMulsSpec)

/-- 'demurragelaw01.WideSpreads', WHERE WHAT IT READS IS OF BULK AT MOST 1048576: true; the input reads as it did. -/
def wideSpreadsUptoRow : OpenClaim := { program := "ytcdbmmlnmefoeaa", sum := "eefabe106ba62fa5c305f4a127140b2ebef9d950729e7304081a7b0f88d1905e", func := "demurrage/demurragelaw01.WideSpreads", spec := "wideSpreads", inPlace := ["math/bits.Add64", "math/bits.Sub64"], unfollowed := true, recurses := true, named := ["math/bits.divideError", "math/bits.overflowError"], apart := false, narrowed := true }
def WideSpreadsUptoSaid : Prop := wideSpreadsUptoRow.holds Try.pinned (OpenSpec.upto wideSpreadsSpec)

/-- 'demurragelaw01.WideParts', WHERE WHAT IT READS IS OF BULK AT MOST 1048576: true; the input reads as it did. -/
def widePartsUptoRow : OpenClaim := { program := "ytcdbmmlnmefoeaa", sum := "eefabe106ba62fa5c305f4a127140b2ebef9d950729e7304081a7b0f88d1905e", func := "demurrage/demurragelaw01.WideParts", spec := "wideParts", inPlace := ["math/bits.Add64", "math/bits.Sub64"], unfollowed := true, recurses := true, named := ["math/bits.divideError", "math/bits.overflowError"], apart := false, narrowed := true }
def WidePartsUptoSaid : Prop := widePartsUptoRow.holds Try.pinned (OpenSpec.upto widePartsSpec)

/-- 'demurragelaw02.RatioTells', WHERE WHAT IT READS IS OF BULK AT MOST 1048576: true; the input reads as it did. -/
def ratioTellsUptoRow : OpenClaim := { program := "ytcdbmmlnmefoeaa", sum := "eefabe106ba62fa5c305f4a127140b2ebef9d950729e7304081a7b0f88d1905e", func := "demurrage/demurragelaw02.RatioTells", spec := "ratioTells", inPlace := ["math/bits.Add64"], unfollowed := true, recurses := true, named := ["math/bits.divideError", "math/bits.overflowError"], apart := false, narrowed := true }
def RatioTellsUptoSaid : Prop := ratioTellsUptoRow.holds Try.pinned (OpenSpec.upto ratioTellsSpec)

/-- 'demurragelaw02.RatioExact', WHERE WHAT IT READS IS OF BULK AT MOST 1048576: true; the input reads as it did. -/
def ratioExactUptoRow : OpenClaim := { program := "ytcdbmmlnmefoeaa", sum := "eefabe106ba62fa5c305f4a127140b2ebef9d950729e7304081a7b0f88d1905e", func := "demurrage/demurragelaw02.RatioExact", spec := "ratioExact", inPlace := ["math/bits.Add64"], unfollowed := true, recurses := true, named := ["math/bits.divideError", "math/bits.overflowError"], apart := false, narrowed := true }
def RatioExactUptoSaid : Prop := ratioExactUptoRow.holds Try.pinned (OpenSpec.upto ratioExactSpec)

/-- 'demurragelaw02.RatioLaws', WHERE WHAT IT READS IS OF BULK AT MOST 1048576: true; the input reads as it did. -/
def ratioLawsUptoRow : OpenClaim := { program := "ytcdbmmlnmefoeaa", sum := "eefabe106ba62fa5c305f4a127140b2ebef9d950729e7304081a7b0f88d1905e", func := "demurrage/demurragelaw02.RatioLaws", spec := "ratioLaws", inPlace := ["math/bits.Add64"], unfollowed := true, recurses := true, named := ["math/bits.divideError", "math/bits.overflowError"], apart := false, narrowed := true }
def RatioLawsUptoSaid : Prop := ratioLawsUptoRow.holds Try.pinned (OpenSpec.upto ratioLawsSpec)

/-- 'demurragelaw02.RatioSmall', WHERE WHAT IT READS IS OF BULK AT MOST 1048576: true; the input reads as it did. -/
def ratioSmallUptoRow : OpenClaim := { program := "ytcdbmmlnmefoeaa", sum := "eefabe106ba62fa5c305f4a127140b2ebef9d950729e7304081a7b0f88d1905e", func := "demurrage/demurragelaw02.RatioSmall", spec := "ratioSmall", inPlace := ["math/bits.Add64"], unfollowed := true, recurses := true, named := ["math/bits.divideError", "math/bits.overflowError"], apart := false, narrowed := true }
def RatioSmallUptoSaid : Prop := ratioSmallUptoRow.holds Try.pinned (OpenSpec.upto ratioSmallSpec)

/-- 'demurragelaw02.RatioGcd', WHERE WHAT IT READS IS OF BULK AT MOST 1048576: true; the input reads as it did. -/
def ratioGcdUptoRow : OpenClaim := { program := "ytcdbmmlnmefoeaa", sum := "eefabe106ba62fa5c305f4a127140b2ebef9d950729e7304081a7b0f88d1905e", func := "demurrage/demurragelaw02.RatioGcd", spec := "ratioGcd", inPlace := ["math/bits.Add64"], unfollowed := true, recurses := true, named := ["math/bits.divideError", "math/bits.overflowError"], apart := false, narrowed := true }
def RatioGcdUptoSaid : Prop := ratioGcdUptoRow.holds Try.pinned (OpenSpec.upto ratioGcdSpec)

/-- 'demurragelaw02.RatioSums', WHERE WHAT IT READS IS OF BULK AT MOST 1048576: true; the input reads as it did. -/
def ratioSumsUptoRow : OpenClaim := { program := "ytcdbmmlnmefoeaa", sum := "eefabe106ba62fa5c305f4a127140b2ebef9d950729e7304081a7b0f88d1905e", func := "demurrage/demurragelaw02.RatioSums", spec := "ratioSums", inPlace := ["math/bits.Add64"], unfollowed := true, recurses := true, named := ["math/bits.divideError", "math/bits.overflowError"], apart := false, narrowed := true }
def RatioSumsUptoSaid : Prop := ratioSumsUptoRow.holds Try.pinned (OpenSpec.upto ratioSumsSpec)

/-- 'demurragelaw03.RoundTells', WHERE WHAT IT READS IS OF BULK AT MOST 1048576: true; the input reads as it did. -/
def roundTellsUptoRow : OpenClaim := { program := "ytcdbmmlnmefoeaa", sum := "eefabe106ba62fa5c305f4a127140b2ebef9d950729e7304081a7b0f88d1905e", func := "demurrage/demurragelaw03.RoundTells", spec := "roundTells", inPlace := ["math/bits.Add64"], unfollowed := true, recurses := true, named := ["math/bits.divideError", "math/bits.overflowError"], apart := false, narrowed := true }
def RoundTellsUptoSaid : Prop := roundTellsUptoRow.holds Try.pinned (OpenSpec.upto roundTellsSpec)

/-- 'demurragelaw03.RoundParts', WHERE WHAT IT READS IS OF BULK AT MOST 1048576: true; the input reads as it did. -/
def roundPartsUptoRow : OpenClaim := { program := "ytcdbmmlnmefoeaa", sum := "eefabe106ba62fa5c305f4a127140b2ebef9d950729e7304081a7b0f88d1905e", func := "demurrage/demurragelaw03.RoundParts", spec := "roundParts", inPlace := ["math/bits.Add64"], unfollowed := true, recurses := true, named := ["math/bits.divideError", "math/bits.overflowError"], apart := false, narrowed := true }
def RoundPartsUptoSaid : Prop := roundPartsUptoRow.holds Try.pinned (OpenSpec.upto roundPartsSpec)

/-- 'demurragelaw03.RoundNear', WHERE WHAT IT READS IS OF BULK AT MOST 1048576: true; the input reads as it did. -/
def roundNearUptoRow : OpenClaim := { program := "ytcdbmmlnmefoeaa", sum := "eefabe106ba62fa5c305f4a127140b2ebef9d950729e7304081a7b0f88d1905e", func := "demurrage/demurragelaw03.RoundNear", spec := "roundNear", inPlace := ["math/bits.Add64"], unfollowed := true, recurses := true, named := ["math/bits.divideError", "math/bits.overflowError"], apart := false, narrowed := true }
def RoundNearUptoSaid : Prop := roundNearUptoRow.holds Try.pinned (OpenSpec.upto roundNearSpec)

/-- 'demurragelaw03.RoundGrows', WHERE WHAT IT READS IS OF BULK AT MOST 1048576: true; the input reads as it did. -/
def roundGrowsUptoRow : OpenClaim := { program := "ytcdbmmlnmefoeaa", sum := "eefabe106ba62fa5c305f4a127140b2ebef9d950729e7304081a7b0f88d1905e", func := "demurrage/demurragelaw03.RoundGrows", spec := "roundGrows", inPlace := ["math/bits.Add64"], unfollowed := true, recurses := true, named := ["math/bits.divideError", "math/bits.overflowError"], apart := false, narrowed := true }
def RoundGrowsUptoSaid : Prop := roundGrowsUptoRow.holds Try.pinned (OpenSpec.upto roundGrowsSpec)

/-- 'demurragelaw03.RoundTurns', WHERE WHAT IT READS IS OF BULK AT MOST 1048576: true; the input reads as it did. -/
def roundTurnsUptoRow : OpenClaim := { program := "ytcdbmmlnmefoeaa", sum := "eefabe106ba62fa5c305f4a127140b2ebef9d950729e7304081a7b0f88d1905e", func := "demurrage/demurragelaw03.RoundTurns", spec := "roundTurns", inPlace := ["math/bits.Add64"], unfollowed := true, recurses := true, named := ["math/bits.divideError", "math/bits.overflowError"], apart := false, narrowed := true }
def RoundTurnsUptoSaid : Prop := roundTurnsUptoRow.holds Try.pinned (OpenSpec.upto roundTurnsSpec)

/-- 'demurragelaw03.RoundSplits', WHERE WHAT IT READS IS OF BULK AT MOST 1048576: true; the input reads as it did. -/
def roundSplitsUptoRow : OpenClaim := { program := "ytcdbmmlnmefoeaa", sum := "eefabe106ba62fa5c305f4a127140b2ebef9d950729e7304081a7b0f88d1905e", func := "demurrage/demurragelaw03.RoundSplits", spec := "roundSplits", inPlace := ["math/bits.Add64"], unfollowed := true, recurses := true, named := ["math/bits.divideError", "math/bits.overflowError"], apart := false, narrowed := true }
def RoundSplitsUptoSaid : Prop := roundSplitsUptoRow.holds Try.pinned (OpenSpec.upto roundSplitsSpec)

end Rows
end Go.Proofs.Ytcdbmmlnmefoeaa
