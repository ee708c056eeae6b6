-- cut by prune.py, a program of this session
import Derived.Test.YteikafepdkijdaaPTableKindsX0
namespace Go.Proofs.Yteikafepdkijdaa.X
open Go.RowKit Go.Proofs.YteikafepdkijdaaW.PrintWords Go.Proofs.YteikafepdkijdaaW.PrintLast Go.Proofs.YteikafepdkijdaaW.PrintMore
attribute [local go_sem] max2_int min2_int max_two min_two
set_option linter.unusedVariables false
set_option linter.unusedSimpArgs false

def demurrageref02_divides.f (a0 : Int) (a1 : Int) : Option (Bool) := if a0 = 0 then (none) else (some ((Int.tmod a1 a0) == 0))

mutual
def demurrageref02_Right.j0 : Nat → Bool → Int → Int → Option (Bool)
 | 0, _, _, _ => none
 | k + 1, x23, x190000, x190001 => if x23 = true then (some false) else (demurrageref02_Right.l0 k x190000 x190001)
def demurrageref02_Right.l0 : Nat → Int → Int → Option (Bool)
 | 0, _, _ => none
 | k + 1, x3, x4 => if x4 > 0 then (if x4 = 0 then (none) else (demurrageref02_Right.l0 k x4 (Int.tmod x3 x4))) else ((demurrageref02_divides.f x3 1).bind fun t190 => (some t190))
end
def demurrageref02_Right.f (k : Nat) (a0_0 : Int) (a0_1 : Int) : Option (Bool) := if a0_0 < 0 then (demurrageref02_Right.j0 k true a0_0 a0_1) else (if a0_0 > 4611686018427387904 then (demurrageref02_Right.j0 k true a0_0 a0_1) else (if a0_1 < 1 then (demurrageref02_Right.j0 k true a0_0 a0_1) else (demurrageref02_Right.j0 k (decide (a0_1 > 4611686018427387904)) a0_0 a0_1)))

end Go.Proofs.Yteikafepdkijdaa.X
