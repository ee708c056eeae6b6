-- cut by prune.py, a program of this session
import Derived.Test.YteikafepdkijdaaPLevelTableX0
import Derived.Test.YteikafepdkijdaaPLevelTableXRefOf
namespace Go.Proofs.Yteikafepdkijdaa.X
open Go.RowKit Go.Proofs.YteikafepdkijdaaW.PrintWords Go.Proofs.YteikafepdkijdaaW.PrintLast Go.Proofs.YteikafepdkijdaaW.PrintMore
attribute [local go_sem] max2_int min2_int max_two min_two
set_option linter.unusedVariables false
set_option linter.unusedSimpArgs false

def demurrageref18_All.l0 : Nat → Int → Int → List (S56) → List Int → Int → Option (List Int × Int)
 | 0, _, _, _, _, _ => none
 | k + 1, x0, x1, x2, x8, x9 => if x9 < (x2.length : Int) then (if 0 ≤ x9 then ((demurrageref18_Of.f k x0 x1 ((rd_T56 x2 x9).f0) ((rd_T56 x2 x9).f1)).bind fun bt373 => (if bt373.2 = 0 then (if x8.length < 17592186044416 then (demurrageref18_All.l0 k x0 x1 x2 (x8 ++ [bt373.1]) (wrap64 (x9 + 1))) else (none)) else (some (([] : List Int), bt373.2)))) else (none)) else (some (x8, 0))
def demurrageref18_All.f (k : Nat) (a0 : Int) (a1 : Int) (l2 : List (S56)) : Option (List Int × Int) := demurrageref18_All.l0 k a0 a1 l2 ([] : List Int) 0

end Go.Proofs.Yteikafepdkijdaa.X
