-- cut by prune.py, a program of this session
import Derived.Test.YteikafepdkijdaaPTableSoundX0
import Derived.Test.YteikafepdkijdaaPTableSoundXRefOf
import Derived.Test.YteikafepdkijdaaPTableSoundXRefAll
namespace Go.Proofs.Yteikafepdkijdaa.X
open Go.RowKit Go.Proofs.YteikafepdkijdaaW.PrintWords Go.Proofs.YteikafepdkijdaaW.PrintLast Go.Proofs.YteikafepdkijdaaW.PrintMore
attribute [local go_sem] max2_int min2_int max_two min_two
set_option linter.unusedVariables false
set_option linter.unusedSimpArgs false

mutual
def demurrageref20_Why.j0 : Nat → Int → Int → List (S56) → Bool → Option (Int)
 | 0, _, _, _, _ => none
 | k + 1, x0, x1, x2, x17 => if x17 = true then (some 1) else (if x0 < 0 then (demurrageref20_Why.j1 k x0 x1 x2 true) else (demurrageref20_Why.j1 k x0 x1 x2 (decide (x0 > 1000000000000000))))
def demurrageref20_Why.j1 : Nat → Int → Int → List (S56) → Bool → Option (Int)
 | 0, _, _, _, _ => none
 | k + 1, x0, x1, x2, x23 => if x23 = true then (some 2) else ((demurrageref18_All.f k x0 x1 x2).bind fun bt378 => (if bt378.2 = 0 then (demurrageref20_Why.l0 k x0 bt378.1 0) else (some bt378.2)))
def demurrageref20_Why.l0 : Nat → Int → List Int → Int → Option (Int)
 | 0, _, _, _ => none
 | k + 1, x0, x7, x9 => if x9 < (x7.length : Int) then (if 0 ≤ x9 then (if (rd x7 x9) > (wrap64 (4611686018427387904 - x0)) then (some 6) else (demurrageref20_Why.l0 k x0 x7 (wrap64 (x9 + 1)))) else (none)) else (some 0)
end
def demurrageref20_Why.f (k : Nat) (a0 : Int) (a1 : Int) (l2 : List (S56)) : Option (Int) := if (l2.length : Int) < 1 then (demurrageref20_Why.j0 k a0 a1 l2 true) else (demurrageref20_Why.j0 k a0 a1 l2 (decide ((l2.length : Int) > 1200)))

end Go.Proofs.Yteikafepdkijdaa.X
