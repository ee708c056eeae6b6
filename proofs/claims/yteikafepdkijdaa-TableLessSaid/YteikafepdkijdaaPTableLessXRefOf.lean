-- cut by prune.py, a program of this session
import Derived.Test.YteikafepdkijdaaPTableLessX0
import Derived.Test.YteikafepdkijdaaPTableLessXRefRight
import Derived.Test.YteikafepdkijdaaPTableLessXRefPart
namespace Go.Proofs.Yteikafepdkijdaa.X
open Go.RowKit Go.Proofs.YteikafepdkijdaaW.PrintWords Go.Proofs.YteikafepdkijdaaW.PrintLast Go.Proofs.YteikafepdkijdaaW.PrintMore
attribute [local go_sem] max2_int min2_int max_two min_two
set_option linter.unusedVariables false
set_option linter.unusedSimpArgs false

def demurrageref18_Of.f (k : Nat) (a0 : Int) (a1 : Int) (a2_0 : Int) (a2_1 : Int) : Option (Int × Int) := (demurrageref02_Right.f k a2_0 a2_1).bind fun t369 => (if a0 < 0 then (some (0, 1)) else (if a1 < 0 then (some (0, 1)) else (if t369 = true then ((demurrageref03_Part.f k a0 a1 a2_0 a2_1 10000).bind fun bt370 => (some (bt370.1, bt370.2))) else (some (0, 1)))))

end Go.Proofs.Yteikafepdkijdaa.X
