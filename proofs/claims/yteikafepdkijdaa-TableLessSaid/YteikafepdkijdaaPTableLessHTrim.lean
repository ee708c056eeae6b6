-- cut by prune.py, a program of this session
import Derived.Test.YteikafepdkijdaaPTableLessX0
import Derived.LoopTactic
namespace Go.Proofs.Yteikafepdkijdaa.X
open Go.RowKit Go.Proofs.YteikafepdkijdaaW.PrintWords Go.Proofs.YteikafepdkijdaaW.PrintLast Go.Proofs.YteikafepdkijdaaW.PrintMore
set_option linter.unusedVariables false
set_option linter.unusedSimpArgs false

def trimN (l : List Int) : Nat → Nat
 | 0 => 0
 | n + 1 => if rd l n = 0 then trimN l n else n + 1
def demurrageref01_trim.f (l0 : List Int) : Option (List Int) := if l0.length < 17592186044416 then some (l0.take (trimN l0 l0.length)) else none

end Go.Proofs.Yteikafepdkijdaa.X
