-- cut by prune.py, a program of this session
import Derived.Test.YteikafepdkijdaaPTableLessX0
import Derived.Test.YteikafepdkijdaaPTableLessXBig
import Derived.Test.YteikafepdkijdaaPTableLessXQuot
import Derived.Test.YteikafepdkijdaaPTableLessXRefThree
namespace Go.Proofs.Yteikafepdkijdaa.X
open Go.RowKit Go.Proofs.YteikafepdkijdaaW.PrintWords Go.Proofs.YteikafepdkijdaaW.PrintLast Go.Proofs.YteikafepdkijdaaW.PrintMore
attribute [local go_sem] max2_int min2_int max_two min_two
set_option linter.unusedVariables false
set_option linter.unusedSimpArgs false

mutual
def demurrageref03_Part.j0 : Nat → Int → Int → Int → Bool → Int → Int → Option (Int × Int)
 | 0, _, _, _, _, _, _ => none
 | k + 1, x0, x1, x3, x22, x325000, x325001 => if x22 = true then (some (0, 1)) else ((demurrageref01_From.f k x0).bind fun t325 => ((demurrageref01_From.f k x1).bind fun t328 => ((demurrageref01_Prod.f k t325 t328).bind fun t331 => ((demurrageref01_From.f k x325000).bind fun t334 => ((demurrageref01_Prod.f k t331 t334).bind fun t337 => ((demurrageref01_From.f k x3).bind fun t341 => ((demurrageref01_From.f k x325001).bind fun t344 => ((demurrageref01_Prod.f k t341 t344).bind fun t347 => ((demurrageref01_FromU.f k 4294967296).bind fun t351 => ((demurrageref01_Limit.f k).bind fun t355 => ((demurrageref01_Cmp.f k t337 t355).bind fun t358 => (if t358 ≥ 0 then (demurrageref03_Part.j1 k true t337 t347) else ((demurrageref01_Prod.f k t351 t351).bind fun t359 => ((demurrageref01_Cmp.f k t347 t359).bind fun t362 => (demurrageref03_Part.j1 k (decide (t362 ≥ 0)) t337 t347)))))))))))))))
def demurrageref03_Part.j1 : Nat → Bool → List Int → List Int → Option (Int × Int)
 | 0, _, _, _ => none
 | k + 1, x50, x341000, x351000 => if x50 = true then (some (0, 6)) else ((demurrageref03_Near.f k x341000 x351000).bind fun t363 => ((demurrageref03_told.f k t363).bind fun bt366 => (some (bt366.1, bt366.2))))
end
def demurrageref03_Part.f (k : Nat) (a0 : Int) (a1 : Int) (a2_0 : Int) (a2_1 : Int) (a3 : Int) : Option (Int × Int) := if a0 < 0 then (demurrageref03_Part.j0 k a0 a1 a3 true a2_0 a2_1) else (if a1 < 0 then (demurrageref03_Part.j0 k a0 a1 a3 true a2_0 a2_1) else (demurrageref03_Part.j0 k a0 a1 a3 (decide (a3 < 1)) a2_0 a2_1))

end Go.Proofs.Yteikafepdkijdaa.X
