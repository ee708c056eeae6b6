-- cut by prune.py, a program of this session
import Derived.Test.YteikafepdkijdaaPTableLessX0
import Derived.Test.YteikafepdkijdaaPTableLessXBig
import Derived.Test.YteikafepdkijdaaPTableLessXQuot
namespace Go.Proofs.Yteikafepdkijdaa.X
open Go.RowKit Go.Proofs.YteikafepdkijdaaW.PrintWords Go.Proofs.YteikafepdkijdaaW.PrintLast Go.Proofs.YteikafepdkijdaaW.PrintMore
attribute [local go_sem] max2_int min2_int max_two min_two
set_option linter.unusedVariables false
set_option linter.unusedSimpArgs false

def demurrageref03_told.l0 : Nat → Int → Int → List Int → Option (Int × Int)
 | 0, _, _, _ => none
 | k + 1, x4, x5, x237000 => if x5 ≥ 0 then (if 0 ≤ x5 then (if x5 < (x237000.length : Int) then (demurrageref03_told.l0 k (wrap64 ((wrap64 (10000 * x4)) + (rd x237000 x5))) (wrap64 (x5 - 1)) x237000) else (none)) else (none)) else (some (x4, 0))
def demurrageref03_told.f (k : Nat) (l0_0 : List Int) : Option (Int × Int) := (demurrageref01_FromU.f k 4611686018427387904).bind fun t237 => ((demurrageref01_Cmp.f k l0_0 t237).bind fun t240 => (if t240 > 0 then (some (0, 6)) else (demurrageref03_told.l0 k 0 (wrap64 ((l0_0.length : Int) - 1)) l0_0)))

mutual
def demurrageref03_Near.j0 : Nat → Int → Bool → List Int → Option (List Int)
 | 0, _, _, _ => none
 | k + 1, x7, x8, x312000 => if x7 > 0 then (demurrageref03_Near.j1 k true x312000) else (if x7 = 0 then (demurrageref03_Near.j1 k x8 x312000) else (demurrageref03_Near.j1 k false x312000))
def demurrageref03_Near.j1 : Nat → Bool → List Int → Option (List Int)
 | 0, _, _ => none
 | k + 1, x40, x312000 => if x40 = true then ((demurrageref01_From.f k 1).bind fun t318 => ((demurrageref01_Plus.f k x312000 t318).bind fun t321 => (some t321))) else (some x312000)
end
def demurrageref03_Near.f (k : Nat) (l0_0 : List Int) (l1_0 : List Int) : Option (List Int) := (demurrageref01_Quot.f k l0_0 l1_0).bind fun bt305 => ((demurrageref01_Plus.f k bt305.2 bt305.2).bind fun t313 => ((demurrageref01_Cmp.f k t313 l1_0).bind fun t316 => (if (bt305.1.length : Int) > 0 then (if 0 < (bt305.1.length : Int) then (demurrageref03_Near.j0 k t316 ((Int.tmod (rd bt305.1 0) 2) == 1) bt305.1) else (none)) else (demurrageref03_Near.j0 k t316 false bt305.1))))

end Go.Proofs.Yteikafepdkijdaa.X
