-- cut by prune.py, a program of this session
import Derived.Test.YteikafepdkijdaaPTableLessX0
import Derived.Test.YteikafepdkijdaaPTableLessXBig
import Derived.Test.YteikafepdkijdaaPTableLessHTrim
namespace Go.Proofs.Yteikafepdkijdaa.X
open Go.RowKit Go.Proofs.YteikafepdkijdaaW.PrintWords Go.Proofs.YteikafepdkijdaaW.PrintLast Go.Proofs.YteikafepdkijdaaW.PrintMore
attribute [local go_sem] max2_int min2_int max_two min_two
set_option linter.unusedVariables false
set_option linter.unusedSimpArgs false

def demurrageref01_From.f (k : Nat) (a0 : Int) : Option (List Int) := (demurrageref01_FromU.f k (IntKind.u64.wrap (a0))).bind fun t196 => (some t196)

mutual
def demurrageref01_Quot.l0 : Nat → List Int → Int → List Int → List Int → List Int → Option (List Int × List Int)
 | 0, _, _, _, _, _ => none
 | k + 1, x6, x8, x265000, x266000, x272000 => if x8 ≥ 0 then (if 0 ≤ x8 then (if x8 < (x265000.length : Int) then ((some (([rd x265000 x8] : List Int) : List Int)).bind fun y276 => (if y276.length + x272000.length < 17592186044416 then ((demurrageref01_trim.f (y276 ++ x272000)).bind fun t282 => (demurrageref01_Quot.l1 k x6 x8 0 10000 x265000 x266000 t282)) else (none))) else (none)) else (none)) else ((demurrageref01_trim.f x6).bind fun t272 => (some (t272, x272000)))
def demurrageref01_Quot.l1 : Nat → List Int → Int → Int → Int → List Int → List Int → List Int → Option (List Int × List Int)
 | 0, _, _, _, _, _, _, _ => none
 | k + 1, x6, x8, x9, x10, x265000, x266000, x272000 => if (wrap64 (x10 - x9)) > 1 then ((demurrageref01_From.f k (wrap64 (Int.tdiv (wrap64 (x9 + x10)) 2))).bind fun t295 => ((demurrageref01_Prod.f k x266000 t295).bind fun t298 => ((demurrageref01_Cmp.f k t298 x272000).bind fun t301 => (if t301 ≤ 0 then (demurrageref01_Quot.l1 k x6 x8 (wrap64 (Int.tdiv (wrap64 (x9 + x10)) 2)) x10 x265000 x266000 x272000) else (demurrageref01_Quot.l1 k x6 x8 x9 (wrap64 (Int.tdiv (wrap64 (x9 + x10)) 2)) x265000 x266000 x272000))))) else (if 0 ≤ x8 then (if x8 < (x6.length : Int) then ((demurrageref01_From.f k x9).bind fun t286 => ((demurrageref01_Prod.f k x266000 t286).bind fun t289 => ((demurrageref01_Less.f k x272000 t289).bind fun t292 => (demurrageref01_Quot.l0 k (x6.set (x8 : Int).toNat x9) (wrap64 (x8 - 1)) x265000 x266000 t292)))) else (none)) else (none))
end
def demurrageref01_Quot.f (k : Nat) (l0_0 : List Int) (l1_0 : List Int) : Option (List Int × List Int) := if 0 ≤ (l0_0.length : Int) then (if ((l0_0.length : Int) : Int).toNat ≤ 35184372088832 then (demurrageref01_Quot.l0 k (List.replicate ((l0_0.length : Int) : Int).toNat 0) (wrap64 ((l0_0.length : Int) - 1)) l0_0 l1_0 ([] : List Int)) else (none)) else (none)

end Go.Proofs.Yteikafepdkijdaa.X
