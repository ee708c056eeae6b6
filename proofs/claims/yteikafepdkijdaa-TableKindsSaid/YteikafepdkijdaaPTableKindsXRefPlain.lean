-- cut by prune.py, a program of this session
import Derived.Test.YteikafepdkijdaaPTableKindsX0
import Derived.Test.YteikafepdkijdaaPTableKindsXRefOf
namespace Go.Proofs.Yteikafepdkijdaa.X
open Go.RowKit Go.Proofs.YteikafepdkijdaaW.PrintWords Go.Proofs.YteikafepdkijdaaW.PrintLast Go.Proofs.YteikafepdkijdaaW.PrintMore
attribute [local go_sem] max2_int min2_int max_two min_two
set_option linter.unusedVariables false
set_option linter.unusedSimpArgs false

def demurrageref19_why.j0 : Nat → Int → Bool → Option (Int)
 | 0, _, _ => none
 | k + 1, x0, x12 => if x12 = true then (some 1) else (if x0 < 0 then (some 2) else (if x0 > 1000000000000000 then (some 2) else (some 0)))
def demurrageref19_why.f (k : Nat) (a0 : Int) (l1 : List (S56)) : Option (Int) := if (l1.length : Int) < 1 then (demurrageref19_why.j0 k a0 true) else (demurrageref19_why.j0 k a0 (decide ((l1.length : Int) > 1200)))

def demurrageref19_table.l0 : Nat → Int → List (S56) → Int → List (S48) → Int → Int → Option ((List (S48)) × Int)
 | 0, _, _, _, _, _, _ => none
 | k + 1, x1, x2, x3, x10, x11, x12 => if x12 < (x2.length : Int) then (if 0 ≤ x12 then ((demurrageref18_Of.f k x11 x1 ((rd_T56 x2 x12).f0) ((rd_T56 x2 x12).f1)).bind fun bt1480 => (if bt1480.2 = 0 then (if x12 = (wrap64 ((x2.length : Int) - 1)) then (if x10.length < 3518437208883 then (demurrageref19_table.l0 k x1 x2 x3 (x10 ++ [(⟨x11, bt1480.1, x11, wrap64 (bt1480.1 + x11), 0⟩ : S48)]) (0) (wrap64 (x12 + 1))) else (none)) else (if x10.length < 3518437208883 then (demurrageref19_table.l0 k x1 x2 x3 (x10 ++ [(⟨x11, bt1480.1, x3, wrap64 (bt1480.1 + x3), wrap64 (x11 - x3)⟩ : S48)]) (wrap64 (x11 - x3)) (wrap64 (x12 + 1))) else (none))) else (some (([] : List (S48)), bt1480.2)))) else (none)) else (if 0 ≤ (wrap64 ((x10.length : Int) - 1)) then (if (wrap64 ((x10.length : Int) - 1)) < (x10.length : Int) then (if ((rd_T48 x10 (wrap64 ((x10.length : Int) - 1))).f3) > 4611686018427387904 then (some (([] : List (S48)), 6)) else (some (x10, 0))) else (none)) else (none))
def demurrageref19_table.f (k : Nat) (a0 : Int) (a1 : Int) (l2 : List (S56)) (a3 : Int) : Option ((List (S48)) × Int) := demurrageref19_table.l0 k a1 l2 a3 ([] : List (S48)) a0 0

def demurrageref19_Bullet.f (k : Nat) (a0 : Int) (a1 : Int) (l2 : List (S56)) : Option ((List (S48)) × Int) := (demurrageref19_why.f k a0 l2).bind fun t1488 => (if t1488 = 0 then ((demurrageref19_table.f k a0 a1 l2 0).bind fun bt1489 => (some (bt1489.1, bt1489.2))) else (some (([] : List (S48)), t1488)))

def demurrageref19_Equal.f (k : Nat) (a0 : Int) (a1 : Int) (l2 : List (S56)) : Option ((List (S48)) × Int) := (demurrageref19_why.f k a0 l2).bind fun t1493 => (if t1493 = 0 then (if (l2.length : Int) = 0 then (none) else ((demurrageref19_table.f k a0 a1 l2 (wrap64 (Int.tdiv a0 (l2.length : Int)))).bind fun bt1494 => (some (bt1494.1, bt1494.2)))) else (some (([] : List (S48)), t1493)))

end Go.Proofs.Yteikafepdkijdaa.X
