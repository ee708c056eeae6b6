-- cut by prune.py, a program of this session
import Derived.Test.YteikafepdkijdaaPTableLessX0
import Derived.Test.YteikafepdkijdaaPTableLessHTrim
namespace Go.Proofs.Yteikafepdkijdaa.X
open Go.RowKit Go.Proofs.YteikafepdkijdaaW.PrintWords Go.Proofs.YteikafepdkijdaaW.PrintLast Go.Proofs.YteikafepdkijdaaW.PrintMore
attribute [local go_sem] max2_int min2_int max_two min_two
set_option linter.unusedVariables false
set_option linter.unusedSimpArgs false

def demurrageref01_FromU.l0 : Nat → Int → List Int → Option (List Int)
 | 0, _, _ => none
 | k + 1, x0, x3 => if x0 > 0 then (if x3.length < 17592186044416 then (demurrageref01_FromU.l0 k (IntKind.u64.wrap (Int.tdiv x0 10000)) (x3 ++ [wrap64 (Int.tmod x0 10000)])) else (none)) else (some x3)
def demurrageref01_FromU.f (k : Nat) (a0 : Int) : Option (List Int) := demurrageref01_FromU.l0 k a0 ([] : List Int)

def demurrageref01_part.f (l0_0 : List Int) (a1 : Int) : Option (Int) := if a1 < (l0_0.length : Int) then (if 0 ≤ a1 then (some (rd l0_0 a1)) else (none)) else (some 0)

mutual
def demurrageref01_Cmp.j0 : Nat → Int → List Int → List Int → Option (Int)
 | 0, _, _, _ => none
 | k + 1, x5, x202000, x203000 => demurrageref01_Cmp.l0 k (wrap64 (x5 - 1)) x202000 x203000
def demurrageref01_Cmp.l0 : Nat → Int → List Int → List Int → Option (Int)
 | 0, _, _, _ => none
 | k + 1, x6, x202000, x203000 => if x6 ≥ 0 then ((demurrageref01_part.f x202000 x6).bind fun t203 => ((demurrageref01_part.f x203000 x6).bind fun t204 => (if t203 < t204 then (some (-1)) else (if t203 > t204 then (some 1) else (demurrageref01_Cmp.l0 k (wrap64 (x6 - 1)) x202000 x203000))))) else (some 0)
end
def demurrageref01_Cmp.f (k : Nat) (l0_0 : List Int) (l1_0 : List Int) : Option (Int) := if (l1_0.length : Int) > (l0_0.length : Int) then (demurrageref01_Cmp.j0 k (l1_0.length : Int) l0_0 l1_0) else (demurrageref01_Cmp.j0 k (l0_0.length : Int) l0_0 l1_0)

mutual
def demurrageref01_Prod.l0 : Nat → List Int → Int → List Int → List Int → Option (List Int)
 | 0, _, _, _, _ => none
 | k + 1, x5, x6, x206000, x207000 => if x6 < (x206000.length : Int) then (demurrageref01_Prod.l1 k x5 x6 0 0 x206000 x207000) else ((demurrageref01_trim.f x5).bind fun t211 => (some t211))
def demurrageref01_Prod.l1 : Nat → List Int → Int → Int → Int → List Int → List Int → Option (List Int)
 | 0, _, _, _, _, _, _ => none
 | k + 1, x5, x6, x7, x8, x206000, x207000 => if x8 < (x207000.length : Int) then (if 0 ≤ (wrap64 (x6 + x8)) then (if (wrap64 (x6 + x8)) < (x5.length : Int) then (if 0 ≤ x6 then (if x6 < (x206000.length : Int) then ((demurrageref01_part.f x207000 x8).bind fun t216 => (demurrageref01_Prod.l1 k (x5.set ((wrap64 (x6 + x8)) : Int).toNat (Int.tmod (wrap64 ((wrap64 ((rd x5 (wrap64 (x6 + x8))) + (wrap64 ((rd x206000 x6) * t216)))) + x7)) 10000)) x6 (wrap64 (Int.tdiv (wrap64 ((wrap64 ((rd x5 (wrap64 (x6 + x8))) + (wrap64 ((rd x206000 x6) * t216)))) + x7)) 10000)) (wrap64 (x8 + 1)) x206000 x207000)) else (none)) else (none)) else (none)) else (none)) else (if x7 > 0 then (if 0 ≤ (wrap64 (x6 + x8)) then (if (wrap64 (x6 + x8)) < (x5.length : Int) then (if 0 ≤ x6 then (if x6 < (x206000.length : Int) then ((demurrageref01_part.f x207000 x8).bind fun t220 => (demurrageref01_Prod.l1 k (x5.set ((wrap64 (x6 + x8)) : Int).toNat (Int.tmod (wrap64 ((wrap64 ((rd x5 (wrap64 (x6 + x8))) + (wrap64 ((rd x206000 x6) * t220)))) + x7)) 10000)) x6 (wrap64 (Int.tdiv (wrap64 ((wrap64 ((rd x5 (wrap64 (x6 + x8))) + (wrap64 ((rd x206000 x6) * t220)))) + x7)) 10000)) (wrap64 (x8 + 1)) x206000 x207000)) else (none)) else (none)) else (none)) else (none)) else (demurrageref01_Prod.l0 k x5 (wrap64 (x6 + 1)) x206000 x207000))
end
def demurrageref01_Prod.f (k : Nat) (l0_0 : List Int) (l1_0 : List Int) : Option (List Int) := if 0 ≤ (wrap64 ((wrap64 ((l0_0.length : Int) + (l1_0.length : Int))) + 1)) then (if (wrap64 ((wrap64 ((l0_0.length : Int) + (l1_0.length : Int))) + 1) : Int).toNat ≤ 35184372088832 then (demurrageref01_Prod.l0 k (List.replicate (wrap64 ((wrap64 ((l0_0.length : Int) + (l1_0.length : Int))) + 1) : Int).toNat 0) 0 l0_0 l1_0) else (none)) else (none)

def demurrageref01_Limit.f (k : Nat)  : Option (List Int) := (demurrageref01_FromU.f k 4294967296).bind fun t223 => ((demurrageref01_Prod.f k t223 t223).bind fun t227 => ((demurrageref01_Prod.f k t223 t223).bind fun t230 => ((demurrageref01_Prod.f k t227 t230).bind fun t233 => (some t233))))

mutual
def demurrageref01_Plus.l0 : Nat → List Int → Int → Int → List Int → List Int → Option (List Int)
 | 0, _, _, _, _, _ => none
 | k + 1, x5, x6, x7, x243000, x244000 => if x7 < (x243000.length : Int) then (demurrageref01_Plus.j1 k x5 x6 x7 true x243000 x244000) else (if x7 < (x244000.length : Int) then (demurrageref01_Plus.j1 k x5 x6 x7 true x243000 x244000) else (demurrageref01_Plus.j1 k x5 x6 x7 (decide (x6 > 0)) x243000 x244000))
def demurrageref01_Plus.j1 : Nat → List Int → Int → Int → Bool → List Int → List Int → Option (List Int)
 | 0, _, _, _, _, _, _ => none
 | k + 1, x5, x6, x7, x24, x243000, x244000 => if x24 = true then ((demurrageref01_part.f x243000 x7).bind fun t245 => ((demurrageref01_part.f x244000 x7).bind fun t246 => (if x5.length < 17592186044416 then (demurrageref01_Plus.l0 k (x5 ++ [Int.tmod (wrap64 ((wrap64 (t245 + t246)) + x6)) 10000]) (wrap64 (Int.tdiv (wrap64 ((wrap64 (t245 + t246)) + x6)) 10000)) (wrap64 (x7 + 1)) x243000 x244000) else (none)))) else (some x5)
end
def demurrageref01_Plus.f (k : Nat) (l0_0 : List Int) (l1_0 : List Int) : Option (List Int) := demurrageref01_Plus.l0 k ([] : List Int) 0 0 l0_0 l1_0

def demurrageref01_Less.l0 : Nat → List Int → Int → Int → List Int → List Int → Option (List Int)
 | 0, _, _, _, _, _ => none
 | k + 1, x5, x6, x7, x251000, x252000 => if x7 < (x251000.length : Int) then ((demurrageref01_part.f x251000 x7).bind fun t256 => ((demurrageref01_part.f x252000 x7).bind fun t257 => (if (wrap64 ((wrap64 (t256 - t257)) - x6)) < 0 then (if x5.length < 17592186044416 then (demurrageref01_Less.l0 k (x5 ++ [wrap64 ((wrap64 ((wrap64 (t256 - t257)) - x6)) + 10000)]) 1 (wrap64 (x7 + 1)) x251000 x252000) else (none)) else (if x5.length < 17592186044416 then (demurrageref01_Less.l0 k (x5 ++ [wrap64 ((wrap64 (t256 - t257)) - x6)]) 0 (wrap64 (x7 + 1)) x251000 x252000) else (none))))) else ((demurrageref01_trim.f x5).bind fun t253 => (some t253))
def demurrageref01_Less.f (k : Nat) (l0_0 : List Int) (l1_0 : List Int) : Option (List Int) := demurrageref01_Less.l0 k ([] : List Int) 0 0 l0_0 l1_0

end Go.Proofs.Yteikafepdkijdaa.X
