-- CUT by prune.py, a program of this session, to what the claim reaches (out of a text that the kit's printer, the session's programs or the session wrote)
import Derived.Test.YtdgflpefjinleaaPWideTellsX0
import Derived.Test.YtdgflpefjinleaaPWideTellsXEq
import Derived.Test.YtdgflpefjinleaaPWideTellsXWCmp
import Derived.Test.YtdgflpefjinleaaPWideTellsXWMul
import Derived.Test.YtdgflpefjinleaaPWideTellsXBig
import Derived.Test.YtdgflpefjinleaaPWideTellsXSOne
import Derived.Test.YtdgflpefjinleaaPWideTellsHWide
namespace Go.Proofs.Ytdgflpefjinleaa.X
open Go.RowKit Go.Proofs.YtdgflpefjinleaaW.PrintWords Go.Proofs.YtdgflpefjinleaaW.PrintLast Go.Proofs.YtdgflpefjinleaaW.PrintMore
set_option linter.unusedVariables false
set_option linter.unusedSimpArgs false

attribute [local go_sem high] eqA24
def demurragelaw01_WideTells.upsl : Nat → Nat → List Bool
  | 0, _ => []
  | n + 1, m => (m % 2 == 1) :: demurragelaw01_WideTells.upsl n (m / 2)
def demurragelaw01_WideTells.ups (n m : Nat) : Array Bool := ⟨demurragelaw01_WideTells.upsl n m⟩
def demurragelaw01_WideTells.j0 : Nat → Bool → Bool → Bool → Bool → Bool → List Int → List Int → Int → Int → Int → Int → Int → Int → List Int → List Int → Option (Bool)
  | 0, _, _, _, _, _, _, _, _, _, _, _, _, _, _, _ => none
  | k + 1, x7, x20, x21, x22, x134, x255000, x259000, x271000, x271001, x275000, x275001, x279000, x279001, x283000, x287000 => if x134 = true then (none) else (if x7 = true then (if x20 = true then ((demurrageref01_Is.f k x271000 x271001 x283000).bind fun t1725 => (if t1725 = true then (if x21 = true then ((demurrageref01_Is.f k x275000 x275001 x287000).bind fun t1726 => (if t1726 = true then (if x22 = true then ((demurrageref01_Less.f k x255000 x259000).bind fun t1727 => ((demurrageref01_Is.f k x279000 x279001 t1727).bind fun t1730 => (if t1730 = true then (some true) else (none)))) else (some (x279000 == 0 && (x279001 == 0)))) else (none))) else (if (x275000 == 0 && (x275001 == 0)) = true then (if x22 = true then ((demurrageref01_Less.f k x255000 x259000).bind fun t1731 => ((demurrageref01_Is.f k x279000 x279001 t1731).bind fun t1734 => (if t1734 = true then (some true) else (none)))) else (some (x279000 == 0 && (x279001 == 0)))) else (none))) else (none))) else (if (x271000 == 0 && (x271001 == 0)) = true then (if x21 = true then ((demurrageref01_Is.f k x275000 x275001 x287000).bind fun t1735 => (if t1735 = true then (if x22 = true then ((demurrageref01_Less.f k x255000 x259000).bind fun t1736 => ((demurrageref01_Is.f k x279000 x279001 t1736).bind fun t1739 => (if t1739 = true then (some true) else (none)))) else (some (x279000 == 0 && (x279001 == 0)))) else (none))) else (if (x275000 == 0 && (x275001 == 0)) = true then (if x22 = true then ((demurrageref01_Less.f k x255000 x259000).bind fun t1740 => ((demurrageref01_Is.f k x279000 x279001 t1740).bind fun t1743 => (if t1743 = true then (some true) else (none)))) else (some (x279000 == 0 && (x279001 == 0)))) else (none))) else (none))) else (none))
def demurragelaw01_WideTells.f (k : Nat) (a0_0 : Int) (a0_1 : Int) (a1_0 : Int) (a1_1 : Int) (a2 : Int) : Option (Bool) := (demurragelaw01_shown.f).bind fun t250 => ((demurrageref01_FromW.f k a0_0 a0_1).bind fun t251 => ((demurrageref01_FromW.f k a1_0 a1_1).bind fun t255 => ((demurrageref01_FromU.f k a2).bind fun t259 => ((demurrageref01_Limit.f k).bind fun t263 => ((wide_Times.f a0_0 a0_1 a2).bind fun bt267 => ((wide_Add.f a0_0 a0_1 a1_0 a1_1).bind fun bt271 => ((wide_Sub.f a0_0 a0_1 a1_0 a1_1).bind fun bt275 => ((demurrageref01_Prod.f k t251 t259).bind fun t279 => ((demurrageref01_Plus.f k t251 t255).bind fun t283 => ((demurrageref01_Cmp.f k t279 t263).bind fun t287 => ((demurrageref01_Cmp.f k t283 t263).bind fun t288 => ((demurrageref01_Cmp.f k t251 t255).bind fun t289 => ((wide_Of.f a2).bind fun bt290 => ((demurrageref01_Is.f k bt290.1 bt290.2 t259).bind fun t292 => (if t292 = true then ((wide_Mul.f a0_1 a2).bind fun bt293 => ((demurrageref01_FromU.f k a0_1).bind fun t295 => ((demurrageref01_Prod.f k t295 t259).bind fun t298 => ((demurrageref01_Is.f k bt293.1 bt293.2 t298).bind fun t301 => (if t301 = true then ((wide_Cmp.f a0_0 a0_1 a1_0 a1_1).bind fun t302 => ((demurrageref01_Cmp.f k t251 t255).bind fun t303 => (if t302 = t303 then (if ((bt267.2.2 == 0) != (decide (t287 < 0))) = true then (none) else (if ((bt271.2.2 == 0) != (decide (t288 < 0))) = true then (none) else (if ((bt275.2.2 == 0) != (decide (0 ≤ t289))) = true then (none) else (if bt267.2.2 = 0 then (if bt271.2.2 = 0 then (if bt275.2.2 = 0 then (demurragelaw01_WideTells.j0 k t250 (decide (t287 < 0)) (decide (t288 < 0)) (decide (0 ≤ t289)) false t251 t255 bt267.1 bt267.2.1 bt271.1 bt271.2.1 bt275.1 bt275.2.1 t279 t283) else (demurragelaw01_WideTells.j0 k t250 (decide (t287 < 0)) (decide (t288 < 0)) (decide (0 ≤ t289)) (bt275.2.2 != 6) t251 t255 bt267.1 bt267.2.1 bt271.1 bt271.2.1 bt275.1 bt275.2.1 t279 t283)) else (if bt271.2.2 = 6 then (if bt275.2.2 = 0 then (demurragelaw01_WideTells.j0 k t250 (decide (t287 < 0)) (decide (t288 < 0)) (decide (0 ≤ t289)) false t251 t255 bt267.1 bt267.2.1 bt271.1 bt271.2.1 bt275.1 bt275.2.1 t279 t283) else (demurragelaw01_WideTells.j0 k t250 (decide (t287 < 0)) (decide (t288 < 0)) (decide (0 ≤ t289)) (bt275.2.2 != 6) t251 t255 bt267.1 bt267.2.1 bt271.1 bt271.2.1 bt275.1 bt275.2.1 t279 t283)) else (none))) else (if bt267.2.2 = 6 then (if bt271.2.2 = 0 then (if bt275.2.2 = 0 then (demurragelaw01_WideTells.j0 k t250 (decide (t287 < 0)) (decide (t288 < 0)) (decide (0 ≤ t289)) false t251 t255 bt267.1 bt267.2.1 bt271.1 bt271.2.1 bt275.1 bt275.2.1 t279 t283) else (demurragelaw01_WideTells.j0 k t250 (decide (t287 < 0)) (decide (t288 < 0)) (decide (0 ≤ t289)) (bt275.2.2 != 6) t251 t255 bt267.1 bt267.2.1 bt271.1 bt271.2.1 bt275.1 bt275.2.1 t279 t283)) else (if bt271.2.2 = 6 then (if bt275.2.2 = 0 then (demurragelaw01_WideTells.j0 k t250 (decide (t287 < 0)) (decide (t288 < 0)) (decide (0 ≤ t289)) false t251 t255 bt267.1 bt267.2.1 bt271.1 bt271.2.1 bt275.1 bt275.2.1 t279 t283) else (demurragelaw01_WideTells.j0 k t250 (decide (t287 < 0)) (decide (t288 < 0)) (decide (0 ≤ t289)) (bt275.2.2 != 6) t251 t255 bt267.1 bt267.2.1 bt271.1 bt271.2.1 bt275.1 bt275.2.1 t279 t283)) else (none))) else (none)))))) else (none)))) else (none)))))) else (none))))))))))))))))
def demurragelaw01_WideTells.T14 : Bool × List (List Nat × List Nat) := (true, [([], []), ([0], [0]), ([], []), ([1, 2, 1], [1, 2]), ([3], [3]), ([4, 3], [4]), ([5], [5]), ([6, 5], [5, 6]), ([5], [5]), ([7, 8, 5, 5], [5, 7, 8]), ([5], [5]), ([10, 5], [5, 10]), ([11, 9, 5], [5, 11]), ([5], [5]), ([12, 13, 12, 5], [5, 12, 13]), ([9, 14, 14, 5], [5, 9, 14]), ([15, 5], [5, 15]), ([5, 16], [5, 16]), ([17, 15], [17]), ([18], [18]), ([18], [18]), ([19, 20, 18, 18], [18, 19, 20]), ([18], [18]), ([18], [18]), ([22, 23, 21, 18], [18, 22, 23]), ([21, 24, 18], [18, 21, 24]), ([18, 25], [18, 25])])
def demurragelaw01_WideTells.B14 : List Nat := [0, 1, 0, 7, 15, 31, 63, 127, 63, 511, 63, 1087, 4095, 63, 16383, 32767, 65535, 131071, 262143, 524287, 524287, 2097151, 524287, 524287, 16777215, 33554431, 67108863]
theorem demurragelaw01_WideTells.tab14 : rtab .any (opsOf Try.f3 14) = demurragelaw01_WideTells.T14 := by kernel_rfl
theorem demurragelaw01_WideTells.bits14 : waitsOk demurragelaw01_WideTells.T14.2 demurragelaw01_WideTells.B14 = true := by kernel_rfl
def demurragelaw01_WideTells.T19 : Bool × List (List Nat × List Nat) := (true, [([], []), ([0], [0]), ([1], [1]), ([2, 1, 1], [1, 2]), ([3], [3]), ([3], [3]), ([4, 5, 3, 3], [3, 4, 5]), ([3, 6, 1], [1, 3, 6]), ([7, 6, 1], [1, 7]), ([8], [8]), ([9, 8], [8, 9]), ([10, 8, 8], [8, 10]), ([11], [11]), ([11], [11]), ([12, 13, 11], [11, 12, 13]), ([11, 14, 8], [8, 11, 14]), ([8, 15, 1], [1, 8, 15]), ([1, 16], [1, 16]), ([17, 11], [17]), ([18], [18]), ([19, 18, 18], [18, 19]), ([20], [20]), ([20], [20]), ([21, 22, 20, 20], [20, 21, 22]), ([20, 23, 18], [18, 20, 23]), ([24, 23, 18], [18, 24]), ([25], [25]), ([26, 25], [25, 26]), ([27, 25, 25], [25, 27]), ([28], [28]), ([28], [28]), ([29, 30, 28], [28, 29, 30]), ([28, 31, 25], [25, 28, 31]), ([25, 32, 18], [18, 25, 32]), ([18, 33], [18, 33]), ([34, 28], [34]), ([35], [35]), ([36, 35, 35], [35, 36]), ([37], [37]), ([37], [37]), ([37], [37]), ([39, 40, 37, 37], [37, 39, 40]), ([38, 41, 41, 37], [37, 38, 41]), ([37, 42, 35], [35, 37, 42]), ([43, 42, 35], [35, 43]), ([44], [44]), ([45, 44], [44, 45]), ([46, 44, 44], [44, 46]), ([47], [47]), ([47], [47]), ([48, 49, 47], [47, 48, 49]), ([47, 50, 44], [44, 47, 50]), ([44, 51, 35], [35, 44, 51]), ([35, 52], [35, 52]), ([53, 47, 0, 1, 2, 3, 4, 5, 6, 7, 8, 9, 10, 11, 12, 13, 14, 15, 16, 17, 18, 19, 20, 21, 22, 23, 24, 25, 26, 27, 28, 29, 30, 31, 32, 33, 34, 35, 36, 37, 38, 39, 40, 41, 42, 43, 44, 45, 46, 47, 48, 49, 50, 51, 52, 53], [53])])
def demurragelaw01_WideTells.B19 : List Nat := [0, 1, 3, 7, 15, 15, 63, 127, 255, 511, 1023, 2047, 4095, 4095, 16383, 32767, 65535, 131071, 262143, 524287, 1048575, 2097151, 2097151, 8388607, 16777215, 33554431, 67108863, 134217727, 268435455, 536870911, 536870911, 2147483647, 4294967295, 8589934591, 17179869183, 34359738367, 68719476735, 137438953471, 274877906943, 274877906943, 274877906943, 1924145348607, 4398046511103, 8796093022207, 17592186044415, 35184372088831, 70368744177663, 140737488355327, 281474976710655, 281474976710655, 1125899906842623, 2251799813685247, 4503599627370495, 9007199254740991, 18014398509481983]
theorem demurragelaw01_WideTells.tab19 : rtab .any (opsOf Try.f3 19) = demurragelaw01_WideTells.T19 := by kernel_rfl
theorem demurragelaw01_WideTells.bits19 : waitsOk demurragelaw01_WideTells.T19.2 demurragelaw01_WideTells.B19 = true := by kernel_rfl
set_option maxHeartbeats 8000000 in
set_option maxRecDepth 100000 in
theorem demurragelaw01_WideTells.calls (k : Nat) (a0_0 : Int) (a0_1 : Int) (a1_0 : Int) (a1_1 : Int) (a2 : Int) (r : Bool) (w : World) (h : demurragelaw01_WideTells.f k a0_0 a0_1 a1_0 a1_1 a2 = some r) :
    Calls Try.prog 3 #[.agg #[.int .u64 a0_0, .int .u64 a0_1], .agg #[.int .u64 a1_0, .int .u64 a1_1], .int .u64 a2] w fun e w' => e = .returned (.bool r) ∧ Below w.heap.size w w' := by
  have hu24 := Try.underlying24
  have hu28 := Try.underlying28
  have HB := Aside0.mk (Below.refl w.heap.size w)
  have H : ((demurragelaw01_shown.f).bind fun t250 => ((demurrageref01_FromW.f k a0_0 a0_1).bind fun t251 => ((demurrageref01_FromW.f k a1_0 a1_1).bind fun t255 => ((demurrageref01_FromU.f k a2).bind fun t259 => ((demurrageref01_Limit.f k).bind fun t263 => ((wide_Times.f a0_0 a0_1 a2).bind fun bt267 => ((wide_Add.f a0_0 a0_1 a1_0 a1_1).bind fun bt271 => ((wide_Sub.f a0_0 a0_1 a1_0 a1_1).bind fun bt275 => ((demurrageref01_Prod.f k t251 t259).bind fun t279 => ((demurrageref01_Plus.f k t251 t255).bind fun t283 => ((demurrageref01_Cmp.f k t279 t263).bind fun t287 => ((demurrageref01_Cmp.f k t283 t263).bind fun t288 => ((demurrageref01_Cmp.f k t251 t255).bind fun t289 => ((wide_Of.f a2).bind fun bt290 => ((demurrageref01_Is.f k bt290.1 bt290.2 t259).bind fun t292 => (if t292 = true then ((wide_Mul.f a0_1 a2).bind fun bt293 => ((demurrageref01_FromU.f k a0_1).bind fun t295 => ((demurrageref01_Prod.f k t295 t259).bind fun t298 => ((demurrageref01_Is.f k bt293.1 bt293.2 t298).bind fun t301 => (if t301 = true then ((wide_Cmp.f a0_0 a0_1 a1_0 a1_1).bind fun t302 => ((demurrageref01_Cmp.f k t251 t255).bind fun t303 => (if t302 = t303 then (if ((bt267.2.2 == 0) != (decide (t287 < 0))) = true then (none) else (if ((bt271.2.2 == 0) != (decide (t288 < 0))) = true then (none) else (if ((bt275.2.2 == 0) != (decide (0 ≤ t289))) = true then (none) else (if bt267.2.2 = 0 then (if bt271.2.2 = 0 then (if bt275.2.2 = 0 then (demurragelaw01_WideTells.j0 k t250 (decide (t287 < 0)) (decide (t288 < 0)) (decide (0 ≤ t289)) false t251 t255 bt267.1 bt267.2.1 bt271.1 bt271.2.1 bt275.1 bt275.2.1 t279 t283) else (demurragelaw01_WideTells.j0 k t250 (decide (t287 < 0)) (decide (t288 < 0)) (decide (0 ≤ t289)) (bt275.2.2 != 6) t251 t255 bt267.1 bt267.2.1 bt271.1 bt271.2.1 bt275.1 bt275.2.1 t279 t283)) else (if bt271.2.2 = 6 then (if bt275.2.2 = 0 then (demurragelaw01_WideTells.j0 k t250 (decide (t287 < 0)) (decide (t288 < 0)) (decide (0 ≤ t289)) false t251 t255 bt267.1 bt267.2.1 bt271.1 bt271.2.1 bt275.1 bt275.2.1 t279 t283) else (demurragelaw01_WideTells.j0 k t250 (decide (t287 < 0)) (decide (t288 < 0)) (decide (0 ≤ t289)) (bt275.2.2 != 6) t251 t255 bt267.1 bt267.2.1 bt271.1 bt271.2.1 bt275.1 bt275.2.1 t279 t283)) else (none))) else (if bt267.2.2 = 6 then (if bt271.2.2 = 0 then (if bt275.2.2 = 0 then (demurragelaw01_WideTells.j0 k t250 (decide (t287 < 0)) (decide (t288 < 0)) (decide (0 ≤ t289)) false t251 t255 bt267.1 bt267.2.1 bt271.1 bt271.2.1 bt275.1 bt275.2.1 t279 t283) else (demurragelaw01_WideTells.j0 k t250 (decide (t287 < 0)) (decide (t288 < 0)) (decide (0 ≤ t289)) (bt275.2.2 != 6) t251 t255 bt267.1 bt267.2.1 bt271.1 bt271.2.1 bt275.1 bt275.2.1 t279 t283)) else (if bt271.2.2 = 6 then (if bt275.2.2 = 0 then (demurragelaw01_WideTells.j0 k t250 (decide (t287 < 0)) (decide (t288 < 0)) (decide (0 ≤ t289)) false t251 t255 bt267.1 bt267.2.1 bt271.1 bt271.2.1 bt275.1 bt275.2.1 t279 t283) else (demurragelaw01_WideTells.j0 k t250 (decide (t287 < 0)) (decide (t288 < 0)) (decide (0 ≤ t289)) (bt275.2.2 != 6) t251 t255 bt267.1 bt267.2.1 bt271.1 bt271.2.1 bt275.1 bt275.2.1 t279 t283)) else (none))) else (none)))))) else (none)))) else (none)))))) else (none))))))))))))))))) = some r := h
  clear h
  replace H := Option.bind_eq_some_iff.mp H
  obtain ⟨t250, A40, H⟩ := H
  (try dsimp only at H)
  have A4 := Aside0.mk A40
  clear A40
  replace H := Option.bind_eq_some_iff.mp H
  obtain ⟨t251, A50, H⟩ := H
  (try dsimp only at H)
  have A5 := Aside0.mk A50
  clear A50
  replace H := Option.bind_eq_some_iff.mp H
  obtain ⟨t255, A60, H⟩ := H
  (try dsimp only at H)
  have A6 := Aside0.mk A60
  clear A60
  replace H := Option.bind_eq_some_iff.mp H
  obtain ⟨t259, A70, H⟩ := H
  (try dsimp only at H)
  have A7 := Aside0.mk A70
  clear A70
  replace H := Option.bind_eq_some_iff.mp H
  obtain ⟨t263, A80, H⟩ := H
  (try dsimp only at H)
  have A8 := Aside0.mk A80
  clear A80
  replace H := Option.bind_eq_some_iff.mp H
  obtain ⟨⟨t267, t268, t269⟩, A90, H⟩ := H
  (try dsimp only at H)
  have A9 := Aside0.mk A90
  clear A90
  replace H := Option.bind_eq_some_iff.mp H
  obtain ⟨⟨t271, t272, t273⟩, A100, H⟩ := H
  (try dsimp only at H)
  have A10 := Aside0.mk A100
  clear A100
  replace H := Option.bind_eq_some_iff.mp H
  obtain ⟨⟨t275, t276, t277⟩, A110, H⟩ := H
  (try dsimp only at H)
  have A11 := Aside0.mk A110
  clear A110
  replace H := Option.bind_eq_some_iff.mp H
  obtain ⟨t279, A120, H⟩ := H
  (try dsimp only at H)
  have A12 := Aside0.mk A120
  clear A120
  replace H := Option.bind_eq_some_iff.mp H
  obtain ⟨t283, A130, H⟩ := H
  (try dsimp only at H)
  have A13 := Aside0.mk A130
  clear A130
  replace H := Option.bind_eq_some_iff.mp H
  obtain ⟨t287, A140, H⟩ := H
  (try dsimp only at H)
  have A14 := Aside0.mk A140
  clear A140
  replace H := Option.bind_eq_some_iff.mp H
  obtain ⟨t288, A150, H⟩ := H
  (try dsimp only at H)
  have A15 := Aside0.mk A150
  clear A150
  replace H := Option.bind_eq_some_iff.mp H
  obtain ⟨t289, A160, H⟩ := H
  (try dsimp only at H)
  have A16 := Aside0.mk A160
  clear A160
  replace H := Option.bind_eq_some_iff.mp H
  obtain ⟨⟨t290, t291⟩, A170, H⟩ := H
  (try dsimp only at H)
  have A17 := Aside0.mk A170
  clear A170
  replace H := Option.bind_eq_some_iff.mp H
  obtain ⟨t292, A180, H⟩ := H
  (try dsimp only at H)
  have A18 := Aside0.mk A180
  clear A180
  by_cases c19 : t292 = true
  · subst c19
    rw [if_pos rfl] at H
    replace H := Option.bind_eq_some_iff.mp H
    obtain ⟨⟨t293, t294⟩, A200, H⟩ := H
    (try dsimp only at H)
    have A20 := Aside0.mk A200
    clear A200
    replace H := Option.bind_eq_some_iff.mp H
    obtain ⟨t295, A210, H⟩ := H
    (try dsimp only at H)
    have A21 := Aside0.mk A210
    clear A210
    replace H := Option.bind_eq_some_iff.mp H
    obtain ⟨t298, A220, H⟩ := H
    (try dsimp only at H)
    have A22 := Aside0.mk A220
    clear A220
    replace H := Option.bind_eq_some_iff.mp H
    obtain ⟨t301, A230, H⟩ := H
    (try dsimp only at H)
    have A23 := Aside0.mk A230
    clear A230
    by_cases c24 : t301 = true
    · subst c24
      rw [if_pos rfl] at H
      replace H := Option.bind_eq_some_iff.mp H
      obtain ⟨t302, A250, H⟩ := H
      (try dsimp only at H)
      have A25 := Aside0.mk A250
      clear A250
      replace H := Option.bind_eq_some_iff.mp H
      obtain ⟨t303, A260, H⟩ := H
      (try dsimp only at H)
      have A26 := Aside0.mk A260
      clear A260
      by_cases c27 : t302 = t303
      · rw [if_pos c27] at H
        have c27b0 : (t302 == t303) = true := beq_iff_eq.mpr c27
        have c27b1 : (t302 != t303) = false := bne_eq_false_iff_eq.mpr c27
        clear c27
        have HC28 := Aside0.mk H
        clear H
        go_enter Try.func3, Try.ntmps3
        try go_wp2_with (first | ((with_reducible refine gate_dst (N := 3) rfl ?_); refine box_event ?hg (N := 3) ?hd (cs := #[.int .u64 a0_0, .int .u64 a0_1]) (t := 24) ?hr ?_; (case hd => rfl); (case hg => rfl); (case hr => first | (go_simp; done) | (go_simp; rfl)); intro gb248 hg w29 hbox hb; have BK248 := Aside0.mk (hbox); have GW248 := Aside0.mk ((by rw [hg]; exact (below_size (by repeat (first | (with_reducible first | exact HB.out | apply below_alloc | apply pw_below_drewN | apply below_drew1) | exact HB.out))) : w.heap.size ≤ gb248)); have GE248 := Aside0.mk ((by rw [hg]; exact (below_size (by repeat (first | (with_reducible first | exact HB.out | apply below_alloc | apply pw_below_drewN | apply below_drew1) | exact HB.out))) : w.heap.size ≤ gb248)); replace HB := Aside0.mk (below_step (by repeat (first | (with_reducible first | exact HB.out | apply below_alloc | apply pw_below_drewN | apply below_drew1) | exact HB.out)) hb); clear hb hbox hg) | ((with_reducible refine gate_dst (N := 4) rfl ?_); refine box_event ?hg (N := 4) ?hd (cs := #[.int .u64 a1_0, .int .u64 a1_1]) (t := 24) ?hr ?_; (case hd => rfl); (case hg => rfl); (case hr => first | (go_simp; done) | (go_simp; rfl)); intro gb249 hg w30 hbox hb; have BK249 := Aside0.mk (hbox); have GW249 := Aside0.mk ((by rw [hg]; exact (below_size (by repeat (first | (with_reducible first | exact HB.out | apply below_alloc | apply pw_below_drewN | apply below_drew1 | refine below_set ?_ GE248.out) | exact HB.out))) : w.heap.size ≤ gb249)); have GE249 := Aside0.mk ((by rw [hg]; exact (below_size (by repeat (first | (with_reducible first | exact HB.out | apply below_alloc | apply pw_below_drewN | apply below_drew1 | refine below_set ?_ GE248.out) | exact HB.out))) : w.heap.size ≤ gb249)); replace HB := Aside0.mk (below_step (by repeat (first | (with_reducible first | exact HB.out | apply below_alloc | apply pw_below_drewN | apply below_drew1 | refine below_set ?_ GE248.out) | exact HB.out)) hb); have NB248_249 := Aside0.mk ((by rw [hg]; exact Nat.ne_of_lt (blk_lt (g := gb248) (o := .cells #[.int .u64 a0_0, .int .u64 a0_1] 24 (0, 0)) BK248.out) : gb248 ≠ gb249)); have NB249_248 := Aside0.mk ((by rw [hg]; exact Nat.ne_of_gt (blk_lt (g := gb248) (o := .cells #[.int .u64 a0_0, .int .u64 a0_1] 24 (0, 0)) BK248.out) : gb249 ≠ gb248)); replace BK248 := Aside0.mk (blk_below BK248.out hb); clear hb hbox hg) | ((with_reducible refine gate_callee (f := 4) rfl ?_); refine goesL_ (some 24) rfl rfl Try.func4 (by kernel_rfl) rfl #[] rfl (by (try simp only [List.map_toArray, List.map_cons, List.map_nil]); first | done | rfl) ?_; (with_reducible refine (demurragelaw01_shown.calls  t250 _ A4.out).mono ?_); rintro e w31 ⟨rfl, hb⟩; refine ⟨_, rfl, ?_⟩; replace BK248 := Aside0.mk (blk_below BK248.out hb); replace BK249 := Aside0.mk (blk_below BK249.out hb); replace HB := Aside0.mk (below_step (by repeat (first | (with_reducible first | exact HB.out | apply below_alloc | apply pw_below_drewN | apply below_drew1 | refine below_set ?_ GE248.out | refine below_set ?_ GE249.out) | exact HB.out)) hb); (try clear hb); have hnb32 := NB248_249.out; have hnc32 := NB249_248.out; have hcz33_0 : w31.cell? ⟨gb248, 0, none⟩ = some (.int .u64 a0_0) := (blk_cell BK248.out 0).trans rfl; have hcz33_1 : w31.cell? ⟨gb248, 1, none⟩ = some (.int .u64 a0_1) := (blk_cell BK248.out 1).trans rfl; have hfz33_0 := blk_frozen BK248.out 0; have hfz33_1 := blk_frozen BK248.out 1) | ((with_reducible refine gate_callee (f := 5) rfl ?_); refine goesL_ (some 26) rfl rfl Try.func5 (by kernel_rfl) rfl #[.agg #[.int .u64 a0_0, .int .u64 a0_1]] rfl (by (try simp only [List.map_toArray, List.map_cons, List.map_nil]); first | done | rfl) ?_; (with_reducible refine (demurrageref01_FromW.calls k a0_0 a0_1 t251 _ A5.out).mono ?_); rintro e w34 ⟨v252, rfl, ho0, hb⟩; refine ⟨_, rfl, ?_⟩; have HO253 := Aside0.mk (Kd.R_lower ho0 (below_size (by repeat (first | (with_reducible first | exact HB.out | apply below_alloc | apply pw_below_drewN | apply below_drew1 | refine below_set ?_ GE248.out | refine below_set ?_ GE249.out) | exact HB.out)))); replace BK248 := Aside0.mk (blk_below BK248.out hb); replace BK249 := Aside0.mk (blk_below BK249.out hb); replace HB := Aside0.mk (below_step (by repeat (first | (with_reducible first | exact HB.out | apply below_alloc | apply pw_below_drewN | apply below_drew1 | refine below_set ?_ GE248.out | refine below_set ?_ GE249.out) | exact HB.out)) hb); (try clear hb); (try clear ho0)) | ((with_reducible refine gate_dst (N := 8) rfl ?_); refine box_event ?hg (N := 8) ?hd (cs := #[.slice none 0 0]) (t := 28) ?hr ?_; (case hd => rfl); (case hg => rfl); (case hr => first | (go_simp; done) | (go_simp; rfl)); intro gb254 hg w35 hbox hb; replace HO253 := Aside0.mk (Kd.R_below HO253.out hb); have BK254 := Aside0.mk (hbox); have GW254 := Aside0.mk ((by rw [hg]; exact (below_size (by repeat (first | (with_reducible first | exact HB.out | apply below_alloc | apply pw_below_drewN | apply below_drew1 | refine below_set ?_ GE248.out | refine below_set ?_ GE249.out) | exact HB.out))) : w.heap.size ≤ gb254)); have GE254 := Aside0.mk ((by rw [hg]; exact (below_size (by repeat (first | (with_reducible first | exact HB.out | apply below_alloc | apply pw_below_drewN | apply below_drew1 | refine below_set ?_ GE248.out | refine below_set ?_ GE249.out) | exact HB.out))) : w.heap.size ≤ gb254)); replace HB := Aside0.mk (below_step (by repeat (first | (with_reducible first | exact HB.out | apply below_alloc | apply pw_below_drewN | apply below_drew1 | refine below_set ?_ GE248.out | refine below_set ?_ GE249.out) | exact HB.out)) hb); have NB248_254 := Aside0.mk ((by rw [hg]; exact Nat.ne_of_lt (blk_lt (g := gb248) (o := .cells #[.int .u64 a0_0, .int .u64 a0_1] 24 (0, 0)) BK248.out) : gb248 ≠ gb254)); have NB254_248 := Aside0.mk ((by rw [hg]; exact Nat.ne_of_gt (blk_lt (g := gb248) (o := .cells #[.int .u64 a0_0, .int .u64 a0_1] 24 (0, 0)) BK248.out) : gb254 ≠ gb248)); replace BK248 := Aside0.mk (blk_below BK248.out hb); have NB249_254 := Aside0.mk ((by rw [hg]; exact Nat.ne_of_lt (blk_lt (g := gb249) (o := .cells #[.int .u64 a1_0, .int .u64 a1_1] 24 (0, 0)) BK249.out) : gb249 ≠ gb254)); have NB254_249 := Aside0.mk ((by rw [hg]; exact Nat.ne_of_gt (blk_lt (g := gb249) (o := .cells #[.int .u64 a1_0, .int .u64 a1_1] 24 (0, 0)) BK249.out) : gb254 ≠ gb249)); replace BK249 := Aside0.mk (blk_below BK249.out hb); clear hb hbox hg; obtain ⟨Ao36, co36, eo36⟩ := Kd.R_slice HO253.out; subst eo36; have hnb37 := NB254_248.out; have hnc37 := NB248_254.out; have hnb38 := NB254_249.out; have hnc38 := NB249_254.out; have hcz39_0 : w35.cell? ⟨gb254, 0, none⟩ = some (.slice none 0 0) := (blk_cell BK254.out 0).trans rfl; have hfz39_0 := blk_frozen BK254.out 0; have hcz40_0 : w35.cell? ⟨gb249, 0, none⟩ = some (.int .u64 a1_0) := (blk_cell BK249.out 0).trans rfl; have hcz40_1 : w35.cell? ⟨gb249, 1, none⟩ = some (.int .u64 a1_1) := (blk_cell BK249.out 1).trans rfl; have hfz40_0 := blk_frozen BK249.out 0; have hfz40_1 := blk_frozen BK249.out 1) | ((with_reducible refine gate_callee (f := 5) rfl ?_); refine goesL_ (some 28) rfl rfl Try.func5 (by kernel_rfl) rfl #[.agg #[.int .u64 a1_0, .int .u64 a1_1]] rfl (by (try simp only [List.map_toArray, List.map_cons, List.map_nil]); first | done | rfl) ?_; (with_reducible refine (demurrageref01_FromW.calls k a1_0 a1_1 t255 _ A6.out).mono ?_); rintro e w41 ⟨v256, rfl, ho0, hb⟩; refine ⟨_, rfl, ?_⟩; have HO257 := Aside0.mk (Kd.R_lower (Kd.R_new' ho0 (Kd.R_lt (by (with_reducible repeat (first | apply Kd.R_alloc | apply Kd.R_drewN | apply Kd.R_drew)); exact (Kd.R_mono (Kd.R_far (p := ⟨gb254, 0, none⟩) (Kd.R_types HO253.out BK254.out (by decide)) (fun _ hk => hk.2) (.slice Ao36 t251.length co36)) (fun _ h_ => h_.1))))) (below_size (by repeat (first | (with_reducible first | exact HB.out | apply below_alloc | apply pw_below_drewN | apply below_drew1 | refine below_set ?_ GE248.out | refine below_set ?_ GE249.out | refine below_set ?_ GE254.out) | exact HB.out)))); replace HO253 := Aside0.mk (Kd.R_elder' (by (with_reducible repeat (first | apply Kd.R_alloc | apply Kd.R_drewN | apply Kd.R_drew)); exact (Kd.R_mono (Kd.R_far (p := ⟨gb254, 0, none⟩) (Kd.R_types HO253.out BK254.out (by decide)) (fun _ hk => hk.2) (.slice Ao36 t251.length co36)) (fun _ h_ => h_.1))) (Kd.R_base ho0) hb); replace BK248 := Aside0.mk (blk_below (g := gb248) (o := .cells #[.int .u64 a0_0, .int .u64 a0_1] 24 (0, 0)) (by refine blk_far ?_ NB248_254.out _; exact BK248.out) hb); replace BK249 := Aside0.mk (blk_below (g := gb249) (o := .cells #[.int .u64 a1_0, .int .u64 a1_1] 24 (0, 0)) (by refine blk_far ?_ NB249_254.out _; exact BK249.out) hb); replace BK254 := Aside0.mk (blk_below (g := gb254) (o := .cells #[.slice Ao36 t251.length co36] 28 (0, 0)) (by refine blk_put (cs := #[.slice none 0 0]) ?_ 0 _ rfl; exact BK254.out) hb); replace HB := Aside0.mk (below_step (by repeat (first | (with_reducible first | exact HB.out | apply below_alloc | apply pw_below_drewN | apply below_drew1 | refine below_set ?_ GE248.out | refine below_set ?_ GE249.out | refine below_set ?_ GE254.out) | exact HB.out)) hb); (try clear hb); (try clear ho0)) | ((with_reducible refine gate_dst (N := 9) rfl ?_); refine box_event ?hg (N := 9) ?hd (cs := #[.slice none 0 0]) (t := 28) ?hr ?_; (case hd => rfl); (case hg => rfl); (case hr => first | (go_simp; done) | (go_simp; rfl)); intro gb258 hg w42 hbox hb; replace HO253 := Aside0.mk (Kd.R_below HO253.out hb); replace HO257 := Aside0.mk (Kd.R_below HO257.out hb); have BK258 := Aside0.mk (hbox); have GW258 := Aside0.mk ((by rw [hg]; exact (below_size (by repeat (first | (with_reducible first | exact HB.out | apply below_alloc | apply pw_below_drewN | apply below_drew1 | refine below_set ?_ GE248.out | refine below_set ?_ GE249.out | refine below_set ?_ GE254.out) | exact HB.out))) : w.heap.size ≤ gb258)); have GE258 := Aside0.mk ((by rw [hg]; exact (below_size (by repeat (first | (with_reducible first | exact HB.out | apply below_alloc | apply pw_below_drewN | apply below_drew1 | refine below_set ?_ GE248.out | refine below_set ?_ GE249.out | refine below_set ?_ GE254.out) | exact HB.out))) : w.heap.size ≤ gb258)); replace HB := Aside0.mk (below_step (by repeat (first | (with_reducible first | exact HB.out | apply below_alloc | apply pw_below_drewN | apply below_drew1 | refine below_set ?_ GE248.out | refine below_set ?_ GE249.out | refine below_set ?_ GE254.out) | exact HB.out)) hb); have NB248_258 := Aside0.mk ((by rw [hg]; exact Nat.ne_of_lt (blk_lt (g := gb248) (o := .cells #[.int .u64 a0_0, .int .u64 a0_1] 24 (0, 0)) BK248.out) : gb248 ≠ gb258)); have NB258_248 := Aside0.mk ((by rw [hg]; exact Nat.ne_of_gt (blk_lt (g := gb248) (o := .cells #[.int .u64 a0_0, .int .u64 a0_1] 24 (0, 0)) BK248.out) : gb258 ≠ gb248)); replace BK248 := Aside0.mk (blk_below BK248.out hb); have NB249_258 := Aside0.mk ((by rw [hg]; exact Nat.ne_of_lt (blk_lt (g := gb249) (o := .cells #[.int .u64 a1_0, .int .u64 a1_1] 24 (0, 0)) BK249.out) : gb249 ≠ gb258)); have NB258_249 := Aside0.mk ((by rw [hg]; exact Nat.ne_of_gt (blk_lt (g := gb249) (o := .cells #[.int .u64 a1_0, .int .u64 a1_1] 24 (0, 0)) BK249.out) : gb258 ≠ gb249)); replace BK249 := Aside0.mk (blk_below BK249.out hb); have NB254_258 := Aside0.mk ((by rw [hg]; exact Nat.ne_of_lt (blk_lt (g := gb254) (o := .cells #[.slice Ao36 t251.length co36] 28 (0, 0)) BK254.out) : gb254 ≠ gb258)); have NB258_254 := Aside0.mk ((by rw [hg]; exact Nat.ne_of_gt (blk_lt (g := gb254) (o := .cells #[.slice Ao36 t251.length co36] 28 (0, 0)) BK254.out) : gb258 ≠ gb254)); replace BK254 := Aside0.mk (blk_below BK254.out hb); clear hb hbox hg; obtain ⟨Ao43, co43, eo43⟩ := Kd.R_slice HO257.out; subst eo43; have hnb44 := NB258_248.out; have hnc44 := NB248_258.out; have hnb45 := NB258_249.out; have hnc45 := NB249_258.out; have hnb46 := NB258_254.out; have hnc46 := NB254_258.out; have hcz47_0 : w42.cell? ⟨gb258, 0, none⟩ = some (.slice none 0 0) := (blk_cell BK258.out 0).trans rfl; have hfz47_0 := blk_frozen BK258.out 0) | ((with_reducible refine gate_callee (f := 6) rfl ?_); refine goesL_ (some 30) rfl rfl Try.func6 (by kernel_rfl) rfl #[.int .u64 a2] rfl (by (try simp only [List.map_toArray, List.map_cons, List.map_nil]); first | done | rfl) ?_; (with_reducible refine (demurrageref01_FromU.calls k a2 t259 _ A7.out).mono ?_); rintro e w48 ⟨v260, rfl, ho0, hb⟩; refine ⟨_, rfl, ?_⟩; have HO261 := Aside0.mk (Kd.R_lower (Kd.R_new' (Kd.R_new' ho0 (Kd.R_lt (by (with_reducible repeat (first | apply Kd.R_alloc | apply Kd.R_drewN | apply Kd.R_drew)); exact (Kd.R_mono (Kd.R_far (p := ⟨gb258, 0, none⟩) (Kd.R_types HO253.out BK258.out (by decide)) (fun _ hk => hk.2) (.slice Ao43 t255.length co43)) (fun _ h_ => h_.1))))) (Kd.R_lt (by (with_reducible repeat (first | apply Kd.R_alloc | apply Kd.R_drewN | apply Kd.R_drew)); exact (Kd.R_mono (Kd.R_far (p := ⟨gb258, 0, none⟩) (Kd.R_types HO257.out BK258.out (by decide)) (fun _ hk => hk.2) (.slice Ao43 t255.length co43)) (fun _ h_ => h_.1))))) (below_size (by repeat (first | (with_reducible first | exact HB.out | apply below_alloc | apply pw_below_drewN | apply below_drew1 | refine below_set ?_ GE248.out | refine below_set ?_ GE249.out | refine below_set ?_ GE254.out | refine below_set ?_ GE258.out) | exact HB.out)))); replace HO253 := Aside0.mk (Kd.R_elder' (by (with_reducible repeat (first | apply Kd.R_alloc | apply Kd.R_drewN | apply Kd.R_drew)); exact (Kd.R_mono (Kd.R_far (p := ⟨gb258, 0, none⟩) (Kd.R_types HO253.out BK258.out (by decide)) (fun _ hk => hk.2) (.slice Ao43 t255.length co43)) (fun _ h_ => h_.1))) (Kd.R_base ho0) hb); replace HO257 := Aside0.mk (Kd.R_elder' (by (with_reducible repeat (first | apply Kd.R_alloc | apply Kd.R_drewN | apply Kd.R_drew)); exact (Kd.R_mono (Kd.R_far (p := ⟨gb258, 0, none⟩) (Kd.R_types HO257.out BK258.out (by decide)) (fun _ hk => hk.2) (.slice Ao43 t255.length co43)) (fun _ h_ => h_.1))) (Kd.R_base ho0) hb); replace BK248 := Aside0.mk (blk_below (g := gb248) (o := .cells #[.int .u64 a0_0, .int .u64 a0_1] 24 (0, 0)) (by refine blk_far ?_ NB248_258.out _; exact BK248.out) hb); replace BK249 := Aside0.mk (blk_below (g := gb249) (o := .cells #[.int .u64 a1_0, .int .u64 a1_1] 24 (0, 0)) (by refine blk_far ?_ NB249_258.out _; exact BK249.out) hb); replace BK254 := Aside0.mk (blk_below (g := gb254) (o := .cells #[.slice Ao36 t251.length co36] 28 (0, 0)) (by refine blk_far ?_ NB254_258.out _; exact BK254.out) hb); replace BK258 := Aside0.mk (blk_below (g := gb258) (o := .cells #[.slice Ao43 t255.length co43] 28 (0, 0)) (by refine blk_put (cs := #[.slice none 0 0]) ?_ 0 _ rfl; exact BK258.out) hb); replace HB := Aside0.mk (below_step (by repeat (first | (with_reducible first | exact HB.out | apply below_alloc | apply pw_below_drewN | apply below_drew1 | refine below_set ?_ GE248.out | refine below_set ?_ GE249.out | refine below_set ?_ GE254.out | refine below_set ?_ GE258.out) | exact HB.out)) hb); (try clear hb); (try clear ho0)) | ((with_reducible refine gate_dst (N := 10) rfl ?_); refine box_event ?hg (N := 10) ?hd (cs := #[.slice none 0 0]) (t := 28) ?hr ?_; (case hd => rfl); (case hg => rfl); (case hr => first | (go_simp; done) | (go_simp; rfl)); intro gb262 hg w49 hbox hb; replace HO253 := Aside0.mk (Kd.R_below HO253.out hb); replace HO257 := Aside0.mk (Kd.R_below HO257.out hb); replace HO261 := Aside0.mk (Kd.R_below HO261.out hb); have BK262 := Aside0.mk (hbox); have GW262 := Aside0.mk ((by rw [hg]; exact (below_size (by repeat (first | (with_reducible first | exact HB.out | apply below_alloc | apply pw_below_drewN | apply below_drew1 | refine below_set ?_ GE248.out | refine below_set ?_ GE249.out | refine below_set ?_ GE254.out | refine below_set ?_ GE258.out) | exact HB.out))) : w.heap.size ≤ gb262)); have GE262 := Aside0.mk ((by rw [hg]; exact (below_size (by repeat (first | (with_reducible first | exact HB.out | apply below_alloc | apply pw_below_drewN | apply below_drew1 | refine below_set ?_ GE248.out | refine below_set ?_ GE249.out | refine below_set ?_ GE254.out | refine below_set ?_ GE258.out) | exact HB.out))) : w.heap.size ≤ gb262)); replace HB := Aside0.mk (below_step (by repeat (first | (with_reducible first | exact HB.out | apply below_alloc | apply pw_below_drewN | apply below_drew1 | refine below_set ?_ GE248.out | refine below_set ?_ GE249.out | refine below_set ?_ GE254.out | refine below_set ?_ GE258.out) | exact HB.out)) hb); have NB248_262 := Aside0.mk ((by rw [hg]; exact Nat.ne_of_lt (blk_lt (g := gb248) (o := .cells #[.int .u64 a0_0, .int .u64 a0_1] 24 (0, 0)) BK248.out) : gb248 ≠ gb262)); have NB262_248 := Aside0.mk ((by rw [hg]; exact Nat.ne_of_gt (blk_lt (g := gb248) (o := .cells #[.int .u64 a0_0, .int .u64 a0_1] 24 (0, 0)) BK248.out) : gb262 ≠ gb248)); replace BK248 := Aside0.mk (blk_below BK248.out hb); have NB249_262 := Aside0.mk ((by rw [hg]; exact Nat.ne_of_lt (blk_lt (g := gb249) (o := .cells #[.int .u64 a1_0, .int .u64 a1_1] 24 (0, 0)) BK249.out) : gb249 ≠ gb262)); have NB262_249 := Aside0.mk ((by rw [hg]; exact Nat.ne_of_gt (blk_lt (g := gb249) (o := .cells #[.int .u64 a1_0, .int .u64 a1_1] 24 (0, 0)) BK249.out) : gb262 ≠ gb249)); replace BK249 := Aside0.mk (blk_below BK249.out hb); have NB254_262 := Aside0.mk ((by rw [hg]; exact Nat.ne_of_lt (blk_lt (g := gb254) (o := .cells #[.slice Ao36 t251.length co36] 28 (0, 0)) BK254.out) : gb254 ≠ gb262)); have NB262_254 := Aside0.mk ((by rw [hg]; exact Nat.ne_of_gt (blk_lt (g := gb254) (o := .cells #[.slice Ao36 t251.length co36] 28 (0, 0)) BK254.out) : gb262 ≠ gb254)); replace BK254 := Aside0.mk (blk_below BK254.out hb); have NB258_262 := Aside0.mk ((by rw [hg]; exact Nat.ne_of_lt (blk_lt (g := gb258) (o := .cells #[.slice Ao43 t255.length co43] 28 (0, 0)) BK258.out) : gb258 ≠ gb262)); have NB262_258 := Aside0.mk ((by rw [hg]; exact Nat.ne_of_gt (blk_lt (g := gb258) (o := .cells #[.slice Ao43 t255.length co43] 28 (0, 0)) BK258.out) : gb262 ≠ gb258)); replace BK258 := Aside0.mk (blk_below BK258.out hb); clear hb hbox hg; obtain ⟨Ao50, co50, eo50⟩ := Kd.R_slice HO261.out; subst eo50; have hnb51 := NB262_248.out; have hnc51 := NB248_262.out; have hnb52 := NB262_249.out; have hnc52 := NB249_262.out; have hnb53 := NB262_254.out; have hnc53 := NB254_262.out; have hnb54 := NB262_258.out; have hnc54 := NB258_262.out; have hcz55_0 : w49.cell? ⟨gb262, 0, none⟩ = some (.slice none 0 0) := (blk_cell BK262.out 0).trans rfl; have hfz55_0 := blk_frozen BK262.out 0) | ((with_reducible refine gate_callee (f := 7) rfl ?_); refine goesL_ (some 31) rfl rfl Try.func7 (by kernel_rfl) rfl #[] rfl (by (try simp only [List.map_toArray, List.map_cons, List.map_nil]); first | done | rfl) ?_; (with_reducible refine (demurrageref01_Limit.calls k  t263 _ A8.out).mono ?_); rintro e w56 ⟨v264, rfl, ho0, hb⟩; refine ⟨_, rfl, ?_⟩; have HO265 := Aside0.mk (Kd.R_lower (Kd.R_new' (Kd.R_new' (Kd.R_new' ho0 (Kd.R_lt (by (with_reducible repeat (first | apply Kd.R_alloc | apply Kd.R_drewN | apply Kd.R_drew)); exact (Kd.R_mono (Kd.R_far (p := ⟨gb262, 0, none⟩) (Kd.R_types HO253.out BK262.out (by decide)) (fun _ hk => hk.2) (.slice Ao50 t259.length co50)) (fun _ h_ => h_.1))))) (Kd.R_lt (by (with_reducible repeat (first | apply Kd.R_alloc | apply Kd.R_drewN | apply Kd.R_drew)); exact (Kd.R_mono (Kd.R_far (p := ⟨gb262, 0, none⟩) (Kd.R_types HO257.out BK262.out (by decide)) (fun _ hk => hk.2) (.slice Ao50 t259.length co50)) (fun _ h_ => h_.1))))) (Kd.R_lt (by (with_reducible repeat (first | apply Kd.R_alloc | apply Kd.R_drewN | apply Kd.R_drew)); exact (Kd.R_mono (Kd.R_far (p := ⟨gb262, 0, none⟩) (Kd.R_types HO261.out BK262.out (by decide)) (fun _ hk => hk.2) (.slice Ao50 t259.length co50)) (fun _ h_ => h_.1))))) (below_size (by repeat (first | (with_reducible first | exact HB.out | apply below_alloc | apply pw_below_drewN | apply below_drew1 | refine below_set ?_ GE248.out | refine below_set ?_ GE249.out | refine below_set ?_ GE254.out | refine below_set ?_ GE258.out | refine below_set ?_ GE262.out) | exact HB.out)))); replace HO253 := Aside0.mk (Kd.R_elder' (by (with_reducible repeat (first | apply Kd.R_alloc | apply Kd.R_drewN | apply Kd.R_drew)); exact (Kd.R_mono (Kd.R_far (p := ⟨gb262, 0, none⟩) (Kd.R_types HO253.out BK262.out (by decide)) (fun _ hk => hk.2) (.slice Ao50 t259.length co50)) (fun _ h_ => h_.1))) (Kd.R_base ho0) hb); replace HO257 := Aside0.mk (Kd.R_elder' (by (with_reducible repeat (first | apply Kd.R_alloc | apply Kd.R_drewN | apply Kd.R_drew)); exact (Kd.R_mono (Kd.R_far (p := ⟨gb262, 0, none⟩) (Kd.R_types HO257.out BK262.out (by decide)) (fun _ hk => hk.2) (.slice Ao50 t259.length co50)) (fun _ h_ => h_.1))) (Kd.R_base ho0) hb); replace HO261 := Aside0.mk (Kd.R_elder' (by (with_reducible repeat (first | apply Kd.R_alloc | apply Kd.R_drewN | apply Kd.R_drew)); exact (Kd.R_mono (Kd.R_far (p := ⟨gb262, 0, none⟩) (Kd.R_types HO261.out BK262.out (by decide)) (fun _ hk => hk.2) (.slice Ao50 t259.length co50)) (fun _ h_ => h_.1))) (Kd.R_base ho0) hb); replace BK248 := Aside0.mk (blk_below (g := gb248) (o := .cells #[.int .u64 a0_0, .int .u64 a0_1] 24 (0, 0)) (by refine blk_far ?_ NB248_262.out _; exact BK248.out) hb); replace BK249 := Aside0.mk (blk_below (g := gb249) (o := .cells #[.int .u64 a1_0, .int .u64 a1_1] 24 (0, 0)) (by refine blk_far ?_ NB249_262.out _; exact BK249.out) hb); replace BK254 := Aside0.mk (blk_below (g := gb254) (o := .cells #[.slice Ao36 t251.length co36] 28 (0, 0)) (by refine blk_far ?_ NB254_262.out _; exact BK254.out) hb); replace BK258 := Aside0.mk (blk_below (g := gb258) (o := .cells #[.slice Ao43 t255.length co43] 28 (0, 0)) (by refine blk_far ?_ NB258_262.out _; exact BK258.out) hb); replace BK262 := Aside0.mk (blk_below (g := gb262) (o := .cells #[.slice Ao50 t259.length co50] 28 (0, 0)) (by refine blk_put (cs := #[.slice none 0 0]) ?_ 0 _ rfl; exact BK262.out) hb); replace HB := Aside0.mk (below_step (by repeat (first | (with_reducible first | exact HB.out | apply below_alloc | apply pw_below_drewN | apply below_drew1 | refine below_set ?_ GE248.out | refine below_set ?_ GE249.out | refine below_set ?_ GE254.out | refine below_set ?_ GE258.out | refine below_set ?_ GE262.out) | exact HB.out)) hb); (try clear hb); (try clear ho0)) | ((with_reducible refine gate_dst (N := 11) rfl ?_); refine box_event ?hg (N := 11) ?hd (cs := #[.slice none 0 0]) (t := 28) ?hr ?_; (case hd => rfl); (case hg => rfl); (case hr => first | (go_simp; done) | (go_simp; rfl)); intro gb266 hg w57 hbox hb; replace HO253 := Aside0.mk (Kd.R_below HO253.out hb); replace HO257 := Aside0.mk (Kd.R_below HO257.out hb); replace HO261 := Aside0.mk (Kd.R_below HO261.out hb); replace HO265 := Aside0.mk (Kd.R_below HO265.out hb); have BK266 := Aside0.mk (hbox); have GW266 := Aside0.mk ((by rw [hg]; exact (below_size (by repeat (first | (with_reducible first | exact HB.out | apply below_alloc | apply pw_below_drewN | apply below_drew1 | refine below_set ?_ GE248.out | refine below_set ?_ GE249.out | refine below_set ?_ GE254.out | refine below_set ?_ GE258.out | refine below_set ?_ GE262.out) | exact HB.out))) : w.heap.size ≤ gb266)); have GE266 := Aside0.mk ((by rw [hg]; exact (below_size (by repeat (first | (with_reducible first | exact HB.out | apply below_alloc | apply pw_below_drewN | apply below_drew1 | refine below_set ?_ GE248.out | refine below_set ?_ GE249.out | refine below_set ?_ GE254.out | refine below_set ?_ GE258.out | refine below_set ?_ GE262.out) | exact HB.out))) : w.heap.size ≤ gb266)); replace HB := Aside0.mk (below_step (by repeat (first | (with_reducible first | exact HB.out | apply below_alloc | apply pw_below_drewN | apply below_drew1 | refine below_set ?_ GE248.out | refine below_set ?_ GE249.out | refine below_set ?_ GE254.out | refine below_set ?_ GE258.out | refine below_set ?_ GE262.out) | exact HB.out)) hb); have NB248_266 := Aside0.mk ((by rw [hg]; exact Nat.ne_of_lt (blk_lt (g := gb248) (o := .cells #[.int .u64 a0_0, .int .u64 a0_1] 24 (0, 0)) BK248.out) : gb248 ≠ gb266)); have NB266_248 := Aside0.mk ((by rw [hg]; exact Nat.ne_of_gt (blk_lt (g := gb248) (o := .cells #[.int .u64 a0_0, .int .u64 a0_1] 24 (0, 0)) BK248.out) : gb266 ≠ gb248)); replace BK248 := Aside0.mk (blk_below BK248.out hb); have NB249_266 := Aside0.mk ((by rw [hg]; exact Nat.ne_of_lt (blk_lt (g := gb249) (o := .cells #[.int .u64 a1_0, .int .u64 a1_1] 24 (0, 0)) BK249.out) : gb249 ≠ gb266)); have NB266_249 := Aside0.mk ((by rw [hg]; exact Nat.ne_of_gt (blk_lt (g := gb249) (o := .cells #[.int .u64 a1_0, .int .u64 a1_1] 24 (0, 0)) BK249.out) : gb266 ≠ gb249)); replace BK249 := Aside0.mk (blk_below BK249.out hb); have NB254_266 := Aside0.mk ((by rw [hg]; exact Nat.ne_of_lt (blk_lt (g := gb254) (o := .cells #[.slice Ao36 t251.length co36] 28 (0, 0)) BK254.out) : gb254 ≠ gb266)); have NB266_254 := Aside0.mk ((by rw [hg]; exact Nat.ne_of_gt (blk_lt (g := gb254) (o := .cells #[.slice Ao36 t251.length co36] 28 (0, 0)) BK254.out) : gb266 ≠ gb254)); replace BK254 := Aside0.mk (blk_below BK254.out hb); have NB258_266 := Aside0.mk ((by rw [hg]; exact Nat.ne_of_lt (blk_lt (g := gb258) (o := .cells #[.slice Ao43 t255.length co43] 28 (0, 0)) BK258.out) : gb258 ≠ gb266)); have NB266_258 := Aside0.mk ((by rw [hg]; exact Nat.ne_of_gt (blk_lt (g := gb258) (o := .cells #[.slice Ao43 t255.length co43] 28 (0, 0)) BK258.out) : gb266 ≠ gb258)); replace BK258 := Aside0.mk (blk_below BK258.out hb); have NB262_266 := Aside0.mk ((by rw [hg]; exact Nat.ne_of_lt (blk_lt (g := gb262) (o := .cells #[.slice Ao50 t259.length co50] 28 (0, 0)) BK262.out) : gb262 ≠ gb266)); have NB266_262 := Aside0.mk ((by rw [hg]; exact Nat.ne_of_gt (blk_lt (g := gb262) (o := .cells #[.slice Ao50 t259.length co50] 28 (0, 0)) BK262.out) : gb266 ≠ gb262)); replace BK262 := Aside0.mk (blk_below BK262.out hb); clear hb hbox hg; obtain ⟨Ao58, co58, eo58⟩ := Kd.R_slice HO265.out; subst eo58; have hnb59 := NB266_248.out; have hnc59 := NB248_266.out; have hnb60 := NB266_249.out; have hnc60 := NB249_266.out; have hnb61 := NB266_254.out; have hnc61 := NB254_266.out; have hnb62 := NB266_258.out; have hnc62 := NB258_266.out; have hnb63 := NB266_262.out; have hnc63 := NB262_266.out; have hcz64_0 : w57.cell? ⟨gb266, 0, none⟩ = some (.slice none 0 0) := (blk_cell BK266.out 0).trans rfl; have hfz64_0 := blk_frozen BK266.out 0; have hcz65_0 : w57.cell? ⟨gb248, 0, none⟩ = some (.int .u64 a0_0) := (blk_cell BK248.out 0).trans rfl; have hcz65_1 : w57.cell? ⟨gb248, 1, none⟩ = some (.int .u64 a0_1) := (blk_cell BK248.out 1).trans rfl; have hfz65_0 := blk_frozen BK248.out 0; have hfz65_1 := blk_frozen BK248.out 1) | ((with_reducible refine gate_callee (f := 8) rfl ?_); refine goesL_ (some 35) rfl rfl Try.func8 (by kernel_rfl) rfl #[.agg #[.int .u64 a0_0, .int .u64 a0_1], .int .u64 a2] rfl (by (try simp only [List.map_toArray, List.map_cons, List.map_nil]); first | done | rfl) ?_; (with_reducible refine (wide_Times.calls a0_0 a0_1 a2 t267 t268 t269 _ A9.out).mono ?_); rintro e w66 ⟨rfl, hb⟩; refine ⟨_, rfl, ?_⟩; replace HO253 := Aside0.mk (Kd.R_below (by (with_reducible repeat (first | apply Kd.R_alloc | apply Kd.R_drewN | apply Kd.R_drew)); exact (Kd.R_mono (Kd.R_far (p := ⟨gb266, 0, none⟩) (Kd.R_types HO253.out BK266.out (by decide)) (fun _ hk => hk.2) (.slice Ao58 t263.length co58)) (fun _ h_ => h_.1))) hb); replace HO257 := Aside0.mk (Kd.R_below (by (with_reducible repeat (first | apply Kd.R_alloc | apply Kd.R_drewN | apply Kd.R_drew)); exact (Kd.R_mono (Kd.R_far (p := ⟨gb266, 0, none⟩) (Kd.R_types HO257.out BK266.out (by decide)) (fun _ hk => hk.2) (.slice Ao58 t263.length co58)) (fun _ h_ => h_.1))) hb); replace HO261 := Aside0.mk (Kd.R_below (by (with_reducible repeat (first | apply Kd.R_alloc | apply Kd.R_drewN | apply Kd.R_drew)); exact (Kd.R_mono (Kd.R_far (p := ⟨gb266, 0, none⟩) (Kd.R_types HO261.out BK266.out (by decide)) (fun _ hk => hk.2) (.slice Ao58 t263.length co58)) (fun _ h_ => h_.1))) hb); replace HO265 := Aside0.mk (Kd.R_below (by (with_reducible repeat (first | apply Kd.R_alloc | apply Kd.R_drewN | apply Kd.R_drew)); exact (Kd.R_mono (Kd.R_far (p := ⟨gb266, 0, none⟩) (Kd.R_types HO265.out BK266.out (by decide)) (fun _ hk => hk.2) (.slice Ao58 t263.length co58)) (fun _ h_ => h_.1))) hb); replace BK248 := Aside0.mk (blk_below (g := gb248) (o := .cells #[.int .u64 a0_0, .int .u64 a0_1] 24 (0, 0)) (by refine blk_far ?_ NB248_266.out _; exact BK248.out) hb); replace BK249 := Aside0.mk (blk_below (g := gb249) (o := .cells #[.int .u64 a1_0, .int .u64 a1_1] 24 (0, 0)) (by refine blk_far ?_ NB249_266.out _; exact BK249.out) hb); replace BK254 := Aside0.mk (blk_below (g := gb254) (o := .cells #[.slice Ao36 t251.length co36] 28 (0, 0)) (by refine blk_far ?_ NB254_266.out _; exact BK254.out) hb); replace BK258 := Aside0.mk (blk_below (g := gb258) (o := .cells #[.slice Ao43 t255.length co43] 28 (0, 0)) (by refine blk_far ?_ NB258_266.out _; exact BK258.out) hb); replace BK262 := Aside0.mk (blk_below (g := gb262) (o := .cells #[.slice Ao50 t259.length co50] 28 (0, 0)) (by refine blk_far ?_ NB262_266.out _; exact BK262.out) hb); replace BK266 := Aside0.mk (blk_below (g := gb266) (o := .cells #[.slice Ao58 t263.length co58] 28 (0, 0)) (by refine blk_put (cs := #[.slice none 0 0]) ?_ 0 _ rfl; exact BK266.out) hb); replace HB := Aside0.mk (below_step (by repeat (first | (with_reducible first | exact HB.out | apply below_alloc | apply pw_below_drewN | apply below_drew1 | refine below_set ?_ GE248.out | refine below_set ?_ GE249.out | refine below_set ?_ GE254.out | refine below_set ?_ GE258.out | refine below_set ?_ GE262.out | refine below_set ?_ GE266.out) | exact HB.out)) hb); (try clear hb)) | ((with_reducible refine gate_dst (N := 12) rfl ?_); refine box_event ?hg (N := 12) ?hd (cs := #[.int .u64 0, .int .u64 0]) (t := 24) ?hr ?_; (case hd => rfl); (case hg => rfl); (case hr => first | (go_simp; done) | (go_simp; rfl)); intro gb270 hg w67 hbox hb; replace HO253 := Aside0.mk (Kd.R_below HO253.out hb); replace HO257 := Aside0.mk (Kd.R_below HO257.out hb); replace HO261 := Aside0.mk (Kd.R_below HO261.out hb); replace HO265 := Aside0.mk (Kd.R_below HO265.out hb); have BK270 := Aside0.mk (hbox); have GW270 := Aside0.mk ((by rw [hg]; exact (below_size (by repeat (first | (with_reducible first | exact HB.out | apply below_alloc | apply pw_below_drewN | apply below_drew1 | refine below_set ?_ GE248.out | refine below_set ?_ GE249.out | refine below_set ?_ GE254.out | refine below_set ?_ GE258.out | refine below_set ?_ GE262.out | refine below_set ?_ GE266.out) | exact HB.out))) : w.heap.size ≤ gb270)); have GE270 := Aside0.mk ((by rw [hg]; exact (below_size (by repeat (first | (with_reducible first | exact HB.out | apply below_alloc | apply pw_below_drewN | apply below_drew1 | refine below_set ?_ GE248.out | refine below_set ?_ GE249.out | refine below_set ?_ GE254.out | refine below_set ?_ GE258.out | refine below_set ?_ GE262.out | refine below_set ?_ GE266.out) | exact HB.out))) : w.heap.size ≤ gb270)); replace HB := Aside0.mk (below_step (by repeat (first | (with_reducible first | exact HB.out | apply below_alloc | apply pw_below_drewN | apply below_drew1 | refine below_set ?_ GE248.out | refine below_set ?_ GE249.out | refine below_set ?_ GE254.out | refine below_set ?_ GE258.out | refine below_set ?_ GE262.out | refine below_set ?_ GE266.out) | exact HB.out)) hb); have NB248_270 := Aside0.mk ((by rw [hg]; exact Nat.ne_of_lt (blk_lt (g := gb248) (o := .cells #[.int .u64 a0_0, .int .u64 a0_1] 24 (0, 0)) BK248.out) : gb248 ≠ gb270)); have NB270_248 := Aside0.mk ((by rw [hg]; exact Nat.ne_of_gt (blk_lt (g := gb248) (o := .cells #[.int .u64 a0_0, .int .u64 a0_1] 24 (0, 0)) BK248.out) : gb270 ≠ gb248)); replace BK248 := Aside0.mk (blk_below BK248.out hb); have NB249_270 := Aside0.mk ((by rw [hg]; exact Nat.ne_of_lt (blk_lt (g := gb249) (o := .cells #[.int .u64 a1_0, .int .u64 a1_1] 24 (0, 0)) BK249.out) : gb249 ≠ gb270)); have NB270_249 := Aside0.mk ((by rw [hg]; exact Nat.ne_of_gt (blk_lt (g := gb249) (o := .cells #[.int .u64 a1_0, .int .u64 a1_1] 24 (0, 0)) BK249.out) : gb270 ≠ gb249)); replace BK249 := Aside0.mk (blk_below BK249.out hb); have NB254_270 := Aside0.mk ((by rw [hg]; exact Nat.ne_of_lt (blk_lt (g := gb254) (o := .cells #[.slice Ao36 t251.length co36] 28 (0, 0)) BK254.out) : gb254 ≠ gb270)); have NB270_254 := Aside0.mk ((by rw [hg]; exact Nat.ne_of_gt (blk_lt (g := gb254) (o := .cells #[.slice Ao36 t251.length co36] 28 (0, 0)) BK254.out) : gb270 ≠ gb254)); replace BK254 := Aside0.mk (blk_below BK254.out hb); have NB258_270 := Aside0.mk ((by rw [hg]; exact Nat.ne_of_lt (blk_lt (g := gb258) (o := .cells #[.slice Ao43 t255.length co43] 28 (0, 0)) BK258.out) : gb258 ≠ gb270)); have NB270_258 := Aside0.mk ((by rw [hg]; exact Nat.ne_of_gt (blk_lt (g := gb258) (o := .cells #[.slice Ao43 t255.length co43] 28 (0, 0)) BK258.out) : gb270 ≠ gb258)); replace BK258 := Aside0.mk (blk_below BK258.out hb); have NB262_270 := Aside0.mk ((by rw [hg]; exact Nat.ne_of_lt (blk_lt (g := gb262) (o := .cells #[.slice Ao50 t259.length co50] 28 (0, 0)) BK262.out) : gb262 ≠ gb270)); have NB270_262 := Aside0.mk ((by rw [hg]; exact Nat.ne_of_gt (blk_lt (g := gb262) (o := .cells #[.slice Ao50 t259.length co50] 28 (0, 0)) BK262.out) : gb270 ≠ gb262)); replace BK262 := Aside0.mk (blk_below BK262.out hb); have NB266_270 := Aside0.mk ((by rw [hg]; exact Nat.ne_of_lt (blk_lt (g := gb266) (o := .cells #[.slice Ao58 t263.length co58] 28 (0, 0)) BK266.out) : gb266 ≠ gb270)); have NB270_266 := Aside0.mk ((by rw [hg]; exact Nat.ne_of_gt (blk_lt (g := gb266) (o := .cells #[.slice Ao58 t263.length co58] 28 (0, 0)) BK266.out) : gb270 ≠ gb266)); replace BK266 := Aside0.mk (blk_below BK266.out hb); clear hb hbox hg; have hnb68 := NB270_248.out; have hnc68 := NB248_270.out; have hnb69 := NB270_249.out; have hnc69 := NB249_270.out; have hnb70 := NB270_254.out; have hnc70 := NB254_270.out; have hnb71 := NB270_258.out; have hnc71 := NB258_270.out; have hnb72 := NB270_262.out; have hnc72 := NB262_270.out; have hnb73 := NB270_266.out; have hnc73 := NB266_270.out; have hcz74_0 : w67.cell? ⟨gb270, 0, none⟩ = some (.int .u64 0) := (blk_cell BK270.out 0).trans rfl; have hcz74_1 : w67.cell? ⟨gb270, 1, none⟩ = some (.int .u64 0) := (blk_cell BK270.out 1).trans rfl; have hfz74_0 := blk_frozen BK270.out 0; have hfz74_1 := blk_frozen BK270.out 1; have hcz75_0 : w67.cell? ⟨gb248, 0, none⟩ = some (.int .u64 a0_0) := (blk_cell BK248.out 0).trans rfl; have hcz75_1 : w67.cell? ⟨gb248, 1, none⟩ = some (.int .u64 a0_1) := (blk_cell BK248.out 1).trans rfl; have hfz75_0 := blk_frozen BK248.out 0; have hfz75_1 := blk_frozen BK248.out 1; have hcz76_0 : w67.cell? ⟨gb249, 0, none⟩ = some (.int .u64 a1_0) := (blk_cell BK249.out 0).trans rfl; have hcz76_1 : w67.cell? ⟨gb249, 1, none⟩ = some (.int .u64 a1_1) := (blk_cell BK249.out 1).trans rfl; have hfz76_0 := blk_frozen BK249.out 0; have hfz76_1 := blk_frozen BK249.out 1) | ((with_reducible refine gate_callee (f := 9) rfl ?_); refine goesL_ (some 41) rfl rfl Try.func9 (by kernel_rfl) rfl #[.agg #[.int .u64 a0_0, .int .u64 a0_1], .agg #[.int .u64 a1_0, .int .u64 a1_1]] rfl (by (try simp only [List.map_toArray, List.map_cons, List.map_nil]); first | done | rfl) ?_; (with_reducible refine (wide_Add.calls a0_0 a0_1 a1_0 a1_1 t271 t272 t273 _ A10.out).mono ?_); rintro e w77 ⟨rfl, hb⟩; refine ⟨_, rfl, ?_⟩; replace HO253 := Aside0.mk (Kd.R_below (by (with_reducible repeat (first | apply Kd.R_alloc | apply Kd.R_drewN | apply Kd.R_drew)); exact (Kd.R_mono (Kd.R_far (p := ⟨gb270, 1, none⟩) (Kd.R_far (p := ⟨gb270, 0, none⟩) (Kd.R_types HO253.out BK270.out (by decide)) (fun _ hk => hk.2) (.int .u64 t267)) (fun _ hk => hk.2) (.int .u64 t268)) (fun _ h_ => h_.1))) hb); replace HO257 := Aside0.mk (Kd.R_below (by (with_reducible repeat (first | apply Kd.R_alloc | apply Kd.R_drewN | apply Kd.R_drew)); exact (Kd.R_mono (Kd.R_far (p := ⟨gb270, 1, none⟩) (Kd.R_far (p := ⟨gb270, 0, none⟩) (Kd.R_types HO257.out BK270.out (by decide)) (fun _ hk => hk.2) (.int .u64 t267)) (fun _ hk => hk.2) (.int .u64 t268)) (fun _ h_ => h_.1))) hb); replace HO261 := Aside0.mk (Kd.R_below (by (with_reducible repeat (first | apply Kd.R_alloc | apply Kd.R_drewN | apply Kd.R_drew)); exact (Kd.R_mono (Kd.R_far (p := ⟨gb270, 1, none⟩) (Kd.R_far (p := ⟨gb270, 0, none⟩) (Kd.R_types HO261.out BK270.out (by decide)) (fun _ hk => hk.2) (.int .u64 t267)) (fun _ hk => hk.2) (.int .u64 t268)) (fun _ h_ => h_.1))) hb); replace HO265 := Aside0.mk (Kd.R_below (by (with_reducible repeat (first | apply Kd.R_alloc | apply Kd.R_drewN | apply Kd.R_drew)); exact (Kd.R_mono (Kd.R_far (p := ⟨gb270, 1, none⟩) (Kd.R_far (p := ⟨gb270, 0, none⟩) (Kd.R_types HO265.out BK270.out (by decide)) (fun _ hk => hk.2) (.int .u64 t267)) (fun _ hk => hk.2) (.int .u64 t268)) (fun _ h_ => h_.1))) hb); replace BK248 := Aside0.mk (blk_below (g := gb248) (o := .cells #[.int .u64 a0_0, .int .u64 a0_1] 24 (0, 0)) (by refine blk_far ?_ NB248_270.out _; refine blk_far ?_ NB248_270.out _; exact BK248.out) hb); replace BK249 := Aside0.mk (blk_below (g := gb249) (o := .cells #[.int .u64 a1_0, .int .u64 a1_1] 24 (0, 0)) (by refine blk_far ?_ NB249_270.out _; refine blk_far ?_ NB249_270.out _; exact BK249.out) hb); replace BK254 := Aside0.mk (blk_below (g := gb254) (o := .cells #[.slice Ao36 t251.length co36] 28 (0, 0)) (by refine blk_far ?_ NB254_270.out _; refine blk_far ?_ NB254_270.out _; exact BK254.out) hb); replace BK258 := Aside0.mk (blk_below (g := gb258) (o := .cells #[.slice Ao43 t255.length co43] 28 (0, 0)) (by refine blk_far ?_ NB258_270.out _; refine blk_far ?_ NB258_270.out _; exact BK258.out) hb); replace BK262 := Aside0.mk (blk_below (g := gb262) (o := .cells #[.slice Ao50 t259.length co50] 28 (0, 0)) (by refine blk_far ?_ NB262_270.out _; refine blk_far ?_ NB262_270.out _; exact BK262.out) hb); replace BK266 := Aside0.mk (blk_below (g := gb266) (o := .cells #[.slice Ao58 t263.length co58] 28 (0, 0)) (by refine blk_far ?_ NB266_270.out _; refine blk_far ?_ NB266_270.out _; exact BK266.out) hb); replace BK270 := Aside0.mk (blk_below (g := gb270) (o := .cells #[.int .u64 t267, .int .u64 t268] 24 (0, 0)) (by refine blk_put (cs := #[.int .u64 t267, .int .u64 0]) ?_ 1 _ rfl; refine blk_put (cs := #[.int .u64 0, .int .u64 0]) ?_ 0 _ rfl; exact BK270.out) hb); replace HB := Aside0.mk (below_step (by repeat (first | (with_reducible first | exact HB.out | apply below_alloc | apply pw_below_drewN | apply below_drew1 | refine below_set ?_ GE248.out | refine below_set ?_ GE249.out | refine below_set ?_ GE254.out | refine below_set ?_ GE258.out | refine below_set ?_ GE262.out | refine below_set ?_ GE266.out | refine below_set ?_ GE270.out) | exact HB.out)) hb); (try clear hb)) | ((with_reducible refine gate_dst (N := 14) rfl ?_); refine box_event ?hg (N := 14) ?hd (cs := #[.int .u64 0, .int .u64 0]) (t := 24) ?hr ?_; (case hd => rfl); (case hg => rfl); (case hr => first | (go_simp; done) | (go_simp; rfl)); intro gb274 hg w78 hbox hb; replace HO253 := Aside0.mk (Kd.R_below HO253.out hb); replace HO257 := Aside0.mk (Kd.R_below HO257.out hb); replace HO261 := Aside0.mk (Kd.R_below HO261.out hb); replace HO265 := Aside0.mk (Kd.R_below HO265.out hb); have BK274 := Aside0.mk (hbox); have GW274 := Aside0.mk ((by rw [hg]; exact (below_size (by repeat (first | (with_reducible first | exact HB.out | apply below_alloc | apply pw_below_drewN | apply below_drew1 | refine below_set ?_ GE248.out | refine below_set ?_ GE249.out | refine below_set ?_ GE254.out | refine below_set ?_ GE258.out | refine below_set ?_ GE262.out | refine below_set ?_ GE266.out | refine below_set ?_ GE270.out) | exact HB.out))) : w.heap.size ≤ gb274)); have GE274 := Aside0.mk ((by rw [hg]; exact (below_size (by repeat (first | (with_reducible first | exact HB.out | apply below_alloc | apply pw_below_drewN | apply below_drew1 | refine below_set ?_ GE248.out | refine below_set ?_ GE249.out | refine below_set ?_ GE254.out | refine below_set ?_ GE258.out | refine below_set ?_ GE262.out | refine below_set ?_ GE266.out | refine below_set ?_ GE270.out) | exact HB.out))) : w.heap.size ≤ gb274)); replace HB := Aside0.mk (below_step (by repeat (first | (with_reducible first | exact HB.out | apply below_alloc | apply pw_below_drewN | apply below_drew1 | refine below_set ?_ GE248.out | refine below_set ?_ GE249.out | refine below_set ?_ GE254.out | refine below_set ?_ GE258.out | refine below_set ?_ GE262.out | refine below_set ?_ GE266.out | refine below_set ?_ GE270.out) | exact HB.out)) hb); have NB248_274 := Aside0.mk ((by rw [hg]; exact Nat.ne_of_lt (blk_lt (g := gb248) (o := .cells #[.int .u64 a0_0, .int .u64 a0_1] 24 (0, 0)) BK248.out) : gb248 ≠ gb274)); have NB274_248 := Aside0.mk ((by rw [hg]; exact Nat.ne_of_gt (blk_lt (g := gb248) (o := .cells #[.int .u64 a0_0, .int .u64 a0_1] 24 (0, 0)) BK248.out) : gb274 ≠ gb248)); replace BK248 := Aside0.mk (blk_below BK248.out hb); have NB249_274 := Aside0.mk ((by rw [hg]; exact Nat.ne_of_lt (blk_lt (g := gb249) (o := .cells #[.int .u64 a1_0, .int .u64 a1_1] 24 (0, 0)) BK249.out) : gb249 ≠ gb274)); have NB274_249 := Aside0.mk ((by rw [hg]; exact Nat.ne_of_gt (blk_lt (g := gb249) (o := .cells #[.int .u64 a1_0, .int .u64 a1_1] 24 (0, 0)) BK249.out) : gb274 ≠ gb249)); replace BK249 := Aside0.mk (blk_below BK249.out hb); have NB254_274 := Aside0.mk ((by rw [hg]; exact Nat.ne_of_lt (blk_lt (g := gb254) (o := .cells #[.slice Ao36 t251.length co36] 28 (0, 0)) BK254.out) : gb254 ≠ gb274)); have NB274_254 := Aside0.mk ((by rw [hg]; exact Nat.ne_of_gt (blk_lt (g := gb254) (o := .cells #[.slice Ao36 t251.length co36] 28 (0, 0)) BK254.out) : gb274 ≠ gb254)); replace BK254 := Aside0.mk (blk_below BK254.out hb); have NB258_274 := Aside0.mk ((by rw [hg]; exact Nat.ne_of_lt (blk_lt (g := gb258) (o := .cells #[.slice Ao43 t255.length co43] 28 (0, 0)) BK258.out) : gb258 ≠ gb274)); have NB274_258 := Aside0.mk ((by rw [hg]; exact Nat.ne_of_gt (blk_lt (g := gb258) (o := .cells #[.slice Ao43 t255.length co43] 28 (0, 0)) BK258.out) : gb274 ≠ gb258)); replace BK258 := Aside0.mk (blk_below BK258.out hb); have NB262_274 := Aside0.mk ((by rw [hg]; exact Nat.ne_of_lt (blk_lt (g := gb262) (o := .cells #[.slice Ao50 t259.length co50] 28 (0, 0)) BK262.out) : gb262 ≠ gb274)); have NB274_262 := Aside0.mk ((by rw [hg]; exact Nat.ne_of_gt (blk_lt (g := gb262) (o := .cells #[.slice Ao50 t259.length co50] 28 (0, 0)) BK262.out) : gb274 ≠ gb262)); replace BK262 := Aside0.mk (blk_below BK262.out hb); have NB266_274 := Aside0.mk ((by rw [hg]; exact Nat.ne_of_lt (blk_lt (g := gb266) (o := .cells #[.slice Ao58 t263.length co58] 28 (0, 0)) BK266.out) : gb266 ≠ gb274)); have NB274_266 := Aside0.mk ((by rw [hg]; exact Nat.ne_of_gt (blk_lt (g := gb266) (o := .cells #[.slice Ao58 t263.length co58] 28 (0, 0)) BK266.out) : gb274 ≠ gb266)); replace BK266 := Aside0.mk (blk_below BK266.out hb); have NB270_274 := Aside0.mk ((by rw [hg]; exact Nat.ne_of_lt (blk_lt (g := gb270) (o := .cells #[.int .u64 t267, .int .u64 t268] 24 (0, 0)) BK270.out) : gb270 ≠ gb274)); have NB274_270 := Aside0.mk ((by rw [hg]; exact Nat.ne_of_gt (blk_lt (g := gb270) (o := .cells #[.int .u64 t267, .int .u64 t268] 24 (0, 0)) BK270.out) : gb274 ≠ gb270)); replace BK270 := Aside0.mk (blk_below BK270.out hb); clear hb hbox hg; have hnb79 := NB274_248.out; have hnc79 := NB248_274.out; have hnb80 := NB274_249.out; have hnc80 := NB249_274.out; have hnb81 := NB274_254.out; have hnc81 := NB254_274.out; have hnb82 := NB274_258.out; have hnc82 := NB258_274.out; have hnb83 := NB274_262.out; have hnc83 := NB262_274.out; have hnb84 := NB274_266.out; have hnc84 := NB266_274.out; have hnb85 := NB274_270.out; have hnc85 := NB270_274.out; have hcz86_0 : w78.cell? ⟨gb274, 0, none⟩ = some (.int .u64 0) := (blk_cell BK274.out 0).trans rfl; have hcz86_1 : w78.cell? ⟨gb274, 1, none⟩ = some (.int .u64 0) := (blk_cell BK274.out 1).trans rfl; have hfz86_0 := blk_frozen BK274.out 0; have hfz86_1 := blk_frozen BK274.out 1; have hcz87_0 : w78.cell? ⟨gb248, 0, none⟩ = some (.int .u64 a0_0) := (blk_cell BK248.out 0).trans rfl; have hcz87_1 : w78.cell? ⟨gb248, 1, none⟩ = some (.int .u64 a0_1) := (blk_cell BK248.out 1).trans rfl; have hfz87_0 := blk_frozen BK248.out 0; have hfz87_1 := blk_frozen BK248.out 1; have hcz88_0 : w78.cell? ⟨gb249, 0, none⟩ = some (.int .u64 a1_0) := (blk_cell BK249.out 0).trans rfl; have hcz88_1 : w78.cell? ⟨gb249, 1, none⟩ = some (.int .u64 a1_1) := (blk_cell BK249.out 1).trans rfl; have hfz88_0 := blk_frozen BK249.out 0; have hfz88_1 := blk_frozen BK249.out 1) | ((with_reducible refine gate_callee (f := 10) rfl ?_); refine goesL_ (some 47) rfl rfl Try.func10 (by kernel_rfl) rfl #[.agg #[.int .u64 a0_0, .int .u64 a0_1], .agg #[.int .u64 a1_0, .int .u64 a1_1]] rfl (by (try simp only [List.map_toArray, List.map_cons, List.map_nil]); first | done | rfl) ?_; (with_reducible refine (wide_Sub.calls a0_0 a0_1 a1_0 a1_1 t275 t276 t277 _ A11.out).mono ?_); rintro e w89 ⟨rfl, hb⟩; refine ⟨_, rfl, ?_⟩; replace HO253 := Aside0.mk (Kd.R_below (by (with_reducible repeat (first | apply Kd.R_alloc | apply Kd.R_drewN | apply Kd.R_drew)); exact (Kd.R_mono (Kd.R_far (p := ⟨gb274, 1, none⟩) (Kd.R_far (p := ⟨gb274, 0, none⟩) (Kd.R_types HO253.out BK274.out (by decide)) (fun _ hk => hk.2) (.int .u64 t271)) (fun _ hk => hk.2) (.int .u64 t272)) (fun _ h_ => h_.1))) hb); replace HO257 := Aside0.mk (Kd.R_below (by (with_reducible repeat (first | apply Kd.R_alloc | apply Kd.R_drewN | apply Kd.R_drew)); exact (Kd.R_mono (Kd.R_far (p := ⟨gb274, 1, none⟩) (Kd.R_far (p := ⟨gb274, 0, none⟩) (Kd.R_types HO257.out BK274.out (by decide)) (fun _ hk => hk.2) (.int .u64 t271)) (fun _ hk => hk.2) (.int .u64 t272)) (fun _ h_ => h_.1))) hb); replace HO261 := Aside0.mk (Kd.R_below (by (with_reducible repeat (first | apply Kd.R_alloc | apply Kd.R_drewN | apply Kd.R_drew)); exact (Kd.R_mono (Kd.R_far (p := ⟨gb274, 1, none⟩) (Kd.R_far (p := ⟨gb274, 0, none⟩) (Kd.R_types HO261.out BK274.out (by decide)) (fun _ hk => hk.2) (.int .u64 t271)) (fun _ hk => hk.2) (.int .u64 t272)) (fun _ h_ => h_.1))) hb); replace HO265 := Aside0.mk (Kd.R_below (by (with_reducible repeat (first | apply Kd.R_alloc | apply Kd.R_drewN | apply Kd.R_drew)); exact (Kd.R_mono (Kd.R_far (p := ⟨gb274, 1, none⟩) (Kd.R_far (p := ⟨gb274, 0, none⟩) (Kd.R_types HO265.out BK274.out (by decide)) (fun _ hk => hk.2) (.int .u64 t271)) (fun _ hk => hk.2) (.int .u64 t272)) (fun _ h_ => h_.1))) hb); replace BK248 := Aside0.mk (blk_below (g := gb248) (o := .cells #[.int .u64 a0_0, .int .u64 a0_1] 24 (0, 0)) (by refine blk_far ?_ NB248_274.out _; refine blk_far ?_ NB248_274.out _; exact BK248.out) hb); replace BK249 := Aside0.mk (blk_below (g := gb249) (o := .cells #[.int .u64 a1_0, .int .u64 a1_1] 24 (0, 0)) (by refine blk_far ?_ NB249_274.out _; refine blk_far ?_ NB249_274.out _; exact BK249.out) hb); replace BK254 := Aside0.mk (blk_below (g := gb254) (o := .cells #[.slice Ao36 t251.length co36] 28 (0, 0)) (by refine blk_far ?_ NB254_274.out _; refine blk_far ?_ NB254_274.out _; exact BK254.out) hb); replace BK258 := Aside0.mk (blk_below (g := gb258) (o := .cells #[.slice Ao43 t255.length co43] 28 (0, 0)) (by refine blk_far ?_ NB258_274.out _; refine blk_far ?_ NB258_274.out _; exact BK258.out) hb); replace BK262 := Aside0.mk (blk_below (g := gb262) (o := .cells #[.slice Ao50 t259.length co50] 28 (0, 0)) (by refine blk_far ?_ NB262_274.out _; refine blk_far ?_ NB262_274.out _; exact BK262.out) hb); replace BK266 := Aside0.mk (blk_below (g := gb266) (o := .cells #[.slice Ao58 t263.length co58] 28 (0, 0)) (by refine blk_far ?_ NB266_274.out _; refine blk_far ?_ NB266_274.out _; exact BK266.out) hb); replace BK270 := Aside0.mk (blk_below (g := gb270) (o := .cells #[.int .u64 t267, .int .u64 t268] 24 (0, 0)) (by refine blk_far ?_ NB270_274.out _; refine blk_far ?_ NB270_274.out _; exact BK270.out) hb); replace BK274 := Aside0.mk (blk_below (g := gb274) (o := .cells #[.int .u64 t271, .int .u64 t272] 24 (0, 0)) (by refine blk_put (cs := #[.int .u64 t271, .int .u64 0]) ?_ 1 _ rfl; refine blk_put (cs := #[.int .u64 0, .int .u64 0]) ?_ 0 _ rfl; exact BK274.out) hb); replace HB := Aside0.mk (below_step (by repeat (first | (with_reducible first | exact HB.out | apply below_alloc | apply pw_below_drewN | apply below_drew1 | refine below_set ?_ GE248.out | refine below_set ?_ GE249.out | refine below_set ?_ GE254.out | refine below_set ?_ GE258.out | refine below_set ?_ GE262.out | refine below_set ?_ GE266.out | refine below_set ?_ GE270.out | refine below_set ?_ GE274.out) | exact HB.out)) hb); (try clear hb)) | ((with_reducible refine gate_dst (N := 16) rfl ?_); refine box_event ?hg (N := 16) ?hd (cs := #[.int .u64 0, .int .u64 0]) (t := 24) ?hr ?_; (case hd => rfl); (case hg => rfl); (case hr => first | (go_simp; done) | (go_simp; rfl)); intro gb278 hg w90 hbox hb; replace HO253 := Aside0.mk (Kd.R_below HO253.out hb); replace HO257 := Aside0.mk (Kd.R_below HO257.out hb); replace HO261 := Aside0.mk (Kd.R_below HO261.out hb); replace HO265 := Aside0.mk (Kd.R_below HO265.out hb); have BK278 := Aside0.mk (hbox); have GW278 := Aside0.mk ((by rw [hg]; exact (below_size (by repeat (first | (with_reducible first | exact HB.out | apply below_alloc | apply pw_below_drewN | apply below_drew1 | refine below_set ?_ GE248.out | refine below_set ?_ GE249.out | refine below_set ?_ GE254.out | refine below_set ?_ GE258.out | refine below_set ?_ GE262.out | refine below_set ?_ GE266.out | refine below_set ?_ GE270.out | refine below_set ?_ GE274.out) | exact HB.out))) : w.heap.size ≤ gb278)); have GE278 := Aside0.mk ((by rw [hg]; exact (below_size (by repeat (first | (with_reducible first | exact HB.out | apply below_alloc | apply pw_below_drewN | apply below_drew1 | refine below_set ?_ GE248.out | refine below_set ?_ GE249.out | refine below_set ?_ GE254.out | refine below_set ?_ GE258.out | refine below_set ?_ GE262.out | refine below_set ?_ GE266.out | refine below_set ?_ GE270.out | refine below_set ?_ GE274.out) | exact HB.out))) : w.heap.size ≤ gb278)); replace HB := Aside0.mk (below_step (by repeat (first | (with_reducible first | exact HB.out | apply below_alloc | apply pw_below_drewN | apply below_drew1 | refine below_set ?_ GE248.out | refine below_set ?_ GE249.out | refine below_set ?_ GE254.out | refine below_set ?_ GE258.out | refine below_set ?_ GE262.out | refine below_set ?_ GE266.out | refine below_set ?_ GE270.out | refine below_set ?_ GE274.out) | exact HB.out)) hb); have NB248_278 := Aside0.mk ((by rw [hg]; exact Nat.ne_of_lt (blk_lt (g := gb248) (o := .cells #[.int .u64 a0_0, .int .u64 a0_1] 24 (0, 0)) BK248.out) : gb248 ≠ gb278)); have NB278_248 := Aside0.mk ((by rw [hg]; exact Nat.ne_of_gt (blk_lt (g := gb248) (o := .cells #[.int .u64 a0_0, .int .u64 a0_1] 24 (0, 0)) BK248.out) : gb278 ≠ gb248)); replace BK248 := Aside0.mk (blk_below BK248.out hb); have NB249_278 := Aside0.mk ((by rw [hg]; exact Nat.ne_of_lt (blk_lt (g := gb249) (o := .cells #[.int .u64 a1_0, .int .u64 a1_1] 24 (0, 0)) BK249.out) : gb249 ≠ gb278)); have NB278_249 := Aside0.mk ((by rw [hg]; exact Nat.ne_of_gt (blk_lt (g := gb249) (o := .cells #[.int .u64 a1_0, .int .u64 a1_1] 24 (0, 0)) BK249.out) : gb278 ≠ gb249)); replace BK249 := Aside0.mk (blk_below BK249.out hb); have NB254_278 := Aside0.mk ((by rw [hg]; exact Nat.ne_of_lt (blk_lt (g := gb254) (o := .cells #[.slice Ao36 t251.length co36] 28 (0, 0)) BK254.out) : gb254 ≠ gb278)); have NB278_254 := Aside0.mk ((by rw [hg]; exact Nat.ne_of_gt (blk_lt (g := gb254) (o := .cells #[.slice Ao36 t251.length co36] 28 (0, 0)) BK254.out) : gb278 ≠ gb254)); replace BK254 := Aside0.mk (blk_below BK254.out hb); have NB258_278 := Aside0.mk ((by rw [hg]; exact Nat.ne_of_lt (blk_lt (g := gb258) (o := .cells #[.slice Ao43 t255.length co43] 28 (0, 0)) BK258.out) : gb258 ≠ gb278)); have NB278_258 := Aside0.mk ((by rw [hg]; exact Nat.ne_of_gt (blk_lt (g := gb258) (o := .cells #[.slice Ao43 t255.length co43] 28 (0, 0)) BK258.out) : gb278 ≠ gb258)); replace BK258 := Aside0.mk (blk_below BK258.out hb); have NB262_278 := Aside0.mk ((by rw [hg]; exact Nat.ne_of_lt (blk_lt (g := gb262) (o := .cells #[.slice Ao50 t259.length co50] 28 (0, 0)) BK262.out) : gb262 ≠ gb278)); have NB278_262 := Aside0.mk ((by rw [hg]; exact Nat.ne_of_gt (blk_lt (g := gb262) (o := .cells #[.slice Ao50 t259.length co50] 28 (0, 0)) BK262.out) : gb278 ≠ gb262)); replace BK262 := Aside0.mk (blk_below BK262.out hb); have NB266_278 := Aside0.mk ((by rw [hg]; exact Nat.ne_of_lt (blk_lt (g := gb266) (o := .cells #[.slice Ao58 t263.length co58] 28 (0, 0)) BK266.out) : gb266 ≠ gb278)); have NB278_266 := Aside0.mk ((by rw [hg]; exact Nat.ne_of_gt (blk_lt (g := gb266) (o := .cells #[.slice Ao58 t263.length co58] 28 (0, 0)) BK266.out) : gb278 ≠ gb266)); replace BK266 := Aside0.mk (blk_below BK266.out hb); have NB270_278 := Aside0.mk ((by rw [hg]; exact Nat.ne_of_lt (blk_lt (g := gb270) (o := .cells #[.int .u64 t267, .int .u64 t268] 24 (0, 0)) BK270.out) : gb270 ≠ gb278)); have NB278_270 := Aside0.mk ((by rw [hg]; exact Nat.ne_of_gt (blk_lt (g := gb270) (o := .cells #[.int .u64 t267, .int .u64 t268] 24 (0, 0)) BK270.out) : gb278 ≠ gb270)); replace BK270 := Aside0.mk (blk_below BK270.out hb); have NB274_278 := Aside0.mk ((by rw [hg]; exact Nat.ne_of_lt (blk_lt (g := gb274) (o := .cells #[.int .u64 t271, .int .u64 t272] 24 (0, 0)) BK274.out) : gb274 ≠ gb278)); have NB278_274 := Aside0.mk ((by rw [hg]; exact Nat.ne_of_gt (blk_lt (g := gb274) (o := .cells #[.int .u64 t271, .int .u64 t272] 24 (0, 0)) BK274.out) : gb278 ≠ gb274)); replace BK274 := Aside0.mk (blk_below BK274.out hb); clear hb hbox hg; have hnb91 := NB278_248.out; have hnc91 := NB248_278.out; have hnb92 := NB278_249.out; have hnc92 := NB249_278.out; have hnb93 := NB278_254.out; have hnc93 := NB254_278.out; have hnb94 := NB278_258.out; have hnc94 := NB258_278.out; have hnb95 := NB278_262.out; have hnc95 := NB262_278.out; have hnb96 := NB278_266.out; have hnc96 := NB266_278.out; have hnb97 := NB278_270.out; have hnc97 := NB270_278.out; have hnb98 := NB278_274.out; have hnc98 := NB274_278.out; have hcz99_0 : w90.cell? ⟨gb278, 0, none⟩ = some (.int .u64 0) := (blk_cell BK278.out 0).trans rfl; have hcz99_1 : w90.cell? ⟨gb278, 1, none⟩ = some (.int .u64 0) := (blk_cell BK278.out 1).trans rfl; have hfz99_0 := blk_frozen BK278.out 0; have hfz99_1 := blk_frozen BK278.out 1; have hcz100_0 : w90.cell? ⟨gb254, 0, none⟩ = some (.slice Ao36 t251.length co36) := (blk_cell BK254.out 0).trans rfl; have hfz100_0 := blk_frozen BK254.out 0; have hcz101_0 : w90.cell? ⟨gb262, 0, none⟩ = some (.slice Ao50 t259.length co50) := (blk_cell BK262.out 0).trans rfl; have hfz101_0 := blk_frozen BK262.out 0) | ((with_reducible refine gate_callee (f := 11) rfl ?_); refine goesL_ (some 52) rfl rfl Try.func11 (by kernel_rfl) rfl #[.agg #[.slice Ao36 t251.length co36], .agg #[.slice Ao50 t259.length co50]] rfl (by (try simp only [List.map_toArray, List.map_cons, List.map_nil]); first | done | rfl) ?_; (with_reducible refine (demurrageref01_Prod.calls k _ _ t251 _ _ t259 t279 _ ?side1 ?side2 ?side3 ?side4 A12.out).mono ?_); (case side1 => refine (Kd.R_reads' (e := 3) (base := w.heap.size) (ok := fun k_ => (((True ∧ some k_ ≠ (.slice Ao43 t255.length co43 : Value).ownBlock) ∧ some k_ ≠ (.slice Ao50 t259.length co50 : Value).ownBlock) ∧ some k_ ≠ (.slice Ao58 t263.length co58 : Value).ownBlock)) (n := t251.length) (c := co36) ?_).2.2; exact (by (with_reducible repeat (first | apply Kd.R_alloc | apply Kd.R_drewN | apply Kd.R_drew)); exact (Kd.R_mono (Kd.R_far (p := ⟨gb278, 1, none⟩) (Kd.R_far (p := ⟨gb278, 0, none⟩) (Kd.R_types HO253.out BK278.out (by decide)) (fun _ hk => hk.2) (.int .u64 t275)) (fun _ hk => hk.2) (.int .u64 t276)) (fun _ h_ => h_.1)))); (case side2 => exact (Kd.R_reads' HO253.out).2.1); (case side3 => refine (Kd.R_reads' (e := 3) (base := w.heap.size) (ok := fun k_ => (((True ∧ some k_ ≠ (.slice Ao36 t251.length co36 : Value).ownBlock) ∧ some k_ ≠ (.slice Ao43 t255.length co43 : Value).ownBlock) ∧ some k_ ≠ (.slice Ao58 t263.length co58 : Value).ownBlock)) (n := t259.length) (c := co50) ?_).2.2; exact (by (with_reducible repeat (first | apply Kd.R_alloc | apply Kd.R_drewN | apply Kd.R_drew)); exact (Kd.R_mono (Kd.R_far (p := ⟨gb278, 1, none⟩) (Kd.R_far (p := ⟨gb278, 0, none⟩) (Kd.R_types HO261.out BK278.out (by decide)) (fun _ hk => hk.2) (.int .u64 t275)) (fun _ hk => hk.2) (.int .u64 t276)) (fun _ h_ => h_.1)))); (case side4 => exact (Kd.R_reads' HO261.out).2.1); rintro e w102 ⟨v280, rfl, ho0, hb⟩; refine ⟨_, rfl, ?_⟩; have HO281 := Aside0.mk (Kd.R_lower (Kd.R_new' (Kd.R_new' (Kd.R_new' (Kd.R_new' ho0 (Kd.R_lt (by (with_reducible repeat (first | apply Kd.R_alloc | apply Kd.R_drewN | apply Kd.R_drew)); exact (Kd.R_mono (Kd.R_far (p := ⟨gb278, 1, none⟩) (Kd.R_far (p := ⟨gb278, 0, none⟩) (Kd.R_types HO253.out BK278.out (by decide)) (fun _ hk => hk.2) (.int .u64 t275)) (fun _ hk => hk.2) (.int .u64 t276)) (fun _ h_ => h_.1))))) (Kd.R_lt (by (with_reducible repeat (first | apply Kd.R_alloc | apply Kd.R_drewN | apply Kd.R_drew)); exact (Kd.R_mono (Kd.R_far (p := ⟨gb278, 1, none⟩) (Kd.R_far (p := ⟨gb278, 0, none⟩) (Kd.R_types HO257.out BK278.out (by decide)) (fun _ hk => hk.2) (.int .u64 t275)) (fun _ hk => hk.2) (.int .u64 t276)) (fun _ h_ => h_.1))))) (Kd.R_lt (by (with_reducible repeat (first | apply Kd.R_alloc | apply Kd.R_drewN | apply Kd.R_drew)); exact (Kd.R_mono (Kd.R_far (p := ⟨gb278, 1, none⟩) (Kd.R_far (p := ⟨gb278, 0, none⟩) (Kd.R_types HO261.out BK278.out (by decide)) (fun _ hk => hk.2) (.int .u64 t275)) (fun _ hk => hk.2) (.int .u64 t276)) (fun _ h_ => h_.1))))) (Kd.R_lt (by (with_reducible repeat (first | apply Kd.R_alloc | apply Kd.R_drewN | apply Kd.R_drew)); exact (Kd.R_mono (Kd.R_far (p := ⟨gb278, 1, none⟩) (Kd.R_far (p := ⟨gb278, 0, none⟩) (Kd.R_types HO265.out BK278.out (by decide)) (fun _ hk => hk.2) (.int .u64 t275)) (fun _ hk => hk.2) (.int .u64 t276)) (fun _ h_ => h_.1))))) (below_size (by repeat (first | (with_reducible first | exact HB.out | apply below_alloc | apply pw_below_drewN | apply below_drew1 | refine below_set ?_ GE248.out | refine below_set ?_ GE249.out | refine below_set ?_ GE254.out | refine below_set ?_ GE258.out | refine below_set ?_ GE262.out | refine below_set ?_ GE266.out | refine below_set ?_ GE270.out | refine below_set ?_ GE274.out | refine below_set ?_ GE278.out) | exact HB.out)))); replace HO253 := Aside0.mk (Kd.R_elder' (by (with_reducible repeat (first | apply Kd.R_alloc | apply Kd.R_drewN | apply Kd.R_drew)); exact (Kd.R_mono (Kd.R_far (p := ⟨gb278, 1, none⟩) (Kd.R_far (p := ⟨gb278, 0, none⟩) (Kd.R_types HO253.out BK278.out (by decide)) (fun _ hk => hk.2) (.int .u64 t275)) (fun _ hk => hk.2) (.int .u64 t276)) (fun _ h_ => h_.1))) (Kd.R_base ho0) hb); replace HO257 := Aside0.mk (Kd.R_elder' (by (with_reducible repeat (first | apply Kd.R_alloc | apply Kd.R_drewN | apply Kd.R_drew)); exact (Kd.R_mono (Kd.R_far (p := ⟨gb278, 1, none⟩) (Kd.R_far (p := ⟨gb278, 0, none⟩) (Kd.R_types HO257.out BK278.out (by decide)) (fun _ hk => hk.2) (.int .u64 t275)) (fun _ hk => hk.2) (.int .u64 t276)) (fun _ h_ => h_.1))) (Kd.R_base ho0) hb); replace HO261 := Aside0.mk (Kd.R_elder' (by (with_reducible repeat (first | apply Kd.R_alloc | apply Kd.R_drewN | apply Kd.R_drew)); exact (Kd.R_mono (Kd.R_far (p := ⟨gb278, 1, none⟩) (Kd.R_far (p := ⟨gb278, 0, none⟩) (Kd.R_types HO261.out BK278.out (by decide)) (fun _ hk => hk.2) (.int .u64 t275)) (fun _ hk => hk.2) (.int .u64 t276)) (fun _ h_ => h_.1))) (Kd.R_base ho0) hb); replace HO265 := Aside0.mk (Kd.R_elder' (by (with_reducible repeat (first | apply Kd.R_alloc | apply Kd.R_drewN | apply Kd.R_drew)); exact (Kd.R_mono (Kd.R_far (p := ⟨gb278, 1, none⟩) (Kd.R_far (p := ⟨gb278, 0, none⟩) (Kd.R_types HO265.out BK278.out (by decide)) (fun _ hk => hk.2) (.int .u64 t275)) (fun _ hk => hk.2) (.int .u64 t276)) (fun _ h_ => h_.1))) (Kd.R_base ho0) hb); replace BK248 := Aside0.mk (blk_below (g := gb248) (o := .cells #[.int .u64 a0_0, .int .u64 a0_1] 24 (0, 0)) (by refine blk_far ?_ NB248_278.out _; refine blk_far ?_ NB248_278.out _; exact BK248.out) hb); replace BK249 := Aside0.mk (blk_below (g := gb249) (o := .cells #[.int .u64 a1_0, .int .u64 a1_1] 24 (0, 0)) (by refine blk_far ?_ NB249_278.out _; refine blk_far ?_ NB249_278.out _; exact BK249.out) hb); replace BK254 := Aside0.mk (blk_below (g := gb254) (o := .cells #[.slice Ao36 t251.length co36] 28 (0, 0)) (by refine blk_far ?_ NB254_278.out _; refine blk_far ?_ NB254_278.out _; exact BK254.out) hb); replace BK258 := Aside0.mk (blk_below (g := gb258) (o := .cells #[.slice Ao43 t255.length co43] 28 (0, 0)) (by refine blk_far ?_ NB258_278.out _; refine blk_far ?_ NB258_278.out _; exact BK258.out) hb); replace BK262 := Aside0.mk (blk_below (g := gb262) (o := .cells #[.slice Ao50 t259.length co50] 28 (0, 0)) (by refine blk_far ?_ NB262_278.out _; refine blk_far ?_ NB262_278.out _; exact BK262.out) hb); replace BK266 := Aside0.mk (blk_below (g := gb266) (o := .cells #[.slice Ao58 t263.length co58] 28 (0, 0)) (by refine blk_far ?_ NB266_278.out _; refine blk_far ?_ NB266_278.out _; exact BK266.out) hb); replace BK270 := Aside0.mk (blk_below (g := gb270) (o := .cells #[.int .u64 t267, .int .u64 t268] 24 (0, 0)) (by refine blk_far ?_ NB270_278.out _; refine blk_far ?_ NB270_278.out _; exact BK270.out) hb); replace BK274 := Aside0.mk (blk_below (g := gb274) (o := .cells #[.int .u64 t271, .int .u64 t272] 24 (0, 0)) (by refine blk_far ?_ NB274_278.out _; refine blk_far ?_ NB274_278.out _; exact BK274.out) hb); replace BK278 := Aside0.mk (blk_below (g := gb278) (o := .cells #[.int .u64 t275, .int .u64 t276] 24 (0, 0)) (by refine blk_put (cs := #[.int .u64 t275, .int .u64 0]) ?_ 1 _ rfl; refine blk_put (cs := #[.int .u64 0, .int .u64 0]) ?_ 0 _ rfl; exact BK278.out) hb); replace HB := Aside0.mk (below_step (by repeat (first | (with_reducible first | exact HB.out | apply below_alloc | apply pw_below_drewN | apply below_drew1 | refine below_set ?_ GE248.out | refine below_set ?_ GE249.out | refine below_set ?_ GE254.out | refine below_set ?_ GE258.out | refine below_set ?_ GE262.out | refine below_set ?_ GE266.out | refine below_set ?_ GE270.out | refine below_set ?_ GE274.out | refine below_set ?_ GE278.out) | exact HB.out)) hb); (try clear hb); (try clear ho0)) | ((with_reducible refine gate_dst (N := 18) rfl ?_); refine box_event ?hg (N := 18) ?hd (cs := #[.slice none 0 0]) (t := 28) ?hr ?_; (case hd => rfl); (case hg => rfl); (case hr => first | (go_simp; done) | (go_simp; rfl)); intro gb282 hg w103 hbox hb; replace HO253 := Aside0.mk (Kd.R_below HO253.out hb); replace HO257 := Aside0.mk (Kd.R_below HO257.out hb); replace HO261 := Aside0.mk (Kd.R_below HO261.out hb); replace HO265 := Aside0.mk (Kd.R_below HO265.out hb); replace HO281 := Aside0.mk (Kd.R_below HO281.out hb); have BK282 := Aside0.mk (hbox); have GW282 := Aside0.mk ((by rw [hg]; exact (below_size (by repeat (first | (with_reducible first | exact HB.out | apply below_alloc | apply pw_below_drewN | apply below_drew1 | refine below_set ?_ GE248.out | refine below_set ?_ GE249.out | refine below_set ?_ GE254.out | refine below_set ?_ GE258.out | refine below_set ?_ GE262.out | refine below_set ?_ GE266.out | refine below_set ?_ GE270.out | refine below_set ?_ GE274.out | refine below_set ?_ GE278.out) | exact HB.out))) : w.heap.size ≤ gb282)); have GE282 := Aside0.mk ((by rw [hg]; exact (below_size (by repeat (first | (with_reducible first | exact HB.out | apply below_alloc | apply pw_below_drewN | apply below_drew1 | refine below_set ?_ GE248.out | refine below_set ?_ GE249.out | refine below_set ?_ GE254.out | refine below_set ?_ GE258.out | refine below_set ?_ GE262.out | refine below_set ?_ GE266.out | refine below_set ?_ GE270.out | refine below_set ?_ GE274.out | refine below_set ?_ GE278.out) | exact HB.out))) : w.heap.size ≤ gb282)); replace HB := Aside0.mk (below_step (by repeat (first | (with_reducible first | exact HB.out | apply below_alloc | apply pw_below_drewN | apply below_drew1 | refine below_set ?_ GE248.out | refine below_set ?_ GE249.out | refine below_set ?_ GE254.out | refine below_set ?_ GE258.out | refine below_set ?_ GE262.out | refine below_set ?_ GE266.out | refine below_set ?_ GE270.out | refine below_set ?_ GE274.out | refine below_set ?_ GE278.out) | exact HB.out)) hb); have NB248_282 := Aside0.mk ((by rw [hg]; exact Nat.ne_of_lt (blk_lt (g := gb248) (o := .cells #[.int .u64 a0_0, .int .u64 a0_1] 24 (0, 0)) BK248.out) : gb248 ≠ gb282)); have NB282_248 := Aside0.mk ((by rw [hg]; exact Nat.ne_of_gt (blk_lt (g := gb248) (o := .cells #[.int .u64 a0_0, .int .u64 a0_1] 24 (0, 0)) BK248.out) : gb282 ≠ gb248)); replace BK248 := Aside0.mk (blk_below BK248.out hb); have NB249_282 := Aside0.mk ((by rw [hg]; exact Nat.ne_of_lt (blk_lt (g := gb249) (o := .cells #[.int .u64 a1_0, .int .u64 a1_1] 24 (0, 0)) BK249.out) : gb249 ≠ gb282)); have NB282_249 := Aside0.mk ((by rw [hg]; exact Nat.ne_of_gt (blk_lt (g := gb249) (o := .cells #[.int .u64 a1_0, .int .u64 a1_1] 24 (0, 0)) BK249.out) : gb282 ≠ gb249)); replace BK249 := Aside0.mk (blk_below BK249.out hb); have NB254_282 := Aside0.mk ((by rw [hg]; exact Nat.ne_of_lt (blk_lt (g := gb254) (o := .cells #[.slice Ao36 t251.length co36] 28 (0, 0)) BK254.out) : gb254 ≠ gb282)); have NB282_254 := Aside0.mk ((by rw [hg]; exact Nat.ne_of_gt (blk_lt (g := gb254) (o := .cells #[.slice Ao36 t251.length co36] 28 (0, 0)) BK254.out) : gb282 ≠ gb254)); replace BK254 := Aside0.mk (blk_below BK254.out hb); have NB258_282 := Aside0.mk ((by rw [hg]; exact Nat.ne_of_lt (blk_lt (g := gb258) (o := .cells #[.slice Ao43 t255.length co43] 28 (0, 0)) BK258.out) : gb258 ≠ gb282)); have NB282_258 := Aside0.mk ((by rw [hg]; exact Nat.ne_of_gt (blk_lt (g := gb258) (o := .cells #[.slice Ao43 t255.length co43] 28 (0, 0)) BK258.out) : gb282 ≠ gb258)); replace BK258 := Aside0.mk (blk_below BK258.out hb); have NB262_282 := Aside0.mk ((by rw [hg]; exact Nat.ne_of_lt (blk_lt (g := gb262) (o := .cells #[.slice Ao50 t259.length co50] 28 (0, 0)) BK262.out) : gb262 ≠ gb282)); have NB282_262 := Aside0.mk ((by rw [hg]; exact Nat.ne_of_gt (blk_lt (g := gb262) (o := .cells #[.slice Ao50 t259.length co50] 28 (0, 0)) BK262.out) : gb282 ≠ gb262)); replace BK262 := Aside0.mk (blk_below BK262.out hb); have NB266_282 := Aside0.mk ((by rw [hg]; exact Nat.ne_of_lt (blk_lt (g := gb266) (o := .cells #[.slice Ao58 t263.length co58] 28 (0, 0)) BK266.out) : gb266 ≠ gb282)); have NB282_266 := Aside0.mk ((by rw [hg]; exact Nat.ne_of_gt (blk_lt (g := gb266) (o := .cells #[.slice Ao58 t263.length co58] 28 (0, 0)) BK266.out) : gb282 ≠ gb266)); replace BK266 := Aside0.mk (blk_below BK266.out hb); have NB270_282 := Aside0.mk ((by rw [hg]; exact Nat.ne_of_lt (blk_lt (g := gb270) (o := .cells #[.int .u64 t267, .int .u64 t268] 24 (0, 0)) BK270.out) : gb270 ≠ gb282)); have NB282_270 := Aside0.mk ((by rw [hg]; exact Nat.ne_of_gt (blk_lt (g := gb270) (o := .cells #[.int .u64 t267, .int .u64 t268] 24 (0, 0)) BK270.out) : gb282 ≠ gb270)); replace BK270 := Aside0.mk (blk_below BK270.out hb); have NB274_282 := Aside0.mk ((by rw [hg]; exact Nat.ne_of_lt (blk_lt (g := gb274) (o := .cells #[.int .u64 t271, .int .u64 t272] 24 (0, 0)) BK274.out) : gb274 ≠ gb282)); have NB282_274 := Aside0.mk ((by rw [hg]; exact Nat.ne_of_gt (blk_lt (g := gb274) (o := .cells #[.int .u64 t271, .int .u64 t272] 24 (0, 0)) BK274.out) : gb282 ≠ gb274)); replace BK274 := Aside0.mk (blk_below BK274.out hb); have NB278_282 := Aside0.mk ((by rw [hg]; exact Nat.ne_of_lt (blk_lt (g := gb278) (o := .cells #[.int .u64 t275, .int .u64 t276] 24 (0, 0)) BK278.out) : gb278 ≠ gb282)); have NB282_278 := Aside0.mk ((by rw [hg]; exact Nat.ne_of_gt (blk_lt (g := gb278) (o := .cells #[.int .u64 t275, .int .u64 t276] 24 (0, 0)) BK278.out) : gb282 ≠ gb278)); replace BK278 := Aside0.mk (blk_below BK278.out hb); clear hb hbox hg; obtain ⟨Ao104, co104, eo104⟩ := Kd.R_slice HO281.out; subst eo104; have hnb105 := NB282_248.out; have hnc105 := NB248_282.out; have hnb106 := NB282_249.out; have hnc106 := NB249_282.out; have hnb107 := NB282_254.out; have hnc107 := NB254_282.out; have hnb108 := NB282_258.out; have hnc108 := NB258_282.out; have hnb109 := NB282_262.out; have hnc109 := NB262_282.out; have hnb110 := NB282_266.out; have hnc110 := NB266_282.out; have hnb111 := NB282_270.out; have hnc111 := NB270_282.out; have hnb112 := NB282_274.out; have hnc112 := NB274_282.out; have hnb113 := NB282_278.out; have hnc113 := NB278_282.out; have hcz114_0 : w103.cell? ⟨gb282, 0, none⟩ = some (.slice none 0 0) := (blk_cell BK282.out 0).trans rfl; have hfz114_0 := blk_frozen BK282.out 0; have hcz115_0 : w103.cell? ⟨gb254, 0, none⟩ = some (.slice Ao36 t251.length co36) := (blk_cell BK254.out 0).trans rfl; have hfz115_0 := blk_frozen BK254.out 0; have hcz116_0 : w103.cell? ⟨gb258, 0, none⟩ = some (.slice Ao43 t255.length co43) := (blk_cell BK258.out 0).trans rfl; have hfz116_0 := blk_frozen BK258.out 0) | ((with_reducible refine gate_callee (f := 12) rfl ?_); refine goesL_ (some 55) rfl rfl Try.func12 (by kernel_rfl) rfl #[.agg #[.slice Ao36 t251.length co36], .agg #[.slice Ao43 t255.length co43]] rfl (by (try simp only [List.map_toArray, List.map_cons, List.map_nil]); first | done | rfl) ?_; (with_reducible refine (demurrageref01_Plus.calls k _ _ t251 _ _ t255 t283 _ ?side1 ?side2 ?side3 ?side4 A13.out).mono ?_); (case side1 => refine (Kd.R_reads' (e := 3) (base := w.heap.size) (ok := fun k_ => ((((True ∧ some k_ ≠ (.slice Ao43 t255.length co43 : Value).ownBlock) ∧ some k_ ≠ (.slice Ao50 t259.length co50 : Value).ownBlock) ∧ some k_ ≠ (.slice Ao58 t263.length co58 : Value).ownBlock) ∧ some k_ ≠ (.slice Ao104 t279.length co104 : Value).ownBlock)) (n := t251.length) (c := co36) ?_).2.2; exact (by (with_reducible repeat (first | apply Kd.R_alloc | apply Kd.R_drewN | apply Kd.R_drew)); exact (Kd.R_mono (Kd.R_far (p := ⟨gb282, 0, none⟩) (Kd.R_types HO253.out BK282.out (by decide)) (fun _ hk => hk.2) (.slice Ao104 t279.length co104)) (fun _ h_ => h_.1)))); (case side2 => exact (Kd.R_reads' HO253.out).2.1); (case side3 => refine (Kd.R_reads' (e := 3) (base := w.heap.size) (ok := fun k_ => ((((True ∧ some k_ ≠ (.slice Ao36 t251.length co36 : Value).ownBlock) ∧ some k_ ≠ (.slice Ao50 t259.length co50 : Value).ownBlock) ∧ some k_ ≠ (.slice Ao58 t263.length co58 : Value).ownBlock) ∧ some k_ ≠ (.slice Ao104 t279.length co104 : Value).ownBlock)) (n := t255.length) (c := co43) ?_).2.2; exact (by (with_reducible repeat (first | apply Kd.R_alloc | apply Kd.R_drewN | apply Kd.R_drew)); exact (Kd.R_mono (Kd.R_far (p := ⟨gb282, 0, none⟩) (Kd.R_types HO257.out BK282.out (by decide)) (fun _ hk => hk.2) (.slice Ao104 t279.length co104)) (fun _ h_ => h_.1)))); (case side4 => exact (Kd.R_reads' HO257.out).2.1); rintro e w117 ⟨v284, rfl, ho0, hb⟩; refine ⟨_, rfl, ?_⟩; have HO285 := Aside0.mk (Kd.R_lower (Kd.R_new' (Kd.R_new' (Kd.R_new' (Kd.R_new' (Kd.R_new' ho0 (Kd.R_lt (by (with_reducible repeat (first | apply Kd.R_alloc | apply Kd.R_drewN | apply Kd.R_drew)); exact (Kd.R_mono (Kd.R_far (p := ⟨gb282, 0, none⟩) (Kd.R_types HO253.out BK282.out (by decide)) (fun _ hk => hk.2) (.slice Ao104 t279.length co104)) (fun _ h_ => h_.1))))) (Kd.R_lt (by (with_reducible repeat (first | apply Kd.R_alloc | apply Kd.R_drewN | apply Kd.R_drew)); exact (Kd.R_mono (Kd.R_far (p := ⟨gb282, 0, none⟩) (Kd.R_types HO257.out BK282.out (by decide)) (fun _ hk => hk.2) (.slice Ao104 t279.length co104)) (fun _ h_ => h_.1))))) (Kd.R_lt (by (with_reducible repeat (first | apply Kd.R_alloc | apply Kd.R_drewN | apply Kd.R_drew)); exact (Kd.R_mono (Kd.R_far (p := ⟨gb282, 0, none⟩) (Kd.R_types HO261.out BK282.out (by decide)) (fun _ hk => hk.2) (.slice Ao104 t279.length co104)) (fun _ h_ => h_.1))))) (Kd.R_lt (by (with_reducible repeat (first | apply Kd.R_alloc | apply Kd.R_drewN | apply Kd.R_drew)); exact (Kd.R_mono (Kd.R_far (p := ⟨gb282, 0, none⟩) (Kd.R_types HO265.out BK282.out (by decide)) (fun _ hk => hk.2) (.slice Ao104 t279.length co104)) (fun _ h_ => h_.1))))) (Kd.R_lt (by (with_reducible repeat (first | apply Kd.R_alloc | apply Kd.R_drewN | apply Kd.R_drew)); exact (Kd.R_mono (Kd.R_far (p := ⟨gb282, 0, none⟩) (Kd.R_types HO281.out BK282.out (by decide)) (fun _ hk => hk.2) (.slice Ao104 t279.length co104)) (fun _ h_ => h_.1))))) (below_size (by repeat (first | (with_reducible first | exact HB.out | apply below_alloc | apply pw_below_drewN | apply below_drew1 | refine below_set ?_ GE248.out | refine below_set ?_ GE249.out | refine below_set ?_ GE254.out | refine below_set ?_ GE258.out | refine below_set ?_ GE262.out | refine below_set ?_ GE266.out | refine below_set ?_ GE270.out | refine below_set ?_ GE274.out | refine below_set ?_ GE278.out | refine below_set ?_ GE282.out) | exact HB.out)))); replace HO253 := Aside0.mk (Kd.R_elder' (by (with_reducible repeat (first | apply Kd.R_alloc | apply Kd.R_drewN | apply Kd.R_drew)); exact (Kd.R_mono (Kd.R_far (p := ⟨gb282, 0, none⟩) (Kd.R_types HO253.out BK282.out (by decide)) (fun _ hk => hk.2) (.slice Ao104 t279.length co104)) (fun _ h_ => h_.1))) (Kd.R_base ho0) hb); replace HO257 := Aside0.mk (Kd.R_elder' (by (with_reducible repeat (first | apply Kd.R_alloc | apply Kd.R_drewN | apply Kd.R_drew)); exact (Kd.R_mono (Kd.R_far (p := ⟨gb282, 0, none⟩) (Kd.R_types HO257.out BK282.out (by decide)) (fun _ hk => hk.2) (.slice Ao104 t279.length co104)) (fun _ h_ => h_.1))) (Kd.R_base ho0) hb); replace HO261 := Aside0.mk (Kd.R_elder' (by (with_reducible repeat (first | apply Kd.R_alloc | apply Kd.R_drewN | apply Kd.R_drew)); exact (Kd.R_mono (Kd.R_far (p := ⟨gb282, 0, none⟩) (Kd.R_types HO261.out BK282.out (by decide)) (fun _ hk => hk.2) (.slice Ao104 t279.length co104)) (fun _ h_ => h_.1))) (Kd.R_base ho0) hb); replace HO265 := Aside0.mk (Kd.R_elder' (by (with_reducible repeat (first | apply Kd.R_alloc | apply Kd.R_drewN | apply Kd.R_drew)); exact (Kd.R_mono (Kd.R_far (p := ⟨gb282, 0, none⟩) (Kd.R_types HO265.out BK282.out (by decide)) (fun _ hk => hk.2) (.slice Ao104 t279.length co104)) (fun _ h_ => h_.1))) (Kd.R_base ho0) hb); replace HO281 := Aside0.mk (Kd.R_elder' (by (with_reducible repeat (first | apply Kd.R_alloc | apply Kd.R_drewN | apply Kd.R_drew)); exact (Kd.R_mono (Kd.R_far (p := ⟨gb282, 0, none⟩) (Kd.R_types HO281.out BK282.out (by decide)) (fun _ hk => hk.2) (.slice Ao104 t279.length co104)) (fun _ h_ => h_.1))) (Kd.R_base ho0) hb); replace BK248 := Aside0.mk (blk_below (g := gb248) (o := .cells #[.int .u64 a0_0, .int .u64 a0_1] 24 (0, 0)) (by refine blk_far ?_ NB248_282.out _; exact BK248.out) hb); replace BK249 := Aside0.mk (blk_below (g := gb249) (o := .cells #[.int .u64 a1_0, .int .u64 a1_1] 24 (0, 0)) (by refine blk_far ?_ NB249_282.out _; exact BK249.out) hb); replace BK254 := Aside0.mk (blk_below (g := gb254) (o := .cells #[.slice Ao36 t251.length co36] 28 (0, 0)) (by refine blk_far ?_ NB254_282.out _; exact BK254.out) hb); replace BK258 := Aside0.mk (blk_below (g := gb258) (o := .cells #[.slice Ao43 t255.length co43] 28 (0, 0)) (by refine blk_far ?_ NB258_282.out _; exact BK258.out) hb); replace BK262 := Aside0.mk (blk_below (g := gb262) (o := .cells #[.slice Ao50 t259.length co50] 28 (0, 0)) (by refine blk_far ?_ NB262_282.out _; exact BK262.out) hb); replace BK266 := Aside0.mk (blk_below (g := gb266) (o := .cells #[.slice Ao58 t263.length co58] 28 (0, 0)) (by refine blk_far ?_ NB266_282.out _; exact BK266.out) hb); replace BK270 := Aside0.mk (blk_below (g := gb270) (o := .cells #[.int .u64 t267, .int .u64 t268] 24 (0, 0)) (by refine blk_far ?_ NB270_282.out _; exact BK270.out) hb); replace BK274 := Aside0.mk (blk_below (g := gb274) (o := .cells #[.int .u64 t271, .int .u64 t272] 24 (0, 0)) (by refine blk_far ?_ NB274_282.out _; exact BK274.out) hb); replace BK278 := Aside0.mk (blk_below (g := gb278) (o := .cells #[.int .u64 t275, .int .u64 t276] 24 (0, 0)) (by refine blk_far ?_ NB278_282.out _; exact BK278.out) hb); replace BK282 := Aside0.mk (blk_below (g := gb282) (o := .cells #[.slice Ao104 t279.length co104] 28 (0, 0)) (by refine blk_put (cs := #[.slice none 0 0]) ?_ 0 _ rfl; exact BK282.out) hb); replace HB := Aside0.mk (below_step (by repeat (first | (with_reducible first | exact HB.out | apply below_alloc | apply pw_below_drewN | apply below_drew1 | refine below_set ?_ GE248.out | refine below_set ?_ GE249.out | refine below_set ?_ GE254.out | refine below_set ?_ GE258.out | refine below_set ?_ GE262.out | refine below_set ?_ GE266.out | refine below_set ?_ GE270.out | refine below_set ?_ GE274.out | refine below_set ?_ GE278.out | refine below_set ?_ GE282.out) | exact HB.out)) hb); (try clear hb); (try clear ho0)) | ((with_reducible refine gate_dst (N := 19) rfl ?_); refine box_event ?hg (N := 19) ?hd (cs := #[.slice none 0 0]) (t := 28) ?hr ?_; (case hd => rfl); (case hg => rfl); (case hr => first | (go_simp; done) | (go_simp; rfl)); intro gb286 hg w118 hbox hb; replace HO253 := Aside0.mk (Kd.R_below HO253.out hb); replace HO257 := Aside0.mk (Kd.R_below HO257.out hb); replace HO261 := Aside0.mk (Kd.R_below HO261.out hb); replace HO265 := Aside0.mk (Kd.R_below HO265.out hb); replace HO281 := Aside0.mk (Kd.R_below HO281.out hb); replace HO285 := Aside0.mk (Kd.R_below HO285.out hb); have BK286 := Aside0.mk (hbox); have GW286 := Aside0.mk ((by rw [hg]; exact (below_size (by repeat (first | (with_reducible first | exact HB.out | apply below_alloc | apply pw_below_drewN | apply below_drew1 | refine below_set ?_ GE248.out | refine below_set ?_ GE249.out | refine below_set ?_ GE254.out | refine below_set ?_ GE258.out | refine below_set ?_ GE262.out | refine below_set ?_ GE266.out | refine below_set ?_ GE270.out | refine below_set ?_ GE274.out | refine below_set ?_ GE278.out | refine below_set ?_ GE282.out) | exact HB.out))) : w.heap.size ≤ gb286)); have GE286 := Aside0.mk ((by rw [hg]; exact (below_size (by repeat (first | (with_reducible first | exact HB.out | apply below_alloc | apply pw_below_drewN | apply below_drew1 | refine below_set ?_ GE248.out | refine below_set ?_ GE249.out | refine below_set ?_ GE254.out | refine below_set ?_ GE258.out | refine below_set ?_ GE262.out | refine below_set ?_ GE266.out | refine below_set ?_ GE270.out | refine below_set ?_ GE274.out | refine below_set ?_ GE278.out | refine below_set ?_ GE282.out) | exact HB.out))) : w.heap.size ≤ gb286)); replace HB := Aside0.mk (below_step (by repeat (first | (with_reducible first | exact HB.out | apply below_alloc | apply pw_below_drewN | apply below_drew1 | refine below_set ?_ GE248.out | refine below_set ?_ GE249.out | refine below_set ?_ GE254.out | refine below_set ?_ GE258.out | refine below_set ?_ GE262.out | refine below_set ?_ GE266.out | refine below_set ?_ GE270.out | refine below_set ?_ GE274.out | refine below_set ?_ GE278.out | refine below_set ?_ GE282.out) | exact HB.out)) hb); have NB248_286 := Aside0.mk ((by rw [hg]; exact Nat.ne_of_lt (blk_lt (g := gb248) (o := .cells #[.int .u64 a0_0, .int .u64 a0_1] 24 (0, 0)) BK248.out) : gb248 ≠ gb286)); have NB286_248 := Aside0.mk ((by rw [hg]; exact Nat.ne_of_gt (blk_lt (g := gb248) (o := .cells #[.int .u64 a0_0, .int .u64 a0_1] 24 (0, 0)) BK248.out) : gb286 ≠ gb248)); replace BK248 := Aside0.mk (blk_below BK248.out hb); have NB249_286 := Aside0.mk ((by rw [hg]; exact Nat.ne_of_lt (blk_lt (g := gb249) (o := .cells #[.int .u64 a1_0, .int .u64 a1_1] 24 (0, 0)) BK249.out) : gb249 ≠ gb286)); have NB286_249 := Aside0.mk ((by rw [hg]; exact Nat.ne_of_gt (blk_lt (g := gb249) (o := .cells #[.int .u64 a1_0, .int .u64 a1_1] 24 (0, 0)) BK249.out) : gb286 ≠ gb249)); replace BK249 := Aside0.mk (blk_below BK249.out hb); have NB254_286 := Aside0.mk ((by rw [hg]; exact Nat.ne_of_lt (blk_lt (g := gb254) (o := .cells #[.slice Ao36 t251.length co36] 28 (0, 0)) BK254.out) : gb254 ≠ gb286)); have NB286_254 := Aside0.mk ((by rw [hg]; exact Nat.ne_of_gt (blk_lt (g := gb254) (o := .cells #[.slice Ao36 t251.length co36] 28 (0, 0)) BK254.out) : gb286 ≠ gb254)); replace BK254 := Aside0.mk (blk_below BK254.out hb); have NB258_286 := Aside0.mk ((by rw [hg]; exact Nat.ne_of_lt (blk_lt (g := gb258) (o := .cells #[.slice Ao43 t255.length co43] 28 (0, 0)) BK258.out) : gb258 ≠ gb286)); have NB286_258 := Aside0.mk ((by rw [hg]; exact Nat.ne_of_gt (blk_lt (g := gb258) (o := .cells #[.slice Ao43 t255.length co43] 28 (0, 0)) BK258.out) : gb286 ≠ gb258)); replace BK258 := Aside0.mk (blk_below BK258.out hb); have NB262_286 := Aside0.mk ((by rw [hg]; exact Nat.ne_of_lt (blk_lt (g := gb262) (o := .cells #[.slice Ao50 t259.length co50] 28 (0, 0)) BK262.out) : gb262 ≠ gb286)); have NB286_262 := Aside0.mk ((by rw [hg]; exact Nat.ne_of_gt (blk_lt (g := gb262) (o := .cells #[.slice Ao50 t259.length co50] 28 (0, 0)) BK262.out) : gb286 ≠ gb262)); replace BK262 := Aside0.mk (blk_below BK262.out hb); have NB266_286 := Aside0.mk ((by rw [hg]; exact Nat.ne_of_lt (blk_lt (g := gb266) (o := .cells #[.slice Ao58 t263.length co58] 28 (0, 0)) BK266.out) : gb266 ≠ gb286)); have NB286_266 := Aside0.mk ((by rw [hg]; exact Nat.ne_of_gt (blk_lt (g := gb266) (o := .cells #[.slice Ao58 t263.length co58] 28 (0, 0)) BK266.out) : gb286 ≠ gb266)); replace BK266 := Aside0.mk (blk_below BK266.out hb); have NB270_286 := Aside0.mk ((by rw [hg]; exact Nat.ne_of_lt (blk_lt (g := gb270) (o := .cells #[.int .u64 t267, .int .u64 t268] 24 (0, 0)) BK270.out) : gb270 ≠ gb286)); have NB286_270 := Aside0.mk ((by rw [hg]; exact Nat.ne_of_gt (blk_lt (g := gb270) (o := .cells #[.int .u64 t267, .int .u64 t268] 24 (0, 0)) BK270.out) : gb286 ≠ gb270)); replace BK270 := Aside0.mk (blk_below BK270.out hb); have NB274_286 := Aside0.mk ((by rw [hg]; exact Nat.ne_of_lt (blk_lt (g := gb274) (o := .cells #[.int .u64 t271, .int .u64 t272] 24 (0, 0)) BK274.out) : gb274 ≠ gb286)); have NB286_274 := Aside0.mk ((by rw [hg]; exact Nat.ne_of_gt (blk_lt (g := gb274) (o := .cells #[.int .u64 t271, .int .u64 t272] 24 (0, 0)) BK274.out) : gb286 ≠ gb274)); replace BK274 := Aside0.mk (blk_below BK274.out hb); have NB278_286 := Aside0.mk ((by rw [hg]; exact Nat.ne_of_lt (blk_lt (g := gb278) (o := .cells #[.int .u64 t275, .int .u64 t276] 24 (0, 0)) BK278.out) : gb278 ≠ gb286)); have NB286_278 := Aside0.mk ((by rw [hg]; exact Nat.ne_of_gt (blk_lt (g := gb278) (o := .cells #[.int .u64 t275, .int .u64 t276] 24 (0, 0)) BK278.out) : gb286 ≠ gb278)); replace BK278 := Aside0.mk (blk_below BK278.out hb); have NB282_286 := Aside0.mk ((by rw [hg]; exact Nat.ne_of_lt (blk_lt (g := gb282) (o := .cells #[.slice Ao104 t279.length co104] 28 (0, 0)) BK282.out) : gb282 ≠ gb286)); have NB286_282 := Aside0.mk ((by rw [hg]; exact Nat.ne_of_gt (blk_lt (g := gb282) (o := .cells #[.slice Ao104 t279.length co104] 28 (0, 0)) BK282.out) : gb286 ≠ gb282)); replace BK282 := Aside0.mk (blk_below BK282.out hb); clear hb hbox hg; obtain ⟨Ao119, co119, eo119⟩ := Kd.R_slice HO285.out; subst eo119; have hnb120 := NB286_248.out; have hnc120 := NB248_286.out; have hnb121 := NB286_249.out; have hnc121 := NB249_286.out; have hnb122 := NB286_254.out; have hnc122 := NB254_286.out; have hnb123 := NB286_258.out; have hnc123 := NB258_286.out; have hnb124 := NB286_262.out; have hnc124 := NB262_286.out; have hnb125 := NB286_266.out; have hnc125 := NB266_286.out; have hnb126 := NB286_270.out; have hnc126 := NB270_286.out; have hnb127 := NB286_274.out; have hnc127 := NB274_286.out; have hnb128 := NB286_278.out; have hnc128 := NB278_286.out; have hnb129 := NB286_282.out; have hnc129 := NB282_286.out; have hcz130_0 : w118.cell? ⟨gb286, 0, none⟩ = some (.slice none 0 0) := (blk_cell BK286.out 0).trans rfl; have hfz130_0 := blk_frozen BK286.out 0; have hcz131_0 : w118.cell? ⟨gb282, 0, none⟩ = some (.slice Ao104 t279.length co104) := (blk_cell BK282.out 0).trans rfl; have hfz131_0 := blk_frozen BK282.out 0; have hcz132_0 : w118.cell? ⟨gb266, 0, none⟩ = some (.slice Ao58 t263.length co58) := (blk_cell BK266.out 0).trans rfl; have hfz132_0 := blk_frozen BK266.out 0) | ((with_reducible refine gate_callee (f := 13) rfl ?_); refine goesL_ (some 58) rfl rfl Try.func13 (by kernel_rfl) rfl #[.agg #[.slice Ao104 t279.length co104], .agg #[.slice Ao58 t263.length co58]] rfl (by (try simp only [List.map_toArray, List.map_cons, List.map_nil]); first | done | rfl) ?_; (with_reducible refine (demurrageref01_Cmp.calls k _ _ t279 _ _ t263 t287 _ ?side1 ?side2 ?side3 ?side4 A14.out).mono ?_); (case side1 => refine (Kd.R_reads' (e := 3) (base := w.heap.size) (ok := fun k_ => (((((True ∧ some k_ ≠ (.slice Ao36 t251.length co36 : Value).ownBlock) ∧ some k_ ≠ (.slice Ao43 t255.length co43 : Value).ownBlock) ∧ some k_ ≠ (.slice Ao50 t259.length co50 : Value).ownBlock) ∧ some k_ ≠ (.slice Ao58 t263.length co58 : Value).ownBlock) ∧ some k_ ≠ (.slice Ao119 t283.length co119 : Value).ownBlock)) (n := t279.length) (c := co104) ?_).2.2; exact (by (with_reducible repeat (first | apply Kd.R_alloc | apply Kd.R_drewN | apply Kd.R_drew)); exact (Kd.R_mono (Kd.R_far (p := ⟨gb286, 0, none⟩) (Kd.R_types HO281.out BK286.out (by decide)) (fun _ hk => hk.2) (.slice Ao119 t283.length co119)) (fun _ h_ => h_.1)))); (case side2 => exact (Kd.R_reads' HO281.out).2.1); (case side3 => refine (Kd.R_reads' (e := 3) (base := w.heap.size) (ok := fun k_ => (((((True ∧ some k_ ≠ (.slice Ao36 t251.length co36 : Value).ownBlock) ∧ some k_ ≠ (.slice Ao43 t255.length co43 : Value).ownBlock) ∧ some k_ ≠ (.slice Ao50 t259.length co50 : Value).ownBlock) ∧ some k_ ≠ (.slice Ao104 t279.length co104 : Value).ownBlock) ∧ some k_ ≠ (.slice Ao119 t283.length co119 : Value).ownBlock)) (n := t263.length) (c := co58) ?_).2.2; exact (by (with_reducible repeat (first | apply Kd.R_alloc | apply Kd.R_drewN | apply Kd.R_drew)); exact (Kd.R_mono (Kd.R_far (p := ⟨gb286, 0, none⟩) (Kd.R_types HO265.out BK286.out (by decide)) (fun _ hk => hk.2) (.slice Ao119 t283.length co119)) (fun _ h_ => h_.1)))); (case side4 => exact (Kd.R_reads' HO265.out).2.1); rintro e w133 ⟨rfl, hb⟩; refine ⟨_, rfl, ?_⟩; replace HO253 := Aside0.mk (Kd.R_below (by (with_reducible repeat (first | apply Kd.R_alloc | apply Kd.R_drewN | apply Kd.R_drew)); exact (Kd.R_mono (Kd.R_far (p := ⟨gb286, 0, none⟩) (Kd.R_types HO253.out BK286.out (by decide)) (fun _ hk => hk.2) (.slice Ao119 t283.length co119)) (fun _ h_ => h_.1))) hb); replace HO257 := Aside0.mk (Kd.R_below (by (with_reducible repeat (first | apply Kd.R_alloc | apply Kd.R_drewN | apply Kd.R_drew)); exact (Kd.R_mono (Kd.R_far (p := ⟨gb286, 0, none⟩) (Kd.R_types HO257.out BK286.out (by decide)) (fun _ hk => hk.2) (.slice Ao119 t283.length co119)) (fun _ h_ => h_.1))) hb); replace HO261 := Aside0.mk (Kd.R_below (by (with_reducible repeat (first | apply Kd.R_alloc | apply Kd.R_drewN | apply Kd.R_drew)); exact (Kd.R_mono (Kd.R_far (p := ⟨gb286, 0, none⟩) (Kd.R_types HO261.out BK286.out (by decide)) (fun _ hk => hk.2) (.slice Ao119 t283.length co119)) (fun _ h_ => h_.1))) hb); replace HO265 := Aside0.mk (Kd.R_below (by (with_reducible repeat (first | apply Kd.R_alloc | apply Kd.R_drewN | apply Kd.R_drew)); exact (Kd.R_mono (Kd.R_far (p := ⟨gb286, 0, none⟩) (Kd.R_types HO265.out BK286.out (by decide)) (fun _ hk => hk.2) (.slice Ao119 t283.length co119)) (fun _ h_ => h_.1))) hb); replace HO281 := Aside0.mk (Kd.R_below (by (with_reducible repeat (first | apply Kd.R_alloc | apply Kd.R_drewN | apply Kd.R_drew)); exact (Kd.R_mono (Kd.R_far (p := ⟨gb286, 0, none⟩) (Kd.R_types HO281.out BK286.out (by decide)) (fun _ hk => hk.2) (.slice Ao119 t283.length co119)) (fun _ h_ => h_.1))) hb); replace HO285 := Aside0.mk (Kd.R_below (by (with_reducible repeat (first | apply Kd.R_alloc | apply Kd.R_drewN | apply Kd.R_drew)); exact (Kd.R_mono (Kd.R_far (p := ⟨gb286, 0, none⟩) (Kd.R_types HO285.out BK286.out (by decide)) (fun _ hk => hk.2) (.slice Ao119 t283.length co119)) (fun _ h_ => h_.1))) hb); replace BK248 := Aside0.mk (blk_below (g := gb248) (o := .cells #[.int .u64 a0_0, .int .u64 a0_1] 24 (0, 0)) (by refine blk_far ?_ NB248_286.out _; exact BK248.out) hb); replace BK249 := Aside0.mk (blk_below (g := gb249) (o := .cells #[.int .u64 a1_0, .int .u64 a1_1] 24 (0, 0)) (by refine blk_far ?_ NB249_286.out _; exact BK249.out) hb); replace BK254 := Aside0.mk (blk_below (g := gb254) (o := .cells #[.slice Ao36 t251.length co36] 28 (0, 0)) (by refine blk_far ?_ NB254_286.out _; exact BK254.out) hb); replace BK258 := Aside0.mk (blk_below (g := gb258) (o := .cells #[.slice Ao43 t255.length co43] 28 (0, 0)) (by refine blk_far ?_ NB258_286.out _; exact BK258.out) hb); replace BK262 := Aside0.mk (blk_below (g := gb262) (o := .cells #[.slice Ao50 t259.length co50] 28 (0, 0)) (by refine blk_far ?_ NB262_286.out _; exact BK262.out) hb); replace BK266 := Aside0.mk (blk_below (g := gb266) (o := .cells #[.slice Ao58 t263.length co58] 28 (0, 0)) (by refine blk_far ?_ NB266_286.out _; exact BK266.out) hb); replace BK270 := Aside0.mk (blk_below (g := gb270) (o := .cells #[.int .u64 t267, .int .u64 t268] 24 (0, 0)) (by refine blk_far ?_ NB270_286.out _; exact BK270.out) hb); replace BK274 := Aside0.mk (blk_below (g := gb274) (o := .cells #[.int .u64 t271, .int .u64 t272] 24 (0, 0)) (by refine blk_far ?_ NB274_286.out _; exact BK274.out) hb); replace BK278 := Aside0.mk (blk_below (g := gb278) (o := .cells #[.int .u64 t275, .int .u64 t276] 24 (0, 0)) (by refine blk_far ?_ NB278_286.out _; exact BK278.out) hb); replace BK282 := Aside0.mk (blk_below (g := gb282) (o := .cells #[.slice Ao104 t279.length co104] 28 (0, 0)) (by refine blk_far ?_ NB282_286.out _; exact BK282.out) hb); replace BK286 := Aside0.mk (blk_below (g := gb286) (o := .cells #[.slice Ao119 t283.length co119] 28 (0, 0)) (by refine blk_put (cs := #[.slice none 0 0]) ?_ 0 _ rfl; exact BK286.out) hb); replace HB := Aside0.mk (below_step (by repeat (first | (with_reducible first | exact HB.out | apply below_alloc | apply pw_below_drewN | apply below_drew1 | refine below_set ?_ GE248.out | refine below_set ?_ GE249.out | refine below_set ?_ GE254.out | refine below_set ?_ GE258.out | refine below_set ?_ GE262.out | refine below_set ?_ GE266.out | refine below_set ?_ GE270.out | refine below_set ?_ GE274.out | refine below_set ?_ GE278.out | refine below_set ?_ GE282.out | refine below_set ?_ GE286.out) | exact HB.out)) hb); (try clear hb); have hcz134_0 : w133.cell? ⟨gb286, 0, none⟩ = some (.slice Ao119 t283.length co119) := (blk_cell BK286.out 0).trans rfl; have hfz134_0 := blk_frozen BK286.out 0; have hcz135_0 : w133.cell? ⟨gb266, 0, none⟩ = some (.slice Ao58 t263.length co58) := (blk_cell BK266.out 0).trans rfl; have hfz135_0 := blk_frozen BK266.out 0) | ((with_reducible refine gate_callee (f := 13) rfl ?_); refine goesL_ (some 62) rfl rfl Try.func13 (by kernel_rfl) rfl #[.agg #[.slice Ao119 t283.length co119], .agg #[.slice Ao58 t263.length co58]] rfl (by (try simp only [List.map_toArray, List.map_cons, List.map_nil]); first | done | rfl) ?_; (with_reducible refine (demurrageref01_Cmp.calls k _ _ t283 _ _ t263 t288 _ ?side1 ?side2 ?side3 ?side4 A15.out).mono ?_); (case side1 => repeat (first | exact (Kd.R_reads' HO285.out).2.2 | (with_reducible refine Kd.C_alloc ?_ _) | (with_reducible refine Kd.C_drewN ?_ _) | (with_reducible refine Kd.C_drew ?_))); (case side2 => exact (Kd.R_reads' HO285.out).2.1); (case side3 => repeat (first | exact (Kd.R_reads' HO265.out).2.2 | (with_reducible refine Kd.C_alloc ?_ _) | (with_reducible refine Kd.C_drewN ?_ _) | (with_reducible refine Kd.C_drew ?_))); (case side4 => exact (Kd.R_reads' HO265.out).2.1); rintro e w136 ⟨rfl, hb⟩; refine ⟨_, rfl, ?_⟩; replace HO253 := Aside0.mk (Kd.R_below HO253.out hb); replace HO257 := Aside0.mk (Kd.R_below HO257.out hb); replace HO261 := Aside0.mk (Kd.R_below HO261.out hb); replace HO265 := Aside0.mk (Kd.R_below HO265.out hb); replace HO281 := Aside0.mk (Kd.R_below HO281.out hb); replace HO285 := Aside0.mk (Kd.R_below HO285.out hb); replace BK248 := Aside0.mk (blk_below BK248.out hb); replace BK249 := Aside0.mk (blk_below BK249.out hb); replace BK254 := Aside0.mk (blk_below BK254.out hb); replace BK258 := Aside0.mk (blk_below BK258.out hb); replace BK262 := Aside0.mk (blk_below BK262.out hb); replace BK266 := Aside0.mk (blk_below BK266.out hb); replace BK270 := Aside0.mk (blk_below BK270.out hb); replace BK274 := Aside0.mk (blk_below BK274.out hb); replace BK278 := Aside0.mk (blk_below BK278.out hb); replace BK282 := Aside0.mk (blk_below BK282.out hb); replace BK286 := Aside0.mk (blk_below BK286.out hb); replace HB := Aside0.mk (below_step (by repeat (first | (with_reducible first | exact HB.out | apply below_alloc | apply pw_below_drewN | apply below_drew1 | refine below_set ?_ GE248.out | refine below_set ?_ GE249.out | refine below_set ?_ GE254.out | refine below_set ?_ GE258.out | refine below_set ?_ GE262.out | refine below_set ?_ GE266.out | refine below_set ?_ GE270.out | refine below_set ?_ GE274.out | refine below_set ?_ GE278.out | refine below_set ?_ GE282.out | refine below_set ?_ GE286.out) | exact HB.out)) hb); (try clear hb); have hcz137_0 : w136.cell? ⟨gb254, 0, none⟩ = some (.slice Ao36 t251.length co36) := (blk_cell BK254.out 0).trans rfl; have hfz137_0 := blk_frozen BK254.out 0; have hcz138_0 : w136.cell? ⟨gb258, 0, none⟩ = some (.slice Ao43 t255.length co43) := (blk_cell BK258.out 0).trans rfl; have hfz138_0 := blk_frozen BK258.out 0) | ((with_reducible refine gate_callee (f := 13) rfl ?_); refine goesL_ (some 66) rfl rfl Try.func13 (by kernel_rfl) rfl #[.agg #[.slice Ao36 t251.length co36], .agg #[.slice Ao43 t255.length co43]] rfl (by (try simp only [List.map_toArray, List.map_cons, List.map_nil]); first | done | rfl) ?_; (with_reducible refine (demurrageref01_Cmp.calls k _ _ t251 _ _ t255 t289 _ ?side1 ?side2 ?side3 ?side4 A16.out).mono ?_); (case side1 => repeat (first | exact (Kd.R_reads' HO253.out).2.2 | (with_reducible refine Kd.C_alloc ?_ _) | (with_reducible refine Kd.C_drewN ?_ _) | (with_reducible refine Kd.C_drew ?_))); (case side2 => exact (Kd.R_reads' HO253.out).2.1); (case side3 => repeat (first | exact (Kd.R_reads' HO257.out).2.2 | (with_reducible refine Kd.C_alloc ?_ _) | (with_reducible refine Kd.C_drewN ?_ _) | (with_reducible refine Kd.C_drew ?_))); (case side4 => exact (Kd.R_reads' HO257.out).2.1); rintro e w139 ⟨rfl, hb⟩; refine ⟨_, rfl, ?_⟩; replace HO253 := Aside0.mk (Kd.R_below HO253.out hb); replace HO257 := Aside0.mk (Kd.R_below HO257.out hb); replace HO261 := Aside0.mk (Kd.R_below HO261.out hb); replace HO265 := Aside0.mk (Kd.R_below HO265.out hb); replace HO281 := Aside0.mk (Kd.R_below HO281.out hb); replace HO285 := Aside0.mk (Kd.R_below HO285.out hb); replace BK248 := Aside0.mk (blk_below BK248.out hb); replace BK249 := Aside0.mk (blk_below BK249.out hb); replace BK254 := Aside0.mk (blk_below BK254.out hb); replace BK258 := Aside0.mk (blk_below BK258.out hb); replace BK262 := Aside0.mk (blk_below BK262.out hb); replace BK266 := Aside0.mk (blk_below BK266.out hb); replace BK270 := Aside0.mk (blk_below BK270.out hb); replace BK274 := Aside0.mk (blk_below BK274.out hb); replace BK278 := Aside0.mk (blk_below BK278.out hb); replace BK282 := Aside0.mk (blk_below BK282.out hb); replace BK286 := Aside0.mk (blk_below BK286.out hb); replace HB := Aside0.mk (below_step (by repeat (first | (with_reducible first | exact HB.out | apply below_alloc | apply pw_below_drewN | apply below_drew1 | refine below_set ?_ GE248.out | refine below_set ?_ GE249.out | refine below_set ?_ GE254.out | refine below_set ?_ GE258.out | refine below_set ?_ GE262.out | refine below_set ?_ GE266.out | refine below_set ?_ GE270.out | refine below_set ?_ GE274.out | refine below_set ?_ GE278.out | refine below_set ?_ GE282.out | refine below_set ?_ GE286.out) | exact HB.out)) hb); (try clear hb)))
        replace HO253 := Aside0.mk (Kd.R_drew HO253.out)
        replace HO257 := Aside0.mk (Kd.R_drew HO257.out)
        replace HO261 := Aside0.mk (Kd.R_drew HO261.out)
        replace HO265 := Aside0.mk (Kd.R_drew HO265.out)
        replace HO281 := Aside0.mk (Kd.R_drew HO281.out)
        replace HO285 := Aside0.mk (Kd.R_drew HO285.out)
        replace BK248 := Aside0.mk (blk_drew BK248.out)
        replace BK249 := Aside0.mk (blk_drew BK249.out)
        replace BK254 := Aside0.mk (blk_drew BK254.out)
        replace BK258 := Aside0.mk (blk_drew BK258.out)
        replace BK262 := Aside0.mk (blk_drew BK262.out)
        replace BK266 := Aside0.mk (blk_drew BK266.out)
        replace BK270 := Aside0.mk (blk_drew BK270.out)
        replace BK274 := Aside0.mk (blk_drew BK274.out)
        replace BK278 := Aside0.mk (blk_drew BK278.out)
        replace BK282 := Aside0.mk (blk_drew BK282.out)
        replace BK286 := Aside0.mk (blk_drew BK286.out)
        replace HB := Aside0.mk (below_drew1 HB.out)
        refine start_ (n := 27) (S := fun w' => w'.cell? ⟨gb262, 0, none⟩ = some (.slice Ao50 t259.length co50) ∧ w'.cell? ⟨gb248, 0, none⟩ = some (.int .u64 a0_0) ∧ w'.cell? ⟨gb248, 1, none⟩ = some (.int .u64 a0_1) ∧ w'.cell? ⟨gb249, 0, none⟩ = some (.int .u64 a1_0) ∧ w'.cell? ⟨gb249, 1, none⟩ = some (.int .u64 a1_1) ∧ w'.cell? ⟨gb254, 0, none⟩ = some (.slice Ao36 t251.length co36) ∧ w'.cell? ⟨gb258, 0, none⟩ = some (.slice Ao43 t255.length co43)) (ds := []) (demurragelaw01_WideTells.ups 27 0) (by kernel_rfl) rfl rfl ⟨(blk_cell BK262.out 0).trans rfl, (blk_cell BK248.out 0).trans rfl, (blk_cell BK248.out 1).trans rfl, (blk_cell BK249.out 0).trans rfl, (blk_cell BK249.out 1).trans rfl, (blk_cell BK254.out 0).trans rfl, (blk_cell BK258.out 0).trans rfl⟩ (fun hHeld => ?_); refine with_tabW demurragelaw01_WideTells.tab14 demurragelaw01_WideTells.bits14 (fun HT_ HW_ => ?_)
        generalize w139.drew = w140 at HO253 HO257 HO261 HO265 HO281 HO285 BK248 BK249 BK254 BK258 BK262 BK266 BK270 BK274 BK278 BK282 BK286 HB hHeld ⊢
        refine pure_ (i := 0) (N := some 68) (v := ?_) (a' := ?_) (demurragelaw01_WideTells.ups 27 1) rfl rfl (any_of HT_.out (by kernel_rfl)) (fun _ _ _ h => h) (Or.inl ⟨by rfl, ?_⟩) ?_ ?_
        rotate_left
        · intro w'
          go_simp
          with_reducible rfl
        rotate_left
        · simp only [Act.put, List.setIfInBounds_toArray, List.set_cons_zero, List.set_cons_succ, i64_w, i32_w]
          rfl
        refine take_ (i := 2) (N := some 70) (v := ?_) (a' := ?_) (demurragelaw01_WideTells.ups 27 5) rfl rfl (take_ofW HT_.out HW_.out (by kernel_rfl)) (fun _ _ _ h => h) (Or.inl ⟨by rfl, ?_⟩) hHeld ?_ ?_
        rotate_left
        · rintro w' ⟨s0, s1, s2, s3, s4, s5, s6⟩
          go_simp
          with_reducible rfl
        rotate_left
        · simp only [Act.put, List.setIfInBounds_toArray, List.set_cons_zero, List.set_cons_succ, i64_w, i32_w]
          rfl
        refine one_ (i := 1) (N := some 69) (demurragelaw01_WideTells.ups 27 7) rfl rfl (one_of HT_.out (by kernel_rfl)) (by decide) (fun K hK => ?_)
        refine goes_ Try.func15 (by kernel_rfl) rfl #[.int .u64 a2] (by rfl) rfl rfl (by (try simp only [List.map_toArray, List.map_cons, List.map_nil]); first | done | rfl) ?_
        with_reducible refine (wide_Of.calls a2 t290 t291 _ A17.out).mono ?_
        rintro e w141 ⟨rfl, hb⟩
        refine ⟨_, rfl, ?_⟩
        replace HO253 := Aside0.mk (Kd.R_below HO253.out hb)
        replace HO257 := Aside0.mk (Kd.R_below HO257.out hb)
        replace HO261 := Aside0.mk (Kd.R_below HO261.out hb)
        replace HO265 := Aside0.mk (Kd.R_below HO265.out hb)
        replace HO281 := Aside0.mk (Kd.R_below HO281.out hb)
        replace HO285 := Aside0.mk (Kd.R_below HO285.out hb)
        replace BK248 := Aside0.mk (blk_below BK248.out hb)
        replace BK249 := Aside0.mk (blk_below BK249.out hb)
        replace BK254 := Aside0.mk (blk_below BK254.out hb)
        replace BK258 := Aside0.mk (blk_below BK258.out hb)
        replace BK262 := Aside0.mk (blk_below BK262.out hb)
        replace BK266 := Aside0.mk (blk_below BK266.out hb)
        replace BK270 := Aside0.mk (blk_below BK270.out hb)
        replace BK274 := Aside0.mk (blk_below BK274.out hb)
        replace BK278 := Aside0.mk (blk_below BK278.out hb)
        replace BK282 := Aside0.mk (blk_below BK282.out hb)
        replace BK286 := Aside0.mk (blk_below BK286.out hb)
        replace HB := Aside0.mk (below_step (by repeat (first | (with_reducible first | exact HB.out | apply below_alloc | apply pw_below_drewN | apply below_drew1 | refine below_set ?_ GE248.out | refine below_set ?_ GE249.out | refine below_set ?_ GE254.out | refine below_set ?_ GE258.out | refine below_set ?_ GE262.out | refine below_set ?_ GE266.out | refine below_set ?_ GE270.out | refine below_set ?_ GE274.out | refine below_set ?_ GE278.out | refine below_set ?_ GE282.out | refine below_set ?_ GE286.out) | exact HB.out)) hb)
        (try clear hb)
        (try clear hb2)
        (try clear hk)
        (try clear hi)
        refine hK.out _ _ ⟨(blk_cell BK262.out 0).trans rfl, (blk_cell BK248.out 0).trans rfl, (blk_cell BK248.out 1).trans rfl, (blk_cell BK249.out 0).trans rfl, (blk_cell BK249.out 1).trans rfl, (blk_cell BK254.out 0).trans rfl, (blk_cell BK258.out 0).trans rfl⟩ (fun hHeld => ?_)
        clear hK K
        refine norm_ (a' := ?_) ?_ ?_
        rotate_left
        · show Act.put _ (some 69) _ = _
          simp only [Act.put, List.setIfInBounds_toArray, List.set_cons_zero, List.set_cons_succ, i64_w, i32_w]
          rfl
        refine one_ (i := 3) (N := some 71) (demurragelaw01_WideTells.ups 27 15) rfl rfl (one_of HT_.out (by kernel_rfl)) (by decide) (fun K hK => ?_)
        refine goes_ Try.func14 (by kernel_rfl) rfl #[.agg #[.int .u64 t290, .int .u64 t291], .agg #[.slice Ao50 t259.length co50]] (by rfl) rfl rfl (by (try simp only [List.map_toArray, List.map_cons, List.map_nil]); first | done | rfl) ?_
        with_reducible refine (demurrageref01_Is.calls k t290 t291 _ _ t259 true _ ?side1 ?side2 A18.out).mono ?_
        (case side1 => repeat (first | exact (Kd.R_reads' HO261.out).2.2 | (with_reducible refine Kd.C_alloc ?_ _) | (with_reducible refine Kd.C_drewN ?_ _) | (with_reducible refine Kd.C_drew ?_)))
        (case side2 => exact (Kd.R_reads' HO261.out).2.1)
        rintro e w142 ⟨rfl, hb⟩
        refine ⟨_, rfl, ?_⟩
        replace HO253 := Aside0.mk (Kd.R_below HO253.out hb)
        replace HO257 := Aside0.mk (Kd.R_below HO257.out hb)
        replace HO261 := Aside0.mk (Kd.R_below HO261.out hb)
        replace HO265 := Aside0.mk (Kd.R_below HO265.out hb)
        replace HO281 := Aside0.mk (Kd.R_below HO281.out hb)
        replace HO285 := Aside0.mk (Kd.R_below HO285.out hb)
        replace BK248 := Aside0.mk (blk_below BK248.out hb)
        replace BK249 := Aside0.mk (blk_below BK249.out hb)
        replace BK254 := Aside0.mk (blk_below BK254.out hb)
        replace BK258 := Aside0.mk (blk_below BK258.out hb)
        replace BK262 := Aside0.mk (blk_below BK262.out hb)
        replace BK266 := Aside0.mk (blk_below BK266.out hb)
        replace BK270 := Aside0.mk (blk_below BK270.out hb)
        replace BK274 := Aside0.mk (blk_below BK274.out hb)
        replace BK278 := Aside0.mk (blk_below BK278.out hb)
        replace BK282 := Aside0.mk (blk_below BK282.out hb)
        replace BK286 := Aside0.mk (blk_below BK286.out hb)
        replace HB := Aside0.mk (below_step (by repeat (first | (with_reducible first | exact HB.out | apply below_alloc | apply pw_below_drewN | apply below_drew1 | refine below_set ?_ GE248.out | refine below_set ?_ GE249.out | refine below_set ?_ GE254.out | refine below_set ?_ GE258.out | refine below_set ?_ GE262.out | refine below_set ?_ GE266.out | refine below_set ?_ GE270.out | refine below_set ?_ GE274.out | refine below_set ?_ GE278.out | refine below_set ?_ GE282.out | refine below_set ?_ GE286.out) | exact HB.out)) hb)
        (try clear hb)
        (try clear hb2)
        (try clear hk)
        (try clear hi)
        refine hK.out _ _ ⟨(blk_cell BK262.out 0).trans rfl, (blk_cell BK248.out 0).trans rfl, (blk_cell BK248.out 1).trans rfl, (blk_cell BK249.out 0).trans rfl, (blk_cell BK249.out 1).trans rfl, (blk_cell BK254.out 0).trans rfl, (blk_cell BK258.out 0).trans rfl⟩ (fun hHeld => ?_)
        clear hK K
        refine norm_ (a' := ?_) ?_ ?_
        rotate_left
        · show Act.put _ (some 71) _ = _
          simp only [Act.put, List.setIfInBounds_toArray, List.set_cons_zero, List.set_cons_succ, i64_w, i32_w]
          rfl
        refine pure_ (i := 4) (N := some 72) (v := ?_) (a' := ?_) (demurragelaw01_WideTells.ups 27 31) rfl rfl (any_of HT_.out (by kernel_rfl)) (fun _ _ _ h => h) (Or.inl ⟨by rfl, ?_⟩) ?_ ?_
        rotate_left
        · intro w'
          go_simp
          with_reducible rfl
        rotate_left
        · simp only [Act.put, List.setIfInBounds_toArray, List.set_cons_zero, List.set_cons_succ, i64_w, i32_w]
          rfl
        refine pure_ (i := 5) (N := some 73) (v := ?_) (a' := ?_) (demurragelaw01_WideTells.ups 27 63) rfl rfl (any_of HT_.out (by kernel_rfl)) (fun _ _ _ h => h) (Or.inl ⟨by rfl, ?_⟩) ?_ ?_
        rotate_left
        · intro w'
          go_simp
          with_reducible rfl
        rotate_left
        · simp only [Act.put, List.setIfInBounds_toArray, List.set_cons_zero, List.set_cons_succ, i64_w, i32_w]
          rfl
        refine pure_ (i := 6) (N := some 74) (v := ?_) (a' := ?_) (demurragelaw01_WideTells.ups 27 127) rfl rfl (any_of HT_.out (by kernel_rfl)) (fun _ _ _ h => h) (Or.inl ⟨by rfl, ?_⟩) ?_ ?_
        rotate_left
        · intro w'
          go_simp
          with_reducible rfl
        rotate_left
        · simp only [Act.put, List.setIfInBounds_toArray, List.set_cons_zero, List.set_cons_succ, i64_w, i32_w]
          rfl
        refine pure_ (i := 8) (N := some 76) (v := ?_) (a' := ?_) (demurragelaw01_WideTells.ups 27 383) rfl rfl (any_of HT_.out (by kernel_rfl)) (fun _ _ _ h => h) (Or.inl ⟨by rfl, ?_⟩) ?_ ?_
        rotate_left
        · intro w'
          go_simp
          with_reducible rfl
        rotate_left
        · simp only [Act.put, List.setIfInBounds_toArray, List.set_cons_zero, List.set_cons_succ, i64_w, i32_w]
          rfl
        refine pure_ (i := 10) (N := some 78) (v := ?_) (a' := ?_) (demurragelaw01_WideTells.ups 27 1407) rfl rfl (any_of HT_.out (by kernel_rfl)) (fun _ _ _ h => h) (Or.inl ⟨by rfl, ?_⟩) ?_ ?_
        rotate_left
        · intro w'
          go_simp
          with_reducible rfl
        rotate_left
        · simp only [Act.put, List.setIfInBounds_toArray, List.set_cons_zero, List.set_cons_succ, i64_w, i32_w]
          rfl
        refine take_ (i := 7) (N := some 75) (v := ?_) (a' := ?_) (demurragelaw01_WideTells.ups 27 1535) rfl rfl (take_ofW HT_.out HW_.out (by kernel_rfl)) (fun _ _ _ h => h) (Or.inl ⟨by rfl, ?_⟩) hHeld ?_ ?_
        rotate_left
        · rintro w' ⟨s0, s1, s2, s3, s4, s5, s6⟩
          go_simp
          with_reducible rfl
        rotate_left
        · simp only [Act.put, List.setIfInBounds_toArray, List.set_cons_zero, List.set_cons_succ, i64_w, i32_w]
          rfl
        refine take_ (i := 11) (N := some 79) (v := ?_) (a' := ?_) (demurragelaw01_WideTells.ups 27 3583) rfl rfl (take_ofW HT_.out HW_.out (by kernel_rfl)) (fun _ _ _ h => h) (Or.inl ⟨by rfl, ?_⟩) hHeld ?_ ?_
        rotate_left
        · rintro w' ⟨s0, s1, s2, s3, s4, s5, s6⟩
          go_simp
          with_reducible rfl
        rotate_left
        · simp only [Act.put, List.setIfInBounds_toArray, List.set_cons_zero, List.set_cons_succ, i64_w, i32_w]
          rfl
        refine take_ (i := 13) (N := some 81) (v := ?_) (a' := ?_) (demurragelaw01_WideTells.ups 27 11775) rfl rfl (take_ofW HT_.out HW_.out (by kernel_rfl)) (fun _ _ _ h => h) (Or.inl ⟨by rfl, ?_⟩) hHeld ?_ ?_
        rotate_left
        · rintro w' ⟨s0, s1, s2, s3, s4, s5, s6⟩
          go_simp
          with_reducible rfl
        rotate_left
        · simp only [Act.put, List.setIfInBounds_toArray, List.set_cons_zero, List.set_cons_succ, i64_w, i32_w]
          rfl
        refine one_ (i := 9) (N := some 77) (demurragelaw01_WideTells.ups 27 12287) rfl rfl (one_of HT_.out (by kernel_rfl)) (by decide) (fun K hK => ?_)
        refine goes_ Try.func16 (by kernel_rfl) rfl #[.int .u64 a0_1, .int .u64 a2] (by rfl) rfl rfl (by (try simp only [List.map_toArray, List.map_cons, List.map_nil]); first | done | rfl) ?_
        with_reducible refine (wide_Mul.calls a0_1 a2 t293 t294 _ A20.out).mono ?_
        rintro e w143 ⟨rfl, hb⟩
        refine ⟨_, rfl, ?_⟩
        replace HO253 := Aside0.mk (Kd.R_below HO253.out hb)
        replace HO257 := Aside0.mk (Kd.R_below HO257.out hb)
        replace HO261 := Aside0.mk (Kd.R_below HO261.out hb)
        replace HO265 := Aside0.mk (Kd.R_below HO265.out hb)
        replace HO281 := Aside0.mk (Kd.R_below HO281.out hb)
        replace HO285 := Aside0.mk (Kd.R_below HO285.out hb)
        replace BK248 := Aside0.mk (blk_below BK248.out hb)
        replace BK249 := Aside0.mk (blk_below BK249.out hb)
        replace BK254 := Aside0.mk (blk_below BK254.out hb)
        replace BK258 := Aside0.mk (blk_below BK258.out hb)
        replace BK262 := Aside0.mk (blk_below BK262.out hb)
        replace BK266 := Aside0.mk (blk_below BK266.out hb)
        replace BK270 := Aside0.mk (blk_below BK270.out hb)
        replace BK274 := Aside0.mk (blk_below BK274.out hb)
        replace BK278 := Aside0.mk (blk_below BK278.out hb)
        replace BK282 := Aside0.mk (blk_below BK282.out hb)
        replace BK286 := Aside0.mk (blk_below BK286.out hb)
        replace HB := Aside0.mk (below_step (by repeat (first | (with_reducible first | exact HB.out | apply below_alloc | apply pw_below_drewN | apply below_drew1 | refine below_set ?_ GE248.out | refine below_set ?_ GE249.out | refine below_set ?_ GE254.out | refine below_set ?_ GE258.out | refine below_set ?_ GE262.out | refine below_set ?_ GE266.out | refine below_set ?_ GE270.out | refine below_set ?_ GE274.out | refine below_set ?_ GE278.out | refine below_set ?_ GE282.out | refine below_set ?_ GE286.out) | exact HB.out)) hb)
        (try clear hb)
        (try clear hb2)
        (try clear hk)
        (try clear hi)
        refine hK.out _ _ ⟨(blk_cell BK262.out 0).trans rfl, (blk_cell BK248.out 0).trans rfl, (blk_cell BK248.out 1).trans rfl, (blk_cell BK249.out 0).trans rfl, (blk_cell BK249.out 1).trans rfl, (blk_cell BK254.out 0).trans rfl, (blk_cell BK258.out 0).trans rfl⟩ (fun hHeld => ?_)
        clear hK K
        refine norm_ (a' := ?_) ?_ ?_
        rotate_left
        · show Act.put _ (some 77) _ = _
          simp only [Act.put, List.setIfInBounds_toArray, List.set_cons_zero, List.set_cons_succ, i64_w, i32_w]
          rfl
        refine one_ (i := 12) (N := some 80) (demurragelaw01_WideTells.ups 27 16383) rfl rfl (one_of HT_.out (by kernel_rfl)) (by decide) (fun K hK => ?_)
        refine goes_ Try.func6 (by kernel_rfl) rfl #[.int .u64 a0_1] (by rfl) rfl rfl (by (try simp only [List.map_toArray, List.map_cons, List.map_nil]); first | done | rfl) ?_
        with_reducible refine (demurrageref01_FromU.calls k a0_1 t295 _ A21.out).mono ?_
        rintro e w144 ⟨v296, rfl, ho0, hb⟩
        refine ⟨_, rfl, ?_⟩
        have HO297 := Aside0.mk (Kd.R_lower (Kd.R_new' (Kd.R_new' (Kd.R_new' (Kd.R_new' (Kd.R_new' (Kd.R_new' ho0 (Kd.R_lt HO253.out)) (Kd.R_lt HO257.out)) (Kd.R_lt HO261.out)) (Kd.R_lt HO265.out)) (Kd.R_lt HO281.out)) (Kd.R_lt HO285.out)) (below_size (by repeat (first | (with_reducible first | exact HB.out | apply below_alloc | apply pw_below_drewN | apply below_drew1 | refine below_set ?_ GE248.out | refine below_set ?_ GE249.out | refine below_set ?_ GE254.out | refine below_set ?_ GE258.out | refine below_set ?_ GE262.out | refine below_set ?_ GE266.out | refine below_set ?_ GE270.out | refine below_set ?_ GE274.out | refine below_set ?_ GE278.out | refine below_set ?_ GE282.out | refine below_set ?_ GE286.out) | exact HB.out))))
        replace HO253 := Aside0.mk (Kd.R_elder' HO253.out (Kd.R_base ho0) hb)
        replace HO257 := Aside0.mk (Kd.R_elder' HO257.out (Kd.R_base ho0) hb)
        replace HO261 := Aside0.mk (Kd.R_elder' HO261.out (Kd.R_base ho0) hb)
        replace HO265 := Aside0.mk (Kd.R_elder' HO265.out (Kd.R_base ho0) hb)
        replace HO281 := Aside0.mk (Kd.R_elder' HO281.out (Kd.R_base ho0) hb)
        replace HO285 := Aside0.mk (Kd.R_elder' HO285.out (Kd.R_base ho0) hb)
        replace BK248 := Aside0.mk (blk_below BK248.out hb)
        replace BK249 := Aside0.mk (blk_below BK249.out hb)
        replace BK254 := Aside0.mk (blk_below BK254.out hb)
        replace BK258 := Aside0.mk (blk_below BK258.out hb)
        replace BK262 := Aside0.mk (blk_below BK262.out hb)
        replace BK266 := Aside0.mk (blk_below BK266.out hb)
        replace BK270 := Aside0.mk (blk_below BK270.out hb)
        replace BK274 := Aside0.mk (blk_below BK274.out hb)
        replace BK278 := Aside0.mk (blk_below BK278.out hb)
        replace BK282 := Aside0.mk (blk_below BK282.out hb)
        replace BK286 := Aside0.mk (blk_below BK286.out hb)
        replace HB := Aside0.mk (below_step (by repeat (first | (with_reducible first | exact HB.out | apply below_alloc | apply pw_below_drewN | apply below_drew1 | refine below_set ?_ GE248.out | refine below_set ?_ GE249.out | refine below_set ?_ GE254.out | refine below_set ?_ GE258.out | refine below_set ?_ GE262.out | refine below_set ?_ GE266.out | refine below_set ?_ GE270.out | refine below_set ?_ GE274.out | refine below_set ?_ GE278.out | refine below_set ?_ GE282.out | refine below_set ?_ GE286.out) | exact HB.out)) hb)
        (try clear hb)
        (try clear hb2)
        (try clear hk)
        (try clear hi)
        (try clear ho0)
        obtain ⟨Ao145, co145, eo145⟩ := Kd.R_slice HO297.out
        (first | subst eo145 | (injection eo145 with f1_ f2_ f3_; have f4_ := f1_.symm; have f5_ := f3_.symm; clear f1_ f2_ f3_; subst f4_; subst f5_))
        refine hK.out _ _ ⟨(blk_cell BK262.out 0).trans rfl, (blk_cell BK248.out 0).trans rfl, (blk_cell BK248.out 1).trans rfl, (blk_cell BK249.out 0).trans rfl, (blk_cell BK249.out 1).trans rfl, (blk_cell BK254.out 0).trans rfl, (blk_cell BK258.out 0).trans rfl⟩ (fun hHeld => ?_)
        clear hK K
        refine norm_ (a' := ?_) ?_ ?_
        rotate_left
        · show Act.put _ (some 80) _ = _
          simp only [Act.put, List.setIfInBounds_toArray, List.set_cons_zero, List.set_cons_succ, i64_w, i32_w]
          rfl
        refine one_ (i := 14) (N := some 82) (demurragelaw01_WideTells.ups 27 32767) rfl rfl (one_of HT_.out (by kernel_rfl)) (by decide) (fun K hK => ?_)
        refine goes_ Try.func11 (by kernel_rfl) rfl #[.agg #[.slice Ao145 t295.length co145], .agg #[.slice Ao50 t259.length co50]] (by rfl) rfl rfl (by (try simp only [List.map_toArray, List.map_cons, List.map_nil]); first | done | rfl) ?_
        with_reducible refine (demurrageref01_Prod.calls k _ _ t295 _ _ t259 t298 _ ?side1 ?side2 ?side3 ?side4 A22.out).mono ?_
        (case side1 => repeat (first | exact (Kd.R_reads' HO297.out).2.2 | (with_reducible refine Kd.C_alloc ?_ _) | (with_reducible refine Kd.C_drewN ?_ _) | (with_reducible refine Kd.C_drew ?_)))
        (case side2 => exact (Kd.R_reads' HO297.out).2.1)
        (case side3 => repeat (first | exact (Kd.R_reads' HO261.out).2.2 | (with_reducible refine Kd.C_alloc ?_ _) | (with_reducible refine Kd.C_drewN ?_ _) | (with_reducible refine Kd.C_drew ?_)))
        (case side4 => exact (Kd.R_reads' HO261.out).2.1)
        rintro e w146 ⟨v299, rfl, ho0, hb⟩
        refine ⟨_, rfl, ?_⟩
        have HO300 := Aside0.mk (Kd.R_lower (Kd.R_new' (Kd.R_new' (Kd.R_new' (Kd.R_new' (Kd.R_new' (Kd.R_new' (Kd.R_new' ho0 (Kd.R_lt HO253.out)) (Kd.R_lt HO257.out)) (Kd.R_lt HO261.out)) (Kd.R_lt HO265.out)) (Kd.R_lt HO281.out)) (Kd.R_lt HO285.out)) (Kd.R_lt HO297.out)) (below_size (by repeat (first | (with_reducible first | exact HB.out | apply below_alloc | apply pw_below_drewN | apply below_drew1 | refine below_set ?_ GE248.out | refine below_set ?_ GE249.out | refine below_set ?_ GE254.out | refine below_set ?_ GE258.out | refine below_set ?_ GE262.out | refine below_set ?_ GE266.out | refine below_set ?_ GE270.out | refine below_set ?_ GE274.out | refine below_set ?_ GE278.out | refine below_set ?_ GE282.out | refine below_set ?_ GE286.out) | exact HB.out))))
        replace HO253 := Aside0.mk (Kd.R_elder' HO253.out (Kd.R_base ho0) hb)
        replace HO257 := Aside0.mk (Kd.R_elder' HO257.out (Kd.R_base ho0) hb)
        replace HO261 := Aside0.mk (Kd.R_elder' HO261.out (Kd.R_base ho0) hb)
        replace HO265 := Aside0.mk (Kd.R_elder' HO265.out (Kd.R_base ho0) hb)
        replace HO281 := Aside0.mk (Kd.R_elder' HO281.out (Kd.R_base ho0) hb)
        replace HO285 := Aside0.mk (Kd.R_elder' HO285.out (Kd.R_base ho0) hb)
        replace HO297 := Aside0.mk (Kd.R_elder' HO297.out (Kd.R_base ho0) hb)
        replace BK248 := Aside0.mk (blk_below BK248.out hb)
        replace BK249 := Aside0.mk (blk_below BK249.out hb)
        replace BK254 := Aside0.mk (blk_below BK254.out hb)
        replace BK258 := Aside0.mk (blk_below BK258.out hb)
        replace BK262 := Aside0.mk (blk_below BK262.out hb)
        replace BK266 := Aside0.mk (blk_below BK266.out hb)
        replace BK270 := Aside0.mk (blk_below BK270.out hb)
        replace BK274 := Aside0.mk (blk_below BK274.out hb)
        replace BK278 := Aside0.mk (blk_below BK278.out hb)
        replace BK282 := Aside0.mk (blk_below BK282.out hb)
        replace BK286 := Aside0.mk (blk_below BK286.out hb)
        replace HB := Aside0.mk (below_step (by repeat (first | (with_reducible first | exact HB.out | apply below_alloc | apply pw_below_drewN | apply below_drew1 | refine below_set ?_ GE248.out | refine below_set ?_ GE249.out | refine below_set ?_ GE254.out | refine below_set ?_ GE258.out | refine below_set ?_ GE262.out | refine below_set ?_ GE266.out | refine below_set ?_ GE270.out | refine below_set ?_ GE274.out | refine below_set ?_ GE278.out | refine below_set ?_ GE282.out | refine below_set ?_ GE286.out) | exact HB.out)) hb)
        (try clear hb)
        (try clear hb2)
        (try clear hk)
        (try clear hi)
        (try clear ho0)
        obtain ⟨Ao147, co147, eo147⟩ := Kd.R_slice HO300.out
        (first | subst eo147 | (injection eo147 with f1_ f2_ f3_; have f4_ := f1_.symm; have f5_ := f3_.symm; clear f1_ f2_ f3_; subst f4_; subst f5_))
        refine hK.out _ _ ⟨(blk_cell BK262.out 0).trans rfl, (blk_cell BK248.out 0).trans rfl, (blk_cell BK248.out 1).trans rfl, (blk_cell BK249.out 0).trans rfl, (blk_cell BK249.out 1).trans rfl, (blk_cell BK254.out 0).trans rfl, (blk_cell BK258.out 0).trans rfl⟩ (fun hHeld => ?_)
        clear hK K
        refine norm_ (a' := ?_) ?_ ?_
        rotate_left
        · show Act.put _ (some 82) _ = _
          simp only [Act.put, List.setIfInBounds_toArray, List.set_cons_zero, List.set_cons_succ, i64_w, i32_w]
          rfl
        refine one_ (i := 15) (N := some 83) (demurragelaw01_WideTells.ups 27 65535) rfl rfl (one_of HT_.out (by kernel_rfl)) (by decide) (fun K hK => ?_)
        refine goes_ Try.func14 (by kernel_rfl) rfl #[.agg #[.int .u64 t293, .int .u64 t294], .agg #[.slice Ao147 t298.length co147]] (by rfl) rfl rfl (by (try simp only [List.map_toArray, List.map_cons, List.map_nil]); first | done | rfl) ?_
        with_reducible refine (demurrageref01_Is.calls k t293 t294 _ _ t298 true _ ?side1 ?side2 A23.out).mono ?_
        (case side1 => repeat (first | exact (Kd.R_reads' HO300.out).2.2 | (with_reducible refine Kd.C_alloc ?_ _) | (with_reducible refine Kd.C_drewN ?_ _) | (with_reducible refine Kd.C_drew ?_)))
        (case side2 => exact (Kd.R_reads' HO300.out).2.1)
        rintro e w148 ⟨rfl, hb⟩
        refine ⟨_, rfl, ?_⟩
        replace HO253 := Aside0.mk (Kd.R_below HO253.out hb)
        replace HO257 := Aside0.mk (Kd.R_below HO257.out hb)
        replace HO261 := Aside0.mk (Kd.R_below HO261.out hb)
        replace HO265 := Aside0.mk (Kd.R_below HO265.out hb)
        replace HO281 := Aside0.mk (Kd.R_below HO281.out hb)
        replace HO285 := Aside0.mk (Kd.R_below HO285.out hb)
        replace HO297 := Aside0.mk (Kd.R_below HO297.out hb)
        replace HO300 := Aside0.mk (Kd.R_below HO300.out hb)
        replace BK248 := Aside0.mk (blk_below BK248.out hb)
        replace BK249 := Aside0.mk (blk_below BK249.out hb)
        replace BK254 := Aside0.mk (blk_below BK254.out hb)
        replace BK258 := Aside0.mk (blk_below BK258.out hb)
        replace BK262 := Aside0.mk (blk_below BK262.out hb)
        replace BK266 := Aside0.mk (blk_below BK266.out hb)
        replace BK270 := Aside0.mk (blk_below BK270.out hb)
        replace BK274 := Aside0.mk (blk_below BK274.out hb)
        replace BK278 := Aside0.mk (blk_below BK278.out hb)
        replace BK282 := Aside0.mk (blk_below BK282.out hb)
        replace BK286 := Aside0.mk (blk_below BK286.out hb)
        replace HB := Aside0.mk (below_step (by repeat (first | (with_reducible first | exact HB.out | apply below_alloc | apply pw_below_drewN | apply below_drew1 | refine below_set ?_ GE248.out | refine below_set ?_ GE249.out | refine below_set ?_ GE254.out | refine below_set ?_ GE258.out | refine below_set ?_ GE262.out | refine below_set ?_ GE266.out | refine below_set ?_ GE270.out | refine below_set ?_ GE274.out | refine below_set ?_ GE278.out | refine below_set ?_ GE282.out | refine below_set ?_ GE286.out) | exact HB.out)) hb)
        (try clear hb)
        (try clear hb2)
        (try clear hk)
        (try clear hi)
        refine hK.out _ _ ⟨(blk_cell BK262.out 0).trans rfl, (blk_cell BK248.out 0).trans rfl, (blk_cell BK248.out 1).trans rfl, (blk_cell BK249.out 0).trans rfl, (blk_cell BK249.out 1).trans rfl, (blk_cell BK254.out 0).trans rfl, (blk_cell BK258.out 0).trans rfl⟩ (fun hHeld => ?_)
        clear hK K
        refine norm_ (a' := ?_) ?_ ?_
        rotate_left
        · show Act.put _ (some 83) _ = _
          simp only [Act.put, List.setIfInBounds_toArray, List.set_cons_zero, List.set_cons_succ, i64_w, i32_w]
          rfl
        refine pure_ (i := 16) (N := some 84) (v := ?_) (a' := ?_) (demurragelaw01_WideTells.ups 27 131071) rfl rfl (any_of HT_.out (by kernel_rfl)) (fun _ _ _ h => h) (Or.inl ⟨by rfl, ?_⟩) ?_ ?_
        rotate_left
        · intro w'
          go_simp
          with_reducible rfl
        rotate_left
        · simp only [Act.put, List.setIfInBounds_toArray, List.set_cons_zero, List.set_cons_succ, i64_w, i32_w]
          rfl
        refine pure_ (i := 17) (N := some 85) (v := ?_) (a' := ?_) (demurragelaw01_WideTells.ups 27 262143) rfl rfl (any_of HT_.out (by kernel_rfl)) (fun _ _ _ h => h) (Or.inl ⟨by rfl, ?_⟩) ?_ ?_
        rotate_left
        · intro w'
          go_simp
          with_reducible rfl
        rotate_left
        · simp only [Act.put, List.setIfInBounds_toArray, List.set_cons_zero, List.set_cons_succ, i64_w, i32_w]
          rfl
        refine pure_ (i := 18) (N := some 86) (v := ?_) (a' := ?_) (demurragelaw01_WideTells.ups 27 524287) rfl rfl (any_of HT_.out (by kernel_rfl)) (fun _ _ _ h => h) (Or.inl ⟨by rfl, ?_⟩) ?_ ?_
        rotate_left
        · intro w'
          go_simp
          with_reducible rfl
        rotate_left
        · simp only [Act.put, List.setIfInBounds_toArray, List.set_cons_zero, List.set_cons_succ, i64_w, i32_w]
          rfl
        refine take_ (i := 19) (N := some 87) (v := ?_) (a' := ?_) (demurragelaw01_WideTells.ups 27 1048575) rfl rfl (take_ofW HT_.out HW_.out (by kernel_rfl)) (fun _ _ _ h => h) (Or.inl ⟨by rfl, ?_⟩) hHeld ?_ ?_
        rotate_left
        · rintro w' ⟨s0, s1, s2, s3, s4, s5, s6⟩
          go_simp
          with_reducible rfl
        rotate_left
        · simp only [Act.put, List.setIfInBounds_toArray, List.set_cons_zero, List.set_cons_succ, i64_w, i32_w]
          rfl
        refine take_ (i := 20) (N := some 88) (v := ?_) (a' := ?_) (demurragelaw01_WideTells.ups 27 2097151) rfl rfl (take_ofW HT_.out HW_.out (by kernel_rfl)) (fun _ _ _ h => h) (Or.inl ⟨by rfl, ?_⟩) hHeld ?_ ?_
        rotate_left
        · rintro w' ⟨s0, s1, s2, s3, s4, s5, s6⟩
          go_simp
          with_reducible rfl
        rotate_left
        · simp only [Act.put, List.setIfInBounds_toArray, List.set_cons_zero, List.set_cons_succ, i64_w, i32_w]
          rfl
        refine take_ (i := 22) (N := some 90) (v := ?_) (a' := ?_) (demurragelaw01_WideTells.ups 27 6291455) rfl rfl (take_ofW HT_.out HW_.out (by kernel_rfl)) (fun _ _ _ h => h) (Or.inl ⟨by rfl, ?_⟩) hHeld ?_ ?_
        rotate_left
        · rintro w' ⟨s0, s1, s2, s3, s4, s5, s6⟩
          go_simp
          with_reducible rfl
        rotate_left
        · simp only [Act.put, List.setIfInBounds_toArray, List.set_cons_zero, List.set_cons_succ, i64_w, i32_w]
          rfl
        refine take_ (i := 23) (N := some 91) (v := ?_) (a' := ?_) (demurragelaw01_WideTells.ups 27 14680063) rfl rfl (take_ofW HT_.out HW_.out (by kernel_rfl)) (fun _ _ _ h => h) (Or.inl ⟨by rfl, ?_⟩) hHeld ?_ ?_
        rotate_left
        · rintro w' ⟨s0, s1, s2, s3, s4, s5, s6⟩
          go_simp
          with_reducible rfl
        rotate_left
        · simp only [Act.put, List.setIfInBounds_toArray, List.set_cons_zero, List.set_cons_succ, i64_w, i32_w]
          rfl
        refine one_ (i := 21) (N := some 89) (demurragelaw01_WideTells.ups 27 16777215) rfl rfl (one_of HT_.out (by kernel_rfl)) (by decide) (fun K hK => ?_)
        refine goes_ Try.func17 (by kernel_rfl) rfl #[.agg #[.int .u64 a0_0, .int .u64 a0_1], .agg #[.int .u64 a1_0, .int .u64 a1_1]] (by rfl) rfl rfl (by (try simp only [List.map_toArray, List.map_cons, List.map_nil]); first | done | rfl) ?_
        with_reducible refine (wide_Cmp.calls a0_0 a0_1 a1_0 a1_1 t302 _ A25.out).mono ?_
        rintro e w149 ⟨rfl, hb⟩
        refine ⟨_, rfl, ?_⟩
        replace HO253 := Aside0.mk (Kd.R_below HO253.out hb)
        replace HO257 := Aside0.mk (Kd.R_below HO257.out hb)
        replace HO261 := Aside0.mk (Kd.R_below HO261.out hb)
        replace HO265 := Aside0.mk (Kd.R_below HO265.out hb)
        replace HO281 := Aside0.mk (Kd.R_below HO281.out hb)
        replace HO285 := Aside0.mk (Kd.R_below HO285.out hb)
        replace HO297 := Aside0.mk (Kd.R_below HO297.out hb)
        replace HO300 := Aside0.mk (Kd.R_below HO300.out hb)
        replace BK248 := Aside0.mk (blk_below BK248.out hb)
        replace BK249 := Aside0.mk (blk_below BK249.out hb)
        replace BK254 := Aside0.mk (blk_below BK254.out hb)
        replace BK258 := Aside0.mk (blk_below BK258.out hb)
        replace BK262 := Aside0.mk (blk_below BK262.out hb)
        replace BK266 := Aside0.mk (blk_below BK266.out hb)
        replace BK270 := Aside0.mk (blk_below BK270.out hb)
        replace BK274 := Aside0.mk (blk_below BK274.out hb)
        replace BK278 := Aside0.mk (blk_below BK278.out hb)
        replace BK282 := Aside0.mk (blk_below BK282.out hb)
        replace BK286 := Aside0.mk (blk_below BK286.out hb)
        replace HB := Aside0.mk (below_step (by repeat (first | (with_reducible first | exact HB.out | apply below_alloc | apply pw_below_drewN | apply below_drew1 | refine below_set ?_ GE248.out | refine below_set ?_ GE249.out | refine below_set ?_ GE254.out | refine below_set ?_ GE258.out | refine below_set ?_ GE262.out | refine below_set ?_ GE266.out | refine below_set ?_ GE270.out | refine below_set ?_ GE274.out | refine below_set ?_ GE278.out | refine below_set ?_ GE282.out | refine below_set ?_ GE286.out) | exact HB.out)) hb)
        (try clear hb)
        (try clear hb2)
        (try clear hk)
        (try clear hi)
        refine hK.out _ _ ⟨(blk_cell BK262.out 0).trans rfl, (blk_cell BK248.out 0).trans rfl, (blk_cell BK248.out 1).trans rfl, (blk_cell BK249.out 0).trans rfl, (blk_cell BK249.out 1).trans rfl, (blk_cell BK254.out 0).trans rfl, (blk_cell BK258.out 0).trans rfl⟩ (fun hHeld => ?_)
        clear hK K
        refine norm_ (a' := ?_) ?_ ?_
        rotate_left
        · show Act.put _ (some 89) _ = _
          simp only [Act.put, List.setIfInBounds_toArray, List.set_cons_zero, List.set_cons_succ, i64_w, i32_w]
          rfl
        refine one_ (i := 24) (N := some 92) (demurragelaw01_WideTells.ups 27 33554431) rfl rfl (one_of HT_.out (by kernel_rfl)) (by decide) (fun K hK => ?_)
        refine goes_ Try.func13 (by kernel_rfl) rfl #[.agg #[.slice Ao36 t251.length co36], .agg #[.slice Ao43 t255.length co43]] (by rfl) rfl rfl (by (try simp only [List.map_toArray, List.map_cons, List.map_nil]); first | done | rfl) ?_
        with_reducible refine (demurrageref01_Cmp.calls k _ _ t251 _ _ t255 t303 _ ?side1 ?side2 ?side3 ?side4 A26.out).mono ?_
        (case side1 => repeat (first | exact (Kd.R_reads' HO253.out).2.2 | (with_reducible refine Kd.C_alloc ?_ _) | (with_reducible refine Kd.C_drewN ?_ _) | (with_reducible refine Kd.C_drew ?_)))
        (case side2 => exact (Kd.R_reads' HO253.out).2.1)
        (case side3 => repeat (first | exact (Kd.R_reads' HO257.out).2.2 | (with_reducible refine Kd.C_alloc ?_ _) | (with_reducible refine Kd.C_drewN ?_ _) | (with_reducible refine Kd.C_drew ?_)))
        (case side4 => exact (Kd.R_reads' HO257.out).2.1)
        rintro e w150 ⟨rfl, hb⟩
        refine ⟨_, rfl, ?_⟩
        replace HO253 := Aside0.mk (Kd.R_below HO253.out hb)
        replace HO257 := Aside0.mk (Kd.R_below HO257.out hb)
        replace HO261 := Aside0.mk (Kd.R_below HO261.out hb)
        replace HO265 := Aside0.mk (Kd.R_below HO265.out hb)
        replace HO281 := Aside0.mk (Kd.R_below HO281.out hb)
        replace HO285 := Aside0.mk (Kd.R_below HO285.out hb)
        replace HO297 := Aside0.mk (Kd.R_below HO297.out hb)
        replace HO300 := Aside0.mk (Kd.R_below HO300.out hb)
        replace BK248 := Aside0.mk (blk_below BK248.out hb)
        replace BK249 := Aside0.mk (blk_below BK249.out hb)
        replace BK254 := Aside0.mk (blk_below BK254.out hb)
        replace BK258 := Aside0.mk (blk_below BK258.out hb)
        replace BK262 := Aside0.mk (blk_below BK262.out hb)
        replace BK266 := Aside0.mk (blk_below BK266.out hb)
        replace BK270 := Aside0.mk (blk_below BK270.out hb)
        replace BK274 := Aside0.mk (blk_below BK274.out hb)
        replace BK278 := Aside0.mk (blk_below BK278.out hb)
        replace BK282 := Aside0.mk (blk_below BK282.out hb)
        replace BK286 := Aside0.mk (blk_below BK286.out hb)
        replace HB := Aside0.mk (below_step (by repeat (first | (with_reducible first | exact HB.out | apply below_alloc | apply pw_below_drewN | apply below_drew1 | refine below_set ?_ GE248.out | refine below_set ?_ GE249.out | refine below_set ?_ GE254.out | refine below_set ?_ GE258.out | refine below_set ?_ GE262.out | refine below_set ?_ GE266.out | refine below_set ?_ GE270.out | refine below_set ?_ GE274.out | refine below_set ?_ GE278.out | refine below_set ?_ GE282.out | refine below_set ?_ GE286.out) | exact HB.out)) hb)
        (try clear hb)
        (try clear hb2)
        (try clear hk)
        (try clear hi)
        refine hK.out _ _ ⟨(blk_cell BK262.out 0).trans rfl, (blk_cell BK248.out 0).trans rfl, (blk_cell BK248.out 1).trans rfl, (blk_cell BK249.out 0).trans rfl, (blk_cell BK249.out 1).trans rfl, (blk_cell BK254.out 0).trans rfl, (blk_cell BK258.out 0).trans rfl⟩ (fun hHeld => ?_)
        clear hK K
        refine norm_ (a' := ?_) ?_ ?_
        rotate_left
        · show Act.put _ (some 92) _ = _
          simp only [Act.put, List.setIfInBounds_toArray, List.set_cons_zero, List.set_cons_succ, i64_w, i32_w]
          rfl
        refine pure_ (i := 25) (N := some 93) (v := ?_) (a' := ?_) (demurragelaw01_WideTells.ups 27 67108863) rfl rfl (any_of HT_.out (by kernel_rfl)) (fun _ _ _ h => h) (Or.inl ⟨by rfl, ?_⟩) ?_ ?_
        rotate_left
        · intro w'
          go_simp
          with_reducible rfl
        rotate_left
        · simp only [Act.put, List.setIfInBounds_toArray, List.set_cons_zero, List.set_cons_succ, i64_w, i32_w]
          rfl
        refine pure_ (i := 26) (N := some 94) (v := ?_) (a' := ?_) (demurragelaw01_WideTells.ups 27 134217727) rfl rfl (any_of HT_.out (by kernel_rfl)) (fun _ _ _ h => h) (Or.inl ⟨by rfl, ?_⟩) ?_ ?_
        rotate_left
        · intro w'
          go_simp
          with_reducible rfl
        rotate_left
        · simp only [Act.put, List.setIfInBounds_toArray, List.set_cons_zero, List.set_cons_succ, i64_w, i32_w]
          rfl
        refine done_ (done_of HT_.out (by kernel_rfl)) ?_
        go_upto_region 16 with (fail)
        go_cut [20, 21, 22, 134] (fun v20 v21 v22 v134 wc => ∃ (kq : Nat) (x134_27 : Bool), v20 = .bool (decide (t287 < 0)) ∧ v21 = .bool (decide (t288 < 0)) ∧ v22 = .bool (decide (0 ≤ t289)) ∧ v134 = .bool x134_27 ∧ Aside0 (demurragelaw01_WideTells.j0 kq t250 (decide (t287 < 0)) (decide (t288 < 0)) (decide (0 ≤ t289)) x134_27 t251 t255 t267 t268 t271 t272 t275 t276 t279 t283 = some r) ∧ Aside0 (kq ≤ k) ∧ Aside0 (Kd.R (Kd.int .i64) 3 wc w.heap.size (fun k_ => some k_ ≠ ((.slice Ao43 t255.length co43) : Value).ownBlock ∧ some k_ ≠ ((.slice Ao50 t259.length co50) : Value).ownBlock ∧ some k_ ≠ ((.slice Ao58 t263.length co58) : Value).ownBlock ∧ some k_ ≠ ((.slice Ao104 t279.length co104) : Value).ownBlock ∧ some k_ ≠ ((.slice Ao119 t283.length co119) : Value).ownBlock) (.slice Ao36 t251.length co36) t251) ∧ Aside0 (Kd.R (Kd.int .i64) 3 wc w.heap.size (fun k_ => some k_ ≠ ((.slice Ao36 t251.length co36) : Value).ownBlock ∧ some k_ ≠ ((.slice Ao50 t259.length co50) : Value).ownBlock ∧ some k_ ≠ ((.slice Ao58 t263.length co58) : Value).ownBlock ∧ some k_ ≠ ((.slice Ao104 t279.length co104) : Value).ownBlock ∧ some k_ ≠ ((.slice Ao119 t283.length co119) : Value).ownBlock) (.slice Ao43 t255.length co43) t255) ∧ Aside0 (Kd.R (Kd.int .i64) 3 wc w.heap.size (fun k_ => some k_ ≠ ((.slice Ao36 t251.length co36) : Value).ownBlock ∧ some k_ ≠ ((.slice Ao43 t255.length co43) : Value).ownBlock ∧ some k_ ≠ ((.slice Ao58 t263.length co58) : Value).ownBlock ∧ some k_ ≠ ((.slice Ao104 t279.length co104) : Value).ownBlock ∧ some k_ ≠ ((.slice Ao119 t283.length co119) : Value).ownBlock) (.slice Ao50 t259.length co50) t259) ∧ Aside0 (Kd.R (Kd.int .i64) 3 wc w.heap.size (fun k_ => some k_ ≠ ((.slice Ao36 t251.length co36) : Value).ownBlock ∧ some k_ ≠ ((.slice Ao43 t255.length co43) : Value).ownBlock ∧ some k_ ≠ ((.slice Ao50 t259.length co50) : Value).ownBlock ∧ some k_ ≠ ((.slice Ao104 t279.length co104) : Value).ownBlock ∧ some k_ ≠ ((.slice Ao119 t283.length co119) : Value).ownBlock) (.slice Ao58 t263.length co58) t263) ∧ Aside0 (Kd.R (Kd.int .i64) 3 wc w.heap.size (fun k_ => some k_ ≠ ((.slice Ao36 t251.length co36) : Value).ownBlock ∧ some k_ ≠ ((.slice Ao43 t255.length co43) : Value).ownBlock ∧ some k_ ≠ ((.slice Ao50 t259.length co50) : Value).ownBlock ∧ some k_ ≠ ((.slice Ao58 t263.length co58) : Value).ownBlock ∧ some k_ ≠ ((.slice Ao119 t283.length co119) : Value).ownBlock) (.slice Ao104 t279.length co104) t279) ∧ Aside0 (Kd.R (Kd.int .i64) 3 wc w.heap.size (fun k_ => some k_ ≠ ((.slice Ao36 t251.length co36) : Value).ownBlock ∧ some k_ ≠ ((.slice Ao43 t255.length co43) : Value).ownBlock ∧ some k_ ≠ ((.slice Ao50 t259.length co50) : Value).ownBlock ∧ some k_ ≠ ((.slice Ao58 t263.length co58) : Value).ownBlock ∧ some k_ ≠ ((.slice Ao104 t279.length co104) : Value).ownBlock) (.slice Ao119 t283.length co119) t283) ∧ Aside0 (wc.heap[gb248]? = some (.cells #[.int .u64 a0_0, .int .u64 a0_1] 24 (0, 0))) ∧ Aside0 (wc.heap[gb249]? = some (.cells #[.int .u64 a1_0, .int .u64 a1_1] 24 (0, 0))) ∧ Aside0 (wc.heap[gb254]? = some (.cells #[(.slice Ao36 t251.length co36)] 28 (0, 0))) ∧ Aside0 (wc.heap[gb258]? = some (.cells #[(.slice Ao43 t255.length co43)] 28 (0, 0))) ∧ Aside0 (wc.heap[gb262]? = some (.cells #[(.slice Ao50 t259.length co50)] 28 (0, 0))) ∧ Aside0 (wc.heap[gb266]? = some (.cells #[(.slice Ao58 t263.length co58)] 28 (0, 0))) ∧ Aside0 (wc.heap[gb270]? = some (.cells #[.int .u64 t267, .int .u64 t268] 24 (0, 0))) ∧ Aside0 (wc.heap[gb274]? = some (.cells #[.int .u64 t271, .int .u64 t272] 24 (0, 0))) ∧ Aside0 (wc.heap[gb278]? = some (.cells #[.int .u64 t275, .int .u64 t276] 24 (0, 0))) ∧ Aside0 (wc.heap[gb282]? = some (.cells #[(.slice Ao104 t279.length co104)] 28 (0, 0))) ∧ Aside0 (wc.heap[gb286]? = some (.cells #[(.slice Ao119 t283.length co119)] 28 (0, 0))) ∧ Aside0 (Below w.heap.size w wc))
        case first =>
          have H := HC28.out
          clear HC28
          by_cases c151 : ((t269 == 0) != (decide (t287 < 0))) = true
          · rw [if_pos c151] at H
            exact absurd H (by simp)
          · rw [if_neg c151] at H
            have c151b0 : ((t269 == 0) != (decide (t287 < 0))) = false := by simpa using c151
            (try (have c151b1 : decide ((t269 == 0) = (decide (t287 < 0))) = true := by simpa using c151))
            (try (have c151b2 : ((t269 == 0) == (decide (t287 < 0))) = true := by simpa using c151))
            clear c151
            (first | rw [c151b0] | (simp only [i64_w, i32_w]; rw [c151b0]) | rw [c151b1] | skip)
            by_cases c152 : ((t273 == 0) != (decide (t288 < 0))) = true
            · rw [if_pos c152] at H
              exact absurd H (by simp)
            · rw [if_neg c152] at H
              have c152b0 : ((t273 == 0) != (decide (t288 < 0))) = false := by simpa using c152
              (try (have c152b1 : decide ((t273 == 0) = (decide (t288 < 0))) = true := by simpa using c152))
              (try (have c152b2 : ((t273 == 0) == (decide (t288 < 0))) = true := by simpa using c152))
              clear c152
              by_cases c153 : ((t277 == 0) != (decide (0 ≤ t289))) = true
              · rw [if_pos c153] at H
                exact absurd H (by simp)
              · rw [if_neg c153] at H
                have c153b0 : ((t277 == 0) != (decide (0 ≤ t289))) = false := by simpa using c153
                (try (have c153b1 : decide ((t277 == 0) = (decide (0 ≤ t289))) = true := by simpa using c153))
                (try (have c153b2 : ((t277 == 0) == (decide (0 ≤ t289))) = true := by simpa using c153))
                clear c153
                by_cases c154 : t269 = 0
                · rw [if_pos c154] at H
                  have c154b0 : (t269 == 0) = true := beq_iff_eq.mpr c154
                  have dz : decide (t287 < 0) = true := by have z := c151b0; rw [c154b0] at z; simpa using z
                  have dy : t287 < 0 := of_decide_eq_true dz
                  have c154b1 : (t269 != 0) = false := bne_eq_false_iff_eq.mpr c154
                  clear c154
                  by_cases c155 : t273 = 0
                  · rw [if_pos c155] at H
                    have c155b0 : (t273 == 0) = true := beq_iff_eq.mpr c155
                    have ez : decide (t288 < 0) = true := by have z := c152b0; rw [c155b0] at z; simpa using z
                    have ey : t288 < 0 := of_decide_eq_true ez
                    have c155b1 : (t273 != 0) = false := bne_eq_false_iff_eq.mpr c155
                    clear c155
                    by_cases c156 : t277 = 0
                    · rw [if_pos c156] at H
                      have c156b0 : (t277 == 0) = true := beq_iff_eq.mpr c156
                      have cz : decide (0 ≤ t289) = true := by have z := c153b0; rw [c156b0] at z; simpa using z
                      have cy : 0 ≤ t289 := of_decide_eq_true cz
                      have c156b1 : (t277 != 0) = false := bne_eq_false_iff_eq.mpr c156
                      clear c156
                      have H' := Aside0.mk H
                      clear H
                      go_wp2
                      go_meet
                      case rel => exact ⟨_, (false), (by first | rfl | (simp; done) | (simp [*]; done)), (by first | rfl | (simp; done) | (simp [*]; done)), (by first | rfl | (simp; done) | (simp [*]; done)), (by first | rfl | (simp; done) | (simp [*]; done)), H', ⟨by first | omega | exact Nat.le_refl _⟩, ⟨by (with_reducible repeat (first | apply Kd.R_alloc | apply Kd.R_drewN | apply Kd.R_drew)); exact Kd.R_mono HO253.out (fun _ hk => (And.intro (hk.1.1.1.1.1.1.2) ((And.intro (hk.1.1.1.1.1.2) ((And.intro (hk.1.1.1.1.2) ((And.intro (hk.1.1.1.2) (hk.1.1.2)))))))))⟩, ⟨by (with_reducible repeat (first | apply Kd.R_alloc | apply Kd.R_drewN | apply Kd.R_drew)); exact Kd.R_mono HO257.out (fun _ hk => (And.intro (hk.1.1.1.1.1.1.2) ((And.intro (hk.1.1.1.1.1.2) ((And.intro (hk.1.1.1.1.2) ((And.intro (hk.1.1.1.2) (hk.1.1.2)))))))))⟩, ⟨by (with_reducible repeat (first | apply Kd.R_alloc | apply Kd.R_drewN | apply Kd.R_drew)); exact Kd.R_mono HO261.out (fun _ hk => (And.intro (hk.1.1.1.1.1.1.2) ((And.intro (hk.1.1.1.1.1.2) ((And.intro (hk.1.1.1.1.2) ((And.intro (hk.1.1.1.2) (hk.1.1.2)))))))))⟩, ⟨by (with_reducible repeat (first | apply Kd.R_alloc | apply Kd.R_drewN | apply Kd.R_drew)); exact Kd.R_mono HO265.out (fun _ hk => (And.intro (hk.1.1.1.1.1.1.2) ((And.intro (hk.1.1.1.1.1.2) ((And.intro (hk.1.1.1.1.2) ((And.intro (hk.1.1.1.2) (hk.1.1.2)))))))))⟩, ⟨by (with_reducible repeat (first | apply Kd.R_alloc | apply Kd.R_drewN | apply Kd.R_drew)); exact Kd.R_mono HO281.out (fun _ hk => (And.intro (hk.1.1.1.1.1.1.2) ((And.intro (hk.1.1.1.1.1.2) ((And.intro (hk.1.1.1.1.2) ((And.intro (hk.1.1.1.2) (hk.1.1.2)))))))))⟩, ⟨by (with_reducible repeat (first | apply Kd.R_alloc | apply Kd.R_drewN | apply Kd.R_drew)); exact Kd.R_mono HO285.out (fun _ hk => (And.intro (hk.1.1.1.1.1.1.2) ((And.intro (hk.1.1.1.1.1.2) ((And.intro (hk.1.1.1.1.2) ((And.intro (hk.1.1.1.2) (hk.1.1.2)))))))))⟩, ⟨by exact BK248.out⟩, ⟨by exact BK249.out⟩, ⟨by exact BK254.out⟩, ⟨by exact BK258.out⟩, ⟨by exact BK262.out⟩, ⟨by exact BK266.out⟩, ⟨by exact BK270.out⟩, ⟨by exact BK274.out⟩, ⟨by exact BK278.out⟩, ⟨by exact BK282.out⟩, ⟨by exact BK286.out⟩, ⟨by repeat (first | (with_reducible first | exact HB.out | apply below_alloc | apply pw_below_drewN | apply below_drew1 | refine below_set ?_ GE248.out | refine below_set ?_ GE249.out | refine below_set ?_ GE254.out | refine below_set ?_ GE258.out | refine below_set ?_ GE262.out | refine below_set ?_ GE266.out | refine below_set ?_ GE270.out | refine below_set ?_ GE274.out | refine below_set ?_ GE278.out | refine below_set ?_ GE282.out | refine below_set ?_ GE286.out) | exact HB.out)⟩⟩
                    · rw [if_neg c156] at H
                      have c156b0 : (t277 == 0) = false := beq_eq_false_iff_ne.mpr c156
                      have cz : decide (0 ≤ t289) = false := by have z := c153b0; rw [c156b0] at z; simpa using z
                      have cy : ¬ 0 ≤ t289 := of_decide_eq_false cz
                      have c156b1 : (t277 != 0) = true := bne_iff_ne.mpr c156
                      have H' := Aside0.mk H
                      clear H
                      go_wp2
                      go_meet
                      case rel => exact ⟨_, ((t277 != 6)), (by first | rfl | (simp; done) | (simp [*]; done)), (by first | rfl | (simp; done) | (simp [*]; done)), (by first | rfl | (simp; done) | (simp [*]; done)), (by first | rfl | (simp; done) | (simp [*]; done)), H', ⟨by first | omega | exact Nat.le_refl _⟩, ⟨by (with_reducible repeat (first | apply Kd.R_alloc | apply Kd.R_drewN | apply Kd.R_drew)); exact Kd.R_mono HO253.out (fun _ hk => (And.intro (hk.1.1.1.1.1.1.2) ((And.intro (hk.1.1.1.1.1.2) ((And.intro (hk.1.1.1.1.2) ((And.intro (hk.1.1.1.2) (hk.1.1.2)))))))))⟩, ⟨by (with_reducible repeat (first | apply Kd.R_alloc | apply Kd.R_drewN | apply Kd.R_drew)); exact Kd.R_mono HO257.out (fun _ hk => (And.intro (hk.1.1.1.1.1.1.2) ((And.intro (hk.1.1.1.1.1.2) ((And.intro (hk.1.1.1.1.2) ((And.intro (hk.1.1.1.2) (hk.1.1.2)))))))))⟩, ⟨by (with_reducible repeat (first | apply Kd.R_alloc | apply Kd.R_drewN | apply Kd.R_drew)); exact Kd.R_mono HO261.out (fun _ hk => (And.intro (hk.1.1.1.1.1.1.2) ((And.intro (hk.1.1.1.1.1.2) ((And.intro (hk.1.1.1.1.2) ((And.intro (hk.1.1.1.2) (hk.1.1.2)))))))))⟩, ⟨by (with_reducible repeat (first | apply Kd.R_alloc | apply Kd.R_drewN | apply Kd.R_drew)); exact Kd.R_mono HO265.out (fun _ hk => (And.intro (hk.1.1.1.1.1.1.2) ((And.intro (hk.1.1.1.1.1.2) ((And.intro (hk.1.1.1.1.2) ((And.intro (hk.1.1.1.2) (hk.1.1.2)))))))))⟩, ⟨by (with_reducible repeat (first | apply Kd.R_alloc | apply Kd.R_drewN | apply Kd.R_drew)); exact Kd.R_mono HO281.out (fun _ hk => (And.intro (hk.1.1.1.1.1.1.2) ((And.intro (hk.1.1.1.1.1.2) ((And.intro (hk.1.1.1.1.2) ((And.intro (hk.1.1.1.2) (hk.1.1.2)))))))))⟩, ⟨by (with_reducible repeat (first | apply Kd.R_alloc | apply Kd.R_drewN | apply Kd.R_drew)); exact Kd.R_mono HO285.out (fun _ hk => (And.intro (hk.1.1.1.1.1.1.2) ((And.intro (hk.1.1.1.1.1.2) ((And.intro (hk.1.1.1.1.2) ((And.intro (hk.1.1.1.2) (hk.1.1.2)))))))))⟩, ⟨by exact BK248.out⟩, ⟨by exact BK249.out⟩, ⟨by exact BK254.out⟩, ⟨by exact BK258.out⟩, ⟨by exact BK262.out⟩, ⟨by exact BK266.out⟩, ⟨by exact BK270.out⟩, ⟨by exact BK274.out⟩, ⟨by exact BK278.out⟩, ⟨by exact BK282.out⟩, ⟨by exact BK286.out⟩, ⟨by repeat (first | (with_reducible first | exact HB.out | apply below_alloc | apply pw_below_drewN | apply below_drew1 | refine below_set ?_ GE248.out | refine below_set ?_ GE249.out | refine below_set ?_ GE254.out | refine below_set ?_ GE258.out | refine below_set ?_ GE262.out | refine below_set ?_ GE266.out | refine below_set ?_ GE270.out | refine below_set ?_ GE274.out | refine below_set ?_ GE278.out | refine below_set ?_ GE282.out | refine below_set ?_ GE286.out) | exact HB.out)⟩⟩
                  · rw [if_neg c155] at H
                    have c155b0 : (t273 == 0) = false := beq_eq_false_iff_ne.mpr c155
                    have ez : decide (t288 < 0) = false := by have z := c152b0; rw [c155b0] at z; simpa using z
                    have ey : ¬ t288 < 0 := of_decide_eq_false ez
                    have c155b1 : (t273 != 0) = true := bne_iff_ne.mpr c155
                    by_cases c157 : t273 = 6
                    · rw [if_pos c157] at H
                      have c157b0 : (t273 == 6) = true := beq_iff_eq.mpr c157
                      have c157b1 : (t273 != 6) = false := bne_eq_false_iff_eq.mpr c157
                      clear c157
                      by_cases c158 : t277 = 0
                      · rw [if_pos c158] at H
                        have c158b0 : (t277 == 0) = true := beq_iff_eq.mpr c158
                        have cz : decide (0 ≤ t289) = true := by have z := c153b0; rw [c158b0] at z; simpa using z
                        have cy : 0 ≤ t289 := of_decide_eq_true cz
                        have c158b1 : (t277 != 0) = false := bne_eq_false_iff_eq.mpr c158
                        clear c158
                        have H' := Aside0.mk H
                        clear H
                        go_wp2
                        go_meet
                        case rel => exact ⟨_, (false), (by first | rfl | (simp; done) | (simp [*]; done)), (by first | rfl | (simp; done) | (simp [*]; done)), (by first | rfl | (simp; done) | (simp [*]; done)), (by first | rfl | (simp; done) | (simp [*]; done)), H', ⟨by first | omega | exact Nat.le_refl _⟩, ⟨by (with_reducible repeat (first | apply Kd.R_alloc | apply Kd.R_drewN | apply Kd.R_drew)); exact Kd.R_mono HO253.out (fun _ hk => (And.intro (hk.1.1.1.1.1.1.2) ((And.intro (hk.1.1.1.1.1.2) ((And.intro (hk.1.1.1.1.2) ((And.intro (hk.1.1.1.2) (hk.1.1.2)))))))))⟩, ⟨by (with_reducible repeat (first | apply Kd.R_alloc | apply Kd.R_drewN | apply Kd.R_drew)); exact Kd.R_mono HO257.out (fun _ hk => (And.intro (hk.1.1.1.1.1.1.2) ((And.intro (hk.1.1.1.1.1.2) ((And.intro (hk.1.1.1.1.2) ((And.intro (hk.1.1.1.2) (hk.1.1.2)))))))))⟩, ⟨by (with_reducible repeat (first | apply Kd.R_alloc | apply Kd.R_drewN | apply Kd.R_drew)); exact Kd.R_mono HO261.out (fun _ hk => (And.intro (hk.1.1.1.1.1.1.2) ((And.intro (hk.1.1.1.1.1.2) ((And.intro (hk.1.1.1.1.2) ((And.intro (hk.1.1.1.2) (hk.1.1.2)))))))))⟩, ⟨by (with_reducible repeat (first | apply Kd.R_alloc | apply Kd.R_drewN | apply Kd.R_drew)); exact Kd.R_mono HO265.out (fun _ hk => (And.intro (hk.1.1.1.1.1.1.2) ((And.intro (hk.1.1.1.1.1.2) ((And.intro (hk.1.1.1.1.2) ((And.intro (hk.1.1.1.2) (hk.1.1.2)))))))))⟩, ⟨by (with_reducible repeat (first | apply Kd.R_alloc | apply Kd.R_drewN | apply Kd.R_drew)); exact Kd.R_mono HO281.out (fun _ hk => (And.intro (hk.1.1.1.1.1.1.2) ((And.intro (hk.1.1.1.1.1.2) ((And.intro (hk.1.1.1.1.2) ((And.intro (hk.1.1.1.2) (hk.1.1.2)))))))))⟩, ⟨by (with_reducible repeat (first | apply Kd.R_alloc | apply Kd.R_drewN | apply Kd.R_drew)); exact Kd.R_mono HO285.out (fun _ hk => (And.intro (hk.1.1.1.1.1.1.2) ((And.intro (hk.1.1.1.1.1.2) ((And.intro (hk.1.1.1.1.2) ((And.intro (hk.1.1.1.2) (hk.1.1.2)))))))))⟩, ⟨by exact BK248.out⟩, ⟨by exact BK249.out⟩, ⟨by exact BK254.out⟩, ⟨by exact BK258.out⟩, ⟨by exact BK262.out⟩, ⟨by exact BK266.out⟩, ⟨by exact BK270.out⟩, ⟨by exact BK274.out⟩, ⟨by exact BK278.out⟩, ⟨by exact BK282.out⟩, ⟨by exact BK286.out⟩, ⟨by repeat (first | (with_reducible first | exact HB.out | apply below_alloc | apply pw_below_drewN | apply below_drew1 | refine below_set ?_ GE248.out | refine below_set ?_ GE249.out | refine below_set ?_ GE254.out | refine below_set ?_ GE258.out | refine below_set ?_ GE262.out | refine below_set ?_ GE266.out | refine below_set ?_ GE270.out | refine below_set ?_ GE274.out | refine below_set ?_ GE278.out | refine below_set ?_ GE282.out | refine below_set ?_ GE286.out) | exact HB.out)⟩⟩
                      · rw [if_neg c158] at H
                        have c158b0 : (t277 == 0) = false := beq_eq_false_iff_ne.mpr c158
                        have cz : decide (0 ≤ t289) = false := by have z := c153b0; rw [c158b0] at z; simpa using z
                        have cy : ¬ 0 ≤ t289 := of_decide_eq_false cz
                        have c158b1 : (t277 != 0) = true := bne_iff_ne.mpr c158
                        have H' := Aside0.mk H
                        clear H
                        go_wp2
                        go_meet
                        case rel => exact ⟨_, ((t277 != 6)), (by first | rfl | (simp; done) | (simp [*]; done)), (by first | rfl | (simp; done) | (simp [*]; done)), (by first | rfl | (simp; done) | (simp [*]; done)), (by first | rfl | (simp; done) | (simp [*]; done)), H', ⟨by first | omega | exact Nat.le_refl _⟩, ⟨by (with_reducible repeat (first | apply Kd.R_alloc | apply Kd.R_drewN | apply Kd.R_drew)); exact Kd.R_mono HO253.out (fun _ hk => (And.intro (hk.1.1.1.1.1.1.2) ((And.intro (hk.1.1.1.1.1.2) ((And.intro (hk.1.1.1.1.2) ((And.intro (hk.1.1.1.2) (hk.1.1.2)))))))))⟩, ⟨by (with_reducible repeat (first | apply Kd.R_alloc | apply Kd.R_drewN | apply Kd.R_drew)); exact Kd.R_mono HO257.out (fun _ hk => (And.intro (hk.1.1.1.1.1.1.2) ((And.intro (hk.1.1.1.1.1.2) ((And.intro (hk.1.1.1.1.2) ((And.intro (hk.1.1.1.2) (hk.1.1.2)))))))))⟩, ⟨by (with_reducible repeat (first | apply Kd.R_alloc | apply Kd.R_drewN | apply Kd.R_drew)); exact Kd.R_mono HO261.out (fun _ hk => (And.intro (hk.1.1.1.1.1.1.2) ((And.intro (hk.1.1.1.1.1.2) ((And.intro (hk.1.1.1.1.2) ((And.intro (hk.1.1.1.2) (hk.1.1.2)))))))))⟩, ⟨by (with_reducible repeat (first | apply Kd.R_alloc | apply Kd.R_drewN | apply Kd.R_drew)); exact Kd.R_mono HO265.out (fun _ hk => (And.intro (hk.1.1.1.1.1.1.2) ((And.intro (hk.1.1.1.1.1.2) ((And.intro (hk.1.1.1.1.2) ((And.intro (hk.1.1.1.2) (hk.1.1.2)))))))))⟩, ⟨by (with_reducible repeat (first | apply Kd.R_alloc | apply Kd.R_drewN | apply Kd.R_drew)); exact Kd.R_mono HO281.out (fun _ hk => (And.intro (hk.1.1.1.1.1.1.2) ((And.intro (hk.1.1.1.1.1.2) ((And.intro (hk.1.1.1.1.2) ((And.intro (hk.1.1.1.2) (hk.1.1.2)))))))))⟩, ⟨by (with_reducible repeat (first | apply Kd.R_alloc | apply Kd.R_drewN | apply Kd.R_drew)); exact Kd.R_mono HO285.out (fun _ hk => (And.intro (hk.1.1.1.1.1.1.2) ((And.intro (hk.1.1.1.1.1.2) ((And.intro (hk.1.1.1.1.2) ((And.intro (hk.1.1.1.2) (hk.1.1.2)))))))))⟩, ⟨by exact BK248.out⟩, ⟨by exact BK249.out⟩, ⟨by exact BK254.out⟩, ⟨by exact BK258.out⟩, ⟨by exact BK262.out⟩, ⟨by exact BK266.out⟩, ⟨by exact BK270.out⟩, ⟨by exact BK274.out⟩, ⟨by exact BK278.out⟩, ⟨by exact BK282.out⟩, ⟨by exact BK286.out⟩, ⟨by repeat (first | (with_reducible first | exact HB.out | apply below_alloc | apply pw_below_drewN | apply below_drew1 | refine below_set ?_ GE248.out | refine below_set ?_ GE249.out | refine below_set ?_ GE254.out | refine below_set ?_ GE258.out | refine below_set ?_ GE262.out | refine below_set ?_ GE266.out | refine below_set ?_ GE270.out | refine below_set ?_ GE274.out | refine below_set ?_ GE278.out | refine below_set ?_ GE282.out | refine below_set ?_ GE286.out) | exact HB.out)⟩⟩
                    · rw [if_neg c157] at H
                      exact absurd H (by simp)
                · rw [if_neg c154] at H
                  have c154b0 : (t269 == 0) = false := beq_eq_false_iff_ne.mpr c154
                  have dz : decide (t287 < 0) = false := by have z := c151b0; rw [c154b0] at z; simpa using z
                  have dy : ¬ t287 < 0 := of_decide_eq_false dz
                  have c154b1 : (t269 != 0) = true := bne_iff_ne.mpr c154
                  by_cases c159 : t269 = 6
                  · rw [if_pos c159] at H
                    have c159b0 : (t269 == 6) = true := beq_iff_eq.mpr c159
                    have c159b1 : (t269 != 6) = false := bne_eq_false_iff_eq.mpr c159
                    clear c159
                    by_cases c160 : t273 = 0
                    · rw [if_pos c160] at H
                      have c160b0 : (t273 == 0) = true := beq_iff_eq.mpr c160
                      have ez : decide (t288 < 0) = true := by have z := c152b0; rw [c160b0] at z; simpa using z
                      have ey : t288 < 0 := of_decide_eq_true ez
                      have c160b1 : (t273 != 0) = false := bne_eq_false_iff_eq.mpr c160
                      clear c160
                      by_cases c161 : t277 = 0
                      · rw [if_pos c161] at H
                        have c161b0 : (t277 == 0) = true := beq_iff_eq.mpr c161
                        have cz : decide (0 ≤ t289) = true := by have z := c153b0; rw [c161b0] at z; simpa using z
                        have cy : 0 ≤ t289 := of_decide_eq_true cz
                        have c161b1 : (t277 != 0) = false := bne_eq_false_iff_eq.mpr c161
                        clear c161
                        have H' := Aside0.mk H
                        clear H
                        go_wp2
                        go_meet
                        case rel => exact ⟨_, (false), (by first | rfl | (simp; done) | (simp [*]; done)), (by first | rfl | (simp; done) | (simp [*]; done)), (by first | rfl | (simp; done) | (simp [*]; done)), (by first | rfl | (simp; done) | (simp [*]; done)), H', ⟨by first | omega | exact Nat.le_refl _⟩, ⟨by (with_reducible repeat (first | apply Kd.R_alloc | apply Kd.R_drewN | apply Kd.R_drew)); exact Kd.R_mono HO253.out (fun _ hk => (And.intro (hk.1.1.1.1.1.1.2) ((And.intro (hk.1.1.1.1.1.2) ((And.intro (hk.1.1.1.1.2) ((And.intro (hk.1.1.1.2) (hk.1.1.2)))))))))⟩, ⟨by (with_reducible repeat (first | apply Kd.R_alloc | apply Kd.R_drewN | apply Kd.R_drew)); exact Kd.R_mono HO257.out (fun _ hk => (And.intro (hk.1.1.1.1.1.1.2) ((And.intro (hk.1.1.1.1.1.2) ((And.intro (hk.1.1.1.1.2) ((And.intro (hk.1.1.1.2) (hk.1.1.2)))))))))⟩, ⟨by (with_reducible repeat (first | apply Kd.R_alloc | apply Kd.R_drewN | apply Kd.R_drew)); exact Kd.R_mono HO261.out (fun _ hk => (And.intro (hk.1.1.1.1.1.1.2) ((And.intro (hk.1.1.1.1.1.2) ((And.intro (hk.1.1.1.1.2) ((And.intro (hk.1.1.1.2) (hk.1.1.2)))))))))⟩, ⟨by (with_reducible repeat (first | apply Kd.R_alloc | apply Kd.R_drewN | apply Kd.R_drew)); exact Kd.R_mono HO265.out (fun _ hk => (And.intro (hk.1.1.1.1.1.1.2) ((And.intro (hk.1.1.1.1.1.2) ((And.intro (hk.1.1.1.1.2) ((And.intro (hk.1.1.1.2) (hk.1.1.2)))))))))⟩, ⟨by (with_reducible repeat (first | apply Kd.R_alloc | apply Kd.R_drewN | apply Kd.R_drew)); exact Kd.R_mono HO281.out (fun _ hk => (And.intro (hk.1.1.1.1.1.1.2) ((And.intro (hk.1.1.1.1.1.2) ((And.intro (hk.1.1.1.1.2) ((And.intro (hk.1.1.1.2) (hk.1.1.2)))))))))⟩, ⟨by (with_reducible repeat (first | apply Kd.R_alloc | apply Kd.R_drewN | apply Kd.R_drew)); exact Kd.R_mono HO285.out (fun _ hk => (And.intro (hk.1.1.1.1.1.1.2) ((And.intro (hk.1.1.1.1.1.2) ((And.intro (hk.1.1.1.1.2) ((And.intro (hk.1.1.1.2) (hk.1.1.2)))))))))⟩, ⟨by exact BK248.out⟩, ⟨by exact BK249.out⟩, ⟨by exact BK254.out⟩, ⟨by exact BK258.out⟩, ⟨by exact BK262.out⟩, ⟨by exact BK266.out⟩, ⟨by exact BK270.out⟩, ⟨by exact BK274.out⟩, ⟨by exact BK278.out⟩, ⟨by exact BK282.out⟩, ⟨by exact BK286.out⟩, ⟨by repeat (first | (with_reducible first | exact HB.out | apply below_alloc | apply pw_below_drewN | apply below_drew1 | refine below_set ?_ GE248.out | refine below_set ?_ GE249.out | refine below_set ?_ GE254.out | refine below_set ?_ GE258.out | refine below_set ?_ GE262.out | refine below_set ?_ GE266.out | refine below_set ?_ GE270.out | refine below_set ?_ GE274.out | refine below_set ?_ GE278.out | refine below_set ?_ GE282.out | refine below_set ?_ GE286.out) | exact HB.out)⟩⟩
                      · rw [if_neg c161] at H
                        have c161b0 : (t277 == 0) = false := beq_eq_false_iff_ne.mpr c161
                        have cz : decide (0 ≤ t289) = false := by have z := c153b0; rw [c161b0] at z; simpa using z
                        have cy : ¬ 0 ≤ t289 := of_decide_eq_false cz
                        have c161b1 : (t277 != 0) = true := bne_iff_ne.mpr c161
                        have H' := Aside0.mk H
                        clear H
                        go_wp2
                        go_meet
                        case rel => exact ⟨_, ((t277 != 6)), (by first | rfl | (simp; done) | (simp [*]; done)), (by first | rfl | (simp; done) | (simp [*]; done)), (by first | rfl | (simp; done) | (simp [*]; done)), (by first | rfl | (simp; done) | (simp [*]; done)), H', ⟨by first | omega | exact Nat.le_refl _⟩, ⟨by (with_reducible repeat (first | apply Kd.R_alloc | apply Kd.R_drewN | apply Kd.R_drew)); exact Kd.R_mono HO253.out (fun _ hk => (And.intro (hk.1.1.1.1.1.1.2) ((And.intro (hk.1.1.1.1.1.2) ((And.intro (hk.1.1.1.1.2) ((And.intro (hk.1.1.1.2) (hk.1.1.2)))))))))⟩, ⟨by (with_reducible repeat (first | apply Kd.R_alloc | apply Kd.R_drewN | apply Kd.R_drew)); exact Kd.R_mono HO257.out (fun _ hk => (And.intro (hk.1.1.1.1.1.1.2) ((And.intro (hk.1.1.1.1.1.2) ((And.intro (hk.1.1.1.1.2) ((And.intro (hk.1.1.1.2) (hk.1.1.2)))))))))⟩, ⟨by (with_reducible repeat (first | apply Kd.R_alloc | apply Kd.R_drewN | apply Kd.R_drew)); exact Kd.R_mono HO261.out (fun _ hk => (And.intro (hk.1.1.1.1.1.1.2) ((And.intro (hk.1.1.1.1.1.2) ((And.intro (hk.1.1.1.1.2) ((And.intro (hk.1.1.1.2) (hk.1.1.2)))))))))⟩, ⟨by (with_reducible repeat (first | apply Kd.R_alloc | apply Kd.R_drewN | apply Kd.R_drew)); exact Kd.R_mono HO265.out (fun _ hk => (And.intro (hk.1.1.1.1.1.1.2) ((And.intro (hk.1.1.1.1.1.2) ((And.intro (hk.1.1.1.1.2) ((And.intro (hk.1.1.1.2) (hk.1.1.2)))))))))⟩, ⟨by (with_reducible repeat (first | apply Kd.R_alloc | apply Kd.R_drewN | apply Kd.R_drew)); exact Kd.R_mono HO281.out (fun _ hk => (And.intro (hk.1.1.1.1.1.1.2) ((And.intro (hk.1.1.1.1.1.2) ((And.intro (hk.1.1.1.1.2) ((And.intro (hk.1.1.1.2) (hk.1.1.2)))))))))⟩, ⟨by (with_reducible repeat (first | apply Kd.R_alloc | apply Kd.R_drewN | apply Kd.R_drew)); exact Kd.R_mono HO285.out (fun _ hk => (And.intro (hk.1.1.1.1.1.1.2) ((And.intro (hk.1.1.1.1.1.2) ((And.intro (hk.1.1.1.1.2) ((And.intro (hk.1.1.1.2) (hk.1.1.2)))))))))⟩, ⟨by exact BK248.out⟩, ⟨by exact BK249.out⟩, ⟨by exact BK254.out⟩, ⟨by exact BK258.out⟩, ⟨by exact BK262.out⟩, ⟨by exact BK266.out⟩, ⟨by exact BK270.out⟩, ⟨by exact BK274.out⟩, ⟨by exact BK278.out⟩, ⟨by exact BK282.out⟩, ⟨by exact BK286.out⟩, ⟨by repeat (first | (with_reducible first | exact HB.out | apply below_alloc | apply pw_below_drewN | apply below_drew1 | refine below_set ?_ GE248.out | refine below_set ?_ GE249.out | refine below_set ?_ GE254.out | refine below_set ?_ GE258.out | refine below_set ?_ GE262.out | refine below_set ?_ GE266.out | refine below_set ?_ GE270.out | refine below_set ?_ GE274.out | refine below_set ?_ GE278.out | refine below_set ?_ GE282.out | refine below_set ?_ GE286.out) | exact HB.out)⟩⟩
                    · rw [if_neg c160] at H
                      have c160b0 : (t273 == 0) = false := beq_eq_false_iff_ne.mpr c160
                      have ez : decide (t288 < 0) = false := by have z := c152b0; rw [c160b0] at z; simpa using z
                      have ey : ¬ t288 < 0 := of_decide_eq_false ez
                      have c160b1 : (t273 != 0) = true := bne_iff_ne.mpr c160
                      by_cases c162 : t273 = 6
                      · rw [if_pos c162] at H
                        have c162b0 : (t273 == 6) = true := beq_iff_eq.mpr c162
                        have c162b1 : (t273 != 6) = false := bne_eq_false_iff_eq.mpr c162
                        clear c162
                        by_cases c163 : t277 = 0
                        · rw [if_pos c163] at H
                          have c163b0 : (t277 == 0) = true := beq_iff_eq.mpr c163
                          have cz : decide (0 ≤ t289) = true := by have z := c153b0; rw [c163b0] at z; simpa using z
                          have cy : 0 ≤ t289 := of_decide_eq_true cz
                          have c163b1 : (t277 != 0) = false := bne_eq_false_iff_eq.mpr c163
                          clear c163
                          have H' := Aside0.mk H
                          clear H
                          go_wp2
                          go_meet
                          case rel => exact ⟨_, (false), (by first | rfl | (simp; done) | (simp [*]; done)), (by first | rfl | (simp; done) | (simp [*]; done)), (by first | rfl | (simp; done) | (simp [*]; done)), (by first | rfl | (simp; done) | (simp [*]; done)), H', ⟨by first | omega | exact Nat.le_refl _⟩, ⟨by (with_reducible repeat (first | apply Kd.R_alloc | apply Kd.R_drewN | apply Kd.R_drew)); exact Kd.R_mono HO253.out (fun _ hk => (And.intro (hk.1.1.1.1.1.1.2) ((And.intro (hk.1.1.1.1.1.2) ((And.intro (hk.1.1.1.1.2) ((And.intro (hk.1.1.1.2) (hk.1.1.2)))))))))⟩, ⟨by (with_reducible repeat (first | apply Kd.R_alloc | apply Kd.R_drewN | apply Kd.R_drew)); exact Kd.R_mono HO257.out (fun _ hk => (And.intro (hk.1.1.1.1.1.1.2) ((And.intro (hk.1.1.1.1.1.2) ((And.intro (hk.1.1.1.1.2) ((And.intro (hk.1.1.1.2) (hk.1.1.2)))))))))⟩, ⟨by (with_reducible repeat (first | apply Kd.R_alloc | apply Kd.R_drewN | apply Kd.R_drew)); exact Kd.R_mono HO261.out (fun _ hk => (And.intro (hk.1.1.1.1.1.1.2) ((And.intro (hk.1.1.1.1.1.2) ((And.intro (hk.1.1.1.1.2) ((And.intro (hk.1.1.1.2) (hk.1.1.2)))))))))⟩, ⟨by (with_reducible repeat (first | apply Kd.R_alloc | apply Kd.R_drewN | apply Kd.R_drew)); exact Kd.R_mono HO265.out (fun _ hk => (And.intro (hk.1.1.1.1.1.1.2) ((And.intro (hk.1.1.1.1.1.2) ((And.intro (hk.1.1.1.1.2) ((And.intro (hk.1.1.1.2) (hk.1.1.2)))))))))⟩, ⟨by (with_reducible repeat (first | apply Kd.R_alloc | apply Kd.R_drewN | apply Kd.R_drew)); exact Kd.R_mono HO281.out (fun _ hk => (And.intro (hk.1.1.1.1.1.1.2) ((And.intro (hk.1.1.1.1.1.2) ((And.intro (hk.1.1.1.1.2) ((And.intro (hk.1.1.1.2) (hk.1.1.2)))))))))⟩, ⟨by (with_reducible repeat (first | apply Kd.R_alloc | apply Kd.R_drewN | apply Kd.R_drew)); exact Kd.R_mono HO285.out (fun _ hk => (And.intro (hk.1.1.1.1.1.1.2) ((And.intro (hk.1.1.1.1.1.2) ((And.intro (hk.1.1.1.1.2) ((And.intro (hk.1.1.1.2) (hk.1.1.2)))))))))⟩, ⟨by exact BK248.out⟩, ⟨by exact BK249.out⟩, ⟨by exact BK254.out⟩, ⟨by exact BK258.out⟩, ⟨by exact BK262.out⟩, ⟨by exact BK266.out⟩, ⟨by exact BK270.out⟩, ⟨by exact BK274.out⟩, ⟨by exact BK278.out⟩, ⟨by exact BK282.out⟩, ⟨by exact BK286.out⟩, ⟨by repeat (first | (with_reducible first | exact HB.out | apply below_alloc | apply pw_below_drewN | apply below_drew1 | refine below_set ?_ GE248.out | refine below_set ?_ GE249.out | refine below_set ?_ GE254.out | refine below_set ?_ GE258.out | refine below_set ?_ GE262.out | refine below_set ?_ GE266.out | refine below_set ?_ GE270.out | refine below_set ?_ GE274.out | refine below_set ?_ GE278.out | refine below_set ?_ GE282.out | refine below_set ?_ GE286.out) | exact HB.out)⟩⟩
                        · rw [if_neg c163] at H
                          have c163b0 : (t277 == 0) = false := beq_eq_false_iff_ne.mpr c163
                          have cz : decide (0 ≤ t289) = false := by have z := c153b0; rw [c163b0] at z; simpa using z
                          have cy : ¬ 0 ≤ t289 := of_decide_eq_false cz
                          have c163b1 : (t277 != 0) = true := bne_iff_ne.mpr c163
                          have H' := Aside0.mk H
                          clear H
                          go_wp2
                          go_meet
                          case rel => exact ⟨_, ((t277 != 6)), (by first | rfl | (simp; done) | (simp [*]; done)), (by first | rfl | (simp; done) | (simp [*]; done)), (by first | rfl | (simp; done) | (simp [*]; done)), (by first | rfl | (simp; done) | (simp [*]; done)), H', ⟨by first | omega | exact Nat.le_refl _⟩, ⟨by (with_reducible repeat (first | apply Kd.R_alloc | apply Kd.R_drewN | apply Kd.R_drew)); exact Kd.R_mono HO253.out (fun _ hk => (And.intro (hk.1.1.1.1.1.1.2) ((And.intro (hk.1.1.1.1.1.2) ((And.intro (hk.1.1.1.1.2) ((And.intro (hk.1.1.1.2) (hk.1.1.2)))))))))⟩, ⟨by (with_reducible repeat (first | apply Kd.R_alloc | apply Kd.R_drewN | apply Kd.R_drew)); exact Kd.R_mono HO257.out (fun _ hk => (And.intro (hk.1.1.1.1.1.1.2) ((And.intro (hk.1.1.1.1.1.2) ((And.intro (hk.1.1.1.1.2) ((And.intro (hk.1.1.1.2) (hk.1.1.2)))))))))⟩, ⟨by (with_reducible repeat (first | apply Kd.R_alloc | apply Kd.R_drewN | apply Kd.R_drew)); exact Kd.R_mono HO261.out (fun _ hk => (And.intro (hk.1.1.1.1.1.1.2) ((And.intro (hk.1.1.1.1.1.2) ((And.intro (hk.1.1.1.1.2) ((And.intro (hk.1.1.1.2) (hk.1.1.2)))))))))⟩, ⟨by (with_reducible repeat (first | apply Kd.R_alloc | apply Kd.R_drewN | apply Kd.R_drew)); exact Kd.R_mono HO265.out (fun _ hk => (And.intro (hk.1.1.1.1.1.1.2) ((And.intro (hk.1.1.1.1.1.2) ((And.intro (hk.1.1.1.1.2) ((And.intro (hk.1.1.1.2) (hk.1.1.2)))))))))⟩, ⟨by (with_reducible repeat (first | apply Kd.R_alloc | apply Kd.R_drewN | apply Kd.R_drew)); exact Kd.R_mono HO281.out (fun _ hk => (And.intro (hk.1.1.1.1.1.1.2) ((And.intro (hk.1.1.1.1.1.2) ((And.intro (hk.1.1.1.1.2) ((And.intro (hk.1.1.1.2) (hk.1.1.2)))))))))⟩, ⟨by (with_reducible repeat (first | apply Kd.R_alloc | apply Kd.R_drewN | apply Kd.R_drew)); exact Kd.R_mono HO285.out (fun _ hk => (And.intro (hk.1.1.1.1.1.1.2) ((And.intro (hk.1.1.1.1.1.2) ((And.intro (hk.1.1.1.1.2) ((And.intro (hk.1.1.1.2) (hk.1.1.2)))))))))⟩, ⟨by exact BK248.out⟩, ⟨by exact BK249.out⟩, ⟨by exact BK254.out⟩, ⟨by exact BK258.out⟩, ⟨by exact BK262.out⟩, ⟨by exact BK266.out⟩, ⟨by exact BK270.out⟩, ⟨by exact BK274.out⟩, ⟨by exact BK278.out⟩, ⟨by exact BK282.out⟩, ⟨by exact BK286.out⟩, ⟨by repeat (first | (with_reducible first | exact HB.out | apply below_alloc | apply pw_below_drewN | apply below_drew1 | refine below_set ?_ GE248.out | refine below_set ?_ GE249.out | refine below_set ?_ GE254.out | refine below_set ?_ GE258.out | refine below_set ?_ GE262.out | refine below_set ?_ GE266.out | refine below_set ?_ GE270.out | refine below_set ?_ GE274.out | refine below_set ?_ GE278.out | refine below_set ?_ GE282.out | refine below_set ?_ GE286.out) | exact HB.out)⟩⟩
                      · rw [if_neg c162] at H
                        exact absurd H (by simp)
                  · rw [if_neg c159] at H
                    exact absurd H (by simp)
        case rest =>
          clear HC28
          try clear c1
          try clear p2
          try clear c11
          try clear c13
          try clear c14
          try clear c15
          try clear c16
          try clear c17
          try clear c151
          try clear c151b0
          try clear c151b1
          try clear c151b2
          try clear c152
          try clear c152b0
          try clear c152b1
          try clear c152b2
          try clear c153
          try clear c153b0
          try clear c153b1
          try clear c153b2
          try clear c154
          try clear c154b0
          try clear c154b1
          try clear c155
          try clear c155b0
          try clear c155b1
          try clear c156
          try clear c156b0
          try clear c156b1
          try clear c157
          try clear c157b0
          try clear c157b1
          try clear c158
          try clear c158b0
          try clear c158b1
          try clear c159
          try clear c159b0
          try clear c159b1
          try clear c160
          try clear c160b0
          try clear c160b1
          try clear c161
          try clear c161b0
          try clear c161b1
          try clear c162
          try clear c162b0
          try clear c162b1
          try clear c163
          try clear c163b0
          try clear c163b1
          obtain ⟨kq, x134_27, rfl, rfl, rfl, rfl, HA, HJ27, HO_255000, HO_259000, HO_263000, HO_267000, HO_283000, HO_287000, BK248, BK249, BK254, BK258, BK262, BK266, BK270, BK274, BK278, BK282, BK286, HB⟩ := hcut
          cases kq with
          | zero => exact absurd HA.out (by simp [demurragelaw01_WideTells.j0])
          | succ kj27 =>
            have H := HA.out
            clear HA
            simp only [demurragelaw01_WideTells.j0] at H
            by_cases c164 : x134_27 = true
            · subst c164
              rw [if_pos rfl] at H
              exact absurd H (by simp)
            replace c164 := Bool.eq_false_iff.mpr c164
            subst c164
            rw [if_neg (show ¬ (false = true) by decide)] at H
            by_cases c165 : t250 = true
            rotate_left
            · replace c165 := Bool.eq_false_iff.mpr c165
              subst c165
              rw [if_neg (show ¬ (false = true) by decide)] at H
              exact absurd H (by simp)
            subst c165
            rw [if_pos rfl] at H
            by_cases c166 : (decide (t287 < 0)) = true
            focus
              rw [if_pos c166] at H
              have c166b0 : (decide (t287 < 0)) = true := c166
              clear c166
              replace H := Option.bind_eq_some_iff.mp H
              obtain ⟨t1725, A1670, H⟩ := H
              (try dsimp only at H)
              have A167 := Aside0.mk A1670
              clear A1670
              by_cases c168 : t1725 = true
              rotate_left
              · replace c168 := Bool.eq_false_iff.mpr c168
                subst c168
                rw [if_neg (show ¬ (false = true) by decide)] at H
                exact absurd H (by simp)
              subst c168
              rw [if_pos rfl] at H
              by_cases c169 : (decide (t288 < 0)) = true
              focus
                rw [if_pos c169] at H
                have c169b0 : (decide (t288 < 0)) = true := c169
                clear c169
                replace H := Option.bind_eq_some_iff.mp H
                obtain ⟨t1726, A1700, H⟩ := H
                (try dsimp only at H)
                have A255 := Aside0.mk A1700
                clear A1700
                by_cases c171 : t1726 = true
                rotate_left
                · replace c171 := Bool.eq_false_iff.mpr c171
                  subst c171
                  rw [if_neg (show ¬ (false = true) by decide)] at H
                  exact absurd H (by simp)
                subst c171
                rw [if_pos rfl] at H
                by_cases c172 : (decide (0 ≤ t289)) = true
                focus
                  rw [if_pos c172] at H
                  have c172b0 : (decide (0 ≤ t289)) = true := c172
                  clear c172
                  replace H := Option.bind_eq_some_iff.mp H
                  obtain ⟨t1740, A1730, H⟩ := H
                  (try dsimp only at H)
                  have A298 := Aside0.mk A1730
                  clear A1730
                  replace H := Option.bind_eq_some_iff.mp H
                  obtain ⟨t1730, A1740, H⟩ := H
                  (try dsimp only at H)
                  have A299 := Aside0.mk A1740
                  clear A1740
                  by_cases c175 : t1730 = true
                  rotate_left
                  · replace c175 := Bool.eq_false_iff.mpr c175
                    subst c175
                    rw [if_neg (show ¬ (false = true) by decide)] at H
                    exact absurd H (by simp)
                  subst c175
                  rw [if_pos rfl] at H
                rotate_left
                focus
                  rw [if_neg c172] at H
                  have c172b0 : (decide (0 ≤ t289)) = false := by simpa using c172
                  clear c172
              rotate_left 2
              focus
                rw [if_neg c169] at H
                have c169b0 : (decide (t288 < 0)) = false := by simpa using c169
                clear c169
                by_cases c213 : (t271 == 0 && (t272 == 0)) = true
                rotate_left
                · rw [if_neg c213] at H
                  exact absurd H (by simp)
                rw [if_pos c213] at H
                have c213b0 : (t271 == 0 && (t272 == 0)) = true := c213
                (try (have c213b1 : decide (t271 = 0 && (t272 == 0)) = true := by simpa using c213))
                (try (have c213b2 : (t271 == 0 && (t272 == 0)) = true := by simpa using c213))
                clear c213
                by_cases c214 : (decide (0 ≤ t289)) = true
                focus
                  rw [if_pos c214] at H
                  have c214b0 : (decide (0 ≤ t289)) = true := c214
                  clear c214
                  replace H := Option.bind_eq_some_iff.mp H
                  obtain ⟨t1740, A2150, H⟩ := H
                  (try dsimp only at H)
                  have A298 := Aside0.mk A2150
                  clear A2150
                  replace H := Option.bind_eq_some_iff.mp H
                  obtain ⟨t1734, A2160, H⟩ := H
                  (try dsimp only at H)
                  have A299 := Aside0.mk A2160
                  clear A2160
                  by_cases c217 : t1734 = true
                  rotate_left
                  · replace c217 := Bool.eq_false_iff.mpr c217
                    subst c217
                    rw [if_neg (show ¬ (false = true) by decide)] at H
                    exact absurd H (by simp)
                  subst c217
                  rw [if_pos rfl] at H
                rotate_left
                focus
                  rw [if_neg c214] at H
                  have c214b0 : (decide (0 ≤ t289)) = false := by simpa using c214
                  clear c214
            rotate_left 4
            focus
              rw [if_neg c166] at H
              have c166b0 : (decide (t287 < 0)) = false := by simpa using c166
              clear c166
              by_cases c253 : (t267 == 0 && (t268 == 0)) = true
              rotate_left
              · rw [if_neg c253] at H
                exact absurd H (by simp)
              rw [if_pos c253] at H
              have c253b0 : (t267 == 0 && (t268 == 0)) = true := c253
              (try (have c253b1 : decide (t267 = 0 && (t268 == 0)) = true := by simpa using c253))
              (try (have c253b2 : (t267 == 0 && (t268 == 0)) = true := by simpa using c253))
              clear c253
              by_cases c254 : (decide (t288 < 0)) = true
              focus
                rw [if_pos c254] at H
                have c254b0 : (decide (t288 < 0)) = true := c254
                clear c254
                replace H := Option.bind_eq_some_iff.mp H
                obtain ⟨t1735, A2550, H⟩ := H
                (try dsimp only at H)
                have A255 := Aside0.mk A2550
                clear A2550
                by_cases c256 : t1735 = true
                rotate_left
                · replace c256 := Bool.eq_false_iff.mpr c256
                  subst c256
                  rw [if_neg (show ¬ (false = true) by decide)] at H
                  exact absurd H (by simp)
                subst c256
                rw [if_pos rfl] at H
                by_cases c257 : (decide (0 ≤ t289)) = true
                focus
                  rw [if_pos c257] at H
                  have c257b0 : (decide (0 ≤ t289)) = true := c257
                  clear c257
                  replace H := Option.bind_eq_some_iff.mp H
                  obtain ⟨t1740, A2580, H⟩ := H
                  (try dsimp only at H)
                  have A298 := Aside0.mk A2580
                  clear A2580
                  replace H := Option.bind_eq_some_iff.mp H
                  obtain ⟨t1739, A2590, H⟩ := H
                  (try dsimp only at H)
                  have A299 := Aside0.mk A2590
                  clear A2590
                  by_cases c260 : t1739 = true
                  rotate_left
                  · replace c260 := Bool.eq_false_iff.mpr c260
                    subst c260
                    rw [if_neg (show ¬ (false = true) by decide)] at H
                    exact absurd H (by simp)
                  subst c260
                  rw [if_pos rfl] at H
                rotate_left
                focus
                  rw [if_neg c257] at H
                  have c257b0 : (decide (0 ≤ t289)) = false := by simpa using c257
                  clear c257
              rotate_left 2
              focus
                rw [if_neg c254] at H
                have c254b0 : (decide (t288 < 0)) = false := by simpa using c254
                clear c254
                by_cases c296 : (t271 == 0 && (t272 == 0)) = true
                rotate_left
                · rw [if_neg c296] at H
                  exact absurd H (by simp)
                rw [if_pos c296] at H
                have c296b0 : (t271 == 0 && (t272 == 0)) = true := c296
                (try (have c296b1 : decide (t271 = 0 && (t272 == 0)) = true := by simpa using c296))
                (try (have c296b2 : (t271 == 0 && (t272 == 0)) = true := by simpa using c296))
                clear c296
                by_cases c297 : (decide (0 ≤ t289)) = true
                focus
                  rw [if_pos c297] at H
                  have c297b0 : (decide (0 ≤ t289)) = true := c297
                  clear c297
                  replace H := Option.bind_eq_some_iff.mp H
                  obtain ⟨t1740, A2980, H⟩ := H
                  (try dsimp only at H)
                  have A298 := Aside0.mk A2980
                  clear A2980
                  replace H := Option.bind_eq_some_iff.mp H
                  obtain ⟨t1743, A2990, H⟩ := H
                  (try dsimp only at H)
                  have A299 := Aside0.mk A2990
                  clear A2990
                  by_cases c300 : t1743 = true
                  rotate_left
                  · replace c300 := Bool.eq_false_iff.mpr c300
                    subst c300
                    rw [if_neg (show ¬ (false = true) by decide)] at H
                    exact absurd H (by simp)
                  subst c300
                  rw [if_pos rfl] at H
                rotate_left
                focus
                  rw [if_neg c297] at H
                  have c297b0 : (decide (0 ≤ t289)) = false := by simpa using c297
                  clear c297
            all_goals as_aux_lemma =>
              obtain rfl := Option.some.inj H
              try go_wp2_with (first | ((with_reducible refine gate_dst (N := 23) rfl ?_); refine box_event ?hg (N := 23) ?hd (cs := #[.int .u64 0, .int .u64 0]) (t := 24) ?hr ?_; (case hd => rfl); (case hg => rfl); (case hr => first | (go_simp; done) | (go_simp; rfl)); intro gb1724 hg w176 hbox hb; replace HO_255000 := Aside0.mk (Kd.R_below HO_255000.out hb); replace HO_259000 := Aside0.mk (Kd.R_below HO_259000.out hb); replace HO_263000 := Aside0.mk (Kd.R_below HO_263000.out hb); replace HO_267000 := Aside0.mk (Kd.R_below HO_267000.out hb); replace HO_283000 := Aside0.mk (Kd.R_below HO_283000.out hb); replace HO_287000 := Aside0.mk (Kd.R_below HO_287000.out hb); have BK1724 := Aside0.mk (hbox); have GW1724 := Aside0.mk ((by rw [hg]; exact (below_size (by repeat (first | (with_reducible first | exact HB.out | apply below_alloc | apply pw_below_drewN | apply below_drew1 | refine below_set ?_ GE248.out | refine below_set ?_ GE249.out | refine below_set ?_ GE254.out | refine below_set ?_ GE258.out | refine below_set ?_ GE262.out | refine below_set ?_ GE266.out | refine below_set ?_ GE270.out | refine below_set ?_ GE274.out | refine below_set ?_ GE278.out | refine below_set ?_ GE282.out | refine below_set ?_ GE286.out) | exact HB.out))) : w.heap.size ≤ gb1724)); have GE1724 := Aside0.mk ((by rw [hg]; exact (below_size (by repeat (first | (with_reducible first | exact HB.out | apply below_alloc | apply pw_below_drewN | apply below_drew1 | refine below_set ?_ GE248.out | refine below_set ?_ GE249.out | refine below_set ?_ GE254.out | refine below_set ?_ GE258.out | refine below_set ?_ GE262.out | refine below_set ?_ GE266.out | refine below_set ?_ GE270.out | refine below_set ?_ GE274.out | refine below_set ?_ GE278.out | refine below_set ?_ GE282.out | refine below_set ?_ GE286.out) | exact HB.out))) : w.heap.size ≤ gb1724)); replace HB := Aside0.mk (below_step (by repeat (first | (with_reducible first | exact HB.out | apply below_alloc | apply pw_below_drewN | apply below_drew1 | refine below_set ?_ GE248.out | refine below_set ?_ GE249.out | refine below_set ?_ GE254.out | refine below_set ?_ GE258.out | refine below_set ?_ GE262.out | refine below_set ?_ GE266.out | refine below_set ?_ GE270.out | refine below_set ?_ GE274.out | refine below_set ?_ GE278.out | refine below_set ?_ GE282.out | refine below_set ?_ GE286.out) | exact HB.out)) hb); have NB248_1724 := Aside0.mk ((by rw [hg]; exact Nat.ne_of_lt (blk_lt (g := gb248) (o := .cells #[.int .u64 a0_0, .int .u64 a0_1] 24 (0, 0)) BK248.out) : gb248 ≠ gb1724)); have NB1724_248 := Aside0.mk ((by rw [hg]; exact Nat.ne_of_gt (blk_lt (g := gb248) (o := .cells #[.int .u64 a0_0, .int .u64 a0_1] 24 (0, 0)) BK248.out) : gb1724 ≠ gb248)); replace BK248 := Aside0.mk (blk_below BK248.out hb); have NB249_1724 := Aside0.mk ((by rw [hg]; exact Nat.ne_of_lt (blk_lt (g := gb249) (o := .cells #[.int .u64 a1_0, .int .u64 a1_1] 24 (0, 0)) BK249.out) : gb249 ≠ gb1724)); have NB1724_249 := Aside0.mk ((by rw [hg]; exact Nat.ne_of_gt (blk_lt (g := gb249) (o := .cells #[.int .u64 a1_0, .int .u64 a1_1] 24 (0, 0)) BK249.out) : gb1724 ≠ gb249)); replace BK249 := Aside0.mk (blk_below BK249.out hb); have NB254_1724 := Aside0.mk ((by rw [hg]; exact Nat.ne_of_lt (blk_lt (g := gb254) (o := .cells #[.slice Ao36 t251.length co36] 28 (0, 0)) BK254.out) : gb254 ≠ gb1724)); have NB1724_254 := Aside0.mk ((by rw [hg]; exact Nat.ne_of_gt (blk_lt (g := gb254) (o := .cells #[.slice Ao36 t251.length co36] 28 (0, 0)) BK254.out) : gb1724 ≠ gb254)); replace BK254 := Aside0.mk (blk_below BK254.out hb); have NB258_1724 := Aside0.mk ((by rw [hg]; exact Nat.ne_of_lt (blk_lt (g := gb258) (o := .cells #[.slice Ao43 t255.length co43] 28 (0, 0)) BK258.out) : gb258 ≠ gb1724)); have NB1724_258 := Aside0.mk ((by rw [hg]; exact Nat.ne_of_gt (blk_lt (g := gb258) (o := .cells #[.slice Ao43 t255.length co43] 28 (0, 0)) BK258.out) : gb1724 ≠ gb258)); replace BK258 := Aside0.mk (blk_below BK258.out hb); have NB262_1724 := Aside0.mk ((by rw [hg]; exact Nat.ne_of_lt (blk_lt (g := gb262) (o := .cells #[.slice Ao50 t259.length co50] 28 (0, 0)) BK262.out) : gb262 ≠ gb1724)); have NB1724_262 := Aside0.mk ((by rw [hg]; exact Nat.ne_of_gt (blk_lt (g := gb262) (o := .cells #[.slice Ao50 t259.length co50] 28 (0, 0)) BK262.out) : gb1724 ≠ gb262)); replace BK262 := Aside0.mk (blk_below BK262.out hb); have NB266_1724 := Aside0.mk ((by rw [hg]; exact Nat.ne_of_lt (blk_lt (g := gb266) (o := .cells #[.slice Ao58 t263.length co58] 28 (0, 0)) BK266.out) : gb266 ≠ gb1724)); have NB1724_266 := Aside0.mk ((by rw [hg]; exact Nat.ne_of_gt (blk_lt (g := gb266) (o := .cells #[.slice Ao58 t263.length co58] 28 (0, 0)) BK266.out) : gb1724 ≠ gb266)); replace BK266 := Aside0.mk (blk_below BK266.out hb); have NB270_1724 := Aside0.mk ((by rw [hg]; exact Nat.ne_of_lt (blk_lt (g := gb270) (o := .cells #[.int .u64 t267, .int .u64 t268] 24 (0, 0)) BK270.out) : gb270 ≠ gb1724)); have NB1724_270 := Aside0.mk ((by rw [hg]; exact Nat.ne_of_gt (blk_lt (g := gb270) (o := .cells #[.int .u64 t267, .int .u64 t268] 24 (0, 0)) BK270.out) : gb1724 ≠ gb270)); replace BK270 := Aside0.mk (blk_below BK270.out hb); have NB274_1724 := Aside0.mk ((by rw [hg]; exact Nat.ne_of_lt (blk_lt (g := gb274) (o := .cells #[.int .u64 t271, .int .u64 t272] 24 (0, 0)) BK274.out) : gb274 ≠ gb1724)); have NB1724_274 := Aside0.mk ((by rw [hg]; exact Nat.ne_of_gt (blk_lt (g := gb274) (o := .cells #[.int .u64 t271, .int .u64 t272] 24 (0, 0)) BK274.out) : gb1724 ≠ gb274)); replace BK274 := Aside0.mk (blk_below BK274.out hb); have NB278_1724 := Aside0.mk ((by rw [hg]; exact Nat.ne_of_lt (blk_lt (g := gb278) (o := .cells #[.int .u64 t275, .int .u64 t276] 24 (0, 0)) BK278.out) : gb278 ≠ gb1724)); have NB1724_278 := Aside0.mk ((by rw [hg]; exact Nat.ne_of_gt (blk_lt (g := gb278) (o := .cells #[.int .u64 t275, .int .u64 t276] 24 (0, 0)) BK278.out) : gb1724 ≠ gb278)); replace BK278 := Aside0.mk (blk_below BK278.out hb); have NB282_1724 := Aside0.mk ((by rw [hg]; exact Nat.ne_of_lt (blk_lt (g := gb282) (o := .cells #[.slice Ao104 t279.length co104] 28 (0, 0)) BK282.out) : gb282 ≠ gb1724)); have NB1724_282 := Aside0.mk ((by rw [hg]; exact Nat.ne_of_gt (blk_lt (g := gb282) (o := .cells #[.slice Ao104 t279.length co104] 28 (0, 0)) BK282.out) : gb1724 ≠ gb282)); replace BK282 := Aside0.mk (blk_below BK282.out hb); have NB286_1724 := Aside0.mk ((by rw [hg]; exact Nat.ne_of_lt (blk_lt (g := gb286) (o := .cells #[.slice Ao119 t283.length co119] 28 (0, 0)) BK286.out) : gb286 ≠ gb1724)); have NB1724_286 := Aside0.mk ((by rw [hg]; exact Nat.ne_of_gt (blk_lt (g := gb286) (o := .cells #[.slice Ao119 t283.length co119] 28 (0, 0)) BK286.out) : gb1724 ≠ gb286)); replace BK286 := Aside0.mk (blk_below BK286.out hb); clear hb hbox hg; have hnb177 := NB1724_248.out; have hnc177 := NB248_1724.out; have hnb178 := NB1724_249.out; have hnc178 := NB249_1724.out; have hnb179 := NB1724_254.out; have hnc179 := NB254_1724.out; have hnb180 := NB1724_258.out; have hnc180 := NB258_1724.out; have hnb181 := NB1724_262.out; have hnc181 := NB262_1724.out; have hnb182 := NB1724_266.out; have hnc182 := NB266_1724.out; have hnb183 := NB1724_270.out; have hnc183 := NB270_1724.out; have hnb184 := NB1724_274.out; have hnc184 := NB274_1724.out; have hnb185 := NB1724_278.out; have hnc185 := NB278_1724.out; have hnb186 := NB1724_282.out; have hnc186 := NB282_1724.out; have hnb187 := NB1724_286.out; have hnc187 := NB286_1724.out; have hcz188_0 : w176.cell? ⟨gb1724, 0, none⟩ = some (.int .u64 0) := (blk_cell BK1724.out 0).trans rfl; have hcz188_1 : w176.cell? ⟨gb1724, 1, none⟩ = some (.int .u64 0) := (blk_cell BK1724.out 1).trans rfl; have hfz188_0 := blk_frozen BK1724.out 0; have hfz188_1 := blk_frozen BK1724.out 1))
              have n0_ : Aside0 (Kd.R (Kd.int .i64) 3 ((w176.setCell ⟨gb1724, 0, none⟩ (.int .u64 0)).setCell ⟨gb1724, 1, none⟩ (.int .u64 0)) w.heap.size (fun k_ => some k_ ≠ (.slice Ao43 t255.length co43 : Value).ownBlock ∧ some k_ ≠ (.slice Ao50 t259.length co50 : Value).ownBlock ∧ some k_ ≠ (.slice Ao58 t263.length co58 : Value).ownBlock ∧ some k_ ≠ (.slice Ao104 t279.length co104 : Value).ownBlock ∧ some k_ ≠ (.slice Ao119 t283.length co119 : Value).ownBlock) (.slice Ao36 t251.length co36) t251) := ⟨by (with_reducible repeat (first | apply Kd.R_alloc | apply Kd.R_drewN | apply Kd.R_drew)); exact Kd.R_mono (Kd.R_far (p := ⟨gb1724, 1, none⟩) (Kd.R_far (p := ⟨gb1724, 0, none⟩) (Kd.R_types HO_255000.out BK1724.out (by decide)) (fun _ hk => hk.2) (.int .u64 0)) (fun _ hk => hk.2) (.int .u64 0)) (fun _ hk => (And.intro (hk.1.1) ((And.intro (hk.1.2.1) ((And.intro (hk.1.2.2.1) ((And.intro (hk.1.2.2.2.1) (hk.1.2.2.2.2)))))))))⟩
              have n1_ : Aside0 (Kd.R (Kd.int .i64) 3 ((w176.setCell ⟨gb1724, 0, none⟩ (.int .u64 0)).setCell ⟨gb1724, 1, none⟩ (.int .u64 0)) w.heap.size (fun k_ => some k_ ≠ (.slice Ao36 t251.length co36 : Value).ownBlock ∧ some k_ ≠ (.slice Ao50 t259.length co50 : Value).ownBlock ∧ some k_ ≠ (.slice Ao58 t263.length co58 : Value).ownBlock ∧ some k_ ≠ (.slice Ao104 t279.length co104 : Value).ownBlock ∧ some k_ ≠ (.slice Ao119 t283.length co119 : Value).ownBlock) (.slice Ao43 t255.length co43) t255) := ⟨by (with_reducible repeat (first | apply Kd.R_alloc | apply Kd.R_drewN | apply Kd.R_drew)); exact Kd.R_mono (Kd.R_far (p := ⟨gb1724, 1, none⟩) (Kd.R_far (p := ⟨gb1724, 0, none⟩) (Kd.R_types HO_259000.out BK1724.out (by decide)) (fun _ hk => hk.2) (.int .u64 0)) (fun _ hk => hk.2) (.int .u64 0)) (fun _ hk => (And.intro (hk.1.1) ((And.intro (hk.1.2.1) ((And.intro (hk.1.2.2.1) ((And.intro (hk.1.2.2.2.1) (hk.1.2.2.2.2)))))))))⟩
              have n2_ : Aside0 (Kd.R (Kd.int .i64) 3 ((w176.setCell ⟨gb1724, 0, none⟩ (.int .u64 0)).setCell ⟨gb1724, 1, none⟩ (.int .u64 0)) w.heap.size (fun k_ => some k_ ≠ (.slice Ao36 t251.length co36 : Value).ownBlock ∧ some k_ ≠ (.slice Ao43 t255.length co43 : Value).ownBlock ∧ some k_ ≠ (.slice Ao58 t263.length co58 : Value).ownBlock ∧ some k_ ≠ (.slice Ao104 t279.length co104 : Value).ownBlock ∧ some k_ ≠ (.slice Ao119 t283.length co119 : Value).ownBlock) (.slice Ao50 t259.length co50) t259) := ⟨by (with_reducible repeat (first | apply Kd.R_alloc | apply Kd.R_drewN | apply Kd.R_drew)); exact Kd.R_mono (Kd.R_far (p := ⟨gb1724, 1, none⟩) (Kd.R_far (p := ⟨gb1724, 0, none⟩) (Kd.R_types HO_263000.out BK1724.out (by decide)) (fun _ hk => hk.2) (.int .u64 0)) (fun _ hk => hk.2) (.int .u64 0)) (fun _ hk => (And.intro (hk.1.1) ((And.intro (hk.1.2.1) ((And.intro (hk.1.2.2.1) ((And.intro (hk.1.2.2.2.1) (hk.1.2.2.2.2)))))))))⟩
              have n3_ : Aside0 (Kd.R (Kd.int .i64) 3 ((w176.setCell ⟨gb1724, 0, none⟩ (.int .u64 0)).setCell ⟨gb1724, 1, none⟩ (.int .u64 0)) w.heap.size (fun k_ => some k_ ≠ (.slice Ao36 t251.length co36 : Value).ownBlock ∧ some k_ ≠ (.slice Ao43 t255.length co43 : Value).ownBlock ∧ some k_ ≠ (.slice Ao50 t259.length co50 : Value).ownBlock ∧ some k_ ≠ (.slice Ao104 t279.length co104 : Value).ownBlock ∧ some k_ ≠ (.slice Ao119 t283.length co119 : Value).ownBlock) (.slice Ao58 t263.length co58) t263) := ⟨by (with_reducible repeat (first | apply Kd.R_alloc | apply Kd.R_drewN | apply Kd.R_drew)); exact Kd.R_mono (Kd.R_far (p := ⟨gb1724, 1, none⟩) (Kd.R_far (p := ⟨gb1724, 0, none⟩) (Kd.R_types HO_267000.out BK1724.out (by decide)) (fun _ hk => hk.2) (.int .u64 0)) (fun _ hk => hk.2) (.int .u64 0)) (fun _ hk => (And.intro (hk.1.1) ((And.intro (hk.1.2.1) ((And.intro (hk.1.2.2.1) ((And.intro (hk.1.2.2.2.1) (hk.1.2.2.2.2)))))))))⟩
              have n4_ : Aside0 (Kd.R (Kd.int .i64) 3 ((w176.setCell ⟨gb1724, 0, none⟩ (.int .u64 0)).setCell ⟨gb1724, 1, none⟩ (.int .u64 0)) w.heap.size (fun k_ => some k_ ≠ (.slice Ao36 t251.length co36 : Value).ownBlock ∧ some k_ ≠ (.slice Ao43 t255.length co43 : Value).ownBlock ∧ some k_ ≠ (.slice Ao50 t259.length co50 : Value).ownBlock ∧ some k_ ≠ (.slice Ao58 t263.length co58 : Value).ownBlock ∧ some k_ ≠ (.slice Ao119 t283.length co119 : Value).ownBlock) (.slice Ao104 t279.length co104) t279) := ⟨by (with_reducible repeat (first | apply Kd.R_alloc | apply Kd.R_drewN | apply Kd.R_drew)); exact Kd.R_mono (Kd.R_far (p := ⟨gb1724, 1, none⟩) (Kd.R_far (p := ⟨gb1724, 0, none⟩) (Kd.R_types HO_283000.out BK1724.out (by decide)) (fun _ hk => hk.2) (.int .u64 0)) (fun _ hk => hk.2) (.int .u64 0)) (fun _ hk => (And.intro (hk.1.1) ((And.intro (hk.1.2.1) ((And.intro (hk.1.2.2.1) ((And.intro (hk.1.2.2.2.1) (hk.1.2.2.2.2)))))))))⟩
              have n5_ : Aside0 (Kd.R (Kd.int .i64) 3 ((w176.setCell ⟨gb1724, 0, none⟩ (.int .u64 0)).setCell ⟨gb1724, 1, none⟩ (.int .u64 0)) w.heap.size (fun k_ => some k_ ≠ (.slice Ao36 t251.length co36 : Value).ownBlock ∧ some k_ ≠ (.slice Ao43 t255.length co43 : Value).ownBlock ∧ some k_ ≠ (.slice Ao50 t259.length co50 : Value).ownBlock ∧ some k_ ≠ (.slice Ao58 t263.length co58 : Value).ownBlock ∧ some k_ ≠ (.slice Ao104 t279.length co104 : Value).ownBlock) (.slice Ao119 t283.length co119) t283) := ⟨by (with_reducible repeat (first | apply Kd.R_alloc | apply Kd.R_drewN | apply Kd.R_drew)); exact Kd.R_mono (Kd.R_far (p := ⟨gb1724, 1, none⟩) (Kd.R_far (p := ⟨gb1724, 0, none⟩) (Kd.R_types HO_287000.out BK1724.out (by decide)) (fun _ hk => hk.2) (.int .u64 0)) (fun _ hk => hk.2) (.int .u64 0)) (fun _ hk => (And.intro (hk.1.1) ((And.intro (hk.1.2.1) ((And.intro (hk.1.2.2.1) ((And.intro (hk.1.2.2.2.1) (hk.1.2.2.2.2)))))))))⟩
              have n6_ : Aside0 (((w176.setCell ⟨gb1724, 0, none⟩ (.int .u64 0)).setCell ⟨gb1724, 1, none⟩ (.int .u64 0)).heap[gb248]? = some (.cells #[.int .u64 a0_0, .int .u64 a0_1] 24 (0, 0))) := ⟨by refine blk_far ?_ NB248_1724.out _; refine blk_far ?_ NB248_1724.out _; exact BK248.out⟩
              have n7_ : Aside0 (((w176.setCell ⟨gb1724, 0, none⟩ (.int .u64 0)).setCell ⟨gb1724, 1, none⟩ (.int .u64 0)).heap[gb249]? = some (.cells #[.int .u64 a1_0, .int .u64 a1_1] 24 (0, 0))) := ⟨by refine blk_far ?_ NB249_1724.out _; refine blk_far ?_ NB249_1724.out _; exact BK249.out⟩
              have n8_ : Aside0 (((w176.setCell ⟨gb1724, 0, none⟩ (.int .u64 0)).setCell ⟨gb1724, 1, none⟩ (.int .u64 0)).heap[gb254]? = some (.cells #[.slice Ao36 t251.length co36] 28 (0, 0))) := ⟨by refine blk_far ?_ NB254_1724.out _; refine blk_far ?_ NB254_1724.out _; exact BK254.out⟩
              have n9_ : Aside0 (((w176.setCell ⟨gb1724, 0, none⟩ (.int .u64 0)).setCell ⟨gb1724, 1, none⟩ (.int .u64 0)).heap[gb258]? = some (.cells #[.slice Ao43 t255.length co43] 28 (0, 0))) := ⟨by refine blk_far ?_ NB258_1724.out _; refine blk_far ?_ NB258_1724.out _; exact BK258.out⟩
              have n10_ : Aside0 (((w176.setCell ⟨gb1724, 0, none⟩ (.int .u64 0)).setCell ⟨gb1724, 1, none⟩ (.int .u64 0)).heap[gb262]? = some (.cells #[.slice Ao50 t259.length co50] 28 (0, 0))) := ⟨by refine blk_far ?_ NB262_1724.out _; refine blk_far ?_ NB262_1724.out _; exact BK262.out⟩
              have n11_ : Aside0 (((w176.setCell ⟨gb1724, 0, none⟩ (.int .u64 0)).setCell ⟨gb1724, 1, none⟩ (.int .u64 0)).heap[gb266]? = some (.cells #[.slice Ao58 t263.length co58] 28 (0, 0))) := ⟨by refine blk_far ?_ NB266_1724.out _; refine blk_far ?_ NB266_1724.out _; exact BK266.out⟩
              have n12_ : Aside0 (((w176.setCell ⟨gb1724, 0, none⟩ (.int .u64 0)).setCell ⟨gb1724, 1, none⟩ (.int .u64 0)).heap[gb270]? = some (.cells #[.int .u64 t267, .int .u64 t268] 24 (0, 0))) := ⟨by refine blk_far ?_ NB270_1724.out _; refine blk_far ?_ NB270_1724.out _; exact BK270.out⟩
              have n13_ : Aside0 (((w176.setCell ⟨gb1724, 0, none⟩ (.int .u64 0)).setCell ⟨gb1724, 1, none⟩ (.int .u64 0)).heap[gb274]? = some (.cells #[.int .u64 t271, .int .u64 t272] 24 (0, 0))) := ⟨by refine blk_far ?_ NB274_1724.out _; refine blk_far ?_ NB274_1724.out _; exact BK274.out⟩
              have n14_ : Aside0 (((w176.setCell ⟨gb1724, 0, none⟩ (.int .u64 0)).setCell ⟨gb1724, 1, none⟩ (.int .u64 0)).heap[gb278]? = some (.cells #[.int .u64 t275, .int .u64 t276] 24 (0, 0))) := ⟨by refine blk_far ?_ NB278_1724.out _; refine blk_far ?_ NB278_1724.out _; exact BK278.out⟩
              have n15_ : Aside0 (((w176.setCell ⟨gb1724, 0, none⟩ (.int .u64 0)).setCell ⟨gb1724, 1, none⟩ (.int .u64 0)).heap[gb282]? = some (.cells #[.slice Ao104 t279.length co104] 28 (0, 0))) := ⟨by refine blk_far ?_ NB282_1724.out _; refine blk_far ?_ NB282_1724.out _; exact BK282.out⟩
              have n16_ : Aside0 (((w176.setCell ⟨gb1724, 0, none⟩ (.int .u64 0)).setCell ⟨gb1724, 1, none⟩ (.int .u64 0)).heap[gb286]? = some (.cells #[.slice Ao119 t283.length co119] 28 (0, 0))) := ⟨by refine blk_far ?_ NB286_1724.out _; refine blk_far ?_ NB286_1724.out _; exact BK286.out⟩
              have n17_ : Aside0 (((w176.setCell ⟨gb1724, 0, none⟩ (.int .u64 0)).setCell ⟨gb1724, 1, none⟩ (.int .u64 0)).heap[gb1724]? = some (.cells #[.int .u64 0, .int .u64 0] 24 (0, 0))) := ⟨by refine blk_put (cs := #[.int .u64 0, .int .u64 0]) ?_ 1 _ rfl; refine blk_put (cs := #[.int .u64 0, .int .u64 0]) ?_ 0 _ rfl; exact BK1724.out⟩
              have n18_ : Aside0 (Below w.heap.size w ((w176.setCell ⟨gb1724, 0, none⟩ (.int .u64 0)).setCell ⟨gb1724, 1, none⟩ (.int .u64 0))) := ⟨by repeat (first | (with_reducible first | exact HB.out | apply below_alloc | apply pw_below_drewN | apply below_drew1 | refine below_set ?_ GE248.out | refine below_set ?_ GE249.out | refine below_set ?_ GE254.out | refine below_set ?_ GE258.out | refine below_set ?_ GE262.out | refine below_set ?_ GE266.out | refine below_set ?_ GE270.out | refine below_set ?_ GE274.out | refine below_set ?_ GE278.out | refine below_set ?_ GE282.out | refine below_set ?_ GE286.out | refine below_set ?_ GE1724.out) | exact HB.out)⟩
              (try clear HO_255000)
              (try clear HO_259000)
              (try clear HO_263000)
              (try clear HO_267000)
              (try clear HO_283000)
              (try clear HO_287000)
              (try clear BK248)
              (try clear BK249)
              (try clear BK254)
              (try clear BK258)
              (try clear BK262)
              (try clear BK266)
              (try clear BK270)
              (try clear BK274)
              (try clear BK278)
              (try clear BK282)
              (try clear BK286)
              (try clear BK1724)
              (try clear HB)
              generalize ((w176.setCell ⟨gb1724, 0, none⟩ (.int .u64 0)).setCell ⟨gb1724, 1, none⟩ (.int .u64 0)) = w189 at n0_ n1_ n2_ n3_ n4_ n5_ n6_ n7_ n8_ n9_ n10_ n11_ n12_ n13_ n14_ n15_ n16_ n17_ n18_ ⊢
              have HO_255000 := n0_
              have HO_259000 := n1_
              have HO_263000 := n2_
              have HO_267000 := n3_
              have HO_283000 := n4_
              have HO_287000 := n5_
              have BK248 := n6_
              have BK249 := n7_
              have BK254 := n8_
              have BK258 := n9_
              have BK262 := n10_
              have BK266 := n11_
              have BK270 := n12_
              have BK274 := n13_
              have BK278 := n14_
              have BK282 := n15_
              have BK286 := n16_
              have BK1724 := n17_
              have HB := n18_
              clear n0_ n1_ n2_ n3_ n4_ n5_ n6_ n7_ n8_ n9_ n10_ n11_ n12_ n13_ n14_ n15_ n16_ n17_ n18_
              replace HO_255000 := Aside0.mk (Kd.R_drew HO_255000.out)
              replace HO_259000 := Aside0.mk (Kd.R_drew HO_259000.out)
              replace HO_263000 := Aside0.mk (Kd.R_drew HO_263000.out)
              replace HO_267000 := Aside0.mk (Kd.R_drew HO_267000.out)
              replace HO_283000 := Aside0.mk (Kd.R_drew HO_283000.out)
              replace HO_287000 := Aside0.mk (Kd.R_drew HO_287000.out)
              replace BK248 := Aside0.mk (blk_drew BK248.out)
              replace BK249 := Aside0.mk (blk_drew BK249.out)
              replace BK254 := Aside0.mk (blk_drew BK254.out)
              replace BK258 := Aside0.mk (blk_drew BK258.out)
              replace BK262 := Aside0.mk (blk_drew BK262.out)
              replace BK266 := Aside0.mk (blk_drew BK266.out)
              replace BK270 := Aside0.mk (blk_drew BK270.out)
              replace BK274 := Aside0.mk (blk_drew BK274.out)
              replace BK278 := Aside0.mk (blk_drew BK278.out)
              replace BK282 := Aside0.mk (blk_drew BK282.out)
              replace BK286 := Aside0.mk (blk_drew BK286.out)
              replace BK1724 := Aside0.mk (blk_drew BK1724.out)
              replace HB := Aside0.mk (below_drew1 HB.out)
              refine start_ (n := 55) (S := fun w' => w'.cell? ⟨gb270, 0, none⟩ = some (.int .u64 t267) ∧ w'.cell? ⟨gb270, 1, none⟩ = some (.int .u64 t268) ∧ w'.cell? ⟨gb1724, 0, none⟩ = some (.int .u64 0) ∧ w'.cell? ⟨gb1724, 1, none⟩ = some (.int .u64 0) ∧ w'.cell? ⟨gb274, 0, none⟩ = some (.int .u64 t271) ∧ w'.cell? ⟨gb274, 1, none⟩ = some (.int .u64 t272) ∧ w'.cell? ⟨gb278, 0, none⟩ = some (.int .u64 t275) ∧ w'.cell? ⟨gb278, 1, none⟩ = some (.int .u64 t276) ∧ w'.cell? ⟨gb254, 0, none⟩ = some (.slice Ao36 t251.length co36) ∧ w'.cell? ⟨gb258, 0, none⟩ = some (.slice Ao43 t255.length co43) ∧ w'.cell? ⟨gb286, 0, none⟩ = some (.slice Ao119 t283.length co119) ∧ w'.cell? ⟨gb282, 0, none⟩ = some (.slice Ao104 t279.length co104)) (ds := []) (demurragelaw01_WideTells.ups 55 0) (by kernel_rfl) rfl rfl ⟨(blk_cell BK270.out 0).trans rfl, (blk_cell BK270.out 1).trans rfl, (blk_cell BK1724.out 0).trans rfl, (blk_cell BK1724.out 1).trans rfl, (blk_cell BK274.out 0).trans rfl, (blk_cell BK274.out 1).trans rfl, (blk_cell BK278.out 0).trans rfl, (blk_cell BK278.out 1).trans rfl, (blk_cell BK254.out 0).trans rfl, (blk_cell BK258.out 0).trans rfl, (blk_cell BK286.out 0).trans rfl, (blk_cell BK282.out 0).trans rfl⟩ (fun hHeld => ?_); refine with_tabW demurragelaw01_WideTells.tab19 demurragelaw01_WideTells.bits19 (fun HT_ HW_ => ?_)
              generalize w189.drew = w333 at HO_255000 HO_259000 HO_263000 HO_267000 HO_283000 HO_287000 BK248 BK249 BK254 BK258 BK262 BK266 BK270 BK274 BK278 BK282 BK286 BK1724 HB hHeld ⊢
              refine pure_ (i := 0) (N := some 136) (v := ?_) (a' := ?_) (demurragelaw01_WideTells.ups 55 1) rfl rfl (any_of HT_.out (by kernel_rfl)) (fun _ _ _ h => h) (Or.inl ⟨by rfl, ?_⟩) ?_ ?_
              rotate_left
              · intro w'
                go_simp
                with_reducible rfl
              rotate_left
              · simp only [Act.put, List.setIfInBounds_toArray, List.set_cons_zero, List.set_cons_succ, i64_w, i32_w]
                rfl
              refine pure_ (i := 1) (N := some 137) (v := ?_) (a' := ?_) (demurragelaw01_WideTells.ups 55 3) rfl rfl (any_of HT_.out (by kernel_rfl)) (fun _ _ _ h => h) (Or.inl ⟨by rfl, ?_⟩) ?_ ?_
              rotate_left
              · intro w'
                go_simp
                with_reducible rfl
              rotate_left
              · simp only [Act.put, List.setIfInBounds_toArray, List.set_cons_zero, List.set_cons_succ, i64_w, i32_w]
                rfl
              refine pure_ (i := 2) (N := some 138) (v := ?_) (a' := ?_) (demurragelaw01_WideTells.ups 55 7) rfl rfl (any_of HT_.out (by kernel_rfl)) (fun _ _ _ h => h) (Or.inl ⟨by rfl, ?_⟩) ?_ ?_
              rotate_left
              · intro w'
                go_simp
                with_reducible rfl
              rotate_left
              · simp only [Act.put, List.setIfInBounds_toArray, List.set_cons_zero, List.set_cons_succ, i64_w, i32_w]
                rfl
              refine pure_ (i := 3) (N := some 139) (v := ?_) (a' := ?_) (demurragelaw01_WideTells.ups 55 15) rfl rfl (any_of HT_.out (by kernel_rfl)) (fun _ _ _ h => h) (Or.inl ⟨by rfl, ?_⟩) ?_ ?_
              rotate_left
              · intro w'
                go_simp
                with_reducible rfl
              rotate_left
              · simp only [Act.put, List.setIfInBounds_toArray, List.set_cons_zero, List.set_cons_succ, i64_w, i32_w]
                rfl
              first
                | refine take_ (i := 4) (N := some 140) (v := ?_) (a' := ?_) (demurragelaw01_WideTells.ups 55 31) rfl rfl (take_ofW HT_.out HW_.out (by kernel_rfl)) (fun _ _ _ h => h) (Or.inl ⟨by rfl, ?_⟩) hHeld ?_ ?_
                  rotate_left
                  · rintro w' ⟨s0, s1, s2, s3, s4, s5, s6, s7, s8, s9, s10, s11⟩
                    go_simp
                    with_reducible rfl
                  rotate_left
                  · simp only [Act.put, List.setIfInBounds_toArray, List.set_cons_zero, List.set_cons_succ, i64_w, i32_w]
                    rfl
                | refine pure_ (i := 4) (N := some 140) (v := undef) (a' := ?_) (demurragelaw01_WideTells.ups 55 31) rfl rfl (any_of HT_.out (by kernel_rfl)) (fun _ _ _ h => h) (Or.inr ⟨by rfl, rfl⟩) ?_ ?_
                  rotate_left
                  · simp only [Act.put, List.setIfInBounds_toArray, List.set_cons_zero, List.set_cons_succ, i64_w, i32_w]
                    rfl
              first
                | refine take_ (i := 5) (N := some 141) (v := ?_) (a' := ?_) (demurragelaw01_WideTells.ups 55 63) rfl rfl (take_ofW HT_.out HW_.out (by kernel_rfl)) (fun _ _ _ h => h) (Or.inl ⟨by rfl, ?_⟩) hHeld ?_ ?_
                  rotate_left
                  · rintro w' ⟨s0, s1, s2, s3, s4, s5, s6, s7, s8, s9, s10, s11⟩
                    go_simp
                    with_reducible rfl
                  rotate_left
                  · simp only [Act.put, List.setIfInBounds_toArray, List.set_cons_zero, List.set_cons_succ, i64_w, i32_w]
                    rfl
                | refine pure_ (i := 5) (N := some 141) (v := undef) (a' := ?_) (demurragelaw01_WideTells.ups 55 63) rfl rfl (any_of HT_.out (by kernel_rfl)) (fun _ _ _ h => h) (Or.inr ⟨by rfl, rfl⟩) ?_ ?_
                  rotate_left
                  · simp only [Act.put, List.setIfInBounds_toArray, List.set_cons_zero, List.set_cons_succ, i64_w, i32_w]
                    rfl
              first
                | refine one_ (i := 6) (N := some 142) (demurragelaw01_WideTells.ups 55 127) rfl rfl (one_of HT_.out (by kernel_rfl)) (by decide) (fun K hK => ?_)
                  refine goes_ Try.func14 (by kernel_rfl) rfl #[.agg #[.int .u64 t267, .int .u64 t268], .agg #[.slice Ao104 t279.length co104]] (by rfl) rfl rfl (by (try simp only [List.map_toArray, List.map_cons, List.map_nil]); first | done | rfl) ?_
                  with_reducible refine (demurrageref01_Is.calls kj27 t267 t268 _ _ t279 true _ ?side1 ?side2 A167.out).mono ?_
                  (case side1 => repeat (first | exact (Kd.R_reads' HO_283000.out).2.2 | (with_reducible refine Kd.C_alloc ?_ _) | (with_reducible refine Kd.C_drewN ?_ _) | (with_reducible refine Kd.C_drew ?_)))
                  (case side2 => exact (Kd.R_reads' HO_283000.out).2.1)
                  rintro e w252 ⟨rfl, hb⟩
                  refine ⟨_, rfl, ?_⟩
                  replace HO_255000 := Aside0.mk (Kd.R_below HO_255000.out hb)
                  replace HO_259000 := Aside0.mk (Kd.R_below HO_259000.out hb)
                  replace HO_263000 := Aside0.mk (Kd.R_below HO_263000.out hb)
                  replace HO_267000 := Aside0.mk (Kd.R_below HO_267000.out hb)
                  replace HO_283000 := Aside0.mk (Kd.R_below HO_283000.out hb)
                  replace HO_287000 := Aside0.mk (Kd.R_below HO_287000.out hb)
                  replace BK248 := Aside0.mk (blk_below BK248.out hb)
                  replace BK249 := Aside0.mk (blk_below BK249.out hb)
                  replace BK254 := Aside0.mk (blk_below BK254.out hb)
                  replace BK258 := Aside0.mk (blk_below BK258.out hb)
                  replace BK262 := Aside0.mk (blk_below BK262.out hb)
                  replace BK266 := Aside0.mk (blk_below BK266.out hb)
                  replace BK270 := Aside0.mk (blk_below BK270.out hb)
                  replace BK274 := Aside0.mk (blk_below BK274.out hb)
                  replace BK278 := Aside0.mk (blk_below BK278.out hb)
                  replace BK282 := Aside0.mk (blk_below BK282.out hb)
                  replace BK286 := Aside0.mk (blk_below BK286.out hb)
                  replace BK1724 := Aside0.mk (blk_below BK1724.out hb)
                  replace HB := Aside0.mk (below_step (by repeat (first | (with_reducible first | exact HB.out | apply below_alloc | apply pw_below_drewN | apply below_drew1 | refine below_set ?_ GE248.out | refine below_set ?_ GE249.out | refine below_set ?_ GE254.out | refine below_set ?_ GE258.out | refine below_set ?_ GE262.out | refine below_set ?_ GE266.out | refine below_set ?_ GE270.out | refine below_set ?_ GE274.out | refine below_set ?_ GE278.out | refine below_set ?_ GE282.out | refine below_set ?_ GE286.out | refine below_set ?_ GE1724.out) | exact HB.out)) hb)
                  (try clear hb)
                  (try clear hb2)
                  (try clear hk)
                  (try clear hi)
                  refine hK.out _ _ ⟨(blk_cell BK270.out 0).trans rfl, (blk_cell BK270.out 1).trans rfl, (blk_cell BK1724.out 0).trans rfl, (blk_cell BK1724.out 1).trans rfl, (blk_cell BK274.out 0).trans rfl, (blk_cell BK274.out 1).trans rfl, (blk_cell BK278.out 0).trans rfl, (blk_cell BK278.out 1).trans rfl, (blk_cell BK254.out 0).trans rfl, (blk_cell BK258.out 0).trans rfl, (blk_cell BK286.out 0).trans rfl, (blk_cell BK282.out 0).trans rfl⟩ (fun hHeld => ?_)
                  clear hK K
                  refine norm_ (a' := ?_) ?_ ?_
                  rotate_left
                  · show Act.put _ (some 142) _ = _
                    simp only [Act.put, List.setIfInBounds_toArray, List.set_cons_zero, List.set_cons_succ, i64_w, i32_w]
                    rfl
                | refine pure_ (i := 6) (N := some 142) (v := undef) (a' := ?_) (demurragelaw01_WideTells.ups 55 127) rfl rfl (any_of HT_.out (by kernel_rfl)) (fun _ _ _ h => h) (Or.inr ⟨by rfl, rfl⟩) ?_ ?_
                  rotate_left
                  · simp only [Act.put, List.setIfInBounds_toArray, List.set_cons_zero, List.set_cons_succ, i64_w, i32_w]
                    rfl
              refine pure_ (i := 7) (N := some 143) (v := ?_) (a' := ?_) (demurragelaw01_WideTells.ups 55 255) rfl rfl (any_of HT_.out (by kernel_rfl)) (fun _ _ _ h => h) (Or.inl ⟨by rfl, ?_⟩) ?_ ?_
              rotate_left
              · intro w'
                go_simp
                with_reducible rfl
              rotate_left
              · simp only [Act.put, List.setIfInBounds_toArray, List.set_cons_zero, List.set_cons_succ, i64_w, i32_w]
                rfl
              refine pure_ (i := 8) (N := some 144) (v := ?_) (a' := ?_) (demurragelaw01_WideTells.ups 55 511) rfl rfl (any_of HT_.out (by kernel_rfl)) (fun _ _ _ h => h) (Or.inl ⟨by rfl, ?_⟩) ?_ ?_
              rotate_left
              · intro w'
                go_simp
                with_reducible rfl
              rotate_left
              · simp only [Act.put, List.setIfInBounds_toArray, List.set_cons_zero, List.set_cons_succ, i64_w, i32_w]
                rfl
              first
                | refine pure_ (i := 9) (N := some 145) (v := ?_) (a' := ?_) (demurragelaw01_WideTells.ups 55 1023) rfl rfl (any_of HT_.out (by kernel_rfl)) (fun _ _ _ h => h) (Or.inl ⟨by rfl, ?_⟩) ?_ ?_
                  rotate_left
                  · intro w'
                    go_simp
                    with_reducible rfl
                  rotate_left
                  · simp only [Act.put, List.setIfInBounds_toArray, List.set_cons_zero, List.set_cons_succ, i64_w, i32_w]
                    rfl
                | refine pure_ (i := 9) (N := some 145) (v := undef) (a' := ?_) (demurragelaw01_WideTells.ups 55 1023) rfl rfl (any_of HT_.out (by kernel_rfl)) (fun _ _ _ h => h) (Or.inr ⟨by rfl, rfl⟩) ?_ ?_
                  rotate_left
                  · simp only [Act.put, List.setIfInBounds_toArray, List.set_cons_zero, List.set_cons_succ, i64_w, i32_w]
                    rfl
              first
                | refine pure_ (i := 10) (N := some 146) (v := ?_) (a' := ?_) (demurragelaw01_WideTells.ups 55 2047) rfl rfl (any_of HT_.out (by kernel_rfl)) (fun _ _ _ h => h) (Or.inl ⟨by rfl, ?_⟩) ?_ ?_
                  rotate_left
                  · intro w'
                    go_simp
                    with_reducible rfl
                  rotate_left
                  · simp only [Act.put, List.setIfInBounds_toArray, List.set_cons_zero, List.set_cons_succ, i64_w, i32_w]
                    rfl
                | refine pure_ (i := 10) (N := some 146) (v := undef) (a' := ?_) (demurragelaw01_WideTells.ups 55 2047) rfl rfl (any_of HT_.out (by kernel_rfl)) (fun _ _ _ h => h) (Or.inr ⟨by rfl, rfl⟩) ?_ ?_
                  rotate_left
                  · simp only [Act.put, List.setIfInBounds_toArray, List.set_cons_zero, List.set_cons_succ, i64_w, i32_w]
                    rfl
              first
                | refine pure_ (i := 11) (N := some 147) (v := ?_) (a' := ?_) (demurragelaw01_WideTells.ups 55 4095) rfl rfl (any_of HT_.out (by kernel_rfl)) (fun _ _ _ h => h) (Or.inl ⟨by rfl, ?_⟩) ?_ ?_
                  rotate_left
                  · intro w'
                    go_simp
                    with_reducible rfl
                  rotate_left
                  · simp only [Act.put, List.setIfInBounds_toArray, List.set_cons_zero, List.set_cons_succ, i64_w, i32_w]
                    rfl
                | refine pure_ (i := 11) (N := some 147) (v := undef) (a' := ?_) (demurragelaw01_WideTells.ups 55 4095) rfl rfl (any_of HT_.out (by kernel_rfl)) (fun _ _ _ h => h) (Or.inr ⟨by rfl, rfl⟩) ?_ ?_
                  rotate_left
                  · simp only [Act.put, List.setIfInBounds_toArray, List.set_cons_zero, List.set_cons_succ, i64_w, i32_w]
                    rfl
              first
                | refine take_ (i := 12) (N := some 148) (v := ?_) (a' := ?_) (demurragelaw01_WideTells.ups 55 8191) rfl rfl (take_ofW HT_.out HW_.out (by kernel_rfl)) (fun _ _ _ h => h) (Or.inl ⟨by rfl, ?_⟩) hHeld ?_ ?_
                  rotate_left
                  · rintro w' ⟨s0, s1, s2, s3, s4, s5, s6, s7, s8, s9, s10, s11⟩
                    go_simp
                    with_reducible rfl
                  rotate_left
                  · simp only [Act.put, List.setIfInBounds_toArray, List.set_cons_zero, List.set_cons_succ, i64_w, i32_w]
                    rfl
                | refine pure_ (i := 12) (N := some 148) (v := undef) (a' := ?_) (demurragelaw01_WideTells.ups 55 8191) rfl rfl (any_of HT_.out (by kernel_rfl)) (fun _ _ _ h => h) (Or.inr ⟨by rfl, rfl⟩) ?_ ?_
                  rotate_left
                  · simp only [Act.put, List.setIfInBounds_toArray, List.set_cons_zero, List.set_cons_succ, i64_w, i32_w]
                    rfl
              first
                | refine take_ (i := 13) (N := some 149) (v := ?_) (a' := ?_) (demurragelaw01_WideTells.ups 55 16383) rfl rfl (take_ofW HT_.out HW_.out (by kernel_rfl)) (fun _ _ _ h => h) (Or.inl ⟨by rfl, ?_⟩) hHeld ?_ ?_
                  rotate_left
                  · rintro w' ⟨s0, s1, s2, s3, s4, s5, s6, s7, s8, s9, s10, s11⟩
                    go_simp
                    with_reducible rfl
                  rotate_left
                  · simp only [Act.put, List.setIfInBounds_toArray, List.set_cons_zero, List.set_cons_succ, i64_w, i32_w]
                    rfl
                | refine pure_ (i := 13) (N := some 149) (v := undef) (a' := ?_) (demurragelaw01_WideTells.ups 55 16383) rfl rfl (any_of HT_.out (by kernel_rfl)) (fun _ _ _ h => h) (Or.inr ⟨by rfl, rfl⟩) ?_ ?_
                  rotate_left
                  · simp only [Act.put, List.setIfInBounds_toArray, List.set_cons_zero, List.set_cons_succ, i64_w, i32_w]
                    rfl
              first
                | refine pure_ (i := 14) (N := some 150) (v := ?_) (a' := ?_) (demurragelaw01_WideTells.ups 55 32767) rfl rfl (any_of HT_.out (by kernel_rfl)) (fun _ _ _ h => h) (Or.inl ⟨by rfl, ?_⟩) ?_ ?_
                  rotate_left
                  · intro w'
                    go_simp
                    with_reducible rfl
                  rotate_left
                  · simp only [Act.put, List.setIfInBounds_toArray, List.set_cons_zero, List.set_cons_succ, i64_w, i32_w]
                    rfl
                | refine pure_ (i := 14) (N := some 150) (v := undef) (a' := ?_) (demurragelaw01_WideTells.ups 55 32767) rfl rfl (any_of HT_.out (by kernel_rfl)) (fun _ _ _ h => h) (Or.inr ⟨by rfl, rfl⟩) ?_ ?_
                  rotate_left
                  · simp only [Act.put, List.setIfInBounds_toArray, List.set_cons_zero, List.set_cons_succ, i64_w, i32_w]
                    rfl
              first
                | refine pure_ (i := 15) (N := some 151) (v := ?_) (a' := ?_) (demurragelaw01_WideTells.ups 55 65535) rfl rfl (any_of HT_.out (by kernel_rfl)) (fun _ _ _ h => h) (Or.inl ⟨by rfl, ?_⟩) ?_ ?_
                  rotate_left
                  · intro w'
                    go_simp
                    with_reducible rfl
                  rotate_left
                  · simp only [Act.put, List.setIfInBounds_toArray, List.set_cons_zero, List.set_cons_succ, i64_w, i32_w]
                    rfl
                | refine pure_ (i := 15) (N := some 151) (v := undef) (a' := ?_) (demurragelaw01_WideTells.ups 55 65535) rfl rfl (any_of HT_.out (by kernel_rfl)) (fun _ _ _ h => h) (Or.inr ⟨by rfl, rfl⟩) ?_ ?_
                  rotate_left
                  · simp only [Act.put, List.setIfInBounds_toArray, List.set_cons_zero, List.set_cons_succ, i64_w, i32_w]
                    rfl
              refine pure_ (i := 16) (N := some 152) (v := ?_) (a' := ?_) (demurragelaw01_WideTells.ups 55 131071) rfl rfl (any_of HT_.out (by kernel_rfl)) (fun _ _ _ h => h) (Or.inl ⟨by rfl, ?_⟩) ?_ ?_
              rotate_left
              · intro w'
                go_simp
                with_reducible rfl
              rotate_left
              · simp only [Act.put, List.setIfInBounds_toArray, List.set_cons_zero, List.set_cons_succ, i64_w, i32_w]
                rfl
              refine pure_ (i := 17) (N := some 153) (v := ?_) (a' := ?_) (demurragelaw01_WideTells.ups 55 262143) rfl rfl (any_of HT_.out (by kernel_rfl)) (fun _ _ _ h => h) (Or.inl ⟨by rfl, ?_⟩) ?_ ?_
              rotate_left
              · intro w'
                go_simp
                with_reducible rfl
              rotate_left
              · simp only [Act.put, List.setIfInBounds_toArray, List.set_cons_zero, List.set_cons_succ, i64_w, i32_w]
                rfl
              refine pure_ (i := 18) (N := some 154) (v := ?_) (a' := ?_) (demurragelaw01_WideTells.ups 55 524287) rfl rfl (any_of HT_.out (by kernel_rfl)) (fun _ _ _ h => h) (Or.inl ⟨by rfl, ?_⟩) ?_ ?_
              rotate_left
              · intro w'
                go_simp
                with_reducible rfl
              rotate_left
              · simp only [Act.put, List.setIfInBounds_toArray, List.set_cons_zero, List.set_cons_succ, i64_w, i32_w]
                rfl
              refine pure_ (i := 19) (N := some 155) (v := ?_) (a' := ?_) (demurragelaw01_WideTells.ups 55 1048575) rfl rfl (any_of HT_.out (by kernel_rfl)) (fun _ _ _ h => h) (Or.inl ⟨by rfl, ?_⟩) ?_ ?_
              rotate_left
              · intro w'
                go_simp
                with_reducible rfl
              rotate_left
              · simp only [Act.put, List.setIfInBounds_toArray, List.set_cons_zero, List.set_cons_succ, i64_w, i32_w]
                rfl
              refine pure_ (i := 20) (N := some 156) (v := ?_) (a' := ?_) (demurragelaw01_WideTells.ups 55 2097151) rfl rfl (any_of HT_.out (by kernel_rfl)) (fun _ _ _ h => h) (Or.inl ⟨by rfl, ?_⟩) ?_ ?_
              rotate_left
              · intro w'
                go_simp
                with_reducible rfl
              rotate_left
              · simp only [Act.put, List.setIfInBounds_toArray, List.set_cons_zero, List.set_cons_succ, i64_w, i32_w]
                rfl
              first
                | refine take_ (i := 21) (N := some 157) (v := ?_) (a' := ?_) (demurragelaw01_WideTells.ups 55 4194303) rfl rfl (take_ofW HT_.out HW_.out (by kernel_rfl)) (fun _ _ _ h => h) (Or.inl ⟨by rfl, ?_⟩) hHeld ?_ ?_
                  rotate_left
                  · rintro w' ⟨s0, s1, s2, s3, s4, s5, s6, s7, s8, s9, s10, s11⟩
                    go_simp
                    with_reducible rfl
                  rotate_left
                  · simp only [Act.put, List.setIfInBounds_toArray, List.set_cons_zero, List.set_cons_succ, i64_w, i32_w]
                    rfl
                | refine pure_ (i := 21) (N := some 157) (v := undef) (a' := ?_) (demurragelaw01_WideTells.ups 55 4194303) rfl rfl (any_of HT_.out (by kernel_rfl)) (fun _ _ _ h => h) (Or.inr ⟨by rfl, rfl⟩) ?_ ?_
                  rotate_left
                  · simp only [Act.put, List.setIfInBounds_toArray, List.set_cons_zero, List.set_cons_succ, i64_w, i32_w]
                    rfl
              first
                | refine take_ (i := 22) (N := some 158) (v := ?_) (a' := ?_) (demurragelaw01_WideTells.ups 55 8388607) rfl rfl (take_ofW HT_.out HW_.out (by kernel_rfl)) (fun _ _ _ h => h) (Or.inl ⟨by rfl, ?_⟩) hHeld ?_ ?_
                  rotate_left
                  · rintro w' ⟨s0, s1, s2, s3, s4, s5, s6, s7, s8, s9, s10, s11⟩
                    go_simp
                    with_reducible rfl
                  rotate_left
                  · simp only [Act.put, List.setIfInBounds_toArray, List.set_cons_zero, List.set_cons_succ, i64_w, i32_w]
                    rfl
                | refine pure_ (i := 22) (N := some 158) (v := undef) (a' := ?_) (demurragelaw01_WideTells.ups 55 8388607) rfl rfl (any_of HT_.out (by kernel_rfl)) (fun _ _ _ h => h) (Or.inr ⟨by rfl, rfl⟩) ?_ ?_
                  rotate_left
                  · simp only [Act.put, List.setIfInBounds_toArray, List.set_cons_zero, List.set_cons_succ, i64_w, i32_w]
                    rfl
              first
                | refine one_ (i := 23) (N := some 159) (demurragelaw01_WideTells.ups 55 16777215) rfl rfl (one_of HT_.out (by kernel_rfl)) (by decide) (fun K hK => ?_)
                  refine goes_ Try.func14 (by kernel_rfl) rfl #[.agg #[.int .u64 t271, .int .u64 t272], .agg #[.slice Ao119 t283.length co119]] (by rfl) rfl rfl (by (try simp only [List.map_toArray, List.map_cons, List.map_nil]); first | done | rfl) ?_
                  with_reducible refine (demurrageref01_Is.calls kj27 t271 t272 _ _ t283 true _ ?side1 ?side2 A255.out).mono ?_
                  (case side1 => repeat (first | exact (Kd.R_reads' HO_287000.out).2.2 | (with_reducible refine Kd.C_alloc ?_ _) | (with_reducible refine Kd.C_drewN ?_ _) | (with_reducible refine Kd.C_drew ?_)))
                  (case side2 => exact (Kd.R_reads' HO_287000.out).2.1)
                  rintro e w295 ⟨rfl, hb⟩
                  refine ⟨_, rfl, ?_⟩
                  replace HO_255000 := Aside0.mk (Kd.R_below HO_255000.out hb)
                  replace HO_259000 := Aside0.mk (Kd.R_below HO_259000.out hb)
                  replace HO_263000 := Aside0.mk (Kd.R_below HO_263000.out hb)
                  replace HO_267000 := Aside0.mk (Kd.R_below HO_267000.out hb)
                  replace HO_283000 := Aside0.mk (Kd.R_below HO_283000.out hb)
                  replace HO_287000 := Aside0.mk (Kd.R_below HO_287000.out hb)
                  replace BK248 := Aside0.mk (blk_below BK248.out hb)
                  replace BK249 := Aside0.mk (blk_below BK249.out hb)
                  replace BK254 := Aside0.mk (blk_below BK254.out hb)
                  replace BK258 := Aside0.mk (blk_below BK258.out hb)
                  replace BK262 := Aside0.mk (blk_below BK262.out hb)
                  replace BK266 := Aside0.mk (blk_below BK266.out hb)
                  replace BK270 := Aside0.mk (blk_below BK270.out hb)
                  replace BK274 := Aside0.mk (blk_below BK274.out hb)
                  replace BK278 := Aside0.mk (blk_below BK278.out hb)
                  replace BK282 := Aside0.mk (blk_below BK282.out hb)
                  replace BK286 := Aside0.mk (blk_below BK286.out hb)
                  replace BK1724 := Aside0.mk (blk_below BK1724.out hb)
                  replace HB := Aside0.mk (below_step (by repeat (first | (with_reducible first | exact HB.out | apply below_alloc | apply pw_below_drewN | apply below_drew1 | refine below_set ?_ GE248.out | refine below_set ?_ GE249.out | refine below_set ?_ GE254.out | refine below_set ?_ GE258.out | refine below_set ?_ GE262.out | refine below_set ?_ GE266.out | refine below_set ?_ GE270.out | refine below_set ?_ GE274.out | refine below_set ?_ GE278.out | refine below_set ?_ GE282.out | refine below_set ?_ GE286.out | refine below_set ?_ GE1724.out) | exact HB.out)) hb)
                  (try clear hb)
                  (try clear hb2)
                  (try clear hk)
                  (try clear hi)
                  refine hK.out _ _ ⟨(blk_cell BK270.out 0).trans rfl, (blk_cell BK270.out 1).trans rfl, (blk_cell BK1724.out 0).trans rfl, (blk_cell BK1724.out 1).trans rfl, (blk_cell BK274.out 0).trans rfl, (blk_cell BK274.out 1).trans rfl, (blk_cell BK278.out 0).trans rfl, (blk_cell BK278.out 1).trans rfl, (blk_cell BK254.out 0).trans rfl, (blk_cell BK258.out 0).trans rfl, (blk_cell BK286.out 0).trans rfl, (blk_cell BK282.out 0).trans rfl⟩ (fun hHeld => ?_)
                  clear hK K
                  refine norm_ (a' := ?_) ?_ ?_
                  rotate_left
                  · show Act.put _ (some 159) _ = _
                    simp only [Act.put, List.setIfInBounds_toArray, List.set_cons_zero, List.set_cons_succ, i64_w, i32_w]
                    rfl
                | refine pure_ (i := 23) (N := some 159) (v := undef) (a' := ?_) (demurragelaw01_WideTells.ups 55 16777215) rfl rfl (any_of HT_.out (by kernel_rfl)) (fun _ _ _ h => h) (Or.inr ⟨by rfl, rfl⟩) ?_ ?_
                  rotate_left
                  · simp only [Act.put, List.setIfInBounds_toArray, List.set_cons_zero, List.set_cons_succ, i64_w, i32_w]
                    rfl
              refine pure_ (i := 24) (N := some 160) (v := ?_) (a' := ?_) (demurragelaw01_WideTells.ups 55 33554431) rfl rfl (any_of HT_.out (by kernel_rfl)) (fun _ _ _ h => h) (Or.inl ⟨by rfl, ?_⟩) ?_ ?_
              rotate_left
              · intro w'
                go_simp
                with_reducible rfl
              rotate_left
              · simp only [Act.put, List.setIfInBounds_toArray, List.set_cons_zero, List.set_cons_succ, i64_w, i32_w]
                rfl
              refine pure_ (i := 25) (N := some 161) (v := ?_) (a' := ?_) (demurragelaw01_WideTells.ups 55 67108863) rfl rfl (any_of HT_.out (by kernel_rfl)) (fun _ _ _ h => h) (Or.inl ⟨by rfl, ?_⟩) ?_ ?_
              rotate_left
              · intro w'
                go_simp
                with_reducible rfl
              rotate_left
              · simp only [Act.put, List.setIfInBounds_toArray, List.set_cons_zero, List.set_cons_succ, i64_w, i32_w]
                rfl
              first
                | refine pure_ (i := 26) (N := some 162) (v := ?_) (a' := ?_) (demurragelaw01_WideTells.ups 55 134217727) rfl rfl (any_of HT_.out (by kernel_rfl)) (fun _ _ _ h => h) (Or.inl ⟨by rfl, ?_⟩) ?_ ?_
                  rotate_left
                  · intro w'
                    go_simp
                    with_reducible rfl
                  rotate_left
                  · simp only [Act.put, List.setIfInBounds_toArray, List.set_cons_zero, List.set_cons_succ, i64_w, i32_w]
                    rfl
                | refine pure_ (i := 26) (N := some 162) (v := undef) (a' := ?_) (demurragelaw01_WideTells.ups 55 134217727) rfl rfl (any_of HT_.out (by kernel_rfl)) (fun _ _ _ h => h) (Or.inr ⟨by rfl, rfl⟩) ?_ ?_
                  rotate_left
                  · simp only [Act.put, List.setIfInBounds_toArray, List.set_cons_zero, List.set_cons_succ, i64_w, i32_w]
                    rfl
              first
                | refine pure_ (i := 27) (N := some 163) (v := ?_) (a' := ?_) (demurragelaw01_WideTells.ups 55 268435455) rfl rfl (any_of HT_.out (by kernel_rfl)) (fun _ _ _ h => h) (Or.inl ⟨by rfl, ?_⟩) ?_ ?_
                  rotate_left
                  · intro w'
                    go_simp
                    with_reducible rfl
                  rotate_left
                  · simp only [Act.put, List.setIfInBounds_toArray, List.set_cons_zero, List.set_cons_succ, i64_w, i32_w]
                    rfl
                | refine pure_ (i := 27) (N := some 163) (v := undef) (a' := ?_) (demurragelaw01_WideTells.ups 55 268435455) rfl rfl (any_of HT_.out (by kernel_rfl)) (fun _ _ _ h => h) (Or.inr ⟨by rfl, rfl⟩) ?_ ?_
                  rotate_left
                  · simp only [Act.put, List.setIfInBounds_toArray, List.set_cons_zero, List.set_cons_succ, i64_w, i32_w]
                    rfl
              first
                | refine pure_ (i := 28) (N := some 164) (v := ?_) (a' := ?_) (demurragelaw01_WideTells.ups 55 536870911) rfl rfl (any_of HT_.out (by kernel_rfl)) (fun _ _ _ h => h) (Or.inl ⟨by rfl, ?_⟩) ?_ ?_
                  rotate_left
                  · intro w'
                    go_simp
                    with_reducible rfl
                  rotate_left
                  · simp only [Act.put, List.setIfInBounds_toArray, List.set_cons_zero, List.set_cons_succ, i64_w, i32_w]
                    rfl
                | refine pure_ (i := 28) (N := some 164) (v := undef) (a' := ?_) (demurragelaw01_WideTells.ups 55 536870911) rfl rfl (any_of HT_.out (by kernel_rfl)) (fun _ _ _ h => h) (Or.inr ⟨by rfl, rfl⟩) ?_ ?_
                  rotate_left
                  · simp only [Act.put, List.setIfInBounds_toArray, List.set_cons_zero, List.set_cons_succ, i64_w, i32_w]
                    rfl
              first
                | refine take_ (i := 29) (N := some 165) (v := ?_) (a' := ?_) (demurragelaw01_WideTells.ups 55 1073741823) rfl rfl (take_ofW HT_.out HW_.out (by kernel_rfl)) (fun _ _ _ h => h) (Or.inl ⟨by rfl, ?_⟩) hHeld ?_ ?_
                  rotate_left
                  · rintro w' ⟨s0, s1, s2, s3, s4, s5, s6, s7, s8, s9, s10, s11⟩
                    go_simp
                    with_reducible rfl
                  rotate_left
                  · simp only [Act.put, List.setIfInBounds_toArray, List.set_cons_zero, List.set_cons_succ, i64_w, i32_w]
                    rfl
                | refine pure_ (i := 29) (N := some 165) (v := undef) (a' := ?_) (demurragelaw01_WideTells.ups 55 1073741823) rfl rfl (any_of HT_.out (by kernel_rfl)) (fun _ _ _ h => h) (Or.inr ⟨by rfl, rfl⟩) ?_ ?_
                  rotate_left
                  · simp only [Act.put, List.setIfInBounds_toArray, List.set_cons_zero, List.set_cons_succ, i64_w, i32_w]
                    rfl
              first
                | refine take_ (i := 30) (N := some 166) (v := ?_) (a' := ?_) (demurragelaw01_WideTells.ups 55 2147483647) rfl rfl (take_ofW HT_.out HW_.out (by kernel_rfl)) (fun _ _ _ h => h) (Or.inl ⟨by rfl, ?_⟩) hHeld ?_ ?_
                  rotate_left
                  · rintro w' ⟨s0, s1, s2, s3, s4, s5, s6, s7, s8, s9, s10, s11⟩
                    go_simp
                    with_reducible rfl
                  rotate_left
                  · simp only [Act.put, List.setIfInBounds_toArray, List.set_cons_zero, List.set_cons_succ, i64_w, i32_w]
                    rfl
                | refine pure_ (i := 30) (N := some 166) (v := undef) (a' := ?_) (demurragelaw01_WideTells.ups 55 2147483647) rfl rfl (any_of HT_.out (by kernel_rfl)) (fun _ _ _ h => h) (Or.inr ⟨by rfl, rfl⟩) ?_ ?_
                  rotate_left
                  · simp only [Act.put, List.setIfInBounds_toArray, List.set_cons_zero, List.set_cons_succ, i64_w, i32_w]
                    rfl
              first
                | refine pure_ (i := 31) (N := some 167) (v := ?_) (a' := ?_) (demurragelaw01_WideTells.ups 55 4294967295) rfl rfl (any_of HT_.out (by kernel_rfl)) (fun _ _ _ h => h) (Or.inl ⟨by rfl, ?_⟩) ?_ ?_
                  rotate_left
                  · intro w'
                    go_simp
                    with_reducible rfl
                  rotate_left
                  · simp only [Act.put, List.setIfInBounds_toArray, List.set_cons_zero, List.set_cons_succ, i64_w, i32_w]
                    rfl
                | refine pure_ (i := 31) (N := some 167) (v := undef) (a' := ?_) (demurragelaw01_WideTells.ups 55 4294967295) rfl rfl (any_of HT_.out (by kernel_rfl)) (fun _ _ _ h => h) (Or.inr ⟨by rfl, rfl⟩) ?_ ?_
                  rotate_left
                  · simp only [Act.put, List.setIfInBounds_toArray, List.set_cons_zero, List.set_cons_succ, i64_w, i32_w]
                    rfl
              first
                | refine pure_ (i := 32) (N := some 168) (v := ?_) (a' := ?_) (demurragelaw01_WideTells.ups 55 8589934591) rfl rfl (any_of HT_.out (by kernel_rfl)) (fun _ _ _ h => h) (Or.inl ⟨by rfl, ?_⟩) ?_ ?_
                  rotate_left
                  · intro w'
                    go_simp
                    with_reducible rfl
                  rotate_left
                  · simp only [Act.put, List.setIfInBounds_toArray, List.set_cons_zero, List.set_cons_succ, i64_w, i32_w]
                    rfl
                | refine pure_ (i := 32) (N := some 168) (v := undef) (a' := ?_) (demurragelaw01_WideTells.ups 55 8589934591) rfl rfl (any_of HT_.out (by kernel_rfl)) (fun _ _ _ h => h) (Or.inr ⟨by rfl, rfl⟩) ?_ ?_
                  rotate_left
                  · simp only [Act.put, List.setIfInBounds_toArray, List.set_cons_zero, List.set_cons_succ, i64_w, i32_w]
                    rfl
              refine pure_ (i := 33) (N := some 169) (v := ?_) (a' := ?_) (demurragelaw01_WideTells.ups 55 17179869183) rfl rfl (any_of HT_.out (by kernel_rfl)) (fun _ _ _ h => h) (Or.inl ⟨by rfl, ?_⟩) ?_ ?_
              rotate_left
              · intro w'
                go_simp
                with_reducible rfl
              rotate_left
              · simp only [Act.put, List.setIfInBounds_toArray, List.set_cons_zero, List.set_cons_succ, i64_w, i32_w]
                rfl
              refine pure_ (i := 34) (N := some 170) (v := ?_) (a' := ?_) (demurragelaw01_WideTells.ups 55 34359738367) rfl rfl (any_of HT_.out (by kernel_rfl)) (fun _ _ _ h => h) (Or.inl ⟨by rfl, ?_⟩) ?_ ?_
              rotate_left
              · intro w'
                go_simp
                with_reducible rfl
              rotate_left
              · simp only [Act.put, List.setIfInBounds_toArray, List.set_cons_zero, List.set_cons_succ, i64_w, i32_w]
                rfl
              refine pure_ (i := 35) (N := some 171) (v := ?_) (a' := ?_) (demurragelaw01_WideTells.ups 55 68719476735) rfl rfl (any_of HT_.out (by kernel_rfl)) (fun _ _ _ h => h) (Or.inl ⟨by rfl, ?_⟩) ?_ ?_
              rotate_left
              · intro w'
                go_simp
                with_reducible rfl
              rotate_left
              · simp only [Act.put, List.setIfInBounds_toArray, List.set_cons_zero, List.set_cons_succ, i64_w, i32_w]
                rfl
              refine pure_ (i := 36) (N := some 172) (v := ?_) (a' := ?_) (demurragelaw01_WideTells.ups 55 137438953471) rfl rfl (any_of HT_.out (by kernel_rfl)) (fun _ _ _ h => h) (Or.inl ⟨by rfl, ?_⟩) ?_ ?_
              rotate_left
              · intro w'
                go_simp
                with_reducible rfl
              rotate_left
              · simp only [Act.put, List.setIfInBounds_toArray, List.set_cons_zero, List.set_cons_succ, i64_w, i32_w]
                rfl
              refine pure_ (i := 37) (N := some 173) (v := ?_) (a' := ?_) (demurragelaw01_WideTells.ups 55 274877906943) rfl rfl (any_of HT_.out (by kernel_rfl)) (fun _ _ _ h => h) (Or.inl ⟨by rfl, ?_⟩) ?_ ?_
              rotate_left
              · intro w'
                go_simp
                with_reducible rfl
              rotate_left
              · simp only [Act.put, List.setIfInBounds_toArray, List.set_cons_zero, List.set_cons_succ, i64_w, i32_w]
                rfl
              first
                | refine take_ (i := 38) (N := some 174) (v := ?_) (a' := ?_) (demurragelaw01_WideTells.ups 55 549755813887) rfl rfl (take_ofW HT_.out HW_.out (by kernel_rfl)) (fun _ _ _ h => h) (Or.inl ⟨by rfl, ?_⟩) hHeld ?_ ?_
                  rotate_left
                  · rintro w' ⟨s0, s1, s2, s3, s4, s5, s6, s7, s8, s9, s10, s11⟩
                    go_simp
                    with_reducible rfl
                  rotate_left
                  · simp only [Act.put, List.setIfInBounds_toArray, List.set_cons_zero, List.set_cons_succ, i64_w, i32_w]
                    rfl
                | refine pure_ (i := 38) (N := some 174) (v := undef) (a' := ?_) (demurragelaw01_WideTells.ups 55 549755813887) rfl rfl (any_of HT_.out (by kernel_rfl)) (fun _ _ _ h => h) (Or.inr ⟨by rfl, rfl⟩) ?_ ?_
                  rotate_left
                  · simp only [Act.put, List.setIfInBounds_toArray, List.set_cons_zero, List.set_cons_succ, i64_w, i32_w]
                    rfl
              first
                | refine take_ (i := 39) (N := some 175) (v := ?_) (a' := ?_) (demurragelaw01_WideTells.ups 55 1099511627775) rfl rfl (take_ofW HT_.out HW_.out (by kernel_rfl)) (fun _ _ _ h => h) (Or.inl ⟨by rfl, ?_⟩) hHeld ?_ ?_
                  rotate_left
                  · rintro w' ⟨s0, s1, s2, s3, s4, s5, s6, s7, s8, s9, s10, s11⟩
                    go_simp
                    with_reducible rfl
                  rotate_left
                  · simp only [Act.put, List.setIfInBounds_toArray, List.set_cons_zero, List.set_cons_succ, i64_w, i32_w]
                    rfl
                | refine pure_ (i := 39) (N := some 175) (v := undef) (a' := ?_) (demurragelaw01_WideTells.ups 55 1099511627775) rfl rfl (any_of HT_.out (by kernel_rfl)) (fun _ _ _ h => h) (Or.inr ⟨by rfl, rfl⟩) ?_ ?_
                  rotate_left
                  · simp only [Act.put, List.setIfInBounds_toArray, List.set_cons_zero, List.set_cons_succ, i64_w, i32_w]
                    rfl
              first
                | refine take_ (i := 40) (N := some 176) (v := ?_) (a' := ?_) (demurragelaw01_WideTells.ups 55 2199023255551) rfl rfl (take_ofW HT_.out HW_.out (by kernel_rfl)) (fun _ _ _ h => h) (Or.inl ⟨by rfl, ?_⟩) hHeld ?_ ?_
                  rotate_left
                  · rintro w' ⟨s0, s1, s2, s3, s4, s5, s6, s7, s8, s9, s10, s11⟩
                    go_simp
                    with_reducible rfl
                  rotate_left
                  · simp only [Act.put, List.setIfInBounds_toArray, List.set_cons_zero, List.set_cons_succ, i64_w, i32_w]
                    rfl
                | refine pure_ (i := 40) (N := some 176) (v := undef) (a' := ?_) (demurragelaw01_WideTells.ups 55 2199023255551) rfl rfl (any_of HT_.out (by kernel_rfl)) (fun _ _ _ h => h) (Or.inr ⟨by rfl, rfl⟩) ?_ ?_
                  rotate_left
                  · simp only [Act.put, List.setIfInBounds_toArray, List.set_cons_zero, List.set_cons_succ, i64_w, i32_w]
                    rfl
              first
                | refine one_ (i := 41) (N := some 177) (demurragelaw01_WideTells.ups 55 4398046511103) rfl rfl (one_of HT_.out (by kernel_rfl)) (by decide) (fun K hK => ?_)
                  refine goes_ Try.func18 (by kernel_rfl) rfl #[.agg #[.slice Ao36 t251.length co36], .agg #[.slice Ao43 t255.length co43]] (by rfl) rfl rfl (by (try simp only [List.map_toArray, List.map_cons, List.map_nil]); first | done | rfl) ?_
                  with_reducible refine (demurrageref01_Less.calls kj27 _ _ t251 _ _ t255 t1740 _ ?side1 ?side2 ?side3 ?side4 A298.out).mono ?_
                  (case side1 => repeat (first | exact (Kd.R_reads' HO_255000.out).2.2 | (with_reducible refine Kd.C_alloc ?_ _) | (with_reducible refine Kd.C_drewN ?_ _) | (with_reducible refine Kd.C_drew ?_)))
                  (case side2 => exact (Kd.R_reads' HO_255000.out).2.1)
                  (case side3 => repeat (first | exact (Kd.R_reads' HO_259000.out).2.2 | (with_reducible refine Kd.C_alloc ?_ _) | (with_reducible refine Kd.C_drewN ?_ _) | (with_reducible refine Kd.C_drew ?_)))
                  (case side4 => exact (Kd.R_reads' HO_259000.out).2.1)
                  rintro e w316 ⟨v1741, rfl, ho0, hb⟩
                  refine ⟨_, rfl, ?_⟩
                  have HO1742 := Aside0.mk (Kd.R_lower (Kd.R_new' (Kd.R_new' (Kd.R_new' (Kd.R_new' (Kd.R_new' (Kd.R_new' ho0 (Kd.R_lt HO_255000.out)) (Kd.R_lt HO_259000.out)) (Kd.R_lt HO_263000.out)) (Kd.R_lt HO_267000.out)) (Kd.R_lt HO_283000.out)) (Kd.R_lt HO_287000.out)) (below_size (by repeat (first | (with_reducible first | exact HB.out | apply below_alloc | apply pw_below_drewN | apply below_drew1 | refine below_set ?_ GE248.out | refine below_set ?_ GE249.out | refine below_set ?_ GE254.out | refine below_set ?_ GE258.out | refine below_set ?_ GE262.out | refine below_set ?_ GE266.out | refine below_set ?_ GE270.out | refine below_set ?_ GE274.out | refine below_set ?_ GE278.out | refine below_set ?_ GE282.out | refine below_set ?_ GE286.out | refine below_set ?_ GE1724.out) | exact HB.out))))
                  replace HO_255000 := Aside0.mk (Kd.R_elder' HO_255000.out (Kd.R_base ho0) hb)
                  replace HO_259000 := Aside0.mk (Kd.R_elder' HO_259000.out (Kd.R_base ho0) hb)
                  replace HO_263000 := Aside0.mk (Kd.R_elder' HO_263000.out (Kd.R_base ho0) hb)
                  replace HO_267000 := Aside0.mk (Kd.R_elder' HO_267000.out (Kd.R_base ho0) hb)
                  replace HO_283000 := Aside0.mk (Kd.R_elder' HO_283000.out (Kd.R_base ho0) hb)
                  replace HO_287000 := Aside0.mk (Kd.R_elder' HO_287000.out (Kd.R_base ho0) hb)
                  replace BK248 := Aside0.mk (blk_below BK248.out hb)
                  replace BK249 := Aside0.mk (blk_below BK249.out hb)
                  replace BK254 := Aside0.mk (blk_below BK254.out hb)
                  replace BK258 := Aside0.mk (blk_below BK258.out hb)
                  replace BK262 := Aside0.mk (blk_below BK262.out hb)
                  replace BK266 := Aside0.mk (blk_below BK266.out hb)
                  replace BK270 := Aside0.mk (blk_below BK270.out hb)
                  replace BK274 := Aside0.mk (blk_below BK274.out hb)
                  replace BK278 := Aside0.mk (blk_below BK278.out hb)
                  replace BK282 := Aside0.mk (blk_below BK282.out hb)
                  replace BK286 := Aside0.mk (blk_below BK286.out hb)
                  replace BK1724 := Aside0.mk (blk_below BK1724.out hb)
                  replace HB := Aside0.mk (below_step (by repeat (first | (with_reducible first | exact HB.out | apply below_alloc | apply pw_below_drewN | apply below_drew1 | refine below_set ?_ GE248.out | refine below_set ?_ GE249.out | refine below_set ?_ GE254.out | refine below_set ?_ GE258.out | refine below_set ?_ GE262.out | refine below_set ?_ GE266.out | refine below_set ?_ GE270.out | refine below_set ?_ GE274.out | refine below_set ?_ GE278.out | refine below_set ?_ GE282.out | refine below_set ?_ GE286.out | refine below_set ?_ GE1724.out) | exact HB.out)) hb)
                  (try clear hb)
                  (try clear hb2)
                  (try clear hk)
                  (try clear hi)
                  (try clear ho0)
                  obtain ⟨Ao317, co317, eo317⟩ := Kd.R_slice HO1742.out
                  (first | subst eo317 | (injection eo317 with f1_ f2_ f3_; have f4_ := f1_.symm; have f5_ := f3_.symm; clear f1_ f2_ f3_; subst f4_; subst f5_))
                  refine hK.out _ _ ⟨(blk_cell BK270.out 0).trans rfl, (blk_cell BK270.out 1).trans rfl, (blk_cell BK1724.out 0).trans rfl, (blk_cell BK1724.out 1).trans rfl, (blk_cell BK274.out 0).trans rfl, (blk_cell BK274.out 1).trans rfl, (blk_cell BK278.out 0).trans rfl, (blk_cell BK278.out 1).trans rfl, (blk_cell BK254.out 0).trans rfl, (blk_cell BK258.out 0).trans rfl, (blk_cell BK286.out 0).trans rfl, (blk_cell BK282.out 0).trans rfl⟩ (fun hHeld => ?_)
                  clear hK K
                  refine norm_ (a' := ?_) ?_ ?_
                  rotate_left
                  · show Act.put _ (some 177) _ = _
                    simp only [Act.put, List.setIfInBounds_toArray, List.set_cons_zero, List.set_cons_succ, i64_w, i32_w]
                    rfl
                | refine pure_ (i := 41) (N := some 177) (v := undef) (a' := ?_) (demurragelaw01_WideTells.ups 55 4398046511103) rfl rfl (any_of HT_.out (by kernel_rfl)) (fun _ _ _ h => h) (Or.inr ⟨by rfl, rfl⟩) ?_ ?_
                  rotate_left
                  · simp only [Act.put, List.setIfInBounds_toArray, List.set_cons_zero, List.set_cons_succ, i64_w, i32_w]
                    rfl
              first
                | refine one_ (i := 42) (N := some 178) (demurragelaw01_WideTells.ups 55 8796093022207) rfl rfl (one_of HT_.out (by kernel_rfl)) (by decide) (fun K hK => ?_)
                  refine goes_ Try.func14 (by kernel_rfl) rfl #[.agg #[.int .u64 t275, .int .u64 t276], .agg #[.slice Ao317 t1740.length co317]] (by rfl) rfl rfl (by (try simp only [List.map_toArray, List.map_cons, List.map_nil]); first | done | rfl) ?_
                  with_reducible refine (demurrageref01_Is.calls kj27 t275 t276 _ _ t1740 true _ ?side1 ?side2 A299.out).mono ?_
                  (case side1 => repeat (first | exact (Kd.R_reads' HO1742.out).2.2 | (with_reducible refine Kd.C_alloc ?_ _) | (with_reducible refine Kd.C_drewN ?_ _) | (with_reducible refine Kd.C_drew ?_)))
                  (case side2 => exact (Kd.R_reads' HO1742.out).2.1)
                  rintro e w318 ⟨rfl, hb⟩
                  refine ⟨_, rfl, ?_⟩
                  replace HO_255000 := Aside0.mk (Kd.R_below HO_255000.out hb)
                  replace HO_259000 := Aside0.mk (Kd.R_below HO_259000.out hb)
                  replace HO_263000 := Aside0.mk (Kd.R_below HO_263000.out hb)
                  replace HO_267000 := Aside0.mk (Kd.R_below HO_267000.out hb)
                  replace HO_283000 := Aside0.mk (Kd.R_below HO_283000.out hb)
                  replace HO_287000 := Aside0.mk (Kd.R_below HO_287000.out hb)
                  replace HO1742 := Aside0.mk (Kd.R_below HO1742.out hb)
                  replace BK248 := Aside0.mk (blk_below BK248.out hb)
                  replace BK249 := Aside0.mk (blk_below BK249.out hb)
                  replace BK254 := Aside0.mk (blk_below BK254.out hb)
                  replace BK258 := Aside0.mk (blk_below BK258.out hb)
                  replace BK262 := Aside0.mk (blk_below BK262.out hb)
                  replace BK266 := Aside0.mk (blk_below BK266.out hb)
                  replace BK270 := Aside0.mk (blk_below BK270.out hb)
                  replace BK274 := Aside0.mk (blk_below BK274.out hb)
                  replace BK278 := Aside0.mk (blk_below BK278.out hb)
                  replace BK282 := Aside0.mk (blk_below BK282.out hb)
                  replace BK286 := Aside0.mk (blk_below BK286.out hb)
                  replace BK1724 := Aside0.mk (blk_below BK1724.out hb)
                  replace HB := Aside0.mk (below_step (by repeat (first | (with_reducible first | exact HB.out | apply below_alloc | apply pw_below_drewN | apply below_drew1 | refine below_set ?_ GE248.out | refine below_set ?_ GE249.out | refine below_set ?_ GE254.out | refine below_set ?_ GE258.out | refine below_set ?_ GE262.out | refine below_set ?_ GE266.out | refine below_set ?_ GE270.out | refine below_set ?_ GE274.out | refine below_set ?_ GE278.out | refine below_set ?_ GE282.out | refine below_set ?_ GE286.out | refine below_set ?_ GE1724.out) | exact HB.out)) hb)
                  (try clear hb)
                  (try clear hb2)
                  (try clear hk)
                  (try clear hi)
                  refine hK.out _ _ ⟨(blk_cell BK270.out 0).trans rfl, (blk_cell BK270.out 1).trans rfl, (blk_cell BK1724.out 0).trans rfl, (blk_cell BK1724.out 1).trans rfl, (blk_cell BK274.out 0).trans rfl, (blk_cell BK274.out 1).trans rfl, (blk_cell BK278.out 0).trans rfl, (blk_cell BK278.out 1).trans rfl, (blk_cell BK254.out 0).trans rfl, (blk_cell BK258.out 0).trans rfl, (blk_cell BK286.out 0).trans rfl, (blk_cell BK282.out 0).trans rfl⟩ (fun hHeld => ?_)
                  clear hK K
                  refine norm_ (a' := ?_) ?_ ?_
                  rotate_left
                  · show Act.put _ (some 178) _ = _
                    simp only [Act.put, List.setIfInBounds_toArray, List.set_cons_zero, List.set_cons_succ, i64_w, i32_w]
                    rfl
                | refine pure_ (i := 42) (N := some 178) (v := undef) (a' := ?_) (demurragelaw01_WideTells.ups 55 8796093022207) rfl rfl (any_of HT_.out (by kernel_rfl)) (fun _ _ _ h => h) (Or.inr ⟨by rfl, rfl⟩) ?_ ?_
                  rotate_left
                  · simp only [Act.put, List.setIfInBounds_toArray, List.set_cons_zero, List.set_cons_succ, i64_w, i32_w]
                    rfl
              refine pure_ (i := 43) (N := some 179) (v := ?_) (a' := ?_) (demurragelaw01_WideTells.ups 55 17592186044415) rfl rfl (any_of HT_.out (by kernel_rfl)) (fun _ _ _ h => h) (Or.inl ⟨by rfl, ?_⟩) ?_ ?_
              rotate_left
              · intro w'
                go_simp
                with_reducible rfl
              rotate_left
              · simp only [Act.put, List.setIfInBounds_toArray, List.set_cons_zero, List.set_cons_succ, i64_w, i32_w]
                rfl
              refine pure_ (i := 44) (N := some 180) (v := ?_) (a' := ?_) (demurragelaw01_WideTells.ups 55 35184372088831) rfl rfl (any_of HT_.out (by kernel_rfl)) (fun _ _ _ h => h) (Or.inl ⟨by rfl, ?_⟩) ?_ ?_
              rotate_left
              · intro w'
                go_simp
                with_reducible rfl
              rotate_left
              · simp only [Act.put, List.setIfInBounds_toArray, List.set_cons_zero, List.set_cons_succ, i64_w, i32_w]
                rfl
              first
                | refine pure_ (i := 45) (N := some 181) (v := ?_) (a' := ?_) (demurragelaw01_WideTells.ups 55 70368744177663) rfl rfl (any_of HT_.out (by kernel_rfl)) (fun _ _ _ h => h) (Or.inl ⟨by rfl, ?_⟩) ?_ ?_
                  rotate_left
                  · intro w'
                    go_simp
                    with_reducible rfl
                  rotate_left
                  · simp only [Act.put, List.setIfInBounds_toArray, List.set_cons_zero, List.set_cons_succ, i64_w, i32_w]
                    rfl
                | refine pure_ (i := 45) (N := some 181) (v := undef) (a' := ?_) (demurragelaw01_WideTells.ups 55 70368744177663) rfl rfl (any_of HT_.out (by kernel_rfl)) (fun _ _ _ h => h) (Or.inr ⟨by rfl, rfl⟩) ?_ ?_
                  rotate_left
                  · simp only [Act.put, List.setIfInBounds_toArray, List.set_cons_zero, List.set_cons_succ, i64_w, i32_w]
                    rfl
              first
                | refine pure_ (i := 46) (N := some 182) (v := ?_) (a' := ?_) (demurragelaw01_WideTells.ups 55 140737488355327) rfl rfl (any_of HT_.out (by kernel_rfl)) (fun _ _ _ h => h) (Or.inl ⟨by rfl, ?_⟩) ?_ ?_
                  rotate_left
                  · intro w'
                    go_simp
                    with_reducible rfl
                  rotate_left
                  · simp only [Act.put, List.setIfInBounds_toArray, List.set_cons_zero, List.set_cons_succ, i64_w, i32_w]
                    rfl
                | refine pure_ (i := 46) (N := some 182) (v := undef) (a' := ?_) (demurragelaw01_WideTells.ups 55 140737488355327) rfl rfl (any_of HT_.out (by kernel_rfl)) (fun _ _ _ h => h) (Or.inr ⟨by rfl, rfl⟩) ?_ ?_
                  rotate_left
                  · simp only [Act.put, List.setIfInBounds_toArray, List.set_cons_zero, List.set_cons_succ, i64_w, i32_w]
                    rfl
              first
                | refine pure_ (i := 47) (N := some 183) (v := ?_) (a' := ?_) (demurragelaw01_WideTells.ups 55 281474976710655) rfl rfl (any_of HT_.out (by kernel_rfl)) (fun _ _ _ h => h) (Or.inl ⟨by rfl, ?_⟩) ?_ ?_
                  rotate_left
                  · intro w'
                    go_simp
                    with_reducible rfl
                  rotate_left
                  · simp only [Act.put, List.setIfInBounds_toArray, List.set_cons_zero, List.set_cons_succ, i64_w, i32_w]
                    rfl
                | refine pure_ (i := 47) (N := some 183) (v := undef) (a' := ?_) (demurragelaw01_WideTells.ups 55 281474976710655) rfl rfl (any_of HT_.out (by kernel_rfl)) (fun _ _ _ h => h) (Or.inr ⟨by rfl, rfl⟩) ?_ ?_
                  rotate_left
                  · simp only [Act.put, List.setIfInBounds_toArray, List.set_cons_zero, List.set_cons_succ, i64_w, i32_w]
                    rfl
              first
                | refine take_ (i := 48) (N := some 184) (v := ?_) (a' := ?_) (demurragelaw01_WideTells.ups 55 562949953421311) rfl rfl (take_ofW HT_.out HW_.out (by kernel_rfl)) (fun _ _ _ h => h) (Or.inl ⟨by rfl, ?_⟩) hHeld ?_ ?_
                  rotate_left
                  · rintro w' ⟨s0, s1, s2, s3, s4, s5, s6, s7, s8, s9, s10, s11⟩
                    go_simp
                    with_reducible rfl
                  rotate_left
                  · simp only [Act.put, List.setIfInBounds_toArray, List.set_cons_zero, List.set_cons_succ, i64_w, i32_w]
                    rfl
                | refine pure_ (i := 48) (N := some 184) (v := undef) (a' := ?_) (demurragelaw01_WideTells.ups 55 562949953421311) rfl rfl (any_of HT_.out (by kernel_rfl)) (fun _ _ _ h => h) (Or.inr ⟨by rfl, rfl⟩) ?_ ?_
                  rotate_left
                  · simp only [Act.put, List.setIfInBounds_toArray, List.set_cons_zero, List.set_cons_succ, i64_w, i32_w]
                    rfl
              first
                | refine take_ (i := 49) (N := some 185) (v := ?_) (a' := ?_) (demurragelaw01_WideTells.ups 55 1125899906842623) rfl rfl (take_ofW HT_.out HW_.out (by kernel_rfl)) (fun _ _ _ h => h) (Or.inl ⟨by rfl, ?_⟩) hHeld ?_ ?_
                  rotate_left
                  · rintro w' ⟨s0, s1, s2, s3, s4, s5, s6, s7, s8, s9, s10, s11⟩
                    go_simp
                    with_reducible rfl
                  rotate_left
                  · simp only [Act.put, List.setIfInBounds_toArray, List.set_cons_zero, List.set_cons_succ, i64_w, i32_w]
                    rfl
                | refine pure_ (i := 49) (N := some 185) (v := undef) (a' := ?_) (demurragelaw01_WideTells.ups 55 1125899906842623) rfl rfl (any_of HT_.out (by kernel_rfl)) (fun _ _ _ h => h) (Or.inr ⟨by rfl, rfl⟩) ?_ ?_
                  rotate_left
                  · simp only [Act.put, List.setIfInBounds_toArray, List.set_cons_zero, List.set_cons_succ, i64_w, i32_w]
                    rfl
              first
                | refine pure_ (i := 50) (N := some 186) (v := ?_) (a' := ?_) (demurragelaw01_WideTells.ups 55 2251799813685247) rfl rfl (any_of HT_.out (by kernel_rfl)) (fun _ _ _ h => h) (Or.inl ⟨by rfl, ?_⟩) ?_ ?_
                  rotate_left
                  · intro w'
                    go_simp
                    with_reducible rfl
                  rotate_left
                  · simp only [Act.put, List.setIfInBounds_toArray, List.set_cons_zero, List.set_cons_succ, i64_w, i32_w]
                    rfl
                | refine pure_ (i := 50) (N := some 186) (v := undef) (a' := ?_) (demurragelaw01_WideTells.ups 55 2251799813685247) rfl rfl (any_of HT_.out (by kernel_rfl)) (fun _ _ _ h => h) (Or.inr ⟨by rfl, rfl⟩) ?_ ?_
                  rotate_left
                  · simp only [Act.put, List.setIfInBounds_toArray, List.set_cons_zero, List.set_cons_succ, i64_w, i32_w]
                    rfl
              first
                | refine pure_ (i := 51) (N := some 187) (v := ?_) (a' := ?_) (demurragelaw01_WideTells.ups 55 4503599627370495) rfl rfl (any_of HT_.out (by kernel_rfl)) (fun _ _ _ h => h) (Or.inl ⟨by rfl, ?_⟩) ?_ ?_
                  rotate_left
                  · intro w'
                    go_simp
                    with_reducible rfl
                  rotate_left
                  · simp only [Act.put, List.setIfInBounds_toArray, List.set_cons_zero, List.set_cons_succ, i64_w, i32_w]
                    rfl
                | refine pure_ (i := 51) (N := some 187) (v := undef) (a' := ?_) (demurragelaw01_WideTells.ups 55 4503599627370495) rfl rfl (any_of HT_.out (by kernel_rfl)) (fun _ _ _ h => h) (Or.inr ⟨by rfl, rfl⟩) ?_ ?_
                  rotate_left
                  · simp only [Act.put, List.setIfInBounds_toArray, List.set_cons_zero, List.set_cons_succ, i64_w, i32_w]
                    rfl
              refine pure_ (i := 52) (N := some 188) (v := ?_) (a' := ?_) (demurragelaw01_WideTells.ups 55 9007199254740991) rfl rfl (any_of HT_.out (by kernel_rfl)) (fun _ _ _ h => h) (Or.inl ⟨by rfl, ?_⟩) ?_ ?_
              rotate_left
              · intro w'
                go_simp
                with_reducible rfl
              rotate_left
              · simp only [Act.put, List.setIfInBounds_toArray, List.set_cons_zero, List.set_cons_succ, i64_w, i32_w]
                rfl
              refine pure_ (i := 53) (N := some 189) (v := ?_) (a' := ?_) (demurragelaw01_WideTells.ups 55 18014398509481983) rfl rfl (any_of HT_.out (by kernel_rfl)) (fun _ _ _ h => h) (Or.inl ⟨by rfl, ?_⟩) ?_ ?_
              rotate_left
              · intro w'
                go_simp
                with_reducible rfl
              rotate_left
              · simp only [Act.put, List.setIfInBounds_toArray, List.set_cons_zero, List.set_cons_succ, i64_w, i32_w]
                rfl
              refine pure_ (i := 54) (N := some 6) (v := ?_) (a' := ?_) (demurragelaw01_WideTells.ups 55 36028797018963967) rfl rfl (any_of HT_.out (by kernel_rfl)) (fun _ _ _ h => h) (Or.inl ⟨by rfl, ?_⟩) ?_ ?_
              rotate_left
              · intro w'
                go_simp
                with_reducible rfl
              rotate_left
              · simp only [Act.put, List.setIfInBounds_toArray, List.set_cons_zero, List.set_cons_succ, i64_w, i32_w]
                rfl
              refine done_ (done_of HT_.out (by kernel_rfl)) ?_
              try go_wp2
              go_ret
              exact ⟨by rfl, by repeat (first | (with_reducible first | exact HB.out | apply below_alloc | apply pw_below_drewN | apply below_drew1 | refine below_set ?_ GE248.out | refine below_set ?_ GE249.out | refine below_set ?_ GE254.out | refine below_set ?_ GE258.out | refine below_set ?_ GE262.out | refine below_set ?_ GE266.out | refine below_set ?_ GE270.out | refine below_set ?_ GE274.out | refine below_set ?_ GE278.out | refine below_set ?_ GE282.out | refine below_set ?_ GE286.out | refine below_set ?_ GE1724.out) | exact HB.out)⟩
      · rw [if_neg c27] at H
        exact absurd H (by simp)
    · replace c24 := Bool.eq_false_iff.mpr c24
      subst c24
      rw [if_neg (show ¬ (false = true) by decide)] at H
      exact absurd H (by simp)
  · replace c19 := Bool.eq_false_iff.mpr c19
    subst c19
    rw [if_neg (show ¬ (false = true) by decide)] at H
    exact absurd H (by simp)

end Go.Proofs.Ytdgflpefjinleaa.X
