-- WRITTEN BY printx.py, a program of this session, with the kit's printer
import Derived.Test.YtcdbmmlnmefoeaaX0
import Derived.Test.YtcdbmmlnmefoeaaXEq
import Derived.Test.YtcdbmmlnmefoeaaXWCmp
import Derived.Test.YtcdbmmlnmefoeaaXWMul
import Derived.Test.YtcdbmmlnmefoeaaXSOne
import Derived.Test.YtcdbmmlnmefoeaaHWide
namespace Go.Proofs.Ytcdbmmlnmefoeaa.X
open Go.RowKit Go.Proofs.YtcdbmmlnmefoeaaW.PrintWords Go.Proofs.YtcdbmmlnmefoeaaW.PrintLast Go.Proofs.YtcdbmmlnmefoeaaW.PrintMore
attribute [local go_sem] max2_int min2_int max_two min_two max_three min_three max_four min_four   -- for this text's walks alone
set_option linter.unusedVariables false
set_option linter.unusedSimpArgs false

attribute [local go_sem high] eqA24
/-! ### demurragelaw01_WideMuls: function 7 -/
def demurragelaw01_WideMuls.f (a0 : Int) (a1 : Int) (a2 : Int) : Option (Bool) := (demurragelaw01_shown.f).bind fun t3386 => ((wide_Mul.f (IntKind.u64.wrap (Int.tdiv a0 2)) a2).bind fun bt3387 => ((wide_Mul.f (IntKind.u64.wrap (Int.tdiv a1 2)) a2).bind fun bt3389 => ((wide_Add.f bt3387.1 bt3387.2 bt3389.1 bt3389.2).bind fun bt3391 => ((wide_Of.f a0).bind fun bt3395 => ((wide_Times.f bt3395.1 bt3395.2 a1).bind fun bt3397 => (if t3386 = true then ((wide_Mul.f a0 a1).bind fun bt3401 => ((wide_Mul.f a1 a0).bind fun bt3403 => (if (bt3401.1 == bt3403.1 && (bt3401.2 == bt3403.2)) = true then ((wide_Mul.f a0 1).bind fun bt3405 => ((wide_Of.f a0).bind fun bt3407 => (if (bt3405.1 == bt3407.1 && (bt3405.2 == bt3407.2)) = true then ((wide_Mul.f a0 0).bind fun bt3409 => (if (bt3409.1 == 0 && (bt3409.2 == 0)) = true then (if bt3391.2.2 = 0 then ((wide_Mul.f (IntKind.u64.wrap ((IntKind.u64.wrap (Int.tdiv a0 2)) + (IntKind.u64.wrap (Int.tdiv a1 2)))) a2).bind fun bt3411 => (if (bt3391.1 == bt3411.1 && (bt3391.2.1 == bt3411.2)) = true then (if bt3397.2.2 = 0 then ((wide_Mul.f a0 a1).bind fun bt3413 => (some (bt3397.1 == bt3413.1 && (bt3397.2.1 == bt3413.2)))) else (none)) else (none))) else (none)) else (none))) else (none)))) else (none)))) else (none)))))))
def demurragelaw01_WideMuls.T6 : Bool × List (List Nat × List Nat) := (true, [([], []), ([0], [0]), ([1], [1]), ([1], [1]), ([2, 3, 1, 1], [1, 2, 3]), ([1], [1]), ([1], [1]), ([5, 6, 4, 1], [1, 5, 6]), ([4, 7, 1], [1, 4, 7]), ([1, 8], [1, 8]), ([9, 7], [9]), ([10], [10]), ([11, 10, 10], [10, 11]), ([10], [10]), ([13, 12, 10], [10, 13]), ([12, 14, 10], [10, 12, 14]), ([10, 15], [10, 15]), ([16, 14], [16]), ([17], [17]), ([18, 17, 17], [17, 18]), ([17], [17]), ([19, 20, 17], [17, 19, 20]), ([17, 21], [17, 21]), ([22, 19], [22]), ([23], [23]), ([24, 23], [23, 24]), ([23, 25], [23, 25]), ([26, 23], [26]), ([27], [27]), ([27], [27]), ([27], [27]), ([29, 30, 27], [27, 29, 30]), ([27], [27]), ([31, 32, 27, 27], [27, 31, 32]), ([28, 33, 27], [27, 28, 33]), ([27, 34], [27, 34]), ([35, 33], [35]), ([36], [36]), ([37, 36], [36, 37]), ([36, 38], [36, 38]), ([39, 36], [39]), ([40], [40]), ([40], [40]), ([40], [40]), ([42, 43, 40, 40], [40, 42, 43]), ([41, 44, 40], [40, 41, 44]), ([40, 45], [40, 45]), ([46, 44, 0, 1, 2, 3, 4, 5, 6, 7, 8, 9, 10, 11, 12, 13, 14, 15, 16, 17, 18, 19, 20, 21, 22, 23, 24, 25, 26, 27, 28, 29, 30, 31, 32, 33, 34, 35, 36, 37, 38, 39, 40, 41, 42, 43, 44, 45, 46], [46])])
def demurragelaw01_WideMuls.B6 : List Nat := [0, 1, 3, 3, 15, 3, 3, 127, 255, 511, 1023, 2047, 4095, 2047, 16383, 32767, 65535, 131071, 262143, 524287, 262143, 2097151, 4194303, 8388607, 16777215, 33554431, 67108863, 134217727, 268435455, 268435455, 268435455, 1879048191, 268435455, 8321499135, 17179869183, 34359738367, 68719476735, 137438953471, 274877906943, 549755813887, 1099511627775, 2199023255551, 2199023255551, 2199023255551, 15393162788863, 35184372088831, 70368744177663, 140737488355327]
theorem demurragelaw01_WideMuls.tab6 : rtab .any (opsOf Try.f7 6) = demurragelaw01_WideMuls.T6 := by kernel_rfl
theorem demurragelaw01_WideMuls.bits6 : waitsOk demurragelaw01_WideMuls.T6.2 demurragelaw01_WideMuls.B6 = true := by kernel_rfl
set_option maxHeartbeats 8000000 in
set_option maxRecDepth 100000 in
theorem demurragelaw01_WideMuls.calls (a0 : Int) (a1 : Int) (a2 : Int) (r : Bool) (w : World) (h : demurragelaw01_WideMuls.f a0 a1 a2 = some r) :
    Calls Try.prog 7 #[.int .u64 a0, .int .u64 a1, .int .u64 a2] w fun e w' => e = .returned (.bool r) ∧ Below w.heap.size w w' := by
  have hu24 := Try.underlying24
  have HB := Aside0.mk (Below.refl w.heap.size w)
  have H : ((demurragelaw01_shown.f).bind fun t3386 => ((wide_Mul.f (IntKind.u64.wrap (Int.tdiv a0 2)) a2).bind fun bt3387 => ((wide_Mul.f (IntKind.u64.wrap (Int.tdiv a1 2)) a2).bind fun bt3389 => ((wide_Add.f bt3387.1 bt3387.2 bt3389.1 bt3389.2).bind fun bt3391 => ((wide_Of.f a0).bind fun bt3395 => ((wide_Times.f bt3395.1 bt3395.2 a1).bind fun bt3397 => (if t3386 = true then ((wide_Mul.f a0 a1).bind fun bt3401 => ((wide_Mul.f a1 a0).bind fun bt3403 => (if (bt3401.1 == bt3403.1 && (bt3401.2 == bt3403.2)) = true then ((wide_Mul.f a0 1).bind fun bt3405 => ((wide_Of.f a0).bind fun bt3407 => (if (bt3405.1 == bt3407.1 && (bt3405.2 == bt3407.2)) = true then ((wide_Mul.f a0 0).bind fun bt3409 => (if (bt3409.1 == 0 && (bt3409.2 == 0)) = true then (if bt3391.2.2 = 0 then ((wide_Mul.f (IntKind.u64.wrap ((IntKind.u64.wrap (Int.tdiv a0 2)) + (IntKind.u64.wrap (Int.tdiv a1 2)))) a2).bind fun bt3411 => (if (bt3391.1 == bt3411.1 && (bt3391.2.1 == bt3411.2)) = true then (if bt3397.2.2 = 0 then ((wide_Mul.f a0 a1).bind fun bt3413 => (some (bt3397.1 == bt3413.1 && (bt3397.2.1 == bt3413.2)))) else (none)) else (none))) else (none)) else (none))) else (none)))) else (none)))) else (none)))))))) = some r := h
  clear h
  replace H := Option.bind_eq_some_iff.mp H
  obtain ⟨t3386, A40, H⟩ := H
  replace H : ((wide_Mul.f (IntKind.u64.wrap (Int.tdiv a0 2)) a2).bind fun bt3387 => ((wide_Mul.f (IntKind.u64.wrap (Int.tdiv a1 2)) a2).bind fun bt3389 => ((wide_Add.f bt3387.1 bt3387.2 bt3389.1 bt3389.2).bind fun bt3391 => ((wide_Of.f a0).bind fun bt3395 => ((wide_Times.f bt3395.1 bt3395.2 a1).bind fun bt3397 => (if t3386 = true then ((wide_Mul.f a0 a1).bind fun bt3401 => ((wide_Mul.f a1 a0).bind fun bt3403 => (if (bt3401.1 == bt3403.1 && (bt3401.2 == bt3403.2)) = true then ((wide_Mul.f a0 1).bind fun bt3405 => ((wide_Of.f a0).bind fun bt3407 => (if (bt3405.1 == bt3407.1 && (bt3405.2 == bt3407.2)) = true then ((wide_Mul.f a0 0).bind fun bt3409 => (if (bt3409.1 == 0 && (bt3409.2 == 0)) = true then (if bt3391.2.2 = 0 then ((wide_Mul.f (IntKind.u64.wrap ((IntKind.u64.wrap (Int.tdiv a0 2)) + (IntKind.u64.wrap (Int.tdiv a1 2)))) a2).bind fun bt3411 => (if (bt3391.1 == bt3411.1 && (bt3391.2.1 == bt3411.2)) = true then (if bt3397.2.2 = 0 then ((wide_Mul.f a0 a1).bind fun bt3413 => (some (bt3397.1 == bt3413.1 && (bt3397.2.1 == bt3413.2)))) else (none)) else (none))) else (none)) else (none))) else (none)))) else (none)))) else (none))))))) = some r := H
  have A4 := Aside0.mk A40
  clear A40
  replace H := Option.bind_eq_some_iff.mp H
  obtain ⟨⟨t3387, t3388⟩, A50, H⟩ := H
  replace H : ((wide_Mul.f (IntKind.u64.wrap (Int.tdiv a1 2)) a2).bind fun bt3389 => ((wide_Add.f t3387 t3388 bt3389.1 bt3389.2).bind fun bt3391 => ((wide_Of.f a0).bind fun bt3395 => ((wide_Times.f bt3395.1 bt3395.2 a1).bind fun bt3397 => (if t3386 = true then ((wide_Mul.f a0 a1).bind fun bt3401 => ((wide_Mul.f a1 a0).bind fun bt3403 => (if (bt3401.1 == bt3403.1 && (bt3401.2 == bt3403.2)) = true then ((wide_Mul.f a0 1).bind fun bt3405 => ((wide_Of.f a0).bind fun bt3407 => (if (bt3405.1 == bt3407.1 && (bt3405.2 == bt3407.2)) = true then ((wide_Mul.f a0 0).bind fun bt3409 => (if (bt3409.1 == 0 && (bt3409.2 == 0)) = true then (if bt3391.2.2 = 0 then ((wide_Mul.f (IntKind.u64.wrap ((IntKind.u64.wrap (Int.tdiv a0 2)) + (IntKind.u64.wrap (Int.tdiv a1 2)))) a2).bind fun bt3411 => (if (bt3391.1 == bt3411.1 && (bt3391.2.1 == bt3411.2)) = true then (if bt3397.2.2 = 0 then ((wide_Mul.f a0 a1).bind fun bt3413 => (some (bt3397.1 == bt3413.1 && (bt3397.2.1 == bt3413.2)))) else (none)) else (none))) else (none)) else (none))) else (none)))) else (none)))) else (none)))))) = some r := H
  have A5 := Aside0.mk A50
  clear A50
  replace H := Option.bind_eq_some_iff.mp H
  obtain ⟨⟨t3389, t3390⟩, A60, H⟩ := H
  replace H : ((wide_Add.f t3387 t3388 t3389 t3390).bind fun bt3391 => ((wide_Of.f a0).bind fun bt3395 => ((wide_Times.f bt3395.1 bt3395.2 a1).bind fun bt3397 => (if t3386 = true then ((wide_Mul.f a0 a1).bind fun bt3401 => ((wide_Mul.f a1 a0).bind fun bt3403 => (if (bt3401.1 == bt3403.1 && (bt3401.2 == bt3403.2)) = true then ((wide_Mul.f a0 1).bind fun bt3405 => ((wide_Of.f a0).bind fun bt3407 => (if (bt3405.1 == bt3407.1 && (bt3405.2 == bt3407.2)) = true then ((wide_Mul.f a0 0).bind fun bt3409 => (if (bt3409.1 == 0 && (bt3409.2 == 0)) = true then (if bt3391.2.2 = 0 then ((wide_Mul.f (IntKind.u64.wrap ((IntKind.u64.wrap (Int.tdiv a0 2)) + (IntKind.u64.wrap (Int.tdiv a1 2)))) a2).bind fun bt3411 => (if (bt3391.1 == bt3411.1 && (bt3391.2.1 == bt3411.2)) = true then (if bt3397.2.2 = 0 then ((wide_Mul.f a0 a1).bind fun bt3413 => (some (bt3397.1 == bt3413.1 && (bt3397.2.1 == bt3413.2)))) else (none)) else (none))) else (none)) else (none))) else (none)))) else (none)))) else (none))))) = some r := H
  have A6 := Aside0.mk A60
  clear A60
  replace H := Option.bind_eq_some_iff.mp H
  obtain ⟨⟨t3391, t3392, t3393⟩, A70, H⟩ := H
  replace H : ((wide_Of.f a0).bind fun bt3395 => ((wide_Times.f bt3395.1 bt3395.2 a1).bind fun bt3397 => (if t3386 = true then ((wide_Mul.f a0 a1).bind fun bt3401 => ((wide_Mul.f a1 a0).bind fun bt3403 => (if (bt3401.1 == bt3403.1 && (bt3401.2 == bt3403.2)) = true then ((wide_Mul.f a0 1).bind fun bt3405 => ((wide_Of.f a0).bind fun bt3407 => (if (bt3405.1 == bt3407.1 && (bt3405.2 == bt3407.2)) = true then ((wide_Mul.f a0 0).bind fun bt3409 => (if (bt3409.1 == 0 && (bt3409.2 == 0)) = true then (if t3393 = 0 then ((wide_Mul.f (IntKind.u64.wrap ((IntKind.u64.wrap (Int.tdiv a0 2)) + (IntKind.u64.wrap (Int.tdiv a1 2)))) a2).bind fun bt3411 => (if (t3391 == bt3411.1 && (t3392 == bt3411.2)) = true then (if bt3397.2.2 = 0 then ((wide_Mul.f a0 a1).bind fun bt3413 => (some (bt3397.1 == bt3413.1 && (bt3397.2.1 == bt3413.2)))) else (none)) else (none))) else (none)) else (none))) else (none)))) else (none)))) else (none)))) = some r := H
  have A7 := Aside0.mk A70
  clear A70
  replace H := Option.bind_eq_some_iff.mp H
  obtain ⟨⟨t3395, t3396⟩, A80, H⟩ := H
  replace H : ((wide_Times.f t3395 t3396 a1).bind fun bt3397 => (if t3386 = true then ((wide_Mul.f a0 a1).bind fun bt3401 => ((wide_Mul.f a1 a0).bind fun bt3403 => (if (bt3401.1 == bt3403.1 && (bt3401.2 == bt3403.2)) = true then ((wide_Mul.f a0 1).bind fun bt3405 => ((wide_Of.f a0).bind fun bt3407 => (if (bt3405.1 == bt3407.1 && (bt3405.2 == bt3407.2)) = true then ((wide_Mul.f a0 0).bind fun bt3409 => (if (bt3409.1 == 0 && (bt3409.2 == 0)) = true then (if t3393 = 0 then ((wide_Mul.f (IntKind.u64.wrap ((IntKind.u64.wrap (Int.tdiv a0 2)) + (IntKind.u64.wrap (Int.tdiv a1 2)))) a2).bind fun bt3411 => (if (t3391 == bt3411.1 && (t3392 == bt3411.2)) = true then (if bt3397.2.2 = 0 then ((wide_Mul.f a0 a1).bind fun bt3413 => (some (bt3397.1 == bt3413.1 && (bt3397.2.1 == bt3413.2)))) else (none)) else (none))) else (none)) else (none))) else (none)))) else (none)))) else (none))) = some r := H
  have A8 := Aside0.mk A80
  clear A80
  replace H := Option.bind_eq_some_iff.mp H
  obtain ⟨⟨t3397, t3398, t3399⟩, A90, H⟩ := H
  replace H : (if t3386 = true then ((wide_Mul.f a0 a1).bind fun bt3401 => ((wide_Mul.f a1 a0).bind fun bt3403 => (if (bt3401.1 == bt3403.1 && (bt3401.2 == bt3403.2)) = true then ((wide_Mul.f a0 1).bind fun bt3405 => ((wide_Of.f a0).bind fun bt3407 => (if (bt3405.1 == bt3407.1 && (bt3405.2 == bt3407.2)) = true then ((wide_Mul.f a0 0).bind fun bt3409 => (if (bt3409.1 == 0 && (bt3409.2 == 0)) = true then (if t3393 = 0 then ((wide_Mul.f (IntKind.u64.wrap ((IntKind.u64.wrap (Int.tdiv a0 2)) + (IntKind.u64.wrap (Int.tdiv a1 2)))) a2).bind fun bt3411 => (if (t3391 == bt3411.1 && (t3392 == bt3411.2)) = true then (if t3399 = 0 then ((wide_Mul.f a0 a1).bind fun bt3413 => (some (t3397 == bt3413.1 && (t3398 == bt3413.2)))) else (none)) else (none))) else (none)) else (none))) else (none)))) else (none)))) else (none)) = some r := H
  have A9 := Aside0.mk A90
  clear A90
  by_cases c10 : t3386 = true
  · subst c10
    have H1 : ((wide_Mul.f a0 a1).bind fun bt3401 => ((wide_Mul.f a1 a0).bind fun bt3403 => (if (bt3401.1 == bt3403.1 && (bt3401.2 == bt3403.2)) = true then ((wide_Mul.f a0 1).bind fun bt3405 => ((wide_Of.f a0).bind fun bt3407 => (if (bt3405.1 == bt3407.1 && (bt3405.2 == bt3407.2)) = true then ((wide_Mul.f a0 0).bind fun bt3409 => (if (bt3409.1 == 0 && (bt3409.2 == 0)) = true then (if t3393 = 0 then ((wide_Mul.f (IntKind.u64.wrap ((IntKind.u64.wrap (Int.tdiv a0 2)) + (IntKind.u64.wrap (Int.tdiv a1 2)))) a2).bind fun bt3411 => (if (t3391 == bt3411.1 && (t3392 == bt3411.2)) = true then (if t3399 = 0 then ((wide_Mul.f a0 a1).bind fun bt3413 => (some (t3397 == bt3413.1 && (t3398 == bt3413.2)))) else (none)) else (none))) else (none)) else (none))) else (none)))) else (none)))) = some r := by rw [if_pos rfl] at H; exact H
    clear H
    have H := H1
    clear H1
    replace H := Option.bind_eq_some_iff.mp H
    obtain ⟨⟨t3401, t3402⟩, A110, H⟩ := H
    replace H : ((wide_Mul.f a1 a0).bind fun bt3403 => (if (t3401 == bt3403.1 && (t3402 == bt3403.2)) = true then ((wide_Mul.f a0 1).bind fun bt3405 => ((wide_Of.f a0).bind fun bt3407 => (if (bt3405.1 == bt3407.1 && (bt3405.2 == bt3407.2)) = true then ((wide_Mul.f a0 0).bind fun bt3409 => (if (bt3409.1 == 0 && (bt3409.2 == 0)) = true then (if t3393 = 0 then ((wide_Mul.f (IntKind.u64.wrap ((IntKind.u64.wrap (Int.tdiv a0 2)) + (IntKind.u64.wrap (Int.tdiv a1 2)))) a2).bind fun bt3411 => (if (t3391 == bt3411.1 && (t3392 == bt3411.2)) = true then (if t3399 = 0 then ((wide_Mul.f a0 a1).bind fun bt3413 => (some (t3397 == bt3413.1 && (t3398 == bt3413.2)))) else (none)) else (none))) else (none)) else (none))) else (none)))) else (none))) = some r := H
    have A11 := Aside0.mk A110
    clear A110
    replace H := Option.bind_eq_some_iff.mp H
    obtain ⟨⟨t3403, t3404⟩, A120, H⟩ := H
    replace H : (if (t3401 == t3403 && (t3402 == t3404)) = true then ((wide_Mul.f a0 1).bind fun bt3405 => ((wide_Of.f a0).bind fun bt3407 => (if (bt3405.1 == bt3407.1 && (bt3405.2 == bt3407.2)) = true then ((wide_Mul.f a0 0).bind fun bt3409 => (if (bt3409.1 == 0 && (bt3409.2 == 0)) = true then (if t3393 = 0 then ((wide_Mul.f (IntKind.u64.wrap ((IntKind.u64.wrap (Int.tdiv a0 2)) + (IntKind.u64.wrap (Int.tdiv a1 2)))) a2).bind fun bt3411 => (if (t3391 == bt3411.1 && (t3392 == bt3411.2)) = true then (if t3399 = 0 then ((wide_Mul.f a0 a1).bind fun bt3413 => (some (t3397 == bt3413.1 && (t3398 == bt3413.2)))) else (none)) else (none))) else (none)) else (none))) else (none)))) else (none)) = some r := H
    have A12 := Aside0.mk A120
    clear A120
    by_cases c13 : (t3401 == t3403 && (t3402 == t3404)) = true
    · rw [if_pos c13] at H
      have c13b0 : (t3401 == t3403 && (t3402 == t3404)) = true := c13
      (try (have c13b1 : decide (t3401 = t3403 && (t3402 == t3404)) = true := by simpa using c13))
      (try (have c13b2 : (t3401 == t3403 && (t3402 == t3404)) = true := by simpa using c13))
      clear c13
      replace H := Option.bind_eq_some_iff.mp H
      obtain ⟨⟨t3405, t3406⟩, A140, H⟩ := H
      replace H : ((wide_Of.f a0).bind fun bt3407 => (if (t3405 == bt3407.1 && (t3406 == bt3407.2)) = true then ((wide_Mul.f a0 0).bind fun bt3409 => (if (bt3409.1 == 0 && (bt3409.2 == 0)) = true then (if t3393 = 0 then ((wide_Mul.f (IntKind.u64.wrap ((IntKind.u64.wrap (Int.tdiv a0 2)) + (IntKind.u64.wrap (Int.tdiv a1 2)))) a2).bind fun bt3411 => (if (t3391 == bt3411.1 && (t3392 == bt3411.2)) = true then (if t3399 = 0 then ((wide_Mul.f a0 a1).bind fun bt3413 => (some (t3397 == bt3413.1 && (t3398 == bt3413.2)))) else (none)) else (none))) else (none)) else (none))) else (none))) = some r := H
      have A14 := Aside0.mk A140
      clear A140
      replace H := Option.bind_eq_some_iff.mp H
      obtain ⟨⟨t3407, t3408⟩, A150, H⟩ := H
      replace H : (if (t3405 == t3407 && (t3406 == t3408)) = true then ((wide_Mul.f a0 0).bind fun bt3409 => (if (bt3409.1 == 0 && (bt3409.2 == 0)) = true then (if t3393 = 0 then ((wide_Mul.f (IntKind.u64.wrap ((IntKind.u64.wrap (Int.tdiv a0 2)) + (IntKind.u64.wrap (Int.tdiv a1 2)))) a2).bind fun bt3411 => (if (t3391 == bt3411.1 && (t3392 == bt3411.2)) = true then (if t3399 = 0 then ((wide_Mul.f a0 a1).bind fun bt3413 => (some (t3397 == bt3413.1 && (t3398 == bt3413.2)))) else (none)) else (none))) else (none)) else (none))) else (none)) = some r := H
      have A15 := Aside0.mk A150
      clear A150
      by_cases c16 : (t3405 == t3407 && (t3406 == t3408)) = true
      · rw [if_pos c16] at H
        have c16b0 : (t3405 == t3407 && (t3406 == t3408)) = true := c16
        (try (have c16b1 : decide (t3405 = t3407 && (t3406 == t3408)) = true := by simpa using c16))
        (try (have c16b2 : (t3405 == t3407 && (t3406 == t3408)) = true := by simpa using c16))
        clear c16
        replace H := Option.bind_eq_some_iff.mp H
        obtain ⟨⟨t3409, t3410⟩, A170, H⟩ := H
        replace H : (if (t3409 == 0 && (t3410 == 0)) = true then (if t3393 = 0 then ((wide_Mul.f (IntKind.u64.wrap ((IntKind.u64.wrap (Int.tdiv a0 2)) + (IntKind.u64.wrap (Int.tdiv a1 2)))) a2).bind fun bt3411 => (if (t3391 == bt3411.1 && (t3392 == bt3411.2)) = true then (if t3399 = 0 then ((wide_Mul.f a0 a1).bind fun bt3413 => (some (t3397 == bt3413.1 && (t3398 == bt3413.2)))) else (none)) else (none))) else (none)) else (none)) = some r := H
        have A17 := Aside0.mk A170
        clear A170
        by_cases c18 : (t3409 == 0 && (t3410 == 0)) = true
        · rw [if_pos c18] at H
          have c18b0 : (t3409 == 0 && (t3410 == 0)) = true := c18
          (try (have c18b1 : decide (t3409 = 0 && (t3410 == 0)) = true := by simpa using c18))
          (try (have c18b2 : (t3409 == 0 && (t3410 == 0)) = true := by simpa using c18))
          clear c18
          by_cases c19 : t3393 = 0
          · rw [if_pos c19] at H
            have c19b0 : (t3393 == 0) = true := beq_iff_eq.mpr c19
            have c19b1 : (t3393 != 0) = false := bne_eq_false_iff_eq.mpr c19
            clear c19
            replace H := Option.bind_eq_some_iff.mp H
            obtain ⟨⟨t3411, t3412⟩, A200, H⟩ := H
            replace H : (if (t3391 == t3411 && (t3392 == t3412)) = true then (if t3399 = 0 then ((wide_Mul.f a0 a1).bind fun bt3413 => (some (t3397 == bt3413.1 && (t3398 == bt3413.2)))) else (none)) else (none)) = some r := H
            have A20 := Aside0.mk A200
            clear A200
            by_cases c21 : (t3391 == t3411 && (t3392 == t3412)) = true
            · rw [if_pos c21] at H
              have c21b0 : (t3391 == t3411 && (t3392 == t3412)) = true := c21
              (try (have c21b1 : decide (t3391 = t3411 && (t3392 == t3412)) = true := by simpa using c21))
              (try (have c21b2 : (t3391 == t3411 && (t3392 == t3412)) = true := by simpa using c21))
              clear c21
              by_cases c22 : t3399 = 0
              · rw [if_pos c22] at H
                have c22b0 : (t3399 == 0) = true := beq_iff_eq.mpr c22
                have c22b1 : (t3399 != 0) = false := bne_eq_false_iff_eq.mpr c22
                clear c22
                replace H := Option.bind_eq_some_iff.mp H
                obtain ⟨⟨t3413, t3414⟩, A230, H⟩ := H
                replace H : (some (t3397 == t3413 && (t3398 == t3414))) = some r := H
                have A23 := Aside0.mk A230
                clear A230
                obtain rfl := Option.some.inj H
                go_enter Try.func7, Try.ntmps7
                try go_wp2_with (first | ((with_reducible refine gate_callee (f := 22) rfl ?_); refine goesL_ (some 14) rfl rfl Try.func22 (by kernel_rfl) rfl #[] rfl (by (try simp only [List.map_toArray, List.map_cons, List.map_nil]); first | done | rfl | (simp only [List.length_drop, List.length_take]; rfl)) ?_; (with_reducible refine (demurragelaw01_shown.calls  true _ A4.out).mono ?_); rintro e w24 ⟨rfl, hb⟩; refine ⟨_, rfl, ?_⟩; have n0_ := Aside0.mk (below_step (by repeat (first | (with_reducible first | exact HB.out | apply below_alloc | apply pw_below_drewN | apply below_drew1) | exact HB.out)) hb); clear HB; have HB := n0_; clear n0_; (try clear hb); (try clear hb2); (try clear hk); (try clear hi)) | ((with_reducible refine gate_callee (f := 34) rfl ?_); refine goesL_ (some 22) rfl rfl Try.func34 (by kernel_rfl) rfl #[.int .u64 (IntKind.u64.wrap (Int.tdiv a0 2)), .int .u64 a2] rfl (by (try simp only [List.map_toArray, List.map_cons, List.map_nil]); first | done | rfl | (simp only [List.length_drop, List.length_take]; rfl)) ?_; (with_reducible refine (wide_Mul.calls (IntKind.u64.wrap (Int.tdiv a0 2)) a2 t3387 t3388 _ A5.out).mono ?_); rintro e w25 ⟨rfl, hb⟩; refine ⟨_, rfl, ?_⟩; have n0_ := Aside0.mk (below_step (by repeat (first | (with_reducible first | exact HB.out | apply below_alloc | apply pw_below_drewN | apply below_drew1) | exact HB.out)) hb); clear HB; have HB := n0_; clear n0_; (try clear hb); (try clear hb2); (try clear hk); (try clear hi)) | ((with_reducible refine gate_callee (f := 34) rfl ?_); refine goesL_ (some 25) rfl rfl Try.func34 (by kernel_rfl) rfl #[.int .u64 (IntKind.u64.wrap (Int.tdiv a1 2)), .int .u64 a2] rfl (by (try simp only [List.map_toArray, List.map_cons, List.map_nil]); first | done | rfl | (simp only [List.length_drop, List.length_take]; rfl)) ?_; (with_reducible refine (wide_Mul.calls (IntKind.u64.wrap (Int.tdiv a1 2)) a2 t3389 t3390 _ A6.out).mono ?_); rintro e w26 ⟨rfl, hb⟩; refine ⟨_, rfl, ?_⟩; have n0_ := Aside0.mk (below_step (by repeat (first | (with_reducible first | exact HB.out | apply below_alloc | apply pw_below_drewN | apply below_drew1) | exact HB.out)) hb); clear HB; have HB := n0_; clear n0_; (try clear hb); (try clear hb2); (try clear hk); (try clear hi)) | ((with_reducible refine gate_callee (f := 27) rfl ?_); refine goesL_ (some 26) rfl rfl Try.func27 (by kernel_rfl) rfl #[.agg #[.int .u64 t3387, .int .u64 t3388], .agg #[.int .u64 t3389, .int .u64 t3390]] rfl (by (try simp only [List.map_toArray, List.map_cons, List.map_nil]); first | done | rfl | (simp only [List.length_drop, List.length_take]; rfl)) ?_; (with_reducible refine (wide_Add.calls t3387 t3388 t3389 t3390 t3391 t3392 t3393 _ A7.out).mono ?_); rintro e w27 ⟨rfl, hb⟩; refine ⟨_, rfl, ?_⟩; have n0_ := Aside0.mk (below_step (by repeat (first | (with_reducible first | exact HB.out | apply below_alloc | apply pw_below_drewN | apply below_drew1) | exact HB.out)) hb); clear HB; have HB := n0_; clear n0_; (try clear hb); (try clear hb2); (try clear hk); (try clear hi)) | ((with_reducible refine gate_dst (N := 10) rfl ?_); refine box_event ?hg (N := 10) ?hd (cs := #[.int .u64 0, .int .u64 0]) (t := 24) ?hr ?_; (case hd => rfl); (case hg => rfl); (case hr => first | (go_simp; done) | (go_simp; rfl)); intro gb3394 hg w28 hbox hb; have n0_ := Aside0.mk (below_step (by repeat (first | (with_reducible first | exact HB.out | apply below_alloc | apply pw_below_drewN | apply below_drew1) | exact HB.out)) hb); have n1_ := Aside0.mk (hbox); have n2_ := Aside0.mk ((by rw [hg]; exact (below_size (by repeat (first | (with_reducible first | exact HB.out | apply below_alloc | apply pw_below_drewN | apply below_drew1) | exact HB.out))) : w.heap.size ≤ gb3394)); have n3_ := Aside0.mk ((by rw [hg]; exact (below_size (by repeat (first | (with_reducible first | exact HB.out | apply below_alloc | apply pw_below_drewN | apply below_drew1) | exact HB.out))) : w.heap.size ≤ gb3394)); clear HB; have HB := n0_; have BK3394 := n1_; have GW3394 := n2_; have GE3394 := n3_; clear n0_ n1_ n2_ n3_; clear hb hbox hg; have hcz29_0 : w28.cell? ⟨gb3394, 0, none⟩ = some (.int .u64 0) := (blk_cell BK3394.out 0).trans rfl; have hcz29_1 : w28.cell? ⟨gb3394, 1, none⟩ = some (.int .u64 0) := (blk_cell BK3394.out 1).trans rfl; have hfz29_0 := blk_frozen BK3394.out 0; have hfz29_1 := blk_frozen BK3394.out 1) | ((with_reducible refine gate_callee (f := 33) rfl ?_); refine goesL_ (some 31) rfl rfl Try.func33 (by kernel_rfl) rfl #[.int .u64 a0] rfl (by (try simp only [List.map_toArray, List.map_cons, List.map_nil]); first | done | rfl | (simp only [List.length_drop, List.length_take]; rfl)) ?_; (with_reducible refine (wide_Of.calls a0 t3395 t3396 _ A8.out).mono ?_); rintro e w30 ⟨rfl, hb⟩; refine ⟨_, rfl, ?_⟩; have n0_ := Aside0.mk (blk_below (g := gb3394) (o := .cells #[.int .u64 t3391, .int .u64 t3392] 24 (0, 0)) (by (with_reducible repeat (first | refine blk_drewN ?_ _ | refine blk_drew ?_ | refine blk_alloc ?_ _)); refine blk_put (cs := #[.int .u64 t3391, .int .u64 0]) ?_ 1 _ rfl; (with_reducible repeat (first | refine blk_drewN ?_ _ | refine blk_drew ?_ | refine blk_alloc ?_ _)); refine blk_put (cs := #[.int .u64 0, .int .u64 0]) ?_ 0 _ rfl; (with_reducible repeat (first | refine blk_drewN ?_ _ | refine blk_drew ?_ | refine blk_alloc ?_ _)); exact BK3394.out) hb); have n1_ := Aside0.mk (below_step (by repeat (first | (with_reducible first | exact HB.out | apply below_alloc | apply pw_below_drewN | apply below_drew1 | refine below_set ?_ GE3394.out) | exact HB.out)) hb); clear BK3394; clear HB; have BK3394 := n0_; have HB := n1_; clear n0_ n1_; (try clear hb); (try clear hb2); (try clear hk); (try clear hi)) | ((with_reducible refine gate_callee (f := 26) rfl ?_); refine goesL_ (some 33) rfl rfl Try.func26 (by kernel_rfl) rfl #[.agg #[.int .u64 t3395, .int .u64 t3396], .int .u64 a1] rfl (by (try simp only [List.map_toArray, List.map_cons, List.map_nil]); first | done | rfl | (simp only [List.length_drop, List.length_take]; rfl)) ?_; (with_reducible refine (wide_Times.calls t3395 t3396 a1 t3397 t3398 t3399 _ A9.out).mono ?_); rintro e w31 ⟨rfl, hb⟩; refine ⟨_, rfl, ?_⟩; have n0_ := Aside0.mk (blk_below (g := gb3394) (o := .cells #[.int .u64 t3391, .int .u64 t3392] 24 (0, 0)) (by (with_reducible repeat (first | refine blk_drewN ?_ _ | refine blk_drew ?_ | refine blk_alloc ?_ _)); exact BK3394.out) hb); have n1_ := Aside0.mk (below_step (by repeat (first | (with_reducible first | exact HB.out | apply below_alloc | apply pw_below_drewN | apply below_drew1 | refine below_set ?_ GE3394.out) | exact HB.out)) hb); clear BK3394; clear HB; have BK3394 := n0_; have HB := n1_; clear n0_ n1_; (try clear hb); (try clear hb2); (try clear hk); (try clear hi)) | ((with_reducible refine gate_dst (N := 12) rfl ?_); refine box_event ?hg (N := 12) ?hd (cs := #[.int .u64 0, .int .u64 0]) (t := 24) ?hr ?_; (case hd => rfl); (case hg => rfl); (case hr => first | (go_simp; done) | (go_simp; rfl)); intro gb3400 hg w32 hbox hb; have n0_ := Aside0.mk (blk_below (g := gb3394) (o := .cells #[.int .u64 t3391, .int .u64 t3392] 24 (0, 0)) (by (with_reducible repeat (first | refine blk_drewN ?_ _ | refine blk_drew ?_ | refine blk_alloc ?_ _)); exact BK3394.out) hb); have n1_ := Aside0.mk (below_step (by repeat (first | (with_reducible first | exact HB.out | apply below_alloc | apply pw_below_drewN | apply below_drew1 | refine below_set ?_ GE3394.out) | exact HB.out)) hb); have n2_ := Aside0.mk (hbox); have n3_ := Aside0.mk ((by rw [hg]; exact (below_size (by repeat (first | (with_reducible first | exact HB.out | apply below_alloc | apply pw_below_drewN | apply below_drew1 | refine below_set ?_ GE3394.out) | exact HB.out))) : w.heap.size ≤ gb3400)); have n4_ := Aside0.mk ((by rw [hg]; exact (below_size (by repeat (first | (with_reducible first | exact HB.out | apply below_alloc | apply pw_below_drewN | apply below_drew1 | refine below_set ?_ GE3394.out) | exact HB.out))) : w.heap.size ≤ gb3400)); have n5_ := Aside0.mk ((by rw [hg]; exact Nat.ne_of_lt (blk_lt (g := gb3394) (o := .cells #[.int .u64 t3391, .int .u64 t3392] 24 (0, 0)) (by (with_reducible repeat (first | refine blk_drewN ?_ _ | refine blk_drew ?_ | refine blk_alloc ?_ _)); exact BK3394.out)) : gb3394 ≠ gb3400)); have n6_ := Aside0.mk ((by rw [hg]; exact Nat.ne_of_gt (blk_lt (g := gb3394) (o := .cells #[.int .u64 t3391, .int .u64 t3392] 24 (0, 0)) (by (with_reducible repeat (first | refine blk_drewN ?_ _ | refine blk_drew ?_ | refine blk_alloc ?_ _)); exact BK3394.out)) : gb3400 ≠ gb3394)); clear BK3394; clear HB; have BK3394 := n0_; have HB := n1_; have BK3400 := n2_; have GW3400 := n3_; have GE3400 := n4_; have NB3394_3400 := n5_; have NB3400_3394 := n6_; clear n0_ n1_ n2_ n3_ n4_ n5_ n6_; clear hb hbox hg; have hnb33 := NB3400_3394.out; have hnc33 := NB3394_3400.out; have hcz34_0 : w32.cell? ⟨gb3400, 0, none⟩ = some (.int .u64 0) := (blk_cell BK3400.out 0).trans rfl; have hcz34_1 : w32.cell? ⟨gb3400, 1, none⟩ = some (.int .u64 0) := (blk_cell BK3400.out 1).trans rfl; have hfz34_0 := blk_frozen BK3400.out 0; have hfz34_1 := blk_frozen BK3400.out 1))
                have n0_ : Aside0 (((w32.setCell ⟨gb3400, 0, none⟩ (.int .u64 t3397)).setCell ⟨gb3400, 1, none⟩ (.int .u64 t3398)).heap[gb3394]? = some (.cells #[.int .u64 t3391, .int .u64 t3392] 24 (0, 0))) := ⟨by (with_reducible repeat (first | refine blk_drewN ?_ _ | refine blk_drew ?_ | refine blk_alloc ?_ _)); refine blk_far ?_ NB3394_3400.out _; (with_reducible repeat (first | refine blk_drewN ?_ _ | refine blk_drew ?_ | refine blk_alloc ?_ _)); refine blk_far ?_ NB3394_3400.out _; (with_reducible repeat (first | refine blk_drewN ?_ _ | refine blk_drew ?_ | refine blk_alloc ?_ _)); exact BK3394.out⟩
                have n1_ : Aside0 (((w32.setCell ⟨gb3400, 0, none⟩ (.int .u64 t3397)).setCell ⟨gb3400, 1, none⟩ (.int .u64 t3398)).heap[gb3400]? = some (.cells #[.int .u64 t3397, .int .u64 t3398] 24 (0, 0))) := ⟨by (with_reducible repeat (first | refine blk_drewN ?_ _ | refine blk_drew ?_ | refine blk_alloc ?_ _)); refine blk_put (cs := #[.int .u64 t3397, .int .u64 0]) ?_ 1 _ rfl; (with_reducible repeat (first | refine blk_drewN ?_ _ | refine blk_drew ?_ | refine blk_alloc ?_ _)); refine blk_put (cs := #[.int .u64 0, .int .u64 0]) ?_ 0 _ rfl; (with_reducible repeat (first | refine blk_drewN ?_ _ | refine blk_drew ?_ | refine blk_alloc ?_ _)); exact BK3400.out⟩
                have n2_ : Aside0 (Below w.heap.size w ((w32.setCell ⟨gb3400, 0, none⟩ (.int .u64 t3397)).setCell ⟨gb3400, 1, none⟩ (.int .u64 t3398))) := ⟨by repeat (first | (with_reducible first | exact HB.out | apply below_alloc | apply pw_below_drewN | apply below_drew1 | refine below_set ?_ GE3394.out | refine below_set ?_ GE3400.out) | exact HB.out)⟩
                (try clear BK3394)
                (try clear BK3400)
                (try clear HB)
                generalize ((w32.setCell ⟨gb3400, 0, none⟩ (.int .u64 t3397)).setCell ⟨gb3400, 1, none⟩ (.int .u64 t3398)) = w35 at n0_ n1_ n2_ ⊢
                have BK3394 := n0_
                have BK3400 := n1_
                have HB := n2_
                clear n0_ n1_ n2_
                have n0_ := Aside0.mk (blk_drew BK3394.out)
                have n1_ := Aside0.mk (blk_drew BK3400.out)
                have n2_ := Aside0.mk (below_drew1 HB.out)
                clear BK3394
                clear BK3400
                clear HB
                have BK3394 := n0_
                have BK3400 := n1_
                have HB := n2_
                clear n0_ n1_ n2_
                refine start_ (n := 48) (S := fun w' => w'.cell? ⟨gb3394, 0, none⟩ = some (.int .u64 t3391) ∧ w'.cell? ⟨gb3394, 1, none⟩ = some (.int .u64 t3392) ∧ w'.cell? ⟨gb3400, 0, none⟩ = some (.int .u64 t3397) ∧ w'.cell? ⟨gb3400, 1, none⟩ = some (.int .u64 t3398)) (ds := []) #[false, false, false, false, false, false, false, false, false, false, false, false, false, false, false, false, false, false, false, false, false, false, false, false, false, false, false, false, false, false, false, false, false, false, false, false, false, false, false, false, false, false, false, false, false, false, false, false] (by kernel_rfl) rfl rfl ⟨(blk_cell BK3394.out 0).trans rfl, (blk_cell BK3394.out 1).trans rfl, (blk_cell BK3400.out 0).trans rfl, (blk_cell BK3400.out 1).trans rfl⟩ (fun hHeld => ?_); refine with_tabW demurragelaw01_WideMuls.tab6 demurragelaw01_WideMuls.bits6 (fun HT_ HW_ => ?_)
                generalize w35.drew = w36 at BK3394 BK3400 HB hHeld ⊢
                refine pure_ (i := 0) (N := some 36) (v := ?_) (a' := ?_) #[true, false, false, false, false, false, false, false, false, false, false, false, false, false, false, false, false, false, false, false, false, false, false, false, false, false, false, false, false, false, false, false, false, false, false, false, false, false, false, false, false, false, false, false, false, false, false, false] rfl rfl (any_of HT_.out (by kernel_rfl)) (fun _ _ _ h => h) (Or.inl ⟨by rfl, ?_⟩) ?_ ?_
                rotate_left
                · intro w'
                  go_simp
                  with_reducible rfl
                rotate_left
                · simp only [Act.put, List.setIfInBounds_toArray, List.set_cons_zero, List.set_cons_succ, i64_w, i32_w]
                  rfl
                refine pure_ (i := 1) (N := some 37) (v := ?_) (a' := ?_) #[true, true, false, false, false, false, false, false, false, false, false, false, false, false, false, false, false, false, false, false, false, false, false, false, false, false, false, false, false, false, false, false, false, false, false, false, false, false, false, false, false, false, false, false, false, false, false, false] rfl rfl (any_of HT_.out (by kernel_rfl)) (fun _ _ _ h => h) (Or.inl ⟨by rfl, ?_⟩) ?_ ?_
                rotate_left
                · intro w'
                  go_simp
                  with_reducible rfl
                rotate_left
                · simp only [Act.put, List.setIfInBounds_toArray, List.set_cons_zero, List.set_cons_succ, i64_w, i32_w]
                  rfl
                refine pure_ (i := 2) (N := some 38) (v := ?_) (a' := ?_) #[true, true, true, false, false, false, false, false, false, false, false, false, false, false, false, false, false, false, false, false, false, false, false, false, false, false, false, false, false, false, false, false, false, false, false, false, false, false, false, false, false, false, false, false, false, false, false, false] rfl rfl (any_of HT_.out (by kernel_rfl)) (fun _ _ _ h => h) (Or.inl ⟨by rfl, ?_⟩) ?_ ?_
                rotate_left
                · intro w'
                  go_simp
                  with_reducible rfl
                rotate_left
                · simp only [Act.put, List.setIfInBounds_toArray, List.set_cons_zero, List.set_cons_succ, i64_w, i32_w]
                  rfl
                refine pure_ (i := 3) (N := some 39) (v := ?_) (a' := ?_) #[true, true, true, true, false, false, false, false, false, false, false, false, false, false, false, false, false, false, false, false, false, false, false, false, false, false, false, false, false, false, false, false, false, false, false, false, false, false, false, false, false, false, false, false, false, false, false, false] rfl rfl (any_of HT_.out (by kernel_rfl)) (fun _ _ _ h => h) (Or.inl ⟨by rfl, ?_⟩) ?_ ?_
                rotate_left
                · intro w'
                  go_simp
                  with_reducible rfl
                rotate_left
                · simp only [Act.put, List.setIfInBounds_toArray, List.set_cons_zero, List.set_cons_succ, i64_w, i32_w]
                  rfl
                refine pure_ (i := 5) (N := some 41) (v := ?_) (a' := ?_) #[true, true, true, true, false, true, false, false, false, false, false, false, false, false, false, false, false, false, false, false, false, false, false, false, false, false, false, false, false, false, false, false, false, false, false, false, false, false, false, false, false, false, false, false, false, false, false, false] rfl rfl (any_of HT_.out (by kernel_rfl)) (fun _ _ _ h => h) (Or.inl ⟨by rfl, ?_⟩) ?_ ?_
                rotate_left
                · intro w'
                  go_simp
                  with_reducible rfl
                rotate_left
                · simp only [Act.put, List.setIfInBounds_toArray, List.set_cons_zero, List.set_cons_succ, i64_w, i32_w]
                  rfl
                refine pure_ (i := 6) (N := some 42) (v := ?_) (a' := ?_) #[true, true, true, true, false, true, true, false, false, false, false, false, false, false, false, false, false, false, false, false, false, false, false, false, false, false, false, false, false, false, false, false, false, false, false, false, false, false, false, false, false, false, false, false, false, false, false, false] rfl rfl (any_of HT_.out (by kernel_rfl)) (fun _ _ _ h => h) (Or.inl ⟨by rfl, ?_⟩) ?_ ?_
                rotate_left
                · intro w'
                  go_simp
                  with_reducible rfl
                rotate_left
                · simp only [Act.put, List.setIfInBounds_toArray, List.set_cons_zero, List.set_cons_succ, i64_w, i32_w]
                  rfl
                refine one_ (i := 4) (N := some 40) #[true, true, true, true, true, true, true, false, false, false, false, false, false, false, false, false, false, false, false, false, false, false, false, false, false, false, false, false, false, false, false, false, false, false, false, false, false, false, false, false, false, false, false, false, false, false, false, false] rfl rfl (one_of HT_.out (by kernel_rfl)) (by decide) (fun K hK => ?_)
                refine goes_ Try.func34 (by kernel_rfl) rfl #[.int .u64 a0, .int .u64 a1] (by rfl) rfl rfl (by (try simp only [List.map_toArray, List.map_cons, List.map_nil]); first | done | rfl | (simp only [List.length_drop, List.length_take]; rfl)) ?_
                with_reducible refine (wide_Mul.calls a0 a1 t3401 t3402 _ A11.out).mono ?_
                rintro e w37 ⟨rfl, hb⟩
                refine ⟨_, rfl, ?_⟩
                have n0_ := Aside0.mk (blk_below (g := gb3394) (o := .cells #[.int .u64 t3391, .int .u64 t3392] 24 (0, 0)) (by (with_reducible repeat (first | refine blk_drewN ?_ _ | refine blk_drew ?_ | refine blk_alloc ?_ _)); exact BK3394.out) hb)
                have n1_ := Aside0.mk (blk_below (g := gb3400) (o := .cells #[.int .u64 t3397, .int .u64 t3398] 24 (0, 0)) (by (with_reducible repeat (first | refine blk_drewN ?_ _ | refine blk_drew ?_ | refine blk_alloc ?_ _)); exact BK3400.out) hb)
                have n2_ := Aside0.mk (below_step (by repeat (first | (with_reducible first | exact HB.out | apply below_alloc | apply pw_below_drewN | apply below_drew1 | refine below_set ?_ GE3394.out | refine below_set ?_ GE3400.out) | exact HB.out)) hb)
                clear BK3394
                clear BK3400
                clear HB
                have BK3394 := n0_
                have BK3400 := n1_
                have HB := n2_
                clear n0_ n1_ n2_
                (try clear hb)
                (try clear hb2)
                (try clear hk)
                (try clear hi)
                refine hK.out _ _ ⟨(blk_cell BK3394.out 0).trans rfl, (blk_cell BK3394.out 1).trans rfl, (blk_cell BK3400.out 0).trans rfl, (blk_cell BK3400.out 1).trans rfl⟩ (fun hHeld => ?_)
                clear hK K
                refine norm_ (a' := ?_) ?_ ?_
                rotate_left
                · show Act.put _ (some 40) _ = _
                  simp only [Act.put, List.setIfInBounds_toArray, List.set_cons_zero, List.set_cons_succ, i64_w, i32_w]
                  rfl
                refine one_ (i := 7) (N := some 43) #[true, true, true, true, true, true, true, true, false, false, false, false, false, false, false, false, false, false, false, false, false, false, false, false, false, false, false, false, false, false, false, false, false, false, false, false, false, false, false, false, false, false, false, false, false, false, false, false] rfl rfl (one_of HT_.out (by kernel_rfl)) (by decide) (fun K hK => ?_)
                refine goes_ Try.func34 (by kernel_rfl) rfl #[.int .u64 a1, .int .u64 a0] (by rfl) rfl rfl (by (try simp only [List.map_toArray, List.map_cons, List.map_nil]); first | done | rfl | (simp only [List.length_drop, List.length_take]; rfl)) ?_
                with_reducible refine (wide_Mul.calls a1 a0 t3403 t3404 _ A12.out).mono ?_
                rintro e w38 ⟨rfl, hb⟩
                refine ⟨_, rfl, ?_⟩
                have n0_ := Aside0.mk (blk_below (g := gb3394) (o := .cells #[.int .u64 t3391, .int .u64 t3392] 24 (0, 0)) (by (with_reducible repeat (first | refine blk_drewN ?_ _ | refine blk_drew ?_ | refine blk_alloc ?_ _)); exact BK3394.out) hb)
                have n1_ := Aside0.mk (blk_below (g := gb3400) (o := .cells #[.int .u64 t3397, .int .u64 t3398] 24 (0, 0)) (by (with_reducible repeat (first | refine blk_drewN ?_ _ | refine blk_drew ?_ | refine blk_alloc ?_ _)); exact BK3400.out) hb)
                have n2_ := Aside0.mk (below_step (by repeat (first | (with_reducible first | exact HB.out | apply below_alloc | apply pw_below_drewN | apply below_drew1 | refine below_set ?_ GE3394.out | refine below_set ?_ GE3400.out) | exact HB.out)) hb)
                clear BK3394
                clear BK3400
                clear HB
                have BK3394 := n0_
                have BK3400 := n1_
                have HB := n2_
                clear n0_ n1_ n2_
                (try clear hb)
                (try clear hb2)
                (try clear hk)
                (try clear hi)
                refine hK.out _ _ ⟨(blk_cell BK3394.out 0).trans rfl, (blk_cell BK3394.out 1).trans rfl, (blk_cell BK3400.out 0).trans rfl, (blk_cell BK3400.out 1).trans rfl⟩ (fun hHeld => ?_)
                clear hK K
                refine norm_ (a' := ?_) ?_ ?_
                rotate_left
                · show Act.put _ (some 43) _ = _
                  simp only [Act.put, List.setIfInBounds_toArray, List.set_cons_zero, List.set_cons_succ, i64_w, i32_w]
                  rfl
                refine pure_ (i := 8) (N := some 44) (v := ?_) (a' := ?_) #[true, true, true, true, true, true, true, true, true, false, false, false, false, false, false, false, false, false, false, false, false, false, false, false, false, false, false, false, false, false, false, false, false, false, false, false, false, false, false, false, false, false, false, false, false, false, false, false] rfl rfl (any_of HT_.out (by kernel_rfl)) (fun _ _ _ h => h) (Or.inl ⟨by rfl, ?_⟩) ?_ ?_
                rotate_left
                · intro w'
                  go_simp
                  with_reducible rfl
                rotate_left
                · simp only [Act.put, List.setIfInBounds_toArray, List.set_cons_zero, List.set_cons_succ, i64_w, i32_w]
                  rfl
                refine pure_ (i := 9) (N := some 45) (v := ?_) (a' := ?_) #[true, true, true, true, true, true, true, true, true, true, false, false, false, false, false, false, false, false, false, false, false, false, false, false, false, false, false, false, false, false, false, false, false, false, false, false, false, false, false, false, false, false, false, false, false, false, false, false] rfl rfl (any_of HT_.out (by kernel_rfl)) (fun _ _ _ h => h) (Or.inl ⟨by rfl, ?_⟩) ?_ ?_
                rotate_left
                · intro w'
                  go_simp
                  with_reducible rfl
                rotate_left
                · simp only [Act.put, List.setIfInBounds_toArray, List.set_cons_zero, List.set_cons_succ, i64_w, i32_w]
                  rfl
                refine pure_ (i := 10) (N := some 46) (v := ?_) (a' := ?_) #[true, true, true, true, true, true, true, true, true, true, true, false, false, false, false, false, false, false, false, false, false, false, false, false, false, false, false, false, false, false, false, false, false, false, false, false, false, false, false, false, false, false, false, false, false, false, false, false] rfl rfl (any_of HT_.out (by kernel_rfl)) (fun _ _ _ h => h) (Or.inl ⟨by rfl, ?_⟩) ?_ ?_
                rotate_left
                · intro w'
                  go_simp
                  with_reducible rfl
                rotate_left
                · simp only [Act.put, List.setIfInBounds_toArray, List.set_cons_zero, List.set_cons_succ, i64_w, i32_w]
                  rfl
                refine pure_ (i := 11) (N := some 47) (v := ?_) (a' := ?_) #[true, true, true, true, true, true, true, true, true, true, true, true, false, false, false, false, false, false, false, false, false, false, false, false, false, false, false, false, false, false, false, false, false, false, false, false, false, false, false, false, false, false, false, false, false, false, false, false] rfl rfl (any_of HT_.out (by kernel_rfl)) (fun _ _ _ h => h) (Or.inl ⟨by rfl, ?_⟩) ?_ ?_
                rotate_left
                · intro w'
                  go_simp
                  with_reducible rfl
                rotate_left
                · simp only [Act.put, List.setIfInBounds_toArray, List.set_cons_zero, List.set_cons_succ, i64_w, i32_w]
                  rfl
                refine pure_ (i := 13) (N := some 49) (v := ?_) (a' := ?_) #[true, true, true, true, true, true, true, true, true, true, true, true, false, true, false, false, false, false, false, false, false, false, false, false, false, false, false, false, false, false, false, false, false, false, false, false, false, false, false, false, false, false, false, false, false, false, false, false] rfl rfl (any_of HT_.out (by kernel_rfl)) (fun _ _ _ h => h) (Or.inl ⟨by rfl, ?_⟩) ?_ ?_
                rotate_left
                · intro w'
                  go_simp
                  with_reducible rfl
                rotate_left
                · simp only [Act.put, List.setIfInBounds_toArray, List.set_cons_zero, List.set_cons_succ, i64_w, i32_w]
                  rfl
                refine one_ (i := 12) (N := some 48) #[true, true, true, true, true, true, true, true, true, true, true, true, true, true, false, false, false, false, false, false, false, false, false, false, false, false, false, false, false, false, false, false, false, false, false, false, false, false, false, false, false, false, false, false, false, false, false, false] rfl rfl (one_of HT_.out (by kernel_rfl)) (by decide) (fun K hK => ?_)
                refine goes_ Try.func34 (by kernel_rfl) rfl #[.int .u64 a0, .int .u64 1] (by rfl) rfl rfl (by (try simp only [List.map_toArray, List.map_cons, List.map_nil]); first | done | rfl | (simp only [List.length_drop, List.length_take]; rfl)) ?_
                with_reducible refine (wide_Mul.calls a0 1 t3405 t3406 _ A14.out).mono ?_
                rintro e w39 ⟨rfl, hb⟩
                refine ⟨_, rfl, ?_⟩
                have n0_ := Aside0.mk (blk_below (g := gb3394) (o := .cells #[.int .u64 t3391, .int .u64 t3392] 24 (0, 0)) (by (with_reducible repeat (first | refine blk_drewN ?_ _ | refine blk_drew ?_ | refine blk_alloc ?_ _)); exact BK3394.out) hb)
                have n1_ := Aside0.mk (blk_below (g := gb3400) (o := .cells #[.int .u64 t3397, .int .u64 t3398] 24 (0, 0)) (by (with_reducible repeat (first | refine blk_drewN ?_ _ | refine blk_drew ?_ | refine blk_alloc ?_ _)); exact BK3400.out) hb)
                have n2_ := Aside0.mk (below_step (by repeat (first | (with_reducible first | exact HB.out | apply below_alloc | apply pw_below_drewN | apply below_drew1 | refine below_set ?_ GE3394.out | refine below_set ?_ GE3400.out) | exact HB.out)) hb)
                clear BK3394
                clear BK3400
                clear HB
                have BK3394 := n0_
                have BK3400 := n1_
                have HB := n2_
                clear n0_ n1_ n2_
                (try clear hb)
                (try clear hb2)
                (try clear hk)
                (try clear hi)
                refine hK.out _ _ ⟨(blk_cell BK3394.out 0).trans rfl, (blk_cell BK3394.out 1).trans rfl, (blk_cell BK3400.out 0).trans rfl, (blk_cell BK3400.out 1).trans rfl⟩ (fun hHeld => ?_)
                clear hK K
                refine norm_ (a' := ?_) ?_ ?_
                rotate_left
                · show Act.put _ (some 48) _ = _
                  simp only [Act.put, List.setIfInBounds_toArray, List.set_cons_zero, List.set_cons_succ, i64_w, i32_w]
                  rfl
                refine one_ (i := 14) (N := some 50) #[true, true, true, true, true, true, true, true, true, true, true, true, true, true, true, false, false, false, false, false, false, false, false, false, false, false, false, false, false, false, false, false, false, false, false, false, false, false, false, false, false, false, false, false, false, false, false, false] rfl rfl (one_of HT_.out (by kernel_rfl)) (by decide) (fun K hK => ?_)
                refine goes_ Try.func33 (by kernel_rfl) rfl #[.int .u64 a0] (by rfl) rfl rfl (by (try simp only [List.map_toArray, List.map_cons, List.map_nil]); first | done | rfl | (simp only [List.length_drop, List.length_take]; rfl)) ?_
                with_reducible refine (wide_Of.calls a0 t3407 t3408 _ A15.out).mono ?_
                rintro e w40 ⟨rfl, hb⟩
                refine ⟨_, rfl, ?_⟩
                have n0_ := Aside0.mk (blk_below (g := gb3394) (o := .cells #[.int .u64 t3391, .int .u64 t3392] 24 (0, 0)) (by (with_reducible repeat (first | refine blk_drewN ?_ _ | refine blk_drew ?_ | refine blk_alloc ?_ _)); exact BK3394.out) hb)
                have n1_ := Aside0.mk (blk_below (g := gb3400) (o := .cells #[.int .u64 t3397, .int .u64 t3398] 24 (0, 0)) (by (with_reducible repeat (first | refine blk_drewN ?_ _ | refine blk_drew ?_ | refine blk_alloc ?_ _)); exact BK3400.out) hb)
                have n2_ := Aside0.mk (below_step (by repeat (first | (with_reducible first | exact HB.out | apply below_alloc | apply pw_below_drewN | apply below_drew1 | refine below_set ?_ GE3394.out | refine below_set ?_ GE3400.out) | exact HB.out)) hb)
                clear BK3394
                clear BK3400
                clear HB
                have BK3394 := n0_
                have BK3400 := n1_
                have HB := n2_
                clear n0_ n1_ n2_
                (try clear hb)
                (try clear hb2)
                (try clear hk)
                (try clear hi)
                refine hK.out _ _ ⟨(blk_cell BK3394.out 0).trans rfl, (blk_cell BK3394.out 1).trans rfl, (blk_cell BK3400.out 0).trans rfl, (blk_cell BK3400.out 1).trans rfl⟩ (fun hHeld => ?_)
                clear hK K
                refine norm_ (a' := ?_) ?_ ?_
                rotate_left
                · show Act.put _ (some 50) _ = _
                  simp only [Act.put, List.setIfInBounds_toArray, List.set_cons_zero, List.set_cons_succ, i64_w, i32_w]
                  rfl
                refine pure_ (i := 15) (N := some 51) (v := ?_) (a' := ?_) #[true, true, true, true, true, true, true, true, true, true, true, true, true, true, true, true, false, false, false, false, false, false, false, false, false, false, false, false, false, false, false, false, false, false, false, false, false, false, false, false, false, false, false, false, false, false, false, false] rfl rfl (any_of HT_.out (by kernel_rfl)) (fun _ _ _ h => h) (Or.inl ⟨by rfl, ?_⟩) ?_ ?_
                rotate_left
                · intro w'
                  go_simp
                  with_reducible rfl
                rotate_left
                · simp only [Act.put, List.setIfInBounds_toArray, List.set_cons_zero, List.set_cons_succ, i64_w, i32_w]
                  rfl
                refine pure_ (i := 16) (N := some 52) (v := ?_) (a' := ?_) #[true, true, true, true, true, true, true, true, true, true, true, true, true, true, true, true, true, false, false, false, false, false, false, false, false, false, false, false, false, false, false, false, false, false, false, false, false, false, false, false, false, false, false, false, false, false, false, false] rfl rfl (any_of HT_.out (by kernel_rfl)) (fun _ _ _ h => h) (Or.inl ⟨by rfl, ?_⟩) ?_ ?_
                rotate_left
                · intro w'
                  go_simp
                  with_reducible rfl
                rotate_left
                · simp only [Act.put, List.setIfInBounds_toArray, List.set_cons_zero, List.set_cons_succ, i64_w, i32_w]
                  rfl
                refine pure_ (i := 17) (N := some 53) (v := ?_) (a' := ?_) #[true, true, true, true, true, true, true, true, true, true, true, true, true, true, true, true, true, true, false, false, false, false, false, false, false, false, false, false, false, false, false, false, false, false, false, false, false, false, false, false, false, false, false, false, false, false, false, false] rfl rfl (any_of HT_.out (by kernel_rfl)) (fun _ _ _ h => h) (Or.inl ⟨by rfl, ?_⟩) ?_ ?_
                rotate_left
                · intro w'
                  go_simp
                  with_reducible rfl
                rotate_left
                · simp only [Act.put, List.setIfInBounds_toArray, List.set_cons_zero, List.set_cons_succ, i64_w, i32_w]
                  rfl
                refine pure_ (i := 18) (N := some 54) (v := ?_) (a' := ?_) #[true, true, true, true, true, true, true, true, true, true, true, true, true, true, true, true, true, true, true, false, false, false, false, false, false, false, false, false, false, false, false, false, false, false, false, false, false, false, false, false, false, false, false, false, false, false, false, false] rfl rfl (any_of HT_.out (by kernel_rfl)) (fun _ _ _ h => h) (Or.inl ⟨by rfl, ?_⟩) ?_ ?_
                rotate_left
                · intro w'
                  go_simp
                  with_reducible rfl
                rotate_left
                · simp only [Act.put, List.setIfInBounds_toArray, List.set_cons_zero, List.set_cons_succ, i64_w, i32_w]
                  rfl
                refine pure_ (i := 20) (N := some 56) (v := ?_) (a' := ?_) #[true, true, true, true, true, true, true, true, true, true, true, true, true, true, true, true, true, true, true, false, true, false, false, false, false, false, false, false, false, false, false, false, false, false, false, false, false, false, false, false, false, false, false, false, false, false, false, false] rfl rfl (any_of HT_.out (by kernel_rfl)) (fun _ _ _ h => h) (Or.inl ⟨by rfl, ?_⟩) ?_ ?_
                rotate_left
                · intro w'
                  go_simp
                  with_reducible rfl
                rotate_left
                · simp only [Act.put, List.setIfInBounds_toArray, List.set_cons_zero, List.set_cons_succ, i64_w, i32_w]
                  rfl
                refine one_ (i := 19) (N := some 55) #[true, true, true, true, true, true, true, true, true, true, true, true, true, true, true, true, true, true, true, true, true, false, false, false, false, false, false, false, false, false, false, false, false, false, false, false, false, false, false, false, false, false, false, false, false, false, false, false] rfl rfl (one_of HT_.out (by kernel_rfl)) (by decide) (fun K hK => ?_)
                refine goes_ Try.func34 (by kernel_rfl) rfl #[.int .u64 a0, .int .u64 0] (by rfl) rfl rfl (by (try simp only [List.map_toArray, List.map_cons, List.map_nil]); first | done | rfl | (simp only [List.length_drop, List.length_take]; rfl)) ?_
                with_reducible refine (wide_Mul.calls a0 0 t3409 t3410 _ A17.out).mono ?_
                rintro e w41 ⟨rfl, hb⟩
                refine ⟨_, rfl, ?_⟩
                have n0_ := Aside0.mk (blk_below (g := gb3394) (o := .cells #[.int .u64 t3391, .int .u64 t3392] 24 (0, 0)) (by (with_reducible repeat (first | refine blk_drewN ?_ _ | refine blk_drew ?_ | refine blk_alloc ?_ _)); exact BK3394.out) hb)
                have n1_ := Aside0.mk (blk_below (g := gb3400) (o := .cells #[.int .u64 t3397, .int .u64 t3398] 24 (0, 0)) (by (with_reducible repeat (first | refine blk_drewN ?_ _ | refine blk_drew ?_ | refine blk_alloc ?_ _)); exact BK3400.out) hb)
                have n2_ := Aside0.mk (below_step (by repeat (first | (with_reducible first | exact HB.out | apply below_alloc | apply pw_below_drewN | apply below_drew1 | refine below_set ?_ GE3394.out | refine below_set ?_ GE3400.out) | exact HB.out)) hb)
                clear BK3394
                clear BK3400
                clear HB
                have BK3394 := n0_
                have BK3400 := n1_
                have HB := n2_
                clear n0_ n1_ n2_
                (try clear hb)
                (try clear hb2)
                (try clear hk)
                (try clear hi)
                refine hK.out _ _ ⟨(blk_cell BK3394.out 0).trans rfl, (blk_cell BK3394.out 1).trans rfl, (blk_cell BK3400.out 0).trans rfl, (blk_cell BK3400.out 1).trans rfl⟩ (fun hHeld => ?_)
                clear hK K
                refine norm_ (a' := ?_) ?_ ?_
                rotate_left
                · show Act.put _ (some 55) _ = _
                  simp only [Act.put, List.setIfInBounds_toArray, List.set_cons_zero, List.set_cons_succ, i64_w, i32_w]
                  rfl
                refine pure_ (i := 21) (N := some 57) (v := ?_) (a' := ?_) #[true, true, true, true, true, true, true, true, true, true, true, true, true, true, true, true, true, true, true, true, true, true, false, false, false, false, false, false, false, false, false, false, false, false, false, false, false, false, false, false, false, false, false, false, false, false, false, false] rfl rfl (any_of HT_.out (by kernel_rfl)) (fun _ _ _ h => h) (Or.inl ⟨by rfl, ?_⟩) ?_ ?_
                rotate_left
                · intro w'
                  go_simp
                  with_reducible rfl
                rotate_left
                · simp only [Act.put, List.setIfInBounds_toArray, List.set_cons_zero, List.set_cons_succ, i64_w, i32_w]
                  rfl
                refine pure_ (i := 22) (N := some 58) (v := ?_) (a' := ?_) #[true, true, true, true, true, true, true, true, true, true, true, true, true, true, true, true, true, true, true, true, true, true, true, false, false, false, false, false, false, false, false, false, false, false, false, false, false, false, false, false, false, false, false, false, false, false, false, false] rfl rfl (any_of HT_.out (by kernel_rfl)) (fun _ _ _ h => h) (Or.inl ⟨by rfl, ?_⟩) ?_ ?_
                rotate_left
                · intro w'
                  go_simp
                  with_reducible rfl
                rotate_left
                · simp only [Act.put, List.setIfInBounds_toArray, List.set_cons_zero, List.set_cons_succ, i64_w, i32_w]
                  rfl
                refine pure_ (i := 23) (N := some 59) (v := ?_) (a' := ?_) #[true, true, true, true, true, true, true, true, true, true, true, true, true, true, true, true, true, true, true, true, true, true, true, true, false, false, false, false, false, false, false, false, false, false, false, false, false, false, false, false, false, false, false, false, false, false, false, false] rfl rfl (any_of HT_.out (by kernel_rfl)) (fun _ _ _ h => h) (Or.inl ⟨by rfl, ?_⟩) ?_ ?_
                rotate_left
                · intro w'
                  go_simp
                  with_reducible rfl
                rotate_left
                · simp only [Act.put, List.setIfInBounds_toArray, List.set_cons_zero, List.set_cons_succ, i64_w, i32_w]
                  rfl
                refine pure_ (i := 24) (N := some 60) (v := ?_) (a' := ?_) #[true, true, true, true, true, true, true, true, true, true, true, true, true, true, true, true, true, true, true, true, true, true, true, true, true, false, false, false, false, false, false, false, false, false, false, false, false, false, false, false, false, false, false, false, false, false, false, false] rfl rfl (any_of HT_.out (by kernel_rfl)) (fun _ _ _ h => h) (Or.inl ⟨by rfl, ?_⟩) ?_ ?_
                rotate_left
                · intro w'
                  go_simp
                  with_reducible rfl
                rotate_left
                · simp only [Act.put, List.setIfInBounds_toArray, List.set_cons_zero, List.set_cons_succ, i64_w, i32_w]
                  rfl
                refine pure_ (i := 25) (N := some 61) (v := ?_) (a' := ?_) #[true, true, true, true, true, true, true, true, true, true, true, true, true, true, true, true, true, true, true, true, true, true, true, true, true, true, false, false, false, false, false, false, false, false, false, false, false, false, false, false, false, false, false, false, false, false, false, false] rfl rfl (any_of HT_.out (by kernel_rfl)) (fun _ _ _ h => h) (Or.inl ⟨by rfl, ?_⟩) ?_ ?_
                rotate_left
                · intro w'
                  go_simp
                  with_reducible rfl
                rotate_left
                · simp only [Act.put, List.setIfInBounds_toArray, List.set_cons_zero, List.set_cons_succ, i64_w, i32_w]
                  rfl
                refine pure_ (i := 26) (N := some 62) (v := ?_) (a' := ?_) #[true, true, true, true, true, true, true, true, true, true, true, true, true, true, true, true, true, true, true, true, true, true, true, true, true, true, true, false, false, false, false, false, false, false, false, false, false, false, false, false, false, false, false, false, false, false, false, false] rfl rfl (any_of HT_.out (by kernel_rfl)) (fun _ _ _ h => h) (Or.inl ⟨by rfl, ?_⟩) ?_ ?_
                rotate_left
                · intro w'
                  go_simp
                  with_reducible rfl
                rotate_left
                · simp only [Act.put, List.setIfInBounds_toArray, List.set_cons_zero, List.set_cons_succ, i64_w, i32_w]
                  rfl
                refine pure_ (i := 27) (N := some 63) (v := ?_) (a' := ?_) #[true, true, true, true, true, true, true, true, true, true, true, true, true, true, true, true, true, true, true, true, true, true, true, true, true, true, true, true, false, false, false, false, false, false, false, false, false, false, false, false, false, false, false, false, false, false, false, false] rfl rfl (any_of HT_.out (by kernel_rfl)) (fun _ _ _ h => h) (Or.inl ⟨by rfl, ?_⟩) ?_ ?_
                rotate_left
                · intro w'
                  go_simp
                  with_reducible rfl
                rotate_left
                · simp only [Act.put, List.setIfInBounds_toArray, List.set_cons_zero, List.set_cons_succ, i64_w, i32_w]
                  rfl
                refine pure_ (i := 29) (N := some 65) (v := ?_) (a' := ?_) #[true, true, true, true, true, true, true, true, true, true, true, true, true, true, true, true, true, true, true, true, true, true, true, true, true, true, true, true, false, true, false, false, false, false, false, false, false, false, false, false, false, false, false, false, false, false, false, false] rfl rfl (any_of HT_.out (by kernel_rfl)) (fun _ _ _ h => h) (Or.inl ⟨by rfl, ?_⟩) ?_ ?_
                rotate_left
                · intro w'
                  go_simp
                  with_reducible rfl
                rotate_left
                · simp only [Act.put, List.setIfInBounds_toArray, List.set_cons_zero, List.set_cons_succ, i64_w, i32_w]
                  rfl
                refine pure_ (i := 30) (N := some 66) (v := ?_) (a' := ?_) #[true, true, true, true, true, true, true, true, true, true, true, true, true, true, true, true, true, true, true, true, true, true, true, true, true, true, true, true, false, true, true, false, false, false, false, false, false, false, false, false, false, false, false, false, false, false, false, false] rfl rfl (any_of HT_.out (by kernel_rfl)) (fun _ _ _ h => h) (Or.inl ⟨by rfl, ?_⟩) ?_ ?_
                rotate_left
                · intro w'
                  go_simp
                  with_reducible rfl
                rotate_left
                · simp only [Act.put, List.setIfInBounds_toArray, List.set_cons_zero, List.set_cons_succ, i64_w, i32_w]
                  rfl
                refine pure_ (i := 31) (N := some 67) (v := ?_) (a' := ?_) #[true, true, true, true, true, true, true, true, true, true, true, true, true, true, true, true, true, true, true, true, true, true, true, true, true, true, true, true, false, true, true, true, false, false, false, false, false, false, false, false, false, false, false, false, false, false, false, false] rfl rfl (any_of HT_.out (by kernel_rfl)) (fun _ _ _ h => h) (Or.inl ⟨by rfl, ?_⟩) ?_ ?_
                rotate_left
                · intro w'
                  go_simp
                  with_reducible rfl
                rotate_left
                · simp only [Act.put, List.setIfInBounds_toArray, List.set_cons_zero, List.set_cons_succ, i64_w, i32_w]
                  rfl
                refine pure_ (i := 32) (N := some 68) (v := ?_) (a' := ?_) #[true, true, true, true, true, true, true, true, true, true, true, true, true, true, true, true, true, true, true, true, true, true, true, true, true, true, true, true, false, true, true, true, true, false, false, false, false, false, false, false, false, false, false, false, false, false, false, false] rfl rfl (any_of HT_.out (by kernel_rfl)) (fun _ _ _ h => h) (Or.inl ⟨by rfl, ?_⟩) ?_ ?_
                rotate_left
                · intro w'
                  go_simp
                  with_reducible rfl
                rotate_left
                · simp only [Act.put, List.setIfInBounds_toArray, List.set_cons_zero, List.set_cons_succ, i64_w, i32_w]
                  rfl
                refine take_ (i := 28) (N := some 64) (v := ?_) (a' := ?_) #[true, true, true, true, true, true, true, true, true, true, true, true, true, true, true, true, true, true, true, true, true, true, true, true, true, true, true, true, true, true, true, true, true, false, false, false, false, false, false, false, false, false, false, false, false, false, false, false] rfl rfl (take_ofW HT_.out HW_.out (by kernel_rfl)) (fun _ _ _ h => h) (Or.inl ⟨by rfl, ?_⟩) hHeld ?_ ?_
                rotate_left
                · rintro w' ⟨s0, s1, s2, s3⟩
                  go_simp
                  with_reducible rfl
                rotate_left
                · simp only [Act.put, List.setIfInBounds_toArray, List.set_cons_zero, List.set_cons_succ, i64_w, i32_w]
                  rfl
                refine one_ (i := 33) (N := some 69) #[true, true, true, true, true, true, true, true, true, true, true, true, true, true, true, true, true, true, true, true, true, true, true, true, true, true, true, true, true, true, true, true, true, true, false, false, false, false, false, false, false, false, false, false, false, false, false, false] rfl rfl (one_of HT_.out (by kernel_rfl)) (by decide) (fun K hK => ?_)
                refine goes_ Try.func34 (by kernel_rfl) rfl #[.int .u64 (IntKind.u64.wrap ((IntKind.u64.wrap (Int.tdiv a0 2)) + (IntKind.u64.wrap (Int.tdiv a1 2)))), .int .u64 a2] (by rfl) rfl rfl (by (try simp only [List.map_toArray, List.map_cons, List.map_nil]); first | done | rfl | (simp only [List.length_drop, List.length_take]; rfl)) ?_
                with_reducible refine (wide_Mul.calls (IntKind.u64.wrap ((IntKind.u64.wrap (Int.tdiv a0 2)) + (IntKind.u64.wrap (Int.tdiv a1 2)))) a2 t3411 t3412 _ A20.out).mono ?_
                rintro e w42 ⟨rfl, hb⟩
                refine ⟨_, rfl, ?_⟩
                have n0_ := Aside0.mk (blk_below (g := gb3394) (o := .cells #[.int .u64 t3391, .int .u64 t3392] 24 (0, 0)) (by (with_reducible repeat (first | refine blk_drewN ?_ _ | refine blk_drew ?_ | refine blk_alloc ?_ _)); exact BK3394.out) hb)
                have n1_ := Aside0.mk (blk_below (g := gb3400) (o := .cells #[.int .u64 t3397, .int .u64 t3398] 24 (0, 0)) (by (with_reducible repeat (first | refine blk_drewN ?_ _ | refine blk_drew ?_ | refine blk_alloc ?_ _)); exact BK3400.out) hb)
                have n2_ := Aside0.mk (below_step (by repeat (first | (with_reducible first | exact HB.out | apply below_alloc | apply pw_below_drewN | apply below_drew1 | refine below_set ?_ GE3394.out | refine below_set ?_ GE3400.out) | exact HB.out)) hb)
                clear BK3394
                clear BK3400
                clear HB
                have BK3394 := n0_
                have BK3400 := n1_
                have HB := n2_
                clear n0_ n1_ n2_
                (try clear hb)
                (try clear hb2)
                (try clear hk)
                (try clear hi)
                refine hK.out _ _ ⟨(blk_cell BK3394.out 0).trans rfl, (blk_cell BK3394.out 1).trans rfl, (blk_cell BK3400.out 0).trans rfl, (blk_cell BK3400.out 1).trans rfl⟩ (fun hHeld => ?_)
                clear hK K
                refine norm_ (a' := ?_) ?_ ?_
                rotate_left
                · show Act.put _ (some 69) _ = _
                  simp only [Act.put, List.setIfInBounds_toArray, List.set_cons_zero, List.set_cons_succ, i64_w, i32_w]
                  rfl
                refine pure_ (i := 34) (N := some 70) (v := ?_) (a' := ?_) #[true, true, true, true, true, true, true, true, true, true, true, true, true, true, true, true, true, true, true, true, true, true, true, true, true, true, true, true, true, true, true, true, true, true, true, false, false, false, false, false, false, false, false, false, false, false, false, false] rfl rfl (any_of HT_.out (by kernel_rfl)) (fun _ _ _ h => h) (Or.inl ⟨by rfl, ?_⟩) ?_ ?_
                rotate_left
                · intro w'
                  go_simp
                  with_reducible rfl
                rotate_left
                · simp only [Act.put, List.setIfInBounds_toArray, List.set_cons_zero, List.set_cons_succ, i64_w, i32_w]
                  rfl
                refine pure_ (i := 35) (N := some 71) (v := ?_) (a' := ?_) #[true, true, true, true, true, true, true, true, true, true, true, true, true, true, true, true, true, true, true, true, true, true, true, true, true, true, true, true, true, true, true, true, true, true, true, true, false, false, false, false, false, false, false, false, false, false, false, false] rfl rfl (any_of HT_.out (by kernel_rfl)) (fun _ _ _ h => h) (Or.inl ⟨by rfl, ?_⟩) ?_ ?_
                rotate_left
                · intro w'
                  go_simp
                  with_reducible rfl
                rotate_left
                · simp only [Act.put, List.setIfInBounds_toArray, List.set_cons_zero, List.set_cons_succ, i64_w, i32_w]
                  rfl
                refine pure_ (i := 36) (N := some 72) (v := ?_) (a' := ?_) #[true, true, true, true, true, true, true, true, true, true, true, true, true, true, true, true, true, true, true, true, true, true, true, true, true, true, true, true, true, true, true, true, true, true, true, true, true, false, false, false, false, false, false, false, false, false, false, false] rfl rfl (any_of HT_.out (by kernel_rfl)) (fun _ _ _ h => h) (Or.inl ⟨by rfl, ?_⟩) ?_ ?_
                rotate_left
                · intro w'
                  go_simp
                  with_reducible rfl
                rotate_left
                · simp only [Act.put, List.setIfInBounds_toArray, List.set_cons_zero, List.set_cons_succ, i64_w, i32_w]
                  rfl
                refine pure_ (i := 37) (N := some 73) (v := ?_) (a' := ?_) #[true, true, true, true, true, true, true, true, true, true, true, true, true, true, true, true, true, true, true, true, true, true, true, true, true, true, true, true, true, true, true, true, true, true, true, true, true, true, false, false, false, false, false, false, false, false, false, false] rfl rfl (any_of HT_.out (by kernel_rfl)) (fun _ _ _ h => h) (Or.inl ⟨by rfl, ?_⟩) ?_ ?_
                rotate_left
                · intro w'
                  go_simp
                  with_reducible rfl
                rotate_left
                · simp only [Act.put, List.setIfInBounds_toArray, List.set_cons_zero, List.set_cons_succ, i64_w, i32_w]
                  rfl
                refine pure_ (i := 38) (N := some 74) (v := ?_) (a' := ?_) #[true, true, true, true, true, true, true, true, true, true, true, true, true, true, true, true, true, true, true, true, true, true, true, true, true, true, true, true, true, true, true, true, true, true, true, true, true, true, true, false, false, false, false, false, false, false, false, false] rfl rfl (any_of HT_.out (by kernel_rfl)) (fun _ _ _ h => h) (Or.inl ⟨by rfl, ?_⟩) ?_ ?_
                rotate_left
                · intro w'
                  go_simp
                  with_reducible rfl
                rotate_left
                · simp only [Act.put, List.setIfInBounds_toArray, List.set_cons_zero, List.set_cons_succ, i64_w, i32_w]
                  rfl
                refine pure_ (i := 39) (N := some 75) (v := ?_) (a' := ?_) #[true, true, true, true, true, true, true, true, true, true, true, true, true, true, true, true, true, true, true, true, true, true, true, true, true, true, true, true, true, true, true, true, true, true, true, true, true, true, true, true, false, false, false, false, false, false, false, false] rfl rfl (any_of HT_.out (by kernel_rfl)) (fun _ _ _ h => h) (Or.inl ⟨by rfl, ?_⟩) ?_ ?_
                rotate_left
                · intro w'
                  go_simp
                  with_reducible rfl
                rotate_left
                · simp only [Act.put, List.setIfInBounds_toArray, List.set_cons_zero, List.set_cons_succ, i64_w, i32_w]
                  rfl
                refine pure_ (i := 40) (N := some 76) (v := ?_) (a' := ?_) #[true, true, true, true, true, true, true, true, true, true, true, true, true, true, true, true, true, true, true, true, true, true, true, true, true, true, true, true, true, true, true, true, true, true, true, true, true, true, true, true, true, false, false, false, false, false, false, false] rfl rfl (any_of HT_.out (by kernel_rfl)) (fun _ _ _ h => h) (Or.inl ⟨by rfl, ?_⟩) ?_ ?_
                rotate_left
                · intro w'
                  go_simp
                  with_reducible rfl
                rotate_left
                · simp only [Act.put, List.setIfInBounds_toArray, List.set_cons_zero, List.set_cons_succ, i64_w, i32_w]
                  rfl
                refine pure_ (i := 42) (N := some 78) (v := ?_) (a' := ?_) #[true, true, true, true, true, true, true, true, true, true, true, true, true, true, true, true, true, true, true, true, true, true, true, true, true, true, true, true, true, true, true, true, true, true, true, true, true, true, true, true, true, false, true, false, false, false, false, false] rfl rfl (any_of HT_.out (by kernel_rfl)) (fun _ _ _ h => h) (Or.inl ⟨by rfl, ?_⟩) ?_ ?_
                rotate_left
                · intro w'
                  go_simp
                  with_reducible rfl
                rotate_left
                · simp only [Act.put, List.setIfInBounds_toArray, List.set_cons_zero, List.set_cons_succ, i64_w, i32_w]
                  rfl
                refine pure_ (i := 43) (N := some 79) (v := ?_) (a' := ?_) #[true, true, true, true, true, true, true, true, true, true, true, true, true, true, true, true, true, true, true, true, true, true, true, true, true, true, true, true, true, true, true, true, true, true, true, true, true, true, true, true, true, false, true, true, false, false, false, false] rfl rfl (any_of HT_.out (by kernel_rfl)) (fun _ _ _ h => h) (Or.inl ⟨by rfl, ?_⟩) ?_ ?_
                rotate_left
                · intro w'
                  go_simp
                  with_reducible rfl
                rotate_left
                · simp only [Act.put, List.setIfInBounds_toArray, List.set_cons_zero, List.set_cons_succ, i64_w, i32_w]
                  rfl
                refine take_ (i := 41) (N := some 77) (v := ?_) (a' := ?_) #[true, true, true, true, true, true, true, true, true, true, true, true, true, true, true, true, true, true, true, true, true, true, true, true, true, true, true, true, true, true, true, true, true, true, true, true, true, true, true, true, true, true, true, true, false, false, false, false] rfl rfl (take_ofW HT_.out HW_.out (by kernel_rfl)) (fun _ _ _ h => h) (Or.inl ⟨by rfl, ?_⟩) hHeld ?_ ?_
                rotate_left
                · rintro w' ⟨s0, s1, s2, s3⟩
                  go_simp
                  with_reducible rfl
                rotate_left
                · simp only [Act.put, List.setIfInBounds_toArray, List.set_cons_zero, List.set_cons_succ, i64_w, i32_w]
                  rfl
                refine one_ (i := 44) (N := some 80) #[true, true, true, true, true, true, true, true, true, true, true, true, true, true, true, true, true, true, true, true, true, true, true, true, true, true, true, true, true, true, true, true, true, true, true, true, true, true, true, true, true, true, true, true, true, false, false, false] rfl rfl (one_of HT_.out (by kernel_rfl)) (by decide) (fun K hK => ?_)
                refine goes_ Try.func34 (by kernel_rfl) rfl #[.int .u64 a0, .int .u64 a1] (by rfl) rfl rfl (by (try simp only [List.map_toArray, List.map_cons, List.map_nil]); first | done | rfl | (simp only [List.length_drop, List.length_take]; rfl)) ?_
                with_reducible refine (wide_Mul.calls a0 a1 t3413 t3414 _ A23.out).mono ?_
                rintro e w43 ⟨rfl, hb⟩
                refine ⟨_, rfl, ?_⟩
                have n0_ := Aside0.mk (blk_below (g := gb3394) (o := .cells #[.int .u64 t3391, .int .u64 t3392] 24 (0, 0)) (by (with_reducible repeat (first | refine blk_drewN ?_ _ | refine blk_drew ?_ | refine blk_alloc ?_ _)); exact BK3394.out) hb)
                have n1_ := Aside0.mk (blk_below (g := gb3400) (o := .cells #[.int .u64 t3397, .int .u64 t3398] 24 (0, 0)) (by (with_reducible repeat (first | refine blk_drewN ?_ _ | refine blk_drew ?_ | refine blk_alloc ?_ _)); exact BK3400.out) hb)
                have n2_ := Aside0.mk (below_step (by repeat (first | (with_reducible first | exact HB.out | apply below_alloc | apply pw_below_drewN | apply below_drew1 | refine below_set ?_ GE3394.out | refine below_set ?_ GE3400.out) | exact HB.out)) hb)
                clear BK3394
                clear BK3400
                clear HB
                have BK3394 := n0_
                have BK3400 := n1_
                have HB := n2_
                clear n0_ n1_ n2_
                (try clear hb)
                (try clear hb2)
                (try clear hk)
                (try clear hi)
                refine hK.out _ _ ⟨(blk_cell BK3394.out 0).trans rfl, (blk_cell BK3394.out 1).trans rfl, (blk_cell BK3400.out 0).trans rfl, (blk_cell BK3400.out 1).trans rfl⟩ (fun hHeld => ?_)
                clear hK K
                refine norm_ (a' := ?_) ?_ ?_
                rotate_left
                · show Act.put _ (some 80) _ = _
                  simp only [Act.put, List.setIfInBounds_toArray, List.set_cons_zero, List.set_cons_succ, i64_w, i32_w]
                  rfl
                refine pure_ (i := 45) (N := some 81) (v := ?_) (a' := ?_) #[true, true, true, true, true, true, true, true, true, true, true, true, true, true, true, true, true, true, true, true, true, true, true, true, true, true, true, true, true, true, true, true, true, true, true, true, true, true, true, true, true, true, true, true, true, true, false, false] rfl rfl (any_of HT_.out (by kernel_rfl)) (fun _ _ _ h => h) (Or.inl ⟨by rfl, ?_⟩) ?_ ?_
                rotate_left
                · intro w'
                  go_simp
                  with_reducible rfl
                rotate_left
                · simp only [Act.put, List.setIfInBounds_toArray, List.set_cons_zero, List.set_cons_succ, i64_w, i32_w]
                  rfl
                refine pure_ (i := 46) (N := some 82) (v := ?_) (a' := ?_) #[true, true, true, true, true, true, true, true, true, true, true, true, true, true, true, true, true, true, true, true, true, true, true, true, true, true, true, true, true, true, true, true, true, true, true, true, true, true, true, true, true, true, true, true, true, true, true, false] rfl rfl (any_of HT_.out (by kernel_rfl)) (fun _ _ _ h => h) (Or.inl ⟨by rfl, ?_⟩) ?_ ?_
                rotate_left
                · intro w'
                  go_simp
                  with_reducible rfl
                rotate_left
                · simp only [Act.put, List.setIfInBounds_toArray, List.set_cons_zero, List.set_cons_succ, i64_w, i32_w]
                  rfl
                refine pure_ (i := 47) (N := some 6) (v := ?_) (a' := ?_) #[true, true, true, true, true, true, true, true, true, true, true, true, true, true, true, true, true, true, true, true, true, true, true, true, true, true, true, true, true, true, true, true, true, true, true, true, true, true, true, true, true, true, true, true, true, true, true, true] rfl rfl (any_of HT_.out (by kernel_rfl)) (fun _ _ _ h => h) (Or.inl ⟨by rfl, ?_⟩) ?_ ?_
                rotate_left
                · intro w'
                  go_simp
                  with_reducible rfl
                rotate_left
                · simp only [Act.put, List.setIfInBounds_toArray, List.set_cons_zero, List.set_cons_succ, i64_w, i32_w]
                  rfl
                refine done_ (done_of HT_.out (by kernel_rfl)) ?_
                try go_wp2
                go_ret
                exact ⟨by first | rfl | (simp [errW_none, errW_some] <;> rfl) | (simp [*, errW_none, errW_some] <;> rfl), by repeat (first | (with_reducible first | exact HB.out | apply below_alloc | apply pw_below_drewN | apply below_drew1 | refine below_set ?_ GE3394.out | refine below_set ?_ GE3400.out) | exact HB.out)⟩
              · rw [if_neg c22] at H
                exact absurd H (by simp)
            · rw [if_neg c21] at H
              exact absurd H (by simp)
          · rw [if_neg c19] at H
            exact absurd H (by simp)
        · rw [if_neg c18] at H
          exact absurd H (by simp)
      · rw [if_neg c16] at H
        exact absurd H (by simp)
    · rw [if_neg c13] at H
      exact absurd H (by simp)
  · replace c10 := Bool.eq_false_iff.mpr c10
    subst c10
    have H1 : (none) = some r := by rw [if_neg (show ¬ (false = true) by decide)] at H; exact H
    clear H
    have H := H1
    clear H1
    exact absurd H (by simp)

/-- THE ONE PURE STATEMENT of demurragelaw01_WideMuls: yours. -/
def demurragelaw01_WideMuls.Pure : Prop := ∀ (a0 : Int) (a1 : Int) (a2 : Int), (Lit.int .u64 a0).wf = true → (Lit.int .u64 a1).wf = true → (Lit.int .u64 a2).wf = true → demurragelaw01_WideMuls.f a0 a1 a2 = some true
theorem demurragelaw01_WideMuls.walk (P : demurragelaw01_WideMuls.Pure) (a0 : Int) (a1 : Int) (a2 : Int) (w : World) (w0 : (Lit.int .u64 a0).wf = true) (w1 : (Lit.int .u64 a1).wf = true) (w2 : (Lit.int .u64 a2).wf = true) :
    Calls Try.prog 7 #[.int .u64 a0, .int .u64 a1, .int .u64 a2] w fun e w' => e = .returned (.bool true) ∧ Below w.heap.size w w' := by
  have h := P a0 a1 a2 w0 w1 w2
  refine (demurragelaw01_WideMuls.calls a0 a1 a2 true w h).mono ?_
  rintro e w' ⟨rfl, hd⟩
  exact ⟨rfl, hd⟩

end Go.Proofs.Ytcdbmmlnmefoeaa.X
