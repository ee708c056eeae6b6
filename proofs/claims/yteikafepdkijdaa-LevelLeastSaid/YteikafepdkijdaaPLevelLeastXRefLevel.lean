-- cut by prune.py, a program of this session
import Derived.Test.YteikafepdkijdaaPLevelLeastX0
import Derived.Test.YteikafepdkijdaaPLevelLeastXRefOf
import Derived.Test.YteikafepdkijdaaPLevelLeastXRefAll
namespace Go.Proofs.Yteikafepdkijdaa.X
open Go.RowKit Go.Proofs.YteikafepdkijdaaW.PrintWords Go.Proofs.YteikafepdkijdaaW.PrintLast Go.Proofs.YteikafepdkijdaaW.PrintMore
attribute [local go_sem] max2_int min2_int max_two min_two
set_option linter.unusedVariables false
set_option linter.unusedSimpArgs false

mutual
def demurrageref20_Why.j0 : Nat → Int → Int → List (S56) → Bool → Option (Int)
 | 0, _, _, _, _ => none
 | k + 1, x0, x1, x2, x17 => if x17 = true then (some 1) else (if x0 < 0 then (demurrageref20_Why.j1 k x0 x1 x2 true) else (demurrageref20_Why.j1 k x0 x1 x2 (decide (x0 > 1000000000000000))))
def demurrageref20_Why.j1 : Nat → Int → Int → List (S56) → Bool → Option (Int)
 | 0, _, _, _, _ => none
 | k + 1, x0, x1, x2, x23 => if x23 = true then (some 2) else ((demurrageref18_All.f k x0 x1 x2).bind fun bt378 => (if bt378.2 = 0 then (demurrageref20_Why.l0 k x0 bt378.1 0) else (some bt378.2)))
def demurrageref20_Why.l0 : Nat → Int → List Int → Int → Option (Int)
 | 0, _, _, _ => none
 | k + 1, x0, x7, x9 => if x9 < (x7.length : Int) then (if 0 ≤ x9 then (if (rd x7 x9) > (wrap64 (4611686018427387904 - x0)) then (some 6) else (demurrageref20_Why.l0 k x0 x7 (wrap64 (x9 + 1)))) else (none)) else (some 0)
end
def demurrageref20_Why.f (k : Nat) (a0 : Int) (a1 : Int) (l2 : List (S56)) : Option (Int) := if (l2.length : Int) < 1 then (demurrageref20_Why.j0 k a0 a1 l2 true) else (demurrageref20_Why.j0 k a0 a1 l2 (decide ((l2.length : Int) > 1200)))
set_option maxHeartbeats 8000000 in
set_option maxRecDepth 100000 in
theorem demurrageref20_Why.calls (k : Nat) (a0 : Int) (a1 : Int) (A2 : Option Addr) (c2 : Nat) (l2 : List (S56)) (r : Int) (w : World) (hr2 : Kd.C k56 w A2 l2.length l2) (hc2 : l2.length ≤ c2) (h : demurrageref20_Why.f k a0 a1 l2 = some r) :
  Calls Try.prog 20 #[.int .i64 a0, .int .i64 a1, .slice A2 l2.length c2] w fun e w' => e = .returned (.int .i64 r) ∧ Below w.heap.size w w' := by
 have HR2 := aA_ hr2
 have HC2 := aA_ hc2
 clear hr2 hc2
 have HB := aA_ (Below.refl w.heap.size w)
 have H : (if (l2.length : Int) < 1 then (demurrageref20_Why.j0 k a0 a1 l2 true) else (demurrageref20_Why.j0 k a0 a1 l2 (decide ((l2.length : Int) > 1200)))) = some r := h
 clear h
 have HC4 := aA_ H
 clear H
 go_enter Try.func20, Try.ntmps20
 go_upto_region 1 with (fail)
 go_cut [17] (fun v17 wc => ∃ (kq : Nat) (x17_3 : Bool), v17 = .bool x17_3 ∧ Aside0 (demurrageref20_Why.j0 kq a0 a1 l2 x17_3 = some r) ∧ Aside0 (kq ≤ k) ∧ Aside0 (Below w.heap.size w wc))
 case first =>
  have H := HC4.out
  clear HC4
  by_cases c5 : (l2.length : Int) < 1
  ·rw [if_pos c5] at H
   have c5b0 : decide ((l2.length : Int) < 1) = true := decide_eq_true c5
   have c5b1 : decide (l2.length < 1) = true := decide_eq_true (by omega)
   clear c5
   (first | rw [c5b0] | (simp only [i64_w, i32_w]; rw [c5b0]) | rw [c5b1] | skip)
   have H' := aA_ H
   clear H
   go_wp2
   go_meet
   case rel => exact ⟨_, _, (by first | rfl | simp | simp [*]), H', ⟨by first | omega | exact Nat.le_refl _⟩, ⟨by repeat (with_reducible first | exact HB.out | apply bA_ | apply bN_ | apply bD_)⟩⟩
  ·rw [if_neg c5] at H
   have c5b0 : decide ((l2.length : Int) < 1) = false := decide_eq_false c5
   have c5b1 : decide (l2.length < 1) = false := decide_eq_false (by omega)
   clear c5
   (first | rw [c5b0] | (simp only [i64_w, i32_w]; rw [c5b0]) | rw [c5b1] | skip)
   have H' := aA_ H
   clear H
   go_wp2
   go_meet
   case rel => exact ⟨_, (decide ((l2.length : Int) > 1200)), (by first | rfl | simp | simp [*]), H', ⟨by first | omega | exact Nat.le_refl _⟩, ⟨by repeat (with_reducible first | exact HB.out | apply bA_ | apply bN_ | apply bD_)⟩⟩
 case rest =>
  clear HC4
  try clear c2
  try clear p2
  try clear c5
  try clear c5b0
  try clear c5b1
  obtain ⟨kq, x17_3, rfl, HA, HJ3, HB⟩ := hcut
  cases kq with
  | zero => exact absurd HA.out (by simp [demurrageref20_Why.j0])
  | succ kj3 =>
   have H := HA.out
   clear HA
   simp only [demurrageref20_Why.j0] at H
   by_cases c6 : x17_3 = true
   ·subst c6
    rw [if_pos rfl] at H
    obtain rfl := Option.some.inj H
    go_wp2
    go_ret
    exact ⟨by rfl, by repeat (with_reducible first | exact HB.out | apply bA_ | apply bN_ | apply bD_)⟩
   ·replace c6 := Bool.eq_false_iff.mpr c6
    subst c6
    rw [if_neg (show ¬ (false = true) by decide)] at H
    have HC7 := aA_ H
    clear H
    go_upto_region 3 with (fail)
    go_cut [23] (fun v23 wc => ∃ (kq : Nat) (x23_6 : Bool), v23 = .bool x23_6 ∧ Aside0 (demurrageref20_Why.j1 kq a0 a1 l2 x23_6 = some r) ∧ Aside0 (kq ≤ kj3) ∧ Aside0 (Below w.heap.size w wc))
    case first =>
     have H := HC7.out
     clear HC7
     by_cases c8 : a0 < 0
     ·rw [if_pos c8] at H
      have c8b0 : decide (a0 < 0) = true := decide_eq_true c8
      clear c8
      (first | rw [c8b0] | (simp only [i64_w, i32_w]; rw [c8b0]) | rw [c8b1] | skip)
      have H' := aA_ H
      clear H
      go_wp2
      go_meet
      case rel => exact ⟨_, _, (by first | rfl | simp | simp [*]), H', ⟨by have := HJ3.out; first | omega | exact Nat.le_refl _⟩, ⟨by repeat (with_reducible first | exact HB.out | apply bA_ | apply bN_ | apply bD_)⟩⟩
     ·rw [if_neg c8] at H
      have c8b0 : decide (a0 < 0) = false := decide_eq_false c8
      clear c8
      (first | rw [c8b0] | (simp only [i64_w, i32_w]; rw [c8b0]) | rw [c8b1] | skip)
      have H' := aA_ H
      clear H
      go_wp2
      go_meet
      case rel => exact ⟨_, (decide (a0 > 1000000000000000)), (by first | rfl | simp | simp [*]), H', ⟨by have := HJ3.out; first | omega | exact Nat.le_refl _⟩, ⟨by repeat (with_reducible first | exact HB.out | apply bA_ | apply bN_ | apply bD_)⟩⟩
    case rest =>
     clear HC7
     try clear c2
     try clear p2
     try clear c5
     try clear c5b0
     try clear c5b1
     try clear c6
     try clear c8
     try clear c8b0
     try clear c8b1
     try clear p2
     obtain ⟨kq, x23_6, rfl, HA, HJ6, HB⟩ := hcut
     cases kq with
     | zero => exact absurd HA.out (by simp [demurrageref20_Why.j1])
     | succ kj6 =>
      have H := HA.out
      clear HA
      simp only [demurrageref20_Why.j1] at H
      by_cases c9 : x23_6 = true
      ·subst c9
       rw [if_pos rfl] at H
       obtain rfl := Option.some.inj H
       go_wp2
       go_ret
       exact ⟨by rfl, by repeat (with_reducible first | exact HB.out | apply bA_ | apply bN_ | apply bD_)⟩
      ·replace c9 := Bool.eq_false_iff.mpr c9
       subst c9
       rw [if_neg (show ¬ (false = true) by decide)] at H
       replace H := bI_ H
       obtain ⟨⟨t378, t379⟩, A100, H⟩ := H
       (try dsimp only at H)
       have A10 := aA_ A100
       clear A100
       by_cases c11 : t379 = 0
       ·rw [if_pos c11] at H
        have c11b0 : (t379 == 0) = true := beq_iff_eq.mpr c11
        have c11b1 : (t379 != 0) = false := bne_eq_false_iff_eq.mpr c11
        clear c11
        have H' := aA_ H
        clear H
        go_wp2_with (first | (refine goesL_ (some 28) rfl rfl Try.func39 (by kernel_rfl) rfl #[.int .i64 a0, .int .i64 a1, .slice A2 l2.length c2] rfl (by (try simp only [mT_, mC_, mN_]); first | done | rfl) ?_; (with_reducible refine (demurrageref18_All.calls kj6 a0 a1 _ _ l2 t378 t379 _ ?side1 ?side2 A10.out).mono ?_); (case side1 => repeat (first | exact (Kd.C_below HR2.out HB.out) | (with_reducible first | refine Kd.C_alloc ?_ _ | refine Kd.C_drewN ?_ _ | refine Kd.C_drew ?_))); (case side2 => exact HC2.out); rintro e w12 ⟨v380, rfl, ho0, hb⟩; refine ⟨_, rfl, ?_⟩; have HO381 := aA_ (Kd.R_lower ho0 (below_size (by repeat (with_reducible first | exact HB.out | apply bA_ | apply bN_ | apply bD_)))); replace HB := bB_ (by repeat (with_reducible first | exact HB.out | apply bA_ | apply bN_ | apply bD_)) hb; (try clear hb); (try clear ho0)))
        (try simp only [Act.put, sT_, sZ_, sS_])
        go_loopg [9] kj6 (fun kq v9 w' => ∃ (x9_3 : Int), v9 = .int .i64 x9_3 ∧ Aside0 (demurrageref20_Why.l0 kq a0 t378 x9_3 = some r) ∧ Aside0 (kq ≤ kj6) ∧ Aside0 (Kd.R (Kd.int .i64) 3 w' w.heap.size (fun _ => True) v380 t378) ∧ Aside0 (Below w.heap.size w w'))
        case atStart => exact ⟨(0), (by first | rfl | simp | simp [*]), H', ⟨Nat.le_refl _⟩, ⟨by (with_reducible repeat (first | apply Kd.R_alloc | apply Kd.R_drewN | apply Kd.R_drew)); exact HO381.out⟩, ⟨by repeat (with_reducible first | exact HB.out | apply bA_ | apply bN_ | apply bD_)⟩⟩
        case round =>
         clear H'
         try clear c1
         try clear c2
         try clear p2
         try clear c3
         try clear c5
         try clear c5b0
         try clear c5b1
         try clear c6
         try clear c8
         try clear c8b0
         try clear c8b1
         try clear c9
         try clear c11
         try clear c11b0
         try clear c11b1
         try clear p2
         obtain ⟨x9_3, rfl, HA, HK3, HO_7, HB⟩ := hrel
         cases gk with
         | zero => exact absurd HA.out (by simp [demurrageref20_Why.l0])
         | succ k3 =>
          have H := HA.out
          clear HA
          simp only [demurrageref20_Why.l0] at H
          by_cases c13 : x9_3 < (t378.length : Int)
          ·rw [if_pos c13] at H
           have c13b0 : decide (x9_3 < (t378.length : Int)) = true := decide_eq_true c13
           clear c13
           by_cases c14 : 0 ≤ x9_3
           ·rw [if_pos c14] at H
            have c14b0 : decide (0 ≤ x9_3) = true := decide_eq_true c14
            clear c14
            by_cases c15 : (rd t378 x9_3) > (wrap64 (4611686018427387904 - a0))
            ·rw [if_pos c15] at H
             have c15b0 : decide ((wrap64 (4611686018427387904 - a0)) < (rd t378 x9_3)) = true := decide_eq_true c15
             clear c15
             obtain rfl := Option.some.inj H
             obtain ⟨Ao16, co16, eo16⟩ := Kd.R_slice HO_7.out
             subst eo16
             have p382 : 0 ≤ (x9_3 : Int) := of_decide_eq_true (by first | (with_reducible assumption) | assumption)
             have q382 : x9_3 < (t378.length : Int) := of_decide_eq_true (by first | (with_reducible assumption) | assumption)
             obtain ⟨ad382, e382, hx382_0⟩ := Kd.at_int (Kd.R_reads' HO_7.out).2.2 x9_3 p382 q382
             cases e382
             replace p382 := eq_true p382
             replace q382 := eq_true q382
             go_wp2
             go_ret
             exact ⟨by rfl, by repeat (with_reducible first | exact HB.out | apply bA_ | apply bN_ | apply bD_)⟩
            ·rw [if_neg c15] at H
             have c15b0 : decide ((wrap64 (4611686018427387904 - a0)) < (rd t378 x9_3)) = false := decide_eq_false c15
             clear c15
             have H' := aA_ H
             clear H
             obtain ⟨Ao17, co17, eo17⟩ := Kd.R_slice HO_7.out
             subst eo17
             have p382 : 0 ≤ (x9_3 : Int) := of_decide_eq_true (by first | (with_reducible assumption) | assumption)
             have q382 : x9_3 < (t378.length : Int) := of_decide_eq_true (by first | (with_reducible assumption) | assumption)
             obtain ⟨ad382, e382, hx382_0⟩ := Kd.at_int (Kd.R_reads' HO_7.out).2.2 x9_3 p382 q382
             cases e382
             replace p382 := eq_true p382
             replace q382 := eq_true q382
             go_wp2
             go_roundg k3
             case measure => have := HJ3.out; have := HJ6.out; have := HK3.out; omega
             case rel => exact ⟨(wrap64 (x9_3 + 1)), (by first | rfl | simp | simp [*]), H', ⟨by have := HJ3.out; have := HJ6.out; have := HK3.out; omega⟩, ⟨by (with_reducible repeat (first | apply Kd.R_alloc | apply Kd.R_drewN | apply Kd.R_drew)); exact HO_7.out⟩, ⟨by repeat (with_reducible first | exact HB.out | apply bA_ | apply bN_ | apply bD_)⟩⟩
           ·rw [if_neg c14] at H
            exact absurd H (by simp)
          ·rw [if_neg c13] at H
           have c13b0 : decide (x9_3 < (t378.length : Int)) = false := decide_eq_false c13
           clear c13
           obtain rfl := Option.some.inj H
           obtain ⟨Ao18, co18, eo18⟩ := Kd.R_slice HO_7.out
           subst eo18
           go_wp2
           go_ret
           exact ⟨by rfl, by repeat (with_reducible first | exact HB.out | apply bA_ | apply bN_ | apply bD_)⟩
       ·rw [if_neg c11] at H
        have c11b0 : (t379 == 0) = false := beq_eq_false_iff_ne.mpr c11
        have c11b1 : (t379 != 0) = true := bne_iff_ne.mpr c11
        obtain rfl := Option.some.inj H
        go_wp2_with (first | (refine goesL_ (some 28) rfl rfl Try.func39 (by kernel_rfl) rfl #[.int .i64 a0, .int .i64 a1, .slice A2 l2.length c2] rfl (by (try simp only [mT_, mC_, mN_]); first | done | rfl) ?_; (with_reducible refine (demurrageref18_All.calls kj6 a0 a1 _ _ l2 t378 t379 _ ?side1 ?side2 A10.out).mono ?_); (case side1 => repeat (first | exact (Kd.C_below HR2.out HB.out) | (with_reducible first | refine Kd.C_alloc ?_ _ | refine Kd.C_drewN ?_ _ | refine Kd.C_drew ?_))); (case side2 => exact HC2.out); rintro e w19 ⟨v380, rfl, ho0, hb⟩; refine ⟨_, rfl, ?_⟩; have HO381 := aA_ (Kd.R_lower ho0 (below_size (by repeat (with_reducible first | exact HB.out | apply bA_ | apply bN_ | apply bD_)))); replace HB := bB_ (by repeat (with_reducible first | exact HB.out | apply bA_ | apply bN_ | apply bD_)) hb; (try clear hb); (try clear ho0)))
        go_ret
        exact ⟨by rfl, by repeat (with_reducible first | exact HB.out | apply bA_ | apply bN_ | apply bD_)⟩

def demurrageref20_With.l0 : Nat → Int → List (S56) → Int → List (S48) → Int → Int → Option ((List (S48)))
 | 0, _, _, _, _, _, _ => none
 | k + 1, x1, x2, x3, x9, x10, x11 => if x11 < (x2.length : Int) then (if 0 ≤ x11 then ((demurrageref18_Of.f k x10 x1 ((rd_T56 x2 x11).f0) ((rd_T56 x2 x11).f1)).bind fun bt384 => (if (wrap64 (x3 - bt384.1)) < 0 then (if 0 > x10 then (if x9.length < 3518437208883 then (demurrageref20_With.l0 k x1 x2 x3 (x9 ++ [(⟨x10, bt384.1, x10, wrap64 (bt384.1 + x10), 0⟩ : S48)]) (0) (wrap64 (x11 + 1))) else (none)) else (if x11 = (wrap64 ((x2.length : Int) - 1)) then (if x9.length < 3518437208883 then (demurrageref20_With.l0 k x1 x2 x3 (x9 ++ [(⟨x10, bt384.1, x10, wrap64 (bt384.1 + x10), 0⟩ : S48)]) (0) (wrap64 (x11 + 1))) else (none)) else (if x9.length < 3518437208883 then (demurrageref20_With.l0 k x1 x2 x3 (x9 ++ [(⟨x10, bt384.1, 0, wrap64 (bt384.1), wrap64 (x10)⟩ : S48)]) (wrap64 (x10)) (wrap64 (x11 + 1))) else (none)))) else (if (wrap64 (x3 - bt384.1)) > x10 then (if x9.length < 3518437208883 then (demurrageref20_With.l0 k x1 x2 x3 (x9 ++ [(⟨x10, bt384.1, x10, wrap64 (bt384.1 + x10), 0⟩ : S48)]) (0) (wrap64 (x11 + 1))) else (none)) else (if x11 = (wrap64 ((x2.length : Int) - 1)) then (if x9.length < 3518437208883 then (demurrageref20_With.l0 k x1 x2 x3 (x9 ++ [(⟨x10, bt384.1, x10, wrap64 (bt384.1 + x10), 0⟩ : S48)]) (0) (wrap64 (x11 + 1))) else (none)) else (if x9.length < 3518437208883 then (demurrageref20_With.l0 k x1 x2 x3 (x9 ++ [(⟨x10, bt384.1, wrap64 (x3 - bt384.1), wrap64 (bt384.1 + (wrap64 (x3 - bt384.1))), wrap64 (x10 - (wrap64 (x3 - bt384.1)))⟩ : S48)]) (wrap64 (x10 - (wrap64 (x3 - bt384.1)))) (wrap64 (x11 + 1))) else (none)))))) else (none)) else (some x9)
def demurrageref20_With.f (k : Nat) (a0 : Int) (a1 : Int) (l2 : List (S56)) (a3 : Int) : Option ((List (S48))) := demurrageref20_With.l0 k a1 l2 a3 ([] : List (S48)) a0 0
set_option maxHeartbeats 8000000 in
set_option maxRecDepth 100000 in
theorem demurrageref20_With.calls (k : Nat) (a0 : Int) (a1 : Int) (A2 : Option Addr) (c2 : Nat) (l2 : List (S56)) (a3 : Int) (r : List (S48)) (w : World) (hr2 : Kd.C k56 w A2 l2.length l2) (hc2 : l2.length ≤ c2) (h : demurrageref20_With.f k a0 a1 l2 a3 = some r) :
  Calls Try.prog 23 #[.int .i64 a0, .int .i64 a1, .slice A2 l2.length c2, .int .i64 a3] w fun e w' => ∃ v0_ : Value, e = .returned (v0_) ∧ Kd.R k48 48 w' w.heap.size (fun _ => True) v0_ r ∧ Below w.heap.size w w' := by
 have hu56 := Try.underlying56
 have hu48 := Try.underlying48
 have HR2 := aA_ hr2
 have HC2 := aA_ hc2
 clear hr2 hc2
 have HB := aA_ (Below.refl w.heap.size w)
 have H : (demurrageref20_With.l0 k a1 l2 a3 ([] : List (S48)) a0 0) = some r := h
 clear h
 have H' := aA_ H
 clear H
 go_enter Try.func23, Try.ntmps23
 go_wp2
 (try simp only [Act.put, sT_, sZ_, sS_])
 go_loopg [9, 10, 11] k (fun kq v9 v10 v11 w' => ∃ (x9_1 : List (S48)) (x10_1 : Int) (x11_1 : Int), v10 = .int .i64 x10_1 ∧ v11 = .int .i64 x11_1 ∧ Aside0 (demurrageref20_With.l0 kq a1 l2 a3 x9_1 x10_1 x11_1 = some r) ∧ Aside0 (kq ≤ k) ∧ Aside0 (Kd.R k48 48 w' w.heap.size (fun _ => True) v9 x9_1) ∧ Aside0 (Below w.heap.size w w'))
 case atStart => exact ⟨(([] : List (S48))), (a0), (0), (by first | rfl | simp | simp [*]), (by first | rfl | simp | simp [*]), H', ⟨Nat.le_refl _⟩, ⟨by first | exact Kd.R_nil _ _ _ _ _ | exact Kd.N_nil _ _ _ _ _ | exact Kd.V_nil _ _ _ _ _ | exact Kd.Q_nil _ _ _ _ _ | exact Kd.S_nil _ _ _ _ _⟩, ⟨by repeat (with_reducible first | exact HB.out | apply bA_ | apply bN_ | apply bD_)⟩⟩
 case round =>
  clear H'
  try clear c2
  try clear p2
  obtain ⟨x9_1, x10_1, x11_1, rfl, rfl, HA, HK1, HO_9, HB⟩ := hrel
  cases gk with
  | zero => exact absurd HA.out (by simp [demurrageref20_With.l0])
  | succ k1 =>
   have H := HA.out
   clear HA
   simp only [demurrageref20_With.l0] at H
   by_cases c5 : x11_1 < (l2.length : Int)
   rotate_left
   ·rw [if_neg c5] at H
    have c5b0 : decide (x11_1 < (l2.length : Int)) = false := decide_eq_false c5
    clear c5
    obtain rfl := Option.some.inj H
    go_wp2
    go_ret
    exact ⟨_, by rfl, by (with_reducible repeat (first | apply Kd.R_alloc | apply Kd.R_drewN | apply Kd.R_drew)); exact HO_9.out, by repeat (with_reducible first | exact HB.out | apply bA_ | apply bN_ | apply bD_)⟩
   rw [if_pos c5] at H
   have c5b0 : decide (x11_1 < (l2.length : Int)) = true := decide_eq_true c5
   clear c5
   by_cases c6 : 0 ≤ x11_1
   rotate_left
   ·rw [if_neg c6] at H
    exact absurd H (by simp)
   rw [if_pos c6] at H
   have c6b0 : decide (0 ≤ x11_1) = true := decide_eq_true c6
   clear c6
   replace H := bI_ H
   obtain ⟨⟨t384, t385⟩, A70, H⟩ := H
   (try dsimp only at H)
   have A7 := aA_ A70
   clear A70
   by_cases c8 : (wrap64 (a3 - t384)) < 0
   focus
    rw [if_pos c8] at H
    have c8b0 : decide ((wrap64 (a3 - t384)) < 0) = true := decide_eq_true c8
    clear c8
    by_cases c9 : 0 > x10_1
    rotate_left
    ·rw [if_neg c9] at H
     have c9b0 : decide (x10_1 < 0) = false := decide_eq_false c9
     clear c9
     by_cases c13 : x11_1 = (wrap64 ((l2.length : Int) - 1))
     ·rw [if_pos c13] at H
      have c13b0 : (x11_1 == (wrap64 ((l2.length : Int) - 1))) = true := beq_iff_eq.mpr c13
      have c13b1 : (x11_1 != (wrap64 ((l2.length : Int) - 1))) = false := bne_eq_false_iff_eq.mpr c13
      clear c13
      by_cases c14 : x9_1.length < 3518437208883
      rotate_left
      ·rw [if_neg c14] at H
       exact absurd H (by simp)
      rw [if_pos c14] at H
      have LMc14 := aA_ c14
      clear c14
      obtain ⟨y389, hy389⟩ : ∃ y_ : List (S48), y_ = (x9_1 ++ [(⟨x10_1, t384, x10_1, wrap64 (t384 + x10_1), 0⟩ : S48)]) := ⟨_, rfl⟩
      replace H : (demurrageref20_With.l0 k1 a1 l2 a3 y389 (0) (wrap64 (x11_1 + 1))) = some r := by first | (rw [hy389]; with_reducible exact H) | (have H2_ := (Option.bind_some _ _).symm.trans H; rw [hy389]; with_reducible exact H2_) | (have H2_ := (Option.bind_some _ _).symm.trans H; with_reducible exact H2_) | with_reducible exact H | (rw [hy389]; exact H) | exact H
      have Ny389 := aA_ hy389
      clear hy389
      have H' := aA_ H
      clear H
      have p383 : 0 ≤ (x11_1 : Int) := of_decide_eq_true (by first | (with_reducible assumption) | assumption)
      have q383 : x11_1 < (l2.length : Int) := of_decide_eq_true (by first | (with_reducible assumption) | assumption)
      obtain ⟨ad383, e383, hx383_0, hx383_1⟩ := at_T56 HR2.out x11_1 p383 q383
      cases e383
      replace hx383_0 := cC_ HB hx383_0
      replace hx383_1 := cC_ HB hx383_1
      replace p383 := eq_true p383
      replace q383 := eq_true q383
      go_wp2_with (first | (refine goesL_ (some 29) rfl rfl Try.func26 (by kernel_rfl) rfl #[.int .i64 x10_1, .int .i64 a1, .agg #[.int .i64 ((rd_T56 l2 x11_1).f0), .int .i64 ((rd_T56 l2 x11_1).f1)]] rfl (by (try simp only [mT_, mC_, mN_]); first | done | rfl) ?_; (with_reducible refine (demurrageref18_Of.calls k1 x10_1 a1 ((rd_T56 l2 x11_1).f0) ((rd_T56 l2 x11_1).f1) t384 t385 _ A7.out).mono ?_); rintro e w15 ⟨rfl, hb⟩; refine ⟨_, rfl, ?_⟩; replace HO_9 := aA_ (Kd.R_below HO_9.out hb); replace HB := bB_ (by repeat (with_reducible first | exact HB.out | apply bA_ | apply bN_ | apply bD_)) hb; (try clear hb)) | ((with_reducible refine gate_builtin (b := .append) (xs := #[.tmp 48, .tmp 59]) rfl ?_); (try (refine gate_guard (by rfl) ?_; dsimp only)); at_builtin; refine Kd.R_append k48 (w0 := w) w.heap.size rfl (.tmp 48) (.tmp 59) 33 48 (.agg #[(.int .i64 0), (.int .i64 0), (.int .i64 0), (.int .i64 0), (.int .i64 0)]) 40 rfl Try.underlying33 info48 rfl (by decide) (by omega) u9 x9_1 (⟨x10_1, t384, x10_1, wrap64 (t384 + x10_1), 0⟩ : S48) [.int .i64 x10_1, .int .i64 t384, .int .i64 x10_1, .int .i64 (wrap64 (t384 + x10_1)), .int .i64 (0)] (fun _ => True) (fun _ => False) rfl rfl ?aP (fun _ hk => hk.elim) ?aF ?aO ?aB ?aS ?aL ?_; (case aP => exact k48_mkM _ _ _ (⟨x10_1, t384, x10_1, wrap64 (t384 + x10_1), 0⟩ : S48)); (case aB => exact (by repeat (with_reducible first | exact HB.out | apply bA_ | apply bN_ | apply bD_))); (case aF => exact (fun _ _ => trivial)); (case aO => exact (by (with_reducible repeat (first | apply Kd.R_alloc | apply Kd.R_drewN | apply Kd.R_drew)); exact HO_9.out)); (case aS => exact (below_size (by repeat (with_reducible first | exact HB.out | apply bA_ | apply bN_ | apply bD_)))); (case aL => have := LMc14.out; omega); intro v390 w16 ho hb hg hat; rw [← Ny389.out] at ho; replace HB := aA_ (hb); have HO391 := aA_ (ho); clear HO_9; clear ho hb hg hat))
      go_roundg k1
      case measure => have := HK1.out; omega
      case rel => exact ⟨(y389), (0), (wrap64 (x11_1 + 1)), (by first | rfl | simp | simp [*]), (by first | rfl | simp | simp [*]), H', ⟨by have := HK1.out; omega⟩, ⟨by (with_reducible repeat (first | apply Kd.R_alloc | apply Kd.R_drewN | apply Kd.R_drew)); exact HO391.out⟩, ⟨by repeat (with_reducible first | exact HB.out | apply bA_ | apply bN_ | apply bD_)⟩⟩
     ·rw [if_neg c13] at H
      have c13b0 : (x11_1 == (wrap64 ((l2.length : Int) - 1))) = false := beq_eq_false_iff_ne.mpr c13
      have c13b1 : (x11_1 != (wrap64 ((l2.length : Int) - 1))) = true := bne_iff_ne.mpr c13
      by_cases c17 : x9_1.length < 3518437208883
      rotate_left
      ·rw [if_neg c17] at H
       exact absurd H (by simp)
      rw [if_pos c17] at H
      have LMc17 := aA_ c17
      clear c17
      obtain ⟨y392, hy392⟩ : ∃ y_ : List (S48), y_ = (x9_1 ++ [(⟨x10_1, t384, 0, wrap64 (t384), wrap64 (x10_1)⟩ : S48)]) := ⟨_, rfl⟩
      replace H : (demurrageref20_With.l0 k1 a1 l2 a3 y392 (wrap64 (x10_1)) (wrap64 (x11_1 + 1))) = some r := by first | (rw [hy392]; with_reducible exact H) | (have H2_ := (Option.bind_some _ _).symm.trans H; rw [hy392]; with_reducible exact H2_) | (have H2_ := (Option.bind_some _ _).symm.trans H; with_reducible exact H2_) | with_reducible exact H | (rw [hy392]; exact H) | exact H
      have Ny392 := aA_ hy392
      clear hy392
      have H' := aA_ H
      clear H
      have p383 : 0 ≤ (x11_1 : Int) := of_decide_eq_true (by first | (with_reducible assumption) | assumption)
      have q383 : x11_1 < (l2.length : Int) := of_decide_eq_true (by first | (with_reducible assumption) | assumption)
      obtain ⟨ad383, e383, hx383_0, hx383_1⟩ := at_T56 HR2.out x11_1 p383 q383
      cases e383
      replace hx383_0 := cC_ HB hx383_0
      replace hx383_1 := cC_ HB hx383_1
      replace p383 := eq_true p383
      replace q383 := eq_true q383
      go_wp2_with (first | (refine goesL_ (some 29) rfl rfl Try.func26 (by kernel_rfl) rfl #[.int .i64 x10_1, .int .i64 a1, .agg #[.int .i64 ((rd_T56 l2 x11_1).f0), .int .i64 ((rd_T56 l2 x11_1).f1)]] rfl (by (try simp only [mT_, mC_, mN_]); first | done | rfl) ?_; (with_reducible refine (demurrageref18_Of.calls k1 x10_1 a1 ((rd_T56 l2 x11_1).f0) ((rd_T56 l2 x11_1).f1) t384 t385 _ A7.out).mono ?_); rintro e w18 ⟨rfl, hb⟩; refine ⟨_, rfl, ?_⟩; replace HO_9 := aA_ (Kd.R_below HO_9.out hb); replace HB := bB_ (by repeat (with_reducible first | exact HB.out | apply bA_ | apply bN_ | apply bD_)) hb; (try clear hb)) | ((with_reducible refine gate_builtin (b := .append) (xs := #[.tmp 48, .tmp 59]) rfl ?_); (try (refine gate_guard (by rfl) ?_; dsimp only)); at_builtin; refine Kd.R_append k48 (w0 := w) w.heap.size rfl (.tmp 48) (.tmp 59) 33 48 (.agg #[(.int .i64 0), (.int .i64 0), (.int .i64 0), (.int .i64 0), (.int .i64 0)]) 40 rfl Try.underlying33 info48 rfl (by decide) (by omega) u9 x9_1 (⟨x10_1, t384, 0, wrap64 (t384), wrap64 (x10_1)⟩ : S48) [.int .i64 x10_1, .int .i64 t384, .int .i64 0, .int .i64 (wrap64 (t384)), .int .i64 (wrap64 (x10_1))] (fun _ => True) (fun _ => False) rfl rfl ?aP (fun _ hk => hk.elim) ?aF ?aO ?aB ?aS ?aL ?_; (case aP => exact k48_mkM _ _ _ (⟨x10_1, t384, 0, wrap64 (t384), wrap64 (x10_1)⟩ : S48)); (case aB => exact (by repeat (with_reducible first | exact HB.out | apply bA_ | apply bN_ | apply bD_))); (case aF => exact (fun _ _ => trivial)); (case aO => exact (by (with_reducible repeat (first | apply Kd.R_alloc | apply Kd.R_drewN | apply Kd.R_drew)); exact HO_9.out)); (case aS => exact (below_size (by repeat (with_reducible first | exact HB.out | apply bA_ | apply bN_ | apply bD_)))); (case aL => have := LMc17.out; omega); intro v393 w19 ho hb hg hat; rw [← Ny392.out] at ho; replace HB := aA_ (hb); have HO394 := aA_ (ho); clear HO_9; clear ho hb hg hat))
      go_roundg k1
      case measure => have := HK1.out; omega
      case rel => exact ⟨(y392), (wrap64 (x10_1)), (wrap64 (x11_1 + 1)), (by first | rfl | simp | simp [*]), (by first | rfl | simp | simp [*]), H', ⟨by have := HK1.out; omega⟩, ⟨by (with_reducible repeat (first | apply Kd.R_alloc | apply Kd.R_drewN | apply Kd.R_drew)); exact HO394.out⟩, ⟨by repeat (with_reducible first | exact HB.out | apply bA_ | apply bN_ | apply bD_)⟩⟩
    rw [if_pos c9] at H
    have c9b0 : decide (x10_1 < 0) = true := decide_eq_true c9
    clear c9
    by_cases c10 : x9_1.length < 3518437208883
    rotate_left
    ·rw [if_neg c10] at H
     exact absurd H (by simp)
   rotate_left
   focus
    rw [if_neg c8] at H
    have c8b0 : decide ((wrap64 (a3 - t384)) < 0) = false := decide_eq_false c8
    clear c8
    by_cases c20 : (wrap64 (a3 - t384)) > x10_1
    rotate_left
    ·rw [if_neg c20] at H
     have c20b0 : decide (x10_1 < (wrap64 (a3 - t384))) = false := decide_eq_false c20
     clear c20
     by_cases c24 : x11_1 = (wrap64 ((l2.length : Int) - 1))
     ·rw [if_pos c24] at H
      have c24b0 : (x11_1 == (wrap64 ((l2.length : Int) - 1))) = true := beq_iff_eq.mpr c24
      have c24b1 : (x11_1 != (wrap64 ((l2.length : Int) - 1))) = false := bne_eq_false_iff_eq.mpr c24
      clear c24
      by_cases c25 : x9_1.length < 3518437208883
      rotate_left
      ·rw [if_neg c25] at H
       exact absurd H (by simp)
      rw [if_pos c25] at H
      have LMc25 := aA_ c25
      clear c25
      obtain ⟨y398, hy398⟩ : ∃ y_ : List (S48), y_ = (x9_1 ++ [(⟨x10_1, t384, x10_1, wrap64 (t384 + x10_1), 0⟩ : S48)]) := ⟨_, rfl⟩
      replace H : (demurrageref20_With.l0 k1 a1 l2 a3 y398 (0) (wrap64 (x11_1 + 1))) = some r := by first | (rw [hy398]; with_reducible exact H) | (have H2_ := (Option.bind_some _ _).symm.trans H; rw [hy398]; with_reducible exact H2_) | (have H2_ := (Option.bind_some _ _).symm.trans H; with_reducible exact H2_) | with_reducible exact H | (rw [hy398]; exact H) | exact H
      have Ny398 := aA_ hy398
      clear hy398
      have H' := aA_ H
      clear H
      have p383 : 0 ≤ (x11_1 : Int) := of_decide_eq_true (by first | (with_reducible assumption) | assumption)
      have q383 : x11_1 < (l2.length : Int) := of_decide_eq_true (by first | (with_reducible assumption) | assumption)
      obtain ⟨ad383, e383, hx383_0, hx383_1⟩ := at_T56 HR2.out x11_1 p383 q383
      cases e383
      replace hx383_0 := cC_ HB hx383_0
      replace hx383_1 := cC_ HB hx383_1
      replace p383 := eq_true p383
      replace q383 := eq_true q383
      go_wp2_with (first | (refine goesL_ (some 29) rfl rfl Try.func26 (by kernel_rfl) rfl #[.int .i64 x10_1, .int .i64 a1, .agg #[.int .i64 ((rd_T56 l2 x11_1).f0), .int .i64 ((rd_T56 l2 x11_1).f1)]] rfl (by (try simp only [mT_, mC_, mN_]); first | done | rfl) ?_; (with_reducible refine (demurrageref18_Of.calls k1 x10_1 a1 ((rd_T56 l2 x11_1).f0) ((rd_T56 l2 x11_1).f1) t384 t385 _ A7.out).mono ?_); rintro e w26 ⟨rfl, hb⟩; refine ⟨_, rfl, ?_⟩; replace HO_9 := aA_ (Kd.R_below HO_9.out hb); replace HB := bB_ (by repeat (with_reducible first | exact HB.out | apply bA_ | apply bN_ | apply bD_)) hb; (try clear hb)) | ((with_reducible refine gate_builtin (b := .append) (xs := #[.tmp 48, .tmp 59]) rfl ?_); (try (refine gate_guard (by rfl) ?_; dsimp only)); at_builtin; refine Kd.R_append k48 (w0 := w) w.heap.size rfl (.tmp 48) (.tmp 59) 33 48 (.agg #[(.int .i64 0), (.int .i64 0), (.int .i64 0), (.int .i64 0), (.int .i64 0)]) 40 rfl Try.underlying33 info48 rfl (by decide) (by omega) u9 x9_1 (⟨x10_1, t384, x10_1, wrap64 (t384 + x10_1), 0⟩ : S48) [.int .i64 x10_1, .int .i64 t384, .int .i64 x10_1, .int .i64 (wrap64 (t384 + x10_1)), .int .i64 (0)] (fun _ => True) (fun _ => False) rfl rfl ?aP (fun _ hk => hk.elim) ?aF ?aO ?aB ?aS ?aL ?_; (case aP => exact k48_mkM _ _ _ (⟨x10_1, t384, x10_1, wrap64 (t384 + x10_1), 0⟩ : S48)); (case aB => exact (by repeat (with_reducible first | exact HB.out | apply bA_ | apply bN_ | apply bD_))); (case aF => exact (fun _ _ => trivial)); (case aO => exact (by (with_reducible repeat (first | apply Kd.R_alloc | apply Kd.R_drewN | apply Kd.R_drew)); exact HO_9.out)); (case aS => exact (below_size (by repeat (with_reducible first | exact HB.out | apply bA_ | apply bN_ | apply bD_)))); (case aL => have := LMc25.out; omega); intro v399 w27 ho hb hg hat; rw [← Ny398.out] at ho; replace HB := aA_ (hb); have HO400 := aA_ (ho); clear HO_9; clear ho hb hg hat))
      go_roundg k1
      case measure => have := HK1.out; omega
      case rel => exact ⟨(y398), (0), (wrap64 (x11_1 + 1)), (by first | rfl | simp | simp [*]), (by first | rfl | simp | simp [*]), H', ⟨by have := HK1.out; omega⟩, ⟨by (with_reducible repeat (first | apply Kd.R_alloc | apply Kd.R_drewN | apply Kd.R_drew)); exact HO400.out⟩, ⟨by repeat (with_reducible first | exact HB.out | apply bA_ | apply bN_ | apply bD_)⟩⟩
     ·rw [if_neg c24] at H
      have c24b0 : (x11_1 == (wrap64 ((l2.length : Int) - 1))) = false := beq_eq_false_iff_ne.mpr c24
      have c24b1 : (x11_1 != (wrap64 ((l2.length : Int) - 1))) = true := bne_iff_ne.mpr c24
      by_cases c28 : x9_1.length < 3518437208883
      rotate_left
      ·rw [if_neg c28] at H
       exact absurd H (by simp)
      rw [if_pos c28] at H
      have LMc28 := aA_ c28
      clear c28
      obtain ⟨y401, hy401⟩ : ∃ y_ : List (S48), y_ = (x9_1 ++ [(⟨x10_1, t384, wrap64 (a3 - t384), wrap64 (t384 + (wrap64 (a3 - t384))), wrap64 (x10_1 - (wrap64 (a3 - t384)))⟩ : S48)]) := ⟨_, rfl⟩
      replace H : (demurrageref20_With.l0 k1 a1 l2 a3 y401 (wrap64 (x10_1 - (wrap64 (a3 - t384)))) (wrap64 (x11_1 + 1))) = some r := by first | (rw [hy401]; with_reducible exact H) | (have H2_ := (Option.bind_some _ _).symm.trans H; rw [hy401]; with_reducible exact H2_) | (have H2_ := (Option.bind_some _ _).symm.trans H; with_reducible exact H2_) | with_reducible exact H | (rw [hy401]; exact H) | exact H
      have Ny401 := aA_ hy401
      clear hy401
      have H' := aA_ H
      clear H
      have p383 : 0 ≤ (x11_1 : Int) := of_decide_eq_true (by first | (with_reducible assumption) | assumption)
      have q383 : x11_1 < (l2.length : Int) := of_decide_eq_true (by first | (with_reducible assumption) | assumption)
      obtain ⟨ad383, e383, hx383_0, hx383_1⟩ := at_T56 HR2.out x11_1 p383 q383
      cases e383
      replace hx383_0 := cC_ HB hx383_0
      replace hx383_1 := cC_ HB hx383_1
      replace p383 := eq_true p383
      replace q383 := eq_true q383
      go_wp2_with (first | (refine goesL_ (some 29) rfl rfl Try.func26 (by kernel_rfl) rfl #[.int .i64 x10_1, .int .i64 a1, .agg #[.int .i64 ((rd_T56 l2 x11_1).f0), .int .i64 ((rd_T56 l2 x11_1).f1)]] rfl (by (try simp only [mT_, mC_, mN_]); first | done | rfl) ?_; (with_reducible refine (demurrageref18_Of.calls k1 x10_1 a1 ((rd_T56 l2 x11_1).f0) ((rd_T56 l2 x11_1).f1) t384 t385 _ A7.out).mono ?_); rintro e w29 ⟨rfl, hb⟩; refine ⟨_, rfl, ?_⟩; replace HO_9 := aA_ (Kd.R_below HO_9.out hb); replace HB := bB_ (by repeat (with_reducible first | exact HB.out | apply bA_ | apply bN_ | apply bD_)) hb; (try clear hb)) | ((with_reducible refine gate_builtin (b := .append) (xs := #[.tmp 48, .tmp 59]) rfl ?_); (try (refine gate_guard (by rfl) ?_; dsimp only)); at_builtin; refine Kd.R_append k48 (w0 := w) w.heap.size rfl (.tmp 48) (.tmp 59) 33 48 (.agg #[(.int .i64 0), (.int .i64 0), (.int .i64 0), (.int .i64 0), (.int .i64 0)]) 40 rfl Try.underlying33 info48 rfl (by decide) (by omega) u9 x9_1 (⟨x10_1, t384, wrap64 (a3 - t384), wrap64 (t384 + (wrap64 (a3 - t384))), wrap64 (x10_1 - (wrap64 (a3 - t384)))⟩ : S48) [.int .i64 x10_1, .int .i64 t384, .int .i64 (wrap64 (a3 - t384)), .int .i64 (wrap64 (t384 + (wrap64 (a3 - t384)))), .int .i64 (wrap64 (x10_1 - (wrap64 (a3 - t384))))] (fun _ => True) (fun _ => False) rfl rfl ?aP (fun _ hk => hk.elim) ?aF ?aO ?aB ?aS ?aL ?_; (case aP => exact k48_mkM _ _ _ (⟨x10_1, t384, wrap64 (a3 - t384), wrap64 (t384 + (wrap64 (a3 - t384))), wrap64 (x10_1 - (wrap64 (a3 - t384)))⟩ : S48)); (case aB => exact (by repeat (with_reducible first | exact HB.out | apply bA_ | apply bN_ | apply bD_))); (case aF => exact (fun _ _ => trivial)); (case aO => exact (by (with_reducible repeat (first | apply Kd.R_alloc | apply Kd.R_drewN | apply Kd.R_drew)); exact HO_9.out)); (case aS => exact (below_size (by repeat (with_reducible first | exact HB.out | apply bA_ | apply bN_ | apply bD_)))); (case aL => have := LMc28.out; omega); intro v402 w30 ho hb hg hat; rw [← Ny401.out] at ho; replace HB := aA_ (hb); have HO403 := aA_ (ho); clear HO_9; clear ho hb hg hat))
      go_roundg k1
      case measure => have := HK1.out; omega
      case rel => exact ⟨(y401), (wrap64 (x10_1 - (wrap64 (a3 - t384)))), (wrap64 (x11_1 + 1)), (by first | rfl | simp | simp [*]), (by first | rfl | simp | simp [*]), H', ⟨by have := HK1.out; omega⟩, ⟨by (with_reducible repeat (first | apply Kd.R_alloc | apply Kd.R_drewN | apply Kd.R_drew)); exact HO403.out⟩, ⟨by repeat (with_reducible first | exact HB.out | apply bA_ | apply bN_ | apply bD_)⟩⟩
    rw [if_pos c20] at H
    have c20b0 : decide (x10_1 < (wrap64 (a3 - t384))) = true := decide_eq_true c20
    clear c20
    by_cases c10 : x9_1.length < 3518437208883
    rotate_left
    ·rw [if_neg c10] at H
     exact absurd H (by simp)
   all_goals
    rw [if_pos c10] at H
    have LMc10 := aA_ c10
    clear c10
    obtain ⟨y386, hy386⟩ : ∃ y_ : List (S48), y_ = (x9_1 ++ [(⟨x10_1, t384, x10_1, wrap64 (t384 + x10_1), 0⟩ : S48)]) := ⟨_, rfl⟩
    replace H : (demurrageref20_With.l0 k1 a1 l2 a3 y386 (0) (wrap64 (x11_1 + 1))) = some r := by first | (rw [hy386]; with_reducible exact H) | (have H2_ := (Option.bind_some _ _).symm.trans H; rw [hy386]; with_reducible exact H2_) | (have H2_ := (Option.bind_some _ _).symm.trans H; with_reducible exact H2_) | with_reducible exact H | (rw [hy386]; exact H) | exact H
    have Ny386 := aA_ hy386
    clear hy386
    have H' := aA_ H
    clear H
    have p383 : 0 ≤ (x11_1 : Int) := of_decide_eq_true (by first | (with_reducible assumption) | assumption)
    have q383 : x11_1 < (l2.length : Int) := of_decide_eq_true (by first | (with_reducible assumption) | assumption)
    obtain ⟨ad383, e383, hx383_0, hx383_1⟩ := at_T56 HR2.out x11_1 p383 q383
    cases e383
    replace hx383_0 := cC_ HB hx383_0
    replace hx383_1 := cC_ HB hx383_1
    replace p383 := eq_true p383
    replace q383 := eq_true q383
    go_wp2_with (first | (refine goesL_ (some 29) rfl rfl Try.func26 (by kernel_rfl) rfl #[.int .i64 x10_1, .int .i64 a1, .agg #[.int .i64 ((rd_T56 l2 x11_1).f0), .int .i64 ((rd_T56 l2 x11_1).f1)]] rfl (by (try simp only [mT_, mC_, mN_]); first | done | rfl) ?_; (with_reducible refine (demurrageref18_Of.calls k1 x10_1 a1 ((rd_T56 l2 x11_1).f0) ((rd_T56 l2 x11_1).f1) t384 t385 _ A7.out).mono ?_); rintro e w11 ⟨rfl, hb⟩; refine ⟨_, rfl, ?_⟩; replace HO_9 := aA_ (Kd.R_below HO_9.out hb); replace HB := bB_ (by repeat (with_reducible first | exact HB.out | apply bA_ | apply bN_ | apply bD_)) hb; (try clear hb)) | ((with_reducible refine gate_builtin (b := .append) (xs := #[.tmp 48, .tmp 59]) rfl ?_); (try (refine gate_guard (by rfl) ?_; dsimp only)); at_builtin; refine Kd.R_append k48 (w0 := w) w.heap.size rfl (.tmp 48) (.tmp 59) 33 48 (.agg #[(.int .i64 0), (.int .i64 0), (.int .i64 0), (.int .i64 0), (.int .i64 0)]) 40 rfl Try.underlying33 info48 rfl (by decide) (by omega) u9 x9_1 (⟨x10_1, t384, x10_1, wrap64 (t384 + x10_1), 0⟩ : S48) [.int .i64 x10_1, .int .i64 t384, .int .i64 x10_1, .int .i64 (wrap64 (t384 + x10_1)), .int .i64 (0)] (fun _ => True) (fun _ => False) rfl rfl ?aP (fun _ hk => hk.elim) ?aF ?aO ?aB ?aS ?aL ?_; (case aP => exact k48_mkM _ _ _ (⟨x10_1, t384, x10_1, wrap64 (t384 + x10_1), 0⟩ : S48)); (case aB => exact (by repeat (with_reducible first | exact HB.out | apply bA_ | apply bN_ | apply bD_))); (case aF => exact (fun _ _ => trivial)); (case aO => exact (by (with_reducible repeat (first | apply Kd.R_alloc | apply Kd.R_drewN | apply Kd.R_drew)); exact HO_9.out)); (case aS => exact (below_size (by repeat (with_reducible first | exact HB.out | apply bA_ | apply bN_ | apply bD_)))); (case aL => have := LMc10.out; omega); intro v387 w12 ho hb hg hat; rw [← Ny386.out] at ho; replace HB := aA_ (hb); have HO388 := aA_ (ho); clear HO_9; clear ho hb hg hat))
    go_roundg k1
    case measure => have := HK1.out; omega
    case rel => exact ⟨(y386), (0), (wrap64 (x11_1 + 1)), (by first | rfl | simp | simp [*]), (by first | rfl | simp | simp [*]), H', ⟨by have := HK1.out; omega⟩, ⟨by (with_reducible repeat (first | apply Kd.R_alloc | apply Kd.R_drewN | apply Kd.R_drew)); exact HO388.out⟩, ⟨by repeat (with_reducible first | exact HB.out | apply bA_ | apply bN_ | apply bD_)⟩⟩

def demurrageref20_Ends.j0 : Nat → Int → Int → List (S56) → Int → Bool → Option (Bool × Int)
 | 0, _, _, _, _, _ => none
 | k + 1, x0, x1, x2, x3, x31 => if x31 = true then (some (false, 2)) else ((demurrageref20_Why.f k x0 x1 x2).bind fun t404 => (if t404 = 0 then ((demurrageref20_With.f k x0 x1 x2 x3).bind fun t405 => (if 0 ≤ (wrap64 ((t405.length : Int) - 1)) then (if (wrap64 ((t405.length : Int) - 1)) < (t405.length : Int) then (some (decide (((rd_T48 t405 (wrap64 ((t405.length : Int) - 1))).f3) ≤ x3), 0)) else (none)) else (none))) else (some (false, t404))))
def demurrageref20_Ends.f (k : Nat) (a0 : Int) (a1 : Int) (l2 : List (S56)) (a3 : Int) : Option (Bool × Int) := if (l2.length : Int) ≥ 1 then (if (l2.length : Int) ≤ 1200 then (if a0 ≥ 0 then (if a0 ≤ 1000000000000000 then (demurrageref20_Ends.j0 k a0 a1 l2 a3 (decide (a3 < 0))) else (demurrageref20_Ends.j0 k a0 a1 l2 a3 false)) else (demurrageref20_Ends.j0 k a0 a1 l2 a3 false)) else (demurrageref20_Ends.j0 k a0 a1 l2 a3 false)) else (demurrageref20_Ends.j0 k a0 a1 l2 a3 false)
set_option maxHeartbeats 8000000 in
set_option maxRecDepth 100000 in
theorem demurrageref20_Ends.calls (k : Nat) (a0 : Int) (a1 : Int) (A2 : Option Addr) (c2 : Nat) (l2 : List (S56)) (a3 : Int) (r1 : Bool) (r2 : Int) (w : World) (hr2 : Kd.C k56 w A2 l2.length l2) (hc2 : l2.length ≤ c2) (h : demurrageref20_Ends.f k a0 a1 l2 a3 = some (r1, r2)) :
  Calls Try.prog 17 #[.int .i64 a0, .int .i64 a1, .slice A2 l2.length c2, .int .i64 a3] w fun e w' => e = .returned (.tuple #[.bool r1, .int .i64 r2]) ∧ Below w.heap.size w w' := by
 have HR2 := aA_ hr2
 have HC2 := aA_ hc2
 clear hr2 hc2
 have HB := aA_ (Below.refl w.heap.size w)
 have H : (if (l2.length : Int) ≥ 1 then (if (l2.length : Int) ≤ 1200 then (if a0 ≥ 0 then (if a0 ≤ 1000000000000000 then (demurrageref20_Ends.j0 k a0 a1 l2 a3 (decide (a3 < 0))) else (demurrageref20_Ends.j0 k a0 a1 l2 a3 false)) else (demurrageref20_Ends.j0 k a0 a1 l2 a3 false)) else (demurrageref20_Ends.j0 k a0 a1 l2 a3 false)) else (demurrageref20_Ends.j0 k a0 a1 l2 a3 false)) = some (r1, r2) := h
 clear h
 have HC5 := aA_ H
 clear H
 go_enter Try.func17, Try.ntmps17
 go_upto_region 1 with (fail)
 go_cut [31] (fun v31 wc => ∃ (kq : Nat) (x31_4 : Bool), v31 = .bool x31_4 ∧ Aside0 (demurrageref20_Ends.j0 kq a0 a1 l2 a3 x31_4 = some (r1, r2)) ∧ Aside0 (kq ≤ k) ∧ Aside0 (Below w.heap.size w wc))
 case first =>
  have H := HC5.out
  clear HC5
  by_cases c6 : (l2.length : Int) ≥ 1
  ·rw [if_pos c6] at H
   have c6b0 : decide (1 ≤ (l2.length : Int)) = true := decide_eq_true c6
   have c6b1 : decide (1 ≤ l2.length) = true := decide_eq_true (by omega)
   clear c6
   (first | rw [c6b0] | (simp only [i64_w, i32_w]; rw [c6b0]) | rw [c6b1] | skip)
   by_cases c7 : (l2.length : Int) ≤ 1200
   ·rw [if_pos c7] at H
    have c7b0 : decide ((l2.length : Int) ≤ 1200) = true := decide_eq_true c7
    have c7b1 : decide (l2.length ≤ 1200) = true := decide_eq_true (by omega)
    clear c7
    by_cases c8 : a0 ≥ 0
    ·rw [if_pos c8] at H
     have c8b0 : decide (0 ≤ a0) = true := decide_eq_true c8
     clear c8
     by_cases c9 : a0 ≤ 1000000000000000
     ·rw [if_pos c9] at H
      have c9b0 : decide (a0 ≤ 1000000000000000) = true := decide_eq_true c9
      clear c9
      have H' := aA_ H
      clear H
      go_wp2
      go_meet
      case rel => exact ⟨_, (decide (a3 < 0)), (by first | rfl | simp | simp [*]), H', ⟨by first | omega | exact Nat.le_refl _⟩, ⟨by repeat (with_reducible first | exact HB.out | apply bA_ | apply bN_ | apply bD_)⟩⟩
     ·rw [if_neg c9] at H
      have c9b0 : decide (a0 ≤ 1000000000000000) = false := decide_eq_false c9
      clear c9
      have H' := aA_ H
      clear H
      go_wp2
      go_meet
      case rel => exact ⟨_, _, (by first | rfl | simp | simp [*]), H', ⟨by first | omega | exact Nat.le_refl _⟩, ⟨by repeat (with_reducible first | exact HB.out | apply bA_ | apply bN_ | apply bD_)⟩⟩
    ·rw [if_neg c8] at H
     have c8b0 : decide (0 ≤ a0) = false := decide_eq_false c8
     clear c8
     have H' := aA_ H
     clear H
     go_wp2
     go_meet
     case rel => exact ⟨_, _, (by first | rfl | simp | simp [*]), H', ⟨by first | omega | exact Nat.le_refl _⟩, ⟨by repeat (with_reducible first | exact HB.out | apply bA_ | apply bN_ | apply bD_)⟩⟩
   ·rw [if_neg c7] at H
    have c7b0 : decide ((l2.length : Int) ≤ 1200) = false := decide_eq_false c7
    have c7b1 : decide (l2.length ≤ 1200) = false := decide_eq_false (by omega)
    clear c7
    have H' := aA_ H
    clear H
    go_wp2
    go_meet
    case rel => exact ⟨_, _, (by first | rfl | simp | simp [*]), H', ⟨by first | omega | exact Nat.le_refl _⟩, ⟨by repeat (with_reducible first | exact HB.out | apply bA_ | apply bN_ | apply bD_)⟩⟩
  ·rw [if_neg c6] at H
   have c6b0 : decide (1 ≤ (l2.length : Int)) = false := decide_eq_false c6
   have c6b1 : decide (1 ≤ l2.length) = false := decide_eq_false (by omega)
   clear c6
   (first | rw [c6b0] | (simp only [i64_w, i32_w]; rw [c6b0]) | rw [c6b1] | skip)
   have H' := aA_ H
   clear H
   go_wp2
   go_meet
   case rel => exact ⟨_, _, (by first | rfl | simp | simp [*]), H', ⟨by first | omega | exact Nat.le_refl _⟩, ⟨by repeat (with_reducible first | exact HB.out | apply bA_ | apply bN_ | apply bD_)⟩⟩
 case rest =>
  clear HC5
  try clear c1
  try clear c2
  try clear p2
  try clear c6
  try clear c6b0
  try clear c6b1
  try clear c7
  try clear c7b0
  try clear c7b1
  try clear c8
  try clear c8b0
  try clear c9
  try clear c9b0
  obtain ⟨kq, x31_4, rfl, HA, HJ4, HB⟩ := hcut
  cases kq with
  | zero => exact absurd HA.out (by simp [demurrageref20_Ends.j0])
  | succ kj4 =>
   have H := HA.out
   clear HA
   simp only [demurrageref20_Ends.j0] at H
   by_cases c10 : x31_4 = true
   ·subst c10
    rw [if_pos rfl] at H
    simp only [Option.some.injEq, Prod.mk.injEq] at H
    obtain ⟨rfl, rfl⟩ := H
    go_wp2
    go_ret2
    exact ⟨by rfl, by repeat (with_reducible first | exact HB.out | apply bA_ | apply bN_ | apply bD_)⟩
   ·replace c10 := Bool.eq_false_iff.mpr c10
    subst c10
    rw [if_neg (show ¬ (false = true) by decide)] at H
    replace H := bI_ H
    obtain ⟨t404, A110, H⟩ := H
    (try dsimp only at H)
    have A11 := aA_ A110
    clear A110
    by_cases c12 : t404 = 0
    ·rw [if_pos c12] at H
     have c12b0 : (t404 == 0) = true := beq_iff_eq.mpr c12
     have c12b1 : (t404 != 0) = false := bne_eq_false_iff_eq.mpr c12
     clear c12
     replace H := bI_ H
     obtain ⟨t405, A130, H⟩ := H
     (try dsimp only at H)
     have A13 := aA_ A130
     clear A130
     obtain ⟨ji14, hji14⟩ : ∃ j_ : Int, (wrap64 ((t405.length : Int) - 1)) = j_ := ⟨_, rfl⟩
     replace H : (if 0 ≤ (ji14) then (if (ji14) < (t405.length : Int) then (some (decide (((rd_T48 t405 (ji14)).f3) ≤ a3), 0)) else (none)) else (none)) = some (r1, r2) := by first | (rw [hji14] at H; exact H) | (simp only [hji14] at H ⊢; exact H)
     (try rw [hji14] at A11)
     (try rw [hji14] at A13)
     have hji14w : (IntKind.i64.wrap ((t405.length : Int) - 1)) = ji14 := (i64_w _).trans hji14
     by_cases c15 : 0 ≤ (ji14)
     ·rw [if_pos c15] at H
      have c15b0 : decide (0 ≤ (ji14)) = true := decide_eq_true c15
      clear c15
      by_cases c16 : (ji14) < (t405.length : Int)
      ·rw [if_pos c16] at H
       have c16b0 : decide ((ji14) < (t405.length : Int)) = true := decide_eq_true c16
       clear c16
       simp only [Option.some.injEq, Prod.mk.injEq] at H
       obtain ⟨rfl, rfl⟩ := H
       go_wp2_with (first | (refine goesL_ (some 35) rfl rfl Try.func20 (by kernel_rfl) rfl #[.int .i64 a0, .int .i64 a1, .slice A2 l2.length c2] rfl (by (try simp only [mT_, mC_, mN_]); first | done | rfl) ?_; (with_reducible refine (demurrageref20_Why.calls kj4 a0 a1 _ _ l2 t404 _ ?side1 ?side2 A11.out).mono ?_); (case side1 => repeat (first | exact (Kd.C_below HR2.out HB.out) | (with_reducible first | refine Kd.C_alloc ?_ _ | refine Kd.C_drewN ?_ _ | refine Kd.C_drew ?_))); (case side2 => exact HC2.out); rintro e w17 ⟨rfl, hb⟩; refine ⟨_, rfl, ?_⟩; replace HB := bB_ (by repeat (with_reducible first | exact HB.out | apply bA_ | apply bN_ | apply bD_)) hb; (try clear hb)) | (refine goesL_ (some 43) rfl rfl Try.func23 (by kernel_rfl) rfl #[.int .i64 a0, .int .i64 a1, .slice A2 l2.length c2, .int .i64 a3] rfl (by (try simp only [mT_, mC_, mN_]); first | done | rfl) ?_; (with_reducible refine (demurrageref20_With.calls kj4 a0 a1 _ _ l2 a3 t405 _ ?side1 ?side2 A13.out).mono ?_); (case side1 => repeat (first | exact (Kd.C_below HR2.out HB.out) | (with_reducible first | refine Kd.C_alloc ?_ _ | refine Kd.C_drewN ?_ _ | refine Kd.C_drew ?_))); (case side2 => exact HC2.out); rintro e w18 ⟨v406, rfl, ho0, hb⟩; refine ⟨_, rfl, ?_⟩; have HO407 := aA_ (Kd.R_lower ho0 (below_size (by repeat (with_reducible first | exact HB.out | apply bA_ | apply bN_ | apply bD_)))); replace HB := bB_ (by repeat (with_reducible first | exact HB.out | apply bA_ | apply bN_ | apply bD_)) hb; (try clear hb); (try clear ho0); obtain ⟨Ao19, co19, eo19⟩ := Kd.R_slice HO407.out; subst eo19; have p408 : 0 ≤ ((ji14) : Int) := of_decide_eq_true (by first | (with_reducible assumption) | assumption); have q408 : (ji14) < (t405.length : Int) := of_decide_eq_true (by first | (with_reducible assumption) | assumption); obtain ⟨ad408, e408, hx408_0, hx408_1, hx408_2, hx408_3, hx408_4⟩ := at_T48 (Kd.R_reads' HO407.out).2.2 (ji14) p408 q408; cases e408; replace p408 := eq_true p408; replace q408 := eq_true q408))
       go_ret2
       exact ⟨by first | rfl | (simp [errW_none, errW_some] <;> rfl) | (simp only [← hji14]; first | rfl | (simp [errW_none, errW_some] <;> rfl)) | (simp [*, errW_none, errW_some] <;> rfl), by repeat (with_reducible first | exact HB.out | apply bA_ | apply bN_ | apply bD_)⟩
      ·rw [if_neg c16] at H
       exact absurd H (by simp)
     ·rw [if_neg c15] at H
      exact absurd H (by simp)
    ·rw [if_neg c12] at H
     have c12b0 : (t404 == 0) = false := beq_eq_false_iff_ne.mpr c12
     have c12b1 : (t404 != 0) = true := bne_iff_ne.mpr c12
     simp only [Option.some.injEq, Prod.mk.injEq] at H
     obtain ⟨rfl, rfl⟩ := H
     go_wp2_with (first | (refine goesL_ (some 35) rfl rfl Try.func20 (by kernel_rfl) rfl #[.int .i64 a0, .int .i64 a1, .slice A2 l2.length c2] rfl (by (try simp only [mT_, mC_, mN_]); first | done | rfl) ?_; (with_reducible refine (demurrageref20_Why.calls kj4 a0 a1 _ _ l2 t404 _ ?side1 ?side2 A11.out).mono ?_); (case side1 => repeat (first | exact (Kd.C_below HR2.out HB.out) | (with_reducible first | refine Kd.C_alloc ?_ _ | refine Kd.C_drewN ?_ _ | refine Kd.C_drew ?_))); (case side2 => exact HC2.out); rintro e w20 ⟨rfl, hb⟩; refine ⟨_, rfl, ?_⟩; replace HB := bB_ (by repeat (with_reducible first | exact HB.out | apply bA_ | apply bN_ | apply bD_)) hb; (try clear hb)))
     go_ret2
     exact ⟨by rfl, by repeat (with_reducible first | exact HB.out | apply bA_ | apply bN_ | apply bD_)⟩

end Go.Proofs.Yteikafepdkijdaa.X
