-- cut by prune.py, a program of this session
import Derived.Test.YteikafepdkijdaaPLevelTableX0
import Derived.Test.YteikafepdkijdaaPLevelTableXRefRight
namespace Go.Proofs.Yteikafepdkijdaa.X
open Go.RowKit Go.Proofs.YteikafepdkijdaaW.PrintWords Go.Proofs.YteikafepdkijdaaW.PrintLast Go.Proofs.YteikafepdkijdaaW.PrintMore
attribute [local go_sem] max2_int min2_int max_two min_two
set_option linter.unusedVariables false
set_option linter.unusedSimpArgs false

def demurrageref18_Usual.l0 : Nat → List (S56) → Int → Option (Bool)
 | 0, _, _ => none
 | k + 1, x0, x3 => if x3 < (x0.length : Int) then (if 0 ≤ x3 then ((demurrageref02_Right.f k ((rd_T56 x0 x3).f0) ((rd_T56 x0 x3).f1)).bind fun t434 => (if t434 = true then (if ((rd_T56 x0 x3).f0) > 10000000000000 then (some false) else (if ((rd_T56 x0 x3).f1) > 10000000000000 then (some false) else (if ((rd_T56 x0 x3).f0) > (wrap64 (100 * ((rd_T56 x0 x3).f1))) then (some false) else (demurrageref18_Usual.l0 k x0 (wrap64 (x3 + 1)))))) else (some false))) else (none)) else (some true)
def demurrageref18_Usual.f (k : Nat) (l0 : List (S56)) : Option (Bool) := demurrageref18_Usual.l0 k l0 0
set_option maxHeartbeats 8000000 in
set_option maxRecDepth 100000 in
theorem demurrageref18_Usual.calls (k : Nat) (A0 : Option Addr) (c0 : Nat) (l0 : List (S56)) (r : Bool) (w : World) (hr0 : Kd.C k56 w A0 l0.length l0) (hc0 : l0.length ≤ c0) (h : demurrageref18_Usual.f k l0 = some r) :
  Calls Try.prog 21 #[.slice A0 l0.length c0] w fun e w' => e = .returned (.bool r) ∧ Below w.heap.size w w' := by
 have hu56 := Try.underlying56
 have HR0 := aA_ hr0
 have HC0 := aA_ hc0
 clear hr0 hc0
 have HB := aA_ (Below.refl w.heap.size w)
 have H : (demurrageref18_Usual.l0 k l0 0) = some r := h
 clear h
 have H' := aA_ H
 clear H
 go_enter Try.func21, Try.ntmps21
 go_wp2
 repeat (go_quiet (fail); try go_wp2)
 (try simp only [Act.put, sT_, sZ_, sS_])
 go_loopg [3] k (fun kq v3 w' => ∃ (x3_1 : Int), v3 = .int .i64 x3_1 ∧ Aside0 (demurrageref18_Usual.l0 kq l0 x3_1 = some r) ∧ Aside0 (kq ≤ k) ∧ Aside0 (Below w.heap.size w w'))
 case atStart => exact ⟨(0), (by first | rfl | simp | simp [*]), H', ⟨Nat.le_refl _⟩, ⟨by repeat (with_reducible first | exact HB.out | apply bA_ | apply bN_ | apply bD_)⟩⟩
 case round =>
  clear H'
  obtain ⟨x3_1, rfl, HA, HK1, HB⟩ := hrel
  cases gk with
  | zero => exact absurd HA.out (by simp [demurrageref18_Usual.l0])
  | succ k1 =>
   have H := HA.out
   clear HA
   simp only [demurrageref18_Usual.l0] at H
   by_cases c2 : x3_1 < (l0.length : Int)
   ·rw [if_pos c2] at H
    have c2b0 : decide (x3_1 < (l0.length : Int)) = true := decide_eq_true c2
    clear c2
    by_cases c3 : 0 ≤ x3_1
    ·rw [if_pos c3] at H
     have c3b0 : decide (0 ≤ x3_1) = true := decide_eq_true c3
     clear c3
     replace H := bI_ H
     obtain ⟨t434, A40, H⟩ := H
     (try dsimp only at H)
     have A4 := aA_ A40
     clear A40
     by_cases c5 : t434 = true
     ·subst c5
      rw [if_pos rfl] at H
      by_cases c6 : ((rd_T56 l0 x3_1).f0) > 10000000000000
      ·rw [if_pos c6] at H
       have c6b0 : decide (10000000000000 < ((rd_T56 l0 x3_1).f0)) = true := decide_eq_true c6
       clear c6
       obtain rfl := Option.some.inj H
       have p433 : 0 ≤ (x3_1 : Int) := of_decide_eq_true (by first | (with_reducible assumption) | assumption)
       have q433 : x3_1 < (l0.length : Int) := of_decide_eq_true (by first | (with_reducible assumption) | assumption)
       obtain ⟨ad433, e433, hx433_0, hx433_1⟩ := at_T56 HR0.out x3_1 p433 q433
       cases e433
       replace hx433_0 := cC_ HB hx433_0
       replace hx433_1 := cC_ HB hx433_1
       replace p433 := eq_true p433
       replace q433 := eq_true q433
       go_wp2_with (first | (go_at_call 40; (with_reducible refine (demurrageref02_Right.calls k1 ((rd_T56 l0 x3_1).f0) ((rd_T56 l0 x3_1).f1) true _ A4.out).mono ?_); rintro e w7 ⟨rfl, hb⟩; replace HB := bB_ (by repeat (with_reducible first | exact HB.out | apply bA_ | apply bN_ | apply bD_)) hb; (try clear hb); have p435 : 0 ≤ (x3_1 : Int) := of_decide_eq_true (by first | (with_reducible assumption) | assumption); have q435 : x3_1 < (l0.length : Int) := of_decide_eq_true (by first | (with_reducible assumption) | assumption); obtain ⟨ad435, e435, hx435_0, hx435_1⟩ := at_T56 HR0.out x3_1 p435 q435; obtain rfl : ad433 = ad435 := (by injection e435); replace hx435_0 := cC_ HB hx435_0; replace hx435_1 := cC_ HB hx435_1; replace p435 := eq_true p435; replace q435 := eq_true q435))
       repeat (go_quiet (first | (go_at_call 40; (with_reducible refine (demurrageref02_Right.calls k1 ((rd_T56 l0 x3_1).f0) ((rd_T56 l0 x3_1).f1) true _ A4.out).mono ?_); rintro e w7 ⟨rfl, hb⟩; replace HB := bB_ (by repeat (with_reducible first | exact HB.out | apply bA_ | apply bN_ | apply bD_)) hb; (try clear hb); have p435 : 0 ≤ (x3_1 : Int) := of_decide_eq_true (by first | (with_reducible assumption) | assumption); have q435 : x3_1 < (l0.length : Int) := of_decide_eq_true (by first | (with_reducible assumption) | assumption); obtain ⟨ad435, e435, hx435_0, hx435_1⟩ := at_T56 HR0.out x3_1 p435 q435; obtain rfl : ad433 = ad435 := (by injection e435); replace hx435_0 := cC_ HB hx435_0; replace hx435_1 := cC_ HB hx435_1; replace p435 := eq_true p435; replace q435 := eq_true q435)); try go_wp2_with (first | (go_at_call 40; (with_reducible refine (demurrageref02_Right.calls k1 ((rd_T56 l0 x3_1).f0) ((rd_T56 l0 x3_1).f1) true _ A4.out).mono ?_); rintro e w7 ⟨rfl, hb⟩; replace HB := bB_ (by repeat (with_reducible first | exact HB.out | apply bA_ | apply bN_ | apply bD_)) hb; (try clear hb); have p435 : 0 ≤ (x3_1 : Int) := of_decide_eq_true (by first | (with_reducible assumption) | assumption); have q435 : x3_1 < (l0.length : Int) := of_decide_eq_true (by first | (with_reducible assumption) | assumption); obtain ⟨ad435, e435, hx435_0, hx435_1⟩ := at_T56 HR0.out x3_1 p435 q435; obtain rfl : ad433 = ad435 := (by injection e435); replace hx435_0 := cC_ HB hx435_0; replace hx435_1 := cC_ HB hx435_1; replace p435 := eq_true p435; replace q435 := eq_true q435)))
       go_ret
       exact ⟨by rfl, by repeat (with_reducible first | exact HB.out | apply bA_ | apply bN_ | apply bD_)⟩
      ·rw [if_neg c6] at H
       have c6b0 : decide (10000000000000 < ((rd_T56 l0 x3_1).f0)) = false := decide_eq_false c6
       clear c6
       by_cases c8 : ((rd_T56 l0 x3_1).f1) > 10000000000000
       ·rw [if_pos c8] at H
        have c8b0 : decide (10000000000000 < ((rd_T56 l0 x3_1).f1)) = true := decide_eq_true c8
        clear c8
        obtain rfl := Option.some.inj H
        have p433 : 0 ≤ (x3_1 : Int) := of_decide_eq_true (by first | (with_reducible assumption) | assumption)
        have q433 : x3_1 < (l0.length : Int) := of_decide_eq_true (by first | (with_reducible assumption) | assumption)
        obtain ⟨ad433, e433, hx433_0, hx433_1⟩ := at_T56 HR0.out x3_1 p433 q433
        cases e433
        replace hx433_0 := cC_ HB hx433_0
        replace hx433_1 := cC_ HB hx433_1
        replace p433 := eq_true p433
        replace q433 := eq_true q433
        go_wp2_with (first | (go_at_call 40; (with_reducible refine (demurrageref02_Right.calls k1 ((rd_T56 l0 x3_1).f0) ((rd_T56 l0 x3_1).f1) true _ A4.out).mono ?_); rintro e w9 ⟨rfl, hb⟩; replace HB := bB_ (by repeat (with_reducible first | exact HB.out | apply bA_ | apply bN_ | apply bD_)) hb; (try clear hb); have p435 : 0 ≤ (x3_1 : Int) := of_decide_eq_true (by first | (with_reducible assumption) | assumption); have q435 : x3_1 < (l0.length : Int) := of_decide_eq_true (by first | (with_reducible assumption) | assumption); obtain ⟨ad435, e435, hx435_0, hx435_1⟩ := at_T56 HR0.out x3_1 p435 q435; obtain rfl : ad433 = ad435 := (by injection e435); replace hx435_0 := cC_ HB hx435_0; replace hx435_1 := cC_ HB hx435_1; replace p435 := eq_true p435; replace q435 := eq_true q435; have p436 : 0 ≤ (x3_1 : Int) := of_decide_eq_true (by first | (with_reducible assumption) | assumption); have q436 : x3_1 < (l0.length : Int) := of_decide_eq_true (by first | (with_reducible assumption) | assumption); obtain ⟨ad436, e436, hx436_0, hx436_1⟩ := at_T56 HR0.out x3_1 p436 q436; obtain rfl : ad433 = ad436 := (by injection e436); replace hx436_0 := cC_ HB hx436_0; replace hx436_1 := cC_ HB hx436_1; replace p436 := eq_true p436; replace q436 := eq_true q436))
        repeat (go_quiet (first | (go_at_call 40; (with_reducible refine (demurrageref02_Right.calls k1 ((rd_T56 l0 x3_1).f0) ((rd_T56 l0 x3_1).f1) true _ A4.out).mono ?_); rintro e w9 ⟨rfl, hb⟩; replace HB := bB_ (by repeat (with_reducible first | exact HB.out | apply bA_ | apply bN_ | apply bD_)) hb; (try clear hb); have p435 : 0 ≤ (x3_1 : Int) := of_decide_eq_true (by first | (with_reducible assumption) | assumption); have q435 : x3_1 < (l0.length : Int) := of_decide_eq_true (by first | (with_reducible assumption) | assumption); obtain ⟨ad435, e435, hx435_0, hx435_1⟩ := at_T56 HR0.out x3_1 p435 q435; obtain rfl : ad433 = ad435 := (by injection e435); replace hx435_0 := cC_ HB hx435_0; replace hx435_1 := cC_ HB hx435_1; replace p435 := eq_true p435; replace q435 := eq_true q435; have p436 : 0 ≤ (x3_1 : Int) := of_decide_eq_true (by first | (with_reducible assumption) | assumption); have q436 : x3_1 < (l0.length : Int) := of_decide_eq_true (by first | (with_reducible assumption) | assumption); obtain ⟨ad436, e436, hx436_0, hx436_1⟩ := at_T56 HR0.out x3_1 p436 q436; obtain rfl : ad433 = ad436 := (by injection e436); replace hx436_0 := cC_ HB hx436_0; replace hx436_1 := cC_ HB hx436_1; replace p436 := eq_true p436; replace q436 := eq_true q436)); try go_wp2_with (first | (go_at_call 40; (with_reducible refine (demurrageref02_Right.calls k1 ((rd_T56 l0 x3_1).f0) ((rd_T56 l0 x3_1).f1) true _ A4.out).mono ?_); rintro e w9 ⟨rfl, hb⟩; replace HB := bB_ (by repeat (with_reducible first | exact HB.out | apply bA_ | apply bN_ | apply bD_)) hb; (try clear hb); have p435 : 0 ≤ (x3_1 : Int) := of_decide_eq_true (by first | (with_reducible assumption) | assumption); have q435 : x3_1 < (l0.length : Int) := of_decide_eq_true (by first | (with_reducible assumption) | assumption); obtain ⟨ad435, e435, hx435_0, hx435_1⟩ := at_T56 HR0.out x3_1 p435 q435; obtain rfl : ad433 = ad435 := (by injection e435); replace hx435_0 := cC_ HB hx435_0; replace hx435_1 := cC_ HB hx435_1; replace p435 := eq_true p435; replace q435 := eq_true q435; have p436 : 0 ≤ (x3_1 : Int) := of_decide_eq_true (by first | (with_reducible assumption) | assumption); have q436 : x3_1 < (l0.length : Int) := of_decide_eq_true (by first | (with_reducible assumption) | assumption); obtain ⟨ad436, e436, hx436_0, hx436_1⟩ := at_T56 HR0.out x3_1 p436 q436; obtain rfl : ad433 = ad436 := (by injection e436); replace hx436_0 := cC_ HB hx436_0; replace hx436_1 := cC_ HB hx436_1; replace p436 := eq_true p436; replace q436 := eq_true q436)))
        go_ret
        exact ⟨by rfl, by repeat (with_reducible first | exact HB.out | apply bA_ | apply bN_ | apply bD_)⟩
       ·rw [if_neg c8] at H
        have c8b0 : decide (10000000000000 < ((rd_T56 l0 x3_1).f1)) = false := decide_eq_false c8
        clear c8
        by_cases c10 : ((rd_T56 l0 x3_1).f0) > (wrap64 (100 * ((rd_T56 l0 x3_1).f1)))
        focus
         rw [if_pos c10] at H
         have c10b0 : decide ((wrap64 (100 * ((rd_T56 l0 x3_1).f1))) < ((rd_T56 l0 x3_1).f0)) = true := decide_eq_true c10
         clear c10
         obtain rfl := Option.some.inj H
        rotate_left
        focus
         rw [if_neg c10] at H
         have c10b0 : decide ((wrap64 (100 * ((rd_T56 l0 x3_1).f1))) < ((rd_T56 l0 x3_1).f0)) = false := decide_eq_false c10
         clear c10
         have H' := aA_ H
         clear H
        all_goals
         have p433 : 0 ≤ (x3_1 : Int) := of_decide_eq_true (by first | (with_reducible assumption) | assumption)
         have q433 : x3_1 < (l0.length : Int) := of_decide_eq_true (by first | (with_reducible assumption) | assumption)
         obtain ⟨ad433, e433, hx433_0, hx433_1⟩ := at_T56 HR0.out x3_1 p433 q433
         cases e433
         replace hx433_0 := cC_ HB hx433_0
         replace hx433_1 := cC_ HB hx433_1
         replace p433 := eq_true p433
         replace q433 := eq_true q433
         go_wp2_with (first | (go_at_call 40; (with_reducible refine (demurrageref02_Right.calls k1 ((rd_T56 l0 x3_1).f0) ((rd_T56 l0 x3_1).f1) true _ A4.out).mono ?_); rintro e w11 ⟨rfl, hb⟩; replace HB := bB_ (by repeat (with_reducible first | exact HB.out | apply bA_ | apply bN_ | apply bD_)) hb; (try clear hb); have p435 : 0 ≤ (x3_1 : Int) := of_decide_eq_true (by first | (with_reducible assumption) | assumption); have q435 : x3_1 < (l0.length : Int) := of_decide_eq_true (by first | (with_reducible assumption) | assumption); obtain ⟨ad435, e435, hx435_0, hx435_1⟩ := at_T56 HR0.out x3_1 p435 q435; obtain rfl : ad433 = ad435 := (by injection e435); replace hx435_0 := cC_ HB hx435_0; replace hx435_1 := cC_ HB hx435_1; replace p435 := eq_true p435; replace q435 := eq_true q435; have p436 : 0 ≤ (x3_1 : Int) := of_decide_eq_true (by first | (with_reducible assumption) | assumption); have q436 : x3_1 < (l0.length : Int) := of_decide_eq_true (by first | (with_reducible assumption) | assumption); obtain ⟨ad436, e436, hx436_0, hx436_1⟩ := at_T56 HR0.out x3_1 p436 q436; obtain rfl : ad433 = ad436 := (by injection e436); replace hx436_0 := cC_ HB hx436_0; replace hx436_1 := cC_ HB hx436_1; replace p436 := eq_true p436; replace q436 := eq_true q436; have p437 : 0 ≤ (x3_1 : Int) := of_decide_eq_true (by first | (with_reducible assumption) | assumption); have q437 : x3_1 < (l0.length : Int) := of_decide_eq_true (by first | (with_reducible assumption) | assumption); obtain ⟨ad437, e437, hx437_0, hx437_1⟩ := at_T56 HR0.out x3_1 p437 q437; obtain rfl : ad433 = ad437 := (by injection e437); replace hx437_0 := cC_ HB hx437_0; replace hx437_1 := cC_ HB hx437_1; replace p437 := eq_true p437; replace q437 := eq_true q437; have p438 : 0 ≤ (x3_1 : Int) := of_decide_eq_true (by first | (with_reducible assumption) | assumption); have q438 : x3_1 < (l0.length : Int) := of_decide_eq_true (by first | (with_reducible assumption) | assumption); obtain ⟨ad438, e438, hx438_0, hx438_1⟩ := at_T56 HR0.out x3_1 p438 q438; obtain rfl : ad433 = ad438 := (by injection e438); replace hx438_0 := cC_ HB hx438_0; replace hx438_1 := cC_ HB hx438_1; replace p438 := eq_true p438; replace q438 := eq_true q438))
        ·repeat (go_quiet (first | (go_at_call 40; (with_reducible refine (demurrageref02_Right.calls k1 ((rd_T56 l0 x3_1).f0) ((rd_T56 l0 x3_1).f1) true _ A4.out).mono ?_); rintro e w11 ⟨rfl, hb⟩; replace HB := bB_ (by repeat (with_reducible first | exact HB.out | apply bA_ | apply bN_ | apply bD_)) hb; (try clear hb); have p435 : 0 ≤ (x3_1 : Int) := of_decide_eq_true (by first | (with_reducible assumption) | assumption); have q435 : x3_1 < (l0.length : Int) := of_decide_eq_true (by first | (with_reducible assumption) | assumption); obtain ⟨ad435, e435, hx435_0, hx435_1⟩ := at_T56 HR0.out x3_1 p435 q435; obtain rfl : ad433 = ad435 := (by injection e435); replace hx435_0 := cC_ HB hx435_0; replace hx435_1 := cC_ HB hx435_1; replace p435 := eq_true p435; replace q435 := eq_true q435; have p436 : 0 ≤ (x3_1 : Int) := of_decide_eq_true (by first | (with_reducible assumption) | assumption); have q436 : x3_1 < (l0.length : Int) := of_decide_eq_true (by first | (with_reducible assumption) | assumption); obtain ⟨ad436, e436, hx436_0, hx436_1⟩ := at_T56 HR0.out x3_1 p436 q436; obtain rfl : ad433 = ad436 := (by injection e436); replace hx436_0 := cC_ HB hx436_0; replace hx436_1 := cC_ HB hx436_1; replace p436 := eq_true p436; replace q436 := eq_true q436; have p437 : 0 ≤ (x3_1 : Int) := of_decide_eq_true (by first | (with_reducible assumption) | assumption); have q437 : x3_1 < (l0.length : Int) := of_decide_eq_true (by first | (with_reducible assumption) | assumption); obtain ⟨ad437, e437, hx437_0, hx437_1⟩ := at_T56 HR0.out x3_1 p437 q437; obtain rfl : ad433 = ad437 := (by injection e437); replace hx437_0 := cC_ HB hx437_0; replace hx437_1 := cC_ HB hx437_1; replace p437 := eq_true p437; replace q437 := eq_true q437; have p438 : 0 ≤ (x3_1 : Int) := of_decide_eq_true (by first | (with_reducible assumption) | assumption); have q438 : x3_1 < (l0.length : Int) := of_decide_eq_true (by first | (with_reducible assumption) | assumption); obtain ⟨ad438, e438, hx438_0, hx438_1⟩ := at_T56 HR0.out x3_1 p438 q438; obtain rfl : ad433 = ad438 := (by injection e438); replace hx438_0 := cC_ HB hx438_0; replace hx438_1 := cC_ HB hx438_1; replace p438 := eq_true p438; replace q438 := eq_true q438)); try go_wp2_with (first | (go_at_call 40; (with_reducible refine (demurrageref02_Right.calls k1 ((rd_T56 l0 x3_1).f0) ((rd_T56 l0 x3_1).f1) true _ A4.out).mono ?_); rintro e w11 ⟨rfl, hb⟩; replace HB := bB_ (by repeat (with_reducible first | exact HB.out | apply bA_ | apply bN_ | apply bD_)) hb; (try clear hb); have p435 : 0 ≤ (x3_1 : Int) := of_decide_eq_true (by first | (with_reducible assumption) | assumption); have q435 : x3_1 < (l0.length : Int) := of_decide_eq_true (by first | (with_reducible assumption) | assumption); obtain ⟨ad435, e435, hx435_0, hx435_1⟩ := at_T56 HR0.out x3_1 p435 q435; obtain rfl : ad433 = ad435 := (by injection e435); replace hx435_0 := cC_ HB hx435_0; replace hx435_1 := cC_ HB hx435_1; replace p435 := eq_true p435; replace q435 := eq_true q435; have p436 : 0 ≤ (x3_1 : Int) := of_decide_eq_true (by first | (with_reducible assumption) | assumption); have q436 : x3_1 < (l0.length : Int) := of_decide_eq_true (by first | (with_reducible assumption) | assumption); obtain ⟨ad436, e436, hx436_0, hx436_1⟩ := at_T56 HR0.out x3_1 p436 q436; obtain rfl : ad433 = ad436 := (by injection e436); replace hx436_0 := cC_ HB hx436_0; replace hx436_1 := cC_ HB hx436_1; replace p436 := eq_true p436; replace q436 := eq_true q436; have p437 : 0 ≤ (x3_1 : Int) := of_decide_eq_true (by first | (with_reducible assumption) | assumption); have q437 : x3_1 < (l0.length : Int) := of_decide_eq_true (by first | (with_reducible assumption) | assumption); obtain ⟨ad437, e437, hx437_0, hx437_1⟩ := at_T56 HR0.out x3_1 p437 q437; obtain rfl : ad433 = ad437 := (by injection e437); replace hx437_0 := cC_ HB hx437_0; replace hx437_1 := cC_ HB hx437_1; replace p437 := eq_true p437; replace q437 := eq_true q437; have p438 : 0 ≤ (x3_1 : Int) := of_decide_eq_true (by first | (with_reducible assumption) | assumption); have q438 : x3_1 < (l0.length : Int) := of_decide_eq_true (by first | (with_reducible assumption) | assumption); obtain ⟨ad438, e438, hx438_0, hx438_1⟩ := at_T56 HR0.out x3_1 p438 q438; obtain rfl : ad433 = ad438 := (by injection e438); replace hx438_0 := cC_ HB hx438_0; replace hx438_1 := cC_ HB hx438_1; replace p438 := eq_true p438; replace q438 := eq_true q438)))
         go_roundg k1
         case measure => have := HK1.out; omega
         case rel => exact ⟨(wrap64 (x3_1 + 1)), (by first | rfl | simp | simp [*]), H', ⟨by have := HK1.out; omega⟩, ⟨by repeat (with_reducible first | exact HB.out | apply bA_ | apply bN_ | apply bD_)⟩⟩
        ·repeat (go_quiet (first | (go_at_call 40; (with_reducible refine (demurrageref02_Right.calls k1 ((rd_T56 l0 x3_1).f0) ((rd_T56 l0 x3_1).f1) true _ A4.out).mono ?_); rintro e w11 ⟨rfl, hb⟩; replace HB := bB_ (by repeat (with_reducible first | exact HB.out | apply bA_ | apply bN_ | apply bD_)) hb; (try clear hb); have p435 : 0 ≤ (x3_1 : Int) := of_decide_eq_true (by first | (with_reducible assumption) | assumption); have q435 : x3_1 < (l0.length : Int) := of_decide_eq_true (by first | (with_reducible assumption) | assumption); obtain ⟨ad435, e435, hx435_0, hx435_1⟩ := at_T56 HR0.out x3_1 p435 q435; obtain rfl : ad433 = ad435 := (by injection e435); replace hx435_0 := cC_ HB hx435_0; replace hx435_1 := cC_ HB hx435_1; replace p435 := eq_true p435; replace q435 := eq_true q435; have p436 : 0 ≤ (x3_1 : Int) := of_decide_eq_true (by first | (with_reducible assumption) | assumption); have q436 : x3_1 < (l0.length : Int) := of_decide_eq_true (by first | (with_reducible assumption) | assumption); obtain ⟨ad436, e436, hx436_0, hx436_1⟩ := at_T56 HR0.out x3_1 p436 q436; obtain rfl : ad433 = ad436 := (by injection e436); replace hx436_0 := cC_ HB hx436_0; replace hx436_1 := cC_ HB hx436_1; replace p436 := eq_true p436; replace q436 := eq_true q436; have p437 : 0 ≤ (x3_1 : Int) := of_decide_eq_true (by first | (with_reducible assumption) | assumption); have q437 : x3_1 < (l0.length : Int) := of_decide_eq_true (by first | (with_reducible assumption) | assumption); obtain ⟨ad437, e437, hx437_0, hx437_1⟩ := at_T56 HR0.out x3_1 p437 q437; obtain rfl : ad433 = ad437 := (by injection e437); replace hx437_0 := cC_ HB hx437_0; replace hx437_1 := cC_ HB hx437_1; replace p437 := eq_true p437; replace q437 := eq_true q437; have p438 : 0 ≤ (x3_1 : Int) := of_decide_eq_true (by first | (with_reducible assumption) | assumption); have q438 : x3_1 < (l0.length : Int) := of_decide_eq_true (by first | (with_reducible assumption) | assumption); obtain ⟨ad438, e438, hx438_0, hx438_1⟩ := at_T56 HR0.out x3_1 p438 q438; obtain rfl : ad433 = ad438 := (by injection e438); replace hx438_0 := cC_ HB hx438_0; replace hx438_1 := cC_ HB hx438_1; replace p438 := eq_true p438; replace q438 := eq_true q438)); try go_wp2_with (first | (go_at_call 40; (with_reducible refine (demurrageref02_Right.calls k1 ((rd_T56 l0 x3_1).f0) ((rd_T56 l0 x3_1).f1) true _ A4.out).mono ?_); rintro e w11 ⟨rfl, hb⟩; replace HB := bB_ (by repeat (with_reducible first | exact HB.out | apply bA_ | apply bN_ | apply bD_)) hb; (try clear hb); have p435 : 0 ≤ (x3_1 : Int) := of_decide_eq_true (by first | (with_reducible assumption) | assumption); have q435 : x3_1 < (l0.length : Int) := of_decide_eq_true (by first | (with_reducible assumption) | assumption); obtain ⟨ad435, e435, hx435_0, hx435_1⟩ := at_T56 HR0.out x3_1 p435 q435; obtain rfl : ad433 = ad435 := (by injection e435); replace hx435_0 := cC_ HB hx435_0; replace hx435_1 := cC_ HB hx435_1; replace p435 := eq_true p435; replace q435 := eq_true q435; have p436 : 0 ≤ (x3_1 : Int) := of_decide_eq_true (by first | (with_reducible assumption) | assumption); have q436 : x3_1 < (l0.length : Int) := of_decide_eq_true (by first | (with_reducible assumption) | assumption); obtain ⟨ad436, e436, hx436_0, hx436_1⟩ := at_T56 HR0.out x3_1 p436 q436; obtain rfl : ad433 = ad436 := (by injection e436); replace hx436_0 := cC_ HB hx436_0; replace hx436_1 := cC_ HB hx436_1; replace p436 := eq_true p436; replace q436 := eq_true q436; have p437 : 0 ≤ (x3_1 : Int) := of_decide_eq_true (by first | (with_reducible assumption) | assumption); have q437 : x3_1 < (l0.length : Int) := of_decide_eq_true (by first | (with_reducible assumption) | assumption); obtain ⟨ad437, e437, hx437_0, hx437_1⟩ := at_T56 HR0.out x3_1 p437 q437; obtain rfl : ad433 = ad437 := (by injection e437); replace hx437_0 := cC_ HB hx437_0; replace hx437_1 := cC_ HB hx437_1; replace p437 := eq_true p437; replace q437 := eq_true q437; have p438 : 0 ≤ (x3_1 : Int) := of_decide_eq_true (by first | (with_reducible assumption) | assumption); have q438 : x3_1 < (l0.length : Int) := of_decide_eq_true (by first | (with_reducible assumption) | assumption); obtain ⟨ad438, e438, hx438_0, hx438_1⟩ := at_T56 HR0.out x3_1 p438 q438; obtain rfl : ad433 = ad438 := (by injection e438); replace hx438_0 := cC_ HB hx438_0; replace hx438_1 := cC_ HB hx438_1; replace p438 := eq_true p438; replace q438 := eq_true q438)))
         go_ret
         exact ⟨by rfl, by repeat (with_reducible first | exact HB.out | apply bA_ | apply bN_ | apply bD_)⟩
     ·replace c5 := Bool.eq_false_iff.mpr c5
      subst c5
      rw [if_neg (show ¬ (false = true) by decide)] at H
      obtain rfl := Option.some.inj H
      have p433 : 0 ≤ (x3_1 : Int) := of_decide_eq_true (by first | (with_reducible assumption) | assumption)
      have q433 : x3_1 < (l0.length : Int) := of_decide_eq_true (by first | (with_reducible assumption) | assumption)
      obtain ⟨ad433, e433, hx433_0, hx433_1⟩ := at_T56 HR0.out x3_1 p433 q433
      cases e433
      replace hx433_0 := cC_ HB hx433_0
      replace hx433_1 := cC_ HB hx433_1
      replace p433 := eq_true p433
      replace q433 := eq_true q433
      go_wp2_with (first | (go_at_call 40; (with_reducible refine (demurrageref02_Right.calls k1 ((rd_T56 l0 x3_1).f0) ((rd_T56 l0 x3_1).f1) false _ A4.out).mono ?_); rintro e w13 ⟨rfl, hb⟩; replace HB := bB_ (by repeat (with_reducible first | exact HB.out | apply bA_ | apply bN_ | apply bD_)) hb; (try clear hb)))
      repeat (go_quiet (first | (go_at_call 40; (with_reducible refine (demurrageref02_Right.calls k1 ((rd_T56 l0 x3_1).f0) ((rd_T56 l0 x3_1).f1) false _ A4.out).mono ?_); rintro e w13 ⟨rfl, hb⟩; replace HB := bB_ (by repeat (with_reducible first | exact HB.out | apply bA_ | apply bN_ | apply bD_)) hb; (try clear hb))); try go_wp2_with (first | (go_at_call 40; (with_reducible refine (demurrageref02_Right.calls k1 ((rd_T56 l0 x3_1).f0) ((rd_T56 l0 x3_1).f1) false _ A4.out).mono ?_); rintro e w13 ⟨rfl, hb⟩; replace HB := bB_ (by repeat (with_reducible first | exact HB.out | apply bA_ | apply bN_ | apply bD_)) hb; (try clear hb))))
      go_ret
      exact ⟨by rfl, by repeat (with_reducible first | exact HB.out | apply bA_ | apply bN_ | apply bD_)⟩
    ·rw [if_neg c3] at H
     exact absurd H (by simp)
   ·rw [if_neg c2] at H
    have c2b0 : decide (x3_1 < (l0.length : Int)) = false := decide_eq_false c2
    clear c2
    obtain rfl := Option.some.inj H
    go_wp2
    repeat (go_quiet (fail); try go_wp2)
    go_ret
    exact ⟨by rfl, by repeat (with_reducible first | exact HB.out | apply bA_ | apply bN_ | apply bD_)⟩

end Go.Proofs.Yteikafepdkijdaa.X
