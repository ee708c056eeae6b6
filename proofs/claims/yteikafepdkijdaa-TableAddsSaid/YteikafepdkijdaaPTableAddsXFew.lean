-- cut by prune.py, a program of this session
import Derived.Test.YteikafepdkijdaaPTableAddsX0
namespace Go.Proofs.Yteikafepdkijdaa.X
open Go.RowKit Go.Proofs.YteikafepdkijdaaW.PrintWords Go.Proofs.YteikafepdkijdaaW.PrintLast Go.Proofs.YteikafepdkijdaaW.PrintMore
attribute [local go_sem] max2_int min2_int max_two min_two
set_option linter.unusedVariables false
set_option linter.unusedSimpArgs false

def demurragelaw21_few.l0 : Nat → List (S48) → Int → Option (Bool)
 | 0, _, _ => none
 | k + 1, x0, x3 => if x3 < (x0.length : Int) then (if 0 ≤ x3 then (if ((rd_T48 x0 x3).f1) < 0 then (some false) else (if ((rd_T48 x0 x3).f2) < 0 then (some false) else (if ((rd_T48 x0 x3).f3) < 0 then (some false) else (if ((rd_T48 x0 x3).f1) > 1000000000000000 then (some false) else (if ((rd_T48 x0 x3).f2) > 1000000000000000 then (some false) else (if ((rd_T48 x0 x3).f3) > 1000000000000000 then (some false) else (demurragelaw21_few.l0 k x0 (wrap64 (x3 + 1))))))))) else (none)) else (some true)
def demurragelaw21_few.f (k : Nat) (l0 : List (S48)) : Option (Bool) := demurragelaw21_few.l0 k l0 0
set_option maxHeartbeats 8000000 in
set_option maxRecDepth 100000 in
theorem demurragelaw21_few.calls (k : Nat) (A0 : Option Addr) (c0 : Nat) (l0 : List (S48)) (r : Bool) (w : World) (hr0 : Kd.C k48 w A0 l0.length l0) (hc0 : l0.length ≤ c0) (h : demurragelaw21_few.f k l0 = some r) :
  Calls Try.prog 32 #[.slice A0 l0.length c0] w fun e w' => e = .returned (.bool r) ∧ Drawn0 w w' := by
 have HR0 := aA_ hr0
 have HC0 := aA_ hc0
 clear hr0 hc0
 have H : (demurragelaw21_few.l0 k l0 0) = some r := h
 clear h
 have H' := aA_ H
 clear H
 go_enter Try.func32, Try.ntmps32
 go_wp2
 (try simp only [Act.put, sT_, sZ_, sS_])
 go_loopg [3] k (fun kq v3 w' => ∃ (x3_1 : Int), v3 = .int .i64 x3_1 ∧ Aside0 (demurragelaw21_few.l0 kq l0 x3_1 = some r) ∧ Aside0 (kq ≤ k) ∧ Drawn0 w w')
 case atStart => exact ⟨(0), (by first | rfl | simp | simp [*]), H', ⟨Nat.le_refl _⟩, by repeat (first | exact Drawn0.refl _ | apply Drawn0.step)⟩
 case round =>
  clear H'
  obtain ⟨x3_1, rfl, HA, HK1, ⟨m1, rfl⟩⟩ := hrel
  cases gk with
  | zero => exact absurd HA.out (by simp [demurragelaw21_few.l0])
  | succ k1 =>
   have H := HA.out
   clear HA
   simp only [demurragelaw21_few.l0] at H
   by_cases c2 : x3_1 < (l0.length : Int)
   ·rw [if_pos c2] at H
    have c2b0 : decide (x3_1 < (l0.length : Int)) = true := decide_eq_true c2
    clear c2
    by_cases c3 : 0 ≤ x3_1
    ·rw [if_pos c3] at H
     have c3b0 : decide (0 ≤ x3_1) = true := decide_eq_true c3
     clear c3
     by_cases c4 : ((rd_T48 l0 x3_1).f1) < 0
     ·rw [if_pos c4] at H
      have c4b0 : decide (((rd_T48 l0 x3_1).f1) < 0) = true := decide_eq_true c4
      clear c4
      obtain rfl := Option.some.inj H
      have p1851 : 0 ≤ (x3_1 : Int) := of_decide_eq_true (by first | (with_reducible assumption) | assumption)
      have q1851 : x3_1 < (l0.length : Int) := of_decide_eq_true (by first | (with_reducible assumption) | assumption)
      obtain ⟨ad1851, e1851, hx1851_0, hx1851_1, hx1851_2, hx1851_3, hx1851_4⟩ := at_T48 HR0.out x3_1 p1851 q1851
      cases e1851
      replace p1851 := eq_true p1851
      replace q1851 := eq_true q1851
      go_wp2
      go_ret
      exact ⟨by first | rfl | (simp; done) | (simp [*]; done), by repeat (first | exact Drawn0.refl _ | apply Drawn0.step)⟩
     ·rw [if_neg c4] at H
      have c4b0 : decide (((rd_T48 l0 x3_1).f1) < 0) = false := decide_eq_false c4
      clear c4
      by_cases c5 : ((rd_T48 l0 x3_1).f2) < 0
      ·rw [if_pos c5] at H
       have c5b0 : decide (((rd_T48 l0 x3_1).f2) < 0) = true := decide_eq_true c5
       clear c5
       obtain rfl := Option.some.inj H
       have p1851 : 0 ≤ (x3_1 : Int) := of_decide_eq_true (by first | (with_reducible assumption) | assumption)
       have q1851 : x3_1 < (l0.length : Int) := of_decide_eq_true (by first | (with_reducible assumption) | assumption)
       obtain ⟨ad1851, e1851, hx1851_0, hx1851_1, hx1851_2, hx1851_3, hx1851_4⟩ := at_T48 HR0.out x3_1 p1851 q1851
       cases e1851
       replace p1851 := eq_true p1851
       replace q1851 := eq_true q1851
       have p1852 : 0 ≤ (x3_1 : Int) := of_decide_eq_true (by first | (with_reducible assumption) | assumption)
       have q1852 : x3_1 < (l0.length : Int) := of_decide_eq_true (by first | (with_reducible assumption) | assumption)
       obtain ⟨ad1852, e1852, hx1852_0, hx1852_1, hx1852_2, hx1852_3, hx1852_4⟩ := at_T48 HR0.out x3_1 p1852 q1852
       obtain rfl : ad1851 = ad1852 := (by injection e1852)
       replace p1852 := eq_true p1852
       replace q1852 := eq_true q1852
       go_wp2
       go_ret
       exact ⟨by first | rfl | (simp; done) | (simp [*]; done), by repeat (first | exact Drawn0.refl _ | apply Drawn0.step)⟩
      ·rw [if_neg c5] at H
       have c5b0 : decide (((rd_T48 l0 x3_1).f2) < 0) = false := decide_eq_false c5
       clear c5
       by_cases c6 : ((rd_T48 l0 x3_1).f3) < 0
       ·rw [if_pos c6] at H
        have c6b0 : decide (((rd_T48 l0 x3_1).f3) < 0) = true := decide_eq_true c6
        clear c6
        obtain rfl := Option.some.inj H
        have p1851 : 0 ≤ (x3_1 : Int) := of_decide_eq_true (by first | (with_reducible assumption) | assumption)
        have q1851 : x3_1 < (l0.length : Int) := of_decide_eq_true (by first | (with_reducible assumption) | assumption)
        obtain ⟨ad1851, e1851, hx1851_0, hx1851_1, hx1851_2, hx1851_3, hx1851_4⟩ := at_T48 HR0.out x3_1 p1851 q1851
        cases e1851
        replace p1851 := eq_true p1851
        replace q1851 := eq_true q1851
        have p1852 : 0 ≤ (x3_1 : Int) := of_decide_eq_true (by first | (with_reducible assumption) | assumption)
        have q1852 : x3_1 < (l0.length : Int) := of_decide_eq_true (by first | (with_reducible assumption) | assumption)
        obtain ⟨ad1852, e1852, hx1852_0, hx1852_1, hx1852_2, hx1852_3, hx1852_4⟩ := at_T48 HR0.out x3_1 p1852 q1852
        obtain rfl : ad1851 = ad1852 := (by injection e1852)
        replace p1852 := eq_true p1852
        replace q1852 := eq_true q1852
        have p1853 : 0 ≤ (x3_1 : Int) := of_decide_eq_true (by first | (with_reducible assumption) | assumption)
        have q1853 : x3_1 < (l0.length : Int) := of_decide_eq_true (by first | (with_reducible assumption) | assumption)
        obtain ⟨ad1853, e1853, hx1853_0, hx1853_1, hx1853_2, hx1853_3, hx1853_4⟩ := at_T48 HR0.out x3_1 p1853 q1853
        obtain rfl : ad1851 = ad1853 := (by injection e1853)
        replace p1853 := eq_true p1853
        replace q1853 := eq_true q1853
        go_wp2
        go_ret
        exact ⟨by first | rfl | (simp; done) | (simp [*]; done), by repeat (first | exact Drawn0.refl _ | apply Drawn0.step)⟩
       ·rw [if_neg c6] at H
        have c6b0 : decide (((rd_T48 l0 x3_1).f3) < 0) = false := decide_eq_false c6
        clear c6
        by_cases c7 : ((rd_T48 l0 x3_1).f1) > 1000000000000000
        focus
         rw [if_pos c7] at H
         have c7b0 : decide (1000000000000000 < ((rd_T48 l0 x3_1).f1)) = true := decide_eq_true c7
         clear c7
         obtain rfl := Option.some.inj H
         have p1851 : 0 ≤ (x3_1 : Int) := of_decide_eq_true (by first | (with_reducible assumption) | assumption)
         have q1851 : x3_1 < (l0.length : Int) := of_decide_eq_true (by first | (with_reducible assumption) | assumption)
         obtain ⟨ad1851, e1851, hx1851_0, hx1851_1, hx1851_2, hx1851_3, hx1851_4⟩ := at_T48 HR0.out x3_1 p1851 q1851
         cases e1851
        rotate_left
        focus
         rw [if_neg c7] at H
         have c7b0 : decide (1000000000000000 < ((rd_T48 l0 x3_1).f1)) = false := decide_eq_false c7
         clear c7
         by_cases c8 : ((rd_T48 l0 x3_1).f2) > 1000000000000000
         rotate_left
         ·rw [if_neg c8] at H
          have c8b0 : decide (1000000000000000 < ((rd_T48 l0 x3_1).f2)) = false := decide_eq_false c8
          clear c8
          by_cases c9 : ((rd_T48 l0 x3_1).f3) > 1000000000000000
          ·rw [if_pos c9] at H
           have c9b0 : decide (1000000000000000 < ((rd_T48 l0 x3_1).f3)) = true := decide_eq_true c9
           clear c9
           obtain rfl := Option.some.inj H
           have p90003 : 0 ≤ (x3_1 : Int) := of_decide_eq_true (by first | (with_reducible assumption) | assumption)
           have q90007 : x3_1 < (l0.length : Int) := of_decide_eq_true (by first | (with_reducible assumption) | assumption)
           obtain ⟨ad1851, e1851, hx1851_0, hx1851_1, hx1851_2, hx1851_3, hx1851_4⟩ := at_T48 HR0.out x3_1 p90003 q90007
           cases e1851
           replace p90003 := eq_true p90003
           replace q90007 := eq_true q90007
           have p1851 : 0 ≤ (x3_1 : Int) := of_decide_eq_true (by first | (with_reducible assumption) | assumption)
           have q1851 : x3_1 < (l0.length : Int) := of_decide_eq_true (by first | (with_reducible assumption) | assumption)
           obtain ⟨ad90009, e90002, hx90008, hx90004, hx90005, hx90001, hx90006⟩ := at_T48 HR0.out x3_1 p1851 q1851
           obtain rfl : ad1851 = ad90009 := (by injection e90002)
           replace p1851 := eq_true p1851
           replace q1851 := eq_true q1851
           have p1852 : 0 ≤ (x3_1 : Int) := of_decide_eq_true (by first | (with_reducible assumption) | assumption)
           have q1852 : x3_1 < (l0.length : Int) := of_decide_eq_true (by first | (with_reducible assumption) | assumption)
           obtain ⟨ad1852, e1852, hx1852_0, hx1852_1, hx1852_2, hx1852_3, hx1852_4⟩ := at_T48 HR0.out x3_1 p1852 q1852
           obtain rfl : ad1851 = ad1852 := (by injection e1852)
           replace p1852 := eq_true p1852
           replace q1852 := eq_true q1852
           have p1853 : 0 ≤ (x3_1 : Int) := of_decide_eq_true (by first | (with_reducible assumption) | assumption)
           have q1853 : x3_1 < (l0.length : Int) := of_decide_eq_true (by first | (with_reducible assumption) | assumption)
           obtain ⟨ad1853, e1853, hx1853_0, hx1853_1, hx1853_2, hx1853_3, hx1853_4⟩ := at_T48 HR0.out x3_1 p1853 q1853
           obtain rfl : ad1851 = ad1853 := (by injection e1853)
           replace p1853 := eq_true p1853
           replace q1853 := eq_true q1853
           have p1854 : 0 ≤ (x3_1 : Int) := of_decide_eq_true (by first | (with_reducible assumption) | assumption)
           have q1854 : x3_1 < (l0.length : Int) := of_decide_eq_true (by first | (with_reducible assumption) | assumption)
           obtain ⟨ad1854, e1854, hx1854_0, hx1854_1, hx1854_2, hx1854_3, hx1854_4⟩ := at_T48 HR0.out x3_1 p1854 q1854
           obtain rfl : ad1851 = ad1854 := (by injection e1854)
           replace p1854 := eq_true p1854
           replace q1854 := eq_true q1854
           have p1856 : 0 ≤ (x3_1 : Int) := of_decide_eq_true (by first | (with_reducible assumption) | assumption)
           have q1856 : x3_1 < (l0.length : Int) := of_decide_eq_true (by first | (with_reducible assumption) | assumption)
           obtain ⟨ad1856, e1856, hx1856_0, hx1856_1, hx1856_2, hx1856_3, hx1856_4⟩ := at_T48 HR0.out x3_1 p1856 q1856
           obtain rfl : ad1851 = ad1856 := (by injection e1856)
           replace p1856 := eq_true p1856
           replace q1856 := eq_true q1856
           go_wp2
           go_ret
           exact ⟨by first | rfl | (simp; done) | (simp [*]; done), by repeat (first | exact Drawn0.refl _ | apply Drawn0.step)⟩
          ·rw [if_neg c9] at H
           have c9b0 : decide (1000000000000000 < ((rd_T48 l0 x3_1).f3)) = false := decide_eq_false c9
           clear c9
           have H' := aA_ H
           clear H
           have p90003 : 0 ≤ (x3_1 : Int) := of_decide_eq_true (by first | (with_reducible assumption) | assumption)
           have q90007 : x3_1 < (l0.length : Int) := of_decide_eq_true (by first | (with_reducible assumption) | assumption)
           obtain ⟨ad1851, e1851, hx1851_0, hx1851_1, hx1851_2, hx1851_3, hx1851_4⟩ := at_T48 HR0.out x3_1 p90003 q90007
           cases e1851
           replace p90003 := eq_true p90003
           replace q90007 := eq_true q90007
           have p1851 : 0 ≤ (x3_1 : Int) := of_decide_eq_true (by first | (with_reducible assumption) | assumption)
           have q1851 : x3_1 < (l0.length : Int) := of_decide_eq_true (by first | (with_reducible assumption) | assumption)
           obtain ⟨ad90009, e90002, hx90008, hx90004, hx90005, hx90001, hx90006⟩ := at_T48 HR0.out x3_1 p1851 q1851
           obtain rfl : ad1851 = ad90009 := (by injection e90002)
           replace p1851 := eq_true p1851
           replace q1851 := eq_true q1851
           have p1852 : 0 ≤ (x3_1 : Int) := of_decide_eq_true (by first | (with_reducible assumption) | assumption)
           have q1852 : x3_1 < (l0.length : Int) := of_decide_eq_true (by first | (with_reducible assumption) | assumption)
           obtain ⟨ad1852, e1852, hx1852_0, hx1852_1, hx1852_2, hx1852_3, hx1852_4⟩ := at_T48 HR0.out x3_1 p1852 q1852
           obtain rfl : ad1851 = ad1852 := (by injection e1852)
           replace p1852 := eq_true p1852
           replace q1852 := eq_true q1852
           have p1853 : 0 ≤ (x3_1 : Int) := of_decide_eq_true (by first | (with_reducible assumption) | assumption)
           have q1853 : x3_1 < (l0.length : Int) := of_decide_eq_true (by first | (with_reducible assumption) | assumption)
           obtain ⟨ad1853, e1853, hx1853_0, hx1853_1, hx1853_2, hx1853_3, hx1853_4⟩ := at_T48 HR0.out x3_1 p1853 q1853
           obtain rfl : ad1851 = ad1853 := (by injection e1853)
           replace p1853 := eq_true p1853
           replace q1853 := eq_true q1853
           have p1854 : 0 ≤ (x3_1 : Int) := of_decide_eq_true (by first | (with_reducible assumption) | assumption)
           have q1854 : x3_1 < (l0.length : Int) := of_decide_eq_true (by first | (with_reducible assumption) | assumption)
           obtain ⟨ad1854, e1854, hx1854_0, hx1854_1, hx1854_2, hx1854_3, hx1854_4⟩ := at_T48 HR0.out x3_1 p1854 q1854
           obtain rfl : ad1851 = ad1854 := (by injection e1854)
           replace p1854 := eq_true p1854
           replace q1854 := eq_true q1854
           have p1856 : 0 ≤ (x3_1 : Int) := of_decide_eq_true (by first | (with_reducible assumption) | assumption)
           have q1856 : x3_1 < (l0.length : Int) := of_decide_eq_true (by first | (with_reducible assumption) | assumption)
           obtain ⟨ad1856, e1856, hx1856_0, hx1856_1, hx1856_2, hx1856_3, hx1856_4⟩ := at_T48 HR0.out x3_1 p1856 q1856
           obtain rfl : ad1851 = ad1856 := (by injection e1856)
           replace p1856 := eq_true p1856
           replace q1856 := eq_true q1856
           go_wp2
           go_roundg k1
           case measure => have := HK1.out; omega
           case rel => exact ⟨(wrap64 (x3_1 + 1)), (by first | rfl | simp | simp [*]), H', ⟨by have := HK1.out; omega⟩, by repeat (first | exact Drawn0.refl _ | apply Drawn0.step)⟩
         rw [if_pos c8] at H
         have c8b0 : decide (1000000000000000 < ((rd_T48 l0 x3_1).f2)) = true := decide_eq_true c8
         clear c8
         obtain rfl := Option.some.inj H
         have p90003 : 0 ≤ (x3_1 : Int) := of_decide_eq_true (by first | (with_reducible assumption) | assumption)
         have q90007 : x3_1 < (l0.length : Int) := of_decide_eq_true (by first | (with_reducible assumption) | assumption)
         obtain ⟨ad1851, e1851, hx1851_0, hx1851_1, hx1851_2, hx1851_3, hx1851_4⟩ := at_T48 HR0.out x3_1 p90003 q90007
         cases e1851
         replace p90003 := eq_true p90003
         replace q90007 := eq_true q90007
         have p1851 : 0 ≤ (x3_1 : Int) := of_decide_eq_true (by first | (with_reducible assumption) | assumption)
         have q1851 : x3_1 < (l0.length : Int) := of_decide_eq_true (by first | (with_reducible assumption) | assumption)
         obtain ⟨ad90009, e90002, hx90008, hx90004, hx90005, hx90001, hx90006⟩ := at_T48 HR0.out x3_1 p1851 q1851
         obtain rfl : ad1851 = ad90009 := (by injection e90002)
        all_goals
         replace p1851 := eq_true p1851
         replace q1851 := eq_true q1851
         have p1852 : 0 ≤ (x3_1 : Int) := of_decide_eq_true (by first | (with_reducible assumption) | assumption)
         have q1852 : x3_1 < (l0.length : Int) := of_decide_eq_true (by first | (with_reducible assumption) | assumption)
         obtain ⟨ad1852, e1852, hx1852_0, hx1852_1, hx1852_2, hx1852_3, hx1852_4⟩ := at_T48 HR0.out x3_1 p1852 q1852
         obtain rfl : ad1851 = ad1852 := (by injection e1852)
         replace p1852 := eq_true p1852
         replace q1852 := eq_true q1852
         have p1853 : 0 ≤ (x3_1 : Int) := of_decide_eq_true (by first | (with_reducible assumption) | assumption)
         have q1853 : x3_1 < (l0.length : Int) := of_decide_eq_true (by first | (with_reducible assumption) | assumption)
         obtain ⟨ad1853, e1853, hx1853_0, hx1853_1, hx1853_2, hx1853_3, hx1853_4⟩ := at_T48 HR0.out x3_1 p1853 q1853
         obtain rfl : ad1851 = ad1853 := (by injection e1853)
         replace p1853 := eq_true p1853
         replace q1853 := eq_true q1853
         have p1854 : 0 ≤ (x3_1 : Int) := of_decide_eq_true (by first | (with_reducible assumption) | assumption)
         have q1854 : x3_1 < (l0.length : Int) := of_decide_eq_true (by first | (with_reducible assumption) | assumption)
         obtain ⟨ad1854, e1854, hx1854_0, hx1854_1, hx1854_2, hx1854_3, hx1854_4⟩ := at_T48 HR0.out x3_1 p1854 q1854
         obtain rfl : ad1851 = ad1854 := (by injection e1854)
         replace p1854 := eq_true p1854
         replace q1854 := eq_true q1854
         go_wp2
         go_ret
         exact ⟨by first | rfl | (simp; done) | (simp [*]; done), by repeat (first | exact Drawn0.refl _ | apply Drawn0.step)⟩
    ·rw [if_neg c3] at H
     exact absurd H (by simp)
   ·rw [if_neg c2] at H
    have c2b0 : decide (x3_1 < (l0.length : Int)) = false := decide_eq_false c2
    clear c2
    obtain rfl := Option.some.inj H
    go_wp2
    go_ret
    exact ⟨by first | rfl | (simp; done) | (simp [*]; done), by repeat (first | exact Drawn0.refl _ | apply Drawn0.step)⟩

end Go.Proofs.Yteikafepdkijdaa.X
