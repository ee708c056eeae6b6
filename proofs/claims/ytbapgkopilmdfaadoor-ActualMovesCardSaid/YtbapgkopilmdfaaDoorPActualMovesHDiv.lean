-- cut by prune.py, a program of this session
import Derived.Test.YtbapgkopilmdfaaDoorPActualMovesHBits
import Derived.Lib.Hide
import Derived.LoopTactic
import Derived.IntWalk
import Derived.RegionTactic
import Derived.Lib.ItoaNum
import Derived.Laws.BitsAllLaws
namespace Go.Proofs.YtbapgkopilmdfaaDoor.X
open Go.RowKit Go.Proofs.YtbapgkopilmdfaaDoorW.PrintWords Go.Proofs.YtbapgkopilmdfaaDoorW.PrintLast Go.Proofs.YtbapgkopilmdfaaDoorW.PrintMore
set_option linter.unusedVariables false
set_option linter.unusedSimpArgs false

def KInv (u v y1 y0 q r : Nat) : Prop := q * y1 + r = u ∧ (u * 4294967296 + v) / (y1 * 4294967296 + y0) ≤ q ∧ q ≤ 4294967297 ∧ r ≤ 4294967295

theorem kinv_start (u v y1 y0 : Nat) (h1 : 2147483648 ≤ y1) (h2 : y1 ≤ 4294967295) (h3 : y0 ≤ 4294967295) (hv : v ≤ 4294967295) (hu : u < y1 * 4294967296 + y0) :
  KInv u v y1 y0 (u / y1) (u - u / y1 * y1) := by
 have e : u / y1 * y1 ≤ u := Nat.div_mul_le_self u y1
 have hm : u - u / y1 * y1 < y1 := by
  have := Nat.mod_lt u (show 0 < y1 by omega)
  have hd := Nat.div_add_mod' u y1
  omega
 refine ⟨by omega, ?_, ?_, by omega⟩
 ·have hq := Nat.div_mul_le_self (u * 4294967296 + v) (y1 * 4294967296 + y0)
  generalize (u * 4294967296 + v) / (y1 * 4294967296 + y0) = q at hq
  rw [Nat.le_div_iff_mul_le (by omega)]
  have h : q * y1 * 4294967296 ≤ u * 4294967296 + v := by
   have : q * (y1 * 4294967296 + y0) = q * y1 * 4294967296 + q * y0 := by rw [Nat.mul_add, Nat.mul_assoc]
   omega
  omega
 ·have : u / y1 < 4294967298 := by
   rw [Nat.div_lt_iff_lt_mul (by omega)]
   omega
  omega

theorem kinv_mul {u v y1 y0 q r : Nat} (h : KInv u v y1 y0 q r) : q * (y1 * 4294967296 + y0) + r * 4294967296 = u * 4294967296 + q * y0 := by
 have e : q * (y1 * 4294967296 + y0) = q * y1 * 4294967296 + q * y0 := by rw [Nat.mul_add, Nat.mul_assoc]
 have := h.1
 omega

theorem kinv_done {u v y1 y0 q r : Nat} (h1 : 2147483648 ≤ y1) (h : KInv u v y1 y0 q r) (hle : q * y0 ≤ 4294967296 * r + v) : q = (u * 4294967296 + v) / (y1 * 4294967296 + y0) := by
 have hm := kinv_mul h
 refine Nat.le_antisymm ?_ h.2.1
 rw [Nat.le_div_iff_mul_le (by omega)]
 omega

theorem kinv_more {u v y1 y0 q r : Nat} (h1 : 2147483648 ≤ y1) (hv : v ≤ 4294967295) (hu : u < y1 * 4294967296 + y0) (h : KInv u v y1 y0 q r) (ht : 4294967296 ≤ q ∨ 4294967296 * r + v < q * y0) :
  1 ≤ q ∧ (u * 4294967296 + v) / (y1 * 4294967296 + y0) ≤ q - 1 ∧ (q - 1) * y1 + (r + y1) = u := by
 have hq : (u * 4294967296 + v) / (y1 * 4294967296 + y0) < q := by
  rw [Nat.div_lt_iff_lt_mul (by omega)]
  have hm := kinv_mul h
  rcases ht with ht | ht
  ·have : 4294967296 * (y1 * 4294967296 + y0) ≤ q * (y1 * 4294967296 + y0) := Nat.mul_le_mul_right _ ht
   omega
  ·omega
 have hq0 : 0 < q := Nat.lt_of_le_of_lt (Nat.zero_le _) hq
 obtain ⟨p, rfl⟩ : ∃ p, q = p + 1 := ⟨q - 1, by omega⟩
 refine ⟨by omega, Nat.le_of_lt_succ hq, ?_⟩
 have := h.1
 rw [Nat.add_mul] at this
 simp only [Nat.add_sub_cancel]
 omega

theorem kinv_on {u v y1 y0 q r : Nat} (h1 : 2147483648 ≤ y1) (hv : v ≤ 4294967295) (hu : u < y1 * 4294967296 + y0) (h : KInv u v y1 y0 q r) (ht : 4294967296 ≤ q ∨ 4294967296 * r + v < q * y0) (hr : r + y1 < 4294967296) :
  KInv u v y1 y0 (q - 1) (r + y1) := by
 obtain ⟨a, b, c⟩ := kinv_more h1 hv hu h ht
 exact ⟨c, b, by have := h.2.2.1; omega, by omega⟩

theorem kinv_break {u v y1 y0 q r : Nat} (h1 : 2147483648 ≤ y1) (h3 : y0 ≤ 4294967295) (hv : v ≤ 4294967295) (hu : u < y1 * 4294967296 + y0) (h : KInv u v y1 y0 q r) (ht : 4294967296 ≤ q ∨ 4294967296 * r + v < q * y0) (hr : 4294967296 ≤ r + y1) :
  q - 1 = (u * 4294967296 + v) / (y1 * 4294967296 + y0) := by
 obtain ⟨a, b, c⟩ := kinv_more h1 hv hu h ht
 refine Nat.le_antisymm ?_ b
 rw [Nat.le_div_iff_mul_le (by omega)]
 have e : (q - 1) * (y1 * 4294967296 + y0) = (q - 1) * y1 * 4294967296 + (q - 1) * y0 := by rw [Nat.mul_add, Nat.mul_assoc]
 have hq : (q - 1) * y0 ≤ 4294967296 * 4294967295 := Nat.mul_le_mul (by have := h.2.2.1; omega) h3
 omega

theorem kinv_fits {u v y1 y0 q r : Nat} (h3 : y0 ≤ 4294967295) (h : KInv u v y1 y0 q r) : q * y0 ≤ 18446744073709551615 := by
 have : q * y0 ≤ 4294967297 * 4294967295 := Nat.mul_le_mul h.2.2.1 h3
 omega

theorem u64_mul_id (a b : Nat) (h : a * b ≤ 18446744073709551615) : IntKind.u64.wrap ((a : Int) * (b : Int)) = ((a * b : Nat) : Int) := by
 rw [← Int.natCast_mul]
 exact IntWalk.u64_in _ (by omega)
set_option maxHeartbeats 8000000 in
set_option maxRecDepth 100000 in
theorem div64_big (hi lo y s Y : Nat) (h0 : 0 < (hi : Int)) (hy : hi < y) (hl : lo ≤ 18446744073709551615) (hy2 : y ≤ 18446744073709551615) (w : World)
  (hs : IntKind.u64.wrap (64 - ↑(Lib.bitLen y)) = (s : Int)) (hs2 : min s 64 = s) (hY : IntKind.u64.wrap (↑y * 2 ^ s) = (Y : Int)) (hY1 : Y ≤ 18446744073709551615) (yn1 yn0 un32 L un1 un0 : Nat)
  (hyn1 : (Y : Int) / 4294967296 = (yn1 : Int)) (hyn0 : Go.bits .and .u64 (Y : Int) 4294967295 = (yn0 : Int)) (hun : Go.bits .or .u64 (IntKind.u64.wrap (↑hi * 2 ^ s)) (↑lo / 2 ^ (64 - s)) = (un32 : Int))
  (hL : IntKind.u64.wrap (↑lo * 2 ^ s) = (L : Int)) (hL1 : (L : Int) / 4294967296 = (un1 : Int)) (hL0 : Go.bits .and .u64 (L : Int) 4294967295 = (un0 : Int))
  (qi ri : Nat) (hqi : IntKind.u64.wrap ((un32 : Int) / (yn1 : Int)) = (qi : Int)) (hri : IntKind.u64.wrap ((un32 : Int) - IntKind.u64.wrap ((qi : Int) * (yn1 : Int))) = (ri : Int)) (HI : Aside0 (KInv un32 un1 yn1 yn0 qi ri))
  (Q1 : Nat) (HQ1 : Aside0 ((un32 * 4294967296 + un1) / (yn1 * 4294967296 + yn0) = Q1)) (GU : Aside0 (un32 < yn1 * 4294967296 + yn0)) (un21 : Nat)
  (hu21 : IntKind.u64.wrap (IntKind.u64.wrap (IntKind.u64.wrap ((un32 : Int) * 4294967296) + (un1 : Int)) - IntKind.u64.wrap ((Q1 : Int) * (Y : Int))) = (un21 : Int)) (GU2 : Aside0 (un21 < yn1 * 4294967296 + yn0))
  (qj rj : Nat) (hqj : IntKind.u64.wrap ((un21 : Int) / (yn1 : Int)) = (qj : Int)) (hrj : IntKind.u64.wrap ((un21 : Int) - IntKind.u64.wrap ((qj : Int) * (yn1 : Int))) = (rj : Int)) (HJ : Aside0 (KInv un21 un0 yn1 yn0 qj rj)) (g7 : (un21 : Int) ≤ 18446744073709551615)
  (Q0 RQ RM : Nat) (HQ0 : Aside0 ((un21 * 4294967296 + un0) / (yn1 * 4294967296 + yn0) = Q0)) (hfin1 : IntKind.u64.wrap (IntKind.u64.wrap ((Q1 : Int) * 4294967296) + (Q0 : Int)) = (RQ : Int))
  (hfin2 : IntKind.u64.wrap (IntKind.u64.wrap (IntKind.u64.wrap ((un21 : Int) * 4294967296) + (un0 : Int)) - IntKind.u64.wrap ((Q0 : Int) * (Y : Int))) = (RM : Int)) (g1 : 2147483648 ≤ (yn1 : Int)) (g2 : (yn1 : Int) ≤ 4294967295) (g3 : (un32 : Int) ≤ 18446744073709551615) (g4 : (yn0 : Int) ≤ 4294967295) (g5 : (un1 : Int) ≤ 4294967295) (g6 : (un0 : Int) ≤ 4294967295) :
  Calls Tryd.prog 67 #[.int .u64 hi, .int .u64 lo, .int .u64 y] w fun e w' => e = .returned (.tuple #[.int .u64 (RQ : Int), .int .u64 ((RM : Int) / 2 ^ s)]) ∧ Drawn0 w w' := by
 have y0 : ((y : Int) == 0) = false := by simp; omega
 have y1 : decide (y ≤ hi) = false := by simp; omega
 have hi0 : ((hi : Int) == 0) = false := by simp; omega
 go_enter Tryd.func67, Tryd.ntmps67
 go_wp2_with (go_at_call 73; refine (Tryd.bits_LeadingZeros64 _ _ (by omega) (by omega)).mono ?_; rintro e w' ⟨rfl, rfl⟩)
 go_loop [15, 16] (fun t u => ∃ q r : Nat, t = .int .u64 q ∧ u = .int .u64 r ∧ Aside0 (KInv un32 un1 yn1 yn0 q r)) (fun t _ => (intOf t).toNat)
 case atStart => exact ⟨_, _, rfl, rfl, HI⟩
 case round =>
  obtain ⟨q, r, rfl, rfl, HK⟩ := hrel
  have hf := kinv_fits (by omega) HK.out
  have hr := HK.out.2.2.2
  have hq := HK.out.2.2.1
  obtain ⟨m, hm⟩ : ∃ m : Nat, q * yn0 = m := ⟨_, rfl⟩
  have hw : IntKind.u64.wrap ((q : Int) * (yn0 : Int)) = (m : Int) := by rw [← hm]; exact u64_mul_id q yn0 hf
  have HM := aA_ hm
  clear hm
  clear hf
  by_cases hc : 4294967296 ≤ q ∨ 4294967296 * r + un1 < m
  ·have h1 := (kinv_more (by omega) (by omega) GU.out HK.out (by rw [HM.out]; exact hc)).1
   obtain ⟨p, rfl⟩ : ∃ p, q = p + 1 := ⟨q - 1, by omega⟩
   have HC : Aside0 (4294967296 ≤ p + 1 ∨ 4294967296 * r + un1 < (p + 1) * yn0) := ⟨by rw [HM.out]; exact hc⟩
   simp only [Int.natCast_add, Int.natCast_one] at hw
   by_cases hbig : 4294967296 ≤ r + yn1
   ·have hbr := kinv_break (by omega) (by omega) (by omega) GU.out HK.out HC.out hbig
    rw [HQ1.out] at hbr
    simp only [Nat.add_sub_cancel] at hbr
    subst hbr
    have c3 : decide ((4294967296 : Int) ≤ (r : Int) + (yn1 : Int)) = true := by simp; omega
    by_cases hc1 : 4294967296 ≤ p + 1
    ·have c1 : decide ((4294967296 : Int) ≤ (p : Int) + 1) = true := by simp; omega
     clear hc
     go_wp2
     (try clear hm)
     (try clear c1)
     (try clear hc1)
     (try clear h1)
     (try clear hbig)
     (try clear c2)
     (try clear c3)
     (try clear hw)
     (try clear hqi hri hu21)
     clear HK HM HC
     clear hr hq
     go_loop [18, 16] (fun t u => ∃ q r : Nat, t = .int .u64 q ∧ u = .int .u64 r ∧ Aside0 (KInv un21 un0 yn1 yn0 q r)) (fun t _ => (intOf t).toNat)
     case atStart => exact ⟨_, _, rfl, rfl, HJ⟩
     case round =>
      obtain ⟨q, r, rfl, rfl, HK⟩ := hrel
      have hf := kinv_fits (by omega) HK.out
      have hr := HK.out.2.2.2
      have hq := HK.out.2.2.1
      obtain ⟨m, hm⟩ : ∃ m : Nat, q * yn0 = m := ⟨_, rfl⟩
      have hw : IntKind.u64.wrap ((q : Int) * (yn0 : Int)) = (m : Int) := by rw [← hm]; exact u64_mul_id q yn0 hf
      have HM := aA_ hm
      clear hm
      clear hf
      by_cases hc : 4294967296 ≤ q ∨ 4294967296 * r + un0 < m
      ·have h1 := (kinv_more (by omega) (by omega) GU2.out HK.out (by rw [HM.out]; exact hc)).1
       obtain ⟨p, rfl⟩ : ∃ p, q = p + 1 := ⟨q - 1, by omega⟩
       have HC : Aside0 (4294967296 ≤ p + 1 ∨ 4294967296 * r + un0 < (p + 1) * yn0) := ⟨by rw [HM.out]; exact hc⟩
       simp only [Int.natCast_add, Int.natCast_one] at hw
       by_cases hbig : 4294967296 ≤ r + yn1
       ·have hbr := kinv_break (by omega) (by omega) (by omega) GU2.out HK.out HC.out hbig
        rw [HQ0.out] at hbr
        simp only [Nat.add_sub_cancel] at hbr
        subst hbr
        have c3 : decide ((4294967296 : Int) ≤ (r : Int) + (yn1 : Int)) = true := by simp; omega
        by_cases hc1 : 4294967296 ≤ p + 1
        ·have c1 : decide ((4294967296 : Int) ≤ (p : Int) + 1) = true := by simp; omega
         clear hc
         go_wp2
         (try clear hc1)
         (try clear c1)
         (try go_wp2)
         go_ret2
         exact ⟨rfl, Drawn0.refl _⟩
        ·have c1 : decide ((4294967296 : Int) ≤ (p : Int) + 1) = false := by simp; omega
         have c2 : decide ((4294967296 : Int) * (r : Int) + (un0 : Int) < (m : Int)) = true := by simp; omega
         clear hc
         go_wp2
         (try clear hc1)
         (try clear c1)
         (try go_wp2)
         go_ret2
         exact ⟨rfl, Drawn0.refl _⟩
       ·have hgo := aA_ (kinv_on (by omega) (by omega) GU2.out HK.out HC.out (by omega))
        have c3 : decide ((4294967296 : Int) ≤ (r : Int) + (yn1 : Int)) = false := by simp; omega
        by_cases hc1 : 4294967296 ≤ p + 1
        ·have c1 : decide ((4294967296 : Int) ≤ (p : Int) + 1) = true := by simp; omega
         clear hc
         go_wp2
         go_round
         case rel => exact ⟨p, r + yn1, by go_num, by go_num, hgo⟩
         case measure => simp [intOf]
        ·have c1 : decide ((4294967296 : Int) ≤ (p : Int) + 1) = false := by simp; omega
         have c2 : decide ((4294967296 : Int) * (r : Int) + (un0 : Int) < (m : Int)) = true := by simp; omega
         clear hc
         go_wp2
         go_round
         case rel => exact ⟨p, r + yn1, by go_num, by go_num, hgo⟩
         case measure => simp [intOf]
      ·have hdone := kinv_done (by omega) HK.out (by rw [HM.out]; omega)
       rw [HQ0.out] at hdone
       subst hdone
       have c1 : decide ((4294967296 : Int) ≤ (q : Int)) = false := by simp; omega
       have c2 : decide ((4294967296 : Int) * (r : Int) + (un0 : Int) < (m : Int)) = false := by simp; omega
       have HC := aA_ hc
       clear hc
       go_wp2
       (try clear hc1)
       (try clear c1)
       (try go_wp2)
       go_ret2
       exact ⟨rfl, Drawn0.refl _⟩
    ·have c1 : decide ((4294967296 : Int) ≤ (p : Int) + 1) = false := by simp; omega
     have c2 : decide ((4294967296 : Int) * (r : Int) + (un1 : Int) < (m : Int)) = true := by simp; omega
     clear hc
     go_wp2
     (try clear hm)
     (try clear c1)
     (try clear hc1)
     (try clear h1)
     (try clear hbig)
     (try clear c2)
     (try clear c3)
     (try clear hw)
     (try clear hqi hri hu21)
     clear HK HM HC
     clear hr hq
     go_loop [18, 16] (fun t u => ∃ q r : Nat, t = .int .u64 q ∧ u = .int .u64 r ∧ Aside0 (KInv un21 un0 yn1 yn0 q r)) (fun t _ => (intOf t).toNat)
     case atStart => exact ⟨_, _, rfl, rfl, HJ⟩
     case round =>
      obtain ⟨q, r, rfl, rfl, HK⟩ := hrel
      have hf := kinv_fits (by omega) HK.out
      have hr := HK.out.2.2.2
      have hq := HK.out.2.2.1
      obtain ⟨m, hm⟩ : ∃ m : Nat, q * yn0 = m := ⟨_, rfl⟩
      have hw : IntKind.u64.wrap ((q : Int) * (yn0 : Int)) = (m : Int) := by rw [← hm]; exact u64_mul_id q yn0 hf
      have HM := aA_ hm
      clear hm
      clear hf
      by_cases hc : 4294967296 ≤ q ∨ 4294967296 * r + un0 < m
      ·have h1 := (kinv_more (by omega) (by omega) GU2.out HK.out (by rw [HM.out]; exact hc)).1
       obtain ⟨p, rfl⟩ : ∃ p, q = p + 1 := ⟨q - 1, by omega⟩
       have HC : Aside0 (4294967296 ≤ p + 1 ∨ 4294967296 * r + un0 < (p + 1) * yn0) := ⟨by rw [HM.out]; exact hc⟩
       simp only [Int.natCast_add, Int.natCast_one] at hw
       by_cases hbig : 4294967296 ≤ r + yn1
       ·have hbr := kinv_break (by omega) (by omega) (by omega) GU2.out HK.out HC.out hbig
        rw [HQ0.out] at hbr
        simp only [Nat.add_sub_cancel] at hbr
        subst hbr
        have c3 : decide ((4294967296 : Int) ≤ (r : Int) + (yn1 : Int)) = true := by simp; omega
        by_cases hc1 : 4294967296 ≤ p + 1
        ·have c1 : decide ((4294967296 : Int) ≤ (p : Int) + 1) = true := by simp; omega
         clear hc
         go_wp2
         (try clear hc1)
         (try clear c1)
         (try go_wp2)
         go_ret2
         exact ⟨rfl, Drawn0.refl _⟩
        ·have c1 : decide ((4294967296 : Int) ≤ (p : Int) + 1) = false := by simp; omega
         have c2 : decide ((4294967296 : Int) * (r : Int) + (un0 : Int) < (m : Int)) = true := by simp; omega
         clear hc
         go_wp2
         (try clear hc1)
         (try clear c1)
         (try go_wp2)
         go_ret2
         exact ⟨rfl, Drawn0.refl _⟩
       ·have hgo := aA_ (kinv_on (by omega) (by omega) GU2.out HK.out HC.out (by omega))
        have c3 : decide ((4294967296 : Int) ≤ (r : Int) + (yn1 : Int)) = false := by simp; omega
        by_cases hc1 : 4294967296 ≤ p + 1
        ·have c1 : decide ((4294967296 : Int) ≤ (p : Int) + 1) = true := by simp; omega
         clear hc
         go_wp2
         go_round
         case rel => exact ⟨p, r + yn1, by go_num, by go_num, hgo⟩
         case measure => simp [intOf]
        ·have c1 : decide ((4294967296 : Int) ≤ (p : Int) + 1) = false := by simp; omega
         have c2 : decide ((4294967296 : Int) * (r : Int) + (un0 : Int) < (m : Int)) = true := by simp; omega
         clear hc
         go_wp2
         go_round
         case rel => exact ⟨p, r + yn1, by go_num, by go_num, hgo⟩
         case measure => simp [intOf]
      ·have hdone := kinv_done (by omega) HK.out (by rw [HM.out]; omega)
       rw [HQ0.out] at hdone
       subst hdone
       have c1 : decide ((4294967296 : Int) ≤ (q : Int)) = false := by simp; omega
       have c2 : decide ((4294967296 : Int) * (r : Int) + (un0 : Int) < (m : Int)) = false := by simp; omega
       have HC := aA_ hc
       clear hc
       go_wp2
       (try clear hc1)
       (try clear c1)
       (try go_wp2)
       go_ret2
       exact ⟨rfl, Drawn0.refl _⟩
   ·have hgo := aA_ (kinv_on (by omega) (by omega) GU.out HK.out HC.out (by omega))
    have c3 : decide ((4294967296 : Int) ≤ (r : Int) + (yn1 : Int)) = false := by simp; omega
    by_cases hc1 : 4294967296 ≤ p + 1
    ·have c1 : decide ((4294967296 : Int) ≤ (p : Int) + 1) = true := by simp; omega
     clear hc
     go_wp2
     go_round
     case rel => exact ⟨p, r + yn1, by go_num, by go_num, hgo⟩
     case measure => simp [intOf]
    ·have c1 : decide ((4294967296 : Int) ≤ (p : Int) + 1) = false := by simp; omega
     have c2 : decide ((4294967296 : Int) * (r : Int) + (un1 : Int) < (m : Int)) = true := by simp; omega
     clear hc
     go_wp2
     go_round
     case rel => exact ⟨p, r + yn1, by go_num, by go_num, hgo⟩
     case measure => simp [intOf]
  ·have hdone := kinv_done (by omega) HK.out (by rw [HM.out]; omega)
   rw [HQ1.out] at hdone
   subst hdone
   have c1 : decide ((4294967296 : Int) ≤ (q : Int)) = false := by simp; omega
   have c2 : decide ((4294967296 : Int) * (r : Int) + (un1 : Int) < (m : Int)) = false := by simp; omega
   have HC := aA_ hc
   clear hc
   go_wp2
   (try clear hm)
   (try clear c1)
   (try clear hc1)
   (try clear h1)
   (try clear hbig)
   (try clear c2)
   (try clear c3)
   (try clear hw)
   (try clear hqi hri hu21)
   clear HK HM HC
   clear hr hq
   go_loop [18, 16] (fun t u => ∃ q r : Nat, t = .int .u64 q ∧ u = .int .u64 r ∧ Aside0 (KInv un21 un0 yn1 yn0 q r)) (fun t _ => (intOf t).toNat)
   case atStart => exact ⟨_, _, rfl, rfl, HJ⟩
   case round =>
    obtain ⟨q, r, rfl, rfl, HK⟩ := hrel
    have hf := kinv_fits (by omega) HK.out
    have hr := HK.out.2.2.2
    have hq := HK.out.2.2.1
    obtain ⟨m, hm⟩ : ∃ m : Nat, q * yn0 = m := ⟨_, rfl⟩
    have hw : IntKind.u64.wrap ((q : Int) * (yn0 : Int)) = (m : Int) := by rw [← hm]; exact u64_mul_id q yn0 hf
    have HM := aA_ hm
    clear hm
    clear hf
    by_cases hc : 4294967296 ≤ q ∨ 4294967296 * r + un0 < m
    ·have h1 := (kinv_more (by omega) (by omega) GU2.out HK.out (by rw [HM.out]; exact hc)).1
     obtain ⟨p, rfl⟩ : ∃ p, q = p + 1 := ⟨q - 1, by omega⟩
     have HC : Aside0 (4294967296 ≤ p + 1 ∨ 4294967296 * r + un0 < (p + 1) * yn0) := ⟨by rw [HM.out]; exact hc⟩
     simp only [Int.natCast_add, Int.natCast_one] at hw
     by_cases hbig : 4294967296 ≤ r + yn1
     ·have hbr := kinv_break (by omega) (by omega) (by omega) GU2.out HK.out HC.out hbig
      rw [HQ0.out] at hbr
      simp only [Nat.add_sub_cancel] at hbr
      subst hbr
      have c3 : decide ((4294967296 : Int) ≤ (r : Int) + (yn1 : Int)) = true := by simp; omega
      by_cases hc1 : 4294967296 ≤ p + 1
      ·have c1 : decide ((4294967296 : Int) ≤ (p : Int) + 1) = true := by simp; omega
       clear hc
       go_wp2
       (try clear hc1)
       (try clear c1)
       (try go_wp2)
       go_ret2
       exact ⟨rfl, Drawn0.refl _⟩
      ·have c1 : decide ((4294967296 : Int) ≤ (p : Int) + 1) = false := by simp; omega
       have c2 : decide ((4294967296 : Int) * (r : Int) + (un0 : Int) < (m : Int)) = true := by simp; omega
       clear hc
       go_wp2
       (try clear hc1)
       (try clear c1)
       (try go_wp2)
       go_ret2
       exact ⟨rfl, Drawn0.refl _⟩
     ·have hgo := aA_ (kinv_on (by omega) (by omega) GU2.out HK.out HC.out (by omega))
      have c3 : decide ((4294967296 : Int) ≤ (r : Int) + (yn1 : Int)) = false := by simp; omega
      by_cases hc1 : 4294967296 ≤ p + 1
      ·have c1 : decide ((4294967296 : Int) ≤ (p : Int) + 1) = true := by simp; omega
       clear hc
       go_wp2
       go_round
       case rel => exact ⟨p, r + yn1, by go_num, by go_num, hgo⟩
       case measure => simp [intOf]
      ·have c1 : decide ((4294967296 : Int) ≤ (p : Int) + 1) = false := by simp; omega
       have c2 : decide ((4294967296 : Int) * (r : Int) + (un0 : Int) < (m : Int)) = true := by simp; omega
       clear hc
       go_wp2
       go_round
       case rel => exact ⟨p, r + yn1, by go_num, by go_num, hgo⟩
       case measure => simp [intOf]
    ·have hdone := kinv_done (by omega) HK.out (by rw [HM.out]; omega)
     rw [HQ0.out] at hdone
     subst hdone
     have c1 : decide ((4294967296 : Int) ≤ (q : Int)) = false := by simp; omega
     have c2 : decide ((4294967296 : Int) * (r : Int) + (un0 : Int) < (m : Int)) = false := by simp; omega
     have HC := aA_ hc
     clear hc
     go_wp2
     (try clear hc1)
     (try clear c1)
     (try go_wp2)
     go_ret2
     exact ⟨rfl, Drawn0.refl _⟩

theorem div_numbers (hi lo y P R : Nat) (hPR : R * P = 18446744073709551616) (hy : hi < y) (hR : y < R) (hR2 : R ≤ 2 * y) (hlo : lo < 18446744073709551616) :
  9223372036854775808 ≤ y * P ∧ y * P < 18446744073709551616 ∧ hi * P < 18446744073709551616 ∧ lo / R < P ∧ hi * P + lo / R < y * P ∧ lo * P % 18446744073709551616 = lo % R * P ∧
  (hi * 18446744073709551616 + lo) * P = (hi * P + lo / R) * 18446744073709551616 + lo % R * P := by
 have hP : 0 < P := Nat.pos_of_ne_zero (fun h => by rw [h] at hPR; simp at hPR)
 have h1 : y * P < R * P := Nat.mul_lt_mul_of_pos_right hR hP
 have h2 : R * P ≤ 2 * y * P := Nat.mul_le_mul_right _ hR2
 rw [Nat.mul_assoc] at h2
 have h3 : hi * P + P ≤ y * P := by
  have := Nat.mul_le_mul_right P (show hi + 1 ≤ y from hy)
  rw [Nat.add_mul, Nat.one_mul] at this
  exact this
 have h4 : lo / R < P := by
  rw [Nat.div_lt_iff_lt_mul (by omega)]
  rw [Nat.mul_comm]
  omega
 have h5 := Nat.div_add_mod lo R
 have h6 : lo % R * P < 18446744073709551616 := by
  rw [← hPR]
  exact Nat.mul_lt_mul_of_pos_right (Nat.mod_lt _ (by omega)) hP
 have h7 : lo * P = 18446744073709551616 * (lo / R) + lo % R * P := by
  rw [← hPR]
  conv => lhs; rw [← h5]
  rw [Nat.add_mul, Nat.mul_right_comm]
 refine ⟨by omega, by omega, by omega, h4, by omega, ?_, ?_⟩
 ·rw [h7, Nat.mul_add_mod, Nat.mod_eq_of_lt h6]
 ·rw [Nat.add_mul, h7, Nat.mul_right_comm, Nat.add_mul]
  omega

theorem div_parts (U un0 Y : Nat) (hY : 0 < Y) : (U * 4294967296 + un0) / Y = U / Y * 4294967296 + (U % Y * 4294967296 + un0) / Y ∧ (U * 4294967296 + un0) % Y = (U % Y * 4294967296 + un0) % Y := by
 have h := Nat.div_add_mod U Y
 have e : U * 4294967296 + un0 = Y * (U / Y * 4294967296) + (U % Y * 4294967296 + un0) := by
  conv => lhs; rw [← h]
  rw [Nat.add_mul, Nat.mul_assoc]
  omega
 rw [e]
 exact ⟨by rw [Nat.mul_add_div hY], by rw [Nat.mul_add_mod]⟩

theorem split_two (u L : Nat) : u * 18446744073709551616 + L = (u * 4294967296 + L / 4294967296) * 4294967296 + L % 4294967296 := by omega
theorem div_two (u L Y : Nat) (hY : 0 < Y) : ∃ Q1 v Q0 RM, (u * 4294967296 + L / 4294967296) / Y = Q1 ∧ (v * 4294967296 + L % 4294967296) / Y = Q0 ∧ Y * Q1 + v = u * 4294967296 + L / 4294967296 ∧ v < Y ∧
  Y * Q0 + RM = v * 4294967296 + L % 4294967296 ∧ RM < Y ∧ (u * 18446744073709551616 + L) / Y = Q1 * 4294967296 + Q0 ∧ (u * 18446744073709551616 + L) % Y = RM := by
 obtain ⟨d1, d2⟩ := div_parts (u * 4294967296 + L / 4294967296) (L % 4294967296) Y hY
 rw [← split_two] at d1 d2
 exact ⟨_, _, _, _, rfl, rfl, Nat.div_add_mod _ _, Nat.mod_lt _ hY, Nat.div_add_mod _ _, Nat.mod_lt _ hY, d1, d2⟩

theorem wrap_back (a b c : Int) (u : Nat) (h : a + b - c = u) (hu : u < 18446744073709551616) :
  IntKind.u64.wrap (IntKind.u64.wrap (IntKind.u64.wrap a + b) - IntKind.u64.wrap c) = (u : Int) := by
 simp only [IntKind.wrap_u64]
 omega

theorem or_add (a b s : Nat) (hb : b < 2 ^ s) : a * 2 ^ s ||| b = a * 2 ^ s + b := by
 rw [← Nat.shiftLeft_eq, Nat.shiftLeft_add_eq_or_of_lt hb]

theorem low32 (L : Nat) (hL : L < 18446744073709551616) : Go.bits .and .u64 (L : Int) 4294967295 = ((L % 4294967296 : Nat) : Int) := by
 have := u64_and_nat L 4294967295 hL (by omega)
 rw [show ((4294967295 : Nat) : Int) = 4294967295 from rfl] at this
 rw [this]
 congr 1
 exact Nat.and_two_pow_sub_one_eq_mod L 32

theorem sub_wrap (u y1 : Nat) (hu : u < 18446744073709551616) (hy : 0 < y1) : IntKind.u64.wrap ((u : Int) / (y1 : Int)) = ((u / y1 : Nat) : Int) ∧
  IntKind.u64.wrap ((u : Int) - IntKind.u64.wrap (((u / y1 : Nat) : Int) * (y1 : Int))) = ((u - u / y1 * y1 : Nat) : Int) := by
 have h1 : u / y1 ≤ u := Nat.div_le_self _ _
 have h2 : u / y1 * y1 ≤ u := Nat.div_mul_le_self _ _
 rw [← Int.natCast_ediv]
 generalize u / y1 = q at h1 h2
 refine ⟨IntWalk.u64_in _ (by omega), ?_⟩
 ·rw [u64_mul_id _ _ (by omega)]
  rw [Int.natCast_sub h2]
  exact IntWalk.u64_in _ (by omega)

set_option maxRecDepth 100000 in
theorem div64_all (hi lo y : Nat) (h0 : 0 < hi) (hy : hi < y) (hl : lo < 18446744073709551616) (hy2 : y < 18446744073709551616) (w : World) :
  Calls Tryd.prog 67 #[.int .u64 hi, .int .u64 lo, .int .u64 y] w fun e w' => e = .returned (.tuple #[.int .u64 (((hi * 18446744073709551616 + lo) / y : Nat) : Int), .int .u64 (((hi * 18446744073709551616 + lo) % y : Nat) : Int)]) ∧ Drawn0 w w' := by
 obtain ⟨b1, b2, b3⟩ := Lib.bitLenAux_bounds 64 y (by simpa using hy2) (by omega)
 have b4 : Lib.bitLen y ≤ 64 := Lib.bitLen_le y 64 (by omega) (by simpa using hy2)
 have b5 : Lib.bitLenAux 64 y = Lib.bitLen y := rfl
 rw [b5] at b1 b2 b3
 generalize hb : Lib.bitLen y = b at b1 b2 b3 b4
 have hs1 : 64 - (64 - b) = b := by omega
 have hPR : 2 ^ b * 2 ^ (64 - b) = 18446744073709551616 := by rw [← Nat.pow_add, show b + (64 - b) = 64 by omega]
 have hR2 : 2 ^ b ≤ 2 * y := by
  rw [show b = (b - 1) + 1 by omega, Nat.pow_succ]
  omega
 obtain ⟨n1, n2, n3, n4, n5, n6, n7⟩ := div_numbers hi lo y (2 ^ (64 - b)) (2 ^ b) hPR hy b3 hR2 hl
 have n8 : lo % 2 ^ b * 2 ^ (64 - b) < 18446744073709551616 := by rw [← n6]; exact Nat.mod_lt _ (by omega)
 have hQ : (hi * 18446744073709551616 + lo) / y < 18446744073709551616 := by
  rw [Nat.div_lt_iff_lt_mul (by omega)]
  omega
 have e1 := Nat.mul_div_mul_right (hi * 18446744073709551616 + lo) y (show 0 < 2 ^ (64 - b) from Nat.two_pow_pos _)
 have e2 := Nat.mul_mod_mul_right (2 ^ (64 - b)) (hi * 18446744073709551616 + lo) y
 rw [n7] at e1 e2
 have cl : ((2 : Int) ^ b) = ((2 ^ b : Nat) : Int) := by simp
 have cl2 : ((2 : Int) ^ (64 - b)) = ((2 ^ (64 - b) : Nat) : Int) := by simp
 have hs : IntKind.u64.wrap (64 - (Lib.bitLen y : Int)) = ((64 - b : Nat) : Int) := by
  rw [hb, show (64 - (b : Int)) = ((64 - b : Nat) : Int) by omega]
  exact IntWalk.u64_in _ (by omega)
 generalize hs' : 64 - b = s at hs hPR n1 n2 n3 n4 n5 n6 n7 n8 e1 e2 cl2
 have hbs : 64 - s = b := by omega
 generalize hP : 2 ^ s = P at hPR n1 n2 n3 n4 n5 n6 n7 n8 e1 e2 cl2
 have hun : Go.bits .or .u64 (IntKind.u64.wrap (↑hi * 2 ^ s)) (↑lo / 2 ^ (64 - s)) = ((hi * P + lo / 2 ^ b : Nat) : Int) := by
  rw [hbs, cl, cl2, ← Int.natCast_ediv, u64_mul_id hi P (by omega), u64_or_nat _ _ (by omega) (by omega), ← hP, or_add _ _ _ (by omega)]
 have hYw : IntKind.u64.wrap (↑y * 2 ^ s) = ((y * P : Nat) : Int) := by rw [cl2, u64_mul_id y P (by omega)]
 have hLw : IntKind.u64.wrap (↑lo * 2 ^ s) = ((lo % 2 ^ b * P : Nat) : Int) := by
  rw [cl2, ← n6, ← Int.natCast_mul, IntKind.wrap_u64]
  omega
 generalize hY : y * P = Y at n1 n2 n5 e1 e2 hYw
 generalize hL : lo % 2 ^ b * P = L at n6 n7 n8 e1 e2 hLw
 generalize hu : hi * P + lo / 2 ^ b = u at n5 n7 e1 e2 hun
 have hsplit : Y / 4294967296 * 4294967296 + Y % 4294967296 = Y := Nat.div_add_mod' Y 4294967296
 have hLs : L / 4294967296 * 4294967296 + L % 4294967296 = L := Nat.div_add_mod' L 4294967296
 obtain ⟨Q1, v, Q0, RM, hQ1, hQ0, hUd, hUm, hVd, hVm, f1, f2⟩ := div_two u L Y (by omega)
 rw [f1] at e1
 rw [f2] at e2
 have hu1 := sub_wrap u (Y / 4294967296) (by omega) (by omega)
 have hv1 := sub_wrap v (Y / 4294967296) (by omega) (by omega)
 have hk1 : KInv u (L / 4294967296) (Y / 4294967296) (Y % 4294967296) (u / (Y / 4294967296)) (u - u / (Y / 4294967296) * (Y / 4294967296)) := kinv_start _ _ _ _ (by omega) (by omega) (by omega) (by omega) (by omega)
 have hk2 : KInv v (L % 4294967296) (Y / 4294967296) (Y % 4294967296) (v / (Y / 4294967296)) (v - v / (Y / 4294967296) * (Y / 4294967296)) := kinv_start _ _ _ _ (by omega) (by omega) (by omega) (by omega) (by omega)
 refine (div64_big hi lo y s Y (by omega) hy (by omega) (by omega) w hs (by omega) hYw (by omega) (Y / 4294967296) (Y % 4294967296) u L (L / 4294967296) (L % 4294967296)
  (by omega) (low32 Y n2) hun hLw (by omega) (low32 L n8) _ _ hu1.1 hu1.2 ⟨hk1⟩ Q1 ⟨by rw [hsplit]; exact hQ1⟩ ⟨by rw [hsplit]; exact n5⟩ v ?_ ⟨by rw [hsplit]; exact hUm⟩ _ _ hv1.1 hv1.2 ⟨hk2⟩ (by omega)
  Q0 ((hi * 18446744073709551616 + lo) / y) RM ⟨by rw [hsplit]; exact hQ0⟩ ?_ ?_ (by omega) (by omega) (by omega) (by omega) (by omega) (by omega)).mono ?_
 ·refine wrap_back _ _ _ v ?_ (by omega)
  rw [← Int.natCast_mul, Nat.mul_comm Q1 Y]
  omega
 ·simp only [IntKind.wrap_u64]
  omega
 ·refine wrap_back _ _ _ RM ?_ (by omega)
  rw [← Int.natCast_mul, Nat.mul_comm Q0 Y]
  omega
 ·rintro e w' ⟨rfl, hd⟩
  refine ⟨?_, hd⟩
  rw [cl2, ← Int.natCast_ediv, e2, Nat.mul_div_cancel _ (Nat.lt_of_le_of_lt (Nat.zero_le _) n4)]

set_option maxHeartbeats 8000000 in
set_option maxRecDepth 100000 in
theorem div64_small (lo y : Nat) (hy : 0 < y) (hl : lo ≤ 18446744073709551615) (hy2 : y ≤ 18446744073709551615) (w : World) :
  Calls Tryd.prog 67 #[.int .u64 0, .int .u64 lo, .int .u64 y] w fun e w' => e = .returned (.tuple #[.int .u64 (IntKind.u64.wrap ((lo : Int) / (y : Int))), .int .u64 ((lo : Int) % (y : Int))]) ∧ Drawn0 w w' := by
 have y0 : ((y : Int) == 0) = false := by simp; omega
 have y2 : 0 < (y : Int) := by omega
 have y1 : decide ((y : Int) ≤ 0) = false := by simp; omega
 go_enter Tryd.func67, Tryd.ntmps67
 go_wp2
 go_quiet (fail)
 go_wp2
 go_ret2
 exact ⟨rfl, ⟨⟨nq, rfl⟩⟩⟩

theorem div64_calls (hi lo y : Nat) (hy : hi < y) (hl : lo < 18446744073709551616) (hy2 : y < 18446744073709551616) (w : World) :
  Calls Tryd.prog 67 #[.int .u64 hi, .int .u64 lo, .int .u64 y] w fun e w' => e = .returned (.tuple #[.int .u64 (((hi * 18446744073709551616 + lo) / y : Nat) : Int), .int .u64 (((hi * 18446744073709551616 + lo) % y : Nat) : Int)]) ∧ Drawn0 w w' := by
 by_cases h0 : hi = 0
 ·subst h0
  simp only [Nat.zero_mul, Nat.zero_add]
  refine (div64_small lo y hy (by omega) (by omega) w).mono ?_
  rintro e w' ⟨rfl, hd⟩
  exact ⟨by rw [(sub_wrap lo y hl hy).1, Int.natCast_emod], hd⟩
 ·exact div64_all hi lo y (by omega) hy hl hy2 w

theorem div_step (a b : Nat) (l part y : Nat) (hab : a ≠ b) (hl : l < y) (hp : part < 18446744073709551616) (hy : y < 18446744073709551616) (w0 w : World) (hB : Below w0.heap.size w0 w) (hge : w0.heap.size ≤ a)
  (ha : w.heap[a]? = some (.cells #[.int .u64 l] 68 (0, 0))) (hb : w.heap[b]? = some (.cells #[.int .u64 y] 68 (0, 0))) :
  Calls Tryd.prog 66 #[.int .u64 part, .pointer (some ⟨a, 0, none⟩), .pointer (some ⟨b, 0, none⟩)] w fun e w' => e = .returned (.int .u64 (((l * 18446744073709551616 + part) / y : Nat) : Int)) ∧
   w'.heap[a]? = some (.cells #[.int .u64 (((l * 18446744073709551616 + part) % y : Nat) : Int)] 68 (0, 0)) ∧ KeepBut w w' a none ∧ Below w0.heap.size w0 w' := by
 have hca : w.cell? ⟨a, 0, none⟩ = some (.int .u64 l) := (blk_cell ha 0).trans rfl
 have hcb : w.cell? ⟨b, 0, none⟩ = some (.int .u64 y) := (blk_cell hb 0).trans rfl
 have hfa := blk_frozen ha 0
 have HA := aA_ ha
 have HB := aA_ hB
 clear ha hb hB
 go_enter Tryd.func66, Tryd.ntmps66
 go_wp2_with (go_at_call 67; refine (div64_calls l part y hl hp hy _).mono ?_; rintro e w' ⟨rfl, ⟨n, rfl⟩⟩)
 go_ret
 refine ⟨rfl, ?_, ?_, below_set (pw_below_drewN HB.out n) hge⟩
 ·exact (blk_set (blk_drewN HA.out n) 0 _).trans (by simp)
 ·exact KeepBut.set_ (keep_drewN (KeepBut.refl w a none) n) 0 _

theorem alloc_at (w : World) (o : Obj) (n : Nat) (h : n = w.heap.size) : (w.alloc o).heap[n]? = some o := by subst h; exact blk_new w o

def wide_Div.f (a0_0 a0_1 a1 : Int) : Option (Int × Int × Int × Int) :=
 if U64 a0_0 ∧ U64 a0_1 ∧ U64 a1 then
  if a1 = 0 then some (0, 0, 0, 7)
  else some (a0_0 / a1, (a0_0 % a1 * 18446744073709551616 + a0_1) / a1, (a0_0 % a1 * 18446744073709551616 + a0_1) % a1, 0)
 else none

set_option maxHeartbeats 8000000 in
set_option maxRecDepth 100000 in
theorem wide_div_zero (hi lo : Nat) (w : World) :
  Calls Tryd.prog 51 #[.agg #[.int .u64 hi, .int .u64 lo], .int .u64 0] w fun e w' => e = .returned (.tuple #[.agg #[.int .u64 0, .int .u64 0], .int .u64 0, .int .i64 7]) ∧ Below w.heap.size w w' := by
 have hu := Tryd.underlying72
 have HB := aA_ (Below.refl w.heap.size w)
 go_enter Tryd.func51, Tryd.ntmps51
 go_wp2
 refine bodyPost_ret (results_ctt rfl _ _ (w.heap.size + 1 + 1) 72 #[.int .u64 0, .int .u64 0] (0, 0) _ rfl (alloc_at _ _ _ (by simp)) hu rfl (by kernel_rfl)) rfl ⟨rfl, ?_⟩
 exact below_alloc (below_alloc (below_alloc HB.out _) _) _

set_option maxHeartbeats 8000000 in
set_option maxRecDepth 100000 in
theorem wide_div_some (hi lo d : Nat) (hd : 0 < d) (h1 : hi < 18446744073709551616) (h2 : lo < 18446744073709551616) (h3 : d < 18446744073709551616) (w : World) :
  Calls Tryd.prog 51 #[.agg #[.int .u64 hi, .int .u64 lo], .int .u64 d] w fun e w' => e = .returned (.tuple #[.agg #[.int .u64 ((hi / d : Nat) : Int), .int .u64 (((hi % d * 18446744073709551616 + lo) / d : Nat) : Int)], .int .u64 (((hi % d * 18446744073709551616 + lo) % d : Nat) : Int), .int .i64 0]) ∧ Below w.heap.size w w' := by
 have hu := Tryd.underlying72
 have HB := aA_ (Below.refl w.heap.size w)
 have d0 : ((d : Int) == 0) = false := by simp; omega
 have hm : hi % d < d := Nat.mod_lt _ hd
 go_enter Tryd.func51, Tryd.ntmps51
 go_wp2_with (fail)
 have hB1 : Below w.heap.size w ((((w.alloc (Obj.cells #[Value.int IntKind.u64 ↑hi, Value.int IntKind.u64 ↑lo] 72)).alloc (Obj.cells #[Value.int IntKind.u64 ↑d] 68)).alloc (Obj.cells #[Value.int IntKind.u64 0, Value.int IntKind.u64 0] 72)).alloc (Obj.cells #[Value.int IntKind.u64 0] 68)) := below_alloc (below_alloc (below_alloc (below_alloc HB.out _) _) _) _
 generalize hW : ((((w.alloc (Obj.cells #[Value.int IntKind.u64 ↑hi, Value.int IntKind.u64 ↑lo] 72)).alloc (Obj.cells #[Value.int IntKind.u64 ↑d] 68)).alloc (Obj.cells #[Value.int IntKind.u64 0, Value.int IntKind.u64 0] 72)).alloc (Obj.cells #[Value.int IntKind.u64 0] 68)) = W at hB1 ⊢
 have bx : W.heap[w.heap.size]? = some (.cells #[.int .u64 hi, .int .u64 lo] 72 (0, 0)) := by rw [← hW]; exact blk_alloc (blk_alloc (blk_alloc (alloc_at _ _ _ (by simp)) _) _) _
 have bd : W.heap[w.heap.size + 1]? = some (.cells #[.int .u64 d] 68 (0, 0)) := by rw [← hW]; exact blk_alloc (blk_alloc (alloc_at _ _ _ (by simp)) _) _
 have br : W.heap[w.heap.size + 1 + 1]? = some (.cells #[.int .u64 0, .int .u64 0] 72 (0, 0)) := by rw [← hW]; exact blk_alloc (alloc_at _ _ _ (by simp)) _
 have bl : W.heap[w.heap.size + 1 + 1 + 1]? = some (.cells #[.int .u64 ((0 : Nat) : Int)] 68 (0, 0)) := by rw [← hW]; exact alloc_at _ _ _ (by simp)
 clear hW HB
 refine (div_step (w.heap.size + 1 + 1 + 1) (w.heap.size + 1) 0 hi d (by omega) hd h1 h3 w W hB1 (by omega) bl bd).mono ?_
 rintro e w1 ⟨rfl, bl1, hk1, hb1⟩
 simp only [Nat.zero_mul, Nat.zero_add] at bl1 ⊢
 have bx1 := hk1.blk bx (by omega) (by simp)
 have bd1 := hk1.blk bd (by omega) (by simp)
 have br1 := hk1.blk br (by omega) (by simp)
 have cx1 : w1.cell? ⟨w.heap.size, 1, none⟩ = some (.int .u64 lo) := (blk_cell bx1 1).trans rfl
 have BX1 := aA_ bx1
 have BD1 := aA_ bd1
 have BR1 := aA_ br1
 have BL1 := aA_ bl1
 have HB1 := aA_ hb1
 clear bx bd br bl bx1 bd1 br1 bl1 hk1 hB1 hb1
 go_wp2_with (fail)
 refine (div_step (w.heap.size + 1 + 1 + 1) (w.heap.size + 1) (hi % d) lo d (by omega) hm h2 h3 w w1 HB1.out (by omega) BL1.out BD1.out).mono ?_
 rintro e w2 ⟨rfl, bl2, hk2, hb2⟩
 have br2 := hk2.blk BR1.out (by omega) (by simp)
 have BR2 := aA_ br2
 have BL2 := aA_ bl2
 have cl2 : w2.cell? ⟨w.heap.size + 1 + 1 + 1, 0, none⟩ = some (.int .u64 (((hi % d * 18446744073709551616 + lo) % d : Nat) : Int)) := (blk_cell bl2 0).trans rfl
 have cr20 : w2.cell? ⟨w.heap.size + 1 + 1, 0, none⟩ = some (.int .u64 0) := (blk_cell br2 0).trans rfl
 have cr21 : w2.cell? ⟨w.heap.size + 1 + 1, 1, none⟩ = some (.int .u64 0) := (blk_cell br2 1).trans rfl
 have fr20 := blk_frozen br2 0
 have fr21 := blk_frozen br2 1
 have HB2 := aA_ hb2
 clear bl2 br2 hk2 hb2 HB1 BX1 BD1 BR1 BL1 cx1
 go_wp2
 go_region
 all_goals go_wp2
 all_goals
  refine bodyPost_ret (results_ctt rfl _ _ (w.heap.size + 1 + 1) 72 #[.int .u64 ((hi : Int) / (d : Int)), .int .u64 (((hi : Int) % (d : Int) * 18446744073709551616 + (lo : Int)) / (d : Int))] (0, 0) _ rfl (blk_drew (blk_put (blk_put BR2.out 0 _ rfl) 1 _ rfl)) hu rfl (by kernel_rfl)) rfl ⟨by simp, ?_⟩
  exact below_drew1 (below_set (below_set HB2.out (by omega)) (by omega))

theorem wide_Div.calls (a0_0 : Int) (a0_1 : Int) (a1 : Int) (r1 : Int) (r2 : Int) (r3 : Int) (r4 : Int) (w : World) (h : wide_Div.f a0_0 a0_1 a1 = some (r1, r2, r3, r4)) :
  Calls Tryd.prog 51 #[.agg #[.int .u64 a0_0, .int .u64 a0_1], .int .u64 a1] w fun e w' => e = .returned (.tuple #[.agg #[.int .u64 r1, .int .u64 r2], .int .u64 r3, .int .i64 r4]) ∧ Below w.heap.size w w' := by
 unfold wide_Div.f at h
 split at h
 ·rename_i hu
  obtain ⟨⟨h0, h1⟩, ⟨h2, h3⟩, h4, h5⟩ := hu
  obtain ⟨a, rfl⟩ := Int.eq_ofNat_of_zero_le h0
  obtain ⟨b, rfl⟩ := Int.eq_ofNat_of_zero_le h2
  obtain ⟨c, rfl⟩ := Int.eq_ofNat_of_zero_le h4
  split at h
  ·rename_i hc
   simp only [Option.some.injEq, Prod.mk.injEq] at h
   obtain ⟨rfl, rfl, rfl, rfl⟩ := h
   rw [hc]
   exact wide_div_zero a b w
  ·simp only [Option.some.injEq, Prod.mk.injEq] at h
   obtain ⟨rfl, rfl, rfl, rfl⟩ := h
   refine (wide_div_some a b c (by omega) (by omega) (by omega) (by omega) w).mono ?_
   rintro e w' ⟨rfl, hb⟩
   exact ⟨by simp, hb⟩
 ·cases h
end Go.Proofs.YtbapgkopilmdfaaDoor.X
