/- RatioGcd: what divides two numbers divides both; of their parts by it nothing above 1 does; it is the same either way, and goes through sums. -/
import Derived.Test.YtcdbmmlnmefoeaaXRatioGcd
import Derived.Test.YtcdbmmlnmefoeaaTWide
namespace Go.Proofs.Ytcdbmmlnmefoeaa.Pure
set_option maxRecDepth 10000
open Go.RowKit Go.Proofs.Ytcdbmmlnmefoeaa.X Go.Proofs.YtcdbmmlnmefoeaaW.PrintWords Go.Proofs.YtcdbmmlnmefoeaaW.PrintLast

theorem shown_two : demurragelaw02_shown.f 5 = some true := by kernel_rfl

theorem gcd_nat (x y : Nat) (hx : (x : Int) ≤ 18446744073709551615) (hy : (y : Int) ≤ 18446744073709551615) : ratio_Gcd.f x y = some (Nat.gcd x y : Int) := by
  have ux : U64 (x : Int) := ⟨Int.natCast_nonneg x, by omega⟩
  have uy : U64 (y : Int) := ⟨Int.natCast_nonneg y, by omega⟩
  unfold ratio_Gcd.f
  rw [if_pos ⟨ux, uy⟩, Int.toNat_natCast, Int.toNat_natCast]

theorem gcd_two (z : Nat) (hz : (z : Int) ≤ 18446744073709551615) : IntKind.u64.wrap (Int.tdiv (z : Int) 2) = ((z / 2 : Nat) : Int) := by
  rw [IntWalk.u64_quo (z : Int) 2 ⟨by omega, by omega, by omega⟩]
  omega

theorem gcd_quo (x g : Nat) (hx : (x : Int) ≤ 18446744073709551615) : IntKind.u64.wrap (Int.tdiv (x : Int) (g : Int)) = ((x / g : Nat) : Int) := by
  have l1 : ((x / g : Nat) : Int) ≤ x := Int.ofNat_le.mpr (Nat.div_le_self x g)
  have e : Int.tdiv (x : Int) (g : Int) = ((x / g : Nat) : Int) := by rw [← Int.ofNat_tdiv]
  rw [e]
  generalize x / g = u at l1
  exact IntWalk.u64_in (u : Int) ⟨Int.natCast_nonneg u, by omega⟩

theorem gcd_rem (x g : Nat) (h : g ∣ x) : Int.tmod (x : Int) (g : Int) = 0 := by
  rw [← Int.ofNat_tmod, Nat.mod_eq_zero_of_dvd h]
  exact Int.natCast_zero

theorem gcd_go (x y : Nat) (hx : (x : Int) ≤ 18446744073709551615) (hy : (y : Int) ≤ 18446744073709551615) (gp : 0 < Nat.gcd x y) :
    demurragelaw02_RatioGcd.j0 5 x y true (Nat.gcd x y : Int) false = some true := by
  rw [demurragelaw02_RatioGcd.j0]
  have d1 := Nat.gcd_dvd_left x y
  have d2 := Nat.gcd_dvd_right x y
  have l3 : ((x / Nat.gcd x y : Nat) : Int) ≤ 18446744073709551615 := Int.le_trans (Int.ofNat_le.mpr (Nat.div_le_self x _)) hx
  have l4 : ((y / Nat.gcd x y : Nat) : Int) ≤ 18446744073709551615 := Int.le_trans (Int.ofNat_le.mpr (Nat.div_le_self y _)) hy
  have s1 : IntKind.u64.wrap (((x / 2 : Nat) : Int) + ((y / 2 : Nat) : Int)) = ((x / 2 + y / 2 : Nat) : Int) := by
    rw [IntWalk.u64_in _ ⟨by omega, by omega⟩]; omega
  have c1 := gcd_nat (x / Nat.gcd x y) (y / Nat.gcd x y) l3 l4
  rw [Nat.gcd_div d1 d2, Nat.div_self gp] at c1
  have c2 := gcd_nat y x hy hx
  rw [Nat.gcd_comm y x] at c2
  have c3 := gcd_nat x 0 hx (by omega)
  rw [Nat.gcd_zero_right, Int.natCast_zero] at c3
  have c4 := gcd_nat x x hx hx
  rw [Nat.gcd_self] at c4
  have c5 := gcd_nat (x / 2) (y / 2) (by omega) (by omega)
  have c6 := gcd_nat (x / 2 + y / 2) (y / 2) (by omega) (by omega)
  rw [Nat.gcd_add_self_left] at c6
  rw [gcd_quo x _ hx, gcd_quo y _ hy, gcd_rem x _ d1, gcd_rem y _ d2, gcd_two x hx, gcd_two y hy, s1, c1, c2, c3, c4, c5, c6]
  have n0 : ¬ ((Nat.gcd x y : Nat) : Int) = 0 := by omega
  simp only [Option.bind_some, if_true, Bool.false_eq_true, if_false, if_neg n0, Int.natCast_one, beq_self_eq_true]

theorem RatioGcd (a b : Int) (wa : (Lit.int .u64 a).wf = true) (wb : (Lit.int .u64 b).wf = true) : ∃ k, demurragelaw02_RatioGcd.f k a b = some true := by
  refine ⟨5, ?_⟩
  have ha := u64_wf wa
  have hb := u64_wf wb
  obtain ⟨x, rfl⟩ : ∃ x : Nat, a = x := ⟨a.toNat, by have := ha.1; omega⟩
  obtain ⟨y, rfl⟩ : ∃ y : Nat, b = y := ⟨b.toNat, by have := hb.1; omega⟩
  have hx : (x : Int) ≤ 18446744073709551615 := by have := ha.2; omega
  have hy : (y : Int) ≤ 18446744073709551615 := by have := hb.2; omega
  unfold demurragelaw02_RatioGcd.f
  rw [shown_two, gcd_nat x y hx hy]
  simp only [Option.bind_some]
  by_cases hz : x = 0 ∧ y = 0
  · obtain ⟨rfl, rfl⟩ := hz
    rw [if_pos Int.natCast_zero, Nat.gcd_zero_left, demurragelaw02_RatioGcd.j0]
    rfl
  · have gp : 0 < Nat.gcd x y := by
      rcases Nat.eq_zero_or_pos (Nat.gcd x y) with h | h
      · exact absurd (Nat.gcd_eq_zero_iff.mp h) hz
      · exact h
    have go := gcd_go x y hx hy gp
    by_cases h0 : (x : Int) = 0
    · rw [if_pos h0]
      have : ((y : Int) == 0) = false := by
        rw [beq_eq_false_iff_ne]
        intro h
        exact hz ⟨by omega, by omega⟩
      rw [this]
      exact go
    · rw [if_neg h0]
      exact go
end Go.Proofs.Ytcdbmmlnmefoeaa.Pure
