-- cut by prune.py, a program of this session
import Derived.Test.YtbapgkopilmdfaaDoorPActualMovesHBits
import Derived.ScopeJumps
import Derived.Scope
import Derived.WalkMore
namespace Go.Proofs.YtbapgkopilmdfaaDoor.X
open Go.RowKit Go.Proofs.YtbapgkopilmdfaaDoorW.PrintWords Go.Proofs.YtbapgkopilmdfaaDoorW.PrintLast Go.Proofs.YtbapgkopilmdfaaDoorW.PrintMore
set_option linter.unusedVariables false
set_option linter.unusedSimpArgs false

def ratio_Gcd.f (a0 a1 : Int) : Option Int := if U64 a0 ∧ U64 a1 then some (Nat.gcd a0.toNat a1.toNat : Int) else none

theorem gcd_step (a b : Nat) (hb : 0 < b) : Nat.gcd b (a % b) = Nat.gcd a b := by
 rw [Nat.gcd_comm a b, Nat.gcd_rec b a, Nat.gcd_comm]

def gcdInv (a b : Nat) (w : World) (a' : Act) (w' : World) : Prop :=
 Drawn0 w w' ∧ ∃ (x y : Nat) (u5 u6 u7 u8 u9 u10 u11 : Value), a' = { tmps := #[.int .u64 x, .int .u64 y, undef, undef, .int .u64 0, u5, u6, u7, u8, u9, u10, u11], defers := [] } ∧ Nat.gcd x y = Nat.gcd a b ∧ x ≤ 18446744073709551615 ∧ y ≤ 18446744073709551615

set_option maxHeartbeats 8000000 in
set_option maxRecDepth 100000 in
theorem gcd_walk (a b : Nat) (ha : a ≤ 18446744073709551615) (hb : b ≤ 18446744073709551615) (w : World) :
  Calls Tryd.prog 43 #[.int .u64 a, .int .u64 b] w fun e w' => e = .returned (.int .u64 (Nat.gcd a b : Nat)) ∧ Drawn0 w w' := by
 go_enter Tryd.func43, Tryd.ntmps43
 go_wp2
 refine wp_scope_jumps 0 (gcdInv a b w) (fun a' _ => (intOf (a'.tmps.getD 1 undef)).toNat) rfl ?_ ?_
 ·by_cases h0 : b = 0
  ·subst h0
   go_wp2
   go_step3
   go_wp2
   simp only [Exit.jump]
   go_ret
   exact ⟨by simp, Drawn0.refl _⟩
  ·have hb0 : ((b : Int) == 0) = false := by simpa using h0
   have hb1 : 0 < (b : Int) := by omega
   go_wp2
   go_step3
   go_wp2
   go_quiet (fail)
   go_wp2
   go_step3
   refine ⟨rfl, ⟨⟨nq, rfl⟩⟩, b, a % b, _, _, _, _, _, _, _, rfl, gcd_step a b (by omega), hb, Nat.le_trans (Nat.le_of_lt (Nat.mod_lt _ (by omega))) hb⟩
 ·rintro a' w' ⟨⟨n, rfl⟩, x, y, u5, u6, u7, u8, u9, u10, u11, rfl, hg, hx, hy⟩
  by_cases h0 : y = 0
  ·subst h0
   go_wp2
   simp only [Exit.jump]
   go_ret
   exact ⟨by rw [← hg]; simp, ⟨n, rfl⟩⟩
  ·have hb0 : ((y : Int) == 0) = false := by simpa using h0
   have hb1 : 0 < (y : Int) := by omega
   go_wp2
   go_quiet (fail)
   go_wp2
   go_step3
   refine ⟨rfl, ⟨⟨⟨n + nq, by rw [World.drewN_drewN]⟩⟩, y, x % y, _, _, _, _, _, _, _, rfl, (gcd_step x y (by omega)).trans hg, hy, Nat.le_trans (Nat.le_of_lt (Nat.mod_lt _ (by omega))) hy⟩, ?_⟩
   have hm : (x % y : Nat) < y := Nat.mod_lt _ (by omega)
   simp [intOf]
   omega

theorem ratio_Gcd.calls (a0 : Int) (a1 : Int) (r : Int) (w : World) (h : ratio_Gcd.f a0 a1 = some r) :
  Calls Tryd.prog 43 #[.int .u64 a0, .int .u64 a1] w fun e w' => e = .returned (.int .u64 r) ∧ Below w.heap.size w w' := by
 unfold ratio_Gcd.f at h
 split at h
 ·rename_i hu
  obtain ⟨⟨h0, h1⟩, h2, h3⟩ := hu
  obtain ⟨a, rfl⟩ := Int.eq_ofNat_of_zero_le h0
  obtain ⟨b, rfl⟩ := Int.eq_ofNat_of_zero_le h2
  obtain rfl := Option.some.inj h
  refine (gcd_walk a b (by omega) (by omega) w).mono ?_
  rintro e w' ⟨rfl, hd⟩
  exact ⟨by simp, hd.below⟩
 ·cases h
end Go.Proofs.YtbapgkopilmdfaaDoor.X
