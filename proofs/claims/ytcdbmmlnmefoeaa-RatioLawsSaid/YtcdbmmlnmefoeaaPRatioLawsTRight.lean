-- CUT by prune.py, a program of this session, to what the claim reaches (out of a text that the kit's printer, the session's programs or the session wrote)
import Derived.Test.YtcdbmmlnmefoeaaPRatioLawsXRefRight
import Derived.Test.YtcdbmmlnmefoeaaPRatioLawsTMore
set_option maxRecDepth 10000
namespace Go.Proofs.Ytcdbmmlnmefoeaa.X
open Go.RowKit Go.Proofs.YtcdbmmlnmefoeaaW.PrintWords Go.Proofs.YtcdbmmlnmefoeaaW.PrintLast

/-- A right fraction. -/
def Rgt (n d : Int) : Prop := 0 ≤ n ∧ n ≤ 4611686018427387904 ∧ 1 ≤ d ∧ d ≤ 4611686018427387904 ∧ Nat.gcd n.toNat d.toNat = 1
instance (n d : Int) : Decidable (Rgt n d) := by unfold Rgt; infer_instance

theorem right_loop : ∀ (m x y k : Nat), y ≤ m → m + 1 ≤ k → 0 < x + y → demurrageref02_Right.l0 k x y = some (Nat.gcd x y == 1) := by
  intro m
  induction m with
  | zero =>
    intro x y k hy hk h0
    obtain ⟨j, rfl⟩ : ∃ j, k = j + 1 := ⟨k - 1, by omega⟩
    obtain rfl : y = 0 := by omega
    rw [demurrageref02_Right.l0, if_neg (by omega)]
    unfold demurrageref02_divides.f
    rw [if_neg (by omega), Option.bind_some, Nat.gcd_zero_right]
    congr 1
    have e : Int.tmod 1 (x : Int) = ((1 % x : Nat) : Int) := by
      rw [Int.tmod_eq_emod_of_nonneg (by omega), Int.natCast_emod]
      rfl
    rw [e]
    by_cases h1 : x = 1
    · subst h1
      rfl
    · rw [Nat.mod_eq_of_lt (by omega : 1 < x)]
      simp [h1]
  | succ m ih =>
    intro x y k hy hk h0
    obtain ⟨j, rfl⟩ : ∃ j, k = j + 1 := ⟨k - 1, by omega⟩
    by_cases h1 : y = 0
    · subst h1
      exact ih x 0 (j + 1) (by omega) (by omega) h0
    · rw [demurrageref02_Right.l0, if_pos (by omega), if_neg (by omega)]
      have e : Int.tmod (x : Int) (y : Int) = ((x % y : Nat) : Int) := by
        rw [Int.tmod_eq_emod_of_nonneg (by omega), Int.natCast_emod]
      have l : x % y < y := Nat.mod_lt _ (by omega)
      rw [e, ih y (x % y) j (by omega) (by omega) (by omega), Nat.gcd_comm y, ← Nat.gcd_rec, Nat.gcd_comm]

theorem right_at (n d : Int) : At (fun k => demurrageref02_Right.f k n d) (decide (Rgt n d)) := by
  refine ⟨d.toNat + 3, fun k hk => ?_⟩
  obtain ⟨j, rfl⟩ : ∃ j, k = j + 1 := ⟨k - 1, by omega⟩
  have no : ∀ a b : Int, demurrageref02_Right.j0 (j + 1) true a b = some false := fun a b => by rw [demurrageref02_Right.j0, if_pos rfl]
  show demurrageref02_Right.f (j + 1) n d = _
  unfold demurrageref02_Right.f
  by_cases h1 : n < 0
  · rw [if_pos h1, no, decide_eq_false (fun h => by have := h.1; omega)]
  · rw [if_neg h1]
    by_cases h2 : n > 4611686018427387904
    · rw [if_pos h2, no, decide_eq_false (fun h => by have := h.2.1; omega)]
    · rw [if_neg h2]
      by_cases h3 : d < 1
      · rw [if_pos h3, no, decide_eq_false (fun h => by have := h.2.2.1; omega)]
      · rw [if_neg h3]
        by_cases h4 : d > 4611686018427387904
        · rw [decide_eq_true h4, no, decide_eq_false (fun h => by have := h.2.2.2.1; omega)]
        · rw [decide_eq_false h4, demurrageref02_Right.j0, if_neg (by decide)]
          obtain ⟨x, rfl⟩ := Int.eq_ofNat_of_zero_le (show 0 ≤ n by omega)
          obtain ⟨y, rfl⟩ := Int.eq_ofNat_of_zero_le (show 0 ≤ d by omega)
          rw [right_loop y x y j (Nat.le_refl _) (by omega) (by omega)]
          congr 1
          rw [Bool.eq_iff_iff, beq_iff_eq, decide_eq_true_eq]
          unfold Rgt
          rw [Int.toNat_natCast, Int.toNat_natCast]
          omega
end Go.Proofs.Ytcdbmmlnmefoeaa.X
