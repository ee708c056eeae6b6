-- CUT by prune.py, a program of this session, to what the claim reaches (out of a text that the kit's printer, the session's programs or the session wrote)
import Derived.Test.YtcdbmmlnmefoeaaPRatioLawsTRatio
set_option maxRecDepth 10000
namespace Go.Proofs.Ytcdbmmlnmefoeaa.Frac
open Go.Proofs.Ytcdbmmlnmefoeaa.X

/-- n / m, in lowest terms, is N / D. -/
def Is (n m N D : Nat) : Prop := n.gcd m = 1 ∧ 0 < m ∧ n * D = N * m
theorem Is.one {n m N D n' m' N' D' : Nat} (h : Is n m N D) (h' : Is n' m' N' D') (hD : 0 < D) (hD' : 0 < D') (e : N * D' = N' * D) : n = n' ∧ m = m' := by
  obtain ⟨h1, h2, h3⟩ := h
  obtain ⟨g1, g2, g3⟩ := h'
  refine same ?_ h1 g1 g2
  refine Nat.eq_of_mul_eq_mul_right (Nat.mul_pos hD hD') ?_
  have a : n * m' * (D * D') = (n * D) * (m' * D') := by simp only [Nat.mul_comm, Nat.mul_left_comm]
  have b : n' * m * (D * D') = (n' * D') * (m * D) := by simp only [Nat.mul_comm, Nat.mul_left_comm]
  rw [a, b, h3, g3]
  have c : N * m * (m' * D') = (N * D') * (m * m') := by simp only [Nat.mul_comm, Nat.mul_left_comm]
  have d : N' * m' * (m * D) = (N' * D) * (m * m') := by simp only [Nat.mul_comm, Nat.mul_left_comm]
  rw [c, d, e]

theorem add_is {a b c d : Nat} (ha : a ≤ 4611686018427387904) (hb : b ≤ 4611686018427387904) (hc : c ≤ 4611686018427387904) (hd : d ≤ 4611686018427387904) (b0 : 0 < b) (d0 : 0 < d) (h1 : a.gcd b = 1) (h2 : c.gcd d = 1) :
    ∃ n m, ratio_Add.f a b c d = some (made n m) ∧ Is n m (a * d + c * b) (b * d) := by
  obtain ⟨g1, g2, g3⟩ := add b0 d0 h1 h2
  exact ⟨_, _, radd_eq ha hb hc hd b0 d0, g1, g3, g2⟩
theorem mul_is {a b c d : Nat} (ha : a ≤ 4611686018427387904) (hb : b ≤ 4611686018427387904) (hc : c ≤ 4611686018427387904) (hd : d ≤ 4611686018427387904) (b0 : 0 < b) (d0 : 0 < d) (h1 : a.gcd b = 1) (h2 : c.gcd d = 1) :
    ∃ n m, ratio_Mul.f a b c d = some (made n m) ∧ Is n m (a * c) (b * d) := by
  obtain ⟨g1, g2, g3⟩ := mul b0 d0 h1 h2
  exact ⟨_, _, rmul_eq (by omega) (by omega) (by omega) (by omega) b0 d0, g1, g3, g2⟩
theorem made_ok {n m : Nat} (hn : n ≤ 4611686018427387904) (hm : m ≤ 4611686018427387904) : made n m = ((n : Int), (m : Int), 0) := by
  unfold made
  rw [if_pos ⟨by omega, by omega⟩]
theorem made_six {n m : Nat} (h : ¬ (n ≤ 4611686018427387904 ∧ m ≤ 4611686018427387904)) : made n m = (0, 0, 6) := by
  unfold made
  rw [if_neg (by omega)]
end Go.Proofs.Ytcdbmmlnmefoeaa.Frac
