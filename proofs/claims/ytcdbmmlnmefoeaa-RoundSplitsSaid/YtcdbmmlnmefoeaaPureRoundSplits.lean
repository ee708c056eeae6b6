/- RoundSplits: of two numbers' sum what is rounded is never further off from both rounded than one; rounded down it isn't less, and at most one more. -/
import Derived.Test.YtcdbmmlnmefoeaaXRoundSplits
import Derived.Test.YtcdbmmlnmefoeaaTRound
namespace Go.Proofs.Ytcdbmmlnmefoeaa.Pure
open Go.RowKit Go.Proofs.Ytcdbmmlnmefoeaa.X Go.Proofs.YtcdbmmlnmefoeaaW.PrintWords Go.Proofs.YtcdbmmlnmefoeaaW.PrintLast

theorem split_u32 {a : Int} (h : (Lit.int .u32 a).wf = true) : 0 ≤ a ∧ a ≤ 4294967295 := by
  simp only [Lit.wf, IntKind.min, IntKind.max, IntKind.signed, IntKind.bits, Bool.and_eq_true] at h
  simp at h
  exact ⟨h.1, by omega⟩

theorem RoundSplits (a b d : Int) (wa : (Lit.int .u64 a).wf = true) (wb : (Lit.int .u64 b).wf = true) (wd : (Lit.int .u32 d).wf = true) : ∃ k, demurragelaw03_RoundSplits.f k a b d = some true := by
  refine ⟨5, ?_⟩
  have ha := u64_wf wa
  have hb := u64_wf wb
  have hd := split_u32 wd
  have w1 : IntKind.u64.wrap d = d := IntWalk.u64_in _ ⟨by omega, by omega⟩
  have w2 : IntKind.u64.wrap (2 + d) = 2 + d := IntWalk.u64_in _ ⟨by omega, by omega⟩
  have hx : 0 ≤ a / 4 ∧ a / 4 < 4611686018427387904 := by have := ha.1; have := ha.2; omega
  have hy : 0 ≤ b / 4 ∧ b / 4 < 4611686018427387904 := by have := hb.1; have := hb.2; omega
  unfold demurragelaw03_RoundSplits.f
  rw [shown_three, w1, w2]
  generalize a / 4 = x at hx
  generalize b / 4 = y at hy
  have hm : 2 ≤ 2 + d ∧ 2 + d ≤ 4294967297 := by omega
  generalize 2 + d = m at hm
  have hp : 0 < m := by omega
  have w3 : IntKind.u64.wrap (x + y) = x + y := IntWalk.u64_in _ ⟨by omega, by omega⟩
  have z0 : U64 0 := by decide
  have um : U64 m := ⟨by omega, by omega⟩
  have ux : U64 x := ⟨by omega, by omega⟩
  have uy : U64 y := ⟨by omega, by omega⟩
  have us : U64 (x + y) := ⟨by omega, by omega⟩
  have e0 : ∀ z, wv 0 z = z := by intro z; unfold wv; omega
  have half : ∀ z, 0 ≤ z → 2 * (z / m) ≤ z ∧ 0 ≤ z / m := by
    intro z hz
    have g0 : 0 ≤ z / m := Int.ediv_nonneg hz (by omega)
    have g1 := Int.mul_ediv_add_emod z m
    have g2 := Int.emod_nonneg z (show m ≠ 0 by omega)
    have g3 : 2 * (z / m) ≤ m * (z / m) := Int.mul_le_mul_of_nonneg_right hm.1 g0
    omega
  obtain ⟨hx1, hx2⟩ := half x hx.1
  obtain ⟨hy1, hy2⟩ := half y hy.1
  obtain ⟨hs1, hs2⟩ := half (x + y) (by omega)
  obtain ⟨x1, x2, x3, x4⟩ := ev_near (x := x) hp
  obtain ⟨y1, y2, y3, y4⟩ := ev_near (x := y) hp
  obtain ⟨s1, s2, s3, s4⟩ := ev_near (x := x + y) hp
  rw [w3]
  simp only [demurragelaw03_wide.f, Option.bind_some]
  rw [even_eq z0 us um (by omega), even_eq z0 ux um (by omega), even_eq z0 uy um (by omega), down_eq z0 us um (by omega), down_eq z0 ux um (by omega), down_eq z0 uy um (by omega), e0, e0, e0,
    if_pos ⟨by omega, by omega⟩, if_pos ⟨by omega, by omega⟩, if_pos ⟨by omega, by omega⟩, if_pos (by omega), if_pos (by omega), if_pos (by omega)]
  simp only [Option.bind_some, if_true]
  have f0 : ∀ z, z = z / m * m + z % m ∧ 0 ≤ z % m ∧ z % m < m := by
    intro z
    have g1 := Int.mul_ediv_add_emod z m
    rw [Int.mul_comm] at g1
    exact ⟨by omega, Int.emod_nonneg z (by omega), Int.emod_lt_of_pos z hp⟩
  obtain ⟨a1, a2, a3⟩ := f0 x
  obtain ⟨b1, b2, b3⟩ := f0 y
  obtain ⟨c1, c2, c3⟩ := f0 (x + y)
  have lin : ∀ p q r : Int, (p - q - r) * m = p * m - q * m - r * m := by intro p q r; rw [Int.sub_mul, Int.sub_mul]
  have near : ∀ p : Int, 2 * (p * m) < 4 * m → -(4 * m) < 2 * (p * m) → -1 ≤ p ∧ p ≤ 1 := by
    intro p h1 h2
    constructor
    · apply Int.le_of_not_gt
      intro h
      have : p * m ≤ -2 * m := Int.mul_le_mul_of_nonneg_right (by omega) (by omega)
      omega
    · apply Int.le_of_not_gt
      intro h
      have : 2 * m ≤ p * m := Int.mul_le_mul_of_nonneg_right (by omega) (by omega)
      omega
  have off := near (ev (x + y) m - ev x m - ev y m) (by rw [lin]; omega) (by rw [lin]; omega)
  have l1 := lin ((x + y) / m) (x / m) (y / m)
  have dn1 : 0 ≤ (x + y) / m - x / m - y / m := by
    apply Int.le_of_not_gt
    intro h
    have : ((x + y) / m - x / m - y / m) * m ≤ -1 * m := Int.mul_le_mul_of_nonneg_right (by omega) (by omega)
    omega
  have dn2 : (x + y) / m - x / m - y / m ≤ 1 := by
    apply Int.le_of_not_gt
    intro h
    have : 2 * m ≤ ((x + y) / m - x / m - y / m) * m := Int.mul_le_mul_of_nonneg_right (by omega) (by omega)
    omega
  rw [IntWalk.wrap64_in (ev (x + y) m - ev x m) ⟨by omega, by omega⟩, IntWalk.wrap64_in (ev (x + y) m - ev x m - ev y m) ⟨by omega, by omega⟩,
    IntWalk.wrap64_in ((x + y) / m - x / m) ⟨by omega, by omega⟩, IntWalk.wrap64_in ((x + y) / m - x / m - y / m) ⟨by omega, by omega⟩]
  rw [if_pos (by omega), if_pos (by omega), if_pos (by omega), decide_eq_true dn2]
end Go.Proofs.Ytcdbmmlnmefoeaa.Pure
