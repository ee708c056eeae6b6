/- RoundNear: what is rounded is never further off than a half; where it is a half, it is even; a whole number isn't turned; the next one isn't below the one rounded down. -/
import Derived.Test.YtcdbmmlnmefoeaaXRoundNear
import Derived.Test.YtcdbmmlnmefoeaaTRound
namespace Go.Proofs.Ytcdbmmlnmefoeaa.Pure
open Go.RowKit Go.Proofs.Ytcdbmmlnmefoeaa.X Go.Proofs.YtcdbmmlnmefoeaaW.PrintWords Go.Proofs.YtcdbmmlnmefoeaaW.PrintLast

theorem near_u32 {a : Int} (h : (Lit.int .u32 a).wf = true) : 0 ≤ a ∧ a ≤ 4294967295 := by
  simp only [Lit.wf, IntKind.min, IntKind.max, IntKind.signed, IntKind.bits, Bool.and_eq_true] at h
  simp at h
  exact ⟨h.1, by omega⟩

theorem RoundNear (n d : Int) (wn : (Lit.int .u64 n).wf = true) (wd : (Lit.int .u32 d).wf = true) : ∃ k, demurragelaw03_RoundNear.f k n d = some true := by
  refine ⟨5, ?_⟩
  have hn := u64_wf wn
  have hd := near_u32 wd
  have w1 : IntKind.u64.wrap d = d := IntWalk.u64_in _ ⟨by omega, by omega⟩
  have w2 : IntKind.u64.wrap (1 + d) = 1 + d := IntWalk.u64_in _ ⟨by omega, by omega⟩
  have hx : 0 ≤ n / 16777216 ∧ n / 16777216 < 1099511627776 := by have := hn.1; have := hn.2; omega
  unfold demurragelaw03_RoundNear.f
  rw [shown_three, w1, w2]
  generalize n / 16777216 = x at hx
  have hm : 0 < 1 + d ∧ 1 + d ≤ 4294967296 := by omega
  generalize 1 + d = m at hm
  have z0 : U64 0 := by decide
  have ux : U64 x := ⟨by omega, by omega⟩
  have um : U64 m := ⟨by omega, by omega⟩
  have e0 : wv 0 x = x := by unfold wv; omega
  have q0 : 0 ≤ x / m := Int.ediv_nonneg hx.1 (by omega)
  have q1 : x / m ≤ x := Int.ediv_le_self _ hx.1
  have r0 := Int.emod_nonneg x (show m ≠ 0 by omega)
  have r1 := Int.emod_lt_of_pos x hm.1
  have e := Int.mul_ediv_add_emod x m
  rw [Int.mul_comm] at e
  obtain ⟨n1, n2, n3, n4⟩ := ev_near (x := x) hm.1
  simp only [demurragelaw03_wide.f, Option.bind_some]
  rw [down_eq z0 ux um (by omega), even_eq z0 ux um (by omega), e0, if_pos (by omega), if_pos ⟨by omega, by omega⟩]
  simp only [Option.bind_some, if_true]
  have p0 : 0 ≤ x / m * m := Int.mul_nonneg q0 (by omega)
  have m0 : 0 ≤ ev x m * m := Int.mul_nonneg (by omega) (by omega)
  have t1 : Int.tmod (ev x m) 2 = ev x m % 2 := Int.tmod_eq_emod_of_nonneg (by omega)
  have v1 : IntKind.u64.wrap (x / m) = x / m := IntWalk.u64_in _ ⟨by omega, by omega⟩
  have v2 : IntKind.u64.wrap (x / m * m) = x / m * m := IntWalk.u64_in _ ⟨by omega, by omega⟩
  have v3 : IntKind.u64.wrap (x - x / m * m) = x - x / m * m := IntWalk.u64_in _ ⟨by omega, by omega⟩
  have v4 : IntKind.u64.wrap (ev x m) = ev x m := IntWalk.u64_in _ ⟨by omega, by omega⟩
  have v5 : IntKind.u64.wrap (2 * ev x m) = 2 * ev x m := IntWalk.u64_in _ ⟨by omega, by omega⟩
  have v6 : 2 * ev x m * m = 2 * (ev x m * m) := Int.mul_assoc _ _ _
  have v7 : IntKind.u64.wrap (2 * (ev x m * m)) = 2 * (ev x m * m) := IntWalk.u64_in _ ⟨by omega, by omega⟩
  have v8 : IntKind.u64.wrap (2 * x) = 2 * x := IntWalk.u64_in _ ⟨by omega, by omega⟩
  have v9 : wrap64 (x / m + 1) = x / m + 1 := IntWalk.wrap64_in _ ⟨by omega, by omega⟩
  rw [v1, v2, v3, v4, v5, v6, v7, v8, v9, t1]
  rw [if_neg (by omega), if_neg (by omega), if_neg (by omega), if_neg (by omega), if_neg (by omega)]
  have whole : x / m * m = x → ev x m = x / m := by
    intro h
    have : x % m = 0 := by omega
    unfold ev nearer
    rw [this, if_neg]
    simp
    omega
  have half : 2 * (ev x m * m) = 2 * x - m ∨ 2 * (ev x m * m) = 2 * x + m → ev x m % 2 = 0 := by
    unfold ev nearer
    split
    · rename_i h
      simp at h
      rw [Int.add_mul]
      intro g
      omega
    · rename_i h
      simp at h
      intro g
      have := h.2
      omega
  by_cases h1 : 2 * (ev x m * m) < 2 * x
  · rw [if_pos h1, IntWalk.u64_in (2 * x - 2 * (ev x m * m)) ⟨by omega, by omega⟩, if_pos (by omega)]
    by_cases h2 : 2 * x - 2 * (ev x m * m) < m
    · rw [if_pos h2]
      by_cases h3 : x / m * m = x
      · rw [if_pos h3, whole h3]; simp
      · rw [if_neg h3]
    · rw [if_neg h2, if_pos (half (by omega))]
      by_cases h3 : x / m * m = x
      · rw [if_pos h3, whole h3]; simp
      · rw [if_neg h3]
  · rw [if_neg h1, IntWalk.u64_in (2 * (ev x m * m) - 2 * x) ⟨by omega, by omega⟩, if_pos (by omega)]
    by_cases h2 : 2 * (ev x m * m) - 2 * x < m
    · rw [if_pos h2]
      by_cases h3 : x / m * m = x
      · rw [if_pos h3, whole h3]; simp
      · rw [if_neg h3]
    · rw [if_neg h2, if_pos (half (by omega))]
      by_cases h3 : x / m * m = x
      · rw [if_pos h3, whole h3]; simp
      · rw [if_neg h3]
end Go.Proofs.Ytcdbmmlnmefoeaa.Pure
