/- WideParts: divided by one number, and then by another one, is divided by their product; of a product with a number more, the other one comes back, and that is left. -/
import Derived.Test.YtcdbmmlnmefoeaaXWideParts
import Derived.Test.YtcdbmmlnmefoeaaTShownOne
import Derived.Test.YtcdbmmlnmefoeaaTWide
namespace Go.Proofs.Ytcdbmmlnmefoeaa.Pure
open Go.RowKit Go.Proofs.Ytcdbmmlnmefoeaa.X Go.Proofs.YtcdbmmlnmefoeaaW.PrintWords Go.Proofs.YtcdbmmlnmefoeaaW.PrintLast

theorem u32_wf {a : Int} (h : (Lit.int .u32 a).wf = true) : 0 ≤ a ∧ a ≤ 4294967295 := by
  simp only [Lit.wf, IntKind.min, IntKind.max, IntKind.signed, IntKind.bits, Bool.and_eq_true] at h
  simp at h
  exact ⟨h.1, by omega⟩

theorem parts_one {m n c : Int} (hm : U64 m) (hn : U64 n) (hc : U64 c) (k : Nat) : demurragelaw01_WideParts.j1 (k + 1) m n c true 0 0 = some true := by
  rw [demurragelaw01_WideParts.j1]
  by_cases h0 : n = 0
  · simp [h0]
  · have hp : 0 < n := by have := hn.1; omega
    have t1 : Int.tmod c n = c % n := Int.tmod_eq_emod_of_nonneg hc.1
    have r0 := Int.emod_nonneg c h0
    have r1 := Int.emod_lt_of_pos c hp
    have hr : U64 (c % n) := ⟨r0, by have := hn.2; omega⟩
    have z0 : U64 0 := by decide
    have m1 := mul_lt hm hn
    have m2 : m * n ≤ 18446744073709551615 * n := Int.mul_le_mul_of_nonneg_right (by have := hm.2; omega) hn.1
    obtain ⟨p1, p2, p3⟩ := wv_parts m1.1 (by omega)
    have e0 : wv 0 (c % n) = c % n := by unfold wv; omega
    simp only [if_true, if_neg h0, t1]
    rw [mul_eq hm hn, of_eq, of_eq]
    simp only [Option.bind_some]
    rw [add_eq p1 p2 z0 hr, p3, e0]
    have l1 : m * n + c % n < 340282366920938463463374607431768211456 := by have := hn.2; omega
    obtain ⟨q1, q2, q3⟩ := wv_parts (x := m * n + c % n) (by omega) l1
    rw [if_pos l1]
    simp only [Option.bind_some]
    rw [div_eq q1 q2 hn h0, q3]
    have e1 : (m * n + c % n) / n = m := by
      rw [Int.add_comm, Int.add_mul_ediv_right _ _ h0, Int.ediv_eq_zero_of_lt r0 r1]; omega
    have e2 : (m * n + c % n) % n = c % n := by
      rw [Int.add_comm, Int.add_mul_emod_self_right, Int.emod_emod_of_dvd _ (Int.dvd_refl n)]
    rw [e1, e2]
    have a1 := hm.1
    have a2 := hm.2
    simp
    omega

theorem WideParts (a b s t m n c : Int) (wa : (Lit.int .u64 a).wf = true) (wb : (Lit.int .u64 b).wf = true) (ws : (Lit.int .u32 s).wf = true) (wt : (Lit.int .u32 t).wf = true) (wm : (Lit.int .u64 m).wf = true) (wn : (Lit.int .u64 n).wf = true) (wc : (Lit.int .u64 c).wf = true) :
    ∃ k, demurragelaw01_WideParts.f k a b s t m n c = some true := by
  refine ⟨0 + 1 + 1, ?_⟩
  have ha := u64_wf wa
  have hb := u64_wf wb
  have hs := u32_wf ws
  have ht := u32_wf wt
  have B := parts_one (u64_wf wm) (u64_wf wn) (u64_wf wc) 0
  have lx := wv_lt ha hb
  have w1 : IntKind.u64.wrap s = s := IntWalk.u64_in _ ⟨by omega, by omega⟩
  have w2 : IntKind.u64.wrap t = t := IntWalk.u64_in _ ⟨by omega, by omega⟩
  have w3 : IntKind.u64.wrap (1 + s) = 1 + s := IntWalk.u64_in _ ⟨by omega, by omega⟩
  have w4 : IntKind.u64.wrap (1 + t) = 1 + t := IntWalk.u64_in _ ⟨by omega, by omega⟩
  have hp : U64 (1 + s) := ⟨by omega, by omega⟩
  have hq : U64 (1 + t) := ⟨by omega, by omega⟩
  have d1 : 0 ≤ wv a b / (1 + s) := Int.ediv_nonneg lx.1 (by omega)
  have d2 : wv a b / (1 + s) ≤ wv a b := Int.ediv_le_self _ lx.1
  obtain ⟨p1, p2, p3⟩ := wv_parts d1 (by omega)
  unfold demurragelaw01_WideParts.f
  rw [shown_one, w1, w2, w3, w4, div_eq ha hb hp (by omega)]
  simp only [Option.bind_some]
  rw [div_eq p1 p2 hq (by omega), p3]
  simp only [Option.bind_some]
  have e1 : wv a b / (1 + s) / (1 + t) = wv a b / ((1 + s) * (1 + t)) := Int.ediv_ediv_of_nonneg (by omega)
  by_cases h1 : 1 + s ≤ 2147483648
  · by_cases h2 : 1 + t ≤ 2147483648
    · have m1 : 0 ≤ (1 + s) * (1 + t) := Int.mul_nonneg (by omega) (by omega)
      have m2 : (1 + s) * (1 + t) ≤ 2147483648 * (1 + t) := Int.mul_le_mul_of_nonneg_right h1 (by omega)
      have m3 : 1 * (1 + t) ≤ (1 + s) * (1 + t) := Int.mul_le_mul_of_nonneg_right (by omega) (by omega)
      have w5 : IntKind.u64.wrap ((1 + s) * (1 + t)) = (1 + s) * (1 + t) := IntWalk.u64_in _ ⟨by omega, by omega⟩
      have hpq : U64 ((1 + s) * (1 + t)) := ⟨m1, by omega⟩
      rw [demurragelaw01_WideParts.j0, w5, div_eq ha hb hpq (by omega), e1]
      simp only [if_pos h1, h2, decide_true, if_true, Option.bind_some, beq_self_eq_true, Bool.not_true, Bool.or_false, Bool.false_eq_true, if_false]
      exact B
    · rw [demurragelaw01_WideParts.j0]
      simp only [if_pos h1, h2, decide_false, Bool.false_eq_true, if_false]
      exact B
  · rw [if_neg h1, demurragelaw01_WideParts.j0]
    simp only [Bool.false_eq_true, if_false]
    exact B
end Go.Proofs.Ytcdbmmlnmefoeaa.Pure
