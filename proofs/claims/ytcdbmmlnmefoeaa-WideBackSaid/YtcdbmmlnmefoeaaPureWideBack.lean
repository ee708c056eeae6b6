/- WideBack: what is divided, multiplied again, and what is left added, is as it was; what is added is taken away again; what is multiplied is divided, and nothing is left. -/
import Derived.Test.YtcdbmmlnmefoeaaXWideBack
import Derived.Test.YtcdbmmlnmefoeaaTShownOne
import Derived.Test.YtcdbmmlnmefoeaaTWide
namespace Go.Proofs.Ytcdbmmlnmefoeaa.Pure
open Go.RowKit Go.Proofs.Ytcdbmmlnmefoeaa.X Go.Proofs.YtcdbmmlnmefoeaaW.PrintWords Go.Proofs.YtcdbmmlnmefoeaaW.PrintLast

theorem wv_back {a b : Int} (ha : U64 a) (hb : U64 b) : wv a b / 18446744073709551616 = a ∧ wv a b % 18446744073709551616 = b := by
  obtain ⟨p1, p2⟩ := ha
  obtain ⟨p3, p4⟩ := hb
  unfold wv
  omega

theorem back_two {a b n : Int} (ha : U64 a) (hb : U64 b) (hn : U64 n) (t : Int) (ht : n = 0 → t = 0) (k : Nat)  :
    demurragelaw01_WideBack.j2 (k + 1) n true a b (t / 18446744073709551616) (t % 18446744073709551616) = some true := by
  have ex := wv_back ha hb
  have lx := wv_lt ha hb
  rw [demurragelaw01_WideBack.j2]
  by_cases h0 : n = 0
  · simp [h0, ht h0]
  · have hp : 0 < n := by have := hn.1; omega
    have m0 := Int.emod_nonneg (wv a b) h0
    have m1 := Int.emod_lt_of_pos (wv a b) hp
    have m2 := Int.mul_ediv_add_emod (wv a b) n
    have m3 : 0 ≤ wv a b / n := Int.ediv_nonneg lx.1 hn.1
    have m4 : wv a b / n * n = wv a b - wv a b % n := by rw [Int.mul_comm]; omega
    have m6 : 0 ≤ wv a b / n * n := Int.mul_nonneg m3 hn.1
    have m5 : wv a b / n ≤ wv a b := Int.ediv_le_self _ lx.1
    obtain ⟨q1, q2, q3⟩ := wv_parts m3 (by omega)
    rw [if_neg h0, div_eq ha hb hn h0]
    simp only [Option.bind_some]
    rw [times_eq q1 q2 hn, q3, m4, if_pos (by omega), of_eq]
    simp only [Option.bind_some]
    obtain ⟨p1, p2, p3⟩ := wv_parts (x := wv a b - wv a b % n) (by omega) (by omega)
    have z0 : U64 0 := by decide
    have hr : U64 (wv a b % n) := ⟨m0, by have := hn.2; omega⟩
    have e0 : wv 0 (wv a b % n) = wv a b % n := by unfold wv; omega
    rw [add_eq p1 p2 z0 hr, p3, e0]
    have e1 : wv a b - wv a b % n + wv a b % n = wv a b := by omega
    rw [e1, if_pos lx.2, ex.1, ex.2]
    simp [m1]

theorem back_zero {a b n : Int} (ha : U64 a) (hb : U64 b) (hn : U64 n) (k : Nat) : demurragelaw01_WideBack.j0 (k + 3) n true a b = some true := by
  have ex := wv_back ha hb
  have lx := wv_lt ha hb
  have m1 : 0 ≤ wv a b * n := Int.mul_nonneg lx.1 hn.1
  rw [demurragelaw01_WideBack.j0]
  rw [times_eq ha hb hn]
  simp only [Option.bind_some]
  by_cases h1 : wv a b * n < 340282366920938463463374607431768211456
  · obtain ⟨p1, p2, p3⟩ := wv_parts m1 h1
    simp only [if_pos h1, if_true]
    rw [demurragelaw01_WideBack.j1]
    by_cases h2 : n > 0
    · simp only [h2, decide_true, if_true]
      rw [div_eq p1 p2 hn (by omega), p3, Int.mul_ediv_cancel _ (by omega), Int.mul_emod_left, ex.1, ex.2]
      simp only [Option.bind_some, if_true, beq_self_eq_true, Bool.not_true, Bool.or_false, Bool.false_eq_true, if_false]
      exact back_two ha hb hn _ (fun h => by omega) k
    · have h3 : n = 0 := by have := hn.1; omega
      simp only [h2, decide_false, Bool.false_eq_true, if_false]
      exact back_two ha hb hn _ (fun h => by rw [h, Int.mul_zero]) k
  · have h3 : n ≠ 0 := fun h => h1 (by rw [h, Int.mul_zero]; omega)
    simp only [if_neg h1]
    rw [if_neg (show ¬ (6 : Int) = 0 by omega)]
    rw [demurragelaw01_WideBack.j1]
    simp only [Bool.false_eq_true, if_false]
    exact back_two ha hb hn 0 (fun h => rfl) k

theorem WideBack (a b c d n : Int) (wa : (Lit.int .u64 a).wf = true) (wb : (Lit.int .u64 b).wf = true) (wc : (Lit.int .u64 c).wf = true) (wd : (Lit.int .u64 d).wf = true) (wn : (Lit.int .u64 n).wf = true) :
    ∃ k, demurragelaw01_WideBack.f k a b c d n = some true := by
  refine ⟨0 + 3, ?_⟩
  have ha := u64_wf wa
  have hb := u64_wf wb
  have hc := u64_wf wc
  have hd := u64_wf wd
  have hn := u64_wf wn
  have ex := wv_back ha hb
  have lx := wv_lt ha hb
  have ly := wv_lt hc hd
  have B := back_zero ha hb hn 0
  unfold demurragelaw01_WideBack.f
  rw [shown_one, add_eq ha hb hc hd]
  simp only [Option.bind_some]
  rw [B]
  by_cases h1 : wv a b + wv c d < 340282366920938463463374607431768211456
  · obtain ⟨s1, s2, s3⟩ := wv_parts (x := wv a b + wv c d) (by omega) h1
    simp only [if_pos h1, if_true]
    rw [sub_eq s1 s2 hc hd, s3, if_pos (by omega), wcmp_eq s1 s2 ha hb, s3]
    have e2 : wv a b + wv c d - wv c d = wv a b := by omega
    rw [e2, ex.1, ex.2]
    simp only [Option.bind_some, if_true, beq_self_eq_true, Bool.not_true, Bool.or_false, Bool.false_eq_true, if_false]
    rw [if_neg (show ¬ wv a b + wv c d < wv a b by omega)]
    rw [if_neg (by split <;> omega)]
  · simp [if_neg h1]
end Go.Proofs.Ytcdbmmlnmefoeaa.Pure
