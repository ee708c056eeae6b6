/- WideSpreads: a sum times a number is the sum of both products, or too great just if these, or their sum, are; a difference likewise. -/
import Derived.Test.YtcdbmmlnmefoeaaXWideSpreads
import Derived.Test.YtcdbmmlnmefoeaaTShownOne
import Derived.Test.YtcdbmmlnmefoeaaTWide
namespace Go.Proofs.Ytcdbmmlnmefoeaa.Pure
open Go.RowKit Go.Proofs.Ytcdbmmlnmefoeaa.X Go.Proofs.YtcdbmmlnmefoeaaW.PrintWords Go.Proofs.YtcdbmmlnmefoeaaW.PrintLast

theorem WideSpreads (a b c d n : Int) (wa : (Lit.int .u64 a).wf = true) (wb : (Lit.int .u64 b).wf = true) (wc : (Lit.int .u64 c).wf = true) (wd : (Lit.int .u64 d).wf = true) (wn : (Lit.int .u64 n).wf = true) :
    ∃ k, demurragelaw01_WideSpreads.f k a b c d n = some true := by
  refine ⟨1, ?_⟩
  have ha := u64_wf wa
  have hb := u64_wf wb
  have hc := u64_wf wc
  have hd := u64_wf wd
  have hn := u64_wf wn
  have lx := wv_lt ha hb
  have ly := wv_lt hc hd
  have ey : wv c d / 18446744073709551616 = c ∧ wv c d % 18446744073709551616 = d := by
    obtain ⟨p1, p2⟩ := hc
    obtain ⟨p3, p4⟩ := hd
    unfold wv
    omega
  unfold demurragelaw01_WideSpreads.f
  rw [shown_one, add_eq ha hb hc hd, times_eq ha hb hn, times_eq hc hd hn]
  simp only [Option.bind_some]
  have e : (wv a b + wv c d) * n = wv a b * n + wv c d * n := Int.add_mul _ _ _
  have m1 : 0 ≤ wv a b * n := Int.mul_nonneg lx.1 hn.1
  have m2 : 0 ≤ wv c d * n := Int.mul_nonneg ly.1 hn.1
  by_cases h1 : wv a b + wv c d < 340282366920938463463374607431768211456
  · obtain ⟨s1, s2, s3⟩ := wv_parts (x := wv a b + wv c d) (by omega) h1
    simp only [if_pos h1, if_true]
    rw [times_eq s1 s2 hn, s3, e]
    simp only [Option.bind_some]
    by_cases h2 : wv a b * n < 340282366920938463463374607431768211456
    · by_cases h3 : wv c d * n < 340282366920938463463374607431768211456
      · obtain ⟨p1, p2, p3⟩ := wv_parts m1 h2
        obtain ⟨q1, q2, q3⟩ := wv_parts m2 h3
        simp only [if_pos h2, if_pos h3, if_true, demurragelaw01_WideSpreads.j0]
        rw [add_eq p1 p2 q1 q2, sub_eq s1 s2 ha hb, p3, q3, s3]
        have e2 : wv a b + wv c d - wv a b = wv c d := by omega
        rw [e2, if_pos (show wv a b ≤ wv a b + wv c d by omega), ey.1, ey.2]
        by_cases h4 : wv a b * n + wv c d * n < 340282366920938463463374607431768211456
        · simp [if_pos h4]
        · simp [if_neg h4]
      · have h4 : ¬ wv a b * n + wv c d * n < 340282366920938463463374607431768211456 := by omega
        simp [if_pos h2, if_neg h3, if_neg h4, demurragelaw01_WideSpreads.j0]
    · have h4 : ¬ wv a b * n + wv c d * n < 340282366920938463463374607431768211456 := by omega
      simp [if_neg h2, if_neg h4, demurragelaw01_WideSpreads.j0]
  · simp [if_neg h1]
end Go.Proofs.Ytcdbmmlnmefoeaa.Pure
