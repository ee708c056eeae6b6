/- WideOrders: of three numbers order goes on from one to the next; added to both, order stays; multiplied, it isn't turned about. -/
import Derived.Test.YtcdbmmlnmefoeaaXWideOrders
import Derived.Test.YtcdbmmlnmefoeaaTShownOne
import Derived.Test.YtcdbmmlnmefoeaaTWide
namespace Go.Proofs.Ytcdbmmlnmefoeaa.Pure
open Go.RowKit Go.Proofs.Ytcdbmmlnmefoeaa.X Go.Proofs.YtcdbmmlnmefoeaaW.PrintWords Go.Proofs.YtcdbmmlnmefoeaaW.PrintLast

/-- How two numbers lie to each other. -/
def sg (x y : Int) : Int := if x < y then -1 else if x = y then 0 else 1
theorem sg_cmp {h1 l1 h2 l2 : Int} (a1 : U64 h1) (a2 : U64 l1) (b1 : U64 h2) (b2 : U64 l2) : wide_Cmp.f h1 l1 h2 l2 = some (sg (wv h1 l1) (wv h2 l2)) := wcmp_eq a1 a2 b1 b2
theorem sg_mul {x y n : Int} (h : 0 < n) : sg (x * n) (y * n) = sg x y := by
  unfold sg
  rcases Int.lt_trichotomy x y with g | g | g
  · rw [if_pos g, if_pos (Int.mul_lt_mul_of_pos_right g h)]
  · subst g; simp
  · have := Int.mul_lt_mul_of_pos_right g h
    rw [if_neg (by omega), if_neg (by omega), if_neg (by omega), if_neg (by omega)]
theorem sg_add {x y z : Int} : sg (x + z) (y + z) = sg x y := by
  unfold sg
  repeat' split
  all_goals omega
theorem sg_le {x y : Int} : sg x y ≤ 0 ↔ x ≤ y := by
  unfold sg
  repeat' split
  all_goals omega

theorem orders_one {a b c d n : Int} (ha : U64 a) (hb : U64 b) (hc : U64 c) (hd : U64 d) (hn : U64 n) (k : Nat) : demurragelaw01_WideOrders.j1 (k + 1) n true (sg (wv a b) (wv c d)) false a b c d = some true := by
  have lx := wv_lt ha hb
  have ly := wv_lt hc hd
  have m1 : 0 ≤ wv a b * n := Int.mul_nonneg lx.1 hn.1
  have m2 : 0 ≤ wv c d * n := Int.mul_nonneg ly.1 hn.1
  rw [demurragelaw01_WideOrders.j1, times_eq ha hb hn, times_eq hc hd hn]
  simp only [Option.bind_some, Bool.false_eq_true, if_false, if_true]
  have fin : wv a b * n < 340282366920938463463374607431768211456 → wv c d * n < 340282366920938463463374607431768211456 → n ≠ 0 →
      wide_Cmp.f (wv a b * n / 18446744073709551616) (wv a b * n % 18446744073709551616) (wv c d * n / 18446744073709551616) (wv c d * n % 18446744073709551616) = some (sg (wv a b) (wv c d)) := by
    intro h1 h2 h3
    obtain ⟨p1, p2, p3⟩ := wv_parts m1 h1
    obtain ⟨q1, q2, q3⟩ := wv_parts m2 h2
    rw [sg_cmp p1 p2 q1 q2, p3, q3, sg_mul (by have := hn.1; omega)]
  by_cases h0 : n = 0
  · subst h0
    simp
  · by_cases hs : wv a b ≤ wv c d
    · have m3 : wv a b * n ≤ wv c d * n := Int.mul_le_mul_of_nonneg_right hs hn.1
      rw [if_pos (sg_le.mpr hs)]
      by_cases h2 : wv c d * n < 340282366920938463463374607431768211456
      · have h1 : wv a b * n < 340282366920938463463374607431768211456 := by omega
        simp only [if_pos h1, if_pos h2, if_true, if_neg h0]
        rw [fin h1 h2 h0]
        simp
      · simp [if_neg h2]
    · rw [if_neg (fun h => hs (sg_le.mp h))]
      by_cases h1 : wv a b * n < 340282366920938463463374607431768211456
      · by_cases h2 : wv c d * n < 340282366920938463463374607431768211456
        · simp only [if_pos h1, if_pos h2, if_true, if_neg h0]
          rw [fin h1 h2 h0]
          simp
        · simp [if_pos h1, if_neg h2]
      · simp [if_neg h1]

theorem orders_zero {a b c d e g n : Int} (ha : U64 a) (hb : U64 b) (hc : U64 c) (hd : U64 d) (he : U64 e) (hg : U64 g) (hn : U64 n) (k : Nat) :
    demurragelaw01_WideOrders.j0 (k + 1 + 1) n true (sg (wv a b) (wv c d)) false a b c d e g = some true := by
  have lx := wv_lt ha hb
  have ly := wv_lt hc hd
  have lz := wv_lt he hg
  have B := orders_one ha hb hc hd hn k
  rw [demurragelaw01_WideOrders.j0, add_eq ha hb he hg, add_eq hc hd he hg]
  simp only [Option.bind_some, Bool.false_eq_true, if_false]
  by_cases h1 : wv a b + wv e g < 340282366920938463463374607431768211456
  · obtain ⟨p1, p2, p3⟩ := wv_parts (x := wv a b + wv e g) (by omega) h1
    simp only [if_pos h1, if_true]
    by_cases h2 : wv c d + wv e g < 340282366920938463463374607431768211456
    · obtain ⟨q1, q2, q3⟩ := wv_parts (x := wv c d + wv e g) (by omega) h2
      simp only [if_pos h2, if_true]
      rw [sg_cmp p1 p2 q1 q2, p3, q3, sg_add]
      simp only [Option.bind_some, if_true, bne_self_eq_false]
      rw [B]
      simp
    · simp only [if_neg h2]
      rw [if_neg (show ¬ (6 : Int) = 0 by omega), B]
      simp
  · simp only [if_neg h1]
    rw [if_neg (show ¬ (6 : Int) = 0 by omega)]
    by_cases hs : wv a b ≤ wv c d
    · rw [if_pos (sg_le.mpr hs), if_neg (show ¬ wv c d + wv e g < 340282366920938463463374607431768211456 by omega), if_neg (show ¬ (6 : Int) = 0 by omega)]
      exact B
    · rw [if_neg (fun h => hs (sg_le.mp h))]
      exact B

theorem WideOrders (a b c d e g n : Int) (wa : (Lit.int .u64 a).wf = true) (wb : (Lit.int .u64 b).wf = true) (wc : (Lit.int .u64 c).wf = true) (wd : (Lit.int .u64 d).wf = true) (we : (Lit.int .u64 e).wf = true) (wg : (Lit.int .u64 g).wf = true) (wn : (Lit.int .u64 n).wf = true) :
    ∃ k, demurragelaw01_WideOrders.f k a b c d e g n = some true := by
  refine ⟨0 + 1 + 1, ?_⟩
  have ha := u64_wf wa
  have hb := u64_wf wb
  have hc := u64_wf wc
  have hd := u64_wf wd
  have he := u64_wf we
  have hg := u64_wf wg
  have hn := u64_wf wn
  have B := orders_zero ha hb hc hd he hg hn 0
  unfold demurragelaw01_WideOrders.f
  rw [shown_one, sg_cmp ha hb hc hd, sg_cmp hc hd ha hb, sg_cmp hc hd he hg, sg_cmp ha hb he hg]
  simp only [Option.bind_some]
  have e1 : sg (wv a b) (wv c d) = wrap64 (-sg (wv c d) (wv a b)) := by
    unfold sg
    rcases Int.lt_trichotomy (wv a b) (wv c d) with h | h | h
    · rw [if_pos h, if_neg (by omega), if_neg (by omega)]; decide +kernel
    · rw [h]; simp; decide +kernel
    · rw [if_neg (by omega), if_neg (by omega), if_pos h]; decide +kernel
  have e2 : ((sg (wv a b) (wv c d) == 0) != (a == c && (b == d))) = false := by
    have i1 : (sg (wv a b) (wv c d) = 0) ↔ (a = c ∧ b = d) := by
      unfold sg
      obtain ⟨a1, a2⟩ := ha
      obtain ⟨b1, b2⟩ := hb
      obtain ⟨c1, c2⟩ := hc
      obtain ⟨d1, d2⟩ := hd
      unfold wv
      repeat' split
      all_goals omega
    have hb1 : (sg (wv a b) (wv c d) == 0) = (a == c && b == d) := by
      rw [Bool.eq_iff_iff]
      simp [i1]
    rw [hb1]
    simp
  rw [if_pos e1, e2]
  simp only [Bool.false_eq_true, if_false]
  by_cases h1 : wv a b ≤ wv c d
  · rw [if_pos (sg_le.mpr h1)]
    by_cases h2 : wv c d ≤ wv e g
    · rw [if_pos (sg_le.mpr h2)]
      have h3 : sg (wv a b) (wv e g) ≤ 0 := sg_le.mpr (by omega)
      rw [show decide (sg (wv a b) (wv e g) > 0) = false from by simp; omega]
      exact B
    · rw [if_neg (fun h => h2 (sg_le.mp h))]
      exact B
  · rw [if_neg (fun h => h1 (sg_le.mp h))]
    exact B
end Go.Proofs.Ytcdbmmlnmefoeaa.Pure
