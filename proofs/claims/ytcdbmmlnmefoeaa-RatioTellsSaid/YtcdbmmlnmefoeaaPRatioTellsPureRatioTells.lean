/- RatioTells: which fractions are right, what divides two numbers, and fractions that are made, are as the document says. -/
import Derived.Test.YtcdbmmlnmefoeaaPRatioTellsXRatioTells
import Derived.Test.YtcdbmmlnmefoeaaPRatioTellsTRight
import Derived.Test.YtcdbmmlnmefoeaaPRatioTellsTRefTwo
set_option maxRecDepth 10000
namespace Go.Proofs.Ytcdbmmlnmefoeaa.Pure
open Go.RowKit Go.Proofs.Ytcdbmmlnmefoeaa.X Go.Proofs.YtcdbmmlnmefoeaaW.PrintWords Go.Proofs.YtcdbmmlnmefoeaaW.PrintLast

theorem isright {n d : Int} : ratio_Right.f n d = some (decide (Rgt n d)) := by
  unfold ratio_Right.f
  by_cases h1 : n ≥ 0
  · rw [if_pos h1]
    by_cases h2 : n ≤ 4611686018427387904
    · rw [if_pos h2]
      by_cases h3 : d ≥ 1
      · rw [if_pos h3]
        by_cases h4 : d ≤ 4611686018427387904
        · rw [if_pos h4]
          obtain ⟨x, rfl⟩ := Int.eq_ofNat_of_zero_le h1
          obtain ⟨y, rfl⟩ := Int.eq_ofNat_of_zero_le (show 0 ≤ d by omega)
          rw [nat_wrap (x := x) (by omega), nat_wrap (x := y) (by omega), gcdn x y (by omega) (by omega), Option.bind_some]
          congr 1
          rw [Bool.eq_iff_iff, beq_iff_eq, decide_eq_true_eq]
          unfold Rgt
          rw [Int.toNat_natCast, Int.toNat_natCast]
          omega
        · rw [if_neg h4, decide_eq_false (fun h => h4 h.2.2.2.1)]
      · rw [if_neg h3, decide_eq_false (fun h => h3 h.2.2.1)]
    · rw [if_neg h2, decide_eq_false (fun h => h2 h.2.1)]
  · rw [if_neg h1, decide_eq_false (fun h => h1 h.1)]

theorem news_at {n d : Int} (hn : n < 9223372036854775808) (hd : d < 9223372036854775808) : At (fun k => ratio_New.f k n d) (news n d) := by
  refine ⟨1, fun k hk => ?_⟩
  obtain ⟨j, rfl⟩ : ∃ j, k = j + 1 := ⟨k - 1, by omega⟩
  show ratio_New.f (j + 1) n d = _
  unfold news
  by_cases c : n < 0 ∨ d < 0
  · rw [if_pos c]
    unfold ratio_New.f
    by_cases c1 : n < 0
    · rw [if_pos c1, ratio_New.j0, if_pos rfl]
    · rw [if_neg c1, decide_eq_true (show d < 0 by omega), ratio_New.j0, if_pos rfl]
  · rw [if_neg c]
    by_cases z : d = 0
    · rw [if_pos z]
      unfold ratio_New.f
      rw [if_neg (by omega), decide_eq_false (by omega), ratio_New.j0, if_neg (by decide), if_pos z]
    · rw [if_neg z]
      obtain ⟨x, rfl⟩ := Int.eq_ofNat_of_zero_le (show 0 ≤ n by omega)
      obtain ⟨y, rfl⟩ := Int.eq_ofNat_of_zero_le (show 0 ≤ d by omega)
      rw [Int.toNat_natCast, Int.toNat_natCast]
      exact rnew_eq (by omega) (by omega) (by omega) j

theorem RatioTells (r s n d a b : Int) (_ : (Lit.int .i64 r).wf = true) (_ : (Lit.int .i64 s).wf = true) (wn : (Lit.int .i64 n).wf = true) (wd : (Lit.int .i64 d).wf = true) (wa : (Lit.int .u64 a).wf = true) (wb : (Lit.int .u64 b).wf = true) :
    ∃ k, demurragelaw02_RatioTells.f k r s n d a b = some true := by
  have hn := i64_wf wn
  have hd := i64_wf wd
  have ha := u64_wf wa
  have hb := u64_wf wb
  obtain ⟨K0, h0⟩ : At (fun k => demurragelaw02_shown.f k) true := At.grow (K := 5) demurragelaw02_shown.mono shown_two
  obtain ⟨K1, h1⟩ := news_at hn.2 hd.2
  obtain ⟨K2, h2⟩ := refnew_at hn.2 hd.2
  obtain ⟨x, rfl⟩ := Int.eq_ofNat_of_zero_le ha.1
  obtain ⟨y, rfl⟩ := Int.eq_ofNat_of_zero_le hb.1
  have gl : (Nat.gcd x y : Int) ≤ 18446744073709551615 := by
    have l1 := ha.2
    have l2 := hb.2
    by_cases z : x = 0
    · rw [z, Nat.gcd_zero_left]
      omega
    · have := Nat.le_of_dvd (by omega) (Nat.gcd_dvd_left x y)
      omega
  obtain ⟨p, ⟨K3, h3⟩, p2, p3, p4, p5⟩ := fromU_at ha
  obtain ⟨q, ⟨K4, h4⟩, q2, q3, q4, q5⟩ := fromU_at hb
  obtain ⟨t, ⟨K5, h5⟩, t2, t3, t4⟩ := gcd_at p2 q2 q4 (by omega) (by omega) p3 q3
  obtain ⟨K6, h6⟩ := right_at r s
  obtain ⟨u, ⟨K7, h7⟩, u2, u3, u4, u5⟩ := fromU_at (x := (Nat.gcd x y : Int)) ⟨Int.natCast_nonneg _, by omega⟩
  obtain ⟨K8, h8⟩ := cmp_at u2 t2 (by omega) (by omega)
  have z : bsg (bv u) (bv t) = 0 := by
    rw [u3, t3]
    unfold bsg
    rw [if_neg (by omega), if_pos rfl]
  rw [z] at h8
  have hg := gcdn x y (by have := ha.2; omega) (by have := hb.2; omega)
  generalize news n d = R at h1 h2
  generalize hk : K0 + K1 + K2 + K3 + K4 + K5 + K6 + K7 + K8 = k
  have h0 : demurragelaw02_shown.f k = some true := h0 k (by omega)
  have h1 : ratio_New.f k n d = some R := h1 k (by omega)
  have h2 : demurrageref02_New.f k n d = some R := h2 k (by omega)
  have h3 : demurrageref01_FromU.f k x = some p := h3 k (by omega)
  have h4 : demurrageref01_FromU.f k y = some q := h4 k (by omega)
  have h5 : demurrageref02_Gcd.f k p q = some t := h5 k (by omega)
  have h6 : demurrageref02_Right.f k r s = some (decide (Rgt r s)) := h6 k (by omega)
  have h7 : demurrageref01_FromU.f k (Nat.gcd x y : Nat) = some u := h7 k (by omega)
  have h8 : demurrageref01_Cmp.f k u t = some 0 := h8 k (by omega)
  refine ⟨k, ?_⟩
  unfold demurragelaw02_RatioTells.f
  rw [h0, Option.bind_some, h1, Option.bind_some, h2, Option.bind_some, h3, Option.bind_some, h4, Option.bind_some, h5, Option.bind_some, if_pos rfl, isright, Option.bind_some, h6, Option.bind_some, if_pos (beq_self_eq_true _),
    if_pos (by rw [beq_self_eq_true, beq_self_eq_true]; rfl), if_pos rfl, hg, Option.bind_some, h7, Option.bind_some, h8, Option.bind_some]
  rfl
end Go.Proofs.Ytcdbmmlnmefoeaa.Pure
