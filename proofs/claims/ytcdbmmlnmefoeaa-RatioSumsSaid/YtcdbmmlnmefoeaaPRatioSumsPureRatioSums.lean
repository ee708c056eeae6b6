/- RatioSums: three fractions, added from either end, are the same, where nothing is too great; a product goes over a sum; a sum's order is that of what is added. -/
import Derived.Test.YtcdbmmlnmefoeaaPRatioSumsXRatioSums
import Derived.Test.YtcdbmmlnmefoeaaPRatioSumsTFracTwo
import Derived.Test.YtcdbmmlnmefoeaaPRatioSumsTFew
set_option maxRecDepth 10000
namespace Go.Proofs.Ytcdbmmlnmefoeaa.Pure
open Go.RowKit Go.Proofs.Ytcdbmmlnmefoeaa.X Go.Proofs.YtcdbmmlnmefoeaaW.PrintWords Go.Proofs.YtcdbmmlnmefoeaaW.PrintLast

theorem assoc {a b c d e f n1 m1 n2 m2 : Nat} (d0 : 0 < d) (h1 : n1 * (b * d) = (a * d + c * b) * m1) (h2 : n2 * (d * f) = (c * f + e * d) * m2) :
    (n1 * f + e * m1) * (b * m2) = (a * m2 + n2 * b) * (m1 * f) := by
  refine Nat.eq_of_mul_eq_mul_right d0 ?_
  have p : (n1 * f + e * m1) * (b * m2) * d = (n1 * (b * d)) * (f * m2) + e * m1 * b * m2 * d := by grind
  have q : (a * m2 + n2 * b) * (m1 * f) * d = a * m2 * m1 * f * d + (n2 * (d * f)) * (b * m1) := by grind
  rw [p, q, h1, h2]
  grind

theorem spread {a b c d e f n1 m1 n5 m5 n6 m6 : Nat} (b0 : 0 < b) (d0 : 0 < d) (f0 : 0 < f) (h1 : n1 * (b * d) = (a * d + c * b) * m1) (h5 : n5 * (b * f) = a * e * m5) (h6 : n6 * (d * f) = c * e * m6) :
    (n5 * m6 + n6 * m5) * (m1 * f) = (n1 * e) * (m5 * m6) := by
  refine Nat.eq_of_mul_eq_mul_right (Nat.mul_pos (Nat.mul_pos b0 f0) (Nat.mul_pos d0 f0)) ?_
  have p : (n5 * m6 + n6 * m5) * (m1 * f) * (b * f * (d * f)) = (n5 * (b * f)) * (m6 * m1 * f * d * f) + (n6 * (d * f)) * (m5 * m1 * f * b * f) := by grind
  have q : (n1 * e) * (m5 * m6) * (b * f * (d * f)) = (n1 * (b * d)) * (e * m5 * m6 * f * f) := by grind
  rw [p, q, h1, h5, h6]
  grind

theorem ordered {a b c d e f n5 m5 n2 m2 : Nat} (b0 : 0 < b) (d0 : 0 < d) (f0 : 0 < f) (m50 : 0 < m5) (m20 : 0 < m2) (h5 : n5 * (b * f) = (a * f + e * b) * m5) (h2 : n2 * (d * f) = (c * f + e * d) * m2) :
    (n5 * m2 < n2 * m5 ↔ a * d < c * b) ∧ (n5 * m2 = n2 * m5 ↔ a * d = c * b) := by
  have p : n5 * m2 * ((b * f) * (d * f)) = (a * d * f + e * b * d) * (m5 * m2 * f) := by
    have : n5 * m2 * ((b * f) * (d * f)) = (n5 * (b * f)) * (m2 * d * f) := by grind
    rw [this, h5]
    grind
  have q : n2 * m5 * ((b * f) * (d * f)) = (c * b * f + e * b * d) * (m5 * m2 * f) := by
    have : n2 * m5 * ((b * f) * (d * f)) = (n2 * (d * f)) * (m5 * b * f) := by grind
    rw [this, h2]
    grind
  have P : 0 < (b * f) * (d * f) := Nat.mul_pos (Nat.mul_pos b0 f0) (Nat.mul_pos d0 f0)
  have Q : 0 < m5 * m2 * f := Nat.mul_pos (Nat.mul_pos m50 m20) f0
  generalize n5 * m2 = x at *
  generalize n2 * m5 = y at *
  generalize (b * f) * (d * f) = z at *
  generalize m5 * m2 * f = w at *
  generalize a * d = u at *
  generalize c * b = v at *
  generalize e * b * d = t at *
  clear h5 h2
  constructor
  · rw [← Nat.mul_lt_mul_right P, p, q, Nat.mul_lt_mul_right Q, Nat.add_lt_add_iff_right, Nat.mul_lt_mul_right f0]
  · rw [← Nat.mul_right_cancel_iff P, p, q, Nat.mul_right_cancel_iff Q, Nat.add_right_cancel_iff, Nat.mul_right_cancel_iff f0]

theorem sums_law {a b c d e f : Nat} (b0 : 0 < b) (d0 : 0 < d) (f0 : 0 < f) (ha : a < 1000000) (hb : b < 1000000) (hc : c < 1000000) (hd : d < 1000000) (he : e < 1000000) (hf : f < 1000000)
    (g1 : a.gcd b = 1) (g2 : c.gcd d = 1) (g3 : e.gcd f = 1) (k : Nat) : demurragelaw02_RatioSums.j0 (k + 1) true false a b c d e f = some true := by
  have mm : ∀ {x y p q : Nat}, x ≤ p → y ≤ q → x * y ≤ p * q := fun h g => Nat.mul_le_mul h g
  obtain ⟨n1, m1, e1, i1⟩ := Frac.add_is (a := a) (b := b) (c := c) (d := d) (by omega) (by omega) (by omega) (by omega) b0 d0 g1 g2
  obtain ⟨n2, m2, e2, i2⟩ := Frac.add_is (a := c) (b := d) (c := e) (d := f) (by omega) (by omega) (by omega) (by omega) d0 f0 g2 g3
  have l1 := i1.le (Nat.mul_pos b0 d0)
  have l2 := i2.le (Nat.mul_pos d0 f0)
  have t1 : a * d ≤ 1000000 * 1000000 := mm (by omega) (by omega)
  have t2 : c * b ≤ 1000000 * 1000000 := mm (by omega) (by omega)
  have t3 : b * d ≤ 1000000 * 1000000 := mm (by omega) (by omega)
  have t4 : c * f ≤ 1000000 * 1000000 := mm (by omega) (by omega)
  have t5 : e * d ≤ 1000000 * 1000000 := mm (by omega) (by omega)
  have t6 : d * f ≤ 1000000 * 1000000 := mm (by omega) (by omega)
  have t7 : a * f ≤ 1000000 * 1000000 := mm (by omega) (by omega)
  have t8 : e * b ≤ 1000000 * 1000000 := mm (by omega) (by omega)
  have t9 : b * f ≤ 1000000 * 1000000 := mm (by omega) (by omega)
  have t10 : a * e ≤ 1000000 * 1000000 := mm (by omega) (by omega)
  have t11 : c * e ≤ 1000000 * 1000000 := mm (by omega) (by omega)
  rw [Frac.made_ok (by omega) (by omega)] at e1 e2
  obtain ⟨n3, m3, e3, i3⟩ := Frac.add_is (a := n1) (b := m1) (c := e) (d := f) (by omega) (by omega) (by omega) (by omega) i1.2.1 f0 i1.1 g3
  obtain ⟨n4, m4, e4, i4⟩ := Frac.add_is (a := a) (b := b) (c := n2) (d := m2) (by omega) (by omega) (by omega) (by omega) b0 i2.2.1 g1 i2.1
  obtain ⟨n5, m5, e5, i5⟩ := Frac.mul_is (a := a) (b := b) (c := e) (d := f) (by omega) (by omega) (by omega) (by omega) b0 f0 g1 g3
  obtain ⟨n6, m6, e6, i6⟩ := Frac.mul_is (a := c) (b := d) (c := e) (d := f) (by omega) (by omega) (by omega) (by omega) d0 f0 g2 g3
  obtain ⟨n9, m9, e9, i9⟩ := Frac.add_is (a := a) (b := b) (c := e) (d := f) (by omega) (by omega) (by omega) (by omega) b0 f0 g1 g3
  have l3 := i3.le (Nat.mul_pos i1.2.1 f0)
  have l4 := i4.le (Nat.mul_pos b0 i2.2.1)
  have l5 := i5.le (Nat.mul_pos b0 f0)
  have l6 := i6.le (Nat.mul_pos d0 f0)
  have l9 := i9.le (Nat.mul_pos b0 f0)
  have u1 : n1 * f ≤ 2000000000000 * 1000000 := mm (by omega) (by omega)
  have u2 : e * m1 ≤ 1000000 * 1000000000000 := mm (by omega) (by omega)
  have u3 : m1 * f ≤ 1000000000000 * 1000000 := mm (by omega) (by omega)
  have u4 : a * m2 ≤ 1000000 * 1000000000000 := mm (by omega) (by omega)
  have u5 : n2 * b ≤ 2000000000000 * 1000000 := mm (by omega) (by omega)
  have u6 : b * m2 ≤ 1000000 * 1000000000000 := mm (by omega) (by omega)
  have u7 : n1 * e ≤ 2000000000000 * 1000000 := mm (by omega) (by omega)
  rw [Frac.made_ok (by omega) (by omega)] at e3 e4 e5 e6 e9
  obtain ⟨n7, m7, e7, i7⟩ := Frac.add_is (a := n5) (b := m5) (c := n6) (d := m6) (by omega) (by omega) (by omega) (by omega) i5.2.1 i6.2.1 i5.1 i6.1
  obtain ⟨n8, m8, e8, i8⟩ := Frac.mul_is (a := n1) (b := m1) (c := e) (d := f) (by omega) (by omega) (by omega) (by omega) i1.2.1 f0 i1.1 g3
  have l8 := i8.le (Nat.mul_pos i1.2.1 f0)
  rw [Frac.made_ok (by omega) (by omega)] at e8
  have x1 : n3 = n4 ∧ m3 = m4 := i3.one i4 (Nat.mul_pos i1.2.1 f0) (Nat.mul_pos b0 i2.2.1) (assoc d0 i1.2.2 i2.2.2)
  have x2 : n7 = n8 ∧ m7 = m8 := i7.one i8 (Nat.mul_pos i5.2.1 i6.2.1) (Nat.mul_pos i1.2.1 f0) (spread b0 d0 f0 i1.2.2 i5.2.2 i6.2.2)
  have x3 := ordered b0 d0 f0 i9.2.1 i2.2.1 i9.2.2 i2.2.2
  have c1 := rcmp_eq (a := n9) (b := m9) (c := n2) (d := m2) (by omega) (by omega) (by omega) (by omega)
  have c2 := rcmp_eq (a := a) (b := b) (c := c) (d := d) (by omega) (by omega) (by omega) (by omega)
  have c3 : (if n9 * m2 < n2 * m9 then (-1 : Int) else if n9 * m2 = n2 * m9 then 0 else 1) = (if a * d < c * b then (-1 : Int) else if a * d = c * b then 0 else 1) := by
    simp only [x3.1, x3.2]
  rw [c3] at c1
  generalize (if a * d < c * b then (-1 : Int) else if a * d = c * b then 0 else 1) = R at c1 c2
  obtain ⟨rfl, rfl⟩ := x1
  obtain ⟨rfl, rfl⟩ := x2
  rw [Frac.made_ok (by omega) (by omega)] at e7
  clear l1 l2 l3 l4 l5 l6 l8 l9 t1 t2 t3 t4 t5 t6 t7 t8 t9 t10 t11 u1 u2 u3 u4 u5 u6 u7 x3 c3 i1 i2 i3 i4 i5 i6 i7 i8 i9
  rw [demurragelaw02_RatioSums.j0, if_neg (by decide), e1, Option.bind_some, e2, Option.bind_some, e3, Option.bind_some, e4, Option.bind_some, e5, Option.bind_some, e6, Option.bind_some, e7, Option.bind_some, e8, Option.bind_some, e9, Option.bind_some]
  rw [if_pos rfl, if_pos rfl, if_pos rfl, if_pos (by rw [beq_self_eq_true, beq_self_eq_true]; rfl), if_pos rfl, if_pos rfl, if_pos (by rw [beq_self_eq_true, beq_self_eq_true]; rfl), c1, Option.bind_some, c2, Option.bind_some, beq_self_eq_true]

theorem RatioSums (a b c d e f : Int) (_ : (Lit.int .i64 a).wf = true) (_ : (Lit.int .i64 b).wf = true) (_ : (Lit.int .i64 c).wf = true) (_ : (Lit.int .i64 d).wf = true) (_ : (Lit.int .i64 e).wf = true) (_ : (Lit.int .i64 f).wf = true) :
    ∃ k, demurragelaw02_RatioSums.f k a b c d e f = some true := by
  obtain ⟨K0, h0⟩ : At (fun k => demurragelaw02_shown.f k) true := At.grow (K := 5) demurragelaw02_shown.mono shown_two
  obtain ⟨K1, h1⟩ := few_at a b
  obtain ⟨K2, h2⟩ := few_at c d
  obtain ⟨K3, h3⟩ := few_at e f
  generalize hk : K0 + K1 + K2 + K3 = k
  have h0 : demurragelaw02_shown.f (k + 1) = some true := h0 (k + 1) (by omega)
  have h1 : demurragelaw02_few.f (k + 1) a b = some (decide (Rgt a b ∧ a < 1000000 ∧ b < 1000000)) := h1 (k + 1) (by omega)
  have h2 : demurragelaw02_few.f (k + 1) c d = some (decide (Rgt c d ∧ c < 1000000 ∧ d < 1000000)) := h2 (k + 1) (by omega)
  have h3 : demurragelaw02_few.f (k + 1) e f = some (decide (Rgt e f ∧ e < 1000000 ∧ f < 1000000)) := h3 (k + 1) (by omega)
  have no : demurragelaw02_RatioSums.j0 (k + 1) true true a b c d e f = some true := by rw [demurragelaw02_RatioSums.j0, if_pos rfl]
  refine ⟨k + 1, ?_⟩
  unfold demurragelaw02_RatioSums.f
  rw [h0, Option.bind_some, h1, Option.bind_some]
  by_cases r1 : Rgt a b ∧ a < 1000000 ∧ b < 1000000
  · rw [decide_eq_true r1, if_pos rfl, h2, Option.bind_some]
    by_cases r2 : Rgt c d ∧ c < 1000000 ∧ d < 1000000
    · rw [decide_eq_true r2, if_pos rfl, h3, Option.bind_some]
      by_cases r3 : Rgt e f ∧ e < 1000000 ∧ f < 1000000
      · rw [decide_eq_true r3]
        clear h0 h1 h2 h3 no
        obtain ⟨⟨a0, _, b0, _, g1⟩, a1, b1⟩ := r1
        obtain ⟨⟨c0, _, d0, _, g2⟩, c1, d1⟩ := r2
        obtain ⟨⟨e0, _, f0, _, g3⟩, e1, f1⟩ := r3
        obtain ⟨a, rfl⟩ := Int.eq_ofNat_of_zero_le a0
        obtain ⟨b, rfl⟩ := Int.eq_ofNat_of_zero_le (show 0 ≤ b by omega)
        obtain ⟨c, rfl⟩ := Int.eq_ofNat_of_zero_le c0
        obtain ⟨d, rfl⟩ := Int.eq_ofNat_of_zero_le (show 0 ≤ d by omega)
        obtain ⟨e, rfl⟩ := Int.eq_ofNat_of_zero_le e0
        obtain ⟨f, rfl⟩ := Int.eq_ofNat_of_zero_le (show 0 ≤ f by omega)
        rw [Int.toNat_natCast, Int.toNat_natCast] at g1 g2 g3
        exact sums_law (by omega) (by omega) (by omega) (by omega) (by omega) (by omega) (by omega) (by omega) (by omega) g1 g2 g3 k
      · rw [decide_eq_false r3]
        exact no
    · rw [decide_eq_false r2, if_neg (by decide)]
      exact no
  · rw [decide_eq_false r1, if_neg (by decide)]
    exact no
end Go.Proofs.Ytcdbmmlnmefoeaa.Pure
