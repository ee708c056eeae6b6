/- RatioExact: sums and products are exact, in lowest terms, or told as too great; and so is how two lie to each other. -/
import Derived.Test.YtcdbmmlnmefoeaaPRatioExactXRatioExact
import Derived.Test.YtcdbmmlnmefoeaaPRatioExactTRight
import Derived.Test.YtcdbmmlnmefoeaaPRatioExactTRefAdd
set_option maxRecDepth 10000
namespace Go.Proofs.Ytcdbmmlnmefoeaa.Pure
open Go.RowKit Go.Proofs.Ytcdbmmlnmefoeaa.X Go.Proofs.YtcdbmmlnmefoeaaW.PrintWords Go.Proofs.YtcdbmmlnmefoeaaW.PrintLast

theorem addsame {a b c d : Nat} (ha : a ≤ 4611686018427387904) (hb : b ≤ 4611686018427387904) (hc : c ≤ 4611686018427387904) (hd : d ≤ 4611686018427387904) (b0 : 0 < b) (d0 : 0 < d) (g1 : a.gcd b = 1) (g2 : c.gcd d = 1) :
    ratio_Add.f a b c d = some (made ((a * d + c * b) / (a * d + c * b).gcd (b * d)) (b * d / (a * d + c * b).gcd (b * d))) := by
  rw [radd_eq ha hb hc hd b0 d0]
  obtain ⟨x1, x2, x3⟩ := Frac.add b0 d0 g1 g2
  obtain ⟨y1, y2, y3⟩ := Frac.new (n := a * d + c * b) (Nat.mul_pos b0 d0)
  obtain ⟨e1, e2⟩ := Frac.same (X.Frac.cross (Nat.mul_pos b0 d0) x2 y2) x1 y1 y3
  rw [e1, e2]

theorem mulsame {a b c d : Nat} (ha : a ≤ 4611686018427387904) (hb : b ≤ 4611686018427387904) (hc : c ≤ 4611686018427387904) (hd : d ≤ 4611686018427387904) (b0 : 0 < b) (d0 : 0 < d) (g1 : a.gcd b = 1) (g2 : c.gcd d = 1) :
    ratio_Mul.f a b c d = some (made (a * c / (a * c).gcd (b * d)) (b * d / (a * c).gcd (b * d))) := by
  rw [rmul_eq (by omega) (by omega) (by omega) (by omega) b0 d0]
  obtain ⟨x1, x2, x3⟩ := Frac.mul b0 d0 g1 g2
  obtain ⟨y1, y2, y3⟩ := Frac.new (n := a * c) (Nat.mul_pos b0 d0)
  obtain ⟨e1, e2⟩ := Frac.same (X.Frac.cross (Nat.mul_pos b0 d0) x2 y2) x1 y1 y3
  rw [e1, e2]

theorem exact_both {a b c d : Nat} (h1 : Rgt a b) (h2 : Rgt c d) : At (fun k => demurragelaw02_RatioExact.j0 k true false a b c d) true := by
  obtain ⟨_, ha, b0, hb, g1⟩ := h1
  obtain ⟨_, hc, d0, hd, g2⟩ := h2
  rw [Int.toNat_natCast, Int.toNat_natCast] at g1 g2
  have q1 := addsame (a := a) (b := b) (c := c) (d := d) (by omega) (by omega) (by omega) (by omega) (by omega) (by omega) g1 g2
  have q2 := mulsame (a := a) (b := b) (c := c) (d := d) (by omega) (by omega) (by omega) (by omega) (by omega) (by omega) g1 g2
  have q3 := rcmp_eq (a := a) (b := b) (c := c) (d := d) (by omega) (by omega) (by omega) (by omega)
  obtain ⟨K1, p1⟩ := refadd_at (a := a) (b := b) (c := c) (d := d) (by omega) (by omega) (by omega) (by omega) (by omega) (by omega)
  obtain ⟨K2, p2⟩ := refmul_at (a := a) (b := b) (c := c) (d := d) (by omega) (by omega) (by omega) (by omega) (by omega) (by omega)
  obtain ⟨K3, p3⟩ := refcmp_at (a := a) (b := b) (c := c) (d := d) (by omega) (by omega) (by omega) (by omega)
  have e : (if a * d < c * b then (-1 : Int) else if a * d = c * b then 0 else 1) = bsg ((a * d : Nat) : Int) ((c * b : Nat) : Int) := by
    unfold bsg
    generalize a * d = x
    generalize c * b = y
    repeat' split
    all_goals omega
  rw [e] at q3
  generalize made ((a * d + c * b) / (a * d + c * b).gcd (b * d)) (b * d / (a * d + c * b).gcd (b * d)) = R at q1 p1
  generalize made (a * c / (a * c).gcd (b * d)) (b * d / (a * c).gcd (b * d)) = S at q2 p2
  generalize bsg ((a * d : Nat) : Int) ((c * b : Nat) : Int) = T at q3 p3
  refine ⟨K1 + K2 + K3 + 1, fun k hk => ?_⟩
  obtain ⟨j, rfl⟩ : ∃ j, k = j + 1 := ⟨k - 1, by omega⟩
  have p1 : demurrageref02_Add.f j a b c d = some R := p1 j (by omega)
  have p2 : demurrageref02_Mul.f j a b c d = some S := p2 j (by omega)
  have p3 : demurrageref02_Cmp.f j a b c d = some T := p3 j (by omega)
  show demurragelaw02_RatioExact.j0 (j + 1) true false a b c d = some true
  rw [demurragelaw02_RatioExact.j0, if_neg (by decide), q1, Option.bind_some, p1, Option.bind_some, q2, Option.bind_some, p2, Option.bind_some, if_pos rfl, if_pos (by rw [beq_self_eq_true, beq_self_eq_true]; rfl), if_pos rfl,
    if_pos (by rw [beq_self_eq_true, beq_self_eq_true]; rfl), if_pos rfl, q3, Option.bind_some, p3, Option.bind_some, beq_self_eq_true]

theorem RatioExact (a b c d : Int) (_ : (Lit.int .i64 a).wf = true) (_ : (Lit.int .i64 b).wf = true) (_ : (Lit.int .i64 c).wf = true) (_ : (Lit.int .i64 d).wf = true) :
    ∃ k, demurragelaw02_RatioExact.f k a b c d = some true := by
  obtain ⟨K0, h0⟩ : At (fun k => demurragelaw02_shown.f k) true := At.grow (K := 5) demurragelaw02_shown.mono shown_two
  obtain ⟨K1, h1⟩ := right_at a b
  obtain ⟨K2, h2⟩ := right_at c d
  have no : ∀ k, demurragelaw02_RatioExact.j0 (k + 1) true true a b c d = some true := fun k => by rw [demurragelaw02_RatioExact.j0, if_pos rfl]
  have fin : ∃ K3, (Rgt a b → Rgt c d → ∀ k, K3 ≤ k → demurragelaw02_RatioExact.j0 k true false a b c d = some true) := by
    by_cases r1 : Rgt a b
    · by_cases r2 : Rgt c d
      · have z1 := r1.1
        have z2 := r1.2.2.1
        have z3 := r2.1
        have z4 := r2.2.2.1
        obtain ⟨a, rfl⟩ := Int.eq_ofNat_of_zero_le z1
        obtain ⟨b, rfl⟩ := Int.eq_ofNat_of_zero_le (show 0 ≤ b by omega)
        obtain ⟨c, rfl⟩ := Int.eq_ofNat_of_zero_le z3
        obtain ⟨d, rfl⟩ := Int.eq_ofNat_of_zero_le (show 0 ≤ d by omega)
        obtain ⟨K, h⟩ := exact_both r1 r2
        exact ⟨K, fun _ _ => h⟩
      · exact ⟨0, fun _ h => absurd h r2⟩
    · exact ⟨0, fun h => absurd h r1⟩
  obtain ⟨K3, h3⟩ := fin
  generalize hk : K0 + K1 + K2 + K3 = k
  have h0 : demurragelaw02_shown.f (k + 1) = some true := h0 (k + 1) (by omega)
  have h1 : demurrageref02_Right.f (k + 1) a b = some (decide (Rgt a b)) := h1 (k + 1) (by omega)
  have h2 : demurrageref02_Right.f (k + 1) c d = some (decide (Rgt c d)) := h2 (k + 1) (by omega)
  refine ⟨k + 1, ?_⟩
  unfold demurragelaw02_RatioExact.f
  rw [h0, Option.bind_some, h1, Option.bind_some]
  by_cases r1 : Rgt a b
  · rw [decide_eq_true r1, if_pos rfl, h2, Option.bind_some]
    by_cases r2 : Rgt c d
    · rw [decide_eq_true r2]
      exact h3 r1 r2 (k + 1) (by omega)
    · rw [decide_eq_false r2]
      exact no k
  · rw [decide_eq_false r1, if_neg (by decide)]
    exact no k
end Go.Proofs.Ytcdbmmlnmefoeaa.Pure
