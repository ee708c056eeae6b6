/- RatioLaws: sums and products are the same either way; with 0, and with 1, a fraction is as it was; a sum isn't below its parts; what is made is right. -/
import Derived.Test.YtcdbmmlnmefoeaaPRatioLawsXRatioLaws
import Derived.Test.YtcdbmmlnmefoeaaPRatioLawsTFracTwo
import Derived.Test.YtcdbmmlnmefoeaaPRatioLawsTRight
import Derived.Test.YtcdbmmlnmefoeaaPRatioLawsTBigThree
set_option maxRecDepth 10000
namespace Go.Proofs.Ytcdbmmlnmefoeaa.Pure
open Go.RowKit Go.Proofs.Ytcdbmmlnmefoeaa.X Go.Proofs.YtcdbmmlnmefoeaaW.PrintWords Go.Proofs.YtcdbmmlnmefoeaaW.PrintLast

def nsg (x y : Nat) : Int := if x < y then -1 else if x = y then 0 else 1
theorem nsg_zero {x y : Nat} : nsg x y = 0 ↔ x = y := by
  unfold nsg
  repeat' split
  all_goals omega
theorem nsg_ge {x y : Nat} (h : y ≤ x) : nsg x y ≥ 0 := by
  unfold nsg
  repeat' split
  all_goals omega
theorem nsg_turn (x y : Nat) : nsg x y = wrap64 (-(nsg y x)) := by
  have h : nsg y x = -1 ∨ nsg y x = 0 ∨ nsg y x = 1 := by
    unfold nsg
    repeat' split
    all_goals omega
  have g : wrap64 (-(nsg y x)) = -(nsg y x) := wrap64_small (by omega) (by omega)
  rw [g]
  clear g h
  unfold nsg
  repeat' split
  all_goals omega

theorem above {n m a b c d : Nat} (b0 : 0 < b) (d0 : 0 < d) (m0 : 0 < m) (h : n * (b * d) = (a * d + c * b) * m) :
    a * m ≤ n * b ∧ c * m ≤ n * d ∧ (n * b = a * m ↔ c = 0) := by
  have p : n * b * d = a * m * d + c * (b * m) := by
    have : n * b * d = n * (b * d) := by grind
    rw [this, h]
    grind
  have q : n * d * b = c * m * b + a * (d * m) := by
    have : n * d * b = n * (b * d) := by grind
    rw [this, h]
    grind
  refine ⟨?_, ?_, ?_⟩
  · refine Nat.le_of_mul_le_mul_right (c := d) ?_ d0
    rw [p]
    exact Nat.le_add_right _ _
  · refine Nat.le_of_mul_le_mul_right (c := b) ?_ b0
    rw [q]
    exact Nat.le_add_right _ _
  · have bm : 0 < b * m := Nat.mul_pos b0 m0
    constructor
    · intro e
      rw [e] at p
      have z : c * (b * m) = 0 := by omega
      have := Nat.mul_eq_zero.mp z
      omega
    · intro e
      subst e
      rw [Nat.zero_mul, Nat.add_zero] at p
      exact Nat.eq_of_mul_eq_mul_right d0 p

theorem laws_law {a b c d : Nat} (b0 : 0 < b) (d0 : 0 < d) (ha : a ≤ 4611686018427387904) (hb : b ≤ 4611686018427387904) (hc : c ≤ 4611686018427387904) (hd : d ≤ 4611686018427387904) (g1 : a.gcd b = 1) (g2 : c.gcd d = 1) :
    At (fun k => demurragelaw02_RatioLaws.j0 k true false a b c d) true := by
  have bd := Nat.mul_pos b0 d0
  obtain ⟨n1, m1, e1, i1⟩ := Frac.add_is ha hb hc hd b0 d0 g1 g2
  obtain ⟨n2, m2, e2, i2⟩ := Frac.add_is hc hd ha hb d0 b0 g2 g1
  obtain ⟨n3, m3, e3, i3⟩ := Frac.mul_is ha hb hc hd b0 d0 g1 g2
  obtain ⟨n4, m4, e4, i4⟩ := Frac.mul_is hc hd ha hb d0 b0 g2 g1
  obtain ⟨n5, m5, e5, i5⟩ := Frac.add_is (c := 0) (d := 1) ha hb (by omega) (by omega) b0 (by omega) g1 (by decide)
  obtain ⟨n6, m6, e6, i6⟩ := Frac.mul_is (c := 1) (d := 1) ha hb (by omega) (by omega) b0 (by omega) g1 (by decide)
  obtain ⟨n7, m7, e7, i7⟩ := Frac.mul_is (c := 0) (d := 1) ha hb (by omega) (by omega) b0 (by omega) g1 (by decide)
  have self : Frac.Is a b a b := ⟨g1, b0, rfl⟩
  obtain ⟨rfl, rfl⟩ := i1.one i2 bd (Nat.mul_pos d0 b0) (by rw [Nat.add_comm, Nat.mul_comm d b])
  obtain ⟨rfl, rfl⟩ := i3.one i4 bd (Nat.mul_pos d0 b0) (by rw [Nat.mul_comm c a, Nat.mul_comm d b])
  obtain ⟨x5, y5⟩ := i5.one self (by omega) b0 (by simp)
  obtain ⟨x6, y6⟩ := i6.one self (by omega) b0 (by simp)
  obtain ⟨x7, y7⟩ := i7.one (show Frac.Is 0 1 0 1 from ⟨by decide, by decide, rfl⟩) (by omega) (by omega) (by simp)
  rw [x5, y5, Frac.made_ok ha hb] at e5
  rw [x6, y6, Frac.made_ok ha hb] at e6
  rw [x7, y7, Frac.made_ok (by omega) (by omega)] at e7
  have e5 : ratio_Add.f (a : Int) b 0 1 = some ((a : Int), (b : Int), 0) := e5
  have e6 : ratio_Mul.f (a : Int) b 1 1 = some ((a : Int), (b : Int), 0) := e6
  have e7 : ratio_Mul.f (a : Int) b 0 1 = some (0, 1, 0) := e7
  have c1 : ratio_Cmp.f a b c d = some (nsg (a * d) (c * b)) := rcmp_eq (by omega) (by omega) (by omega) (by omega)
  have c2 : ratio_Cmp.f c d a b = some (nsg (c * b) (a * d)) := rcmp_eq (by omega) (by omega) (by omega) (by omega)
  have fin : ((ratio_Cmp.f a b c d).bind fun t5201 => ((ratio_Cmp.f c d a b).bind fun t5202 => (if t5201 = (wrap64 (-t5202)) then ((ratio_Cmp.f a b c d).bind fun t5203 => (some ((t5203 == 0) == ((a : Int) == c && ((b : Int) == d))))) else (none)))) = some true := by
    rw [c1, Option.bind_some, c2, Option.bind_some, if_pos (nsg_turn _ _), Option.bind_some]
    refine congrArg some ?_
    rw [beq_iff_eq, Bool.eq_iff_iff, beq_iff_eq, nsg_zero, Bool.and_eq_true, beq_iff_eq, beq_iff_eq]
    constructor
    · intro h
      obtain ⟨x, y⟩ := Frac.same h g1 g2 d0
      omega
    · intro h
      have x : a = c := by omega
      have y : b = d := by omega
      rw [x, y]
  obtain ⟨K1, r1⟩ := right_at n1 m1
  obtain ⟨K2, r2⟩ := right_at n3 m3
  have s1 : n1 ≤ 4611686018427387904 → m1 ≤ 4611686018427387904 → ratio_Cmp.f n1 m1 a b = some (nsg (n1 * b) (a * m1)) := fun x y => rcmp_eq (by omega) (by omega) (by omega) (by omega)
  have s2 : n1 ≤ 4611686018427387904 → m1 ≤ 4611686018427387904 → ratio_Cmp.f n1 m1 c d = some (nsg (n1 * d) (c * m1)) := fun x y => rcmp_eq (by omega) (by omega) (by omega) (by omega)
  obtain ⟨v1, v2, v3⟩ := above b0 d0 i1.2.1 i1.2.2
  have q1 : n1 ≤ 4611686018427387904 → m1 ≤ 4611686018427387904 → Rgt n1 m1 := fun x y => ⟨by omega, by omega, by have := i1.2.1; omega, by omega, by rw [Int.toNat_natCast, Int.toNat_natCast]; exact i1.1⟩
  have q3 : n3 ≤ 4611686018427387904 → m3 ≤ 4611686018427387904 → Rgt n3 m3 := fun x y => ⟨by omega, by omega, by have := i3.2.1; omega, by omega, by rw [Int.toNat_natCast, Int.toNat_natCast]; exact i3.1⟩
  have w : ((nsg (n1 * b) (a * m1) == 0) == ((c : Int) == 0)) = true := by
    rw [beq_iff_eq, Bool.eq_iff_iff, beq_iff_eq, nsg_zero, beq_iff_eq, v3]
    omega
  have w1 := nsg_ge v1
  have w2 := nsg_ge v2
  refine ⟨K1 + K2 + 1, fun k hk => ?_⟩
  obtain ⟨j, rfl⟩ : ∃ j, k = j + 1 := ⟨k - 1, by omega⟩
  have r1 : demurrageref02_Right.f j n1 m1 = some (decide (Rgt n1 m1)) := r1 j (by omega)
  have r2 : demurrageref02_Right.f j n3 m3 = some (decide (Rgt n3 m3)) := r2 j (by omega)
  have mid : ∀ t : Int × Int × Int, t = made n3 m3 → (if t.2.2 = 0 then ((demurrageref02_Right.f j t.1 t.2.1).bind fun t5197 => (if t5197 = true then ((ratio_Cmp.f a b c d).bind fun t5201 => ((ratio_Cmp.f c d a b).bind fun t5202 => (if t5201 = (wrap64 (-t5202)) then ((ratio_Cmp.f a b c d).bind fun t5203 => (some ((t5203 == 0) == ((a : Int) == c && ((b : Int) == d))))) else (none)))) else (none))) else ((ratio_Cmp.f a b c d).bind fun t5201 => ((ratio_Cmp.f c d a b).bind fun t5202 => (if t5201 = (wrap64 (-t5202)) then ((ratio_Cmp.f a b c d).bind fun t5203 => (some ((t5203 == 0) == ((a : Int) == c && ((b : Int) == d))))) else (none))))) = some true := by
    intro t ht
    subst ht
    rw [fin]
    by_cases o : n3 ≤ 4611686018427387904 ∧ m3 ≤ 4611686018427387904
    · rw [Frac.made_ok o.1 o.2, if_pos rfl, r2, Option.bind_some, decide_eq_true (q3 o.1 o.2), if_pos rfl]
    · rw [Frac.made_six o, if_neg (by decide)]
  have no : ∀ x y : Int, ¬ ((!(x == x) || (!(y == y))) = true) := fun x y => by rw [beq_self_eq_true, beq_self_eq_true]; decide
  show demurragelaw02_RatioLaws.j0 (j + 1) true false a b c d = some true
  rw [demurragelaw02_RatioLaws.j0, if_neg (by decide), e1, Option.bind_some, e2, Option.bind_some, e3, Option.bind_some, e4, Option.bind_some, e5, Option.bind_some, e6, Option.bind_some, e7, Option.bind_some]
  rw [if_neg (no _ _), if_pos rfl, if_neg (no _ _), if_pos rfl, if_neg (no _ _), if_pos rfl, if_neg (no _ _), if_pos rfl, if_neg (no _ _), if_pos rfl, if_pos rfl]
  by_cases o : n1 ≤ 4611686018427387904 ∧ m1 ≤ 4611686018427387904
  · rw [Frac.made_ok o.1 o.2, if_pos rfl, r1, Option.bind_some, decide_eq_true (q1 o.1 o.2), if_pos rfl, s1 o.1 o.2, Option.bind_some, if_pos w1, s2 o.1 o.2, Option.bind_some, if_pos w2, Option.bind_some, if_pos w]
    exact mid _ rfl
  · rw [Frac.made_six o, if_neg (by decide)]
    exact mid _ rfl

theorem RatioLaws (a b c d : Int) (_ : (Lit.int .i64 a).wf = true) (_ : (Lit.int .i64 b).wf = true) (_ : (Lit.int .i64 c).wf = true) (_ : (Lit.int .i64 d).wf = true) :
    ∃ k, demurragelaw02_RatioLaws.f k a b c d = some true := by
  obtain ⟨K0, h0⟩ : At (fun k => demurragelaw02_shown.f k) true := At.grow (K := 5) demurragelaw02_shown.mono shown_two
  obtain ⟨K1, h1⟩ := right_at a b
  obtain ⟨K2, h2⟩ := right_at c d
  have no : ∀ k, demurragelaw02_RatioLaws.j0 (k + 1) true true a b c d = some true := fun k => by rw [demurragelaw02_RatioLaws.j0, if_pos rfl]
  have fin : ∃ K3, (Rgt a b → Rgt c d → ∀ k, K3 ≤ k → demurragelaw02_RatioLaws.j0 k true false a b c d = some true) := by
    by_cases r1 : Rgt a b
    · by_cases r2 : Rgt c d
      · obtain ⟨a0, a1, b0, b1, g1⟩ := r1
        obtain ⟨c0, c1, d0, d1, g2⟩ := r2
        obtain ⟨a, rfl⟩ := Int.eq_ofNat_of_zero_le a0
        obtain ⟨b, rfl⟩ := Int.eq_ofNat_of_zero_le (show 0 ≤ b by omega)
        obtain ⟨c, rfl⟩ := Int.eq_ofNat_of_zero_le c0
        obtain ⟨d, rfl⟩ := Int.eq_ofNat_of_zero_le (show 0 ≤ d by omega)
        rw [Int.toNat_natCast, Int.toNat_natCast] at g1 g2
        obtain ⟨K, h⟩ := laws_law (a := a) (b := b) (c := c) (d := d) (by omega) (by omega) (by omega) (by omega) (by omega) (by omega) g1 g2
        exact ⟨K, fun _ _ => h⟩
      · exact ⟨0, fun _ h => absurd h r2⟩
    · exact ⟨0, fun h => absurd h r1⟩
  obtain ⟨K3, h3⟩ := fin
  generalize hk : K0 + K1 + K2 + K3 = k
  have h0 : demurragelaw02_shown.f (k + 1) = some true := h0 (k + 1) (by omega)
  have h1 : demurrageref02_Right.f (k + 1) a b = some (decide (Rgt a b)) := h1 (k + 1) (by omega)
  have h2 : demurrageref02_Right.f (k + 1) c d = some (decide (Rgt c d)) := h2 (k + 1) (by omega)
  refine ⟨k + 1, ?_⟩
  unfold demurragelaw02_RatioLaws.f
  rw [h0, Option.bind_some, h1, Option.bind_some]
  by_cases r1 : Rgt a b
  · rw [decide_eq_true r1, if_pos rfl, h2, Option.bind_some]
    by_cases r2 : Rgt c d
    · rw [decide_eq_true r2]
      exact h3 r1 r2 (k + 1) (by omega)
    · rw [decide_eq_false r2]
      exact no k
  · rw [decide_eq_false r1, if_neg (by decide)]
    exact no k
end Go.Proofs.Ytcdbmmlnmefoeaa.Pure
