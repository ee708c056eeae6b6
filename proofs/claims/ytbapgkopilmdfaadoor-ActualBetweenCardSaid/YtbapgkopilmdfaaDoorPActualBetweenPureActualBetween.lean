/- ActualBetween: By365 isn't below ByYears, and that isn't below the days by 366; By360 is the greatest of all; each is 0 just to the same day. -/
import Derived.Test.YtbapgkopilmdfaaDoorPActualBetweenXActualBetween
import Derived.Test.YtbapgkopilmdfaaDoorPActualBetweenT
set_option maxRecDepth 10000
namespace Go.Proofs.YtbapgkopilmdfaaDoor.Pure
open Go.RowKit Go.Proofs.YtbapgkopilmdfaaDoor.X Go.Proofs.YtbapgkopilmdfaaDoor.Cal Go.Proofs.YtbapgkopilmdfaaDoorW.PrintWords Go.Proofs.YtbapgkopilmdfaaDoorW.PrintLast

theorem fr_zero {n d : Nat} (hd : 0 < d) {x y : Int} (h : fr n d = (x, y, 0)) : (x = 0 ↔ n = 0) ∧ x * d = n * y ∧ 0 ≤ x ∧ x ≤ n ∧ 0 ≤ y ∧ y ≤ d := by
 obtain ⟨i1, i2, i3⟩ := fr_is (n := n) hd
 have l := Frac.Is.le ⟨i1, i2, i3⟩ hd
 unfold fr at h
 generalize n / n.gcd d = u at *
 generalize d / n.gcd d = v at *
 simp only [Prod.mk.injEq] at h
 obtain ⟨rfl, rfl, _⟩ := h
 refine ⟨⟨fun z => ?_, fun z => ?_⟩, by exact_mod_cast i3, by omega, by omega, by omega, by omega⟩
 ·have z : u = 0 := by omega
  rw [z, Nat.zero_mul] at i3
  have := Nat.mul_eq_zero.mp i3.symm
  omega
 ·omega
theorem between_main {a b ya yb : Int} (ha : In a ya) (hb : In b yb) (ab : a ≤ b) : At (fun k => demurragelaw08_ActualBetween.j0 k a b true false) true := by
 have da := ha.day
 have db := hb.day
 have z := codev_zero da db ab
 obtain ⟨K1, h1⟩ := by360_at a b
 obtain ⟨K2, h2⟩ := by365_at a b
 obtain ⟨K3, h3⟩ := byyears_at ha hb ab
 rw [z] at h1 h2
 have y := yv_le ha hb ab
 obtain ⟨n, e⟩ := Int.eq_ofNat_of_zero_le (show 0 ≤ b - a by omega)
 rw [e, Int.toNat_natCast] at h1 h2 y
 generalize yv a b ya yb = v at *
 obtain ⟨K4, h4⟩ := refnew_fr (n := n) (d := 366) (by omega) (by omega) (by omega)
 obtain ⟨c1, s1, L1, g1⟩ := refcmp_fr (n1 := n) (d1 := 360) (n2 := n) (d2 := 365) (by omega) (by omega) (by omega) (by omega) (by omega) (by omega) (by omega)
 obtain ⟨c2, s2, L2, g2⟩ := refcmp_fr (n1 := n) (d1 := 365) (n2 := v) (d2 := 133590) (by omega) (by omega) (by omega) (by omega) (by omega) (by omega) (by omega)
 obtain ⟨c3, s3, L3, g3⟩ := refcmp_fr (n1 := v) (d1 := 133590) (n2 := n) (d2 := 366) (by omega) (by omega) (by omega) (by omega) (by omega) (by omega) (by omega)
 obtain ⟨p1, p2, hp⟩ := fr_get n 360
 obtain ⟨q1, q2, hq⟩ := fr_get n 365
 obtain ⟨r1, r2, hr⟩ := fr_get v 133590
 obtain ⟨l1, l2, hl⟩ := fr_get n 366
 obtain ⟨a1, a2, a3, a4, a5, a6⟩ := fr_zero (by omega) hp
 obtain ⟨b1, b2, b3, b4, b5, b6⟩ := fr_zero (by omega) hq
 obtain ⟨d1, _⟩ := fr_zero (by omega) hr
 rw [hp] at h1 g1
 rw [hq] at h2 g1 g2
 rw [hr] at h3 g2 g3
 rw [hl] at h4 g3
 clear hp hq hr hl
 refine ⟨K1 + K2 + K3 + K4 + L1 + L2 + L3 + 1, fun k hk => ?_⟩
 obtain ⟨k, rfl⟩ : ∃ q, k = q + 1 := ⟨k - 1, by omega⟩
 have h1 : actual_By360.f k a b = some (p1, p2, 0) := h1 k (by omega)
 have h2 : actual_By365.f k a b = some (q1, q2, 0) := h2 k (by omega)
 have h3 : actual_ByYears.f k a b = some (r1, r2, 0) := h3 k (by omega)
 have h4 : demurrageref02_New.f k (n : Int) 366 = some (l1, l2, 0) := h4 k (by omega)
 have g1 : demurrageref02_Cmp.f k p1 p2 q1 q2 = some c1 := g1 k (by omega)
 have g2 : demurrageref02_Cmp.f k q1 q2 r1 r2 = some c2 := g2 k (by omega)
 have g3 : demurrageref02_Cmp.f k r1 r2 l1 l2 = some c3 := g3 k (by omega)
 have w : wrap64 (b - a) = (n : Int) := by
  rw [wrap64_small (by omega) (by omega)]
  exact e
 have m1 : 0 ≤ (n : Int) * p2 ∧ (n : Int) * p2 ≤ 4000000 * 360 := ⟨Int.mul_nonneg (by omega) a5, Int.mul_le_mul (by omega) (by omega) a5 (by omega)⟩
 have m2 : 0 ≤ (n : Int) * q2 ∧ (n : Int) * q2 ≤ 4000000 * 365 := ⟨Int.mul_nonneg (by omega) b5, Int.mul_le_mul (by omega) (by omega) b5 (by omega)⟩
 have a2 : p1 * 360 = (n : Int) * p2 := a2
 have b2 : q1 * 365 = (n : Int) * q2 := b2
 have u1 : wrap64 (p1 * 360) = wrap64 ((n : Int) * p2) := by rw [a2]
 have u2 : wrap64 (q1 * 365) = wrap64 ((n : Int) * q2) := by rw [b2]
 have t1 : ((r1 == 0) == (a == b)) = true := by
  rw [beq_iff_eq, Bool.eq_iff_iff, beq_iff_eq, beq_iff_eq, d1]
  omega
 have t2 : ((p1 == 0) == (a == b)) = true := by
  rw [beq_iff_eq, Bool.eq_iff_iff, beq_iff_eq, beq_iff_eq, a1]
  omega
 show demurragelaw08_ActualBetween.j0 (k + 1) a b true false = some true
 rw [demurragelaw08_ActualBetween.j0, if_neg (by decide), h1, Option.bind_some, h2, Option.bind_some, h3, Option.bind_some, w, h4, Option.bind_some]
 simp only [if_true]
 rw [g1, Option.bind_some, if_pos s1, g2, Option.bind_some, if_pos s2, g3, Option.bind_some, if_pos s3, if_pos t1, if_pos t2, if_pos u1, u2]
 simp
theorem ActualBetween (a b : Int) (_ : (Lit.int .i64 a).wf = true) (_ : (Lit.int .i64 b).wf = true) : ∃ k, demurragelaw08_ActualBetween.f k a b = some true := by
 obtain ⟨K0, h0⟩ := shown_at
 have yes : ∀ k, demurragelaw08_ActualBetween.j0 (k + 1) a b true true = some true := fun k => by rw [demurragelaw08_ActualBetween.j0, if_pos rfl]
 have fin : ∃ K, 1 ≤ a ∧ a ≤ 3652059 → 1 ≤ b ∧ b ≤ 3652059 → a ≤ b → ∀ k, K ≤ k → demurragelaw08_ActualBetween.j0 k a b true false = some true := by
  by_cases g : (1 ≤ a ∧ a ≤ 3652059) ∧ (1 ≤ b ∧ b ≤ 3652059) ∧ a ≤ b
  ·obtain ⟨da, db, ab⟩ := g
   obtain ⟨ya, ha⟩ := In.exists da.1 da.2
   obtain ⟨yb, hb⟩ := In.exists db.1 db.2
   obtain ⟨K, h⟩ := between_main ha hb ab
   exact ⟨K, fun _ _ _ => h⟩
  ·exact ⟨0, fun x y u => absurd ⟨x, y, u⟩ g⟩
 obtain ⟨K1, h1⟩ := fin
 refine ⟨K0 + K1 + 1, ?_⟩
 generalize hk : K0 + K1 = k
 have h0 : demurragelaw08_shown.f (k + 1) = some true := h0 _ (by omega)
 unfold demurragelaw08_ActualBetween.f
 rw [h0, Option.bind_some, refday_eq, refday_eq, Option.bind_some]
 by_cases da : 1 ≤ a ∧ a ≤ 3652059
 ·rw [decide_eq_true da, if_pos rfl, Option.bind_some]
  by_cases db : 1 ≤ b ∧ b ≤ 3652059
  ·rw [decide_eq_true db, if_pos rfl]
   by_cases ab : a > b
   ·rw [decide_eq_true ab]
    exact yes k
   ·rw [decide_eq_false ab]
    exact h1 da db (by omega) _ (by omega)
  ·rw [decide_eq_false db, if_neg (by decide)]
   exact yes k
 ·rw [decide_eq_false da, if_neg (by decide)]
  exact yes k
end Go.Proofs.YtbapgkopilmdfaaDoor.Pure
