/- ActualMoves: 400 years on, both days, each way tells the same; a day more is a day's part more: by 360, by 365, and by the days of its year. -/
import Derived.Test.YtbapgkopilmdfaaDoorPActualMovesXActualMoves
import Derived.Test.YtbapgkopilmdfaaDoorPActualMovesT
set_option maxRecDepth 10000
namespace Go.Proofs.YtbapgkopilmdfaaDoor.Pure
open Go.RowKit Go.Proofs.YtbapgkopilmdfaaDoor.X Go.Proofs.YtbapgkopilmdfaaDoor.Cal Go.Proofs.YtbapgkopilmdfaaDoorW.PrintWords Go.Proofs.YtbapgkopilmdfaaDoorW.PrintLast

theorem moves_main {a b ya yb : Int} (ha : In a ya) (hb : In b yb) (ab : a ≤ b) (hm : b + 146097 ≤ 3652059) : At (fun k => demurragelaw08_ActualMoves.j0 k a b true false) true := by
 have da := ha.day
 have db := hb.day
 have ha' := ha.era (by omega)
 have hb' := hb.era hm
 obtain ⟨yc, hc⟩ := In.exists (n := b + 1) (by omega) (by omega)
 have st := D_step hb hc
 have z1 := codev_zero da db ab
 have z2 := codev_zero ha'.day hb'.day (by omega)
 have z3 := codev_zero da hc.day (by omega)
 obtain ⟨K1, h1⟩ := by360_at a b
 obtain ⟨K2, h2⟩ := by365_at a b
 obtain ⟨K3, h3⟩ := byyears_at ha hb ab
 obtain ⟨K4, h4⟩ := by360_at (a + 146097) (b + 146097)
 obtain ⟨K5, h5⟩ := by365_at (a + 146097) (b + 146097)
 obtain ⟨K6, h6⟩ := byyears_at ha' hb' (by omega)
 obtain ⟨K7, h7⟩ := byyears_at ha hc (by omega)
 obtain ⟨K8, h8⟩ := by360_at a (b + 1)
 obtain ⟨mo, dd, K9, h9⟩ := refof_at hb
 rw [z1] at h1 h2
 rw [z2] at h4 h5
 rw [z3] at h8
 have bt := D_between ha hb ab
 have y1 := yv_le ha hb ab
 have y2 := yv_le ha hc (by omega)
 have e6 : yv (a + 146097) (b + 146097) (ya + 400) (yb + 400) = yv a b ya yb := by
  unfold yv
  rw [D_era, D_era]
  omega
 have e7 : yv a (b + 1) ya yc = yv a b ya yb + (if Lp yb then 365 else 366) := by
  unfold yv
  rw [st]
  split <;> omega
 rw [e6] at h6
 obtain ⟨n, e⟩ := Int.eq_ofNat_of_zero_le (show 0 ≤ b - a by omega)
 have e4 : b + 146097 - (a + 146097) = (n : Int) := by omega
 have e8 : b + 1 - a = ((n + 1 : Nat) : Int) := by omega
 rw [e, Int.toNat_natCast] at h1 h2
 rw [e4, Int.toNat_natCast] at h4 h5
 rw [e8, Int.toNat_natCast] at h8
 obtain ⟨p1, p2, hp⟩ := fr_get n 360
 obtain ⟨q1, q2, hq⟩ := fr_get n 365
 obtain ⟨r1, r2, hr⟩ := fr_get (yv a b ya yb) 133590
 obtain ⟨x1, x2, hx⟩ := fr_get (yv a (b + 1) ya yc) 133590
 obtain ⟨v1, v2, hv⟩ := fr_get (n + 1) 360
 obtain ⟨L2, g2⟩ := add_at (by omega) (by omega) (by omega) (by omega) (by omega) (by omega) (by omega) hp (one_fr 360) hv (by omega)
 have g1 : ∃ L1, ∀ k, L1 ≤ k → demurrageref02_Add.f k r1 r2 1 (len yb) = some (x1, x2, 0) := by
  by_cases l : Lp yb
  ·rw [if_pos l] at e7
   rw [show len yb = ((366 : Nat) : Int) from if_pos l]
   exact add_at (by omega) (by omega) (by omega) (by omega) (by omega) (by omega) (by omega) hr (one_fr 366) hx (by omega)
  ·rw [if_neg l] at e7
   rw [show len yb = ((365 : Nat) : Int) from if_neg l]
   exact add_at (by omega) (by omega) (by omega) (by omega) (by omega) (by omega) (by omega) hr (one_fr 365) hx (by omega)
 obtain ⟨L1, g1⟩ := g1
 rw [hp] at h1 h4
 rw [hq] at h2 h5
 rw [hr] at h3 h6
 rw [hx] at h7
 rw [hv] at h8
 clear hp hq hr hx hv e7 e6 st bt
 have w1 : wrap64 (a + 146097) = a + 146097 := wrap64_small (by omega) (by omega)
 have w2 : wrap64 (b + 146097) = b + 146097 := by
  clear w1
  exact wrap64_small (by omega) (by omega)
 have w3 : wrap64 (b + 1) = b + 1 := by
  clear w1 w2
  exact wrap64_small (by omega) (by omega)
 refine ⟨K1 + K2 + K3 + K4 + K5 + K6 + K7 + K8 + K9 + L1 + L2 + 2, fun k hk => ?_⟩
 obtain ⟨k, rfl⟩ : ∃ q, k = q + 2 := ⟨k - 2, by clear w1 w2 w3; omega⟩
 have h1 : actual_By360.f (k + 1) a b = some (p1, p2, 0) := h1 _ (by clear w1 w2 w3; omega)
 have h2 : actual_By365.f (k + 1) a b = some (q1, q2, 0) := h2 _ (by clear w1 w2 w3; omega)
 have h3 : actual_ByYears.f (k + 1) a b = some (r1, r2, 0) := h3 _ (by clear w1 w2 w3; omega)
 have h4 : actual_By360.f (k + 1) (a + 146097) (b + 146097) = some (p1, p2, 0) := h4 _ (by clear w1 w2 w3; omega)
 have h5 : actual_By365.f (k + 1) (a + 146097) (b + 146097) = some (q1, q2, 0) := h5 _ (by clear w1 w2 w3; omega)
 have h6 : actual_ByYears.f (k + 1) (a + 146097) (b + 146097) = some (r1, r2, 0) := h6 _ (by clear w1 w2 w3; omega)
 have h7 : actual_ByYears.f k a (b + 1) = some (x1, x2, 0) := h7 _ (by clear w1 w2 w3; omega)
 have h8 : actual_By360.f k a (b + 1) = some (v1, v2, 0) := h8 _ (by clear w1 w2 w3; omega)
 have h9 : demurrageref04_Of.f (k + 1) b = some (yb, mo, dd, 0) := h9 _ (by clear w1 w2 w3; omega)
 have g1 : demurrageref02_Add.f k r1 r2 1 (len yb) = some (x1, x2, 0) := g1 _ (by clear w1 w2 w3; omega)
 have g2 : demurrageref02_Add.f k p1 p2 1 360 = some (v1, v2, 0) := g2 _ (by clear w1 w2 w3; omega)
 have y0 := hb.1
 have last : ∀ N : Int, len yb = N → demurragelaw08_ActualMoves.j1 (k + 1) a b true N p1 p2 r1 r2 = some true := by
  rintro N rfl
  rw [demurragelaw08_ActualMoves.j1, w3, h7, Option.bind_some, h8, Option.bind_some, g1, Option.bind_some, g2, Option.bind_some]
  simp
 have nn : ∀ x y : Int, ¬ (!(x == x) || (!(y == y))) = true := fun x y => by simp
 show demurragelaw08_ActualMoves.j0 (k + 1 + 1) a b true false = some true
 rw [demurragelaw08_ActualMoves.j0, if_neg (by decide), w1, w2, h1, Option.bind_some, h2, Option.bind_some, h3, Option.bind_some, h4, Option.bind_some, h5, Option.bind_some, h6, Option.bind_some]
 simp only [if_true]
 rw [if_neg (nn p1 p2), if_neg (nn q1 q2), if_neg (nn r1 r2), h9, Option.bind_some]
 show ((demurrageref04_Leap.f yb).bind fun t => (if t = true then demurragelaw08_ActualMoves.j1 (k + 1) a b true 366 p1 p2 r1 r2 else demurragelaw08_ActualMoves.j1 (k + 1) a b true 365 p1 p2 r1 r2)) = some true
 rw [refleap_eq (by clear w1 w2 w3; omega), Option.bind_some]
 by_cases l : Lp yb
 ·rw [decide_eq_true l, if_pos rfl]
  exact last 366 (if_pos l)
 ·rw [decide_eq_false l, if_neg (by decide)]
  exact last 365 (if_neg l)
theorem ActualMoves (a b : Int) (_ : (Lit.int .i64 a).wf = true) (_ : (Lit.int .i64 b).wf = true) : ∃ k, demurragelaw08_ActualMoves.f k a b = some true := by
 obtain ⟨K0, h0⟩ := shown_at
 have yes : ∀ k, demurragelaw08_ActualMoves.j0 (k + 1) a b true true = some true := fun k => by rw [demurragelaw08_ActualMoves.j0, if_pos rfl]
 have fin : ∃ K, 1 ≤ a ∧ a ≤ 3652059 → 1 ≤ b ∧ b ≤ 3652059 → a ≤ b → b + 146097 ≤ 3652059 → ∀ k, K ≤ k → demurragelaw08_ActualMoves.j0 k a b true false = some true := by
  by_cases g : (1 ≤ a ∧ a ≤ 3652059) ∧ (1 ≤ b ∧ b ≤ 3652059) ∧ a ≤ b ∧ b + 146097 ≤ 3652059
  ·obtain ⟨da, db, ab, hm⟩ := g
   obtain ⟨ya, ha⟩ := In.exists da.1 da.2
   obtain ⟨yb, hb⟩ := In.exists db.1 db.2
   obtain ⟨K, h⟩ := moves_main ha hb ab hm
   exact ⟨K, fun _ _ _ _ => h⟩
  ·exact ⟨0, fun x y u v => absurd ⟨x, y, u, v⟩ g⟩
 obtain ⟨K1, h1⟩ := fin
 refine ⟨K0 + K1 + 1, ?_⟩
 generalize hk : K0 + K1 = k
 have h0 : demurragelaw08_shown.f (k + 1) = some true := h0 _ (by omega)
 unfold demurragelaw08_ActualMoves.f
 rw [h0, Option.bind_some, refday_eq, refday_eq, Option.bind_some]
 by_cases da : 1 ≤ a ∧ a ≤ 3652059
 ·rw [decide_eq_true da, if_pos rfl, Option.bind_some]
  by_cases db : 1 ≤ b ∧ b ≤ 3652059
  ·rw [decide_eq_true db, if_pos rfl]
   by_cases ab : a > b
   ·rw [if_pos ab]
    exact yes k
   ·rw [if_neg ab, wrap64_small (x := b + 146097) (by omega) (by omega)]
    by_cases hm : b + 146097 > 3652059
    ·rw [decide_eq_true hm]
     exact yes k
    ·rw [decide_eq_false hm]
     exact h1 da db (by omega) (by omega) _ (by omega)
  ·rw [decide_eq_false db, if_neg (by decide)]
   exact yes k
 ·rw [decide_eq_false da, if_neg (by decide)]
  exact yes k
end Go.Proofs.YtbapgkopilmdfaaDoor.Pure
