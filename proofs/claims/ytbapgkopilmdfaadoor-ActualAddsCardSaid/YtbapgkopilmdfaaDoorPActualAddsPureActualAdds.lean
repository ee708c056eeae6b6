/- ActualAdds: parts of days one behind the other add up to the part of all of them, by all three ways. -/
import Derived.Test.YtbapgkopilmdfaaDoorPActualAddsXActualAdds
import Derived.Test.YtbapgkopilmdfaaDoorPActualAddsT
set_option maxRecDepth 10000
namespace Go.Proofs.YtbapgkopilmdfaaDoor.Pure
open Go.RowKit Go.Proofs.YtbapgkopilmdfaaDoor.X Go.Proofs.YtbapgkopilmdfaaDoor.Cal Go.Proofs.YtbapgkopilmdfaaDoorW.PrintWords Go.Proofs.YtbapgkopilmdfaaDoorW.PrintLast

theorem adds_main {a b c ya yb yc : Int} (ha : In a ya) (hb : In b yb) (hc : In c yc) (ab : a ≤ b) (bc : b ≤ c) : At (fun k => demurragelaw08_ActualAdds.j0 k a b c true false) true := by
 have da := ha.day
 have db := hb.day
 have dc := hc.day
 have z1 := codev_zero da db ab
 have z2 := codev_zero db dc bc
 have z3 := codev_zero da dc (by omega)
 obtain ⟨K1, h1⟩ := by360_at a b
 obtain ⟨K2, h2⟩ := by360_at b c
 obtain ⟨K3, h3⟩ := by360_at a c
 obtain ⟨K4, h4⟩ := by365_at a b
 obtain ⟨K5, h5⟩ := by365_at b c
 obtain ⟨K6, h6⟩ := by365_at a c
 obtain ⟨K7, h7⟩ := byyears_at ha hb ab
 obtain ⟨K8, h8⟩ := byyears_at hb hc bc
 obtain ⟨K9, h9⟩ := byyears_at ha hc (by omega)
 rw [z1] at h1 h4
 rw [z2] at h2 h5
 rw [z3] at h3 h6
 have y1 := yv_le ha hb ab
 have y2 := yv_le hb hc bc
 have y3 := yv_add ha hb hc ab bc
 obtain ⟨n1, e1⟩ := Int.eq_ofNat_of_zero_le (show 0 ≤ b - a by omega)
 obtain ⟨n2, e2⟩ := Int.eq_ofNat_of_zero_le (show 0 ≤ c - b by omega)
 have e3 : c - a = ((n1 + n2 : Nat) : Int) := by omega
 rw [e1, Int.toNat_natCast] at h1 h4
 rw [e2, Int.toNat_natCast] at h2 h5
 rw [e3, Int.toNat_natCast] at h3 h6
 obtain ⟨p1, p2, hp⟩ := fr_get n1 360
 obtain ⟨q1, q2, hq⟩ := fr_get n2 360
 obtain ⟨r1, r2, hr⟩ := fr_get (n1 + n2) 360
 obtain ⟨s1, s2, hs⟩ := fr_get n1 365
 obtain ⟨t1, t2, ht⟩ := fr_get n2 365
 obtain ⟨u1, u2, hu⟩ := fr_get (n1 + n2) 365
 obtain ⟨v1, v2, hv⟩ := fr_get (yv a b ya yb) 133590
 obtain ⟨w1, w2, hw⟩ := fr_get (yv b c yb yc) 133590
 obtain ⟨x1, x2, hx⟩ := fr_get (yv a c ya yc) 133590
 obtain ⟨L1, g1⟩ := add_at (by omega) (by omega) (by omega) (by omega) (by omega) (by omega) (by omega) hp hq hr (by omega)
 obtain ⟨L2, g2⟩ := add_at (by omega) (by omega) (by omega) (by omega) (by omega) (by omega) (by omega) hs ht hu (by omega)
 obtain ⟨L3, g3⟩ := add_at (by omega) (by omega) (by omega) (by omega) (by omega) (by omega) (by omega) hv hw hx (by omega)
 rw [hp] at h1
 rw [hq] at h2
 rw [hr] at h3
 rw [hs] at h4
 rw [ht] at h5
 rw [hu] at h6
 rw [hv] at h7
 rw [hw] at h8
 rw [hx] at h9
 clear hp hq hr hs ht hu hv hw hx
 refine ⟨K1 + K2 + K3 + K4 + K5 + K6 + K7 + K8 + K9 + L1 + L2 + L3 + 1, fun k hk => ?_⟩
 obtain ⟨k, rfl⟩ : ∃ q, k = q + 1 := ⟨k - 1, by omega⟩
 have h1 : actual_By360.f k a b = some (p1, p2, 0) := h1 k (by omega)
 have h2 : actual_By360.f k b c = some (q1, q2, 0) := h2 k (by omega)
 have h3 : actual_By360.f k a c = some (r1, r2, 0) := h3 k (by omega)
 have h4 : actual_By365.f k a b = some (s1, s2, 0) := h4 k (by omega)
 have h5 : actual_By365.f k b c = some (t1, t2, 0) := h5 k (by omega)
 have h6 : actual_By365.f k a c = some (u1, u2, 0) := h6 k (by omega)
 have h7 : actual_ByYears.f k a b = some (v1, v2, 0) := h7 k (by omega)
 have h8 : actual_ByYears.f k b c = some (w1, w2, 0) := h8 k (by omega)
 have h9 : actual_ByYears.f k a c = some (x1, x2, 0) := h9 k (by omega)
 have g1 : demurrageref02_Add.f k p1 p2 q1 q2 = some (r1, r2, 0) := g1 k (by omega)
 have g2 : demurrageref02_Add.f k s1 s2 t1 t2 = some (u1, u2, 0) := g2 k (by omega)
 have g3 : demurrageref02_Add.f k v1 v2 w1 w2 = some (x1, x2, 0) := g3 k (by omega)
 show demurragelaw08_ActualAdds.j0 (k + 1) a b c true false = some true
 rw [demurragelaw08_ActualAdds.j0, if_neg (by decide), h1, Option.bind_some, h2, Option.bind_some, h3, Option.bind_some, h4, Option.bind_some, h5, Option.bind_some, h6, Option.bind_some, h7, Option.bind_some, h8, Option.bind_some, h9, Option.bind_some]
 simp only [if_true]
 rw [g1, Option.bind_some, g2, Option.bind_some, g3, Option.bind_some]
 simp
theorem ActualAdds (a b c : Int) (_ : (Lit.int .i64 a).wf = true) (_ : (Lit.int .i64 b).wf = true) (_ : (Lit.int .i64 c).wf = true) : ∃ k, demurragelaw08_ActualAdds.f k a b c = some true := by
 obtain ⟨K0, h0⟩ := shown_at
 have yes : ∀ k, demurragelaw08_ActualAdds.j0 (k + 1) a b c true true = some true := fun k => by rw [demurragelaw08_ActualAdds.j0, if_pos rfl]
 have fin : ∃ K, 1 ≤ a ∧ a ≤ 3652059 → 1 ≤ b ∧ b ≤ 3652059 → 1 ≤ c ∧ c ≤ 3652059 → a ≤ b → b ≤ c → ∀ k, K ≤ k → demurragelaw08_ActualAdds.j0 k a b c true false = some true := by
  by_cases g : (1 ≤ a ∧ a ≤ 3652059) ∧ (1 ≤ b ∧ b ≤ 3652059) ∧ (1 ≤ c ∧ c ≤ 3652059) ∧ a ≤ b ∧ b ≤ c
  ·obtain ⟨da, db, dc, ab, bc⟩ := g
   obtain ⟨ya, ha⟩ := In.exists da.1 da.2
   obtain ⟨yb, hb⟩ := In.exists db.1 db.2
   obtain ⟨yc, hc⟩ := In.exists dc.1 dc.2
   obtain ⟨K, h⟩ := adds_main ha hb hc ab bc
   exact ⟨K, fun _ _ _ _ _ => h⟩
  ·exact ⟨0, fun x y z u v => absurd ⟨x, y, z, u, v⟩ g⟩
 obtain ⟨K1, h1⟩ := fin
 refine ⟨K0 + K1 + 1, ?_⟩
 generalize hk : K0 + K1 = k
 have h0 : demurragelaw08_shown.f (k + 1) = some true := h0 _ (by omega)
 unfold demurragelaw08_ActualAdds.f
 rw [h0, Option.bind_some, refday_eq, refday_eq, refday_eq, Option.bind_some]
 by_cases da : 1 ≤ a ∧ a ≤ 3652059
 ·rw [decide_eq_true da, if_pos rfl, Option.bind_some]
  by_cases db : 1 ≤ b ∧ b ≤ 3652059
  ·rw [decide_eq_true db, if_pos rfl, Option.bind_some]
   by_cases dc : 1 ≤ c ∧ c ≤ 3652059
   ·rw [decide_eq_true dc, if_pos rfl]
    by_cases ab : a > b
    ·rw [if_pos ab]
     exact yes k
    ·rw [if_neg ab]
     by_cases bc : b > c
     ·rw [decide_eq_true bc]
      exact yes k
     ·rw [decide_eq_false bc]
      exact h1 da db dc (by omega) (by omega) _ (by omega)
   ·rw [decide_eq_false dc, if_neg (by decide)]
    exact yes k
  ·rw [decide_eq_false db, if_neg (by decide)]
   exact yes k
 ·rw [decide_eq_false da, if_neg (by decide)]
  exact yes k
end Go.Proofs.YtbapgkopilmdfaaDoor.Pure
