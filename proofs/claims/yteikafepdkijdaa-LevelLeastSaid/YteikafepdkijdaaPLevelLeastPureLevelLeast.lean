/- LevelLeast: with the least payment a table ends, with one less it doesn't; with any other one it ends just if that isn't less. -/
import Derived.Test.YteikafepdkijdaaPLevelLeastXLevelLeast
import Derived.Test.YteikafepdkijdaaPLevelLeastT
set_option maxRecDepth 10000
namespace Go.Proofs.Yteikafepdkijdaa.Pure
open Go.RowKit Go.Proofs.Yteikafepdkijdaa.X Go.Proofs.YteikafepdkijdaaW.PrintWords Go.Proofs.YteikafepdkijdaaW.PrintLast

theorem LevelLeast (a b : Int) (l : List S56) (c : Int) (wa : (Lit.int .u64 a).wf = true) (wb : (Lit.int .u16 b).wf = true) (_ : ∀ x ∈ l, (Lit.int .i64 x.f0).wf = true ∧ (Lit.int .i64 x.f1).wf = true) (wc : (Lit.int .u64 c).wf = true) : ∃ k, demurragelaw20_LevelLeast.f k a b l c = some true := by
 have ha := u64_wf wa
 have hb := u16_wf' wb
 have hc := u64_wf wc
 obtain ⟨K0, h0⟩ := shown_at
 have yes : ∀ k, demurragelaw20_LevelLeast.j0 (k + 1) a b l c true true = some true := fun k => by rw [demurragelaw20_LevelLeast.j0, if_pos rfl]
 by_cases c1 : (l.length : Int) < 1
 ·refine ⟨K0 + 1, ?_⟩
  have h0 : demurragelaw20_shown.f (K0 + 1) = some true := h0 _ (by omega)
  unfold demurragelaw20_LevelLeast.f
  rw [h0, Option.bind_some, if_pos c1]
  exact yes K0
 ·by_cases c2 : (l.length : Int) > 30
  ·refine ⟨K0 + 1, ?_⟩
   have h0 : demurragelaw20_shown.f (K0 + 1) = some true := h0 _ (by omega)
   unfold demurragelaw20_LevelLeast.f
   rw [h0, Option.bind_some, if_neg c1, if_pos c2]
   exact yes K0
  ·obtain ⟨u, ⟨K1, h1⟩, hu⟩ := usual_at l (by omega)
   cases u with
   | false =>
    refine ⟨K0 + K1 + 1, ?_⟩
    have h0 : demurragelaw20_shown.f (K0 + K1 + 1) = some true := h0 _ (by omega)
    have h1 : demurrageref18_Usual.f (K0 + K1 + 1) l = some false := h1 _ (by omega)
    unfold demurragelaw20_LevelLeast.f
    rw [h0, Option.bind_some, if_neg c1, if_neg c2, h1, Option.bind_some]
    exact yes (K0 + K1)
   | true =>
    have us := hu rfl
    obtain ⟨em, m0, m1⟩ := money (m := 1000000000000001) ha (by omega) (by omega)
    obtain ⟨er, r0, r1⟩ := ratep (m := 9001) hb.1 (by omega) (by omega)
    obtain ⟨eq, q0, q1⟩ := money (m := 2000000000000000) hc (by omega) (by omega)
    generalize hm : a % 1000000000000001 = m at em m0 m1
    generalize hr : b % 9001 = r at er r0 r1
    generalize hq : c % 2000000000000000 = q at eq q0 q1
    have z1 : l.length ≤ 1200 := by clear eq em er; omega
    have z2 : 0 < l.length := by clear eq em er; omega
    have z3 : m ≤ 1000000000000000 := by clear eq em er; omega
    have z4 : r ≤ 9000 := by clear eq em er; omega
    obtain ⟨p, p0, p1, ⟨K2, p2⟩, p3, p4, p5, _⟩ := least_at m0 z3 r0 z4 z1 z2 us
    obtain ⟨_, ⟨K3, e1⟩⟩ := lEnds_at m0 z3 r0 z4 z1 z2 us (pay := p) p0 p1
    obtain ⟨⟨K4, e2⟩, ⟨K5, e3⟩⟩ := lEnds_at m0 z3 r0 z4 z1 z2 us (pay := q) q0 (by clear eq em er; omega)
    have at1 : ∃ K, 0 < p → ∀ k, K ≤ k → demurrageref20_Ends.f k m r l (p - 1) = some (decide (lp m r (p - 1) l (l.length - 1) ≤ p - 1), 0) := by
     by_cases c : 0 < p
     ·obtain ⟨_, ⟨K, e⟩⟩ := lEnds_at m0 z3 r0 z4 z1 z2 us (pay := p - 1) (by clear eq em er; omega) (by clear eq em er; omega)
      exact ⟨K, fun _ => e⟩
     ·exact ⟨0, fun h => absurd h c⟩
    obtain ⟨K6, e4⟩ := at1
    have same : decide (lp m r q l (l.length - 1) ≤ q) = decide (q ≥ p) := by
     by_cases c : q ≥ p
     ·rw [decide_eq_true c, decide_eq_true (p5 q c)]
     ·rw [decide_eq_false c, decide_eq_false (p4 q q0 (by clear eq em er; omega))]
    rw [same] at e2 e3
    rw [decide_eq_true p3] at e1
    generalize hk : K0 + K1 + K2 + K3 + K4 + K5 + K6 = k
    have h0 : demurragelaw20_shown.f (k + 1) = some true := h0 _ (by clear eq em er; omega)
    have h1 : demurrageref18_Usual.f (k + 1) l = some true := h1 _ (by clear eq em er; omega)
    have p2 : level_Least.f k m r l = some (p, 0) := p2 _ (by clear eq em er; omega)
    have e1 : demurrageref20_Ends.f k m r l p = some (true, 0) := e1 _ (by clear eq em er; omega)
    have e2 : level_Ends.f k m r l q = some (decide (q ≥ p), 0) := e2 _ (by clear eq em er; omega)
    have e3 : demurrageref20_Ends.f k m r l q = some (decide (q ≥ p), 0) := e3 _ (by clear eq em er; omega)
    have e4 : 0 < p → demurrageref20_Ends.f k m r l (p - 1) = some (decide (lp m r (p - 1) l (l.length - 1) ≤ p - 1), 0) := fun h => e4 h _ (by clear eq em er; omega)
    have n1 : ¬ p < 0 := by clear eq em er; omega
    refine ⟨k + 1, ?_⟩
    unfold demurragelaw20_LevelLeast.f
    rw [h0, Option.bind_some, if_neg c1, if_neg c2, h1, Option.bind_some]
    show demurragelaw20_LevelLeast.j0 (k + 1) a b l c true false = some true
    rw [demurragelaw20_LevelLeast.j0, if_neg (by decide), em, er, p2, Option.bind_some, if_pos rfl, if_neg n1, e1, Option.bind_some, if_pos rfl, if_pos rfl]
    by_cases c : 0 < p
    ·have w : wrap64 (p - 1) = p - 1 := wrap64_small (by clear eq em er; omega) (by clear eq em er; omega)
     have e4 := e4 c
     rw [decide_eq_false (p4 (p - 1) (by clear eq em er w; omega) (by clear eq em er w; omega))] at e4
     rw [if_pos (show p > 0 from c), w, e4, Option.bind_some, if_neg (by decide), eq, e3, Option.bind_some, e2, Option.bind_some, if_pos rfl, if_pos (beq_self_eq_true _), if_pos (beq_self_eq_true _)]
     rfl
    ·rw [if_neg (show ¬ p > 0 from c), eq, e3, Option.bind_some, e2, Option.bind_some, if_pos rfl, if_pos (beq_self_eq_true _), if_pos (beq_self_eq_true _)]
     rfl
end Go.Proofs.Yteikafepdkijdaa.Pure
