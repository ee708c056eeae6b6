/- LevelSmall: of small amounts the least payment is the first one, from 0 on, with which a table ends. -/
import Derived.Test.YteikafepdkijdaaPLevelSmallXLevelSmall
import Derived.Test.YteikafepdkijdaaPLevelSmallT
import Derived.Test.YteikafepdkijdaaPLevelSmallXRefLeast
set_option maxRecDepth 10000
namespace Go.Proofs.Yteikafepdkijdaa.Pure
open Go.RowKit Go.Proofs.Yteikafepdkijdaa.X Go.Proofs.YteikafepdkijdaaW.PrintWords Go.Proofs.YteikafepdkijdaaW.PrintLast

theorem refleast_loop {m r : Int} {ps : List S56} {p : Int} (m0 : 0 ≤ m) (m1 : m ≤ 1000000000000000) (r0 : 0 ≤ r) (r1 : r ≤ 9000) (hp : ps.length ≤ 1200) (hpos : 0 < ps.length) (hu : ∀ j : Nat, j < ps.length → Us (rd_T56 ps (j : Int)))
  (h1 : ∀ x, 0 ≤ x → x < p → ¬ lp m r x ps (ps.length - 1) ≤ x) (h2 : ∀ x, p ≤ x → lp m r x ps (ps.length - 1) ≤ x) : ∀ (d x : Nat), x + d = 401 → (x : Int) ≤ p → At (fun k => demurrageref20_Least.l0 k m r ps 400 (x : Int)) (if p > 400 then (0, false) else (p, true)) := by
 intro d
 induction d with
 | zero =>
  intro x hx hxp
  refine ⟨1, fun k hk => ?_⟩
  obtain ⟨q, rfl⟩ : ∃ q, k = q + 1 := ⟨k - 1, by omega⟩
  show demurrageref20_Least.l0 (q + 1) m r ps 400 (x : Int) = _
  rw [demurrageref20_Least.l0, if_neg (by omega), if_pos (by omega)]
 | succ d ih =>
  intro x hx hxp
  obtain ⟨_, ⟨K1, e⟩⟩ := lEnds_at m0 m1 r0 r1 hp hpos hu (pay := (x : Int)) (by omega) (by omega)
  have wi : wrap64 ((x : Int) + 1) = ((x + 1 : Nat) : Int) := by rw [wrap64_small (by omega) (by omega)]; omega
  by_cases c : (x : Int) = p
  ·have d1 := decide_eq_true (h2 (x : Int) (by clear wi; omega))
   rw [d1] at e
   refine ⟨K1 + 1, fun k hk => ?_⟩
   obtain ⟨q, rfl⟩ : ∃ q, k = q + 1 := ⟨k - 1, by clear wi; omega⟩
   have e : demurrageref20_Ends.f q m r ps (x : Int) = some (true, 0) := e q (by clear wi; omega)
   show demurrageref20_Least.l0 (q + 1) m r ps 400 (x : Int) = _
   rw [demurrageref20_Least.l0, if_pos (by clear wi; omega), e, Option.bind_some, if_pos rfl, if_neg (by clear wi; omega), c]
  ·have d1 := decide_eq_false (h1 (x : Int) (by clear wi; omega) (by clear wi; omega))
   rw [d1] at e
   obtain ⟨K2, g⟩ := ih (x + 1) (by clear wi; omega) (by clear wi; omega)
   refine ⟨K1 + K2 + 1, fun k hk => ?_⟩
   obtain ⟨q, rfl⟩ : ∃ q, k = q + 1 := ⟨k - 1, by clear wi; omega⟩
   have e : demurrageref20_Ends.f q m r ps (x : Int) = some (false, 0) := e q (by clear wi; omega)
   show demurrageref20_Least.l0 (q + 1) m r ps 400 (x : Int) = _
   rw [demurrageref20_Least.l0, if_pos (by clear wi; omega), e, Option.bind_some, if_neg (by decide), wi]
   exact g q (by clear wi; omega)

theorem LevelSmall (a b : Int) (l : List S56) (wa : (Lit.int .u8 a).wf = true) (wb : (Lit.int .u16 b).wf = true) (_ : ∀ x ∈ l, (Lit.int .i64 x.f0).wf = true ∧ (Lit.int .i64 x.f1).wf = true) : ∃ k, demurragelaw20_LevelSmall.f k a b l = some true := by
 have ha := u8_wf' wa
 have hb := u16_wf' wb
 obtain ⟨K0, h0⟩ := shown_at
 have yes : ∀ k, demurragelaw20_LevelSmall.j0 (k + 1) a b l true true = some true := fun k => by rw [demurragelaw20_LevelSmall.j0, if_pos rfl]
 by_cases c1 : (l.length : Int) < 1
 ·refine ⟨K0 + 1, ?_⟩
  have h0 : demurragelaw20_shown.f (K0 + 1) = some true := h0 _ (by omega)
  unfold demurragelaw20_LevelSmall.f
  rw [h0, Option.bind_some, if_pos c1]
  exact yes K0
 ·by_cases c2 : (l.length : Int) > 6
  ·refine ⟨K0 + 1, ?_⟩
   have h0 : demurragelaw20_shown.f (K0 + 1) = some true := h0 _ (by omega)
   unfold demurragelaw20_LevelSmall.f
   rw [h0, Option.bind_some, if_neg c1, if_pos c2]
   exact yes K0
  ·obtain ⟨u, ⟨K1, h1⟩, hu⟩ := usual_at l (by omega)
   cases u with
   | false =>
    refine ⟨K0 + K1 + 1, ?_⟩
    have h0 : demurragelaw20_shown.f (K0 + K1 + 1) = some true := h0 _ (by omega)
    have h1 : demurrageref18_Usual.f (K0 + K1 + 1) l = some false := h1 _ (by omega)
    unfold demurragelaw20_LevelSmall.f
    rw [h0, Option.bind_some, if_neg c1, if_neg c2, h1, Option.bind_some]
    exact yes (K0 + K1)
   | true =>
    have us := hu rfl
    obtain ⟨em, m0, m1⟩ := ratep (m := 61) ha.1 (by omega) (by omega)
    obtain ⟨er, r0, r1⟩ := ratep (m := 9001) hb.1 (by omega) (by omega)
    generalize hm : a % 61 = m at em m0 m1
    generalize hr : b % 9001 = r at er r0 r1
    have z1 : l.length ≤ 1200 := by clear em er; omega
    have z2 : 0 < l.length := by clear em er; omega
    have z3 : m ≤ 1000000000000000 := by clear em er; omega
    have z4 : r ≤ 9000 := by clear em er; omega
    obtain ⟨p, p0, p1, ⟨K2, p2⟩, p3, p4, p5, _⟩ := least_at m0 z3 r0 z4 z1 z2 us
    obtain ⟨K3, e⟩ := refleast_loop m0 z3 r0 z4 z1 z2 us p4 p5 401 0 rfl p0
    generalize hk : K0 + K1 + K2 + K3 = k
    have h0 : demurragelaw20_shown.f (k + 1) = some true := h0 _ (by clear em er; omega)
    have h1 : demurrageref18_Usual.f (k + 1) l = some true := h1 _ (by clear em er; omega)
    have p2 : level_Least.f k m r l = some (p, 0) := p2 _ (by clear em er; omega)
    have e : demurrageref20_Least.f k m r l 400 = some (if p > 400 then (0, false) else (p, true)) := e _ (by clear em er; omega)
    refine ⟨k + 1, ?_⟩
    unfold demurragelaw20_LevelSmall.f
    rw [h0, Option.bind_some, if_neg c1, if_neg c2, h1, Option.bind_some]
    show demurragelaw20_LevelSmall.j0 (k + 1) a b l true false = some true
    rw [demurragelaw20_LevelSmall.j0, if_neg (by decide), em, er, p2, Option.bind_some, e, Option.bind_some, if_pos rfl, if_pos rfl]
    by_cases c : p > 400
    ·rw [if_pos c, if_neg (by decide), if_pos c]
    ·rw [if_neg c, if_pos rfl]
     exact congrArg some (beq_self_eq_true _)
end Go.Proofs.Yteikafepdkijdaa.Pure
