/- TableSound: of each kind: a row for each part, interest of what is open, all paid back, nothing open beyond 0 and the amount; the sums hang together. -/
import Derived.Test.YteikafepdkijdaaPTableSoundXTableSound
import Derived.Test.YteikafepdkijdaaPTableSoundT
set_option maxRecDepth 10000
namespace Go.Proofs.Yteikafepdkijdaa.Pure
open Go.RowKit Go.Proofs.Yteikafepdkijdaa.X Go.Proofs.YteikafepdkijdaaW.PrintWords Go.Proofs.YteikafepdkijdaaW.PrintLast

theorem tsound_loop {m : Int} {X : List S48} (m0 : 0 ≤ m) (m1 : m ≤ 1000000000000000) (h : Fine m X) (hl : X.length ≤ 30) :
  ∀ (d i k : Nat), i + d = X.length → d + 1 ≤ k → demurragelaw21_TableSound.l0 k true m X (tot X i) (i : Int) m (tot X X.length) m (tot X X.length + m) 0 = some true := by
 intro d
 induction d with
 | zero =>
  intro i k hi hk
  obtain ⟨q, rfl⟩ : ∃ q, k = q + 1 := ⟨k - 1, by omega⟩
  have e : i = X.length := by omega
  subst e
  have t := tot_in h X.length (Nat.le_refl _)
  have w : wrap64 (m + tot X X.length) = tot X X.length + m := by
   rw [wrap64_small (by omega) (by omega)]
   omega
  rw [demurragelaw21_TableSound.l0, if_neg (by clear w; omega), if_pos rfl, w]
  simp
 | succ d ih =>
  intro i k hi hk
  obtain ⟨q, rfl⟩ : ∃ q, k = q + 1 := ⟨k - 1, by omega⟩
  obtain ⟨f1, f2, f3, f4, f5, f6, f7, _⟩ := h i (by omega) _ rfl
  have ti := tot_in h i (by omega)
  have ws : wrap64 (tot X i + (rd_T48 X (i : Int)).f1) = tot X (i + 1) := by
   rw [wrap64_small (by omega) (by omega)]
   rfl
  have wi : wrap64 ((i : Int) + 1) = ((i + 1 : Nat) : Int) := by clear ws; rw [wrap64_small (by omega) (by omega)]; omega
  rw [demurragelaw21_TableSound.l0, if_pos (by clear ws wi; omega), if_pos (by clear ws wi; omega), if_neg (by clear ws wi; omega), ws, wi]
  exact ih (i + 1) q (by clear ws wi; omega) (by clear ws wi; omega)

theorem TableSound (c a b : Int) (l : List S56) (wc : (Lit.int .u8 c).wf = true) (wa : (Lit.int .u64 a).wf = true) (wb : (Lit.int .u16 b).wf = true) (_ : ∀ x ∈ l, (Lit.int .i64 x.f0).wf = true ∧ (Lit.int .i64 x.f1).wf = true) : ∃ k, demurragelaw21_TableSound.f k c a b l = some true := by
 have ha := u64_wf wa
 have hb := u16_wf' wb
 have hc := u8_wf' wc
 obtain ⟨K0, h0⟩ := shown_at
 have yes : ∀ k, demurragelaw21_TableSound.j0 (k + 1) c a b l true true = some true := fun k => by rw [demurragelaw21_TableSound.j0, if_pos rfl]
 by_cases c1 : (l.length : Int) < 1
 ·refine ⟨K0 + 1, ?_⟩
  have h0 : demurragelaw21_shown.f (K0 + 1) = some true := h0 _ (by omega)
  unfold demurragelaw21_TableSound.f
  rw [h0, Option.bind_some, if_pos c1]
  exact yes K0
 ·by_cases c2 : (l.length : Int) > 30
  ·refine ⟨K0 + 1, ?_⟩
   have h0 : demurragelaw21_shown.f (K0 + 1) = some true := h0 _ (by omega)
   unfold demurragelaw21_TableSound.f
   rw [h0, Option.bind_some, if_neg c1, if_pos c2]
   exact yes K0
  ·obtain ⟨u, ⟨K1, h1⟩, hu⟩ := usual_at l (by omega)
   cases u with
   | false =>
    refine ⟨K0 + K1 + 1, ?_⟩
    have h0 : demurragelaw21_shown.f (K0 + K1 + 1) = some true := h0 _ (by omega)
    have h1 : demurrageref18_Usual.f (K0 + K1 + 1) l = some false := h1 _ (by omega)
    unfold demurragelaw21_TableSound.f
    rw [h0, Option.bind_some, if_neg c1, if_neg c2, h1, Option.bind_some]
    exact yes (K0 + K1)
   | true =>
    have us := hu rfl
    obtain ⟨em, m0, m1⟩ := money (m := 1000000000000001) ha (by omega) (by omega)
    obtain ⟨er, r0, r1⟩ := ratep (m := 9001) hb.1 (by omega) (by omega)
    generalize hm : a % 1000000000000001 = m at em m0 m1
    generalize hr : b % 9001 = r at er r0 r1
    have z1 : l.length ≤ 1200 := by clear em er; omega
    have z2 : 0 < l.length := by clear em er; omega
    have z3 : m ≤ 1000000000000000 := by clear em er; omega
    have z4 : r ≤ 9000 := by clear em er; omega
    have q0 : 0 ≤ m / (l.length : Int) := Int.ediv_nonneg m0 (by clear em er; omega)
    have q1 : m / (l.length : Int) ≤ m := Int.ediv_le_self _ m0
    have q2 : m / (l.length : Int) * (l.length : Int) ≤ m := Int.ediv_mul_le m (by clear em er; omega)
    obtain ⟨e, hE⟩ : ∃ e : Int, m / (l.length : Int) = e := ⟨_, rfl⟩
    have eq : wrap64 (Int.tdiv m (l.length : Int)) = e := by
     rw [Int.tdiv_eq_ediv_of_nonneg m0, hE]
     rw [hE] at q0 q1
     exact wrap64_small (by clear em er hE; omega) (by clear em er hE; omega)
    rw [hE] at q0 q1 q2
    clear hE
    obtain ⟨p, p0, p1, ⟨K2, p2⟩, p3, _⟩ := least_at m0 z3 r0 z4 z1 z2 us
    obtain ⟨K3, e1⟩ := lrows_at m0 z3 r0 z4 z1 z2 us (pay := p) p0 p1
    obtain ⟨K4, g1⟩ := rows_at (m := m) (r := r) (each := 0) (ps := l) m0 z3 r0 z4 (by clear em er eq; omega) (by clear em er eq; omega) z1 us z2
    obtain ⟨K5, g2⟩ := rows_at (m := m) (r := r) (each := e) (ps := l) m0 z3 r0 z4 q0 q2 z1 us z2

    obtain ⟨K6, s0⟩ := sound_at (m := m) (r := r) (each := 0) (ps := l) z3 r0 z4 (by clear em er eq; omega) (by clear em er eq; omega) z1 us z2
    obtain ⟨K7, s1⟩ := sound_at (m := m) (r := r) (each := e) (ps := l) z3 r0 z4 q0 q2 z1 us z2
    obtain ⟨K8, s2⟩ := lsound_at (pay := p) m0 z3 r0 z4 z1 us z2
    obtain ⟨en, n0, n1⟩ := ratep (m := 3) hc.1 (by omega) (by omega)
    generalize hn : c % 3 = n at en n0 n1
    generalize hk : K0 + K1 + K2 + K3 + K4 + K5 + K6 + K7 + K8 + l.length + 1 = k
    have h0 : demurragelaw21_shown.f (k + 1) = some true := h0 _ (by clear em er eq en; omega)
    have h1 : demurrageref18_Usual.f (k + 1) l = some true := h1 _ (by clear em er eq en; omega)
    have t0 : table_Of.f k 0 m r l = some ((List.range l.length).map (prow m r 0 l), 0) := by
     unfold table_Of.f
     rw [if_pos rfl]
     exact g1 k (by clear em er eq en; omega)
    have t1 : table_Of.f k 1 m r l = some ((List.range l.length).map (prow m r e l), 0) := by
     unfold table_Of.f
     rw [if_neg (by decide), if_pos rfl]
     unfold plain_Equal.f
     rw [eq]
     exact g2 k (by clear em er eq en; omega)
    have t2 : table_Of.f k 2 m r l = some ((List.range l.length).map (lrow m r p l), 0) := by
     have p2 : level_Least.f k m r l = some (p, 0) := p2 _ (by clear em er eq en; omega)
     have e1 : level_rows.f k m r l p = some ((List.range l.length).map (lrow m r p l), lp m r p l (l.length - 1)) := e1 _ (by clear em er eq en; omega)
     unfold table_Of.f
     rw [if_neg (by decide), if_neg (by decide), if_pos rfl]
     unfold level_Table.f
     rw [p2, Option.bind_some, if_pos rfl, e1, Option.bind_some]
    have f0 := fine_prow (m := m) (r := r) (e := 0) (ps := l) z3 r0 z4 (by clear em er eq en; omega) (by clear em er eq en; omega) us
    have f1 := fine_prow (m := m) (r := r) (e := e) (ps := l) z3 r0 z4 q0 q2 us
    have f2 := fine_lrow (m := m) (r := r) (p := p) (ps := l) m0 z3 r0 z4 us
    have all : ∃ X : List S48, X.length = l.length ∧ table_Of.f k n m r l = some (X, 0) ∧ Fine m X ∧ demurrageref19_Sound.f k X m r l = some true := by
     by_cases c0 : n = 0
     ·exact ⟨_, rows_length m r 0 l, by rw [c0]; exact t0, f0, s0 k (by clear em er eq en; omega)⟩
     ·by_cases c1 : n = 1
      ·exact ⟨_, rows_length m r e l, by rw [c1]; exact t1, f1, s1 k (by clear em er eq en; omega)⟩
      ·have c2 : n = 2 := by clear em er eq en; omega
       exact ⟨_, lrow_length m r p l, by rw [c2]; exact t2, f2, s2 k (by clear em er eq en; omega)⟩
    obtain ⟨X, xl, xt, xf, xs⟩ := all
    have su := sums_at m0 z3 xf (by clear em er eq en; omega) (by clear em er eq en; omega) k (by clear em er eq en; omega)
    have fin := tsound_loop m0 z3 xf (by clear em er eq en; omega) X.length 0 k (by clear em er eq en; omega) (by clear em er eq en; omega)
    refine ⟨k + 1, ?_⟩
    unfold demurragelaw21_TableSound.f
    rw [h0, Option.bind_some, if_neg c1, if_neg c2, h1, Option.bind_some]
    show demurragelaw21_TableSound.j0 (k + 1) c a b l true false = some true
    rw [demurragelaw21_TableSound.j0, if_neg (by decide), en, em, er, xt, Option.bind_some, su, Option.bind_some, if_pos rfl, if_pos rfl, xs, Option.bind_some, if_pos rfl]
    exact fin
end Go.Proofs.Yteikafepdkijdaa.Pure
