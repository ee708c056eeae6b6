/- TableLess: paid back at the end there is no less interest, row by row, than in equal parts, or in the same payments; of one part all three are the same. -/
import Derived.Test.YteikafepdkijdaaPTableLessXTableLess
import Derived.Test.YteikafepdkijdaaPTableLessT
set_option maxRecDepth 10000
namespace Go.Proofs.Yteikafepdkijdaa.Pure
open Go.RowKit Go.Proofs.Yteikafepdkijdaa.X Go.Proofs.YteikafepdkijdaaW.PrintWords Go.Proofs.YteikafepdkijdaaW.PrintLast

theorem tless_loop {m r e p : Int} {ps : List S56} (m0 : 0 ≤ m) (r0 : 0 ≤ r) (e0 : 0 ≤ e) (e1 : e * ps.length ≤ m) (hp : ps.length ≤ 30) (hpos : 0 < ps.length) (hu : ∀ j : Nat, j < ps.length → Us (rd_T56 ps (j : Int))) :
  ∀ (d i k : Nat), i + d = ps.length → d + 1 ≤ k → demurragelaw21_TableLess.l0 k true (ps.length : Int) ((List.range ps.length).map (prow m r 0 ps)) ((List.range ps.length).map (prow m r e ps)) ((List.range ps.length).map (lrow m r p ps)) (i : Int) = some true := by
 intro d
 induction d with
 | zero =>
  intro i k hi hk
  obtain ⟨q, rfl⟩ : ∃ q, k = q + 1 := ⟨k - 1, by omega⟩
  rw [demurragelaw21_TableLess.l0, if_neg (by omega), if_pos rfl]
  by_cases c : (ps.length : Int) > 1
  ·rw [if_pos c]
  ·have n1 : ps.length = 1 := by omega
   have s : rd_T48 ((List.range ps.length).map (prow m r 0 ps)) 0 = prow m r 0 ps 0 := row_rd m r 0 ps hpos
   have t : rd_T48 ((List.range ps.length).map (prow m r e ps)) 0 = prow m r e ps 0 := row_rd m r e ps hpos
   have u : rd_T48 ((List.range ps.length).map (lrow m r p ps)) 0 = lrow m r p ps 0 := lrow_rd m r p ps hpos
   have z1 : prow m r 0 ps 0 = prow m r e ps 0 := by
    unfold prow
    simp [n1]
   have z2 : lrow m r p ps 0 = prow m r e ps 0 := by
    unfold lrow prow
    simp [n1, op]
   rw [if_neg c, rows_length, if_pos (by omega), rows_length, if_pos (by omega), s, t, z1]
   simp only [beq_self_eq_true, Bool.and_self, if_true]
   rw [lrow_length, if_pos (by omega), u, z2]
   simp only [beq_self_eq_true, Bool.and_self]
 | succ d ih =>
  intro i k hi hk
  obtain ⟨q, rfl⟩ : ∃ q, k = q + 1 := ⟨k - 1, by omega⟩
  have hlt : i < ps.length := by omega
  have a := row_rd m r 0 ps hlt
  have b := row_rd m r e ps hlt
  have c := lrow_rd m r p ps hlt
  have u := hu i hlt
  have ie : 0 ≤ (i : Int) * e := Int.mul_nonneg (by omega) e0
  have ie2 : (i : Int) * e ≤ m := by
   have : (i : Int) * e ≤ e * ps.length := by
    rw [Int.mul_comm]
    exact Int.mul_le_mul_of_nonneg_left (by omega) e0
   omega
  have oi := op_in (r := r) (pay := p) (ps := ps) m0 i
  have e2 : (prow m r 0 ps i).f1 = intr m r (rd_T56 ps (i : Int)) := by
   show intr (m - i * 0) r (rd_T56 ps (i : Int)) = _
   rw [Int.mul_zero, Int.sub_zero]
  have l1 : ¬ (prow m r 0 ps i).f1 < (prow m r e ps i).f1 := by
   have := intr_mono (o := m - i * e) (o' := m) (r := r) (r' := r) (by omega) (by omega) r0 (Int.le_refl _) u
   rw [e2]
   show ¬ intr m r (rd_T56 ps (i : Int)) < intr (m - i * e) r (rd_T56 ps (i : Int))
   omega
  have l2 : ¬ (prow m r 0 ps i).f1 < (lrow m r p ps i).f1 := by
   have := intr_mono (o := op m r p ps i) (o' := m) (r := r) (r' := r) oi.1 oi.2 r0 (Int.le_refl _) u
   rw [e2]
   show ¬ intr m r (rd_T56 ps (i : Int)) < intr (op m r p ps i) r (rd_T56 ps (i : Int))
   omega
  have t1 : (i : Int) < (ps.length : Int) := by omega
  have t2 : (0 : Int) ≤ (i : Int) := by omega
  have wi : wrap64 ((i : Int) + 1) = ((i + 1 : Nat) : Int) := by
   clear l1 l2 e2 a b c u
   rw [wrap64_small (by omega) (by omega)]
   omega
  rw [demurragelaw21_TableLess.l0, if_pos t1, if_pos t2, rows_length, if_pos t1, rows_length, if_pos t1, a, b, if_neg l1, lrow_length, if_pos t1, c, if_neg l2, wi]
  exact ih (i + 1) q (by omega) (by omega)

theorem TableLess (a b : Int) (l : List S56) (wa : (Lit.int .u64 a).wf = true) (wb : (Lit.int .u16 b).wf = true) (_ : ∀ x ∈ l, (Lit.int .i64 x.f0).wf = true ∧ (Lit.int .i64 x.f1).wf = true) : ∃ k, demurragelaw21_TableLess.f k a b l = some true := by
 have ha := u64_wf wa
 have hb := u16_wf' wb
 obtain ⟨K0, h0⟩ := shown_at
 have yes : ∀ k, demurragelaw21_TableLess.j0 (k + 1) a b l true (l.length : Int) true = some true := fun k => by rw [demurragelaw21_TableLess.j0, if_pos rfl]
 by_cases c1 : (l.length : Int) < 1
 ·refine ⟨K0 + 1, ?_⟩
  have h0 : demurragelaw21_shown.f (K0 + 1) = some true := h0 _ (by omega)
  unfold demurragelaw21_TableLess.f
  rw [h0, Option.bind_some, if_pos c1]
  exact yes K0
 ·by_cases c2 : (l.length : Int) > 30
  ·refine ⟨K0 + 1, ?_⟩
   have h0 : demurragelaw21_shown.f (K0 + 1) = some true := h0 _ (by omega)
   unfold demurragelaw21_TableLess.f
   rw [h0, Option.bind_some, if_neg c1, if_pos c2]
   exact yes K0
  ·obtain ⟨u, ⟨K1, h1⟩, hu⟩ := usual_at l (by omega)
   cases u with
   | false =>
    refine ⟨K0 + K1 + 1, ?_⟩
    have h0 : demurragelaw21_shown.f (K0 + K1 + 1) = some true := h0 _ (by omega)
    have h1 : demurrageref18_Usual.f (K0 + K1 + 1) l = some false := h1 _ (by omega)
    unfold demurragelaw21_TableLess.f
    rw [h0, Option.bind_some, if_neg c1, if_neg c2, h1, Option.bind_some]
    exact yes (K0 + K1)
   | true =>
    have us := hu rfl
    obtain ⟨em, m0, m1⟩ := money (m := 1000000000000001) ha (by omega) (by omega)
    obtain ⟨er, r0, r1⟩ := ratep (m := 9001) hb.1 (by omega) (by omega)
    generalize hm : a % 1000000000000001 = m at em m0 m1
    generalize hr : b % 9001 = r at er r0 r1
    have z1 : l.length ≤ 1200 := by clear em er; omega
    have z2 : 0 < l.length := by clear em er; omega
    have z3 : m ≤ 1000000000000000 := by clear em er; omega
    have z4 : r ≤ 9000 := by clear em er; omega
    have q0 : 0 ≤ m / (l.length : Int) := Int.ediv_nonneg m0 (by clear em er; omega)
    have q1 : m / (l.length : Int) ≤ m := Int.ediv_le_self _ m0
    have q2 : m / (l.length : Int) * (l.length : Int) ≤ m := Int.ediv_mul_le m (by clear em er; omega)
    obtain ⟨e, hE⟩ : ∃ e : Int, m / (l.length : Int) = e := ⟨_, rfl⟩
    have eq : wrap64 (Int.tdiv m (l.length : Int)) = e := by
     rw [Int.tdiv_eq_ediv_of_nonneg m0, hE]
     rw [hE] at q0 q1
     exact wrap64_small (by clear em er hE; omega) (by clear em er hE; omega)
    rw [hE] at q0 q1 q2
    clear hE
    obtain ⟨p, p0, p1, ⟨K2, p2⟩, p3, _⟩ := least_at m0 z3 r0 z4 z1 z2 us
    obtain ⟨K3, e1⟩ := lrows_at m0 z3 r0 z4 z1 z2 us (pay := p) p0 p1
    obtain ⟨K4, g1⟩ := rows_at (m := m) (r := r) (each := 0) (ps := l) m0 z3 r0 z4 (by clear em er eq; omega) (by clear em er eq; omega) z1 us z2
    obtain ⟨K5, g2⟩ := rows_at (m := m) (r := r) (each := e) (ps := l) m0 z3 r0 z4 q0 q2 z1 us z2

    generalize hk : K0 + K1 + K2 + K3 + K4 + K5 + l.length + 1 = k
    have h0 : demurragelaw21_shown.f (k + 1) = some true := h0 _ (by clear em er eq; omega)
    have h1 : demurrageref18_Usual.f (k + 1) l = some true := h1 _ (by clear em er eq; omega)
    have t0 : table_Of.f k 0 m r l = some ((List.range l.length).map (prow m r 0 l), 0) := by
     unfold table_Of.f
     rw [if_pos rfl]
     exact g1 k (by clear em er eq; omega)
    have t1 : table_Of.f k 1 m r l = some ((List.range l.length).map (prow m r e l), 0) := by
     unfold table_Of.f
     rw [if_neg (by decide), if_pos rfl]
     unfold plain_Equal.f
     rw [eq]
     exact g2 k (by clear em er eq; omega)
    have t2 : table_Of.f k 2 m r l = some ((List.range l.length).map (lrow m r p l), 0) := by
     have p2 : level_Least.f k m r l = some (p, 0) := p2 _ (by clear em er eq; omega)
     have e1 : level_rows.f k m r l p = some ((List.range l.length).map (lrow m r p l), lp m r p l (l.length - 1)) := e1 _ (by clear em er eq; omega)
     unfold table_Of.f
     rw [if_neg (by decide), if_neg (by decide), if_pos rfl]
     unfold level_Table.f
     rw [p2, Option.bind_some, if_pos rfl, e1, Option.bind_some]
    have fin := tless_loop (m := m) (r := r) (e := e) (p := p) (ps := l) m0 r0 q0 q2 (by clear em er eq; omega) z2 us l.length 0 k (by clear em er eq; omega) (by clear em er eq; omega)
    refine ⟨k + 1, ?_⟩
    unfold demurragelaw21_TableLess.f
    rw [h0, Option.bind_some, if_neg c1, if_neg c2, h1, Option.bind_some]
    show demurragelaw21_TableLess.j0 (k + 1) a b l true (l.length : Int) false = some true
    rw [demurragelaw21_TableLess.j0, if_neg (by decide), em, er, t0, Option.bind_some, t1, Option.bind_some, t2, Option.bind_some, if_pos rfl, if_pos rfl, if_pos rfl, rows_length, if_pos rfl, rows_length, if_pos rfl, lrow_length, if_pos rfl]
    exact fin
end Go.Proofs.Yteikafepdkijdaa.Pure
