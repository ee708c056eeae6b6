/- PlainLess: equal parts never have more interest in a row than all at the end; without a rate there is none; both tables of one part are the same. -/
import Derived.Test.YtlppmfffdjfekaaPPlainLessXPlainLess
import Derived.Test.YtlppmfffdjfekaaPPlainLessT
set_option maxRecDepth 10000
namespace Go.Proofs.Ytlppmfffdjfekaa.Pure
open Go.RowKit Go.Proofs.Ytlppmfffdjfekaa.X Go.Proofs.YtlppmfffdjfekaaW.PrintWords Go.Proofs.YtlppmfffdjfekaaW.PrintLast

theorem shown_plain : demurragelaw19_shown.f 12 = some true := by kernel_rfl
theorem u16_wf' {a : Int} (h : (Lit.int .u16 a).wf = true) : 0 ≤ a ∧ a < 65536 := by
  simp only [Lit.wf, IntKind.min, IntKind.max, IntKind.signed, IntKind.bits, Bool.and_eq_true] at h
  simp at h
  omega
theorem money {a m : Int} (h : U64 a) (hm : 0 < m) (h1 : m ≤ 1000000000000001) : wrap64 (Int.tmod a m) = a % m ∧ 0 ≤ a % m ∧ a % m < m := by
  have e0 := Int.emod_nonneg a (show m ≠ 0 by omega)
  have e1 := Int.emod_lt_of_pos a hm
  rw [Int.tmod_eq_emod_of_nonneg h.1]
  exact ⟨wrap64_small (by omega) (by omega), e0, e1⟩
theorem ratep {a m : Int} (h0 : 0 ≤ a) (h1 : a < 65536) (hm : 0 < m) : Int.tmod (wrap64 a) m = a % m ∧ 0 ≤ a % m ∧ a % m < m := by
  rw [wrap64_small (by omega) (by omega), Int.tmod_eq_emod_of_nonneg h0]
  exact ⟨rfl, Int.emod_nonneg a (by omega), Int.emod_lt_of_pos a hm⟩

theorem ev_zero {d : Int} (hd : 0 < d) : ev 0 d = 0 := by
  unfold ev nearer
  rw [Int.zero_emod, Int.zero_ediv, decide_eq_false (by omega), decide_eq_false (by omega)]
  rfl
theorem intr_free {o : Int} {x : S42} (h : Us x) : intr o 0 x = 0 := by
  have := h.1.2.2.1
  unfold intr
  rw [Int.mul_zero, Int.zero_mul]
  exact ev_zero (by omega)
theorem intr_le {o p r : Int} {x : S42} (h : Us x) (r0 : 0 ≤ r) (le : o ≤ p) : intr o r x ≤ intr p r x := by
  have n0 := h.1.1
  have d0 := h.1.2.2.1
  unfold intr
  exact ev_mono (by omega) (Int.mul_le_mul_of_nonneg_right (Int.mul_le_mul_of_nonneg_right le r0) n0)

theorem lessl {m r e : Int} {ps : List S42} (r0 : 0 ≤ r) (e0 : 0 ≤ e) (hp : ps.length ≤ 40) (hpos : 0 < ps.length) (hu : ∀ j : Nat, j < ps.length → Us (rd_T42 ps (j : Int))) :
    ∀ (d i k : Nat), i + d = ps.length → d + 1 ≤ k → demurragelaw19_PlainLess.l0 k true (ps.length : Int) ((List.range ps.length).map (prow m r 0 ps)) ((List.range ps.length).map (prow m r e ps)) ((List.range ps.length).map (prow m 0 e ps)) (i : Int) = some true := by
  intro d
  induction d with
  | zero =>
    intro i k hi hk
    obtain ⟨q, rfl⟩ : ∃ q, k = q + 1 := ⟨k - 1, by omega⟩
    rw [demurragelaw19_PlainLess.l0, if_neg (by omega), if_pos rfl]
    by_cases c : (ps.length : Int) > 1
    · rw [if_pos c]
    · have n1 : ps.length = 1 := by omega
      have s := row_rd m r 0 ps hpos
      have t := row_rd m r e ps hpos
      have z : prow m r 0 ps 0 = prow m r e ps 0 := by
        unfold prow
        simp [n1]
      rw [if_neg c, rows_length, if_pos (by omega), rows_length, if_pos (by omega)]
      have s' : rd_T37 ((List.range ps.length).map (prow m r 0 ps)) 0 = prow m r 0 ps 0 := s
      have t' : rd_T37 ((List.range ps.length).map (prow m r e ps)) 0 = prow m r e ps 0 := t
      rw [s', t', z]
      simp
  | succ d ih =>
    intro i k hi hk
    obtain ⟨q, rfl⟩ : ∃ q, k = q + 1 := ⟨k - 1, by omega⟩
    have hlt : i < ps.length := by omega
    have a := row_rd m r 0 ps hlt
    have b := row_rd m r e ps hlt
    have c := row_rd m 0 e ps hlt
    have u := hu i hlt
    have ie : 0 ≤ (i : Int) * e := Int.mul_nonneg (by omega) e0
    have l1 : ¬ (prow m r e ps i).f1 > (prow m r 0 ps i).f1 := by
      have := intr_le (o := m - i * e) (p := m - i * 0) u r0 (by omega)
      show ¬ intr (m - i * e) r (rd_T42 ps (i : Int)) > intr (m - i * 0) r (rd_T42 ps (i : Int))
      omega
    have l2 : (prow m 0 e ps i).f1 = 0 := intr_free u
    have l3 : (prow m 0 e ps i).f2 = (prow m r e ps i).f2 := rfl
    have l4 : (prow m 0 e ps i).f3 = (prow m 0 e ps i).f2 := by
      show intr (m - i * e) 0 (rd_T42 ps (i : Int)) + _ = _
      rw [intr_free u, Int.zero_add]
      rfl
    have t1 : (i : Int) < (ps.length : Int) := by omega
    have t2 : (0 : Int) ≤ (i : Int) := by omega
    have wi : wrap64 ((i : Int) + 1) = ((i + 1 : Nat) : Int) := by
      clear l1 l2 l3 l4 a b c u
      rw [wrap64_small (by omega) (by omega)]
      omega
    rw [demurragelaw19_PlainLess.l0, if_pos t1, if_pos t2, rows_length, if_pos t1, rows_length, if_pos t1, a, b, if_neg l1, rows_length, if_pos t1, c, if_pos l2, if_pos l3, if_pos l4, wi]
    exact ih (i + 1) q (by omega) (by omega)

theorem PlainLess (a b : Int) (l : List S42) (wa : (Lit.int .u64 a).wf = true) (wb : (Lit.int .u16 b).wf = true) (_ : ∀ x ∈ l, (Lit.int .i64 x.f0).wf = true ∧ (Lit.int .i64 x.f1).wf = true) : ∃ k, demurragelaw19_PlainLess.f k a b l = some true := by
  have ha := u64_wf wa
  have hb := u16_wf' wb
  obtain ⟨K0, h0⟩ : At (fun k => demurragelaw19_shown.f k) true := At.grow (K := 12) demurragelaw19_shown.mono shown_plain
  have yes : ∀ k, demurragelaw19_PlainLess.j0 (k + 1) a b l true (l.length : Int) true = some true := fun k => by rw [demurragelaw19_PlainLess.j0, if_pos rfl]
  by_cases c1 : (l.length : Int) < 1
  · refine ⟨K0 + 1, ?_⟩
    have h0 : demurragelaw19_shown.f (K0 + 1) = some true := h0 _ (by omega)
    unfold demurragelaw19_PlainLess.f
    rw [h0, Option.bind_some, if_pos c1]
    exact yes K0
  · by_cases c2 : (l.length : Int) > 40
    · refine ⟨K0 + 1, ?_⟩
      have h0 : demurragelaw19_shown.f (K0 + 1) = some true := h0 _ (by omega)
      unfold demurragelaw19_PlainLess.f
      rw [h0, Option.bind_some, if_neg c1, if_pos c2]
      exact yes K0
    · obtain ⟨u, ⟨K1, h1⟩, hu⟩ := usual_at l (by omega)
      cases u with
      | false =>
        refine ⟨K0 + K1 + 1, ?_⟩
        have h0 : demurragelaw19_shown.f (K0 + K1 + 1) = some true := h0 _ (by omega)
        have h1 : demurrageref18_Usual.f (K0 + K1 + 1) l = some false := h1 _ (by omega)
        unfold demurragelaw19_PlainLess.f
        rw [h0, Option.bind_some, if_neg c1, if_neg c2, h1, Option.bind_some]
        exact yes (K0 + K1)
      | true =>
        have us := hu rfl
        obtain ⟨em, m0, m1⟩ := money (m := 1000000000000001) ha (by omega) (by omega)
        obtain ⟨er, r0, r1⟩ := ratep (m := 9001) hb.1 hb.2 (by omega)
        generalize hm : a % 1000000000000001 = m at em m0 m1
        generalize hr : b % 9001 = r at er r0 r1
        have q0 : 0 ≤ m / (l.length : Int) := Int.ediv_nonneg m0 (by omega)
        have q1 : m / (l.length : Int) ≤ m := Int.ediv_le_self _ m0
        have q2 : m / (l.length : Int) * (l.length : Int) ≤ m := Int.ediv_mul_le m (by omega)
        have eq : wrap64 (Int.tdiv m (l.length : Int)) = m / (l.length : Int) := by
          rw [Int.tdiv_eq_ediv_of_nonneg m0]
          exact wrap64_small (by omega) (by omega)
        obtain ⟨K2, g1⟩ := rows_at (m := m) (r := r) (each := 0) (ps := l) m0 (by omega) r0 (by omega) (by omega) (by omega) (by omega) us (by omega)
        obtain ⟨K3, g2⟩ := rows_at (m := m) (r := r) (each := m / (l.length : Int)) (ps := l) m0 (by omega) r0 (by omega) q0 q2 (by omega) us (by omega)
        obtain ⟨K4, g3⟩ := rows_at (m := m) (r := 0) (each := m / (l.length : Int)) (ps := l) m0 (by omega) (by omega) (by omega) q0 q2 (by omega) us (by omega)
        have loop := lessl (m := m) (r := r) (e := m / (l.length : Int)) (ps := l) r0 q0 (by omega) (by omega) us l.length 0
        clear q1 q2
        generalize hk : K0 + K1 + K2 + K3 + K4 + l.length + 1 = k
        have h0 : demurragelaw19_shown.f (k + 1) = some true := h0 _ (by clear eq em er; omega)
        have h1 : demurrageref18_Usual.f (k + 1) l = some true := h1 _ (by clear eq em er; omega)
        have g1 : plain_Bullet.f k m r l = some ((List.range l.length).map (prow m r 0 l), 0) := g1 k (by clear eq em er; omega)
        have g2 : plain_Equal.f k m r l = some ((List.range l.length).map (prow m r (m / (l.length : Int)) l), 0) := by
          unfold plain_Equal.f
          rw [eq]
          exact g2 k (by clear eq em er; omega)
        have g3 : plain_Equal.f k m 0 l = some ((List.range l.length).map (prow m 0 (m / (l.length : Int)) l), 0) := by
          unfold plain_Equal.f
          rw [eq]
          exact g3 k (by clear eq em er; omega)
        have lp := loop k (by omega) (by clear eq em er; omega)
        refine ⟨k + 1, ?_⟩
        unfold demurragelaw19_PlainLess.f
        rw [h0, Option.bind_some, if_neg c1, if_neg c2, h1, Option.bind_some]
        show demurragelaw19_PlainLess.j0 (k + 1) a b l true (l.length : Int) false = some true
        rw [demurragelaw19_PlainLess.j0, if_neg (by decide), em, er, g1, Option.bind_some, g2, Option.bind_some, g3, Option.bind_some, if_pos rfl, if_pos rfl, if_pos rfl, rows_length, if_pos rfl, rows_length, if_pos rfl, rows_length, if_pos rfl]
        exact lp
end Go.Proofs.Ytlppmfffdjfekaa.Pure
