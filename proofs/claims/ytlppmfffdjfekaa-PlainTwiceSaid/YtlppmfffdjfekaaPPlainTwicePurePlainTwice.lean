/- PlainTwice: of twice the amount, at half the rate, paid back at the end, interest is the same; equal parts of an amount that the number of parts divides are all alike. -/
import Derived.Test.YtlppmfffdjfekaaPPlainTwiceXPlainTwice
import Derived.Test.YtlppmfffdjfekaaPPlainTwiceT
set_option maxRecDepth 10000
namespace Go.Proofs.Ytlppmfffdjfekaa.Pure
open Go.RowKit Go.Proofs.Ytlppmfffdjfekaa.X Go.Proofs.YtlppmfffdjfekaaW.PrintWords Go.Proofs.YtlppmfffdjfekaaW.PrintLast

theorem shown_plain : demurragelaw19_shown.f 12 = some true := by kernel_rfl
theorem u16_wf' {a : Int} (h : (Lit.int .u16 a).wf = true) : 0 ≤ a ∧ a < 65536 := by
  simp only [Lit.wf, IntKind.min, IntKind.max, IntKind.signed, IntKind.bits, Bool.and_eq_true] at h
  simp at h
  omega
theorem money {a m : Int} (h : U64 a) (hm : 0 < m) (h1 : m ≤ 1000000000000001) : wrap64 (Int.tmod a m) = a % m ∧ 0 ≤ a % m ∧ a % m < m := by
  have e0 := Int.emod_nonneg a (show m ≠ 0 by omega)
  have e1 := Int.emod_lt_of_pos a hm
  rw [Int.tmod_eq_emod_of_nonneg h.1]
  exact ⟨wrap64_small (by omega) (by omega), e0, e1⟩
theorem ratep {a m : Int} (h0 : 0 ≤ a) (h1 : a < 65536) (hm : 0 < m) : Int.tmod (wrap64 a) m = a % m ∧ 0 ≤ a % m ∧ a % m < m := by
  rw [wrap64_small (by omega) (by omega), Int.tmod_eq_emod_of_nonneg h0]
  exact ⟨rfl, Int.emod_nonneg a (by omega), Int.emod_lt_of_pos a hm⟩

theorem twice_loop {m r e : Int} {ps : List S42} (m0 : 0 ≤ m) (m1 : m < 100000000000000) (e0 : 0 ≤ e) (e1 : e ≤ m) (he : wrap64 (Int.tdiv m (ps.length : Int)) = e) (hp : ps.length ≤ 30) (hpos : 0 < ps.length) :
    ∀ (d i k : Nat), i + d = ps.length → d + 1 ≤ k → demurragelaw19_PlainTwice.l0 k true (ps.length : Int) m ((List.range ps.length).map (prow m (2 * r) 0 ps)) ((List.range ps.length).map (prow (2 * m) r 0 ps)) ((List.range ps.length).map (prow (e * ps.length) r e ps)) (i : Int) = some true := by
  intro d
  induction d with
  | zero =>
    intro i k hi hk
    obtain ⟨q, rfl⟩ : ∃ q, k = q + 1 := ⟨k - 1, by clear he; omega⟩
    rw [demurragelaw19_PlainTwice.l0, if_neg (by clear he; omega)]
  | succ d ih =>
    intro i k hi hk
    obtain ⟨q, rfl⟩ : ∃ q, k = q + 1 := ⟨k - 1, by clear he; omega⟩
    have hlt : i < ps.length := by clear he; omega
    have a := row_rd m (2 * r) 0 ps hlt
    have b := row_rd (2 * m) r 0 ps hlt
    have c := row_rd (e * ps.length) r e ps hlt
    have t1 : (i : Int) < (ps.length : Int) := by clear he; omega
    have t2 : (0 : Int) ≤ (i : Int) := by clear he; omega
    have t3 : ¬ (ps.length : Int) = 0 := by clear he; omega
    have l1 : (prow m (2 * r) 0 ps i).f1 = (prow (2 * m) r 0 ps i).f1 := by
      show intr (m - i * 0) (2 * r) _ = intr (2 * m - i * 0) r _
      unfold intr
      have : (m - (i : Int) * 0) * (2 * r) = (2 * m - (i : Int) * 0) * r := by
        rw [Int.mul_zero, Int.sub_zero, Int.sub_zero, ← Int.mul_assoc, Int.mul_comm m 2]
      rw [this]
    have part : e * (ps.length : Int) - (i : Int) * e = e * ((ps.length : Int) - i) := by rw [Int.mul_sub, Int.mul_comm (i : Int) e]
    have l2 : (prow (e * ps.length) r e ps i).f2 = e := by
      show (if i + 1 = ps.length then e * (ps.length : Int) - (i : Int) * e else e) = e
      by_cases z : i + 1 = ps.length
      · rw [if_pos z, part, show (ps.length : Int) - i = 1 by clear he; omega, Int.mul_one]
      · rw [if_neg z]
    have b1 : 0 ≤ e * ((ps.length : Int) - i) := Int.mul_nonneg e0 (by clear he; omega)
    have b2 : e * ((ps.length : Int) - i) ≤ 100000000000000 * 30 := Int.mul_le_mul (by clear he; omega) (by clear he; omega) (by clear he; omega) (by omega)
    have w0 : wrap64 ((ps.length : Int) - i) = (ps.length : Int) - i := wrap64_small (by clear he l1 l2; omega) (by clear he l1 l2; omega)
    have w2 : wrap64 (e * ((ps.length : Int) - i)) = e * ((ps.length : Int) - i) := wrap64_small (by clear he l1 l2 w0; omega) (by clear he l1 l2 w0; omega)
    have l3 : (prow (e * ps.length) r e ps i).f0 = wrap64 (e * wrap64 ((ps.length : Int) - i)) := by
      rw [w0, w2, ← part]
      rfl
    have wi : wrap64 ((i : Int) + 1) = ((i + 1 : Nat) : Int) := by
      clear he l1 l2 l3 a b c w0 w2
      rw [wrap64_small (by omega) (by omega)]
      omega
    rw [demurragelaw19_PlainTwice.l0, if_pos t1, if_pos t2, rows_length, if_pos t1, rows_length, if_pos t1, a, b, if_pos l1, rows_length, if_pos t1, if_neg t3, c, he, if_pos l2, if_pos l3, wi]
    exact ih (i + 1) q (by clear he w0 w2 wi; omega) (by clear he w0 w2 wi; omega)

theorem PlainTwice (a b : Int) (l : List S42) (wa : (Lit.int .u64 a).wf = true) (wb : (Lit.int .u16 b).wf = true) (_ : ∀ x ∈ l, (Lit.int .i64 x.f0).wf = true ∧ (Lit.int .i64 x.f1).wf = true) : ∃ k, demurragelaw19_PlainTwice.f k a b l = some true := by
  have ha := u64_wf wa
  have hb := u16_wf' wb
  obtain ⟨K0, h0⟩ : At (fun k => demurragelaw19_shown.f k) true := At.grow (K := 12) demurragelaw19_shown.mono shown_plain
  have yes : ∀ k, demurragelaw19_PlainTwice.j0 (k + 1) a b l true (l.length : Int) true = some true := fun k => by rw [demurragelaw19_PlainTwice.j0, if_pos rfl]
  by_cases c1 : (l.length : Int) < 1
  · refine ⟨K0 + 1, ?_⟩
    have h0 : demurragelaw19_shown.f (K0 + 1) = some true := h0 _ (by omega)
    unfold demurragelaw19_PlainTwice.f
    rw [h0, Option.bind_some, if_pos c1]
    exact yes K0
  · by_cases c2 : (l.length : Int) > 30
    · refine ⟨K0 + 1, ?_⟩
      have h0 : demurragelaw19_shown.f (K0 + 1) = some true := h0 _ (by omega)
      unfold demurragelaw19_PlainTwice.f
      rw [h0, Option.bind_some, if_neg c1, if_pos c2]
      exact yes K0
    · obtain ⟨u, ⟨K1, h1⟩, hu⟩ := usual_at l (by omega)
      cases u with
      | false =>
        refine ⟨K0 + K1 + 1, ?_⟩
        have h0 : demurragelaw19_shown.f (K0 + K1 + 1) = some true := h0 _ (by omega)
        have h1 : demurrageref18_Usual.f (K0 + K1 + 1) l = some false := h1 _ (by omega)
        unfold demurragelaw19_PlainTwice.f
        rw [h0, Option.bind_some, if_neg c1, if_neg c2, h1, Option.bind_some]
        exact yes (K0 + K1)
      | true =>
        have us := hu rfl
        obtain ⟨em, m0, m1⟩ := money (m := 100000000000000) ha (by omega) (by omega)
        obtain ⟨er, r0, r1⟩ := ratep (m := 4501) hb.1 hb.2 (by omega)
        generalize hm : a % 100000000000000 = m at em m0 m1
        generalize hr : b % 4501 = r at er r0 r1
        obtain ⟨e, hE⟩ : ∃ e : Int, m / (l.length : Int) = e := ⟨_, rfl⟩
        have q0 : 0 ≤ m / (l.length : Int) := Int.ediv_nonneg m0 (by omega)
        have q1 : m / (l.length : Int) ≤ m := Int.ediv_le_self _ m0
        have q2 : m / (l.length : Int) * (l.length : Int) ≤ m := Int.ediv_mul_le m (by omega)
        rw [hE] at q0 q1 q2
        have q3 : 0 ≤ e * (l.length : Int) := Int.mul_nonneg q0 (by omega)
        have eq : wrap64 (Int.tdiv m (l.length : Int)) = e := by
          rw [Int.tdiv_eq_ediv_of_nonneg m0, hE]
          exact wrap64_small (by clear hE; omega) (by clear hE; omega)
        have eq2 : wrap64 (Int.tdiv (e * (l.length : Int)) (l.length : Int)) = e := by
          rw [Int.tdiv_eq_ediv_of_nonneg q3, Int.mul_ediv_cancel _ (by omega)]
          exact wrap64_small (by clear hE eq; omega) (by clear hE eq; omega)
        have w1 : wrap64 (2 * r) = 2 * r := wrap64_small (by clear hE eq eq2; omega) (by clear hE eq eq2; omega)
        have w2 : wrap64 (2 * m) = 2 * m := wrap64_small (by clear hE eq eq2 w1; omega) (by clear hE eq eq2 w1; omega)
        have w3 : wrap64 (e * (l.length : Int)) = e * (l.length : Int) := wrap64_small (by clear hE eq eq2 w1 w2; omega) (by clear hE eq eq2 w1 w2; omega)
        have n0 : ¬ (l.length : Int) = 0 := by clear hE eq eq2 w1 w2 w3; omega
        obtain ⟨K2, g1⟩ := rows_at (m := m) (r := 2 * r) (each := 0) (ps := l) m0 (by clear hE eq eq2 w1 w2 w3; omega) (by clear hE eq eq2 w1 w2 w3; omega) (by clear hE eq eq2 w1 w2 w3; omega) (by omega) (by clear hE eq eq2 w1 w2 w3; omega) (by clear hE eq eq2 w1 w2 w3; omega) us (by clear hE eq eq2 w1 w2 w3; omega)
        obtain ⟨K3, g2⟩ := rows_at (m := 2 * m) (r := r) (each := 0) (ps := l) (by clear hE eq eq2 w1 w2 w3; omega) (by clear hE eq eq2 w1 w2 w3; omega) r0 (by clear hE eq eq2 w1 w2 w3; omega) (by omega) (by clear hE eq eq2 w1 w2 w3; omega) (by clear hE eq eq2 w1 w2 w3; omega) us (by clear hE eq eq2 w1 w2 w3; omega)
        obtain ⟨K4, g3⟩ := rows_at (m := e * (l.length : Int)) (r := r) (each := e) (ps := l) q3 (by clear hE eq eq2 w1 w2 w3; omega) r0 (by clear hE eq eq2 w1 w2 w3; omega) q0 (Int.le_refl _) (by clear hE eq eq2 w1 w2 w3; omega) us (by clear hE eq eq2 w1 w2 w3; omega)
        have loop := twice_loop (m := m) (r := r) (e := e) (ps := l) m0 m1 q0 q1 eq (by clear hE eq eq2 w1 w2 w3; omega) (by clear hE eq eq2 w1 w2 w3; omega) l.length 0
        generalize hk : K0 + K1 + K2 + K3 + K4 + l.length + 1 = k
        have i0 : K0 ≤ k + 1 := by clear hE eq eq2 w1 w2 w3; omega
        have i1 : K1 ≤ k + 1 := by clear hE eq eq2 w1 w2 w3; omega
        have i2 : K2 ≤ k := by clear hE eq eq2 w1 w2 w3; omega
        have i3 : K3 ≤ k := by clear hE eq eq2 w1 w2 w3; omega
        have i4 : K4 ≤ k := by clear hE eq eq2 w1 w2 w3; omega
        have lp := loop k (by omega) (by clear hE eq eq2 w1 w2 w3; omega)
        have h0 : demurragelaw19_shown.f (k + 1) = some true := h0 _ i0
        have h1 : demurrageref18_Usual.f (k + 1) l = some true := h1 _ i1
        have g1 : plain_Bullet.f k m (2 * r) l = some ((List.range l.length).map (prow m (2 * r) 0 l), 0) := g1 k i2
        have g2 : plain_Bullet.f k (2 * m) r l = some ((List.range l.length).map (prow (2 * m) r 0 l), 0) := g2 k i3
        have g3 : plain_Equal.f k (e * (l.length : Int)) r l = some ((List.range l.length).map (prow (e * (l.length : Int)) r e l), 0) := by
          unfold plain_Equal.f
          rw [eq2]
          exact g3 k i4
        refine ⟨k + 1, ?_⟩
        unfold demurragelaw19_PlainTwice.f
        rw [h0, Option.bind_some, if_neg c1, if_neg c2, h1, Option.bind_some]
        show demurragelaw19_PlainTwice.j0 (k + 1) a b l true (l.length : Int) false = some true
        rw [demurragelaw19_PlainTwice.j0, if_neg (by decide), em, er, w1, w2, g1, Option.bind_some, g2, Option.bind_some, if_neg n0, eq, w3, g3, Option.bind_some, if_pos rfl, if_pos rfl, if_pos rfl, rows_length, if_pos rfl, rows_length, if_pos rfl, rows_length, if_pos rfl]
        exact lp
end Go.Proofs.Ytlppmfffdjfekaa.Pure
