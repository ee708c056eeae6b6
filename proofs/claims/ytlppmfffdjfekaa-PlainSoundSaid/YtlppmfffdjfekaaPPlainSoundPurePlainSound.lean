/- PlainSound: a row for each part; interest of what is open; what is paid back sums up to all; nothing is open beyond 0 and the amount, and in the end nothing. -/
import Derived.Test.YtlppmfffdjfekaaPPlainSoundXPlainSound
import Derived.Test.YtlppmfffdjfekaaPPlainSoundT
import Derived.Test.YtlppmfffdjfekaaPPlainSoundXSound
set_option maxRecDepth 10000
namespace Go.Proofs.Ytlppmfffdjfekaa.Pure
open Go.RowKit Go.Proofs.Ytlppmfffdjfekaa.X Go.Proofs.YtlppmfffdjfekaaW.PrintWords Go.Proofs.YtlppmfffdjfekaaW.PrintLast

theorem shown_plain : demurragelaw19_shown.f 12 = some true := by kernel_rfl
theorem u16_wf' {a : Int} (h : (Lit.int .u16 a).wf = true) : 0 ≤ a ∧ a < 65536 := by
  simp only [Lit.wf, IntKind.min, IntKind.max, IntKind.signed, IntKind.bits, Bool.and_eq_true] at h
  simp at h
  omega
theorem money {a m : Int} (h : U64 a) (hm : 0 < m) (h1 : m ≤ 1000000000000001) : wrap64 (Int.tmod a m) = a % m ∧ 0 ≤ a % m ∧ a % m < m := by
  have e0 := Int.emod_nonneg a (show m ≠ 0 by omega)
  have e1 := Int.emod_lt_of_pos a hm
  rw [Int.tmod_eq_emod_of_nonneg h.1]
  exact ⟨wrap64_small (by omega) (by omega), e0, e1⟩
theorem ratep {a m : Int} (h0 : 0 ≤ a) (h1 : a < 65536) (hm : 0 < m) : Int.tmod (wrap64 a) m = a % m ∧ 0 ≤ a % m ∧ a % m < m := by
  rw [wrap64_small (by omega) (by omega), Int.tmod_eq_emod_of_nonneg h0]
  exact ⟨rfl, Int.emod_nonneg a (by omega), Int.emod_lt_of_pos a hm⟩

theorem row_facts {m each : Int} {n i : Nat} (e0 : 0 ≤ each) (e1 : each * n ≤ m) (h : i < n) : 0 ≤ (i : Int) * each ∧ (i : Int) * each + each ≤ m ∧ ((i + 1 : Nat) : Int) * each = (i : Int) * each + each := by
  have a : ((i + 1 : Nat) : Int) * each ≤ each * n := by
    rw [Int.mul_comm]
    exact Int.mul_le_mul_of_nonneg_left (by omega) e0
  have b : 0 ≤ (i : Int) * each := Int.mul_nonneg (by omega) e0
  have c : ((i + 1 : Nat) : Int) * each = (i : Int) * each + each := by rw [Int.natCast_add, Int.add_mul]; simp
  exact ⟨b, by omega, c⟩

theorem sound_from {m r each : Int} {ps : List S42} (m1 : m ≤ 1000000000000000) (r0 : 0 ≤ r) (r1 : r ≤ 9000) (e0 : 0 ≤ each) (e1 : each * ps.length ≤ m) (hp : ps.length ≤ 1200) (hu : ∀ j : Nat, j < ps.length → Us (rd_T42 ps (j : Int))) :
    ∀ (d i : Nat), i + d = ps.length → ∀ o : Int, o = (if i = ps.length then 0 else m - i * each) →
      At (fun k => demurrageref19_Sound.l0 k ((List.range ps.length).map (prow m r each ps)) r ps o (i : Int)) true := by
  intro d
  induction d with
  | zero =>
    intro i hi o hoo
    have hi : i = ps.length := by omega
    rw [if_pos hi] at hoo
    subst hoo
    refine ⟨1, fun k hk => ?_⟩
    obtain ⟨q, rfl⟩ : ∃ q, k = q + 1 := ⟨k - 1, by omega⟩
    show demurrageref19_Sound.l0 (q + 1) ((List.range ps.length).map (prow m r each ps)) r ps 0 (i : Int) = _
    rw [demurrageref19_Sound.l0, rows_length, if_neg (by omega)]
    rfl
  | succ d ih =>
    intro i hi o hoo
    have hlt : i < ps.length := by omega
    rw [if_neg (by omega)] at hoo
    obtain ⟨x0, x1, x2⟩ := row_facts e0 e1 hlt
    obtain ⟨f1, f2, f3⟩ := intr_fits (o := o) (r := r) (x := rd_T42 ps (i : Int)) (by omega) (by omega) r0 r1 (hu i hlt)
    obtain ⟨K1, a1⟩ := refof_at (a := o) (b := r) (n := (rd_T42 ps (i : Int)).f0) (d := (rd_T42 ps (i : Int)).f1) (by omega) (by omega)
    rw [f1] at a1
    clear f1
    obtain ⟨b, hb⟩ : ∃ b : Int, (if i + 1 = ps.length then o else each) = b := ⟨_, rfl⟩
    have row : prow m r each ps i = ⟨o, intr o r (rd_T42 ps (i : Int)), b, intr o r (rd_T42 ps (i : Int)) + b, o - b⟩ := by
      unfold prow
      rw [← hoo]
      show (⟨o, _, (if i + 1 = ps.length then o else each), _ + (if i + 1 = ps.length then o else each), o - (if i + 1 = ps.length then o else each)⟩ : S37) = _
      rw [hb]
    have b0 : 0 ≤ b ∧ b ≤ o := by
      rw [← hb]
      split <;> omega
    have next : o - b = (if i + 1 = ps.length then 0 else m - ((i + 1 : Nat) : Int) * each) := by
      by_cases c : i + 1 = ps.length
      · rw [if_pos c]
        rw [if_pos c] at hb
        omega
      · rw [if_neg c]
        rw [if_neg c] at hb
        omega
    obtain ⟨K2, g⟩ := ih (i + 1) (by omega) (o - b) next
    have rr := row_rd m r each ps hlt
    rw [row] at rr
    have t1 : (i : Int) < (ps.length : Int) := by omega
    have t2 : (0 : Int) ≤ (i : Int) := by omega
    have t3 : ¬ b < 0 := by omega
    have t4 : ¬ o - b < 0 := by omega
    have w4 : o - b = wrap64 (o - b) := (wrap64_small (by clear hb next; omega) (by clear hb next; omega)).symm
    have w3 : intr o r (rd_T42 ps (i : Int)) + b = wrap64 (intr o r (rd_T42 ps (i : Int)) + b) := (wrap64_small (by clear hb next w4; omega) (by clear hb next w4; omega)).symm
    have wi : wrap64 ((i : Int) + 1) = ((i + 1 : Nat) : Int) := by
      clear hb next w4 w3 rr row
      rw [wrap64_small (by omega) (by omega)]
      omega
    refine ⟨K1 + K2 + 1, fun k hk => ?_⟩
    obtain ⟨q, rfl⟩ : ∃ q, k = q + 1 := ⟨k - 1, by clear hb next w4 w3 wi; omega⟩
    have a1 : demurrageref18_Of.f q o r (rd_T42 ps (i : Int)).f0 (rd_T42 ps (i : Int)).f1 = some (intr o r (rd_T42 ps (i : Int)), 0) := a1 q (by clear hb next w4 w3 wi; omega)
    have g := g q (by clear hb next w4 w3 wi; omega)
    show demurrageref19_Sound.l0 (q + 1) ((List.range ps.length).map (prow m r each ps)) r ps o (i : Int) = _
    rw [demurrageref19_Sound.l0, rows_length, if_pos t1, if_pos t2, if_pos t1, a1, Option.bind_some, if_pos rfl, rr]
    show (if o = o then _ else _) = _
    rw [if_pos rfl, if_pos rfl, if_neg t3, if_pos w4, if_neg t4, if_pos w3, wi]
    exact g

theorem sound_at {m r each : Int} {ps : List S42} (m1 : m ≤ 1000000000000000) (r0 : 0 ≤ r) (r1 : r ≤ 9000) (e0 : 0 ≤ each) (e1 : each * ps.length ≤ m) (hp : ps.length ≤ 1200) (hu : ∀ j : Nat, j < ps.length → Us (rd_T42 ps (j : Int))) (hpos : 0 < ps.length) :
    At (fun k => demurrageref19_Sound.f k ((List.range ps.length).map (prow m r each ps)) m r ps) true := by
  obtain ⟨K, h⟩ := sound_from m1 r0 r1 e0 e1 hp hu ps.length 0 (by omega) m (by rw [if_neg (by omega)]; simp)
  refine ⟨K + 1, fun k hk => ?_⟩
  obtain ⟨q, rfl⟩ : ∃ q, k = q + 1 := ⟨k - 1, by omega⟩
  show demurrageref19_Sound.f (q + 1) ((List.range ps.length).map (prow m r each ps)) m r ps = _
  unfold demurrageref19_Sound.f
  rw [rows_length, if_pos rfl, beq_eq_false_iff_ne.mpr (by omega), demurrageref19_Sound.j0, if_neg (by decide)]
  exact h q (by omega)

theorem sum_loop {m r e : Int} {ps : List S42} (m0 : 0 ≤ m) (m1 : m ≤ 1000000000000000) (e0 : 0 ≤ e) (e1 : e * ps.length ≤ m) (e2 : m < (e + 1) * ps.length) (he : wrap64 (Int.tdiv m (ps.length : Int)) = e) (hp : ps.length ≤ 40) (hpos : 0 < ps.length) :
    ∀ (d i k : Nat), i + d = ps.length → d + 1 ≤ k → ∀ s : Int, s = (if i = ps.length then m else i * e) → demurragelaw19_PlainSound.l0 k true m ((List.range ps.length).map (prow m r 0 ps)) ((List.range ps.length).map (prow m r e ps)) s (ps.length : Int) (i : Int) = some true := by
  have wn : wrap64 ((ps.length : Int) - 1) = ((ps.length - 1 : Nat) : Int) := by
    clear he e1 e2
    rw [wrap64_small (by omega) (by omega)]
    omega
  have n0 : ¬ (ps.length : Int) = 0 := by clear he wn; omega
  intro d
  induction d with
  | zero =>
    intro i k hi hk s hs
    obtain ⟨q, rfl⟩ : ∃ q, k = q + 1 := ⟨k - 1, by clear he wn; omega⟩
    have hi : i = ps.length := by clear he wn; omega
    rw [if_pos hi] at hs
    have hl : ps.length - 1 < ps.length := by clear he wn; omega
    obtain ⟨x0, x1, x2⟩ := row_facts e0 e1 hl
    have hn : ps.length - 1 + 1 = ps.length := by clear he wn; omega
    have a := row_rd m r 0 ps hl
    have b := row_rd m r e ps hl
    have fa : (prow m r 0 ps (ps.length - 1)).f2 = m := by
      show (if ps.length - 1 + 1 = ps.length then m - ((ps.length - 1 : Nat) : Int) * 0 else 0) = m
      rw [if_pos hn, Int.mul_zero, Int.sub_zero]
    have fb : (prow m r e ps (ps.length - 1)).f2 = m - ((ps.length - 1 : Nat) : Int) * e := by
      show (if ps.length - 1 + 1 = ps.length then m - ((ps.length - 1 : Nat) : Int) * e else e) = _
      rw [if_pos hn]
    have up : (e + 1) * (ps.length : Int) = ((ps.length - 1 : Nat) : Int) * e + e + ps.length := by
      rw [Int.add_mul, Int.one_mul, ← x2, hn, Int.mul_comm]
    have wl : wrap64 (e + (ps.length : Int)) = e + ps.length := wrap64_small (by clear he wn hs; omega) (by clear he wn hs; omega)
    have t1 : ¬ (i : Int) < (ps.length : Int) := by clear he wn wl; omega
    have t2 : (0 : Int) ≤ ((ps.length - 1 : Nat) : Int) := by clear he wn wl; omega
    have t3 : ((ps.length - 1 : Nat) : Int) < (ps.length : Int) := by clear he wn wl; omega
    have t4 : m - ((ps.length - 1 : Nat) : Int) * e ≥ e := by clear he wn wl; omega
    have t5 : m - ((ps.length - 1 : Nat) : Int) * e < e + ps.length := by clear he wn wl; omega
    rw [demurragelaw19_PlainSound.l0, if_neg t1, if_pos rfl, if_pos hs, wn, if_pos t2, rows_length, if_pos t3, a, if_pos fa, rows_length, if_pos t3, if_neg n0, b, fb, he, if_pos t4, wl, decide_eq_true t5]
  | succ d ih =>
    intro i k hi hk s hs
    obtain ⟨q, rfl⟩ : ∃ q, k = q + 1 := ⟨k - 1, by clear he wn; omega⟩
    have hlt : i < ps.length := by clear he wn; omega
    rw [if_neg (by clear he wn; omega)] at hs
    obtain ⟨x0, x1, x2⟩ := row_facts e0 e1 hlt
    have a := row_rd m r 0 ps hlt
    have b := row_rd m r e ps hlt
    have t1 : (i : Int) < (ps.length : Int) := by clear he wn; omega
    have t2 : (0 : Int) ≤ (i : Int) := by clear he wn; omega
    have fa0 : (prow m r 0 ps i).f0 = m := by
      show m - (i : Int) * 0 = m
      rw [Int.mul_zero, Int.sub_zero]
    have wi : wrap64 ((i : Int) + 1) = ((i + 1 : Nat) : Int) := by
      clear he wn a b fa0 hs
      rw [wrap64_small (by omega) (by omega)]
      omega
    by_cases c : i + 1 = ps.length
    · have fb2 : (prow m r e ps i).f2 = m - (i : Int) * e := by
        show (if i + 1 = ps.length then m - (i : Int) * e else e) = _
        rw [if_pos c]
      have fb4 : ¬ (prow m r e ps i).f4 > m := by
        show ¬ (m - (i : Int) * e) - (if i + 1 = ps.length then m - (i : Int) * e else e) > m
        rw [if_pos c]
        clear he wn wi
        omega
      have ws : wrap64 (s + (m - (i : Int) * e)) = m := by
        have : s + (m - (i : Int) * e) = m := by clear he wn wi; omega
        rw [this]
        exact wrap64_small (by clear he wn wi; omega) (by clear he wn wi; omega)
      have t3 : ¬ (i : Int) < ((ps.length - 1 : Nat) : Int) := by clear he wn wi ws; omega
      rw [demurragelaw19_PlainSound.l0, if_pos t1, if_pos t2, rows_length, if_pos t1, wn, if_neg t3, rows_length, if_pos t1, a, if_pos fa0, b, if_neg fb4, fb2, ws, wi]
      exact ih (i + 1) q (by clear he wn wi ws; omega) (by clear he wn wi ws; omega) m (by rw [if_pos c])
    · have fb2 : (prow m r e ps i).f2 = e := by
        show (if i + 1 = ps.length then m - (i : Int) * e else e) = _
        rw [if_neg c]
      have fa2 : (prow m r 0 ps i).f2 = 0 := by
        show (if i + 1 = ps.length then m - (i : Int) * 0 else 0) = _
        rw [if_neg c]
      have fb4 : ¬ (prow m r e ps i).f4 > m := by
        show ¬ (m - (i : Int) * e) - (if i + 1 = ps.length then m - (i : Int) * e else e) > m
        rw [if_neg c]
        clear he wn wi
        omega
      have ws : wrap64 (s + e) = ((i + 1 : Nat) : Int) * e := by
        have : s + e = ((i + 1 : Nat) : Int) * e := by clear he wn wi; omega
        rw [this]
        exact wrap64_small (by clear he wn wi; omega) (by clear he wn wi; omega)
      have t3 : (i : Int) < ((ps.length - 1 : Nat) : Int) := by clear he wn wi ws; omega
      rw [demurragelaw19_PlainSound.l0, if_pos t1, if_pos t2, rows_length, if_pos t1, wn, if_pos t3, rows_length, if_pos t1, a, if_pos fa2, if_neg n0, b, he, if_pos fb2, if_pos fa0, if_neg fb4, fb2, ws, wi]
      exact ih (i + 1) q (by clear he wn wi ws; omega) (by clear he wn wi ws; omega) _ (by rw [if_neg c])

theorem PlainSound (a b : Int) (l : List S42) (wa : (Lit.int .u64 a).wf = true) (wb : (Lit.int .u16 b).wf = true) (_ : ∀ x ∈ l, (Lit.int .i64 x.f0).wf = true ∧ (Lit.int .i64 x.f1).wf = true) : ∃ k, demurragelaw19_PlainSound.f k a b l = some true := by
  have ha := u64_wf wa
  have hb := u16_wf' wb
  obtain ⟨K0, h0⟩ : At (fun k => demurragelaw19_shown.f k) true := At.grow (K := 12) demurragelaw19_shown.mono shown_plain
  have yes : ∀ k, demurragelaw19_PlainSound.j0 (k + 1) a b l true true = some true := fun k => by rw [demurragelaw19_PlainSound.j0, if_pos rfl]
  by_cases c1 : (l.length : Int) < 1
  · refine ⟨K0 + 1, ?_⟩
    have h0 : demurragelaw19_shown.f (K0 + 1) = some true := h0 _ (by omega)
    unfold demurragelaw19_PlainSound.f
    rw [h0, Option.bind_some, if_pos c1]
    exact yes K0
  · by_cases c2 : (l.length : Int) > 40
    · refine ⟨K0 + 1, ?_⟩
      have h0 : demurragelaw19_shown.f (K0 + 1) = some true := h0 _ (by omega)
      unfold demurragelaw19_PlainSound.f
      rw [h0, Option.bind_some, if_neg c1, if_pos c2]
      exact yes K0
    · obtain ⟨u, ⟨K1, h1⟩, hu⟩ := usual_at l (by omega)
      cases u with
      | false =>
        refine ⟨K0 + K1 + 1, ?_⟩
        have h0 : demurragelaw19_shown.f (K0 + K1 + 1) = some true := h0 _ (by omega)
        have h1 : demurrageref18_Usual.f (K0 + K1 + 1) l = some false := h1 _ (by omega)
        unfold demurragelaw19_PlainSound.f
        rw [h0, Option.bind_some, if_neg c1, if_neg c2, h1, Option.bind_some]
        exact yes (K0 + K1)
      | true =>
        have us := hu rfl
        obtain ⟨em, m0, m1⟩ := money (m := 1000000000000001) ha (by omega) (by omega)
        obtain ⟨er, r0, r1⟩ := ratep (m := 9001) hb.1 hb.2 (by omega)
        generalize hm : a % 1000000000000001 = m at em m0 m1
        generalize hr : b % 9001 = r at er r0 r1
        obtain ⟨e, hE⟩ : ∃ e : Int, m / (l.length : Int) = e := ⟨_, rfl⟩
        have q0 : 0 ≤ m / (l.length : Int) := Int.ediv_nonneg m0 (by omega)
        have q1 : m / (l.length : Int) ≤ m := Int.ediv_le_self _ m0
        have q2 : m / (l.length : Int) * (l.length : Int) ≤ m := Int.ediv_mul_le m (by omega)
        have q3 : m < (m / (l.length : Int) + 1) * (l.length : Int) := Int.lt_ediv_add_one_mul_self m (by omega)
        rw [hE] at q0 q1 q2 q3
        have eq : wrap64 (Int.tdiv m (l.length : Int)) = e := by
          rw [Int.tdiv_eq_ediv_of_nonneg m0, hE]
          exact wrap64_small (by clear hE; omega) (by clear hE; omega)
        have z1 : l.length ≤ 1200 := by clear hE eq em er; omega
        have z2 : 0 < l.length := by clear hE eq em er; omega
        have z3 : m ≤ 1000000000000000 := by clear hE eq em er; omega
        have z4 : r ≤ 9000 := by clear hE eq em er; omega
        have z5 : l.length ≤ 40 := by clear hE eq em er; omega
        have z6 : (0 : Int) * (l.length : Int) ≤ m := by clear hE eq em er; omega
        obtain ⟨K2, g1⟩ := rows_at (m := m) (r := r) (each := 0) (ps := l) m0 z3 r0 z4 (by omega) z6 z1 us z2
        obtain ⟨K3, g2⟩ := rows_at (m := m) (r := r) (each := e) (ps := l) m0 z3 r0 z4 q0 q2 z1 us z2
        obtain ⟨K4, s1⟩ := sound_at (m := m) (r := r) (each := 0) (ps := l) z3 r0 z4 (by omega) z6 z1 us z2
        obtain ⟨K5, s2⟩ := sound_at (m := m) (r := r) (each := e) (ps := l) z3 r0 z4 q0 q2 z1 us z2
        have loop := sum_loop (m := m) (r := r) (e := e) (ps := l) m0 z3 q0 q2 q3 eq z5 z2 l.length 0
        generalize hk : K0 + K1 + K2 + K3 + K4 + K5 + l.length + 1 = k
        have i0 : K0 ≤ k + 1 := by clear hE eq em er; omega
        have i1 : K1 ≤ k + 1 := by clear hE eq em er; omega
        have i2 : K2 ≤ k := by clear hE eq em er; omega
        have i3 : K3 ≤ k := by clear hE eq em er; omega
        have i4 : K4 ≤ k := by clear hE eq em er; omega
        have i5 : K5 ≤ k := by clear hE eq em er; omega
        have lp := loop k (by omega) (by clear hE eq em er; omega) 0 (by rw [if_neg (by clear hE eq em er; omega)]; simp)
        have h0 : demurragelaw19_shown.f (k + 1) = some true := h0 _ i0
        have h1 : demurrageref18_Usual.f (k + 1) l = some true := h1 _ i1
        have g1 : plain_Bullet.f k m r l = some ((List.range l.length).map (prow m r 0 l), 0) := g1 k i2
        have g2 : plain_Equal.f k m r l = some ((List.range l.length).map (prow m r e l), 0) := by
          unfold plain_Equal.f
          rw [eq]
          exact g2 k i3
        have s1 : demurrageref19_Sound.f k ((List.range l.length).map (prow m r 0 l)) m r l = some true := s1 k i4
        have s2 : demurrageref19_Sound.f k ((List.range l.length).map (prow m r e l)) m r l = some true := s2 k i5
        refine ⟨k + 1, ?_⟩
        unfold demurragelaw19_PlainSound.f
        rw [h0, Option.bind_some, if_neg c1, if_neg c2, h1, Option.bind_some]
        show demurragelaw19_PlainSound.j0 (k + 1) a b l true false = some true
        rw [demurragelaw19_PlainSound.j0, if_neg (by decide), em, er, g1, Option.bind_some, g2, Option.bind_some, if_pos rfl, if_pos rfl, s1, Option.bind_some, if_pos rfl, s2, Option.bind_some, if_pos rfl]
        exact lp
end Go.Proofs.Ytlppmfffdjfekaa.Pure
