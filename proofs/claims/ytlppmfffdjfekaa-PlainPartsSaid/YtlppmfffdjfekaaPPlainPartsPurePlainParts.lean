/- PlainParts: with a part of 0 more at any place there is a row more, of no interest; all at the end the others' interest is as it was; in the last row all is paid back. -/
import Derived.Test.YtlppmfffdjfekaaPPlainPartsXPlainParts
import Derived.Test.YtlppmfffdjfekaaPPlainPartsT
set_option maxRecDepth 10000
namespace Go.Proofs.Ytlppmfffdjfekaa.Pure
open Go.RowKit Go.Proofs.Ytlppmfffdjfekaa.X Go.Proofs.YtlppmfffdjfekaaW.PrintWords Go.Proofs.YtlppmfffdjfekaaW.PrintLast

theorem shown_plain : demurragelaw19_shown.f 12 = some true := by kernel_rfl
theorem u16_wf' {a : Int} (h : (Lit.int .u16 a).wf = true) : 0 ≤ a ∧ a < 65536 := by
  simp only [Lit.wf, IntKind.min, IntKind.max, IntKind.signed, IntKind.bits, Bool.and_eq_true] at h
  simp at h
  omega
theorem u8_wf' {a : Int} (h : (Lit.int .u8 a).wf = true) : 0 ≤ a ∧ a < 256 := by
  simp only [Lit.wf, IntKind.min, IntKind.max, IntKind.signed, IntKind.bits, Bool.and_eq_true] at h
  simp at h
  omega
theorem money {a m : Int} (h : U64 a) (hm : 0 < m) (h1 : m ≤ 1000000000000001) : wrap64 (Int.tmod a m) = a % m ∧ 0 ≤ a % m ∧ a % m < m := by
  have e0 := Int.emod_nonneg a (show m ≠ 0 by omega)
  have e1 := Int.emod_lt_of_pos a hm
  rw [Int.tmod_eq_emod_of_nonneg h.1]
  exact ⟨wrap64_small (by omega) (by omega), e0, e1⟩
theorem ratep {a m : Int} (h0 : 0 ≤ a) (h1 : a < 65536) (hm : 0 < m) : Int.tmod (wrap64 a) m = a % m ∧ 0 ≤ a % m ∧ a % m < m := by
  rw [wrap64_small (by omega) (by omega), Int.tmod_eq_emod_of_nonneg h0]
  exact ⟨rfl, Int.emod_nonneg a (by omega), Int.emod_lt_of_pos a hm⟩
theorem ev_zero {d : Int} (hd : 0 < d) : ev 0 d = 0 := by
  unfold ev nearer
  rw [Int.zero_emod, Int.zero_ediv, decide_eq_false (by omega), decide_eq_false (by omega)]
  rfl

/-- The parts with one of 0 more. -/
def more (l : List S42) (k : Nat) : List S42 := (([] : List S42) ++ l.take k ++ [(⟨0, 1⟩ : S42)]) ++ l.drop k
theorem more_length (l : List S42) {k : Nat} (h : k ≤ l.length) : (more l k).length = l.length + 1 := by
  unfold more
  simp
  omega
theorem more_ahead (l : List S42) {k j : Nat} (h : k ≤ l.length) (hj : j < k) : rd_T42 (more l k) (j : Int) = rd_T42 l (j : Int) := by
  unfold rd_T42 more
  rw [Int.toNat_natCast, List.getD_eq_getElem?_getD, List.getD_eq_getElem?_getD, List.nil_append, List.append_assoc, List.getElem?_append_left (by rw [List.length_take]; omega), List.getElem?_take, if_pos hj]
theorem more_at (l : List S42) {k : Nat} (h : k ≤ l.length) : rd_T42 (more l k) (k : Int) = ⟨0, 1⟩ := by
  have e : (l.take k).length = k := by rw [List.length_take]; omega
  unfold rd_T42 more
  rw [Int.toNat_natCast, List.getD_eq_getElem?_getD, List.nil_append, List.append_assoc, List.getElem?_append_right (by omega), e, Nat.sub_self]
  rfl
theorem more_behind (l : List S42) {k j : Nat} (h : k ≤ l.length) (hj : k ≤ j) : rd_T42 (more l k) ((j + 1 : Nat) : Int) = rd_T42 l (j : Int) := by
  have e : (l.take k).length = k := by rw [List.length_take]; omega
  unfold rd_T42 more
  rw [Int.toNat_natCast, Int.toNat_natCast, List.getD_eq_getElem?_getD, List.getD_eq_getElem?_getD, List.nil_append, List.append_assoc, List.getElem?_append_right (by omega), e, show j + 1 - k = (j - k) + 1 by omega, List.singleton_append, List.getElem?_cons_succ, List.getElem?_drop, show k + (j - k) = j by omega]
theorem more_us {l : List S42} {k : Nat} (h : k ≤ l.length) (hu : ∀ j : Nat, j < l.length → Us (rd_T42 l (j : Int))) : ∀ j : Nat, j < (more l k).length → Us (rd_T42 (more l k) (j : Int)) := by
  intro j hj
  rw [more_length l h] at hj
  by_cases c1 : j < k
  · rw [more_ahead l h c1]
    exact hu j (by omega)
  · by_cases c2 : j = k
    · subst c2
      rw [more_at l h]
      exact ⟨⟨by decide, by decide, by decide, by decide, by decide⟩, by decide, by decide, by decide⟩
    · obtain ⟨i, rfl⟩ : ∃ i, j = i + 1 := ⟨j - 1, by omega⟩
      rw [more_behind l h (by omega)]
      exact hu i (by omega)

theorem prow_int (m r : Int) (ps : List S42) (i : Nat) : (prow m r 0 ps i).f1 = intr m r (rd_T42 ps (i : Int)) := by
  show intr (m - i * 0) r _ = _
  rw [Int.mul_zero, Int.sub_zero]

theorem parts_loop {m r : Int} {l : List S42} {a : Nat} (ha : a ≤ l.length) (hp : l.length ≤ 20) :
    ∀ (d i k : Nat), i + d = l.length → d + 1 ≤ k → demurragelaw19_PlainParts.l0 k true (l.length : Int) (a : Int) ((List.range l.length).map (prow m r 0 l)) ((List.range (more l a).length).map (prow m r 0 (more l a))) (i : Int) = some true := by
  intro d
  induction d with
  | zero =>
    intro i k hi hk
    obtain ⟨q, rfl⟩ : ∃ q, k = q + 1 := ⟨k - 1, by omega⟩
    rw [demurragelaw19_PlainParts.l0, if_neg (by omega)]
  | succ d ih =>
    intro i k hi hk
    obtain ⟨q, rfl⟩ : ∃ q, k = q + 1 := ⟨k - 1, by omega⟩
    have ml := more_length l ha
    have hlt : i < l.length := by omega
    have x := row_rd m r 0 l hlt
    have y := row_rd m r 0 (more l a) (i := i) (by omega)
    have z := row_rd m r 0 (more l a) (i := i + 1) (by omega)
    have t1 : (i : Int) < (l.length : Int) := by omega
    have t2 : (0 : Int) ≤ (i : Int) := by omega
    have t3 : (0 : Int) ≤ ((i + 1 : Nat) : Int) := by omega
    have t4 : ((i + 1 : Nat) : Int) < ((more l a).length : Int) := by omega
    have t5 : (i : Int) < ((more l a).length : Int) := by omega
    have wi : wrap64 ((i : Int) + 1) = ((i + 1 : Nat) : Int) := by
      rw [wrap64_small (by omega) (by omega)]
      omega
    have go := ih (i + 1) q (by omega) (by omega)
    by_cases c : (i : Int) ≥ (a : Int)
    · have e : (prow m r 0 l i).f1 = (prow m r 0 (more l a) (i + 1)).f1 := by
        rw [prow_int, prow_int, more_behind l ha (by omega)]
      rw [demurragelaw19_PlainParts.l0, if_pos t1, if_pos c, if_pos t2, rows_length, if_pos t1, wi, if_pos t3, rows_length, if_pos t4, x, z, if_pos e]
      exact go
    · have e : (prow m r 0 l i).f1 = (prow m r 0 (more l a) i).f1 := by
        rw [prow_int, prow_int, more_ahead l ha (by omega)]
      rw [demurragelaw19_PlainParts.l0, if_pos t1, if_neg c, if_pos t2, rows_length, if_pos t1, rows_length, if_pos t5, x, y, if_pos e, wi]
      exact go

theorem PlainParts (a b : Int) (l : List S42) (at' : Int) (wa : (Lit.int .u64 a).wf = true) (wb : (Lit.int .u16 b).wf = true) (_ : ∀ x ∈ l, (Lit.int .i64 x.f0).wf = true ∧ (Lit.int .i64 x.f1).wf = true) (wc : (Lit.int .u8 at').wf = true) : ∃ k, demurragelaw19_PlainParts.f k a b l at' = some true := by
  have ha := u64_wf wa
  have hb := u16_wf' wb
  have hc := u8_wf' wc
  obtain ⟨K0, h0⟩ : At (fun k => demurragelaw19_shown.f k) true := At.grow (K := 12) demurragelaw19_shown.mono shown_plain
  have yes : ∀ k, demurragelaw19_PlainParts.j0 (k + 1) a b l at' true (l.length : Int) true = some true := fun k => by rw [demurragelaw19_PlainParts.j0, if_pos rfl]
  by_cases c1 : (l.length : Int) < 1
  · refine ⟨K0 + 1, ?_⟩
    have h0 : demurragelaw19_shown.f (K0 + 1) = some true := h0 _ (by omega)
    unfold demurragelaw19_PlainParts.f
    rw [h0, Option.bind_some, if_pos c1]
    exact yes K0
  · by_cases c2 : (l.length : Int) > 20
    · refine ⟨K0 + 1, ?_⟩
      have h0 : demurragelaw19_shown.f (K0 + 1) = some true := h0 _ (by omega)
      unfold demurragelaw19_PlainParts.f
      rw [h0, Option.bind_some, if_neg c1, if_pos c2]
      exact yes K0
    · obtain ⟨u, ⟨K1, h1⟩, hu⟩ := usual_at l (by omega)
      cases u with
      | false =>
        refine ⟨K0 + K1 + 1, ?_⟩
        have h0 : demurragelaw19_shown.f (K0 + K1 + 1) = some true := h0 _ (by omega)
        have h1 : demurrageref18_Usual.f (K0 + K1 + 1) l = some false := h1 _ (by omega)
        unfold demurragelaw19_PlainParts.f
        rw [h0, Option.bind_some, if_neg c1, if_neg c2, h1, Option.bind_some]
        exact yes (K0 + K1)
      | true =>
        have us := hu rfl
        obtain ⟨em, m0, m1⟩ := money (m := 1000000000000001) ha (by omega) (by omega)
        obtain ⟨er, r0, r1⟩ := ratep (m := 9001) hb.1 hb.2 (by omega)
        generalize hm : a % 1000000000000001 = m at em m0 m1
        generalize hr : b % 9001 = r at er r0 r1
        have wn : wrap64 ((l.length : Int) + 1) = ((l.length + 1 : Nat) : Int) := by
          rw [wrap64_small (by omega) (by omega)]
          omega
        have wa' : wrap64 at' = at' := wrap64_small (by clear wn; omega) (by clear wn; omega)
        obtain ⟨p, hp⟩ : ∃ p : Nat, Int.tmod at' ((l.length + 1 : Nat) : Int) = (p : Int) := ⟨at'.toNat % (l.length + 1), by
          rw [Int.tmod_eq_emod_of_nonneg hc.1]
          have : (at'.toNat : Int) = at' := Int.toNat_of_nonneg hc.1
          rw [← this, Int.toNat_natCast, Int.natCast_emod]⟩
        have pl : p ≤ l.length := by
          have := Int.emod_lt_of_pos at' (show (0 : Int) < ((l.length + 1 : Nat) : Int) by clear wn wa'; omega)
          rw [← Int.tmod_eq_emod_of_nonneg hc.1, hp] at this
          clear wn wa' hp
          omega
        have ml := more_length l pl
        obtain ⟨K2, g1⟩ := rows_at (m := m) (r := r) (each := 0) (ps := l) m0 (by clear wn wa' hp; omega) r0 (by clear wn wa' hp; omega) (by omega) (by clear wn wa' hp; omega) (by clear wn wa' hp; omega) us (by clear wn wa' hp; omega)
        obtain ⟨K3, g2⟩ := rows_at (m := m) (r := r) (each := 0) (ps := more l p) m0 (by clear wn wa' hp; omega) r0 (by clear wn wa' hp; omega) (by omega) (by clear wn wa' hp; omega) (by clear wn wa' hp; omega) (more_us pl us) (by clear wn wa' hp; omega)
        have loop := parts_loop (m := m) (r := r) pl (by clear wn wa' hp; omega) l.length 0
        generalize hk : K0 + K1 + K2 + K3 + l.length + 1 = k
        have i0 : K0 ≤ k + 1 := by clear wn wa' hp; omega
        have i1 : K1 ≤ k + 1 := by clear wn wa' hp; omega
        have i2 : K2 ≤ k := by clear wn wa' hp; omega
        have i3 : K3 ≤ k := by clear wn wa' hp; omega
        have lp := loop k (by omega) (by clear wn wa' hp; omega)
        have h0 : demurragelaw19_shown.f (k + 1) = some true := h0 _ i0
        have h1 : demurrageref18_Usual.f (k + 1) l = some true := h1 _ i1
        have g1 : plain_Bullet.f k m r l = some ((List.range l.length).map (prow m r 0 l), 0) := g1 k i2
        have g2 : plain_Bullet.f k m r (([] : List S42) ++ l.take p ++ [(⟨0, 1⟩ : S42)] ++ l.drop p) = some ((List.range (more l p).length).map (prow m r 0 (more l p)), 0) := g2 k i3
        have n0 : ¬ ((l.length + 1 : Nat) : Int) = 0 := by clear wn wa' hp; omega
        have n1 : (0 : Int) ≤ (p : Int) := by clear wn wa' hp; omega
        have n2 : (p : Int) ≤ (l.length : Int) := by clear wn wa' hp; omega
        have e1 : (l.take p).length = p := by rw [List.length_take]; clear wn wa' hp; omega
        have s1 : ([] : List S42).length + (l.take p).length < 8796093022208 := by rw [e1, List.length_nil]; clear wn wa' hp; omega
        have s2 : (([] : List S42) ++ l.take p).length + [(⟨0, 1⟩ : S42)].length < 8796093022208 := by rw [List.length_append, e1, List.length_nil, List.length_singleton]; clear wn wa' hp; omega
        have s3 : (([] : List S42) ++ l.take p ++ [(⟨0, 1⟩ : S42)]).length + (l.drop p).length < 8796093022208 := by rw [List.length_append, List.length_append, e1, List.length_nil, List.length_singleton, List.length_drop]; clear wn wa' hp; omega
        have rp := row_rd m r 0 (more l p) (i := p) (by clear wn wa' hp; omega)
        have rn := row_rd m r 0 (more l p) (i := l.length) (by clear wn wa' hp; omega)
        have i1' : (prow m r 0 (more l p) p).f1 = 0 := by
          rw [prow_int, more_at l pl]
          show ev (m * r * 0) (10000 * 1) = 0
          rw [Int.mul_zero]
          exact ev_zero (by decide)
        have b1 : (prow m r 0 (more l p) l.length).f2 = m := by
          show (if l.length + 1 = (more l p).length then m - (l.length : Int) * 0 else 0) = m
          rw [if_pos ml.symm, Int.mul_zero, Int.sub_zero]
        have n3 : (p : Int) < ((more l p).length : Int) := by clear wn wa' hp; omega
        have n4 : (0 : Int) ≤ (l.length : Int) := by clear wn wa' hp; omega
        have n5 : (l.length : Int) < ((more l p).length : Int) := by clear wn wa' hp; omega
        have n6 : ((more l p).length : Int) = ((l.length + 1 : Nat) : Int) := by clear wn wa' hp; omega
        refine ⟨k + 1, ?_⟩
        unfold demurragelaw19_PlainParts.f
        rw [h0, Option.bind_some, if_neg c1, if_neg c2, h1, Option.bind_some]
        show demurragelaw19_PlainParts.j0 (k + 1) a b l at' true (l.length : Int) false = some true
        rw [demurragelaw19_PlainParts.j0, if_neg (by decide), wn, if_neg n0, Option.bind_some, wa', hp, if_pos n1, if_pos n2, Int.toNat_natCast, Option.bind_some, if_pos s1, Option.bind_some, Option.bind_some, if_pos s2, Option.bind_some, Option.bind_some, if_pos s3, em, er, g1, Option.bind_some, g2, Option.bind_some, if_pos rfl, if_pos rfl, rows_length, if_pos rfl, rows_length, if_pos n6, if_pos n3, rp, if_pos i1', if_pos n4, if_pos n5, rn, if_pos b1]
        exact lp
end Go.Proofs.Ytlppmfffdjfekaa.Pure
