-- CUT by prune.py, a program of this session, to what the claim reaches (out of a text that the kit's printer, the session's programs or the session wrote)
import Derived.Test.YtcdbmmlnmefoeaaPRoundPartsTBigFive
set_option maxRecDepth 10000
namespace Go.Proofs.Ytcdbmmlnmefoeaa.X
open Go.RowKit Go.Proofs.YtcdbmmlnmefoeaaW.PrintWords Go.Proofs.YtcdbmmlnmefoeaaW.PrintLast

theorem prod_leave {a b out : List Int} {i j k : Nat} (hi : (i : Int) < 4611686018427387900) (h : b.length ≤ j) : demurrageref01_Prod.l1 (k + 1) out (i : Int) 0 (j : Int) a b = demurrageref01_Prod.l0 k out ((i + 1 : Nat) : Int) a b := by
  have w : wrap64 ((i : Int) + 1) = ((i + 1 : Nat) : Int) := by
    rw [wrap64_small (x := (i : Int) + 1) (by omega) (by omega)]; omega
  rw [demurrageref01_Prod.l1, w]
  clear w
  rw [if_neg (by omega), if_neg (by omega)]

theorem prod_value {a b out : List Int} {i j : Nat} {c x : Int} (hx : x = out.getD (i + j) 0 + a.getD i 0 * b.getD j 0 + c) (hl : i + j < out.length) :
    bv (out.set (i + j) (x % 10000)) + 10000 ^ (i + (j + 1)) * (x / 10000 + a.getD i 0 * hv b (j + 1)) = bv out + 10000 ^ (i + j) * (c + a.getD i 0 * hv b j) := by
  rw [bv_set _ _ _ hl, hv_step b j, ← Nat.add_assoc, Int.pow_succ, Int.mul_assoc, Int.add_assoc, ← Int.mul_add, Int.mul_add (a.getD i 0), ← Int.mul_assoc (a.getD i 0) 10000, Int.mul_comm (a.getD i 0) 10000, Int.mul_assoc 10000 (a.getD i 0)]
  congr 2
  omega

theorem prod_row {a b : List Int} (ha : Digs a) (hb : Digs b) {i : Nat} (hi : i < a.length) {L : Nat} (hL : i + b.length + 1 < L) (hm : L < 4611686018427387900) :
    ∀ (m j : Nat) (out : List Int) (c : Int), b.length = j + m → Digs out → out.length = L → 0 ≤ c ∧ c ≤ 9999 → hv out (i + b.length) = 0 →
    ∃ out' t, (∀ k, demurrageref01_Prod.l1 (k + t) out (i : Int) c (j : Int) a b = demurrageref01_Prod.l0 k out' ((i + 1 : Nat) : Int) a b) ∧ t ≤ m + 2 ∧ Digs out' ∧ out'.length = L ∧ bv out' = bv out + 10000 ^ (i + j) * (c + a.getD i 0 * hv b j) := by
  intro m
  induction m with
  | zero =>
    intro j out c hj ho hlen hc hz
    have zb := hv_end (l := b) (i := j) (by omega)
    have db : b.getD j 0 = 0 := by
      rw [List.getD_eq_getElem?_getD, List.getElem?_eq_none (by omega)]; rfl
    by_cases h0 : c = 0
    · subst h0
      refine ⟨out, 1, fun k => prod_leave (by omega) (by omega), by omega, ho, hlen, ?_⟩
      rw [zb]
      simp
    · have e : i + b.length = i + j := by omega
      rw [e] at hz
      obtain ⟨z1, z2⟩ := hv_zero_digit ho hz
      have x1 : out.getD (i + j) 0 + a.getD i 0 * b.getD j 0 + c = c := by rw [z1, db]; simp
      refine ⟨out.set (i + j) (c % 10000), 2, fun k => ?_, by omega, digs_set ho _ (by omega), by simpa using hlen, ?_⟩
      · rw [prod_step ha hb ho hc hi (by omega) (by omega) (by omega) (Or.inr (by omega)), x1]
        have : c / 10000 = 0 := by omega
        rw [this]
        exact prod_leave (by omega) (by omega)
      · rw [bv_set _ _ _ (by omega), z1, zb]
        have : c % 10000 = c := by omega
        rw [this]
        simp
  | succ m ih =>
    intro j out c hj ho hlen hc hz
    obtain ⟨x0, x1⟩ := prod_body (i := i) (j := j) ha hb ho hc
    have st := fun k => prod_step (k := k) ha hb ho hc hi (show i + j < out.length by omega) (by omega) (show j < 4611686018427387900 by omega) (Or.inl (by omega))
    have pv := prod_value (a := a) (b := b) (out := out) (i := i) (j := j) (c := c) rfl (by omega)
    generalize out.getD (i + j) 0 + a.getD i 0 * b.getD j 0 + c = x at *
    obtain ⟨o2, t, e, ht, do2, l2, v2⟩ := ih (j + 1) (out.set (i + j) (x % 10000)) (x / 10000) (by omega) (digs_set ho _ (by omega)) (by simpa using hlen) (by omega) (by rw [hv_set (by omega)]; exact hz)
    refine ⟨o2, t + 1, fun k => ?_, by omega, do2, l2, by rw [v2, pv]⟩
    rw [← Nat.add_assoc, st, e]
end Go.Proofs.Ytcdbmmlnmefoeaa.X
