-- CUT by prune.py, a program of this session, to what the claim reaches (out of a text that the kit's printer, the session's programs or the session wrote)
import Derived.Test.YtcdbmmlnmefoeaaPRoundPartsTBigNine
set_option maxRecDepth 10000
namespace Go.Proofs.Ytcdbmmlnmefoeaa.X
open Go.RowKit Go.Proofs.YtcdbmmlnmefoeaaW.PrintWords Go.Proofs.YtcdbmmlnmefoeaaW.PrintLast

theorem quot_loop {a b : List Int} (ha : Digs a) (hb : Digs b) (lb : b.length < 500000) (la : a.length < 200000) :
    ∀ (p : Nat) (out r : List Int), p ≤ a.length → Digs out → out.length = a.length → (∀ i, i < p → out.getD i 0 = 0) → Digs r → r.length + p < 400000 → Norm r → bv r < bv b →
    ∃ s r', At (fun k => demurrageref01_Quot.l0 k out ((p : Int) - 1) a b r) (s, r') ∧ Digs s ∧ Norm s ∧ s.length ≤ a.length ∧ Digs r' ∧ Norm r' ∧ r'.length < 400000 ∧ bv r' < bv b ∧
      bv s * bv b + bv r' = bv out * bv b + 10000 ^ p * bv r + bv (a.take p) := by
  intro p
  induction p with
  | zero =>
    intro out r _ ho lo _ hr lr nr hlt
    obtain ⟨t, t1, t2, t3, t4, t5⟩ := trim_eq ho (by omega)
    refine ⟨t, r, ⟨1, fun k hk => ?_⟩, t2, t4, by omega, hr, nr, by omega, hlt, by rw [t3]; simp [bv]⟩
    obtain ⟨k, rfl⟩ : ∃ j, k = j + 1 := ⟨k - 1, by omega⟩
    show demurrageref01_Quot.l0 (k + 1) out (((0 : Nat) : Int) - 1) a b r = _
    rw [demurrageref01_Quot.l0, if_neg (by omega), t1, Option.bind_some]
  | succ p ih =>
    intro out r hp ho lo hz hr lr nr hlt
    have dp := getD_digs ha p
    have dy : Digs (a.getD p 0 :: r) := digs_cons.mpr ⟨dp, hr⟩
    obtain ⟨t, t1, t2, t3, t4, t5⟩ := trim_eq dy (by simp; omega)
    have ly : (a.getD p 0 :: r).length = r.length + 1 := by simp
    have vt : bv t = a.getD p 0 + 10000 * bv r := by rw [t3, bv]
    have nb := bv_nonneg hr
    obtain ⟨d, r', g1, g2, g3, g4, g5, g6, g7, g8⟩ := quot_digit (a := a) (r := t) (out := out) (p := p) hb t2 lb (by omega) (by omega) (by omega) 10000 0 10000 (by omega) (by omega) (by omega) (by omega) (by rw [Int.mul_zero]; exact bv_nonneg t2) (by rw [vt]; omega)
    have zp : out.getD p 0 = 0 := hz p (by omega)
    obtain ⟨s, r2, i1, i2, i3, i4, i5, i6, i7, i8, i9⟩ := ih (out.set p d) r' (by omega) (digs_set ho _ ⟨g1, g2⟩) (by simpa using lo) (fun i hi => by
      rw [List.getD_eq_getElem?_getD, List.getElem?_set_ne (by omega), ← List.getD_eq_getElem?_getD]
      exact hz i (by omega)) g3 (by omega) g4 g6
    have e1 : (a.take p).length = p := by rw [List.length_take]; omega
    refine ⟨s, r2, ?_, i2, i3, i4, i5, i6, i7, i8, ?_⟩
    · refine At.succ (g := fun k => demurrageref01_Quot.l1 k out (p : Int) 0 10000 a b t) (fun k => ?_) (g8 _ i1)
      have e : ((p + 1 : Nat) : Int) - 1 = (p : Int) := by omega
      have c1 : (p : Int) < (a.length : Int) := by omega
      show demurrageref01_Quot.l0 (k + 1) out (((p + 1 : Nat) : Int) - 1) a b r = _
      rw [e, demurrageref01_Quot.l0, if_pos (Int.natCast_nonneg p), if_pos (Int.natCast_nonneg p), if_pos c1, Option.bind_some, rd_nat, if_pos (by simp; omega)]
      rw [show [a.getD p 0] ++ r = a.getD p 0 :: r from rfl, t1, Option.bind_some]
    · rw [i9, g5, vt, bv_set _ _ _ (by omega), zp, take_getD (by omega), bv_append, e1, Int.pow_succ]
      have e3 : bv [a.getD p 0] = a.getD p 0 := by simp [bv]
      rw [e3]
      generalize a.getD p 0 = x
      generalize (10000 : Int) ^ p = w
      simp only [Int.add_mul, Int.mul_add, Int.mul_sub, Int.sub_zero]
      have h1 : w * (bv b * d) = w * d * bv b := by rw [Int.mul_comm (bv b) d, Int.mul_assoc]
      have h2 : w * (10000 * bv r) = w * 10000 * bv r := by rw [Int.mul_assoc]
      rw [h1, h2]
      omega

theorem quot_at {a b : List Int} (ha : Digs a) (hb : Digs b) (lb : b.length < 500000) (la : a.length < 200000) (hp : 0 < bv b) :
    ∃ s r, At (fun k => demurrageref01_Quot.f k a b) (s, r) ∧ Digs s ∧ Norm s ∧ s.length ≤ a.length ∧ Digs r ∧ Norm r ∧ r.length < 400000 ∧ bv s = bv a / bv b ∧ bv r = bv a % bv b := by
  obtain ⟨s, r, i1, i2, i3, i4, i5, i6, i7, i8, i9⟩ := quot_loop ha hb lb la a.length (List.replicate a.length 0) [] (Nat.le_refl _) (digs_zeros _) (by simp) (fun i hi => by
    rw [List.getD_eq_getElem?_getD, List.getElem?_replicate, if_pos hi]; rfl) digs_nil (by rw [List.length_nil]; omega) norm_nil (by rw [bv]; omega)
  rw [bv_zeros, List.take_length, bv] at i9
  have n := bv_nonneg i5
  have e : bv a = bv r + bv s * bv b := by
    rw [Int.zero_mul, Int.mul_zero] at i9
    omega
  refine ⟨s, r, ?_, i2, i3, i4, i5, i6, i7, ?_, ?_⟩
  · obtain ⟨K, h⟩ := i1
    refine ⟨K, fun k hk => ?_⟩
    have := h k hk
    show demurrageref01_Quot.f k a b = _
    unfold demurrageref01_Quot.f
    rw [if_pos (Int.natCast_nonneg _), Int.toNat_natCast, if_pos (by omega), wrap64_small (x := (a.length : Int) - 1) (by omega) (by omega)]
    exact this
  · rw [e, Int.add_mul_ediv_right _ _ (by omega), Int.ediv_eq_zero_of_lt n i8]
    omega
  · rw [e, Int.add_mul_emod_self_right, Int.emod_eq_of_lt n i8]
end Go.Proofs.Ytcdbmmlnmefoeaa.X
