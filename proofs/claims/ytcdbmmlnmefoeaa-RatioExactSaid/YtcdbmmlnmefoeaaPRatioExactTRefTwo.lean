-- CUT by prune.py, a program of this session, to what the claim reaches (out of a text that the kit's printer, the session's programs or the session wrote)
import Derived.Test.YtcdbmmlnmefoeaaPRatioExactTBigTen
import Derived.Test.YtcdbmmlnmefoeaaPRatioExactTRatio
import Derived.Test.YtcdbmmlnmefoeaaPRatioExactTMore
import Derived.Test.YtcdbmmlnmefoeaaPRatioExactXRefTwo
set_option maxRecDepth 10000
namespace Go.Proofs.Ytcdbmmlnmefoeaa.X
open Go.RowKit Go.Proofs.YtcdbmmlnmefoeaaW.PrintWords Go.Proofs.YtcdbmmlnmefoeaaW.PrintLast

theorem norm_ge {l : List Int} (h : Digs l) (n : Norm l) (hl : l ≠ []) : (10000 : Int) ^ (l.length - 1) ≤ bv l := by
  obtain ⟨l', d, rfl⟩ : ∃ l' d, l = l' ++ [d] := ⟨l.dropLast, l.getLast hl, (List.dropLast_concat_getLast hl).symm⟩
  have d0 := n l' d rfl
  have d1 := (h d (by simp)).1
  have b0 : 0 ≤ bv l' := bv_nonneg (fun x hx => h x (by simp [hx]))
  have p := pow_pos10 l'.length
  rw [bv_append, List.length_append]
  show (10000 : Int) ^ (l'.length + 1 - 1) ≤ bv l' + 10000 ^ l'.length * (d + 10000 * 0)
  rw [Nat.add_sub_cancel, Int.mul_zero, Int.add_zero]
  have : 10000 ^ l'.length * 1 ≤ 10000 ^ l'.length * d := Int.mul_le_mul_of_nonneg_left (by omega) (Int.le_of_lt p)
  omega
theorem norm_pos {l : List Int} (h : Digs l) (n : Norm l) (hl : l ≠ []) : 0 < bv l := by
  have := norm_ge h n hl
  have := pow_pos10 (l.length - 1)
  omega
theorem norm_len {a b : List Int} (ha : Digs a) (na : Norm a) (hb : Digs b) (h : bv a ≤ bv b) : a.length ≤ b.length := by
  by_cases z : a = []
  · subst z
    simp
  · have g := norm_ge ha na z
    have l := bv_lt hb
    by_cases c : a.length ≤ b.length
    · exact c
    · have : (10000 : Int) ^ b.length ≤ 10000 ^ (a.length - 1) := by
        have := Nat.pow_le_pow_right (show 0 < 10000 by omega) (show b.length ≤ a.length - 1 by omega)
        have := Int.ofNat_le.mpr this
        rw [Int.natCast_pow, Int.natCast_pow] at this
        exact this
      omega

theorem gcd_loop : ∀ (m : Nat) {a b : List Int} {x y : Nat}, Digs a → Digs b → Norm b → a.length < 200000 → b.length < 200000 → bv a = x → bv b = y → y ≤ m →
    ∃ s, At (fun k => demurrageref02_Gcd.l0 k a b) s ∧ Digs s ∧ bv s = (x.gcd y : Nat) ∧ s.length < 200000 := by
  intro m
  induction m with
  | zero =>
    intro a b x y ha hb nb la lb ea eb hm
    have z : b = [] := by
      by_cases c : b = []
      · exact c
      · have := norm_pos hb nb c
        omega
    subst z
    obtain rfl : y = 0 := by omega
    refine ⟨a, At.succ (g := fun _ => some a) (fun k => ?_) ⟨0, fun _ _ => rfl⟩, ha, by rw [ea, Nat.gcd_zero_right], la⟩
    rw [demurrageref02_Gcd.l0, if_neg (by simp)]
  | succ m ih =>
    intro a b x y ha hb nb la lb ea eb hm
    by_cases z : b = []
    · subst z
      have y0 : (y : Int) = 0 := by rw [← eb]; rfl
      obtain rfl : y = 0 := by omega
      refine ⟨a, At.succ (g := fun _ => some a) (fun k => ?_) ⟨0, fun _ _ => rfl⟩, ha, by rw [ea, Nat.gcd_zero_right], la⟩
      rw [demurrageref02_Gcd.l0, if_neg (by simp)]
    · have p := norm_pos hb nb z
      obtain ⟨q, r, e1, e2, e3, e4, e5, e6, e7, e8, e9⟩ := quot_at ha hb (by omega) (by omega) p
      have er : bv r = ((x % y : Nat) : Int) := by rw [e9, ea, eb, Int.natCast_emod]
      have lt : x % y < y := Nat.mod_lt _ (by omega)
      have lr := norm_len e5 e6 hb (by omega)
      obtain ⟨s, s1, s2, s3, s4⟩ := ih (a := b) (b := r) (x := y) (y := x % y) hb e5 e6 lb (by omega) eb er (by omega)
      refine ⟨s, ?_, s2, by rw [s3, Nat.gcd_comm y, ← Nat.gcd_rec, Nat.gcd_comm], s4⟩
      refine At.succ (g := fun k => (demurrageref01_Quot.f k a b).bind fun t => demurrageref02_Gcd.l0 k b t.2) (fun k => ?_) (At.bind (g := fun k t => demurrageref02_Gcd.l0 k b t.2) e1 s1)
      have lz : 0 < b.length := List.length_pos_iff.mpr z
      rw [demurrageref02_Gcd.l0, if_pos (by omega)]

theorem gcd_at {a b : List Int} {x y : Nat} (ha : Digs a) (hb : Digs b) (nb : Norm b) (la : a.length < 200000) (lb : b.length < 200000) (ea : bv a = x) (eb : bv b = y) :
    ∃ s, At (fun k => demurrageref02_Gcd.f k a b) s ∧ Digs s ∧ bv s = (x.gcd y : Nat) ∧ s.length < 200000 := gcd_loop y ha hb nb la lb ea eb (Nat.le_refl _)

theorem hv_at_most {l : List Int} (h : Digs l) : ∀ i, hv l i ≤ bv l
  | 0 => by rw [hv_zero]; omega
  | i + 1 => by
    have s := hv_step l i
    have d := getD_digs h i
    have n := hv_nonneg h (i + 1)
    have := hv_at_most h i
    omega

theorem value_loop {l : List Int} (h : Digs l) (ll : l.length < 500000) (hm : bv l ≤ 4611686018427387904) : ∀ (i k : Nat), i ≤ l.length → i + 1 ≤ k → demurrageref02_value.l0 k (hv l i) ((i : Int) - 1) l = some (bv l) := by
  intro i
  induction i with
  | zero =>
    intro k _ hk
    obtain ⟨k, rfl⟩ : ∃ j, k = j + 1 := ⟨k - 1, by omega⟩
    rw [demurrageref02_value.l0, if_neg (by omega), hv_zero]
  | succ i ih =>
    intro k hi hk
    obtain ⟨k, rfl⟩ : ∃ j, k = j + 1 := ⟨k - 1, by omega⟩
    have s := hv_step l i
    have d := getD_digs h i
    have n := hv_nonneg h (i + 1)
    have le := hv_at_most h i
    have e : ((i + 1 : Nat) : Int) - 1 = (i : Int) := by omega
    have c : (i : Int) < (l.length : Int) := by omega
    have w1 : wrap64 (10000 * hv l (i + 1)) = 10000 * hv l (i + 1) := wrap64_small (by omega) (by omega)
    have w2 : wrap64 (10000 * hv l (i + 1) + l.getD i 0) = hv l i := by
      rw [wrap64_small (x := 10000 * hv l (i + 1) + l.getD i 0) (by clear w1; omega) (by clear w1; omega)]
      clear w1
      omega
    have w3 : wrap64 ((i : Int) - 1) = (i : Int) - 1 := wrap64_small (by clear w1 w2; omega) (by clear w1 w2; omega)
    rw [e, demurrageref02_value.l0, if_pos (Int.natCast_nonneg i), if_pos (Int.natCast_nonneg i), if_pos c, rd_nat, w1, w2, w3]
    clear w1 w2 w3
    exact ih k (by omega) (by omega)

theorem value_at {l : List Int} (h : Digs l) (ll : l.length < 500000) (hm : bv l ≤ 4611686018427387904) : At (fun k => demurrageref02_value.f k l) (bv l) := by
  refine ⟨l.length + 1, fun k hk => ?_⟩
  have w : wrap64 ((l.length : Int) - 1) = (l.length : Int) - 1 := wrap64_small (by omega) (by omega)
  show demurrageref02_value.l0 k 0 (wrap64 ((l.length : Int) - 1)) l = _
  rw [w]
  clear w
  have t := value_loop h ll hm l.length k (Nat.le_refl _) hk
  rw [hv_end (Nat.le_refl _)] at t
  exact t

theorem made_chain {n d s q1 r1 q2 r2 m : List Int} {c1 c2 : Int} {R : Int × Int × Int} (h1 : At (fun k => demurrageref02_Gcd.f k n d) s) (h2 : At (fun k => demurrageref01_Quot.f k n s) (q1, r1)) (h3 : At (fun k => demurrageref01_Quot.f k d s) (q2, r2))
    (h4 : At (fun k => demurrageref01_FromU.f k 4611686018427387904) m) (h5 : At (fun k => demurrageref01_Cmp.f k q1 m) c1) (h6 : At (fun k => demurrageref01_Cmp.f k q2 m) c2)
    (h7 : At (fun k => demurrageref02_Made.j0 k (decide (c1 > 0 ∨ c2 > 0)) q1 q2) R) : At (fun k => demurrageref02_Made.f k n d) R := by
  obtain ⟨K1, h1⟩ := h1
  obtain ⟨K2, h2⟩ := h2
  obtain ⟨K3, h3⟩ := h3
  obtain ⟨K4, h4⟩ := h4
  obtain ⟨K5, h5⟩ := h5
  obtain ⟨K6, h6⟩ := h6
  obtain ⟨K7, h7⟩ := h7
  refine ⟨K1 + K2 + K3 + K4 + K5 + K6 + K7, fun k hk => ?_⟩
  have h1 : demurrageref02_Gcd.f k n d = some s := h1 k (by omega)
  have h2 : demurrageref01_Quot.f k n s = some (q1, r1) := h2 k (by omega)
  have h3 : demurrageref01_Quot.f k d s = some (q2, r2) := h3 k (by omega)
  have h4 : demurrageref01_FromU.f k 4611686018427387904 = some m := h4 k (by omega)
  have h5 : demurrageref01_Cmp.f k q1 m = some c1 := h5 k (by omega)
  have h6 : demurrageref01_Cmp.f k q2 m = some c2 := h6 k (by omega)
  have h7 : demurrageref02_Made.j0 k (decide (c1 > 0 ∨ c2 > 0)) q1 q2 = some R := h7 k (by omega)
  show demurrageref02_Made.f k n d = some R
  unfold demurrageref02_Made.f
  rw [h1, Option.bind_some, h2, Option.bind_some, h3, Option.bind_some, h4, Option.bind_some]
  show ((demurrageref01_Cmp.f k q1 m).bind fun t4589 => (if t4589 > 0 then (demurrageref02_Made.j0 k true q1 q2) else ((demurrageref01_Cmp.f k q2 m).bind fun t4590 => (demurrageref02_Made.j0 k (decide (t4590 > 0)) q1 q2)))) = some R
  rw [h5, Option.bind_some]
  by_cases c : c1 > 0
  · rw [if_pos c]
    rw [decide_eq_true (Or.inl c)] at h7
    exact h7
  · rw [if_neg c, h6, Option.bind_some]
    have e : decide (c1 > 0 ∨ c2 > 0) = decide (c2 > 0) := by
      rw [decide_eq_decide]
      exact ⟨fun h => h.elim (fun x => absurd x c) id, Or.inr⟩
    rw [e] at h7
    exact h7

theorem bsg_most {x : Int} : bsg x 4611686018427387904 > 0 ↔ ¬ x ≤ 4611686018427387904 := by
  unfold bsg
  repeat' split
  all_goals omega

theorem made_at {n d : List Int} {x y : Nat} (dn : Digs n) (dd : Digs d) (nd : Norm d) (ln : n.length < 200000) (ld : d.length < 200000) (en : bv n = x) (ed : bv d = y) (y0 : 0 < y) :
    At (fun k => demurrageref02_Made.f k n d) (made (x / x.gcd y) (y / x.gcd y)) := by
  obtain ⟨s, s1, s2, s3, s4⟩ := gcd_at dn dd nd ln ld en ed
  have gp : 0 < x.gcd y := Nat.gcd_pos_of_pos_right x y0
  obtain ⟨q1, r1, e1, e2, e3, e4, e5, e6, e7, e8, e9⟩ := quot_at dn s2 (by omega) ln (by omega)
  obtain ⟨q2, r2, f1, f2, f3, f4, f5, f6, f7, f8, f9⟩ := quot_at dd s2 (by omega) ld (by omega)
  obtain ⟨m, m1, m2, m3, m4, m5⟩ := fromU_at (x := 4611686018427387904) ⟨by omega, by omega⟩
  have c1 := cmp_at e2 m2 (by omega) (by omega)
  have c2 := cmp_at f2 m2 (by omega) (by omega)
  rw [m3] at c1 c2
  have v1 : bv q1 = ((x / x.gcd y : Nat) : Int) := by rw [e8, en, s3, Int.natCast_ediv]
  have v2 : bv q2 = ((y / x.gcd y : Nat) : Int) := by rw [f8, ed, s3, Int.natCast_ediv]
  refine made_chain s1 e1 f1 m1 c1 c2 ?_
  rw [v1, v2]
  unfold made
  by_cases c : (((x / x.gcd y : Nat) : Int) ≤ 4611686018427387904 ∧ ((y / x.gcd y : Nat) : Int) ≤ 4611686018427387904)
  · rw [if_pos c, decide_eq_false (fun h => h.elim (fun h => bsg_most.mp h c.1) (fun h => bsg_most.mp h c.2))]
    obtain ⟨K1, g1⟩ := value_at e2 (by omega) (by rw [v1]; exact c.1)
    obtain ⟨K2, g2⟩ := value_at f2 (by omega) (by rw [v2]; exact c.2)
    refine ⟨K1 + K2 + 1, fun k hk => ?_⟩
    obtain ⟨j, rfl⟩ : ∃ j, k = j + 1 := ⟨k - 1, by omega⟩
    have g1 : demurrageref02_value.f j q1 = some (bv q1) := g1 j (by omega)
    have g2 : demurrageref02_value.f j q2 = some (bv q2) := g2 j (by omega)
    show demurrageref02_Made.j0 (j + 1) false q1 q2 = _
    rw [demurrageref02_Made.j0, if_neg (by decide), g1, Option.bind_some, g2, Option.bind_some, v1, v2]
  · rw [if_neg c, decide_eq_true]
    · refine ⟨1, fun k hk => ?_⟩
      obtain ⟨j, rfl⟩ : ∃ j, k = j + 1 := ⟨k - 1, by omega⟩
      show demurrageref02_Made.j0 (j + 1) true q1 q2 = _
      rw [demurrageref02_Made.j0, if_pos rfl]
    · rw [bsg_most, bsg_most]
      omega

end Go.Proofs.Ytcdbmmlnmefoeaa.X
