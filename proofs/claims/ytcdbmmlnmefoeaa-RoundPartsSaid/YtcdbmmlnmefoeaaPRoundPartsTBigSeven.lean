-- CUT by prune.py, a program of this session, to what the claim reaches (out of a text that the kit's printer, the session's programs or the session wrote)
import Derived.Test.YtcdbmmlnmefoeaaPRoundPartsTBigSix
set_option maxRecDepth 10000
namespace Go.Proofs.Ytcdbmmlnmefoeaa.X
open Go.RowKit Go.Proofs.YtcdbmmlnmefoeaaW.PrintWords Go.Proofs.YtcdbmmlnmefoeaaW.PrintLast

theorem mul_lt_pow {x y : Int} {i n : Nat} (hx : 0 ≤ x) (h1 : x < 10000 ^ i) (h3 : y < 10000 ^ n) : x * y < 10000 ^ (i + n) := by
  rw [Int.pow_add]
  have p := pow_pos10 n
  have s1 : x * y ≤ x * 10000 ^ n := Int.mul_le_mul_of_nonneg_left (by omega) hx
  have s2 : x * 10000 ^ n < 10000 ^ i * 10000 ^ n := Int.mul_lt_mul_of_pos_right h1 p
  omega

theorem prod_loop {a b : List Int} (ha : Digs a) (hb : Digs b) (hm : a.length + b.length + 2 < 4611686018427387900) :
    ∀ (m i : Nat) (out : List Int), a.length = i + m → Digs out → out.length = a.length + b.length + 1 → bv out = bv (a.take i) * bv b →
    ∃ s, (∀ k, m * (b.length + 4) + 1 ≤ k → demurrageref01_Prod.l0 k out (i : Int) a b = (demurrageref01_trim.f s).bind fun t => some t) ∧ Digs s ∧ s.length = a.length + b.length + 1 ∧ bv s = bv a * bv b := by
  intro m
  induction m with
  | zero =>
    intro i out hi ho hl hv0
    refine ⟨out, ?_, ho, hl, by rw [hv0, List.take_of_length_le (by omega)]⟩
    intro k hk
    obtain ⟨k, rfl⟩ : ∃ j, k = j + 1 := ⟨k - 1, by omega⟩
    rw [demurrageref01_Prod.l0, if_neg (by omega)]
  | succ m ih =>
    intro i out hi ho hl hv0
    have d1 := getD_digs ha i
    have e1 : (a.take i).length = i := by rw [List.length_take]; omega
    have n1 := bv_nonneg (digs_take ha i)
    have n2 := bv_lt (digs_take ha i)
    rw [e1] at n2
    have n3 := bv_lt hb
    have z : hv out (i + b.length) = 0 := hv_of_lt ho (by omega) (by rw [hv0]; exact mul_lt_pow n1 n2 n3)
    obtain ⟨o2, t, e, ht, d2, l2, v2⟩ := prod_row ha hb (i := i) (by omega) (L := a.length + b.length + 1) (by omega) (by omega) b.length 0 out 0 (by omega) ho hl (by omega) z
    have v3 : bv o2 = bv (a.take (i + 1)) * bv b := by
      rw [v2, hv0, take_getD (by omega), bv_append, e1, hv_zero, Nat.add_zero, Int.zero_add, Int.add_mul]
      simp [bv, Int.mul_assoc]
    obtain ⟨s, e2, ds, ls, vs⟩ := ih (i + 1) o2 (by omega) d2 l2 v3
    refine ⟨s, ?_, ds, ls, vs⟩
    intro k hk
    have hk2 : (m + 1) * (b.length + 4) = m * (b.length + 4) + (b.length + 4) := Nat.succ_mul _ _
    obtain ⟨k, rfl⟩ : ∃ j, k = j + t + 1 := ⟨k - t - 1, by omega⟩
    rw [demurrageref01_Prod.l0, if_pos (by omega)]
    have := e k
    rw [show ((0 : Nat) : Int) = 0 from rfl] at this
    rw [this]
    exact e2 k (by omega)

theorem bv_zeros : ∀ n, bv (List.replicate n 0) = 0
  | 0 => rfl
  | n + 1 => by rw [List.replicate_succ, bv, bv_zeros n]; rfl
theorem digs_zeros (n : Nat) : Digs (List.replicate n 0) := by
  intro d hd
  rw [List.eq_of_mem_replicate hd]
  omega

theorem prod_at {a b : List Int} (ha : Digs a) (hb : Digs b) (la : a.length < 1000000) (lb : b.length < 1000000) : ∃ s, At (fun k => demurrageref01_Prod.f k a b) s ∧ Digs s ∧ bv s = bv a * bv b ∧ Norm s ∧ s.length ≤ a.length + b.length + 1 := by
  obtain ⟨s, e, ds, ls, vs⟩ := prod_loop ha hb (by omega) a.length 0 (List.replicate (a.length + b.length + 1) 0) (by omega) (digs_zeros _) (by simp) (by rw [bv_zeros]; simp [bv])
  obtain ⟨t, e2, dt, vt, nt, lt⟩ := trim_eq ds (by omega)
  refine ⟨t, ⟨a.length * (b.length + 4) + 1, fun k hk => ?_⟩, dt, by rw [vt, vs], nt, by omega⟩
  have h := e k hk
  rw [e2, Option.bind_some] at h
  have w1 : wrap64 ((a.length : Int) + (b.length : Int)) = (a.length : Int) + (b.length : Int) := wrap64_small (by omega) (by omega)
  have w2 : wrap64 ((a.length : Int) + (b.length : Int) + 1) = ((a.length + b.length + 1 : Nat) : Int) := by
    rw [wrap64_small (x := (a.length : Int) + (b.length : Int) + 1) (by clear w1; omega) (by clear w1; omega)]
    clear w1
    omega
  show demurrageref01_Prod.f k a b = some t
  unfold demurrageref01_Prod.f
  rw [w1, w2, Int.toNat_natCast]
  clear w1 w2
  rw [if_pos (Int.natCast_nonneg _), if_pos (by omega)]
  exact h
end Go.Proofs.Ytcdbmmlnmefoeaa.X
