-- CUT by prune.py, a program of this session, to what the claim reaches (out of a text that the kit's printer, the session's programs or the session wrote)
import Derived.Test.YtcdbmmlnmefoeaaPRoundPartsTBigFour
set_option maxRecDepth 10000
namespace Go.Proofs.Ytcdbmmlnmefoeaa.X
open Go.RowKit Go.Proofs.YtcdbmmlnmefoeaaW.PrintWords Go.Proofs.YtcdbmmlnmefoeaaW.PrintLast

theorem bindP {α β : Type} (x : α) (f : α → Option β) : (some x).bind f = f x := by rw [Option.bind_some]
theorem bv_set : ∀ (l : List Int) (n : Nat) (v : Int), n < l.length → bv (l.set n v) = bv l + 10000 ^ n * (v - l.getD n 0)
  | [], n, v, h => by simp at h
  | d :: l, 0, v, _ => by
    simp [bv]
    omega
  | d :: l, n + 1, v, h => by
    have := bv_set l n v (by simpa using h)
    rw [List.set_cons_succ, bv, this, bv, Int.pow_succ, List.getD_cons_succ, Int.mul_comm (10000 ^ n) 10000, Int.mul_assoc]
    omega
theorem digs_set {l : List Int} (h : Digs l) (n : Nat) {v : Int} (hv : 0 ≤ v ∧ v < 10000) : Digs (l.set n v) := by
  intro d hd
  rcases List.mem_or_eq_of_mem_set hd with x | x
  · exact h d x
  · rw [x]; exact hv
theorem hv_set {l : List Int} {n i : Nat} {v : Int} (h : n < i) : hv (l.set n v) i = hv l i := by
  unfold hv
  rw [List.drop_set_of_lt h]
theorem hv_zero_digit {l : List Int} (h : Digs l) {i : Nat} (z : hv l i = 0) : l.getD i 0 = 0 ∧ hv l (i + 1) = 0 := by
  have s := hv_step l i
  have d := getD_digs h i
  have n := hv_nonneg h (i + 1)
  omega
theorem pow_pos10 (n : Nat) : (0 : Int) < 10000 ^ n := Int.pow_pos (by omega)
theorem bv_lt : ∀ {l : List Int}, Digs l → bv l < 10000 ^ l.length
  | [], _ => by simp [bv]
  | d :: l, h => by
    obtain ⟨h1, h2⟩ := digs_cons.mp h
    have := bv_lt h2
    rw [bv, List.length_cons, Int.pow_succ]
    omega
theorem bv_split (l : List Int) (n : Nat) : bv l = bv (l.take n) + 10000 ^ (l.take n).length * hv l n := by
  unfold hv
  rw [← bv_append, List.take_append_drop]
theorem hv_of_lt {l : List Int} (h : Digs l) {n : Nat} (hn : n ≤ l.length) (lt : bv l < 10000 ^ n) : hv l n = 0 := by
  have s := bv_split l n
  have e : (l.take n).length = n := by rw [List.length_take]; omega
  rw [e] at s
  have p := hv_nonneg h n
  have q := bv_nonneg (digs_take h n)
  rcases Int.lt_or_eq_of_le p with g | g
  · have : 10000 ^ n * 1 ≤ 10000 ^ n * hv l n := Int.mul_le_mul_of_nonneg_left (by omega) (by have := pow_pos10 n; omega)
    omega
  · exact g.symm

theorem prod_body {a b out : List Int} {i j : Nat} {c : Int} (ha : Digs a) (hb : Digs b) (ho : Digs out) (hc : 0 ≤ c ∧ c ≤ 9999) :
    0 ≤ out.getD (i + j) 0 + a.getD i 0 * b.getD j 0 + c ∧ out.getD (i + j) 0 + a.getD i 0 * b.getD j 0 + c ≤ 99999999 := by
  have d1 := getD_digs ha i
  have d2 := getD_digs hb j
  have d3 := getD_digs ho (i + j)
  have m0 : 0 ≤ a.getD i 0 * b.getD j 0 := Int.mul_nonneg d1.1 d2.1
  have m1 : a.getD i 0 * b.getD j 0 ≤ 9999 * 9999 := Int.mul_le_mul (by omega) (by omega) d2.1 (by omega)
  omega

theorem prod_step {a b out : List Int} {i j k : Nat} {c : Int} (ha : Digs a) (hb : Digs b) (ho : Digs out) (hc : 0 ≤ c ∧ c ≤ 9999) (hi : i < a.length) (hl : i + j < out.length) (hm : out.length < 4611686018427387900) (hj : j < 4611686018427387900) (go : j < b.length ∨ c > 0) :
    demurrageref01_Prod.l1 (k + 1) out (i : Int) c (j : Int) a b = demurrageref01_Prod.l1 k (out.set (i + j) ((out.getD (i + j) 0 + a.getD i 0 * b.getD j 0 + c) % 10000)) (i : Int) ((out.getD (i + j) 0 + a.getD i 0 * b.getD j 0 + c) / 10000) ((j + 1 : Nat) : Int) a b := by
  have d1 := getD_digs ha i
  have d2 := getD_digs hb j
  have d3 := getD_digs ho (i + j)
  obtain ⟨x0, x1⟩ := prod_body (i := i) (j := j) ha hb ho hc
  have m0 : 0 ≤ a.getD i 0 * b.getD j 0 := Int.mul_nonneg d1.1 d2.1
  have w0 : wrap64 ((i : Int) + (j : Int)) = ((i + j : Nat) : Int) := by
    rw [wrap64_small (x := (i : Int) + (j : Int)) (by omega) (by omega)]; omega
  have w1 : wrap64 (a.getD i 0 * b.getD j 0) = a.getD i 0 * b.getD j 0 := wrap64_small (by clear w0; omega) (by clear w0; omega)
  have w2 : wrap64 (out.getD (i + j) 0 + a.getD i 0 * b.getD j 0) = out.getD (i + j) 0 + a.getD i 0 * b.getD j 0 := wrap64_small (by clear w0 w1; omega) (by clear w0 w1; omega)
  have w3 : wrap64 (out.getD (i + j) 0 + a.getD i 0 * b.getD j 0 + c) = out.getD (i + j) 0 + a.getD i 0 * b.getD j 0 + c := wrap64_small (by clear w0 w1 w2; omega) (by clear w0 w1 w2; omega)
  have w4 : Int.tmod (out.getD (i + j) 0 + a.getD i 0 * b.getD j 0 + c) 10000 = (out.getD (i + j) 0 + a.getD i 0 * b.getD j 0 + c) % 10000 := Int.tmod_eq_emod_of_nonneg x0
  have w5 : Int.tdiv (out.getD (i + j) 0 + a.getD i 0 * b.getD j 0 + c) 10000 = (out.getD (i + j) 0 + a.getD i 0 * b.getD j 0 + c) / 10000 := Int.tdiv_eq_ediv_of_nonneg x0
  have w6 : wrap64 ((out.getD (i + j) 0 + a.getD i 0 * b.getD j 0 + c) / 10000) = (out.getD (i + j) 0 + a.getD i 0 * b.getD j 0 + c) / 10000 := wrap64_small (by clear w0 w1 w2 w3 w4 w5; omega) (by clear w0 w1 w2 w3 w4 w5; omega)
  have w7 : wrap64 ((j : Int) + 1) = ((j + 1 : Nat) : Int) := by
    rw [wrap64_small (x := (j : Int) + 1) (by clear w0 w1 w2 w3 w4 w5 w6; omega) (by clear w0 w1 w2 w3 w4 w5 w6; omega)]; clear w0 w1 w2 w3 w4 w5 w6; omega
  have c1 : 0 ≤ ((i + j : Nat) : Int) := Int.natCast_nonneg _
  have c2 : ((i + j : Nat) : Int) < (out.length : Int) := Int.ofNat_lt.mpr hl
  have c3 : 0 ≤ (i : Int) := Int.natCast_nonneg _
  have c4 : (i : Int) < (a.length : Int) := Int.ofNat_lt.mpr hi
  rw [demurrageref01_Prod.l1, w0, part_eq, rd_nat, rd_nat, Int.toNat_natCast]
  simp only [bindP, w1, w2, w3, w4, w5, w6, w7, if_pos c1, if_pos c2, if_pos c3, if_pos c4]
  clear w0 w1 w2 w3 w4 w5 w6 w7
  by_cases h1 : (j : Int) < (b.length : Int)
  · rw [if_pos h1]
  · rw [if_neg h1, if_pos (show c > 0 by omega)]
end Go.Proofs.Ytcdbmmlnmefoeaa.X
