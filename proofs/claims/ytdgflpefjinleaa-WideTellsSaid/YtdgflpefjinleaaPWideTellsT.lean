-- CUT by prune.py, a program of this session, to what the claim reaches (out of a text that the kit's printer, the session's programs or the session wrote)
import Derived.Test.YtdgflpefjinleaaPWideTellsXWCmp
import Derived.Test.YtdgflpefjinleaaPWideTellsXWMul
import Derived.Test.YtdgflpefjinleaaPWideTellsXSOne
import Derived.KernelRfl
import Derived.Test.YtdgflpefjinleaaPWideTellsXBig
import Derived.Test.YtdgflpefjinleaaPWideTellsHTrim
namespace Go.Proofs.Ytdgflpefjinleaa.X
open Go.RowKit Go.Proofs.YtdgflpefjinleaaW.PrintWords Go.Proofs.YtdgflpefjinleaaW.PrintLast

theorem u64_wf {a : Int} (h : (Lit.int .u64 a).wf = true) : U64 a := by
  simp only [Lit.wf, IntKind.min, IntKind.max, IntKind.signed, IntKind.bits, Bool.and_eq_true] at h
  simp at h
  exact ⟨h.1, by omega⟩

theorem mul_eq {a b : Int} (ha : U64 a) (hb : U64 b) : wide_Mul.f a b = some (a * b / 18446744073709551616, a * b % 18446744073709551616) := by
  unfold wide_Mul.f bits_Mul64.f
  rw [if_pos ⟨ha, hb⟩]
  rfl

theorem mul_lt {a b : Int} (ha : U64 a) (hb : U64 b) : 0 ≤ a * b ∧ a * b ≤ 340282366920938463426481119284349108225 := by
  obtain ⟨a1, a2⟩ := ha
  obtain ⟨b1, b2⟩ := hb
  refine ⟨Int.mul_nonneg a1 b1, ?_⟩
  have h1 : a * b ≤ 18446744073709551615 * b := Int.mul_le_mul_of_nonneg_right (by omega) b1
  omega

theorem compare_eq (a b : Int) : cmp_Compare_uint64.f a b = some (if a < b then -1 else if a = b then 0 else 1) := by
  unfold cmp_Compare_uint64.f cmp_isNaN_uint64.f
  simp only [bne_self_eq_false, Option.bind_some, Bool.false_eq_true, if_false]
  split
  · rfl
  · split
    · rw [if_neg (by omega)]
    · rw [if_pos (by omega)]

theorem wcmp_eq {h1 l1 h2 l2 : Int} (a1 : U64 h1) (a2 : U64 l1) (b1 : U64 h2) (b2 : U64 l2) : wide_Cmp.f h1 l1 h2 l2 = some (if wv h1 l1 < wv h2 l2 then -1 else if wv h1 l1 = wv h2 l2 then 0 else 1) := by
  unfold wide_Cmp.f
  simp only [compare_eq, Option.bind_some]
  obtain ⟨p1, p2⟩ := a1
  obtain ⟨p3, p4⟩ := a2
  obtain ⟨p5, p6⟩ := b1
  obtain ⟨p7, p8⟩ := b2
  unfold wv
  split
  · subst h1
    congr 1
    repeat' split
    all_goals omega
  · congr 1
    repeat' split
    all_goals omega

theorem of_eq (a : Int) : wide_Of.f a = some (0, a) := rfl

theorem add_eq {h1 l1 h2 l2 : Int} (a1 : U64 h1) (a2 : U64 l1) (b1 : U64 h2) (b2 : U64 l2) : wide_Add.f h1 l1 h2 l2 = some (if wv h1 l1 + wv h2 l2 < 340282366920938463463374607431768211456 then ((wv h1 l1 + wv h2 l2) / 18446744073709551616, (wv h1 l1 + wv h2 l2) % 18446744073709551616, 0) else (0, 0, 6)) := by
  unfold wide_Add.f
  rw [if_pos ⟨⟨a1, a2⟩, b1, b2⟩]
  split <;> rfl
theorem sub_eq {h1 l1 h2 l2 : Int} (a1 : U64 h1) (a2 : U64 l1) (b1 : U64 h2) (b2 : U64 l2) : wide_Sub.f h1 l1 h2 l2 = some (if wv h2 l2 ≤ wv h1 l1 then ((wv h1 l1 - wv h2 l2) / 18446744073709551616, (wv h1 l1 - wv h2 l2) % 18446744073709551616, 0) else (0, 0, 6)) := by
  unfold wide_Sub.f
  rw [if_pos ⟨⟨a1, a2⟩, b1, b2⟩]
  split <;> rfl

theorem times_eq {h l n : Int} (a1 : U64 h) (a2 : U64 l) (b : U64 n) : wide_Times.f h l n = some (if wv h l * n < 340282366920938463463374607431768211456 then (wv h l * n / 18446744073709551616, wv h l * n % 18446744073709551616, 0) else (0, 0, 6)) := by
  unfold wide_Times.f
  have m1 := mul_lt a1 b
  have m2 := mul_lt a2 b
  have e : wv h l * n = h * n * 18446744073709551616 + l * n := by unfold wv; rw [Int.add_mul, Int.mul_right_comm]
  rw [mul_eq a2 b, mul_eq a1 b, e]
  generalize h * n = p at m1
  generalize l * n = q at m2
  simp only [Option.bind_some]
  split
  · rename_i hz
    rw [add_eq ⟨by omega, by omega⟩ ⟨by omega, by omega⟩ ⟨by omega, by omega⟩ ⟨by omega, by omega⟩]
    have e2 : wv (q / 18446744073709551616) (q % 18446744073709551616) + wv (p % 18446744073709551616) 0 = p * 18446744073709551616 + q := by unfold wv; omega
    rw [e2]
    simp only [Option.bind_some]
  · rw [if_neg (by omega)]

/-- What a wide number's halves are. -/
theorem wv_parts {x : Int} (h0 : 0 ≤ x) (h1 : x < 340282366920938463463374607431768211456) : U64 (x / 18446744073709551616) ∧ U64 (x % 18446744073709551616) ∧ wv (x / 18446744073709551616) (x % 18446744073709551616) = x :=
  ⟨⟨by omega, by omega⟩, ⟨by omega, by omega⟩, by unfold wv; omega⟩
theorem wv_lt {h l : Int} (a1 : U64 h) (a2 : U64 l) : 0 ≤ wv h l ∧ wv h l < 340282366920938463463374607431768211456 := by
  obtain ⟨p1, p2⟩ := a1
  obtain ⟨p3, p4⟩ := a2
  unfold wv
  omega
end Go.Proofs.Ytdgflpefjinleaa.X

namespace Go.Proofs.Ytdgflpefjinleaa.X
theorem shown_one : demurragelaw01_shown.f = some true := by kernel_rfl
end Go.Proofs.Ytdgflpefjinleaa.X

set_option maxRecDepth 10000
namespace Go.Proofs.Ytdgflpefjinleaa.X
open Go.RowKit Go.Proofs.YtdgflpefjinleaaW.PrintWords Go.Proofs.YtdgflpefjinleaaW.PrintLast

/-- With rounds enough the answer is this one. -/
def At {α : Type} (f : Nat → Option α) (r : α) : Prop := ∃ K, ∀ k, K ≤ k → f k = some r
theorem At.bind {α β : Type} {f : Nat → Option α} {g : Nat → α → Option β} {a : α} {b : β} (h : At f a) (h2 : At (fun k => g k a) b) : At (fun k => (f k).bind (g k)) b := by
  obtain ⟨K, h⟩ := h
  obtain ⟨L, h2⟩ := h2
  refine ⟨max K L, fun k hk => ?_⟩
  show (f k).bind (g k) = some b
  rw [h k (by omega), Option.bind_some]
  exact h2 k (by omega)

/-- The number of a list of digits. -/
def bv : List Int → Int
  | [] => 0
  | d :: l => d + 10000 * bv l
/-- Digits, all of them, and none of the highest is 0. -/
def Digs (l : List Int) : Prop := ∀ d ∈ l, 0 ≤ d ∧ d < 10000
def Norm (l : List Int) : Prop := ∀ l' d, l = l' ++ [d] → d ≠ 0

theorem digs_cons {d : Int} {l : List Int} : Digs (d :: l) ↔ (0 ≤ d ∧ d < 10000) ∧ Digs l := by
  unfold Digs
  simp
theorem digs_nil : Digs [] := by
  intro d hd
  cases hd
theorem norm_nil : Norm [] := by
  intro l' d h
  simp at h
theorem bv_nonneg : ∀ {l : List Int}, Digs l → 0 ≤ bv l
  | [], _ => by simp [bv]
  | d :: l, h => by
    obtain ⟨h1, h2⟩ := digs_cons.mp h
    have := bv_nonneg h2
    unfold bv
    omega
theorem bv_append : ∀ (l m : List Int), bv (l ++ m) = bv l + 10000 ^ l.length * bv m
  | [], m => by simp [bv]
  | d :: l, m => by
    rw [List.cons_append, bv, bv_append l m, bv, List.length_cons, Int.pow_succ, Int.mul_add, Int.mul_comm (10000 ^ l.length) 10000, Int.mul_assoc]
    omega
theorem norm_cons {d : Int} {l : List Int} (h : Norm l) (hd : l = [] → d ≠ 0) : Norm (d :: l) := by
  intro l' e he
  cases l' with
  | nil =>
    simp at he
    obtain ⟨rfl, rfl⟩ := he
    exact hd rfl
  | cons x l' =>
    simp at he
    exact h l' e he.2

theorem fromU_loop : ∀ (m : Nat) (x : Int), 0 ≤ x → x ≤ 18446744073709551615 → x < 10000 ^ m →
    ∃ l, (∀ acc k, m + 1 ≤ k → acc.length + m < 17592186044416 → demurrageref01_FromU.l0 k x acc = some (acc ++ l)) ∧ Digs l ∧ bv l = x ∧ Norm l ∧ l.length ≤ m := by
  intro m
  induction m with
  | zero =>
    intro x h0 _ h1
    have : x = 0 := by simp at h1; omega
    subst this
    refine ⟨[], ?_, digs_nil, rfl, norm_nil, by simp⟩
    intro acc k hk _
    cases k with
    | zero => omega
    | succ k => rw [demurrageref01_FromU.l0, if_neg (by decide), List.append_nil]
  | succ m ih =>
    intro x h0 h2 h1
    by_cases hx : x = 0
    · subst hx
      refine ⟨[], ?_, digs_nil, rfl, norm_nil, by simp⟩
      intro acc k hk _
      cases k with
      | zero => omega
      | succ k => rw [demurrageref01_FromU.l0, if_neg (by decide), List.append_nil]
    · have p1 : x / 10000 < 10000 ^ m := by
        rw [Int.pow_succ] at h1
        exact Int.ediv_lt_of_lt_mul (by omega) h1
      obtain ⟨l, e, d, v, n, c⟩ := ih (x / 10000) (by omega) (by omega) p1
      refine ⟨x % 10000 :: l, ?_, digs_cons.mpr ⟨by omega, d⟩, ?_, norm_cons n ?_, by simp; omega⟩
      · intro acc k hk hl
        cases k with
        | zero => omega
        | succ k =>
          have w1 : IntKind.u64.wrap (Int.tdiv x 10000) = x / 10000 := IntWalk.u64_quo x 10000 ⟨h0, h2, by omega⟩
          have w2 : wrap64 (Int.tmod x 10000) = x % 10000 := by
            rw [Int.tmod_eq_emod_of_nonneg h0]
            exact IntWalk.wrap64_in (x % 10000) ⟨by omega, by omega⟩
          rw [demurrageref01_FromU.l0, if_pos (show x > 0 by clear w1 w2; omega), if_pos (show acc.length < 17592186044416 by clear w1 w2; omega), w1, w2]
          clear w1 w2
          rw [e (acc ++ [x % 10000]) k (by omega) (by simp; omega)]
          simp
      · rw [bv, v]; omega
      · intro hn
        rw [hn] at v
        simp [bv] at v
        omega

theorem fromU_at {x : Int} (h : U64 x) : ∃ l, At (fun k => demurrageref01_FromU.f k x) l ∧ Digs l ∧ bv l = x ∧ Norm l ∧ l.length ≤ 5 := by
  obtain ⟨h0, h1⟩ := h
  have hp : x < 10000 ^ 5 := by
    have : (10000 : Int) ^ 5 = 100000000000000000000 := by decide
    omega
  obtain ⟨l, e, d, v, n, c⟩ := fromU_loop 5 x h0 (by omega) hp
  refine ⟨l, ⟨6, fun k hk => ?_⟩, d, v, n, c⟩
  show demurrageref01_FromU.l0 k x [] = some l
  rw [e [] k hk (by simp), List.nil_append]
end Go.Proofs.Ytdgflpefjinleaa.X

set_option maxRecDepth 10000
namespace Go.Proofs.Ytdgflpefjinleaa.X
open Go.RowKit Go.Proofs.YtdgflpefjinleaaW.PrintWords Go.Proofs.YtdgflpefjinleaaW.PrintLast

theorem getD_digs {l : List Int} (h : Digs l) (i : Nat) : 0 ≤ l.getD i 0 ∧ l.getD i 0 < 10000 := by
  by_cases hi : i < l.length
  · rw [List.getD_eq_getElem?_getD, List.getElem?_eq_getElem hi]
    exact h _ (List.getElem_mem hi)
  · rw [List.getD_eq_getElem?_getD, List.getElem?_eq_none (by omega)]
    simp
/-- The number of what lies from digit i on. -/
def hv (l : List Int) (i : Nat) : Int := bv (l.drop i)
theorem hv_step : ∀ (l : List Int) (i : Nat), hv l i = l.getD i 0 + 10000 * hv l (i + 1)
  | [], i => by simp [hv, bv]
  | d :: l, 0 => by simp [hv, bv]
  | d :: l, i + 1 => by
    have := hv_step l i
    simpa [hv] using this
theorem hv_zero (l : List Int) : hv l 0 = bv l := by simp [hv]
theorem hv_end {l : List Int} {i : Nat} (h : l.length ≤ i) : hv l i = 0 := by
  unfold hv
  rw [List.drop_eq_nil_of_le h]
  rfl
/-- Who is less from a digit on is less. -/
theorem hv_less {a b : List Int} (ha : Digs a) (hb : Digs b) : ∀ (i : Nat), hv a i < hv b i → hv a 0 < hv b 0
  | 0, h => h
  | i + 1, h => by
    apply hv_less ha hb i
    rw [hv_step a i, hv_step b i]
    have := getD_digs ha i
    have := getD_digs hb i
    omega

theorem part_eq {l : List Int} {i : Nat} : demurrageref01_part.f l (i : Int) = some (l.getD i 0) := by
  unfold demurrageref01_part.f rd
  by_cases h : (i : Int) < (l.length : Int)
  · rw [if_pos h, if_pos (Int.natCast_nonneg i), Int.toNat_natCast]
  · rw [if_neg h, List.getD_eq_getElem?_getD, List.getElem?_eq_none (by omega)]
    rfl

/-- How two numbers lie to each other. -/
def bsg (x y : Int) : Int := if x < y then -1 else if x = y then 0 else 1

theorem cmp_loop {a b : List Int} (ha : Digs a) (hb : Digs b) : ∀ (i k : Nat), i + 1 ≤ k → (i : Int) < 9223372036854775807 → hv a i = hv b i → demurrageref01_Cmp.l0 k ((i : Int) - 1) a b = some (bsg (bv a) (bv b)) := by
  intro i
  induction i with
  | zero =>
    intro k hk _ h
    cases k with
    | zero => omega
    | succ k =>
      rw [demurrageref01_Cmp.l0, if_neg (by omega)]
      rw [hv_zero, hv_zero] at h
      unfold bsg
      rw [h, if_neg (by omega), if_pos rfl]
  | succ i ih =>
    intro k hk hm h
    cases k with
    | zero => omega
    | succ k =>
      have e : ((i + 1 : Nat) : Int) - 1 = (i : Int) := by omega
      rw [e, demurrageref01_Cmp.l0, if_pos (by omega), part_eq, part_eq]
      rw [Option.bind_some, Option.bind_some]
      have s1 := hv_step a i
      have s2 := hv_step b i
      by_cases h1 : a.getD i 0 < b.getD i 0
      · rw [if_pos h1]
        have := hv_less ha hb i (by omega)
        rw [hv_zero, hv_zero] at this
        unfold bsg
        rw [if_pos this]
      · rw [if_neg h1]
        by_cases h2 : a.getD i 0 > b.getD i 0
        · rw [if_pos h2]
          have := hv_less hb ha i (by omega)
          rw [hv_zero, hv_zero] at this
          unfold bsg
          rw [if_neg (by omega), if_neg (by omega)]
        · rw [if_neg h2, IntWalk.wrap64_in ((i : Int) - 1) ⟨by omega, by omega⟩]
          exact ih k (by omega) (by omega) (by omega)

theorem cmp_at {a b : List Int} (ha : Digs a) (hb : Digs b) (la : a.length < 9223372036854775807) (lb : b.length < 9223372036854775807) : At (fun k => demurrageref01_Cmp.f k a b) (bsg (bv a) (bv b)) := by
  refine ⟨a.length + b.length + 3, fun k hk => ?_⟩
  show demurrageref01_Cmp.f k a b = _
  unfold demurrageref01_Cmp.f
  cases k with
  | zero => omega
  | succ k =>
    by_cases h : (b.length : Int) > (a.length : Int)
    · rw [if_pos h, demurrageref01_Cmp.j0, IntWalk.wrap64_in ((b.length : Int) - 1) ⟨by omega, by omega⟩]
      exact cmp_loop ha hb b.length k (by omega) (by omega) (by rw [hv_end (by omega), hv_end (by omega)])
    · rw [if_neg h, demurrageref01_Cmp.j0, IntWalk.wrap64_in ((a.length : Int) - 1) ⟨by omega, by omega⟩]
      exact cmp_loop ha hb a.length k (by omega) (by omega) (by rw [hv_end (by omega), hv_end (by omega)])
end Go.Proofs.Ytdgflpefjinleaa.X

set_option maxRecDepth 10000
namespace Go.Proofs.Ytdgflpefjinleaa.X
open Go.RowKit Go.Proofs.YtdgflpefjinleaaW.PrintWords Go.Proofs.YtdgflpefjinleaaW.PrintLast

theorem wrap64_small {x : Int} (h0 : -9223372036854775808 ≤ x) (h1 : x ≤ 9223372036854775807) : wrap64 x = x := IntWalk.wrap64_in x ⟨h0, h1⟩

theorem plus_step {a b out : List Int} {i k : Nat} {c : Int} (ha : Digs a) (hb : Digs b) (hc : c = 0 ∨ c = 1) (hi : (i : Int) < 4611686018427387904) (go : i < a.length ∨ i < b.length ∨ c > 0) (ho : out.length < 17592186044416) :
    demurrageref01_Plus.l0 (k + 2) out c (i : Int) a b = demurrageref01_Plus.l0 k (out ++ [(a.getD i 0 + b.getD i 0 + c) % 10000]) ((a.getD i 0 + b.getD i 0 + c) / 10000) ((i + 1 : Nat) : Int) a b := by
  have d1 := getD_digs ha i
  have d2 := getD_digs hb i
  have e1 : wrap64 (a.getD i 0 + b.getD i 0) = a.getD i 0 + b.getD i 0 := wrap64_small (by omega) (by omega)
  have e2 : wrap64 (a.getD i 0 + b.getD i 0 + c) = a.getD i 0 + b.getD i 0 + c := wrap64_small (by clear e1; omega) (by clear e1; omega)
  have e3 : Int.tmod (a.getD i 0 + b.getD i 0 + c) 10000 = (a.getD i 0 + b.getD i 0 + c) % 10000 := Int.tmod_eq_emod_of_nonneg (by clear e1 e2; omega)
  have e4 : Int.tdiv (a.getD i 0 + b.getD i 0 + c) 10000 = (a.getD i 0 + b.getD i 0 + c) / 10000 := Int.tdiv_eq_ediv_of_nonneg (by clear e1 e2; omega)
  have e5 : wrap64 ((a.getD i 0 + b.getD i 0 + c) / 10000) = (a.getD i 0 + b.getD i 0 + c) / 10000 := wrap64_small (by clear e1 e2 e3 e4; omega) (by clear e1 e2 e3 e4; omega)
  have e6 : wrap64 ((i : Int) + 1) = ((i + 1 : Nat) : Int) := by
    rw [wrap64_small (by clear e1 e2 e3 e4 e5; omega) (by clear e1 e2 e3 e4 e5; omega)]; clear e1 e2 e3 e4 e5; omega
  have body : demurrageref01_Plus.j1 (k + 1) out c (i : Int) true a b = demurrageref01_Plus.l0 k (out ++ [(a.getD i 0 + b.getD i 0 + c) % 10000]) ((a.getD i 0 + b.getD i 0 + c) / 10000) ((i + 1 : Nat) : Int) a b := by
    rw [demurrageref01_Plus.j1, if_pos rfl, part_eq, Option.bind_some, part_eq, Option.bind_some, if_pos ho, e1, e2, e3, e4, e5, e6]
  clear e1 e2 e3 e4 e5 e6
  rw [demurrageref01_Plus.l0]
  by_cases h1 : (i : Int) < (a.length : Int)
  · rw [if_pos h1, body]
  · rw [if_neg h1]
    by_cases h2 : (i : Int) < (b.length : Int)
    · rw [if_pos h2, body]
    · rw [if_neg h2, show decide (c > 0) = true from decide_eq_true (by clear body; omega), body]

theorem plus_stop {a b out : List Int} {i k : Nat} (h1 : a.length ≤ i) (h2 : b.length ≤ i) : demurrageref01_Plus.l0 (k + 2) out 0 (i : Int) a b = some out := by
  rw [demurrageref01_Plus.l0, if_neg (by omega), if_neg (by omega), show decide ((0 : Int) > 0) = false from rfl, demurrageref01_Plus.j1, if_neg (by decide)]

theorem plus_loop {a b : List Int} (ha : Digs a) (hb : Digs b) : ∀ (m i : Nat) (c : Int), a.length ≤ i + m → b.length ≤ i + m → (c = 0 ∨ c = 1) → i + m < 4611686018427387900 →
    ∃ s, (∀ out k, 2 * m + 4 ≤ k → out.length + m + 1 < 17592186044416 → demurrageref01_Plus.l0 k out c (i : Int) a b = some (out ++ s)) ∧ Digs s ∧ bv s = hv a i + hv b i + c ∧ s.length ≤ m + 1 := by
  intro m
  induction m with
  | zero =>
    intro i c h1 h2 hc hi
    have z1 := hv_end (l := a) (i := i) (by omega)
    have z2 := hv_end (l := b) (i := i) (by omega)
    have y1 := hv_step a i
    have y2 := hv_step b i
    have z3 := hv_end (l := a) (i := i + 1) (by omega)
    have z4 := hv_end (l := b) (i := i + 1) (by omega)
    rcases hc with rfl | rfl
    · refine ⟨[], ?_, digs_nil, by rw [z1, z2]; rfl, by simp⟩
      intro out k hk _
      obtain ⟨k, rfl⟩ : ∃ j, k = j + 2 := ⟨k - 2, by omega⟩
      rw [plus_stop (by omega) (by omega), List.append_nil]
    · refine ⟨[1], ?_, ?_, by rw [z1, z2]; rfl, by simp⟩
      · intro out k hk ho
        obtain ⟨k, rfl⟩ : ∃ j, k = j + 2 + 2 := ⟨k - 4, by omega⟩
        have e : a.getD i 0 + b.getD i 0 + 1 = 1 := by omega
        rw [plus_step ha hb (Or.inr rfl) (by omega) (Or.inr (Or.inr (by omega))) (by omega), e]
        exact plus_stop (by omega) (by omega)
      · intro d hd
        simp at hd
        omega
  | succ m ih =>
    intro i c h1 h2 hc hi
    by_cases go : i < a.length ∨ i < b.length
    · have d1 := getD_digs ha i
      have d2 := getD_digs hb i
      have y1 := hv_step a i
      have y2 := hv_step b i
      obtain ⟨s, e, ds, v, l⟩ := ih (i + 1) ((a.getD i 0 + b.getD i 0 + c) / 10000) (by omega) (by omega) (by omega) (by omega)
      refine ⟨(a.getD i 0 + b.getD i 0 + c) % 10000 :: s, ?_, digs_cons.mpr ⟨by omega, ds⟩, by rw [bv, v]; omega, by simp; omega⟩
      intro out k hk ho
      obtain ⟨k, rfl⟩ : ∃ j, k = j + 2 := ⟨k - 2, by omega⟩
      rw [plus_step ha hb hc (by omega) (by omega) (by omega), e _ k (by omega) (by simp; omega)]
      simp
    · obtain ⟨s, e, ds, v, l⟩ : ∃ s, (∀ out k, 2 * m + 4 ≤ k → out.length + m + 1 < 17592186044416 → demurrageref01_Plus.l0 k out c (i : Int) a b = some (out ++ s)) ∧ Digs s ∧ bv s = hv a i + hv b i + c ∧ s.length ≤ m + 1 := ih i c (by omega) (by omega) hc (by omega)
      exact ⟨s, fun out k hk ho => e out k (by omega) (by omega), ds, v, by omega⟩

theorem plus_at {a b : List Int} (ha : Digs a) (hb : Digs b) (la : a.length < 1000000) (lb : b.length < 1000000) : ∃ s, At (fun k => demurrageref01_Plus.f k a b) s ∧ Digs s ∧ bv s = bv a + bv b ∧ s.length ≤ a.length + b.length + 1 := by
  obtain ⟨s, e, ds, v, l⟩ := plus_loop ha hb (a.length + b.length) 0 0 (by omega) (by omega) (Or.inl rfl) (by omega)
  refine ⟨s, ⟨2 * (a.length + b.length) + 4, fun k hk => ?_⟩, ds, ?_, l⟩
  · have := e [] k hk (by simp; omega)
    rw [List.nil_append] at this
    exact this
  · rw [v, hv_zero, hv_zero]
    omega
end Go.Proofs.Ytdgflpefjinleaa.X

set_option maxRecDepth 10000
namespace Go.Proofs.Ytdgflpefjinleaa.X
open Go.RowKit Go.Proofs.YtdgflpefjinleaaW.PrintWords Go.Proofs.YtdgflpefjinleaaW.PrintLast

theorem rd_nat (l : List Int) (n : Nat) : rd l (n : Int) = l.getD n 0 := by
  unfold rd
  rw [Int.toNat_natCast]
theorem take_getD {l : List Int} {n : Nat} (h : n < l.length) : l.take (n + 1) = l.take n ++ [l.getD n 0] := by
  rw [List.take_add_one, List.getD_eq_getElem?_getD, List.getElem?_eq_getElem h]
  rfl
theorem digs_take {l : List Int} (h : Digs l) (n : Nat) : Digs (l.take n) := fun d hd => h d (List.mem_of_mem_take hd)
theorem digs_drop {l : List Int} (h : Digs l) (n : Nat) : Digs (l.drop n) := fun d hd => h d (List.mem_of_mem_drop hd)
theorem hv_nonneg {l : List Int} (h : Digs l) (i : Nat) : 0 ≤ hv l i := bv_nonneg (digs_drop h i)

theorem trim_val (l : List Int) : ∀ n, n ≤ l.length → bv (l.take (trimN l n)) = bv (l.take n) ∧ Norm (l.take (trimN l n))
  | 0, _ => by
    refine ⟨rfl, ?_⟩
    simp [trimN]
    exact norm_nil
  | n + 1, h => by
    unfold trimN
    rw [rd_nat]
    by_cases h0 : l.getD n 0 = 0
    · rw [if_pos h0]
      obtain ⟨h1, h2⟩ := trim_val l n (by omega)
      refine ⟨?_, h2⟩
      rw [h1, take_getD (by omega), bv_append, h0]
      simp [bv]
    · rw [if_neg h0]
      refine ⟨rfl, ?_⟩
      intro l' d e
      rw [take_getD (by omega)] at e
      have := congrArg List.getLast? e
      simp at this
      rw [← this]
      simpa using h0

theorem trim_eq {l : List Int} (hd : Digs l) (hl : l.length < 17592186044416) : ∃ t, demurrageref01_trim.f l = some t ∧ Digs t ∧ bv t = bv l ∧ Norm t ∧ t.length ≤ l.length := by
  obtain ⟨h1, h2⟩ := trim_val l l.length (Nat.le_refl _)
  refine ⟨l.take (trimN l l.length), ?_, digs_take hd _, ?_, h2, ?_⟩
  · unfold demurrageref01_trim.f
    rw [if_pos hl]
  · rw [h1, List.take_length]
  · rw [List.length_take]
    omega

theorem less_loop {a b : List Int} (ha : Digs a) (hb : Digs b) : ∀ (m i : Nat) (c : Int), a.length = i + m → (c = 0 ∨ c = 1) → hv b i + c ≤ hv a i → i + m < 4611686018427387900 →
    ∃ s, (∀ out k, m + 1 ≤ k → out.length + m < 17592186044416 → demurrageref01_Less.l0 k out c (i : Int) a b = (demurrageref01_trim.f (out ++ s)).bind fun t => some t) ∧ Digs s ∧ bv s = hv a i - hv b i - c ∧ s.length = m := by
  intro m
  induction m with
  | zero =>
    intro i c h1 hc hle hi
    have z1 := hv_end (l := a) (i := i) (by omega)
    have z2 := hv_nonneg hb i
    refine ⟨[], ?_, digs_nil, by rw [bv]; omega, rfl⟩
    intro out k hk _
    obtain ⟨k, rfl⟩ : ∃ j, k = j + 1 := ⟨k - 1, by omega⟩
    rw [demurrageref01_Less.l0, if_neg (by omega), List.append_nil]
  | succ m ih =>
    intro i c h1 hc hle hi
    have d1 := getD_digs ha i
    have d2 := getD_digs hb i
    have y1 := hv_step a i
    have y2 := hv_step b i
    have w6 : wrap64 ((i : Int) + 1) = ((i + 1 : Nat) : Int) := wrap64_small (x := (i : Int) + 1) (by omega) (by omega)
    have w1 : wrap64 (a.getD i 0 - b.getD i 0) = a.getD i 0 - b.getD i 0 := wrap64_small (by clear w6; omega) (by clear w6; omega)
    have w2 : wrap64 (a.getD i 0 - b.getD i 0 - c) = a.getD i 0 - b.getD i 0 - c := wrap64_small (by clear w6 w1; omega) (by clear w6 w1; omega)
    have w3 : wrap64 (a.getD i 0 - b.getD i 0 - c + 10000) = a.getD i 0 - b.getD i 0 - c + 10000 := wrap64_small (by clear w6 w1 w2; omega) (by clear w6 w1 w2; omega)
    have step : ∀ out k, out.length < 17592186044416 → demurrageref01_Less.l0 (k + 1) out c (i : Int) a b =
        if a.getD i 0 - b.getD i 0 - c < 0 then demurrageref01_Less.l0 k (out ++ [a.getD i 0 - b.getD i 0 - c + 10000]) 1 ((i + 1 : Nat) : Int) a b else demurrageref01_Less.l0 k (out ++ [a.getD i 0 - b.getD i 0 - c]) 0 ((i + 1 : Nat) : Int) a b := by
      intro out k ho
      rw [demurrageref01_Less.l0, if_pos (show (i : Int) < (a.length : Int) by clear w1 w2 w3 w6; omega), part_eq, Option.bind_some, part_eq, Option.bind_some, w1, w2, w3, w6, if_pos ho, if_pos ho]
    clear w1 w2 w3 w6
    by_cases hx : a.getD i 0 - b.getD i 0 - c < 0
    · obtain ⟨s, e, ds, v, l⟩ := ih (i + 1) 1 (by omega) (Or.inr rfl) (by omega) (by omega)
      refine ⟨(a.getD i 0 - b.getD i 0 - c + 10000) :: s, ?_, digs_cons.mpr ⟨by omega, ds⟩, by rw [bv, v]; omega, by simp; omega⟩
      intro out k hk ho
      obtain ⟨k, rfl⟩ : ∃ j, k = j + 1 := ⟨k - 1, by omega⟩
      rw [step out k (by omega), if_pos hx, e _ k (by omega) (by simp; omega)]
      simp
    · obtain ⟨s, e, ds, v, l⟩ := ih (i + 1) 0 (by omega) (Or.inl rfl) (by omega) (by omega)
      refine ⟨(a.getD i 0 - b.getD i 0 - c) :: s, ?_, digs_cons.mpr ⟨by omega, ds⟩, by rw [bv, v]; omega, by simp; omega⟩
      intro out k hk ho
      obtain ⟨k, rfl⟩ : ∃ j, k = j + 1 := ⟨k - 1, by omega⟩
      rw [step out k (by omega), if_neg hx, e _ k (by omega) (by simp; omega)]
      simp

theorem less_at {a b : List Int} (ha : Digs a) (hb : Digs b) (la : a.length < 1000000) (h : bv b ≤ bv a) : ∃ s, At (fun k => demurrageref01_Less.f k a b) s ∧ Digs s ∧ bv s = bv a - bv b ∧ Norm s ∧ s.length ≤ a.length := by
  obtain ⟨s, e, ds, v, l⟩ := less_loop ha hb a.length 0 0 (by omega) (Or.inl rfl) (by rw [hv_zero, hv_zero]; omega) (by omega)
  obtain ⟨t, e2, dt, vt, nt, lt⟩ := trim_eq ds (by omega)
  refine ⟨t, ⟨a.length + 1, fun k hk => ?_⟩, dt, ?_, nt, by omega⟩
  · have := e [] k hk (by simp; omega)
    rw [List.nil_append, e2, Option.bind_some] at this
    exact this
  · rw [vt, v, hv_zero, hv_zero]
    omega
end Go.Proofs.Ytdgflpefjinleaa.X

set_option maxRecDepth 10000
namespace Go.Proofs.Ytdgflpefjinleaa.X
open Go.RowKit Go.Proofs.YtdgflpefjinleaaW.PrintWords Go.Proofs.YtdgflpefjinleaaW.PrintLast

theorem bindP {α β : Type} (x : α) (f : α → Option β) : (some x).bind f = f x := by rw [Option.bind_some]
theorem bv_set : ∀ (l : List Int) (n : Nat) (v : Int), n < l.length → bv (l.set n v) = bv l + 10000 ^ n * (v - l.getD n 0)
  | [], n, v, h => by simp at h
  | d :: l, 0, v, _ => by
    simp [bv]
    omega
  | d :: l, n + 1, v, h => by
    have := bv_set l n v (by simpa using h)
    rw [List.set_cons_succ, bv, this, bv, Int.pow_succ, List.getD_cons_succ, Int.mul_comm (10000 ^ n) 10000, Int.mul_assoc]
    omega
theorem digs_set {l : List Int} (h : Digs l) (n : Nat) {v : Int} (hv : 0 ≤ v ∧ v < 10000) : Digs (l.set n v) := by
  intro d hd
  rcases List.mem_or_eq_of_mem_set hd with x | x
  · exact h d x
  · rw [x]; exact hv
theorem hv_set {l : List Int} {n i : Nat} {v : Int} (h : n < i) : hv (l.set n v) i = hv l i := by
  unfold hv
  rw [List.drop_set_of_lt h]
theorem hv_zero_digit {l : List Int} (h : Digs l) {i : Nat} (z : hv l i = 0) : l.getD i 0 = 0 ∧ hv l (i + 1) = 0 := by
  have s := hv_step l i
  have d := getD_digs h i
  have n := hv_nonneg h (i + 1)
  omega
theorem pow_pos10 (n : Nat) : (0 : Int) < 10000 ^ n := Int.pow_pos (by omega)
theorem bv_lt : ∀ {l : List Int}, Digs l → bv l < 10000 ^ l.length
  | [], _ => by simp [bv]
  | d :: l, h => by
    obtain ⟨h1, h2⟩ := digs_cons.mp h
    have := bv_lt h2
    rw [bv, List.length_cons, Int.pow_succ]
    omega
theorem bv_split (l : List Int) (n : Nat) : bv l = bv (l.take n) + 10000 ^ (l.take n).length * hv l n := by
  unfold hv
  rw [← bv_append, List.take_append_drop]
theorem hv_of_lt {l : List Int} (h : Digs l) {n : Nat} (hn : n ≤ l.length) (lt : bv l < 10000 ^ n) : hv l n = 0 := by
  have s := bv_split l n
  have e : (l.take n).length = n := by rw [List.length_take]; omega
  rw [e] at s
  have p := hv_nonneg h n
  have q := bv_nonneg (digs_take h n)
  rcases Int.lt_or_eq_of_le p with g | g
  · have : 10000 ^ n * 1 ≤ 10000 ^ n * hv l n := Int.mul_le_mul_of_nonneg_left (by omega) (by have := pow_pos10 n; omega)
    omega
  · exact g.symm

theorem prod_body {a b out : List Int} {i j : Nat} {c : Int} (ha : Digs a) (hb : Digs b) (ho : Digs out) (hc : 0 ≤ c ∧ c ≤ 9999) :
    0 ≤ out.getD (i + j) 0 + a.getD i 0 * b.getD j 0 + c ∧ out.getD (i + j) 0 + a.getD i 0 * b.getD j 0 + c ≤ 99999999 := by
  have d1 := getD_digs ha i
  have d2 := getD_digs hb j
  have d3 := getD_digs ho (i + j)
  have m0 : 0 ≤ a.getD i 0 * b.getD j 0 := Int.mul_nonneg d1.1 d2.1
  have m1 : a.getD i 0 * b.getD j 0 ≤ 9999 * 9999 := Int.mul_le_mul (by omega) (by omega) d2.1 (by omega)
  omega

theorem prod_step {a b out : List Int} {i j k : Nat} {c : Int} (ha : Digs a) (hb : Digs b) (ho : Digs out) (hc : 0 ≤ c ∧ c ≤ 9999) (hi : i < a.length) (hl : i + j < out.length) (hm : out.length < 4611686018427387900) (hj : j < 4611686018427387900) (go : j < b.length ∨ c > 0) :
    demurrageref01_Prod.l1 (k + 1) out (i : Int) c (j : Int) a b = demurrageref01_Prod.l1 k (out.set (i + j) ((out.getD (i + j) 0 + a.getD i 0 * b.getD j 0 + c) % 10000)) (i : Int) ((out.getD (i + j) 0 + a.getD i 0 * b.getD j 0 + c) / 10000) ((j + 1 : Nat) : Int) a b := by
  have d1 := getD_digs ha i
  have d2 := getD_digs hb j
  have d3 := getD_digs ho (i + j)
  obtain ⟨x0, x1⟩ := prod_body (i := i) (j := j) ha hb ho hc
  have m0 : 0 ≤ a.getD i 0 * b.getD j 0 := Int.mul_nonneg d1.1 d2.1
  have w0 : wrap64 ((i : Int) + (j : Int)) = ((i + j : Nat) : Int) := by
    rw [wrap64_small (x := (i : Int) + (j : Int)) (by omega) (by omega)]; omega
  have w1 : wrap64 (a.getD i 0 * b.getD j 0) = a.getD i 0 * b.getD j 0 := wrap64_small (by clear w0; omega) (by clear w0; omega)
  have w2 : wrap64 (out.getD (i + j) 0 + a.getD i 0 * b.getD j 0) = out.getD (i + j) 0 + a.getD i 0 * b.getD j 0 := wrap64_small (by clear w0 w1; omega) (by clear w0 w1; omega)
  have w3 : wrap64 (out.getD (i + j) 0 + a.getD i 0 * b.getD j 0 + c) = out.getD (i + j) 0 + a.getD i 0 * b.getD j 0 + c := wrap64_small (by clear w0 w1 w2; omega) (by clear w0 w1 w2; omega)
  have w4 : Int.tmod (out.getD (i + j) 0 + a.getD i 0 * b.getD j 0 + c) 10000 = (out.getD (i + j) 0 + a.getD i 0 * b.getD j 0 + c) % 10000 := Int.tmod_eq_emod_of_nonneg x0
  have w5 : Int.tdiv (out.getD (i + j) 0 + a.getD i 0 * b.getD j 0 + c) 10000 = (out.getD (i + j) 0 + a.getD i 0 * b.getD j 0 + c) / 10000 := Int.tdiv_eq_ediv_of_nonneg x0
  have w6 : wrap64 ((out.getD (i + j) 0 + a.getD i 0 * b.getD j 0 + c) / 10000) = (out.getD (i + j) 0 + a.getD i 0 * b.getD j 0 + c) / 10000 := wrap64_small (by clear w0 w1 w2 w3 w4 w5; omega) (by clear w0 w1 w2 w3 w4 w5; omega)
  have w7 : wrap64 ((j : Int) + 1) = ((j + 1 : Nat) : Int) := by
    rw [wrap64_small (x := (j : Int) + 1) (by clear w0 w1 w2 w3 w4 w5 w6; omega) (by clear w0 w1 w2 w3 w4 w5 w6; omega)]; clear w0 w1 w2 w3 w4 w5 w6; omega
  have c1 : 0 ≤ ((i + j : Nat) : Int) := Int.natCast_nonneg _
  have c2 : ((i + j : Nat) : Int) < (out.length : Int) := Int.ofNat_lt.mpr hl
  have c3 : 0 ≤ (i : Int) := Int.natCast_nonneg _
  have c4 : (i : Int) < (a.length : Int) := Int.ofNat_lt.mpr hi
  rw [demurrageref01_Prod.l1, w0, part_eq, rd_nat, rd_nat, Int.toNat_natCast]
  simp only [bindP, w1, w2, w3, w4, w5, w6, w7, if_pos c1, if_pos c2, if_pos c3, if_pos c4]
  clear w0 w1 w2 w3 w4 w5 w6 w7
  by_cases h1 : (j : Int) < (b.length : Int)
  · rw [if_pos h1]
  · rw [if_neg h1, if_pos (show c > 0 by omega)]
end Go.Proofs.Ytdgflpefjinleaa.X

set_option maxRecDepth 10000
namespace Go.Proofs.Ytdgflpefjinleaa.X
open Go.RowKit Go.Proofs.YtdgflpefjinleaaW.PrintWords Go.Proofs.YtdgflpefjinleaaW.PrintLast

theorem prod_leave {a b out : List Int} {i j k : Nat} (hi : (i : Int) < 4611686018427387900) (h : b.length ≤ j) : demurrageref01_Prod.l1 (k + 1) out (i : Int) 0 (j : Int) a b = demurrageref01_Prod.l0 k out ((i + 1 : Nat) : Int) a b := by
  have w : wrap64 ((i : Int) + 1) = ((i + 1 : Nat) : Int) := by
    rw [wrap64_small (x := (i : Int) + 1) (by omega) (by omega)]; omega
  rw [demurrageref01_Prod.l1, w]
  clear w
  rw [if_neg (by omega), if_neg (by omega)]

theorem prod_value {a b out : List Int} {i j : Nat} {c x : Int} (hx : x = out.getD (i + j) 0 + a.getD i 0 * b.getD j 0 + c) (hl : i + j < out.length) :
    bv (out.set (i + j) (x % 10000)) + 10000 ^ (i + (j + 1)) * (x / 10000 + a.getD i 0 * hv b (j + 1)) = bv out + 10000 ^ (i + j) * (c + a.getD i 0 * hv b j) := by
  rw [bv_set _ _ _ hl, hv_step b j, ← Nat.add_assoc, Int.pow_succ, Int.mul_assoc, Int.add_assoc, ← Int.mul_add, Int.mul_add (a.getD i 0), ← Int.mul_assoc (a.getD i 0) 10000, Int.mul_comm (a.getD i 0) 10000, Int.mul_assoc 10000 (a.getD i 0)]
  congr 2
  omega

theorem prod_row {a b : List Int} (ha : Digs a) (hb : Digs b) {i : Nat} (hi : i < a.length) {L : Nat} (hL : i + b.length + 1 < L) (hm : L < 4611686018427387900) :
    ∀ (m j : Nat) (out : List Int) (c : Int), b.length = j + m → Digs out → out.length = L → 0 ≤ c ∧ c ≤ 9999 → hv out (i + b.length) = 0 →
    ∃ out' t, (∀ k, demurrageref01_Prod.l1 (k + t) out (i : Int) c (j : Int) a b = demurrageref01_Prod.l0 k out' ((i + 1 : Nat) : Int) a b) ∧ t ≤ m + 2 ∧ Digs out' ∧ out'.length = L ∧ bv out' = bv out + 10000 ^ (i + j) * (c + a.getD i 0 * hv b j) := by
  intro m
  induction m with
  | zero =>
    intro j out c hj ho hlen hc hz
    have zb := hv_end (l := b) (i := j) (by omega)
    have db : b.getD j 0 = 0 := by
      rw [List.getD_eq_getElem?_getD, List.getElem?_eq_none (by omega)]; rfl
    by_cases h0 : c = 0
    · subst h0
      refine ⟨out, 1, fun k => prod_leave (by omega) (by omega), by omega, ho, hlen, ?_⟩
      rw [zb]
      simp
    · have e : i + b.length = i + j := by omega
      rw [e] at hz
      obtain ⟨z1, z2⟩ := hv_zero_digit ho hz
      have x1 : out.getD (i + j) 0 + a.getD i 0 * b.getD j 0 + c = c := by rw [z1, db]; simp
      refine ⟨out.set (i + j) (c % 10000), 2, fun k => ?_, by omega, digs_set ho _ (by omega), by simpa using hlen, ?_⟩
      · rw [prod_step ha hb ho hc hi (by omega) (by omega) (by omega) (Or.inr (by omega)), x1]
        have : c / 10000 = 0 := by omega
        rw [this]
        exact prod_leave (by omega) (by omega)
      · rw [bv_set _ _ _ (by omega), z1, zb]
        have : c % 10000 = c := by omega
        rw [this]
        simp
  | succ m ih =>
    intro j out c hj ho hlen hc hz
    obtain ⟨x0, x1⟩ := prod_body (i := i) (j := j) ha hb ho hc
    have st := fun k => prod_step (k := k) ha hb ho hc hi (show i + j < out.length by omega) (by omega) (show j < 4611686018427387900 by omega) (Or.inl (by omega))
    have pv := prod_value (a := a) (b := b) (out := out) (i := i) (j := j) (c := c) rfl (by omega)
    generalize out.getD (i + j) 0 + a.getD i 0 * b.getD j 0 + c = x at *
    obtain ⟨o2, t, e, ht, do2, l2, v2⟩ := ih (j + 1) (out.set (i + j) (x % 10000)) (x / 10000) (by omega) (digs_set ho _ (by omega)) (by simpa using hlen) (by omega) (by rw [hv_set (by omega)]; exact hz)
    refine ⟨o2, t + 1, fun k => ?_, by omega, do2, l2, by rw [v2, pv]⟩
    rw [← Nat.add_assoc, st, e]
end Go.Proofs.Ytdgflpefjinleaa.X

set_option maxRecDepth 10000
namespace Go.Proofs.Ytdgflpefjinleaa.X
open Go.RowKit Go.Proofs.YtdgflpefjinleaaW.PrintWords Go.Proofs.YtdgflpefjinleaaW.PrintLast

theorem mul_lt_pow {x y : Int} {i n : Nat} (hx : 0 ≤ x) (h1 : x < 10000 ^ i) (h3 : y < 10000 ^ n) : x * y < 10000 ^ (i + n) := by
  rw [Int.pow_add]
  have p := pow_pos10 n
  have s1 : x * y ≤ x * 10000 ^ n := Int.mul_le_mul_of_nonneg_left (by omega) hx
  have s2 : x * 10000 ^ n < 10000 ^ i * 10000 ^ n := Int.mul_lt_mul_of_pos_right h1 p
  omega

theorem prod_loop {a b : List Int} (ha : Digs a) (hb : Digs b) (hm : a.length + b.length + 2 < 4611686018427387900) :
    ∀ (m i : Nat) (out : List Int), a.length = i + m → Digs out → out.length = a.length + b.length + 1 → bv out = bv (a.take i) * bv b →
    ∃ s, (∀ k, m * (b.length + 4) + 1 ≤ k → demurrageref01_Prod.l0 k out (i : Int) a b = (demurrageref01_trim.f s).bind fun t => some t) ∧ Digs s ∧ s.length = a.length + b.length + 1 ∧ bv s = bv a * bv b := by
  intro m
  induction m with
  | zero =>
    intro i out hi ho hl hv0
    refine ⟨out, ?_, ho, hl, by rw [hv0, List.take_of_length_le (by omega)]⟩
    intro k hk
    obtain ⟨k, rfl⟩ : ∃ j, k = j + 1 := ⟨k - 1, by omega⟩
    rw [demurrageref01_Prod.l0, if_neg (by omega)]
  | succ m ih =>
    intro i out hi ho hl hv0
    have d1 := getD_digs ha i
    have e1 : (a.take i).length = i := by rw [List.length_take]; omega
    have n1 := bv_nonneg (digs_take ha i)
    have n2 := bv_lt (digs_take ha i)
    rw [e1] at n2
    have n3 := bv_lt hb
    have z : hv out (i + b.length) = 0 := hv_of_lt ho (by omega) (by rw [hv0]; exact mul_lt_pow n1 n2 n3)
    obtain ⟨o2, t, e, ht, d2, l2, v2⟩ := prod_row ha hb (i := i) (by omega) (L := a.length + b.length + 1) (by omega) (by omega) b.length 0 out 0 (by omega) ho hl (by omega) z
    have v3 : bv o2 = bv (a.take (i + 1)) * bv b := by
      rw [v2, hv0, take_getD (by omega), bv_append, e1, hv_zero, Nat.add_zero, Int.zero_add, Int.add_mul]
      simp [bv, Int.mul_assoc]
    obtain ⟨s, e2, ds, ls, vs⟩ := ih (i + 1) o2 (by omega) d2 l2 v3
    refine ⟨s, ?_, ds, ls, vs⟩
    intro k hk
    have hk2 : (m + 1) * (b.length + 4) = m * (b.length + 4) + (b.length + 4) := Nat.succ_mul _ _
    obtain ⟨k, rfl⟩ : ∃ j, k = j + t + 1 := ⟨k - t - 1, by omega⟩
    rw [demurrageref01_Prod.l0, if_pos (by omega)]
    have := e k
    rw [show ((0 : Nat) : Int) = 0 from rfl] at this
    rw [this]
    exact e2 k (by omega)

theorem bv_zeros : ∀ n, bv (List.replicate n 0) = 0
  | 0 => rfl
  | n + 1 => by rw [List.replicate_succ, bv, bv_zeros n]; rfl
theorem digs_zeros (n : Nat) : Digs (List.replicate n 0) := by
  intro d hd
  rw [List.eq_of_mem_replicate hd]
  omega

theorem prod_at {a b : List Int} (ha : Digs a) (hb : Digs b) (la : a.length < 1000000) (lb : b.length < 1000000) : ∃ s, At (fun k => demurrageref01_Prod.f k a b) s ∧ Digs s ∧ bv s = bv a * bv b ∧ Norm s ∧ s.length ≤ a.length + b.length + 1 := by
  obtain ⟨s, e, ds, ls, vs⟩ := prod_loop ha hb (by omega) a.length 0 (List.replicate (a.length + b.length + 1) 0) (by omega) (digs_zeros _) (by simp) (by rw [bv_zeros]; simp [bv])
  obtain ⟨t, e2, dt, vt, nt, lt⟩ := trim_eq ds (by omega)
  refine ⟨t, ⟨a.length * (b.length + 4) + 1, fun k hk => ?_⟩, dt, by rw [vt, vs], nt, by omega⟩
  have h := e k hk
  rw [e2, Option.bind_some] at h
  have w1 : wrap64 ((a.length : Int) + (b.length : Int)) = (a.length : Int) + (b.length : Int) := wrap64_small (by omega) (by omega)
  have w2 : wrap64 ((a.length : Int) + (b.length : Int) + 1) = ((a.length + b.length + 1 : Nat) : Int) := by
    rw [wrap64_small (x := (a.length : Int) + (b.length : Int) + 1) (by clear w1; omega) (by clear w1; omega)]
    clear w1
    omega
  show demurrageref01_Prod.f k a b = some t
  unfold demurrageref01_Prod.f
  rw [w1, w2, Int.toNat_natCast]
  clear w1 w2
  rw [if_pos (Int.natCast_nonneg _), if_pos (by omega)]
  exact h
end Go.Proofs.Ytdgflpefjinleaa.X

set_option maxRecDepth 10000
namespace Go.Proofs.Ytdgflpefjinleaa.X
open Go.RowKit Go.Proofs.YtdgflpefjinleaaW.PrintWords Go.Proofs.YtdgflpefjinleaaW.PrintLast

theorem At.done {α : Type} {f : Nat → Option α} {a : α} (h : At f a) : At (fun k => (f k).bind fun t => some t) a := At.bind h ⟨0, fun _ _ => rfl⟩

theorem fromW_at {h l : Int} (a1 : U64 h) (a2 : U64 l) : ∃ s, At (fun k => demurrageref01_FromW.f k h l) s ∧ Digs s ∧ bv s = wv h l ∧ s.length < 100 := by
  obtain ⟨b, b1, b2, b3, b4, b5⟩ := fromU_at (x := 4294967296) ⟨by omega, by omega⟩
  obtain ⟨x, x1, x2, x3, x4, x5⟩ := fromU_at a1
  obtain ⟨y, y1, y2, y3, y4, y5⟩ := fromU_at a2
  obtain ⟨p, p1, p2, p3, p4, p5⟩ := prod_at x2 b2 (by omega) (by omega)
  obtain ⟨q, q1, q2, q3, q4, q5⟩ := prod_at p2 b2 (by omega) (by omega)
  obtain ⟨s, s1, s2, s3, s4⟩ := plus_at q2 y2 (by omega) (by omega)
  refine ⟨s, ?_, s2, ?_, by omega⟩
  · unfold demurrageref01_FromW.f
    exact At.bind b1 (At.bind x1 (At.bind p1 (At.bind q1 (At.bind y1 (At.done s1)))))
  · rw [s3, q3, p3, x3, b3, y3]
    unfold wv
    omega

theorem limit_at : ∃ s, At (fun k => demurrageref01_Limit.f k) s ∧ Digs s ∧ bv s = 340282366920938463463374607431768211456 ∧ s.length < 100 := by
  obtain ⟨b, b1, b2, b3, b4, b5⟩ := fromU_at (x := 4294967296) ⟨by omega, by omega⟩
  obtain ⟨p, p1, p2, p3, p4, p5⟩ := prod_at b2 b2 (by omega) (by omega)
  obtain ⟨q, q1, q2, q3, q4, q5⟩ := prod_at p2 p2 (by omega) (by omega)
  refine ⟨q, ?_, q2, ?_, by omega⟩
  · unfold demurrageref01_Limit.f
    exact At.bind b1 (At.bind p1 (At.bind p1 (At.done q1)))
  · rw [q3, p3, b3]
    omega

theorem is_at {h l : Int} {m : List Int} (a1 : U64 h) (a2 : U64 l) (dm : Digs m) (lm : m.length < 1000000) : At (fun k => demurrageref01_Is.f k h l m) (decide (wv h l = bv m)) := by
  obtain ⟨s, s1, s2, s3, s4⟩ := fromW_at a1 a2
  have c := cmp_at s2 dm (by omega) (by omega)
  have e : (bsg (bv s) (bv m) == 0) = decide (wv h l = bv m) := by
    rw [s3]
    unfold bsg
    rw [Bool.eq_iff_iff]
    simp
    repeat' split
    all_goals omega
  rw [← e]
  unfold demurrageref01_Is.f
  exact At.bind s1 (At.bind c ⟨0, fun _ _ => rfl⟩)
end Go.Proofs.Ytdgflpefjinleaa.X

