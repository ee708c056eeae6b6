-- cut by prune.py, a program of this session
import Derived.Test.YtlppmfffdjfekaaPPlainSoundXWCmp
import Derived.Test.YtlppmfffdjfekaaPPlainSoundXWMul
import Derived.Test.YtlppmfffdjfekaaPPlainSoundXBig
import Derived.Test.YtlppmfffdjfekaaPPlainSoundHTrim
import Derived.Test.YtlppmfffdjfekaaPPlainSoundXQuot
import Derived.Test.YtlppmfffdjfekaaPPlainSoundXRound
import Derived.Test.YtlppmfffdjfekaaPPlainSoundXRefThree
import Derived.Test.YtlppmfffdjfekaaPPlainSoundXRoundPart
import Derived.Test.YtlppmfffdjfekaaPPlainSoundXRefPart
import Derived.Test.YtlppmfffdjfekaaPPlainSoundXRefRight
import Derived.Test.YtlppmfffdjfekaaPPlainSoundXAccrue
import Derived.Test.YtlppmfffdjfekaaPPlainSoundXRefOf
import Derived.Test.YtlppmfffdjfekaaPPlainSoundHPlain
import Derived.Test.YtlppmfffdjfekaaPPlainSoundX0
import Derived.Test.YtlppmfffdjfekaaPPlainSoundXEq
import Derived.Test.YtlppmfffdjfekaaPPlainSoundXUsual
import Derived.Test.YtlppmfffdjfekaaPPlainSoundTRow
import Derived.Deep.Slices
namespace Go.Proofs.Ytlppmfffdjfekaa.X
open Go.RowKit Go.Proofs.YtlppmfffdjfekaaW.PrintWords Go.Proofs.YtlppmfffdjfekaaW.PrintLast

theorem u64_wf {a : Int} (h : (Lit.int .u64 a).wf = true) : U64 a := by
  simp only [Lit.wf, IntKind.min, IntKind.max, IntKind.signed, IntKind.bits, Bool.and_eq_true] at h
  simp at h
  exact ⟨h.1, by omega⟩

theorem mul_eq {a b : Int} (ha : U64 a) (hb : U64 b) : wide_Mul.f a b = some (a * b / 18446744073709551616, a * b % 18446744073709551616) := by
  unfold wide_Mul.f bits_Mul64.f
  rw [if_pos ⟨ha, hb⟩]
  rfl

theorem mul_lt {a b : Int} (ha : U64 a) (hb : U64 b) : 0 ≤ a * b ∧ a * b ≤ 340282366920938463426481119284349108225 := by
  obtain ⟨a1, a2⟩ := ha
  obtain ⟨b1, b2⟩ := hb
  refine ⟨Int.mul_nonneg a1 b1, ?_⟩
  have h1 : a * b ≤ 18446744073709551615 * b := Int.mul_le_mul_of_nonneg_right (by omega) b1
  omega

theorem compare_eq (a b : Int) : cmp_Compare_uint64.f a b = some (if a < b then -1 else if a = b then 0 else 1) := by
  unfold cmp_Compare_uint64.f cmp_isNaN_uint64.f
  simp only [bne_self_eq_false, Option.bind_some, Bool.false_eq_true, if_false]
  split
  · rfl
  · split
    · rw [if_neg (by omega)]
    · rw [if_pos (by omega)]

theorem wcmp_eq {h1 l1 h2 l2 : Int} (a1 : U64 h1) (a2 : U64 l1) (b1 : U64 h2) (b2 : U64 l2) : wide_Cmp.f h1 l1 h2 l2 = some (if wv h1 l1 < wv h2 l2 then -1 else if wv h1 l1 = wv h2 l2 then 0 else 1) := by
  unfold wide_Cmp.f
  simp only [compare_eq, Option.bind_some]
  obtain ⟨p1, p2⟩ := a1
  obtain ⟨p3, p4⟩ := a2
  obtain ⟨p5, p6⟩ := b1
  obtain ⟨p7, p8⟩ := b2
  unfold wv
  split
  · subst h1
    congr 1
    repeat' split
    all_goals omega
  · congr 1
    repeat' split
    all_goals omega

theorem of_eq (a : Int) : wide_Of.f a = some (0, a) := rfl

theorem add_eq {h1 l1 h2 l2 : Int} (a1 : U64 h1) (a2 : U64 l1) (b1 : U64 h2) (b2 : U64 l2) : wide_Add.f h1 l1 h2 l2 = some (if wv h1 l1 + wv h2 l2 < 340282366920938463463374607431768211456 then ((wv h1 l1 + wv h2 l2) / 18446744073709551616, (wv h1 l1 + wv h2 l2) % 18446744073709551616, 0) else (0, 0, 6)) := by
  unfold wide_Add.f
  rw [if_pos ⟨⟨a1, a2⟩, b1, b2⟩]
  split <;> rfl
theorem times_eq {h l n : Int} (a1 : U64 h) (a2 : U64 l) (b : U64 n) : wide_Times.f h l n = some (if wv h l * n < 340282366920938463463374607431768211456 then (wv h l * n / 18446744073709551616, wv h l * n % 18446744073709551616, 0) else (0, 0, 6)) := by
  unfold wide_Times.f
  have m1 := mul_lt a1 b
  have m2 := mul_lt a2 b
  have e : wv h l * n = h * n * 18446744073709551616 + l * n := by unfold wv; rw [Int.add_mul, Int.mul_right_comm]
  rw [mul_eq a2 b, mul_eq a1 b, e]
  generalize h * n = p at m1
  generalize l * n = q at m2
  simp only [Option.bind_some]
  split
  · rename_i hz
    rw [add_eq ⟨by omega, by omega⟩ ⟨by omega, by omega⟩ ⟨by omega, by omega⟩ ⟨by omega, by omega⟩]
    have e2 : wv (q / 18446744073709551616) (q % 18446744073709551616) + wv (p % 18446744073709551616) 0 = p * 18446744073709551616 + q := by unfold wv; omega
    rw [e2]
    simp only [Option.bind_some]
  · rw [if_neg (by omega)]

theorem div_eq {h l d : Int} (a1 : U64 h) (a2 : U64 l) (b : U64 d) (hd : d ≠ 0) : wide_Div.f h l d = some (wv h l / d / 18446744073709551616, wv h l / d % 18446744073709551616, wv h l % d, 0) := by
  unfold wide_Div.f
  rw [if_pos ⟨a1, a2, b⟩, if_neg hd]
  obtain ⟨p1, p2⟩ := a1
  obtain ⟨p3, p4⟩ := a2
  obtain ⟨p5, p6⟩ := b
  have e : wv h l = (h % d * 18446744073709551616 + l) + d * (h / d * 18446744073709551616) := by
    unfold wv
    have := Int.mul_ediv_add_emod h d
    conv => lhs; rw [← this]
    rw [Int.add_mul, Int.mul_assoc]
    omega
  have m1 := Int.emod_nonneg h hd
  have m2 := Int.emod_lt_of_pos h (show 0 < d by omega)
  have q1 : 0 ≤ (h % d * 18446744073709551616 + l) / d := Int.ediv_nonneg (by omega) p5
  have q2 : (h % d * 18446744073709551616 + l) / d < 18446744073709551616 := by
    refine Int.ediv_lt_of_lt_mul (by omega) ?_
    omega
  rw [e, Int.add_mul_ediv_left _ _ hd, Int.add_mul_emod_self_left]
  generalize (h % d * 18446744073709551616 + l) / d = q at q1 q2
  generalize (h % d * 18446744073709551616 + l) % d = r
  have e1 : (q + h / d * 18446744073709551616) / 18446744073709551616 = h / d := by omega
  have e2 : (q + h / d * 18446744073709551616) % 18446744073709551616 = q := by omega
  rw [e1, e2]
/-- What a wide number's halves are. -/
theorem wv_parts {x : Int} (h0 : 0 ≤ x) (h1 : x < 340282366920938463463374607431768211456) : U64 (x / 18446744073709551616) ∧ U64 (x % 18446744073709551616) ∧ wv (x / 18446744073709551616) (x % 18446744073709551616) = x :=
  ⟨⟨by omega, by omega⟩, ⟨by omega, by omega⟩, by unfold wv; omega⟩
theorem wv_lt {h l : Int} (a1 : U64 h) (a2 : U64 l) : 0 ≤ wv h l ∧ wv h l < 340282366920938463463374607431768211456 := by
  obtain ⟨p1, p2⟩ := a1
  obtain ⟨p3, p4⟩ := a2
  unfold wv
  omega
end Go.Proofs.Ytlppmfffdjfekaa.X

set_option maxRecDepth 10000
namespace Go.Proofs.Ytlppmfffdjfekaa.X
open Go.RowKit Go.Proofs.YtlppmfffdjfekaaW.PrintWords Go.Proofs.YtlppmfffdjfekaaW.PrintLast

/-- With rounds enough the answer is this one. -/
def At {α : Type} (f : Nat → Option α) (r : α) : Prop := ∃ K, ∀ k, K ≤ k → f k = some r
theorem At.bind {α β : Type} {f : Nat → Option α} {g : Nat → α → Option β} {a : α} {b : β} (h : At f a) (h2 : At (fun k => g k a) b) : At (fun k => (f k).bind (g k)) b := by
  obtain ⟨K, h⟩ := h
  obtain ⟨L, h2⟩ := h2
  refine ⟨max K L, fun k hk => ?_⟩
  show (f k).bind (g k) = some b
  rw [h k (by omega), Option.bind_some]
  exact h2 k (by omega)

/-- The number of a list of digits. -/
def bv : List Int → Int
  | [] => 0
  | d :: l => d + 10000 * bv l
/-- Digits, all of them, and none of the highest is 0. -/
def Digs (l : List Int) : Prop := ∀ d ∈ l, 0 ≤ d ∧ d < 10000
def Norm (l : List Int) : Prop := ∀ l' d, l = l' ++ [d] → d ≠ 0

theorem digs_cons {d : Int} {l : List Int} : Digs (d :: l) ↔ (0 ≤ d ∧ d < 10000) ∧ Digs l := by
  unfold Digs
  simp
theorem digs_nil : Digs [] := by
  intro d hd
  cases hd
theorem norm_nil : Norm [] := by
  intro l' d h
  simp at h
theorem bv_nonneg : ∀ {l : List Int}, Digs l → 0 ≤ bv l
  | [], _ => by simp [bv]
  | d :: l, h => by
    obtain ⟨h1, h2⟩ := digs_cons.mp h
    have := bv_nonneg h2
    unfold bv
    omega
theorem bv_append : ∀ (l m : List Int), bv (l ++ m) = bv l + 10000 ^ l.length * bv m
  | [], m => by simp [bv]
  | d :: l, m => by
    rw [List.cons_append, bv, bv_append l m, bv, List.length_cons, Int.pow_succ, Int.mul_add, Int.mul_comm (10000 ^ l.length) 10000, Int.mul_assoc]
    omega
theorem norm_cons {d : Int} {l : List Int} (h : Norm l) (hd : l = [] → d ≠ 0) : Norm (d :: l) := by
  intro l' e he
  cases l' with
  | nil =>
    simp at he
    obtain ⟨rfl, rfl⟩ := he
    exact hd rfl
  | cons x l' =>
    simp at he
    exact h l' e he.2

theorem fromU_loop : ∀ (m : Nat) (x : Int), 0 ≤ x → x ≤ 18446744073709551615 → x < 10000 ^ m →
    ∃ l, (∀ acc k, m + 1 ≤ k → acc.length + m < 17592186044416 → demurrageref01_FromU.l0 k x acc = some (acc ++ l)) ∧ Digs l ∧ bv l = x ∧ Norm l ∧ l.length ≤ m := by
  intro m
  induction m with
  | zero =>
    intro x h0 _ h1
    have : x = 0 := by simp at h1; omega
    subst this
    refine ⟨[], ?_, digs_nil, rfl, norm_nil, by simp⟩
    intro acc k hk _
    cases k with
    | zero => omega
    | succ k => rw [demurrageref01_FromU.l0, if_neg (by decide), List.append_nil]
  | succ m ih =>
    intro x h0 h2 h1
    by_cases hx : x = 0
    · subst hx
      refine ⟨[], ?_, digs_nil, rfl, norm_nil, by simp⟩
      intro acc k hk _
      cases k with
      | zero => omega
      | succ k => rw [demurrageref01_FromU.l0, if_neg (by decide), List.append_nil]
    · have p1 : x / 10000 < 10000 ^ m := by
        rw [Int.pow_succ] at h1
        exact Int.ediv_lt_of_lt_mul (by omega) h1
      obtain ⟨l, e, d, v, n, c⟩ := ih (x / 10000) (by omega) (by omega) p1
      refine ⟨x % 10000 :: l, ?_, digs_cons.mpr ⟨by omega, d⟩, ?_, norm_cons n ?_, by simp; omega⟩
      · intro acc k hk hl
        cases k with
        | zero => omega
        | succ k =>
          have w1 : IntKind.u64.wrap (Int.tdiv x 10000) = x / 10000 := IntWalk.u64_quo x 10000 ⟨h0, h2, by omega⟩
          have w2 : wrap64 (Int.tmod x 10000) = x % 10000 := by
            rw [Int.tmod_eq_emod_of_nonneg h0]
            exact IntWalk.wrap64_in (x % 10000) ⟨by omega, by omega⟩
          rw [demurrageref01_FromU.l0, if_pos (show x > 0 by clear w1 w2; omega), if_pos (show acc.length < 17592186044416 by clear w1 w2; omega), w1, w2]
          clear w1 w2
          rw [e (acc ++ [x % 10000]) k (by omega) (by simp; omega)]
          simp
      · rw [bv, v]; omega
      · intro hn
        rw [hn] at v
        simp [bv] at v
        omega

theorem fromU_at {x : Int} (h : U64 x) : ∃ l, At (fun k => demurrageref01_FromU.f k x) l ∧ Digs l ∧ bv l = x ∧ Norm l ∧ l.length ≤ 5 := by
  obtain ⟨h0, h1⟩ := h
  have hp : x < 10000 ^ 5 := by
    have : (10000 : Int) ^ 5 = 100000000000000000000 := by decide
    omega
  obtain ⟨l, e, d, v, n, c⟩ := fromU_loop 5 x h0 (by omega) hp
  refine ⟨l, ⟨6, fun k hk => ?_⟩, d, v, n, c⟩
  show demurrageref01_FromU.l0 k x [] = some l
  rw [e [] k hk (by simp), List.nil_append]
end Go.Proofs.Ytlppmfffdjfekaa.X

set_option maxRecDepth 10000
namespace Go.Proofs.Ytlppmfffdjfekaa.X
open Go.RowKit Go.Proofs.YtlppmfffdjfekaaW.PrintWords Go.Proofs.YtlppmfffdjfekaaW.PrintLast

theorem getD_digs {l : List Int} (h : Digs l) (i : Nat) : 0 ≤ l.getD i 0 ∧ l.getD i 0 < 10000 := by
  by_cases hi : i < l.length
  · rw [List.getD_eq_getElem?_getD, List.getElem?_eq_getElem hi]
    exact h _ (List.getElem_mem hi)
  · rw [List.getD_eq_getElem?_getD, List.getElem?_eq_none (by omega)]
    simp
/-- The number of what lies from digit i on. -/
def hv (l : List Int) (i : Nat) : Int := bv (l.drop i)
theorem hv_step : ∀ (l : List Int) (i : Nat), hv l i = l.getD i 0 + 10000 * hv l (i + 1)
  | [], i => by simp [hv, bv]
  | d :: l, 0 => by simp [hv, bv]
  | d :: l, i + 1 => by
    have := hv_step l i
    simpa [hv] using this
theorem hv_zero (l : List Int) : hv l 0 = bv l := by simp [hv]
theorem hv_end {l : List Int} {i : Nat} (h : l.length ≤ i) : hv l i = 0 := by
  unfold hv
  rw [List.drop_eq_nil_of_le h]
  rfl
/-- Who is less from a digit on is less. -/
theorem hv_less {a b : List Int} (ha : Digs a) (hb : Digs b) : ∀ (i : Nat), hv a i < hv b i → hv a 0 < hv b 0
  | 0, h => h
  | i + 1, h => by
    apply hv_less ha hb i
    rw [hv_step a i, hv_step b i]
    have := getD_digs ha i
    have := getD_digs hb i
    omega

theorem part_eq {l : List Int} {i : Nat} : demurrageref01_part.f l (i : Int) = some (l.getD i 0) := by
  unfold demurrageref01_part.f rd
  by_cases h : (i : Int) < (l.length : Int)
  · rw [if_pos h, if_pos (Int.natCast_nonneg i), Int.toNat_natCast]
  · rw [if_neg h, List.getD_eq_getElem?_getD, List.getElem?_eq_none (by omega)]
    rfl

/-- How two numbers lie to each other. -/
def bsg (x y : Int) : Int := if x < y then -1 else if x = y then 0 else 1

theorem cmp_loop {a b : List Int} (ha : Digs a) (hb : Digs b) : ∀ (i k : Nat), i + 1 ≤ k → (i : Int) < 9223372036854775807 → hv a i = hv b i → demurrageref01_Cmp.l0 k ((i : Int) - 1) a b = some (bsg (bv a) (bv b)) := by
  intro i
  induction i with
  | zero =>
    intro k hk _ h
    cases k with
    | zero => omega
    | succ k =>
      rw [demurrageref01_Cmp.l0, if_neg (by omega)]
      rw [hv_zero, hv_zero] at h
      unfold bsg
      rw [h, if_neg (by omega), if_pos rfl]
  | succ i ih =>
    intro k hk hm h
    cases k with
    | zero => omega
    | succ k =>
      have e : ((i + 1 : Nat) : Int) - 1 = (i : Int) := by omega
      rw [e, demurrageref01_Cmp.l0, if_pos (by omega), part_eq, part_eq]
      rw [Option.bind_some, Option.bind_some]
      have s1 := hv_step a i
      have s2 := hv_step b i
      by_cases h1 : a.getD i 0 < b.getD i 0
      · rw [if_pos h1]
        have := hv_less ha hb i (by omega)
        rw [hv_zero, hv_zero] at this
        unfold bsg
        rw [if_pos this]
      · rw [if_neg h1]
        by_cases h2 : a.getD i 0 > b.getD i 0
        · rw [if_pos h2]
          have := hv_less hb ha i (by omega)
          rw [hv_zero, hv_zero] at this
          unfold bsg
          rw [if_neg (by omega), if_neg (by omega)]
        · rw [if_neg h2, IntWalk.wrap64_in ((i : Int) - 1) ⟨by omega, by omega⟩]
          exact ih k (by omega) (by omega) (by omega)

theorem cmp_at {a b : List Int} (ha : Digs a) (hb : Digs b) (la : a.length < 9223372036854775807) (lb : b.length < 9223372036854775807) : At (fun k => demurrageref01_Cmp.f k a b) (bsg (bv a) (bv b)) := by
  refine ⟨a.length + b.length + 3, fun k hk => ?_⟩
  show demurrageref01_Cmp.f k a b = _
  unfold demurrageref01_Cmp.f
  cases k with
  | zero => omega
  | succ k =>
    by_cases h : (b.length : Int) > (a.length : Int)
    · rw [if_pos h, demurrageref01_Cmp.j0, IntWalk.wrap64_in ((b.length : Int) - 1) ⟨by omega, by omega⟩]
      exact cmp_loop ha hb b.length k (by omega) (by omega) (by rw [hv_end (by omega), hv_end (by omega)])
    · rw [if_neg h, demurrageref01_Cmp.j0, IntWalk.wrap64_in ((a.length : Int) - 1) ⟨by omega, by omega⟩]
      exact cmp_loop ha hb a.length k (by omega) (by omega) (by rw [hv_end (by omega), hv_end (by omega)])
end Go.Proofs.Ytlppmfffdjfekaa.X

set_option maxRecDepth 10000
namespace Go.Proofs.Ytlppmfffdjfekaa.X
open Go.RowKit Go.Proofs.YtlppmfffdjfekaaW.PrintWords Go.Proofs.YtlppmfffdjfekaaW.PrintLast

theorem wrap64_small {x : Int} (h0 : -9223372036854775808 ≤ x) (h1 : x ≤ 9223372036854775807) : wrap64 x = x := IntWalk.wrap64_in x ⟨h0, h1⟩

theorem plus_step {a b out : List Int} {i k : Nat} {c : Int} (ha : Digs a) (hb : Digs b) (hc : c = 0 ∨ c = 1) (hi : (i : Int) < 4611686018427387904) (go : i < a.length ∨ i < b.length ∨ c > 0) (ho : out.length < 17592186044416) :
    demurrageref01_Plus.l0 (k + 2) out c (i : Int) a b = demurrageref01_Plus.l0 k (out ++ [(a.getD i 0 + b.getD i 0 + c) % 10000]) ((a.getD i 0 + b.getD i 0 + c) / 10000) ((i + 1 : Nat) : Int) a b := by
  have d1 := getD_digs ha i
  have d2 := getD_digs hb i
  have e1 : wrap64 (a.getD i 0 + b.getD i 0) = a.getD i 0 + b.getD i 0 := wrap64_small (by omega) (by omega)
  have e2 : wrap64 (a.getD i 0 + b.getD i 0 + c) = a.getD i 0 + b.getD i 0 + c := wrap64_small (by clear e1; omega) (by clear e1; omega)
  have e3 : Int.tmod (a.getD i 0 + b.getD i 0 + c) 10000 = (a.getD i 0 + b.getD i 0 + c) % 10000 := Int.tmod_eq_emod_of_nonneg (by clear e1 e2; omega)
  have e4 : Int.tdiv (a.getD i 0 + b.getD i 0 + c) 10000 = (a.getD i 0 + b.getD i 0 + c) / 10000 := Int.tdiv_eq_ediv_of_nonneg (by clear e1 e2; omega)
  have e5 : wrap64 ((a.getD i 0 + b.getD i 0 + c) / 10000) = (a.getD i 0 + b.getD i 0 + c) / 10000 := wrap64_small (by clear e1 e2 e3 e4; omega) (by clear e1 e2 e3 e4; omega)
  have e6 : wrap64 ((i : Int) + 1) = ((i + 1 : Nat) : Int) := by
    rw [wrap64_small (by clear e1 e2 e3 e4 e5; omega) (by clear e1 e2 e3 e4 e5; omega)]; clear e1 e2 e3 e4 e5; omega
  have body : demurrageref01_Plus.j1 (k + 1) out c (i : Int) true a b = demurrageref01_Plus.l0 k (out ++ [(a.getD i 0 + b.getD i 0 + c) % 10000]) ((a.getD i 0 + b.getD i 0 + c) / 10000) ((i + 1 : Nat) : Int) a b := by
    rw [demurrageref01_Plus.j1, if_pos rfl, part_eq, Option.bind_some, part_eq, Option.bind_some, if_pos ho, e1, e2, e3, e4, e5, e6]
  clear e1 e2 e3 e4 e5 e6
  rw [demurrageref01_Plus.l0]
  by_cases h1 : (i : Int) < (a.length : Int)
  · rw [if_pos h1, body]
  · rw [if_neg h1]
    by_cases h2 : (i : Int) < (b.length : Int)
    · rw [if_pos h2, body]
    · rw [if_neg h2, show decide (c > 0) = true from decide_eq_true (by clear body; omega), body]

theorem plus_stop {a b out : List Int} {i k : Nat} (h1 : a.length ≤ i) (h2 : b.length ≤ i) : demurrageref01_Plus.l0 (k + 2) out 0 (i : Int) a b = some out := by
  rw [demurrageref01_Plus.l0, if_neg (by omega), if_neg (by omega), show decide ((0 : Int) > 0) = false from rfl, demurrageref01_Plus.j1, if_neg (by decide)]

theorem plus_loop {a b : List Int} (ha : Digs a) (hb : Digs b) : ∀ (m i : Nat) (c : Int), a.length ≤ i + m → b.length ≤ i + m → (c = 0 ∨ c = 1) → i + m < 4611686018427387900 →
    ∃ s, (∀ out k, 2 * m + 4 ≤ k → out.length + m + 1 < 17592186044416 → demurrageref01_Plus.l0 k out c (i : Int) a b = some (out ++ s)) ∧ Digs s ∧ bv s = hv a i + hv b i + c ∧ s.length ≤ m + 1 := by
  intro m
  induction m with
  | zero =>
    intro i c h1 h2 hc hi
    have z1 := hv_end (l := a) (i := i) (by omega)
    have z2 := hv_end (l := b) (i := i) (by omega)
    have y1 := hv_step a i
    have y2 := hv_step b i
    have z3 := hv_end (l := a) (i := i + 1) (by omega)
    have z4 := hv_end (l := b) (i := i + 1) (by omega)
    rcases hc with rfl | rfl
    · refine ⟨[], ?_, digs_nil, by rw [z1, z2]; rfl, by simp⟩
      intro out k hk _
      obtain ⟨k, rfl⟩ : ∃ j, k = j + 2 := ⟨k - 2, by omega⟩
      rw [plus_stop (by omega) (by omega), List.append_nil]
    · refine ⟨[1], ?_, ?_, by rw [z1, z2]; rfl, by simp⟩
      · intro out k hk ho
        obtain ⟨k, rfl⟩ : ∃ j, k = j + 2 + 2 := ⟨k - 4, by omega⟩
        have e : a.getD i 0 + b.getD i 0 + 1 = 1 := by omega
        rw [plus_step ha hb (Or.inr rfl) (by omega) (Or.inr (Or.inr (by omega))) (by omega), e]
        exact plus_stop (by omega) (by omega)
      · intro d hd
        simp at hd
        omega
  | succ m ih =>
    intro i c h1 h2 hc hi
    by_cases go : i < a.length ∨ i < b.length
    · have d1 := getD_digs ha i
      have d2 := getD_digs hb i
      have y1 := hv_step a i
      have y2 := hv_step b i
      obtain ⟨s, e, ds, v, l⟩ := ih (i + 1) ((a.getD i 0 + b.getD i 0 + c) / 10000) (by omega) (by omega) (by omega) (by omega)
      refine ⟨(a.getD i 0 + b.getD i 0 + c) % 10000 :: s, ?_, digs_cons.mpr ⟨by omega, ds⟩, by rw [bv, v]; omega, by simp; omega⟩
      intro out k hk ho
      obtain ⟨k, rfl⟩ : ∃ j, k = j + 2 := ⟨k - 2, by omega⟩
      rw [plus_step ha hb hc (by omega) (by omega) (by omega), e _ k (by omega) (by simp; omega)]
      simp
    · obtain ⟨s, e, ds, v, l⟩ : ∃ s, (∀ out k, 2 * m + 4 ≤ k → out.length + m + 1 < 17592186044416 → demurrageref01_Plus.l0 k out c (i : Int) a b = some (out ++ s)) ∧ Digs s ∧ bv s = hv a i + hv b i + c ∧ s.length ≤ m + 1 := ih i c (by omega) (by omega) hc (by omega)
      exact ⟨s, fun out k hk ho => e out k (by omega) (by omega), ds, v, by omega⟩

theorem plus_at {a b : List Int} (ha : Digs a) (hb : Digs b) (la : a.length < 1000000) (lb : b.length < 1000000) : ∃ s, At (fun k => demurrageref01_Plus.f k a b) s ∧ Digs s ∧ bv s = bv a + bv b ∧ s.length ≤ a.length + b.length + 1 := by
  obtain ⟨s, e, ds, v, l⟩ := plus_loop ha hb (a.length + b.length) 0 0 (by omega) (by omega) (Or.inl rfl) (by omega)
  refine ⟨s, ⟨2 * (a.length + b.length) + 4, fun k hk => ?_⟩, ds, ?_, l⟩
  · have := e [] k hk (by simp; omega)
    rw [List.nil_append] at this
    exact this
  · rw [v, hv_zero, hv_zero]
    omega
end Go.Proofs.Ytlppmfffdjfekaa.X

set_option maxRecDepth 10000
namespace Go.Proofs.Ytlppmfffdjfekaa.X
open Go.RowKit Go.Proofs.YtlppmfffdjfekaaW.PrintWords Go.Proofs.YtlppmfffdjfekaaW.PrintLast

theorem rd_nat (l : List Int) (n : Nat) : rd l (n : Int) = l.getD n 0 := by
  unfold rd
  rw [Int.toNat_natCast]
theorem take_getD {l : List Int} {n : Nat} (h : n < l.length) : l.take (n + 1) = l.take n ++ [l.getD n 0] := by
  rw [List.take_add_one, List.getD_eq_getElem?_getD, List.getElem?_eq_getElem h]
  rfl
theorem digs_take {l : List Int} (h : Digs l) (n : Nat) : Digs (l.take n) := fun d hd => h d (List.mem_of_mem_take hd)
theorem digs_drop {l : List Int} (h : Digs l) (n : Nat) : Digs (l.drop n) := fun d hd => h d (List.mem_of_mem_drop hd)
theorem hv_nonneg {l : List Int} (h : Digs l) (i : Nat) : 0 ≤ hv l i := bv_nonneg (digs_drop h i)

theorem trim_val (l : List Int) : ∀ n, n ≤ l.length → bv (l.take (trimN l n)) = bv (l.take n) ∧ Norm (l.take (trimN l n))
  | 0, _ => by
    refine ⟨rfl, ?_⟩
    simp [trimN]
    exact norm_nil
  | n + 1, h => by
    unfold trimN
    rw [rd_nat]
    by_cases h0 : l.getD n 0 = 0
    · rw [if_pos h0]
      obtain ⟨h1, h2⟩ := trim_val l n (by omega)
      refine ⟨?_, h2⟩
      rw [h1, take_getD (by omega), bv_append, h0]
      simp [bv]
    · rw [if_neg h0]
      refine ⟨rfl, ?_⟩
      intro l' d e
      rw [take_getD (by omega)] at e
      have := congrArg List.getLast? e
      simp at this
      rw [← this]
      simpa using h0

theorem trim_eq {l : List Int} (hd : Digs l) (hl : l.length < 17592186044416) : ∃ t, demurrageref01_trim.f l = some t ∧ Digs t ∧ bv t = bv l ∧ Norm t ∧ t.length ≤ l.length := by
  obtain ⟨h1, h2⟩ := trim_val l l.length (Nat.le_refl _)
  refine ⟨l.take (trimN l l.length), ?_, digs_take hd _, ?_, h2, ?_⟩
  · unfold demurrageref01_trim.f
    rw [if_pos hl]
  · rw [h1, List.take_length]
  · rw [List.length_take]
    omega

theorem less_loop {a b : List Int} (ha : Digs a) (hb : Digs b) : ∀ (m i : Nat) (c : Int), a.length = i + m → (c = 0 ∨ c = 1) → hv b i + c ≤ hv a i → i + m < 4611686018427387900 →
    ∃ s, (∀ out k, m + 1 ≤ k → out.length + m < 17592186044416 → demurrageref01_Less.l0 k out c (i : Int) a b = (demurrageref01_trim.f (out ++ s)).bind fun t => some t) ∧ Digs s ∧ bv s = hv a i - hv b i - c ∧ s.length = m := by
  intro m
  induction m with
  | zero =>
    intro i c h1 hc hle hi
    have z1 := hv_end (l := a) (i := i) (by omega)
    have z2 := hv_nonneg hb i
    refine ⟨[], ?_, digs_nil, by rw [bv]; omega, rfl⟩
    intro out k hk _
    obtain ⟨k, rfl⟩ : ∃ j, k = j + 1 := ⟨k - 1, by omega⟩
    rw [demurrageref01_Less.l0, if_neg (by omega), List.append_nil]
  | succ m ih =>
    intro i c h1 hc hle hi
    have d1 := getD_digs ha i
    have d2 := getD_digs hb i
    have y1 := hv_step a i
    have y2 := hv_step b i
    have w6 : wrap64 ((i : Int) + 1) = ((i + 1 : Nat) : Int) := wrap64_small (x := (i : Int) + 1) (by omega) (by omega)
    have w1 : wrap64 (a.getD i 0 - b.getD i 0) = a.getD i 0 - b.getD i 0 := wrap64_small (by clear w6; omega) (by clear w6; omega)
    have w2 : wrap64 (a.getD i 0 - b.getD i 0 - c) = a.getD i 0 - b.getD i 0 - c := wrap64_small (by clear w6 w1; omega) (by clear w6 w1; omega)
    have w3 : wrap64 (a.getD i 0 - b.getD i 0 - c + 10000) = a.getD i 0 - b.getD i 0 - c + 10000 := wrap64_small (by clear w6 w1 w2; omega) (by clear w6 w1 w2; omega)
    have step : ∀ out k, out.length < 17592186044416 → demurrageref01_Less.l0 (k + 1) out c (i : Int) a b =
        if a.getD i 0 - b.getD i 0 - c < 0 then demurrageref01_Less.l0 k (out ++ [a.getD i 0 - b.getD i 0 - c + 10000]) 1 ((i + 1 : Nat) : Int) a b else demurrageref01_Less.l0 k (out ++ [a.getD i 0 - b.getD i 0 - c]) 0 ((i + 1 : Nat) : Int) a b := by
      intro out k ho
      rw [demurrageref01_Less.l0, if_pos (show (i : Int) < (a.length : Int) by clear w1 w2 w3 w6; omega), part_eq, Option.bind_some, part_eq, Option.bind_some, w1, w2, w3, w6, if_pos ho, if_pos ho]
    clear w1 w2 w3 w6
    by_cases hx : a.getD i 0 - b.getD i 0 - c < 0
    · obtain ⟨s, e, ds, v, l⟩ := ih (i + 1) 1 (by omega) (Or.inr rfl) (by omega) (by omega)
      refine ⟨(a.getD i 0 - b.getD i 0 - c + 10000) :: s, ?_, digs_cons.mpr ⟨by omega, ds⟩, by rw [bv, v]; omega, by simp; omega⟩
      intro out k hk ho
      obtain ⟨k, rfl⟩ : ∃ j, k = j + 1 := ⟨k - 1, by omega⟩
      rw [step out k (by omega), if_pos hx, e _ k (by omega) (by simp; omega)]
      simp
    · obtain ⟨s, e, ds, v, l⟩ := ih (i + 1) 0 (by omega) (Or.inl rfl) (by omega) (by omega)
      refine ⟨(a.getD i 0 - b.getD i 0 - c) :: s, ?_, digs_cons.mpr ⟨by omega, ds⟩, by rw [bv, v]; omega, by simp; omega⟩
      intro out k hk ho
      obtain ⟨k, rfl⟩ : ∃ j, k = j + 1 := ⟨k - 1, by omega⟩
      rw [step out k (by omega), if_neg hx, e _ k (by omega) (by simp; omega)]
      simp

theorem less_at {a b : List Int} (ha : Digs a) (hb : Digs b) (la : a.length < 1000000) (h : bv b ≤ bv a) : ∃ s, At (fun k => demurrageref01_Less.f k a b) s ∧ Digs s ∧ bv s = bv a - bv b ∧ Norm s ∧ s.length ≤ a.length := by
  obtain ⟨s, e, ds, v, l⟩ := less_loop ha hb a.length 0 0 (by omega) (Or.inl rfl) (by rw [hv_zero, hv_zero]; omega) (by omega)
  obtain ⟨t, e2, dt, vt, nt, lt⟩ := trim_eq ds (by omega)
  refine ⟨t, ⟨a.length + 1, fun k hk => ?_⟩, dt, ?_, nt, by omega⟩
  · have := e [] k hk (by simp; omega)
    rw [List.nil_append, e2, Option.bind_some] at this
    exact this
  · rw [vt, v, hv_zero, hv_zero]
    omega
end Go.Proofs.Ytlppmfffdjfekaa.X

set_option maxRecDepth 10000
namespace Go.Proofs.Ytlppmfffdjfekaa.X
open Go.RowKit Go.Proofs.YtlppmfffdjfekaaW.PrintWords Go.Proofs.YtlppmfffdjfekaaW.PrintLast

theorem bindP {α β : Type} (x : α) (f : α → Option β) : (some x).bind f = f x := by rw [Option.bind_some]
theorem bv_set : ∀ (l : List Int) (n : Nat) (v : Int), n < l.length → bv (l.set n v) = bv l + 10000 ^ n * (v - l.getD n 0)
  | [], n, v, h => by simp at h
  | d :: l, 0, v, _ => by
    simp [bv]
    omega
  | d :: l, n + 1, v, h => by
    have := bv_set l n v (by simpa using h)
    rw [List.set_cons_succ, bv, this, bv, Int.pow_succ, List.getD_cons_succ, Int.mul_comm (10000 ^ n) 10000, Int.mul_assoc]
    omega
theorem digs_set {l : List Int} (h : Digs l) (n : Nat) {v : Int} (hv : 0 ≤ v ∧ v < 10000) : Digs (l.set n v) := by
  intro d hd
  rcases List.mem_or_eq_of_mem_set hd with x | x
  · exact h d x
  · rw [x]; exact hv
theorem hv_set {l : List Int} {n i : Nat} {v : Int} (h : n < i) : hv (l.set n v) i = hv l i := by
  unfold hv
  rw [List.drop_set_of_lt h]
theorem hv_zero_digit {l : List Int} (h : Digs l) {i : Nat} (z : hv l i = 0) : l.getD i 0 = 0 ∧ hv l (i + 1) = 0 := by
  have s := hv_step l i
  have d := getD_digs h i
  have n := hv_nonneg h (i + 1)
  omega
theorem pow_pos10 (n : Nat) : (0 : Int) < 10000 ^ n := Int.pow_pos (by omega)
theorem bv_lt : ∀ {l : List Int}, Digs l → bv l < 10000 ^ l.length
  | [], _ => by simp [bv]
  | d :: l, h => by
    obtain ⟨h1, h2⟩ := digs_cons.mp h
    have := bv_lt h2
    rw [bv, List.length_cons, Int.pow_succ]
    omega
theorem bv_split (l : List Int) (n : Nat) : bv l = bv (l.take n) + 10000 ^ (l.take n).length * hv l n := by
  unfold hv
  rw [← bv_append, List.take_append_drop]
theorem hv_of_lt {l : List Int} (h : Digs l) {n : Nat} (hn : n ≤ l.length) (lt : bv l < 10000 ^ n) : hv l n = 0 := by
  have s := bv_split l n
  have e : (l.take n).length = n := by rw [List.length_take]; omega
  rw [e] at s
  have p := hv_nonneg h n
  have q := bv_nonneg (digs_take h n)
  rcases Int.lt_or_eq_of_le p with g | g
  · have : 10000 ^ n * 1 ≤ 10000 ^ n * hv l n := Int.mul_le_mul_of_nonneg_left (by omega) (by have := pow_pos10 n; omega)
    omega
  · exact g.symm

theorem prod_body {a b out : List Int} {i j : Nat} {c : Int} (ha : Digs a) (hb : Digs b) (ho : Digs out) (hc : 0 ≤ c ∧ c ≤ 9999) :
    0 ≤ out.getD (i + j) 0 + a.getD i 0 * b.getD j 0 + c ∧ out.getD (i + j) 0 + a.getD i 0 * b.getD j 0 + c ≤ 99999999 := by
  have d1 := getD_digs ha i
  have d2 := getD_digs hb j
  have d3 := getD_digs ho (i + j)
  have m0 : 0 ≤ a.getD i 0 * b.getD j 0 := Int.mul_nonneg d1.1 d2.1
  have m1 : a.getD i 0 * b.getD j 0 ≤ 9999 * 9999 := Int.mul_le_mul (by omega) (by omega) d2.1 (by omega)
  omega

theorem prod_step {a b out : List Int} {i j k : Nat} {c : Int} (ha : Digs a) (hb : Digs b) (ho : Digs out) (hc : 0 ≤ c ∧ c ≤ 9999) (hi : i < a.length) (hl : i + j < out.length) (hm : out.length < 4611686018427387900) (hj : j < 4611686018427387900) (go : j < b.length ∨ c > 0) :
    demurrageref01_Prod.l1 (k + 1) out (i : Int) c (j : Int) a b = demurrageref01_Prod.l1 k (out.set (i + j) ((out.getD (i + j) 0 + a.getD i 0 * b.getD j 0 + c) % 10000)) (i : Int) ((out.getD (i + j) 0 + a.getD i 0 * b.getD j 0 + c) / 10000) ((j + 1 : Nat) : Int) a b := by
  have d1 := getD_digs ha i
  have d2 := getD_digs hb j
  have d3 := getD_digs ho (i + j)
  obtain ⟨x0, x1⟩ := prod_body (i := i) (j := j) ha hb ho hc
  have m0 : 0 ≤ a.getD i 0 * b.getD j 0 := Int.mul_nonneg d1.1 d2.1
  have w0 : wrap64 ((i : Int) + (j : Int)) = ((i + j : Nat) : Int) := by
    rw [wrap64_small (x := (i : Int) + (j : Int)) (by omega) (by omega)]; omega
  have w1 : wrap64 (a.getD i 0 * b.getD j 0) = a.getD i 0 * b.getD j 0 := wrap64_small (by clear w0; omega) (by clear w0; omega)
  have w2 : wrap64 (out.getD (i + j) 0 + a.getD i 0 * b.getD j 0) = out.getD (i + j) 0 + a.getD i 0 * b.getD j 0 := wrap64_small (by clear w0 w1; omega) (by clear w0 w1; omega)
  have w3 : wrap64 (out.getD (i + j) 0 + a.getD i 0 * b.getD j 0 + c) = out.getD (i + j) 0 + a.getD i 0 * b.getD j 0 + c := wrap64_small (by clear w0 w1 w2; omega) (by clear w0 w1 w2; omega)
  have w4 : Int.tmod (out.getD (i + j) 0 + a.getD i 0 * b.getD j 0 + c) 10000 = (out.getD (i + j) 0 + a.getD i 0 * b.getD j 0 + c) % 10000 := Int.tmod_eq_emod_of_nonneg x0
  have w5 : Int.tdiv (out.getD (i + j) 0 + a.getD i 0 * b.getD j 0 + c) 10000 = (out.getD (i + j) 0 + a.getD i 0 * b.getD j 0 + c) / 10000 := Int.tdiv_eq_ediv_of_nonneg x0
  have w6 : wrap64 ((out.getD (i + j) 0 + a.getD i 0 * b.getD j 0 + c) / 10000) = (out.getD (i + j) 0 + a.getD i 0 * b.getD j 0 + c) / 10000 := wrap64_small (by clear w0 w1 w2 w3 w4 w5; omega) (by clear w0 w1 w2 w3 w4 w5; omega)
  have w7 : wrap64 ((j : Int) + 1) = ((j + 1 : Nat) : Int) := by
    rw [wrap64_small (x := (j : Int) + 1) (by clear w0 w1 w2 w3 w4 w5 w6; omega) (by clear w0 w1 w2 w3 w4 w5 w6; omega)]; clear w0 w1 w2 w3 w4 w5 w6; omega
  have c1 : 0 ≤ ((i + j : Nat) : Int) := Int.natCast_nonneg _
  have c2 : ((i + j : Nat) : Int) < (out.length : Int) := Int.ofNat_lt.mpr hl
  have c3 : 0 ≤ (i : Int) := Int.natCast_nonneg _
  have c4 : (i : Int) < (a.length : Int) := Int.ofNat_lt.mpr hi
  rw [demurrageref01_Prod.l1, w0, part_eq, rd_nat, rd_nat, Int.toNat_natCast]
  simp only [bindP, w1, w2, w3, w4, w5, w6, w7, if_pos c1, if_pos c2, if_pos c3, if_pos c4]
  clear w0 w1 w2 w3 w4 w5 w6 w7
  by_cases h1 : (j : Int) < (b.length : Int)
  · rw [if_pos h1]
  · rw [if_neg h1, if_pos (show c > 0 by omega)]
end Go.Proofs.Ytlppmfffdjfekaa.X

set_option maxRecDepth 10000
namespace Go.Proofs.Ytlppmfffdjfekaa.X
open Go.RowKit Go.Proofs.YtlppmfffdjfekaaW.PrintWords Go.Proofs.YtlppmfffdjfekaaW.PrintLast

theorem prod_leave {a b out : List Int} {i j k : Nat} (hi : (i : Int) < 4611686018427387900) (h : b.length ≤ j) : demurrageref01_Prod.l1 (k + 1) out (i : Int) 0 (j : Int) a b = demurrageref01_Prod.l0 k out ((i + 1 : Nat) : Int) a b := by
  have w : wrap64 ((i : Int) + 1) = ((i + 1 : Nat) : Int) := by
    rw [wrap64_small (x := (i : Int) + 1) (by omega) (by omega)]; omega
  rw [demurrageref01_Prod.l1, w]
  clear w
  rw [if_neg (by omega), if_neg (by omega)]

theorem prod_value {a b out : List Int} {i j : Nat} {c x : Int} (hx : x = out.getD (i + j) 0 + a.getD i 0 * b.getD j 0 + c) (hl : i + j < out.length) :
    bv (out.set (i + j) (x % 10000)) + 10000 ^ (i + (j + 1)) * (x / 10000 + a.getD i 0 * hv b (j + 1)) = bv out + 10000 ^ (i + j) * (c + a.getD i 0 * hv b j) := by
  rw [bv_set _ _ _ hl, hv_step b j, ← Nat.add_assoc, Int.pow_succ, Int.mul_assoc, Int.add_assoc, ← Int.mul_add, Int.mul_add (a.getD i 0), ← Int.mul_assoc (a.getD i 0) 10000, Int.mul_comm (a.getD i 0) 10000, Int.mul_assoc 10000 (a.getD i 0)]
  congr 2
  omega

theorem prod_row {a b : List Int} (ha : Digs a) (hb : Digs b) {i : Nat} (hi : i < a.length) {L : Nat} (hL : i + b.length + 1 < L) (hm : L < 4611686018427387900) :
    ∀ (m j : Nat) (out : List Int) (c : Int), b.length = j + m → Digs out → out.length = L → 0 ≤ c ∧ c ≤ 9999 → hv out (i + b.length) = 0 →
    ∃ out' t, (∀ k, demurrageref01_Prod.l1 (k + t) out (i : Int) c (j : Int) a b = demurrageref01_Prod.l0 k out' ((i + 1 : Nat) : Int) a b) ∧ t ≤ m + 2 ∧ Digs out' ∧ out'.length = L ∧ bv out' = bv out + 10000 ^ (i + j) * (c + a.getD i 0 * hv b j) := by
  intro m
  induction m with
  | zero =>
    intro j out c hj ho hlen hc hz
    have zb := hv_end (l := b) (i := j) (by omega)
    have db : b.getD j 0 = 0 := by
      rw [List.getD_eq_getElem?_getD, List.getElem?_eq_none (by omega)]; rfl
    by_cases h0 : c = 0
    · subst h0
      refine ⟨out, 1, fun k => prod_leave (by omega) (by omega), by omega, ho, hlen, ?_⟩
      rw [zb]
      simp
    · have e : i + b.length = i + j := by omega
      rw [e] at hz
      obtain ⟨z1, z2⟩ := hv_zero_digit ho hz
      have x1 : out.getD (i + j) 0 + a.getD i 0 * b.getD j 0 + c = c := by rw [z1, db]; simp
      refine ⟨out.set (i + j) (c % 10000), 2, fun k => ?_, by omega, digs_set ho _ (by omega), by simpa using hlen, ?_⟩
      · rw [prod_step ha hb ho hc hi (by omega) (by omega) (by omega) (Or.inr (by omega)), x1]
        have : c / 10000 = 0 := by omega
        rw [this]
        exact prod_leave (by omega) (by omega)
      · rw [bv_set _ _ _ (by omega), z1, zb]
        have : c % 10000 = c := by omega
        rw [this]
        simp
  | succ m ih =>
    intro j out c hj ho hlen hc hz
    obtain ⟨x0, x1⟩ := prod_body (i := i) (j := j) ha hb ho hc
    have st := fun k => prod_step (k := k) ha hb ho hc hi (show i + j < out.length by omega) (by omega) (show j < 4611686018427387900 by omega) (Or.inl (by omega))
    have pv := prod_value (a := a) (b := b) (out := out) (i := i) (j := j) (c := c) rfl (by omega)
    generalize out.getD (i + j) 0 + a.getD i 0 * b.getD j 0 + c = x at *
    obtain ⟨o2, t, e, ht, do2, l2, v2⟩ := ih (j + 1) (out.set (i + j) (x % 10000)) (x / 10000) (by omega) (digs_set ho _ (by omega)) (by simpa using hlen) (by omega) (by rw [hv_set (by omega)]; exact hz)
    refine ⟨o2, t + 1, fun k => ?_, by omega, do2, l2, by rw [v2, pv]⟩
    rw [← Nat.add_assoc, st, e]
end Go.Proofs.Ytlppmfffdjfekaa.X

set_option maxRecDepth 10000
namespace Go.Proofs.Ytlppmfffdjfekaa.X
open Go.RowKit Go.Proofs.YtlppmfffdjfekaaW.PrintWords Go.Proofs.YtlppmfffdjfekaaW.PrintLast

theorem mul_lt_pow {x y : Int} {i n : Nat} (hx : 0 ≤ x) (h1 : x < 10000 ^ i) (h3 : y < 10000 ^ n) : x * y < 10000 ^ (i + n) := by
  rw [Int.pow_add]
  have p := pow_pos10 n
  have s1 : x * y ≤ x * 10000 ^ n := Int.mul_le_mul_of_nonneg_left (by omega) hx
  have s2 : x * 10000 ^ n < 10000 ^ i * 10000 ^ n := Int.mul_lt_mul_of_pos_right h1 p
  omega

theorem prod_loop {a b : List Int} (ha : Digs a) (hb : Digs b) (hm : a.length + b.length + 2 < 4611686018427387900) :
    ∀ (m i : Nat) (out : List Int), a.length = i + m → Digs out → out.length = a.length + b.length + 1 → bv out = bv (a.take i) * bv b →
    ∃ s, (∀ k, m * (b.length + 4) + 1 ≤ k → demurrageref01_Prod.l0 k out (i : Int) a b = (demurrageref01_trim.f s).bind fun t => some t) ∧ Digs s ∧ s.length = a.length + b.length + 1 ∧ bv s = bv a * bv b := by
  intro m
  induction m with
  | zero =>
    intro i out hi ho hl hv0
    refine ⟨out, ?_, ho, hl, by rw [hv0, List.take_of_length_le (by omega)]⟩
    intro k hk
    obtain ⟨k, rfl⟩ : ∃ j, k = j + 1 := ⟨k - 1, by omega⟩
    rw [demurrageref01_Prod.l0, if_neg (by omega)]
  | succ m ih =>
    intro i out hi ho hl hv0
    have d1 := getD_digs ha i
    have e1 : (a.take i).length = i := by rw [List.length_take]; omega
    have n1 := bv_nonneg (digs_take ha i)
    have n2 := bv_lt (digs_take ha i)
    rw [e1] at n2
    have n3 := bv_lt hb
    have z : hv out (i + b.length) = 0 := hv_of_lt ho (by omega) (by rw [hv0]; exact mul_lt_pow n1 n2 n3)
    obtain ⟨o2, t, e, ht, d2, l2, v2⟩ := prod_row ha hb (i := i) (by omega) (L := a.length + b.length + 1) (by omega) (by omega) b.length 0 out 0 (by omega) ho hl (by omega) z
    have v3 : bv o2 = bv (a.take (i + 1)) * bv b := by
      rw [v2, hv0, take_getD (by omega), bv_append, e1, hv_zero, Nat.add_zero, Int.zero_add, Int.add_mul]
      simp [bv, Int.mul_assoc]
    obtain ⟨s, e2, ds, ls, vs⟩ := ih (i + 1) o2 (by omega) d2 l2 v3
    refine ⟨s, ?_, ds, ls, vs⟩
    intro k hk
    have hk2 : (m + 1) * (b.length + 4) = m * (b.length + 4) + (b.length + 4) := Nat.succ_mul _ _
    obtain ⟨k, rfl⟩ : ∃ j, k = j + t + 1 := ⟨k - t - 1, by omega⟩
    rw [demurrageref01_Prod.l0, if_pos (by omega)]
    have := e k
    rw [show ((0 : Nat) : Int) = 0 from rfl] at this
    rw [this]
    exact e2 k (by omega)

theorem bv_zeros : ∀ n, bv (List.replicate n 0) = 0
  | 0 => rfl
  | n + 1 => by rw [List.replicate_succ, bv, bv_zeros n]; rfl
theorem digs_zeros (n : Nat) : Digs (List.replicate n 0) := by
  intro d hd
  rw [List.eq_of_mem_replicate hd]
  omega

theorem prod_at {a b : List Int} (ha : Digs a) (hb : Digs b) (la : a.length < 1000000) (lb : b.length < 1000000) : ∃ s, At (fun k => demurrageref01_Prod.f k a b) s ∧ Digs s ∧ bv s = bv a * bv b ∧ Norm s ∧ s.length ≤ a.length + b.length + 1 := by
  obtain ⟨s, e, ds, ls, vs⟩ := prod_loop ha hb (by omega) a.length 0 (List.replicate (a.length + b.length + 1) 0) (by omega) (digs_zeros _) (by simp) (by rw [bv_zeros]; simp [bv])
  obtain ⟨t, e2, dt, vt, nt, lt⟩ := trim_eq ds (by omega)
  refine ⟨t, ⟨a.length * (b.length + 4) + 1, fun k hk => ?_⟩, dt, by rw [vt, vs], nt, by omega⟩
  have h := e k hk
  rw [e2, Option.bind_some] at h
  have w1 : wrap64 ((a.length : Int) + (b.length : Int)) = (a.length : Int) + (b.length : Int) := wrap64_small (by omega) (by omega)
  have w2 : wrap64 ((a.length : Int) + (b.length : Int) + 1) = ((a.length + b.length + 1 : Nat) : Int) := by
    rw [wrap64_small (x := (a.length : Int) + (b.length : Int) + 1) (by clear w1; omega) (by clear w1; omega)]
    clear w1
    omega
  show demurrageref01_Prod.f k a b = some t
  unfold demurrageref01_Prod.f
  rw [w1, w2, Int.toNat_natCast]
  clear w1 w2
  rw [if_pos (Int.natCast_nonneg _), if_pos (by omega)]
  exact h
end Go.Proofs.Ytlppmfffdjfekaa.X

set_option maxRecDepth 10000
namespace Go.Proofs.Ytlppmfffdjfekaa.X
open Go.RowKit Go.Proofs.YtlppmfffdjfekaaW.PrintWords Go.Proofs.YtlppmfffdjfekaaW.PrintLast

theorem At.done {α : Type} {f : Nat → Option α} {a : α} (h : At f a) : At (fun k => (f k).bind fun t => some t) a := At.bind h ⟨0, fun _ _ => rfl⟩

theorem limit_at : ∃ s, At (fun k => demurrageref01_Limit.f k) s ∧ Digs s ∧ bv s = 340282366920938463463374607431768211456 ∧ s.length < 100 := by
  obtain ⟨b, b1, b2, b3, b4, b5⟩ := fromU_at (x := 4294967296) ⟨by omega, by omega⟩
  obtain ⟨p, p1, p2, p3, p4, p5⟩ := prod_at b2 b2 (by omega) (by omega)
  obtain ⟨q, q1, q2, q3, q4, q5⟩ := prod_at p2 p2 (by omega) (by omega)
  refine ⟨q, ?_, q2, ?_, by omega⟩
  · unfold demurrageref01_Limit.f
    exact At.bind b1 (At.bind p1 (At.bind p1 (At.done q1)))
  · rw [q3, p3, b3]
    omega

end Go.Proofs.Ytlppmfffdjfekaa.X

set_option maxRecDepth 10000
namespace Go.Proofs.Ytlppmfffdjfekaa.X
open Go.RowKit Go.Proofs.YtlppmfffdjfekaaW.PrintWords Go.Proofs.YtlppmfffdjfekaaW.PrintLast

theorem At.succ {α : Type} {f g : Nat → Option α} {r : α} (h : ∀ k, f (k + 1) = g k) (a : At g r) : At f r := by
  obtain ⟨K, a⟩ := a
  refine ⟨K + 1, fun k hk => ?_⟩
  obtain ⟨k, rfl⟩ : ∃ j, k = j + 1 := ⟨k - 1, by omega⟩
  rw [h]
  exact a k (by omega)

theorem from_at {x : Int} (h : 0 ≤ x ∧ x < 9223372036854775808) : ∃ l, At (fun k => demurrageref01_From.f k x) l ∧ Digs l ∧ bv l = x ∧ Norm l ∧ l.length ≤ 5 := by
  obtain ⟨l, h1, h2, h3, h4, h5⟩ := fromU_at (x := x) ⟨h.1, by omega⟩
  refine ⟨l, ?_, h2, h3, h4, h5⟩
  unfold demurrageref01_From.f
  rw [IntWalk.u64_in x ⟨h.1, by omega⟩]
  exact At.done h1

/-- One digit of a quotient, by halving. -/
theorem quot_digit {a b r out : List Int} {p : Nat} (hb : Digs b) (hr : Digs r) (lb : b.length < 500000) (lr : r.length < 500000) (hp : p < out.length) (hl : out.length < 500000) :
    ∀ (n : Nat) (lo hi : Int), 0 ≤ lo → lo < hi → hi ≤ 10000 → hi - lo ≤ n → bv b * lo ≤ bv r → bv r < bv b * hi →
    ∃ d r', 0 ≤ d ∧ d < 10000 ∧ Digs r' ∧ Norm r' ∧ bv r' = bv r - bv b * d ∧ bv r' < bv b ∧ r'.length ≤ r.length ∧
      ∀ R, At (fun k => demurrageref01_Quot.l0 k (out.set p d) ((p : Int) - 1) a b r') R → At (fun k => demurrageref01_Quot.l1 k out (p : Int) lo hi a b r) R := by
  intro n
  induction n with
  | zero => intro lo hi _ h1 _ h2; omega
  | succ n ih =>
    intro lo hi h0 h1 h2 hn v1 v2
    by_cases hd : hi - lo > 1
    · obtain ⟨m, m1, m2, m3, m4, m5⟩ := from_at (x := (lo + hi) / 2) ⟨by omega, by omega⟩
      obtain ⟨q, q1, q2, q3, q4, q5⟩ := prod_at hb m2 (by omega) (by omega)
      have c := cmp_at q2 hr (by omega) (by omega)
      have w1 : wrap64 (hi - lo) = hi - lo := wrap64_small (by omega) (by omega)
      have w2 : wrap64 (lo + hi) = lo + hi := wrap64_small (by clear w1; omega) (by clear w1; omega)
      have w3 : Int.tdiv (lo + hi) 2 = (lo + hi) / 2 := Int.tdiv_eq_ediv_of_nonneg (by clear w1 w2; omega)
      have w4 : wrap64 ((lo + hi) / 2) = (lo + hi) / 2 := wrap64_small (by clear w1 w2 w3; omega) (by clear w1 w2 w3; omega)
      have step : ∀ k, demurrageref01_Quot.l1 (k + 1) out (p : Int) lo hi a b r = (demurrageref01_From.f k ((lo + hi) / 2)).bind fun t => (demurrageref01_Prod.f k b t).bind fun u => (demurrageref01_Cmp.f k u r).bind fun v =>
          if v ≤ 0 then demurrageref01_Quot.l1 k out (p : Int) ((lo + hi) / 2) hi a b r else demurrageref01_Quot.l1 k out (p : Int) lo ((lo + hi) / 2) a b r := by
        intro k
        rw [demurrageref01_Quot.l1, w1, w2, w3, w4, if_pos hd]
      clear w1 w2 w3 w4
      by_cases hc : bv b * ((lo + hi) / 2) ≤ bv r
      · obtain ⟨d, r', g1, g2, g3, g4, g5, g6, g7, g8⟩ := ih ((lo + hi) / 2) hi (by omega) (by omega) h2 (by omega) hc v2
        refine ⟨d, r', g1, g2, g3, g4, g5, g6, g7, fun R hR => ?_⟩
        refine At.succ step (At.bind m1 (At.bind q1 (At.bind c ?_)))
        have : bsg (bv q) (bv r) ≤ 0 := by
          rw [q3, m3]
          unfold bsg
          repeat' split
          all_goals omega
        obtain ⟨K, hK⟩ := g8 R hR
        exact ⟨K, fun k hk => (if_pos this).trans (hK k hk)⟩
      · obtain ⟨d, r', g1, g2, g3, g4, g5, g6, g7, g8⟩ := ih lo ((lo + hi) / 2) h0 (by omega) (by omega) (by omega) v1 (by omega)
        refine ⟨d, r', g1, g2, g3, g4, g5, g6, g7, fun R hR => ?_⟩
        refine At.succ step (At.bind m1 (At.bind q1 (At.bind c ?_)))
        have : ¬ bsg (bv q) (bv r) ≤ 0 := by
          rw [q3, m3]
          unfold bsg
          repeat' split
          all_goals omega
        obtain ⟨K, hK⟩ := g8 R hR
        exact ⟨K, fun k hk => (if_neg this).trans (hK k hk)⟩
    · obtain ⟨m, m1, m2, m3, m4, m5⟩ := from_at (x := lo) ⟨by omega, by omega⟩
      obtain ⟨q, q1, q2, q3, q4, q5⟩ := prod_at hb m2 (by omega) (by omega)
      obtain ⟨s, s1, s2, s3, s4, s5⟩ := less_at hr q2 (by omega) (by rw [q3, m3]; exact v1)
      have e : hi = lo + 1 := by omega
      subst e
      have e2 : bv b * (lo + 1) = bv b * lo + bv b := by rw [Int.mul_add, Int.mul_one]
      refine ⟨lo, s, h0, by omega, s2, s4, by rw [s3, q3, m3], by rw [s3, q3, m3]; omega, s5, fun R hR => ?_⟩
      have w1 : wrap64 (lo + 1 - lo) = lo + 1 - lo := wrap64_small (by omega) (by omega)
      have w2 : wrap64 ((p : Int) - 1) = (p : Int) - 1 := wrap64_small (by clear w1; omega) (by clear w1; omega)
      have c2 : (p : Int) < (out.length : Int) := Int.ofNat_lt.mpr hp
      have step : ∀ k, demurrageref01_Quot.l1 (k + 1) out (p : Int) lo (lo + 1) a b r = (demurrageref01_From.f k lo).bind fun t => (demurrageref01_Prod.f k b t).bind fun u => (demurrageref01_Less.f k r u).bind fun v =>
          demurrageref01_Quot.l0 k (out.set p lo) ((p : Int) - 1) a b v := by
        intro k
        rw [demurrageref01_Quot.l1, w1, w2, if_neg hd, if_pos (Int.natCast_nonneg p), if_pos c2, Int.toNat_natCast]
      clear w1 w2
      exact At.succ step (At.bind m1 (At.bind q1 (At.bind s1 hR)))
end Go.Proofs.Ytlppmfffdjfekaa.X

set_option maxRecDepth 10000
namespace Go.Proofs.Ytlppmfffdjfekaa.X
open Go.RowKit Go.Proofs.YtlppmfffdjfekaaW.PrintWords Go.Proofs.YtlppmfffdjfekaaW.PrintLast

theorem quot_loop {a b : List Int} (ha : Digs a) (hb : Digs b) (lb : b.length < 500000) (la : a.length < 200000) :
    ∀ (p : Nat) (out r : List Int), p ≤ a.length → Digs out → out.length = a.length → (∀ i, i < p → out.getD i 0 = 0) → Digs r → r.length + p < 400000 → Norm r → bv r < bv b →
    ∃ s r', At (fun k => demurrageref01_Quot.l0 k out ((p : Int) - 1) a b r) (s, r') ∧ Digs s ∧ Norm s ∧ s.length ≤ a.length ∧ Digs r' ∧ Norm r' ∧ r'.length < 400000 ∧ bv r' < bv b ∧
      bv s * bv b + bv r' = bv out * bv b + 10000 ^ p * bv r + bv (a.take p) := by
  intro p
  induction p with
  | zero =>
    intro out r _ ho lo _ hr lr nr hlt
    obtain ⟨t, t1, t2, t3, t4, t5⟩ := trim_eq ho (by omega)
    refine ⟨t, r, ⟨1, fun k hk => ?_⟩, t2, t4, by omega, hr, nr, by omega, hlt, by rw [t3]; simp [bv]⟩
    obtain ⟨k, rfl⟩ : ∃ j, k = j + 1 := ⟨k - 1, by omega⟩
    show demurrageref01_Quot.l0 (k + 1) out (((0 : Nat) : Int) - 1) a b r = _
    rw [demurrageref01_Quot.l0, if_neg (by omega), t1, Option.bind_some]
  | succ p ih =>
    intro out r hp ho lo hz hr lr nr hlt
    have dp := getD_digs ha p
    have dy : Digs (a.getD p 0 :: r) := digs_cons.mpr ⟨dp, hr⟩
    obtain ⟨t, t1, t2, t3, t4, t5⟩ := trim_eq dy (by simp; omega)
    have ly : (a.getD p 0 :: r).length = r.length + 1 := by simp
    have vt : bv t = a.getD p 0 + 10000 * bv r := by rw [t3, bv]
    have nb := bv_nonneg hr
    obtain ⟨d, r', g1, g2, g3, g4, g5, g6, g7, g8⟩ := quot_digit (a := a) (r := t) (out := out) (p := p) hb t2 lb (by omega) (by omega) (by omega) 10000 0 10000 (by omega) (by omega) (by omega) (by omega) (by rw [Int.mul_zero]; exact bv_nonneg t2) (by rw [vt]; omega)
    have zp : out.getD p 0 = 0 := hz p (by omega)
    obtain ⟨s, r2, i1, i2, i3, i4, i5, i6, i7, i8, i9⟩ := ih (out.set p d) r' (by omega) (digs_set ho _ ⟨g1, g2⟩) (by simpa using lo) (fun i hi => by
      rw [List.getD_eq_getElem?_getD, List.getElem?_set_ne (by omega), ← List.getD_eq_getElem?_getD]
      exact hz i (by omega)) g3 (by omega) g4 g6
    have e1 : (a.take p).length = p := by rw [List.length_take]; omega
    refine ⟨s, r2, ?_, i2, i3, i4, i5, i6, i7, i8, ?_⟩
    · refine At.succ (g := fun k => demurrageref01_Quot.l1 k out (p : Int) 0 10000 a b t) (fun k => ?_) (g8 _ i1)
      have e : ((p + 1 : Nat) : Int) - 1 = (p : Int) := by omega
      have c1 : (p : Int) < (a.length : Int) := by omega
      show demurrageref01_Quot.l0 (k + 1) out (((p + 1 : Nat) : Int) - 1) a b r = _
      rw [e, demurrageref01_Quot.l0, if_pos (Int.natCast_nonneg p), if_pos (Int.natCast_nonneg p), if_pos c1, Option.bind_some, rd_nat, if_pos (by simp; omega)]
      rw [show [a.getD p 0] ++ r = a.getD p 0 :: r from rfl, t1, Option.bind_some]
    · rw [i9, g5, vt, bv_set _ _ _ (by omega), zp, take_getD (by omega), bv_append, e1, Int.pow_succ]
      have e3 : bv [a.getD p 0] = a.getD p 0 := by simp [bv]
      rw [e3]
      generalize a.getD p 0 = x
      generalize (10000 : Int) ^ p = w
      simp only [Int.add_mul, Int.mul_add, Int.mul_sub, Int.sub_zero]
      have h1 : w * (bv b * d) = w * d * bv b := by rw [Int.mul_comm (bv b) d, Int.mul_assoc]
      have h2 : w * (10000 * bv r) = w * 10000 * bv r := by rw [Int.mul_assoc]
      rw [h1, h2]
      omega

theorem quot_at {a b : List Int} (ha : Digs a) (hb : Digs b) (lb : b.length < 500000) (la : a.length < 200000) (hp : 0 < bv b) :
    ∃ s r, At (fun k => demurrageref01_Quot.f k a b) (s, r) ∧ Digs s ∧ Norm s ∧ s.length ≤ a.length ∧ Digs r ∧ Norm r ∧ r.length < 400000 ∧ bv s = bv a / bv b ∧ bv r = bv a % bv b := by
  obtain ⟨s, r, i1, i2, i3, i4, i5, i6, i7, i8, i9⟩ := quot_loop ha hb lb la a.length (List.replicate a.length 0) [] (Nat.le_refl _) (digs_zeros _) (by simp) (fun i hi => by
    rw [List.getD_eq_getElem?_getD, List.getElem?_replicate, if_pos hi]; rfl) digs_nil (by rw [List.length_nil]; omega) norm_nil (by rw [bv]; omega)
  rw [bv_zeros, List.take_length, bv] at i9
  have n := bv_nonneg i5
  have e : bv a = bv r + bv s * bv b := by
    rw [Int.zero_mul, Int.mul_zero] at i9
    omega
  refine ⟨s, r, ?_, i2, i3, i4, i5, i6, i7, ?_, ?_⟩
  · obtain ⟨K, h⟩ := i1
    refine ⟨K, fun k hk => ?_⟩
    have := h k hk
    show demurrageref01_Quot.f k a b = _
    unfold demurrageref01_Quot.f
    rw [if_pos (Int.natCast_nonneg _), Int.toNat_natCast, if_pos (by omega), wrap64_small (x := (a.length : Int) - 1) (by omega) (by omega)]
    exact this
  · rw [e, Int.add_mul_ediv_right _ _ (by omega), Int.ediv_eq_zero_of_lt n i8]
    omega
  · rw [e, Int.add_mul_emod_self_right, Int.emod_eq_of_lt n i8]
end Go.Proofs.Ytlppmfffdjfekaa.X

namespace Go.Proofs.Ytlppmfffdjfekaa.X
open Go.RowKit Go.Proofs.YtlppmfffdjfekaaW.PrintWords Go.Proofs.YtlppmfffdjfekaaW.PrintLast

theorem rtold_eq {h l : Int} (a1 : U64 h) (a2 : U64 l) : round_told.f h l = some (if wv h l ≤ 4611686018427387904 then (wv h l, 0) else (0, 6)) := by
  unfold round_told.f
  rw [of_eq]
  simp only [Option.bind_some]
  rw [wcmp_eq a1 a2 (by decide) (by decide)]
  have e : wv 0 4611686018427387904 = 4611686018427387904 := by unfold wv; omega
  rw [e]
  simp only [Option.bind_some]
  by_cases h1 : wv h l ≤ 4611686018427387904
  · have e2 : wv h l = l := by
      obtain ⟨p1, p2⟩ := a1
      obtain ⟨p3, p4⟩ := a2
      unfold wv at h1 ⊢
      omega
    rw [if_pos h1, if_neg (by split; · omega
                              · split <;> omega), IntWalk.wrap64_in l (by have := a2.1; omega), e2]
  · rw [if_neg h1, if_neg (show ¬ wv h l < 4611686018427387904 by omega), if_neg (show ¬ wv h l = 4611686018427387904 by omega), if_pos (by omega)]

/-- Is the whole number above the nearer one (of x / m)? -/
def nearer (x m : Int) : Bool := decide (x % m > m - x % m) || (decide (x % m = m - x % m) && decide (x / m % 2 = 1))
/-- The quotient, rounded to the next whole number, a half to the even one. -/
def ev (x m : Int) : Int := if nearer x m then x / m + 1 else x / m

theorem up_eq {r m : Int} (odd : Bool) (h0 : 0 ≤ r) (h1 : r < m) (hm : U64 m) (k : Nat) : round_up.f (k + 1) r m odd = some (decide (r > m - r) || (decide (r = m - r) && odd)) := by
  unfold round_up.f
  rw [IntWalk.u64_in (m - r) (by have := hm.2; omega)]
  by_cases h2 : r = m - r
  · rw [if_pos h2, round_up.j0]
    cases odd with
    | true => simp [← h2]
    | false => simp [← h2]
  · rw [if_neg h2, round_up.j0]
    by_cases h3 : r > m - r
    · simp [h3]
    · simp [h2, h3]

theorem even_eq {h l d : Int} (a1 : U64 h) (a2 : U64 l) (b : U64 d) (hd : d ≠ 0) (k : Nat) :
    round_Even.f (k + 1) h l d = some (if wv h l / d ≤ 4611686018427387904 ∧ ev (wv h l) d ≤ 4611686018427387904 then (ev (wv h l) d, 0) else (0, 6)) := by
  have lx := wv_lt a1 a2
  have d1 : 0 ≤ wv h l / d := Int.ediv_nonneg lx.1 b.1
  have d2 : wv h l / d ≤ wv h l := Int.ediv_le_self _ lx.1
  have r0 := Int.emod_nonneg (wv h l) hd
  have r1 := Int.emod_lt_of_pos (wv h l) (show 0 < d by have := b.1; omega)
  obtain ⟨p1, p2, p3⟩ := wv_parts d1 (by omega)
  unfold round_Even.f
  rw [div_eq a1 a2 b hd]
  simp only [Option.bind_some, if_true]
  rw [rtold_eq p1 p2, p3]
  simp only [Option.bind_some]
  by_cases h1 : wv h l / d ≤ 4611686018427387904
  · simp only [if_pos h1, if_true]
    have t1 : Int.tmod (wv h l / d) 2 = wv h l / d % 2 := Int.tmod_eq_emod_of_nonneg d1
    rw [up_eq _ r0 r1 b, t1]
    simp only [Option.bind_some]
    have e1 : (decide (wv h l % d > d - wv h l % d) || (decide (wv h l % d = d - wv h l % d) && (wv h l / d % 2 == 1))) = nearer (wv h l) d := by
      unfold nearer
      congr 2
    rw [e1, round_Even.j0]
    by_cases h2 : nearer (wv h l) d = true
    · rw [if_pos h2, IntWalk.u64_in (wv h l / d) (by omega), IntWalk.u64_in (wv h l / d + 1) (by omega), of_eq]
      simp only [Option.bind_some]
      have e2 : wv 0 (wv h l / d + 1) = wv h l / d + 1 := by unfold wv; omega
      rw [rtold_eq (by decide) ⟨by omega, by omega⟩, e2]
      have e3 : ev (wv h l) d = wv h l / d + 1 := by unfold ev; rw [if_pos h2]
      rw [e3]
      simp only [Option.bind_some]
      by_cases h3 : wv h l / d + 1 ≤ 4611686018427387904
      · rw [if_pos h3, if_pos ⟨h1, h3⟩]
      · rw [if_neg h3, if_neg (fun h => h3 h.2)]
    · have e3 : ev (wv h l) d = wv h l / d := by unfold ev; rw [if_neg h2]
      rw [if_neg h2, e3, if_pos ⟨h1, h1⟩]
  · simp only [if_neg h1]
    rw [if_neg (show ¬ (6 : Int) = 0 by omega), round_Even.j0, if_neg (show ¬ false = true by decide), if_neg (fun h : _ ∧ _ => h1 h.1)]

theorem ev_near {x m : Int} (hm : 0 < m) : 2 * (ev x m * m) ≤ 2 * x + m ∧ 2 * x ≤ 2 * (ev x m * m) + m ∧ x / m ≤ ev x m ∧ ev x m ≤ x / m + 1 := by
  have r0 := Int.emod_nonneg x (show m ≠ 0 by omega)
  have r1 := Int.emod_lt_of_pos x hm
  have e := Int.mul_ediv_add_emod x m
  rw [Int.mul_comm] at e
  unfold ev nearer
  split
  · rename_i h
    rw [Int.add_mul, Int.one_mul]
    simp at h
    omega
  · rename_i h
    simp at h
    omega
end Go.Proofs.Ytlppmfffdjfekaa.X

set_option maxRecDepth 10000
namespace Go.Proofs.Ytlppmfffdjfekaa.X
open Go.RowKit Go.Proofs.YtlppmfffdjfekaaW.PrintWords Go.Proofs.YtlppmfffdjfekaaW.PrintLast

theorem hv_le {l : List Int} (h : Digs l) : ∀ i, hv l i ≤ bv l
  | 0 => by rw [hv_zero]; omega
  | i + 1 => by
    have s := hv_step l i
    have d := getD_digs h i
    have n := hv_nonneg h (i + 1)
    have := hv_le h i
    omega

theorem tell_loop {l : List Int} (h : Digs l) (ll : l.length < 500000) (hm : bv l ≤ 4611686018427387904) : ∀ (i k : Nat), i ≤ l.length → i + 1 ≤ k → demurrageref03_told.l0 k (hv l i) ((i : Int) - 1) l = some (bv l, 0) := by
  intro i
  induction i with
  | zero =>
    intro k _ hk
    obtain ⟨k, rfl⟩ : ∃ j, k = j + 1 := ⟨k - 1, by omega⟩
    rw [demurrageref03_told.l0, if_neg (by omega), hv_zero]
  | succ i ih =>
    intro k hi hk
    obtain ⟨k, rfl⟩ : ∃ j, k = j + 1 := ⟨k - 1, by omega⟩
    have s := hv_step l i
    have d := getD_digs h i
    have n := hv_nonneg h (i + 1)
    have le := hv_le h i
    have e : ((i + 1 : Nat) : Int) - 1 = (i : Int) := by omega
    have c : (i : Int) < (l.length : Int) := by omega
    have w1 : wrap64 (10000 * hv l (i + 1)) = 10000 * hv l (i + 1) := wrap64_small (by omega) (by omega)
    have w2 : wrap64 (10000 * hv l (i + 1) + l.getD i 0) = hv l i := by
      rw [wrap64_small (x := 10000 * hv l (i + 1) + l.getD i 0) (by clear w1; omega) (by clear w1; omega)]
      clear w1
      omega
    have w3 : wrap64 ((i : Int) - 1) = (i : Int) - 1 := wrap64_small (by clear w1 w2; omega) (by clear w1 w2; omega)
    rw [e, demurrageref03_told.l0, if_pos (Int.natCast_nonneg i), if_pos (Int.natCast_nonneg i), if_pos c, rd_nat, w1, w2, w3]
    clear w1 w2 w3
    exact ih k (by omega) (by omega)

theorem tell_at {l : List Int} (h : Digs l) (ll : l.length < 500000) : At (fun k => demurrageref03_told.f k l) (if bv l ≤ 4611686018427387904 then (bv l, 0) else (0, 6)) := by
  obtain ⟨m, m1, m2, m3, m4, m5⟩ := fromU_at (x := 4611686018427387904) ⟨by omega, by omega⟩
  have c := cmp_at h m2 (by omega) (by omega)
  rw [m3] at c
  unfold demurrageref03_told.f
  refine At.bind (g := fun k t => (demurrageref01_Cmp.f k l t).bind fun v => if v > 0 then some (0, 6) else demurrageref03_told.l0 k 0 (wrap64 ((l.length : Int) - 1)) l) m1
    (At.bind (g := fun k v => if v > 0 then some (0, 6) else demurrageref03_told.l0 k 0 (wrap64 ((l.length : Int) - 1)) l) c ⟨l.length + 1, fun k hk => ?_⟩)
  show (if bsg (bv l) 4611686018427387904 > 0 then some (0, 6) else demurrageref03_told.l0 k 0 (wrap64 ((l.length : Int) - 1)) l) = _
  have w : wrap64 ((l.length : Int) - 1) = (l.length : Int) - 1 := wrap64_small (by omega) (by omega)
  rw [w]
  clear w
  by_cases hm : bv l ≤ 4611686018427387904
  · have : ¬ bsg (bv l) 4611686018427387904 > 0 := by
      unfold bsg
      repeat' split
      all_goals omega
    rw [if_neg this, if_pos hm]
    have t := tell_loop h ll hm l.length k (Nat.le_refl _) hk
    rw [hv_end (Nat.le_refl _)] at t
    exact t
  · have : bsg (bv l) 4611686018427387904 > 0 := by
      unfold bsg
      rw [if_neg (by omega), if_neg (by omega)]
      omega
    rw [if_pos this, if_neg hm]

theorem bv_odd {l : List Int} (_ : Digs l) : bv l % 2 = l.getD 0 0 % 2 := by
  have := hv_step l 0
  rw [hv_zero] at this
  omega

theorem near_at {a b : List Int} (ha : Digs a) (hb : Digs b) (la : a.length < 100000) (lb : b.length < 100000) (hp : 0 < bv b) : ∃ s, At (fun k => demurrageref03_Near.f k a b) s ∧ Digs s ∧ bv s = ev (bv a) (bv b) ∧ s.length < 400000 := by
  obtain ⟨q, r, e1, e2, e3, e4, e5, e6, e7, e8, e9⟩ := quot_at ha hb (by omega) (by omega) hp
  obtain ⟨u, u1, u2, u3, u4⟩ := plus_at e5 e5 (by omega) (by omega)
  have c := cmp_at u2 hb (by omega) (by omega)
  obtain ⟨o, o1, o2, o3, o4, o5⟩ := from_at (x := 1) ⟨by omega, by omega⟩
  obtain ⟨v, v1, v2, v3, v4⟩ := plus_at e2 o2 (by omega) (by omega)
  have rn := bv_nonneg e5
  have j1 : ∀ x : Bool, At (fun k => demurrageref03_Near.j1 k x q) (if x then v else q) := by
    intro x
    cases x with
    | true =>
      refine At.succ (g := fun k => (demurrageref01_From.f k 1).bind fun t => (demurrageref01_Plus.f k q t).bind fun t => some t) (fun k => ?_)
        (At.bind (g := fun k t => (demurrageref01_Plus.f k q t).bind fun t => some t) o1 (At.done v1))
      rw [demurrageref03_Near.j1, if_pos rfl]
    | false =>
      refine At.succ (g := fun _ => some q) (fun k => ?_) ⟨0, fun _ _ => rfl⟩
      rw [demurrageref03_Near.j1, if_neg (by decide)]
  have j0 : ∀ (x : Int) (y : Bool), At (fun k => demurrageref03_Near.j0 k x y q) (if (decide (x > 0) || (decide (x = 0) && y)) then v else q) := by
    intro x y
    by_cases h1 : x > 0
    · have t := j1 true
      have e : (decide (x > 0) || (decide (x = 0) && y)) = true := by simp [h1]
      rw [e]
      refine At.succ (g := fun k => demurrageref03_Near.j1 k true q) (fun k => ?_) t
      rw [demurrageref03_Near.j0, if_pos h1]
    · by_cases h2 : x = 0
      · have e : (decide (x > 0) || (decide (x = 0) && y)) = y := by simp [h2]
        rw [e]
        refine At.succ (g := fun k => demurrageref03_Near.j1 k y q) (fun k => ?_) (j1 y)
        rw [demurrageref03_Near.j0, if_neg h1, if_pos h2]
      · have e : (decide (x > 0) || (decide (x = 0) && y)) = false := by simp [h1, h2]
        rw [e]
        refine At.succ (g := fun k => demurrageref03_Near.j1 k false q) (fun k => ?_) (j1 false)
        rw [demurrageref03_Near.j0, if_neg h1, if_neg h2]
  have odd := bv_odd e2
  have fin : ∀ y : Bool, (y = true ↔ bv q % 2 = 1) → ∃ s, s = (if (decide (bsg (bv u) (bv b) > 0) || (decide (bsg (bv u) (bv b) = 0) && y)) then v else q) ∧ Digs s ∧ bv s = ev (bv a) (bv b) ∧ s.length < 400000 := by
    intro y hy
    have n1 : (decide (bsg (bv u) (bv b) > 0) || (decide (bsg (bv u) (bv b) = 0) && y)) = nearer (bv a) (bv b) := by
      unfold nearer
      rw [← e8, ← e9, u3, Bool.eq_iff_iff]
      unfold bsg
      simp only [Bool.or_eq_true, Bool.and_eq_true, decide_eq_true_eq, hy]
      repeat' split
      all_goals omega
    rw [n1]
    unfold ev
    by_cases hn : nearer (bv a) (bv b) = true
    · rw [if_pos hn, if_pos hn]
      exact ⟨v, rfl, v2, by rw [v3, o3, e8], by omega⟩
    · rw [if_neg hn, if_neg hn]
      exact ⟨q, rfl, e2, e8, by omega⟩
  by_cases hq : (q.length : Int) > 0
  · have t1 : Int.tmod (rd q 0) 2 = bv q % 2 := by
      have d := getD_digs e2 0
      have := rd_nat q 0
      rw [show ((0 : Nat) : Int) = 0 from rfl] at this
      rw [this, Int.tmod_eq_emod_of_nonneg d.1, odd]
    obtain ⟨s, s1, s2, s3, s4⟩ := fin (bv q % 2 == 1) (by simp)
    refine ⟨s, ?_, s2, s3, s4⟩
    rw [s1]
    unfold demurrageref03_Near.f
    refine At.bind (g := fun k w => (demurrageref01_Plus.f k w.2 w.2).bind fun x => (demurrageref01_Cmp.f k x b).bind fun y => if (w.1.length : Int) > 0 then (if 0 < (w.1.length : Int) then demurrageref03_Near.j0 k y (Int.tmod (rd w.1 0) 2 == 1) w.1 else none) else demurrageref03_Near.j0 k y false w.1) e1
      (At.bind (g := fun k x => (demurrageref01_Cmp.f k x b).bind fun y => if (q.length : Int) > 0 then (if 0 < (q.length : Int) then demurrageref03_Near.j0 k y (Int.tmod (rd q 0) 2 == 1) q else none) else demurrageref03_Near.j0 k y false q) u1
        (At.bind (g := fun k y => if (q.length : Int) > 0 then (if 0 < (q.length : Int) then demurrageref03_Near.j0 k y (Int.tmod (rd q 0) 2 == 1) q else none) else demurrageref03_Near.j0 k y false q) c ?_))
    obtain ⟨K, h⟩ := j0 (bsg (bv u) (bv b)) (bv q % 2 == 1)
    refine ⟨K, fun k hk => ?_⟩
    rw [t1]
    exact (if_pos hq).trans ((if_pos hq).trans (h k hk))
  · have z : q = [] := List.eq_nil_of_length_eq_zero (by omega)
    obtain ⟨s, s1, s2, s3, s4⟩ := fin false (by rw [z]; simp [bv])
    refine ⟨s, ?_, s2, s3, s4⟩
    rw [s1]
    unfold demurrageref03_Near.f
    refine At.bind (g := fun k w => (demurrageref01_Plus.f k w.2 w.2).bind fun x => (demurrageref01_Cmp.f k x b).bind fun y => if (w.1.length : Int) > 0 then (if 0 < (w.1.length : Int) then demurrageref03_Near.j0 k y (Int.tmod (rd w.1 0) 2 == 1) w.1 else none) else demurrageref03_Near.j0 k y false w.1) e1
      (At.bind (g := fun k x => (demurrageref01_Cmp.f k x b).bind fun y => if (q.length : Int) > 0 then (if 0 < (q.length : Int) then demurrageref03_Near.j0 k y (Int.tmod (rd q 0) 2 == 1) q else none) else demurrageref03_Near.j0 k y false q) u1
        (At.bind (g := fun k y => if (q.length : Int) > 0 then (if 0 < (q.length : Int) then demurrageref03_Near.j0 k y (Int.tmod (rd q 0) 2 == 1) q else none) else demurrageref03_Near.j0 k y false q) c ?_))
    obtain ⟨K, h⟩ := j0 (bsg (bv u) (bv b)) false
    exact ⟨K, fun k hk => (if_neg hq).trans (h k hk)⟩

end Go.Proofs.Ytlppmfffdjfekaa.X

set_option maxRecDepth 10000
namespace Go.Proofs.Ytlppmfffdjfekaa.X
open Go.RowKit Go.Proofs.YtlppmfffdjfekaaW.PrintWords Go.Proofs.YtlppmfffdjfekaaW.PrintLast

/-- A product, divided, and rounded: the product x, the number d. -/
def parted (x d : Int) : Int × Int := if x < 340282366920938463463374607431768211456 ∧ d < 18446744073709551616 then (if ev x d ≤ 4611686018427387904 then (ev x d, 0) else (0, 6)) else (0, 6)
/-- What Part answers. -/
def parts (a b n d p : Int) : Int × Int := if a < 0 ∨ b < 0 ∨ p < 1 then (0, 1) else parted (a * b * n) (p * d)

theorem i_u64 {x : Int} (h0 : 0 ≤ x) (h1 : x < 9223372036854775808) : U64 x := ⟨h0, by omega⟩
theorem i_wrap {x : Int} (h0 : 0 ≤ x) (h1 : x < 9223372036854775808) : IntKind.u64.wrap x = x := IntWalk.u64_in x ⟨h0, by omega⟩

theorem round_at {x d : Int} (h0 : 0 ≤ x) (h1 : x < 340282366920938463463374607431768211456) (d0 : 0 < d) (d1 : d < 18446744073709551616) (k : Nat) :
    round_Even.f (k + 1) (x / 18446744073709551616) (x % 18446744073709551616) d = some (if ev x d ≤ 4611686018427387904 then (ev x d, 0) else (0, 6)) := by
  obtain ⟨p1, p2, p3⟩ := wv_parts h0 h1
  rw [even_eq p1 p2 ⟨by omega, by omega⟩ (by omega) k, p3]
  have n := (ev_near (x := x) d0).2.2.1
  by_cases c : ev x d ≤ 4611686018427387904
  · rw [if_pos c, if_pos ⟨by omega, c⟩]
  · rw [if_neg c, if_neg (fun x => c x.2)]

theorem mul_small {x y : Int} (h0 : 0 ≤ x) (h1 : x < 9223372036854775808) (g0 : 0 ≤ y) (g1 : y < 9223372036854775808) : 0 ≤ x * y ∧ x * y < 340282366920938463463374607431768211456 := by
  refine ⟨Int.mul_nonneg h0 g0, ?_⟩
  have : x * y ≤ 9223372036854775808 * 9223372036854775808 := Int.mul_le_mul (by omega) (by omega) g0 (by omega)
  omega

theorem rpart_j {a b n d p : Int} (a0 : 0 ≤ a) (a1 : a < 9223372036854775808) (b0 : 0 ≤ b) (b1 : b < 9223372036854775808) (n0 : 0 ≤ n) (n1 : n ≤ 4611686018427387904) (d0 : 1 ≤ d) (d1 : d ≤ 4611686018427387904) (p0 : 1 ≤ p) (p1 : p < 9223372036854775808) (k : Nat) :
    round_Part.j0 (k + 2) a b p false n d = some (parted (a * b * n) (p * d)) := by
  obtain ⟨m0, m1⟩ := mul_small a0 a1 b0 b1
  obtain ⟨e0, e1⟩ := mul_small (x := p) (y := d) (by omega) p1 (by omega) (by omega)
  have dp : 0 < p * d := Int.mul_pos (by omega) (by omega)
  have mn : 0 ≤ a * b * n := Int.mul_nonneg m0 n0
  obtain ⟨w1, w2, w3⟩ := wv_parts m0 m1
  have un : U64 n := ⟨n0, by omega⟩
  rw [round_Part.j0, if_neg (by decide), i_wrap a0 a1, i_wrap b0 b1, i_wrap n0 (by omega), i_wrap (x := p) (by omega) p1, i_wrap (x := d) (by omega) (by omega), mul_eq (i_u64 a0 a1) (i_u64 b0 b1), Option.bind_some]
  show ((wide_Times.f (a * b / 18446744073709551616) (a * b % 18446744073709551616) n).bind fun bt5652 => ((wide_Mul.f p d).bind fun bt5656 => (if bt5652.2.2 = 0 then (if bt5656.1 = 0 then ((round_Even.f (k + 1) bt5652.1 bt5652.2.1 bt5656.2).bind fun bt5659 => (some (bt5659.1, bt5659.2))) else (some (0, 6))) else (some (0, 6))))) = some (parted (a * b * n) (p * d))
  rw [times_eq w1 w2 un, w3, Option.bind_some, mul_eq (i_u64 (by omega) p1) (i_u64 (by omega) (by omega)), Option.bind_some]
  unfold parted
  clear w1 w2 w3
  generalize a * b * n = x at *
  generalize p * d = e at *
  by_cases c1 : x < 340282366920938463463374607431768211456
  · rw [if_pos c1]
    show (if (0 : Int) = 0 then (if e / 18446744073709551616 = 0 then ((round_Even.f (k + 1) (x / 18446744073709551616) (x % 18446744073709551616) (e % 18446744073709551616)).bind fun bt5659 => (some (bt5659.1, bt5659.2))) else (some (0, 6))) else (some (0, 6))) = _
    rw [if_pos rfl]
    by_cases c2 : e < 18446744073709551616
    · have e3 : e % 18446744073709551616 = e := by omega
      rw [if_pos (show e / 18446744073709551616 = 0 by omega), if_pos (show x < 340282366920938463463374607431768211456 ∧ e < 18446744073709551616 from ⟨c1, c2⟩), e3, round_at mn c1 dp c2 k, Option.bind_some]
    · rw [if_neg (show ¬ e / 18446744073709551616 = 0 by omega), if_neg (fun h : _ ∧ _ => c2 h.2)]
  · rw [if_neg c1, if_neg (fun h : _ ∧ _ => c1 h.1)]
    rfl

theorem rpart_at {a b n d p : Int} (a1 : a < 9223372036854775808) (b1 : b < 9223372036854775808) (n0 : 0 ≤ n) (n1 : n ≤ 4611686018427387904) (d0 : 1 ≤ d) (d1 : d ≤ 4611686018427387904) (p1 : p < 9223372036854775808) (k : Nat) :
    round_Part.f (k + 2) a b n d p = some (parts a b n d p) := by
  have no : round_Part.j0 (k + 2) a b p true n d = some (0, 1) := by rw [round_Part.j0, if_pos rfl]
  unfold round_Part.f parts
  by_cases c1 : a < 0
  · rw [if_pos c1, if_pos (Or.inl c1), no]
  · rw [if_neg c1]
    by_cases c2 : b < 0
    · rw [if_pos c2, if_pos (Or.inr (Or.inl c2)), no]
    · rw [if_neg c2]
      by_cases c3 : p < 1
      · rw [decide_eq_true c3, if_pos (Or.inr (Or.inr c3)), no]
      · rw [decide_eq_false c3, if_neg (by omega)]
        exact rpart_j (by omega) a1 (by omega) b1 n0 n1 d0 d1 (by omega) p1 k
end Go.Proofs.Ytlppmfffdjfekaa.X

set_option maxRecDepth 10000
namespace Go.Proofs.Ytlppmfffdjfekaa.X
open Go.RowKit Go.Proofs.YtlppmfffdjfekaaW.PrintWords Go.Proofs.YtlppmfffdjfekaaW.PrintLast

theorem bsg_ge {x y : Int} : bsg x y ≥ 0 ↔ ¬ x < y := by
  unfold bsg
  repeat' split
  all_goals omega

theorem refpart_j1 {v w : List Int} (v2 : Digs v) (w2 : Digs w) (lv : v.length < 1000) (lw : w.length < 1000) (wp : 0 < bv w) :
    At (fun k => demurrageref03_Part.j1 k (!decide (bv v < 340282366920938463463374607431768211456 ∧ bv w < 18446744073709551616)) v w) (parted (bv v) (bv w)) := by
  unfold parted
  by_cases c : bv v < 340282366920938463463374607431768211456 ∧ bv w < 18446744073709551616
  · rw [if_pos c, decide_eq_true c]
    obtain ⟨s, ⟨K1, h1⟩, s2, s3, s4⟩ := near_at v2 w2 (by omega) (by omega) wp
    obtain ⟨K2, h2⟩ := tell_at s2 (by omega)
    rw [s3] at h2
    generalize (if ev (bv v) (bv w) ≤ 4611686018427387904 then (ev (bv v) (bv w), (0 : Int)) else (0, 6)) = R at h2 ⊢
    refine ⟨K1 + K2 + 1, fun k hk => ?_⟩
    obtain ⟨j, rfl⟩ : ∃ j, k = j + 1 := ⟨k - 1, by omega⟩
    have h1 : demurrageref03_Near.f j v w = some s := h1 j (by omega)
    have h2 : demurrageref03_told.f j s = some R := h2 j (by omega)
    show demurrageref03_Part.j1 (j + 1) false v w = some R
    rw [demurrageref03_Part.j1, if_neg (by decide), h1, Option.bind_some, h2, Option.bind_some]
  · rw [if_neg c, decide_eq_false c]
    refine ⟨1, fun k hk => ?_⟩
    obtain ⟨j, rfl⟩ : ∃ j, k = j + 1 := ⟨k - 1, by omega⟩
    show demurrageref03_Part.j1 (j + 1) true v w = _
    rw [demurrageref03_Part.j1, if_pos rfl]

theorem refpart_j0 {a b n d p : Int} (a0 : 0 ≤ a) (a1 : a < 9223372036854775808) (b0 : 0 ≤ b) (b1 : b < 9223372036854775808) (n0 : 0 ≤ n) (n1 : n ≤ 4611686018427387904) (d0 : 1 ≤ d) (d1 : d ≤ 4611686018427387904) (p0 : 1 ≤ p) (p1 : p < 9223372036854775808) :
    At (fun k => demurrageref03_Part.j0 k a b p false n d) (parted (a * b * n) (p * d)) := by
  obtain ⟨la, ⟨K1, h1⟩, A2, A3, A4, A5⟩ := from_at (x := a) ⟨a0, a1⟩
  obtain ⟨lb, ⟨K2, h2⟩, B2, B3, B4, B5⟩ := from_at (x := b) ⟨b0, b1⟩
  obtain ⟨u, ⟨K3, h3⟩, u2, u3, u4, u5⟩ := prod_at A2 B2 (by omega) (by omega)
  obtain ⟨ln, ⟨K4, h4⟩, N2, N3, N4, N5⟩ := from_at (x := n) ⟨n0, by omega⟩
  obtain ⟨v, ⟨K5, h5⟩, v2, v3, v4, v5⟩ := prod_at u2 N2 (by omega) (by omega)
  obtain ⟨lp, ⟨K6, h6⟩, P2, P3, P4, P5⟩ := from_at (x := p) ⟨by omega, p1⟩
  obtain ⟨ld, ⟨K7, h7⟩, D2, D3, D4, D5⟩ := from_at (x := d) ⟨by omega, by omega⟩
  obtain ⟨w, ⟨K8, h8⟩, w2, w3, w4, w5⟩ := prod_at P2 D2 (by omega) (by omega)
  obtain ⟨hf, ⟨K9, h9⟩, F2, F3, F4, F5⟩ := fromU_at (x := 4294967296) ⟨by omega, by omega⟩
  obtain ⟨L, ⟨K10, h10⟩, L2, L3, L4⟩ := limit_at
  obtain ⟨K11, h11⟩ := cmp_at v2 L2 (by omega) (by omega)
  obtain ⟨hh, ⟨K12, h12⟩, H2, H3, H4, H5⟩ := prod_at F2 F2 (by omega) (by omega)
  obtain ⟨K13, h13⟩ := cmp_at w2 H2 (by omega) (by omega)
  have ev1 : bv v = a * b * n := by rw [v3, u3, A3, B3, N3]
  have ew1 : bv w = p * d := by rw [w3, P3, D3]
  have eh : bv hh = 18446744073709551616 := by rw [H3, F3]; rfl
  obtain ⟨K14, h14⟩ := refpart_j1 v2 w2 (by omega) (by omega) (by rw [ew1]; exact Int.mul_pos (by omega) (by omega))
  rw [L3] at h11
  rw [eh] at h13
  rw [← ev1, ← ew1]
  clear ev1 ew1 eh v3 w3 H3
  generalize parted (bv v) (bv w) = R at h14 ⊢
  refine ⟨K1 + K2 + K3 + K4 + K5 + K6 + K7 + K8 + K9 + K10 + K11 + K12 + K13 + K14 + 1, fun k hk => ?_⟩
  obtain ⟨j, rfl⟩ : ∃ j, k = j + 1 := ⟨k - 1, by omega⟩
  have h1 : demurrageref01_From.f j a = some la := h1 j (by omega)
  have h2 : demurrageref01_From.f j b = some lb := h2 j (by omega)
  have h3 : demurrageref01_Prod.f j la lb = some u := h3 j (by omega)
  have h4 : demurrageref01_From.f j n = some ln := h4 j (by omega)
  have h5 : demurrageref01_Prod.f j u ln = some v := h5 j (by omega)
  have h6 : demurrageref01_From.f j p = some lp := h6 j (by omega)
  have h7 : demurrageref01_From.f j d = some ld := h7 j (by omega)
  have h8 : demurrageref01_Prod.f j lp ld = some w := h8 j (by omega)
  have h9 : demurrageref01_FromU.f j 4294967296 = some hf := h9 j (by omega)
  have h10 : demurrageref01_Limit.f j = some L := h10 j (by omega)
  have h11 : demurrageref01_Cmp.f j v L = some (bsg (bv v) 340282366920938463463374607431768211456) := h11 j (by omega)
  have h12 : demurrageref01_Prod.f j hf hf = some hh := h12 j (by omega)
  have h13 : demurrageref01_Cmp.f j w hh = some (bsg (bv w) 18446744073709551616) := h13 j (by omega)
  have h14 : demurrageref03_Part.j1 j (!decide (bv v < 340282366920938463463374607431768211456 ∧ bv w < 18446744073709551616)) v w = some R := h14 j (by omega)
  show demurrageref03_Part.j0 (j + 1) a b p false n d = some R
  rw [demurrageref03_Part.j0, if_neg (by decide), h1, Option.bind_some, h2, Option.bind_some, h3, Option.bind_some, h4, Option.bind_some, h5, Option.bind_some, h6, Option.bind_some, h7, Option.bind_some, h8, Option.bind_some,
    h9, Option.bind_some, h10, Option.bind_some, h11, Option.bind_some]
  by_cases c : bv v < 340282366920938463463374607431768211456
  · rw [if_neg (fun h => bsg_ge.mp h c), h12, Option.bind_some, h13, Option.bind_some]
    have e : decide (bsg (bv w) 18446744073709551616 ≥ 0) = !decide (bv v < 340282366920938463463374607431768211456 ∧ bv w < 18446744073709551616) := by
      by_cases g : bv w < 18446744073709551616
      · rw [decide_eq_false (fun h => bsg_ge.mp h g), decide_eq_true ⟨c, g⟩]
        rfl
      · rw [decide_eq_true (bsg_ge.mpr g), decide_eq_false (fun h : _ ∧ _ => g h.2)]
        rfl
    rw [e]
    exact h14
  · rw [if_pos (bsg_ge.mpr c)]
    rw [decide_eq_false (fun h : _ ∧ _ => c h.1)] at h14
    exact h14

theorem refpart_at {a b n d p : Int} (a1 : a < 9223372036854775808) (b1 : b < 9223372036854775808) (n0 : 0 ≤ n) (n1 : n ≤ 4611686018427387904) (d0 : 1 ≤ d) (d1 : d ≤ 4611686018427387904) (p1 : p < 9223372036854775808) :
    At (fun k => demurrageref03_Part.f k a b n d p) (parts a b n d p) := by
  have no : ∀ k, demurrageref03_Part.j0 (k + 1) a b p true n d = some (0, 1) := fun k => by rw [demurrageref03_Part.j0, if_pos rfl]
  unfold parts
  by_cases c : a < 0 ∨ b < 0 ∨ p < 1
  · rw [if_pos c]
    refine ⟨1, fun k hk => ?_⟩
    obtain ⟨j, rfl⟩ : ∃ j, k = j + 1 := ⟨k - 1, by omega⟩
    show demurrageref03_Part.f (j + 1) a b n d p = _
    unfold demurrageref03_Part.f
    by_cases c1 : a < 0
    · rw [if_pos c1, no]
    · rw [if_neg c1]
      by_cases c2 : b < 0
      · rw [if_pos c2, no]
      · rw [if_neg c2, decide_eq_true (show p < 1 by omega), no]
  · rw [if_neg c]
    obtain ⟨K, h⟩ := refpart_j0 (a := a) (b := b) (n := n) (d := d) (p := p) (by omega) a1 (by omega) b1 n0 n1 d0 d1 (by omega) p1
    refine ⟨K, fun k hk => ?_⟩
    have h : demurrageref03_Part.j0 k a b p false n d = some (parted (a * b * n) (p * d)) := h k hk
    show demurrageref03_Part.f k a b n d p = _
    unfold demurrageref03_Part.f
    rw [if_neg (show ¬ a < 0 by omega), if_neg (show ¬ b < 0 by omega), decide_eq_false (show ¬ p < 1 by omega)]
    exact h
end Go.Proofs.Ytlppmfffdjfekaa.X

namespace Go.Proofs.Ytlppmfffdjfekaa.X
open Go.RowKit Go.Proofs.YtlppmfffdjfekaaW.PrintWords Go.Proofs.YtlppmfffdjfekaaW.PrintLast

/-- What is answered in so many rounds is answered in more. -/
theorem At.grow {α : Type} {f : Nat → Option α} {r : α} {K : Nat} (m : ∀ k, LeO (f k) (f (k + 1))) (h : f K = some r) : At f r := by
  refine ⟨K, fun k hk => ?_⟩
  obtain ⟨n, rfl⟩ : ∃ n, k = K + n := ⟨k - K, by omega⟩
  clear hk
  induction n with
  | zero => exact h
  | succ n ih => exact m (K + n) r ih
end Go.Proofs.Ytlppmfffdjfekaa.X

set_option maxRecDepth 10000
namespace Go.Proofs.Ytlppmfffdjfekaa.X
open Go.RowKit Go.Proofs.YtlppmfffdjfekaaW.PrintWords Go.Proofs.YtlppmfffdjfekaaW.PrintLast

/-- A right fraction. -/
def Rgt (n d : Int) : Prop := 0 ≤ n ∧ n ≤ 4611686018427387904 ∧ 1 ≤ d ∧ d ≤ 4611686018427387904 ∧ Nat.gcd n.toNat d.toNat = 1
instance (n d : Int) : Decidable (Rgt n d) := by unfold Rgt; infer_instance

theorem right_loop : ∀ (m x y k : Nat), y ≤ m → m + 1 ≤ k → 0 < x + y → demurrageref02_Right.l0 k x y = some (Nat.gcd x y == 1) := by
  intro m
  induction m with
  | zero =>
    intro x y k hy hk h0
    obtain ⟨j, rfl⟩ : ∃ j, k = j + 1 := ⟨k - 1, by omega⟩
    obtain rfl : y = 0 := by omega
    rw [demurrageref02_Right.l0, if_neg (by omega)]
    unfold demurrageref02_divides.f
    rw [if_neg (by omega), Option.bind_some, Nat.gcd_zero_right]
    congr 1
    have e : Int.tmod 1 (x : Int) = ((1 % x : Nat) : Int) := by
      rw [Int.tmod_eq_emod_of_nonneg (by omega), Int.natCast_emod]
      rfl
    rw [e]
    by_cases h1 : x = 1
    · subst h1
      rfl
    · rw [Nat.mod_eq_of_lt (by omega : 1 < x)]
      simp [h1]
  | succ m ih =>
    intro x y k hy hk h0
    obtain ⟨j, rfl⟩ : ∃ j, k = j + 1 := ⟨k - 1, by omega⟩
    by_cases h1 : y = 0
    · subst h1
      exact ih x 0 (j + 1) (by omega) (by omega) h0
    · rw [demurrageref02_Right.l0, if_pos (by omega), if_neg (by omega)]
      have e : Int.tmod (x : Int) (y : Int) = ((x % y : Nat) : Int) := by
        rw [Int.tmod_eq_emod_of_nonneg (by omega), Int.natCast_emod]
      have l : x % y < y := Nat.mod_lt _ (by omega)
      rw [e, ih y (x % y) j (by omega) (by omega) (by omega), Nat.gcd_comm y, ← Nat.gcd_rec, Nat.gcd_comm]

theorem right_at (n d : Int) : At (fun k => demurrageref02_Right.f k n d) (decide (Rgt n d)) := by
  refine ⟨d.toNat + 3, fun k hk => ?_⟩
  obtain ⟨j, rfl⟩ : ∃ j, k = j + 1 := ⟨k - 1, by omega⟩
  have no : ∀ a b : Int, demurrageref02_Right.j0 (j + 1) true a b = some false := fun a b => by rw [demurrageref02_Right.j0, if_pos rfl]
  show demurrageref02_Right.f (j + 1) n d = _
  unfold demurrageref02_Right.f
  by_cases h1 : n < 0
  · rw [if_pos h1, no, decide_eq_false (fun h => by have := h.1; omega)]
  · rw [if_neg h1]
    by_cases h2 : n > 4611686018427387904
    · rw [if_pos h2, no, decide_eq_false (fun h => by have := h.2.1; omega)]
    · rw [if_neg h2]
      by_cases h3 : d < 1
      · rw [if_pos h3, no, decide_eq_false (fun h => by have := h.2.2.1; omega)]
      · rw [if_neg h3]
        by_cases h4 : d > 4611686018427387904
        · rw [decide_eq_true h4, no, decide_eq_false (fun h => by have := h.2.2.2.1; omega)]
        · rw [decide_eq_false h4, demurrageref02_Right.j0, if_neg (by decide)]
          obtain ⟨x, rfl⟩ := Int.eq_ofNat_of_zero_le (show 0 ≤ n by omega)
          obtain ⟨y, rfl⟩ := Int.eq_ofNat_of_zero_le (show 0 ≤ d by omega)
          rw [right_loop y x y j (Nat.le_refl _) (by omega) (by omega)]
          congr 1
          rw [Bool.eq_iff_iff, beq_iff_eq, decide_eq_true_eq]
          unfold Rgt
          rw [Int.toNat_natCast, Int.toNat_natCast]
          omega
end Go.Proofs.Ytlppmfffdjfekaa.X

set_option maxRecDepth 10000
namespace Go.Proofs.Ytlppmfffdjfekaa.X
open Go.RowKit Go.Proofs.YtlppmfffdjfekaaW.PrintWords Go.Proofs.YtlppmfffdjfekaaW.PrintLast

theorem gcdn (x y : Nat) (hx : (x : Int) ≤ 18446744073709551615) (hy : (y : Int) ≤ 18446744073709551615) : ratio_Gcd.f x y = some (Nat.gcd x y : Int) := by
  have ux : U64 (x : Int) := ⟨Int.natCast_nonneg x, by omega⟩
  have uy : U64 (y : Int) := ⟨Int.natCast_nonneg y, by omega⟩
  unfold ratio_Gcd.f
  rw [if_pos ⟨ux, uy⟩, Int.toNat_natCast, Int.toNat_natCast]
theorem nat_wrap {x : Nat} (h : x ≤ 9223372036854775807) : IntKind.u64.wrap (x : Int) = x := IntWalk.u64_in _ ⟨Int.natCast_nonneg x, by omega⟩

theorem isright {n d : Int} : ratio_Right.f n d = some (decide (Rgt n d)) := by
  unfold ratio_Right.f
  by_cases h1 : n ≥ 0
  · rw [if_pos h1]
    by_cases h2 : n ≤ 4611686018427387904
    · rw [if_pos h2]
      by_cases h3 : d ≥ 1
      · rw [if_pos h3]
        by_cases h4 : d ≤ 4611686018427387904
        · rw [if_pos h4]
          obtain ⟨x, rfl⟩ := Int.eq_ofNat_of_zero_le h1
          obtain ⟨y, rfl⟩ := Int.eq_ofNat_of_zero_le (show 0 ≤ d by omega)
          rw [nat_wrap (x := x) (by omega), nat_wrap (x := y) (by omega), gcdn x y (by omega) (by omega), Option.bind_some]
          congr 1
          rw [Bool.eq_iff_iff, beq_iff_eq, decide_eq_true_eq]
          unfold Rgt
          rw [Int.toNat_natCast, Int.toNat_natCast]
          omega
        · rw [if_neg h4, decide_eq_false (fun h => h4 h.2.2.2.1)]
      · rw [if_neg h3, decide_eq_false (fun h => h3 h.2.2.1)]
    · rw [if_neg h2, decide_eq_false (fun h => h2 h.2.1)]
  · rw [if_neg h1, decide_eq_false (fun h => h1 h.1)]

/-- Interest for a part of a year. -/
def ofv (a b n d : Int) : Int × Int := if Rgt n d then parts a b n d 10000 else (0, 1)

theorem of_at {a b n d : Int} (ha : a < 9223372036854775808) (hb : b < 9223372036854775808) : At (fun k => accrue_Of.f k a b n d) (ofv a b n d) := by
  refine ⟨2, fun k hk => ?_⟩
  obtain ⟨j, rfl⟩ : ∃ j, k = j + 2 := ⟨k - 2, by omega⟩
  show accrue_Of.f (j + 2) a b n d = _
  unfold accrue_Of.f ofv
  rw [isright, Option.bind_some]
  by_cases r : Rgt n d
  · obtain ⟨n0, n1, d0, d1, _⟩ := id r
    rw [decide_eq_true r, if_pos rfl, if_pos r, rpart_at ha hb n0 n1 d0 d1 (by omega) j, Option.bind_some]
  · rw [decide_eq_false r, if_neg (by decide), if_neg r]

theorem refof_at {a b n d : Int} (ha : a < 9223372036854775808) (hb : b < 9223372036854775808) : At (fun k => demurrageref18_Of.f k a b n d) (ofv a b n d) := by
  obtain ⟨K1, h1⟩ := right_at n d
  by_cases r : Rgt n d
  · obtain ⟨n0, n1, d0, d1, _⟩ := id r
    obtain ⟨K2, h2⟩ := refpart_at (a := a) (b := b) (n := n) (d := d) (p := 10000) ha hb n0 n1 d0 d1 (by omega)
    refine ⟨K1 + K2, fun k hk => ?_⟩
    have h1 : demurrageref02_Right.f k n d = some (decide (Rgt n d)) := h1 k (by omega)
    have h2 : demurrageref03_Part.f k a b n d 10000 = some (parts a b n d 10000) := h2 k (by omega)
    show demurrageref18_Of.f k a b n d = _
    unfold demurrageref18_Of.f ofv
    rw [h1, Option.bind_some, if_pos r]
    have e : a < 0 ∨ b < 0 → parts a b n d 10000 = (0, 1) := fun h => by unfold parts; rw [if_pos (by omega)]
    by_cases c1 : a < 0
    · rw [if_pos c1, e (Or.inl c1)]
    · rw [if_neg c1]
      by_cases c2 : b < 0
      · rw [if_pos c2, e (Or.inr c2)]
      · rw [if_neg c2, decide_eq_true r, if_pos rfl, h2, Option.bind_some]
  · refine ⟨K1, fun k hk => ?_⟩
    have h1 : demurrageref02_Right.f k n d = some (decide (Rgt n d)) := h1 k (by omega)
    show demurrageref18_Of.f k a b n d = _
    unfold demurrageref18_Of.f ofv
    rw [h1, Option.bind_some, if_neg r, decide_eq_false r]
    by_cases c1 : a < 0
    · rw [if_pos c1]
    · rw [if_neg c1]
      by_cases c2 : b < 0
      · rw [if_pos c2]
      · rw [if_neg c2, if_neg (by decide)]
end Go.Proofs.Ytlppmfffdjfekaa.X

set_option maxRecDepth 10000
namespace Go.Proofs.Ytlppmfffdjfekaa.X
open Go.RowKit Go.Proofs.YtlppmfffdjfekaaW.PrintWords Go.Proofs.YtlppmfffdjfekaaW.PrintLast

/-- A usual part of a year. -/
def Us (x : S42) : Prop := Rgt x.f0 x.f1 ∧ x.f0 ≤ 10000000000000 ∧ x.f1 ≤ 10000000000000 ∧ x.f0 ≤ 100 * x.f1

theorem usual_loop (l : List S42) (hl : l.length < 9223372036854775807) : ∀ (m i : Nat), i + m = l.length →
    ∃ u, At (fun k => demurrageref18_Usual.l0 k l (i : Int)) u ∧ (u = true → ∀ j : Nat, i ≤ j → j < l.length → Us (rd_T42 l (j : Int))) := by
  intro m
  induction m with
  | zero =>
    intro i hi
    refine ⟨true, ⟨1, fun k hk => ?_⟩, fun _ j h1 h2 => by omega⟩
    obtain ⟨q, rfl⟩ : ∃ q, k = q + 1 := ⟨k - 1, by omega⟩
    show demurrageref18_Usual.l0 (q + 1) l (i : Int) = _
    rw [demurrageref18_Usual.l0, if_neg (by omega)]
  | succ m ih =>
    intro i hi
    obtain ⟨u, ⟨K1, h1⟩, hu⟩ := ih (i + 1) (by omega)
    obtain ⟨K2, h2⟩ := right_at (rd_T42 l (i : Int)).f0 (rd_T42 l (i : Int)).f1
    have wi : wrap64 ((i : Int) + 1) = ((i + 1 : Nat) : Int) := by rw [wrap64_small (by omega) (by omega)]; omega
    by_cases c : Us (rd_T42 l (i : Int))
    · refine ⟨u, ⟨K1 + K2 + 1, fun k hk => ?_⟩, fun e j g1 g2 => ?_⟩
      · obtain ⟨q, rfl⟩ : ∃ q, k = q + 1 := ⟨k - 1, by omega⟩
        have h1 := h1 q (by omega)
        have h2 : demurrageref02_Right.f q (rd_T42 l (i : Int)).f0 (rd_T42 l (i : Int)).f1 = some (decide (Rgt (rd_T42 l (i : Int)).f0 (rd_T42 l (i : Int)).f1)) := h2 q (by omega)
        obtain ⟨c1, c2, c3, c4⟩ := id c
        have c5 := c1.2.2.1
        have w : wrap64 (100 * (rd_T42 l (i : Int)).f1) = 100 * (rd_T42 l (i : Int)).f1 := wrap64_small (by omega) (by omega)
        show demurrageref18_Usual.l0 (q + 1) l (i : Int) = _
        rw [demurrageref18_Usual.l0, if_pos (by omega), if_pos (by omega), h2, Option.bind_some, decide_eq_true c1, if_pos rfl, w, if_neg (by omega), if_neg (by omega), if_neg (by omega), wi]
        exact h1
      · by_cases z : j = i
        · subst z
          exact c
        · exact hu e j (by omega) g2
    · refine ⟨false, ⟨K2 + 1, fun k hk => ?_⟩, fun e => by cases e⟩
      obtain ⟨q, rfl⟩ : ∃ q, k = q + 1 := ⟨k - 1, by omega⟩
      have h2 : demurrageref02_Right.f q (rd_T42 l (i : Int)).f0 (rd_T42 l (i : Int)).f1 = some (decide (Rgt (rd_T42 l (i : Int)).f0 (rd_T42 l (i : Int)).f1)) := h2 q (by omega)
      show demurrageref18_Usual.l0 (q + 1) l (i : Int) = _
      rw [demurrageref18_Usual.l0, if_pos (by omega), if_pos (by omega), h2, Option.bind_some]
      by_cases c1 : Rgt (rd_T42 l (i : Int)).f0 (rd_T42 l (i : Int)).f1
      · rw [decide_eq_true c1, if_pos rfl]
        by_cases c2 : (rd_T42 l (i : Int)).f0 > 10000000000000
        · rw [if_pos c2]
        · rw [if_neg c2]
          by_cases c3 : (rd_T42 l (i : Int)).f1 > 10000000000000
          · rw [if_pos c3]
          · have c5 := c1.2.2.1
            have w : wrap64 (100 * (rd_T42 l (i : Int)).f1) = 100 * (rd_T42 l (i : Int)).f1 := wrap64_small (by omega) (by omega)
            rw [if_neg c3, w, if_pos (show (rd_T42 l (i : Int)).f0 > 100 * (rd_T42 l (i : Int)).f1 from by
              by_cases c4 : (rd_T42 l (i : Int)).f0 ≤ 100 * (rd_T42 l (i : Int)).f1
              · exact absurd ⟨c1, by omega, by omega, c4⟩ c
              · omega)]
      · rw [decide_eq_false c1, if_neg (by decide)]
theorem usual_at (l : List S42) (hl : l.length < 9223372036854775807) : ∃ u, At (fun k => demurrageref18_Usual.f k l) u ∧ (u = true → ∀ j : Nat, j < l.length → Us (rd_T42 l (j : Int))) := by
  obtain ⟨u, h, g⟩ := usual_loop l hl l.length 0 (by omega)
  exact ⟨u, h, fun e j hj => g e j (by omega) hj⟩

/-- Interest, where nothing is too great. -/
def intr (o r : Int) (x : S42) : Int := ev (o * r * x.f0) (10000 * x.f1)
theorem intr_fits {o r : Int} {x : S42} (o0 : 0 ≤ o) (o1 : o ≤ 1000000000000000) (r0 : 0 ≤ r) (r1 : r ≤ 9000) (h : Us x) : ofv o r x.f0 x.f1 = (intr o r x, 0) ∧ 0 ≤ intr o r x ∧ intr o r x ≤ 90000000000000001 := by
  obtain ⟨c, n1, d1, nd⟩ := h
  obtain ⟨n0, _, d0, _, _⟩ := id c
  have p1 : 0 ≤ o * r := Int.mul_nonneg o0 r0
  have p2 : o * r ≤ 1000000000000000 * 9000 := Int.mul_le_mul o1 r1 r0 (by omega)
  have p3 : 0 ≤ o * r * x.f0 := Int.mul_nonneg p1 n0
  have p4 : o * r * x.f0 ≤ 1000000000000000 * 9000 * 10000000000000 := Int.mul_le_mul p2 n1 n0 (by omega)
  have p5 : o * r * x.f0 ≤ 1000000000000000 * 9000 * (100 * x.f1) := Int.mul_le_mul p2 nd n0 (by omega)
  have q : o * r * x.f0 / (10000 * x.f1) ≤ 90000000000000000 := Int.ediv_le_of_le_mul (by omega) (by omega)
  have q0 : 0 ≤ o * r * x.f0 / (10000 * x.f1) := Int.ediv_nonneg p3 (by omega)
  have n := ev_near (x := o * r * x.f0) (m := 10000 * x.f1) (by omega)
  have n1 := n.2.2.1
  have n2 := n.2.2.2
  clear n
  unfold intr
  refine ⟨?_, by omega, by omega⟩
  unfold ofv parts parted
  rw [if_pos c, if_neg (by omega), if_pos ⟨by omega, by omega⟩, if_pos (by omega)]

/-- The row at a place: open, the place's interest, what is paid back. -/
def prow (m r each : Int) (ps : List S42) (i : Nat) : S37 :=
  let o := m - i * each
  let b := if i + 1 = ps.length then o else each
  ⟨o, intr o r (rd_T42 ps (i : Int)), b, intr o r (rd_T42 ps (i : Int)) + b, o - b⟩

theorem rows_from {m r each : Int} {ps : List S42} (m1 : m ≤ 1000000000000000) (r0 : 0 ≤ r) (r1 : r ≤ 9000) (e0 : 0 ≤ each) (e1 : each * ps.length ≤ m) (hp : ps.length ≤ 1200) (hu : ∀ j : Nat, j < ps.length → Us (rd_T42 ps (j : Int))) (hpos : 0 < ps.length) :
    ∀ (d i : Nat), i + d = ps.length → ∀ out : List S37, out = (List.range i).map (prow m r each ps) → ∀ o : Int, o = (if i = ps.length then 0 else m - i * each) →
      At (fun k => plain_table.l0 k r ps each out o (i : Int)) ((List.range ps.length).map (prow m r each ps), 0) := by
  intro d
  induction d with
  | zero =>
    intro i hi out ho o hoo
    have hi : i = ps.length := by omega
    subst hi
    refine ⟨1, fun k hk => ?_⟩
    obtain ⟨q, rfl⟩ : ∃ q, k = q + 1 := ⟨k - 1, by omega⟩
    have ln : out.length = ps.length := by rw [ho]; simp
    have last : rd_T37 out ((ps.length - 1 : Nat) : Int) = prow m r each ps (ps.length - 1) := by
      rw [ho]
      unfold rd_T37
      rw [Int.toNat_natCast, List.getD_eq_getElem?_getD, List.getElem?_map, List.getElem?_range (by omega)]
      rfl
    have ob : ((ps.length - 1 : Nat) : Int) * each ≤ each * ps.length := by
      rw [Int.mul_comm]
      exact Int.mul_le_mul_of_nonneg_left (by omega) e0
    have ob0 : 0 ≤ ((ps.length - 1 : Nat) : Int) * each := Int.mul_nonneg (by omega) e0
    have f := intr_fits (o := m - ((ps.length - 1 : Nat) : Int) * each) (r := r) (x := rd_T42 ps ((ps.length - 1 : Nat) : Int)) (by omega) (by omega) r0 r1 (hu _ (by omega))
    have f3 : (prow m r each ps (ps.length - 1)).f3 ≤ 4611686018427387904 := by
      have f2 := f.2.2
      clear f
      unfold prow
      show intr (m - ((ps.length - 1 : Nat) : Int) * each) r (rd_T42 ps ((ps.length - 1 : Nat) : Int)) + (if ps.length - 1 + 1 = ps.length then m - ((ps.length - 1 : Nat) : Int) * each else each) ≤ _
      rw [if_pos (by omega)]
      omega
    have t1 : ¬ (ps.length : Int) < (ps.length : Int) := by omega
    have t2 : (0 : Int) ≤ ((ps.length - 1 : Nat) : Int) := by omega
    have t3 : ((ps.length - 1 : Nat) : Int) < (out.length : Int) := by omega
    have t4 : ¬ (prow m r each ps (ps.length - 1)).f3 > 4611686018427387904 := by omega
    have w : wrap64 ((ps.length : Int) - 1) = ((ps.length - 1 : Nat) : Int) := by
      clear f f3 t4 last ho ob ob0
      rw [wrap64_small (by omega) (by omega)]
      omega
    show plain_table.l0 (q + 1) r ps each out o (ps.length : Int) = _
    rw [plain_table.l0, if_neg t1, w, if_pos t2, if_pos t3, last, if_neg t4, ho]
  | succ d ih =>
    intro i hi out ho o hoo
    rw [if_neg (by omega)] at hoo
    have ob : (i : Int) * each ≤ each * ps.length := by
      rw [Int.mul_comm]
      exact Int.mul_le_mul_of_nonneg_left (by omega) e0
    have ob1 : ((i + 1 : Nat) : Int) * each ≤ each * ps.length := by
      rw [Int.mul_comm]
      exact Int.mul_le_mul_of_nonneg_left (by omega) e0
    have ob0 : 0 ≤ (i : Int) * each := Int.mul_nonneg (by omega) e0
    have os : ((i + 1 : Nat) : Int) * each = (i : Int) * each + each := by rw [Int.natCast_add, Int.add_mul]; simp
    obtain ⟨f1, f2, f3⟩ := intr_fits (o := o) (r := r) (x := rd_T42 ps (i : Int)) (by omega) (by omega) r0 r1 (hu i (by omega))
    obtain ⟨K1, a1⟩ := of_at (a := o) (b := r) (n := (rd_T42 ps (i : Int)).f0) (d := (rd_T42 ps (i : Int)).f1) (by omega) (by omega)
    rw [f1] at a1
    have ln : out.length = i := by rw [ho]; simp
    have t1 : (i : Int) < (ps.length : Int) := by omega
    have t2 : (0 : Int) ≤ (i : Int) := by omega
    have t3 : out.length < 3518437208883 := by omega
    clear f1
    obtain ⟨b, hb⟩ : ∃ b : Int, (if (i : Int) = (ps.length : Int) - 1 then o else each) = b := ⟨_, rfl⟩
    have hb2 : (if i + 1 = ps.length then o else each) = b := by
      rw [← hb]
      by_cases c : i + 1 = ps.length
      · rw [if_pos c, if_pos (by omega)]
      · rw [if_neg c, if_neg (by omega)]
    have b0 : 0 ≤ b ∧ b ≤ o := by
      rw [← hb]
      split <;> omega
    have w : wrap64 ((ps.length : Int) - 1) = (ps.length : Int) - 1 := wrap64_small (by clear hb hb2; omega) (by clear hb hb2; omega)
    have wi : wrap64 ((i : Int) + 1) = ((i + 1 : Nat) : Int) := by rw [wrap64_small (by clear w hb hb2; omega) (by clear w hb hb2; omega)]; clear w hb hb2; omega
    have w3 : wrap64 (intr o r (rd_T42 ps (i : Int)) + b) = intr o r (rd_T42 ps (i : Int)) + b := wrap64_small (by clear w wi hb hb2; omega) (by clear w wi hb hb2; omega)
    have w4 : wrap64 (o - b) = o - b := wrap64_small (by clear w wi w3 hb hb2; omega) (by clear w wi w3 hb hb2; omega)
    have row : prow m r each ps i = ⟨o, intr o r (rd_T42 ps (i : Int)), b, intr o r (rd_T42 ps (i : Int)) + b, o - b⟩ := by
      unfold prow
      rw [← hoo]
      show (⟨o, _, (if i + 1 = ps.length then o else each), _ + (if i + 1 = ps.length then o else each), o - (if i + 1 = ps.length then o else each)⟩ : S37) = _
      rw [hb2]
    obtain ⟨K2, g⟩ := ih (i + 1) (by clear w wi w3 w4; omega) (out ++ [(⟨o, intr o r (rd_T42 ps (i : Int)), b, intr o r (rd_T42 ps (i : Int)) + b, o - b⟩ : S37)]) (by rw [List.range_succ, List.map_append, ← ho, List.map_cons, List.map_nil, row]) (o - b) (by
      by_cases c : i + 1 = ps.length
      · rw [if_pos c]
        rw [if_pos c] at hb2
        clear w wi w3 w4 hb
        omega
      · rw [if_neg c]
        rw [if_neg c] at hb2
        clear w wi w3 w4 hb
        omega)
    refine ⟨K1 + K2 + 1, fun k hk => ?_⟩
    obtain ⟨q, rfl⟩ : ∃ q, k = q + 1 := ⟨k - 1, by clear w wi w3 w4 hb hb2; omega⟩
    have hq1 : K1 ≤ q := by clear w wi w3 w4 hb hb2; omega
    have hq2 : K2 ≤ q := by clear w wi w3 w4 hb hb2; omega
    have a1 : accrue_Of.f q o r (rd_T42 ps (i : Int)).f0 (rd_T42 ps (i : Int)).f1 = some (intr o r (rd_T42 ps (i : Int)), 0) := a1 q hq1
    have g := g q hq2
    show plain_table.l0 (q + 1) r ps each out o (i : Int) = _
    rw [plain_table.l0, if_pos t1, if_pos t2, a1, Option.bind_some, if_pos rfl, if_pos t3, w, hb]
    show plain_table.l0 q r ps each (out ++ [(⟨o, intr o r (rd_T42 ps (i : Int)), b, wrap64 (intr o r (rd_T42 ps (i : Int)) + b), wrap64 (o - b)⟩ : S37)]) (wrap64 (o - b)) (wrap64 ((i : Int) + 1)) = _
    rw [w3, w4, wi]
    exact g

theorem rows_at {m r each : Int} {ps : List S42} (m0 : 0 ≤ m) (m1 : m ≤ 1000000000000000) (r0 : 0 ≤ r) (r1 : r ≤ 9000) (e0 : 0 ≤ each) (e1 : each * ps.length ≤ m) (hp : ps.length ≤ 1200) (hu : ∀ j : Nat, j < ps.length → Us (rd_T42 ps (j : Int))) (hpos : 0 < ps.length) :
    At (fun k => plain_table.f k m r ps each) ((List.range ps.length).map (prow m r each ps), 0) := by
  obtain ⟨K, h⟩ := rows_from m1 r0 r1 e0 e1 hp hu hpos ps.length 0 (by omega) [] rfl m (by rw [if_neg (by omega)]; simp)
  refine ⟨K, fun k hk => ?_⟩
  show plain_table.f k m r ps each = _
  unfold plain_table.f
  rw [if_neg (by omega), if_neg (by omega), if_neg (by omega), if_neg (by omega)]
  exact h k hk
theorem row_rd (m r each : Int) (ps : List S42) {i : Nat} (h : i < ps.length) : rd_T37 ((List.range ps.length).map (prow m r each ps)) (i : Int) = prow m r each ps i := by
  unfold rd_T37
  rw [Int.toNat_natCast, List.getD_eq_getElem?_getD, List.getElem?_map, List.getElem?_range h]
  rfl
theorem rows_length (m r each : Int) (ps : List S42) : ((List.range ps.length).map (prow m r each ps)).length = ps.length := by simp
end Go.Proofs.Ytlppmfffdjfekaa.X

namespace Go.Proofs.Ytlppmfffdjfekaa.Flat
open Go.Deep Go.ChangeShapes Go.WideShapes Go.ChangeAt Go.RowKit Go.Proofs.Ytlppmfffdjfekaa.X Go.Proofs.YtlppmfffdjfekaaW.PrintWords

set_option maxRecDepth 100000 in
theorem open_ratios {H : Type} {enc : TypeId × Value → H} {w : World} {base : Nat} {spare : Nat → Bool} {held : Bool} {r : Reach} {b0 : Nat} {v : Value} {d : DataW H} {ps : List MemPlace}
    (hv : Value.okWide Try.prog w r b0 22 v) (h : DataW.Trod enc Try.prog w base spare held 22 v d ps) :
    ∃ (A : Option Addr) (c : Nat) (l : List S42), v = .slice A l.length c ∧ l.length ≤ c ∧ Kd.C k42 w A l.length l ∧ ∀ x ∈ l, (Lit.int .i64 x.f0).wf = true ∧ (Lit.int .i64 x.f1).wf = true := by
  obtain ⟨a, len, cap, rfl⟩ := okWide_slice Try.underlying22 hv
  obtain ⟨fuel, hf⟩ := h
  rcases open_slice Try.underlying22 hf with ⟨hcs, _⟩ | ⟨x, ln, cp, m, n, D, Pl, hcs, hb, hl, hm, hmm, hx, hel⟩
  · simp [Value.cells] at hcs
    obtain ⟨rfl, rfl, rfl⟩ := hcs
    exact ⟨none, 0, [], rfl, Nat.le_refl _, Kd.C_nil _ _, fun x hx => by cases hx⟩
  · simp [Value.cells] at hcs
    obtain ⟨rfl, rfl, rfl⟩ := hcs
    have hlm : len ≤ m := by rw [hmm]; split <;> omega
    have hc2 : Try.prog.cellsOf 42 = 2 := by kernel_rfl
    have each : ∀ i, i < len → ∃ q : S42, w.cell? (x.add (i * 2)) = some (.int .i64 q.f0) ∧ w.cell? (x.add (i * 2 + 1)) = some (.int .i64 q.f1) ∧ (Lit.int .i64 q.f0).wf = true ∧ (Lit.int .i64 q.f1).wf = true := by
      intro i hi
      obtain ⟨cs', h1, h2⟩ := hel i (by omega)
      rw [hc2] at h1
      obtain ⟨_, hlen, hcell⟩ := World.cells?_some h1
      obtain ⟨hcc, _⟩ := Flat.read 6 n 42 [.i64, .i64] cs' (D i, Pl i) (by kernel_rfl) hc2 h2
      obtain ⟨n0, vs, rfl, w0, hcc⟩ := cells_cons hcc
      obtain ⟨n1, vs, rfl, w1, hcc⟩ := cells_cons hcc
      obtain rfl := cells_nil hcc
      have c0 := hcell 0 (by omega)
      have c1 := hcell 1 (by omega)
      rw [Go.Deep.add_add] at c0 c1
      exact ⟨⟨n0, n1⟩, by simpa using c0, by simpa using c1, w0, w1⟩
    haveI : Inhabited S42 := ⟨⟨0, 0⟩⟩
    obtain ⟨q, hq⟩ := choose_lt each
    have el : ((List.range len).map q).length = len := by simp
    refine ⟨some x, cap, (List.range len).map q, by rw [el], by omega, ?_, ?_⟩
    · rw [el]
      refine ⟨el, by unfold maxLen at hm; omega, fun _ => ⟨x, rfl, fun j p hj => ?_⟩⟩
      obtain ⟨h1, h2⟩ := List.getElem?_eq_some_iff.1 hj
      rw [el] at h1
      have e : p = q j := by rw [← h2]; simp
      subst e
      obtain ⟨g0, g1, _, _⟩ := hq j h1
      refine ⟨[.int .i64 (q j).f0, .int .i64 (q j).f1], rfl, k42_mk w (q j), fun i u hu => ?_⟩
      match i, hu with
      | 0, hu =>
        simp at hu
        subst hu
        exact g0
      | 1, hu =>
        simp at hu
        subst hu
        exact g1
      | i + 2, hu => simp at hu
    · intro y hy
      obtain ⟨j, hj, rfl⟩ := List.mem_map.1 hy
      have := List.mem_range.1 hj
      exact ⟨(hq j this).2.2.1, (hq j this).2.2.2⟩
end Go.Proofs.Ytlppmfffdjfekaa.Flat

