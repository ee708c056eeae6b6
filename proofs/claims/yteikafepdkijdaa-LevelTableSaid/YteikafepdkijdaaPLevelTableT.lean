-- cut by prune.py, a program of this session
import Derived.Test.YteikafepdkijdaaPLevelTableXWCmp
import Derived.Test.YteikafepdkijdaaPLevelTableXWMul
import Derived.Test.YteikafepdkijdaaPLevelTableXBig
import Derived.Test.YteikafepdkijdaaPLevelTableHTrim
import Derived.Test.YteikafepdkijdaaPLevelTableXQuot
import Derived.Test.YteikafepdkijdaaPLevelTableXRound
import Derived.Test.YteikafepdkijdaaPLevelTableXRefThree
import Derived.Test.YteikafepdkijdaaPLevelTableXRoundPart
import Derived.Test.YteikafepdkijdaaPLevelTableXRefPart
import Derived.Test.YteikafepdkijdaaPLevelTableXRefRight
import Derived.Test.YteikafepdkijdaaPLevelTableXAccrue
import Derived.Test.YteikafepdkijdaaPLevelTableXRefOf
import Derived.Test.YteikafepdkijdaaPLevelTableHPlain
import Derived.Test.YteikafepdkijdaaPLevelTableX0
import Derived.Test.YteikafepdkijdaaPLevelTableXSame
import Derived.Test.YteikafepdkijdaaPLevelTableXUsual
import Derived.Test.YteikafepdkijdaaPLevelTableHEnds
import Derived.Test.YteikafepdkijdaaPLevelTableHLeast
import Derived.Test.YteikafepdkijdaaPLevelTableXMost
import Derived.Test.YteikafepdkijdaaPLevelTableXRefLevel
import Derived.Test.YteikafepdkijdaaPLevelTableXEnds
import Derived.Test.YteikafepdkijdaaPLevelTableHLevel
import Derived.Test.YteikafepdkijdaaPLevelTableXShownL
import Derived.Test.YteikafepdkijdaaPLevelTableTRow
import Derived.Deep.Slices
namespace Go.Proofs.Yteikafepdkijdaa.X
open Go.RowKit Go.Proofs.YteikafepdkijdaaW.PrintWords Go.Proofs.YteikafepdkijdaaW.PrintLast

theorem u64_wf {a : Int} (h : (Lit.int .u64 a).wf = true) : U64 a := by
 simp only [Lit.wf, IntKind.min, IntKind.max, IntKind.signed, IntKind.bits, Bool.and_eq_true] at h
 simp at h
 exact ⟨h.1, by omega⟩

theorem mul_eq {a b : Int} (ha : U64 a) (hb : U64 b) : wide_Mul.f a b = some (a * b / 18446744073709551616, a * b % 18446744073709551616) := by
 unfold wide_Mul.f bits_Mul64.f
 rw [if_pos ⟨ha, hb⟩]
 rfl

theorem mul_lt {a b : Int} (ha : U64 a) (hb : U64 b) : 0 ≤ a * b ∧ a * b ≤ 340282366920938463426481119284349108225 := by
 obtain ⟨a1, a2⟩ := ha
 obtain ⟨b1, b2⟩ := hb
 refine ⟨Int.mul_nonneg a1 b1, ?_⟩
 have h1 : a * b ≤ 18446744073709551615 * b := Int.mul_le_mul_of_nonneg_right (by omega) b1
 omega

theorem compare_eq (a b : Int) : cmp_Compare_uint64.f a b = some (if a < b then -1 else if a = b then 0 else 1) := by
 unfold cmp_Compare_uint64.f cmp_isNaN_uint64.f
 simp only [bne_self_eq_false, Option.bind_some, Bool.false_eq_true, if_false]
 split
 ·rfl
 ·split
  ·rw [if_neg (by omega)]
  ·rw [if_pos (by omega)]

theorem wcmp_eq {h1 l1 h2 l2 : Int} (a1 : U64 h1) (a2 : U64 l1) (b1 : U64 h2) (b2 : U64 l2) : wide_Cmp.f h1 l1 h2 l2 = some (if wv h1 l1 < wv h2 l2 then -1 else if wv h1 l1 = wv h2 l2 then 0 else 1) := by
 unfold wide_Cmp.f
 simp only [compare_eq, Option.bind_some]
 obtain ⟨p1, p2⟩ := a1
 obtain ⟨p3, p4⟩ := a2
 obtain ⟨p5, p6⟩ := b1
 obtain ⟨p7, p8⟩ := b2
 unfold wv
 split
 ·subst h1
  congr 1
  repeat' split
  all_goals omega
 ·congr 1
  repeat' split
  all_goals omega

theorem of_eq (a : Int) : wide_Of.f a = some (0, a) := rfl

theorem add_eq {h1 l1 h2 l2 : Int} (a1 : U64 h1) (a2 : U64 l1) (b1 : U64 h2) (b2 : U64 l2) : wide_Add.f h1 l1 h2 l2 = some (if wv h1 l1 + wv h2 l2 < 340282366920938463463374607431768211456 then ((wv h1 l1 + wv h2 l2) / 18446744073709551616, (wv h1 l1 + wv h2 l2) % 18446744073709551616, 0) else (0, 0, 6)) := by
 unfold wide_Add.f
 rw [if_pos ⟨⟨a1, a2⟩, b1, b2⟩]
 split <;> rfl
theorem times_eq {h l n : Int} (a1 : U64 h) (a2 : U64 l) (b : U64 n) : wide_Times.f h l n = some (if wv h l * n < 340282366920938463463374607431768211456 then (wv h l * n / 18446744073709551616, wv h l * n % 18446744073709551616, 0) else (0, 0, 6)) := by
 unfold wide_Times.f
 have m1 := mul_lt a1 b
 have m2 := mul_lt a2 b
 have e : wv h l * n = h * n * 18446744073709551616 + l * n := by unfold wv; rw [Int.add_mul, Int.mul_right_comm]
 rw [mul_eq a2 b, mul_eq a1 b, e]
 generalize h * n = p at m1
 generalize l * n = q at m2
 simp only [Option.bind_some]
 split
 ·rename_i hz
  rw [add_eq ⟨by omega, by omega⟩ ⟨by omega, by omega⟩ ⟨by omega, by omega⟩ ⟨by omega, by omega⟩]
  have e2 : wv (q / 18446744073709551616) (q % 18446744073709551616) + wv (p % 18446744073709551616) 0 = p * 18446744073709551616 + q := by unfold wv; omega
  rw [e2]
  simp only [Option.bind_some]
 ·rw [if_neg (by omega)]

theorem div_eq {h l d : Int} (a1 : U64 h) (a2 : U64 l) (b : U64 d) (hd : d ≠ 0) : wide_Div.f h l d = some (wv h l / d / 18446744073709551616, wv h l / d % 18446744073709551616, wv h l % d, 0) := by
 unfold wide_Div.f
 rw [if_pos ⟨a1, a2, b⟩, if_neg hd]
 obtain ⟨p1, p2⟩ := a1
 obtain ⟨p3, p4⟩ := a2
 obtain ⟨p5, p6⟩ := b
 have e : wv h l = (h % d * 18446744073709551616 + l) + d * (h / d * 18446744073709551616) := by
  unfold wv
  have := Int.mul_ediv_add_emod h d
  conv => lhs; rw [← this]
  rw [Int.add_mul, Int.mul_assoc]
  omega
 have m1 := Int.emod_nonneg h hd
 have m2 := Int.emod_lt_of_pos h (show 0 < d by omega)
 have q1 : 0 ≤ (h % d * 18446744073709551616 + l) / d := Int.ediv_nonneg (by omega) p5
 have q2 : (h % d * 18446744073709551616 + l) / d < 18446744073709551616 := by
  refine Int.ediv_lt_of_lt_mul (by omega) ?_
  omega
 rw [e, Int.add_mul_ediv_left _ _ hd, Int.add_mul_emod_self_left]
 generalize (h % d * 18446744073709551616 + l) / d = q at q1 q2
 generalize (h % d * 18446744073709551616 + l) % d = r
 have e1 : (q + h / d * 18446744073709551616) / 18446744073709551616 = h / d := by omega
 have e2 : (q + h / d * 18446744073709551616) % 18446744073709551616 = q := by omega
 rw [e1, e2]
theorem wv_parts {x : Int} (h0 : 0 ≤ x) (h1 : x < 340282366920938463463374607431768211456) : U64 (x / 18446744073709551616) ∧ U64 (x % 18446744073709551616) ∧ wv (x / 18446744073709551616) (x % 18446744073709551616) = x :=
 ⟨⟨by omega, by omega⟩, ⟨by omega, by omega⟩, by unfold wv; omega⟩
theorem wv_lt {h l : Int} (a1 : U64 h) (a2 : U64 l) : 0 ≤ wv h l ∧ wv h l < 340282366920938463463374607431768211456 := by
 obtain ⟨p1, p2⟩ := a1
 obtain ⟨p3, p4⟩ := a2
 unfold wv
 omega
end Go.Proofs.Yteikafepdkijdaa.X

set_option maxRecDepth 10000
namespace Go.Proofs.Yteikafepdkijdaa.X
open Go.RowKit Go.Proofs.YteikafepdkijdaaW.PrintWords Go.Proofs.YteikafepdkijdaaW.PrintLast

def At {α : Type} (f : Nat → Option α) (r : α) : Prop := ∃ K, ∀ k, K ≤ k → f k = some r
theorem At.bind {α β : Type} {f : Nat → Option α} {g : Nat → α → Option β} {a : α} {b : β} (h : At f a) (h2 : At (fun k => g k a) b) : At (fun k => (f k).bind (g k)) b := by
 obtain ⟨K, h⟩ := h
 obtain ⟨L, h2⟩ := h2
 refine ⟨max K L, fun k hk => ?_⟩
 show (f k).bind (g k) = some b
 rw [h k (by omega), Option.bind_some]
 exact h2 k (by omega)
theorem At.two {α : Type} {f : Nat → Option α} {a b : α} (h : At f a) (g : At f b) : a = b := by
 obtain ⟨K, h⟩ := h
 obtain ⟨L, g⟩ := g
 have h1 := h (max K L) (by omega)
 rw [g (max K L) (by omega)] at h1
 exact (Option.some.inj h1).symm

def bv : List Int → Int
 | [] => 0
 | d :: l => d + 10000 * bv l
def Digs (l : List Int) : Prop := ∀ d ∈ l, 0 ≤ d ∧ d < 10000
def Norm (l : List Int) : Prop := ∀ l' d, l = l' ++ [d] → d ≠ 0

theorem digs_cons {d : Int} {l : List Int} : Digs (d :: l) ↔ (0 ≤ d ∧ d < 10000) ∧ Digs l := by
 unfold Digs
 simp
theorem digs_nil : Digs [] := by
 intro d hd
 cases hd
theorem norm_nil : Norm [] := by
 intro l' d h
 simp at h
theorem bv_nonneg : ∀ {l : List Int}, Digs l → 0 ≤ bv l
 | [], _ => by simp [bv]
 | d :: l, h => by
  obtain ⟨h1, h2⟩ := digs_cons.mp h
  have := bv_nonneg h2
  unfold bv
  omega
theorem bv_append : ∀ (l m : List Int), bv (l ++ m) = bv l + 10000 ^ l.length * bv m
 | [], m => by simp [bv]
 | d :: l, m => by
  rw [List.cons_append, bv, bv_append l m, bv, List.length_cons, Int.pow_succ, Int.mul_add, Int.mul_comm (10000 ^ l.length) 10000, Int.mul_assoc]
  omega
theorem norm_cons {d : Int} {l : List Int} (h : Norm l) (hd : l = [] → d ≠ 0) : Norm (d :: l) := by
 intro l' e he
 cases l' with
 | nil =>
  simp at he
  obtain ⟨rfl, rfl⟩ := he
  exact hd rfl
 | cons x l' =>
  simp at he
  exact h l' e he.2

theorem fromU_loop : ∀ (m : Nat) (x : Int), 0 ≤ x → x ≤ 18446744073709551615 → x < 10000 ^ m →
  ∃ l, (∀ acc k, m + 1 ≤ k → acc.length + m < 17592186044416 → demurrageref01_FromU.l0 k x acc = some (acc ++ l)) ∧ Digs l ∧ bv l = x ∧ Norm l ∧ l.length ≤ m := by
 intro m
 induction m with
 | zero =>
  intro x h0 _ h1
  have : x = 0 := by simp at h1; omega
  subst this
  refine ⟨[], ?_, digs_nil, rfl, norm_nil, by simp⟩
  intro acc k hk _
  cases k with
  | zero => omega
  | succ k => rw [demurrageref01_FromU.l0, if_neg (by decide), List.append_nil]
 | succ m ih =>
  intro x h0 h2 h1
  by_cases hx : x = 0
  ·subst hx
   refine ⟨[], ?_, digs_nil, rfl, norm_nil, by simp⟩
   intro acc k hk _
   cases k with
   | zero => omega
   | succ k => rw [demurrageref01_FromU.l0, if_neg (by decide), List.append_nil]
  ·have p1 : x / 10000 < 10000 ^ m := by
    rw [Int.pow_succ] at h1
    exact Int.ediv_lt_of_lt_mul (by omega) h1
   obtain ⟨l, e, d, v, n, c⟩ := ih (x / 10000) (by omega) (by omega) p1
   refine ⟨x % 10000 :: l, ?_, digs_cons.mpr ⟨by omega, d⟩, ?_, norm_cons n ?_, by simp; omega⟩
   ·intro acc k hk hl
    cases k with
    | zero => omega
    | succ k =>
     have w1 : IntKind.u64.wrap (Int.tdiv x 10000) = x / 10000 := IntWalk.u64_quo x 10000 ⟨h0, h2, by omega⟩
     have w2 : wrap64 (Int.tmod x 10000) = x % 10000 := by
      rw [Int.tmod_eq_emod_of_nonneg h0]
      exact IntWalk.wrap64_in (x % 10000) ⟨by omega, by omega⟩
     rw [demurrageref01_FromU.l0, if_pos (show x > 0 by clear w1 w2; omega), if_pos (show acc.length < 17592186044416 by clear w1 w2; omega), w1, w2]
     clear w1 w2
     rw [e (acc ++ [x % 10000]) k (by omega) (by simp; omega)]
     simp
   ·rw [bv, v]; omega
   ·intro hn
    rw [hn] at v
    simp [bv] at v
    omega

theorem fromU_at {x : Int} (h : U64 x) : ∃ l, At (fun k => demurrageref01_FromU.f k x) l ∧ Digs l ∧ bv l = x ∧ Norm l ∧ l.length ≤ 5 := by
 obtain ⟨h0, h1⟩ := h
 have hp : x < 10000 ^ 5 := by
  have : (10000 : Int) ^ 5 = 100000000000000000000 := by decide
  omega
 obtain ⟨l, e, d, v, n, c⟩ := fromU_loop 5 x h0 (by omega) hp
 refine ⟨l, ⟨6, fun k hk => ?_⟩, d, v, n, c⟩
 show demurrageref01_FromU.l0 k x [] = some l
 rw [e [] k hk (by simp), List.nil_append]
end Go.Proofs.Yteikafepdkijdaa.X

set_option maxRecDepth 10000
namespace Go.Proofs.Yteikafepdkijdaa.X
open Go.RowKit Go.Proofs.YteikafepdkijdaaW.PrintWords Go.Proofs.YteikafepdkijdaaW.PrintLast

theorem getD_digs {l : List Int} (h : Digs l) (i : Nat) : 0 ≤ l.getD i 0 ∧ l.getD i 0 < 10000 := by
 by_cases hi : i < l.length
 ·rw [List.getD_eq_getElem?_getD, List.getElem?_eq_getElem hi]
  exact h _ (List.getElem_mem hi)
 ·rw [List.getD_eq_getElem?_getD, List.getElem?_eq_none (by omega)]
  simp
def hv (l : List Int) (i : Nat) : Int := bv (l.drop i)
theorem hv_step : ∀ (l : List Int) (i : Nat), hv l i = l.getD i 0 + 10000 * hv l (i + 1)
 | [], i => by simp [hv, bv]
 | d :: l, 0 => by simp [hv, bv]
 | d :: l, i + 1 => by
  have := hv_step l i
  simpa [hv] using this
theorem hv_zero (l : List Int) : hv l 0 = bv l := by simp [hv]
theorem hv_end {l : List Int} {i : Nat} (h : l.length ≤ i) : hv l i = 0 := by
 unfold hv
 rw [List.drop_eq_nil_of_le h]
 rfl
theorem hv_less {a b : List Int} (ha : Digs a) (hb : Digs b) : ∀ (i : Nat), hv a i < hv b i → hv a 0 < hv b 0
 | 0, h => h
 | i + 1, h => by
  apply hv_less ha hb i
  rw [hv_step a i, hv_step b i]
  have := getD_digs ha i
  have := getD_digs hb i
  omega

theorem part_eq {l : List Int} {i : Nat} : demurrageref01_part.f l (i : Int) = some (l.getD i 0) := by
 unfold demurrageref01_part.f rd
 by_cases h : (i : Int) < (l.length : Int)
 ·rw [if_pos h, if_pos (Int.natCast_nonneg i), Int.toNat_natCast]
 ·rw [if_neg h, List.getD_eq_getElem?_getD, List.getElem?_eq_none (by omega)]
  rfl

def bsg (x y : Int) : Int := if x < y then -1 else if x = y then 0 else 1

theorem cmp_loop {a b : List Int} (ha : Digs a) (hb : Digs b) : ∀ (i k : Nat), i + 1 ≤ k → (i : Int) < 9223372036854775807 → hv a i = hv b i → demurrageref01_Cmp.l0 k ((i : Int) - 1) a b = some (bsg (bv a) (bv b)) := by
 intro i
 induction i with
 | zero =>
  intro k hk _ h
  cases k with
  | zero => omega
  | succ k =>
   rw [demurrageref01_Cmp.l0, if_neg (by omega)]
   rw [hv_zero, hv_zero] at h
   unfold bsg
   rw [h, if_neg (by omega), if_pos rfl]
 | succ i ih =>
  intro k hk hm h
  cases k with
  | zero => omega
  | succ k =>
   have e : ((i + 1 : Nat) : Int) - 1 = (i : Int) := by omega
   rw [e, demurrageref01_Cmp.l0, if_pos (by omega), part_eq, part_eq]
   rw [Option.bind_some, Option.bind_some]
   have s1 := hv_step a i
   have s2 := hv_step b i
   by_cases h1 : a.getD i 0 < b.getD i 0
   ·rw [if_pos h1]
    have := hv_less ha hb i (by omega)
    rw [hv_zero, hv_zero] at this
    unfold bsg
    rw [if_pos this]
   ·rw [if_neg h1]
    by_cases h2 : a.getD i 0 > b.getD i 0
    ·rw [if_pos h2]
     have := hv_less hb ha i (by omega)
     rw [hv_zero, hv_zero] at this
     unfold bsg
     rw [if_neg (by omega), if_neg (by omega)]
    ·rw [if_neg h2, IntWalk.wrap64_in ((i : Int) - 1) ⟨by omega, by omega⟩]
     exact ih k (by omega) (by omega) (by omega)

theorem cmp_at {a b : List Int} (ha : Digs a) (hb : Digs b) (la : a.length < 9223372036854775807) (lb : b.length < 9223372036854775807) : At (fun k => demurrageref01_Cmp.f k a b) (bsg (bv a) (bv b)) := by
 refine ⟨a.length + b.length + 3, fun k hk => ?_⟩
 show demurrageref01_Cmp.f k a b = _
 unfold demurrageref01_Cmp.f
 cases k with
 | zero => omega
 | succ k =>
  by_cases h : (b.length : Int) > (a.length : Int)
  ·rw [if_pos h, demurrageref01_Cmp.j0, IntWalk.wrap64_in ((b.length : Int) - 1) ⟨by omega, by omega⟩]
   exact cmp_loop ha hb b.length k (by omega) (by omega) (by rw [hv_end (by omega), hv_end (by omega)])
  ·rw [if_neg h, demurrageref01_Cmp.j0, IntWalk.wrap64_in ((a.length : Int) - 1) ⟨by omega, by omega⟩]
   exact cmp_loop ha hb a.length k (by omega) (by omega) (by rw [hv_end (by omega), hv_end (by omega)])
end Go.Proofs.Yteikafepdkijdaa.X

set_option maxRecDepth 10000
namespace Go.Proofs.Yteikafepdkijdaa.X
open Go.RowKit Go.Proofs.YteikafepdkijdaaW.PrintWords Go.Proofs.YteikafepdkijdaaW.PrintLast

theorem wrap64_small {x : Int} (h0 : -9223372036854775808 ≤ x) (h1 : x ≤ 9223372036854775807) : wrap64 x = x := IntWalk.wrap64_in x ⟨h0, h1⟩

theorem plus_step {a b out : List Int} {i k : Nat} {c : Int} (ha : Digs a) (hb : Digs b) (hc : c = 0 ∨ c = 1) (hi : (i : Int) < 4611686018427387904) (go : i < a.length ∨ i < b.length ∨ c > 0) (ho : out.length < 17592186044416) :
  demurrageref01_Plus.l0 (k + 2) out c (i : Int) a b = demurrageref01_Plus.l0 k (out ++ [(a.getD i 0 + b.getD i 0 + c) % 10000]) ((a.getD i 0 + b.getD i 0 + c) / 10000) ((i + 1 : Nat) : Int) a b := by
 have d1 := getD_digs ha i
 have d2 := getD_digs hb i
 have e1 : wrap64 (a.getD i 0 + b.getD i 0) = a.getD i 0 + b.getD i 0 := wrap64_small (by omega) (by omega)
 have e2 : wrap64 (a.getD i 0 + b.getD i 0 + c) = a.getD i 0 + b.getD i 0 + c := wrap64_small (by clear e1; omega) (by clear e1; omega)
 have e3 : Int.tmod (a.getD i 0 + b.getD i 0 + c) 10000 = (a.getD i 0 + b.getD i 0 + c) % 10000 := Int.tmod_eq_emod_of_nonneg (by clear e1 e2; omega)
 have e4 : Int.tdiv (a.getD i 0 + b.getD i 0 + c) 10000 = (a.getD i 0 + b.getD i 0 + c) / 10000 := Int.tdiv_eq_ediv_of_nonneg (by clear e1 e2; omega)
 have e5 : wrap64 ((a.getD i 0 + b.getD i 0 + c) / 10000) = (a.getD i 0 + b.getD i 0 + c) / 10000 := wrap64_small (by clear e1 e2 e3 e4; omega) (by clear e1 e2 e3 e4; omega)
 have e6 : wrap64 ((i : Int) + 1) = ((i + 1 : Nat) : Int) := by
  rw [wrap64_small (by clear e1 e2 e3 e4 e5; omega) (by clear e1 e2 e3 e4 e5; omega)]; clear e1 e2 e3 e4 e5; omega
 have body : demurrageref01_Plus.j1 (k + 1) out c (i : Int) true a b = demurrageref01_Plus.l0 k (out ++ [(a.getD i 0 + b.getD i 0 + c) % 10000]) ((a.getD i 0 + b.getD i 0 + c) / 10000) ((i + 1 : Nat) : Int) a b := by
  rw [demurrageref01_Plus.j1, if_pos rfl, part_eq, Option.bind_some, part_eq, Option.bind_some, if_pos ho, e1, e2, e3, e4, e5, e6]
 clear e1 e2 e3 e4 e5 e6
 rw [demurrageref01_Plus.l0]
 by_cases h1 : (i : Int) < (a.length : Int)
 ·rw [if_pos h1, body]
 ·rw [if_neg h1]
  by_cases h2 : (i : Int) < (b.length : Int)
  ·rw [if_pos h2, body]
  ·rw [if_neg h2, show decide (c > 0) = true from decide_eq_true (by clear body; omega), body]

theorem plus_stop {a b out : List Int} {i k : Nat} (h1 : a.length ≤ i) (h2 : b.length ≤ i) : demurrageref01_Plus.l0 (k + 2) out 0 (i : Int) a b = some out := by
 rw [demurrageref01_Plus.l0, if_neg (by omega), if_neg (by omega), show decide ((0 : Int) > 0) = false from rfl, demurrageref01_Plus.j1, if_neg (by decide)]

theorem plus_loop {a b : List Int} (ha : Digs a) (hb : Digs b) : ∀ (m i : Nat) (c : Int), a.length ≤ i + m → b.length ≤ i + m → (c = 0 ∨ c = 1) → i + m < 4611686018427387900 →
  ∃ s, (∀ out k, 2 * m + 4 ≤ k → out.length + m + 1 < 17592186044416 → demurrageref01_Plus.l0 k out c (i : Int) a b = some (out ++ s)) ∧ Digs s ∧ bv s = hv a i + hv b i + c ∧ s.length ≤ m + 1 := by
 intro m
 induction m with
 | zero =>
  intro i c h1 h2 hc hi
  have z1 := hv_end (l := a) (i := i) (by omega)
  have z2 := hv_end (l := b) (i := i) (by omega)
  have y1 := hv_step a i
  have y2 := hv_step b i
  have z3 := hv_end (l := a) (i := i + 1) (by omega)
  have z4 := hv_end (l := b) (i := i + 1) (by omega)
  rcases hc with rfl | rfl
  ·refine ⟨[], ?_, digs_nil, by rw [z1, z2]; rfl, by simp⟩
   intro out k hk _
   obtain ⟨k, rfl⟩ : ∃ j, k = j + 2 := ⟨k - 2, by omega⟩
   rw [plus_stop (by omega) (by omega), List.append_nil]
  ·refine ⟨[1], ?_, ?_, by rw [z1, z2]; rfl, by simp⟩
   ·intro out k hk ho
    obtain ⟨k, rfl⟩ : ∃ j, k = j + 2 + 2 := ⟨k - 4, by omega⟩
    have e : a.getD i 0 + b.getD i 0 + 1 = 1 := by omega
    rw [plus_step ha hb (Or.inr rfl) (by omega) (Or.inr (Or.inr (by omega))) (by omega), e]
    exact plus_stop (by omega) (by omega)
   ·intro d hd
    simp at hd
    omega
 | succ m ih =>
  intro i c h1 h2 hc hi
  by_cases go : i < a.length ∨ i < b.length
  ·have d1 := getD_digs ha i
   have d2 := getD_digs hb i
   have y1 := hv_step a i
   have y2 := hv_step b i
   obtain ⟨s, e, ds, v, l⟩ := ih (i + 1) ((a.getD i 0 + b.getD i 0 + c) / 10000) (by omega) (by omega) (by omega) (by omega)
   refine ⟨(a.getD i 0 + b.getD i 0 + c) % 10000 :: s, ?_, digs_cons.mpr ⟨by omega, ds⟩, by rw [bv, v]; omega, by simp; omega⟩
   intro out k hk ho
   obtain ⟨k, rfl⟩ : ∃ j, k = j + 2 := ⟨k - 2, by omega⟩
   rw [plus_step ha hb hc (by omega) (by omega) (by omega), e _ k (by omega) (by simp; omega)]
   simp
  ·obtain ⟨s, e, ds, v, l⟩ : ∃ s, (∀ out k, 2 * m + 4 ≤ k → out.length + m + 1 < 17592186044416 → demurrageref01_Plus.l0 k out c (i : Int) a b = some (out ++ s)) ∧ Digs s ∧ bv s = hv a i + hv b i + c ∧ s.length ≤ m + 1 := ih i c (by omega) (by omega) hc (by omega)
   exact ⟨s, fun out k hk ho => e out k (by omega) (by omega), ds, v, by omega⟩

theorem plus_at {a b : List Int} (ha : Digs a) (hb : Digs b) (la : a.length < 1000000) (lb : b.length < 1000000) : ∃ s, At (fun k => demurrageref01_Plus.f k a b) s ∧ Digs s ∧ bv s = bv a + bv b ∧ s.length ≤ a.length + b.length + 1 := by
 obtain ⟨s, e, ds, v, l⟩ := plus_loop ha hb (a.length + b.length) 0 0 (by omega) (by omega) (Or.inl rfl) (by omega)
 refine ⟨s, ⟨2 * (a.length + b.length) + 4, fun k hk => ?_⟩, ds, ?_, l⟩
 ·have := e [] k hk (by simp; omega)
  rw [List.nil_append] at this
  exact this
 ·rw [v, hv_zero, hv_zero]
  omega
end Go.Proofs.Yteikafepdkijdaa.X

set_option maxRecDepth 10000
namespace Go.Proofs.Yteikafepdkijdaa.X
open Go.RowKit Go.Proofs.YteikafepdkijdaaW.PrintWords Go.Proofs.YteikafepdkijdaaW.PrintLast

theorem rd_nat (l : List Int) (n : Nat) : rd l (n : Int) = l.getD n 0 := by
 unfold rd
 rw [Int.toNat_natCast]
theorem take_getD {l : List Int} {n : Nat} (h : n < l.length) : l.take (n + 1) = l.take n ++ [l.getD n 0] := by
 rw [List.take_add_one, List.getD_eq_getElem?_getD, List.getElem?_eq_getElem h]
 rfl
theorem digs_take {l : List Int} (h : Digs l) (n : Nat) : Digs (l.take n) := fun d hd => h d (List.mem_of_mem_take hd)
theorem digs_drop {l : List Int} (h : Digs l) (n : Nat) : Digs (l.drop n) := fun d hd => h d (List.mem_of_mem_drop hd)
theorem hv_nonneg {l : List Int} (h : Digs l) (i : Nat) : 0 ≤ hv l i := bv_nonneg (digs_drop h i)

theorem trim_val (l : List Int) : ∀ n, n ≤ l.length → bv (l.take (trimN l n)) = bv (l.take n) ∧ Norm (l.take (trimN l n))
 | 0, _ => by
  refine ⟨rfl, ?_⟩
  simp [trimN]
  exact norm_nil
 | n + 1, h => by
  unfold trimN
  rw [rd_nat]
  by_cases h0 : l.getD n 0 = 0
  ·rw [if_pos h0]
   obtain ⟨h1, h2⟩ := trim_val l n (by omega)
   refine ⟨?_, h2⟩
   rw [h1, take_getD (by omega), bv_append, h0]
   simp [bv]
  ·rw [if_neg h0]
   refine ⟨rfl, ?_⟩
   intro l' d e
   rw [take_getD (by omega)] at e
   have := congrArg List.getLast? e
   simp at this
   rw [← this]
   simpa using h0

theorem trim_eq {l : List Int} (hd : Digs l) (hl : l.length < 17592186044416) : ∃ t, demurrageref01_trim.f l = some t ∧ Digs t ∧ bv t = bv l ∧ Norm t ∧ t.length ≤ l.length := by
 obtain ⟨h1, h2⟩ := trim_val l l.length (Nat.le_refl _)
 refine ⟨l.take (trimN l l.length), ?_, digs_take hd _, ?_, h2, ?_⟩
 ·unfold demurrageref01_trim.f
  rw [if_pos hl]
 ·rw [h1, List.take_length]
 ·rw [List.length_take]
  omega

theorem less_loop {a b : List Int} (ha : Digs a) (hb : Digs b) : ∀ (m i : Nat) (c : Int), a.length = i + m → (c = 0 ∨ c = 1) → hv b i + c ≤ hv a i → i + m < 4611686018427387900 →
  ∃ s, (∀ out k, m + 1 ≤ k → out.length + m < 17592186044416 → demurrageref01_Less.l0 k out c (i : Int) a b = (demurrageref01_trim.f (out ++ s)).bind fun t => some t) ∧ Digs s ∧ bv s = hv a i - hv b i - c ∧ s.length = m := by
 intro m
 induction m with
 | zero =>
  intro i c h1 hc hle hi
  have z1 := hv_end (l := a) (i := i) (by omega)
  have z2 := hv_nonneg hb i
  refine ⟨[], ?_, digs_nil, by rw [bv]; omega, rfl⟩
  intro out k hk _
  obtain ⟨k, rfl⟩ : ∃ j, k = j + 1 := ⟨k - 1, by omega⟩
  rw [demurrageref01_Less.l0, if_neg (by omega), List.append_nil]
 | succ m ih =>
  intro i c h1 hc hle hi
  have d1 := getD_digs ha i
  have d2 := getD_digs hb i
  have y1 := hv_step a i
  have y2 := hv_step b i
  have w6 : wrap64 ((i : Int) + 1) = ((i + 1 : Nat) : Int) := wrap64_small (x := (i : Int) + 1) (by omega) (by omega)
  have w1 : wrap64 (a.getD i 0 - b.getD i 0) = a.getD i 0 - b.getD i 0 := wrap64_small (by clear w6; omega) (by clear w6; omega)
  have w2 : wrap64 (a.getD i 0 - b.getD i 0 - c) = a.getD i 0 - b.getD i 0 - c := wrap64_small (by clear w6 w1; omega) (by clear w6 w1; omega)
  have w3 : wrap64 (a.getD i 0 - b.getD i 0 - c + 10000) = a.getD i 0 - b.getD i 0 - c + 10000 := wrap64_small (by clear w6 w1 w2; omega) (by clear w6 w1 w2; omega)
  have step : ∀ out k, out.length < 17592186044416 → demurrageref01_Less.l0 (k + 1) out c (i : Int) a b =
    if a.getD i 0 - b.getD i 0 - c < 0 then demurrageref01_Less.l0 k (out ++ [a.getD i 0 - b.getD i 0 - c + 10000]) 1 ((i + 1 : Nat) : Int) a b else demurrageref01_Less.l0 k (out ++ [a.getD i 0 - b.getD i 0 - c]) 0 ((i + 1 : Nat) : Int) a b := by
   intro out k ho
   rw [demurrageref01_Less.l0, if_pos (show (i : Int) < (a.length : Int) by clear w1 w2 w3 w6; omega), part_eq, Option.bind_some, part_eq, Option.bind_some, w1, w2, w3, w6, if_pos ho, if_pos ho]
  clear w1 w2 w3 w6
  by_cases hx : a.getD i 0 - b.getD i 0 - c < 0
  ·obtain ⟨s, e, ds, v, l⟩ := ih (i + 1) 1 (by omega) (Or.inr rfl) (by omega) (by omega)
   refine ⟨(a.getD i 0 - b.getD i 0 - c + 10000) :: s, ?_, digs_cons.mpr ⟨by omega, ds⟩, by rw [bv, v]; omega, by simp; omega⟩
   intro out k hk ho
   obtain ⟨k, rfl⟩ : ∃ j, k = j + 1 := ⟨k - 1, by omega⟩
   rw [step out k (by omega), if_pos hx, e _ k (by omega) (by simp; omega)]
   simp
  ·obtain ⟨s, e, ds, v, l⟩ := ih (i + 1) 0 (by omega) (Or.inl rfl) (by omega) (by omega)
   refine ⟨(a.getD i 0 - b.getD i 0 - c) :: s, ?_, digs_cons.mpr ⟨by omega, ds⟩, by rw [bv, v]; omega, by simp; omega⟩
   intro out k hk ho
   obtain ⟨k, rfl⟩ : ∃ j, k = j + 1 := ⟨k - 1, by omega⟩
   rw [step out k (by omega), if_neg hx, e _ k (by omega) (by simp; omega)]
   simp

theorem less_at {a b : List Int} (ha : Digs a) (hb : Digs b) (la : a.length < 1000000) (h : bv b ≤ bv a) : ∃ s, At (fun k => demurrageref01_Less.f k a b) s ∧ Digs s ∧ bv s = bv a - bv b ∧ Norm s ∧ s.length ≤ a.length := by
 obtain ⟨s, e, ds, v, l⟩ := less_loop ha hb a.length 0 0 (by omega) (Or.inl rfl) (by rw [hv_zero, hv_zero]; omega) (by omega)
 obtain ⟨t, e2, dt, vt, nt, lt⟩ := trim_eq ds (by omega)
 refine ⟨t, ⟨a.length + 1, fun k hk => ?_⟩, dt, ?_, nt, by omega⟩
 ·have := e [] k hk (by simp; omega)
  rw [List.nil_append, e2, Option.bind_some] at this
  exact this
 ·rw [vt, v, hv_zero, hv_zero]
  omega
end Go.Proofs.Yteikafepdkijdaa.X

set_option maxRecDepth 10000
namespace Go.Proofs.Yteikafepdkijdaa.X
open Go.RowKit Go.Proofs.YteikafepdkijdaaW.PrintWords Go.Proofs.YteikafepdkijdaaW.PrintLast

theorem bindP {α β : Type} (x : α) (f : α → Option β) : (some x).bind f = f x := by rw [Option.bind_some]
theorem bv_set : ∀ (l : List Int) (n : Nat) (v : Int), n < l.length → bv (l.set n v) = bv l + 10000 ^ n * (v - l.getD n 0)
 | [], n, v, h => by simp at h
 | d :: l, 0, v, _ => by
  simp [bv]
  omega
 | d :: l, n + 1, v, h => by
  have := bv_set l n v (by simpa using h)
  rw [List.set_cons_succ, bv, this, bv, Int.pow_succ, List.getD_cons_succ, Int.mul_comm (10000 ^ n) 10000, Int.mul_assoc]
  omega
theorem digs_set {l : List Int} (h : Digs l) (n : Nat) {v : Int} (hv : 0 ≤ v ∧ v < 10000) : Digs (l.set n v) := by
 intro d hd
 rcases List.mem_or_eq_of_mem_set hd with x | x
 ·exact h d x
 ·rw [x]; exact hv
theorem hv_set {l : List Int} {n i : Nat} {v : Int} (h : n < i) : hv (l.set n v) i = hv l i := by
 unfold hv
 rw [List.drop_set_of_lt h]
theorem hv_zero_digit {l : List Int} (h : Digs l) {i : Nat} (z : hv l i = 0) : l.getD i 0 = 0 ∧ hv l (i + 1) = 0 := by
 have s := hv_step l i
 have d := getD_digs h i
 have n := hv_nonneg h (i + 1)
 omega
theorem pow_pos10 (n : Nat) : (0 : Int) < 10000 ^ n := Int.pow_pos (by omega)
theorem bv_lt : ∀ {l : List Int}, Digs l → bv l < 10000 ^ l.length
 | [], _ => by simp [bv]
 | d :: l, h => by
  obtain ⟨h1, h2⟩ := digs_cons.mp h
  have := bv_lt h2
  rw [bv, List.length_cons, Int.pow_succ]
  omega
theorem bv_split (l : List Int) (n : Nat) : bv l = bv (l.take n) + 10000 ^ (l.take n).length * hv l n := by
 unfold hv
 rw [← bv_append, List.take_append_drop]
theorem hv_of_lt {l : List Int} (h : Digs l) {n : Nat} (hn : n ≤ l.length) (lt : bv l < 10000 ^ n) : hv l n = 0 := by
 have s := bv_split l n
 have e : (l.take n).length = n := by rw [List.length_take]; omega
 rw [e] at s
 have p := hv_nonneg h n
 have q := bv_nonneg (digs_take h n)
 rcases Int.lt_or_eq_of_le p with g | g
 ·have : 10000 ^ n * 1 ≤ 10000 ^ n * hv l n := Int.mul_le_mul_of_nonneg_left (by omega) (by have := pow_pos10 n; omega)
  omega
 ·exact g.symm

theorem prod_body {a b out : List Int} {i j : Nat} {c : Int} (ha : Digs a) (hb : Digs b) (ho : Digs out) (hc : 0 ≤ c ∧ c ≤ 9999) :
  0 ≤ out.getD (i + j) 0 + a.getD i 0 * b.getD j 0 + c ∧ out.getD (i + j) 0 + a.getD i 0 * b.getD j 0 + c ≤ 99999999 := by
 have d1 := getD_digs ha i
 have d2 := getD_digs hb j
 have d3 := getD_digs ho (i + j)
 have m0 : 0 ≤ a.getD i 0 * b.getD j 0 := Int.mul_nonneg d1.1 d2.1
 have m1 : a.getD i 0 * b.getD j 0 ≤ 9999 * 9999 := Int.mul_le_mul (by omega) (by omega) d2.1 (by omega)
 omega

theorem prod_step {a b out : List Int} {i j k : Nat} {c : Int} (ha : Digs a) (hb : Digs b) (ho : Digs out) (hc : 0 ≤ c ∧ c ≤ 9999) (hi : i < a.length) (hl : i + j < out.length) (hm : out.length < 4611686018427387900) (hj : j < 4611686018427387900) (go : j < b.length ∨ c > 0) :
  demurrageref01_Prod.l1 (k + 1) out (i : Int) c (j : Int) a b = demurrageref01_Prod.l1 k (out.set (i + j) ((out.getD (i + j) 0 + a.getD i 0 * b.getD j 0 + c) % 10000)) (i : Int) ((out.getD (i + j) 0 + a.getD i 0 * b.getD j 0 + c) / 10000) ((j + 1 : Nat) : Int) a b := by
 have d1 := getD_digs ha i
 have d2 := getD_digs hb j
 have d3 := getD_digs ho (i + j)
 obtain ⟨x0, x1⟩ := prod_body (i := i) (j := j) ha hb ho hc
 have m0 : 0 ≤ a.getD i 0 * b.getD j 0 := Int.mul_nonneg d1.1 d2.1
 have w0 : wrap64 ((i : Int) + (j : Int)) = ((i + j : Nat) : Int) := by
  rw [wrap64_small (x := (i : Int) + (j : Int)) (by omega) (by omega)]; omega
 have w1 : wrap64 (a.getD i 0 * b.getD j 0) = a.getD i 0 * b.getD j 0 := wrap64_small (by clear w0; omega) (by clear w0; omega)
 have w2 : wrap64 (out.getD (i + j) 0 + a.getD i 0 * b.getD j 0) = out.getD (i + j) 0 + a.getD i 0 * b.getD j 0 := wrap64_small (by clear w0 w1; omega) (by clear w0 w1; omega)
 have w3 : wrap64 (out.getD (i + j) 0 + a.getD i 0 * b.getD j 0 + c) = out.getD (i + j) 0 + a.getD i 0 * b.getD j 0 + c := wrap64_small (by clear w0 w1 w2; omega) (by clear w0 w1 w2; omega)
 have w4 : Int.tmod (out.getD (i + j) 0 + a.getD i 0 * b.getD j 0 + c) 10000 = (out.getD (i + j) 0 + a.getD i 0 * b.getD j 0 + c) % 10000 := Int.tmod_eq_emod_of_nonneg x0
 have w5 : Int.tdiv (out.getD (i + j) 0 + a.getD i 0 * b.getD j 0 + c) 10000 = (out.getD (i + j) 0 + a.getD i 0 * b.getD j 0 + c) / 10000 := Int.tdiv_eq_ediv_of_nonneg x0
 have w6 : wrap64 ((out.getD (i + j) 0 + a.getD i 0 * b.getD j 0 + c) / 10000) = (out.getD (i + j) 0 + a.getD i 0 * b.getD j 0 + c) / 10000 := wrap64_small (by clear w0 w1 w2 w3 w4 w5; omega) (by clear w0 w1 w2 w3 w4 w5; omega)
 have w7 : wrap64 ((j : Int) + 1) = ((j + 1 : Nat) : Int) := by
  rw [wrap64_small (x := (j : Int) + 1) (by clear w0 w1 w2 w3 w4 w5 w6; omega) (by clear w0 w1 w2 w3 w4 w5 w6; omega)]; clear w0 w1 w2 w3 w4 w5 w6; omega
 have c1 : 0 ≤ ((i + j : Nat) : Int) := Int.natCast_nonneg _
 have c2 : ((i + j : Nat) : Int) < (out.length : Int) := Int.ofNat_lt.mpr hl
 have c3 : 0 ≤ (i : Int) := Int.natCast_nonneg _
 have c4 : (i : Int) < (a.length : Int) := Int.ofNat_lt.mpr hi
 rw [demurrageref01_Prod.l1, w0, part_eq, rd_nat, rd_nat, Int.toNat_natCast]
 simp only [bindP, w1, w2, w3, w4, w5, w6, w7, if_pos c1, if_pos c2, if_pos c3, if_pos c4]
 clear w0 w1 w2 w3 w4 w5 w6 w7
 by_cases h1 : (j : Int) < (b.length : Int)
 ·rw [if_pos h1]
 ·rw [if_neg h1, if_pos (show c > 0 by omega)]
end Go.Proofs.Yteikafepdkijdaa.X

set_option maxRecDepth 10000
namespace Go.Proofs.Yteikafepdkijdaa.X
open Go.RowKit Go.Proofs.YteikafepdkijdaaW.PrintWords Go.Proofs.YteikafepdkijdaaW.PrintLast

theorem prod_leave {a b out : List Int} {i j k : Nat} (hi : (i : Int) < 4611686018427387900) (h : b.length ≤ j) : demurrageref01_Prod.l1 (k + 1) out (i : Int) 0 (j : Int) a b = demurrageref01_Prod.l0 k out ((i + 1 : Nat) : Int) a b := by
 have w : wrap64 ((i : Int) + 1) = ((i + 1 : Nat) : Int) := by
  rw [wrap64_small (x := (i : Int) + 1) (by omega) (by omega)]; omega
 rw [demurrageref01_Prod.l1, w]
 clear w
 rw [if_neg (by omega), if_neg (by omega)]

theorem prod_value {a b out : List Int} {i j : Nat} {c x : Int} (hx : x = out.getD (i + j) 0 + a.getD i 0 * b.getD j 0 + c) (hl : i + j < out.length) :
  bv (out.set (i + j) (x % 10000)) + 10000 ^ (i + (j + 1)) * (x / 10000 + a.getD i 0 * hv b (j + 1)) = bv out + 10000 ^ (i + j) * (c + a.getD i 0 * hv b j) := by
 rw [bv_set _ _ _ hl, hv_step b j, ← Nat.add_assoc, Int.pow_succ, Int.mul_assoc, Int.add_assoc, ← Int.mul_add, Int.mul_add (a.getD i 0), ← Int.mul_assoc (a.getD i 0) 10000, Int.mul_comm (a.getD i 0) 10000, Int.mul_assoc 10000 (a.getD i 0)]
 congr 2
 omega

theorem prod_row {a b : List Int} (ha : Digs a) (hb : Digs b) {i : Nat} (hi : i < a.length) {L : Nat} (hL : i + b.length + 1 < L) (hm : L < 4611686018427387900) :
  ∀ (m j : Nat) (out : List Int) (c : Int), b.length = j + m → Digs out → out.length = L → 0 ≤ c ∧ c ≤ 9999 → hv out (i + b.length) = 0 →
  ∃ out' t, (∀ k, demurrageref01_Prod.l1 (k + t) out (i : Int) c (j : Int) a b = demurrageref01_Prod.l0 k out' ((i + 1 : Nat) : Int) a b) ∧ t ≤ m + 2 ∧ Digs out' ∧ out'.length = L ∧ bv out' = bv out + 10000 ^ (i + j) * (c + a.getD i 0 * hv b j) := by
 intro m
 induction m with
 | zero =>
  intro j out c hj ho hlen hc hz
  have zb := hv_end (l := b) (i := j) (by omega)
  have db : b.getD j 0 = 0 := by
   rw [List.getD_eq_getElem?_getD, List.getElem?_eq_none (by omega)]; rfl
  by_cases h0 : c = 0
  ·subst h0
   refine ⟨out, 1, fun k => prod_leave (by omega) (by omega), by omega, ho, hlen, ?_⟩
   rw [zb]
   simp
  ·have e : i + b.length = i + j := by omega
   rw [e] at hz
   obtain ⟨z1, z2⟩ := hv_zero_digit ho hz
   have x1 : out.getD (i + j) 0 + a.getD i 0 * b.getD j 0 + c = c := by rw [z1, db]; simp
   refine ⟨out.set (i + j) (c % 10000), 2, fun k => ?_, by omega, digs_set ho _ (by omega), by simpa using hlen, ?_⟩
   ·rw [prod_step ha hb ho hc hi (by omega) (by omega) (by omega) (Or.inr (by omega)), x1]
    have : c / 10000 = 0 := by omega
    rw [this]
    exact prod_leave (by omega) (by omega)
   ·rw [bv_set _ _ _ (by omega), z1, zb]
    have : c % 10000 = c := by omega
    rw [this]
    simp
 | succ m ih =>
  intro j out c hj ho hlen hc hz
  obtain ⟨x0, x1⟩ := prod_body (i := i) (j := j) ha hb ho hc
  have st := fun k => prod_step (k := k) ha hb ho hc hi (show i + j < out.length by omega) (by omega) (show j < 4611686018427387900 by omega) (Or.inl (by omega))
  have pv := prod_value (a := a) (b := b) (out := out) (i := i) (j := j) (c := c) rfl (by omega)
  generalize out.getD (i + j) 0 + a.getD i 0 * b.getD j 0 + c = x at *
  obtain ⟨o2, t, e, ht, do2, l2, v2⟩ := ih (j + 1) (out.set (i + j) (x % 10000)) (x / 10000) (by omega) (digs_set ho _ (by omega)) (by simpa using hlen) (by omega) (by rw [hv_set (by omega)]; exact hz)
  refine ⟨o2, t + 1, fun k => ?_, by omega, do2, l2, by rw [v2, pv]⟩
  rw [← Nat.add_assoc, st, e]
end Go.Proofs.Yteikafepdkijdaa.X

set_option maxRecDepth 10000
namespace Go.Proofs.Yteikafepdkijdaa.X
open Go.RowKit Go.Proofs.YteikafepdkijdaaW.PrintWords Go.Proofs.YteikafepdkijdaaW.PrintLast

theorem mul_lt_pow {x y : Int} {i n : Nat} (hx : 0 ≤ x) (h1 : x < 10000 ^ i) (h3 : y < 10000 ^ n) : x * y < 10000 ^ (i + n) := by
 rw [Int.pow_add]
 have p := pow_pos10 n
 have s1 : x * y ≤ x * 10000 ^ n := Int.mul_le_mul_of_nonneg_left (by omega) hx
 have s2 : x * 10000 ^ n < 10000 ^ i * 10000 ^ n := Int.mul_lt_mul_of_pos_right h1 p
 omega

theorem prod_loop {a b : List Int} (ha : Digs a) (hb : Digs b) (hm : a.length + b.length + 2 < 4611686018427387900) :
  ∀ (m i : Nat) (out : List Int), a.length = i + m → Digs out → out.length = a.length + b.length + 1 → bv out = bv (a.take i) * bv b →
  ∃ s, (∀ k, m * (b.length + 4) + 1 ≤ k → demurrageref01_Prod.l0 k out (i : Int) a b = (demurrageref01_trim.f s).bind fun t => some t) ∧ Digs s ∧ s.length = a.length + b.length + 1 ∧ bv s = bv a * bv b := by
 intro m
 induction m with
 | zero =>
  intro i out hi ho hl hv0
  refine ⟨out, ?_, ho, hl, by rw [hv0, List.take_of_length_le (by omega)]⟩
  intro k hk
  obtain ⟨k, rfl⟩ : ∃ j, k = j + 1 := ⟨k - 1, by omega⟩
  rw [demurrageref01_Prod.l0, if_neg (by omega)]
 | succ m ih =>
  intro i out hi ho hl hv0
  have d1 := getD_digs ha i
  have e1 : (a.take i).length = i := by rw [List.length_take]; omega
  have n1 := bv_nonneg (digs_take ha i)
  have n2 := bv_lt (digs_take ha i)
  rw [e1] at n2
  have n3 := bv_lt hb
  have z : hv out (i + b.length) = 0 := hv_of_lt ho (by omega) (by rw [hv0]; exact mul_lt_pow n1 n2 n3)
  obtain ⟨o2, t, e, ht, d2, l2, v2⟩ := prod_row ha hb (i := i) (by omega) (L := a.length + b.length + 1) (by omega) (by omega) b.length 0 out 0 (by omega) ho hl (by omega) z
  have v3 : bv o2 = bv (a.take (i + 1)) * bv b := by
   rw [v2, hv0, take_getD (by omega), bv_append, e1, hv_zero, Nat.add_zero, Int.zero_add, Int.add_mul]
   simp [bv, Int.mul_assoc]
  obtain ⟨s, e2, ds, ls, vs⟩ := ih (i + 1) o2 (by omega) d2 l2 v3
  refine ⟨s, ?_, ds, ls, vs⟩
  intro k hk
  have hk2 : (m + 1) * (b.length + 4) = m * (b.length + 4) + (b.length + 4) := Nat.succ_mul _ _
  obtain ⟨k, rfl⟩ : ∃ j, k = j + t + 1 := ⟨k - t - 1, by omega⟩
  rw [demurrageref01_Prod.l0, if_pos (by omega)]
  have := e k
  rw [show ((0 : Nat) : Int) = 0 from rfl] at this
  rw [this]
  exact e2 k (by omega)

theorem bv_zeros : ∀ n, bv (List.replicate n 0) = 0
 | 0 => rfl
 | n + 1 => by rw [List.replicate_succ, bv, bv_zeros n]; rfl
theorem digs_zeros (n : Nat) : Digs (List.replicate n 0) := by
 intro d hd
 rw [List.eq_of_mem_replicate hd]
 omega

theorem prod_at {a b : List Int} (ha : Digs a) (hb : Digs b) (la : a.length < 1000000) (lb : b.length < 1000000) : ∃ s, At (fun k => demurrageref01_Prod.f k a b) s ∧ Digs s ∧ bv s = bv a * bv b ∧ Norm s ∧ s.length ≤ a.length + b.length + 1 := by
 obtain ⟨s, e, ds, ls, vs⟩ := prod_loop ha hb (by omega) a.length 0 (List.replicate (a.length + b.length + 1) 0) (by omega) (digs_zeros _) (by simp) (by rw [bv_zeros]; simp [bv])
 obtain ⟨t, e2, dt, vt, nt, lt⟩ := trim_eq ds (by omega)
 refine ⟨t, ⟨a.length * (b.length + 4) + 1, fun k hk => ?_⟩, dt, by rw [vt, vs], nt, by omega⟩
 have h := e k hk
 rw [e2, Option.bind_some] at h
 have w1 : wrap64 ((a.length : Int) + (b.length : Int)) = (a.length : Int) + (b.length : Int) := wrap64_small (by omega) (by omega)
 have w2 : wrap64 ((a.length : Int) + (b.length : Int) + 1) = ((a.length + b.length + 1 : Nat) : Int) := by
  rw [wrap64_small (x := (a.length : Int) + (b.length : Int) + 1) (by clear w1; omega) (by clear w1; omega)]
  clear w1
  omega
 show demurrageref01_Prod.f k a b = some t
 unfold demurrageref01_Prod.f
 rw [w1, w2, Int.toNat_natCast]
 clear w1 w2
 rw [if_pos (Int.natCast_nonneg _), if_pos (by omega)]
 exact h
end Go.Proofs.Yteikafepdkijdaa.X

set_option maxRecDepth 10000
namespace Go.Proofs.Yteikafepdkijdaa.X
open Go.RowKit Go.Proofs.YteikafepdkijdaaW.PrintWords Go.Proofs.YteikafepdkijdaaW.PrintLast

theorem At.done {α : Type} {f : Nat → Option α} {a : α} (h : At f a) : At (fun k => (f k).bind fun t => some t) a := At.bind h ⟨0, fun _ _ => rfl⟩

theorem limit_at : ∃ s, At (fun k => demurrageref01_Limit.f k) s ∧ Digs s ∧ bv s = 340282366920938463463374607431768211456 ∧ s.length < 100 := by
 obtain ⟨b, b1, b2, b3, b4, b5⟩ := fromU_at (x := 4294967296) ⟨by omega, by omega⟩
 obtain ⟨p, p1, p2, p3, p4, p5⟩ := prod_at b2 b2 (by omega) (by omega)
 obtain ⟨q, q1, q2, q3, q4, q5⟩ := prod_at p2 p2 (by omega) (by omega)
 refine ⟨q, ?_, q2, ?_, by omega⟩
 ·unfold demurrageref01_Limit.f
  exact At.bind b1 (At.bind p1 (At.bind p1 (At.done q1)))
 ·rw [q3, p3, b3]
  omega

end Go.Proofs.Yteikafepdkijdaa.X

set_option maxRecDepth 10000
namespace Go.Proofs.Yteikafepdkijdaa.X
open Go.RowKit Go.Proofs.YteikafepdkijdaaW.PrintWords Go.Proofs.YteikafepdkijdaaW.PrintLast

theorem At.succ {α : Type} {f g : Nat → Option α} {r : α} (h : ∀ k, f (k + 1) = g k) (a : At g r) : At f r := by
 obtain ⟨K, a⟩ := a
 refine ⟨K + 1, fun k hk => ?_⟩
 obtain ⟨k, rfl⟩ : ∃ j, k = j + 1 := ⟨k - 1, by omega⟩
 rw [h]
 exact a k (by omega)

theorem from_at {x : Int} (h : 0 ≤ x ∧ x < 9223372036854775808) : ∃ l, At (fun k => demurrageref01_From.f k x) l ∧ Digs l ∧ bv l = x ∧ Norm l ∧ l.length ≤ 5 := by
 obtain ⟨l, h1, h2, h3, h4, h5⟩ := fromU_at (x := x) ⟨h.1, by omega⟩
 refine ⟨l, ?_, h2, h3, h4, h5⟩
 unfold demurrageref01_From.f
 rw [IntWalk.u64_in x ⟨h.1, by omega⟩]
 exact At.done h1

theorem quot_digit {a b r out : List Int} {p : Nat} (hb : Digs b) (hr : Digs r) (lb : b.length < 500000) (lr : r.length < 500000) (hp : p < out.length) (hl : out.length < 500000) :
  ∀ (n : Nat) (lo hi : Int), 0 ≤ lo → lo < hi → hi ≤ 10000 → hi - lo ≤ n → bv b * lo ≤ bv r → bv r < bv b * hi →
  ∃ d r', 0 ≤ d ∧ d < 10000 ∧ Digs r' ∧ Norm r' ∧ bv r' = bv r - bv b * d ∧ bv r' < bv b ∧ r'.length ≤ r.length ∧
   ∀ R, At (fun k => demurrageref01_Quot.l0 k (out.set p d) ((p : Int) - 1) a b r') R → At (fun k => demurrageref01_Quot.l1 k out (p : Int) lo hi a b r) R := by
 intro n
 induction n with
 | zero => intro lo hi _ h1 _ h2; omega
 | succ n ih =>
  intro lo hi h0 h1 h2 hn v1 v2
  by_cases hd : hi - lo > 1
  ·obtain ⟨m, m1, m2, m3, m4, m5⟩ := from_at (x := (lo + hi) / 2) ⟨by omega, by omega⟩
   obtain ⟨q, q1, q2, q3, q4, q5⟩ := prod_at hb m2 (by omega) (by omega)
   have c := cmp_at q2 hr (by omega) (by omega)
   have w1 : wrap64 (hi - lo) = hi - lo := wrap64_small (by omega) (by omega)
   have w2 : wrap64 (lo + hi) = lo + hi := wrap64_small (by clear w1; omega) (by clear w1; omega)
   have w3 : Int.tdiv (lo + hi) 2 = (lo + hi) / 2 := Int.tdiv_eq_ediv_of_nonneg (by clear w1 w2; omega)
   have w4 : wrap64 ((lo + hi) / 2) = (lo + hi) / 2 := wrap64_small (by clear w1 w2 w3; omega) (by clear w1 w2 w3; omega)
   have step : ∀ k, demurrageref01_Quot.l1 (k + 1) out (p : Int) lo hi a b r = (demurrageref01_From.f k ((lo + hi) / 2)).bind fun t => (demurrageref01_Prod.f k b t).bind fun u => (demurrageref01_Cmp.f k u r).bind fun v =>
     if v ≤ 0 then demurrageref01_Quot.l1 k out (p : Int) ((lo + hi) / 2) hi a b r else demurrageref01_Quot.l1 k out (p : Int) lo ((lo + hi) / 2) a b r := by
    intro k
    rw [demurrageref01_Quot.l1, w1, w2, w3, w4, if_pos hd]
   clear w1 w2 w3 w4
   by_cases hc : bv b * ((lo + hi) / 2) ≤ bv r
   ·obtain ⟨d, r', g1, g2, g3, g4, g5, g6, g7, g8⟩ := ih ((lo + hi) / 2) hi (by omega) (by omega) h2 (by omega) hc v2
    refine ⟨d, r', g1, g2, g3, g4, g5, g6, g7, fun R hR => ?_⟩
    refine At.succ step (At.bind m1 (At.bind q1 (At.bind c ?_)))
    have : bsg (bv q) (bv r) ≤ 0 := by
     rw [q3, m3]
     unfold bsg
     repeat' split
     all_goals omega
    obtain ⟨K, hK⟩ := g8 R hR
    exact ⟨K, fun k hk => (if_pos this).trans (hK k hk)⟩
   ·obtain ⟨d, r', g1, g2, g3, g4, g5, g6, g7, g8⟩ := ih lo ((lo + hi) / 2) h0 (by omega) (by omega) (by omega) v1 (by omega)
    refine ⟨d, r', g1, g2, g3, g4, g5, g6, g7, fun R hR => ?_⟩
    refine At.succ step (At.bind m1 (At.bind q1 (At.bind c ?_)))
    have : ¬ bsg (bv q) (bv r) ≤ 0 := by
     rw [q3, m3]
     unfold bsg
     repeat' split
     all_goals omega
    obtain ⟨K, hK⟩ := g8 R hR
    exact ⟨K, fun k hk => (if_neg this).trans (hK k hk)⟩
  ·obtain ⟨m, m1, m2, m3, m4, m5⟩ := from_at (x := lo) ⟨by omega, by omega⟩
   obtain ⟨q, q1, q2, q3, q4, q5⟩ := prod_at hb m2 (by omega) (by omega)
   obtain ⟨s, s1, s2, s3, s4, s5⟩ := less_at hr q2 (by omega) (by rw [q3, m3]; exact v1)
   have e : hi = lo + 1 := by omega
   subst e
   have e2 : bv b * (lo + 1) = bv b * lo + bv b := by rw [Int.mul_add, Int.mul_one]
   refine ⟨lo, s, h0, by omega, s2, s4, by rw [s3, q3, m3], by rw [s3, q3, m3]; omega, s5, fun R hR => ?_⟩
   have w1 : wrap64 (lo + 1 - lo) = lo + 1 - lo := wrap64_small (by omega) (by omega)
   have w2 : wrap64 ((p : Int) - 1) = (p : Int) - 1 := wrap64_small (by clear w1; omega) (by clear w1; omega)
   have c2 : (p : Int) < (out.length : Int) := Int.ofNat_lt.mpr hp
   have step : ∀ k, demurrageref01_Quot.l1 (k + 1) out (p : Int) lo (lo + 1) a b r = (demurrageref01_From.f k lo).bind fun t => (demurrageref01_Prod.f k b t).bind fun u => (demurrageref01_Less.f k r u).bind fun v =>
     demurrageref01_Quot.l0 k (out.set p lo) ((p : Int) - 1) a b v := by
    intro k
    rw [demurrageref01_Quot.l1, w1, w2, if_neg hd, if_pos (Int.natCast_nonneg p), if_pos c2, Int.toNat_natCast]
   clear w1 w2
   exact At.succ step (At.bind m1 (At.bind q1 (At.bind s1 hR)))
end Go.Proofs.Yteikafepdkijdaa.X

set_option maxRecDepth 10000
namespace Go.Proofs.Yteikafepdkijdaa.X
open Go.RowKit Go.Proofs.YteikafepdkijdaaW.PrintWords Go.Proofs.YteikafepdkijdaaW.PrintLast

theorem quot_loop {a b : List Int} (ha : Digs a) (hb : Digs b) (lb : b.length < 500000) (la : a.length < 200000) :
  ∀ (p : Nat) (out r : List Int), p ≤ a.length → Digs out → out.length = a.length → (∀ i, i < p → out.getD i 0 = 0) → Digs r → r.length + p < 400000 → Norm r → bv r < bv b →
  ∃ s r', At (fun k => demurrageref01_Quot.l0 k out ((p : Int) - 1) a b r) (s, r') ∧ Digs s ∧ Norm s ∧ s.length ≤ a.length ∧ Digs r' ∧ Norm r' ∧ r'.length < 400000 ∧ bv r' < bv b ∧
   bv s * bv b + bv r' = bv out * bv b + 10000 ^ p * bv r + bv (a.take p) := by
 intro p
 induction p with
 | zero =>
  intro out r _ ho lo _ hr lr nr hlt
  obtain ⟨t, t1, t2, t3, t4, t5⟩ := trim_eq ho (by omega)
  refine ⟨t, r, ⟨1, fun k hk => ?_⟩, t2, t4, by omega, hr, nr, by omega, hlt, by rw [t3]; simp [bv]⟩
  obtain ⟨k, rfl⟩ : ∃ j, k = j + 1 := ⟨k - 1, by omega⟩
  show demurrageref01_Quot.l0 (k + 1) out (((0 : Nat) : Int) - 1) a b r = _
  rw [demurrageref01_Quot.l0, if_neg (by omega), t1, Option.bind_some]
 | succ p ih =>
  intro out r hp ho lo hz hr lr nr hlt
  have dp := getD_digs ha p
  have dy : Digs (a.getD p 0 :: r) := digs_cons.mpr ⟨dp, hr⟩
  obtain ⟨t, t1, t2, t3, t4, t5⟩ := trim_eq dy (by simp; omega)
  have ly : (a.getD p 0 :: r).length = r.length + 1 := by simp
  have vt : bv t = a.getD p 0 + 10000 * bv r := by rw [t3, bv]
  have nb := bv_nonneg hr
  obtain ⟨d, r', g1, g2, g3, g4, g5, g6, g7, g8⟩ := quot_digit (a := a) (r := t) (out := out) (p := p) hb t2 lb (by omega) (by omega) (by omega) 10000 0 10000 (by omega) (by omega) (by omega) (by omega) (by rw [Int.mul_zero]; exact bv_nonneg t2) (by rw [vt]; omega)
  have zp : out.getD p 0 = 0 := hz p (by omega)
  obtain ⟨s, r2, i1, i2, i3, i4, i5, i6, i7, i8, i9⟩ := ih (out.set p d) r' (by omega) (digs_set ho _ ⟨g1, g2⟩) (by simpa using lo) (fun i hi => by
   rw [List.getD_eq_getElem?_getD, List.getElem?_set_ne (by omega), ← List.getD_eq_getElem?_getD]
   exact hz i (by omega)) g3 (by omega) g4 g6
  have e1 : (a.take p).length = p := by rw [List.length_take]; omega
  refine ⟨s, r2, ?_, i2, i3, i4, i5, i6, i7, i8, ?_⟩
  ·refine At.succ (g := fun k => demurrageref01_Quot.l1 k out (p : Int) 0 10000 a b t) (fun k => ?_) (g8 _ i1)
   have e : ((p + 1 : Nat) : Int) - 1 = (p : Int) := by omega
   have c1 : (p : Int) < (a.length : Int) := by omega
   show demurrageref01_Quot.l0 (k + 1) out (((p + 1 : Nat) : Int) - 1) a b r = _
   rw [e, demurrageref01_Quot.l0, if_pos (Int.natCast_nonneg p), if_pos (Int.natCast_nonneg p), if_pos c1, Option.bind_some, rd_nat, if_pos (by simp; omega)]
   rw [show [a.getD p 0] ++ r = a.getD p 0 :: r from rfl, t1, Option.bind_some]
  ·rw [i9, g5, vt, bv_set _ _ _ (by omega), zp, take_getD (by omega), bv_append, e1, Int.pow_succ]
   have e3 : bv [a.getD p 0] = a.getD p 0 := by simp [bv]
   rw [e3]
   generalize a.getD p 0 = x
   generalize (10000 : Int) ^ p = w
   simp only [Int.add_mul, Int.mul_add, Int.mul_sub, Int.sub_zero]
   have h1 : w * (bv b * d) = w * d * bv b := by rw [Int.mul_comm (bv b) d, Int.mul_assoc]
   have h2 : w * (10000 * bv r) = w * 10000 * bv r := by rw [Int.mul_assoc]
   rw [h1, h2]
   omega

theorem quot_at {a b : List Int} (ha : Digs a) (hb : Digs b) (lb : b.length < 500000) (la : a.length < 200000) (hp : 0 < bv b) :
  ∃ s r, At (fun k => demurrageref01_Quot.f k a b) (s, r) ∧ Digs s ∧ Norm s ∧ s.length ≤ a.length ∧ Digs r ∧ Norm r ∧ r.length < 400000 ∧ bv s = bv a / bv b ∧ bv r = bv a % bv b := by
 obtain ⟨s, r, i1, i2, i3, i4, i5, i6, i7, i8, i9⟩ := quot_loop ha hb lb la a.length (List.replicate a.length 0) [] (Nat.le_refl _) (digs_zeros _) (by simp) (fun i hi => by
  rw [List.getD_eq_getElem?_getD, List.getElem?_replicate, if_pos hi]; rfl) digs_nil (by rw [List.length_nil]; omega) norm_nil (by rw [bv]; omega)
 rw [bv_zeros, List.take_length, bv] at i9
 have n := bv_nonneg i5
 have e : bv a = bv r + bv s * bv b := by
  rw [Int.zero_mul, Int.mul_zero] at i9
  omega
 refine ⟨s, r, ?_, i2, i3, i4, i5, i6, i7, ?_, ?_⟩
 ·obtain ⟨K, h⟩ := i1
  refine ⟨K, fun k hk => ?_⟩
  have := h k hk
  show demurrageref01_Quot.f k a b = _
  unfold demurrageref01_Quot.f
  rw [if_pos (Int.natCast_nonneg _), Int.toNat_natCast, if_pos (by omega), wrap64_small (x := (a.length : Int) - 1) (by omega) (by omega)]
  exact this
 ·rw [e, Int.add_mul_ediv_right _ _ (by omega), Int.ediv_eq_zero_of_lt n i8]
  omega
 ·rw [e, Int.add_mul_emod_self_right, Int.emod_eq_of_lt n i8]
end Go.Proofs.Yteikafepdkijdaa.X

namespace Go.Proofs.Yteikafepdkijdaa.X
open Go.RowKit Go.Proofs.YteikafepdkijdaaW.PrintWords Go.Proofs.YteikafepdkijdaaW.PrintLast

theorem rtold_eq {h l : Int} (a1 : U64 h) (a2 : U64 l) : round_told.f h l = some (if wv h l ≤ 4611686018427387904 then (wv h l, 0) else (0, 6)) := by
  unfold round_told.f
  rw [of_eq]
  simp only [Option.bind_some]
  rw [wcmp_eq a1 a2 (by decide) (by decide)]
  have e : wv 0 4611686018427387904 = 4611686018427387904 := by unfold wv; omega
  rw [e]
  simp only [Option.bind_some]
  by_cases h1 : wv h l ≤ 4611686018427387904
  · have e2 : wv h l = l := by
      obtain ⟨p1, p2⟩ := a1
      obtain ⟨p3, p4⟩ := a2
      unfold wv at h1 ⊢
      omega
    rw [if_pos h1, if_neg (by split; · omega
                              · split <;> omega), IntWalk.wrap64_in l (by have := a2.1; omega), e2]
  · rw [if_neg h1, if_neg (show ¬ wv h l < 4611686018427387904 by omega), if_neg (show ¬ wv h l = 4611686018427387904 by omega), if_pos (by omega)]

def nearer (x m : Int) : Bool := decide (x % m > m - x % m) || (decide (x % m = m - x % m) && decide (x / m % 2 = 1))
def ev (x m : Int) : Int := if nearer x m then x / m + 1 else x / m

theorem up_eq {r m : Int} (odd : Bool) (h0 : 0 ≤ r) (h1 : r < m) (hm : U64 m) (k : Nat) : round_up.f (k + 1) r m odd = some (decide (r > m - r) || (decide (r = m - r) && odd)) := by
 unfold round_up.f
 rw [IntWalk.u64_in (m - r) (by have := hm.2; omega)]
 by_cases h2 : r = m - r
 ·rw [if_pos h2, round_up.j0]
  cases odd with
  | true => simp [← h2]
  | false => simp [← h2]
 ·rw [if_neg h2, round_up.j0]
  by_cases h3 : r > m - r
  ·simp [h3]
  ·simp [h2, h3]

theorem even_eq {h l d : Int} (a1 : U64 h) (a2 : U64 l) (b : U64 d) (hd : d ≠ 0) (k : Nat) :
  round_Even.f (k + 1) h l d = some (if wv h l / d ≤ 4611686018427387904 ∧ ev (wv h l) d ≤ 4611686018427387904 then (ev (wv h l) d, 0) else (0, 6)) := by
 have lx := wv_lt a1 a2
 have d1 : 0 ≤ wv h l / d := Int.ediv_nonneg lx.1 b.1
 have d2 : wv h l / d ≤ wv h l := Int.ediv_le_self _ lx.1
 have r0 := Int.emod_nonneg (wv h l) hd
 have r1 := Int.emod_lt_of_pos (wv h l) (show 0 < d by have := b.1; omega)
 obtain ⟨p1, p2, p3⟩ := wv_parts d1 (by omega)
 unfold round_Even.f
 rw [div_eq a1 a2 b hd]
 simp only [Option.bind_some, if_true]
 rw [rtold_eq p1 p2, p3]
 simp only [Option.bind_some]
 by_cases h1 : wv h l / d ≤ 4611686018427387904
 ·simp only [if_pos h1, if_true]
  have t1 : Int.tmod (wv h l / d) 2 = wv h l / d % 2 := Int.tmod_eq_emod_of_nonneg d1
  rw [up_eq _ r0 r1 b, t1]
  simp only [Option.bind_some]
  have e1 : (decide (wv h l % d > d - wv h l % d) || (decide (wv h l % d = d - wv h l % d) && (wv h l / d % 2 == 1))) = nearer (wv h l) d := by
   unfold nearer
   congr 2
  rw [e1, round_Even.j0]
  by_cases h2 : nearer (wv h l) d = true
  ·rw [if_pos h2, IntWalk.u64_in (wv h l / d) (by omega), IntWalk.u64_in (wv h l / d + 1) (by omega), of_eq]
   simp only [Option.bind_some]
   have e2 : wv 0 (wv h l / d + 1) = wv h l / d + 1 := by unfold wv; omega
   rw [rtold_eq (by decide) ⟨by omega, by omega⟩, e2]
   have e3 : ev (wv h l) d = wv h l / d + 1 := by unfold ev; rw [if_pos h2]
   rw [e3]
   simp only [Option.bind_some]
   by_cases h3 : wv h l / d + 1 ≤ 4611686018427387904
   ·rw [if_pos h3, if_pos ⟨h1, h3⟩]
   ·rw [if_neg h3, if_neg (fun h => h3 h.2)]
  ·have e3 : ev (wv h l) d = wv h l / d := by unfold ev; rw [if_neg h2]
   rw [if_neg h2, e3, if_pos ⟨h1, h1⟩]
 ·simp only [if_neg h1]
  rw [if_neg (show ¬ (6 : Int) = 0 by omega), round_Even.j0, if_neg (show ¬ false = true by decide), if_neg (fun h : _ ∧ _ => h1 h.1)]

theorem ev_near {x m : Int} (hm : 0 < m) : 2 * (ev x m * m) ≤ 2 * x + m ∧ 2 * x ≤ 2 * (ev x m * m) + m ∧ x / m ≤ ev x m ∧ ev x m ≤ x / m + 1 := by
 have r0 := Int.emod_nonneg x (show m ≠ 0 by omega)
 have r1 := Int.emod_lt_of_pos x hm
 have e := Int.mul_ediv_add_emod x m
 rw [Int.mul_comm] at e
 unfold ev nearer
 split
 ·rename_i h
  rw [Int.add_mul, Int.one_mul]
  simp at h
  omega
 ·rename_i h
  simp at h
  omega
theorem ev_mono {x y m : Int} (hm : 0 < m) (h : x ≤ y) : ev x m ≤ ev y m := by
 have q1 : x / m ≤ y / m := Int.ediv_le_ediv hm h
 have n1 := ev_near (x := x) hm
 have n2 := ev_near (x := y) hm
 by_cases q2 : x / m = y / m
 ·have e1 := Int.mul_ediv_add_emod x m
  have e2 := Int.mul_ediv_add_emod y m
  rw [q2] at e1
  unfold ev nearer
  rw [q2]
  by_cases h1 : (decide (x % m > m - x % m) || (decide (x % m = m - x % m) && decide (y / m % 2 = 1))) = true
  ·rw [if_pos h1, if_pos]
   ·omega
   ·simp at h1 ⊢
    omega
  ·rw [if_neg h1]
   split <;> omega
 ·omega
end Go.Proofs.Yteikafepdkijdaa.X

set_option maxRecDepth 10000
namespace Go.Proofs.Yteikafepdkijdaa.X
open Go.RowKit Go.Proofs.YteikafepdkijdaaW.PrintWords Go.Proofs.YteikafepdkijdaaW.PrintLast

theorem hv_le {l : List Int} (h : Digs l) : ∀ i, hv l i ≤ bv l
 | 0 => by rw [hv_zero]; omega
 | i + 1 => by
  have s := hv_step l i
  have d := getD_digs h i
  have n := hv_nonneg h (i + 1)
  have := hv_le h i
  omega

theorem tell_loop {l : List Int} (h : Digs l) (ll : l.length < 500000) (hm : bv l ≤ 4611686018427387904) : ∀ (i k : Nat), i ≤ l.length → i + 1 ≤ k → demurrageref03_told.l0 k (hv l i) ((i : Int) - 1) l = some (bv l, 0) := by
 intro i
 induction i with
 | zero =>
  intro k _ hk
  obtain ⟨k, rfl⟩ : ∃ j, k = j + 1 := ⟨k - 1, by omega⟩
  rw [demurrageref03_told.l0, if_neg (by omega), hv_zero]
 | succ i ih =>
  intro k hi hk
  obtain ⟨k, rfl⟩ : ∃ j, k = j + 1 := ⟨k - 1, by omega⟩
  have s := hv_step l i
  have d := getD_digs h i
  have n := hv_nonneg h (i + 1)
  have le := hv_le h i
  have e : ((i + 1 : Nat) : Int) - 1 = (i : Int) := by omega
  have c : (i : Int) < (l.length : Int) := by omega
  have w1 : wrap64 (10000 * hv l (i + 1)) = 10000 * hv l (i + 1) := wrap64_small (by omega) (by omega)
  have w2 : wrap64 (10000 * hv l (i + 1) + l.getD i 0) = hv l i := by
   rw [wrap64_small (x := 10000 * hv l (i + 1) + l.getD i 0) (by clear w1; omega) (by clear w1; omega)]
   clear w1
   omega
  have w3 : wrap64 ((i : Int) - 1) = (i : Int) - 1 := wrap64_small (by clear w1 w2; omega) (by clear w1 w2; omega)
  rw [e, demurrageref03_told.l0, if_pos (Int.natCast_nonneg i), if_pos (Int.natCast_nonneg i), if_pos c, rd_nat, w1, w2, w3]
  clear w1 w2 w3
  exact ih k (by omega) (by omega)

theorem tell_at {l : List Int} (h : Digs l) (ll : l.length < 500000) : At (fun k => demurrageref03_told.f k l) (if bv l ≤ 4611686018427387904 then (bv l, 0) else (0, 6)) := by
 obtain ⟨m, m1, m2, m3, m4, m5⟩ := fromU_at (x := 4611686018427387904) ⟨by omega, by omega⟩
 have c := cmp_at h m2 (by omega) (by omega)
 rw [m3] at c
 unfold demurrageref03_told.f
 refine At.bind (g := fun k t => (demurrageref01_Cmp.f k l t).bind fun v => if v > 0 then some (0, 6) else demurrageref03_told.l0 k 0 (wrap64 ((l.length : Int) - 1)) l) m1
  (At.bind (g := fun k v => if v > 0 then some (0, 6) else demurrageref03_told.l0 k 0 (wrap64 ((l.length : Int) - 1)) l) c ⟨l.length + 1, fun k hk => ?_⟩)
 show (if bsg (bv l) 4611686018427387904 > 0 then some (0, 6) else demurrageref03_told.l0 k 0 (wrap64 ((l.length : Int) - 1)) l) = _
 have w : wrap64 ((l.length : Int) - 1) = (l.length : Int) - 1 := wrap64_small (by omega) (by omega)
 rw [w]
 clear w
 by_cases hm : bv l ≤ 4611686018427387904
 ·have : ¬ bsg (bv l) 4611686018427387904 > 0 := by
   unfold bsg
   repeat' split
   all_goals omega
  rw [if_neg this, if_pos hm]
  have t := tell_loop h ll hm l.length k (Nat.le_refl _) hk
  rw [hv_end (Nat.le_refl _)] at t
  exact t
 ·have : bsg (bv l) 4611686018427387904 > 0 := by
   unfold bsg
   rw [if_neg (by omega), if_neg (by omega)]
   omega
  rw [if_pos this, if_neg hm]

theorem bv_odd {l : List Int} (_ : Digs l) : bv l % 2 = l.getD 0 0 % 2 := by
 have := hv_step l 0
 rw [hv_zero] at this
 omega

theorem near_at {a b : List Int} (ha : Digs a) (hb : Digs b) (la : a.length < 100000) (lb : b.length < 100000) (hp : 0 < bv b) : ∃ s, At (fun k => demurrageref03_Near.f k a b) s ∧ Digs s ∧ bv s = ev (bv a) (bv b) ∧ s.length < 400000 := by
 obtain ⟨q, r, e1, e2, e3, e4, e5, e6, e7, e8, e9⟩ := quot_at ha hb (by omega) (by omega) hp
 obtain ⟨u, u1, u2, u3, u4⟩ := plus_at e5 e5 (by omega) (by omega)
 have c := cmp_at u2 hb (by omega) (by omega)
 obtain ⟨o, o1, o2, o3, o4, o5⟩ := from_at (x := 1) ⟨by omega, by omega⟩
 obtain ⟨v, v1, v2, v3, v4⟩ := plus_at e2 o2 (by omega) (by omega)
 have rn := bv_nonneg e5
 have j1 : ∀ x : Bool, At (fun k => demurrageref03_Near.j1 k x q) (if x then v else q) := by
  intro x
  cases x with
  | true =>
   refine At.succ (g := fun k => (demurrageref01_From.f k 1).bind fun t => (demurrageref01_Plus.f k q t).bind fun t => some t) (fun k => ?_)
    (At.bind (g := fun k t => (demurrageref01_Plus.f k q t).bind fun t => some t) o1 (At.done v1))
   rw [demurrageref03_Near.j1, if_pos rfl]
  | false =>
   refine At.succ (g := fun _ => some q) (fun k => ?_) ⟨0, fun _ _ => rfl⟩
   rw [demurrageref03_Near.j1, if_neg (by decide)]
 have j0 : ∀ (x : Int) (y : Bool), At (fun k => demurrageref03_Near.j0 k x y q) (if (decide (x > 0) || (decide (x = 0) && y)) then v else q) := by
  intro x y
  by_cases h1 : x > 0
  ·have t := j1 true
   have e : (decide (x > 0) || (decide (x = 0) && y)) = true := by simp [h1]
   rw [e]
   refine At.succ (g := fun k => demurrageref03_Near.j1 k true q) (fun k => ?_) t
   rw [demurrageref03_Near.j0, if_pos h1]
  ·by_cases h2 : x = 0
   ·have e : (decide (x > 0) || (decide (x = 0) && y)) = y := by simp [h2]
    rw [e]
    refine At.succ (g := fun k => demurrageref03_Near.j1 k y q) (fun k => ?_) (j1 y)
    rw [demurrageref03_Near.j0, if_neg h1, if_pos h2]
   ·have e : (decide (x > 0) || (decide (x = 0) && y)) = false := by simp [h1, h2]
    rw [e]
    refine At.succ (g := fun k => demurrageref03_Near.j1 k false q) (fun k => ?_) (j1 false)
    rw [demurrageref03_Near.j0, if_neg h1, if_neg h2]
 have odd := bv_odd e2
 have fin : ∀ y : Bool, (y = true ↔ bv q % 2 = 1) → ∃ s, s = (if (decide (bsg (bv u) (bv b) > 0) || (decide (bsg (bv u) (bv b) = 0) && y)) then v else q) ∧ Digs s ∧ bv s = ev (bv a) (bv b) ∧ s.length < 400000 := by
  intro y hy
  have n1 : (decide (bsg (bv u) (bv b) > 0) || (decide (bsg (bv u) (bv b) = 0) && y)) = nearer (bv a) (bv b) := by
   unfold nearer
   rw [← e8, ← e9, u3, Bool.eq_iff_iff]
   unfold bsg
   simp only [Bool.or_eq_true, Bool.and_eq_true, decide_eq_true_eq, hy]
   repeat' split
   all_goals omega
  rw [n1]
  unfold ev
  by_cases hn : nearer (bv a) (bv b) = true
  ·rw [if_pos hn, if_pos hn]
   exact ⟨v, rfl, v2, by rw [v3, o3, e8], by omega⟩
  ·rw [if_neg hn, if_neg hn]
   exact ⟨q, rfl, e2, e8, by omega⟩
 by_cases hq : (q.length : Int) > 0
 ·have t1 : Int.tmod (rd q 0) 2 = bv q % 2 := by
   have d := getD_digs e2 0
   have := rd_nat q 0
   rw [show ((0 : Nat) : Int) = 0 from rfl] at this
   rw [this, Int.tmod_eq_emod_of_nonneg d.1, odd]
  obtain ⟨s, s1, s2, s3, s4⟩ := fin (bv q % 2 == 1) (by simp)
  refine ⟨s, ?_, s2, s3, s4⟩
  rw [s1]
  unfold demurrageref03_Near.f
  refine At.bind (g := fun k w => (demurrageref01_Plus.f k w.2 w.2).bind fun x => (demurrageref01_Cmp.f k x b).bind fun y => if (w.1.length : Int) > 0 then (if 0 < (w.1.length : Int) then demurrageref03_Near.j0 k y (Int.tmod (rd w.1 0) 2 == 1) w.1 else none) else demurrageref03_Near.j0 k y false w.1) e1
   (At.bind (g := fun k x => (demurrageref01_Cmp.f k x b).bind fun y => if (q.length : Int) > 0 then (if 0 < (q.length : Int) then demurrageref03_Near.j0 k y (Int.tmod (rd q 0) 2 == 1) q else none) else demurrageref03_Near.j0 k y false q) u1
    (At.bind (g := fun k y => if (q.length : Int) > 0 then (if 0 < (q.length : Int) then demurrageref03_Near.j0 k y (Int.tmod (rd q 0) 2 == 1) q else none) else demurrageref03_Near.j0 k y false q) c ?_))
  obtain ⟨K, h⟩ := j0 (bsg (bv u) (bv b)) (bv q % 2 == 1)
  refine ⟨K, fun k hk => ?_⟩
  rw [t1]
  exact (if_pos hq).trans ((if_pos hq).trans (h k hk))
 ·have z : q = [] := List.eq_nil_of_length_eq_zero (by omega)
  obtain ⟨s, s1, s2, s3, s4⟩ := fin false (by rw [z]; simp [bv])
  refine ⟨s, ?_, s2, s3, s4⟩
  rw [s1]
  unfold demurrageref03_Near.f
  refine At.bind (g := fun k w => (demurrageref01_Plus.f k w.2 w.2).bind fun x => (demurrageref01_Cmp.f k x b).bind fun y => if (w.1.length : Int) > 0 then (if 0 < (w.1.length : Int) then demurrageref03_Near.j0 k y (Int.tmod (rd w.1 0) 2 == 1) w.1 else none) else demurrageref03_Near.j0 k y false w.1) e1
   (At.bind (g := fun k x => (demurrageref01_Cmp.f k x b).bind fun y => if (q.length : Int) > 0 then (if 0 < (q.length : Int) then demurrageref03_Near.j0 k y (Int.tmod (rd q 0) 2 == 1) q else none) else demurrageref03_Near.j0 k y false q) u1
    (At.bind (g := fun k y => if (q.length : Int) > 0 then (if 0 < (q.length : Int) then demurrageref03_Near.j0 k y (Int.tmod (rd q 0) 2 == 1) q else none) else demurrageref03_Near.j0 k y false q) c ?_))
  obtain ⟨K, h⟩ := j0 (bsg (bv u) (bv b)) false
  exact ⟨K, fun k hk => (if_neg hq).trans (h k hk)⟩

end Go.Proofs.Yteikafepdkijdaa.X

set_option maxRecDepth 10000
namespace Go.Proofs.Yteikafepdkijdaa.X
open Go.RowKit Go.Proofs.YteikafepdkijdaaW.PrintWords Go.Proofs.YteikafepdkijdaaW.PrintLast

def parted (x d : Int) : Int × Int := if x < 340282366920938463463374607431768211456 ∧ d < 18446744073709551616 then (if ev x d ≤ 4611686018427387904 then (ev x d, 0) else (0, 6)) else (0, 6)
def parts (a b n d p : Int) : Int × Int := if a < 0 ∨ b < 0 ∨ p < 1 then (0, 1) else parted (a * b * n) (p * d)

theorem i_u64 {x : Int} (h0 : 0 ≤ x) (h1 : x < 9223372036854775808) : U64 x := ⟨h0, by omega⟩
theorem i_wrap {x : Int} (h0 : 0 ≤ x) (h1 : x < 9223372036854775808) : IntKind.u64.wrap x = x := IntWalk.u64_in x ⟨h0, by omega⟩

theorem round_at {x d : Int} (h0 : 0 ≤ x) (h1 : x < 340282366920938463463374607431768211456) (d0 : 0 < d) (d1 : d < 18446744073709551616) (k : Nat) :
  round_Even.f (k + 1) (x / 18446744073709551616) (x % 18446744073709551616) d = some (if ev x d ≤ 4611686018427387904 then (ev x d, 0) else (0, 6)) := by
 obtain ⟨p1, p2, p3⟩ := wv_parts h0 h1
 rw [even_eq p1 p2 ⟨by omega, by omega⟩ (by omega) k, p3]
 have n := (ev_near (x := x) d0).2.2.1
 by_cases c : ev x d ≤ 4611686018427387904
 ·rw [if_pos c, if_pos ⟨by omega, c⟩]
 ·rw [if_neg c, if_neg (fun x => c x.2)]

theorem mul_small {x y : Int} (h0 : 0 ≤ x) (h1 : x < 9223372036854775808) (g0 : 0 ≤ y) (g1 : y < 9223372036854775808) : 0 ≤ x * y ∧ x * y < 340282366920938463463374607431768211456 := by
 refine ⟨Int.mul_nonneg h0 g0, ?_⟩
 have : x * y ≤ 9223372036854775808 * 9223372036854775808 := Int.mul_le_mul (by omega) (by omega) g0 (by omega)
 omega

theorem rpart_j {a b n d p : Int} (a0 : 0 ≤ a) (a1 : a < 9223372036854775808) (b0 : 0 ≤ b) (b1 : b < 9223372036854775808) (n0 : 0 ≤ n) (n1 : n ≤ 4611686018427387904) (d0 : 1 ≤ d) (d1 : d ≤ 4611686018427387904) (p0 : 1 ≤ p) (p1 : p < 9223372036854775808) (k : Nat) :
  round_Part.j0 (k + 2) a b p false n d = some (parted (a * b * n) (p * d)) := by
 obtain ⟨m0, m1⟩ := mul_small a0 a1 b0 b1
 obtain ⟨e0, e1⟩ := mul_small (x := p) (y := d) (by omega) p1 (by omega) (by omega)
 have dp : 0 < p * d := Int.mul_pos (by omega) (by omega)
 have mn : 0 ≤ a * b * n := Int.mul_nonneg m0 n0
 obtain ⟨w1, w2, w3⟩ := wv_parts m0 m1
 have un : U64 n := ⟨n0, by omega⟩
 rw [round_Part.j0, if_neg (by decide), i_wrap a0 a1, i_wrap b0 b1, i_wrap n0 (by omega), i_wrap (x := p) (by omega) p1, i_wrap (x := d) (by omega) (by omega), mul_eq (i_u64 a0 a1) (i_u64 b0 b1), Option.bind_some]
 show ((wide_Times.f (a * b / 18446744073709551616) (a * b % 18446744073709551616) n).bind fun bt5652 => ((wide_Mul.f p d).bind fun bt5656 => (if bt5652.2.2 = 0 then (if bt5656.1 = 0 then ((round_Even.f (k + 1) bt5652.1 bt5652.2.1 bt5656.2).bind fun bt5659 => (some (bt5659.1, bt5659.2))) else (some (0, 6))) else (some (0, 6))))) = some (parted (a * b * n) (p * d))
 rw [times_eq w1 w2 un, w3, Option.bind_some, mul_eq (i_u64 (by omega) p1) (i_u64 (by omega) (by omega)), Option.bind_some]
 unfold parted
 clear w1 w2 w3
 generalize a * b * n = x at *
 generalize p * d = e at *
 by_cases c1 : x < 340282366920938463463374607431768211456
 ·rw [if_pos c1]
  show (if (0 : Int) = 0 then (if e / 18446744073709551616 = 0 then ((round_Even.f (k + 1) (x / 18446744073709551616) (x % 18446744073709551616) (e % 18446744073709551616)).bind fun bt5659 => (some (bt5659.1, bt5659.2))) else (some (0, 6))) else (some (0, 6))) = _
  rw [if_pos rfl]
  by_cases c2 : e < 18446744073709551616
  ·have e3 : e % 18446744073709551616 = e := by omega
   rw [if_pos (show e / 18446744073709551616 = 0 by omega), if_pos (show x < 340282366920938463463374607431768211456 ∧ e < 18446744073709551616 from ⟨c1, c2⟩), e3, round_at mn c1 dp c2 k, Option.bind_some]
  ·rw [if_neg (show ¬ e / 18446744073709551616 = 0 by omega), if_neg (fun h : _ ∧ _ => c2 h.2)]
 ·rw [if_neg c1, if_neg (fun h : _ ∧ _ => c1 h.1)]
  rfl

theorem rpart_at {a b n d p : Int} (a1 : a < 9223372036854775808) (b1 : b < 9223372036854775808) (n0 : 0 ≤ n) (n1 : n ≤ 4611686018427387904) (d0 : 1 ≤ d) (d1 : d ≤ 4611686018427387904) (p1 : p < 9223372036854775808) (k : Nat) :
  round_Part.f (k + 2) a b n d p = some (parts a b n d p) := by
 have no : round_Part.j0 (k + 2) a b p true n d = some (0, 1) := by rw [round_Part.j0, if_pos rfl]
 unfold round_Part.f parts
 by_cases c1 : a < 0
 ·rw [if_pos c1, if_pos (Or.inl c1), no]
 ·rw [if_neg c1]
  by_cases c2 : b < 0
  ·rw [if_pos c2, if_pos (Or.inr (Or.inl c2)), no]
  ·rw [if_neg c2]
   by_cases c3 : p < 1
   ·rw [decide_eq_true c3, if_pos (Or.inr (Or.inr c3)), no]
   ·rw [decide_eq_false c3, if_neg (by omega)]
    exact rpart_j (by omega) a1 (by omega) b1 n0 n1 d0 d1 (by omega) p1 k
end Go.Proofs.Yteikafepdkijdaa.X

set_option maxRecDepth 10000
namespace Go.Proofs.Yteikafepdkijdaa.X
open Go.RowKit Go.Proofs.YteikafepdkijdaaW.PrintWords Go.Proofs.YteikafepdkijdaaW.PrintLast

theorem bsg_ge {x y : Int} : bsg x y ≥ 0 ↔ ¬ x < y := by
 unfold bsg
 repeat' split
 all_goals omega

theorem refpart_j1 {v w : List Int} (v2 : Digs v) (w2 : Digs w) (lv : v.length < 1000) (lw : w.length < 1000) (wp : 0 < bv w) :
  At (fun k => demurrageref03_Part.j1 k (!decide (bv v < 340282366920938463463374607431768211456 ∧ bv w < 18446744073709551616)) v w) (parted (bv v) (bv w)) := by
 unfold parted
 by_cases c : bv v < 340282366920938463463374607431768211456 ∧ bv w < 18446744073709551616
 ·rw [if_pos c, decide_eq_true c]
  obtain ⟨s, ⟨K1, h1⟩, s2, s3, s4⟩ := near_at v2 w2 (by omega) (by omega) wp
  obtain ⟨K2, h2⟩ := tell_at s2 (by omega)
  rw [s3] at h2
  generalize (if ev (bv v) (bv w) ≤ 4611686018427387904 then (ev (bv v) (bv w), (0 : Int)) else (0, 6)) = R at h2 ⊢
  refine ⟨K1 + K2 + 1, fun k hk => ?_⟩
  obtain ⟨j, rfl⟩ : ∃ j, k = j + 1 := ⟨k - 1, by omega⟩
  have h1 : demurrageref03_Near.f j v w = some s := h1 j (by omega)
  have h2 : demurrageref03_told.f j s = some R := h2 j (by omega)
  show demurrageref03_Part.j1 (j + 1) false v w = some R
  rw [demurrageref03_Part.j1, if_neg (by decide), h1, Option.bind_some, h2, Option.bind_some]
 ·rw [if_neg c, decide_eq_false c]
  refine ⟨1, fun k hk => ?_⟩
  obtain ⟨j, rfl⟩ : ∃ j, k = j + 1 := ⟨k - 1, by omega⟩
  show demurrageref03_Part.j1 (j + 1) true v w = _
  rw [demurrageref03_Part.j1, if_pos rfl]

theorem refpart_j0 {a b n d p : Int} (a0 : 0 ≤ a) (a1 : a < 9223372036854775808) (b0 : 0 ≤ b) (b1 : b < 9223372036854775808) (n0 : 0 ≤ n) (n1 : n ≤ 4611686018427387904) (d0 : 1 ≤ d) (d1 : d ≤ 4611686018427387904) (p0 : 1 ≤ p) (p1 : p < 9223372036854775808) :
  At (fun k => demurrageref03_Part.j0 k a b p false n d) (parted (a * b * n) (p * d)) := by
 obtain ⟨la, ⟨K1, h1⟩, A2, A3, A4, A5⟩ := from_at (x := a) ⟨a0, a1⟩
 obtain ⟨lb, ⟨K2, h2⟩, B2, B3, B4, B5⟩ := from_at (x := b) ⟨b0, b1⟩
 obtain ⟨u, ⟨K3, h3⟩, u2, u3, u4, u5⟩ := prod_at A2 B2 (by omega) (by omega)
 obtain ⟨ln, ⟨K4, h4⟩, N2, N3, N4, N5⟩ := from_at (x := n) ⟨n0, by omega⟩
 obtain ⟨v, ⟨K5, h5⟩, v2, v3, v4, v5⟩ := prod_at u2 N2 (by omega) (by omega)
 obtain ⟨lp, ⟨K6, h6⟩, P2, P3, P4, P5⟩ := from_at (x := p) ⟨by omega, p1⟩
 obtain ⟨ld, ⟨K7, h7⟩, D2, D3, D4, D5⟩ := from_at (x := d) ⟨by omega, by omega⟩
 obtain ⟨w, ⟨K8, h8⟩, w2, w3, w4, w5⟩ := prod_at P2 D2 (by omega) (by omega)
 obtain ⟨hf, ⟨K9, h9⟩, F2, F3, F4, F5⟩ := fromU_at (x := 4294967296) ⟨by omega, by omega⟩
 obtain ⟨L, ⟨K10, h10⟩, L2, L3, L4⟩ := limit_at
 obtain ⟨K11, h11⟩ := cmp_at v2 L2 (by omega) (by omega)
 obtain ⟨hh, ⟨K12, h12⟩, H2, H3, H4, H5⟩ := prod_at F2 F2 (by omega) (by omega)
 obtain ⟨K13, h13⟩ := cmp_at w2 H2 (by omega) (by omega)
 have ev1 : bv v = a * b * n := by rw [v3, u3, A3, B3, N3]
 have ew1 : bv w = p * d := by rw [w3, P3, D3]
 have eh : bv hh = 18446744073709551616 := by rw [H3, F3]; rfl
 obtain ⟨K14, h14⟩ := refpart_j1 v2 w2 (by omega) (by omega) (by rw [ew1]; exact Int.mul_pos (by omega) (by omega))
 rw [L3] at h11
 rw [eh] at h13
 rw [← ev1, ← ew1]
 clear ev1 ew1 eh v3 w3 H3
 generalize parted (bv v) (bv w) = R at h14 ⊢
 refine ⟨K1 + K2 + K3 + K4 + K5 + K6 + K7 + K8 + K9 + K10 + K11 + K12 + K13 + K14 + 1, fun k hk => ?_⟩
 obtain ⟨j, rfl⟩ : ∃ j, k = j + 1 := ⟨k - 1, by omega⟩
 have h1 : demurrageref01_From.f j a = some la := h1 j (by omega)
 have h2 : demurrageref01_From.f j b = some lb := h2 j (by omega)
 have h3 : demurrageref01_Prod.f j la lb = some u := h3 j (by omega)
 have h4 : demurrageref01_From.f j n = some ln := h4 j (by omega)
 have h5 : demurrageref01_Prod.f j u ln = some v := h5 j (by omega)
 have h6 : demurrageref01_From.f j p = some lp := h6 j (by omega)
 have h7 : demurrageref01_From.f j d = some ld := h7 j (by omega)
 have h8 : demurrageref01_Prod.f j lp ld = some w := h8 j (by omega)
 have h9 : demurrageref01_FromU.f j 4294967296 = some hf := h9 j (by omega)
 have h10 : demurrageref01_Limit.f j = some L := h10 j (by omega)
 have h11 : demurrageref01_Cmp.f j v L = some (bsg (bv v) 340282366920938463463374607431768211456) := h11 j (by omega)
 have h12 : demurrageref01_Prod.f j hf hf = some hh := h12 j (by omega)
 have h13 : demurrageref01_Cmp.f j w hh = some (bsg (bv w) 18446744073709551616) := h13 j (by omega)
 have h14 : demurrageref03_Part.j1 j (!decide (bv v < 340282366920938463463374607431768211456 ∧ bv w < 18446744073709551616)) v w = some R := h14 j (by omega)
 show demurrageref03_Part.j0 (j + 1) a b p false n d = some R
 rw [demurrageref03_Part.j0, if_neg (by decide), h1, Option.bind_some, h2, Option.bind_some, h3, Option.bind_some, h4, Option.bind_some, h5, Option.bind_some, h6, Option.bind_some, h7, Option.bind_some, h8, Option.bind_some,
  h9, Option.bind_some, h10, Option.bind_some, h11, Option.bind_some]
 by_cases c : bv v < 340282366920938463463374607431768211456
 ·rw [if_neg (fun h => bsg_ge.mp h c), h12, Option.bind_some, h13, Option.bind_some]
  have e : decide (bsg (bv w) 18446744073709551616 ≥ 0) = !decide (bv v < 340282366920938463463374607431768211456 ∧ bv w < 18446744073709551616) := by
   by_cases g : bv w < 18446744073709551616
   ·rw [decide_eq_false (fun h => bsg_ge.mp h g), decide_eq_true ⟨c, g⟩]
    rfl
   ·rw [decide_eq_true (bsg_ge.mpr g), decide_eq_false (fun h : _ ∧ _ => g h.2)]
    rfl
  rw [e]
  exact h14
 ·rw [if_pos (bsg_ge.mpr c)]
  rw [decide_eq_false (fun h : _ ∧ _ => c h.1)] at h14
  exact h14

theorem refpart_at {a b n d p : Int} (a1 : a < 9223372036854775808) (b1 : b < 9223372036854775808) (n0 : 0 ≤ n) (n1 : n ≤ 4611686018427387904) (d0 : 1 ≤ d) (d1 : d ≤ 4611686018427387904) (p1 : p < 9223372036854775808) :
  At (fun k => demurrageref03_Part.f k a b n d p) (parts a b n d p) := by
 have no : ∀ k, demurrageref03_Part.j0 (k + 1) a b p true n d = some (0, 1) := fun k => by rw [demurrageref03_Part.j0, if_pos rfl]
 unfold parts
 by_cases c : a < 0 ∨ b < 0 ∨ p < 1
 ·rw [if_pos c]
  refine ⟨1, fun k hk => ?_⟩
  obtain ⟨j, rfl⟩ : ∃ j, k = j + 1 := ⟨k - 1, by omega⟩
  show demurrageref03_Part.f (j + 1) a b n d p = _
  unfold demurrageref03_Part.f
  by_cases c1 : a < 0
  ·rw [if_pos c1, no]
  ·rw [if_neg c1]
   by_cases c2 : b < 0
   ·rw [if_pos c2, no]
   ·rw [if_neg c2, decide_eq_true (show p < 1 by omega), no]
 ·rw [if_neg c]
  obtain ⟨K, h⟩ := refpart_j0 (a := a) (b := b) (n := n) (d := d) (p := p) (by omega) a1 (by omega) b1 n0 n1 d0 d1 (by omega) p1
  refine ⟨K, fun k hk => ?_⟩
  have h : demurrageref03_Part.j0 k a b p false n d = some (parted (a * b * n) (p * d)) := h k hk
  show demurrageref03_Part.f k a b n d p = _
  unfold demurrageref03_Part.f
  rw [if_neg (show ¬ a < 0 by omega), if_neg (show ¬ b < 0 by omega), decide_eq_false (show ¬ p < 1 by omega)]
  exact h
end Go.Proofs.Yteikafepdkijdaa.X

namespace Go.Proofs.Yteikafepdkijdaa.X
open Go.RowKit Go.Proofs.YteikafepdkijdaaW.PrintWords Go.Proofs.YteikafepdkijdaaW.PrintLast

theorem At.grow {α : Type} {f : Nat → Option α} {r : α} {K : Nat} (m : ∀ k, LeO (f k) (f (k + 1))) (h : f K = some r) : At f r := by
 refine ⟨K, fun k hk => ?_⟩
 obtain ⟨n, rfl⟩ : ∃ n, k = K + n := ⟨k - K, by omega⟩
 clear hk
 induction n with
 | zero => exact h
 | succ n ih => exact m (K + n) r ih
end Go.Proofs.Yteikafepdkijdaa.X

set_option maxRecDepth 10000
namespace Go.Proofs.Yteikafepdkijdaa.X
open Go.RowKit Go.Proofs.YteikafepdkijdaaW.PrintWords Go.Proofs.YteikafepdkijdaaW.PrintLast

def Rgt (n d : Int) : Prop := 0 ≤ n ∧ n ≤ 4611686018427387904 ∧ 1 ≤ d ∧ d ≤ 4611686018427387904 ∧ Nat.gcd n.toNat d.toNat = 1
instance (n d : Int) : Decidable (Rgt n d) := by unfold Rgt; infer_instance

theorem right_loop : ∀ (m x y k : Nat), y ≤ m → m + 1 ≤ k → 0 < x + y → demurrageref02_Right.l0 k x y = some (Nat.gcd x y == 1) := by
 intro m
 induction m with
 | zero =>
  intro x y k hy hk h0
  obtain ⟨j, rfl⟩ : ∃ j, k = j + 1 := ⟨k - 1, by omega⟩
  obtain rfl : y = 0 := by omega
  rw [demurrageref02_Right.l0, if_neg (by omega)]
  unfold demurrageref02_divides.f
  rw [if_neg (by omega), Option.bind_some, Nat.gcd_zero_right]
  congr 1
  have e : Int.tmod 1 (x : Int) = ((1 % x : Nat) : Int) := by
   rw [Int.tmod_eq_emod_of_nonneg (by omega), Int.natCast_emod]
   rfl
  rw [e]
  by_cases h1 : x = 1
  ·subst h1
   rfl
  ·rw [Nat.mod_eq_of_lt (by omega : 1 < x)]
   simp [h1]
 | succ m ih =>
  intro x y k hy hk h0
  obtain ⟨j, rfl⟩ : ∃ j, k = j + 1 := ⟨k - 1, by omega⟩
  by_cases h1 : y = 0
  ·subst h1
   exact ih x 0 (j + 1) (by omega) (by omega) h0
  ·rw [demurrageref02_Right.l0, if_pos (by omega), if_neg (by omega)]
   have e : Int.tmod (x : Int) (y : Int) = ((x % y : Nat) : Int) := by
    rw [Int.tmod_eq_emod_of_nonneg (by omega), Int.natCast_emod]
   have l : x % y < y := Nat.mod_lt _ (by omega)
   rw [e, ih y (x % y) j (by omega) (by omega) (by omega), Nat.gcd_comm y, ← Nat.gcd_rec, Nat.gcd_comm]

theorem right_at (n d : Int) : At (fun k => demurrageref02_Right.f k n d) (decide (Rgt n d)) := by
 refine ⟨d.toNat + 3, fun k hk => ?_⟩
 obtain ⟨j, rfl⟩ : ∃ j, k = j + 1 := ⟨k - 1, by omega⟩
 have no : ∀ a b : Int, demurrageref02_Right.j0 (j + 1) true a b = some false := fun a b => by rw [demurrageref02_Right.j0, if_pos rfl]
 show demurrageref02_Right.f (j + 1) n d = _
 unfold demurrageref02_Right.f
 by_cases h1 : n < 0
 ·rw [if_pos h1, no, decide_eq_false (fun h => by have := h.1; omega)]
 ·rw [if_neg h1]
  by_cases h2 : n > 4611686018427387904
  ·rw [if_pos h2, no, decide_eq_false (fun h => by have := h.2.1; omega)]
  ·rw [if_neg h2]
   by_cases h3 : d < 1
   ·rw [if_pos h3, no, decide_eq_false (fun h => by have := h.2.2.1; omega)]
   ·rw [if_neg h3]
    by_cases h4 : d > 4611686018427387904
    ·rw [decide_eq_true h4, no, decide_eq_false (fun h => by have := h.2.2.2.1; omega)]
    ·rw [decide_eq_false h4, demurrageref02_Right.j0, if_neg (by decide)]
     obtain ⟨x, rfl⟩ := Int.eq_ofNat_of_zero_le (show 0 ≤ n by omega)
     obtain ⟨y, rfl⟩ := Int.eq_ofNat_of_zero_le (show 0 ≤ d by omega)
     rw [right_loop y x y j (Nat.le_refl _) (by omega) (by omega)]
     congr 1
     rw [Bool.eq_iff_iff, beq_iff_eq, decide_eq_true_eq]
     unfold Rgt
     rw [Int.toNat_natCast, Int.toNat_natCast]
     omega
end Go.Proofs.Yteikafepdkijdaa.X

set_option maxRecDepth 10000
namespace Go.Proofs.Yteikafepdkijdaa.X
open Go.RowKit Go.Proofs.YteikafepdkijdaaW.PrintWords Go.Proofs.YteikafepdkijdaaW.PrintLast

theorem gcdn (x y : Nat) (hx : (x : Int) ≤ 18446744073709551615) (hy : (y : Int) ≤ 18446744073709551615) : ratio_Gcd.f x y = some (Nat.gcd x y : Int) := by
 have ux : U64 (x : Int) := ⟨Int.natCast_nonneg x, by omega⟩
 have uy : U64 (y : Int) := ⟨Int.natCast_nonneg y, by omega⟩
 unfold ratio_Gcd.f
 rw [if_pos ⟨ux, uy⟩, Int.toNat_natCast, Int.toNat_natCast]
theorem nat_wrap {x : Nat} (h : x ≤ 9223372036854775807) : IntKind.u64.wrap (x : Int) = x := IntWalk.u64_in _ ⟨Int.natCast_nonneg x, by omega⟩

theorem isright {n d : Int} : ratio_Right.f n d = some (decide (Rgt n d)) := by
 unfold ratio_Right.f
 by_cases h1 : n ≥ 0
 ·rw [if_pos h1]
  by_cases h2 : n ≤ 4611686018427387904
  ·rw [if_pos h2]
   by_cases h3 : d ≥ 1
   ·rw [if_pos h3]
    by_cases h4 : d ≤ 4611686018427387904
    ·rw [if_pos h4]
     obtain ⟨x, rfl⟩ := Int.eq_ofNat_of_zero_le h1
     obtain ⟨y, rfl⟩ := Int.eq_ofNat_of_zero_le (show 0 ≤ d by omega)
     rw [nat_wrap (x := x) (by omega), nat_wrap (x := y) (by omega), gcdn x y (by omega) (by omega), Option.bind_some]
     congr 1
     rw [Bool.eq_iff_iff, beq_iff_eq, decide_eq_true_eq]
     unfold Rgt
     rw [Int.toNat_natCast, Int.toNat_natCast]
     omega
    ·rw [if_neg h4, decide_eq_false (fun h => h4 h.2.2.2.1)]
   ·rw [if_neg h3, decide_eq_false (fun h => h3 h.2.2.1)]
  ·rw [if_neg h2, decide_eq_false (fun h => h2 h.2.1)]
 ·rw [if_neg h1, decide_eq_false (fun h => h1 h.1)]

def ofv (a b n d : Int) : Int × Int := if Rgt n d then parts a b n d 10000 else (0, 1)

theorem of_at {a b n d : Int} (ha : a < 9223372036854775808) (hb : b < 9223372036854775808) : At (fun k => accrue_Of.f k a b n d) (ofv a b n d) := by
 refine ⟨2, fun k hk => ?_⟩
 obtain ⟨j, rfl⟩ : ∃ j, k = j + 2 := ⟨k - 2, by omega⟩
 show accrue_Of.f (j + 2) a b n d = _
 unfold accrue_Of.f ofv
 rw [isright, Option.bind_some]
 by_cases r : Rgt n d
 ·obtain ⟨n0, n1, d0, d1, _⟩ := id r
  rw [decide_eq_true r, if_pos rfl, if_pos r, rpart_at ha hb n0 n1 d0 d1 (by omega) j, Option.bind_some]
 ·rw [decide_eq_false r, if_neg (by decide), if_neg r]

theorem refof_at {a b n d : Int} (ha : a < 9223372036854775808) (hb : b < 9223372036854775808) : At (fun k => demurrageref18_Of.f k a b n d) (ofv a b n d) := by
 obtain ⟨K1, h1⟩ := right_at n d
 by_cases r : Rgt n d
 ·obtain ⟨n0, n1, d0, d1, _⟩ := id r
  obtain ⟨K2, h2⟩ := refpart_at (a := a) (b := b) (n := n) (d := d) (p := 10000) ha hb n0 n1 d0 d1 (by omega)
  refine ⟨K1 + K2, fun k hk => ?_⟩
  have h1 : demurrageref02_Right.f k n d = some (decide (Rgt n d)) := h1 k (by omega)
  have h2 : demurrageref03_Part.f k a b n d 10000 = some (parts a b n d 10000) := h2 k (by omega)
  show demurrageref18_Of.f k a b n d = _
  unfold demurrageref18_Of.f ofv
  rw [h1, Option.bind_some, if_pos r]
  have e : a < 0 ∨ b < 0 → parts a b n d 10000 = (0, 1) := fun h => by unfold parts; rw [if_pos (by omega)]
  by_cases c1 : a < 0
  ·rw [if_pos c1, e (Or.inl c1)]
  ·rw [if_neg c1]
   by_cases c2 : b < 0
   ·rw [if_pos c2, e (Or.inr c2)]
   ·rw [if_neg c2, decide_eq_true r, if_pos rfl, h2, Option.bind_some]
 ·refine ⟨K1, fun k hk => ?_⟩
  have h1 : demurrageref02_Right.f k n d = some (decide (Rgt n d)) := h1 k (by omega)
  show demurrageref18_Of.f k a b n d = _
  unfold demurrageref18_Of.f ofv
  rw [h1, Option.bind_some, if_neg r, decide_eq_false r]
  by_cases c1 : a < 0
  ·rw [if_pos c1]
  ·rw [if_neg c1]
   by_cases c2 : b < 0
   ·rw [if_pos c2]
   ·rw [if_neg c2, if_neg (by decide)]
end Go.Proofs.Yteikafepdkijdaa.X

set_option maxRecDepth 10000
namespace Go.Proofs.Yteikafepdkijdaa.X
open Go.RowKit Go.Proofs.YteikafepdkijdaaW.PrintWords Go.Proofs.YteikafepdkijdaaW.PrintLast

theorem same_loop (l : List S48) (hl : l.length < 9223372036854775807) : ∀ (m i k : Nat), i + m = l.length → m + 1 ≤ k → demurrageref19_Same.l0 k l l (i : Int) = some true := by
 intro m
 induction m with
 | zero =>
  intro i k hi hk
  obtain ⟨j, rfl⟩ : ∃ j, k = j + 1 := ⟨k - 1, by omega⟩
  rw [demurrageref19_Same.l0, if_neg (by omega)]
 | succ m ih =>
  intro i k hi hk
  obtain ⟨j, rfl⟩ : ∃ j, k = j + 1 := ⟨k - 1, by omega⟩
  have wi : wrap64 ((i : Int) + 1) = ((i + 1 : Nat) : Int) := by rw [wrap64_small (by omega) (by omega)]; omega
  rw [demurrageref19_Same.l0, if_pos (by omega), if_pos (by omega), if_pos (by omega), if_neg (by simp), wi]
  exact ih (i + 1) j (by omega) (by omega)
theorem same_at (l : List S48) (hl : l.length < 9223372036854775807) : At (fun k => demurrageref19_Same.f k l l) true := by
 refine ⟨l.length + 1, fun k hk => ?_⟩
 show demurrageref19_Same.f k l l = _
 unfold demurrageref19_Same.f
 rw [if_pos rfl]
 exact same_loop l hl l.length 0 k (by omega) hk
end Go.Proofs.Yteikafepdkijdaa.X

set_option maxRecDepth 10000
namespace Go.Proofs.Yteikafepdkijdaa.X
open Go.RowKit Go.Proofs.YteikafepdkijdaaW.PrintWords Go.Proofs.YteikafepdkijdaaW.PrintLast

def Us (x : S56) : Prop := Rgt x.f0 x.f1 ∧ x.f0 ≤ 10000000000000 ∧ x.f1 ≤ 10000000000000 ∧ x.f0 ≤ 100 * x.f1

theorem usual_loop (l : List S56) (hl : l.length < 9223372036854775807) : ∀ (m i : Nat), i + m = l.length →
  ∃ u, At (fun k => demurrageref18_Usual.l0 k l (i : Int)) u ∧ (u = true → ∀ j : Nat, i ≤ j → j < l.length → Us (rd_T56 l (j : Int))) := by
 intro m
 induction m with
 | zero =>
  intro i hi
  refine ⟨true, ⟨1, fun k hk => ?_⟩, fun _ j h1 h2 => by omega⟩
  obtain ⟨q, rfl⟩ : ∃ q, k = q + 1 := ⟨k - 1, by omega⟩
  show demurrageref18_Usual.l0 (q + 1) l (i : Int) = _
  rw [demurrageref18_Usual.l0, if_neg (by omega)]
 | succ m ih =>
  intro i hi
  obtain ⟨u, ⟨K1, h1⟩, hu⟩ := ih (i + 1) (by omega)
  obtain ⟨K2, h2⟩ := right_at (rd_T56 l (i : Int)).f0 (rd_T56 l (i : Int)).f1
  have wi : wrap64 ((i : Int) + 1) = ((i + 1 : Nat) : Int) := by rw [wrap64_small (by omega) (by omega)]; omega
  by_cases c : Us (rd_T56 l (i : Int))
  ·refine ⟨u, ⟨K1 + K2 + 1, fun k hk => ?_⟩, fun e j g1 g2 => ?_⟩
   ·obtain ⟨q, rfl⟩ : ∃ q, k = q + 1 := ⟨k - 1, by omega⟩
    have h1 := h1 q (by omega)
    have h2 : demurrageref02_Right.f q (rd_T56 l (i : Int)).f0 (rd_T56 l (i : Int)).f1 = some (decide (Rgt (rd_T56 l (i : Int)).f0 (rd_T56 l (i : Int)).f1)) := h2 q (by omega)
    obtain ⟨c1, c2, c3, c4⟩ := id c
    have c5 := c1.2.2.1
    have w : wrap64 (100 * (rd_T56 l (i : Int)).f1) = 100 * (rd_T56 l (i : Int)).f1 := wrap64_small (by omega) (by omega)
    show demurrageref18_Usual.l0 (q + 1) l (i : Int) = _
    rw [demurrageref18_Usual.l0, if_pos (by omega), if_pos (by omega), h2, Option.bind_some, decide_eq_true c1, if_pos rfl, w, if_neg (by omega), if_neg (by omega), if_neg (by omega), wi]
    exact h1
   ·by_cases z : j = i
    ·subst z
     exact c
    ·exact hu e j (by omega) g2
  ·refine ⟨false, ⟨K2 + 1, fun k hk => ?_⟩, fun e => by cases e⟩
   obtain ⟨q, rfl⟩ : ∃ q, k = q + 1 := ⟨k - 1, by omega⟩
   have h2 : demurrageref02_Right.f q (rd_T56 l (i : Int)).f0 (rd_T56 l (i : Int)).f1 = some (decide (Rgt (rd_T56 l (i : Int)).f0 (rd_T56 l (i : Int)).f1)) := h2 q (by omega)
   show demurrageref18_Usual.l0 (q + 1) l (i : Int) = _
   rw [demurrageref18_Usual.l0, if_pos (by omega), if_pos (by omega), h2, Option.bind_some]
   by_cases c1 : Rgt (rd_T56 l (i : Int)).f0 (rd_T56 l (i : Int)).f1
   ·rw [decide_eq_true c1, if_pos rfl]
    by_cases c2 : (rd_T56 l (i : Int)).f0 > 10000000000000
    ·rw [if_pos c2]
    ·rw [if_neg c2]
     by_cases c3 : (rd_T56 l (i : Int)).f1 > 10000000000000
     ·rw [if_pos c3]
     ·have c5 := c1.2.2.1
      have w : wrap64 (100 * (rd_T56 l (i : Int)).f1) = 100 * (rd_T56 l (i : Int)).f1 := wrap64_small (by omega) (by omega)
      rw [if_neg c3, w, if_pos (show (rd_T56 l (i : Int)).f0 > 100 * (rd_T56 l (i : Int)).f1 from by
       by_cases c4 : (rd_T56 l (i : Int)).f0 ≤ 100 * (rd_T56 l (i : Int)).f1
       ·exact absurd ⟨c1, by omega, by omega, c4⟩ c
       ·omega)]
   ·rw [decide_eq_false c1, if_neg (by decide)]
theorem usual_at (l : List S56) (hl : l.length < 9223372036854775807) : ∃ u, At (fun k => demurrageref18_Usual.f k l) u ∧ (u = true → ∀ j : Nat, j < l.length → Us (rd_T56 l (j : Int))) := by
 obtain ⟨u, h, g⟩ := usual_loop l hl l.length 0 (by omega)
 exact ⟨u, h, fun e j hj => g e j (by omega) hj⟩

def intr (o r : Int) (x : S56) : Int := ev (o * r * x.f0) (10000 * x.f1)
theorem intr_fits {o r : Int} {x : S56} (o0 : 0 ≤ o) (o1 : o ≤ 1000000000000000) (r0 : 0 ≤ r) (r1 : r ≤ 9000) (h : Us x) : ofv o r x.f0 x.f1 = (intr o r x, 0) ∧ 0 ≤ intr o r x ∧ intr o r x ≤ 90000000000000001 := by
 obtain ⟨c, n1, d1, nd⟩ := h
 obtain ⟨n0, _, d0, _, _⟩ := id c
 have p1 : 0 ≤ o * r := Int.mul_nonneg o0 r0
 have p2 : o * r ≤ 1000000000000000 * 9000 := Int.mul_le_mul o1 r1 r0 (by omega)
 have p3 : 0 ≤ o * r * x.f0 := Int.mul_nonneg p1 n0
 have p4 : o * r * x.f0 ≤ 1000000000000000 * 9000 * 10000000000000 := Int.mul_le_mul p2 n1 n0 (by omega)
 have p5 : o * r * x.f0 ≤ 1000000000000000 * 9000 * (100 * x.f1) := Int.mul_le_mul p2 nd n0 (by omega)
 have q : o * r * x.f0 / (10000 * x.f1) ≤ 90000000000000000 := Int.ediv_le_of_le_mul (by omega) (by omega)
 have q0 : 0 ≤ o * r * x.f0 / (10000 * x.f1) := Int.ediv_nonneg p3 (by omega)
 have n := ev_near (x := o * r * x.f0) (m := 10000 * x.f1) (by omega)
 have n1 := n.2.2.1
 have n2 := n.2.2.2
 clear n
 unfold intr
 refine ⟨?_, by omega, by omega⟩
 unfold ofv parts parted
 rw [if_pos c, if_neg (by omega), if_pos ⟨by omega, by omega⟩, if_pos (by omega)]

end Go.Proofs.Yteikafepdkijdaa.X

set_option maxRecDepth 10000
namespace Go.Proofs.Yteikafepdkijdaa.X
open Go.RowKit Go.Proofs.YteikafepdkijdaaW.PrintWords Go.Proofs.YteikafepdkijdaaW.PrintLast

def bkv (pay n o : Int) : Int := mn (mx (pay - n) 0) o
def op (m r pay : Int) (ps : List S56) : Nat → Int
 | 0 => m
 | i + 1 => op m r pay ps i - bkv pay (intr (op m r pay ps i) r (rd_T56 ps (i : Int))) (op m r pay ps i)
def lp (m r pay : Int) (ps : List S56) (n : Nat) : Int := intr (op m r pay ps n) r (rd_T56 ps (n : Int)) + op m r pay ps n

theorem bkv_in {pay n o : Int} (h : 0 ≤ o) : 0 ≤ bkv pay n o ∧ bkv pay n o ≤ o := by
 unfold bkv mn mx
 repeat' split
 all_goals omega
theorem step_mono {p p' n n' o o' : Int} (hp : p' ≤ p) (hn : n ≤ n') (ho : o ≤ o') : o - bkv p n o ≤ o' - bkv p' n' o' := by
 unfold bkv mn mx
 repeat' split
 all_goals omega
theorem op_in {m r pay : Int} {ps : List S56} (m0 : 0 ≤ m) : ∀ i, 0 ≤ op m r pay ps i ∧ op m r pay ps i ≤ m
 | 0 => ⟨m0, Int.le_refl _⟩
 | i + 1 => by
  obtain ⟨h1, h2⟩ := op_in (r := r) (pay := pay) (ps := ps) m0 i
  have h := bkv_in (pay := pay) (n := intr (op m r pay ps i) r (rd_T56 ps (i : Int))) h1
  show 0 ≤ op m r pay ps i - _ ∧ op m r pay ps i - _ ≤ m
  omega

theorem intr_mono {o o' r r' : Int} {x : S56} (o0 : 0 ≤ o) (oo : o ≤ o') (r0 : 0 ≤ r) (rr : r ≤ r') (h : Us x) : intr o r x ≤ intr o' r' x := by
 obtain ⟨c, _⟩ := h
 obtain ⟨n0, _, d0, _, _⟩ := id c
 unfold intr
 refine ev_mono (by omega) (Int.mul_le_mul_of_nonneg_right (Int.mul_le_mul oo rr r0 (by omega)) n0)
theorem intr_zero {r : Int} {x : S56} (h : Us x) : intr 0 r x = 0 := by
 obtain ⟨c, _⟩ := h
 obtain ⟨n0, _, d0, _, _⟩ := id c
 unfold intr
 rw [Int.zero_mul, Int.zero_mul]
 have n := ev_near (x := 0) (m := 10000 * x.f1) (by omega)
 unfold ev nearer
 simp
 omega

theorem op_mono {m m' r r' p p' : Int} {ps : List S56} (m0 : 0 ≤ m) (mm : m ≤ m') (r0 : 0 ≤ r) (rr : r ≤ r') (pp : p' ≤ p) {n : Nat} (hu : ∀ j : Nat, j < n → Us (rd_T56 ps (j : Int))) : ∀ i, i ≤ n → op m r p ps i ≤ op m' r' p' ps i
 | 0, _ => mm
 | i + 1, hi => by
  have h := op_mono m0 mm r0 rr pp hu i (by omega)
  exact step_mono pp (intr_mono (op_in m0 i).1 h r0 rr (hu i (by omega))) h
theorem lp_mono {m m' r r' p p' : Int} {ps : List S56} (m0 : 0 ≤ m) (mm : m ≤ m') (r0 : 0 ≤ r) (rr : r ≤ r') (pp : p' ≤ p) {n : Nat} (hu : ∀ j : Nat, j ≤ n → Us (rd_T56 ps (j : Int))) : lp m r p ps n ≤ lp m' r' p' ps n := by
 have h := op_mono m0 mm r0 rr pp (n := n) (fun j hj => hu j (by omega)) n (Nat.le_refl _)
 have g := intr_mono (op_in (r := r) (pay := p) (ps := ps) m0 n).1 h r0 rr (hu n (Nat.le_refl _))
 unfold lp
 omega
theorem op_zero {r p : Int} {ps : List S56} {k n : Nat} {m : Int} (h : op m r p ps k = 0) (hu : ∀ j : Nat, j < n → Us (rd_T56 ps (j : Int))) : ∀ d, k + d ≤ n → op m r p ps (k + d) = 0
 | 0, _ => h
 | d + 1, hd => by
  have g := op_zero h hu d (by omega)
  show op m r p ps (k + d) - bkv p (intr (op m r p ps (k + d)) r (rd_T56 ps ((k + d : Nat) : Int))) (op m r p ps (k + d)) = 0
  rw [g]
  have := bkv_in (pay := p) (n := intr 0 r (rd_T56 ps ((k + d : Nat) : Int))) (o := 0) (by omega)
  omega
theorem lp_top {m r p : Int} {ps : List S56} (m0 : 0 ≤ m) {n : Nat} (hu : ∀ j : Nat, j ≤ n → Us (rd_T56 ps (j : Int))) (hp0 : 0 ≤ p) (hp : ∀ j : Nat, j ≤ n → m + intr m r (rd_T56 ps (j : Int)) ≤ p) : lp m r p ps n ≤ p := by
 cases n with
 | zero =>
  have := hp 0 (by omega)
  show intr m r (rd_T56 ps ((0 : Nat) : Int)) + m ≤ p
  omega
 | succ n =>
  have h0 := hp 0 (by omega)
  have e1 : op m r p ps 1 = 0 := by
   show m - bkv p (intr m r (rd_T56 ps ((0 : Nat) : Int))) m = 0
   unfold bkv mn mx
   repeat' split
   all_goals omega
  have e2 := op_zero e1 (n := n + 1) (fun j hj => hu j (by omega)) n (by omega)
  rw [Nat.add_comm] at e2
  unfold lp
  rw [e2, intr_zero (hu (n + 1) (by omega))]
  omega
end Go.Proofs.Yteikafepdkijdaa.X

set_option maxRecDepth 10000
namespace Go.Proofs.Yteikafepdkijdaa.X
open Go.RowKit Go.Proofs.YteikafepdkijdaaW.PrintWords Go.Proofs.YteikafepdkijdaaW.PrintLast

theorem mid_in {lo hi : Int} (h0 : 0 ≤ lo) (h1 : lo < hi) (h2 : hi ≤ 4611686018427387904) : wrap64 (lo + wrap64 (Int.tdiv (wrap64 (hi - lo)) 2)) = lo + (hi - lo) / 2 ∧ wrap64 (lo + Int.tdiv (wrap64 (hi - lo)) 2) = lo + (hi - lo) / 2 ∧ wrap64 (lo + (hi - lo) / 2 + 1) = lo + (hi - lo) / 2 + 1 ∧ lo ≤ lo + (hi - lo) / 2 ∧ lo + (hi - lo) / 2 < hi := by
 have e1 : wrap64 (hi - lo) = hi - lo := wrap64_small (by omega) (by omega)
 have e2 : Int.tdiv (hi - lo) 2 = (hi - lo) / 2 := Int.tdiv_eq_ediv_of_nonneg (by omega)
 rw [e1, e2]
 clear e1 e2
 have e3 : wrap64 ((hi - lo) / 2) = (hi - lo) / 2 := wrap64_small (by omega) (by omega)
 rw [e3]
 clear e3
 exact ⟨wrap64_small (by omega) (by omega), wrap64_small (by omega) (by omega), wrap64_small (by omega) (by omega), by omega, by omega⟩

theorem search {m r : Int} {ps : List S56} {E : Int → Bool} (hE : ∀ x, 0 ≤ x → x ≤ 4611686018427387904 → At (fun k => level_ends.f k m r ps x) (E x)) :
  ∀ (d : Nat) (lo hi : Int), 0 ≤ lo → lo ≤ hi → hi - lo ≤ d → hi ≤ 4611686018427387904 →
   ∃ p, lo ≤ p ∧ p ≤ hi ∧ At (fun k => level_Least.l0 k m r ps lo hi) p ∧ ((∀ x y, 0 ≤ x → x ≤ y → E x = true → E y = true) → E hi = true → E p = true ∧ ∀ x, lo ≤ x → x < p → E x = false) := by
 intro d
 induction d with
 | zero =>
  intro lo hi h0 h1 h2 h3
  have e : lo = hi := by omega
  subst e
  refine ⟨lo, Int.le_refl _, Int.le_refl _, ⟨1, fun k hk => ?_⟩, fun _ h => ⟨h, fun x a b => by omega⟩⟩
  obtain ⟨j, rfl⟩ : ∃ j, k = j + 1 := ⟨k - 1, by omega⟩
  show level_Least.l0 (j + 1) m r ps lo lo = _
  rw [level_Least.l0, if_pos rfl]
 | succ d ih =>
  intro lo hi h0 h1 h2 h3
  by_cases e : lo = hi
  ·subst e
   refine ⟨lo, Int.le_refl _, Int.le_refl _, ⟨1, fun k hk => ?_⟩, fun _ h => ⟨h, fun x a b => by omega⟩⟩
   obtain ⟨j, rfl⟩ : ∃ j, k = j + 1 := ⟨k - 1, by omega⟩
   show level_Least.l0 (j + 1) m r ps lo lo = _
   rw [level_Least.l0, if_pos rfl]
  ·obtain ⟨m1, m2, m3, m4, m5⟩ := mid_in h0 (show lo < hi by omega) h3
   obtain ⟨K1, g1⟩ := hE (lo + (hi - lo) / 2) (by clear m1 m2 m3; omega) (by clear m1 m2 m3; omega)
   cases b : E (lo + (hi - lo) / 2) with
   | true =>
    rw [b] at g1
    obtain ⟨p, p1, p2, ⟨K2, g2⟩, p3⟩ := ih lo (lo + (hi - lo) / 2) h0 m4 (by clear m1 m2 m3; omega) (by clear m1 m2 m3; omega)
    refine ⟨p, p1, by clear m1 m2 m3; omega, ⟨K1 + K2 + 1, fun k hk => ?_⟩, fun hm _ => p3 hm b⟩
    obtain ⟨j, rfl⟩ : ∃ j, k = j + 1 := ⟨k - 1, by clear m1 m2 m3; omega⟩
    have g1 : level_ends.f j m r ps (lo + (hi - lo) / 2) = some true := g1 j (by clear m1 m2 m3; omega)
    have g2 := g2 j (by clear m1 m2 m3; omega)
    show level_Least.l0 (j + 1) m r ps lo hi = _
    rw [level_Least.l0, if_neg e]
    (first | rw [m1] | rw [m2])
    rw [g1, Option.bind_some, if_pos rfl]
    exact g2
   | false =>
    rw [b] at g1
    obtain ⟨p, p1, p2, ⟨K2, g2⟩, p3⟩ := ih (lo + (hi - lo) / 2 + 1) hi (by clear m1 m2 m3; omega) (by clear m1 m2 m3; omega) (by clear m1 m2 m3; omega) h3
    refine ⟨p, by clear m1 m2 m3; omega, p2, ⟨K1 + K2 + 1, fun k hk => ?_⟩, fun hm hh => ⟨(p3 hm hh).1, fun x a c => ?_⟩⟩
    ·obtain ⟨j, rfl⟩ : ∃ j, k = j + 1 := ⟨k - 1, by clear m1 m2 m3; omega⟩
     have g1 : level_ends.f j m r ps (lo + (hi - lo) / 2) = some false := g1 j (by clear m1 m2 m3; omega)
     have g2 := g2 j (by clear m1 m2 m3; omega)
     show level_Least.l0 (j + 1) m r ps lo hi = _
     rw [level_Least.l0, if_neg e]
     (first | rw [m1] | rw [m2])
     rw [g1, Option.bind_some, if_neg (by decide), m3]
     exact g2
    ·by_cases z : x ≤ lo + (hi - lo) / 2
     ·cases y : E x with
      | false => rfl
      | true =>
       have := hm x _ (by clear m1 m2 m3; omega) z y
       rw [b] at this
       cases this
     ·exact (p3 hm hh).2 x (by clear m1 m2 m3; omega) c
end Go.Proofs.Yteikafepdkijdaa.X

set_option maxRecDepth 10000
namespace Go.Proofs.Yteikafepdkijdaa.X
open Go.RowKit Go.Proofs.YteikafepdkijdaaW.PrintWords Go.Proofs.YteikafepdkijdaaW.PrintLast

theorem ofv_in {a b n d : Int} (h : (ofv a b n d).2 = 0) : 0 ≤ (ofv a b n d).1 ∧ (ofv a b n d).1 ≤ 4611686018427387904 := by
 revert h
 unfold ofv parts parted
 by_cases c1 : Rgt n d
 ·obtain ⟨n0, n1, d0, d1, _⟩ := id c1
  rw [if_pos c1]
  by_cases c2 : a < 0 ∨ b < 0 ∨ (10000 : Int) < 1
  ·rw [if_pos c2]
   intro h
   cases h
  ·rw [if_neg c2]
   by_cases c3 : a * b * n < 340282366920938463463374607431768211456 ∧ 10000 * d < 18446744073709551616
   ·rw [if_pos c3]
    by_cases c4 : ev (a * b * n) (10000 * d) ≤ 4611686018427387904
    ·rw [if_pos c4]
     intro _
     have p1 : 0 ≤ a * b * n := Int.mul_nonneg (Int.mul_nonneg (by omega) (by omega)) n0
     have q0 : 0 ≤ a * b * n / (10000 * d) := Int.ediv_nonneg p1 (by omega)
     have e := (ev_near (x := a * b * n) (m := 10000 * d) (by omega)).2.2.1
     exact ⟨Int.le_trans q0 e, c4⟩
    ·rw [if_neg c4]
     intro h
     cases h
   ·rw [if_neg c3]
    intro h
    cases h
 ·rw [if_neg c1]
  intro h
  cases h

def ofi (a b : Int) (ps : List S56) (j : Nat) : Int × Int := ofv a b (rd_T56 ps (j : Int)).f0 (rd_T56 ps (j : Int)).f1

theorem all_loop {a b : Int} (ha : a < 9223372036854775808) (hb : b < 9223372036854775808) (ps : List S56) (hp : ps.length ≤ 1200) :
  ∀ (m i : Nat), i + m = ps.length → ∀ out : List Int, out.length = i → (∀ j, j < i → ofi a b ps j = (out.getD j 0, 0)) →
   ∃ R : List Int × Int, At (fun k => accrue_All.l0 k a b ps out (i : Int)) R ∧ At (fun k => demurrageref18_All.l0 k a b ps out (i : Int)) R ∧
    (R.2 = 0 → R.1.length = ps.length ∧ ∀ j, j < ps.length → ofi a b ps j = (R.1.getD j 0, 0)) ∧ (R.2 ≠ 0 → ∃ j, j < ps.length ∧ (ofi a b ps j).2 ≠ 0) := by
 intro m
 induction m with
 | zero =>
  intro i hi out hl ho
  refine ⟨(out, 0), ⟨1, fun k hk => ?_⟩, ⟨1, fun k hk => ?_⟩, fun _ => ⟨by show out.length = _; omega, fun j hj => ho j (by omega)⟩, fun h => absurd rfl h⟩
  ·obtain ⟨q, rfl⟩ : ∃ q, k = q + 1 := ⟨k - 1, by omega⟩
   show accrue_All.l0 (q + 1) a b ps out (i : Int) = _
   rw [accrue_All.l0, if_neg (by omega)]
  ·obtain ⟨q, rfl⟩ : ∃ q, k = q + 1 := ⟨k - 1, by omega⟩
   show demurrageref18_All.l0 (q + 1) a b ps out (i : Int) = _
   rw [demurrageref18_All.l0, if_neg (by omega)]
 | succ m ih =>
  intro i hi out hl ho
  obtain ⟨K1, a1⟩ := of_at (a := a) (b := b) (n := (rd_T56 ps (i : Int)).f0) (d := (rd_T56 ps (i : Int)).f1) ha hb
  obtain ⟨K2, a2⟩ := refof_at (a := a) (b := b) (n := (rd_T56 ps (i : Int)).f0) (d := (rd_T56 ps (i : Int)).f1) ha hb
  have hv : ofi a b ps i = ofv a b (rd_T56 ps (i : Int)).f0 (rd_T56 ps (i : Int)).f1 := rfl
  rw [← hv] at a1 a2
  clear hv
  generalize hV : ofi a b ps i = v at a1 a2
  have wi : wrap64 ((i : Int) + 1) = ((i + 1 : Nat) : Int) := by rw [wrap64_small (by omega) (by omega)]; omega
  have t1 : (i : Int) < (ps.length : Int) := by clear wi; omega
  have t2 : (0 : Int) ≤ (i : Int) := by clear wi; omega
  have t3 : out.length < 17592186044416 := by clear wi; omega
  by_cases e : v.2 = 0
  ·obtain ⟨R, ⟨K3, r1⟩, ⟨K4, r2⟩, r3, r4⟩ := ih (i + 1) (by clear wi; omega) (out ++ [v.1]) (by clear wi; simp; omega) (fun j hj => by
    by_cases z : j < i
    ·rw [ho j z, List.getD_eq_getElem?_getD, List.getD_eq_getElem?_getD, List.getElem?_append_left (by clear wi; omega)]
    ·obtain rfl : j = i := by clear wi; omega
     rw [hV, List.getD_eq_getElem?_getD, List.getElem?_append_right (by clear wi; omega), hl, Nat.sub_self]
     show v = (v.1, 0)
     rw [← e])
   refine ⟨R, ⟨K1 + K3 + 1, fun k hk => ?_⟩, ⟨K2 + K4 + 1, fun k hk => ?_⟩, r3, r4⟩
   ·obtain ⟨q, rfl⟩ : ∃ q, k = q + 1 := ⟨k - 1, by clear wi; omega⟩
    have a1 : accrue_Of.f q a b (rd_T56 ps (i : Int)).f0 (rd_T56 ps (i : Int)).f1 = some v := a1 q (by clear wi; omega)
    have r1 := r1 q (by clear wi; omega)
    show accrue_All.l0 (q + 1) a b ps out (i : Int) = _
    rw [accrue_All.l0, if_pos t1, if_pos t2, a1, Option.bind_some, if_pos e, if_pos t3, wi]
    exact r1
   ·obtain ⟨q, rfl⟩ : ∃ q, k = q + 1 := ⟨k - 1, by clear wi; omega⟩
    have a2 : demurrageref18_Of.f q a b (rd_T56 ps (i : Int)).f0 (rd_T56 ps (i : Int)).f1 = some v := a2 q (by clear wi; omega)
    have r2 := r2 q (by clear wi; omega)
    show demurrageref18_All.l0 (q + 1) a b ps out (i : Int) = _
    rw [demurrageref18_All.l0, if_pos t1, if_pos t2, a2, Option.bind_some, if_pos e, if_pos t3, wi]
    exact r2
  ·refine ⟨([], v.2), ⟨K1 + 1, fun k hk => ?_⟩, ⟨K2 + 1, fun k hk => ?_⟩, fun h => absurd h e, fun _ => ⟨i, by clear wi; omega, by rw [hV]; exact e⟩⟩
   ·obtain ⟨q, rfl⟩ : ∃ q, k = q + 1 := ⟨k - 1, by clear wi; omega⟩
    have a1 : accrue_Of.f q a b (rd_T56 ps (i : Int)).f0 (rd_T56 ps (i : Int)).f1 = some v := a1 q (by clear wi; omega)
    show accrue_All.l0 (q + 1) a b ps out (i : Int) = _
    rw [accrue_All.l0, if_pos t1, if_pos t2, a1, Option.bind_some, if_neg e]
   ·obtain ⟨q, rfl⟩ : ∃ q, k = q + 1 := ⟨k - 1, by clear wi; omega⟩
    have a2 : demurrageref18_Of.f q a b (rd_T56 ps (i : Int)).f0 (rd_T56 ps (i : Int)).f1 = some v := a2 q (by clear wi; omega)
    show demurrageref18_All.l0 (q + 1) a b ps out (i : Int) = _
    rw [demurrageref18_All.l0, if_pos t1, if_pos t2, a2, Option.bind_some, if_neg e]

theorem max_loop (l : List Int) (hl : l.length ≤ 1200) : ∀ (d i : Nat), i + d = l.length → ∀ m : Int, (∀ j, j < i → l.getD j 0 ≤ m) → (∃ j, j < l.length ∧ m = l.getD j 0) →
  ∃ M, At (fun k => slices_Max_int_int.l0 k l m (i : Int)) M ∧ (∀ j, j < l.length → l.getD j 0 ≤ M) ∧ ∃ j, j < l.length ∧ M = l.getD j 0 := by
 intro d
 induction d with
 | zero =>
  intro i hi m h1 h2
  refine ⟨m, ⟨1, fun k hk => ?_⟩, fun j hj => h1 j (by omega), h2⟩
  obtain ⟨q, rfl⟩ : ∃ q, k = q + 1 := ⟨k - 1, by omega⟩
  show slices_Max_int_int.l0 (q + 1) l m (i : Int) = _
  rw [slices_Max_int_int.l0, if_neg (by omega)]
 | succ d ih =>
  intro i hi m h1 h2
  have wi : wrap64 ((i : Int) + 1) = ((i + 1 : Nat) : Int) := by rw [wrap64_small (by omega) (by omega)]; omega
  obtain ⟨m', hm⟩ : ∃ m', (if m < rd l (i : Int) then rd l (i : Int) else m) = m' := ⟨_, rfl⟩
  have e : rd l (i : Int) = l.getD i 0 := rd_nat l i
  obtain ⟨M, ⟨K, g⟩, g2, g3⟩ := ih (i + 1) (by clear wi; omega) m' (fun j hj => by
    clear wi
    rw [e] at hm
    by_cases z : j < i
    ·have := h1 j z
     rw [← hm]
     split <;> omega
    ·obtain rfl : j = i := by omega
     rw [← hm]
     split <;> omega) (by
    rw [e] at hm
    by_cases z : m < l.getD i 0
    ·rw [if_pos z] at hm
     exact ⟨i, by clear wi; omega, hm.symm⟩
    ·rw [if_neg z] at hm
     rw [← hm]
     exact h2)
  refine ⟨M, ⟨K + 1, fun k hk => ?_⟩, g2, g3⟩
  obtain ⟨q, rfl⟩ : ∃ q, k = q + 1 := ⟨k - 1, by clear wi; omega⟩
  show slices_Max_int_int.l0 (q + 1) l m (i : Int) = _
  rw [slices_Max_int_int.l0, if_pos (by clear wi; omega), if_pos (by clear wi; omega), hm, wi]
  exact g q (by clear wi; omega)
theorem max_at (l : List Int) (hl : l.length ≤ 1200) (hp : 0 < l.length) : ∃ M, At (fun k => slices_Max_int_int.f k l) M ∧ (∀ j, j < l.length → l.getD j 0 ≤ M) ∧ ∃ j, j < l.length ∧ M = l.getD j 0 := by
 have e : rd l 0 = l.getD 0 0 := rd_nat l 0
 obtain ⟨M, ⟨K, g⟩, g2⟩ := max_loop l hl (l.length - 1) 1 (by omega) (rd l 0) (fun j hj => by
  obtain rfl : j = 0 := by omega
  rw [e]
  exact Int.le_refl _) ⟨0, hp, e⟩
 refine ⟨M, ⟨K, fun k hk => ?_⟩, g2⟩
 show slices_Max_int_int.f k l = _
 unfold slices_Max_int_int.f
 rw [if_neg (by omega)]
 exact g k hk

theorem whys_loop (l : List Int) (hl : l.length ≤ 1200) {a M : Int} (a0 : 0 ≤ a) (a1 : a ≤ 1000000000000000) (h1 : ∀ j, j < l.length → l.getD j 0 ≤ M) (h2 : ∃ j, j < l.length ∧ M = l.getD j 0) :
  ∀ (d i : Nat), i + d = l.length → (∀ j, j < i → l.getD j 0 ≤ 4611686018427387904 - a) → At (fun k => demurrageref20_Why.l0 k a l (i : Int)) (if a + M > 4611686018427387904 then 6 else 0) := by
 intro d
 induction d with
 | zero =>
  intro i hi h
  obtain ⟨j, hj, e⟩ := h2
  have := h j (by omega)
  refine ⟨1, fun k hk => ?_⟩
  obtain ⟨q, rfl⟩ : ∃ q, k = q + 1 := ⟨k - 1, by omega⟩
  show demurrageref20_Why.l0 (q + 1) a l (i : Int) = _
  rw [demurrageref20_Why.l0, if_neg (by omega), if_neg (by omega)]
 | succ d ih =>
  intro i hi h
  have e : rd l (i : Int) = l.getD i 0 := rd_nat l i
  have hM := h1 i (by omega)
  have wi : wrap64 ((i : Int) + 1) = ((i + 1 : Nat) : Int) := by rw [wrap64_small (by omega) (by omega)]; omega
  have wa : wrap64 (4611686018427387904 - a) = 4611686018427387904 - a := wrap64_small (by clear wi; omega) (by clear wi; omega)
  have t1 : (i : Int) < (l.length : Int) := by clear wi wa; omega
  have t2 : (0 : Int) ≤ (i : Int) := by clear wi wa; omega
  by_cases c : l.getD i 0 > 4611686018427387904 - a
  ·refine ⟨1, fun k hk => ?_⟩
   obtain ⟨q, rfl⟩ : ∃ q, k = q + 1 := ⟨k - 1, by clear wi wa; omega⟩
   show demurrageref20_Why.l0 (q + 1) a l (i : Int) = _
   rw [demurrageref20_Why.l0, if_pos t1, if_pos t2, wa, e, if_pos c, if_pos (by clear wi wa; omega)]
  ·obtain ⟨K, g⟩ := ih (i + 1) (by clear wi wa; omega) (fun j hj => by
    by_cases z : j < i
    ·exact h j z
    ·obtain rfl : j = i := by clear wi wa; omega
     clear wi wa
     omega)
   refine ⟨K + 1, fun k hk => ?_⟩
   obtain ⟨q, rfl⟩ : ∃ q, k = q + 1 := ⟨k - 1, by clear wi wa; omega⟩
   show demurrageref20_Why.l0 (q + 1) a l (i : Int) = _
   rw [demurrageref20_Why.l0, if_pos t1, if_pos t2, wa, e, if_neg c, wi]
   exact g q (by clear wi wa; omega)

theorem most_at {a b : Int} (hb : b < 9223372036854775808) (ps : List S56) (hp : ps.length ≤ 1200) :
  ∃ R : Int × Int, At (fun k => level_most.f k a b ps) R ∧ At (fun k => demurrageref20_Why.f k a b ps) R.2 ∧
   ((ps.length : Int) < 1 → R = (0, 1)) ∧ (1 ≤ (ps.length : Int) → (a < 0 ∨ a > 1000000000000000) → R = (0, 2)) ∧
   (R.2 = 0 → 0 < ps.length ∧ 0 ≤ a ∧ a ≤ 1000000000000000 ∧ 0 ≤ R.1 ∧ R.1 ≤ 4611686018427387904 ∧ (∀ j, j < ps.length → a + (ofi a b ps j).1 ≤ R.1) ∧ ∃ j, j < ps.length ∧ R.1 = a + (ofi a b ps j).1) ∧
   (0 < ps.length → 0 ≤ a → a ≤ 1000000000000000 → (∀ j, j < ps.length → (ofi a b ps j).2 = 0 ∧ a + (ofi a b ps j).1 ≤ 4611686018427387904) → R.2 = 0) := by
 by_cases c1 : (ps.length : Int) < 1
 ·refine ⟨(0, 1), ⟨1, fun k hk => ?_⟩, ⟨1, fun k hk => ?_⟩, fun _ => rfl, fun h => by omega, fun h => absurd h (by decide), fun h => by omega⟩
  ·obtain ⟨q, rfl⟩ : ∃ q, k = q + 1 := ⟨k - 1, by omega⟩
   show level_most.f (q + 1) a b ps = _
   unfold level_most.f
   rw [if_pos c1, level_most.j0, if_pos rfl]
  ·obtain ⟨q, rfl⟩ : ∃ q, k = q + 1 := ⟨k - 1, by omega⟩
   show demurrageref20_Why.f (q + 1) a b ps = _
   unfold demurrageref20_Why.f
   rw [if_pos c1, demurrageref20_Why.j0, if_pos rfl]
 ·have c2 : decide ((ps.length : Int) > 1200) = false := decide_eq_false (by omega)
  by_cases c3 : a < 0 ∨ a > 1000000000000000
  ·refine ⟨(0, 2), ⟨1, fun k hk => ?_⟩, ⟨2, fun k hk => ?_⟩, fun h => by omega, fun _ _ => rfl, fun h => absurd h (by decide), fun _ h1 h2 => by omega⟩
   ·obtain ⟨q, rfl⟩ : ∃ q, k = q + 1 := ⟨k - 1, by omega⟩
    show level_most.f (q + 1) a b ps = _
    unfold level_most.f
    rw [if_neg c1, c2, level_most.j0, if_neg (by decide)]
    by_cases c : a < 0
    ·rw [if_pos c]
    ·rw [if_neg c, if_pos (by omega)]
   ·obtain ⟨q, rfl⟩ : ∃ q, k = q + 2 := ⟨k - 2, by omega⟩
    show demurrageref20_Why.f (q + 2) a b ps = _
    unfold demurrageref20_Why.f
    rw [if_neg c1, c2, demurrageref20_Why.j0, if_neg (by decide)]
    by_cases c : a < 0
    ·rw [if_pos c, demurrageref20_Why.j1, if_pos rfl]
    ·rw [if_neg c, decide_eq_true (show a > 1000000000000000 by omega), demurrageref20_Why.j1, if_pos rfl]
  ·have d1 : ¬ a < 0 := by omega
   have d2 : ¬ a > 1000000000000000 := by omega
   obtain ⟨L, ⟨K1, g1⟩, ⟨K2, g2⟩, g3, g4⟩ := all_loop (a := a) (b := b) (by omega) hb ps hp ps.length 0 (by omega) [] rfl (fun j hj => by omega)
   by_cases e : L.2 = 0
   ·obtain ⟨l1, l2⟩ := g3 e
    obtain ⟨M, ⟨K3, g5⟩, g6, g7⟩ := max_at L.1 (by omega) (by omega)
    obtain ⟨K4, g8⟩ := whys_loop L.1 (by omega) (show 0 ≤ a by omega) (show a ≤ 1000000000000000 by omega) g6 g7 L.1.length 0 (by omega) (fun j hj => by omega)
    obtain ⟨j0, hj0, hM⟩ := g7
    have o := ofv_in (a := a) (b := b) (n := (rd_T56 ps (j0 : Int)).f0) (d := (rd_T56 ps (j0 : Int)).f1)
    have o' : (ofi a b ps j0).2 = 0 → 0 ≤ (ofi a b ps j0).1 ∧ (ofi a b ps j0).1 ≤ 4611686018427387904 := o
    rw [l2 j0 (by omega), ← hM] at o'
    have o1 := (o' rfl).1
    have o2 := (o' rfl).2
    have o1 : 0 ≤ M := o1
    have o2 : M ≤ 4611686018427387904 := o2
    clear o o'
    have wM : wrap64 (a + M) = a + M := wrap64_small (by omega) (by omega)
    refine ⟨if a + M > 4611686018427387904 then (0, 6) else (a + M, 0), ⟨K1 + K3 + 1, fun k hk => ?_⟩, ⟨K2 + K4 + 2, fun k hk => ?_⟩, fun h => by clear wM; omega, fun _ h => absurd h c3, ?_, ?_⟩
    ·obtain ⟨q, rfl⟩ : ∃ q, k = q + 1 := ⟨k - 1, by clear wM; omega⟩
     have g1 : accrue_All.f q a b ps = some L := g1 q (by clear wM; omega)
     have g5 : slices_Max_int_int.f q L.1 = some M := g5 q (by clear wM; omega)
     show level_most.f (q + 1) a b ps = _
     unfold level_most.f
     rw [if_neg c1, c2, level_most.j0, if_neg (by decide), if_neg d1, if_neg d2, g1, Option.bind_some, if_pos e, g5, Option.bind_some, wM]
     split <;> rfl
    ·obtain ⟨q, rfl⟩ : ∃ q, k = q + 2 := ⟨k - 2, by clear wM; omega⟩
     have g2 : demurrageref18_All.f q a b ps = some L := g2 q (by clear wM; omega)
     have g8 : demurrageref20_Why.l0 q a L.1 0 = some (if a + M > 4611686018427387904 then 6 else 0) := g8 q (by clear wM; omega)
     show demurrageref20_Why.f (q + 2) a b ps = _
     unfold demurrageref20_Why.f
     rw [if_neg c1, c2, demurrageref20_Why.j0, if_neg (by decide), if_neg d1, decide_eq_false d2, demurrageref20_Why.j1, if_neg (by decide), g2, Option.bind_some, if_pos e, g8]
     split <;> rfl
    ·intro h
     by_cases c : a + M > 4611686018427387904
     ·rw [if_pos c] at h
      cases h
     ·rw [if_neg c]
      refine ⟨by clear wM; omega, by clear wM; omega, by clear wM; omega, ?_, ?_, fun j hj => ?_, j0, by clear wM; omega, ?_⟩
      ·show 0 ≤ a + M
       clear wM
       omega
      ·show a + M ≤ 4611686018427387904
       clear wM
       omega
      ·rw [l2 j hj]
       have := g6 j (by clear wM; omega)
       show a + L.1.getD j 0 ≤ a + M
       clear wM
       omega
      ·rw [l2 j0 (by clear wM; omega), ← hM]
    ·intro _ _ _ h
     have := (h j0 (by clear wM; omega)).2
     rw [l2 j0 (by clear wM; omega), ← hM] at this
     have : a + M ≤ 4611686018427387904 := this
     rw [if_neg (by clear wM; omega)]
   ·refine ⟨(0, L.2), ⟨K1 + 1, fun k hk => ?_⟩, ⟨K2 + 2, fun k hk => ?_⟩, fun h => by omega, fun _ h => absurd h c3, fun h => absurd h e, fun _ _ _ h => ?_⟩
    ·obtain ⟨q, rfl⟩ : ∃ q, k = q + 1 := ⟨k - 1, by omega⟩
     have g1 : accrue_All.f q a b ps = some L := g1 q (by omega)
     show level_most.f (q + 1) a b ps = _
     unfold level_most.f
     rw [if_neg c1, c2, level_most.j0, if_neg (by decide), if_neg d1, if_neg d2, g1, Option.bind_some, if_neg e]
    ·obtain ⟨q, rfl⟩ : ∃ q, k = q + 2 := ⟨k - 2, by omega⟩
     have g2 : demurrageref18_All.f q a b ps = some L := g2 q (by omega)
     show demurrageref20_Why.f (q + 2) a b ps = _
     unfold demurrageref20_Why.f
     rw [if_neg c1, c2, demurrageref20_Why.j0, if_neg (by decide), if_neg d1, decide_eq_false d2, demurrageref20_Why.j1, if_neg (by decide), g2, Option.bind_some, if_neg e]
    ·obtain ⟨j, hj, hz⟩ := g4 e
     exact absurd (h j hj).1 hz
end Go.Proofs.Yteikafepdkijdaa.X

set_option maxRecDepth 10000
namespace Go.Proofs.Yteikafepdkijdaa.X
open Go.RowKit Go.Proofs.YteikafepdkijdaaW.PrintWords Go.Proofs.YteikafepdkijdaaW.PrintLast

theorem wrap_in' (x : Int) : -9223372036854775808 ≤ wrap64 x ∧ wrap64 x < 9223372036854775808 := by
 unfold wrap64
 omega
theorem rd_last (out : List S48) (x : S48) {i : Nat} (h : out.length = i) : rd_T48 (out ++ [x]) (i : Int) = x := by
 subst h
 unfold rd_T48
 rw [Int.toNat_natCast, List.getD_eq_getElem?_getD, List.getElem?_append_right (Nat.le_refl _), Nat.sub_self]
 rfl

theorem with_same (rate pay : Int) (hr : rate < 9223372036854775808) (ps : List S56) (hp : ps.length ≤ 1200) :
  ∀ (m i : Nat), i + m = ps.length → ∀ (out : List S48) (o last : Int), out.length = i → o < 9223372036854775808 →
   ∃ R : List S48 × Int, R.1.length = ps.length ∧ At (fun k => level_rows.l0 k rate ps pay out o last (i : Int)) R ∧ At (fun k => demurrageref20_With.l0 k rate ps pay out o (i : Int)) R.1 ∧
    (m = 0 → R = (out, last)) ∧ (0 < m → R.2 = (rd_T48 R.1 ((ps.length : Int) - 1)).f3) := by
 intro m
 induction m with
 | zero =>
  intro i hi out o last hlo ho
  refine ⟨(out, last), by show out.length = _; omega, ⟨1, fun k hk => ?_⟩, ⟨1, fun k hk => ?_⟩, fun _ => rfl, fun h => by omega⟩
  ·obtain ⟨q, rfl⟩ : ∃ q, k = q + 1 := ⟨k - 1, by omega⟩
   show level_rows.l0 (q + 1) rate ps pay out o last (i : Int) = _
   rw [level_rows.l0, if_neg (by omega)]
  ·obtain ⟨q, rfl⟩ : ∃ q, k = q + 1 := ⟨k - 1, by omega⟩
   show demurrageref20_With.l0 (q + 1) rate ps pay out o (i : Int) = _
   rw [demurrageref20_With.l0, if_neg (by omega)]
 | succ m ih =>
  intro i hi out o last hlo ho
  obtain ⟨K1, a1⟩ := of_at (a := o) (b := rate) (n := (rd_T56 ps (i : Int)).f0) (d := (rd_T56 ps (i : Int)).f1) ho hr
  obtain ⟨K2, a2⟩ := refof_at (a := o) (b := rate) (n := (rd_T56 ps (i : Int)).f0) (d := (rd_T56 ps (i : Int)).f1) ho hr
  generalize ofv o rate (rd_T56 ps (i : Int)).f0 (rd_T56 ps (i : Int)).f1 = v at a1 a2
  have w : wrap64 ((ps.length : Int) - 1) = (ps.length : Int) - 1 := wrap64_small (by omega) (by omega)
  have wi : wrap64 ((i : Int) + 1) = ((i + 1 : Nat) : Int) := by clear w; rw [wrap64_small (by omega) (by omega)]; omega
  have t1 : (i : Int) < (ps.length : Int) := by clear w wi; omega
  have t2 : (0 : Int) ≤ (i : Int) := by clear w wi; omega
  have t3 : out.length < 3518437208883 := by clear w wi; omega
  obtain ⟨b, hb⟩ : ∃ b : Int, (if (i : Int) = (ps.length : Int) - 1 then o else mn (mx (wrap64 (pay - v.1)) 0) o) = b := ⟨_, rfl⟩
  obtain ⟨R, rl, ⟨K3, r1⟩, ⟨K4, r2⟩, r3, r4⟩ := ih (i + 1) (by clear w wi hb; omega) (out ++ [(⟨o, v.1, b, wrap64 (v.1 + b), wrap64 (o - b)⟩ : S48)]) (wrap64 (o - b)) (wrap64 (v.1 + b)) (by clear w wi hb; simp; omega) (wrap_in' _).2
  refine ⟨R, rl, ⟨K1 + K3 + 1, fun k hk => ?_⟩, ⟨K2 + K4 + 1, fun k hk => ?_⟩, fun h => by clear w wi hb; omega, fun _ => ?_⟩
  ·obtain ⟨q, rfl⟩ : ∃ q, k = q + 1 := ⟨k - 1, by clear w wi hb; omega⟩
   have a1 : accrue_Of.f q o rate (rd_T56 ps (i : Int)).f0 (rd_T56 ps (i : Int)).f1 = some v := a1 q (by clear w wi hb; omega)
   have r1 := r1 q (by clear w wi hb; omega)
   show level_rows.l0 (q + 1) rate ps pay out o last (i : Int) = _
   rw [level_rows.l0, if_pos t1, if_pos t2, a1, Option.bind_some, if_pos t3, w, hb, wi]
   exact r1
  ·obtain ⟨q, rfl⟩ : ∃ q, k = q + 1 := ⟨k - 1, by clear w wi hb; omega⟩
   have a2 : demurrageref18_Of.f q o rate (rd_T56 ps (i : Int)).f0 (rd_T56 ps (i : Int)).f1 = some v := a2 q (by clear w wi hb; omega)
   have r2 := r2 q (by clear w wi hb; omega)
   have z : wrap64 (o - o) = 0 := by rw [Int.sub_self]; exact wrap64_small (by decide) (by decide)
   have whole : b = o → demurrageref20_With.l0 q rate ps pay (out ++ [(⟨o, v.1, o, wrap64 (v.1 + o), 0⟩ : S48)]) 0 (((i + 1 : Nat)) : Int) = some R.1 := fun e => by
    rw [e, z] at r2
    exact r2
   have hx : mx (wrap64 (pay - v.1)) 0 = if wrap64 (pay - v.1) < 0 then 0 else wrap64 (pay - v.1) := rfl
   have hn : ∀ y, mn y o = if o < y then o else y := fun y => rfl
   show demurrageref20_With.l0 (q + 1) rate ps pay out o (i : Int) = _
   rw [demurrageref20_With.l0, if_pos t1, if_pos t2, a2, Option.bind_some, w, wi]
   rw [hx, hn] at hb
   by_cases c1 : wrap64 (pay - v.1) < 0
   ·rw [if_pos c1] at hb
    rw [if_pos c1]
    by_cases c2 : 0 > o
    ·rw [if_pos (show o < 0 from c2), ite_self] at hb
     rw [if_pos c2, if_pos t3]
     exact whole hb.symm
    ·rw [if_neg (show ¬ o < 0 from c2)] at hb
     rw [if_neg c2]
     by_cases c3 : (i : Int) = (ps.length : Int) - 1
     ·rw [if_pos c3] at hb
      rw [if_pos c3, if_pos t3]
      exact whole hb.symm
     ·rw [if_neg c3] at hb
      rw [if_neg c3, if_pos t3]
      subst hb
      rw [Int.add_zero, Int.sub_zero] at r2
      exact r2
   ·rw [if_neg c1] at hb
    rw [if_neg c1]
    by_cases c2 : wrap64 (pay - v.1) > o
    ·rw [if_pos (show o < wrap64 (pay - v.1) from c2), ite_self] at hb
     rw [if_pos c2, if_pos t3]
     exact whole hb.symm
    ·rw [if_neg (show ¬ o < wrap64 (pay - v.1) from c2)] at hb
     rw [if_neg c2]
     by_cases c3 : (i : Int) = (ps.length : Int) - 1
     ·rw [if_pos c3] at hb
      rw [if_pos c3, if_pos t3]
      exact whole hb.symm
     ·rw [if_neg c3] at hb
      rw [if_neg c3, if_pos t3]
      subst hb
      exact r2
  ·by_cases z : m = 0
   ·have e := r3 z
    have li : (ps.length : Int) - 1 = (i : Int) := by clear w wi hb; omega
    rw [e, li, rd_last _ _ hlo]
   ·exact r4 (by clear w wi hb; omega)

theorem with_at (a rate pay : Int) (ha : a < 9223372036854775808) (hr : rate < 9223372036854775808) (ps : List S56) (hp : ps.length ≤ 1200) (hpos : 0 < ps.length) :
  ∃ R : List S48 × Int, R.1.length = ps.length ∧ At (fun k => level_rows.f k a rate ps pay) R ∧ At (fun k => demurrageref20_With.f k a rate ps pay) R.1 ∧ R.2 = (rd_T48 R.1 ((ps.length : Int) - 1)).f3 := by
 obtain ⟨R, r1, r2, r3, _, r4⟩ := with_same rate pay hr ps hp ps.length 0 (by omega) [] a 0 rfl ha
 exact ⟨R, r1, r2, r3, r4 hpos⟩

end Go.Proofs.Yteikafepdkijdaa.X

set_option maxRecDepth 10000
namespace Go.Proofs.Yteikafepdkijdaa.X
open Go.RowKit Go.Proofs.YteikafepdkijdaaW.PrintWords Go.Proofs.YteikafepdkijdaaW.PrintLast

def lrow (m r pay : Int) (ps : List S56) (i : Nat) : S48 :=
 ⟨op m r pay ps i, intr (op m r pay ps i) r (rd_T56 ps (i : Int)), if i + 1 = ps.length then op m r pay ps i else bkv pay (intr (op m r pay ps i) r (rd_T56 ps (i : Int))) (op m r pay ps i),
  intr (op m r pay ps i) r (rd_T56 ps (i : Int)) + (if i + 1 = ps.length then op m r pay ps i else bkv pay (intr (op m r pay ps i) r (rd_T56 ps (i : Int))) (op m r pay ps i)),
  op m r pay ps i - (if i + 1 = ps.length then op m r pay ps i else bkv pay (intr (op m r pay ps i) r (rd_T56 ps (i : Int))) (op m r pay ps i))⟩
theorem lrow_rd (m r pay : Int) (ps : List S56) {i : Nat} (h : i < ps.length) : rd_T48 ((List.range ps.length).map (lrow m r pay ps)) (i : Int) = lrow m r pay ps i := by
 unfold rd_T48
 rw [Int.toNat_natCast, List.getD_eq_getElem?_getD, List.getElem?_map, List.getElem?_range h]
 rfl
theorem lrow_length (m r pay : Int) (ps : List S56) : ((List.range ps.length).map (lrow m r pay ps)).length = ps.length := by simp
theorem lrow_last (m r pay : Int) (ps : List S56) (h : 0 < ps.length) : (lrow m r pay ps (ps.length - 1)).f3 = lp m r pay ps (ps.length - 1) := by
 show intr _ _ _ + (if ps.length - 1 + 1 = ps.length then op m r pay ps (ps.length - 1) else _) = _
 rw [if_pos (by omega)]
 rfl

theorem lrows_from {m r pay : Int} {ps : List S56} (m0 : 0 ≤ m) (m1 : m ≤ 1000000000000000) (r0 : 0 ≤ r) (r1 : r ≤ 9000) (p0 : 0 ≤ pay) (p1 : pay ≤ 4611686018427387904) (hp : ps.length ≤ 1200) (hu : ∀ j : Nat, j < ps.length → Us (rd_T56 ps (j : Int))) :
  ∀ (d i : Nat), i + d = ps.length → ∀ out : List S48, out = (List.range i).map (lrow m r pay ps) → ∀ (o last : Int), o = (if i = ps.length then 0 else op m r pay ps i) → (0 < i → last = (lrow m r pay ps (i - 1)).f3) → 0 < ps.length →
   At (fun k => level_rows.l0 k r ps pay out o last (i : Int)) ((List.range ps.length).map (lrow m r pay ps), lp m r pay ps (ps.length - 1)) := by
 intro d
 induction d with
 | zero =>
  intro i hi out ho o last _ hl hpos
  have hi : i = ps.length := by omega
  subst hi
  refine ⟨1, fun k hk => ?_⟩
  obtain ⟨q, rfl⟩ : ∃ q, k = q + 1 := ⟨k - 1, by omega⟩
  show level_rows.l0 (q + 1) r ps pay out o last (ps.length : Int) = _
  rw [level_rows.l0, if_neg (by omega), ho, hl hpos, lrow_last m r pay ps hpos]
 | succ d ih =>
  intro i hi out ho o last hoo _ hpos
  have hlt : i < ps.length := by omega
  rw [if_neg (by omega)] at hoo
  have oi := op_in (r := r) (pay := pay) (ps := ps) m0 i
  rw [← hoo] at oi
  obtain ⟨f1, f2, f3⟩ := intr_fits (o := o) (r := r) (x := rd_T56 ps (i : Int)) (by omega) (by omega) r0 r1 (hu i hlt)
  obtain ⟨K1, a1⟩ := of_at (a := o) (b := r) (n := (rd_T56 ps (i : Int)).f0) (d := (rd_T56 ps (i : Int)).f1) (by omega) (by omega)
  rw [f1] at a1
  clear f1
  obtain ⟨v, hv⟩ : ∃ v : Int, intr o r (rd_T56 ps (i : Int)) = v := ⟨_, rfl⟩
  rw [hv] at a1 f2 f3
  have ln : out.length = i := by rw [ho]; simp
  have t1 : (i : Int) < (ps.length : Int) := by clear hv; omega
  have t2 : (0 : Int) ≤ (i : Int) := by clear hv; omega
  have t3 : out.length < 3518437208883 := by clear hv; omega
  have wp : wrap64 (pay - v) = pay - v := wrap64_small (by clear hv; omega) (by clear hv; omega)
  obtain ⟨b, hb⟩ : ∃ b : Int, (if (i : Int) = (ps.length : Int) - 1 then o else mn (mx (pay - v) 0) o) = b := ⟨_, rfl⟩
  have hb2 : (if i + 1 = ps.length then o else bkv pay v o) = b := by
   rw [← hb]
   by_cases c : i + 1 = ps.length
   ·rw [if_pos c, if_pos (by clear wp hv hb; omega)]
   ·rw [if_neg c, if_neg (by clear wp hv hb; omega)]
    rfl
  have b0 : 0 ≤ b ∧ b ≤ o := by
   have h := bkv_in (pay := pay) (n := v) oi.1
   rw [← hb2]
   clear wp hv hb hb2
   split <;> omega
  have w : wrap64 ((ps.length : Int) - 1) = (ps.length : Int) - 1 := wrap64_small (by clear hb hb2 wp hv; omega) (by clear hb hb2 wp hv; omega)
  have wi : wrap64 ((i : Int) + 1) = ((i + 1 : Nat) : Int) := by rw [wrap64_small (by clear w hb hb2 wp hv; omega) (by clear w hb hb2 wp hv; omega)]; clear w hb hb2 wp hv; omega
  have w3 : wrap64 (v + b) = v + b := wrap64_small (by clear w wi hb hb2 wp hv; omega) (by clear w wi hb hb2 wp hv; omega)
  have w4 : wrap64 (o - b) = o - b := wrap64_small (by clear w wi w3 hb hb2 wp hv; omega) (by clear w wi w3 hb hb2 wp hv; omega)
  have row : lrow m r pay ps i = ⟨o, v, b, v + b, o - b⟩ := by
   unfold lrow
   rw [← hoo, hv, hb2]
  have next : o - b = (if i + 1 = ps.length then 0 else op m r pay ps (i + 1)) := by
   by_cases c : i + 1 = ps.length
   ·rw [if_pos c]
    rw [if_pos c] at hb2
    clear w wi w3 w4 hb wp hv row
    omega
   ·rw [if_neg c]
    rw [if_neg c] at hb2
    show o - b = op m r pay ps i - bkv pay (intr (op m r pay ps i) r (rd_T56 ps (i : Int))) (op m r pay ps i)
    rw [← hoo, hv, hb2]
  obtain ⟨K2, g⟩ := ih (i + 1) (by clear w wi w3 w4 wp hv; omega) (out ++ [(⟨o, v, b, v + b, o - b⟩ : S48)]) (by rw [List.range_succ, List.map_append, ← ho, List.map_cons, List.map_nil, row]) (o - b) (v + b) next (fun _ => by rw [Nat.add_sub_cancel, row]) hpos
  refine ⟨K1 + K2 + 1, fun k hk => ?_⟩
  obtain ⟨q, rfl⟩ : ∃ q, k = q + 1 := ⟨k - 1, by clear w wi w3 w4 hb hb2 wp hv; omega⟩
  have hq1 : K1 ≤ q := by clear w wi w3 w4 hb hb2 wp hv; omega
  have hq2 : K2 ≤ q := by clear w wi w3 w4 hb hb2 wp hv; omega
  have a1 : accrue_Of.f q o r (rd_T56 ps (i : Int)).f0 (rd_T56 ps (i : Int)).f1 = some (v, 0) := a1 q hq1
  have g := g q hq2
  show level_rows.l0 (q + 1) r ps pay out o last (i : Int) = _
  rw [level_rows.l0, if_pos t1, if_pos t2, a1, Option.bind_some, if_pos t3]
  show level_rows.l0 q r ps pay (out ++ [(⟨o, v, (if (i : Int) = wrap64 ((ps.length : Int) - 1) then o else mn (mx (wrap64 (pay - v)) 0) o), wrap64 (v + (if (i : Int) = wrap64 ((ps.length : Int) - 1) then o else mn (mx (wrap64 (pay - v)) 0) o)), wrap64 (o - (if (i : Int) = wrap64 ((ps.length : Int) - 1) then o else mn (mx (wrap64 (pay - v)) 0) o))⟩ : S48)]) (wrap64 (o - (if (i : Int) = wrap64 ((ps.length : Int) - 1) then o else mn (mx (wrap64 (pay - v)) 0) o))) (wrap64 (v + (if (i : Int) = wrap64 ((ps.length : Int) - 1) then o else mn (mx (wrap64 (pay - v)) 0) o))) (wrap64 ((i : Int) + 1)) = _
  rw [w, wp, hb, w3, w4, wi]
  exact g

theorem ofi_us {m r : Int} {ps : List S56} (m0 : 0 ≤ m) (m1 : m ≤ 1000000000000000) (r0 : 0 ≤ r) (r1 : r ≤ 9000) (hu : ∀ j : Nat, j < ps.length → Us (rd_T56 ps (j : Int))) {j : Nat} (hj : j < ps.length) : ofi m r ps j = (intr m r (rd_T56 ps (j : Int)), 0) ∧ 0 ≤ intr m r (rd_T56 ps (j : Int)) ∧ intr m r (rd_T56 ps (j : Int)) ≤ 90000000000000001 := intr_fits m0 m1 r0 r1 (hu j hj)
theorem lrows_at {m r : Int} {ps : List S56} (m0 : 0 ≤ m) (m1 : m ≤ 1000000000000000) (r0 : 0 ≤ r) (r1 : r ≤ 9000) (hp : ps.length ≤ 1200) (hpos : 0 < ps.length) (hu : ∀ j : Nat, j < ps.length → Us (rd_T56 ps (j : Int))) {pay : Int} (p0 : 0 ≤ pay) (p1 : pay ≤ 4611686018427387904) : At (fun k => level_rows.f k m r ps pay) ((List.range ps.length).map (lrow m r pay ps), lp m r pay ps (ps.length - 1)) :=
 lrows_from m0 m1 r0 r1 p0 p1 hp hu ps.length 0 (by omega) [] rfl m 0 (by rw [if_neg (by omega)]; rfl) (fun h => by omega) hpos
theorem lwith_at {m r : Int} {ps : List S56} (m0 : 0 ≤ m) (m1 : m ≤ 1000000000000000) (r0 : 0 ≤ r) (r1 : r ≤ 9000) (hp : ps.length ≤ 1200) (hpos : 0 < ps.length) (hu : ∀ j : Nat, j < ps.length → Us (rd_T56 ps (j : Int))) {pay : Int} (p0 : 0 ≤ pay) (p1 : pay ≤ 4611686018427387904) : At (fun k => demurrageref20_With.f k m r ps pay) ((List.range ps.length).map (lrow m r pay ps)) := by
 obtain ⟨R, _, h2, h3, _⟩ := with_at m r pay (by omega) (by omega) ps hp hpos
 have e := At.two h2 (lrows_at m0 m1 r0 r1 hp hpos hu p0 p1)
 rw [e] at h3
 exact h3
theorem lends_at {m r : Int} {ps : List S56} (m0 : 0 ≤ m) (m1 : m ≤ 1000000000000000) (r0 : 0 ≤ r) (r1 : r ≤ 9000) (hp : ps.length ≤ 1200) (hpos : 0 < ps.length) (hu : ∀ j : Nat, j < ps.length → Us (rd_T56 ps (j : Int))) {pay : Int} (p0 : 0 ≤ pay) (p1 : pay ≤ 4611686018427387904) : At (fun k => level_ends.f k m r ps pay) (decide (lp m r pay ps (ps.length - 1) ≤ pay)) := by
 obtain ⟨K, h⟩ := lrows_at m0 m1 r0 r1 hp hpos hu p0 p1
 refine ⟨K, fun k hk => ?_⟩
 have h : level_rows.f k m r ps pay = _ := h k hk
 show level_ends.f k m r ps pay = _
 unfold level_ends.f
 rw [h, Option.bind_some]
theorem lmost_at {m r : Int} {ps : List S56} (m0 : 0 ≤ m) (m1 : m ≤ 1000000000000000) (r0 : 0 ≤ r) (r1 : r ≤ 9000) (hp : ps.length ≤ 1200) (hpos : 0 < ps.length) (hu : ∀ j : Nat, j < ps.length → Us (rd_T56 ps (j : Int))) : ∃ H : Int, At (fun k => level_most.f k m r ps) (H, 0) ∧ At (fun k => demurrageref20_Why.f k m r ps) 0 ∧ 0 ≤ H ∧ H ≤ 4611686018427387904 ∧ (∀ j, j < ps.length → m + intr m r (rd_T56 ps (j : Int)) ≤ H) ∧ ∃ j, j < ps.length ∧ H = m + intr m r (rd_T56 ps (j : Int)) := by
 obtain ⟨R, h1, h2, _, _, h5, h6⟩ := most_at (a := m) (b := r) (by omega) ps hp
 have e := h6 hpos m0 m1 (fun j hj => by
  obtain ⟨g1, g2, g3⟩ := ofi_us m0 m1 r0 r1 hu hj
  rw [g1]
  exact ⟨rfl, by show m + intr m r (rd_T56 ps (j : Int)) ≤ _; omega⟩)
 obtain ⟨_, _, _, g4, g5, g6, j, g7, g8⟩ := h5 e
 refine ⟨R.1, ?_, ?_, g4, g5, fun j hj => ?_, j, g7, ?_⟩
 ·have : R = (R.1, 0) := by rw [← e]
  rw [← this]
  exact h1
 ·rw [← e]
  exact h2
 ·have := g6 j hj
  rw [(ofi_us m0 m1 r0 r1 hu hj).1] at this
  exact this
 ·rw [(ofi_us m0 m1 r0 r1 hu g7).1] at g8
  exact g8
theorem least_at {m r : Int} {ps : List S56} (m0 : 0 ≤ m) (m1 : m ≤ 1000000000000000) (r0 : 0 ≤ r) (r1 : r ≤ 9000) (hp : ps.length ≤ 1200) (hpos : 0 < ps.length) (hu : ∀ j : Nat, j < ps.length → Us (rd_T56 ps (j : Int))) : ∃ p : Int, 0 ≤ p ∧ p ≤ 4611686018427387904 ∧ At (fun k => level_Least.f k m r ps) (p, 0) ∧ lp m r p ps (ps.length - 1) ≤ p ∧ (∀ x, 0 ≤ x → x < p → ¬ lp m r x ps (ps.length - 1) ≤ x) ∧ (∀ x, p ≤ x → lp m r x ps (ps.length - 1) ≤ x) ∧ (∃ j, j < ps.length ∧ p ≤ m + intr m r (rd_T56 ps (j : Int))) := by
 obtain ⟨H, ⟨K1, h1⟩, _, h3, h4, h5, j, h6, h7⟩ := lmost_at m0 m1 r0 r1 hp hpos hu
 have mono : ∀ x y : Int, 0 ≤ x → x ≤ y → lp m r x ps (ps.length - 1) ≤ x → lp m r y ps (ps.length - 1) ≤ y := fun x y _ xy h => by
  have := lp_mono (m := m) (m' := m) (r := r) (r' := r) (p := y) (p' := x) (ps := ps) m0 (Int.le_refl _) r0 (Int.le_refl _) xy (n := ps.length - 1) (fun j hj => hu j (by omega))
  omega
 have top := lp_top (m := m) (r := r) (p := H) (ps := ps) m0 (n := ps.length - 1) (fun j hj => hu j (by omega)) h3 (fun j hj => h5 j (by omega))
 obtain ⟨p, p1, p2, ⟨K2, p3⟩, p4⟩ := search (m := m) (r := r) (ps := ps) (E := fun x => decide (lp m r x ps (ps.length - 1) ≤ x)) (fun x x0 x1 => lends_at m0 m1 r0 r1 hp hpos hu x0 x1) H.toNat 0 H (Int.le_refl _) h3 (by omega) h4
 obtain ⟨q1, q2⟩ := p4 (fun x y x0 xy h => decide_eq_true (mono x y x0 xy (of_decide_eq_true h))) (decide_eq_true top)
 have q1 := of_decide_eq_true q1
 refine ⟨p, p1, by omega, ⟨K1 + K2, fun k hk => ?_⟩, q1, fun x x0 xp => of_decide_eq_false (q2 x x0 xp), fun x px => mono p x p1 px q1, j, h6, by omega⟩
 have h1 : level_most.f k m r ps = some (H, 0) := h1 k (by omega)
 have p3 : level_Least.l0 k m r ps 0 H = some p := p3 k (by omega)
 show level_Least.f k m r ps = _
 unfold level_Least.f
 rw [h1, Option.bind_some, if_pos rfl, p3, Option.bind_some]
end Go.Proofs.Yteikafepdkijdaa.X

set_option maxRecDepth 10000
namespace Go.Proofs.Yteikafepdkijdaa.Pure
open Go.RowKit Go.Proofs.Yteikafepdkijdaa.X Go.Proofs.YteikafepdkijdaaW.PrintWords Go.Proofs.YteikafepdkijdaaW.PrintLast

theorem shown_level : demurragelaw20_shown.f 30 = some true := by kernel_rfl
theorem shown_at : At (fun k => demurragelaw20_shown.f k) true := At.grow (K := 30) demurragelaw20_shown.mono shown_level
theorem u16_wf' {a : Int} (h : (Lit.int .u16 a).wf = true) : 0 ≤ a ∧ a < 65536 := by
 simp only [Lit.wf, IntKind.min, IntKind.max, IntKind.signed, IntKind.bits, Bool.and_eq_true] at h
 simp at h
 omega
theorem money {a m : Int} (h : U64 a) (hm : 0 < m) (h1 : m ≤ 4611686018427387904) : wrap64 (Int.tmod a m) = a % m ∧ 0 ≤ a % m ∧ a % m < m := by
 have e0 := Int.emod_nonneg a (show m ≠ 0 by omega)
 have e1 := Int.emod_lt_of_pos a hm
 rw [Int.tmod_eq_emod_of_nonneg h.1]
 exact ⟨wrap64_small (by omega) (by omega), e0, e1⟩
theorem ratep {a m : Int} (h0 : 0 ≤ a) (h1 : a < 4294967296) (hm : 0 < m) : Int.tmod (wrap64 a) m = a % m ∧ 0 ≤ a % m ∧ a % m < m := by
 rw [wrap64_small (by omega) (by omega), Int.tmod_eq_emod_of_nonneg h0]
 exact ⟨rfl, Int.emod_nonneg a (by omega), Int.emod_lt_of_pos a hm⟩
end Go.Proofs.Yteikafepdkijdaa.Pure

namespace Go.Proofs.Yteikafepdkijdaa.Flat
open Go.Deep Go.ChangeShapes Go.WideShapes Go.ChangeAt Go.RowKit Go.Proofs.Yteikafepdkijdaa.X Go.Proofs.YteikafepdkijdaaW.PrintWords

set_option maxRecDepth 100000 in
theorem open_ratios {H : Type} {enc : TypeId × Value → H} {w : World} {base : Nat} {spare : Nat → Bool} {held : Bool} {r : Reach} {b0 : Nat} {v : Value} {d : DataW H} {ps : List MemPlace}
  (hv : Value.okWide Try.prog w r b0 22 v) (h : DataW.Trod enc Try.prog w base spare held 22 v d ps) :
  ∃ (A : Option Addr) (c : Nat) (l : List S56), v = .slice A l.length c ∧ l.length ≤ c ∧ Kd.C k56 w A l.length l ∧ ∀ x ∈ l, (Lit.int .i64 x.f0).wf = true ∧ (Lit.int .i64 x.f1).wf = true := by
 obtain ⟨a, len, cap, rfl⟩ := okWide_slice Try.underlying22 hv
 obtain ⟨fuel, hf⟩ := h
 rcases open_slice Try.underlying22 hf with ⟨hcs, _⟩ | ⟨x, ln, cp, m, n, D, Pl, hcs, hb, hl, hm, hmm, hx, hel⟩
 ·simp [Value.cells] at hcs
  obtain ⟨rfl, rfl, rfl⟩ := hcs
  exact ⟨none, 0, [], rfl, Nat.le_refl _, Kd.C_nil _ _, fun x hx => by cases hx⟩
 ·simp [Value.cells] at hcs
  obtain ⟨rfl, rfl, rfl⟩ := hcs
  have hlm : len ≤ m := by rw [hmm]; split <;> omega
  have hc2 : Try.prog.cellsOf 56 = 2 := by kernel_rfl
  have each : ∀ i, i < len → ∃ q : S56, w.cell? (x.add (i * 2)) = some (.int .i64 q.f0) ∧ w.cell? (x.add (i * 2 + 1)) = some (.int .i64 q.f1) ∧ (Lit.int .i64 q.f0).wf = true ∧ (Lit.int .i64 q.f1).wf = true := by
   intro i hi
   obtain ⟨cs', h1, h2⟩ := hel i (by omega)
   rw [hc2] at h1
   obtain ⟨_, hlen, hcell⟩ := World.cells?_some h1
   obtain ⟨hcc, _⟩ := Flat.read 6 n 56 [.i64, .i64] cs' (D i, Pl i) (by kernel_rfl) hc2 h2
   obtain ⟨n0, vs, rfl, w0, hcc⟩ := cells_cons hcc
   obtain ⟨n1, vs, rfl, w1, hcc⟩ := cells_cons hcc
   obtain rfl := cells_nil hcc
   have c0 := hcell 0 (by omega)
   have c1 := hcell 1 (by omega)
   rw [Go.Deep.add_add] at c0 c1
   exact ⟨⟨n0, n1⟩, by simpa using c0, by simpa using c1, w0, w1⟩
  haveI : Inhabited S56 := ⟨⟨0, 0⟩⟩
  obtain ⟨q, hq⟩ := choose_lt each
  have el : ((List.range len).map q).length = len := by simp
  refine ⟨some x, cap, (List.range len).map q, by rw [el], by omega, ?_, ?_⟩
  ·rw [el]
   refine ⟨el, by unfold maxLen at hm; omega, fun _ => ⟨x, rfl, fun j p hj => ?_⟩⟩
   obtain ⟨h1, h2⟩ := List.getElem?_eq_some_iff.1 hj
   rw [el] at h1
   have e : p = q j := by rw [← h2]; simp
   subst e
   obtain ⟨g0, g1, _, _⟩ := hq j h1
   refine ⟨[.int .i64 (q j).f0, .int .i64 (q j).f1], rfl, k56_mk w (q j), fun i u hu => ?_⟩
   match i, hu with
   | 0, hu =>
    simp at hu
    subst hu
    exact g0
   | 1, hu =>
    simp at hu
    subst hu
    exact g1
   | i + 2, hu => simp at hu
  ·intro y hy
   obtain ⟨j, hj, rfl⟩ := List.mem_map.1 hy
   have := List.mem_range.1 hj
   exact ⟨(hq j this).2.2.1, (hq j this).2.2.2⟩
end Go.Proofs.Yteikafepdkijdaa.Flat

