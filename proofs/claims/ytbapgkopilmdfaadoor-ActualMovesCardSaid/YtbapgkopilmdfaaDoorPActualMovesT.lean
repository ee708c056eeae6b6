-- cut by prune.py, a program of this session
import Derived.WalkKit
import Derived.Test.YtbapgkopilmdfaaDoorPActualMovesXWCmp
import Derived.Test.YtbapgkopilmdfaaDoorPActualMovesXWMul
import Derived.Test.YtbapgkopilmdfaaDoorPActualMovesHAdd
import Derived.Test.YtbapgkopilmdfaaDoorPActualMovesXBig
import Derived.Test.YtbapgkopilmdfaaDoorPActualMovesHTrim
import Derived.Test.YtbapgkopilmdfaaDoorPActualMovesXQuot
import Derived.Test.YtbapgkopilmdfaaDoorPActualMovesHYears
import Derived.Test.YtbapgkopilmdfaaDoorPActualMovesX0
import Derived.Test.YtbapgkopilmdfaaDoorPActualMovesXRefTwo
import Derived.Test.YtbapgkopilmdfaaDoorPActualMovesXRefAdd
import Derived.Test.YtbapgkopilmdfaaDoorPActualMovesXRefFour
import Derived.Test.YtbapgkopilmdfaaDoorPActualMovesXRefOf
import Derived.Test.YtbapgkopilmdfaaDoorPActualMovesXDay
import Derived.Test.YtbapgkopilmdfaaDoorPActualMovesXRatio
import Derived.Test.YtbapgkopilmdfaaDoorPActualMovesXShown
import Derived.KernelRfl
import Derived.Test.YtbapgkopilmdfaaDoorRows
import Derived.Test.YtbapgkopilmdfaaDoorPActualMovesHCiv
import Derived.ChangeSame
import Derived.ChangeVars
import Derived.JoinedOf
import Derived.RowKit
import Derived.RowKitTokens
import Derived.LaidLaws
import Derived.Stop.LaidErr
import Derived.Stop.LaidTwo
namespace Go.Proofs.YtbapgkopilmdfaaDoor.Cal

def Lp (y : Int) : Prop := y % 4 = 0 ∧ (¬ y % 100 = 0 ∨ y % 400 = 0)
instance (y : Int) : Decidable (Lp y) := by unfold Lp; infer_instance
def len (y : Int) : Int := if Lp y then 366 else 365
def A (y : Int) : Int := 365 * (y - 1) + (y - 1) / 4 - (y - 1) / 100 + (y - 1) / 400
def L (y : Int) : Int := 366 * ((y - 1) / 4 - (y - 1) / 100 + (y - 1) / 400)

theorem leaps_succ (y : Int) : y / 4 - y / 100 + y / 400 = (y - 1) / 4 - (y - 1) / 100 + (y - 1) / 400 + (if Lp y then 1 else 0) := by
 by_cases c : Lp y
 ·rw [if_pos c]
  unfold Lp at c
  omega
 ·rw [if_neg c]
  unfold Lp at c
  omega
theorem A_succ (y : Int) : A (y + 1) = A y + len y := by
 have h := leaps_succ y
 unfold A len
 rw [show y + 1 - 1 = y by omega]
 split at h <;> rename_i c
 ·rw [if_pos c]; omega
 ·rw [if_neg c]; omega
theorem L_succ (y : Int) : L (y + 1) = L y + (if Lp y then 366 else 0) := by
 have h := leaps_succ y
 unfold L
 rw [show y + 1 - 1 = y by omega]
 split at h <;> rename_i c
 ·rw [if_pos c]; omega
 ·rw [if_neg c]; omega
theorem len_in (y : Int) : len y = 365 ∨ len y = 366 := by
 unfold len
 split <;> omega
theorem A_one : A 1 = 0 := by decide
theorem A_end : A 10000 = 3652059 := by decide
theorem A_mono {a b : Int} (h : a ≤ b) : A a ≤ A b := by
 unfold A
 omega
theorem A_era (y : Int) : A (y + 400) = A y + 146097 := by
 unfold A
 omega
theorem L_era (y : Int) : L (y + 400) = L y + 35502 := by
 unfold L
 omega
theorem Lp_era (y : Int) : Lp (y + 400) ↔ Lp y := by
 unfold Lp
 omega
theorem A_bound {y : Int} (h0 : 1 ≤ y) (h1 : y ≤ 10000) : 0 ≤ A y ∧ A y ≤ 3652059 := by
 have := A_mono h0
 have := A_mono h1
 rw [A_one] at *
 rw [A_end] at *
 omega

def In (n y : Int) : Prop := 1 ≤ y ∧ y ≤ 9999 ∧ A y < n ∧ n ≤ A (y + 1)
theorem In.one {n y z : Int} (h : In n y) (g : In n z) : y = z := by
 obtain ⟨_, _, h3, h4⟩ := h
 obtain ⟨_, _, g3, g4⟩ := g
 have h5 : ¬ y < z := fun c => by
  have := A_mono (show y + 1 ≤ z by omega)
  omega
 have h6 : ¬ z < y := fun c => by
  have := A_mono (show z + 1 ≤ y by omega)
  omega
 omega
theorem In.day {n y : Int} (h : In n y) : 1 ≤ n ∧ n ≤ 3652059 := by
 obtain ⟨h1, h2, h3, h4⟩ := h
 have := A_bound h1 (show y ≤ 10000 by omega)
 have := A_bound (show 1 ≤ y + 1 by omega) (show y + 1 ≤ 10000 by omega)
 omega
theorem In.exists {n : Int} (h0 : 1 ≤ n) (h1 : n ≤ 3652059) : ∃ y, In n y := by
 have go : ∀ (m : Nat) (lo hi : Int), hi - lo = m → 1 ≤ lo → hi ≤ 10000 → A lo < n → n ≤ A hi → ∃ y, In n y := by
  intro m
  induction m with
  | zero =>
   intro lo hi h _ _ a b
   obtain rfl : hi = lo := by omega
   exact absurd b (by omega)
  | succ m ih =>
   intro lo hi h l u a b
   by_cases c : n ≤ A (lo + 1)
   ·by_cases e : lo ≤ 9999
    ·exact ⟨lo, l, e, a, c⟩
    ·omega
   ·exact ih (lo + 1) hi (by omega) (by omega) u (by omega) b
 exact go 9999 1 10000 (by omega) (by omega) (by omega) (by rw [A_one]; omega) (by rw [A_end]; omega)

def D (n y : Int) : Int := L y + (if Lp y then n - A y - 1 else 0)
theorem D_next (n y : Int) : D (n + 1) y = D n y + (if Lp y then 1 else 0) := by
 unfold D
 split <;> omega
theorem In.next {n y : Int} (h : In n y) (hn : n < 3652059) : (In (n + 1) y) ∨ (n = A (y + 1) ∧ In (n + 1) (y + 1)) := by
 obtain ⟨h1, h2, h3, h4⟩ := h
 by_cases c : n + 1 ≤ A (y + 1)
 ·exact Or.inl ⟨h1, h2, by omega, c⟩
 ·refine Or.inr ⟨by omega, by omega, ?_, by omega, ?_⟩
  ·by_cases e : y = 9999
   ·subst e
    have : A (9999 + 1) = 3652059 := A_end
    omega
   ·omega
  ·have := A_succ (y + 1)
   have := len_in (y + 1)
   omega
theorem D_step {n y z : Int} (h : In n y) (g : In (n + 1) z) : D (n + 1) z = D n y + (if Lp y then 1 else 0) := by
 have hn : n < 3652059 := by have := g.day; omega
 rcases h.next hn with c | ⟨e, c⟩
 ·obtain rfl := c.one g
  exact D_next n y
 ·obtain rfl := c.one g
  have s := L_succ y
  have t := A_succ y
  unfold D
  unfold len at t
  by_cases p : Lp y
  ·rw [if_pos p] at s t ⊢
   rw [if_pos p]
   split <;> omega
  ·rw [if_neg p] at s t ⊢
   rw [if_neg p]
   split <;> omega
theorem D_between {a b y z : Int} (h : In a y) (g : In b z) (ab : a ≤ b) : D a y ≤ D b z ∧ D b z - D a y ≤ b - a := by
 obtain ⟨m, hm⟩ : ∃ m : Nat, b = a + m := ⟨(b - a).toNat, by omega⟩
 clear ab
 subst hm
 induction m generalizing z with
 | zero =>
  have g' : In a z := by simpa using g
  obtain rfl := h.one g'
  simp
 | succ m ih =>
  have d := g.day
  have e := h.day
  obtain ⟨x, hx⟩ := In.exists (n := a + m) (by omega) (by omega)
  have i := ih hx
  have g' : In (a + m + 1) z := by
   have : a + ((m + 1 : Nat) : Int) = a + m + 1 := by omega
   rw [this] at g
   exact g
  have s := D_step hx g'
  have q : a + ((m + 1 : Nat) : Int) = a + m + 1 := by omega
  rw [q, s]
  split <;> omega
theorem In.era {n y : Int} (h : In n y) (hn : n + 146097 ≤ 3652059) : In (n + 146097) (y + 400) := by
 obtain ⟨h1, h2, h3, h4⟩ := h
 have e1 := A_era y
 have e2 := A_era (y + 1)
 have e3 : y + 1 + 400 = y + 400 + 1 := by omega
 rw [e3] at e2
 refine ⟨by omega, ?_, by omega, by omega⟩
 by_cases c : y + 400 ≤ 9999
 ·exact c
 ·have := A_mono (show (10000 : Int) ≤ y + 400 by omega)
  rw [A_end] at this
  omega
theorem D_era (n y : Int) : D (n + 146097) (y + 400) = D n y + 35502 := by
 unfold D
 rw [L_era, A_era]
 by_cases c : Lp y
 ·rw [if_pos c, if_pos ((Lp_era y).mpr c)]; omega
 ·rw [if_neg c, if_neg (fun h => c ((Lp_era y).mp h))]; omega
end Go.Proofs.YtbapgkopilmdfaaDoor.Cal

namespace Go.Proofs.YtbapgkopilmdfaaDoor.X
open Go.RowKit Go.Proofs.YtbapgkopilmdfaaDoorW.PrintWords Go.Proofs.YtbapgkopilmdfaaDoorW.PrintLast

theorem mul_eq {a b : Int} (ha : U64 a) (hb : U64 b) : wide_Mul.f a b = some (a * b / 18446744073709551616, a * b % 18446744073709551616) := by
 unfold wide_Mul.f bits_Mul64.f
 rw [if_pos ⟨ha, hb⟩]
 rfl

theorem compare_eq (a b : Int) : cmp_Compare_uint64.f a b = some (if a < b then -1 else if a = b then 0 else 1) := by
 unfold cmp_Compare_uint64.f cmp_isNaN_uint64.f
 simp only [bne_self_eq_false, Option.bind_some, Bool.false_eq_true, if_false]
 split
 ·rfl
 ·split
  ·rw [if_neg (by omega)]
  ·rw [if_pos (by omega)]

theorem wcmp_eq {h1 l1 h2 l2 : Int} (a1 : U64 h1) (a2 : U64 l1) (b1 : U64 h2) (b2 : U64 l2) : wide_Cmp.f h1 l1 h2 l2 = some (if wv h1 l1 < wv h2 l2 then -1 else if wv h1 l1 = wv h2 l2 then 0 else 1) := by
 unfold wide_Cmp.f
 simp only [compare_eq, Option.bind_some]
 obtain ⟨p1, p2⟩ := a1
 obtain ⟨p3, p4⟩ := a2
 obtain ⟨p5, p6⟩ := b1
 obtain ⟨p7, p8⟩ := b2
 unfold wv
 split
 ·subst h1
  congr 1
  repeat' split
  all_goals omega
 ·congr 1
  repeat' split
  all_goals omega

theorem of_eq (a : Int) : wide_Of.f a = some (0, a) := rfl

theorem add_eq {h1 l1 h2 l2 : Int} (a1 : U64 h1) (a2 : U64 l1) (b1 : U64 h2) (b2 : U64 l2) : wide_Add.f h1 l1 h2 l2 = some (if wv h1 l1 + wv h2 l2 < 340282366920938463463374607431768211456 then ((wv h1 l1 + wv h2 l2) / 18446744073709551616, (wv h1 l1 + wv h2 l2) % 18446744073709551616, 0) else (0, 0, 6)) := by
 unfold wide_Add.f
 rw [if_pos ⟨⟨a1, a2⟩, b1, b2⟩]
 split <;> rfl
theorem div_eq {h l d : Int} (a1 : U64 h) (a2 : U64 l) (b : U64 d) (hd : d ≠ 0) : wide_Div.f h l d = some (wv h l / d / 18446744073709551616, wv h l / d % 18446744073709551616, wv h l % d, 0) := by
 unfold wide_Div.f
 rw [if_pos ⟨a1, a2, b⟩, if_neg hd]
 obtain ⟨p1, p2⟩ := a1
 obtain ⟨p3, p4⟩ := a2
 obtain ⟨p5, p6⟩ := b
 have e : wv h l = (h % d * 18446744073709551616 + l) + d * (h / d * 18446744073709551616) := by
  unfold wv
  have := Int.mul_ediv_add_emod h d
  conv => lhs; rw [← this]
  rw [Int.add_mul, Int.mul_assoc]
  omega
 have m1 := Int.emod_nonneg h hd
 have m2 := Int.emod_lt_of_pos h (show 0 < d by omega)
 have q1 : 0 ≤ (h % d * 18446744073709551616 + l) / d := Int.ediv_nonneg (by omega) p5
 have q2 : (h % d * 18446744073709551616 + l) / d < 18446744073709551616 := by
  refine Int.ediv_lt_of_lt_mul (by omega) ?_
  omega
 rw [e, Int.add_mul_ediv_left _ _ hd, Int.add_mul_emod_self_left]
 generalize (h % d * 18446744073709551616 + l) / d = q at q1 q2
 generalize (h % d * 18446744073709551616 + l) % d = r
 have e1 : (q + h / d * 18446744073709551616) / 18446744073709551616 = h / d := by omega
 have e2 : (q + h / d * 18446744073709551616) % 18446744073709551616 = q := by omega
 rw [e1, e2]
theorem wv_parts {x : Int} (h0 : 0 ≤ x) (h1 : x < 340282366920938463463374607431768211456) : U64 (x / 18446744073709551616) ∧ U64 (x % 18446744073709551616) ∧ wv (x / 18446744073709551616) (x % 18446744073709551616) = x :=
 ⟨⟨by omega, by omega⟩, ⟨by omega, by omega⟩, by unfold wv; omega⟩
theorem wv_lt {h l : Int} (a1 : U64 h) (a2 : U64 l) : 0 ≤ wv h l ∧ wv h l < 340282366920938463463374607431768211456 := by
 obtain ⟨p1, p2⟩ := a1
 obtain ⟨p3, p4⟩ := a2
 unfold wv
 omega
end Go.Proofs.YtbapgkopilmdfaaDoor.X

set_option maxRecDepth 10000
namespace Go.Proofs.YtbapgkopilmdfaaDoor.X
open Go.RowKit Go.Proofs.YtbapgkopilmdfaaDoorW.PrintWords Go.Proofs.YtbapgkopilmdfaaDoorW.PrintLast

def At {α : Type} (f : Nat → Option α) (r : α) : Prop := ∃ K, ∀ k, K ≤ k → f k = some r
theorem At.bind {α β : Type} {f : Nat → Option α} {g : Nat → α → Option β} {a : α} {b : β} (h : At f a) (h2 : At (fun k => g k a) b) : At (fun k => (f k).bind (g k)) b := by
 obtain ⟨K, h⟩ := h
 obtain ⟨L, h2⟩ := h2
 refine ⟨max K L, fun k hk => ?_⟩
 show (f k).bind (g k) = some b
 rw [h k (by omega), Option.bind_some]
 exact h2 k (by omega)

def bv : List Int → Int
 | [] => 0
 | d :: l => d + 10000 * bv l
def Digs (l : List Int) : Prop := ∀ d ∈ l, 0 ≤ d ∧ d < 10000
def Norm (l : List Int) : Prop := ∀ l' d, l = l' ++ [d] → d ≠ 0

theorem digs_cons {d : Int} {l : List Int} : Digs (d :: l) ↔ (0 ≤ d ∧ d < 10000) ∧ Digs l := by
 unfold Digs
 simp
theorem digs_nil : Digs [] := by
 intro d hd
 cases hd
theorem norm_nil : Norm [] := by
 intro l' d h
 simp at h
theorem bv_nonneg : ∀ {l : List Int}, Digs l → 0 ≤ bv l
 | [], _ => by simp [bv]
 | d :: l, h => by
  obtain ⟨h1, h2⟩ := digs_cons.mp h
  have := bv_nonneg h2
  unfold bv
  omega
theorem bv_append : ∀ (l m : List Int), bv (l ++ m) = bv l + 10000 ^ l.length * bv m
 | [], m => by simp [bv]
 | d :: l, m => by
  rw [List.cons_append, bv, bv_append l m, bv, List.length_cons, Int.pow_succ, Int.mul_add, Int.mul_comm (10000 ^ l.length) 10000, Int.mul_assoc]
  omega
theorem norm_cons {d : Int} {l : List Int} (h : Norm l) (hd : l = [] → d ≠ 0) : Norm (d :: l) := by
 intro l' e he
 cases l' with
 | nil =>
  simp at he
  obtain ⟨rfl, rfl⟩ := he
  exact hd rfl
 | cons x l' =>
  simp at he
  exact h l' e he.2

theorem fromU_loop : ∀ (m : Nat) (x : Int), 0 ≤ x → x ≤ 18446744073709551615 → x < 10000 ^ m →
  ∃ l, (∀ acc k, m + 1 ≤ k → acc.length + m < 17592186044416 → demurrageref01_FromU.l0 k x acc = some (acc ++ l)) ∧ Digs l ∧ bv l = x ∧ Norm l ∧ l.length ≤ m := by
 intro m
 induction m with
 | zero =>
  intro x h0 _ h1
  have : x = 0 := by simp at h1; omega
  subst this
  refine ⟨[], ?_, digs_nil, rfl, norm_nil, by simp⟩
  intro acc k hk _
  cases k with
  | zero => omega
  | succ k => rw [demurrageref01_FromU.l0, if_neg (by decide), List.append_nil]
 | succ m ih =>
  intro x h0 h2 h1
  by_cases hx : x = 0
  ·subst hx
   refine ⟨[], ?_, digs_nil, rfl, norm_nil, by simp⟩
   intro acc k hk _
   cases k with
   | zero => omega
   | succ k => rw [demurrageref01_FromU.l0, if_neg (by decide), List.append_nil]
  ·have p1 : x / 10000 < 10000 ^ m := by
    rw [Int.pow_succ] at h1
    exact Int.ediv_lt_of_lt_mul (by omega) h1
   obtain ⟨l, e, d, v, n, c⟩ := ih (x / 10000) (by omega) (by omega) p1
   refine ⟨x % 10000 :: l, ?_, digs_cons.mpr ⟨by omega, d⟩, ?_, norm_cons n ?_, by simp; omega⟩
   ·intro acc k hk hl
    cases k with
    | zero => omega
    | succ k =>
     have w1 : IntKind.u64.wrap (Int.tdiv x 10000) = x / 10000 := IntWalk.u64_quo x 10000 ⟨h0, h2, by omega⟩
     have w2 : wrap64 (Int.tmod x 10000) = x % 10000 := by
      rw [Int.tmod_eq_emod_of_nonneg h0]
      exact IntWalk.wrap64_in (x % 10000) ⟨by omega, by omega⟩
     rw [demurrageref01_FromU.l0, if_pos (show x > 0 by clear w1 w2; omega), if_pos (show acc.length < 17592186044416 by clear w1 w2; omega), w1, w2]
     clear w1 w2
     rw [e (acc ++ [x % 10000]) k (by omega) (by simp; omega)]
     simp
   ·rw [bv, v]; omega
   ·intro hn
    rw [hn] at v
    simp [bv] at v
    omega

theorem fromU_at {x : Int} (h : U64 x) : ∃ l, At (fun k => demurrageref01_FromU.f k x) l ∧ Digs l ∧ bv l = x ∧ Norm l ∧ l.length ≤ 5 := by
 obtain ⟨h0, h1⟩ := h
 have hp : x < 10000 ^ 5 := by
  have : (10000 : Int) ^ 5 = 100000000000000000000 := by decide
  omega
 obtain ⟨l, e, d, v, n, c⟩ := fromU_loop 5 x h0 (by omega) hp
 refine ⟨l, ⟨6, fun k hk => ?_⟩, d, v, n, c⟩
 show demurrageref01_FromU.l0 k x [] = some l
 rw [e [] k hk (by simp), List.nil_append]
end Go.Proofs.YtbapgkopilmdfaaDoor.X

set_option maxRecDepth 10000
namespace Go.Proofs.YtbapgkopilmdfaaDoor.X
open Go.RowKit Go.Proofs.YtbapgkopilmdfaaDoorW.PrintWords Go.Proofs.YtbapgkopilmdfaaDoorW.PrintLast

theorem getD_digs {l : List Int} (h : Digs l) (i : Nat) : 0 ≤ l.getD i 0 ∧ l.getD i 0 < 10000 := by
 by_cases hi : i < l.length
 ·rw [List.getD_eq_getElem?_getD, List.getElem?_eq_getElem hi]
  exact h _ (List.getElem_mem hi)
 ·rw [List.getD_eq_getElem?_getD, List.getElem?_eq_none (by omega)]
  simp
def hv (l : List Int) (i : Nat) : Int := bv (l.drop i)
theorem hv_step : ∀ (l : List Int) (i : Nat), hv l i = l.getD i 0 + 10000 * hv l (i + 1)
 | [], i => by simp [hv, bv]
 | d :: l, 0 => by simp [hv, bv]
 | d :: l, i + 1 => by
  have := hv_step l i
  simpa [hv] using this
theorem hv_zero (l : List Int) : hv l 0 = bv l := by simp [hv]
theorem hv_end {l : List Int} {i : Nat} (h : l.length ≤ i) : hv l i = 0 := by
 unfold hv
 rw [List.drop_eq_nil_of_le h]
 rfl
theorem hv_less {a b : List Int} (ha : Digs a) (hb : Digs b) : ∀ (i : Nat), hv a i < hv b i → hv a 0 < hv b 0
 | 0, h => h
 | i + 1, h => by
  apply hv_less ha hb i
  rw [hv_step a i, hv_step b i]
  have := getD_digs ha i
  have := getD_digs hb i
  omega

theorem part_eq {l : List Int} {i : Nat} : demurrageref01_part.f l (i : Int) = some (l.getD i 0) := by
 unfold demurrageref01_part.f rd
 by_cases h : (i : Int) < (l.length : Int)
 ·rw [if_pos h, if_pos (Int.natCast_nonneg i), Int.toNat_natCast]
 ·rw [if_neg h, List.getD_eq_getElem?_getD, List.getElem?_eq_none (by omega)]
  rfl

def bsg (x y : Int) : Int := if x < y then -1 else if x = y then 0 else 1

theorem cmp_loop {a b : List Int} (ha : Digs a) (hb : Digs b) : ∀ (i k : Nat), i + 1 ≤ k → (i : Int) < 9223372036854775807 → hv a i = hv b i → demurrageref01_Cmp.l0 k ((i : Int) - 1) a b = some (bsg (bv a) (bv b)) := by
 intro i
 induction i with
 | zero =>
  intro k hk _ h
  cases k with
  | zero => omega
  | succ k =>
   rw [demurrageref01_Cmp.l0, if_neg (by omega)]
   rw [hv_zero, hv_zero] at h
   unfold bsg
   rw [h, if_neg (by omega), if_pos rfl]
 | succ i ih =>
  intro k hk hm h
  cases k with
  | zero => omega
  | succ k =>
   have e : ((i + 1 : Nat) : Int) - 1 = (i : Int) := by omega
   rw [e, demurrageref01_Cmp.l0, if_pos (by omega), part_eq, part_eq]
   rw [Option.bind_some, Option.bind_some]
   have s1 := hv_step a i
   have s2 := hv_step b i
   by_cases h1 : a.getD i 0 < b.getD i 0
   ·rw [if_pos h1]
    have := hv_less ha hb i (by omega)
    rw [hv_zero, hv_zero] at this
    unfold bsg
    rw [if_pos this]
   ·rw [if_neg h1]
    by_cases h2 : a.getD i 0 > b.getD i 0
    ·rw [if_pos h2]
     have := hv_less hb ha i (by omega)
     rw [hv_zero, hv_zero] at this
     unfold bsg
     rw [if_neg (by omega), if_neg (by omega)]
    ·rw [if_neg h2, IntWalk.wrap64_in ((i : Int) - 1) ⟨by omega, by omega⟩]
     exact ih k (by omega) (by omega) (by omega)

theorem cmp_at {a b : List Int} (ha : Digs a) (hb : Digs b) (la : a.length < 9223372036854775807) (lb : b.length < 9223372036854775807) : At (fun k => demurrageref01_Cmp.f k a b) (bsg (bv a) (bv b)) := by
 refine ⟨a.length + b.length + 3, fun k hk => ?_⟩
 show demurrageref01_Cmp.f k a b = _
 unfold demurrageref01_Cmp.f
 cases k with
 | zero => omega
 | succ k =>
  by_cases h : (b.length : Int) > (a.length : Int)
  ·rw [if_pos h, demurrageref01_Cmp.j0, IntWalk.wrap64_in ((b.length : Int) - 1) ⟨by omega, by omega⟩]
   exact cmp_loop ha hb b.length k (by omega) (by omega) (by rw [hv_end (by omega), hv_end (by omega)])
  ·rw [if_neg h, demurrageref01_Cmp.j0, IntWalk.wrap64_in ((a.length : Int) - 1) ⟨by omega, by omega⟩]
   exact cmp_loop ha hb a.length k (by omega) (by omega) (by rw [hv_end (by omega), hv_end (by omega)])
end Go.Proofs.YtbapgkopilmdfaaDoor.X

set_option maxRecDepth 10000
namespace Go.Proofs.YtbapgkopilmdfaaDoor.X
open Go.RowKit Go.Proofs.YtbapgkopilmdfaaDoorW.PrintWords Go.Proofs.YtbapgkopilmdfaaDoorW.PrintLast

theorem wrap64_small {x : Int} (h0 : -9223372036854775808 ≤ x) (h1 : x ≤ 9223372036854775807) : wrap64 x = x := IntWalk.wrap64_in x ⟨h0, h1⟩

theorem plus_step {a b out : List Int} {i k : Nat} {c : Int} (ha : Digs a) (hb : Digs b) (hc : c = 0 ∨ c = 1) (hi : (i : Int) < 4611686018427387904) (go : i < a.length ∨ i < b.length ∨ c > 0) (ho : out.length < 17592186044416) :
  demurrageref01_Plus.l0 (k + 2) out c (i : Int) a b = demurrageref01_Plus.l0 k (out ++ [(a.getD i 0 + b.getD i 0 + c) % 10000]) ((a.getD i 0 + b.getD i 0 + c) / 10000) ((i + 1 : Nat) : Int) a b := by
 have d1 := getD_digs ha i
 have d2 := getD_digs hb i
 have e1 : wrap64 (a.getD i 0 + b.getD i 0) = a.getD i 0 + b.getD i 0 := wrap64_small (by omega) (by omega)
 have e2 : wrap64 (a.getD i 0 + b.getD i 0 + c) = a.getD i 0 + b.getD i 0 + c := wrap64_small (by clear e1; omega) (by clear e1; omega)
 have e3 : Int.tmod (a.getD i 0 + b.getD i 0 + c) 10000 = (a.getD i 0 + b.getD i 0 + c) % 10000 := Int.tmod_eq_emod_of_nonneg (by clear e1 e2; omega)
 have e4 : Int.tdiv (a.getD i 0 + b.getD i 0 + c) 10000 = (a.getD i 0 + b.getD i 0 + c) / 10000 := Int.tdiv_eq_ediv_of_nonneg (by clear e1 e2; omega)
 have e5 : wrap64 ((a.getD i 0 + b.getD i 0 + c) / 10000) = (a.getD i 0 + b.getD i 0 + c) / 10000 := wrap64_small (by clear e1 e2 e3 e4; omega) (by clear e1 e2 e3 e4; omega)
 have e6 : wrap64 ((i : Int) + 1) = ((i + 1 : Nat) : Int) := by
  rw [wrap64_small (by clear e1 e2 e3 e4 e5; omega) (by clear e1 e2 e3 e4 e5; omega)]; clear e1 e2 e3 e4 e5; omega
 have body : demurrageref01_Plus.j1 (k + 1) out c (i : Int) true a b = demurrageref01_Plus.l0 k (out ++ [(a.getD i 0 + b.getD i 0 + c) % 10000]) ((a.getD i 0 + b.getD i 0 + c) / 10000) ((i + 1 : Nat) : Int) a b := by
  rw [demurrageref01_Plus.j1, if_pos rfl, part_eq, Option.bind_some, part_eq, Option.bind_some, if_pos ho, e1, e2, e3, e4, e5, e6]
 clear e1 e2 e3 e4 e5 e6
 rw [demurrageref01_Plus.l0]
 by_cases h1 : (i : Int) < (a.length : Int)
 ·rw [if_pos h1, body]
 ·rw [if_neg h1]
  by_cases h2 : (i : Int) < (b.length : Int)
  ·rw [if_pos h2, body]
  ·rw [if_neg h2, show decide (c > 0) = true from decide_eq_true (by clear body; omega), body]

theorem plus_stop {a b out : List Int} {i k : Nat} (h1 : a.length ≤ i) (h2 : b.length ≤ i) : demurrageref01_Plus.l0 (k + 2) out 0 (i : Int) a b = some out := by
 rw [demurrageref01_Plus.l0, if_neg (by omega), if_neg (by omega), show decide ((0 : Int) > 0) = false from rfl, demurrageref01_Plus.j1, if_neg (by decide)]

theorem plus_loop {a b : List Int} (ha : Digs a) (hb : Digs b) : ∀ (m i : Nat) (c : Int), a.length ≤ i + m → b.length ≤ i + m → (c = 0 ∨ c = 1) → i + m < 4611686018427387900 →
  ∃ s, (∀ out k, 2 * m + 4 ≤ k → out.length + m + 1 < 17592186044416 → demurrageref01_Plus.l0 k out c (i : Int) a b = some (out ++ s)) ∧ Digs s ∧ bv s = hv a i + hv b i + c ∧ s.length ≤ m + 1 := by
 intro m
 induction m with
 | zero =>
  intro i c h1 h2 hc hi
  have z1 := hv_end (l := a) (i := i) (by omega)
  have z2 := hv_end (l := b) (i := i) (by omega)
  have y1 := hv_step a i
  have y2 := hv_step b i
  have z3 := hv_end (l := a) (i := i + 1) (by omega)
  have z4 := hv_end (l := b) (i := i + 1) (by omega)
  rcases hc with rfl | rfl
  ·refine ⟨[], ?_, digs_nil, by rw [z1, z2]; rfl, by simp⟩
   intro out k hk _
   obtain ⟨k, rfl⟩ : ∃ j, k = j + 2 := ⟨k - 2, by omega⟩
   rw [plus_stop (by omega) (by omega), List.append_nil]
  ·refine ⟨[1], ?_, ?_, by rw [z1, z2]; rfl, by simp⟩
   ·intro out k hk ho
    obtain ⟨k, rfl⟩ : ∃ j, k = j + 2 + 2 := ⟨k - 4, by omega⟩
    have e : a.getD i 0 + b.getD i 0 + 1 = 1 := by omega
    rw [plus_step ha hb (Or.inr rfl) (by omega) (Or.inr (Or.inr (by omega))) (by omega), e]
    exact plus_stop (by omega) (by omega)
   ·intro d hd
    simp at hd
    omega
 | succ m ih =>
  intro i c h1 h2 hc hi
  by_cases go : i < a.length ∨ i < b.length
  ·have d1 := getD_digs ha i
   have d2 := getD_digs hb i
   have y1 := hv_step a i
   have y2 := hv_step b i
   obtain ⟨s, e, ds, v, l⟩ := ih (i + 1) ((a.getD i 0 + b.getD i 0 + c) / 10000) (by omega) (by omega) (by omega) (by omega)
   refine ⟨(a.getD i 0 + b.getD i 0 + c) % 10000 :: s, ?_, digs_cons.mpr ⟨by omega, ds⟩, by rw [bv, v]; omega, by simp; omega⟩
   intro out k hk ho
   obtain ⟨k, rfl⟩ : ∃ j, k = j + 2 := ⟨k - 2, by omega⟩
   rw [plus_step ha hb hc (by omega) (by omega) (by omega), e _ k (by omega) (by simp; omega)]
   simp
  ·obtain ⟨s, e, ds, v, l⟩ : ∃ s, (∀ out k, 2 * m + 4 ≤ k → out.length + m + 1 < 17592186044416 → demurrageref01_Plus.l0 k out c (i : Int) a b = some (out ++ s)) ∧ Digs s ∧ bv s = hv a i + hv b i + c ∧ s.length ≤ m + 1 := ih i c (by omega) (by omega) hc (by omega)
   exact ⟨s, fun out k hk ho => e out k (by omega) (by omega), ds, v, by omega⟩

theorem plus_at {a b : List Int} (ha : Digs a) (hb : Digs b) (la : a.length < 1000000) (lb : b.length < 1000000) : ∃ s, At (fun k => demurrageref01_Plus.f k a b) s ∧ Digs s ∧ bv s = bv a + bv b ∧ s.length ≤ a.length + b.length + 1 := by
 obtain ⟨s, e, ds, v, l⟩ := plus_loop ha hb (a.length + b.length) 0 0 (by omega) (by omega) (Or.inl rfl) (by omega)
 refine ⟨s, ⟨2 * (a.length + b.length) + 4, fun k hk => ?_⟩, ds, ?_, l⟩
 ·have := e [] k hk (by simp; omega)
  rw [List.nil_append] at this
  exact this
 ·rw [v, hv_zero, hv_zero]
  omega
end Go.Proofs.YtbapgkopilmdfaaDoor.X

set_option maxRecDepth 10000
namespace Go.Proofs.YtbapgkopilmdfaaDoor.X
open Go.RowKit Go.Proofs.YtbapgkopilmdfaaDoorW.PrintWords Go.Proofs.YtbapgkopilmdfaaDoorW.PrintLast

theorem rd_nat (l : List Int) (n : Nat) : rd l (n : Int) = l.getD n 0 := by
 unfold rd
 rw [Int.toNat_natCast]
theorem take_getD {l : List Int} {n : Nat} (h : n < l.length) : l.take (n + 1) = l.take n ++ [l.getD n 0] := by
 rw [List.take_add_one, List.getD_eq_getElem?_getD, List.getElem?_eq_getElem h]
 rfl
theorem digs_take {l : List Int} (h : Digs l) (n : Nat) : Digs (l.take n) := fun d hd => h d (List.mem_of_mem_take hd)
theorem digs_drop {l : List Int} (h : Digs l) (n : Nat) : Digs (l.drop n) := fun d hd => h d (List.mem_of_mem_drop hd)
theorem hv_nonneg {l : List Int} (h : Digs l) (i : Nat) : 0 ≤ hv l i := bv_nonneg (digs_drop h i)

theorem trim_val (l : List Int) : ∀ n, n ≤ l.length → bv (l.take (trimN l n)) = bv (l.take n) ∧ Norm (l.take (trimN l n))
 | 0, _ => by
  refine ⟨rfl, ?_⟩
  simp [trimN]
  exact norm_nil
 | n + 1, h => by
  unfold trimN
  rw [rd_nat]
  by_cases h0 : l.getD n 0 = 0
  ·rw [if_pos h0]
   obtain ⟨h1, h2⟩ := trim_val l n (by omega)
   refine ⟨?_, h2⟩
   rw [h1, take_getD (by omega), bv_append, h0]
   simp [bv]
  ·rw [if_neg h0]
   refine ⟨rfl, ?_⟩
   intro l' d e
   rw [take_getD (by omega)] at e
   have := congrArg List.getLast? e
   simp at this
   rw [← this]
   simpa using h0

theorem trim_eq {l : List Int} (hd : Digs l) (hl : l.length < 17592186044416) : ∃ t, demurrageref01_trim.f l = some t ∧ Digs t ∧ bv t = bv l ∧ Norm t ∧ t.length ≤ l.length := by
 obtain ⟨h1, h2⟩ := trim_val l l.length (Nat.le_refl _)
 refine ⟨l.take (trimN l l.length), ?_, digs_take hd _, ?_, h2, ?_⟩
 ·unfold demurrageref01_trim.f
  rw [if_pos hl]
 ·rw [h1, List.take_length]
 ·rw [List.length_take]
  omega

theorem less_loop {a b : List Int} (ha : Digs a) (hb : Digs b) : ∀ (m i : Nat) (c : Int), a.length = i + m → (c = 0 ∨ c = 1) → hv b i + c ≤ hv a i → i + m < 4611686018427387900 →
  ∃ s, (∀ out k, m + 1 ≤ k → out.length + m < 17592186044416 → demurrageref01_Less.l0 k out c (i : Int) a b = (demurrageref01_trim.f (out ++ s)).bind fun t => some t) ∧ Digs s ∧ bv s = hv a i - hv b i - c ∧ s.length = m := by
 intro m
 induction m with
 | zero =>
  intro i c h1 hc hle hi
  have z1 := hv_end (l := a) (i := i) (by omega)
  have z2 := hv_nonneg hb i
  refine ⟨[], ?_, digs_nil, by rw [bv]; omega, rfl⟩
  intro out k hk _
  obtain ⟨k, rfl⟩ : ∃ j, k = j + 1 := ⟨k - 1, by omega⟩
  rw [demurrageref01_Less.l0, if_neg (by omega), List.append_nil]
 | succ m ih =>
  intro i c h1 hc hle hi
  have d1 := getD_digs ha i
  have d2 := getD_digs hb i
  have y1 := hv_step a i
  have y2 := hv_step b i
  have w6 : wrap64 ((i : Int) + 1) = ((i + 1 : Nat) : Int) := wrap64_small (x := (i : Int) + 1) (by omega) (by omega)
  have w1 : wrap64 (a.getD i 0 - b.getD i 0) = a.getD i 0 - b.getD i 0 := wrap64_small (by clear w6; omega) (by clear w6; omega)
  have w2 : wrap64 (a.getD i 0 - b.getD i 0 - c) = a.getD i 0 - b.getD i 0 - c := wrap64_small (by clear w6 w1; omega) (by clear w6 w1; omega)
  have w3 : wrap64 (a.getD i 0 - b.getD i 0 - c + 10000) = a.getD i 0 - b.getD i 0 - c + 10000 := wrap64_small (by clear w6 w1 w2; omega) (by clear w6 w1 w2; omega)
  have step : ∀ out k, out.length < 17592186044416 → demurrageref01_Less.l0 (k + 1) out c (i : Int) a b =
    if a.getD i 0 - b.getD i 0 - c < 0 then demurrageref01_Less.l0 k (out ++ [a.getD i 0 - b.getD i 0 - c + 10000]) 1 ((i + 1 : Nat) : Int) a b else demurrageref01_Less.l0 k (out ++ [a.getD i 0 - b.getD i 0 - c]) 0 ((i + 1 : Nat) : Int) a b := by
   intro out k ho
   rw [demurrageref01_Less.l0, if_pos (show (i : Int) < (a.length : Int) by clear w1 w2 w3 w6; omega), part_eq, Option.bind_some, part_eq, Option.bind_some, w1, w2, w3, w6, if_pos ho, if_pos ho]
  clear w1 w2 w3 w6
  by_cases hx : a.getD i 0 - b.getD i 0 - c < 0
  ·obtain ⟨s, e, ds, v, l⟩ := ih (i + 1) 1 (by omega) (Or.inr rfl) (by omega) (by omega)
   refine ⟨(a.getD i 0 - b.getD i 0 - c + 10000) :: s, ?_, digs_cons.mpr ⟨by omega, ds⟩, by rw [bv, v]; omega, by simp; omega⟩
   intro out k hk ho
   obtain ⟨k, rfl⟩ : ∃ j, k = j + 1 := ⟨k - 1, by omega⟩
   rw [step out k (by omega), if_pos hx, e _ k (by omega) (by simp; omega)]
   simp
  ·obtain ⟨s, e, ds, v, l⟩ := ih (i + 1) 0 (by omega) (Or.inl rfl) (by omega) (by omega)
   refine ⟨(a.getD i 0 - b.getD i 0 - c) :: s, ?_, digs_cons.mpr ⟨by omega, ds⟩, by rw [bv, v]; omega, by simp; omega⟩
   intro out k hk ho
   obtain ⟨k, rfl⟩ : ∃ j, k = j + 1 := ⟨k - 1, by omega⟩
   rw [step out k (by omega), if_neg hx, e _ k (by omega) (by simp; omega)]
   simp

theorem less_at {a b : List Int} (ha : Digs a) (hb : Digs b) (la : a.length < 1000000) (h : bv b ≤ bv a) : ∃ s, At (fun k => demurrageref01_Less.f k a b) s ∧ Digs s ∧ bv s = bv a - bv b ∧ Norm s ∧ s.length ≤ a.length := by
 obtain ⟨s, e, ds, v, l⟩ := less_loop ha hb a.length 0 0 (by omega) (Or.inl rfl) (by rw [hv_zero, hv_zero]; omega) (by omega)
 obtain ⟨t, e2, dt, vt, nt, lt⟩ := trim_eq ds (by omega)
 refine ⟨t, ⟨a.length + 1, fun k hk => ?_⟩, dt, ?_, nt, by omega⟩
 ·have := e [] k hk (by simp; omega)
  rw [List.nil_append, e2, Option.bind_some] at this
  exact this
 ·rw [vt, v, hv_zero, hv_zero]
  omega
end Go.Proofs.YtbapgkopilmdfaaDoor.X

set_option maxRecDepth 10000
namespace Go.Proofs.YtbapgkopilmdfaaDoor.X
open Go.RowKit Go.Proofs.YtbapgkopilmdfaaDoorW.PrintWords Go.Proofs.YtbapgkopilmdfaaDoorW.PrintLast

theorem bindP {α β : Type} (x : α) (f : α → Option β) : (some x).bind f = f x := by rw [Option.bind_some]
theorem bv_set : ∀ (l : List Int) (n : Nat) (v : Int), n < l.length → bv (l.set n v) = bv l + 10000 ^ n * (v - l.getD n 0)
 | [], n, v, h => by simp at h
 | d :: l, 0, v, _ => by
  simp [bv]
  omega
 | d :: l, n + 1, v, h => by
  have := bv_set l n v (by simpa using h)
  rw [List.set_cons_succ, bv, this, bv, Int.pow_succ, List.getD_cons_succ, Int.mul_comm (10000 ^ n) 10000, Int.mul_assoc]
  omega
theorem digs_set {l : List Int} (h : Digs l) (n : Nat) {v : Int} (hv : 0 ≤ v ∧ v < 10000) : Digs (l.set n v) := by
 intro d hd
 rcases List.mem_or_eq_of_mem_set hd with x | x
 ·exact h d x
 ·rw [x]; exact hv
theorem hv_set {l : List Int} {n i : Nat} {v : Int} (h : n < i) : hv (l.set n v) i = hv l i := by
 unfold hv
 rw [List.drop_set_of_lt h]
theorem hv_zero_digit {l : List Int} (h : Digs l) {i : Nat} (z : hv l i = 0) : l.getD i 0 = 0 ∧ hv l (i + 1) = 0 := by
 have s := hv_step l i
 have d := getD_digs h i
 have n := hv_nonneg h (i + 1)
 omega
theorem pow_pos10 (n : Nat) : (0 : Int) < 10000 ^ n := Int.pow_pos (by omega)
theorem bv_lt : ∀ {l : List Int}, Digs l → bv l < 10000 ^ l.length
 | [], _ => by simp [bv]
 | d :: l, h => by
  obtain ⟨h1, h2⟩ := digs_cons.mp h
  have := bv_lt h2
  rw [bv, List.length_cons, Int.pow_succ]
  omega
theorem bv_split (l : List Int) (n : Nat) : bv l = bv (l.take n) + 10000 ^ (l.take n).length * hv l n := by
 unfold hv
 rw [← bv_append, List.take_append_drop]
theorem hv_of_lt {l : List Int} (h : Digs l) {n : Nat} (hn : n ≤ l.length) (lt : bv l < 10000 ^ n) : hv l n = 0 := by
 have s := bv_split l n
 have e : (l.take n).length = n := by rw [List.length_take]; omega
 rw [e] at s
 have p := hv_nonneg h n
 have q := bv_nonneg (digs_take h n)
 rcases Int.lt_or_eq_of_le p with g | g
 ·have : 10000 ^ n * 1 ≤ 10000 ^ n * hv l n := Int.mul_le_mul_of_nonneg_left (by omega) (by have := pow_pos10 n; omega)
  omega
 ·exact g.symm

theorem prod_body {a b out : List Int} {i j : Nat} {c : Int} (ha : Digs a) (hb : Digs b) (ho : Digs out) (hc : 0 ≤ c ∧ c ≤ 9999) :
  0 ≤ out.getD (i + j) 0 + a.getD i 0 * b.getD j 0 + c ∧ out.getD (i + j) 0 + a.getD i 0 * b.getD j 0 + c ≤ 99999999 := by
 have d1 := getD_digs ha i
 have d2 := getD_digs hb j
 have d3 := getD_digs ho (i + j)
 have m0 : 0 ≤ a.getD i 0 * b.getD j 0 := Int.mul_nonneg d1.1 d2.1
 have m1 : a.getD i 0 * b.getD j 0 ≤ 9999 * 9999 := Int.mul_le_mul (by omega) (by omega) d2.1 (by omega)
 omega

theorem prod_step {a b out : List Int} {i j k : Nat} {c : Int} (ha : Digs a) (hb : Digs b) (ho : Digs out) (hc : 0 ≤ c ∧ c ≤ 9999) (hi : i < a.length) (hl : i + j < out.length) (hm : out.length < 4611686018427387900) (hj : j < 4611686018427387900) (go : j < b.length ∨ c > 0) :
  demurrageref01_Prod.l1 (k + 1) out (i : Int) c (j : Int) a b = demurrageref01_Prod.l1 k (out.set (i + j) ((out.getD (i + j) 0 + a.getD i 0 * b.getD j 0 + c) % 10000)) (i : Int) ((out.getD (i + j) 0 + a.getD i 0 * b.getD j 0 + c) / 10000) ((j + 1 : Nat) : Int) a b := by
 have d1 := getD_digs ha i
 have d2 := getD_digs hb j
 have d3 := getD_digs ho (i + j)
 obtain ⟨x0, x1⟩ := prod_body (i := i) (j := j) ha hb ho hc
 have m0 : 0 ≤ a.getD i 0 * b.getD j 0 := Int.mul_nonneg d1.1 d2.1
 have w0 : wrap64 ((i : Int) + (j : Int)) = ((i + j : Nat) : Int) := by
  rw [wrap64_small (x := (i : Int) + (j : Int)) (by omega) (by omega)]; omega
 have w1 : wrap64 (a.getD i 0 * b.getD j 0) = a.getD i 0 * b.getD j 0 := wrap64_small (by clear w0; omega) (by clear w0; omega)
 have w2 : wrap64 (out.getD (i + j) 0 + a.getD i 0 * b.getD j 0) = out.getD (i + j) 0 + a.getD i 0 * b.getD j 0 := wrap64_small (by clear w0 w1; omega) (by clear w0 w1; omega)
 have w3 : wrap64 (out.getD (i + j) 0 + a.getD i 0 * b.getD j 0 + c) = out.getD (i + j) 0 + a.getD i 0 * b.getD j 0 + c := wrap64_small (by clear w0 w1 w2; omega) (by clear w0 w1 w2; omega)
 have w4 : Int.tmod (out.getD (i + j) 0 + a.getD i 0 * b.getD j 0 + c) 10000 = (out.getD (i + j) 0 + a.getD i 0 * b.getD j 0 + c) % 10000 := Int.tmod_eq_emod_of_nonneg x0
 have w5 : Int.tdiv (out.getD (i + j) 0 + a.getD i 0 * b.getD j 0 + c) 10000 = (out.getD (i + j) 0 + a.getD i 0 * b.getD j 0 + c) / 10000 := Int.tdiv_eq_ediv_of_nonneg x0
 have w6 : wrap64 ((out.getD (i + j) 0 + a.getD i 0 * b.getD j 0 + c) / 10000) = (out.getD (i + j) 0 + a.getD i 0 * b.getD j 0 + c) / 10000 := wrap64_small (by clear w0 w1 w2 w3 w4 w5; omega) (by clear w0 w1 w2 w3 w4 w5; omega)
 have w7 : wrap64 ((j : Int) + 1) = ((j + 1 : Nat) : Int) := by
  rw [wrap64_small (x := (j : Int) + 1) (by clear w0 w1 w2 w3 w4 w5 w6; omega) (by clear w0 w1 w2 w3 w4 w5 w6; omega)]; clear w0 w1 w2 w3 w4 w5 w6; omega
 have c1 : 0 ≤ ((i + j : Nat) : Int) := Int.natCast_nonneg _
 have c2 : ((i + j : Nat) : Int) < (out.length : Int) := Int.ofNat_lt.mpr hl
 have c3 : 0 ≤ (i : Int) := Int.natCast_nonneg _
 have c4 : (i : Int) < (a.length : Int) := Int.ofNat_lt.mpr hi
 rw [demurrageref01_Prod.l1, w0, part_eq, rd_nat, rd_nat, Int.toNat_natCast]
 simp only [bindP, w1, w2, w3, w4, w5, w6, w7, if_pos c1, if_pos c2, if_pos c3, if_pos c4]
 clear w0 w1 w2 w3 w4 w5 w6 w7
 by_cases h1 : (j : Int) < (b.length : Int)
 ·rw [if_pos h1]
 ·rw [if_neg h1, if_pos (show c > 0 by omega)]
end Go.Proofs.YtbapgkopilmdfaaDoor.X

set_option maxRecDepth 10000
namespace Go.Proofs.YtbapgkopilmdfaaDoor.X
open Go.RowKit Go.Proofs.YtbapgkopilmdfaaDoorW.PrintWords Go.Proofs.YtbapgkopilmdfaaDoorW.PrintLast

theorem prod_leave {a b out : List Int} {i j k : Nat} (hi : (i : Int) < 4611686018427387900) (h : b.length ≤ j) : demurrageref01_Prod.l1 (k + 1) out (i : Int) 0 (j : Int) a b = demurrageref01_Prod.l0 k out ((i + 1 : Nat) : Int) a b := by
 have w : wrap64 ((i : Int) + 1) = ((i + 1 : Nat) : Int) := by
  rw [wrap64_small (x := (i : Int) + 1) (by omega) (by omega)]; omega
 rw [demurrageref01_Prod.l1, w]
 clear w
 rw [if_neg (by omega), if_neg (by omega)]

theorem prod_value {a b out : List Int} {i j : Nat} {c x : Int} (hx : x = out.getD (i + j) 0 + a.getD i 0 * b.getD j 0 + c) (hl : i + j < out.length) :
  bv (out.set (i + j) (x % 10000)) + 10000 ^ (i + (j + 1)) * (x / 10000 + a.getD i 0 * hv b (j + 1)) = bv out + 10000 ^ (i + j) * (c + a.getD i 0 * hv b j) := by
 rw [bv_set _ _ _ hl, hv_step b j, ← Nat.add_assoc, Int.pow_succ, Int.mul_assoc, Int.add_assoc, ← Int.mul_add, Int.mul_add (a.getD i 0), ← Int.mul_assoc (a.getD i 0) 10000, Int.mul_comm (a.getD i 0) 10000, Int.mul_assoc 10000 (a.getD i 0)]
 congr 2
 omega

theorem prod_row {a b : List Int} (ha : Digs a) (hb : Digs b) {i : Nat} (hi : i < a.length) {L : Nat} (hL : i + b.length + 1 < L) (hm : L < 4611686018427387900) :
  ∀ (m j : Nat) (out : List Int) (c : Int), b.length = j + m → Digs out → out.length = L → 0 ≤ c ∧ c ≤ 9999 → hv out (i + b.length) = 0 →
  ∃ out' t, (∀ k, demurrageref01_Prod.l1 (k + t) out (i : Int) c (j : Int) a b = demurrageref01_Prod.l0 k out' ((i + 1 : Nat) : Int) a b) ∧ t ≤ m + 2 ∧ Digs out' ∧ out'.length = L ∧ bv out' = bv out + 10000 ^ (i + j) * (c + a.getD i 0 * hv b j) := by
 intro m
 induction m with
 | zero =>
  intro j out c hj ho hlen hc hz
  have zb := hv_end (l := b) (i := j) (by omega)
  have db : b.getD j 0 = 0 := by
   rw [List.getD_eq_getElem?_getD, List.getElem?_eq_none (by omega)]; rfl
  by_cases h0 : c = 0
  ·subst h0
   refine ⟨out, 1, fun k => prod_leave (by omega) (by omega), by omega, ho, hlen, ?_⟩
   rw [zb]
   simp
  ·have e : i + b.length = i + j := by omega
   rw [e] at hz
   obtain ⟨z1, z2⟩ := hv_zero_digit ho hz
   have x1 : out.getD (i + j) 0 + a.getD i 0 * b.getD j 0 + c = c := by rw [z1, db]; simp
   refine ⟨out.set (i + j) (c % 10000), 2, fun k => ?_, by omega, digs_set ho _ (by omega), by simpa using hlen, ?_⟩
   ·rw [prod_step ha hb ho hc hi (by omega) (by omega) (by omega) (Or.inr (by omega)), x1]
    have : c / 10000 = 0 := by omega
    rw [this]
    exact prod_leave (by omega) (by omega)
   ·rw [bv_set _ _ _ (by omega), z1, zb]
    have : c % 10000 = c := by omega
    rw [this]
    simp
 | succ m ih =>
  intro j out c hj ho hlen hc hz
  obtain ⟨x0, x1⟩ := prod_body (i := i) (j := j) ha hb ho hc
  have st := fun k => prod_step (k := k) ha hb ho hc hi (show i + j < out.length by omega) (by omega) (show j < 4611686018427387900 by omega) (Or.inl (by omega))
  have pv := prod_value (a := a) (b := b) (out := out) (i := i) (j := j) (c := c) rfl (by omega)
  generalize out.getD (i + j) 0 + a.getD i 0 * b.getD j 0 + c = x at *
  obtain ⟨o2, t, e, ht, do2, l2, v2⟩ := ih (j + 1) (out.set (i + j) (x % 10000)) (x / 10000) (by omega) (digs_set ho _ (by omega)) (by simpa using hlen) (by omega) (by rw [hv_set (by omega)]; exact hz)
  refine ⟨o2, t + 1, fun k => ?_, by omega, do2, l2, by rw [v2, pv]⟩
  rw [← Nat.add_assoc, st, e]
end Go.Proofs.YtbapgkopilmdfaaDoor.X

set_option maxRecDepth 10000
namespace Go.Proofs.YtbapgkopilmdfaaDoor.X
open Go.RowKit Go.Proofs.YtbapgkopilmdfaaDoorW.PrintWords Go.Proofs.YtbapgkopilmdfaaDoorW.PrintLast

theorem mul_lt_pow {x y : Int} {i n : Nat} (hx : 0 ≤ x) (h1 : x < 10000 ^ i) (h3 : y < 10000 ^ n) : x * y < 10000 ^ (i + n) := by
 rw [Int.pow_add]
 have p := pow_pos10 n
 have s1 : x * y ≤ x * 10000 ^ n := Int.mul_le_mul_of_nonneg_left (by omega) hx
 have s2 : x * 10000 ^ n < 10000 ^ i * 10000 ^ n := Int.mul_lt_mul_of_pos_right h1 p
 omega

theorem prod_loop {a b : List Int} (ha : Digs a) (hb : Digs b) (hm : a.length + b.length + 2 < 4611686018427387900) :
  ∀ (m i : Nat) (out : List Int), a.length = i + m → Digs out → out.length = a.length + b.length + 1 → bv out = bv (a.take i) * bv b →
  ∃ s, (∀ k, m * (b.length + 4) + 1 ≤ k → demurrageref01_Prod.l0 k out (i : Int) a b = (demurrageref01_trim.f s).bind fun t => some t) ∧ Digs s ∧ s.length = a.length + b.length + 1 ∧ bv s = bv a * bv b := by
 intro m
 induction m with
 | zero =>
  intro i out hi ho hl hv0
  refine ⟨out, ?_, ho, hl, by rw [hv0, List.take_of_length_le (by omega)]⟩
  intro k hk
  obtain ⟨k, rfl⟩ : ∃ j, k = j + 1 := ⟨k - 1, by omega⟩
  rw [demurrageref01_Prod.l0, if_neg (by omega)]
 | succ m ih =>
  intro i out hi ho hl hv0
  have d1 := getD_digs ha i
  have e1 : (a.take i).length = i := by rw [List.length_take]; omega
  have n1 := bv_nonneg (digs_take ha i)
  have n2 := bv_lt (digs_take ha i)
  rw [e1] at n2
  have n3 := bv_lt hb
  have z : hv out (i + b.length) = 0 := hv_of_lt ho (by omega) (by rw [hv0]; exact mul_lt_pow n1 n2 n3)
  obtain ⟨o2, t, e, ht, d2, l2, v2⟩ := prod_row ha hb (i := i) (by omega) (L := a.length + b.length + 1) (by omega) (by omega) b.length 0 out 0 (by omega) ho hl (by omega) z
  have v3 : bv o2 = bv (a.take (i + 1)) * bv b := by
   rw [v2, hv0, take_getD (by omega), bv_append, e1, hv_zero, Nat.add_zero, Int.zero_add, Int.add_mul]
   simp [bv, Int.mul_assoc]
  obtain ⟨s, e2, ds, ls, vs⟩ := ih (i + 1) o2 (by omega) d2 l2 v3
  refine ⟨s, ?_, ds, ls, vs⟩
  intro k hk
  have hk2 : (m + 1) * (b.length + 4) = m * (b.length + 4) + (b.length + 4) := Nat.succ_mul _ _
  obtain ⟨k, rfl⟩ : ∃ j, k = j + t + 1 := ⟨k - t - 1, by omega⟩
  rw [demurrageref01_Prod.l0, if_pos (by omega)]
  have := e k
  rw [show ((0 : Nat) : Int) = 0 from rfl] at this
  rw [this]
  exact e2 k (by omega)

theorem bv_zeros : ∀ n, bv (List.replicate n 0) = 0
 | 0 => rfl
 | n + 1 => by rw [List.replicate_succ, bv, bv_zeros n]; rfl
theorem digs_zeros (n : Nat) : Digs (List.replicate n 0) := by
 intro d hd
 rw [List.eq_of_mem_replicate hd]
 omega

theorem prod_at {a b : List Int} (ha : Digs a) (hb : Digs b) (la : a.length < 1000000) (lb : b.length < 1000000) : ∃ s, At (fun k => demurrageref01_Prod.f k a b) s ∧ Digs s ∧ bv s = bv a * bv b ∧ Norm s ∧ s.length ≤ a.length + b.length + 1 := by
 obtain ⟨s, e, ds, ls, vs⟩ := prod_loop ha hb (by omega) a.length 0 (List.replicate (a.length + b.length + 1) 0) (by omega) (digs_zeros _) (by simp) (by rw [bv_zeros]; simp [bv])
 obtain ⟨t, e2, dt, vt, nt, lt⟩ := trim_eq ds (by omega)
 refine ⟨t, ⟨a.length * (b.length + 4) + 1, fun k hk => ?_⟩, dt, by rw [vt, vs], nt, by omega⟩
 have h := e k hk
 rw [e2, Option.bind_some] at h
 have w1 : wrap64 ((a.length : Int) + (b.length : Int)) = (a.length : Int) + (b.length : Int) := wrap64_small (by omega) (by omega)
 have w2 : wrap64 ((a.length : Int) + (b.length : Int) + 1) = ((a.length + b.length + 1 : Nat) : Int) := by
  rw [wrap64_small (x := (a.length : Int) + (b.length : Int) + 1) (by clear w1; omega) (by clear w1; omega)]
  clear w1
  omega
 show demurrageref01_Prod.f k a b = some t
 unfold demurrageref01_Prod.f
 rw [w1, w2, Int.toNat_natCast]
 clear w1 w2
 rw [if_pos (Int.natCast_nonneg _), if_pos (by omega)]
 exact h
end Go.Proofs.YtbapgkopilmdfaaDoor.X

set_option maxRecDepth 10000
namespace Go.Proofs.YtbapgkopilmdfaaDoor.X
open Go.RowKit Go.Proofs.YtbapgkopilmdfaaDoorW.PrintWords Go.Proofs.YtbapgkopilmdfaaDoorW.PrintLast

theorem At.done {α : Type} {f : Nat → Option α} {a : α} (h : At f a) : At (fun k => (f k).bind fun t => some t) a := At.bind h ⟨0, fun _ _ => rfl⟩

end Go.Proofs.YtbapgkopilmdfaaDoor.X

set_option maxRecDepth 10000
namespace Go.Proofs.YtbapgkopilmdfaaDoor.X
open Go.RowKit Go.Proofs.YtbapgkopilmdfaaDoorW.PrintWords Go.Proofs.YtbapgkopilmdfaaDoorW.PrintLast

theorem At.succ {α : Type} {f g : Nat → Option α} {r : α} (h : ∀ k, f (k + 1) = g k) (a : At g r) : At f r := by
 obtain ⟨K, a⟩ := a
 refine ⟨K + 1, fun k hk => ?_⟩
 obtain ⟨k, rfl⟩ : ∃ j, k = j + 1 := ⟨k - 1, by omega⟩
 rw [h]
 exact a k (by omega)

theorem from_at {x : Int} (h : 0 ≤ x ∧ x < 9223372036854775808) : ∃ l, At (fun k => demurrageref01_From.f k x) l ∧ Digs l ∧ bv l = x ∧ Norm l ∧ l.length ≤ 5 := by
 obtain ⟨l, h1, h2, h3, h4, h5⟩ := fromU_at (x := x) ⟨h.1, by omega⟩
 refine ⟨l, ?_, h2, h3, h4, h5⟩
 unfold demurrageref01_From.f
 rw [IntWalk.u64_in x ⟨h.1, by omega⟩]
 exact At.done h1

theorem quot_digit {a b r out : List Int} {p : Nat} (hb : Digs b) (hr : Digs r) (lb : b.length < 500000) (lr : r.length < 500000) (hp : p < out.length) (hl : out.length < 500000) :
  ∀ (n : Nat) (lo hi : Int), 0 ≤ lo → lo < hi → hi ≤ 10000 → hi - lo ≤ n → bv b * lo ≤ bv r → bv r < bv b * hi →
  ∃ d r', 0 ≤ d ∧ d < 10000 ∧ Digs r' ∧ Norm r' ∧ bv r' = bv r - bv b * d ∧ bv r' < bv b ∧ r'.length ≤ r.length ∧
   ∀ R, At (fun k => demurrageref01_Quot.l0 k (out.set p d) ((p : Int) - 1) a b r') R → At (fun k => demurrageref01_Quot.l1 k out (p : Int) lo hi a b r) R := by
 intro n
 induction n with
 | zero => intro lo hi _ h1 _ h2; omega
 | succ n ih =>
  intro lo hi h0 h1 h2 hn v1 v2
  by_cases hd : hi - lo > 1
  ·obtain ⟨m, m1, m2, m3, m4, m5⟩ := from_at (x := (lo + hi) / 2) ⟨by omega, by omega⟩
   obtain ⟨q, q1, q2, q3, q4, q5⟩ := prod_at hb m2 (by omega) (by omega)
   have c := cmp_at q2 hr (by omega) (by omega)
   have w1 : wrap64 (hi - lo) = hi - lo := wrap64_small (by omega) (by omega)
   have w2 : wrap64 (lo + hi) = lo + hi := wrap64_small (by clear w1; omega) (by clear w1; omega)
   have w3 : Int.tdiv (lo + hi) 2 = (lo + hi) / 2 := Int.tdiv_eq_ediv_of_nonneg (by clear w1 w2; omega)
   have w4 : wrap64 ((lo + hi) / 2) = (lo + hi) / 2 := wrap64_small (by clear w1 w2 w3; omega) (by clear w1 w2 w3; omega)
   have step : ∀ k, demurrageref01_Quot.l1 (k + 1) out (p : Int) lo hi a b r = (demurrageref01_From.f k ((lo + hi) / 2)).bind fun t => (demurrageref01_Prod.f k b t).bind fun u => (demurrageref01_Cmp.f k u r).bind fun v =>
     if v ≤ 0 then demurrageref01_Quot.l1 k out (p : Int) ((lo + hi) / 2) hi a b r else demurrageref01_Quot.l1 k out (p : Int) lo ((lo + hi) / 2) a b r := by
    intro k
    rw [demurrageref01_Quot.l1, w1, w2, w3, w4, if_pos hd]
   clear w1 w2 w3 w4
   by_cases hc : bv b * ((lo + hi) / 2) ≤ bv r
   ·obtain ⟨d, r', g1, g2, g3, g4, g5, g6, g7, g8⟩ := ih ((lo + hi) / 2) hi (by omega) (by omega) h2 (by omega) hc v2
    refine ⟨d, r', g1, g2, g3, g4, g5, g6, g7, fun R hR => ?_⟩
    refine At.succ step (At.bind m1 (At.bind q1 (At.bind c ?_)))
    have : bsg (bv q) (bv r) ≤ 0 := by
     rw [q3, m3]
     unfold bsg
     repeat' split
     all_goals omega
    obtain ⟨K, hK⟩ := g8 R hR
    exact ⟨K, fun k hk => (if_pos this).trans (hK k hk)⟩
   ·obtain ⟨d, r', g1, g2, g3, g4, g5, g6, g7, g8⟩ := ih lo ((lo + hi) / 2) h0 (by omega) (by omega) (by omega) v1 (by omega)
    refine ⟨d, r', g1, g2, g3, g4, g5, g6, g7, fun R hR => ?_⟩
    refine At.succ step (At.bind m1 (At.bind q1 (At.bind c ?_)))
    have : ¬ bsg (bv q) (bv r) ≤ 0 := by
     rw [q3, m3]
     unfold bsg
     repeat' split
     all_goals omega
    obtain ⟨K, hK⟩ := g8 R hR
    exact ⟨K, fun k hk => (if_neg this).trans (hK k hk)⟩
  ·obtain ⟨m, m1, m2, m3, m4, m5⟩ := from_at (x := lo) ⟨by omega, by omega⟩
   obtain ⟨q, q1, q2, q3, q4, q5⟩ := prod_at hb m2 (by omega) (by omega)
   obtain ⟨s, s1, s2, s3, s4, s5⟩ := less_at hr q2 (by omega) (by rw [q3, m3]; exact v1)
   have e : hi = lo + 1 := by omega
   subst e
   have e2 : bv b * (lo + 1) = bv b * lo + bv b := by rw [Int.mul_add, Int.mul_one]
   refine ⟨lo, s, h0, by omega, s2, s4, by rw [s3, q3, m3], by rw [s3, q3, m3]; omega, s5, fun R hR => ?_⟩
   have w1 : wrap64 (lo + 1 - lo) = lo + 1 - lo := wrap64_small (by omega) (by omega)
   have w2 : wrap64 ((p : Int) - 1) = (p : Int) - 1 := wrap64_small (by clear w1; omega) (by clear w1; omega)
   have c2 : (p : Int) < (out.length : Int) := Int.ofNat_lt.mpr hp
   have step : ∀ k, demurrageref01_Quot.l1 (k + 1) out (p : Int) lo (lo + 1) a b r = (demurrageref01_From.f k lo).bind fun t => (demurrageref01_Prod.f k b t).bind fun u => (demurrageref01_Less.f k r u).bind fun v =>
     demurrageref01_Quot.l0 k (out.set p lo) ((p : Int) - 1) a b v := by
    intro k
    rw [demurrageref01_Quot.l1, w1, w2, if_neg hd, if_pos (Int.natCast_nonneg p), if_pos c2, Int.toNat_natCast]
   clear w1 w2
   exact At.succ step (At.bind m1 (At.bind q1 (At.bind s1 hR)))
end Go.Proofs.YtbapgkopilmdfaaDoor.X

set_option maxRecDepth 10000
namespace Go.Proofs.YtbapgkopilmdfaaDoor.X
open Go.RowKit Go.Proofs.YtbapgkopilmdfaaDoorW.PrintWords Go.Proofs.YtbapgkopilmdfaaDoorW.PrintLast

theorem quot_loop {a b : List Int} (ha : Digs a) (hb : Digs b) (lb : b.length < 500000) (la : a.length < 200000) :
  ∀ (p : Nat) (out r : List Int), p ≤ a.length → Digs out → out.length = a.length → (∀ i, i < p → out.getD i 0 = 0) → Digs r → r.length + p < 400000 → Norm r → bv r < bv b →
  ∃ s r', At (fun k => demurrageref01_Quot.l0 k out ((p : Int) - 1) a b r) (s, r') ∧ Digs s ∧ Norm s ∧ s.length ≤ a.length ∧ Digs r' ∧ Norm r' ∧ r'.length < 400000 ∧ bv r' < bv b ∧
   bv s * bv b + bv r' = bv out * bv b + 10000 ^ p * bv r + bv (a.take p) := by
 intro p
 induction p with
 | zero =>
  intro out r _ ho lo _ hr lr nr hlt
  obtain ⟨t, t1, t2, t3, t4, t5⟩ := trim_eq ho (by omega)
  refine ⟨t, r, ⟨1, fun k hk => ?_⟩, t2, t4, by omega, hr, nr, by omega, hlt, by rw [t3]; simp [bv]⟩
  obtain ⟨k, rfl⟩ : ∃ j, k = j + 1 := ⟨k - 1, by omega⟩
  show demurrageref01_Quot.l0 (k + 1) out (((0 : Nat) : Int) - 1) a b r = _
  rw [demurrageref01_Quot.l0, if_neg (by omega), t1, Option.bind_some]
 | succ p ih =>
  intro out r hp ho lo hz hr lr nr hlt
  have dp := getD_digs ha p
  have dy : Digs (a.getD p 0 :: r) := digs_cons.mpr ⟨dp, hr⟩
  obtain ⟨t, t1, t2, t3, t4, t5⟩ := trim_eq dy (by simp; omega)
  have ly : (a.getD p 0 :: r).length = r.length + 1 := by simp
  have vt : bv t = a.getD p 0 + 10000 * bv r := by rw [t3, bv]
  have nb := bv_nonneg hr
  obtain ⟨d, r', g1, g2, g3, g4, g5, g6, g7, g8⟩ := quot_digit (a := a) (r := t) (out := out) (p := p) hb t2 lb (by omega) (by omega) (by omega) 10000 0 10000 (by omega) (by omega) (by omega) (by omega) (by rw [Int.mul_zero]; exact bv_nonneg t2) (by rw [vt]; omega)
  have zp : out.getD p 0 = 0 := hz p (by omega)
  obtain ⟨s, r2, i1, i2, i3, i4, i5, i6, i7, i8, i9⟩ := ih (out.set p d) r' (by omega) (digs_set ho _ ⟨g1, g2⟩) (by simpa using lo) (fun i hi => by
   rw [List.getD_eq_getElem?_getD, List.getElem?_set_ne (by omega), ← List.getD_eq_getElem?_getD]
   exact hz i (by omega)) g3 (by omega) g4 g6
  have e1 : (a.take p).length = p := by rw [List.length_take]; omega
  refine ⟨s, r2, ?_, i2, i3, i4, i5, i6, i7, i8, ?_⟩
  ·refine At.succ (g := fun k => demurrageref01_Quot.l1 k out (p : Int) 0 10000 a b t) (fun k => ?_) (g8 _ i1)
   have e : ((p + 1 : Nat) : Int) - 1 = (p : Int) := by omega
   have c1 : (p : Int) < (a.length : Int) := by omega
   show demurrageref01_Quot.l0 (k + 1) out (((p + 1 : Nat) : Int) - 1) a b r = _
   rw [e, demurrageref01_Quot.l0, if_pos (Int.natCast_nonneg p), if_pos (Int.natCast_nonneg p), if_pos c1, Option.bind_some, rd_nat, if_pos (by simp; omega)]
   rw [show [a.getD p 0] ++ r = a.getD p 0 :: r from rfl, t1, Option.bind_some]
  ·rw [i9, g5, vt, bv_set _ _ _ (by omega), zp, take_getD (by omega), bv_append, e1, Int.pow_succ]
   have e3 : bv [a.getD p 0] = a.getD p 0 := by simp [bv]
   rw [e3]
   generalize a.getD p 0 = x
   generalize (10000 : Int) ^ p = w
   simp only [Int.add_mul, Int.mul_add, Int.mul_sub, Int.sub_zero]
   have h1 : w * (bv b * d) = w * d * bv b := by rw [Int.mul_comm (bv b) d, Int.mul_assoc]
   have h2 : w * (10000 * bv r) = w * 10000 * bv r := by rw [Int.mul_assoc]
   rw [h1, h2]
   omega

theorem quot_at {a b : List Int} (ha : Digs a) (hb : Digs b) (lb : b.length < 500000) (la : a.length < 200000) (hp : 0 < bv b) :
  ∃ s r, At (fun k => demurrageref01_Quot.f k a b) (s, r) ∧ Digs s ∧ Norm s ∧ s.length ≤ a.length ∧ Digs r ∧ Norm r ∧ r.length < 400000 ∧ bv s = bv a / bv b ∧ bv r = bv a % bv b := by
 obtain ⟨s, r, i1, i2, i3, i4, i5, i6, i7, i8, i9⟩ := quot_loop ha hb lb la a.length (List.replicate a.length 0) [] (Nat.le_refl _) (digs_zeros _) (by simp) (fun i hi => by
  rw [List.getD_eq_getElem?_getD, List.getElem?_replicate, if_pos hi]; rfl) digs_nil (by rw [List.length_nil]; omega) norm_nil (by rw [bv]; omega)
 rw [bv_zeros, List.take_length, bv] at i9
 have n := bv_nonneg i5
 have e : bv a = bv r + bv s * bv b := by
  rw [Int.zero_mul, Int.mul_zero] at i9
  omega
 refine ⟨s, r, ?_, i2, i3, i4, i5, i6, i7, ?_, ?_⟩
 ·obtain ⟨K, h⟩ := i1
  refine ⟨K, fun k hk => ?_⟩
  have := h k hk
  show demurrageref01_Quot.f k a b = _
  unfold demurrageref01_Quot.f
  rw [if_pos (Int.natCast_nonneg _), Int.toNat_natCast, if_pos (by omega), wrap64_small (x := (a.length : Int) - 1) (by omega) (by omega)]
  exact this
 ·rw [e, Int.add_mul_ediv_right _ _ (by omega), Int.ediv_eq_zero_of_lt n i8]
  omega
 ·rw [e, Int.add_mul_emod_self_right, Int.emod_eq_of_lt n i8]
end Go.Proofs.YtbapgkopilmdfaaDoor.X

set_option maxRecDepth 10000
namespace Go.Proofs.YtbapgkopilmdfaaDoor.X
open Go.RowKit Go.Proofs.YtbapgkopilmdfaaDoor.Cal Go.Proofs.YtbapgkopilmdfaaDoorW.PrintWords Go.Proofs.YtbapgkopilmdfaaDoorW.PrintLast Go.Proofs.YtbapgkopilmdfaaDoorW.PrintMore

theorem tmod_nat {x d : Int} (h : 0 ≤ x) : Int.tmod x d = x % d := Int.tmod_eq_emod_of_nonneg h
theorem leap_eq {y : Int} (h : 0 ≤ y) : civil_Leap.f y = some (decide (Lp y)) := by
 unfold civil_Leap.f
 rw [tmod_nat h, tmod_nat h, tmod_nat h]
 by_cases c1 : y % 4 = 0
 ·rw [if_pos c1]
  by_cases c2 : y % 100 = 0
  ·rw [if_pos c2]
   by_cases c3 : y % 400 = 0
   ·rw [decide_eq_true (show Lp y from ⟨c1, Or.inr c3⟩), c3]
    rfl
   ·rw [decide_eq_false (fun h : Lp y => h.2.elim (fun x => x c2) c3), beq_eq_false_iff_ne.mpr c3]
  ·rw [if_neg c2, decide_eq_true (show Lp y from ⟨c1, Or.inl c2⟩)]
 ·rw [if_neg c1, decide_eq_false (fun h : Lp y => c1 h.1)]

def dim (y m : Int) : Int := if m = 2 then (if Lp y then 29 else 28) else lenv m
theorem dim_in (y m : Int) : 0 ≤ dim y m ∧ dim y m ≤ 31 := by
 have := lenv_in m
 unfold dim
 repeat' split
 all_goals omega
def cum (y : Int) : Nat → Int
 | 0 => 0
 | j + 1 => cum y j + dim y ((j : Int) + 1)
theorem cum_all (y : Int) : cum y 12 = len y := by
 unfold len
 by_cases c : Lp y
 ·rw [if_pos c]
  simp [cum, dim, lenv, c]
 ·rw [if_neg c]
  simp [cum, dim, lenv, c]

theorem length_eq {y m : Int} (h : 0 ≤ y) (h1 : 1 ≤ m) (h2 : m ≤ 12) : civil_Length.f y m = some (dim y m) := by
 unfold civil_Length.f dim
 rw [if_neg (by omega), if_neg (by omega)]
 by_cases c : m = 2
 ·rw [if_pos c, if_pos c, leap_eq h, Option.bind_some]
  by_cases l : Lp y
  ·rw [decide_eq_true l, if_pos rfl, if_pos l]
  ·rw [decide_eq_false l, if_neg (by decide), if_neg l]
 ·rw [if_neg c, if_neg c]

theorem civ_months {y : Int} (h0 : 0 ≤ y) : ∀ (d j : Nat), j + d = 12 → ∀ n : Int, 0 ≤ n → n < len y - cum y j → ∃ m e, At (fun k => civil_Of.l0 k y n ((j : Int) + 1)) (y, m, e, 0) := by
 intro d
 induction d with
 | zero =>
  intro j hj n hn hl
  obtain rfl : j = 12 := by omega
  rw [cum_all] at hl
  exact absurd hl (by omega)
 | succ d ih =>
  intro j hj n hn hl
  have ln := len_in y
  have di := dim_in y ((j : Int) + 1)
  have le := length_eq (y := y) (m := (j : Int) + 1) h0 (by omega) (by omega)
  by_cases c : n ≥ dim y ((j : Int) + 1)
  ·have cj : cum y (j + 1) = cum y j + dim y ((j : Int) + 1) := rfl
   have cn : 0 ≤ cum y j := by
    have : ∀ i : Nat, 0 ≤ cum y i := by
     intro i
     induction i with
     | zero => exact Int.le_refl _
     | succ i ih =>
      have : cum y (i + 1) = cum y i + dim y ((i : Int) + 1) := rfl
      have := dim_in y ((i : Int) + 1)
      omega
    exact this j
   obtain ⟨m, e, g⟩ := ih (j + 1) (by omega) (n - dim y ((j : Int) + 1)) (by omega) (by omega)
   refine ⟨m, e, At.succ (g := fun k => civil_Of.l0 k y (n - dim y ((j : Int) + 1)) (((j + 1 : Nat) : Int) + 1)) (fun k => ?_) g⟩
   have w1 : wrap64 (n - dim y ((j : Int) + 1)) = n - dim y ((j : Int) + 1) := wrap64_small (by omega) (by omega)
   have w2 : wrap64 ((j : Int) + 1 + 1) = ((j + 1 : Nat) : Int) + 1 := by
    clear w1
    rw [wrap64_small (by omega) (by omega)]
    omega
   rw [civil_Of.l0, le, Option.bind_some, if_pos c, w1, w2]
  ·refine ⟨(j : Int) + 1, wrap64 (n + 1), At.succ (g := fun _ => some (y, (j : Int) + 1, wrap64 (n + 1), 0)) (fun k => ?_) ⟨0, fun _ _ => rfl⟩⟩
   rw [civil_Of.l0, le, Option.bind_some, if_neg c]

theorem ofs_eq {d s m n y : Int} (hd : 0 < d) (hd1 : d ≤ 146097) (hs0 : 0 ≤ s) (hs : s ≤ 400) (hm : 0 ≤ m) (hm1 : m ≤ 24) (h0 : 0 ≤ n) (h1 : n ≤ 3652058) (y0 : 0 ≤ y) (y1 : y ≤ 100000) :
  ∃ q : Int, 0 ≤ q ∧ q ≤ m ∧ q * d ≤ n ∧ (n < (q + 1) * d ∨ q = m) ∧ ofs d s m (n, y) = (n - q * d, y + q * s) := by
 have e : Int.tdiv n d = n / d := Int.tdiv_eq_ediv_of_nonneg h0
 have l0 : 0 ≤ n / d := Int.ediv_nonneg h0 (by omega)
 have l1 : n / d * d ≤ n := Int.ediv_mul_le n (by omega)
 have l2 : n < (n / d + 1) * d := by
  have := Int.lt_ediv_add_one_mul_self n hd
  exact this
 have l3 : n / d ≤ n := Int.ediv_le_self d h0
 have w0 : wrap64 (n / d) = n / d := wrap64_small (by omega) (by omega)
 generalize n / d = t at *
 have key : ∀ q : Int, 0 ≤ q → q ≤ m → q * d ≤ n → q * d ≤ 24 * 146097 ∧ 0 ≤ q * d ∧ 0 ≤ q * s ∧ q * s ≤ 24 * 400 := by
  intro q q0 q1 q2
  refine ⟨?_, Int.mul_nonneg q0 (by omega), Int.mul_nonneg q0 hs0, ?_⟩
  ·exact Int.mul_le_mul (by omega) hd1 (by omega) (by omega)
  ·exact Int.mul_le_mul (by omega) hs hs0 (by omega)
 have fin : ∀ q : Int, mn t m = q → 0 ≤ q → q ≤ m → q * d ≤ n → ofs d s m (n, y) = (n - q * d, y + q * s) := by
  intro q hq q0 q1 q2
  obtain ⟨k1, k2, k3, k4⟩ := key q q0 q1 q2
  unfold ofs
  show (wrap64 (n - wrap64 (mn (wrap64 (Int.tdiv n d)) m * d)), wrap64 (y + wrap64 (mn (wrap64 (Int.tdiv n d)) m * s))) = _
  rw [e, w0, hq]
  clear w0 e
  generalize q * d = u at *
  generalize q * s = v at *
  have w1 : wrap64 u = u := wrap64_small (by omega) (by omega)
  have w2 : wrap64 v = v := by
   clear w1
   exact wrap64_small (by omega) (by omega)
  rw [w1, w2]
  clear w1 w2
  have w3 : wrap64 (n - u) = n - u := wrap64_small (by omega) (by omega)
  rw [w3]
  clear w3
  rw [wrap64_small (x := y + v) (by omega) (by omega)]
 by_cases c : m < t
 ·have hq : mn t m = m := by unfold mn; rw [if_pos c]
  have le : m * d ≤ n := by
   have : m * d ≤ t * d := Int.mul_le_mul_of_nonneg_right (by omega) (by omega)
   omega
  exact ⟨m, hm, Int.le_refl _, le, Or.inr rfl, fin m hq hm (Int.le_refl _) le⟩
 ·have hq : mn t m = t := by unfold mn; rw [if_neg c]
  exact ⟨t, l0, by omega, l1, Or.inl l2, fin t hq l0 (by omega) l1⟩

theorem ofn_eq {n : Int} (h0 : 0 ≤ n) (h1 : n ≤ 3652058) : ∃ y r : Int, ofn 0 (n, 1) = (r, y) ∧ 1 ≤ y ∧ r = n - A y ∧ 0 ≤ r ∧ r < len y := by
 obtain ⟨q1, a1, a2, a3, a4, a5⟩ := ofs_eq (d := 146097) (s := 400) (m := 24) (n := n) (y := 1) (by omega) (by omega) (by omega) (by omega) (by omega) (by omega) h0 h1 (by omega) (by omega)
 obtain ⟨q2, b1, b2, b3, b4, b5⟩ := ofs_eq (d := 36524) (s := 100) (m := 3) (n := n - q1 * 146097) (y := 1 + q1 * 400) (by omega) (by omega) (by omega) (by omega) (by omega) (by omega) (by omega) (by omega) (by omega) (by omega)
 obtain ⟨q3, c1, c2, c3, c4, c5⟩ := ofs_eq (d := 1461) (s := 4) (m := 24) (n := n - q1 * 146097 - q2 * 36524) (y := 1 + q1 * 400 + q2 * 100) (by omega) (by omega) (by omega) (by omega) (by omega) (by omega) (by omega) (by omega) (by omega) (by omega)
 obtain ⟨q4, d1, d2, d3, d4, d5⟩ := ofs_eq (d := 365) (s := 1) (m := 3) (n := n - q1 * 146097 - q2 * 36524 - q3 * 1461) (y := 1 + q1 * 400 + q2 * 100 + q3 * 4) (by omega) (by omega) (by omega) (by omega) (by omega) (by omega) (by omega) (by omega) (by omega) (by omega)
 have e : ofn 0 (n, 1) = (n - q1 * 146097 - q2 * 36524 - q3 * 1461 - q4 * 365, 1 + q1 * 400 + q2 * 100 + q3 * 4 + q4 * 1) := by
  show ofs 365 1 3 (ofs 1461 4 24 (ofs 36524 100 3 (ofs 146097 400 24 (n, 1)))) = _
  rw [a5, b5, c5, d5]
 clear a5 b5 c5 d5
 have f1 : n < (q1 + 1) * 146097 := by omega
 clear a4
 have f2 : n - q1 * 146097 < (q2 + 1) * 36524 ∨ q2 = 3 := b4
 have f3 : n - q1 * 146097 - q2 * 36524 < (q3 + 1) * 1461 := by omega
 clear c4
 have ea : A (1 + q1 * 400 + q2 * 100 + q3 * 4 + q4 * 1) = q1 * 146097 + q2 * 36524 + q3 * 1461 + q4 * 365 := by
  unfold A
  have s1 : (1 + q1 * 400 + q2 * 100 + q3 * 4 + q4 * 1 - 1) / 4 = q1 * 100 + q2 * 25 + q3 := by omega
  have s2 : (1 + q1 * 400 + q2 * 100 + q3 * 4 + q4 * 1 - 1) / 100 = q1 * 4 + q2 := by omega
  have s3 : (1 + q1 * 400 + q2 * 100 + q3 * 4 + q4 * 1 - 1) / 400 = q1 := by omega
  rw [s1, s2, s3]
  omega
 refine ⟨_, _, e, by omega, by rw [ea]; omega, by omega, ?_⟩
 have lq : len (1 + q1 * 400 + q2 * 100 + q3 * 4 + q4 * 1) = if Lp (1 + q1 * 400 + q2 * 100 + q3 * 4 + q4 * 1) then 366 else 365 := rfl
 rw [lq]
 by_cases t : n - q1 * 146097 - q2 * 36524 - q3 * 1461 - q4 * 365 < 365
 ·split <;> omega
 ·have g4 : q4 = 3 := by omega
  subst g4
  have lp : Lp (1 + q1 * 400 + q2 * 100 + q3 * 4 + 3 * 1) := by
   refine ⟨by omega, ?_⟩
   by_cases g3 : q3 = 24
   ·subst g3
    have g2 : q2 = 3 := by omega
    subst g2
    right
    omega
   ·left
    omega
  rw [if_pos lp]
  omega

theorem of_bad {n : Int} (h : ¬ (1 ≤ n ∧ n ≤ 3652059)) (k : Nat) : civil_Of.f k n = some (0, 0, 0, 3) := by
 unfold civil_Of.f
 by_cases c : n < 1
 ·rw [if_pos c]
 ·rw [if_neg c, if_pos (by omega)]
theorem of_at {n y : Int} (h : In n y) : ∃ m d, At (fun k => civil_Of.f k n) (y, m, d, 0) := by
 have dy := h.day
 obtain ⟨z, r, e, z1, hr, r0, rl⟩ := ofn_eq (n := n - 1) (by omega) (by omega)
 have s := A_succ z
 have inz : In n z := by
  refine ⟨z1, ?_, by omega, by omega⟩
  by_cases c : z ≤ 9999
  ·exact c
  ·have := A_mono (show (10000 : Int) ≤ z by omega)
   rw [A_end] at this
   omega
 obtain rfl := inz.one h
 obtain ⟨m, d, K, g⟩ := civ_months (y := z) (by omega) 12 0 rfl r r0 (by show r < len z - 0; omega)
 refine ⟨m, d, K, fun k hk => ?_⟩
 have g : civil_Of.l0 k z r 1 = some (z, m, d, 0) := g k hk
 show civil_Of.f k n = _
 unfold civil_Of.f
 rw [if_neg (by omega), if_neg (by omega), wrap64_small (x := n - 1) (by omega) (by omega), e]
 exact g

theorem number_at {y : Int} (h0 : 1 ≤ y) (h1 : y ≤ 9999) (k : Nat) : civil_Number.f (k + 1) y 1 1 = some (A y + 1, 0) := by
 have ab := A_bound h0 (show y ≤ 10000 by omega)
 have m : civil_May.f y 1 1 = some true := by
  unfold civil_May.f
  rw [if_pos h0, if_pos h1, if_pos (by decide), length_eq (by omega) (by decide) (by decide), Option.bind_some]
  rfl
 have e4 : Int.tdiv (y - 1) 4 = (y - 1) / 4 := Int.tdiv_eq_ediv_of_nonneg (by omega)
 have e1 : Int.tdiv (y - 1) 100 = (y - 1) / 100 := Int.tdiv_eq_ediv_of_nonneg (by omega)
 have e0 : Int.tdiv (y - 1) 400 = (y - 1) / 400 := Int.tdiv_eq_ediv_of_nonneg (by omega)
 have w : ∀ x : Int, -100000000 ≤ x → x ≤ 100000000 → wrap64 x = x := fun x a b => wrap64_small (by omega) (by omega)
 unfold civil_Number.f
 rw [m, Option.bind_some, if_pos rfl, w (y - 1) (by omega) (by omega), e4, e1, e0, w ((y - 1) / 4) (by omega) (by omega), w ((y - 1) / 100) (by omega) (by omega), w ((y - 1) / 400) (by omega) (by omega), w ((y - 1) * 365) (by omega) (by omega), w ((y - 1) * 365 + (y - 1) / 4) (by omega) (by omega), w ((y - 1) * 365 + (y - 1) / 4 - (y - 1) / 100) (by omega) (by omega), w ((y - 1) * 365 + (y - 1) / 4 - (y - 1) / 100 + (y - 1) / 400) (by omega) (by omega), w ((y - 1) * 365 + (y - 1) / 4 - (y - 1) / 100 + (y - 1) / 400 + 1) (by omega) (by omega),
  civil_Number.l0, if_neg (by decide)]
 congr 2
 unfold A
 omega
theorem ends_at {y : Int} (h0 : 1 ≤ y) (h1 : y ≤ 9999) (k : Nat) : actual_ends.f (k + 1) y = some (A y + 1, len y) := by
 unfold actual_ends.f
 rw [number_at h0 h1, Option.bind_some, leap_eq (by omega), Option.bind_some]
 unfold len
 by_cases l : Lp y
 ·rw [decide_eq_true l, if_pos rfl, if_pos l]
 ·rw [decide_eq_false l, if_neg (by decide), if_neg l]
end Go.Proofs.YtbapgkopilmdfaaDoor.X

set_option maxRecDepth 10000
namespace Go.Proofs.YtbapgkopilmdfaaDoor.X
open Go.RowKit Go.Proofs.YtbapgkopilmdfaaDoor.Cal Go.Proofs.YtbapgkopilmdfaaDoorW.PrintWords Go.Proofs.YtbapgkopilmdfaaDoorW.PrintLast Go.Proofs.YtbapgkopilmdfaaDoorW.PrintMore

theorem refleap_eq {y : Int} (h : 0 ≤ y) : demurrageref04_Leap.f y = some (decide (Lp y)) := by
 unfold demurrageref04_Leap.f
 rw [tmod_nat h, tmod_nat h, tmod_nat h]
 by_cases c3 : y % 400 = 0
 ·rw [if_pos c3, decide_eq_true (show Lp y from ⟨by omega, Or.inr c3⟩)]
 ·rw [if_neg c3]
  by_cases c1 : y % 4 = 0
  ·rw [if_pos c1]
   by_cases c2 : y % 100 = 0
   ·rw [decide_eq_false (fun h : Lp y => h.2.elim (fun x => x c2) c3), c2]
    rfl
   ·rw [decide_eq_true (show Lp y from ⟨c1, Or.inl c2⟩), bne_iff_ne.mpr c2]
  ·rw [if_neg c1, decide_eq_false (fun h : Lp y => c1 h.1)]

theorem reflen_eq {y m : Int} (h : 0 ≤ y) (h1 : 1 ≤ m) (h2 : m ≤ 12) (k : Nat) : demurrageref04_Length.f (k + 2) y m = some (dim y m) := by
 have c : m = 1 ∨ m = 2 ∨ m = 3 ∨ m = 4 ∨ m = 5 ∨ m = 6 ∨ m = 7 ∨ m = 8 ∨ m = 9 ∨ m = 10 ∨ m = 11 ∨ m = 12 := by omega
 rcases c with rfl | rfl | rfl | rfl | rfl | rfl | rfl | rfl | rfl | rfl | rfl | rfl
 ·rfl
 ·show ((demurrageref04_Leap.f y).bind fun t => if t = true then some 29 else some 28) = some (if Lp y then 29 else 28)
  rw [refleap_eq h, Option.bind_some]
  by_cases l : Lp y
  ·rw [decide_eq_true l, if_pos rfl, if_pos l]
  ·rw [decide_eq_false l, if_neg (by decide), if_neg l]
 all_goals rfl

theorem ahead_loop : ∀ (d : Nat) (y j : Int) (k : Nat), j + d = y → 1 ≤ j → y ≤ 10000 → d + 1 ≤ k → demurrageref04_ahead.l0 k y (A j) j = some (A y) := by
 intro d
 induction d with
 | zero =>
  intro y j k h _ _ hk
  obtain ⟨q, rfl⟩ : ∃ q, k = q + 1 := ⟨k - 1, by omega⟩
  obtain rfl : j = y := by omega
  rw [demurrageref04_ahead.l0, if_neg (by omega)]
 | succ d ih =>
  intro y j k h h1 h2 hk
  obtain ⟨q, rfl⟩ : ∃ q, k = q + 1 := ⟨k - 1, by omega⟩
  have ab := A_bound h1 (show j ≤ 10000 by omega)
  have s := A_succ j
  have g := ih y (j + 1) q (by omega) (by omega) h2 (by omega)
  have w1 : wrap64 (A j + 365) = A j + 365 := wrap64_small (by omega) (by omega)
  have w2 : wrap64 (A j + 365 + 1) = A j + 366 := by
   clear w1
   rw [wrap64_small (by omega) (by omega)]
   omega
  have w3 : wrap64 (j + 1) = j + 1 := by
   clear w1 w2
   exact wrap64_small (by omega) (by omega)
  rw [demurrageref04_ahead.l0, if_pos (by clear w1 w2 w3; omega), refleap_eq (by clear w1 w2 w3; omega), Option.bind_some, w1, w2, w3]
  clear w1 w2 w3
  unfold len at s
  by_cases l : Lp j
  ·rw [decide_eq_true l, if_pos rfl]
   rw [if_pos l] at s
   rw [s] at g
   exact g
  ·rw [decide_eq_false l, if_neg (by decide)]
   rw [if_neg l] at s
   rw [s] at g
   exact g
theorem ahead_at {y : Int} (h0 : 1 ≤ y) (h1 : y ≤ 10000) {k : Nat} (hk : 401 ≤ k) : demurrageref04_ahead.f k y = some (A y) := by
 unfold demurrageref04_ahead.f
 have e : Int.tdiv (y - 1) 400 = (y - 1) / 400 := Int.tdiv_eq_ediv_of_nonneg (by omega)
 have w : ∀ x : Int, -100000000 ≤ x → x ≤ 100000000 → wrap64 x = x := fun x a b => wrap64_small (by omega) (by omega)
 rw [w (y - 1) (by omega) (by omega), e, w ((y - 1) / 400) (by omega) (by omega), w (146097 * ((y - 1) / 400)) (by omega) (by omega), w (400 * ((y - 1) / 400)) (by omega) (by omega), w (400 * ((y - 1) / 400) + 1) (by omega) (by omega)]
 clear w e
 have a : 146097 * ((y - 1) / 400) = A (400 * ((y - 1) / 400) + 1) := by
  unfold A
  omega
 rw [a]
 exact ahead_loop (y - (400 * ((y - 1) / 400) + 1)).toNat y _ k (by omega) (by omega) h1 (by omega)

theorem ref_months {y : Int} (h0 : 0 ≤ y) : ∀ (d j : Nat), j + d = 12 → ∀ n : Int, 1 ≤ n → n ≤ len y - cum y j → ∃ m e, At (fun k => demurrageref04_Of.l1 k y n ((j : Int) + 1)) (y, m, e, 0) := by
 intro d
 induction d with
 | zero =>
  intro j hj n hn hl
  obtain rfl : j = 12 := by omega
  rw [cum_all] at hl
  exact absurd hl (by omega)
 | succ d ih =>
  intro j hj n hn hl
  have ln := len_in y
  have di := dim_in y ((j : Int) + 1)
  have cn : 0 ≤ cum y j := by
   have : ∀ i : Nat, 0 ≤ cum y i := by
    intro i
    induction i with
    | zero => exact Int.le_refl _
    | succ i ih =>
     have : cum y (i + 1) = cum y i + dim y ((i : Int) + 1) := rfl
     have := dim_in y ((i : Int) + 1)
     omega
   exact this j
  have le : ∀ k, demurrageref04_Length.f (k + 2) y ((j : Int) + 1) = some (dim y ((j : Int) + 1)) := fun k => reflen_eq h0 (by omega) (by omega) k
  by_cases c : n > dim y ((j : Int) + 1)
  ·have cj : cum y (j + 1) = cum y j + dim y ((j : Int) + 1) := rfl
   obtain ⟨m, e, K, g⟩ := ih (j + 1) (by omega) (n - dim y ((j : Int) + 1)) (by omega) (by omega)
   refine ⟨m, e, K + 3, fun k hk => ?_⟩
   obtain ⟨q, rfl⟩ : ∃ q, k = q + 3 := ⟨k - 3, by omega⟩
   have g : demurrageref04_Of.l1 (q + 2) y (n - dim y ((j : Int) + 1)) (((j + 1 : Nat) : Int) + 1) = some (y, m, e, 0) := g _ (by omega)
   have w1 : wrap64 (n - dim y ((j : Int) + 1)) = n - dim y ((j : Int) + 1) := wrap64_small (by omega) (by omega)
   have w2 : wrap64 ((j : Int) + 1 + 1) = ((j + 1 : Nat) : Int) + 1 := by
    clear w1
    rw [wrap64_small (by omega) (by omega)]
    omega
   show demurrageref04_Of.l1 (q + 2 + 1) y n ((j : Int) + 1) = _
   rw [demurrageref04_Of.l1, le q, Option.bind_some, if_pos c, Option.bind_some, w1, w2]
   exact g
  ·refine ⟨(j : Int) + 1, n, 3, fun k hk => ?_⟩
   obtain ⟨q, rfl⟩ : ∃ q, k = q + 3 := ⟨k - 3, by omega⟩
   show demurrageref04_Of.l1 (q + 2 + 1) y n ((j : Int) + 1) = _
   rw [demurrageref04_Of.l1, le q, Option.bind_some, if_neg c]

theorem halves {n y : Int} (h : In n y) : ∀ (d : Nat) (lo hi : Int), hi - lo ≤ d → 1 ≤ lo → lo < hi → hi ≤ 10000 → A lo < n → n ≤ A hi → ∃ m e, At (fun k => demurrageref04_Of.l0 k n lo hi) (y, m, e, 0) := by
 intro d
 induction d with
 | zero =>
  intro lo hi a b c
  exact absurd c (by omega)
 | succ d ih =>
  intro lo hi a b c u x z
  have w0 : wrap64 (hi - lo) = hi - lo := wrap64_small (by omega) (by omega)
  by_cases t : hi - lo > 1
  ·have e : Int.tdiv (lo + hi) 2 = (lo + hi) / 2 := Int.tdiv_eq_ediv_of_nonneg (by clear w0; omega)
   have w1 : wrap64 (lo + hi) = lo + hi := by
    clear w0
    exact wrap64_small (by omega) (by omega)
   have w2 : wrap64 ((lo + hi) / 2) = (lo + hi) / 2 := by
    clear w0 w1
    exact wrap64_small (by omega) (by omega)
   by_cases g : A ((lo + hi) / 2) < n
   ·obtain ⟨m, f, K, r⟩ := ih ((lo + hi) / 2) hi (by clear w0 w1 w2; omega) (by clear w0 w1 w2; omega) (by clear w0 w1 w2; omega) u g z
    refine ⟨m, f, K + 402, fun k hk => ?_⟩
    obtain ⟨q, rfl⟩ : ∃ q, k = q + 1 := ⟨k - 1, by clear w0 w1 w2; omega⟩
    have r : demurrageref04_Of.l0 q n ((lo + hi) / 2) hi = some (y, m, f, 0) := r q (by clear w0 w1 w2; omega)
    show demurrageref04_Of.l0 (q + 1) n lo hi = _
    rw [demurrageref04_Of.l0, w0, if_pos t, w1, e, w2, ahead_at (by clear w0 w1 w2; omega) (by clear w0 w1 w2; omega) (by clear w0 w1 w2; omega), Option.bind_some, if_pos g]
    exact r
   ·obtain ⟨m, f, K, r⟩ := ih lo ((lo + hi) / 2) (by clear w0 w1 w2; omega) b (by clear w0 w1 w2; omega) (by clear w0 w1 w2; omega) x (by clear w0 w1 w2; omega)
    refine ⟨m, f, K + 402, fun k hk => ?_⟩
    obtain ⟨q, rfl⟩ : ∃ q, k = q + 1 := ⟨k - 1, by clear w0 w1 w2; omega⟩
    have r : demurrageref04_Of.l0 q n lo ((lo + hi) / 2) = some (y, m, f, 0) := r q (by clear w0 w1 w2; omega)
    show demurrageref04_Of.l0 (q + 1) n lo hi = _
    rw [demurrageref04_Of.l0, w0, if_pos t, w1, e, w2, ahead_at (by clear w0 w1 w2; omega) (by clear w0 w1 w2; omega) (by clear w0 w1 w2; omega), Option.bind_some, if_neg g]
    exact r
  ·obtain rfl : hi = lo + 1 := by clear w0; omega
   have i : In n lo := ⟨b, by clear w0; omega, x, z⟩
   obtain rfl := h.one i
   have s := A_succ y
   have ab := A_bound b (show y ≤ 10000 by clear w0; omega)
   have dy := h.day
   obtain ⟨m, f, K, r⟩ := ref_months (y := y) (by clear w0; omega) 12 0 rfl (n - A y) (by clear w0; omega) (by show n - A y ≤ len y - 0; clear w0; omega)
   refine ⟨m, f, K + 402, fun k hk => ?_⟩
   obtain ⟨q, rfl⟩ : ∃ q, k = q + 1 := ⟨k - 1, by clear w0; omega⟩
   have r : demurrageref04_Of.l1 q y (n - A y) 1 = some (y, m, f, 0) := r q (by clear w0; omega)
   have w1 : wrap64 (n - A y) = n - A y := by
    clear w0
    exact wrap64_small (by omega) (by omega)
   show demurrageref04_Of.l0 (q + 1) n y (y + 1) = _
   rw [demurrageref04_Of.l0, w0, if_neg t, ahead_at b (by clear w0 w1; omega) (by clear w0 w1; omega), Option.bind_some, w1]
   exact r
theorem refof_at {n y : Int} (h : In n y) : ∃ m d, At (fun k => demurrageref04_Of.f k n) (y, m, d, 0) := by
 have dy := h.day
 obtain ⟨m, d, K, g⟩ := halves h 9999 1 10000 (by omega) (by omega) (by omega) (by omega) (by rw [A_one]; omega) (by rw [A_end]; omega)
 refine ⟨m, d, K + 1, fun k hk => ?_⟩
 obtain ⟨q, rfl⟩ : ∃ q, k = q + 1 := ⟨k - 1, by omega⟩
 have g : demurrageref04_Of.l0 q n 1 10000 = some (y, m, d, 0) := g q (by omega)
 show demurrageref04_Of.f (q + 1) n = _
 unfold demurrageref04_Of.f
 rw [if_neg (by omega), decide_eq_false (by omega), demurrageref04_Of.j0, if_neg (by decide)]
 exact g

def codev (a b : Int) : Int := if 1 ≤ a ∧ a ≤ 3652059 ∧ 1 ≤ b ∧ b ≤ 3652059 then (if a > b then 4 else 0) else 3
theorem codev_in {a b : Int} (c : 1 ≤ a ∧ a ≤ 3652059) (d : 1 ≤ b ∧ b ≤ 3652059) : codev a b = if a > b then 4 else 0 := if_pos ⟨c.1, c.2, d⟩
theorem codev_a {a b : Int} (c : ¬ (1 ≤ a ∧ a ≤ 3652059)) : codev a b = 3 := if_neg (fun h => c ⟨h.1, h.2.1⟩)
theorem codev_b {a b : Int} (d : ¬ (1 ≤ b ∧ b ≤ 3652059)) : codev a b = 3 := if_neg (fun h => d ⟨h.2.2.1, h.2.2.2⟩)
theorem refday_eq (a : Int) : demurrageref04_Day.f a = some (decide (1 ≤ a ∧ a ≤ 3652059)) := by
 unfold demurrageref04_Day.f
 by_cases c : a ≥ 1
 ·rw [if_pos c]
  congr 1
  rw [decide_eq_decide]
  omega
 ·rw [if_neg c, decide_eq_false (by omega)]
theorem check_at (a b : Int) : At (fun k => actual_check.f k a b) (codev a b) := by
 have one : ∀ n : Int, ∃ x : Int × Int × Int × Int, At (fun k => civil_Of.f k n) x ∧ (x.2.2.2 = if 1 ≤ n ∧ n ≤ 3652059 then 0 else 3) := by
  intro n
  by_cases c : 1 ≤ n ∧ n ≤ 3652059
  ·obtain ⟨y, hy⟩ := In.exists c.1 c.2
   obtain ⟨m, d, g⟩ := of_at hy
   exact ⟨_, g, by rw [if_pos c]⟩
  ·exact ⟨_, ⟨0, fun k _ => of_bad c k⟩, by rw [if_neg c]⟩
 obtain ⟨x, ⟨K, hx⟩, ex⟩ := one a
 obtain ⟨z, ⟨M, hz⟩, ez⟩ := one b
 refine ⟨K + M, fun k hk => ?_⟩
 have hx : civil_Of.f k a = some x := hx k (by omega)
 have hz : civil_Of.f k b = some z := hz k (by omega)
 show actual_check.f k a b = _
 unfold actual_check.f
 rw [hx, Option.bind_some, hz, Option.bind_some, ex, ez]
 by_cases c : 1 ≤ a ∧ a ≤ 3652059
 ·rw [if_pos c, if_pos rfl]
  by_cases d : 1 ≤ b ∧ b ≤ 3652059
  ·rw [if_pos d, if_pos rfl, codev_in c d]
   split <;> rfl
  ·rw [if_neg d, if_neg (by decide), codev_b d]
 ·rw [if_neg c, if_neg (by decide), codev_a c]
end Go.Proofs.YtbapgkopilmdfaaDoor.X

namespace Go.Proofs.YtbapgkopilmdfaaDoor.Frac

theorem same {n d m e : Nat} (h : n * e = m * d) (h1 : n.gcd d = 1) (h2 : m.gcd e = 1) (he : 0 < e) : n = m ∧ d = e := by
 have c1 : Nat.Coprime n d := h1
 have c2 : Nat.Coprime m e := h2
 have d1 : d ∣ e := c1.symm.dvd_of_dvd_mul_left (show d ∣ n * e from ⟨m, by rw [h, Nat.mul_comm]⟩)
 have d2 : e ∣ d := c2.symm.dvd_of_dvd_mul_left (show e ∣ m * d from ⟨n, by rw [← h, Nat.mul_comm]⟩)
 have e1 : d = e := Nat.dvd_antisymm d1 d2
 subst e1
 exact ⟨Nat.eq_of_mul_eq_mul_right he h, rfl⟩

theorem new {n d : Nat} (hd : 0 < d) : (n / n.gcd d).gcd (d / n.gcd d) = 1 ∧ n / n.gcd d * d = n * (d / n.gcd d) ∧ 0 < d / n.gcd d := by
 have gp : 0 < n.gcd d := Nat.gcd_pos_of_pos_right n hd
 obtain ⟨x, hx⟩ := Nat.gcd_dvd_left n d
 obtain ⟨y, hy⟩ := Nat.gcd_dvd_right n d
 refine ⟨Nat.coprime_div_gcd_div_gcd gp, ?_, Nat.div_pos (Nat.le_of_dvd hd (Nat.gcd_dvd_right n d)) gp⟩
 generalize n.gcd d = g at *
 subst hx
 subst hy
 rw [Nat.mul_div_cancel_left _ gp, Nat.mul_div_cancel_left _ gp]
 simp only [Nat.mul_comm, Nat.mul_left_comm]

def up (a b c d : Nat) : Nat := a * (d / b.gcd d) + c * (b / b.gcd d)

theorem add {a b c d : Nat} (hb : 0 < b) (hd : 0 < d) (h1 : a.gcd b = 1) (h2 : c.gcd d = 1) :
  (up a b c d / (up a b c d).gcd (b.gcd d)).gcd (b / b.gcd d * (d / (up a b c d).gcd (b.gcd d))) = 1 ∧
  up a b c d / (up a b c d).gcd (b.gcd d) * (b * d) = (a * d + c * b) * (b / b.gcd d * (d / (up a b c d).gcd (b.gcd d))) ∧ 0 < b / b.gcd d * (d / (up a b c d).gcd (b.gcd d)) := by
 have gp : 0 < b.gcd d := Nat.gcd_pos_of_pos_right b hd
 have c1 : Nat.Coprime a b := h1
 have c2 : Nat.Coprime c d := h2
 have gb := Nat.gcd_dvd_left b d
 have gd := Nat.gcd_dvd_right b d
 have x := Nat.coprime_div_gcd_div_gcd gp
 have p1 : Nat.Coprime a (b / b.gcd d) := Nat.Coprime.coprime_dvd_right (Nat.div_dvd_of_dvd gb) c1
 have p2 : Nat.Coprime c (d / b.gcd d) := Nat.Coprime.coprime_dvd_right (Nat.div_dvd_of_dvd gd) c2
 unfold up
 generalize b.gcd d = g at *
 obtain ⟨b', rfl⟩ := gb
 obtain ⟨d', rfl⟩ := gd
 rw [Nat.mul_div_cancel_left _ gp] at *
 rw [Nat.mul_div_cancel_left _ gp] at *
 have n1 : Nat.Coprime (a * d' + c * b') b' := by
  show (a * d' + c * b').gcd b' = 1
  rw [Nat.gcd_add_mul_right_left]
  exact Nat.Coprime.mul_left p1 x.symm
 have n2 : Nat.Coprime (a * d' + c * b') d' := by
  show (a * d' + c * b').gcd d' = 1
  rw [Nat.gcd_mul_right_add_left]
  exact Nat.Coprime.mul_left p2 x
 have e : a * (g * d') + c * (g * b') = g * (a * d' + c * b') := by
  rw [Nat.mul_add]
  simp only [Nat.mul_left_comm]
 rw [e]
 generalize a * d' + c * b' = n at *
 have kp : 0 < n.gcd g := Nat.gcd_pos_of_pos_right n gp
 have y := Nat.coprime_div_gcd_div_gcd kp
 have kn := Nat.gcd_dvd_left n g
 have kg := Nat.gcd_dvd_right n g
 generalize n.gcd g = k at *
 obtain ⟨n', rfl⟩ := kn
 obtain ⟨g', rfl⟩ := kg
 rw [Nat.mul_div_cancel_left _ kp] at *
 rw [Nat.mul_div_cancel_left _ kp] at y
 have e3 : k * g' * d' / k = g' * d' := by rw [Nat.mul_assoc, Nat.mul_div_cancel_left _ kp]
 rw [e3]
 refine ⟨Nat.Coprime.mul_right (Nat.Coprime.coprime_dvd_left ⟨k, Nat.mul_comm _ _⟩ n1) (Nat.Coprime.mul_right y (Nat.Coprime.coprime_dvd_left ⟨k, Nat.mul_comm _ _⟩ n2)), ?_, ?_⟩
 ·simp only [Nat.mul_comm, Nat.mul_left_comm]
 ·have z1 : 0 < b' := Nat.pos_of_mul_pos_left hb
  have z2 : 0 < d' := Nat.pos_of_mul_pos_left hd
  have z3 : 0 < g' := Nat.pos_of_mul_pos_left gp
  exact Nat.mul_pos z1 (Nat.mul_pos z3 z2)
end Go.Proofs.YtbapgkopilmdfaaDoor.Frac

set_option maxRecDepth 10000
namespace Go.Proofs.YtbapgkopilmdfaaDoor.X
open Go.RowKit Go.Proofs.YtbapgkopilmdfaaDoorW.PrintWords Go.Proofs.YtbapgkopilmdfaaDoorW.PrintLast

theorem gcdn (x y : Nat) (hx : (x : Int) ≤ 18446744073709551615) (hy : (y : Int) ≤ 18446744073709551615) : ratio_Gcd.f x y = some (Nat.gcd x y : Int) := by
 have ux : U64 (x : Int) := ⟨Int.natCast_nonneg x, by omega⟩
 have uy : U64 (y : Int) := ⟨Int.natCast_nonneg y, by omega⟩
 unfold ratio_Gcd.f
 rw [if_pos ⟨ux, uy⟩, Int.toNat_natCast, Int.toNat_natCast]

theorem quo (x g : Nat) (hx : (x : Int) ≤ 18446744073709551615) : IntKind.u64.wrap (Int.tdiv (x : Int) (g : Int)) = ((x / g : Nat) : Int) := by
 have l1 : ((x / g : Nat) : Int) ≤ x := Int.ofNat_le.mpr (Nat.div_le_self x g)
 have e : Int.tdiv (x : Int) (g : Int) = ((x / g : Nat) : Int) := by rw [← Int.ofNat_tdiv]
 rw [e]
 generalize x / g = u at l1
 exact IntWalk.u64_in (u : Int) ⟨Int.natCast_nonneg u, by omega⟩

theorem nat_u64 {x : Nat} (h : x ≤ 9223372036854775807) : U64 (x : Int) := ⟨Int.natCast_nonneg x, by omega⟩
theorem nat_wrap {x : Nat} (h : x ≤ 9223372036854775807) : IntKind.u64.wrap (x : Int) = x := IntWalk.u64_in _ ⟨Int.natCast_nonneg x, by omega⟩

theorem most_lt {n : Int} : (if n < 4611686018427387904 then (-1 : Int) else if n = 4611686018427387904 then 0 else 1) > 0 ↔ ¬ n ≤ 4611686018427387904 := by
 repeat' split
 all_goals omega

theorem told_eq {n d : Int} (n0 : 0 ≤ n) (n1 : n < 340282366920938463463374607431768211456) (d0 : 0 ≤ d) (d1 : d < 340282366920938463463374607431768211456) :
  ratio_told.f (n / 18446744073709551616) (n % 18446744073709551616) (d / 18446744073709551616) (d % 18446744073709551616) = some (if n ≤ 4611686018427387904 ∧ d ≤ 4611686018427387904 then (n, d, 0) else (0, 0, 6)) := by
 obtain ⟨p1, p2, p3⟩ := wv_parts n0 n1
 obtain ⟨q1, q2, q3⟩ := wv_parts d0 d1
 have e : wv 0 4611686018427387904 = 4611686018427387904 := by unfold wv; omega
 unfold ratio_told.f
 rw [of_eq]
 simp only [Option.bind_some]
 rw [wcmp_eq p1 p2 (by decide) (by decide), wcmp_eq q1 q2 (by decide) (by decide), p3, q3, e]
 simp only [Option.bind_some]
 by_cases h1 : n ≤ 4611686018427387904
 ·rw [if_neg (fun h => most_lt.mp h h1)]
  by_cases h2 : d ≤ 4611686018427387904
  ·rw [if_neg (fun h => most_lt.mp h h2), if_pos ⟨h1, h2⟩, IntWalk.wrap64_in _ ⟨by omega, by omega⟩, IntWalk.wrap64_in _ ⟨by omega, by omega⟩]
   have e1 : n % 18446744073709551616 = n := by omega
   have e2 : d % 18446744073709551616 = d := by omega
   rw [e1, e2]
  ·rw [if_neg (fun h : _ ∧ _ => h2 h.2), if_pos (most_lt.mpr h2)]
 ·rw [if_neg (fun h : _ ∧ _ => h1 h.1), if_pos (most_lt.mpr h1)]

def made (n d : Nat) : Int × Int × Int := if (n : Int) ≤ 4611686018427387904 ∧ (d : Int) ≤ 4611686018427387904 then ((n : Int), (d : Int), 0) else (0, 0, 6)

theorem made_eq {n d : Nat} (hn : n ≤ 85070591730234615847396907784232501249) (hd : d ≤ 85070591730234615847396907784232501249) :
  ratio_told.f ((n : Int) / 18446744073709551616) ((n : Int) % 18446744073709551616) ((d : Int) / 18446744073709551616) ((d : Int) % 18446744073709551616) = some (made n d) :=
 told_eq (Int.natCast_nonneg n) (by omega) (Int.natCast_nonneg d) (by omega)

theorem prod_le {x y : Nat} (hx : x ≤ 9223372036854775807) (hy : y ≤ 9223372036854775807) : x * y ≤ 85070591730234615847396907784232501249 := Nat.mul_le_mul hx hy

theorem muln {x y : Nat} (hx : x ≤ 9223372036854775807) (hy : y ≤ 9223372036854775807) : wide_Mul.f (x : Int) (y : Int) = some (((x * y : Nat) : Int) / 18446744073709551616, ((x * y : Nat) : Int) % 18446744073709551616) := by
 rw [mul_eq (nat_u64 hx) (nat_u64 hy), Int.natCast_mul]

theorem mulx {x y : Nat} (hx : x ≤ 9223372036854775807) (hy : y ≤ 9223372036854775807) : ∃ p q, wide_Mul.f (x : Int) (y : Int) = some (p, q) ∧ U64 p ∧ U64 q ∧ wv p q = ((x * y : Nat) : Int) := by
 have h := prod_le hx hy
 obtain ⟨p1, p2, p3⟩ := wv_parts (x := ((x * y : Nat) : Int)) (Int.natCast_nonneg _) (by omega)
 exact ⟨_, _, muln hx hy, p1, p2, p3⟩
theorem addx {a b c d : Int} {n : Nat} (ha : U64 a) (hb : U64 b) (hc : U64 c) (hd : U64 d) (e : wv a b + wv c d = n) (hn : n ≤ 170141183460469231731687303715884105727) :
  ∃ p q, wide_Add.f a b c d = some (p, q, 0) ∧ U64 p ∧ U64 q ∧ wv p q = (n : Int) := by
 obtain ⟨p1, p2, p3⟩ := wv_parts (x := (n : Int)) (Int.natCast_nonneg _) (by omega)
 refine ⟨_, _, ?_, p1, p2, p3⟩
 rw [add_eq ha hb hc hd, e, if_pos (by omega)]
theorem divx {a b : Int} {n g : Nat} (ha : U64 a) (hb : U64 b) (e : wv a b = n) (hg : g ≤ 9223372036854775807) (g0 : 0 < g) :
  ∃ p q, wide_Div.f a b g = some (p, q, ((n % g : Nat) : Int), 0) ∧ U64 p ∧ U64 q ∧ wv p q = ((n / g : Nat) : Int) := by
 have l := wv_lt ha hb
 rw [e] at l
 have l4 := Nat.div_le_self n g
 obtain ⟨p1, p2, p3⟩ := wv_parts (x := ((n / g : Nat) : Int)) (Int.natCast_nonneg _) (by omega)
 refine ⟨_, _, ?_, p1, p2, p3⟩
 rw [div_eq ha hb (nat_u64 hg) (by omega), e, Int.natCast_emod, Int.natCast_ediv]
theorem toldx {a b c d : Int} {n m : Nat} (ha : U64 a) (hb : U64 b) (hc : U64 c) (hd : U64 d) (e : wv a b = n) (f : wv c d = m) : ratio_told.f a b c d = some (made n m) := by
 have l1 := wv_lt ha hb
 have l2 := wv_lt hc hd
 have h := told_eq l1.1 l1.2 l2.1 l2.2
 have a1 : wv a b / 18446744073709551616 = a ∧ wv a b % 18446744073709551616 = b := by
  obtain ⟨p1, p2⟩ := ha
  obtain ⟨p3, p4⟩ := hb
  unfold wv
  omega
 have a2 : wv c d / 18446744073709551616 = c ∧ wv c d % 18446744073709551616 = d := by
  obtain ⟨p1, p2⟩ := hc
  obtain ⟨p3, p4⟩ := hd
  unfold wv
  omega
 rw [a1.1, a1.2, a2.1, a2.2, e, f] at h
 exact h

theorem radd_eq {a b c d : Nat} (ha : a ≤ 4611686018427387904) (hb : b ≤ 4611686018427387904) (hc : c ≤ 4611686018427387904) (hd : d ≤ 4611686018427387904) (b0 : 0 < b) (d0 : 0 < d) :
  ratio_Add.f a b c d = some (made (Frac.up a b c d / (Frac.up a b c d).gcd (b.gcd d)) (b / b.gcd d * (d / (Frac.up a b c d).gcd (b.gcd d)))) := by
 have gp : 0 < b.gcd d := Nat.gcd_pos_of_pos_right b d0
 have gl : b.gcd d ≤ b := Nat.le_of_dvd b0 (Nat.gcd_dvd_left b d)
 have kp : 0 < (Frac.up a b c d).gcd (b.gcd d) := Nat.gcd_pos_of_pos_right _ gp
 have kl : (Frac.up a b c d).gcd (b.gcd d) ≤ b.gcd d := Nat.le_of_dvd gp (Nat.gcd_dvd_right _ _)
 have lb := Nat.div_le_self b (b.gcd d)
 have ld := Nat.div_le_self d (b.gcd d)
 have ld2 := Nat.div_le_self d ((Frac.up a b c d).gcd (b.gcd d))
 have p1 : a * (d / b.gcd d) ≤ 21267647932558653966460912964485513216 := Nat.mul_le_mul ha (Nat.le_trans ld hd)
 have p2 : c * (b / b.gcd d) ≤ 21267647932558653966460912964485513216 := Nat.mul_le_mul hc (Nat.le_trans lb hb)
 have p3 : Frac.up a b c d ≤ 42535295865117307932921825928971026432 := by unfold Frac.up; omega
 obtain ⟨x1, x2, ex, ux1, ux2, vx⟩ := mulx (x := a) (y := d / b.gcd d) (by omega) (by omega)
 obtain ⟨y1, y2, ey, uy1, uy2, vy⟩ := mulx (x := c) (y := b / b.gcd d) (by omega) (by omega)
 obtain ⟨s1, s2, es, us1, us2, vs⟩ := addx (n := Frac.up a b c d) ux1 ux2 uy1 uy2 (by rw [vx, vy]; unfold Frac.up; omega) (by omega)
 obtain ⟨q1, q2, eq, uq1, uq2, vq⟩ := divx us1 us2 vs (g := b.gcd d) (by omega) gp
 obtain ⟨r1, r2, er, ur1, ur2, vr⟩ := divx us1 us2 vs (g := (Frac.up a b c d).gcd (b.gcd d)) (by omega) kp
 obtain ⟨t1, t2, et, ut1, ut2, vt⟩ := mulx (x := b / b.gcd d) (y := d / (Frac.up a b c d).gcd (b.gcd d)) (by omega) (by omega)
 have l2 : Frac.up a b c d % b.gcd d < b.gcd d := Nat.mod_lt _ gp
 have e3 : (Frac.up a b c d % b.gcd d).gcd (b.gcd d) = (Frac.up a b c d).gcd (b.gcd d) := by rw [← Nat.gcd_rec, Nat.gcd_comm]
 have eg := gcdn (Frac.up a b c d % b.gcd d) (b.gcd d) (by omega) (by omega)
 rw [e3] at eg
 have g0 : ¬ ((b.gcd d : Nat) : Int) = 0 := by omega
 have k0 : ¬ (((Frac.up a b c d).gcd (b.gcd d) : Nat) : Int) = 0 := by omega
 unfold ratio_Add.f
 rw [nat_wrap (x := a) (by omega), nat_wrap (x := b) (by omega), nat_wrap (x := c) (by omega), nat_wrap (x := d) (by omega), gcdn b d (by omega) (by omega)]
 rw [Option.bind_some, if_neg g0, quo d _ (by omega), quo b _ (by omega), ex, Option.bind_some, ey, Option.bind_some, es, Option.bind_some, eq, Option.bind_some, eg, Option.bind_some, er, Option.bind_some, if_neg k0,
  quo d _ (by omega), et, Option.bind_some, toldx ur1 ur2 ut1 ut2 vr vt, Option.bind_some]

theorem rnew_eq {n d : Nat} (hn : n ≤ 9223372036854775807) (hd : d ≤ 9223372036854775807) (d0 : 0 < d) (k : Nat) : ratio_New.f (k + 1) n d = some (made (n / n.gcd d) (d / n.gcd d)) := by
 have gp : 0 < n.gcd d := Nat.gcd_pos_of_pos_right n d0
 have ln := Nat.div_le_self n (n.gcd d)
 have ld := Nat.div_le_self d (n.gcd d)
 unfold ratio_New.f
 rw [if_neg (by omega), show decide ((d : Int) < 0) = false by simp, ratio_New.j0, if_neg (by decide), if_neg (by omega), nat_wrap hn, nat_wrap hd, gcdn n d (by omega) (by omega)]
 simp only [Option.bind_some]
 rw [if_neg (by omega), quo n _ (by omega), quo d _ (by omega), of_eq, of_eq]
 simp only [Option.bind_some]
 have t : ∀ x : Nat, x ≤ 9223372036854775807 → (0 : Int) = (x : Int) / 18446744073709551616 ∧ (x : Int) = (x : Int) % 18446744073709551616 := by intro x hx; omega
 have t1 := t (n / n.gcd d) (by omega)
 have t2 := t (d / n.gcd d) (by omega)
 have m := made_eq (n := n / n.gcd d) (d := d / n.gcd d) (by omega) (by omega)
 rw [← t1.1, ← t1.2, ← t2.1, ← t2.2] at m
 rw [m]
 rfl

end Go.Proofs.YtbapgkopilmdfaaDoor.X

namespace Go.Proofs.YtbapgkopilmdfaaDoor.X
open Go.RowKit Go.Proofs.YtbapgkopilmdfaaDoorW.PrintWords Go.Proofs.YtbapgkopilmdfaaDoorW.PrintLast

theorem At.grow {α : Type} {f : Nat → Option α} {r : α} {K : Nat} (m : ∀ k, LeO (f k) (f (k + 1))) (h : f K = some r) : At f r := by
 refine ⟨K, fun k hk => ?_⟩
 obtain ⟨n, rfl⟩ : ∃ n, k = K + n := ⟨k - K, by omega⟩
 clear hk
 induction n with
 | zero => exact h
 | succ n ih => exact m (K + n) r ih
end Go.Proofs.YtbapgkopilmdfaaDoor.X

set_option maxRecDepth 10000
namespace Go.Proofs.YtbapgkopilmdfaaDoor.X
open Go.RowKit Go.Proofs.YtbapgkopilmdfaaDoorW.PrintWords Go.Proofs.YtbapgkopilmdfaaDoorW.PrintLast

theorem norm_ge {l : List Int} (h : Digs l) (n : Norm l) (hl : l ≠ []) : (10000 : Int) ^ (l.length - 1) ≤ bv l := by
 obtain ⟨l', d, rfl⟩ : ∃ l' d, l = l' ++ [d] := ⟨l.dropLast, l.getLast hl, (List.dropLast_concat_getLast hl).symm⟩
 have d0 := n l' d rfl
 have d1 := (h d (by simp)).1
 have b0 : 0 ≤ bv l' := bv_nonneg (fun x hx => h x (by simp [hx]))
 have p := pow_pos10 l'.length
 rw [bv_append, List.length_append]
 show (10000 : Int) ^ (l'.length + 1 - 1) ≤ bv l' + 10000 ^ l'.length * (d + 10000 * 0)
 rw [Nat.add_sub_cancel, Int.mul_zero, Int.add_zero]
 have : 10000 ^ l'.length * 1 ≤ 10000 ^ l'.length * d := Int.mul_le_mul_of_nonneg_left (by omega) (Int.le_of_lt p)
 omega
theorem norm_pos {l : List Int} (h : Digs l) (n : Norm l) (hl : l ≠ []) : 0 < bv l := by
 have := norm_ge h n hl
 have := pow_pos10 (l.length - 1)
 omega
theorem norm_len {a b : List Int} (ha : Digs a) (na : Norm a) (hb : Digs b) (h : bv a ≤ bv b) : a.length ≤ b.length := by
 by_cases z : a = []
 ·subst z
  simp
 ·have g := norm_ge ha na z
  have l := bv_lt hb
  by_cases c : a.length ≤ b.length
  ·exact c
  ·have : (10000 : Int) ^ b.length ≤ 10000 ^ (a.length - 1) := by
    have := Nat.pow_le_pow_right (show 0 < 10000 by omega) (show b.length ≤ a.length - 1 by omega)
    have := Int.ofNat_le.mpr this
    rw [Int.natCast_pow, Int.natCast_pow] at this
    exact this
   omega

theorem gcd_loop : ∀ (m : Nat) {a b : List Int} {x y : Nat}, Digs a → Digs b → Norm b → a.length < 200000 → b.length < 200000 → bv a = x → bv b = y → y ≤ m →
  ∃ s, At (fun k => demurrageref02_Gcd.l0 k a b) s ∧ Digs s ∧ bv s = (x.gcd y : Nat) ∧ s.length < 200000 := by
 intro m
 induction m with
 | zero =>
  intro a b x y ha hb nb la lb ea eb hm
  have z : b = [] := by
   by_cases c : b = []
   ·exact c
   ·have := norm_pos hb nb c
    omega
  subst z
  obtain rfl : y = 0 := by omega
  refine ⟨a, At.succ (g := fun _ => some a) (fun k => ?_) ⟨0, fun _ _ => rfl⟩, ha, by rw [ea, Nat.gcd_zero_right], la⟩
  rw [demurrageref02_Gcd.l0, if_neg (by simp)]
 | succ m ih =>
  intro a b x y ha hb nb la lb ea eb hm
  by_cases z : b = []
  ·subst z
   have y0 : (y : Int) = 0 := by rw [← eb]; rfl
   obtain rfl : y = 0 := by omega
   refine ⟨a, At.succ (g := fun _ => some a) (fun k => ?_) ⟨0, fun _ _ => rfl⟩, ha, by rw [ea, Nat.gcd_zero_right], la⟩
   rw [demurrageref02_Gcd.l0, if_neg (by simp)]
  ·have p := norm_pos hb nb z
   obtain ⟨q, r, e1, e2, e3, e4, e5, e6, e7, e8, e9⟩ := quot_at ha hb (by omega) (by omega) p
   have er : bv r = ((x % y : Nat) : Int) := by rw [e9, ea, eb, Int.natCast_emod]
   have lt : x % y < y := Nat.mod_lt _ (by omega)
   have lr := norm_len e5 e6 hb (by omega)
   obtain ⟨s, s1, s2, s3, s4⟩ := ih (a := b) (b := r) (x := y) (y := x % y) hb e5 e6 lb (by omega) eb er (by omega)
   refine ⟨s, ?_, s2, by rw [s3, Nat.gcd_comm y, ← Nat.gcd_rec, Nat.gcd_comm], s4⟩
   refine At.succ (g := fun k => (demurrageref01_Quot.f k a b).bind fun t => demurrageref02_Gcd.l0 k b t.2) (fun k => ?_) (At.bind (g := fun k t => demurrageref02_Gcd.l0 k b t.2) e1 s1)
   have lz : 0 < b.length := List.length_pos_iff.mpr z
   rw [demurrageref02_Gcd.l0, if_pos (by omega)]

theorem gcd_at {a b : List Int} {x y : Nat} (ha : Digs a) (hb : Digs b) (nb : Norm b) (la : a.length < 200000) (lb : b.length < 200000) (ea : bv a = x) (eb : bv b = y) :
  ∃ s, At (fun k => demurrageref02_Gcd.f k a b) s ∧ Digs s ∧ bv s = (x.gcd y : Nat) ∧ s.length < 200000 := gcd_loop y ha hb nb la lb ea eb (Nat.le_refl _)

theorem hv_at_most {l : List Int} (h : Digs l) : ∀ i, hv l i ≤ bv l
 | 0 => by rw [hv_zero]; omega
 | i + 1 => by
  have s := hv_step l i
  have d := getD_digs h i
  have n := hv_nonneg h (i + 1)
  have := hv_at_most h i
  omega

theorem value_loop {l : List Int} (h : Digs l) (ll : l.length < 500000) (hm : bv l ≤ 4611686018427387904) : ∀ (i k : Nat), i ≤ l.length → i + 1 ≤ k → demurrageref02_value.l0 k (hv l i) ((i : Int) - 1) l = some (bv l) := by
 intro i
 induction i with
 | zero =>
  intro k _ hk
  obtain ⟨k, rfl⟩ : ∃ j, k = j + 1 := ⟨k - 1, by omega⟩
  rw [demurrageref02_value.l0, if_neg (by omega), hv_zero]
 | succ i ih =>
  intro k hi hk
  obtain ⟨k, rfl⟩ : ∃ j, k = j + 1 := ⟨k - 1, by omega⟩
  have s := hv_step l i
  have d := getD_digs h i
  have n := hv_nonneg h (i + 1)
  have le := hv_at_most h i
  have e : ((i + 1 : Nat) : Int) - 1 = (i : Int) := by omega
  have c : (i : Int) < (l.length : Int) := by omega
  have w1 : wrap64 (10000 * hv l (i + 1)) = 10000 * hv l (i + 1) := wrap64_small (by omega) (by omega)
  have w2 : wrap64 (10000 * hv l (i + 1) + l.getD i 0) = hv l i := by
   rw [wrap64_small (x := 10000 * hv l (i + 1) + l.getD i 0) (by clear w1; omega) (by clear w1; omega)]
   clear w1
   omega
  have w3 : wrap64 ((i : Int) - 1) = (i : Int) - 1 := wrap64_small (by clear w1 w2; omega) (by clear w1 w2; omega)
  rw [e, demurrageref02_value.l0, if_pos (Int.natCast_nonneg i), if_pos (Int.natCast_nonneg i), if_pos c, rd_nat, w1, w2, w3]
  clear w1 w2 w3
  exact ih k (by omega) (by omega)

theorem value_at {l : List Int} (h : Digs l) (ll : l.length < 500000) (hm : bv l ≤ 4611686018427387904) : At (fun k => demurrageref02_value.f k l) (bv l) := by
 refine ⟨l.length + 1, fun k hk => ?_⟩
 have w : wrap64 ((l.length : Int) - 1) = (l.length : Int) - 1 := wrap64_small (by omega) (by omega)
 show demurrageref02_value.l0 k 0 (wrap64 ((l.length : Int) - 1)) l = _
 rw [w]
 clear w
 have t := value_loop h ll hm l.length k (Nat.le_refl _) hk
 rw [hv_end (Nat.le_refl _)] at t
 exact t

theorem made_chain {n d s q1 r1 q2 r2 m : List Int} {c1 c2 : Int} {R : Int × Int × Int} (h1 : At (fun k => demurrageref02_Gcd.f k n d) s) (h2 : At (fun k => demurrageref01_Quot.f k n s) (q1, r1)) (h3 : At (fun k => demurrageref01_Quot.f k d s) (q2, r2))
  (h4 : At (fun k => demurrageref01_FromU.f k 4611686018427387904) m) (h5 : At (fun k => demurrageref01_Cmp.f k q1 m) c1) (h6 : At (fun k => demurrageref01_Cmp.f k q2 m) c2)
  (h7 : At (fun k => demurrageref02_Made.j0 k (decide (c1 > 0 ∨ c2 > 0)) q1 q2) R) : At (fun k => demurrageref02_Made.f k n d) R := by
 obtain ⟨K1, h1⟩ := h1
 obtain ⟨K2, h2⟩ := h2
 obtain ⟨K3, h3⟩ := h3
 obtain ⟨K4, h4⟩ := h4
 obtain ⟨K5, h5⟩ := h5
 obtain ⟨K6, h6⟩ := h6
 obtain ⟨K7, h7⟩ := h7
 refine ⟨K1 + K2 + K3 + K4 + K5 + K6 + K7, fun k hk => ?_⟩
 have h1 : demurrageref02_Gcd.f k n d = some s := h1 k (by omega)
 have h2 : demurrageref01_Quot.f k n s = some (q1, r1) := h2 k (by omega)
 have h3 : demurrageref01_Quot.f k d s = some (q2, r2) := h3 k (by omega)
 have h4 : demurrageref01_FromU.f k 4611686018427387904 = some m := h4 k (by omega)
 have h5 : demurrageref01_Cmp.f k q1 m = some c1 := h5 k (by omega)
 have h6 : demurrageref01_Cmp.f k q2 m = some c2 := h6 k (by omega)
 have h7 : demurrageref02_Made.j0 k (decide (c1 > 0 ∨ c2 > 0)) q1 q2 = some R := h7 k (by omega)
 show demurrageref02_Made.f k n d = some R
 unfold demurrageref02_Made.f
 rw [h1, Option.bind_some, h2, Option.bind_some, h3, Option.bind_some, h4, Option.bind_some]
 show ((demurrageref01_Cmp.f k q1 m).bind fun t4589 => (if t4589 > 0 then (demurrageref02_Made.j0 k true q1 q2) else ((demurrageref01_Cmp.f k q2 m).bind fun t4590 => (demurrageref02_Made.j0 k (decide (t4590 > 0)) q1 q2)))) = some R
 rw [h5, Option.bind_some]
 by_cases c : c1 > 0
 ·rw [if_pos c]
  rw [decide_eq_true (Or.inl c)] at h7
  exact h7
 ·rw [if_neg c, h6, Option.bind_some]
  have e : decide (c1 > 0 ∨ c2 > 0) = decide (c2 > 0) := by
   rw [decide_eq_decide]
   exact ⟨fun h => h.elim (fun x => absurd x c) id, Or.inr⟩
  rw [e] at h7
  exact h7

theorem bsg_most {x : Int} : bsg x 4611686018427387904 > 0 ↔ ¬ x ≤ 4611686018427387904 := by
 unfold bsg
 repeat' split
 all_goals omega

theorem made_at {n d : List Int} {x y : Nat} (dn : Digs n) (dd : Digs d) (nd : Norm d) (ln : n.length < 200000) (ld : d.length < 200000) (en : bv n = x) (ed : bv d = y) (y0 : 0 < y) :
  At (fun k => demurrageref02_Made.f k n d) (made (x / x.gcd y) (y / x.gcd y)) := by
 obtain ⟨s, s1, s2, s3, s4⟩ := gcd_at dn dd nd ln ld en ed
 have gp : 0 < x.gcd y := Nat.gcd_pos_of_pos_right x y0
 obtain ⟨q1, r1, e1, e2, e3, e4, e5, e6, e7, e8, e9⟩ := quot_at dn s2 (by omega) ln (by omega)
 obtain ⟨q2, r2, f1, f2, f3, f4, f5, f6, f7, f8, f9⟩ := quot_at dd s2 (by omega) ld (by omega)
 obtain ⟨m, m1, m2, m3, m4, m5⟩ := fromU_at (x := 4611686018427387904) ⟨by omega, by omega⟩
 have c1 := cmp_at e2 m2 (by omega) (by omega)
 have c2 := cmp_at f2 m2 (by omega) (by omega)
 rw [m3] at c1 c2
 have v1 : bv q1 = ((x / x.gcd y : Nat) : Int) := by rw [e8, en, s3, Int.natCast_ediv]
 have v2 : bv q2 = ((y / x.gcd y : Nat) : Int) := by rw [f8, ed, s3, Int.natCast_ediv]
 refine made_chain s1 e1 f1 m1 c1 c2 ?_
 rw [v1, v2]
 unfold made
 by_cases c : (((x / x.gcd y : Nat) : Int) ≤ 4611686018427387904 ∧ ((y / x.gcd y : Nat) : Int) ≤ 4611686018427387904)
 ·rw [if_pos c, decide_eq_false (fun h => h.elim (fun h => bsg_most.mp h c.1) (fun h => bsg_most.mp h c.2))]
  obtain ⟨K1, g1⟩ := value_at e2 (by omega) (by rw [v1]; exact c.1)
  obtain ⟨K2, g2⟩ := value_at f2 (by omega) (by rw [v2]; exact c.2)
  refine ⟨K1 + K2 + 1, fun k hk => ?_⟩
  obtain ⟨j, rfl⟩ : ∃ j, k = j + 1 := ⟨k - 1, by omega⟩
  have g1 : demurrageref02_value.f j q1 = some (bv q1) := g1 j (by omega)
  have g2 : demurrageref02_value.f j q2 = some (bv q2) := g2 j (by omega)
  show demurrageref02_Made.j0 (j + 1) false q1 q2 = _
  rw [demurrageref02_Made.j0, if_neg (by decide), g1, Option.bind_some, g2, Option.bind_some, v1, v2]
 ·rw [if_neg c, decide_eq_true]
  ·refine ⟨1, fun k hk => ?_⟩
   obtain ⟨j, rfl⟩ : ∃ j, k = j + 1 := ⟨k - 1, by omega⟩
   show demurrageref02_Made.j0 (j + 1) true q1 q2 = _
   rw [demurrageref02_Made.j0, if_pos rfl]
  ·rw [bsg_most, bsg_most]
   omega

end Go.Proofs.YtbapgkopilmdfaaDoor.X

set_option maxRecDepth 10000
namespace Go.Proofs.YtbapgkopilmdfaaDoor.X
open Go.RowKit Go.Proofs.YtbapgkopilmdfaaDoorW.PrintWords Go.Proofs.YtbapgkopilmdfaaDoorW.PrintLast

theorem big_at {a b : Nat} (ha : a ≤ 4611686018427387904) (hb : b ≤ 4611686018427387904) : ∃ p q, At (fun k => demurrageref02_big.f k a b) (p, q) ∧ Digs p ∧ Digs q ∧ bv p = a ∧ bv q = b ∧ p.length ≤ 5 ∧ q.length ≤ 5 := by
 obtain ⟨p, ⟨K1, p1⟩, p2, p3, p4, p5⟩ := from_at (x := (a : Int)) ⟨by omega, by omega⟩
 obtain ⟨q, ⟨K2, q1⟩, q2, q3, q4, q5⟩ := from_at (x := (b : Int)) ⟨by omega, by omega⟩
 refine ⟨p, q, ⟨K1 + K2, fun k hk => ?_⟩, p2, q2, p3, q3, p5, q5⟩
 have p1 : demurrageref01_From.f k a = some p := p1 k (by omega)
 have q1 : demurrageref01_From.f k b = some q := q1 k (by omega)
 show demurrageref02_big.f k a b = some (p, q)
 unfold demurrageref02_big.f
 rw [p1, Option.bind_some, q1, Option.bind_some]

theorem refadd_at {a b c d : Nat} (ha : a ≤ 4611686018427387904) (hb : b ≤ 4611686018427387904) (hc : c ≤ 4611686018427387904) (hd : d ≤ 4611686018427387904) (b0 : 0 < b) (d0 : 0 < d) :
  At (fun k => demurrageref02_Add.f k a b c d) (made ((a * d + c * b) / (a * d + c * b).gcd (b * d)) (b * d / (a * d + c * b).gcd (b * d))) := by
 obtain ⟨p, q, ⟨K1, h1⟩, p2, q2, p3, q3, p4, q4⟩ := big_at ha hb
 obtain ⟨r, s, ⟨K2, h2⟩, r2, s2, r3, s3, r4, s4⟩ := big_at hc hd
 obtain ⟨u, ⟨K3, h3⟩, u2, u3, u4, u5⟩ := prod_at p2 s2 (by omega) (by omega)
 obtain ⟨v, ⟨K4, h4⟩, v2, v3, v4, v5⟩ := prod_at r2 q2 (by omega) (by omega)
 obtain ⟨w, ⟨K5, h5⟩, w2, w3, w4⟩ := plus_at u2 v2 (by omega) (by omega)
 obtain ⟨z, ⟨K6, h6⟩, z2, z3, z4, z5⟩ := prod_at q2 s2 (by omega) (by omega)
 have ew : bv w = ((a * d + c * b : Nat) : Int) := by rw [w3, u3, v3, p3, s3, r3, q3, Int.natCast_add, Int.natCast_mul, Int.natCast_mul]
 have ez : bv z = ((b * d : Nat) : Int) := by rw [z3, q3, s3, Int.natCast_mul]
 obtain ⟨K7, h7⟩ := made_at w2 z2 z4 (by omega) (by omega) ew ez (Nat.mul_pos b0 d0)
 generalize made ((a * d + c * b) / (a * d + c * b).gcd (b * d)) (b * d / (a * d + c * b).gcd (b * d)) = R at h7 ⊢
 refine ⟨K1 + K2 + K3 + K4 + K5 + K6 + K7, fun k hk => ?_⟩
 have h1 : demurrageref02_big.f k a b = some (p, q) := h1 k (by omega)
 have h2 : demurrageref02_big.f k c d = some (r, s) := h2 k (by omega)
 have h3 : demurrageref01_Prod.f k p s = some u := h3 k (by omega)
 have h4 : demurrageref01_Prod.f k r q = some v := h4 k (by omega)
 have h5 : demurrageref01_Plus.f k u v = some w := h5 k (by omega)
 have h6 : demurrageref01_Prod.f k q s = some z := h6 k (by omega)
 have h7 : demurrageref02_Made.f k w z = some R := h7 k (by omega)
 show demurrageref02_Add.f k a b c d = some R
 unfold demurrageref02_Add.f
 rw [h1, Option.bind_some, h2, Option.bind_some]
 show ((demurrageref01_Prod.f k p s).bind fun t4661 => ((demurrageref01_Prod.f k r q).bind fun t4664 => ((demurrageref01_Plus.f k t4661 t4664).bind fun t4667 => ((demurrageref01_Prod.f k q s).bind fun t4670 => ((demurrageref02_Made.f k t4667 t4670).bind fun bt4673 => (some (bt4673.1, bt4673.2.1, bt4673.2.2))))))) = some R
 rw [h3, Option.bind_some, h4, Option.bind_some, h5, Option.bind_some, h6, Option.bind_some, h7, Option.bind_some]

end Go.Proofs.YtbapgkopilmdfaaDoor.X

set_option maxRecDepth 10000
namespace Go.Proofs.YtbapgkopilmdfaaDoor.Frac
open Go.Proofs.YtbapgkopilmdfaaDoor.X

def Is (n m N D : Nat) : Prop := n.gcd m = 1 ∧ 0 < m ∧ n * D = N * m
theorem Is.le {n m N D : Nat} (h : Is n m N D) (hD : 0 < D) : n ≤ N ∧ m ≤ D := by
 obtain ⟨h1, h2, h3⟩ := h
 have c : Nat.Coprime n m := h1
 have d1 : m ∣ D := c.symm.dvd_of_dvd_mul_left (show m ∣ n * D from ⟨N, by rw [h3, Nat.mul_comm]⟩)
 have d2 : n ∣ N := c.dvd_of_dvd_mul_right (show n ∣ N * m from ⟨D, h3.symm⟩)
 refine ⟨?_, Nat.le_of_dvd hD d1⟩
 by_cases z : N = 0
 ·subst z
  rw [Nat.zero_mul] at h3
  have := Nat.mul_eq_zero.mp h3
  omega
 ·exact Nat.le_of_dvd (by omega) d2
theorem Is.one {n m N D n' m' N' D' : Nat} (h : Is n m N D) (h' : Is n' m' N' D') (hD : 0 < D) (hD' : 0 < D') (e : N * D' = N' * D) : n = n' ∧ m = m' := by
 obtain ⟨h1, h2, h3⟩ := h
 obtain ⟨g1, g2, g3⟩ := h'
 refine same ?_ h1 g1 g2
 refine Nat.eq_of_mul_eq_mul_right (Nat.mul_pos hD hD') ?_
 have a : n * m' * (D * D') = (n * D) * (m' * D') := by simp only [Nat.mul_comm, Nat.mul_left_comm]
 have b : n' * m * (D * D') = (n' * D') * (m * D) := by simp only [Nat.mul_comm, Nat.mul_left_comm]
 rw [a, b, h3, g3]
 have c : N * m * (m' * D') = (N * D') * (m * m') := by simp only [Nat.mul_comm, Nat.mul_left_comm]
 have d : N' * m' * (m * D) = (N' * D) * (m * m') := by simp only [Nat.mul_comm, Nat.mul_left_comm]
 rw [c, d, e]

theorem add_is {a b c d : Nat} (ha : a ≤ 4611686018427387904) (hb : b ≤ 4611686018427387904) (hc : c ≤ 4611686018427387904) (hd : d ≤ 4611686018427387904) (b0 : 0 < b) (d0 : 0 < d) (h1 : a.gcd b = 1) (h2 : c.gcd d = 1) :
  ∃ n m, ratio_Add.f a b c d = some (made n m) ∧ Is n m (a * d + c * b) (b * d) := by
 obtain ⟨g1, g2, g3⟩ := add b0 d0 h1 h2
 exact ⟨_, _, radd_eq ha hb hc hd b0 d0, g1, g3, g2⟩
theorem made_ok {n m : Nat} (hn : n ≤ 4611686018427387904) (hm : m ≤ 4611686018427387904) : made n m = ((n : Int), (m : Int), 0) := by
 unfold made
 rw [if_pos ⟨by omega, by omega⟩]
end Go.Proofs.YtbapgkopilmdfaaDoor.Frac

set_option maxRecDepth 10000
namespace Go.Proofs.YtbapgkopilmdfaaDoor.X
open Go.RowKit Go.Proofs.YtbapgkopilmdfaaDoor.Cal Go.Proofs.YtbapgkopilmdfaaDoorW.PrintWords Go.Proofs.YtbapgkopilmdfaaDoorW.PrintLast Go.Proofs.YtbapgkopilmdfaaDoorW.PrintMore

def fr (n d : Nat) : Int × Int × Int := (((n / n.gcd d : Nat) : Int), ((d / n.gcd d : Nat) : Int), 0)
theorem fr_is {n d : Nat} (hd : 0 < d) : Frac.Is (n / n.gcd d) (d / n.gcd d) n d := by
 obtain ⟨x1, x2, x3⟩ := Frac.new (n := n) hd
 exact ⟨x1, x3, x2⟩
theorem fr_of {n m N D : Nat} (hD : 0 < D) (h : Frac.Is n m N D) : (((n : Nat) : Int), ((m : Nat) : Int), (0 : Int)) = fr N D := by
 obtain ⟨e1, e2⟩ := h.one (fr_is (n := N) hD) hD hD rfl
 unfold fr
 rw [← e1, ← e2]
theorem fr_eq {n d m e : Nat} (hd : 0 < d) (he : 0 < e) (h : n * e = m * d) : fr n d = fr m e := by
 obtain ⟨e1, e2⟩ := (fr_is (n := n) hd).one (fr_is (n := m) he) hd he h
 unfold fr
 rw [e1, e2]
theorem made_fr {n d : Nat} (hn : n ≤ 4611686018427387904) (hd : d ≤ 4611686018427387904) : made (n / n.gcd d) (d / n.gcd d) = fr n d := by
 have l1 := Nat.div_le_self n (n.gcd d)
 have l2 := Nat.div_le_self d (n.gcd d)
 exact Frac.made_ok (by omega) (by omega)
theorem new_fr {n d : Nat} (hn : n ≤ 4611686018427387904) (hd : d ≤ 4611686018427387904) (d0 : 0 < d) (k : Nat) : ratio_New.f (k + 1) n d = some (fr n d) := by
 rw [rnew_eq (by omega) (by omega) d0, made_fr hn hd]

theorem add_fr {n1 d1 n2 d2 : Nat} (p1 : 0 < d1) (p2 : 0 < d2) (hn1 : n1 ≤ 2000000000) (hd1 : d1 ≤ 1000000) (hn2 : n2 ≤ 2000000000) (hd2 : d2 ≤ 1000000) :
  ratio_Add.f (fr n1 d1).1 (fr n1 d1).2.1 (fr n2 d2).1 (fr n2 d2).2.1 = some (fr (n1 * d2 + n2 * d1) (d1 * d2)) := by
 obtain ⟨x1, x2, x3⟩ := fr_is (n := n1) p1
 obtain ⟨y1, y2, y3⟩ := fr_is (n := n2) p2
 have a1 := Nat.div_le_self n1 (n1.gcd d1)
 have a2 := Nat.div_le_self d1 (n1.gcd d1)
 have a3 := Nat.div_le_self n2 (n2.gcd d2)
 have a4 := Nat.div_le_self d2 (n2.gcd d2)
 show ratio_Add.f ((n1 / n1.gcd d1 : Nat) : Int) ((d1 / n1.gcd d1 : Nat) : Int) ((n2 / n2.gcd d2 : Nat) : Int) ((d2 / n2.gcd d2 : Nat) : Int) = _
 generalize n1 / n1.gcd d1 = a at *
 generalize d1 / n1.gcd d1 = b at *
 generalize n2 / n2.gcd d2 = c at *
 generalize d2 / n2.gcd d2 = d at *
 obtain ⟨n, m, e, i⟩ := Frac.add_is (a := a) (b := b) (c := c) (d := d) (by omega) (by omega) (by omega) (by omega) x2 y2 x1 y1
 have pD : 0 < d1 * d2 := Nat.mul_pos p1 p2
 have pd : 0 < b * d := Nat.mul_pos x2 y2
 have cr : (a * d + c * b) * (d1 * d2) = (n1 * d2 + n2 * d1) * (b * d) := by
  have q1 : a * d * (d1 * d2) = (a * d1) * (d * d2) := by simp only [Nat.mul_comm, Nat.mul_left_comm]
  have q2 : c * b * (d1 * d2) = (c * d2) * (b * d1) := by simp only [Nat.mul_comm, Nat.mul_left_comm]
  have q3 : n1 * d2 * (b * d) = (n1 * b) * (d * d2) := by simp only [Nat.mul_comm, Nat.mul_left_comm]
  have q4 : n2 * d1 * (b * d) = (n2 * d) * (b * d1) := by simp only [Nat.mul_comm, Nat.mul_left_comm]
  rw [Nat.add_mul, Nat.add_mul, q1, q2, q3, q4, x3, y3]
 have ii : Frac.Is n m (n1 * d2 + n2 * d1) (d1 * d2) := by
  obtain ⟨e1, e2⟩ := i.one (fr_is (n := n1 * d2 + n2 * d1) pD) pd pD cr
  rw [e1, e2]
  exact fr_is pD
 have le := ii.le pD
 have b1 : n1 * d2 ≤ 2000000000 * 1000000 := Nat.mul_le_mul hn1 hd2
 have b2 : n2 * d1 ≤ 2000000000 * 1000000 := Nat.mul_le_mul hn2 hd1
 have b3 : d1 * d2 ≤ 1000000 * 1000000 := Nat.mul_le_mul hd1 hd2
 rw [e, Frac.made_ok (by omega) (by omega), fr_of pD ii]
theorem refadd_fr {n1 d1 n2 d2 : Nat} (p1 : 0 < d1) (p2 : 0 < d2) (hn1 : n1 ≤ 2000000000) (hd1 : d1 ≤ 1000000) (hn2 : n2 ≤ 2000000000) (hd2 : d2 ≤ 1000000) :
  At (fun k => demurrageref02_Add.f k (fr n1 d1).1 (fr n1 d1).2.1 (fr n2 d2).1 (fr n2 d2).2.1) (fr (n1 * d2 + n2 * d1) (d1 * d2)) := by
 obtain ⟨x1, x2, x3⟩ := fr_is (n := n1) p1
 obtain ⟨y1, y2, y3⟩ := fr_is (n := n2) p2
 have a1 := Nat.div_le_self n1 (n1.gcd d1)
 have a2 := Nat.div_le_self d1 (n1.gcd d1)
 have a3 := Nat.div_le_self n2 (n2.gcd d2)
 have a4 := Nat.div_le_self d2 (n2.gcd d2)
 show At (fun k => demurrageref02_Add.f k ((n1 / n1.gcd d1 : Nat) : Int) ((d1 / n1.gcd d1 : Nat) : Int) ((n2 / n2.gcd d2 : Nat) : Int) ((d2 / n2.gcd d2 : Nat) : Int)) _
 generalize n1 / n1.gcd d1 = a at *
 generalize d1 / n1.gcd d1 = b at *
 generalize n2 / n2.gcd d2 = c at *
 generalize d2 / n2.gcd d2 = d at *
 have h := refadd_at (a := a) (b := b) (c := c) (d := d) (by omega) (by omega) (by omega) (by omega) x2 y2
 have pD : 0 < d1 * d2 := Nat.mul_pos p1 p2
 have pd : 0 < b * d := Nat.mul_pos x2 y2
 have cr : (a * d + c * b) * (d1 * d2) = (n1 * d2 + n2 * d1) * (b * d) := by
  have q1 : a * d * (d1 * d2) = (a * d1) * (d * d2) := by simp only [Nat.mul_comm, Nat.mul_left_comm]
  have q2 : c * b * (d1 * d2) = (c * d2) * (b * d1) := by simp only [Nat.mul_comm, Nat.mul_left_comm]
  have q3 : n1 * d2 * (b * d) = (n1 * b) * (d * d2) := by simp only [Nat.mul_comm, Nat.mul_left_comm]
  have q4 : n2 * d1 * (b * d) = (n2 * d) * (b * d1) := by simp only [Nat.mul_comm, Nat.mul_left_comm]
  rw [Nat.add_mul, Nat.add_mul, q1, q2, q3, q4, x3, y3]
 have b1 : a * d ≤ 2000000000 * 1000000 := Nat.mul_le_mul (by omega) (by omega)
 have b2 : c * b ≤ 2000000000 * 1000000 := Nat.mul_le_mul (by omega) (by omega)
 have b3 : b * d ≤ 1000000 * 1000000 := Nat.mul_le_mul (by omega) (by omega)
 rw [made_fr (by omega) (by omega), fr_eq pd pD cr] at h
 exact h

theorem mx_eq {x y : Int} (h : x ≤ y) : mx x y = y := by
 unfold mx
 split <;> omega
theorem mx_eq' {x y : Int} (h : y ≤ x) : mx x y = x := by
 unfold mx
 split <;> omega
theorem mn_eq {x y : Int} (h : x ≤ y) : mn x y = x := by
 unfold mn
 split <;> omega
theorem mn_eq' {x y : Int} (h : y ≤ x) : mn x y = y := by
 unfold mn
 split <;> omega

def Sta (a b ya yb : Int) (i : Nat) (t l : Int) : Prop := (i = 0 ∧ t = a ∧ l = D a ya) ∨ (0 < i ∧ ya + i ≤ yb ∧ t = A (ya + i) + 1 ∧ l = L (ya + i)) ∨ (ya + i = yb + 1 ∧ t = b ∧ l = D b yb)
theorem sta_step {a b ya yb : Int} (ha : In a ya) (hb : In b yb) (ab : a ≤ b) {i : Nat} (hi : ya + i ≤ yb) {t l : Int} (h : Sta a b ya yb i t l) :
  ∃ t' l', Sta a b ya yb (i + 1) t' l' ∧ mx a (A (ya + i) + 1) = t ∧ mn b (A (ya + i) + 1 + len (ya + i)) = t' ∧ t ≤ t' ∧ a ≤ t ∧ t' ≤ 3652059 ∧ l' = l + (if Lp (ya + i) then t' - t else 0) := by
 have da := ha.day
 have db := hb.day
 obtain ⟨a1, a2, a3, a4⟩ := ha
 obtain ⟨b1, b2, b3, b4⟩ := hb
 have s := A_succ (ya + i)
 have sl := L_succ (ya + i)
 have ln := len_in (ya + i)
 have lne : len (ya + i) = if Lp (ya + i) then 366 else 365 := rfl
 have m1 := A_mono (show ya ≤ ya + (i : Int) by omega)
 have m2 := A_mono (show ya + (i : Int) ≤ yb by omega)
 have m3 := A_mono (show ya + (i : Int) + 1 ≤ yb + 1 by omega)
 have first : mx a (A (ya + i) + 1) = t ∧ a ≤ t ∧ t ≤ b ∧ A (ya + i) + 1 ≤ t ∧ t ≤ A (ya + i + 1) ∧ l = L (ya + i) + (if Lp (ya + i) then t - A (ya + i) - 1 else 0) := by
  rcases h with ⟨rfl, rfl, rfl⟩ | ⟨h1, h2, rfl, rfl⟩ | ⟨h1, rfl, rfl⟩
  ·have e : ya + ((0 : Nat) : Int) = ya := by omega
   rw [e] at *
   exact ⟨mx_eq' (by omega), Int.le_refl _, ab, by omega, a4, rfl⟩
  ·have m4 := A_mono (show ya + 1 ≤ ya + (i : Int) by omega)
   refine ⟨mx_eq (by omega), by omega, by omega, Int.le_refl _, by omega, ?_⟩
   split <;> omega
  ·exact absurd h1 (by omega)
 obtain ⟨f1, f2, f3, f4, f5, f6⟩ := first
 have ei : ya + ((i + 1 : Nat) : Int) = ya + i + 1 := by omega
 by_cases c : ya + (i : Int) = yb
 ·refine ⟨b, D b yb, Or.inr (Or.inr ⟨by omega, rfl, rfl⟩), f1, ?_, f3, f2, db.2, ?_⟩
  ·exact mn_eq (by rw [← c] at b4; omega)
  ·rw [f6, ← c]
   unfold D
   split <;> omega
 ·have m5 := A_mono (show ya + (i : Int) + 1 ≤ yb by omega)
  refine ⟨A (ya + i + 1) + 1, L (ya + i + 1), Or.inr (Or.inl ⟨by omega, by omega, by rw [ei], by rw [ei]⟩), f1, ?_, by omega, f2, by omega, ?_⟩
  ·rw [mn_eq' (by omega)]
   omega
  ·rw [f6, sl, s, lne]
   split <;> omega

theorem years_loop {a b ya yb : Int} (ha : In a ya) (hb : In b yb) (ab : a ≤ b) : ∀ (d i k : Nat) (t l d5 d6 : Int), ya + i + d = yb + 1 → Sta a b ya yb i t l → d6 = l - D a ya → d5 = t - a - (l - D a ya) → 0 ≤ d6 → 0 ≤ d5 → a ≤ t → t ≤ 3652059 → d + 2 ≤ k →
  actual_years.l0 k a b ya (yb - ya + 1) i d5 d6 = some (b - a - (D b yb - D a ya), D b yb - D a ya) := by
 have da := ha.day
 have db := hb.day
 intro d
 induction d with
 | zero =>
  intro i k t l d5 d6 hi h e6 e5 _ _ _ _ hk
  obtain ⟨q, rfl⟩ : ∃ q, k = q + 1 := ⟨k - 1, by omega⟩
  obtain ⟨e1, e2⟩ : t = b ∧ l = D b yb := by
   rcases h with ⟨rfl, _, _⟩ | ⟨_, h2, _, _⟩ | ⟨_, h2, h3⟩
   ·have := A_mono (show yb + 1 ≤ ya by omega)
    obtain ⟨_, _, a3, _⟩ := ha
    obtain ⟨_, _, _, b4⟩ := hb
    exact absurd ab (by omega)
   ·exact absurd h2 (by omega)
   ·exact ⟨h2, h3⟩
  subst e1 e2 e6 e5
  rw [actual_years.l0, if_neg (by omega)]
 | succ d ih =>
  intro i k t l d5 d6 hi h e6 e5 p6 p5 hat ht hk
  obtain ⟨q, rfl⟩ : ∃ q, k = q + 2 := ⟨k - 2, by omega⟩
  have ya1 := ha.1
  have yb2 := hb.2.1
  obtain ⟨t', l', h', f1, f2, f3, f4, f5, f6⟩ := sta_step ha hb ab (i := i) (by omega) h
  have wy : wrap64 (ya + (i : Int)) = ya + i := wrap64_small (by omega) (by omega)
  have bb := A_bound (y := ya + i) (by clear wy; omega) (by clear wy; omega)
  have w : ∀ x : Int, -100000000 ≤ x → x ≤ 100000000 → wrap64 x = x := fun x a b => wrap64_small (by omega) (by omega)
  rw [actual_years.l0, if_pos (by clear wy; omega), wy, ends_at (by clear wy; omega) (by clear wy; omega), Option.bind_some]
  clear wy
  show (if len (ya + i) = 365 then actual_years.l0 (q + 1) a b ya (yb - ya + 1) (i + 1) (wrap64 (d5 + wrap64 (mn b (wrap64 (A (ya + i) + 1 + 365)) - mx a (A (ya + i) + 1)))) d6 else if len (ya + i) = 366 then actual_years.l0 (q + 1) a b ya (yb - ya + 1) (i + 1) d5 (wrap64 (d6 + wrap64 (mn b (wrap64 (A (ya + i) + 1 + 366)) - mx a (A (ya + i) + 1)))) else none) = _
  have lne : len (ya + i) = if Lp (ya + i) then 366 else 365 := rfl
  have g := fun (x5 x6 : Int) (h6 : x6 = l' - D a ya) (h5 : x5 = t' - a - (l' - D a ya)) (g6 : 0 ≤ x6) (g5 : 0 ≤ x5) => ih (i + 1) (q + 1) t' l' x5 x6 (by omega) h' h6 h5 g6 g5 (by omega) f5 (by omega)
  by_cases c : Lp (ya + i)
  ·rw [if_pos c] at lne f6
   rw [lne] at f2 ⊢
   rw [if_neg (by decide), if_pos rfl, w (A (ya + i) + 1 + 366) (by omega) (by omega), f2, f1, w (t' - t) (by omega) (by omega), w (d6 + (t' - t)) (by omega) (by omega)]
   exact g d5 (d6 + (t' - t)) (by omega) (by omega) (by omega) (by omega)
  ·rw [if_neg c] at lne f6
   rw [lne] at f2 ⊢
   rw [if_pos rfl, w (A (ya + i) + 1 + 365) (by omega) (by omega), f2, f1, w (t' - t) (by omega) (by omega), w (d5 + (t' - t)) (by omega) (by omega)]
   exact g (d5 + (t' - t)) d6 (by omega) (by omega) (by omega) (by omega)

def yv (a b ya yb : Int) : Nat := (b - a - (D b yb - D a ya)).toNat * 366 + (D b yb - D a ya).toNat * 365
theorem years_at {a b ya yb : Int} (ha : In a ya) (hb : In b yb) (ab : a ≤ b) : At (fun k => actual_years.f k a b) (fr (yv a b ya yb) 133590) := by
 have da := ha.day
 have db := hb.day
 have bt := D_between ha hb ab
 have a1 := ha.1
 have b2 := hb.2.1
 have yy : ya ≤ yb := by
  by_cases c : ya ≤ yb
  ·exact c
  ·have := A_mono (show yb + 1 ≤ ya by omega)
   obtain ⟨_, _, a3, _⟩ := ha
   obtain ⟨_, _, _, b4⟩ := hb
   omega
 obtain ⟨m, e, K, h1⟩ := of_at ha
 obtain ⟨m', e', M, h2⟩ := of_at hb
 obtain ⟨d, hd⟩ : ∃ d : Nat, ya + ((0 : Nat) : Int) + d = yb + 1 := ⟨(yb + 1 - ya).toNat, by omega⟩
 obtain ⟨s5, e5⟩ := Int.eq_ofNat_of_zero_le (show 0 ≤ b - a - (D b yb - D a ya) by omega)
 obtain ⟨s6, e6⟩ := Int.eq_ofNat_of_zero_le (show 0 ≤ D b yb - D a ya by omega)
 refine ⟨K + M + d + 3, fun k hk => ?_⟩
 obtain ⟨q, rfl⟩ : ∃ q, k = q + 1 := ⟨k - 1, by omega⟩
 have h1 : civil_Of.f (q + 1) a = some (ya, m, e, 0) := h1 _ (by omega)
 have h2 : civil_Of.f (q + 1) b = some (yb, m', e', 0) := h2 _ (by omega)
 have h3 := years_loop ha hb ab d 0 (q + 1) a (D a ya) 0 0 hd (Or.inl ⟨rfl, rfl, rfl⟩) (by omega) (by omega) (Int.le_refl _) (Int.le_refl _) (Int.le_refl _) da.2 (by omega)
 have w1 : wrap64 (yb - ya) = yb - ya := wrap64_small (by clear h3; omega) (by clear h3; omega)
 have w2 : wrap64 (yb - ya + 1) = yb - ya + 1 := by
  clear w1 h3
  exact wrap64_small (by omega) (by omega)
 show actual_years.f (q + 1) a b = _
 unfold actual_years.f yv
 rw [h1, Option.bind_some, h2, Option.bind_some]
 show ((actual_years.l0 (q + 1) a b ya (wrap64 (wrap64 (yb - ya) + 1)) 0 0 0).bind fun d => (ratio_New.f (q + 1) d.1 365).bind fun p => (ratio_New.f (q + 1) d.2 366).bind fun q => ratio_Add.f p.1 p.2.1 q.1 q.2.1) = _
 rw [w1, w2, h3, Option.bind_some, e5, e6]
 clear w1 w2 h3
 show ((ratio_New.f (q + 1) ((s5 : Nat) : Int) ((365 : Nat) : Int)).bind fun p => (ratio_New.f (q + 1) ((s6 : Nat) : Int) ((366 : Nat) : Int)).bind fun q => ratio_Add.f p.1 p.2.1 q.1 q.2.1) = _
 rw [new_fr (by omega) (by omega) (by omega), Option.bind_some, new_fr (by omega) (by omega) (by omega), Option.bind_some, add_fr (by omega) (by omega) (by omega) (by omega) (by omega) (by omega), Int.toNat_natCast, Int.toNat_natCast]

def partv (f : Int × Int × Int) (c : Int) : Int × Int × Int := if c = 0 then f else (0, 0, c)
theorem code_ok {a b : Int} (h : codev a b = 0) : 1 ≤ a ∧ a ≤ b ∧ b ≤ 3652059 := by
 unfold codev at h
 split at h
 ·split at h <;> omega
 ·omega
theorem codev_zero {a b : Int} (c : 1 ≤ a ∧ a ≤ 3652059) (d : 1 ≤ b ∧ b ≤ 3652059) (ab : a ≤ b) : codev a b = 0 := by
 rw [codev_in c d, if_neg (by omega)]
theorem by360_at (a b : Int) : At (fun k => actual_By360.f k a b) (partv (fr (b - a).toNat 360) (codev a b)) := by
 obtain ⟨K, h⟩ := check_at a b
 refine ⟨K + 1, fun k hk => ?_⟩
 obtain ⟨q, rfl⟩ : ∃ q, k = q + 1 := ⟨k - 1, by omega⟩
 have h : actual_check.f (q + 1) a b = some (codev a b) := h _ (by omega)
 show actual_By360.f (q + 1) a b = _
 unfold actual_By360.f partv
 rw [h, Option.bind_some]
 by_cases c : codev a b = 0
 ·have o := code_ok c
  rw [if_pos c, if_pos c, wrap64_small (by omega) (by omega)]
  obtain ⟨n, hn⟩ := Int.eq_ofNat_of_zero_le (show 0 ≤ b - a by omega)
  rw [hn, Int.toNat_natCast]
  exact new_fr (d := 360) (by omega) (by omega) (by omega) q
 ·rw [if_neg c, if_neg c]
theorem by365_at (a b : Int) : At (fun k => actual_By365.f k a b) (partv (fr (b - a).toNat 365) (codev a b)) := by
 obtain ⟨K, h⟩ := check_at a b
 refine ⟨K + 1, fun k hk => ?_⟩
 obtain ⟨q, rfl⟩ : ∃ q, k = q + 1 := ⟨k - 1, by omega⟩
 have h : actual_check.f (q + 1) a b = some (codev a b) := h _ (by omega)
 show actual_By365.f (q + 1) a b = _
 unfold actual_By365.f partv
 rw [h, Option.bind_some]
 by_cases c : codev a b = 0
 ·have o := code_ok c
  rw [if_pos c, if_pos c, wrap64_small (by omega) (by omega)]
  obtain ⟨n, hn⟩ := Int.eq_ofNat_of_zero_le (show 0 ≤ b - a by omega)
  rw [hn, Int.toNat_natCast]
  exact new_fr (d := 365) (by omega) (by omega) (by omega) q
 ·rw [if_neg c, if_neg c]
theorem byyears_at {a b ya yb : Int} (ha : In a ya) (hb : In b yb) (ab : a ≤ b) : At (fun k => actual_ByYears.f k a b) (fr (yv a b ya yb) 133590) := by
 obtain ⟨K, h⟩ := check_at a b
 obtain ⟨M, g⟩ := years_at ha hb ab
 refine ⟨K + M, fun k hk => ?_⟩
 have h : actual_check.f k a b = some (codev a b) := h _ (by omega)
 have g : actual_years.f k a b = some (fr (yv a b ya yb) 133590) := g _ (by omega)
 show actual_ByYears.f k a b = _
 unfold actual_ByYears.f
 rw [h, Option.bind_some, codev_zero ha.day hb.day ab, if_pos rfl, g]

theorem add_at {n1 d1 n2 d2 n d : Nat} {P1 P2 Q1 Q2 R1 R2 : Int} (p1 : 0 < d1) (p2 : 0 < d2) (pd : 0 < d) (hn1 : n1 ≤ 2000000000) (hd1 : d1 ≤ 1000000) (hn2 : n2 ≤ 2000000000) (hd2 : d2 ≤ 1000000) (hP : fr n1 d1 = (P1, P2, 0)) (hQ : fr n2 d2 = (Q1, Q2, 0)) (hR : fr n d = (R1, R2, 0)) (e : (n1 * d2 + n2 * d1) * d = n * (d1 * d2)) :
  At (fun k => demurrageref02_Add.f k P1 P2 Q1 Q2) (R1, R2, 0) := by
 have h := refadd_fr p1 p2 hn1 hd1 hn2 hd2
 rw [fr_eq (Nat.mul_pos p1 p2) pd e, hP, hQ, hR] at h
 exact h
theorem fr_get (n d : Nat) : ∃ x y : Int, fr n d = (x, y, 0) := ⟨_, _, rfl⟩
theorem one_fr (n : Nat) : fr 1 n = (1, (n : Int), 0) := by
 unfold fr
 simp
theorem yv_le {a b ya yb : Int} (ha : In a ya) (hb : In b yb) (ab : a ≤ b) : yv a b ya yb ≤ 1400000000 ∧ (b - a).toNat * 365 ≤ yv a b ya yb ∧ yv a b ya yb ≤ (b - a).toNat * 366 := by
 have da := ha.day
 have db := hb.day
 have bt := D_between ha hb ab
 have p : 0 ≤ D b yb - D a ya := by omega
 unfold yv
 generalize D b yb - D a ya = x at *
 omega
end Go.Proofs.YtbapgkopilmdfaaDoor.X

set_option maxRecDepth 10000
namespace Go.Proofs.YtbapgkopilmdfaaDoor.X
open Go.RowKit Go.Proofs.YtbapgkopilmdfaaDoorW.PrintWords Go.Proofs.YtbapgkopilmdfaaDoorW.PrintLast Go.Proofs.YtbapgkopilmdfaaDoorW.PrintMore

theorem shown_08 : demurragelaw08_shown.f 60 = some true := by kernel_rfl
theorem shown_at : At (fun k => demurragelaw08_shown.f k) true := At.grow (K := 60) demurragelaw08_shown.mono shown_08
end Go.Proofs.YtbapgkopilmdfaaDoor.X

namespace Go.Proofs.YtbapgkopilmdfaaDoor
open Go.ChangeShapes Go.WideShapes Go.RowKit

theorem glen : Tryd.prog.globalNamed "demurrage/civil.lengths" = some 2 := by kernel_rfl
theorem gnone : Tryd.prog.globalNamed "demurrage/actual.errNone" = some 0 := by kernel_rfl
theorem gturn : Tryd.prog.globalNamed "demurrage/actual.errTurns" = some 1 := by kernel_rfl
theorem glenT : (Tryd.prog.globals[2]?).map (·.type) = some 93 := by kernel_rfl
theorem gnoneT : (Tryd.prog.globals[0]?).map (·.type) = some 66 := by kernel_rfl
theorem gturnT : (Tryd.prog.globals[1]?).map (·.type) = some 66 := by kernel_rfl
theorem cellsArr : Tryd.prog.cellsOf 93 = 13 := by kernel_rfl
theorem cellsInt : Tryd.prog.cellsOf 3 = 1 := by kernel_rfl
theorem cellsErr : Tryd.prog.cellsOf 148 = 1 := by kernel_rfl
theorem cellsStr : Tryd.prog.cellsOf 9 = 1 := by kernel_rfl
theorem star : "*" ++ "errors.errorString" = "*errors.errorString" := by decide
theorem rowErr (u : TypeId) (h : Tryd.prog.typeName? 3 u = some "*errors.errorString") : u = 122 :=
 typeName_ptr_named (nm := "errors.errorString") (by rw [star]; kernel_rfl) (by kernel_rfl) (by decide) u (by rw [star]; exact h)

def laid3 : List (String × DataW Unit) := [("demurrage/civil.lengths", Rows.laid_demurrage_civil_lengths), ("demurrage/actual.errNone", Rows.laid_demurrage_actual_errNone), ("demurrage/actual.errTurns", Rows.laid_demurrage_actual_errTurns)]

theorem int_of_trod {H : Type} {enc : TypeId × Value → H} {P : Program} {w : World} {base : Nat} {sp : Nat → Bool} {held : Bool} {fuel : Nat} {t : TypeId} {k : IntKind} {c : Value} {y : DataW H × List MemPlace}
  (ht : P.underlying t = some (.int k)) (h : DataW.trod enc P w base sp held fuel t [c] = some y) : ∃ n, c = .int k n ∧ y = (.lit (.int k n), []) := by
 cases fuel with
 | zero => simp [DataW.trod] at h
 | succ fuel =>
  cases c <;> simp [DataW.trod, ht] at h
  rename_i k' n
  obtain ⟨⟨rfl, _⟩, rfl⟩ := h
  exact ⟨n, rfl, rfl⟩

theorem laid_row {P : Program} {n : String} {d : DataW Unit} {r : List (String × DataW Unit)} {W : World} {g : Nat} {cs : Array Value} (h : laidMet P ((n, d) :: r) W) (hg : P.globalNamed n = some g) (hv : W.var? P n = some cs) (hs : 0 < cs.size) : ∃ t, W.heap[g]? = some (.cells cs t (0, 0)) := by
 obtain ⟨ps, ⟨g', t', cs', f, p, q, hg', ht', hv', hd, _, e⟩, hnd, hrows⟩ := h
 obtain rfl := Option.some.inj (hg.symm.trans hg')
 obtain rfl := Option.some.inj (hv.symm.trans hv')
 subst e
 obtain ⟨c, t, hb⟩ := (hrows g 0 (by simp [MemPlace.row, hs])).1
 refine ⟨t, ?_⟩
 unfold World.var? at hv
 rw [hg] at hv
 simp only [Option.bind_some, hb] at hv
 rw [hb, Option.some.inj hv]

theorem lens_of_laid {W : World} (h : laidMet Tryd.prog laid3 W) : W.var? Tryd.prog "demurrage/civil.lengths" = some X.lens := by
 obtain ⟨ps, ⟨g, t, cs, fuel, p, q, hg, ht, hvar, hd, _, _⟩, _⟩ := h
 obtain rfl := Option.some.inj (glen.symm.trans hg)
 obtain rfl := Option.some.inj (glenT.symm.trans ht)
 rw [hvar]
 congr 1
 obtain ⟨l⟩ := cs
 cases fuel with
 | zero => simp [DataW.trod] at hd
 | succ fuel =>
  simp only [DataW.trod, Tryd.underlying93, cellsArr, cellsInt] at hd
  split at hd
  ·rename_i hl
   obtain ⟨c0, c1, c2, c3, c4, c5, c6, c7, c8, c9, c10, c11, c12, rfl⟩ : ∃ c0 c1 c2 c3 c4 c5 c6 c7 c8 c9 c10 c11 c12, l = [c0, c1, c2, c3, c4, c5, c6, c7, c8, c9, c10, c11, c12] := by
    match l, hl with
    | [a0, a1, a2, a3, a4, a5, a6, a7, a8, a9, a10, a11, a12], _ => exact ⟨a0, a1, a2, a3, a4, a5, a6, a7, a8, a9, a10, a11, a12, rfl⟩
   have e : List.range 13 = [0, 1, 2, 3, 4, 5, 6, 7, 8, 9, 10, 11, 12] := rfl
   rw [e] at hd
   simp only [Option.map_eq_some_iff, List.mapM_cons, List.mapM_nil, Option.bind_eq_bind, Option.bind_eq_some_iff, Option.pure_def, Option.some.injEq] at hd
   obtain ⟨xs, ⟨y0, h0, _, ⟨y1, h1, _, ⟨y2, h2, _, ⟨y3, h3, _, ⟨y4, h4, _, ⟨y5, h5, _, ⟨y6, h6, _, ⟨y7, h7, _, ⟨y8, h8, _, ⟨y9, h9, _, ⟨y10, h10, _, ⟨y11, h11, _, ⟨y12, h12, _, rfl, rfl⟩, rfl⟩, rfl⟩, rfl⟩, rfl⟩, rfl⟩, rfl⟩, rfl⟩, rfl⟩, rfl⟩, rfl⟩, rfl⟩, rfl⟩, hx⟩ := hd
   obtain ⟨n0, rfl, rfl⟩ := int_of_trod Tryd.underlying3 h0
   obtain ⟨n1, rfl, rfl⟩ := int_of_trod Tryd.underlying3 h1
   obtain ⟨n2, rfl, rfl⟩ := int_of_trod Tryd.underlying3 h2
   obtain ⟨n3, rfl, rfl⟩ := int_of_trod Tryd.underlying3 h3
   obtain ⟨n4, rfl, rfl⟩ := int_of_trod Tryd.underlying3 h4
   obtain ⟨n5, rfl, rfl⟩ := int_of_trod Tryd.underlying3 h5
   obtain ⟨n6, rfl, rfl⟩ := int_of_trod Tryd.underlying3 h6
   obtain ⟨n7, rfl, rfl⟩ := int_of_trod Tryd.underlying3 h7
   obtain ⟨n8, rfl, rfl⟩ := int_of_trod Tryd.underlying3 h8
   obtain ⟨n9, rfl, rfl⟩ := int_of_trod Tryd.underlying3 h9
   obtain ⟨n10, rfl, rfl⟩ := int_of_trod Tryd.underlying3 h10
   obtain ⟨n11, rfl, rfl⟩ := int_of_trod Tryd.underlying3 h11
   obtain ⟨n12, rfl, rfl⟩ := int_of_trod Tryd.underlying3 h12
   simp [Rows.laid_demurrage_civil_lengths] at hx
   obtain ⟨⟨rfl, rfl, rfl, rfl, rfl, rfl, rfl, rfl, rfl, rfl, rfl, rfl, rfl⟩, _⟩ := hx
   rfl
  ·cases hd

theorem vars_of_laid {W : World} (h : laidMet Tryd.prog laid3 W) : X.Vars W := by
 have h1 := laidMet.tail h
 obtain ⟨a0, a1, s0, s1, c0, c1, t0, t1, hv0, hv1, hc0, hs0, hz0, hc1, hs1, hz1, hne, hb0, hb1⟩ := laid_sentinels2 h1 gnone gnoneT gturn gturnT Tryd.underlying66 rowErr Tryd.underlying122 Tryd.underlying148 rfl rfl Tryd.underlying9 cellsErr cellsStr
 obtain ⟨t2, b2⟩ := laid_row h glen (lens_of_laid h) (by decide)
 obtain ⟨t3, b3⟩ := laid_row h1 gnone hv0 (by simp)
 obtain ⟨t4, b4⟩ := laid_row (laidMet.tail h1) gturn hv1 (by simp)
 exact ⟨⟨t2, b2⟩, a0, a1, c0, c1, t0, t1, t3, t4, b3, b4, hne, hb0, hb1⟩

abbrev noneS : ByteArray := { data := #[110, 111, 32, 100, 97, 121] }
abbrev turnS : ByteArray := { data := #[100, 97, 121, 115, 32, 116, 104, 101, 32, 119, 114, 111, 110, 103, 32, 119, 97, 121, 32, 114, 111, 117, 110, 100] }
noncomputable def low : Nat := (World.holding Tryd.prog default ⟨#[], #[], []⟩).heap.size
noncomputable def laidWorld (os : Os) : World :=
 let w0 := World.holding Tryd.prog os ⟨#[.cells #[.string noneS] 148, .cells #[.string turnS] 148], #[], []⟩
 { w0 with heap := ((w0.heap.modify 0 fun
   | .cells _ t frozen => .cells #[.iface 122 (.pointer (some ⟨low, 0, none⟩))] t frozen
   | o => o).modify 1 fun
   | .cells _ t frozen => .cells #[.iface 122 (.pointer (some ⟨low + 1, 0, none⟩))] t frozen
   | o => o).modify 2 fun
   | .cells _ t frozen => .cells X.lens t frozen
   | o => o }
theorem laidWorld_met (os : Os) (args : Array Value) : laidMet Tryd.prog laid3 ((laidWorld os).forCall (fun _ _ => 0) ⟨#[], args, []⟩).memory :=
 laidMet_of_run' 16 (by kernel_rfl) (by kernel_rfl)
end Go.Proofs.YtbapgkopilmdfaaDoor

