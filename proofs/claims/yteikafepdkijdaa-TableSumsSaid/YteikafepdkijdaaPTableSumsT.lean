-- cut by prune.py, a program of this session
import Derived.Test.YteikafepdkijdaaPTableSumsXBig
import Derived.Test.YteikafepdkijdaaPTableSumsXWCmp
import Derived.Test.YteikafepdkijdaaPTableSumsXWMul
import Derived.Test.YteikafepdkijdaaPTableSumsX0
import Derived.LoopTactic
import Derived.Test.YteikafepdkijdaaPTableSumsXQuot
import Derived.Test.YteikafepdkijdaaPTableSumsHPlain
import Derived.Test.YteikafepdkijdaaPTableSumsXEq
import Derived.Test.YteikafepdkijdaaPTableSumsXAccrue
import Derived.Test.YteikafepdkijdaaPTableSumsXRound
import Derived.Test.YteikafepdkijdaaPTableSumsXRoundPart
import Derived.Test.YteikafepdkijdaaPTableSumsHEnds
import Derived.Test.YteikafepdkijdaaPTableSumsHLeast
import Derived.Test.YteikafepdkijdaaPTableSumsXMost
import Derived.Test.YteikafepdkijdaaPTableSumsHLevel
import Derived.Test.YteikafepdkijdaaPTableSumsHTable
import Derived.Test.YteikafepdkijdaaPTableSumsXShownT
import Derived.Test.YteikafepdkijdaaPTableSumsTRow
import Derived.Deep.Slices
set_option maxRecDepth 10000
namespace Go.Proofs.Yteikafepdkijdaa.X
open Go.RowKit Go.Proofs.YteikafepdkijdaaW.PrintWords Go.Proofs.YteikafepdkijdaaW.PrintLast

def At {α : Type} (f : Nat → Option α) (r : α) : Prop := ∃ K, ∀ k, K ≤ k → f k = some r
theorem At.bind {α β : Type} {f : Nat → Option α} {g : Nat → α → Option β} {a : α} {b : β} (h : At f a) (h2 : At (fun k => g k a) b) : At (fun k => (f k).bind (g k)) b := by
 obtain ⟨K, h⟩ := h
 obtain ⟨L, h2⟩ := h2
 refine ⟨max K L, fun k hk => ?_⟩
 show (f k).bind (g k) = some b
 rw [h k (by omega), Option.bind_some]
 exact h2 k (by omega)

def bv : List Int → Int
 | [] => 0
 | d :: l => d + 10000 * bv l
def Digs (l : List Int) : Prop := ∀ d ∈ l, 0 ≤ d ∧ d < 10000
def Norm (l : List Int) : Prop := ∀ l' d, l = l' ++ [d] → d ≠ 0

theorem digs_cons {d : Int} {l : List Int} : Digs (d :: l) ↔ (0 ≤ d ∧ d < 10000) ∧ Digs l := by
 unfold Digs
 simp
theorem digs_nil : Digs [] := by
 intro d hd
 cases hd
theorem norm_nil : Norm [] := by
 intro l' d h
 simp at h
theorem bv_nonneg : ∀ {l : List Int}, Digs l → 0 ≤ bv l
 | [], _ => by simp [bv]
 | d :: l, h => by
  obtain ⟨h1, h2⟩ := digs_cons.mp h
  have := bv_nonneg h2
  unfold bv
  omega
theorem norm_cons {d : Int} {l : List Int} (h : Norm l) (hd : l = [] → d ≠ 0) : Norm (d :: l) := by
 intro l' e he
 cases l' with
 | nil =>
  simp at he
  obtain ⟨rfl, rfl⟩ := he
  exact hd rfl
 | cons x l' =>
  simp at he
  exact h l' e he.2

theorem fromU_loop : ∀ (m : Nat) (x : Int), 0 ≤ x → x ≤ 18446744073709551615 → x < 10000 ^ m →
  ∃ l, (∀ acc k, m + 1 ≤ k → acc.length + m < 17592186044416 → demurrageref01_FromU.l0 k x acc = some (acc ++ l)) ∧ Digs l ∧ bv l = x ∧ Norm l ∧ l.length ≤ m := by
 intro m
 induction m with
 | zero =>
  intro x h0 _ h1
  have : x = 0 := by simp at h1; omega
  subst this
  refine ⟨[], ?_, digs_nil, rfl, norm_nil, by simp⟩
  intro acc k hk _
  cases k with
  | zero => omega
  | succ k => rw [demurrageref01_FromU.l0, if_neg (by decide), List.append_nil]
 | succ m ih =>
  intro x h0 h2 h1
  by_cases hx : x = 0
  ·subst hx
   refine ⟨[], ?_, digs_nil, rfl, norm_nil, by simp⟩
   intro acc k hk _
   cases k with
   | zero => omega
   | succ k => rw [demurrageref01_FromU.l0, if_neg (by decide), List.append_nil]
  ·have p1 : x / 10000 < 10000 ^ m := by
    rw [Int.pow_succ] at h1
    exact Int.ediv_lt_of_lt_mul (by omega) h1
   obtain ⟨l, e, d, v, n, c⟩ := ih (x / 10000) (by omega) (by omega) p1
   refine ⟨x % 10000 :: l, ?_, digs_cons.mpr ⟨by omega, d⟩, ?_, norm_cons n ?_, by simp; omega⟩
   ·intro acc k hk hl
    cases k with
    | zero => omega
    | succ k =>
     have w1 : IntKind.u64.wrap (Int.tdiv x 10000) = x / 10000 := IntWalk.u64_quo x 10000 ⟨h0, h2, by omega⟩
     have w2 : wrap64 (Int.tmod x 10000) = x % 10000 := by
      rw [Int.tmod_eq_emod_of_nonneg h0]
      exact IntWalk.wrap64_in (x % 10000) ⟨by omega, by omega⟩
     rw [demurrageref01_FromU.l0, if_pos (show x > 0 by clear w1 w2; omega), if_pos (show acc.length < 17592186044416 by clear w1 w2; omega), w1, w2]
     clear w1 w2
     rw [e (acc ++ [x % 10000]) k (by omega) (by simp; omega)]
     simp
   ·rw [bv, v]; omega
   ·intro hn
    rw [hn] at v
    simp [bv] at v
    omega

theorem fromU_at {x : Int} (h : U64 x) : ∃ l, At (fun k => demurrageref01_FromU.f k x) l ∧ Digs l ∧ bv l = x ∧ Norm l ∧ l.length ≤ 5 := by
 obtain ⟨h0, h1⟩ := h
 have hp : x < 10000 ^ 5 := by
  have : (10000 : Int) ^ 5 = 100000000000000000000 := by decide
  omega
 obtain ⟨l, e, d, v, n, c⟩ := fromU_loop 5 x h0 (by omega) hp
 refine ⟨l, ⟨6, fun k hk => ?_⟩, d, v, n, c⟩
 show demurrageref01_FromU.l0 k x [] = some l
 rw [e [] k hk (by simp), List.nil_append]
end Go.Proofs.Yteikafepdkijdaa.X

set_option maxRecDepth 10000
namespace Go.Proofs.Yteikafepdkijdaa.X
open Go.RowKit Go.Proofs.YteikafepdkijdaaW.PrintWords Go.Proofs.YteikafepdkijdaaW.PrintLast

theorem getD_digs {l : List Int} (h : Digs l) (i : Nat) : 0 ≤ l.getD i 0 ∧ l.getD i 0 < 10000 := by
 by_cases hi : i < l.length
 ·rw [List.getD_eq_getElem?_getD, List.getElem?_eq_getElem hi]
  exact h _ (List.getElem_mem hi)
 ·rw [List.getD_eq_getElem?_getD, List.getElem?_eq_none (by omega)]
  simp
def hv (l : List Int) (i : Nat) : Int := bv (l.drop i)
theorem hv_step : ∀ (l : List Int) (i : Nat), hv l i = l.getD i 0 + 10000 * hv l (i + 1)
 | [], i => by simp [hv, bv]
 | d :: l, 0 => by simp [hv, bv]
 | d :: l, i + 1 => by
  have := hv_step l i
  simpa [hv] using this
theorem hv_zero (l : List Int) : hv l 0 = bv l := by simp [hv]
theorem hv_end {l : List Int} {i : Nat} (h : l.length ≤ i) : hv l i = 0 := by
 unfold hv
 rw [List.drop_eq_nil_of_le h]
 rfl
theorem hv_less {a b : List Int} (ha : Digs a) (hb : Digs b) : ∀ (i : Nat), hv a i < hv b i → hv a 0 < hv b 0
 | 0, h => h
 | i + 1, h => by
  apply hv_less ha hb i
  rw [hv_step a i, hv_step b i]
  have := getD_digs ha i
  have := getD_digs hb i
  omega

theorem part_eq {l : List Int} {i : Nat} : demurrageref01_part.f l (i : Int) = some (l.getD i 0) := by
 unfold demurrageref01_part.f rd
 by_cases h : (i : Int) < (l.length : Int)
 ·rw [if_pos h, if_pos (Int.natCast_nonneg i), Int.toNat_natCast]
 ·rw [if_neg h, List.getD_eq_getElem?_getD, List.getElem?_eq_none (by omega)]
  rfl

def bsg (x y : Int) : Int := if x < y then -1 else if x = y then 0 else 1

theorem cmp_loop {a b : List Int} (ha : Digs a) (hb : Digs b) : ∀ (i k : Nat), i + 1 ≤ k → (i : Int) < 9223372036854775807 → hv a i = hv b i → demurrageref01_Cmp.l0 k ((i : Int) - 1) a b = some (bsg (bv a) (bv b)) := by
 intro i
 induction i with
 | zero =>
  intro k hk _ h
  cases k with
  | zero => omega
  | succ k =>
   rw [demurrageref01_Cmp.l0, if_neg (by omega)]
   rw [hv_zero, hv_zero] at h
   unfold bsg
   rw [h, if_neg (by omega), if_pos rfl]
 | succ i ih =>
  intro k hk hm h
  cases k with
  | zero => omega
  | succ k =>
   have e : ((i + 1 : Nat) : Int) - 1 = (i : Int) := by omega
   rw [e, demurrageref01_Cmp.l0, if_pos (by omega), part_eq, part_eq]
   rw [Option.bind_some, Option.bind_some]
   have s1 := hv_step a i
   have s2 := hv_step b i
   by_cases h1 : a.getD i 0 < b.getD i 0
   ·rw [if_pos h1]
    have := hv_less ha hb i (by omega)
    rw [hv_zero, hv_zero] at this
    unfold bsg
    rw [if_pos this]
   ·rw [if_neg h1]
    by_cases h2 : a.getD i 0 > b.getD i 0
    ·rw [if_pos h2]
     have := hv_less hb ha i (by omega)
     rw [hv_zero, hv_zero] at this
     unfold bsg
     rw [if_neg (by omega), if_neg (by omega)]
    ·rw [if_neg h2, IntWalk.wrap64_in ((i : Int) - 1) ⟨by omega, by omega⟩]
     exact ih k (by omega) (by omega) (by omega)

theorem cmp_at {a b : List Int} (ha : Digs a) (hb : Digs b) (la : a.length < 9223372036854775807) (lb : b.length < 9223372036854775807) : At (fun k => demurrageref01_Cmp.f k a b) (bsg (bv a) (bv b)) := by
 refine ⟨a.length + b.length + 3, fun k hk => ?_⟩
 show demurrageref01_Cmp.f k a b = _
 unfold demurrageref01_Cmp.f
 cases k with
 | zero => omega
 | succ k =>
  by_cases h : (b.length : Int) > (a.length : Int)
  ·rw [if_pos h, demurrageref01_Cmp.j0, IntWalk.wrap64_in ((b.length : Int) - 1) ⟨by omega, by omega⟩]
   exact cmp_loop ha hb b.length k (by omega) (by omega) (by rw [hv_end (by omega), hv_end (by omega)])
  ·rw [if_neg h, demurrageref01_Cmp.j0, IntWalk.wrap64_in ((a.length : Int) - 1) ⟨by omega, by omega⟩]
   exact cmp_loop ha hb a.length k (by omega) (by omega) (by rw [hv_end (by omega), hv_end (by omega)])
end Go.Proofs.Yteikafepdkijdaa.X

set_option maxRecDepth 10000
namespace Go.Proofs.Yteikafepdkijdaa.X
open Go.RowKit Go.Proofs.YteikafepdkijdaaW.PrintWords Go.Proofs.YteikafepdkijdaaW.PrintLast

theorem wrap64_small {x : Int} (h0 : -9223372036854775808 ≤ x) (h1 : x ≤ 9223372036854775807) : wrap64 x = x := IntWalk.wrap64_in x ⟨h0, h1⟩

theorem plus_step {a b out : List Int} {i k : Nat} {c : Int} (ha : Digs a) (hb : Digs b) (hc : c = 0 ∨ c = 1) (hi : (i : Int) < 4611686018427387904) (go : i < a.length ∨ i < b.length ∨ c > 0) (ho : out.length < 17592186044416) :
  demurrageref01_Plus.l0 (k + 2) out c (i : Int) a b = demurrageref01_Plus.l0 k (out ++ [(a.getD i 0 + b.getD i 0 + c) % 10000]) ((a.getD i 0 + b.getD i 0 + c) / 10000) ((i + 1 : Nat) : Int) a b := by
 have d1 := getD_digs ha i
 have d2 := getD_digs hb i
 have e1 : wrap64 (a.getD i 0 + b.getD i 0) = a.getD i 0 + b.getD i 0 := wrap64_small (by omega) (by omega)
 have e2 : wrap64 (a.getD i 0 + b.getD i 0 + c) = a.getD i 0 + b.getD i 0 + c := wrap64_small (by clear e1; omega) (by clear e1; omega)
 have e3 : Int.tmod (a.getD i 0 + b.getD i 0 + c) 10000 = (a.getD i 0 + b.getD i 0 + c) % 10000 := Int.tmod_eq_emod_of_nonneg (by clear e1 e2; omega)
 have e4 : Int.tdiv (a.getD i 0 + b.getD i 0 + c) 10000 = (a.getD i 0 + b.getD i 0 + c) / 10000 := Int.tdiv_eq_ediv_of_nonneg (by clear e1 e2; omega)
 have e5 : wrap64 ((a.getD i 0 + b.getD i 0 + c) / 10000) = (a.getD i 0 + b.getD i 0 + c) / 10000 := wrap64_small (by clear e1 e2 e3 e4; omega) (by clear e1 e2 e3 e4; omega)
 have e6 : wrap64 ((i : Int) + 1) = ((i + 1 : Nat) : Int) := by
  rw [wrap64_small (by clear e1 e2 e3 e4 e5; omega) (by clear e1 e2 e3 e4 e5; omega)]; clear e1 e2 e3 e4 e5; omega
 have body : demurrageref01_Plus.j1 (k + 1) out c (i : Int) true a b = demurrageref01_Plus.l0 k (out ++ [(a.getD i 0 + b.getD i 0 + c) % 10000]) ((a.getD i 0 + b.getD i 0 + c) / 10000) ((i + 1 : Nat) : Int) a b := by
  rw [demurrageref01_Plus.j1, if_pos rfl, part_eq, Option.bind_some, part_eq, Option.bind_some, if_pos ho, e1, e2, e3, e4, e5, e6]
 clear e1 e2 e3 e4 e5 e6
 rw [demurrageref01_Plus.l0]
 by_cases h1 : (i : Int) < (a.length : Int)
 ·rw [if_pos h1, body]
 ·rw [if_neg h1]
  by_cases h2 : (i : Int) < (b.length : Int)
  ·rw [if_pos h2, body]
  ·rw [if_neg h2, show decide (c > 0) = true from decide_eq_true (by clear body; omega), body]

theorem plus_stop {a b out : List Int} {i k : Nat} (h1 : a.length ≤ i) (h2 : b.length ≤ i) : demurrageref01_Plus.l0 (k + 2) out 0 (i : Int) a b = some out := by
 rw [demurrageref01_Plus.l0, if_neg (by omega), if_neg (by omega), show decide ((0 : Int) > 0) = false from rfl, demurrageref01_Plus.j1, if_neg (by decide)]

theorem plus_loop {a b : List Int} (ha : Digs a) (hb : Digs b) : ∀ (m i : Nat) (c : Int), a.length ≤ i + m → b.length ≤ i + m → (c = 0 ∨ c = 1) → i + m < 4611686018427387900 →
  ∃ s, (∀ out k, 2 * m + 4 ≤ k → out.length + m + 1 < 17592186044416 → demurrageref01_Plus.l0 k out c (i : Int) a b = some (out ++ s)) ∧ Digs s ∧ bv s = hv a i + hv b i + c ∧ s.length ≤ m + 1 := by
 intro m
 induction m with
 | zero =>
  intro i c h1 h2 hc hi
  have z1 := hv_end (l := a) (i := i) (by omega)
  have z2 := hv_end (l := b) (i := i) (by omega)
  have y1 := hv_step a i
  have y2 := hv_step b i
  have z3 := hv_end (l := a) (i := i + 1) (by omega)
  have z4 := hv_end (l := b) (i := i + 1) (by omega)
  rcases hc with rfl | rfl
  ·refine ⟨[], ?_, digs_nil, by rw [z1, z2]; rfl, by simp⟩
   intro out k hk _
   obtain ⟨k, rfl⟩ : ∃ j, k = j + 2 := ⟨k - 2, by omega⟩
   rw [plus_stop (by omega) (by omega), List.append_nil]
  ·refine ⟨[1], ?_, ?_, by rw [z1, z2]; rfl, by simp⟩
   ·intro out k hk ho
    obtain ⟨k, rfl⟩ : ∃ j, k = j + 2 + 2 := ⟨k - 4, by omega⟩
    have e : a.getD i 0 + b.getD i 0 + 1 = 1 := by omega
    rw [plus_step ha hb (Or.inr rfl) (by omega) (Or.inr (Or.inr (by omega))) (by omega), e]
    exact plus_stop (by omega) (by omega)
   ·intro d hd
    simp at hd
    omega
 | succ m ih =>
  intro i c h1 h2 hc hi
  by_cases go : i < a.length ∨ i < b.length
  ·have d1 := getD_digs ha i
   have d2 := getD_digs hb i
   have y1 := hv_step a i
   have y2 := hv_step b i
   obtain ⟨s, e, ds, v, l⟩ := ih (i + 1) ((a.getD i 0 + b.getD i 0 + c) / 10000) (by omega) (by omega) (by omega) (by omega)
   refine ⟨(a.getD i 0 + b.getD i 0 + c) % 10000 :: s, ?_, digs_cons.mpr ⟨by omega, ds⟩, by rw [bv, v]; omega, by simp; omega⟩
   intro out k hk ho
   obtain ⟨k, rfl⟩ : ∃ j, k = j + 2 := ⟨k - 2, by omega⟩
   rw [plus_step ha hb hc (by omega) (by omega) (by omega), e _ k (by omega) (by simp; omega)]
   simp
  ·obtain ⟨s, e, ds, v, l⟩ : ∃ s, (∀ out k, 2 * m + 4 ≤ k → out.length + m + 1 < 17592186044416 → demurrageref01_Plus.l0 k out c (i : Int) a b = some (out ++ s)) ∧ Digs s ∧ bv s = hv a i + hv b i + c ∧ s.length ≤ m + 1 := ih i c (by omega) (by omega) hc (by omega)
   exact ⟨s, fun out k hk ho => e out k (by omega) (by omega), ds, v, by omega⟩

theorem plus_at {a b : List Int} (ha : Digs a) (hb : Digs b) (la : a.length < 1000000) (lb : b.length < 1000000) : ∃ s, At (fun k => demurrageref01_Plus.f k a b) s ∧ Digs s ∧ bv s = bv a + bv b ∧ s.length ≤ a.length + b.length + 1 := by
 obtain ⟨s, e, ds, v, l⟩ := plus_loop ha hb (a.length + b.length) 0 0 (by omega) (by omega) (Or.inl rfl) (by omega)
 refine ⟨s, ⟨2 * (a.length + b.length) + 4, fun k hk => ?_⟩, ds, ?_, l⟩
 ·have := e [] k hk (by simp; omega)
  rw [List.nil_append] at this
  exact this
 ·rw [v, hv_zero, hv_zero]
  omega
end Go.Proofs.Yteikafepdkijdaa.X

set_option maxRecDepth 10000
namespace Go.Proofs.Yteikafepdkijdaa.X
open Go.RowKit Go.Proofs.YteikafepdkijdaaW.PrintWords Go.Proofs.YteikafepdkijdaaW.PrintLast

theorem At.done {α : Type} {f : Nat → Option α} {a : α} (h : At f a) : At (fun k => (f k).bind fun t => some t) a := At.bind h ⟨0, fun _ _ => rfl⟩

end Go.Proofs.Yteikafepdkijdaa.X

set_option maxRecDepth 10000
namespace Go.Proofs.Yteikafepdkijdaa.X
open Go.RowKit Go.Proofs.YteikafepdkijdaaW.PrintWords Go.Proofs.YteikafepdkijdaaW.PrintLast

theorem from_at {x : Int} (h : 0 ≤ x ∧ x < 9223372036854775808) : ∃ l, At (fun k => demurrageref01_From.f k x) l ∧ Digs l ∧ bv l = x ∧ Norm l ∧ l.length ≤ 5 := by
 obtain ⟨l, h1, h2, h3, h4, h5⟩ := fromU_at (x := x) ⟨h.1, by omega⟩
 refine ⟨l, ?_, h2, h3, h4, h5⟩
 unfold demurrageref01_From.f
 rw [IntWalk.u64_in x ⟨h.1, by omega⟩]
 exact At.done h1

end Go.Proofs.Yteikafepdkijdaa.X

namespace Go.Proofs.Yteikafepdkijdaa.X
open Go.RowKit Go.Proofs.YteikafepdkijdaaW.PrintWords Go.Proofs.YteikafepdkijdaaW.PrintLast

theorem At.grow {α : Type} {f : Nat → Option α} {r : α} {K : Nat} (m : ∀ k, LeO (f k) (f (k + 1))) (h : f K = some r) : At f r := by
 refine ⟨K, fun k hk => ?_⟩
 obtain ⟨n, rfl⟩ : ∃ n, k = K + n := ⟨k - K, by omega⟩
 clear hk
 induction n with
 | zero => exact h
 | succ n ih => exact m (K + n) r ih
theorem i64_wf {a : Int} (h : (Lit.int .i64 a).wf = true) : -9223372036854775808 ≤ a ∧ a < 9223372036854775808 := by
 simp only [Lit.wf, IntKind.min, IntKind.max, IntKind.signed, IntKind.bits, Bool.and_eq_true] at h
 simp at h
 omega
end Go.Proofs.Yteikafepdkijdaa.X

set_option maxRecDepth 10000
namespace Go.Proofs.Yteikafepdkijdaa.Pure
open Go.RowKit Go.Proofs.Yteikafepdkijdaa.X Go.Proofs.YteikafepdkijdaaW.PrintWords Go.Proofs.YteikafepdkijdaaW.PrintLast

theorem shown_table : demurragelaw21_shown.f 30 = some true := by kernel_rfl
theorem shown_at : At (fun k => demurragelaw21_shown.f k) true := At.grow (K := 30) demurragelaw21_shown.mono shown_table

end Go.Proofs.Yteikafepdkijdaa.Pure

set_option maxRecDepth 10000
namespace Go.Proofs.Yteikafepdkijdaa.Pure
open Go.RowKit Go.Proofs.Yteikafepdkijdaa.X Go.Proofs.YteikafepdkijdaaW.PrintWords Go.Proofs.YteikafepdkijdaaW.PrintLast

theorem rd_get (X : List S48) {i : Nat} (h : i < X.length) : rd_T48 X (i : Int) = X[i] := by
 unfold rd_T48
 rw [Int.toNat_natCast, List.getD_eq_getElem?_getD, List.getElem?_eq_getElem h]
 rfl

end Go.Proofs.Yteikafepdkijdaa.Pure

namespace Go.Proofs.Yteikafepdkijdaa.Flat
open Go.Deep Go.ChangeShapes Go.WideShapes Go.ChangeAt Go.RowKit Go.Proofs.Yteikafepdkijdaa.X Go.Proofs.YteikafepdkijdaaW.PrintWords

set_option maxRecDepth 100000 in
theorem open_rows {H : Type} {enc : TypeId × Value → H} {w : World} {base : Nat} {spare : Nat → Bool} {held : Bool} {r : Reach} {b0 : Nat} {v : Value} {d : DataW H} {ps : List MemPlace}
  (hv : Value.okWide Try.prog w r b0 33 v) (h : DataW.Trod enc Try.prog w base spare held 33 v d ps) :
  ∃ (A : Option Addr) (c : Nat) (l : List S48), v = .slice A l.length c ∧ l.length ≤ c ∧ Kd.C k48 w A l.length l ∧ ∀ x ∈ l, (Lit.int .i64 x.f0).wf = true ∧ (Lit.int .i64 x.f1).wf = true ∧ (Lit.int .i64 x.f2).wf = true ∧ (Lit.int .i64 x.f3).wf = true ∧ (Lit.int .i64 x.f4).wf = true := by
 obtain ⟨a, len, cap, rfl⟩ := okWide_slice Try.underlying33 hv
 obtain ⟨fuel, hf⟩ := h
 rcases open_slice Try.underlying33 hf with ⟨hcs, _⟩ | ⟨x, ln, cp, m, n, D, Pl, hcs, hb, hl, hm, hmm, hx, hel⟩
 ·simp [Value.cells] at hcs
  obtain ⟨rfl, rfl, rfl⟩ := hcs
  exact ⟨none, 0, [], rfl, Nat.le_refl _, Kd.C_nil _ _, fun x hx => by cases hx⟩
 ·simp [Value.cells] at hcs
  obtain ⟨rfl, rfl, rfl⟩ := hcs
  have hlm : len ≤ m := by rw [hmm]; split <;> omega
  have hc2 : Try.prog.cellsOf 48 = 5 := by kernel_rfl
  have each : ∀ i, i < len → ∃ q : S48, w.cell? (x.add (i * 5)) = some (.int .i64 q.f0) ∧ w.cell? (x.add (i * 5 + 1)) = some (.int .i64 q.f1) ∧ w.cell? (x.add (i * 5 + 2)) = some (.int .i64 q.f2) ∧ w.cell? (x.add (i * 5 + 3)) = some (.int .i64 q.f3) ∧ w.cell? (x.add (i * 5 + 4)) = some (.int .i64 q.f4) ∧ (Lit.int .i64 q.f0).wf = true ∧ (Lit.int .i64 q.f1).wf = true ∧ (Lit.int .i64 q.f2).wf = true ∧ (Lit.int .i64 q.f3).wf = true ∧ (Lit.int .i64 q.f4).wf = true := by
   intro i hi
   obtain ⟨cs', h1, h2⟩ := hel i (by omega)
   rw [hc2] at h1
   obtain ⟨_, hlen, hcell⟩ := World.cells?_some h1
   obtain ⟨hcc, _⟩ := Flat.read 6 n 48 [.i64, .i64, .i64, .i64, .i64] cs' (D i, Pl i) (by kernel_rfl) hc2 h2
   obtain ⟨n0, vs, rfl, w0, hcc⟩ := cells_cons hcc
   obtain ⟨n1, vs, rfl, w1, hcc⟩ := cells_cons hcc
   obtain ⟨n2, vs, rfl, w2, hcc⟩ := cells_cons hcc
   obtain ⟨n3, vs, rfl, w3, hcc⟩ := cells_cons hcc
   obtain ⟨n4, vs, rfl, w4, hcc⟩ := cells_cons hcc
   obtain rfl := cells_nil hcc
   have c0 := hcell 0 (by omega)
   have c1 := hcell 1 (by omega)
   have c2 := hcell 2 (by omega)
   have c3 := hcell 3 (by omega)
   have c4 := hcell 4 (by omega)
   rw [Go.Deep.add_add] at c0 c1 c2 c3 c4
   exact ⟨⟨n0, n1, n2, n3, n4⟩, by simpa using c0, by simpa using c1, by simpa using c2, by simpa using c3, by simpa using c4, w0, w1, w2, w3, w4⟩
  haveI : Inhabited S48 := ⟨⟨0, 0, 0, 0, 0⟩⟩
  obtain ⟨q, hq⟩ := choose_lt each
  have el : ((List.range len).map q).length = len := by simp
  refine ⟨some x, cap, (List.range len).map q, by rw [el], by omega, ?_, ?_⟩
  ·rw [el]
   refine ⟨el, by unfold maxLen at hm; omega, fun _ => ⟨x, rfl, fun j p hj => ?_⟩⟩
   obtain ⟨h1, h2⟩ := List.getElem?_eq_some_iff.1 hj
   rw [el] at h1
   have e : p = q j := by rw [← h2]; simp
   subst e
   obtain ⟨g0, g1, g2, g3, g4, _, _, _, _, _⟩ := hq j h1
   refine ⟨[.int .i64 (q j).f0, .int .i64 (q j).f1, .int .i64 (q j).f2, .int .i64 (q j).f3, .int .i64 (q j).f4], rfl, k48_mk w (q j), fun i u hu => ?_⟩
   match i, hu with
   | 0, hu =>
    simp at hu
    subst hu
    exact g0
   | 1, hu =>
    simp at hu
    subst hu
    exact g1
   | 2, hu =>
    simp at hu
    subst hu
    exact g2
   | 3, hu =>
    simp at hu
    subst hu
    exact g3
   | 4, hu =>
    simp at hu
    subst hu
    exact g4
   | i + 5, hu => simp at hu
  ·intro y hy
   obtain ⟨j, hj, rfl⟩ := List.mem_map.1 hy
   have := List.mem_range.1 hj
   exact (hq j this).2.2.2.2.2
end Go.Proofs.Yteikafepdkijdaa.Flat

