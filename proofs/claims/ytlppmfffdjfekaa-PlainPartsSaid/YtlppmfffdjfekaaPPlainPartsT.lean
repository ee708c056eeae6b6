-- cut by prune.py, a program of this session
import Derived.Test.YtlppmfffdjfekaaPPlainPartsXWCmp
import Derived.Test.YtlppmfffdjfekaaPPlainPartsXWMul
import Derived.Test.YtlppmfffdjfekaaPPlainPartsX0
import Derived.LoopTactic
import Derived.Test.YtlppmfffdjfekaaPPlainPartsXRound
import Derived.Test.YtlppmfffdjfekaaPPlainPartsXRoundPart
import Derived.Test.YtlppmfffdjfekaaPPlainPartsXRefRight
import Derived.Test.YtlppmfffdjfekaaPPlainPartsXAccrue
import Derived.Test.YtlppmfffdjfekaaPPlainPartsHPlain
import Derived.Test.YtlppmfffdjfekaaPPlainPartsXEq
import Derived.Test.YtlppmfffdjfekaaPPlainPartsXUsual
import Derived.Test.YtlppmfffdjfekaaPPlainPartsTRow
import Derived.Deep.Slices
namespace Go.Proofs.Ytlppmfffdjfekaa.X
open Go.RowKit Go.Proofs.YtlppmfffdjfekaaW.PrintWords Go.Proofs.YtlppmfffdjfekaaW.PrintLast

theorem u64_wf {a : Int} (h : (Lit.int .u64 a).wf = true) : U64 a := by
  simp only [Lit.wf, IntKind.min, IntKind.max, IntKind.signed, IntKind.bits, Bool.and_eq_true] at h
  simp at h
  exact ⟨h.1, by omega⟩

theorem mul_eq {a b : Int} (ha : U64 a) (hb : U64 b) : wide_Mul.f a b = some (a * b / 18446744073709551616, a * b % 18446744073709551616) := by
  unfold wide_Mul.f bits_Mul64.f
  rw [if_pos ⟨ha, hb⟩]
  rfl

theorem mul_lt {a b : Int} (ha : U64 a) (hb : U64 b) : 0 ≤ a * b ∧ a * b ≤ 340282366920938463426481119284349108225 := by
  obtain ⟨a1, a2⟩ := ha
  obtain ⟨b1, b2⟩ := hb
  refine ⟨Int.mul_nonneg a1 b1, ?_⟩
  have h1 : a * b ≤ 18446744073709551615 * b := Int.mul_le_mul_of_nonneg_right (by omega) b1
  omega

theorem compare_eq (a b : Int) : cmp_Compare_uint64.f a b = some (if a < b then -1 else if a = b then 0 else 1) := by
  unfold cmp_Compare_uint64.f cmp_isNaN_uint64.f
  simp only [bne_self_eq_false, Option.bind_some, Bool.false_eq_true, if_false]
  split
  · rfl
  · split
    · rw [if_neg (by omega)]
    · rw [if_pos (by omega)]

theorem wcmp_eq {h1 l1 h2 l2 : Int} (a1 : U64 h1) (a2 : U64 l1) (b1 : U64 h2) (b2 : U64 l2) : wide_Cmp.f h1 l1 h2 l2 = some (if wv h1 l1 < wv h2 l2 then -1 else if wv h1 l1 = wv h2 l2 then 0 else 1) := by
  unfold wide_Cmp.f
  simp only [compare_eq, Option.bind_some]
  obtain ⟨p1, p2⟩ := a1
  obtain ⟨p3, p4⟩ := a2
  obtain ⟨p5, p6⟩ := b1
  obtain ⟨p7, p8⟩ := b2
  unfold wv
  split
  · subst h1
    congr 1
    repeat' split
    all_goals omega
  · congr 1
    repeat' split
    all_goals omega

theorem of_eq (a : Int) : wide_Of.f a = some (0, a) := rfl

theorem add_eq {h1 l1 h2 l2 : Int} (a1 : U64 h1) (a2 : U64 l1) (b1 : U64 h2) (b2 : U64 l2) : wide_Add.f h1 l1 h2 l2 = some (if wv h1 l1 + wv h2 l2 < 340282366920938463463374607431768211456 then ((wv h1 l1 + wv h2 l2) / 18446744073709551616, (wv h1 l1 + wv h2 l2) % 18446744073709551616, 0) else (0, 0, 6)) := by
  unfold wide_Add.f
  rw [if_pos ⟨⟨a1, a2⟩, b1, b2⟩]
  split <;> rfl
theorem times_eq {h l n : Int} (a1 : U64 h) (a2 : U64 l) (b : U64 n) : wide_Times.f h l n = some (if wv h l * n < 340282366920938463463374607431768211456 then (wv h l * n / 18446744073709551616, wv h l * n % 18446744073709551616, 0) else (0, 0, 6)) := by
  unfold wide_Times.f
  have m1 := mul_lt a1 b
  have m2 := mul_lt a2 b
  have e : wv h l * n = h * n * 18446744073709551616 + l * n := by unfold wv; rw [Int.add_mul, Int.mul_right_comm]
  rw [mul_eq a2 b, mul_eq a1 b, e]
  generalize h * n = p at m1
  generalize l * n = q at m2
  simp only [Option.bind_some]
  split
  · rename_i hz
    rw [add_eq ⟨by omega, by omega⟩ ⟨by omega, by omega⟩ ⟨by omega, by omega⟩ ⟨by omega, by omega⟩]
    have e2 : wv (q / 18446744073709551616) (q % 18446744073709551616) + wv (p % 18446744073709551616) 0 = p * 18446744073709551616 + q := by unfold wv; omega
    rw [e2]
    simp only [Option.bind_some]
  · rw [if_neg (by omega)]

theorem div_eq {h l d : Int} (a1 : U64 h) (a2 : U64 l) (b : U64 d) (hd : d ≠ 0) : wide_Div.f h l d = some (wv h l / d / 18446744073709551616, wv h l / d % 18446744073709551616, wv h l % d, 0) := by
  unfold wide_Div.f
  rw [if_pos ⟨a1, a2, b⟩, if_neg hd]
  obtain ⟨p1, p2⟩ := a1
  obtain ⟨p3, p4⟩ := a2
  obtain ⟨p5, p6⟩ := b
  have e : wv h l = (h % d * 18446744073709551616 + l) + d * (h / d * 18446744073709551616) := by
    unfold wv
    have := Int.mul_ediv_add_emod h d
    conv => lhs; rw [← this]
    rw [Int.add_mul, Int.mul_assoc]
    omega
  have m1 := Int.emod_nonneg h hd
  have m2 := Int.emod_lt_of_pos h (show 0 < d by omega)
  have q1 : 0 ≤ (h % d * 18446744073709551616 + l) / d := Int.ediv_nonneg (by omega) p5
  have q2 : (h % d * 18446744073709551616 + l) / d < 18446744073709551616 := by
    refine Int.ediv_lt_of_lt_mul (by omega) ?_
    omega
  rw [e, Int.add_mul_ediv_left _ _ hd, Int.add_mul_emod_self_left]
  generalize (h % d * 18446744073709551616 + l) / d = q at q1 q2
  generalize (h % d * 18446744073709551616 + l) % d = r
  have e1 : (q + h / d * 18446744073709551616) / 18446744073709551616 = h / d := by omega
  have e2 : (q + h / d * 18446744073709551616) % 18446744073709551616 = q := by omega
  rw [e1, e2]
/-- What a wide number's halves are. -/
theorem wv_parts {x : Int} (h0 : 0 ≤ x) (h1 : x < 340282366920938463463374607431768211456) : U64 (x / 18446744073709551616) ∧ U64 (x % 18446744073709551616) ∧ wv (x / 18446744073709551616) (x % 18446744073709551616) = x :=
  ⟨⟨by omega, by omega⟩, ⟨by omega, by omega⟩, by unfold wv; omega⟩
theorem wv_lt {h l : Int} (a1 : U64 h) (a2 : U64 l) : 0 ≤ wv h l ∧ wv h l < 340282366920938463463374607431768211456 := by
  obtain ⟨p1, p2⟩ := a1
  obtain ⟨p3, p4⟩ := a2
  unfold wv
  omega
end Go.Proofs.Ytlppmfffdjfekaa.X

set_option maxRecDepth 10000
namespace Go.Proofs.Ytlppmfffdjfekaa.X
open Go.RowKit Go.Proofs.YtlppmfffdjfekaaW.PrintWords Go.Proofs.YtlppmfffdjfekaaW.PrintLast

/-- With rounds enough the answer is this one. -/
def At {α : Type} (f : Nat → Option α) (r : α) : Prop := ∃ K, ∀ k, K ≤ k → f k = some r

end Go.Proofs.Ytlppmfffdjfekaa.X

set_option maxRecDepth 10000
namespace Go.Proofs.Ytlppmfffdjfekaa.X
open Go.RowKit Go.Proofs.YtlppmfffdjfekaaW.PrintWords Go.Proofs.YtlppmfffdjfekaaW.PrintLast

theorem wrap64_small {x : Int} (h0 : -9223372036854775808 ≤ x) (h1 : x ≤ 9223372036854775807) : wrap64 x = x := IntWalk.wrap64_in x ⟨h0, h1⟩

end Go.Proofs.Ytlppmfffdjfekaa.X

namespace Go.Proofs.Ytlppmfffdjfekaa.X
open Go.RowKit Go.Proofs.YtlppmfffdjfekaaW.PrintWords Go.Proofs.YtlppmfffdjfekaaW.PrintLast

theorem rtold_eq {h l : Int} (a1 : U64 h) (a2 : U64 l) : round_told.f h l = some (if wv h l ≤ 4611686018427387904 then (wv h l, 0) else (0, 6)) := by
  unfold round_told.f
  rw [of_eq]
  simp only [Option.bind_some]
  rw [wcmp_eq a1 a2 (by decide) (by decide)]
  have e : wv 0 4611686018427387904 = 4611686018427387904 := by unfold wv; omega
  rw [e]
  simp only [Option.bind_some]
  by_cases h1 : wv h l ≤ 4611686018427387904
  · have e2 : wv h l = l := by
      obtain ⟨p1, p2⟩ := a1
      obtain ⟨p3, p4⟩ := a2
      unfold wv at h1 ⊢
      omega
    rw [if_pos h1, if_neg (by split; · omega
                              · split <;> omega), IntWalk.wrap64_in l (by have := a2.1; omega), e2]
  · rw [if_neg h1, if_neg (show ¬ wv h l < 4611686018427387904 by omega), if_neg (show ¬ wv h l = 4611686018427387904 by omega), if_pos (by omega)]

/-- Is the whole number above the nearer one (of x / m)? -/
def nearer (x m : Int) : Bool := decide (x % m > m - x % m) || (decide (x % m = m - x % m) && decide (x / m % 2 = 1))
/-- The quotient, rounded to the next whole number, a half to the even one. -/
def ev (x m : Int) : Int := if nearer x m then x / m + 1 else x / m

theorem up_eq {r m : Int} (odd : Bool) (h0 : 0 ≤ r) (h1 : r < m) (hm : U64 m) (k : Nat) : round_up.f (k + 1) r m odd = some (decide (r > m - r) || (decide (r = m - r) && odd)) := by
  unfold round_up.f
  rw [IntWalk.u64_in (m - r) (by have := hm.2; omega)]
  by_cases h2 : r = m - r
  · rw [if_pos h2, round_up.j0]
    cases odd with
    | true => simp [← h2]
    | false => simp [← h2]
  · rw [if_neg h2, round_up.j0]
    by_cases h3 : r > m - r
    · simp [h3]
    · simp [h2, h3]

theorem even_eq {h l d : Int} (a1 : U64 h) (a2 : U64 l) (b : U64 d) (hd : d ≠ 0) (k : Nat) :
    round_Even.f (k + 1) h l d = some (if wv h l / d ≤ 4611686018427387904 ∧ ev (wv h l) d ≤ 4611686018427387904 then (ev (wv h l) d, 0) else (0, 6)) := by
  have lx := wv_lt a1 a2
  have d1 : 0 ≤ wv h l / d := Int.ediv_nonneg lx.1 b.1
  have d2 : wv h l / d ≤ wv h l := Int.ediv_le_self _ lx.1
  have r0 := Int.emod_nonneg (wv h l) hd
  have r1 := Int.emod_lt_of_pos (wv h l) (show 0 < d by have := b.1; omega)
  obtain ⟨p1, p2, p3⟩ := wv_parts d1 (by omega)
  unfold round_Even.f
  rw [div_eq a1 a2 b hd]
  simp only [Option.bind_some, if_true]
  rw [rtold_eq p1 p2, p3]
  simp only [Option.bind_some]
  by_cases h1 : wv h l / d ≤ 4611686018427387904
  · simp only [if_pos h1, if_true]
    have t1 : Int.tmod (wv h l / d) 2 = wv h l / d % 2 := Int.tmod_eq_emod_of_nonneg d1
    rw [up_eq _ r0 r1 b, t1]
    simp only [Option.bind_some]
    have e1 : (decide (wv h l % d > d - wv h l % d) || (decide (wv h l % d = d - wv h l % d) && (wv h l / d % 2 == 1))) = nearer (wv h l) d := by
      unfold nearer
      congr 2
    rw [e1, round_Even.j0]
    by_cases h2 : nearer (wv h l) d = true
    · rw [if_pos h2, IntWalk.u64_in (wv h l / d) (by omega), IntWalk.u64_in (wv h l / d + 1) (by omega), of_eq]
      simp only [Option.bind_some]
      have e2 : wv 0 (wv h l / d + 1) = wv h l / d + 1 := by unfold wv; omega
      rw [rtold_eq (by decide) ⟨by omega, by omega⟩, e2]
      have e3 : ev (wv h l) d = wv h l / d + 1 := by unfold ev; rw [if_pos h2]
      rw [e3]
      simp only [Option.bind_some]
      by_cases h3 : wv h l / d + 1 ≤ 4611686018427387904
      · rw [if_pos h3, if_pos ⟨h1, h3⟩]
      · rw [if_neg h3, if_neg (fun h => h3 h.2)]
    · have e3 : ev (wv h l) d = wv h l / d := by unfold ev; rw [if_neg h2]
      rw [if_neg h2, e3, if_pos ⟨h1, h1⟩]
  · simp only [if_neg h1]
    rw [if_neg (show ¬ (6 : Int) = 0 by omega), round_Even.j0, if_neg (show ¬ false = true by decide), if_neg (fun h : _ ∧ _ => h1 h.1)]

theorem ev_near {x m : Int} (hm : 0 < m) : 2 * (ev x m * m) ≤ 2 * x + m ∧ 2 * x ≤ 2 * (ev x m * m) + m ∧ x / m ≤ ev x m ∧ ev x m ≤ x / m + 1 := by
  have r0 := Int.emod_nonneg x (show m ≠ 0 by omega)
  have r1 := Int.emod_lt_of_pos x hm
  have e := Int.mul_ediv_add_emod x m
  rw [Int.mul_comm] at e
  unfold ev nearer
  split
  · rename_i h
    rw [Int.add_mul, Int.one_mul]
    simp at h
    omega
  · rename_i h
    simp at h
    omega
end Go.Proofs.Ytlppmfffdjfekaa.X

set_option maxRecDepth 10000
namespace Go.Proofs.Ytlppmfffdjfekaa.X
open Go.RowKit Go.Proofs.YtlppmfffdjfekaaW.PrintWords Go.Proofs.YtlppmfffdjfekaaW.PrintLast

/-- A product, divided, and rounded: the product x, the number d. -/
def parted (x d : Int) : Int × Int := if x < 340282366920938463463374607431768211456 ∧ d < 18446744073709551616 then (if ev x d ≤ 4611686018427387904 then (ev x d, 0) else (0, 6)) else (0, 6)
/-- What Part answers. -/
def parts (a b n d p : Int) : Int × Int := if a < 0 ∨ b < 0 ∨ p < 1 then (0, 1) else parted (a * b * n) (p * d)

theorem i_u64 {x : Int} (h0 : 0 ≤ x) (h1 : x < 9223372036854775808) : U64 x := ⟨h0, by omega⟩
theorem i_wrap {x : Int} (h0 : 0 ≤ x) (h1 : x < 9223372036854775808) : IntKind.u64.wrap x = x := IntWalk.u64_in x ⟨h0, by omega⟩

theorem round_at {x d : Int} (h0 : 0 ≤ x) (h1 : x < 340282366920938463463374607431768211456) (d0 : 0 < d) (d1 : d < 18446744073709551616) (k : Nat) :
    round_Even.f (k + 1) (x / 18446744073709551616) (x % 18446744073709551616) d = some (if ev x d ≤ 4611686018427387904 then (ev x d, 0) else (0, 6)) := by
  obtain ⟨p1, p2, p3⟩ := wv_parts h0 h1
  rw [even_eq p1 p2 ⟨by omega, by omega⟩ (by omega) k, p3]
  have n := (ev_near (x := x) d0).2.2.1
  by_cases c : ev x d ≤ 4611686018427387904
  · rw [if_pos c, if_pos ⟨by omega, c⟩]
  · rw [if_neg c, if_neg (fun x => c x.2)]

theorem mul_small {x y : Int} (h0 : 0 ≤ x) (h1 : x < 9223372036854775808) (g0 : 0 ≤ y) (g1 : y < 9223372036854775808) : 0 ≤ x * y ∧ x * y < 340282366920938463463374607431768211456 := by
  refine ⟨Int.mul_nonneg h0 g0, ?_⟩
  have : x * y ≤ 9223372036854775808 * 9223372036854775808 := Int.mul_le_mul (by omega) (by omega) g0 (by omega)
  omega

theorem rpart_j {a b n d p : Int} (a0 : 0 ≤ a) (a1 : a < 9223372036854775808) (b0 : 0 ≤ b) (b1 : b < 9223372036854775808) (n0 : 0 ≤ n) (n1 : n ≤ 4611686018427387904) (d0 : 1 ≤ d) (d1 : d ≤ 4611686018427387904) (p0 : 1 ≤ p) (p1 : p < 9223372036854775808) (k : Nat) :
    round_Part.j0 (k + 2) a b p false n d = some (parted (a * b * n) (p * d)) := by
  obtain ⟨m0, m1⟩ := mul_small a0 a1 b0 b1
  obtain ⟨e0, e1⟩ := mul_small (x := p) (y := d) (by omega) p1 (by omega) (by omega)
  have dp : 0 < p * d := Int.mul_pos (by omega) (by omega)
  have mn : 0 ≤ a * b * n := Int.mul_nonneg m0 n0
  obtain ⟨w1, w2, w3⟩ := wv_parts m0 m1
  have un : U64 n := ⟨n0, by omega⟩
  rw [round_Part.j0, if_neg (by decide), i_wrap a0 a1, i_wrap b0 b1, i_wrap n0 (by omega), i_wrap (x := p) (by omega) p1, i_wrap (x := d) (by omega) (by omega), mul_eq (i_u64 a0 a1) (i_u64 b0 b1), Option.bind_some]
  show ((wide_Times.f (a * b / 18446744073709551616) (a * b % 18446744073709551616) n).bind fun bt5652 => ((wide_Mul.f p d).bind fun bt5656 => (if bt5652.2.2 = 0 then (if bt5656.1 = 0 then ((round_Even.f (k + 1) bt5652.1 bt5652.2.1 bt5656.2).bind fun bt5659 => (some (bt5659.1, bt5659.2))) else (some (0, 6))) else (some (0, 6))))) = some (parted (a * b * n) (p * d))
  rw [times_eq w1 w2 un, w3, Option.bind_some, mul_eq (i_u64 (by omega) p1) (i_u64 (by omega) (by omega)), Option.bind_some]
  unfold parted
  clear w1 w2 w3
  generalize a * b * n = x at *
  generalize p * d = e at *
  by_cases c1 : x < 340282366920938463463374607431768211456
  · rw [if_pos c1]
    show (if (0 : Int) = 0 then (if e / 18446744073709551616 = 0 then ((round_Even.f (k + 1) (x / 18446744073709551616) (x % 18446744073709551616) (e % 18446744073709551616)).bind fun bt5659 => (some (bt5659.1, bt5659.2))) else (some (0, 6))) else (some (0, 6))) = _
    rw [if_pos rfl]
    by_cases c2 : e < 18446744073709551616
    · have e3 : e % 18446744073709551616 = e := by omega
      rw [if_pos (show e / 18446744073709551616 = 0 by omega), if_pos (show x < 340282366920938463463374607431768211456 ∧ e < 18446744073709551616 from ⟨c1, c2⟩), e3, round_at mn c1 dp c2 k, Option.bind_some]
    · rw [if_neg (show ¬ e / 18446744073709551616 = 0 by omega), if_neg (fun h : _ ∧ _ => c2 h.2)]
  · rw [if_neg c1, if_neg (fun h : _ ∧ _ => c1 h.1)]
    rfl

theorem rpart_at {a b n d p : Int} (a1 : a < 9223372036854775808) (b1 : b < 9223372036854775808) (n0 : 0 ≤ n) (n1 : n ≤ 4611686018427387904) (d0 : 1 ≤ d) (d1 : d ≤ 4611686018427387904) (p1 : p < 9223372036854775808) (k : Nat) :
    round_Part.f (k + 2) a b n d p = some (parts a b n d p) := by
  have no : round_Part.j0 (k + 2) a b p true n d = some (0, 1) := by rw [round_Part.j0, if_pos rfl]
  unfold round_Part.f parts
  by_cases c1 : a < 0
  · rw [if_pos c1, if_pos (Or.inl c1), no]
  · rw [if_neg c1]
    by_cases c2 : b < 0
    · rw [if_pos c2, if_pos (Or.inr (Or.inl c2)), no]
    · rw [if_neg c2]
      by_cases c3 : p < 1
      · rw [decide_eq_true c3, if_pos (Or.inr (Or.inr c3)), no]
      · rw [decide_eq_false c3, if_neg (by omega)]
        exact rpart_j (by omega) a1 (by omega) b1 n0 n1 d0 d1 (by omega) p1 k
end Go.Proofs.Ytlppmfffdjfekaa.X

namespace Go.Proofs.Ytlppmfffdjfekaa.X
open Go.RowKit Go.Proofs.YtlppmfffdjfekaaW.PrintWords Go.Proofs.YtlppmfffdjfekaaW.PrintLast

/-- What is answered in so many rounds is answered in more. -/
theorem At.grow {α : Type} {f : Nat → Option α} {r : α} {K : Nat} (m : ∀ k, LeO (f k) (f (k + 1))) (h : f K = some r) : At f r := by
  refine ⟨K, fun k hk => ?_⟩
  obtain ⟨n, rfl⟩ : ∃ n, k = K + n := ⟨k - K, by omega⟩
  clear hk
  induction n with
  | zero => exact h
  | succ n ih => exact m (K + n) r ih
end Go.Proofs.Ytlppmfffdjfekaa.X

set_option maxRecDepth 10000
namespace Go.Proofs.Ytlppmfffdjfekaa.X
open Go.RowKit Go.Proofs.YtlppmfffdjfekaaW.PrintWords Go.Proofs.YtlppmfffdjfekaaW.PrintLast

/-- A right fraction. -/
def Rgt (n d : Int) : Prop := 0 ≤ n ∧ n ≤ 4611686018427387904 ∧ 1 ≤ d ∧ d ≤ 4611686018427387904 ∧ Nat.gcd n.toNat d.toNat = 1
instance (n d : Int) : Decidable (Rgt n d) := by unfold Rgt; infer_instance

theorem right_loop : ∀ (m x y k : Nat), y ≤ m → m + 1 ≤ k → 0 < x + y → demurrageref02_Right.l0 k x y = some (Nat.gcd x y == 1) := by
  intro m
  induction m with
  | zero =>
    intro x y k hy hk h0
    obtain ⟨j, rfl⟩ : ∃ j, k = j + 1 := ⟨k - 1, by omega⟩
    obtain rfl : y = 0 := by omega
    rw [demurrageref02_Right.l0, if_neg (by omega)]
    unfold demurrageref02_divides.f
    rw [if_neg (by omega), Option.bind_some, Nat.gcd_zero_right]
    congr 1
    have e : Int.tmod 1 (x : Int) = ((1 % x : Nat) : Int) := by
      rw [Int.tmod_eq_emod_of_nonneg (by omega), Int.natCast_emod]
      rfl
    rw [e]
    by_cases h1 : x = 1
    · subst h1
      rfl
    · rw [Nat.mod_eq_of_lt (by omega : 1 < x)]
      simp [h1]
  | succ m ih =>
    intro x y k hy hk h0
    obtain ⟨j, rfl⟩ : ∃ j, k = j + 1 := ⟨k - 1, by omega⟩
    by_cases h1 : y = 0
    · subst h1
      exact ih x 0 (j + 1) (by omega) (by omega) h0
    · rw [demurrageref02_Right.l0, if_pos (by omega), if_neg (by omega)]
      have e : Int.tmod (x : Int) (y : Int) = ((x % y : Nat) : Int) := by
        rw [Int.tmod_eq_emod_of_nonneg (by omega), Int.natCast_emod]
      have l : x % y < y := Nat.mod_lt _ (by omega)
      rw [e, ih y (x % y) j (by omega) (by omega) (by omega), Nat.gcd_comm y, ← Nat.gcd_rec, Nat.gcd_comm]

theorem right_at (n d : Int) : At (fun k => demurrageref02_Right.f k n d) (decide (Rgt n d)) := by
  refine ⟨d.toNat + 3, fun k hk => ?_⟩
  obtain ⟨j, rfl⟩ : ∃ j, k = j + 1 := ⟨k - 1, by omega⟩
  have no : ∀ a b : Int, demurrageref02_Right.j0 (j + 1) true a b = some false := fun a b => by rw [demurrageref02_Right.j0, if_pos rfl]
  show demurrageref02_Right.f (j + 1) n d = _
  unfold demurrageref02_Right.f
  by_cases h1 : n < 0
  · rw [if_pos h1, no, decide_eq_false (fun h => by have := h.1; omega)]
  · rw [if_neg h1]
    by_cases h2 : n > 4611686018427387904
    · rw [if_pos h2, no, decide_eq_false (fun h => by have := h.2.1; omega)]
    · rw [if_neg h2]
      by_cases h3 : d < 1
      · rw [if_pos h3, no, decide_eq_false (fun h => by have := h.2.2.1; omega)]
      · rw [if_neg h3]
        by_cases h4 : d > 4611686018427387904
        · rw [decide_eq_true h4, no, decide_eq_false (fun h => by have := h.2.2.2.1; omega)]
        · rw [decide_eq_false h4, demurrageref02_Right.j0, if_neg (by decide)]
          obtain ⟨x, rfl⟩ := Int.eq_ofNat_of_zero_le (show 0 ≤ n by omega)
          obtain ⟨y, rfl⟩ := Int.eq_ofNat_of_zero_le (show 0 ≤ d by omega)
          rw [right_loop y x y j (Nat.le_refl _) (by omega) (by omega)]
          congr 1
          rw [Bool.eq_iff_iff, beq_iff_eq, decide_eq_true_eq]
          unfold Rgt
          rw [Int.toNat_natCast, Int.toNat_natCast]
          omega
end Go.Proofs.Ytlppmfffdjfekaa.X

set_option maxRecDepth 10000
namespace Go.Proofs.Ytlppmfffdjfekaa.X
open Go.RowKit Go.Proofs.YtlppmfffdjfekaaW.PrintWords Go.Proofs.YtlppmfffdjfekaaW.PrintLast

theorem gcdn (x y : Nat) (hx : (x : Int) ≤ 18446744073709551615) (hy : (y : Int) ≤ 18446744073709551615) : ratio_Gcd.f x y = some (Nat.gcd x y : Int) := by
  have ux : U64 (x : Int) := ⟨Int.natCast_nonneg x, by omega⟩
  have uy : U64 (y : Int) := ⟨Int.natCast_nonneg y, by omega⟩
  unfold ratio_Gcd.f
  rw [if_pos ⟨ux, uy⟩, Int.toNat_natCast, Int.toNat_natCast]
theorem nat_wrap {x : Nat} (h : x ≤ 9223372036854775807) : IntKind.u64.wrap (x : Int) = x := IntWalk.u64_in _ ⟨Int.natCast_nonneg x, by omega⟩

theorem isright {n d : Int} : ratio_Right.f n d = some (decide (Rgt n d)) := by
  unfold ratio_Right.f
  by_cases h1 : n ≥ 0
  · rw [if_pos h1]
    by_cases h2 : n ≤ 4611686018427387904
    · rw [if_pos h2]
      by_cases h3 : d ≥ 1
      · rw [if_pos h3]
        by_cases h4 : d ≤ 4611686018427387904
        · rw [if_pos h4]
          obtain ⟨x, rfl⟩ := Int.eq_ofNat_of_zero_le h1
          obtain ⟨y, rfl⟩ := Int.eq_ofNat_of_zero_le (show 0 ≤ d by omega)
          rw [nat_wrap (x := x) (by omega), nat_wrap (x := y) (by omega), gcdn x y (by omega) (by omega), Option.bind_some]
          congr 1
          rw [Bool.eq_iff_iff, beq_iff_eq, decide_eq_true_eq]
          unfold Rgt
          rw [Int.toNat_natCast, Int.toNat_natCast]
          omega
        · rw [if_neg h4, decide_eq_false (fun h => h4 h.2.2.2.1)]
      · rw [if_neg h3, decide_eq_false (fun h => h3 h.2.2.1)]
    · rw [if_neg h2, decide_eq_false (fun h => h2 h.2.1)]
  · rw [if_neg h1, decide_eq_false (fun h => h1 h.1)]

/-- Interest for a part of a year. -/
def ofv (a b n d : Int) : Int × Int := if Rgt n d then parts a b n d 10000 else (0, 1)

theorem of_at {a b n d : Int} (ha : a < 9223372036854775808) (hb : b < 9223372036854775808) : At (fun k => accrue_Of.f k a b n d) (ofv a b n d) := by
  refine ⟨2, fun k hk => ?_⟩
  obtain ⟨j, rfl⟩ : ∃ j, k = j + 2 := ⟨k - 2, by omega⟩
  show accrue_Of.f (j + 2) a b n d = _
  unfold accrue_Of.f ofv
  rw [isright, Option.bind_some]
  by_cases r : Rgt n d
  · obtain ⟨n0, n1, d0, d1, _⟩ := id r
    rw [decide_eq_true r, if_pos rfl, if_pos r, rpart_at ha hb n0 n1 d0 d1 (by omega) j, Option.bind_some]
  · rw [decide_eq_false r, if_neg (by decide), if_neg r]

end Go.Proofs.Ytlppmfffdjfekaa.X

set_option maxRecDepth 10000
namespace Go.Proofs.Ytlppmfffdjfekaa.X
open Go.RowKit Go.Proofs.YtlppmfffdjfekaaW.PrintWords Go.Proofs.YtlppmfffdjfekaaW.PrintLast

/-- A usual part of a year. -/
def Us (x : S42) : Prop := Rgt x.f0 x.f1 ∧ x.f0 ≤ 10000000000000 ∧ x.f1 ≤ 10000000000000 ∧ x.f0 ≤ 100 * x.f1

theorem usual_loop (l : List S42) (hl : l.length < 9223372036854775807) : ∀ (m i : Nat), i + m = l.length →
    ∃ u, At (fun k => demurrageref18_Usual.l0 k l (i : Int)) u ∧ (u = true → ∀ j : Nat, i ≤ j → j < l.length → Us (rd_T42 l (j : Int))) := by
  intro m
  induction m with
  | zero =>
    intro i hi
    refine ⟨true, ⟨1, fun k hk => ?_⟩, fun _ j h1 h2 => by omega⟩
    obtain ⟨q, rfl⟩ : ∃ q, k = q + 1 := ⟨k - 1, by omega⟩
    show demurrageref18_Usual.l0 (q + 1) l (i : Int) = _
    rw [demurrageref18_Usual.l0, if_neg (by omega)]
  | succ m ih =>
    intro i hi
    obtain ⟨u, ⟨K1, h1⟩, hu⟩ := ih (i + 1) (by omega)
    obtain ⟨K2, h2⟩ := right_at (rd_T42 l (i : Int)).f0 (rd_T42 l (i : Int)).f1
    have wi : wrap64 ((i : Int) + 1) = ((i + 1 : Nat) : Int) := by rw [wrap64_small (by omega) (by omega)]; omega
    by_cases c : Us (rd_T42 l (i : Int))
    · refine ⟨u, ⟨K1 + K2 + 1, fun k hk => ?_⟩, fun e j g1 g2 => ?_⟩
      · obtain ⟨q, rfl⟩ : ∃ q, k = q + 1 := ⟨k - 1, by omega⟩
        have h1 := h1 q (by omega)
        have h2 : demurrageref02_Right.f q (rd_T42 l (i : Int)).f0 (rd_T42 l (i : Int)).f1 = some (decide (Rgt (rd_T42 l (i : Int)).f0 (rd_T42 l (i : Int)).f1)) := h2 q (by omega)
        obtain ⟨c1, c2, c3, c4⟩ := id c
        have c5 := c1.2.2.1
        have w : wrap64 (100 * (rd_T42 l (i : Int)).f1) = 100 * (rd_T42 l (i : Int)).f1 := wrap64_small (by omega) (by omega)
        show demurrageref18_Usual.l0 (q + 1) l (i : Int) = _
        rw [demurrageref18_Usual.l0, if_pos (by omega), if_pos (by omega), h2, Option.bind_some, decide_eq_true c1, if_pos rfl, w, if_neg (by omega), if_neg (by omega), if_neg (by omega), wi]
        exact h1
      · by_cases z : j = i
        · subst z
          exact c
        · exact hu e j (by omega) g2
    · refine ⟨false, ⟨K2 + 1, fun k hk => ?_⟩, fun e => by cases e⟩
      obtain ⟨q, rfl⟩ : ∃ q, k = q + 1 := ⟨k - 1, by omega⟩
      have h2 : demurrageref02_Right.f q (rd_T42 l (i : Int)).f0 (rd_T42 l (i : Int)).f1 = some (decide (Rgt (rd_T42 l (i : Int)).f0 (rd_T42 l (i : Int)).f1)) := h2 q (by omega)
      show demurrageref18_Usual.l0 (q + 1) l (i : Int) = _
      rw [demurrageref18_Usual.l0, if_pos (by omega), if_pos (by omega), h2, Option.bind_some]
      by_cases c1 : Rgt (rd_T42 l (i : Int)).f0 (rd_T42 l (i : Int)).f1
      · rw [decide_eq_true c1, if_pos rfl]
        by_cases c2 : (rd_T42 l (i : Int)).f0 > 10000000000000
        · rw [if_pos c2]
        · rw [if_neg c2]
          by_cases c3 : (rd_T42 l (i : Int)).f1 > 10000000000000
          · rw [if_pos c3]
          · have c5 := c1.2.2.1
            have w : wrap64 (100 * (rd_T42 l (i : Int)).f1) = 100 * (rd_T42 l (i : Int)).f1 := wrap64_small (by omega) (by omega)
            rw [if_neg c3, w, if_pos (show (rd_T42 l (i : Int)).f0 > 100 * (rd_T42 l (i : Int)).f1 from by
              by_cases c4 : (rd_T42 l (i : Int)).f0 ≤ 100 * (rd_T42 l (i : Int)).f1
              · exact absurd ⟨c1, by omega, by omega, c4⟩ c
              · omega)]
      · rw [decide_eq_false c1, if_neg (by decide)]
theorem usual_at (l : List S42) (hl : l.length < 9223372036854775807) : ∃ u, At (fun k => demurrageref18_Usual.f k l) u ∧ (u = true → ∀ j : Nat, j < l.length → Us (rd_T42 l (j : Int))) := by
  obtain ⟨u, h, g⟩ := usual_loop l hl l.length 0 (by omega)
  exact ⟨u, h, fun e j hj => g e j (by omega) hj⟩

/-- Interest, where nothing is too great. -/
def intr (o r : Int) (x : S42) : Int := ev (o * r * x.f0) (10000 * x.f1)
theorem intr_fits {o r : Int} {x : S42} (o0 : 0 ≤ o) (o1 : o ≤ 1000000000000000) (r0 : 0 ≤ r) (r1 : r ≤ 9000) (h : Us x) : ofv o r x.f0 x.f1 = (intr o r x, 0) ∧ 0 ≤ intr o r x ∧ intr o r x ≤ 90000000000000001 := by
  obtain ⟨c, n1, d1, nd⟩ := h
  obtain ⟨n0, _, d0, _, _⟩ := id c
  have p1 : 0 ≤ o * r := Int.mul_nonneg o0 r0
  have p2 : o * r ≤ 1000000000000000 * 9000 := Int.mul_le_mul o1 r1 r0 (by omega)
  have p3 : 0 ≤ o * r * x.f0 := Int.mul_nonneg p1 n0
  have p4 : o * r * x.f0 ≤ 1000000000000000 * 9000 * 10000000000000 := Int.mul_le_mul p2 n1 n0 (by omega)
  have p5 : o * r * x.f0 ≤ 1000000000000000 * 9000 * (100 * x.f1) := Int.mul_le_mul p2 nd n0 (by omega)
  have q : o * r * x.f0 / (10000 * x.f1) ≤ 90000000000000000 := Int.ediv_le_of_le_mul (by omega) (by omega)
  have q0 : 0 ≤ o * r * x.f0 / (10000 * x.f1) := Int.ediv_nonneg p3 (by omega)
  have n := ev_near (x := o * r * x.f0) (m := 10000 * x.f1) (by omega)
  have n1 := n.2.2.1
  have n2 := n.2.2.2
  clear n
  unfold intr
  refine ⟨?_, by omega, by omega⟩
  unfold ofv parts parted
  rw [if_pos c, if_neg (by omega), if_pos ⟨by omega, by omega⟩, if_pos (by omega)]

/-- The row at a place: open, the place's interest, what is paid back. -/
def prow (m r each : Int) (ps : List S42) (i : Nat) : S37 :=
  let o := m - i * each
  let b := if i + 1 = ps.length then o else each
  ⟨o, intr o r (rd_T42 ps (i : Int)), b, intr o r (rd_T42 ps (i : Int)) + b, o - b⟩

theorem rows_from {m r each : Int} {ps : List S42} (m1 : m ≤ 1000000000000000) (r0 : 0 ≤ r) (r1 : r ≤ 9000) (e0 : 0 ≤ each) (e1 : each * ps.length ≤ m) (hp : ps.length ≤ 1200) (hu : ∀ j : Nat, j < ps.length → Us (rd_T42 ps (j : Int))) (hpos : 0 < ps.length) :
    ∀ (d i : Nat), i + d = ps.length → ∀ out : List S37, out = (List.range i).map (prow m r each ps) → ∀ o : Int, o = (if i = ps.length then 0 else m - i * each) →
      At (fun k => plain_table.l0 k r ps each out o (i : Int)) ((List.range ps.length).map (prow m r each ps), 0) := by
  intro d
  induction d with
  | zero =>
    intro i hi out ho o hoo
    have hi : i = ps.length := by omega
    subst hi
    refine ⟨1, fun k hk => ?_⟩
    obtain ⟨q, rfl⟩ : ∃ q, k = q + 1 := ⟨k - 1, by omega⟩
    have ln : out.length = ps.length := by rw [ho]; simp
    have last : rd_T37 out ((ps.length - 1 : Nat) : Int) = prow m r each ps (ps.length - 1) := by
      rw [ho]
      unfold rd_T37
      rw [Int.toNat_natCast, List.getD_eq_getElem?_getD, List.getElem?_map, List.getElem?_range (by omega)]
      rfl
    have ob : ((ps.length - 1 : Nat) : Int) * each ≤ each * ps.length := by
      rw [Int.mul_comm]
      exact Int.mul_le_mul_of_nonneg_left (by omega) e0
    have ob0 : 0 ≤ ((ps.length - 1 : Nat) : Int) * each := Int.mul_nonneg (by omega) e0
    have f := intr_fits (o := m - ((ps.length - 1 : Nat) : Int) * each) (r := r) (x := rd_T42 ps ((ps.length - 1 : Nat) : Int)) (by omega) (by omega) r0 r1 (hu _ (by omega))
    have f3 : (prow m r each ps (ps.length - 1)).f3 ≤ 4611686018427387904 := by
      have f2 := f.2.2
      clear f
      unfold prow
      show intr (m - ((ps.length - 1 : Nat) : Int) * each) r (rd_T42 ps ((ps.length - 1 : Nat) : Int)) + (if ps.length - 1 + 1 = ps.length then m - ((ps.length - 1 : Nat) : Int) * each else each) ≤ _
      rw [if_pos (by omega)]
      omega
    have t1 : ¬ (ps.length : Int) < (ps.length : Int) := by omega
    have t2 : (0 : Int) ≤ ((ps.length - 1 : Nat) : Int) := by omega
    have t3 : ((ps.length - 1 : Nat) : Int) < (out.length : Int) := by omega
    have t4 : ¬ (prow m r each ps (ps.length - 1)).f3 > 4611686018427387904 := by omega
    have w : wrap64 ((ps.length : Int) - 1) = ((ps.length - 1 : Nat) : Int) := by
      clear f f3 t4 last ho ob ob0
      rw [wrap64_small (by omega) (by omega)]
      omega
    show plain_table.l0 (q + 1) r ps each out o (ps.length : Int) = _
    rw [plain_table.l0, if_neg t1, w, if_pos t2, if_pos t3, last, if_neg t4, ho]
  | succ d ih =>
    intro i hi out ho o hoo
    rw [if_neg (by omega)] at hoo
    have ob : (i : Int) * each ≤ each * ps.length := by
      rw [Int.mul_comm]
      exact Int.mul_le_mul_of_nonneg_left (by omega) e0
    have ob1 : ((i + 1 : Nat) : Int) * each ≤ each * ps.length := by
      rw [Int.mul_comm]
      exact Int.mul_le_mul_of_nonneg_left (by omega) e0
    have ob0 : 0 ≤ (i : Int) * each := Int.mul_nonneg (by omega) e0
    have os : ((i + 1 : Nat) : Int) * each = (i : Int) * each + each := by rw [Int.natCast_add, Int.add_mul]; simp
    obtain ⟨f1, f2, f3⟩ := intr_fits (o := o) (r := r) (x := rd_T42 ps (i : Int)) (by omega) (by omega) r0 r1 (hu i (by omega))
    obtain ⟨K1, a1⟩ := of_at (a := o) (b := r) (n := (rd_T42 ps (i : Int)).f0) (d := (rd_T42 ps (i : Int)).f1) (by omega) (by omega)
    rw [f1] at a1
    have ln : out.length = i := by rw [ho]; simp
    have t1 : (i : Int) < (ps.length : Int) := by omega
    have t2 : (0 : Int) ≤ (i : Int) := by omega
    have t3 : out.length < 3518437208883 := by omega
    clear f1
    obtain ⟨b, hb⟩ : ∃ b : Int, (if (i : Int) = (ps.length : Int) - 1 then o else each) = b := ⟨_, rfl⟩
    have hb2 : (if i + 1 = ps.length then o else each) = b := by
      rw [← hb]
      by_cases c : i + 1 = ps.length
      · rw [if_pos c, if_pos (by omega)]
      · rw [if_neg c, if_neg (by omega)]
    have b0 : 0 ≤ b ∧ b ≤ o := by
      rw [← hb]
      split <;> omega
    have w : wrap64 ((ps.length : Int) - 1) = (ps.length : Int) - 1 := wrap64_small (by clear hb hb2; omega) (by clear hb hb2; omega)
    have wi : wrap64 ((i : Int) + 1) = ((i + 1 : Nat) : Int) := by rw [wrap64_small (by clear w hb hb2; omega) (by clear w hb hb2; omega)]; clear w hb hb2; omega
    have w3 : wrap64 (intr o r (rd_T42 ps (i : Int)) + b) = intr o r (rd_T42 ps (i : Int)) + b := wrap64_small (by clear w wi hb hb2; omega) (by clear w wi hb hb2; omega)
    have w4 : wrap64 (o - b) = o - b := wrap64_small (by clear w wi w3 hb hb2; omega) (by clear w wi w3 hb hb2; omega)
    have row : prow m r each ps i = ⟨o, intr o r (rd_T42 ps (i : Int)), b, intr o r (rd_T42 ps (i : Int)) + b, o - b⟩ := by
      unfold prow
      rw [← hoo]
      show (⟨o, _, (if i + 1 = ps.length then o else each), _ + (if i + 1 = ps.length then o else each), o - (if i + 1 = ps.length then o else each)⟩ : S37) = _
      rw [hb2]
    obtain ⟨K2, g⟩ := ih (i + 1) (by clear w wi w3 w4; omega) (out ++ [(⟨o, intr o r (rd_T42 ps (i : Int)), b, intr o r (rd_T42 ps (i : Int)) + b, o - b⟩ : S37)]) (by rw [List.range_succ, List.map_append, ← ho, List.map_cons, List.map_nil, row]) (o - b) (by
      by_cases c : i + 1 = ps.length
      · rw [if_pos c]
        rw [if_pos c] at hb2
        clear w wi w3 w4 hb
        omega
      · rw [if_neg c]
        rw [if_neg c] at hb2
        clear w wi w3 w4 hb
        omega)
    refine ⟨K1 + K2 + 1, fun k hk => ?_⟩
    obtain ⟨q, rfl⟩ : ∃ q, k = q + 1 := ⟨k - 1, by clear w wi w3 w4 hb hb2; omega⟩
    have hq1 : K1 ≤ q := by clear w wi w3 w4 hb hb2; omega
    have hq2 : K2 ≤ q := by clear w wi w3 w4 hb hb2; omega
    have a1 : accrue_Of.f q o r (rd_T42 ps (i : Int)).f0 (rd_T42 ps (i : Int)).f1 = some (intr o r (rd_T42 ps (i : Int)), 0) := a1 q hq1
    have g := g q hq2
    show plain_table.l0 (q + 1) r ps each out o (i : Int) = _
    rw [plain_table.l0, if_pos t1, if_pos t2, a1, Option.bind_some, if_pos rfl, if_pos t3, w, hb]
    show plain_table.l0 q r ps each (out ++ [(⟨o, intr o r (rd_T42 ps (i : Int)), b, wrap64 (intr o r (rd_T42 ps (i : Int)) + b), wrap64 (o - b)⟩ : S37)]) (wrap64 (o - b)) (wrap64 ((i : Int) + 1)) = _
    rw [w3, w4, wi]
    exact g

theorem rows_at {m r each : Int} {ps : List S42} (m0 : 0 ≤ m) (m1 : m ≤ 1000000000000000) (r0 : 0 ≤ r) (r1 : r ≤ 9000) (e0 : 0 ≤ each) (e1 : each * ps.length ≤ m) (hp : ps.length ≤ 1200) (hu : ∀ j : Nat, j < ps.length → Us (rd_T42 ps (j : Int))) (hpos : 0 < ps.length) :
    At (fun k => plain_table.f k m r ps each) ((List.range ps.length).map (prow m r each ps), 0) := by
  obtain ⟨K, h⟩ := rows_from m1 r0 r1 e0 e1 hp hu hpos ps.length 0 (by omega) [] rfl m (by rw [if_neg (by omega)]; simp)
  refine ⟨K, fun k hk => ?_⟩
  show plain_table.f k m r ps each = _
  unfold plain_table.f
  rw [if_neg (by omega), if_neg (by omega), if_neg (by omega), if_neg (by omega)]
  exact h k hk
theorem row_rd (m r each : Int) (ps : List S42) {i : Nat} (h : i < ps.length) : rd_T37 ((List.range ps.length).map (prow m r each ps)) (i : Int) = prow m r each ps i := by
  unfold rd_T37
  rw [Int.toNat_natCast, List.getD_eq_getElem?_getD, List.getElem?_map, List.getElem?_range h]
  rfl
theorem rows_length (m r each : Int) (ps : List S42) : ((List.range ps.length).map (prow m r each ps)).length = ps.length := by simp
end Go.Proofs.Ytlppmfffdjfekaa.X

namespace Go.Proofs.Ytlppmfffdjfekaa.Flat
open Go.Deep Go.ChangeShapes Go.WideShapes Go.ChangeAt Go.RowKit Go.Proofs.Ytlppmfffdjfekaa.X Go.Proofs.YtlppmfffdjfekaaW.PrintWords

/-- A slice of fractions in one cell. -/
def RatioCell (w : World) (v : Value) : Prop :=
  ∃ (A : Option Addr) (c : Nat) (l : List S42), v = .slice A l.length c ∧ l.length ≤ c ∧ Kd.C k42 w A l.length l ∧ ∀ x ∈ l, (Lit.int .i64 x.f0).wf = true ∧ (Lit.int .i64 x.f1).wf = true

set_option maxRecDepth 100000 in
theorem read_ratios {H : Type} {enc : TypeId × Value → H} {w : World} {base : Nat} {spare : Nat → Bool} {held : Bool} {fuel : Nat} {cs : List Value} {x : DataW H × List MemPlace}
    (hf : DataW.trod enc Try.prog w base spare held fuel 22 cs = some x) : ∃ v, cs = [v] ∧ RatioCell w v := by
  rcases open_slice Try.underlying22 hf with ⟨hcs, _⟩ | ⟨x, len, cap, m, n, D, Pl, hcs, hb, hl, hm, hmm, hx, hel⟩
  · exact ⟨_, hcs, none, 0, [], rfl, Nat.le_refl _, Kd.C_nil _ _, fun x hx => by cases hx⟩
  · refine ⟨_, hcs, ?_⟩
    have hlm : len ≤ m := by rw [hmm]; split <;> omega
    have hc2 : Try.prog.cellsOf 42 = 2 := by kernel_rfl
    have each : ∀ i, i < len → ∃ q : S42, w.cell? (x.add (i * 2)) = some (.int .i64 q.f0) ∧ w.cell? (x.add (i * 2 + 1)) = some (.int .i64 q.f1) ∧ (Lit.int .i64 q.f0).wf = true ∧ (Lit.int .i64 q.f1).wf = true := by
      intro i hi
      obtain ⟨cs', h1, h2⟩ := hel i (by omega)
      rw [hc2] at h1
      obtain ⟨_, hlen, hcell⟩ := World.cells?_some h1
      obtain ⟨hcc, _⟩ := Flat.read 6 n 42 [.i64, .i64] cs' (D i, Pl i) (by kernel_rfl) hc2 h2
      obtain ⟨n0, vs, rfl, w0, hcc⟩ := cells_cons hcc
      obtain ⟨n1, vs, rfl, w1, hcc⟩ := cells_cons hcc
      obtain rfl := cells_nil hcc
      have c0 := hcell 0 (by omega)
      have c1 := hcell 1 (by omega)
      rw [Go.Deep.add_add] at c0 c1
      exact ⟨⟨n0, n1⟩, by simpa using c0, by simpa using c1, w0, w1⟩
    haveI : Inhabited S42 := ⟨⟨0, 0⟩⟩
    obtain ⟨q, hq⟩ := choose_lt each
    have el : ((List.range len).map q).length = len := by simp
    refine ⟨some x, cap, (List.range len).map q, by rw [el], by omega, ?_, ?_⟩
    · rw [el]
      refine ⟨el, by unfold maxLen at hm; omega, fun _ => ⟨x, rfl, fun j p hj => ?_⟩⟩
      obtain ⟨h1, h2⟩ := List.getElem?_eq_some_iff.1 hj
      rw [el] at h1
      have e : p = q j := by rw [← h2]; simp
      subst e
      obtain ⟨g0, g1, _, _⟩ := hq j h1
      refine ⟨[.int .i64 (q j).f0, .int .i64 (q j).f1], rfl, k42_mk w (q j), fun i u hu => ?_⟩
      match i, hu with
      | 0, hu =>
        simp at hu
        subst hu
        exact g0
      | 1, hu =>
        simp at hu
        subst hu
        exact g1
      | i + 2, hu => simp at hu
    · intro y hy
      obtain ⟨j, hj, rfl⟩ := List.mem_map.1 hy
      have := List.mem_range.1 hj
      exact ⟨(hq j this).2.2.1, (hq j this).2.2.2⟩

/-- What a field is: an integer of a kind (some), or a slice of fractions (none). -/
def Mixed (w : World) : List (Option IntKind) → List Value → Prop
  | [], [] => True
  | some k :: ks, v :: vs => (∃ n, v = .int k n ∧ (Lit.int k n).wf = true) ∧ Mixed w ks vs
  | none :: ks, v :: vs => RatioCell w v ∧ Mixed w ks vs
  | _, _ => False
theorem mixed_int {w : World} {k : IntKind} {ks : List (Option IntKind)} {l : List Value} (h : Mixed w (some k :: ks) l) : ∃ n vs, l = .int k n :: vs ∧ (Lit.int k n).wf = true ∧ Mixed w ks vs := by
  cases l with
  | nil => exact h.elim
  | cons v vs => obtain ⟨⟨n, rfl, hw⟩, h⟩ := h; exact ⟨n, vs, rfl, hw, h⟩
theorem mixed_ratios {w : World} {ks : List (Option IntKind)} {l : List Value} (h : Mixed w (none :: ks) l) : ∃ (A : Option Addr) (c : Nat) (a : List S42) (vs : List Value), l = .slice A a.length c :: vs ∧ a.length ≤ c ∧ Kd.C k42 w A a.length a ∧ (∀ x ∈ a, (Lit.int .i64 x.f0).wf = true ∧ (Lit.int .i64 x.f1).wf = true) ∧ Mixed w ks vs := by
  cases l with
  | nil => exact h.elim
  | cons v vs => obtain ⟨⟨A, c, a, rfl, h1, h2, h3⟩, h⟩ := h; exact ⟨A, c, a, vs, rfl, h1, h2, h3, h⟩
theorem mixed_nil {w : World} {l : List Value} (h : Mixed w [] l) : l = [] := by
  cases l with
  | nil => rfl
  | cons v vs => exact h.elim

def mixedOk (P : Program) : List Field → List (Option IntKind) → Nat → Bool
  | [], [], _ => true
  | f :: r, some k :: ks, off => f.offset == off && P.cellsOf f.type == 1 && (match P.underlying f.type with | some (.int k') => decide (k' = k) | _ => false) && mixedOk P r ks (off + 1)
  | f :: r, none :: ks, off => f.offset == off && P.cellsOf f.type == 1 && f.type == 22 && mixedOk P r ks (off + 1)
  | _, _, _ => false

theorem mixed_read {H : Type} {enc : TypeId × Value → H} {w : World} {base : Nat} {spare : Nat → Bool} {held : Bool} {n : Nat} {cs : List Value} :
    ∀ (fs : List Field) (ks : List (Option IntKind)) (off : Nat) (xs : List (DataW H × List MemPlace)), mixedOk Try.prog fs ks off = true → cs.length = off + ks.length → xs.length = fs.length →
      (∀ (i : Nat) (f : Field), fs[i]? = some f → DataW.trod enc Try.prog w base spare held n f.type ((cs.drop f.offset).take (Try.prog.cellsOf f.type)) = xs[i]?) → Mixed w ks (cs.drop off)
  | [], [], off, xs, _, hl, _, _ => by
    have e2 : cs.drop off = [] := List.drop_eq_nil_of_le (by simp at hl; omega)
    rw [e2]
    trivial
  | [], _ :: _, _, _, h, _, _, _ => by simp [mixedOk] at h
  | _ :: _, [], _, _, h, _, _, _ => by simp [mixedOk] at h
  | f :: r, k :: ks, off, [], _, _, hx, _ => by simp at hx
  | f :: r, some k :: ks, off, y :: ys, h, hl, hx, hf => by
    simp only [mixedOk, Bool.and_eq_true, beq_iff_eq] at h
    obtain ⟨⟨⟨h1, h2⟩, h3⟩, h4⟩ := h
    have h0 := hf 0 f rfl
    rw [h1, h2] at h0
    have hl' : cs.length = (off + 1) + ks.length := by rw [hl, List.length_cons]; omega
    have hx' : ys.length = r.length := by simpa using hx
    have g := mixed_read (cs := cs) r ks (off + 1) ys h4 hl' hx' (fun i f' hi => by simpa using hf (i + 1) f' (by simpa using hi))
    rw [List.length_cons] at hl
    have e : cs.drop off = cs[off]'(by omega) :: cs.drop (off + 1) := (List.drop_eq_getElem_cons (by omega))
    rw [e] at h0 ⊢
    simp only [List.take_succ_cons, List.take_zero] at h0
    have hh0 : DataW.trod enc Try.prog w base spare held n f.type [cs[off]'(by omega)] = some y := h0
    split at h3
    · rename_i k' hu
      simp at h3
      subst h3
      obtain ⟨z, hz, _, hw⟩ := DataW.trod_int hu hh0
      refine ⟨⟨z, ?_, hw⟩, g⟩
      simpa using hz
    · cases h3
  | f :: r, none :: ks, off, y :: ys, h, hl, hx, hf => by
    simp only [mixedOk, Bool.and_eq_true, beq_iff_eq] at h
    obtain ⟨⟨⟨h1, h2⟩, h3⟩, h4⟩ := h
    have h0 := hf 0 f rfl
    rw [h1, h2] at h0
    have hl' : cs.length = (off + 1) + ks.length := by rw [hl, List.length_cons]; omega
    have hx' : ys.length = r.length := by simpa using hx
    have g := mixed_read (cs := cs) r ks (off + 1) ys h4 hl' hx' (fun i f' hi => by simpa using hf (i + 1) f' (by simpa using hi))
    rw [List.length_cons] at hl
    have e : cs.drop off = cs[off]'(by omega) :: cs.drop (off + 1) := (List.drop_eq_getElem_cons (by omega))
    rw [e] at h0 ⊢
    simp only [List.take_succ_cons, List.take_zero] at h0
    have hh0 : DataW.trod enc Try.prog w base spare held n f.type [cs[off]'(by omega)] = some y := h0
    rw [h3] at hh0
    obtain ⟨v, hv, hr⟩ := read_ratios hh0
    refine ⟨?_, g⟩
    have : cs[off]'(by omega) = v := by simpa using hv
    rw [this]
    exact hr

set_option maxRecDepth 100000 in
/-- A struct of integers and slices of fractions, by value: opened. -/
theorem open_mixed {H : Type} {enc : TypeId × Value → H} {w : World} {base : Nat} {spare : Nat → Bool} {held : Bool} {r : Reach} {b0 : Nat} {t : TypeId} {fs : Array Field} {ks : List (Option IntKind)} {v : Value} {d : DataW H} {ps : List MemPlace} (ht : Try.prog.underlying t = some (.struct fs)) (hk : mixedOk Try.prog fs.toList ks 0 = true) (hc : Try.prog.cellsOf t = ks.length)
    (hv : Value.okWide Try.prog w r b0 t v) (h : DataW.Trod enc Try.prog w base spare held t v d ps) : ∃ l : List Value, v = .agg l.toArray ∧ Mixed w ks l := by
  obtain ⟨cs, rfl, _⟩ := okWide_struct ht hv
  obtain ⟨fuel, hf⟩ := h
  obtain ⟨xs, m, rfl, hx, hl, hxs, hff⟩ := DataW.trod_struct ht hf
  refine ⟨cs.toList, by simp, ?_⟩
  have := mixed_read (cs := cs.toList) fs.toList ks 0 xs hk (by rw [hc] at hl; rw [Nat.zero_add]; exact hl) (by simpa using hxs) (fun i f hi => by simpa [Value.cells] using hff i f (by simpa using hi))
  simpa using this
end Go.Proofs.Ytlppmfffdjfekaa.Flat

