-- CUT by prune.py, a program of this session, to what the claim reaches (out of a text that the kit's printer, the session's programs or the session wrote)
import Derived.Test.YtcdbmmlnmefoeaaPRoundPartsXRoundPart
import Derived.Test.YtcdbmmlnmefoeaaPRoundPartsTRound
set_option maxRecDepth 10000
namespace Go.Proofs.Ytcdbmmlnmefoeaa.X
open Go.RowKit Go.Proofs.YtcdbmmlnmefoeaaW.PrintWords Go.Proofs.YtcdbmmlnmefoeaaW.PrintLast

/-- A product, divided, and rounded: the product x, the number d. -/
def parted (x d : Int) : Int × Int := if x < 340282366920938463463374607431768211456 ∧ d < 18446744073709551616 then (if ev x d ≤ 4611686018427387904 then (ev x d, 0) else (0, 6)) else (0, 6)
/-- What Part answers. -/
def parts (a b n d p : Int) : Int × Int := if a < 0 ∨ b < 0 ∨ p < 1 then (0, 1) else parted (a * b * n) (p * d)

theorem i_u64 {x : Int} (h0 : 0 ≤ x) (h1 : x < 9223372036854775808) : U64 x := ⟨h0, by omega⟩
theorem i_wrap {x : Int} (h0 : 0 ≤ x) (h1 : x < 9223372036854775808) : IntKind.u64.wrap x = x := IntWalk.u64_in x ⟨h0, by omega⟩

theorem round_at {x d : Int} (h0 : 0 ≤ x) (h1 : x < 340282366920938463463374607431768211456) (d0 : 0 < d) (d1 : d < 18446744073709551616) (k : Nat) :
    round_Even.f (k + 1) (x / 18446744073709551616) (x % 18446744073709551616) d = some (if ev x d ≤ 4611686018427387904 then (ev x d, 0) else (0, 6)) := by
  obtain ⟨p1, p2, p3⟩ := wv_parts h0 h1
  rw [even_eq p1 p2 ⟨by omega, by omega⟩ (by omega) k, p3]
  have n := (ev_near (x := x) d0).2.2.1
  by_cases c : ev x d ≤ 4611686018427387904
  · rw [if_pos c, if_pos ⟨by omega, c⟩]
  · rw [if_neg c, if_neg (fun x => c x.2)]

theorem mul_small {x y : Int} (h0 : 0 ≤ x) (h1 : x < 9223372036854775808) (g0 : 0 ≤ y) (g1 : y < 9223372036854775808) : 0 ≤ x * y ∧ x * y < 340282366920938463463374607431768211456 := by
  refine ⟨Int.mul_nonneg h0 g0, ?_⟩
  have : x * y ≤ 9223372036854775808 * 9223372036854775808 := Int.mul_le_mul (by omega) (by omega) g0 (by omega)
  omega

theorem rpart_j {a b n d p : Int} (a0 : 0 ≤ a) (a1 : a < 9223372036854775808) (b0 : 0 ≤ b) (b1 : b < 9223372036854775808) (n0 : 0 ≤ n) (n1 : n ≤ 4611686018427387904) (d0 : 1 ≤ d) (d1 : d ≤ 4611686018427387904) (p0 : 1 ≤ p) (p1 : p < 9223372036854775808) (k : Nat) :
    round_Part.j0 (k + 2) a b p false n d = some (parted (a * b * n) (p * d)) := by
  obtain ⟨m0, m1⟩ := mul_small a0 a1 b0 b1
  obtain ⟨e0, e1⟩ := mul_small (x := p) (y := d) (by omega) p1 (by omega) (by omega)
  have dp : 0 < p * d := Int.mul_pos (by omega) (by omega)
  have mn : 0 ≤ a * b * n := Int.mul_nonneg m0 n0
  obtain ⟨w1, w2, w3⟩ := wv_parts m0 m1
  have un : U64 n := ⟨n0, by omega⟩
  rw [round_Part.j0, if_neg (by decide), i_wrap a0 a1, i_wrap b0 b1, i_wrap n0 (by omega), i_wrap (x := p) (by omega) p1, i_wrap (x := d) (by omega) (by omega), mul_eq (i_u64 a0 a1) (i_u64 b0 b1), Option.bind_some]
  show ((wide_Times.f (a * b / 18446744073709551616) (a * b % 18446744073709551616) n).bind fun bt5652 => ((wide_Mul.f p d).bind fun bt5656 => (if bt5652.2.2 = 0 then (if bt5656.1 = 0 then ((round_Even.f (k + 1) bt5652.1 bt5652.2.1 bt5656.2).bind fun bt5659 => (some (bt5659.1, bt5659.2))) else (some (0, 6))) else (some (0, 6))))) = some (parted (a * b * n) (p * d))
  rw [times_eq w1 w2 un, w3, Option.bind_some, mul_eq (i_u64 (by omega) p1) (i_u64 (by omega) (by omega)), Option.bind_some]
  unfold parted
  clear w1 w2 w3
  generalize a * b * n = x at *
  generalize p * d = e at *
  by_cases c1 : x < 340282366920938463463374607431768211456
  · rw [if_pos c1]
    show (if (0 : Int) = 0 then (if e / 18446744073709551616 = 0 then ((round_Even.f (k + 1) (x / 18446744073709551616) (x % 18446744073709551616) (e % 18446744073709551616)).bind fun bt5659 => (some (bt5659.1, bt5659.2))) else (some (0, 6))) else (some (0, 6))) = _
    rw [if_pos rfl]
    by_cases c2 : e < 18446744073709551616
    · have e3 : e % 18446744073709551616 = e := by omega
      rw [if_pos (show e / 18446744073709551616 = 0 by omega), if_pos (show x < 340282366920938463463374607431768211456 ∧ e < 18446744073709551616 from ⟨c1, c2⟩), e3, round_at mn c1 dp c2 k, Option.bind_some]
    · rw [if_neg (show ¬ e / 18446744073709551616 = 0 by omega), if_neg (fun h : _ ∧ _ => c2 h.2)]
  · rw [if_neg c1, if_neg (fun h : _ ∧ _ => c1 h.1)]
    rfl

theorem rpart_at {a b n d p : Int} (a1 : a < 9223372036854775808) (b1 : b < 9223372036854775808) (n0 : 0 ≤ n) (n1 : n ≤ 4611686018427387904) (d0 : 1 ≤ d) (d1 : d ≤ 4611686018427387904) (p1 : p < 9223372036854775808) (k : Nat) :
    round_Part.f (k + 2) a b n d p = some (parts a b n d p) := by
  have no : round_Part.j0 (k + 2) a b p true n d = some (0, 1) := by rw [round_Part.j0, if_pos rfl]
  unfold round_Part.f parts
  by_cases c1 : a < 0
  · rw [if_pos c1, if_pos (Or.inl c1), no]
  · rw [if_neg c1]
    by_cases c2 : b < 0
    · rw [if_pos c2, if_pos (Or.inr (Or.inl c2)), no]
    · rw [if_neg c2]
      by_cases c3 : p < 1
      · rw [decide_eq_true c3, if_pos (Or.inr (Or.inr c3)), no]
      · rw [decide_eq_false c3, if_neg (by omega)]
        exact rpart_j (by omega) a1 (by omega) b1 n0 n1 d0 d1 (by omega) p1 k
end Go.Proofs.Ytcdbmmlnmefoeaa.X
