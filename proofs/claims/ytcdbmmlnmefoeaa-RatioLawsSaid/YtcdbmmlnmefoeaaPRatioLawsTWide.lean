-- CUT by prune.py, a program of this session, to what the claim reaches (out of a text that the kit's printer, the session's programs or the session wrote)
import Derived.Test.YtcdbmmlnmefoeaaPRatioLawsXWCmp
import Derived.Test.YtcdbmmlnmefoeaaPRatioLawsXWMul
namespace Go.Proofs.Ytcdbmmlnmefoeaa.X
open Go.RowKit Go.Proofs.YtcdbmmlnmefoeaaW.PrintWords Go.Proofs.YtcdbmmlnmefoeaaW.PrintLast

theorem mul_eq {a b : Int} (ha : U64 a) (hb : U64 b) : wide_Mul.f a b = some (a * b / 18446744073709551616, a * b % 18446744073709551616) := by
  unfold wide_Mul.f bits_Mul64.f
  rw [if_pos ⟨ha, hb⟩]
  rfl

theorem compare_eq (a b : Int) : cmp_Compare_uint64.f a b = some (if a < b then -1 else if a = b then 0 else 1) := by
  unfold cmp_Compare_uint64.f cmp_isNaN_uint64.f
  simp only [bne_self_eq_false, Option.bind_some, Bool.false_eq_true, if_false]
  split
  · rfl
  · split
    · rw [if_neg (by omega)]
    · rw [if_pos (by omega)]

theorem wcmp_eq {h1 l1 h2 l2 : Int} (a1 : U64 h1) (a2 : U64 l1) (b1 : U64 h2) (b2 : U64 l2) : wide_Cmp.f h1 l1 h2 l2 = some (if wv h1 l1 < wv h2 l2 then -1 else if wv h1 l1 = wv h2 l2 then 0 else 1) := by
  unfold wide_Cmp.f
  simp only [compare_eq, Option.bind_some]
  obtain ⟨p1, p2⟩ := a1
  obtain ⟨p3, p4⟩ := a2
  obtain ⟨p5, p6⟩ := b1
  obtain ⟨p7, p8⟩ := b2
  unfold wv
  split
  · subst h1
    congr 1
    repeat' split
    all_goals omega
  · congr 1
    repeat' split
    all_goals omega

theorem of_eq (a : Int) : wide_Of.f a = some (0, a) := rfl

theorem add_eq {h1 l1 h2 l2 : Int} (a1 : U64 h1) (a2 : U64 l1) (b1 : U64 h2) (b2 : U64 l2) : wide_Add.f h1 l1 h2 l2 = some (if wv h1 l1 + wv h2 l2 < 340282366920938463463374607431768211456 then ((wv h1 l1 + wv h2 l2) / 18446744073709551616, (wv h1 l1 + wv h2 l2) % 18446744073709551616, 0) else (0, 0, 6)) := by
  unfold wide_Add.f
  rw [if_pos ⟨⟨a1, a2⟩, b1, b2⟩]
  split <;> rfl

theorem div_eq {h l d : Int} (a1 : U64 h) (a2 : U64 l) (b : U64 d) (hd : d ≠ 0) : wide_Div.f h l d = some (wv h l / d / 18446744073709551616, wv h l / d % 18446744073709551616, wv h l % d, 0) := by
  unfold wide_Div.f
  rw [if_pos ⟨a1, a2, b⟩, if_neg hd]
  obtain ⟨p1, p2⟩ := a1
  obtain ⟨p3, p4⟩ := a2
  obtain ⟨p5, p6⟩ := b
  have e : wv h l = (h % d * 18446744073709551616 + l) + d * (h / d * 18446744073709551616) := by
    unfold wv
    have := Int.mul_ediv_add_emod h d
    conv => lhs; rw [← this]
    rw [Int.add_mul, Int.mul_assoc]
    omega
  have m1 := Int.emod_nonneg h hd
  have m2 := Int.emod_lt_of_pos h (show 0 < d by omega)
  have q1 : 0 ≤ (h % d * 18446744073709551616 + l) / d := Int.ediv_nonneg (by omega) p5
  have q2 : (h % d * 18446744073709551616 + l) / d < 18446744073709551616 := by
    refine Int.ediv_lt_of_lt_mul (by omega) ?_
    omega
  rw [e, Int.add_mul_ediv_left _ _ hd, Int.add_mul_emod_self_left]
  generalize (h % d * 18446744073709551616 + l) / d = q at q1 q2
  generalize (h % d * 18446744073709551616 + l) % d = r
  have e1 : (q + h / d * 18446744073709551616) / 18446744073709551616 = h / d := by omega
  have e2 : (q + h / d * 18446744073709551616) % 18446744073709551616 = q := by omega
  rw [e1, e2]
/-- What a wide number's halves are. -/
theorem wv_parts {x : Int} (h0 : 0 ≤ x) (h1 : x < 340282366920938463463374607431768211456) : U64 (x / 18446744073709551616) ∧ U64 (x % 18446744073709551616) ∧ wv (x / 18446744073709551616) (x % 18446744073709551616) = x :=
  ⟨⟨by omega, by omega⟩, ⟨by omega, by omega⟩, by unfold wv; omega⟩
theorem wv_lt {h l : Int} (a1 : U64 h) (a2 : U64 l) : 0 ≤ wv h l ∧ wv h l < 340282366920938463463374607431768211456 := by
  obtain ⟨p1, p2⟩ := a1
  obtain ⟨p3, p4⟩ := a2
  unfold wv
  omega
end Go.Proofs.Ytcdbmmlnmefoeaa.X
