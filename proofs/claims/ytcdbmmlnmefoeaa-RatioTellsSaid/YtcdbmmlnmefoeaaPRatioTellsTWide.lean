-- CUT by prune.py, a program of this session, to what the claim reaches (out of a text that the kit's printer, the session's programs or the session wrote)
import Derived.Test.YtcdbmmlnmefoeaaPRatioTellsXWCmp
import Derived.Test.YtcdbmmlnmefoeaaPRatioTellsXWMul
namespace Go.Proofs.Ytcdbmmlnmefoeaa.X
open Go.RowKit Go.Proofs.YtcdbmmlnmefoeaaW.PrintWords Go.Proofs.YtcdbmmlnmefoeaaW.PrintLast

theorem u64_wf {a : Int} (h : (Lit.int .u64 a).wf = true) : U64 a := by
  simp only [Lit.wf, IntKind.min, IntKind.max, IntKind.signed, IntKind.bits, Bool.and_eq_true] at h
  simp at h
  exact ⟨h.1, by omega⟩

theorem compare_eq (a b : Int) : cmp_Compare_uint64.f a b = some (if a < b then -1 else if a = b then 0 else 1) := by
  unfold cmp_Compare_uint64.f cmp_isNaN_uint64.f
  simp only [bne_self_eq_false, Option.bind_some, Bool.false_eq_true, if_false]
  split
  · rfl
  · split
    · rw [if_neg (by omega)]
    · rw [if_pos (by omega)]

theorem wcmp_eq {h1 l1 h2 l2 : Int} (a1 : U64 h1) (a2 : U64 l1) (b1 : U64 h2) (b2 : U64 l2) : wide_Cmp.f h1 l1 h2 l2 = some (if wv h1 l1 < wv h2 l2 then -1 else if wv h1 l1 = wv h2 l2 then 0 else 1) := by
  unfold wide_Cmp.f
  simp only [compare_eq, Option.bind_some]
  obtain ⟨p1, p2⟩ := a1
  obtain ⟨p3, p4⟩ := a2
  obtain ⟨p5, p6⟩ := b1
  obtain ⟨p7, p8⟩ := b2
  unfold wv
  split
  · subst h1
    congr 1
    repeat' split
    all_goals omega
  · congr 1
    repeat' split
    all_goals omega

theorem of_eq (a : Int) : wide_Of.f a = some (0, a) := rfl

/-- What a wide number's halves are. -/
theorem wv_parts {x : Int} (h0 : 0 ≤ x) (h1 : x < 340282366920938463463374607431768211456) : U64 (x / 18446744073709551616) ∧ U64 (x % 18446744073709551616) ∧ wv (x / 18446744073709551616) (x % 18446744073709551616) = x :=
  ⟨⟨by omega, by omega⟩, ⟨by omega, by omega⟩, by unfold wv; omega⟩
end Go.Proofs.Ytcdbmmlnmefoeaa.X
