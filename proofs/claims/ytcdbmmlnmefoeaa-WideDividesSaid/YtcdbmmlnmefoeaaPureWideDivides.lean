/- WideDivides: how often a number goes into a wide one, and what is left, are exact; by 0 it is refused. -/
import Derived.Test.YtcdbmmlnmefoeaaXWideDivides
import Derived.Test.YtcdbmmlnmefoeaaTShownOne
import Derived.Test.YtcdbmmlnmefoeaaTBigTen
set_option maxRecDepth 10000
namespace Go.Proofs.Ytcdbmmlnmefoeaa.Pure
open Go.RowKit Go.Proofs.Ytcdbmmlnmefoeaa.X Go.Proofs.YtcdbmmlnmefoeaaW.PrintWords Go.Proofs.YtcdbmmlnmefoeaaW.PrintLast

theorem WideDivides (a b d : Int) (wa : (Lit.int .u64 a).wf = true) (wb : (Lit.int .u64 b).wf = true) (wd : (Lit.int .u64 d).wf = true) : ∃ k, demurragelaw01_WideDivides.f k a b d = some true := by
  have ha := u64_wf wa
  have hb := u64_wf wb
  have hd := u64_wf wd
  by_cases h0 : d = 0
  · subst h0
    refine ⟨0, ?_⟩
    unfold demurragelaw01_WideDivides.f
    rw [shown_one, Option.bind_some, div_zero ha hb, Option.bind_some]
    simp
  · have hp : 0 < d := by have := hd.1; omega
    have lx := wv_lt ha hb
    have r0 := Int.emod_nonneg (wv a b) h0
    have r1 := Int.emod_lt_of_pos (wv a b) hp
    have q0 : 0 ≤ wv a b / d := Int.ediv_nonneg lx.1 hd.1
    have q1 : wv a b / d ≤ wv a b := Int.ediv_le_self _ lx.1
    obtain ⟨p1, p2, p3⟩ := wv_parts q0 (by omega)
    have ur : U64 (wv a b % d) := ⟨r0, by have := hd.2; omega⟩
    obtain ⟨s, s1, s2, s3, s4⟩ := fromW_at ha hb
    obtain ⟨t, t1, t2, t3, t4, t5⟩ := fromU_at hd
    obtain ⟨u, u1, u2, u3, u4, u5⟩ := fromU_at ur
    obtain ⟨q, r, e1, e2, e3, e4, e5, e6, e7, e8, e9⟩ := quot_at s2 t2 (by omega) (by omega) (by rw [t3]; exact hp)
    have i := is_at p1 p2 e2 (by omega)
    have c := cmp_at u2 e5 (by omega) (by omega)
    rw [s3, t3] at e8 e9
    rw [p3, e8, decide_eq_true rfl] at i
    have c0 : bsg (bv u) (bv r) = 0 := by
      rw [u3, e9]
      unfold bsg
      rw [if_neg (by omega), if_pos rfl]
    rw [c0] at c
    have step : ∀ k, demurragelaw01_WideDivides.f k a b d = (demurrageref01_FromW.f k a b).bind fun x => (demurrageref01_FromU.f k d).bind fun y => (demurrageref01_Quot.f k x y).bind fun v =>
        (demurrageref01_Is.f k (wv a b / d / 18446744073709551616) (wv a b / d % 18446744073709551616) v.1).bind fun w => if w = true then (demurrageref01_FromU.f k (wv a b % d)).bind fun y => (demurrageref01_Cmp.f k y v.2).bind fun z => some (z == 0) else none := by
      intro k
      unfold demurragelaw01_WideDivides.f
      rw [shown_one, Option.bind_some, div_eq ha hb hd h0, Option.bind_some, if_neg h0]
      simp only [if_true, r1]
    have f1 : At (fun k => (demurrageref01_Cmp.f k u r).bind fun z => some (z == 0)) true := At.bind (g := fun _ z => some (z == 0)) c ⟨0, fun _ _ => rfl⟩
    have f2 : At (fun k => (demurrageref01_FromU.f k (wv a b % d)).bind fun y => (demurrageref01_Cmp.f k y r).bind fun z => some (z == 0)) true := At.bind (g := fun k y => (demurrageref01_Cmp.f k y r).bind fun z => some (z == 0)) u1 f1
    have f3 := At.bind (g := fun k w => if w = true then (demurrageref01_FromU.f k (wv a b % d)).bind fun y => (demurrageref01_Cmp.f k y r).bind fun z => some (z == 0) else none) (b := true) i (by
      obtain ⟨K, h⟩ := f2
      exact ⟨K, fun k hk => (if_pos rfl).trans (h k hk)⟩)
    have f4 := At.bind (g := fun k v => (demurrageref01_Is.f k (wv a b / d / 18446744073709551616) (wv a b / d % 18446744073709551616) v.1).bind (fun w => if w = true then (demurrageref01_FromU.f k (wv a b % d)).bind fun y => (demurrageref01_Cmp.f k y v.2).bind fun z => some (z == 0) else none)) (b := true) e1 f3
    have f5 := At.bind (g := fun k y => (demurrageref01_Quot.f k s y).bind fun v => (demurrageref01_Is.f k (wv a b / d / 18446744073709551616) (wv a b / d % 18446744073709551616) v.1).bind (fun w => if w = true then (demurrageref01_FromU.f k (wv a b % d)).bind fun y => (demurrageref01_Cmp.f k y v.2).bind fun z => some (z == 0) else none)) (b := true) t1 f4
    have f6 := At.bind (g := fun k x => (demurrageref01_FromU.f k d).bind fun y => (demurrageref01_Quot.f k x y).bind fun v => (demurrageref01_Is.f k (wv a b / d / 18446744073709551616) (wv a b / d % 18446744073709551616) v.1).bind (fun w => if w = true then (demurrageref01_FromU.f k (wv a b % d)).bind fun y => (demurrageref01_Cmp.f k y v.2).bind fun z => some (z == 0) else none)) (b := true) s1 f5
    have fin : At (fun k => demurragelaw01_WideDivides.f k a b d) true := by
      obtain ⟨K, h⟩ := f6
      exact ⟨K, fun k hk => (step k).trans (h k hk)⟩
    obtain ⟨K, h⟩ := fin
    exact ⟨K, h K (Nat.le_refl K)⟩
end Go.Proofs.Ytcdbmmlnmefoeaa.Pure
