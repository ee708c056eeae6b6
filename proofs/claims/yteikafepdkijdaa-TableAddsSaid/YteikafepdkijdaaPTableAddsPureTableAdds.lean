/- TableAdds: two tables' sums, of rows one behind the other, add up, where none is too great; rows in another order have the same sums, but for what is open. -/
import Derived.Test.YteikafepdkijdaaPTableAddsXTableAdds
import Derived.Test.YteikafepdkijdaaPTableAddsT
set_option maxRecDepth 10000
namespace Go.Proofs.Yteikafepdkijdaa.Pure
open Go.RowKit Go.Proofs.Yteikafepdkijdaa.X Go.Proofs.YteikafepdkijdaaW.PrintWords Go.Proofs.YteikafepdkijdaaW.PrintLast

theorem TableAdds (a b : List S48) (_ : ∀ x ∈ a, (Lit.int .i64 x.f0).wf = true ∧ (Lit.int .i64 x.f1).wf = true ∧ (Lit.int .i64 x.f2).wf = true ∧ (Lit.int .i64 x.f3).wf = true ∧ (Lit.int .i64 x.f4).wf = true) (_ : ∀ x ∈ b, (Lit.int .i64 x.f0).wf = true ∧ (Lit.int .i64 x.f1).wf = true ∧ (Lit.int .i64 x.f2).wf = true ∧ (Lit.int .i64 x.f3).wf = true ∧ (Lit.int .i64 x.f4).wf = true) : ∃ k, demurragelaw21_TableAdds.f k a b = some true := by
 obtain ⟨K0, h0⟩ := shown_at
 have yes : ∀ k, demurragelaw21_TableAdds.j0 (k + 1) a b true true = some true := fun k => by rw [demurragelaw21_TableAdds.j0, if_pos rfl]
 have h0' : demurragelaw21_shown.f (K0 + 1) = some true := h0 _ (by omega)
 by_cases c1 : (a.length : Int) < 1
 ·refine ⟨K0 + 1, ?_⟩
  unfold demurragelaw21_TableAdds.f
  rw [h0', Option.bind_some, if_pos c1]
  exact yes K0
 by_cases c2 : (b.length : Int) < 1
 ·refine ⟨K0 + 1, ?_⟩
  unfold demurragelaw21_TableAdds.f
  rw [h0', Option.bind_some, if_neg c1, if_pos c2]
  exact yes K0
 by_cases c3 : (a.length : Int) > 20
 ·refine ⟨K0 + 1, ?_⟩
  unfold demurragelaw21_TableAdds.f
  rw [h0', Option.bind_some, if_neg c1, if_neg c2, if_pos c3]
  exact yes K0
 by_cases c4 : (b.length : Int) > 20
 ·refine ⟨K0 + 1, ?_⟩
  unfold demurragelaw21_TableAdds.f
  rw [h0', Option.bind_some, if_neg c1, if_neg c2, if_neg c3, if_pos c4]
  exact yes K0
 obtain ⟨u, ⟨K1, h1⟩, hu⟩ := few_at a (by omega)
 obtain ⟨v, ⟨K2, h2⟩, hv⟩ := few_at b (by omega)
 generalize hk : K0 + K1 + K2 + 41 = k
 have h0 : demurragelaw21_shown.f (k + 1) = some true := h0 _ (by omega)
 have h1 : demurragelaw21_few.f (k + 1) a = some u := h1 _ (by omega)
 have h2 : demurragelaw21_few.f (k + 1) b = some v := h2 _ (by omega)
 refine ⟨k + 1, ?_⟩
 unfold demurragelaw21_TableAdds.f
 rw [h0, Option.bind_some, if_neg c1, if_neg c2, if_neg c3, if_neg c4, h1, Option.bind_some]
 cases u with
 | false => exact yes k
 | true =>
  rw [if_pos rfl, h2, Option.bind_some]
  cases v with
  | false => exact yes k
  | true =>
   have fa := hu rfl
   have fb := hv rfl
   have la : (a ++ b).length = a.length + b.length := List.length_append
   have lb : (b ++ a).length = b.length + a.length := List.length_append
   have xa := adds_at fa (by omega) (by omega) k (by omega)
   have xb := adds_at fb (by omega) (by omega) k (by omega)
   have xz := adds_at (fews_append fa fb) (by omega) (by omega) k (by omega)
   have xw := adds_at (fews_append fb fa) (by omega) (by omega) k (by omega)
   have ez0 : rd_T48 (a ++ b) ((0 : Nat) : Int) = rd_T48 a ((0 : Nat) : Int) := rd_left a b (by omega)
   have ew0 : rd_T48 (b ++ a) ((0 : Nat) : Int) = rd_T48 b ((0 : Nat) : Int) := rd_left b a (by omega)
   have ez1 : rd_T48 (a ++ b) (((a ++ b).length - 1 : Nat) : Int) = rd_T48 b ((b.length - 1 : Nat) : Int) := by
    have := rd_right a b (j := b.length - 1) (by omega)
    rw [← this]
    congr 1
    omega
   have ew1 : rd_T48 (b ++ a) (((b ++ a).length - 1 : Nat) : Int) = rd_T48 a ((a.length - 1 : Nat) : Int) := by
    have := rd_right b a (j := a.length - 1) (by omega)
    rw [← this]
    congr 1
    omega
   rw [ez0, ez1, sm_append, sm_append, sm_append] at xz
   rw [ew0, ew1, sm_append, sm_append, sm_append] at xw
   have i1 := sm_in (X := a) (·.f1) (fun r h => ⟨h.1, h.2.2.2.1⟩) fa a.length 0 (by omega)
   have i2 := sm_in (X := a) (·.f2) (fun r h => ⟨h.2.1, h.2.2.2.2.1⟩) fa a.length 0 (by omega)
   have i3 := sm_in (X := a) (·.f3) (fun r h => ⟨h.2.2.1, h.2.2.2.2.2⟩) fa a.length 0 (by omega)
   have j1 := sm_in (X := b) (·.f1) (fun r h => ⟨h.1, h.2.2.2.1⟩) fb b.length 0 (by omega)
   have j2 := sm_in (X := b) (·.f2) (fun r h => ⟨h.2.1, h.2.2.2.2.1⟩) fb b.length 0 (by omega)
   have j3 := sm_in (X := b) (·.f3) (fun r h => ⟨h.2.2.1, h.2.2.2.2.2⟩) fb b.length 0 (by omega)
   rw [List.drop_zero] at i1 i2 i3 j1 j2 j3
   generalize sm (·.f1) a = s1 at *
   generalize sm (·.f2) a = s2 at *
   generalize sm (·.f3) a = s3 at *
   generalize sm (·.f1) b = t1 at *
   generalize sm (·.f2) b = t2 at *
   generalize sm (·.f3) b = t3 at *
   rw [Int.add_comm t1, Int.add_comm t2, Int.add_comm t3] at xw
   have n1 : ([] : List S48).length + a.length < 3518437208883 := by
    show 0 + a.length < _
    omega
   have n2 : a.length + b.length < 3518437208883 := by omega
   have n3 : ([] : List S48).length + b.length < 3518437208883 := by
    show 0 + b.length < _
    omega
   have n4 : b.length + a.length < 3518437208883 := by omega
   have w1 : wrap64 (s1 + t1) = s1 + t1 := wrap64_small (by omega) (by omega)
   have w2 : wrap64 (s2 + t2) = s2 + t2 := wrap64_small (by clear w1; omega) (by clear w1; omega)
   have w3 : wrap64 (s3 + t3) = s3 + t3 := wrap64_small (by clear w1 w2; omega) (by clear w1 w2; omega)
   show demurragelaw21_TableAdds.j0 (k + 1) a b true false = some true
   rw [demurragelaw21_TableAdds.j0, if_neg (by decide), xa, Option.bind_some, xb, Option.bind_some, Option.bind_some, if_pos n1, Option.bind_some, List.nil_append, if_pos n2, xz, Option.bind_some, Option.bind_some, if_pos n3, Option.bind_some, List.nil_append, if_pos n4, xw, Option.bind_some, if_pos rfl, if_pos rfl, if_pos rfl, if_pos rfl, if_pos rfl]
   simp only [w1, w2, w3, beq_self_eq_true, Bool.and_self, if_true]
end Go.Proofs.Yteikafepdkijdaa.Pure
