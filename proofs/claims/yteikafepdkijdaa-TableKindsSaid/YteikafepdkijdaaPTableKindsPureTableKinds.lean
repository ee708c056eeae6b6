/- TableKinds: each kind's table is the one of its own layer, and no other number is a kind's. -/
import Derived.Test.YteikafepdkijdaaPTableKindsXTableKinds
import Derived.Test.YteikafepdkijdaaPTableKindsT
set_option maxRecDepth 10000
namespace Go.Proofs.Yteikafepdkijdaa.Pure
open Go.RowKit Go.Proofs.Yteikafepdkijdaa.X Go.Proofs.YteikafepdkijdaaW.PrintWords Go.Proofs.YteikafepdkijdaaW.PrintLast

theorem TableKinds (n a b : Int) (l : List S56) (_ : (Lit.int .i64 n).wf = true) (_ : (Lit.int .i64 a).wf = true) (wb : (Lit.int .i64 b).wf = true) (_ : ∀ x ∈ l, (Lit.int .i64 x.f0).wf = true ∧ (Lit.int .i64 x.f1).wf = true) : ∃ k, demurragelaw21_TableKinds.f k n a b l = some true := by
 have hb := i64_wf wb
 obtain ⟨K0, h0⟩ := shown_at
 by_cases g : (l.length : Int) > 20
 ·refine ⟨K0, ?_⟩
  have h0 : demurragelaw21_shown.f K0 = some true := h0 K0 (Nat.le_refl _)
  unfold demurragelaw21_TableKinds.f
  rw [h0, Option.bind_some, if_pos g]
 ·obtain ⟨R, R0, ⟨K1, r1⟩, _⟩ := bullets_at a b hb.2 l
  obtain ⟨S, S0, ⟨K2, s1⟩, _⟩ := equals_at a b hb.2 l
  obtain ⟨w, p, T, T0, _, ⟨K3, t1⟩, _⟩ := both_at (a := a) hb.2 l (by omega)
  obtain ⟨O, O0, ⟨K4, o1⟩, o2⟩ := kind_at n (a := a) hb.2 l (by omega)
  obtain ⟨K5, e1⟩ := same_at R.1 (by omega)
  obtain ⟨K6, e2⟩ := same_at S.1 (by omega)
  obtain ⟨K7, e3⟩ := same_at T (by omega)
  generalize hk : K0 + K1 + K2 + K3 + K4 + K5 + K6 + K7 = k
  have h0 : demurragelaw21_shown.f k = some true := h0 k (by omega)
  have r1 : plain_Bullet.f k a b l = some R := r1 k (by omega)
  have s1 : plain_Equal.f k a b l = some S := s1 k (by omega)
  have t1 : level_Table.f k a b l = some (T, w) := t1 k (by omega)
  have o1 : table_Of.f k n a b l = some O := o1 k (by omega)
  have e1 : demurrageref19_Same.f k R.1 R.1 = some true := e1 k (by omega)
  have e2 : demurrageref19_Same.f k S.1 S.1 = some true := e2 k (by omega)
  have e3 : demurrageref19_Same.f k T T = some true := e3 k (by omega)
  have f0 : table_Of.f k 0 a b l = some R := by
   unfold table_Of.f
   rw [if_pos rfl]
   exact r1
  have f1 : table_Of.f k 1 a b l = some S := by
   unfold table_Of.f
   rw [if_neg (by decide), if_pos rfl]
   exact s1
  have f2 : table_Of.f k 2 a b l = some (T, w) := by
   unfold table_Of.f
   rw [if_neg (by decide), if_neg (by decide), if_pos rfl]
   exact t1
  refine ⟨k, ?_⟩
  unfold demurragelaw21_TableKinds.f
  rw [h0, Option.bind_some, if_neg g, f0, Option.bind_some, r1, Option.bind_some, f1, Option.bind_some, s1, Option.bind_some, f2, Option.bind_some, t1, Option.bind_some, o1, Option.bind_some, if_pos rfl, if_pos rfl, if_pos rfl, if_pos rfl, e1, Option.bind_some, if_pos rfl, e2, Option.bind_some, if_pos rfl, e3, Option.bind_some, if_pos rfl]
  by_cases c1 : n ≥ 0
  ·rw [if_pos c1]
   by_cases c2 : n ≤ 2
   ·rw [if_pos c2]
   ·have e := o2 (by omega)
    rw [if_neg c2, e, if_pos rfl]
    rfl
  ·have e := o2 (by omega)
   rw [if_neg c1, e, if_pos rfl]
   rfl
end Go.Proofs.Yteikafepdkijdaa.Pure
