/- TableTells: tables of each kind, and codes, are as the document says, with the least payment as chapter 20 tells it. -/
import Derived.Test.YteikafepdkijdaaPTableTellsXTableTells
import Derived.Test.YteikafepdkijdaaPTableTellsT
set_option maxRecDepth 10000
namespace Go.Proofs.Yteikafepdkijdaa.Pure
open Go.RowKit Go.Proofs.Yteikafepdkijdaa.X Go.Proofs.YteikafepdkijdaaW.PrintWords Go.Proofs.YteikafepdkijdaaW.PrintLast

theorem tells_at (n : Int) {a b : Int} (hb : b < 9223372036854775808) (ps : List S56) (hp : ps.length ≤ 1200) :
  ∃ (R : List S48 × Int) (p w : Int), R.1.length ≤ 1200 ∧ At (fun k => level_Least.f k a b ps) (p, w) ∧ At (fun k => table_Of.f k n a b ps) R ∧ At (fun k => demurrageref21_Of.f k n a b ps p) R := by
 obtain ⟨w, p, l, l0, ⟨K1, g1⟩, ⟨K2, g2⟩, ⟨K3, g3⟩, g4, g5⟩ := both_at (a := a) hb ps hp
 by_cases c0 : n = 0
 ·obtain ⟨R, r0, ⟨K4, r1⟩, ⟨K5, r2⟩⟩ := bullets_at a b hb ps
  refine ⟨R, p, w, r0, ⟨K1, g1⟩, ⟨K4, fun k hk => ?_⟩, ⟨K5, fun k hk => ?_⟩⟩
  ·show table_Of.f k n a b ps = _
   unfold table_Of.f
   rw [if_pos c0]
   exact r1 k hk
  ·have r2 : demurrageref19_Bullet.f k a b ps = some R := r2 k hk
   show demurrageref21_Of.f k n a b ps p = _
   unfold demurrageref21_Of.f
   rw [if_pos c0, r2, Option.bind_some]
 ·by_cases c1 : n = 1
  ·obtain ⟨R, r0, ⟨K4, r1⟩, ⟨K5, r2⟩⟩ := equals_at a b hb ps
   refine ⟨R, p, w, r0, ⟨K1, g1⟩, ⟨K4, fun k hk => ?_⟩, ⟨K5, fun k hk => ?_⟩⟩
   ·show table_Of.f k n a b ps = _
    unfold table_Of.f
    rw [if_neg c0, if_pos c1]
    exact r1 k hk
   ·have r2 : demurrageref19_Equal.f k a b ps = some R := r2 k hk
    show demurrageref21_Of.f k n a b ps p = _
    unfold demurrageref21_Of.f
    rw [if_neg c0, if_pos c1, r2, Option.bind_some]
  ·by_cases c2 : n = 2
   ·refine ⟨(l, w), p, w, l0, ⟨K1, g1⟩, ⟨K2, fun k hk => ?_⟩, ?_⟩
    ·show table_Of.f k n a b ps = _
     unfold table_Of.f
     rw [if_neg c0, if_neg c1, if_pos c2]
     exact g2 k hk
    ·by_cases e : w = 0
     ·obtain ⟨K4, r1⟩ := g4 e
      refine ⟨K3 + K4, fun k hk => ?_⟩
      have g3 : demurrageref20_Why.f k a b ps = some w := g3 k (by omega)
      have r1 : demurrageref20_With.f k a b ps p = some l := r1 k (by omega)
      show demurrageref21_Of.f k n a b ps p = _
      unfold demurrageref21_Of.f
      rw [if_neg c0, if_neg c1, if_pos c2, g3, Option.bind_some, if_pos e, r1, Option.bind_some, e]
     ·refine ⟨K3, fun k hk => ?_⟩
      have g3 : demurrageref20_Why.f k a b ps = some w := g3 k (by omega)
      show demurrageref21_Of.f k n a b ps p = _
      unfold demurrageref21_Of.f
      rw [if_neg c0, if_neg c1, if_pos c2, g3, Option.bind_some, if_neg e, g5 e]
   ·refine ⟨([], 1), p, w, by simp, ⟨K1, g1⟩, ⟨0, fun k hk => ?_⟩, ⟨0, fun k hk => ?_⟩⟩
    ·show table_Of.f k n a b ps = _
     unfold table_Of.f
     rw [if_neg c0, if_neg c1, if_neg c2]
    ·show demurrageref21_Of.f k n a b ps p = _
     unfold demurrageref21_Of.f
     rw [if_neg c0, if_neg c1, if_neg c2]

theorem TableTells (n a b : Int) (l : List S56) (_ : (Lit.int .i64 n).wf = true) (_ : (Lit.int .i64 a).wf = true) (wb : (Lit.int .i64 b).wf = true) (_ : ∀ x ∈ l, (Lit.int .i64 x.f0).wf = true ∧ (Lit.int .i64 x.f1).wf = true) : ∃ k, demurragelaw21_TableTells.f k n a b l = some true := by
 have hb := i64_wf wb
 obtain ⟨K0, h0⟩ := shown_at
 by_cases g : (l.length : Int) > 20
 ·refine ⟨K0, ?_⟩
  have h0 : demurragelaw21_shown.f K0 = some true := h0 K0 (Nat.le_refl _)
  unfold demurragelaw21_TableTells.f
  rw [h0, Option.bind_some, if_pos g]
 ·obtain ⟨R, p, w, r0, ⟨K1, r1⟩, ⟨K2, r2⟩, ⟨K3, r3⟩⟩ := tells_at n (a := a) hb.2 l (by omega)
  obtain ⟨K4, e⟩ := same_at R.1 (by omega)
  generalize hk : K0 + K1 + K2 + K3 + K4 = k
  have h0 : demurragelaw21_shown.f k = some true := h0 k (by omega)
  have r1 : level_Least.f k a b l = some (p, w) := r1 k (by omega)
  have r2 : table_Of.f k n a b l = some R := r2 k (by omega)
  have r3 : demurrageref21_Of.f k n a b l p = some R := r3 k (by omega)
  have e : demurrageref19_Same.f k R.1 R.1 = some true := e k (by omega)
  refine ⟨k, ?_⟩
  unfold demurragelaw21_TableTells.f
  rw [h0, Option.bind_some, if_neg g, r1, Option.bind_some, r2, Option.bind_some, r3, Option.bind_some, if_pos rfl, e, Option.bind_some, if_pos rfl]
  exact congrArg some (beq_self_eq_true _)
end Go.Proofs.Yteikafepdkijdaa.Pure
