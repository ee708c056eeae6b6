-- cut by prune.py, a program of this session
import Derived.Test.YtbapgkopilmdfaaDoorPActualMovesXCLeap
import Derived.LoopTactic
import Derived.Deep.LoopGhost
import Derived.WalkLawsBesides
namespace Go.Proofs.YtbapgkopilmdfaaDoor.X
open Go.RowKit Go.Proofs.YtbapgkopilmdfaaDoorW.PrintWords Go.Proofs.YtbapgkopilmdfaaDoorW.PrintLast Go.Proofs.YtbapgkopilmdfaaDoorW.PrintMore
attribute [local go_sem] max2_int min2_int max_two min_two
set_option linter.unusedVariables false
set_option linter.unusedSimpArgs false

def lenv (m : Int) : Int := if m = 2 then 28 else if m = 4 ∨ m = 6 ∨ m = 9 ∨ m = 11 then 30 else if m = 0 then 0 else 31
def lens : Array Value := #[.int .i64 0, .int .i64 31, .int .i64 28, .int .i64 31, .int .i64 30, .int .i64 31, .int .i64 30, .int .i64 31, .int .i64 31, .int .i64 30, .int .i64 31, .int .i64 30, .int .i64 31]
def Vars (w : World) : Prop := (∃ t, w.heap[2]? = some (.cells lens t (0, 0))) ∧
 ∃ (a0 a1 : Addr) (c0 c1 : Array Value) (t0 t1 t2 t3 : TypeId), w.heap[0]? = some (.cells #[.iface 122 (.pointer (some a0))] t2 (0, 0)) ∧ w.heap[1]? = some (.cells #[.iface 122 (.pointer (some a1))] t3 (0, 0)) ∧
  a0 ≠ a1 ∧ w.heap[a0.block]? = some (.cells c0 t0 (0, 0)) ∧ w.heap[a1.block]? = some (.cells c1 t1 (0, 0))
theorem Vars.below {w w' : World} (h : Vars w) (hb : Below w.heap.size w w') : Vars w' := by
 obtain ⟨⟨t, h1⟩, a0, a1, c0, c1, t0, t1, t2, t3, h2, h3, hne, h4, h5⟩ := h
 exact ⟨⟨t, (hb.block _ (blk_lt h1)).trans h1⟩, a0, a1, c0, c1, t0, t1, t2, t3, (hb.block _ (blk_lt h2)).trans h2, (hb.block _ (blk_lt h3)).trans h3, hne, (hb.block _ (blk_lt h4)).trans h4, (hb.block _ (blk_lt h5)).trans h5⟩
theorem Vars.len {w : World} (h : Vars w) (j : Nat) (h0 : 1 ≤ j) (h1 : j ≤ 12) : w.cell? ⟨2, j, none⟩ = some (.int .i64 (lenv (j : Int))) := by
 obtain ⟨⟨t, h⟩, _⟩ := h
 have hc := blk_cell h j
 rw [hc]
 match j, h0, h1 with
 | 1, _, _ => rfl
 | 2, _, _ => rfl
 | 3, _, _ => rfl
 | 4, _, _ => rfl
 | 5, _, _ => rfl
 | 6, _, _ => rfl
 | 7, _, _ => rfl
 | 8, _, _ => rfl
 | 9, _, _ => rfl
 | 10, _, _ => rfl
 | 11, _, _ => rfl
 | 12, _, _ => rfl

def civil_Length.f (a0 a1 : Int) : Option Int := if a1 < 1 then some 0 else if a1 > 12 then some 0 else if a1 = 2 then (civil_Leap.f a0).bind fun t => if t = true then some 29 else some 28 else some (lenv a1)
theorem lenv_in (m : Int) : 0 ≤ lenv m ∧ lenv m ≤ 31 := by
 unfold lenv
 repeat' split
 all_goals omega
set_option maxHeartbeats 8000000 in
set_option maxRecDepth 100000 in
theorem civil_Length.calls (a0 a1 : Int) (r : Int) (w : World) (hv : Vars w) (h : civil_Length.f a0 a1 = some r) :
  Calls Tryd.prog 46 #[.int .i64 a0, .int .i64 a1] w fun e w' => e = .returned (.int .i64 r) ∧ Drawn0 w w' := by
 have HV := aA_ hv
 clear hv
 unfold civil_Length.f at h
 by_cases c1 : a1 < 1
 ·rw [if_pos c1] at h
  have b1 : decide (a1 < 1) = true := decide_eq_true c1
  clear c1
  obtain rfl := Option.some.inj h
  clear h
  go_enter Tryd.func46, Tryd.ntmps46
  go_wp2
  go_ret
  exact ⟨rfl, Drawn0.refl _⟩
 rw [if_neg c1] at h
 have b1 : decide (a1 < 1) = false := decide_eq_false c1
 by_cases c2 : a1 > 12
 ·rw [if_pos c2] at h
  have b2 : decide (12 < a1) = true := decide_eq_true c2
  clear c1 c2
  obtain rfl := Option.some.inj h
  clear h
  go_enter Tryd.func46, Tryd.ntmps46
  go_wp2
  go_ret
  exact ⟨rfl, Drawn0.refl _⟩
 rw [if_neg c2] at h
 have b2 : decide (12 < a1) = false := decide_eq_false c2
 obtain ⟨j, rfl⟩ := Int.eq_ofNat_of_zero_le (show 0 ≤ a1 by omega)
 have hz := HV.out.len j (by omega) (by omega)
 have z0 : 0 ≤ (j : Int) := by omega
 have z1 : (j : Int) < 13 := by omega
 have lin := lenv_in (j : Int)
 by_cases c3 : (j : Int) = 2
 ·rw [if_pos c3] at h
  have b3 : ((j : Int) == 2) = true := beq_iff_eq.mpr c3
  obtain ⟨t, A, h⟩ := bI_ h
  have HA := aA_ A
  clear A
  have HL := aA_ (show lenv (j : Int) = 28 by rw [c3]; rfl)
  rw [HL.out] at hz
  clear c1 c2 c3 lin
  cases t with
  | true =>
   rw [if_pos rfl] at h
   obtain rfl := Option.some.inj h
   clear h
   go_enter Tryd.func46, Tryd.ntmps46
   go_wp2_with (go_at_call 48; (with_reducible refine (civil_Leap.calls a0 true _ HA.out).mono ?_); rintro e w' ⟨rfl, ⟨nd, rfl⟩⟩)
   go_ret
   exact ⟨rfl, ⟨_, rfl⟩⟩
  | false =>
   rw [if_neg (by decide)] at h
   obtain rfl := Option.some.inj h
   clear h
   go_enter Tryd.func46, Tryd.ntmps46
   go_wp2_with (go_at_call 48; (with_reducible refine (civil_Leap.calls a0 false _ HA.out).mono ?_); rintro e w' ⟨rfl, ⟨nd, rfl⟩⟩)
   go_ret
   exact ⟨rfl, ⟨_, rfl⟩⟩
 ·rw [if_neg c3] at h
  have b3 : ((j : Int) == 2) = false := beq_eq_false_iff_ne.mpr c3
  obtain rfl := Option.some.inj h
  clear h c1 c2 c3
  go_enter Tryd.func46, Tryd.ntmps46
  go_wp2
  go_ret
  exact ⟨rfl, Drawn0.refl _⟩
end Go.Proofs.YtbapgkopilmdfaaDoor.X
