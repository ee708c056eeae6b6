-- cut by prune.py, a program of this session
import Derived.Test.YteikafepdkijdaaPTableSumsX0
import Derived.LoopTactic
import Derived.Deep.LoopGhost
namespace Go.Proofs.Yteikafepdkijdaa.X
open Go.RowKit Go.Proofs.YteikafepdkijdaaW.PrintWords Go.Proofs.YteikafepdkijdaaW.PrintLast Go.Proofs.YteikafepdkijdaaW.PrintMore
attribute [local go_sem] max2_int min2_int max_two min_two
set_option linter.unusedVariables false
set_option linter.unusedSimpArgs false

def slices_Max_int_int.l0 : Nat → List Int → Int → Int → Option Int
 | 0, _, _, _ => none
 | k + 1, l, m, i => if i < (l.length : Int) then (if 0 ≤ i then slices_Max_int_int.l0 k l (if m < rd l i then rd l i else m) (wrap64 (i + 1)) else none) else some m
def slices_Max_int_int.f (k : Nat) (l : List Int) : Option Int := if (l.length : Int) < 1 then none else slices_Max_int_int.l0 k l (rd l 0) 1
theorem slices_Max_int_int.mono_l : ∀ k, (∀ y0 y1 y2, LeO (slices_Max_int_int.l0 k y0 y1 y2) (slices_Max_int_int.l0 (k + 1) y0 y1 y2))
 | 0 => fun _ _ _ r h => by simp [slices_Max_int_int.l0] at h
 | k + 1 => by
  have ih := slices_Max_int_int.mono_l k
  intro y0 y1 y2
  rw [slices_Max_int_int.l0, slices_Max_int_int.l0]
  exact LeO.ite (LeO.ite (ih _ _ _) (LeO.refl _)) (LeO.refl _)
theorem slices_Max_int_int.mono : ∀ l k, LeO (slices_Max_int_int.f k l) (slices_Max_int_int.f (k + 1) l) := fun l k => LeO.ite (LeO.refl _) (slices_Max_int_int.mono_l k _ _ _)

set_option maxHeartbeats 8000000 in
set_option maxRecDepth 100000 in
theorem slices_Max_int_int.calls (k : Nat) (A0 : Option Addr) (c0 : Nat) (l0 : List Int) (r : Int) (w : World) (hr0 : Kd.C (Kd.int .i64) w A0 l0.length l0) (hc0 : l0.length ≤ c0) (h : slices_Max_int_int.f k l0 = some r) :
  Calls Try.prog 55 #[.slice A0 l0.length c0] w fun e w' => e = .returned (.int .i64 r) ∧ Below w.heap.size w w' := by
 have HR0 := aA_ hr0
 have HB := aA_ (Below.refl w.heap.size w)
 clear hr0 hc0
 unfold slices_Max_int_int.f at h
 by_cases c1 : (l0.length : Int) < 1
 ·rw [if_pos c1] at h
  exact absurd h (by simp)
 rw [if_neg c1] at h
 have c1b0 : decide ((l0.length : Int) < 1) = false := decide_eq_false c1
 have z0 : (0 : Int) ≤ 0 := by omega
 have z1 : (0 : Int) < (l0.length : Int) := by omega
 obtain ⟨ad, e, hx0⟩ := Kd.at_int HR0.out 0 z0 z1
 cases e
 replace hx0 := cC_ HB hx0
 have hx00 : w.cell? ad = some (.int .i64 (rd l0 0)) := (show w.cell? ad = w.cell? (ad.add (0 : Int).toNat) from rfl).trans hx0
 have z1' := eq_true z1
 clear c1
 have H' := aA_ h
 clear h
 go_enter Try.func55, Try.ntmps55
 go_wp2
 (try simp only [Act.put, sT_, sZ_, sS_])
 go_loopg [3, 4] k (fun kq v3 v4 w' => ∃ (x3 x4 : Int), v3 = .int .i64 x3 ∧ v4 = .int .i64 x4 ∧ Aside0 (slices_Max_int_int.l0 kq l0 x3 x4 = some r) ∧ Aside0 (kq ≤ k) ∧ Aside0 (Below w.heap.size w w'))
 case atStart => exact ⟨rd l0 0, 1, rfl, rfl, H', ⟨Nat.le_refl _⟩, HB⟩
 case round =>
  clear H' HB
  obtain ⟨x3, x4, rfl, rfl, HA, HK, HB⟩ := hrel
  cases gk with
  | zero => exact absurd HA.out (by simp [slices_Max_int_int.l0])
  | succ k1 =>
   have H := HA.out
   clear HA
   simp only [slices_Max_int_int.l0] at H
   by_cases c5 : x4 < (l0.length : Int)
   ·rw [if_pos c5] at H
    have c5b0 : decide (x4 < (l0.length : Int)) = true := decide_eq_true c5
    by_cases c6 : 0 ≤ x4
    ·rw [if_pos c6] at H
     have c6b0 : decide (0 ≤ x4) = true := decide_eq_true c6
     obtain ⟨ad1, e1, hx1⟩ := Kd.at_int HR0.out x4 c6 c5
     cases e1
     replace hx1 := cC_ HB hx1
     have p5 := eq_true c5
     have p6 := eq_true c6
     clear c5 c6
     have H' := aA_ H
     clear H
     go_wp2
     ·rename_i hcmp
      replace H' := aA_ (by have := H'.out; rw [if_pos (by omega)] at this; exact this)
      go_roundg k1
      case measure => have := HK.out; omega
      case rel => exact ⟨rd l0 x4, wrap64 (x4 + 1), (by first | rfl | simp | simp [*]), (by first | rfl | simp | simp [*]), H', ⟨by have := HK.out; omega⟩, HB⟩
     ·rename_i hcmp
      replace H' := aA_ (by have := H'.out; rw [if_neg (by omega)] at this; exact this)
      go_roundg k1
      case measure => have := HK.out; omega
      case rel => exact ⟨x3, wrap64 (x4 + 1), (by first | rfl | simp | simp [*]), (by first | rfl | simp | simp [*]), H', ⟨by have := HK.out; omega⟩, HB⟩
    ·rw [if_neg c6] at H
     exact absurd H (by simp)
   ·rw [if_neg c5] at H
    have c5b0 : decide (x4 < (l0.length : Int)) = false := decide_eq_false c5
    clear c5
    simp only [Option.some.injEq] at H
    obtain rfl := H
    go_wp2
    go_ret
    exact ⟨rfl, HB.out⟩
end Go.Proofs.Yteikafepdkijdaa.X
