-- cut by prune.py, a program of this session
import Derived.Test.YteikafepdkijdaaPLevelTableX0
namespace Go.Proofs.Yteikafepdkijdaa.X
open Go.RowKit Go.Proofs.YteikafepdkijdaaW.PrintWords Go.Proofs.YteikafepdkijdaaW.PrintLast Go.Proofs.YteikafepdkijdaaW.PrintMore
attribute [local go_sem] max2_int min2_int max_two min_two
set_option linter.unusedVariables false
set_option linter.unusedSimpArgs false

def demurrageref02_divides.f (a0 : Int) (a1 : Int) : Option (Bool) := if a0 = 0 then (none) else (some ((Int.tmod a1 a0) == 0))
set_option maxHeartbeats 8000000 in
set_option maxRecDepth 100000 in
theorem demurrageref02_divides.calls (a0 : Int) (a1 : Int) (r : Bool) (w : World) (h : demurrageref02_divides.f a0 a1 = some r) :
  Calls Try.prog 58 #[.int .i64 a0, .int .i64 a1] w fun e w' => e = .returned (.bool r) ∧ Drawn0 w w' := by
 have H : (if a0 = 0 then (none) else (some ((Int.tmod a1 a0) == 0))) = some r := h
 clear h
 by_cases c3 : a0 = 0
 ·rw [if_pos c3] at H
  exact absurd H (by simp)
 ·rw [if_neg c3] at H
  have c3b0 : (a0 == 0) = false := beq_eq_false_iff_ne.mpr c3
  have c3b1 : (a0 != 0) = true := bne_iff_ne.mpr c3
  obtain rfl := Option.some.inj H
  go_enter Try.func58, Try.ntmps58
  go_wp2
  go_ret
  exact ⟨by first | rfl | (simp; done) | (simp [*]; done), by repeat (first | exact Drawn0.refl _ | apply Drawn0.step)⟩

mutual
def demurrageref02_Right.j0 : Nat → Bool → Int → Int → Option (Bool)
 | 0, _, _, _ => none
 | k + 1, x23, x190000, x190001 => if x23 = true then (some false) else (demurrageref02_Right.l0 k x190000 x190001)
def demurrageref02_Right.l0 : Nat → Int → Int → Option (Bool)
 | 0, _, _ => none
 | k + 1, x3, x4 => if x4 > 0 then (if x4 = 0 then (none) else (demurrageref02_Right.l0 k x4 (Int.tmod x3 x4))) else ((demurrageref02_divides.f x3 1).bind fun t190 => (some t190))
end
def demurrageref02_Right.f (k : Nat) (a0_0 : Int) (a0_1 : Int) : Option (Bool) := if a0_0 < 0 then (demurrageref02_Right.j0 k true a0_0 a0_1) else (if a0_0 > 4611686018427387904 then (demurrageref02_Right.j0 k true a0_0 a0_1) else (if a0_1 < 1 then (demurrageref02_Right.j0 k true a0_0 a0_1) else (demurrageref02_Right.j0 k (decide (a0_1 > 4611686018427387904)) a0_0 a0_1)))
set_option maxHeartbeats 8000000 in
set_option maxRecDepth 100000 in
theorem demurrageref02_Right.calls (k : Nat) (a0_0 : Int) (a0_1 : Int) (r : Bool) (w : World) (h : demurrageref02_Right.f k a0_0 a0_1 = some r) :
  Calls Try.prog 40 #[.agg #[.int .i64 a0_0, .int .i64 a0_1]] w fun e w' => e = .returned (.bool r) ∧ Below w.heap.size w w' := by
 have hu56 := Try.underlying56
 have HB := aA_ (Below.refl w.heap.size w)
 have H : (if a0_0 < 0 then (demurrageref02_Right.j0 k true a0_0 a0_1) else (if a0_0 > 4611686018427387904 then (demurrageref02_Right.j0 k true a0_0 a0_1) else (if a0_1 < 1 then (demurrageref02_Right.j0 k true a0_0 a0_1) else (demurrageref02_Right.j0 k (decide (a0_1 > 4611686018427387904)) a0_0 a0_1)))) = some r := h
 clear h
 have HC2 := aA_ H
 clear H
 go_enter Try.func40, Try.ntmps40
 go_upto_region 1 with (first | (refine box_event rfl (N := 1) rfl (cs := #[.int .i64 a0_0, .int .i64 a0_1]) (t := 56) ?hr ?_; (case hr => go_simp <;> rfl); intro gb189 hg w3 hbox hb; have BK189 := aA_ (hbox); have GW189 := gW_ hg (by repeat (with_reducible first | exact HB.out | apply bA_ | apply bN_ | apply bD_)); have GE189 := GW189; replace HB := bB_ (by repeat (with_reducible first | exact HB.out | apply bA_ | apply bN_ | apply bD_)) hb; clear hb hbox hg))
 (try simp only [Act.put, sT_, sZ_, sS_])
 go_cut [23] (fun v23 wc => ∃ (kq : Nat) (x23_1 : Bool), v23 = .bool x23_1 ∧ Aside0 (demurrageref02_Right.j0 kq x23_1 a0_0 a0_1 = some r) ∧ Aside0 (kq ≤ k) ∧ Aside0 (wc.heap[gb189]? = some (.cells #[.int .i64 a0_0, .int .i64 a0_1] 56 (0, 0))) ∧ Aside0 (Below w.heap.size w wc))
 case first =>
  have H := HC2.out
  clear HC2
  by_cases c4 : a0_0 < 0
  ·rw [if_pos c4] at H
   have c4b0 : decide (a0_0 < 0) = true := decide_eq_true c4
   clear c4
   (first | rw [c4b0] | (simp only [i64_w, i32_w]; rw [c4b0]) | rw [c4b1] | skip)
   have H' := aA_ H
   clear H
   have hcz5_0 : w3.cell? ⟨gb189, 0, none⟩ = some (.int .i64 a0_0) := (blk_cell BK189.out 0).trans rfl
   have hcz5_1 : w3.cell? ⟨gb189, 1, none⟩ = some (.int .i64 a0_1) := (blk_cell BK189.out 1).trans rfl
   have hfz5_0 := blk_frozen BK189.out 0
   have hfz5_1 := blk_frozen BK189.out 1
   go_wp2
   go_meet
   case rel => exact ⟨_, _, (by first | rfl | simp | simp [*]), H', ⟨by first | omega | exact Nat.le_refl _⟩, ⟨by exact BK189.out⟩, ⟨by repeat (with_reducible first | exact HB.out | apply bA_ | apply bN_ | apply bD_ | refine bS_ ?_ GE189.out)⟩⟩
  ·rw [if_neg c4] at H
   have c4b0 : decide (a0_0 < 0) = false := decide_eq_false c4
   clear c4
   (first | rw [c4b0] | (simp only [i64_w, i32_w]; rw [c4b0]) | rw [c4b1] | skip)
   by_cases c6 : a0_0 > 4611686018427387904
   ·rw [if_pos c6] at H
    have c6b0 : decide (4611686018427387904 < a0_0) = true := decide_eq_true c6
    clear c6
    have H' := aA_ H
    clear H
    have hcz7_0 : w3.cell? ⟨gb189, 0, none⟩ = some (.int .i64 a0_0) := (blk_cell BK189.out 0).trans rfl
    have hcz7_1 : w3.cell? ⟨gb189, 1, none⟩ = some (.int .i64 a0_1) := (blk_cell BK189.out 1).trans rfl
    have hfz7_0 := blk_frozen BK189.out 0
    have hfz7_1 := blk_frozen BK189.out 1
    go_wp2
    go_meet
    case rel => exact ⟨_, _, (by first | rfl | simp | simp [*]), H', ⟨by first | omega | exact Nat.le_refl _⟩, ⟨by exact BK189.out⟩, ⟨by repeat (with_reducible first | exact HB.out | apply bA_ | apply bN_ | apply bD_ | refine bS_ ?_ GE189.out)⟩⟩
   ·rw [if_neg c6] at H
    have c6b0 : decide (4611686018427387904 < a0_0) = false := decide_eq_false c6
    clear c6
    by_cases c8 : a0_1 < 1
    ·rw [if_pos c8] at H
     have c8b0 : decide (a0_1 < 1) = true := decide_eq_true c8
     clear c8
     have H' := aA_ H
     clear H
     have hcz9_0 : w3.cell? ⟨gb189, 0, none⟩ = some (.int .i64 a0_0) := (blk_cell BK189.out 0).trans rfl
     have hcz9_1 : w3.cell? ⟨gb189, 1, none⟩ = some (.int .i64 a0_1) := (blk_cell BK189.out 1).trans rfl
     have hfz9_0 := blk_frozen BK189.out 0
     have hfz9_1 := blk_frozen BK189.out 1
     go_wp2
     go_meet
     case rel => exact ⟨_, _, (by first | rfl | simp | simp [*]), H', ⟨by first | omega | exact Nat.le_refl _⟩, ⟨by exact BK189.out⟩, ⟨by repeat (with_reducible first | exact HB.out | apply bA_ | apply bN_ | apply bD_ | refine bS_ ?_ GE189.out)⟩⟩
    ·rw [if_neg c8] at H
     have c8b0 : decide (a0_1 < 1) = false := decide_eq_false c8
     clear c8
     have H' := aA_ H
     clear H
     have hcz10_0 : w3.cell? ⟨gb189, 0, none⟩ = some (.int .i64 a0_0) := (blk_cell BK189.out 0).trans rfl
     have hcz10_1 : w3.cell? ⟨gb189, 1, none⟩ = some (.int .i64 a0_1) := (blk_cell BK189.out 1).trans rfl
     have hfz10_0 := blk_frozen BK189.out 0
     have hfz10_1 := blk_frozen BK189.out 1
     go_wp2
     go_meet
     case rel => exact ⟨_, (decide (a0_1 > 4611686018427387904)), (by first | rfl | simp | simp [*]), H', ⟨by first | omega | exact Nat.le_refl _⟩, ⟨by exact BK189.out⟩, ⟨by repeat (with_reducible first | exact HB.out | apply bA_ | apply bN_ | apply bD_ | refine bS_ ?_ GE189.out)⟩⟩
 case rest =>
  clear HC2
  try clear p2
  try clear c4
  try clear c4b0
  try clear c4b1
  try clear c6
  try clear c6b0
  try clear c8
  try clear c8b0
  try clear hcz10_0
  try clear hcz10_1
  try clear hcz5_0
  try clear hcz5_1
  try clear hcz7_0
  try clear hcz7_1
  try clear hcz9_0
  try clear hcz9_1
  try clear hfz10_0
  try clear hfz10_1
  try clear hfz5_0
  try clear hfz5_1
  try clear hfz7_0
  try clear hfz7_1
  try clear hfz9_0
  try clear hfz9_1
  obtain ⟨kq, x23_1, rfl, HA, HJ1, BK189, HB⟩ := hcut
  cases kq with
  | zero => exact absurd HA.out (by simp [demurrageref02_Right.j0])
  | succ kj1 =>
   have H := HA.out
   clear HA
   simp only [demurrageref02_Right.j0] at H
   by_cases c11 : x23_1 = true
   ·subst c11
    rw [if_pos rfl] at H
    obtain rfl := Option.some.inj H
    go_wp2
    go_ret
    exact ⟨by rfl, by repeat (with_reducible first | exact HB.out | apply bA_ | apply bN_ | apply bD_ | refine bS_ ?_ GE189.out)⟩
   ·replace c11 := Bool.eq_false_iff.mpr c11
    subst c11
    rw [if_neg (show ¬ (false = true) by decide)] at H
    have H' := aA_ H
    clear H
    have hcz12_0 : wc.cell? ⟨gb189, 0, none⟩ = some (.int .i64 a0_0) := (blk_cell BK189.out 0).trans rfl
    have hcz12_1 : wc.cell? ⟨gb189, 1, none⟩ = some (.int .i64 a0_1) := (blk_cell BK189.out 1).trans rfl
    have hfz12_0 := blk_frozen BK189.out 0
    have hfz12_1 := blk_frozen BK189.out 1
    go_wp2
    (try simp only [Act.put, sT_, sZ_, sS_])
    go_loopg [3, 4] kj1 (fun kq v3 v4 w' => ∃ (x3_2 : Int) (x4_2 : Int), v3 = .int .i64 x3_2 ∧ v4 = .int .i64 x4_2 ∧ Aside0 (demurrageref02_Right.l0 kq x3_2 x4_2 = some r) ∧ Aside0 (kq ≤ kj1) ∧ Aside0 (w'.heap[gb189]? = some (.cells #[.int .i64 a0_0, .int .i64 a0_1] 56 (0, 0))) ∧ Aside0 (Below w.heap.size w w'))
    case atStart => exact ⟨(a0_0), (a0_1), (by first | rfl | simp | simp [*]), (by first | rfl | simp | simp [*]), H', ⟨Nat.le_refl _⟩, ⟨by exact BK189.out⟩, ⟨by repeat (with_reducible first | exact HB.out | apply bA_ | apply bN_ | apply bD_ | refine bS_ ?_ GE189.out)⟩⟩
    case round =>
     clear H'
     try clear c1
     try clear p2
     try clear c4
     try clear c4b0
     try clear c4b1
     try clear c6
     try clear c6b0
     try clear c8
     try clear c8b0
     try clear c11
     try clear hcz10_0
     try clear hcz10_1
     try clear hcz12_0
     try clear hcz12_1
     try clear hcz5_0
     try clear hcz5_1
     try clear hcz7_0
     try clear hcz7_1
     try clear hcz9_0
     try clear hcz9_1
     try clear hfz10_0
     try clear hfz10_1
     try clear hfz12_0
     try clear hfz12_1
     try clear hfz5_0
     try clear hfz5_1
     try clear hfz7_0
     try clear hfz7_1
     try clear hfz9_0
     try clear hfz9_1
     try clear p2
     obtain ⟨x3_2, x4_2, rfl, rfl, HA, HK2, BK189, HB⟩ := hrel
     cases gk with
     | zero => exact absurd HA.out (by simp [demurrageref02_Right.l0])
     | succ k2 =>
      have H := HA.out
      clear HA
      simp only [demurrageref02_Right.l0] at H
      by_cases c13 : x4_2 > 0
      ·rw [if_pos c13] at H
       have c13b0 : decide (0 < x4_2) = true := decide_eq_true c13
       clear c13
       by_cases c14 : x4_2 = 0
       ·rw [if_pos c14] at H
        exact absurd H (by simp)
       ·rw [if_neg c14] at H
        have c14b0 : (x4_2 == 0) = false := beq_eq_false_iff_ne.mpr c14
        have c14b1 : (x4_2 != 0) = true := bne_iff_ne.mpr c14
        have H' := aA_ H
        clear H
        go_wp2
        go_roundg k2
        case measure => have := HJ1.out; have := HK2.out; omega
        case rel => exact ⟨(x4_2), (Int.tmod x3_2 x4_2), (by first | rfl | simp | simp [*]), (by first | rfl | simp | simp [*]), H', ⟨by have := HJ1.out; have := HK2.out; omega⟩, ⟨by exact BK189.out⟩, ⟨by repeat (with_reducible first | exact HB.out | apply bA_ | apply bN_ | apply bD_ | refine bS_ ?_ GE189.out)⟩⟩
      ·rw [if_neg c13] at H
       have c13b0 : decide (0 < x4_2) = false := decide_eq_false c13
       clear c13
       replace H := bI_ H
       obtain ⟨t190, A150, H⟩ := H
       (try dsimp only at H)
       have A15 := aA_ A150
       clear A150
       obtain rfl := Option.some.inj H
       go_wp2_with (first | (refine goesL_ (some 36) rfl rfl Try.func58 (by kernel_rfl) rfl #[.int .i64 x3_2, .int .i64 1] rfl (by (try simp only [mT_, mC_, mN_]); first | done | rfl) ?_; (with_reducible refine (demurrageref02_divides.calls x3_2 1 t190 _ A15.out).mono ?_); rintro e w' ⟨rfl, ⟨nd, rfl⟩⟩; refine ⟨_, rfl, ?_⟩))
       go_ret
       exact ⟨by rfl, by repeat (with_reducible first | exact HB.out | apply bA_ | apply bN_ | apply bD_ | refine bS_ ?_ GE189.out)⟩

end Go.Proofs.Yteikafepdkijdaa.X
