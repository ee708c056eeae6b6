-- CUT by prune.py, a program of this session, to what the claim reaches (out of a text that the kit's printer, the session's programs or the session wrote)
import Derived.Test.YtcdbmmlnmefoeaaProg
import Derived.Below
import Derived.Deep.Draws
import Derived.Deep.AppendLies
import Derived.Maps.AppendAt
import Derived.OwnWalk
import Derived.Laws.BytesArg
import Derived.Laws.MakeOwn
import Derived.Laws.OwnMore
import Derived.Deep.OwnRows
import Derived.Tactics
import Derived.Lib.ConvBytes
import Derived.Laws.Slices
import Derived.WalkKit
import Derived.KernelRfl
import Derived.RowKit3
import Derived.Deep.LoopGhost
import Derived.Deep.QuietTactic
import Derived.BigQuiet
import Derived.WideLaws
import Derived.Deep.DeepCutAuto
import Derived.Deep.CutBlock
import Derived.Deep.RegionHeld3
import Derived.Laws.Rows
import Derived.Lib.AppendStr
import Derived.ArgAppend
import Derived.Laws.IdiomCopy
import Derived.OrdersHeld
import Derived.Laws.BitsLemmas
import Derived.RowKit
import Derived.Test.YtcdbmmlnmefoeaaPRatioSumsWWords
import Derived.Test.YtcdbmmlnmefoeaaPRatioSumsWLast
import Derived.Test.YtcdbmmlnmefoeaaPRatioSumsWTab
import Derived.Test.YtcdbmmlnmefoeaaPRatioSumsWEqStruct
import Derived.Test.YtcdbmmlnmefoeaaPRatioSumsWMore
import Derived.Test.YtcdbmmlnmefoeaaPRatioSumsXEq
import Derived.Test.YtcdbmmlnmefoeaaPRatioSumsXRatio
import Derived.Test.YtcdbmmlnmefoeaaPRatioSumsXSTwo
import Derived.Test.YtcdbmmlnmefoeaaPRatioSumsXFew
namespace Go.Proofs.Ytcdbmmlnmefoeaa.X
open Go.RowKit Go.Proofs.YtcdbmmlnmefoeaaW.PrintWords Go.Proofs.YtcdbmmlnmefoeaaW.PrintLast Go.Proofs.YtcdbmmlnmefoeaaW.PrintMore
set_option linter.unusedVariables false
set_option linter.unusedSimpArgs false

attribute [local go_sem high] eqA57
def demurragelaw02_RatioSums.upsl : Nat → Nat → List Bool
  | 0, _ => []
  | n + 1, m => (m % 2 == 1) :: demurragelaw02_RatioSums.upsl n (m / 2)
def demurragelaw02_RatioSums.ups (n m : Nat) : Array Bool := ⟨demurragelaw02_RatioSums.upsl n m⟩
def demurragelaw02_RatioSums.j0 : Nat → Bool → Bool → Int → Int → Int → Int → Int → Int → Option (Bool)
  | 0, _, _, _, _, _, _, _, _ => none
  | k + 1, x7, x39, x5450000, x5450001, x5451000, x5451001, x5452000, x5452001 => if x39 = true then (some x7) else ((ratio_Add.f x5450000 x5450001 x5451000 x5451001).bind fun bt5582 => ((ratio_Add.f x5451000 x5451001 x5452000 x5452001).bind fun bt5586 => ((ratio_Add.f bt5582.1 bt5582.2.1 x5452000 x5452001).bind fun bt5590 => ((ratio_Add.f x5450000 x5450001 bt5586.1 bt5586.2.1).bind fun bt5594 => ((ratio_Mul.f x5450000 x5450001 x5452000 x5452001).bind fun bt5598 => ((ratio_Mul.f x5451000 x5451001 x5452000 x5452001).bind fun bt5602 => ((ratio_Add.f bt5598.1 bt5598.2.1 bt5602.1 bt5602.2.1).bind fun bt5606 => ((ratio_Mul.f bt5582.1 bt5582.2.1 x5452000 x5452001).bind fun bt5610 => ((ratio_Add.f x5450000 x5450001 x5452000 x5452001).bind fun bt5614 => (if x7 = true then (if bt5590.2.2 = 0 then (if bt5594.2.2 = 0 then (if (bt5590.1 == bt5594.1 && (bt5590.2.1 == bt5594.2.1)) = true then (if bt5606.2.2 = 0 then (if bt5610.2.2 = 0 then (if (bt5606.1 == bt5610.1 && (bt5606.2.1 == bt5610.2.1)) = true then ((ratio_Cmp.f bt5614.1 bt5614.2.1 bt5586.1 bt5586.2.1).bind fun t5618 => ((ratio_Cmp.f x5450000 x5450001 x5451000 x5451001).bind fun t5619 => (some (t5618 == t5619)))) else (none)) else ((ratio_Cmp.f bt5614.1 bt5614.2.1 bt5586.1 bt5586.2.1).bind fun t5620 => ((ratio_Cmp.f x5450000 x5450001 x5451000 x5451001).bind fun t5621 => (some (t5620 == t5621))))) else ((ratio_Cmp.f bt5614.1 bt5614.2.1 bt5586.1 bt5586.2.1).bind fun t5622 => ((ratio_Cmp.f x5450000 x5450001 x5451000 x5451001).bind fun t5623 => (some (t5622 == t5623))))) else (none)) else (none)) else (none)) else (none)))))))))))
def demurragelaw02_RatioSums.f (k : Nat) (a0_0 : Int) (a0_1 : Int) (a1_0 : Int) (a1_1 : Int) (a2_0 : Int) (a2_1 : Int) : Option (Bool) := (demurragelaw02_shown.f k).bind fun t5452 => ((demurragelaw02_few.f k a0_0 a0_1).bind fun t5453 => (if t5453 = true then ((demurragelaw02_few.f k a1_0 a1_1).bind fun t5454 => (if t5454 = true then ((demurragelaw02_few.f k a2_0 a2_1).bind fun t5455 => (demurragelaw02_RatioSums.j0 k t5452 (!t5455) a0_0 a0_1 a1_0 a1_1 a2_0 a2_1)) else (demurragelaw02_RatioSums.j0 k t5452 true a0_0 a0_1 a1_0 a1_1 a2_0 a2_1))) else (demurragelaw02_RatioSums.j0 k t5452 true a0_0 a0_1 a1_0 a1_1 a2_0 a2_1)))
def demurragelaw02_RatioSums.T13 : Bool × List (List Nat × List Nat) := (true, [([], []), ([0], [0]), ([1], [1]), ([2, 1], [1, 2]), ([1, 3], [1, 3]), ([4, 1], [4]), ([5], [5]), ([6, 5], [5, 6]), ([5, 7], [5, 7]), ([8, 5], [8]), ([9], [9]), ([9], [9]), ([10, 11, 9], [9, 10, 11]), ([9, 12], [9, 12]), ([13, 9], [13]), ([14], [14]), ([15, 14], [14, 15]), ([16, 14, 14], [14, 16]), ([17], [17]), ([18, 17], [17, 18]), ([17, 19, 14], [14, 17, 19]), ([20, 17, 14], [14, 20]), ([21], [21]), ([21], [21]), ([22, 23, 21], [21, 22, 23]), ([21, 24, 14], [14, 21, 24]), ([14, 25], [14, 25]), ([26, 21], [26]), ([27], [27]), ([27], [27]), ([28, 29, 27, 27], [27, 28, 29]), ([27], [27]), ([27], [27]), ([31, 32, 30, 27], [27, 31, 32]), ([30, 33, 27], [27, 30, 33]), ([27, 34], [27, 34]), ([35, 33, 0, 1, 2, 3, 4, 5, 6, 7, 8, 9, 10, 11, 12, 13, 14, 15, 16, 17, 18, 19, 20, 21, 22, 23, 24, 25, 26, 27, 28, 29, 30, 31, 32, 33, 34, 35], [35])])
def demurragelaw02_RatioSums.B13 : List Nat := [0, 1, 3, 7, 15, 31, 63, 127, 255, 511, 1023, 1023, 4095, 8191, 16383, 32767, 65535, 131071, 262143, 524287, 1048575, 2097151, 4194303, 4194303, 16777215, 33554431, 67108863, 134217727, 268435455, 268435455, 1073741823, 268435455, 268435455, 8589934591, 17179869183, 34359738367, 68719476735]
theorem demurragelaw02_RatioSums.tab13 : rtab .any (opsOf Try.f15 13) = demurragelaw02_RatioSums.T13 := by kernel_rfl
theorem demurragelaw02_RatioSums.bits13 : waitsOk demurragelaw02_RatioSums.T13.2 demurragelaw02_RatioSums.B13 = true := by kernel_rfl
set_option maxHeartbeats 8000000 in
set_option maxRecDepth 100000 in
theorem demurragelaw02_RatioSums.calls (k : Nat) (a0_0 : Int) (a0_1 : Int) (a1_0 : Int) (a1_1 : Int) (a2_0 : Int) (a2_1 : Int) (r : Bool) (w : World) (h : demurragelaw02_RatioSums.f k a0_0 a0_1 a1_0 a1_1 a2_0 a2_1 = some r) :
    Calls Try.prog 15 #[.agg #[.int .i64 a0_0, .int .i64 a0_1], .agg #[.int .i64 a1_0, .int .i64 a1_1], .agg #[.int .i64 a2_0, .int .i64 a2_1]] w fun e w' => e = .returned (.bool r) ∧ Below w.heap.size w w' := by
  have hu57 := Try.underlying57
  have HB := Aside0.mk (Below.refl w.heap.size w)
  have H : ((demurragelaw02_shown.f k).bind fun t5452 => ((demurragelaw02_few.f k a0_0 a0_1).bind fun t5453 => (if t5453 = true then ((demurragelaw02_few.f k a1_0 a1_1).bind fun t5454 => (if t5454 = true then ((demurragelaw02_few.f k a2_0 a2_1).bind fun t5455 => (demurragelaw02_RatioSums.j0 k t5452 (!t5455) a0_0 a0_1 a1_0 a1_1 a2_0 a2_1)) else (demurragelaw02_RatioSums.j0 k t5452 true a0_0 a0_1 a1_0 a1_1 a2_0 a2_1))) else (demurragelaw02_RatioSums.j0 k t5452 true a0_0 a0_1 a1_0 a1_1 a2_0 a2_1)))) = some r := h
  clear h
  replace H := Option.bind_eq_some_iff.mp H
  obtain ⟨t5452, A40, H⟩ := H
  replace H : ((demurragelaw02_few.f k a0_0 a0_1).bind fun t5453 => (if t5453 = true then ((demurragelaw02_few.f k a1_0 a1_1).bind fun t5454 => (if t5454 = true then ((demurragelaw02_few.f k a2_0 a2_1).bind fun t5455 => (demurragelaw02_RatioSums.j0 k t5452 (!t5455) a0_0 a0_1 a1_0 a1_1 a2_0 a2_1)) else (demurragelaw02_RatioSums.j0 k t5452 true a0_0 a0_1 a1_0 a1_1 a2_0 a2_1))) else (demurragelaw02_RatioSums.j0 k t5452 true a0_0 a0_1 a1_0 a1_1 a2_0 a2_1))) = some r := H
  have A4 := Aside0.mk A40
  clear A40
  have HC5 := Aside0.mk H
  clear H
  go_enter Try.func15, Try.ntmps15
  go_upto_region 2 with (first | ((with_reducible refine gate_dst (N := 3) rfl ?_); refine box_event ?hg (N := 3) ?hd (cs := #[.int .i64 a0_0, .int .i64 a0_1]) (t := 57) ?hr ?_; (case hd => rfl); (case hg => rfl); (case hr => first | (go_simp; done) | (go_simp; rfl)); intro gb5449 hg w6 hbox hb; have n0_ := Aside0.mk (below_step (by repeat (first | (with_reducible first | exact HB.out | apply below_alloc | apply pw_below_drewN | apply below_drew1) | exact HB.out)) hb); have n1_ := Aside0.mk (hbox); have n2_ := Aside0.mk ((by rw [hg]; exact (below_size (by repeat (first | (with_reducible first | exact HB.out | apply below_alloc | apply pw_below_drewN | apply below_drew1) | exact HB.out))) : w.heap.size ≤ gb5449)); have n3_ := Aside0.mk ((by rw [hg]; exact (below_size (by repeat (first | (with_reducible first | exact HB.out | apply below_alloc | apply pw_below_drewN | apply below_drew1) | exact HB.out))) : w.heap.size ≤ gb5449)); clear HB; have HB := n0_; have BK5449 := n1_; have GW5449 := n2_; have GE5449 := n3_; clear n0_ n1_ n2_ n3_; clear hb hbox hg) | ((with_reducible refine gate_dst (N := 4) rfl ?_); refine box_event ?hg (N := 4) ?hd (cs := #[.int .i64 a1_0, .int .i64 a1_1]) (t := 57) ?hr ?_; (case hd => rfl); (case hg => rfl); (case hr => first | (go_simp; done) | (go_simp; rfl)); intro gb5450 hg w7 hbox hb; have n0_ := Aside0.mk (blk_below (g := gb5449) (o := .cells #[.int .i64 a0_0, .int .i64 a0_1] 57 (0, 0)) (by exact BK5449.out) hb); have n1_ := Aside0.mk (below_step (by repeat (first | (with_reducible first | exact HB.out | apply below_alloc | apply pw_below_drewN | apply below_drew1 | refine below_set ?_ GE5449.out) | exact HB.out)) hb); have n2_ := Aside0.mk (hbox); have n3_ := Aside0.mk ((by rw [hg]; exact (below_size (by repeat (first | (with_reducible first | exact HB.out | apply below_alloc | apply pw_below_drewN | apply below_drew1 | refine below_set ?_ GE5449.out) | exact HB.out))) : w.heap.size ≤ gb5450)); have n4_ := Aside0.mk ((by rw [hg]; exact (below_size (by repeat (first | (with_reducible first | exact HB.out | apply below_alloc | apply pw_below_drewN | apply below_drew1 | refine below_set ?_ GE5449.out) | exact HB.out))) : w.heap.size ≤ gb5450)); have n5_ := Aside0.mk ((by rw [hg]; exact Nat.ne_of_lt (blk_lt (g := gb5449) (o := .cells #[.int .i64 a0_0, .int .i64 a0_1] 57 (0, 0)) (by exact BK5449.out)) : gb5449 ≠ gb5450)); have n6_ := Aside0.mk ((by rw [hg]; exact Nat.ne_of_gt (blk_lt (g := gb5449) (o := .cells #[.int .i64 a0_0, .int .i64 a0_1] 57 (0, 0)) (by exact BK5449.out)) : gb5450 ≠ gb5449)); clear BK5449 HB; have BK5449 := n0_; have HB := n1_; have BK5450 := n2_; have GW5450 := n3_; have GE5450 := n4_; have NB5449_5450 := n5_; have NB5450_5449 := n6_; clear n0_ n1_ n2_ n3_ n4_ n5_ n6_; clear hb hbox hg) | ((with_reducible refine gate_dst (N := 5) rfl ?_); refine box_event ?hg (N := 5) ?hd (cs := #[.int .i64 a2_0, .int .i64 a2_1]) (t := 57) ?hr ?_; (case hd => rfl); (case hg => rfl); (case hr => first | (go_simp; done) | (go_simp; rfl)); intro gb5451 hg w8 hbox hb; have n0_ := Aside0.mk (blk_below (g := gb5449) (o := .cells #[.int .i64 a0_0, .int .i64 a0_1] 57 (0, 0)) (by exact BK5449.out) hb); have n1_ := Aside0.mk (blk_below (g := gb5450) (o := .cells #[.int .i64 a1_0, .int .i64 a1_1] 57 (0, 0)) (by exact BK5450.out) hb); have n2_ := Aside0.mk (below_step (by repeat (first | (with_reducible first | exact HB.out | apply below_alloc | apply pw_below_drewN | apply below_drew1 | refine below_set ?_ GE5449.out | refine below_set ?_ GE5450.out) | exact HB.out)) hb); have n3_ := Aside0.mk (hbox); have n4_ := Aside0.mk ((by rw [hg]; exact (below_size (by repeat (first | (with_reducible first | exact HB.out | apply below_alloc | apply pw_below_drewN | apply below_drew1 | refine below_set ?_ GE5449.out | refine below_set ?_ GE5450.out) | exact HB.out))) : w.heap.size ≤ gb5451)); have n5_ := Aside0.mk ((by rw [hg]; exact (below_size (by repeat (first | (with_reducible first | exact HB.out | apply below_alloc | apply pw_below_drewN | apply below_drew1 | refine below_set ?_ GE5449.out | refine below_set ?_ GE5450.out) | exact HB.out))) : w.heap.size ≤ gb5451)); have n6_ := Aside0.mk ((by rw [hg]; exact Nat.ne_of_lt (blk_lt (g := gb5449) (o := .cells #[.int .i64 a0_0, .int .i64 a0_1] 57 (0, 0)) (by exact BK5449.out)) : gb5449 ≠ gb5451)); have n7_ := Aside0.mk ((by rw [hg]; exact Nat.ne_of_gt (blk_lt (g := gb5449) (o := .cells #[.int .i64 a0_0, .int .i64 a0_1] 57 (0, 0)) (by exact BK5449.out)) : gb5451 ≠ gb5449)); have n8_ := Aside0.mk ((by rw [hg]; exact Nat.ne_of_lt (blk_lt (g := gb5450) (o := .cells #[.int .i64 a1_0, .int .i64 a1_1] 57 (0, 0)) (by exact BK5450.out)) : gb5450 ≠ gb5451)); have n9_ := Aside0.mk ((by rw [hg]; exact Nat.ne_of_gt (blk_lt (g := gb5450) (o := .cells #[.int .i64 a1_0, .int .i64 a1_1] 57 (0, 0)) (by exact BK5450.out)) : gb5451 ≠ gb5450)); clear BK5449 BK5450 HB; have BK5449 := n0_; have BK5450 := n1_; have HB := n2_; have BK5451 := n3_; have GW5451 := n4_; have GE5451 := n5_; have NB5449_5451 := n6_; have NB5451_5449 := n7_; have NB5450_5451 := n8_; have NB5451_5450 := n9_; clear n0_ n1_ n2_ n3_ n4_ n5_ n6_ n7_ n8_ n9_; clear hb hbox hg) | ((with_reducible refine gate_callee (f := 39) rfl ?_); refine goesL_ (some 26) rfl rfl Try.func39 (by kernel_rfl) rfl #[] rfl (by (try simp only [List.map_toArray, List.map_cons, List.map_nil]); first | done | rfl) ?_; (with_reducible refine (demurragelaw02_shown.calls k  t5452 _ A4.out).mono ?_); rintro e w9 ⟨rfl, hb⟩; refine ⟨_, rfl, ?_⟩; have n0_ := Aside0.mk (blk_below (g := gb5449) (o := .cells #[.int .i64 a0_0, .int .i64 a0_1] 57 (0, 0)) (by exact BK5449.out) hb); have n1_ := Aside0.mk (blk_below (g := gb5450) (o := .cells #[.int .i64 a1_0, .int .i64 a1_1] 57 (0, 0)) (by exact BK5450.out) hb); have n2_ := Aside0.mk (blk_below (g := gb5451) (o := .cells #[.int .i64 a2_0, .int .i64 a2_1] 57 (0, 0)) (by exact BK5451.out) hb); have n3_ := Aside0.mk (below_step (by repeat (first | (with_reducible first | exact HB.out | apply below_alloc | apply pw_below_drewN | apply below_drew1 | refine below_set ?_ GE5449.out | refine below_set ?_ GE5450.out | refine below_set ?_ GE5451.out) | exact HB.out)) hb); clear BK5449 BK5450 BK5451 HB; have BK5449 := n0_; have BK5450 := n1_; have BK5451 := n2_; have HB := n3_; clear n0_ n1_ n2_ n3_; (try clear hb)))
  (try simp only [Act.put, List.setIfInBounds_toArray, List.set_cons_zero, List.set_cons_succ])
  go_cut [39] (fun v39 wc => ∃ (kq : Nat) (x39_4 : Bool), v39 = .bool x39_4 ∧ Aside0 (demurragelaw02_RatioSums.j0 kq t5452 x39_4 a0_0 a0_1 a1_0 a1_1 a2_0 a2_1 = some r) ∧ Aside0 (kq ≤ k) ∧ Aside0 (wc.heap[gb5449]? = some (.cells #[.int .i64 a0_0, .int .i64 a0_1] 57 (0, 0))) ∧ Aside0 (wc.heap[gb5450]? = some (.cells #[.int .i64 a1_0, .int .i64 a1_1] 57 (0, 0))) ∧ Aside0 (wc.heap[gb5451]? = some (.cells #[.int .i64 a2_0, .int .i64 a2_1] 57 (0, 0))) ∧ Aside0 (Below w.heap.size w wc))
  case first =>
    have H := HC5.out
    clear HC5
    replace H := Option.bind_eq_some_iff.mp H
    obtain ⟨t5453, A100, H⟩ := H
    replace H : (if t5453 = true then ((demurragelaw02_few.f k a1_0 a1_1).bind fun t5454 => (if t5454 = true then ((demurragelaw02_few.f k a2_0 a2_1).bind fun t5455 => (demurragelaw02_RatioSums.j0 k t5452 (!t5455) a0_0 a0_1 a1_0 a1_1 a2_0 a2_1)) else (demurragelaw02_RatioSums.j0 k t5452 true a0_0 a0_1 a1_0 a1_1 a2_0 a2_1))) else (demurragelaw02_RatioSums.j0 k t5452 true a0_0 a0_1 a1_0 a1_1 a2_0 a2_1)) = some r := H
    have A10 := Aside0.mk A100
    clear A100
    by_cases c11 : t5453 = true
    · subst c11
      have H1 : ((demurragelaw02_few.f k a1_0 a1_1).bind fun t5454 => (if t5454 = true then ((demurragelaw02_few.f k a2_0 a2_1).bind fun t5455 => (demurragelaw02_RatioSums.j0 k t5452 (!t5455) a0_0 a0_1 a1_0 a1_1 a2_0 a2_1)) else (demurragelaw02_RatioSums.j0 k t5452 true a0_0 a0_1 a1_0 a1_1 a2_0 a2_1))) = some r := by rw [if_pos rfl] at H; exact H
      clear H
      have H := H1
      clear H1
      replace H := Option.bind_eq_some_iff.mp H
      obtain ⟨t5454, A120, H⟩ := H
      replace H : (if t5454 = true then ((demurragelaw02_few.f k a2_0 a2_1).bind fun t5455 => (demurragelaw02_RatioSums.j0 k t5452 (!t5455) a0_0 a0_1 a1_0 a1_1 a2_0 a2_1)) else (demurragelaw02_RatioSums.j0 k t5452 true a0_0 a0_1 a1_0 a1_1 a2_0 a2_1)) = some r := H
      have A12 := Aside0.mk A120
      clear A120
      by_cases c13 : t5454 = true
      · subst c13
        have H1 : ((demurragelaw02_few.f k a2_0 a2_1).bind fun t5455 => (demurragelaw02_RatioSums.j0 k t5452 (!t5455) a0_0 a0_1 a1_0 a1_1 a2_0 a2_1)) = some r := by rw [if_pos rfl] at H; exact H
        clear H
        have H := H1
        clear H1
        replace H := Option.bind_eq_some_iff.mp H
        obtain ⟨t5455, A140, H⟩ := H
        replace H : (demurragelaw02_RatioSums.j0 k t5452 (!t5455) a0_0 a0_1 a1_0 a1_1 a2_0 a2_1) = some r := H
        have A14 := Aside0.mk A140
        clear A140
        have H' := Aside0.mk H
        clear H
        have hnb15 := NB5449_5450.out
        have hnc15 := NB5450_5449.out
        have hnb16 := NB5449_5451.out
        have hnc16 := NB5451_5449.out
        have hcz17_0 : w9.cell? ⟨gb5449, 0, none⟩ = some (.int .i64 a0_0) := (blk_cell BK5449.out 0).trans rfl
        have hcz17_1 : w9.cell? ⟨gb5449, 1, none⟩ = some (.int .i64 a0_1) := (blk_cell BK5449.out 1).trans rfl
        have hfz17_0 := blk_frozen BK5449.out 0
        have hfz17_1 := blk_frozen BK5449.out 1
        go_wp2_with (first | ((with_reducible refine gate_callee (f := 52) rfl ?_); refine goesL_ (some 28) rfl rfl Try.func52 (by kernel_rfl) rfl #[.agg #[.int .i64 a0_0, .int .i64 a0_1]] rfl (by (try simp only [List.map_toArray, List.map_cons, List.map_nil]); first | done | rfl) ?_; (with_reducible refine (demurragelaw02_few.calls k a0_0 a0_1 true _ A10.out).mono ?_); rintro e w18 ⟨rfl, hb⟩; refine ⟨_, rfl, ?_⟩; have n0_ := Aside0.mk (blk_below (g := gb5449) (o := .cells #[.int .i64 a0_0, .int .i64 a0_1] 57 (0, 0)) (by exact BK5449.out) hb); have n1_ := Aside0.mk (blk_below (g := gb5450) (o := .cells #[.int .i64 a1_0, .int .i64 a1_1] 57 (0, 0)) (by exact BK5450.out) hb); have n2_ := Aside0.mk (blk_below (g := gb5451) (o := .cells #[.int .i64 a2_0, .int .i64 a2_1] 57 (0, 0)) (by exact BK5451.out) hb); have n3_ := Aside0.mk (below_step (by repeat (first | (with_reducible first | exact HB.out | apply below_alloc | apply pw_below_drewN | apply below_drew1 | refine below_set ?_ GE5449.out | refine below_set ?_ GE5450.out | refine below_set ?_ GE5451.out) | exact HB.out)) hb); clear BK5449 BK5450 BK5451 HB; have BK5449 := n0_; have BK5450 := n1_; have BK5451 := n2_; have HB := n3_; clear n0_ n1_ n2_ n3_; (try clear hb); have hnb19 := NB5450_5451.out; have hnc19 := NB5451_5450.out; have hcz20_0 : w18.cell? ⟨gb5450, 0, none⟩ = some (.int .i64 a1_0) := (blk_cell BK5450.out 0).trans rfl; have hcz20_1 : w18.cell? ⟨gb5450, 1, none⟩ = some (.int .i64 a1_1) := (blk_cell BK5450.out 1).trans rfl; have hfz20_0 := blk_frozen BK5450.out 0; have hfz20_1 := blk_frozen BK5450.out 1) | (go_at_call 52; (with_reducible refine (demurragelaw02_few.calls k a1_0 a1_1 true _ A12.out).mono ?_); rintro e w21 ⟨rfl, hb⟩; have n0_ := Aside0.mk (blk_below (g := gb5449) (o := .cells #[.int .i64 a0_0, .int .i64 a0_1] 57 (0, 0)) (by exact BK5449.out) hb); have n1_ := Aside0.mk (blk_below (g := gb5450) (o := .cells #[.int .i64 a1_0, .int .i64 a1_1] 57 (0, 0)) (by exact BK5450.out) hb); have n2_ := Aside0.mk (blk_below (g := gb5451) (o := .cells #[.int .i64 a2_0, .int .i64 a2_1] 57 (0, 0)) (by exact BK5451.out) hb); have n3_ := Aside0.mk (below_step (by repeat (first | (with_reducible first | exact HB.out | apply below_alloc | apply pw_below_drewN | apply below_drew1 | refine below_set ?_ GE5449.out | refine below_set ?_ GE5450.out | refine below_set ?_ GE5451.out) | exact HB.out)) hb); clear BK5449 BK5450 BK5451 HB; have BK5449 := n0_; have BK5450 := n1_; have BK5451 := n2_; have HB := n3_; clear n0_ n1_ n2_ n3_; (try clear hb); have hcz22_0 : w21.cell? ⟨gb5451, 0, none⟩ = some (.int .i64 a2_0) := (blk_cell BK5451.out 0).trans rfl; have hcz22_1 : w21.cell? ⟨gb5451, 1, none⟩ = some (.int .i64 a2_1) := (blk_cell BK5451.out 1).trans rfl; have hfz22_0 := blk_frozen BK5451.out 0; have hfz22_1 := blk_frozen BK5451.out 1) | (go_at_call 52; (with_reducible refine (demurragelaw02_few.calls k a2_0 a2_1 t5455 _ A14.out).mono ?_); rintro e w23 ⟨rfl, hb⟩; have n0_ := Aside0.mk (blk_below (g := gb5449) (o := .cells #[.int .i64 a0_0, .int .i64 a0_1] 57 (0, 0)) (by exact BK5449.out) hb); have n1_ := Aside0.mk (blk_below (g := gb5450) (o := .cells #[.int .i64 a1_0, .int .i64 a1_1] 57 (0, 0)) (by exact BK5450.out) hb); have n2_ := Aside0.mk (blk_below (g := gb5451) (o := .cells #[.int .i64 a2_0, .int .i64 a2_1] 57 (0, 0)) (by exact BK5451.out) hb); have n3_ := Aside0.mk (below_step (by repeat (first | (with_reducible first | exact HB.out | apply below_alloc | apply pw_below_drewN | apply below_drew1 | refine below_set ?_ GE5449.out | refine below_set ?_ GE5450.out | refine below_set ?_ GE5451.out) | exact HB.out)) hb); clear BK5449 BK5450 BK5451 HB; have BK5449 := n0_; have BK5450 := n1_; have BK5451 := n2_; have HB := n3_; clear n0_ n1_ n2_ n3_; (try clear hb)))
        go_meet
        case rel => exact ⟨_, (!t5455), (by first | rfl | (simp; done) | (simp [*]; done)), H', ⟨by first | omega | exact Nat.le_refl _⟩, ⟨by exact BK5449.out⟩, ⟨by exact BK5450.out⟩, ⟨by exact BK5451.out⟩, ⟨by repeat (first | (with_reducible first | exact HB.out | apply below_alloc | apply pw_below_drewN | apply below_drew1 | refine below_set ?_ GE5449.out | refine below_set ?_ GE5450.out | refine below_set ?_ GE5451.out) | exact HB.out)⟩⟩
      · replace c13 := Bool.eq_false_iff.mpr c13
        subst c13
        have H1 : (demurragelaw02_RatioSums.j0 k t5452 true a0_0 a0_1 a1_0 a1_1 a2_0 a2_1) = some r := by rw [if_neg (show ¬ (false = true) by decide)] at H; exact H
        clear H
        have H := H1
        clear H1
        have H' := Aside0.mk H
        clear H
        have hnb24 := NB5449_5450.out
        have hnc24 := NB5450_5449.out
        have hnb25 := NB5449_5451.out
        have hnc25 := NB5451_5449.out
        have hcz26_0 : w9.cell? ⟨gb5449, 0, none⟩ = some (.int .i64 a0_0) := (blk_cell BK5449.out 0).trans rfl
        have hcz26_1 : w9.cell? ⟨gb5449, 1, none⟩ = some (.int .i64 a0_1) := (blk_cell BK5449.out 1).trans rfl
        have hfz26_0 := blk_frozen BK5449.out 0
        have hfz26_1 := blk_frozen BK5449.out 1
        go_wp2_with (first | ((with_reducible refine gate_callee (f := 52) rfl ?_); refine goesL_ (some 28) rfl rfl Try.func52 (by kernel_rfl) rfl #[.agg #[.int .i64 a0_0, .int .i64 a0_1]] rfl (by (try simp only [List.map_toArray, List.map_cons, List.map_nil]); first | done | rfl) ?_; (with_reducible refine (demurragelaw02_few.calls k a0_0 a0_1 true _ A10.out).mono ?_); rintro e w27 ⟨rfl, hb⟩; refine ⟨_, rfl, ?_⟩; have n0_ := Aside0.mk (blk_below (g := gb5449) (o := .cells #[.int .i64 a0_0, .int .i64 a0_1] 57 (0, 0)) (by exact BK5449.out) hb); have n1_ := Aside0.mk (blk_below (g := gb5450) (o := .cells #[.int .i64 a1_0, .int .i64 a1_1] 57 (0, 0)) (by exact BK5450.out) hb); have n2_ := Aside0.mk (blk_below (g := gb5451) (o := .cells #[.int .i64 a2_0, .int .i64 a2_1] 57 (0, 0)) (by exact BK5451.out) hb); have n3_ := Aside0.mk (below_step (by repeat (first | (with_reducible first | exact HB.out | apply below_alloc | apply pw_below_drewN | apply below_drew1 | refine below_set ?_ GE5449.out | refine below_set ?_ GE5450.out | refine below_set ?_ GE5451.out) | exact HB.out)) hb); clear BK5449 BK5450 BK5451 HB; have BK5449 := n0_; have BK5450 := n1_; have BK5451 := n2_; have HB := n3_; clear n0_ n1_ n2_ n3_; (try clear hb); have hnb28 := NB5450_5451.out; have hnc28 := NB5451_5450.out; have hcz29_0 : w27.cell? ⟨gb5450, 0, none⟩ = some (.int .i64 a1_0) := (blk_cell BK5450.out 0).trans rfl; have hcz29_1 : w27.cell? ⟨gb5450, 1, none⟩ = some (.int .i64 a1_1) := (blk_cell BK5450.out 1).trans rfl; have hfz29_0 := blk_frozen BK5450.out 0; have hfz29_1 := blk_frozen BK5450.out 1) | (go_at_call 52; (with_reducible refine (demurragelaw02_few.calls k a1_0 a1_1 false _ A12.out).mono ?_); rintro e w30 ⟨rfl, hb⟩; have n0_ := Aside0.mk (blk_below (g := gb5449) (o := .cells #[.int .i64 a0_0, .int .i64 a0_1] 57 (0, 0)) (by exact BK5449.out) hb); have n1_ := Aside0.mk (blk_below (g := gb5450) (o := .cells #[.int .i64 a1_0, .int .i64 a1_1] 57 (0, 0)) (by exact BK5450.out) hb); have n2_ := Aside0.mk (blk_below (g := gb5451) (o := .cells #[.int .i64 a2_0, .int .i64 a2_1] 57 (0, 0)) (by exact BK5451.out) hb); have n3_ := Aside0.mk (below_step (by repeat (first | (with_reducible first | exact HB.out | apply below_alloc | apply pw_below_drewN | apply below_drew1 | refine below_set ?_ GE5449.out | refine below_set ?_ GE5450.out | refine below_set ?_ GE5451.out) | exact HB.out)) hb); clear BK5449 BK5450 BK5451 HB; have BK5449 := n0_; have BK5450 := n1_; have BK5451 := n2_; have HB := n3_; clear n0_ n1_ n2_ n3_; (try clear hb)))
        go_meet
        case rel => exact ⟨_, (true), (by first | rfl | (simp; done) | (simp [*]; done)), H', ⟨by first | omega | exact Nat.le_refl _⟩, ⟨by exact BK5449.out⟩, ⟨by exact BK5450.out⟩, ⟨by exact BK5451.out⟩, ⟨by repeat (first | (with_reducible first | exact HB.out | apply below_alloc | apply pw_below_drewN | apply below_drew1 | refine below_set ?_ GE5449.out | refine below_set ?_ GE5450.out | refine below_set ?_ GE5451.out) | exact HB.out)⟩⟩
    · replace c11 := Bool.eq_false_iff.mpr c11
      subst c11
      have H1 : (demurragelaw02_RatioSums.j0 k t5452 true a0_0 a0_1 a1_0 a1_1 a2_0 a2_1) = some r := by rw [if_neg (show ¬ (false = true) by decide)] at H; exact H
      clear H
      have H := H1
      clear H1
      have H' := Aside0.mk H
      clear H
      have hnb31 := NB5449_5450.out
      have hnc31 := NB5450_5449.out
      have hnb32 := NB5449_5451.out
      have hnc32 := NB5451_5449.out
      have hcz33_0 : w9.cell? ⟨gb5449, 0, none⟩ = some (.int .i64 a0_0) := (blk_cell BK5449.out 0).trans rfl
      have hcz33_1 : w9.cell? ⟨gb5449, 1, none⟩ = some (.int .i64 a0_1) := (blk_cell BK5449.out 1).trans rfl
      have hfz33_0 := blk_frozen BK5449.out 0
      have hfz33_1 := blk_frozen BK5449.out 1
      go_wp2_with (first | ((with_reducible refine gate_callee (f := 52) rfl ?_); refine goesL_ (some 28) rfl rfl Try.func52 (by kernel_rfl) rfl #[.agg #[.int .i64 a0_0, .int .i64 a0_1]] rfl (by (try simp only [List.map_toArray, List.map_cons, List.map_nil]); first | done | rfl) ?_; (with_reducible refine (demurragelaw02_few.calls k a0_0 a0_1 false _ A10.out).mono ?_); rintro e w34 ⟨rfl, hb⟩; refine ⟨_, rfl, ?_⟩; have n0_ := Aside0.mk (blk_below (g := gb5449) (o := .cells #[.int .i64 a0_0, .int .i64 a0_1] 57 (0, 0)) (by exact BK5449.out) hb); have n1_ := Aside0.mk (blk_below (g := gb5450) (o := .cells #[.int .i64 a1_0, .int .i64 a1_1] 57 (0, 0)) (by exact BK5450.out) hb); have n2_ := Aside0.mk (blk_below (g := gb5451) (o := .cells #[.int .i64 a2_0, .int .i64 a2_1] 57 (0, 0)) (by exact BK5451.out) hb); have n3_ := Aside0.mk (below_step (by repeat (first | (with_reducible first | exact HB.out | apply below_alloc | apply pw_below_drewN | apply below_drew1 | refine below_set ?_ GE5449.out | refine below_set ?_ GE5450.out | refine below_set ?_ GE5451.out) | exact HB.out)) hb); clear BK5449 BK5450 BK5451 HB; have BK5449 := n0_; have BK5450 := n1_; have BK5451 := n2_; have HB := n3_; clear n0_ n1_ n2_ n3_; (try clear hb)))
      go_meet
      case rel => exact ⟨_, (true), (by first | rfl | (simp; done) | (simp [*]; done)), H', ⟨by first | omega | exact Nat.le_refl _⟩, ⟨by exact BK5449.out⟩, ⟨by exact BK5450.out⟩, ⟨by exact BK5451.out⟩, ⟨by repeat (first | (with_reducible first | exact HB.out | apply below_alloc | apply pw_below_drewN | apply below_drew1 | refine below_set ?_ GE5449.out | refine below_set ?_ GE5450.out | refine below_set ?_ GE5451.out) | exact HB.out)⟩⟩
  case rest =>
    clear HC5
    try clear c1
    try clear c2
    try clear p2
    try clear c3
    try clear c5
    try clear c11
    try clear c13
    try clear c15
    try clear c16
    try clear c19
    try clear c24
    try clear c25
    try clear c28
    try clear c31
    try clear c32
    try clear hcz17_0
    try clear hcz17_1
    try clear hcz20_0
    try clear hcz20_1
    try clear hcz22_0
    try clear hcz22_1
    try clear hcz26_0
    try clear hcz26_1
    try clear hcz29_0
    try clear hcz29_1
    try clear hcz33_0
    try clear hcz33_1
    try clear hfz17_0
    try clear hfz17_1
    try clear hfz20_0
    try clear hfz20_1
    try clear hfz22_0
    try clear hfz22_1
    try clear hfz26_0
    try clear hfz26_1
    try clear hfz29_0
    try clear hfz29_1
    try clear hfz33_0
    try clear hfz33_1
    obtain ⟨kq, x39_4, rfl, HA, HJ4, BK5449, BK5450, BK5451, HB⟩ := hcut
    cases kq with
    | zero => exact absurd HA.out (by simp [demurragelaw02_RatioSums.j0])
    | succ kj4 =>
      have H := HA.out
      clear HA
      simp only [demurragelaw02_RatioSums.j0] at H
      by_cases c35 : x39_4 = true
      · subst c35
        have H1 : (some t5452) = some r := by rw [if_pos rfl] at H; exact H
        clear H
        have H := H1
        clear H1
        obtain rfl := Option.some.inj H
        go_wp2
        go_ret
        exact ⟨by rfl, by repeat (first | (with_reducible first | exact HB.out | apply below_alloc | apply pw_below_drewN | apply below_drew1 | refine below_set ?_ GE5449.out | refine below_set ?_ GE5450.out | refine below_set ?_ GE5451.out) | exact HB.out)⟩
      replace c35 := Bool.eq_false_iff.mpr c35
      subst c35
      have H1 : ((ratio_Add.f a0_0 a0_1 a1_0 a1_1).bind fun bt5582 => ((ratio_Add.f a1_0 a1_1 a2_0 a2_1).bind fun bt5586 => ((ratio_Add.f bt5582.1 bt5582.2.1 a2_0 a2_1).bind fun bt5590 => ((ratio_Add.f a0_0 a0_1 bt5586.1 bt5586.2.1).bind fun bt5594 => ((ratio_Mul.f a0_0 a0_1 a2_0 a2_1).bind fun bt5598 => ((ratio_Mul.f a1_0 a1_1 a2_0 a2_1).bind fun bt5602 => ((ratio_Add.f bt5598.1 bt5598.2.1 bt5602.1 bt5602.2.1).bind fun bt5606 => ((ratio_Mul.f bt5582.1 bt5582.2.1 a2_0 a2_1).bind fun bt5610 => ((ratio_Add.f a0_0 a0_1 a2_0 a2_1).bind fun bt5614 => (if t5452 = true then (if bt5590.2.2 = 0 then (if bt5594.2.2 = 0 then (if (bt5590.1 == bt5594.1 && (bt5590.2.1 == bt5594.2.1)) = true then (if bt5606.2.2 = 0 then (if bt5610.2.2 = 0 then (if (bt5606.1 == bt5610.1 && (bt5606.2.1 == bt5610.2.1)) = true then ((ratio_Cmp.f bt5614.1 bt5614.2.1 bt5586.1 bt5586.2.1).bind fun t5618 => ((ratio_Cmp.f a0_0 a0_1 a1_0 a1_1).bind fun t5619 => (some (t5618 == t5619)))) else (none)) else ((ratio_Cmp.f bt5614.1 bt5614.2.1 bt5586.1 bt5586.2.1).bind fun t5620 => ((ratio_Cmp.f a0_0 a0_1 a1_0 a1_1).bind fun t5621 => (some (t5620 == t5621))))) else ((ratio_Cmp.f bt5614.1 bt5614.2.1 bt5586.1 bt5586.2.1).bind fun t5622 => ((ratio_Cmp.f a0_0 a0_1 a1_0 a1_1).bind fun t5623 => (some (t5622 == t5623))))) else (none)) else (none)) else (none)) else (none))))))))))) = some r := by rw [if_neg (show ¬ (false = true) by decide)] at H; exact H
      clear H
      have H := H1
      clear H1
      replace H := Option.bind_eq_some_iff.mp H
      obtain ⟨⟨t5582, t5583, t5584⟩, A360, H⟩ := H
      replace H : ((ratio_Add.f a1_0 a1_1 a2_0 a2_1).bind fun bt5586 => ((ratio_Add.f t5582 t5583 a2_0 a2_1).bind fun bt5590 => ((ratio_Add.f a0_0 a0_1 bt5586.1 bt5586.2.1).bind fun bt5594 => ((ratio_Mul.f a0_0 a0_1 a2_0 a2_1).bind fun bt5598 => ((ratio_Mul.f a1_0 a1_1 a2_0 a2_1).bind fun bt5602 => ((ratio_Add.f bt5598.1 bt5598.2.1 bt5602.1 bt5602.2.1).bind fun bt5606 => ((ratio_Mul.f t5582 t5583 a2_0 a2_1).bind fun bt5610 => ((ratio_Add.f a0_0 a0_1 a2_0 a2_1).bind fun bt5614 => (if t5452 = true then (if bt5590.2.2 = 0 then (if bt5594.2.2 = 0 then (if (bt5590.1 == bt5594.1 && (bt5590.2.1 == bt5594.2.1)) = true then (if bt5606.2.2 = 0 then (if bt5610.2.2 = 0 then (if (bt5606.1 == bt5610.1 && (bt5606.2.1 == bt5610.2.1)) = true then ((ratio_Cmp.f bt5614.1 bt5614.2.1 bt5586.1 bt5586.2.1).bind fun t5618 => ((ratio_Cmp.f a0_0 a0_1 a1_0 a1_1).bind fun t5619 => (some (t5618 == t5619)))) else (none)) else ((ratio_Cmp.f bt5614.1 bt5614.2.1 bt5586.1 bt5586.2.1).bind fun t5620 => ((ratio_Cmp.f a0_0 a0_1 a1_0 a1_1).bind fun t5621 => (some (t5620 == t5621))))) else ((ratio_Cmp.f bt5614.1 bt5614.2.1 bt5586.1 bt5586.2.1).bind fun t5622 => ((ratio_Cmp.f a0_0 a0_1 a1_0 a1_1).bind fun t5623 => (some (t5622 == t5623))))) else (none)) else (none)) else (none)) else (none)))))))))) = some r := H
      have A36 := Aside0.mk A360
      clear A360
      replace H := Option.bind_eq_some_iff.mp H
      obtain ⟨⟨t5586, t5587, t5588⟩, A370, H⟩ := H
      replace H : ((ratio_Add.f t5582 t5583 a2_0 a2_1).bind fun bt5590 => ((ratio_Add.f a0_0 a0_1 t5586 t5587).bind fun bt5594 => ((ratio_Mul.f a0_0 a0_1 a2_0 a2_1).bind fun bt5598 => ((ratio_Mul.f a1_0 a1_1 a2_0 a2_1).bind fun bt5602 => ((ratio_Add.f bt5598.1 bt5598.2.1 bt5602.1 bt5602.2.1).bind fun bt5606 => ((ratio_Mul.f t5582 t5583 a2_0 a2_1).bind fun bt5610 => ((ratio_Add.f a0_0 a0_1 a2_0 a2_1).bind fun bt5614 => (if t5452 = true then (if bt5590.2.2 = 0 then (if bt5594.2.2 = 0 then (if (bt5590.1 == bt5594.1 && (bt5590.2.1 == bt5594.2.1)) = true then (if bt5606.2.2 = 0 then (if bt5610.2.2 = 0 then (if (bt5606.1 == bt5610.1 && (bt5606.2.1 == bt5610.2.1)) = true then ((ratio_Cmp.f bt5614.1 bt5614.2.1 t5586 t5587).bind fun t5618 => ((ratio_Cmp.f a0_0 a0_1 a1_0 a1_1).bind fun t5619 => (some (t5618 == t5619)))) else (none)) else ((ratio_Cmp.f bt5614.1 bt5614.2.1 t5586 t5587).bind fun t5620 => ((ratio_Cmp.f a0_0 a0_1 a1_0 a1_1).bind fun t5621 => (some (t5620 == t5621))))) else ((ratio_Cmp.f bt5614.1 bt5614.2.1 t5586 t5587).bind fun t5622 => ((ratio_Cmp.f a0_0 a0_1 a1_0 a1_1).bind fun t5623 => (some (t5622 == t5623))))) else (none)) else (none)) else (none)) else (none))))))))) = some r := H
      have A37 := Aside0.mk A370
      clear A370
      replace H := Option.bind_eq_some_iff.mp H
      obtain ⟨⟨t5590, t5591, t5592⟩, A380, H⟩ := H
      replace H : ((ratio_Add.f a0_0 a0_1 t5586 t5587).bind fun bt5594 => ((ratio_Mul.f a0_0 a0_1 a2_0 a2_1).bind fun bt5598 => ((ratio_Mul.f a1_0 a1_1 a2_0 a2_1).bind fun bt5602 => ((ratio_Add.f bt5598.1 bt5598.2.1 bt5602.1 bt5602.2.1).bind fun bt5606 => ((ratio_Mul.f t5582 t5583 a2_0 a2_1).bind fun bt5610 => ((ratio_Add.f a0_0 a0_1 a2_0 a2_1).bind fun bt5614 => (if t5452 = true then (if t5592 = 0 then (if bt5594.2.2 = 0 then (if (t5590 == bt5594.1 && (t5591 == bt5594.2.1)) = true then (if bt5606.2.2 = 0 then (if bt5610.2.2 = 0 then (if (bt5606.1 == bt5610.1 && (bt5606.2.1 == bt5610.2.1)) = true then ((ratio_Cmp.f bt5614.1 bt5614.2.1 t5586 t5587).bind fun t5618 => ((ratio_Cmp.f a0_0 a0_1 a1_0 a1_1).bind fun t5619 => (some (t5618 == t5619)))) else (none)) else ((ratio_Cmp.f bt5614.1 bt5614.2.1 t5586 t5587).bind fun t5620 => ((ratio_Cmp.f a0_0 a0_1 a1_0 a1_1).bind fun t5621 => (some (t5620 == t5621))))) else ((ratio_Cmp.f bt5614.1 bt5614.2.1 t5586 t5587).bind fun t5622 => ((ratio_Cmp.f a0_0 a0_1 a1_0 a1_1).bind fun t5623 => (some (t5622 == t5623))))) else (none)) else (none)) else (none)) else (none)))))))) = some r := H
      have A38 := Aside0.mk A380
      clear A380
      replace H := Option.bind_eq_some_iff.mp H
      obtain ⟨⟨t5594, t5595, t5596⟩, A390, H⟩ := H
      replace H : ((ratio_Mul.f a0_0 a0_1 a2_0 a2_1).bind fun bt5598 => ((ratio_Mul.f a1_0 a1_1 a2_0 a2_1).bind fun bt5602 => ((ratio_Add.f bt5598.1 bt5598.2.1 bt5602.1 bt5602.2.1).bind fun bt5606 => ((ratio_Mul.f t5582 t5583 a2_0 a2_1).bind fun bt5610 => ((ratio_Add.f a0_0 a0_1 a2_0 a2_1).bind fun bt5614 => (if t5452 = true then (if t5592 = 0 then (if t5596 = 0 then (if (t5590 == t5594 && (t5591 == t5595)) = true then (if bt5606.2.2 = 0 then (if bt5610.2.2 = 0 then (if (bt5606.1 == bt5610.1 && (bt5606.2.1 == bt5610.2.1)) = true then ((ratio_Cmp.f bt5614.1 bt5614.2.1 t5586 t5587).bind fun t5618 => ((ratio_Cmp.f a0_0 a0_1 a1_0 a1_1).bind fun t5619 => (some (t5618 == t5619)))) else (none)) else ((ratio_Cmp.f bt5614.1 bt5614.2.1 t5586 t5587).bind fun t5620 => ((ratio_Cmp.f a0_0 a0_1 a1_0 a1_1).bind fun t5621 => (some (t5620 == t5621))))) else ((ratio_Cmp.f bt5614.1 bt5614.2.1 t5586 t5587).bind fun t5622 => ((ratio_Cmp.f a0_0 a0_1 a1_0 a1_1).bind fun t5623 => (some (t5622 == t5623))))) else (none)) else (none)) else (none)) else (none))))))) = some r := H
      have A39 := Aside0.mk A390
      clear A390
      replace H := Option.bind_eq_some_iff.mp H
      obtain ⟨⟨t5598, t5599, t5600⟩, A400, H⟩ := H
      replace H : ((ratio_Mul.f a1_0 a1_1 a2_0 a2_1).bind fun bt5602 => ((ratio_Add.f t5598 t5599 bt5602.1 bt5602.2.1).bind fun bt5606 => ((ratio_Mul.f t5582 t5583 a2_0 a2_1).bind fun bt5610 => ((ratio_Add.f a0_0 a0_1 a2_0 a2_1).bind fun bt5614 => (if t5452 = true then (if t5592 = 0 then (if t5596 = 0 then (if (t5590 == t5594 && (t5591 == t5595)) = true then (if bt5606.2.2 = 0 then (if bt5610.2.2 = 0 then (if (bt5606.1 == bt5610.1 && (bt5606.2.1 == bt5610.2.1)) = true then ((ratio_Cmp.f bt5614.1 bt5614.2.1 t5586 t5587).bind fun t5618 => ((ratio_Cmp.f a0_0 a0_1 a1_0 a1_1).bind fun t5619 => (some (t5618 == t5619)))) else (none)) else ((ratio_Cmp.f bt5614.1 bt5614.2.1 t5586 t5587).bind fun t5620 => ((ratio_Cmp.f a0_0 a0_1 a1_0 a1_1).bind fun t5621 => (some (t5620 == t5621))))) else ((ratio_Cmp.f bt5614.1 bt5614.2.1 t5586 t5587).bind fun t5622 => ((ratio_Cmp.f a0_0 a0_1 a1_0 a1_1).bind fun t5623 => (some (t5622 == t5623))))) else (none)) else (none)) else (none)) else (none)))))) = some r := H
      have A40 := Aside0.mk A400
      clear A400
      replace H := Option.bind_eq_some_iff.mp H
      obtain ⟨⟨t5602, t5603, t5604⟩, A410, H⟩ := H
      replace H : ((ratio_Add.f t5598 t5599 t5602 t5603).bind fun bt5606 => ((ratio_Mul.f t5582 t5583 a2_0 a2_1).bind fun bt5610 => ((ratio_Add.f a0_0 a0_1 a2_0 a2_1).bind fun bt5614 => (if t5452 = true then (if t5592 = 0 then (if t5596 = 0 then (if (t5590 == t5594 && (t5591 == t5595)) = true then (if bt5606.2.2 = 0 then (if bt5610.2.2 = 0 then (if (bt5606.1 == bt5610.1 && (bt5606.2.1 == bt5610.2.1)) = true then ((ratio_Cmp.f bt5614.1 bt5614.2.1 t5586 t5587).bind fun t5618 => ((ratio_Cmp.f a0_0 a0_1 a1_0 a1_1).bind fun t5619 => (some (t5618 == t5619)))) else (none)) else ((ratio_Cmp.f bt5614.1 bt5614.2.1 t5586 t5587).bind fun t5620 => ((ratio_Cmp.f a0_0 a0_1 a1_0 a1_1).bind fun t5621 => (some (t5620 == t5621))))) else ((ratio_Cmp.f bt5614.1 bt5614.2.1 t5586 t5587).bind fun t5622 => ((ratio_Cmp.f a0_0 a0_1 a1_0 a1_1).bind fun t5623 => (some (t5622 == t5623))))) else (none)) else (none)) else (none)) else (none))))) = some r := H
      have A41 := Aside0.mk A410
      clear A410
      replace H := Option.bind_eq_some_iff.mp H
      obtain ⟨⟨t5606, t5607, t5608⟩, A420, H⟩ := H
      replace H : ((ratio_Mul.f t5582 t5583 a2_0 a2_1).bind fun bt5610 => ((ratio_Add.f a0_0 a0_1 a2_0 a2_1).bind fun bt5614 => (if t5452 = true then (if t5592 = 0 then (if t5596 = 0 then (if (t5590 == t5594 && (t5591 == t5595)) = true then (if t5608 = 0 then (if bt5610.2.2 = 0 then (if (t5606 == bt5610.1 && (t5607 == bt5610.2.1)) = true then ((ratio_Cmp.f bt5614.1 bt5614.2.1 t5586 t5587).bind fun t5618 => ((ratio_Cmp.f a0_0 a0_1 a1_0 a1_1).bind fun t5619 => (some (t5618 == t5619)))) else (none)) else ((ratio_Cmp.f bt5614.1 bt5614.2.1 t5586 t5587).bind fun t5620 => ((ratio_Cmp.f a0_0 a0_1 a1_0 a1_1).bind fun t5621 => (some (t5620 == t5621))))) else ((ratio_Cmp.f bt5614.1 bt5614.2.1 t5586 t5587).bind fun t5622 => ((ratio_Cmp.f a0_0 a0_1 a1_0 a1_1).bind fun t5623 => (some (t5622 == t5623))))) else (none)) else (none)) else (none)) else (none)))) = some r := H
      have A42 := Aside0.mk A420
      clear A420
      replace H := Option.bind_eq_some_iff.mp H
      obtain ⟨⟨t5610, t5611, t5612⟩, A430, H⟩ := H
      replace H : ((ratio_Add.f a0_0 a0_1 a2_0 a2_1).bind fun bt5614 => (if t5452 = true then (if t5592 = 0 then (if t5596 = 0 then (if (t5590 == t5594 && (t5591 == t5595)) = true then (if t5608 = 0 then (if t5612 = 0 then (if (t5606 == t5610 && (t5607 == t5611)) = true then ((ratio_Cmp.f bt5614.1 bt5614.2.1 t5586 t5587).bind fun t5618 => ((ratio_Cmp.f a0_0 a0_1 a1_0 a1_1).bind fun t5619 => (some (t5618 == t5619)))) else (none)) else ((ratio_Cmp.f bt5614.1 bt5614.2.1 t5586 t5587).bind fun t5620 => ((ratio_Cmp.f a0_0 a0_1 a1_0 a1_1).bind fun t5621 => (some (t5620 == t5621))))) else ((ratio_Cmp.f bt5614.1 bt5614.2.1 t5586 t5587).bind fun t5622 => ((ratio_Cmp.f a0_0 a0_1 a1_0 a1_1).bind fun t5623 => (some (t5622 == t5623))))) else (none)) else (none)) else (none)) else (none))) = some r := H
      have A43 := Aside0.mk A430
      clear A430
      replace H := Option.bind_eq_some_iff.mp H
      obtain ⟨⟨t5614, t5615, t5616⟩, A440, H⟩ := H
      replace H : (if t5452 = true then (if t5592 = 0 then (if t5596 = 0 then (if (t5590 == t5594 && (t5591 == t5595)) = true then (if t5608 = 0 then (if t5612 = 0 then (if (t5606 == t5610 && (t5607 == t5611)) = true then ((ratio_Cmp.f t5614 t5615 t5586 t5587).bind fun t5618 => ((ratio_Cmp.f a0_0 a0_1 a1_0 a1_1).bind fun t5619 => (some (t5618 == t5619)))) else (none)) else ((ratio_Cmp.f t5614 t5615 t5586 t5587).bind fun t5620 => ((ratio_Cmp.f a0_0 a0_1 a1_0 a1_1).bind fun t5621 => (some (t5620 == t5621))))) else ((ratio_Cmp.f t5614 t5615 t5586 t5587).bind fun t5622 => ((ratio_Cmp.f a0_0 a0_1 a1_0 a1_1).bind fun t5623 => (some (t5622 == t5623))))) else (none)) else (none)) else (none)) else (none)) = some r := H
      have A44 := Aside0.mk A440
      clear A440
      by_cases c45 : t5452 = true
      rotate_left
      · replace c45 := Bool.eq_false_iff.mpr c45
        subst c45
        have H1 : (none) = some r := by rw [if_neg (show ¬ (false = true) by decide)] at H; exact H
        clear H
        have H := H1
        clear H1
        exact absurd H (by simp)
      subst c45
      have H1 : (if t5592 = 0 then (if t5596 = 0 then (if (t5590 == t5594 && (t5591 == t5595)) = true then (if t5608 = 0 then (if t5612 = 0 then (if (t5606 == t5610 && (t5607 == t5611)) = true then ((ratio_Cmp.f t5614 t5615 t5586 t5587).bind fun t5618 => ((ratio_Cmp.f a0_0 a0_1 a1_0 a1_1).bind fun t5619 => (some (t5618 == t5619)))) else (none)) else ((ratio_Cmp.f t5614 t5615 t5586 t5587).bind fun t5620 => ((ratio_Cmp.f a0_0 a0_1 a1_0 a1_1).bind fun t5621 => (some (t5620 == t5621))))) else ((ratio_Cmp.f t5614 t5615 t5586 t5587).bind fun t5622 => ((ratio_Cmp.f a0_0 a0_1 a1_0 a1_1).bind fun t5623 => (some (t5622 == t5623))))) else (none)) else (none)) else (none)) = some r := by rw [if_pos rfl] at H; exact H
      clear H
      have H := H1
      clear H1
      by_cases c46 : t5592 = 0
      rotate_left
      · rw [if_neg c46] at H
        exact absurd H (by simp)
      rw [if_pos c46] at H
      have c46b0 : (t5592 == 0) = true := beq_iff_eq.mpr c46
      have c46b1 : (t5592 != 0) = false := bne_eq_false_iff_eq.mpr c46
      clear c46
      by_cases c47 : t5596 = 0
      rotate_left
      · rw [if_neg c47] at H
        exact absurd H (by simp)
      rw [if_pos c47] at H
      have c47b0 : (t5596 == 0) = true := beq_iff_eq.mpr c47
      have c47b1 : (t5596 != 0) = false := bne_eq_false_iff_eq.mpr c47
      clear c47
      by_cases c48 : (t5590 == t5594 && (t5591 == t5595)) = true
      rotate_left
      · rw [if_neg c48] at H
        exact absurd H (by simp)
      rw [if_pos c48] at H
      have c48b0 : (t5590 == t5594 && (t5591 == t5595)) = true := c48
      (try (have c48b1 : decide (t5590 = t5594 && (t5591 == t5595)) = true := by simpa using c48))
      (try (have c48b2 : (t5590 == t5594 && (t5591 == t5595)) = true := by simpa using c48))
      clear c48
      by_cases c49 : t5608 = 0
      focus
        rw [if_pos c49] at H
        have c49b0 : (t5608 == 0) = true := beq_iff_eq.mpr c49
        have c49b1 : (t5608 != 0) = false := bne_eq_false_iff_eq.mpr c49
        clear c49
        by_cases c50 : t5612 = 0
        focus
          rw [if_pos c50] at H
          have c50b0 : (t5612 == 0) = true := beq_iff_eq.mpr c50
          have c50b1 : (t5612 != 0) = false := bne_eq_false_iff_eq.mpr c50
          clear c50
          by_cases c51 : (t5606 == t5610 && (t5607 == t5611)) = true
          rotate_left
          · rw [if_neg c51] at H
            exact absurd H (by simp)
          rw [if_pos c51] at H
          have c51b0 : (t5606 == t5610 && (t5607 == t5611)) = true := c51
          (try (have c51b1 : decide (t5606 = t5610 && (t5607 == t5611)) = true := by simpa using c51))
          (try (have c51b2 : (t5606 == t5610 && (t5607 == t5611)) = true := by simpa using c51))
          clear c51
        rotate_left
        focus
          rw [if_neg c50] at H
          have c50b0 : (t5612 == 0) = false := beq_eq_false_iff_ne.mpr c50
          have c50b1 : (t5612 != 0) = true := bne_iff_ne.mpr c50
      rotate_left 2
      focus
        rw [if_neg c49] at H
        have c49b0 : (t5608 == 0) = false := beq_eq_false_iff_ne.mpr c49
        have c49b1 : (t5608 != 0) = true := bne_iff_ne.mpr c49
      all_goals
        replace H := Option.bind_eq_some_iff.mp H
        obtain ⟨t5618, A520, H⟩ := H
        replace H : ((ratio_Cmp.f a0_0 a0_1 a1_0 a1_1).bind fun t5619 => (some (t5618 == t5619))) = some r := H
        have A52 := Aside0.mk A520
        clear A520
        replace H := Option.bind_eq_some_iff.mp H
        obtain ⟨t5619, A530, H⟩ := H
        replace H : (some (t5618 == t5619)) = some r := H
        have A53 := Aside0.mk A530
        clear A530
        obtain rfl := Option.some.inj H
        have hnb54 := NB5449_5450.out
        have hnc54 := NB5450_5449.out
        have hnb55 := NB5449_5451.out
        have hnc55 := NB5451_5449.out
        have hcz56_0 : wc.cell? ⟨gb5449, 0, none⟩ = some (.int .i64 a0_0) := (blk_cell BK5449.out 0).trans rfl
        have hcz56_1 : wc.cell? ⟨gb5449, 1, none⟩ = some (.int .i64 a0_1) := (blk_cell BK5449.out 1).trans rfl
        have hfz56_0 := blk_frozen BK5449.out 0
        have hfz56_1 := blk_frozen BK5449.out 1
        have hnb57 := NB5450_5451.out
        have hnc57 := NB5451_5450.out
        have hcz58_0 : wc.cell? ⟨gb5450, 0, none⟩ = some (.int .i64 a1_0) := (blk_cell BK5450.out 0).trans rfl
        have hcz58_1 : wc.cell? ⟨gb5450, 1, none⟩ = some (.int .i64 a1_1) := (blk_cell BK5450.out 1).trans rfl
        have hfz58_0 := blk_frozen BK5450.out 0
        have hfz58_1 := blk_frozen BK5450.out 1
        try go_wp2_with (first | ((with_reducible refine gate_callee (f := 46) rfl ?_); refine goesL_ (some 44) rfl rfl Try.func46 (by kernel_rfl) rfl #[.agg #[.int .i64 a0_0, .int .i64 a0_1], .agg #[.int .i64 a1_0, .int .i64 a1_1]] rfl (by (try simp only [List.map_toArray, List.map_cons, List.map_nil]); first | done | rfl) ?_; (with_reducible refine (ratio_Add.calls a0_0 a0_1 a1_0 a1_1 t5582 t5583 t5584 _ A36.out).mono ?_); rintro e w59 ⟨rfl, hb⟩; refine ⟨_, rfl, ?_⟩; have n0_ := Aside0.mk (blk_below (g := gb5449) (o := .cells #[.int .i64 a0_0, .int .i64 a0_1] 57 (0, 0)) (by exact BK5449.out) hb); have n1_ := Aside0.mk (blk_below (g := gb5450) (o := .cells #[.int .i64 a1_0, .int .i64 a1_1] 57 (0, 0)) (by exact BK5450.out) hb); have n2_ := Aside0.mk (blk_below (g := gb5451) (o := .cells #[.int .i64 a2_0, .int .i64 a2_1] 57 (0, 0)) (by exact BK5451.out) hb); have n3_ := Aside0.mk (below_step (by repeat (first | (with_reducible first | exact HB.out | apply below_alloc | apply pw_below_drewN | apply below_drew1 | refine below_set ?_ GE5449.out | refine below_set ?_ GE5450.out | refine below_set ?_ GE5451.out) | exact HB.out)) hb); clear BK5449 BK5450 BK5451 HB; have BK5449 := n0_; have BK5450 := n1_; have BK5451 := n2_; have HB := n3_; clear n0_ n1_ n2_ n3_; (try clear hb)) | ((with_reducible refine gate_dst (N := 8) rfl ?_); refine box_event ?hg (N := 8) ?hd (cs := #[.int .i64 0, .int .i64 0]) (t := 57) ?hr ?_; (case hd => rfl); (case hg => rfl); (case hr => first | (go_simp; done) | (go_simp; rfl)); intro gb5585 hg w60 hbox hb; have n0_ := Aside0.mk (blk_below (g := gb5449) (o := .cells #[.int .i64 a0_0, .int .i64 a0_1] 57 (0, 0)) (by exact BK5449.out) hb); have n1_ := Aside0.mk (blk_below (g := gb5450) (o := .cells #[.int .i64 a1_0, .int .i64 a1_1] 57 (0, 0)) (by exact BK5450.out) hb); have n2_ := Aside0.mk (blk_below (g := gb5451) (o := .cells #[.int .i64 a2_0, .int .i64 a2_1] 57 (0, 0)) (by exact BK5451.out) hb); have n3_ := Aside0.mk (below_step (by repeat (first | (with_reducible first | exact HB.out | apply below_alloc | apply pw_below_drewN | apply below_drew1 | refine below_set ?_ GE5449.out | refine below_set ?_ GE5450.out | refine below_set ?_ GE5451.out) | exact HB.out)) hb); have n4_ := Aside0.mk (hbox); have n5_ := Aside0.mk ((by rw [hg]; exact (below_size (by repeat (first | (with_reducible first | exact HB.out | apply below_alloc | apply pw_below_drewN | apply below_drew1 | refine below_set ?_ GE5449.out | refine below_set ?_ GE5450.out | refine below_set ?_ GE5451.out) | exact HB.out))) : w.heap.size ≤ gb5585)); have n6_ := Aside0.mk ((by rw [hg]; exact (below_size (by repeat (first | (with_reducible first | exact HB.out | apply below_alloc | apply pw_below_drewN | apply below_drew1 | refine below_set ?_ GE5449.out | refine below_set ?_ GE5450.out | refine below_set ?_ GE5451.out) | exact HB.out))) : w.heap.size ≤ gb5585)); have n7_ := Aside0.mk ((by rw [hg]; exact Nat.ne_of_lt (blk_lt (g := gb5449) (o := .cells #[.int .i64 a0_0, .int .i64 a0_1] 57 (0, 0)) (by exact BK5449.out)) : gb5449 ≠ gb5585)); have n8_ := Aside0.mk ((by rw [hg]; exact Nat.ne_of_gt (blk_lt (g := gb5449) (o := .cells #[.int .i64 a0_0, .int .i64 a0_1] 57 (0, 0)) (by exact BK5449.out)) : gb5585 ≠ gb5449)); have n9_ := Aside0.mk ((by rw [hg]; exact Nat.ne_of_lt (blk_lt (g := gb5450) (o := .cells #[.int .i64 a1_0, .int .i64 a1_1] 57 (0, 0)) (by exact BK5450.out)) : gb5450 ≠ gb5585)); have n10_ := Aside0.mk ((by rw [hg]; exact Nat.ne_of_gt (blk_lt (g := gb5450) (o := .cells #[.int .i64 a1_0, .int .i64 a1_1] 57 (0, 0)) (by exact BK5450.out)) : gb5585 ≠ gb5450)); have n11_ := Aside0.mk ((by rw [hg]; exact Nat.ne_of_lt (blk_lt (g := gb5451) (o := .cells #[.int .i64 a2_0, .int .i64 a2_1] 57 (0, 0)) (by exact BK5451.out)) : gb5451 ≠ gb5585)); have n12_ := Aside0.mk ((by rw [hg]; exact Nat.ne_of_gt (blk_lt (g := gb5451) (o := .cells #[.int .i64 a2_0, .int .i64 a2_1] 57 (0, 0)) (by exact BK5451.out)) : gb5585 ≠ gb5451)); clear BK5449 BK5450 BK5451 HB; have BK5449 := n0_; have BK5450 := n1_; have BK5451 := n2_; have HB := n3_; have BK5585 := n4_; have GW5585 := n5_; have GE5585 := n6_; have NB5449_5585 := n7_; have NB5585_5449 := n8_; have NB5450_5585 := n9_; have NB5585_5450 := n10_; have NB5451_5585 := n11_; have NB5585_5451 := n12_; clear n0_ n1_ n2_ n3_ n4_ n5_ n6_ n7_ n8_ n9_ n10_ n11_ n12_; clear hb hbox hg; have hnb61 := NB5585_5449.out; have hnc61 := NB5449_5585.out; have hnb62 := NB5585_5450.out; have hnc62 := NB5450_5585.out; have hnb63 := NB5585_5451.out; have hnc63 := NB5451_5585.out; have hcz64_0 : w60.cell? ⟨gb5585, 0, none⟩ = some (.int .i64 0) := (blk_cell BK5585.out 0).trans rfl; have hcz64_1 : w60.cell? ⟨gb5585, 1, none⟩ = some (.int .i64 0) := (blk_cell BK5585.out 1).trans rfl; have hfz64_0 := blk_frozen BK5585.out 0; have hfz64_1 := blk_frozen BK5585.out 1; have hcz65_0 : w60.cell? ⟨gb5450, 0, none⟩ = some (.int .i64 a1_0) := (blk_cell BK5450.out 0).trans rfl; have hcz65_1 : w60.cell? ⟨gb5450, 1, none⟩ = some (.int .i64 a1_1) := (blk_cell BK5450.out 1).trans rfl; have hfz65_0 := blk_frozen BK5450.out 0; have hfz65_1 := blk_frozen BK5450.out 1; have hcz66_0 : w60.cell? ⟨gb5451, 0, none⟩ = some (.int .i64 a2_0) := (blk_cell BK5451.out 0).trans rfl; have hcz66_1 : w60.cell? ⟨gb5451, 1, none⟩ = some (.int .i64 a2_1) := (blk_cell BK5451.out 1).trans rfl; have hfz66_0 := blk_frozen BK5451.out 0; have hfz66_1 := blk_frozen BK5451.out 1) | ((with_reducible refine gate_callee (f := 46) rfl ?_); refine goesL_ (some 50) rfl rfl Try.func46 (by kernel_rfl) rfl #[.agg #[.int .i64 a1_0, .int .i64 a1_1], .agg #[.int .i64 a2_0, .int .i64 a2_1]] rfl (by (try simp only [List.map_toArray, List.map_cons, List.map_nil]); first | done | rfl) ?_; (with_reducible refine (ratio_Add.calls a1_0 a1_1 a2_0 a2_1 t5586 t5587 t5588 _ A37.out).mono ?_); rintro e w67 ⟨rfl, hb⟩; refine ⟨_, rfl, ?_⟩; have n0_ := Aside0.mk (blk_below (g := gb5449) (o := .cells #[.int .i64 a0_0, .int .i64 a0_1] 57 (0, 0)) (by refine blk_far ?_ NB5449_5585.out _; refine blk_far ?_ NB5449_5585.out _; exact BK5449.out) hb); have n1_ := Aside0.mk (blk_below (g := gb5450) (o := .cells #[.int .i64 a1_0, .int .i64 a1_1] 57 (0, 0)) (by refine blk_far ?_ NB5450_5585.out _; refine blk_far ?_ NB5450_5585.out _; exact BK5450.out) hb); have n2_ := Aside0.mk (blk_below (g := gb5451) (o := .cells #[.int .i64 a2_0, .int .i64 a2_1] 57 (0, 0)) (by refine blk_far ?_ NB5451_5585.out _; refine blk_far ?_ NB5451_5585.out _; exact BK5451.out) hb); have n3_ := Aside0.mk (blk_below (g := gb5585) (o := .cells #[.int .i64 t5582, .int .i64 t5583] 57 (0, 0)) (by refine blk_put (cs := #[.int .i64 t5582, .int .i64 0]) ?_ 1 _ rfl; refine blk_put (cs := #[.int .i64 0, .int .i64 0]) ?_ 0 _ rfl; exact BK5585.out) hb); have n4_ := Aside0.mk (below_step (by repeat (first | (with_reducible first | exact HB.out | apply below_alloc | apply pw_below_drewN | apply below_drew1 | refine below_set ?_ GE5449.out | refine below_set ?_ GE5450.out | refine below_set ?_ GE5451.out | refine below_set ?_ GE5585.out) | exact HB.out)) hb); clear BK5449 BK5450 BK5451 BK5585 HB; have BK5449 := n0_; have BK5450 := n1_; have BK5451 := n2_; have BK5585 := n3_; have HB := n4_; clear n0_ n1_ n2_ n3_ n4_; (try clear hb)) | ((with_reducible refine gate_dst (N := 10) rfl ?_); refine box_event ?hg (N := 10) ?hd (cs := #[.int .i64 0, .int .i64 0]) (t := 57) ?hr ?_; (case hd => rfl); (case hg => rfl); (case hr => first | (go_simp; done) | (go_simp; rfl)); intro gb5589 hg w68 hbox hb; have n0_ := Aside0.mk (blk_below (g := gb5449) (o := .cells #[.int .i64 a0_0, .int .i64 a0_1] 57 (0, 0)) (by exact BK5449.out) hb); have n1_ := Aside0.mk (blk_below (g := gb5450) (o := .cells #[.int .i64 a1_0, .int .i64 a1_1] 57 (0, 0)) (by exact BK5450.out) hb); have n2_ := Aside0.mk (blk_below (g := gb5451) (o := .cells #[.int .i64 a2_0, .int .i64 a2_1] 57 (0, 0)) (by exact BK5451.out) hb); have n3_ := Aside0.mk (blk_below (g := gb5585) (o := .cells #[.int .i64 t5582, .int .i64 t5583] 57 (0, 0)) (by exact BK5585.out) hb); have n4_ := Aside0.mk (below_step (by repeat (first | (with_reducible first | exact HB.out | apply below_alloc | apply pw_below_drewN | apply below_drew1 | refine below_set ?_ GE5449.out | refine below_set ?_ GE5450.out | refine below_set ?_ GE5451.out | refine below_set ?_ GE5585.out) | exact HB.out)) hb); have n5_ := Aside0.mk (hbox); have n6_ := Aside0.mk ((by rw [hg]; exact (below_size (by repeat (first | (with_reducible first | exact HB.out | apply below_alloc | apply pw_below_drewN | apply below_drew1 | refine below_set ?_ GE5449.out | refine below_set ?_ GE5450.out | refine below_set ?_ GE5451.out | refine below_set ?_ GE5585.out) | exact HB.out))) : w.heap.size ≤ gb5589)); have n7_ := Aside0.mk ((by rw [hg]; exact (below_size (by repeat (first | (with_reducible first | exact HB.out | apply below_alloc | apply pw_below_drewN | apply below_drew1 | refine below_set ?_ GE5449.out | refine below_set ?_ GE5450.out | refine below_set ?_ GE5451.out | refine below_set ?_ GE5585.out) | exact HB.out))) : w.heap.size ≤ gb5589)); have n8_ := Aside0.mk ((by rw [hg]; exact Nat.ne_of_lt (blk_lt (g := gb5449) (o := .cells #[.int .i64 a0_0, .int .i64 a0_1] 57 (0, 0)) (by exact BK5449.out)) : gb5449 ≠ gb5589)); have n9_ := Aside0.mk ((by rw [hg]; exact Nat.ne_of_gt (blk_lt (g := gb5449) (o := .cells #[.int .i64 a0_0, .int .i64 a0_1] 57 (0, 0)) (by exact BK5449.out)) : gb5589 ≠ gb5449)); have n10_ := Aside0.mk ((by rw [hg]; exact Nat.ne_of_lt (blk_lt (g := gb5450) (o := .cells #[.int .i64 a1_0, .int .i64 a1_1] 57 (0, 0)) (by exact BK5450.out)) : gb5450 ≠ gb5589)); have n11_ := Aside0.mk ((by rw [hg]; exact Nat.ne_of_gt (blk_lt (g := gb5450) (o := .cells #[.int .i64 a1_0, .int .i64 a1_1] 57 (0, 0)) (by exact BK5450.out)) : gb5589 ≠ gb5450)); have n12_ := Aside0.mk ((by rw [hg]; exact Nat.ne_of_lt (blk_lt (g := gb5451) (o := .cells #[.int .i64 a2_0, .int .i64 a2_1] 57 (0, 0)) (by exact BK5451.out)) : gb5451 ≠ gb5589)); have n13_ := Aside0.mk ((by rw [hg]; exact Nat.ne_of_gt (blk_lt (g := gb5451) (o := .cells #[.int .i64 a2_0, .int .i64 a2_1] 57 (0, 0)) (by exact BK5451.out)) : gb5589 ≠ gb5451)); have n14_ := Aside0.mk ((by rw [hg]; exact Nat.ne_of_lt (blk_lt (g := gb5585) (o := .cells #[.int .i64 t5582, .int .i64 t5583] 57 (0, 0)) (by exact BK5585.out)) : gb5585 ≠ gb5589)); have n15_ := Aside0.mk ((by rw [hg]; exact Nat.ne_of_gt (blk_lt (g := gb5585) (o := .cells #[.int .i64 t5582, .int .i64 t5583] 57 (0, 0)) (by exact BK5585.out)) : gb5589 ≠ gb5585)); clear BK5449 BK5450 BK5451 BK5585 HB; have BK5449 := n0_; have BK5450 := n1_; have BK5451 := n2_; have BK5585 := n3_; have HB := n4_; have BK5589 := n5_; have GW5589 := n6_; have GE5589 := n7_; have NB5449_5589 := n8_; have NB5589_5449 := n9_; have NB5450_5589 := n10_; have NB5589_5450 := n11_; have NB5451_5589 := n12_; have NB5589_5451 := n13_; have NB5585_5589 := n14_; have NB5589_5585 := n15_; clear n0_ n1_ n2_ n3_ n4_ n5_ n6_ n7_ n8_ n9_ n10_ n11_ n12_ n13_ n14_ n15_; clear hb hbox hg; have hnb69 := NB5589_5449.out; have hnc69 := NB5449_5589.out; have hnb70 := NB5589_5450.out; have hnc70 := NB5450_5589.out; have hnb71 := NB5589_5451.out; have hnc71 := NB5451_5589.out; have hnb72 := NB5589_5585.out; have hnc72 := NB5585_5589.out; have hcz73_0 : w68.cell? ⟨gb5589, 0, none⟩ = some (.int .i64 0) := (blk_cell BK5589.out 0).trans rfl; have hcz73_1 : w68.cell? ⟨gb5589, 1, none⟩ = some (.int .i64 0) := (blk_cell BK5589.out 1).trans rfl; have hfz73_0 := blk_frozen BK5589.out 0; have hfz73_1 := blk_frozen BK5589.out 1; have hcz74_0 : w68.cell? ⟨gb5585, 0, none⟩ = some (.int .i64 t5582) := (blk_cell BK5585.out 0).trans rfl; have hcz74_1 : w68.cell? ⟨gb5585, 1, none⟩ = some (.int .i64 t5583) := (blk_cell BK5585.out 1).trans rfl; have hfz74_0 := blk_frozen BK5585.out 0; have hfz74_1 := blk_frozen BK5585.out 1; have hcz75_0 : w68.cell? ⟨gb5451, 0, none⟩ = some (.int .i64 a2_0) := (blk_cell BK5451.out 0).trans rfl; have hcz75_1 : w68.cell? ⟨gb5451, 1, none⟩ = some (.int .i64 a2_1) := (blk_cell BK5451.out 1).trans rfl; have hfz75_0 := blk_frozen BK5451.out 0; have hfz75_1 := blk_frozen BK5451.out 1) | ((with_reducible refine gate_callee (f := 46) rfl ?_); refine goesL_ (some 56) rfl rfl Try.func46 (by kernel_rfl) rfl #[.agg #[.int .i64 t5582, .int .i64 t5583], .agg #[.int .i64 a2_0, .int .i64 a2_1]] rfl (by (try simp only [List.map_toArray, List.map_cons, List.map_nil]); first | done | rfl) ?_; (with_reducible refine (ratio_Add.calls t5582 t5583 a2_0 a2_1 t5590 t5591 t5592 _ A38.out).mono ?_); rintro e w76 ⟨rfl, hb⟩; refine ⟨_, rfl, ?_⟩; have n0_ := Aside0.mk (blk_below (g := gb5449) (o := .cells #[.int .i64 a0_0, .int .i64 a0_1] 57 (0, 0)) (by refine blk_far ?_ NB5449_5589.out _; refine blk_far ?_ NB5449_5589.out _; exact BK5449.out) hb); have n1_ := Aside0.mk (blk_below (g := gb5450) (o := .cells #[.int .i64 a1_0, .int .i64 a1_1] 57 (0, 0)) (by refine blk_far ?_ NB5450_5589.out _; refine blk_far ?_ NB5450_5589.out _; exact BK5450.out) hb); have n2_ := Aside0.mk (blk_below (g := gb5451) (o := .cells #[.int .i64 a2_0, .int .i64 a2_1] 57 (0, 0)) (by refine blk_far ?_ NB5451_5589.out _; refine blk_far ?_ NB5451_5589.out _; exact BK5451.out) hb); have n3_ := Aside0.mk (blk_below (g := gb5585) (o := .cells #[.int .i64 t5582, .int .i64 t5583] 57 (0, 0)) (by refine blk_far ?_ NB5585_5589.out _; refine blk_far ?_ NB5585_5589.out _; exact BK5585.out) hb); have n4_ := Aside0.mk (blk_below (g := gb5589) (o := .cells #[.int .i64 t5586, .int .i64 t5587] 57 (0, 0)) (by refine blk_put (cs := #[.int .i64 t5586, .int .i64 0]) ?_ 1 _ rfl; refine blk_put (cs := #[.int .i64 0, .int .i64 0]) ?_ 0 _ rfl; exact BK5589.out) hb); have n5_ := Aside0.mk (below_step (by repeat (first | (with_reducible first | exact HB.out | apply below_alloc | apply pw_below_drewN | apply below_drew1 | refine below_set ?_ GE5449.out | refine below_set ?_ GE5450.out | refine below_set ?_ GE5451.out | refine below_set ?_ GE5585.out | refine below_set ?_ GE5589.out) | exact HB.out)) hb); clear BK5449 BK5450 BK5451 BK5585 BK5589 HB; have BK5449 := n0_; have BK5450 := n1_; have BK5451 := n2_; have BK5585 := n3_; have BK5589 := n4_; have HB := n5_; clear n0_ n1_ n2_ n3_ n4_ n5_; (try clear hb)) | ((with_reducible refine gate_dst (N := 12) rfl ?_); refine box_event ?hg (N := 12) ?hd (cs := #[.int .i64 0, .int .i64 0]) (t := 57) ?hr ?_; (case hd => rfl); (case hg => rfl); (case hr => first | (go_simp; done) | (go_simp; rfl)); intro gb5593 hg w77 hbox hb; have n0_ := Aside0.mk (blk_below (g := gb5449) (o := .cells #[.int .i64 a0_0, .int .i64 a0_1] 57 (0, 0)) (by exact BK5449.out) hb); have n1_ := Aside0.mk (blk_below (g := gb5450) (o := .cells #[.int .i64 a1_0, .int .i64 a1_1] 57 (0, 0)) (by exact BK5450.out) hb); have n2_ := Aside0.mk (blk_below (g := gb5451) (o := .cells #[.int .i64 a2_0, .int .i64 a2_1] 57 (0, 0)) (by exact BK5451.out) hb); have n3_ := Aside0.mk (blk_below (g := gb5585) (o := .cells #[.int .i64 t5582, .int .i64 t5583] 57 (0, 0)) (by exact BK5585.out) hb); have n4_ := Aside0.mk (blk_below (g := gb5589) (o := .cells #[.int .i64 t5586, .int .i64 t5587] 57 (0, 0)) (by exact BK5589.out) hb); have n5_ := Aside0.mk (below_step (by repeat (first | (with_reducible first | exact HB.out | apply below_alloc | apply pw_below_drewN | apply below_drew1 | refine below_set ?_ GE5449.out | refine below_set ?_ GE5450.out | refine below_set ?_ GE5451.out | refine below_set ?_ GE5585.out | refine below_set ?_ GE5589.out) | exact HB.out)) hb); have n6_ := Aside0.mk (hbox); have n7_ := Aside0.mk ((by rw [hg]; exact (below_size (by repeat (first | (with_reducible first | exact HB.out | apply below_alloc | apply pw_below_drewN | apply below_drew1 | refine below_set ?_ GE5449.out | refine below_set ?_ GE5450.out | refine below_set ?_ GE5451.out | refine below_set ?_ GE5585.out | refine below_set ?_ GE5589.out) | exact HB.out))) : w.heap.size ≤ gb5593)); have n8_ := Aside0.mk ((by rw [hg]; exact (below_size (by repeat (first | (with_reducible first | exact HB.out | apply below_alloc | apply pw_below_drewN | apply below_drew1 | refine below_set ?_ GE5449.out | refine below_set ?_ GE5450.out | refine below_set ?_ GE5451.out | refine below_set ?_ GE5585.out | refine below_set ?_ GE5589.out) | exact HB.out))) : w.heap.size ≤ gb5593)); have n9_ := Aside0.mk ((by rw [hg]; exact Nat.ne_of_lt (blk_lt (g := gb5449) (o := .cells #[.int .i64 a0_0, .int .i64 a0_1] 57 (0, 0)) (by exact BK5449.out)) : gb5449 ≠ gb5593)); have n10_ := Aside0.mk ((by rw [hg]; exact Nat.ne_of_gt (blk_lt (g := gb5449) (o := .cells #[.int .i64 a0_0, .int .i64 a0_1] 57 (0, 0)) (by exact BK5449.out)) : gb5593 ≠ gb5449)); have n11_ := Aside0.mk ((by rw [hg]; exact Nat.ne_of_lt (blk_lt (g := gb5450) (o := .cells #[.int .i64 a1_0, .int .i64 a1_1] 57 (0, 0)) (by exact BK5450.out)) : gb5450 ≠ gb5593)); have n12_ := Aside0.mk ((by rw [hg]; exact Nat.ne_of_gt (blk_lt (g := gb5450) (o := .cells #[.int .i64 a1_0, .int .i64 a1_1] 57 (0, 0)) (by exact BK5450.out)) : gb5593 ≠ gb5450)); have n13_ := Aside0.mk ((by rw [hg]; exact Nat.ne_of_lt (blk_lt (g := gb5451) (o := .cells #[.int .i64 a2_0, .int .i64 a2_1] 57 (0, 0)) (by exact BK5451.out)) : gb5451 ≠ gb5593)); have n14_ := Aside0.mk ((by rw [hg]; exact Nat.ne_of_gt (blk_lt (g := gb5451) (o := .cells #[.int .i64 a2_0, .int .i64 a2_1] 57 (0, 0)) (by exact BK5451.out)) : gb5593 ≠ gb5451)); have n15_ := Aside0.mk ((by rw [hg]; exact Nat.ne_of_lt (blk_lt (g := gb5585) (o := .cells #[.int .i64 t5582, .int .i64 t5583] 57 (0, 0)) (by exact BK5585.out)) : gb5585 ≠ gb5593)); have n16_ := Aside0.mk ((by rw [hg]; exact Nat.ne_of_gt (blk_lt (g := gb5585) (o := .cells #[.int .i64 t5582, .int .i64 t5583] 57 (0, 0)) (by exact BK5585.out)) : gb5593 ≠ gb5585)); have n17_ := Aside0.mk ((by rw [hg]; exact Nat.ne_of_lt (blk_lt (g := gb5589) (o := .cells #[.int .i64 t5586, .int .i64 t5587] 57 (0, 0)) (by exact BK5589.out)) : gb5589 ≠ gb5593)); have n18_ := Aside0.mk ((by rw [hg]; exact Nat.ne_of_gt (blk_lt (g := gb5589) (o := .cells #[.int .i64 t5586, .int .i64 t5587] 57 (0, 0)) (by exact BK5589.out)) : gb5593 ≠ gb5589)); clear BK5449 BK5450 BK5451 BK5585 BK5589 HB; have BK5449 := n0_; have BK5450 := n1_; have BK5451 := n2_; have BK5585 := n3_; have BK5589 := n4_; have HB := n5_; have BK5593 := n6_; have GW5593 := n7_; have GE5593 := n8_; have NB5449_5593 := n9_; have NB5593_5449 := n10_; have NB5450_5593 := n11_; have NB5593_5450 := n12_; have NB5451_5593 := n13_; have NB5593_5451 := n14_; have NB5585_5593 := n15_; have NB5593_5585 := n16_; have NB5589_5593 := n17_; have NB5593_5589 := n18_; clear n0_ n1_ n2_ n3_ n4_ n5_ n6_ n7_ n8_ n9_ n10_ n11_ n12_ n13_ n14_ n15_ n16_ n17_ n18_; clear hb hbox hg; have hnb78 := NB5593_5449.out; have hnc78 := NB5449_5593.out; have hnb79 := NB5593_5450.out; have hnc79 := NB5450_5593.out; have hnb80 := NB5593_5451.out; have hnc80 := NB5451_5593.out; have hnb81 := NB5593_5585.out; have hnc81 := NB5585_5593.out; have hnb82 := NB5593_5589.out; have hnc82 := NB5589_5593.out; have hcz83_0 : w77.cell? ⟨gb5593, 0, none⟩ = some (.int .i64 0) := (blk_cell BK5593.out 0).trans rfl; have hcz83_1 : w77.cell? ⟨gb5593, 1, none⟩ = some (.int .i64 0) := (blk_cell BK5593.out 1).trans rfl; have hfz83_0 := blk_frozen BK5593.out 0; have hfz83_1 := blk_frozen BK5593.out 1; have hcz84_0 : w77.cell? ⟨gb5449, 0, none⟩ = some (.int .i64 a0_0) := (blk_cell BK5449.out 0).trans rfl; have hcz84_1 : w77.cell? ⟨gb5449, 1, none⟩ = some (.int .i64 a0_1) := (blk_cell BK5449.out 1).trans rfl; have hfz84_0 := blk_frozen BK5449.out 0; have hfz84_1 := blk_frozen BK5449.out 1; have hcz85_0 : w77.cell? ⟨gb5589, 0, none⟩ = some (.int .i64 t5586) := (blk_cell BK5589.out 0).trans rfl; have hcz85_1 : w77.cell? ⟨gb5589, 1, none⟩ = some (.int .i64 t5587) := (blk_cell BK5589.out 1).trans rfl; have hfz85_0 := blk_frozen BK5589.out 0; have hfz85_1 := blk_frozen BK5589.out 1) | ((with_reducible refine gate_callee (f := 46) rfl ?_); refine goesL_ (some 62) rfl rfl Try.func46 (by kernel_rfl) rfl #[.agg #[.int .i64 a0_0, .int .i64 a0_1], .agg #[.int .i64 t5586, .int .i64 t5587]] rfl (by (try simp only [List.map_toArray, List.map_cons, List.map_nil]); first | done | rfl) ?_; (with_reducible refine (ratio_Add.calls a0_0 a0_1 t5586 t5587 t5594 t5595 t5596 _ A39.out).mono ?_); rintro e w86 ⟨rfl, hb⟩; refine ⟨_, rfl, ?_⟩; have n0_ := Aside0.mk (blk_below (g := gb5449) (o := .cells #[.int .i64 a0_0, .int .i64 a0_1] 57 (0, 0)) (by refine blk_far ?_ NB5449_5593.out _; refine blk_far ?_ NB5449_5593.out _; exact BK5449.out) hb); have n1_ := Aside0.mk (blk_below (g := gb5450) (o := .cells #[.int .i64 a1_0, .int .i64 a1_1] 57 (0, 0)) (by refine blk_far ?_ NB5450_5593.out _; refine blk_far ?_ NB5450_5593.out _; exact BK5450.out) hb); have n2_ := Aside0.mk (blk_below (g := gb5451) (o := .cells #[.int .i64 a2_0, .int .i64 a2_1] 57 (0, 0)) (by refine blk_far ?_ NB5451_5593.out _; refine blk_far ?_ NB5451_5593.out _; exact BK5451.out) hb); have n3_ := Aside0.mk (blk_below (g := gb5585) (o := .cells #[.int .i64 t5582, .int .i64 t5583] 57 (0, 0)) (by refine blk_far ?_ NB5585_5593.out _; refine blk_far ?_ NB5585_5593.out _; exact BK5585.out) hb); have n4_ := Aside0.mk (blk_below (g := gb5589) (o := .cells #[.int .i64 t5586, .int .i64 t5587] 57 (0, 0)) (by refine blk_far ?_ NB5589_5593.out _; refine blk_far ?_ NB5589_5593.out _; exact BK5589.out) hb); have n5_ := Aside0.mk (blk_below (g := gb5593) (o := .cells #[.int .i64 t5590, .int .i64 t5591] 57 (0, 0)) (by refine blk_put (cs := #[.int .i64 t5590, .int .i64 0]) ?_ 1 _ rfl; refine blk_put (cs := #[.int .i64 0, .int .i64 0]) ?_ 0 _ rfl; exact BK5593.out) hb); have n6_ := Aside0.mk (below_step (by repeat (first | (with_reducible first | exact HB.out | apply below_alloc | apply pw_below_drewN | apply below_drew1 | refine below_set ?_ GE5449.out | refine below_set ?_ GE5450.out | refine below_set ?_ GE5451.out | refine below_set ?_ GE5585.out | refine below_set ?_ GE5589.out | refine below_set ?_ GE5593.out) | exact HB.out)) hb); clear BK5449 BK5450 BK5451 BK5585 BK5589 BK5593 HB; have BK5449 := n0_; have BK5450 := n1_; have BK5451 := n2_; have BK5585 := n3_; have BK5589 := n4_; have BK5593 := n5_; have HB := n6_; clear n0_ n1_ n2_ n3_ n4_ n5_ n6_; (try clear hb)) | ((with_reducible refine gate_dst (N := 14) rfl ?_); refine box_event ?hg (N := 14) ?hd (cs := #[.int .i64 0, .int .i64 0]) (t := 57) ?hr ?_; (case hd => rfl); (case hg => rfl); (case hr => first | (go_simp; done) | (go_simp; rfl)); intro gb5597 hg w87 hbox hb; have n0_ := Aside0.mk (blk_below (g := gb5449) (o := .cells #[.int .i64 a0_0, .int .i64 a0_1] 57 (0, 0)) (by exact BK5449.out) hb); have n1_ := Aside0.mk (blk_below (g := gb5450) (o := .cells #[.int .i64 a1_0, .int .i64 a1_1] 57 (0, 0)) (by exact BK5450.out) hb); have n2_ := Aside0.mk (blk_below (g := gb5451) (o := .cells #[.int .i64 a2_0, .int .i64 a2_1] 57 (0, 0)) (by exact BK5451.out) hb); have n3_ := Aside0.mk (blk_below (g := gb5585) (o := .cells #[.int .i64 t5582, .int .i64 t5583] 57 (0, 0)) (by exact BK5585.out) hb); have n4_ := Aside0.mk (blk_below (g := gb5589) (o := .cells #[.int .i64 t5586, .int .i64 t5587] 57 (0, 0)) (by exact BK5589.out) hb); have n5_ := Aside0.mk (blk_below (g := gb5593) (o := .cells #[.int .i64 t5590, .int .i64 t5591] 57 (0, 0)) (by exact BK5593.out) hb); have n6_ := Aside0.mk (below_step (by repeat (first | (with_reducible first | exact HB.out | apply below_alloc | apply pw_below_drewN | apply below_drew1 | refine below_set ?_ GE5449.out | refine below_set ?_ GE5450.out | refine below_set ?_ GE5451.out | refine below_set ?_ GE5585.out | refine below_set ?_ GE5589.out | refine below_set ?_ GE5593.out) | exact HB.out)) hb); have n7_ := Aside0.mk (hbox); have n8_ := Aside0.mk ((by rw [hg]; exact (below_size (by repeat (first | (with_reducible first | exact HB.out | apply below_alloc | apply pw_below_drewN | apply below_drew1 | refine below_set ?_ GE5449.out | refine below_set ?_ GE5450.out | refine below_set ?_ GE5451.out | refine below_set ?_ GE5585.out | refine below_set ?_ GE5589.out | refine below_set ?_ GE5593.out) | exact HB.out))) : w.heap.size ≤ gb5597)); have n9_ := Aside0.mk ((by rw [hg]; exact (below_size (by repeat (first | (with_reducible first | exact HB.out | apply below_alloc | apply pw_below_drewN | apply below_drew1 | refine below_set ?_ GE5449.out | refine below_set ?_ GE5450.out | refine below_set ?_ GE5451.out | refine below_set ?_ GE5585.out | refine below_set ?_ GE5589.out | refine below_set ?_ GE5593.out) | exact HB.out))) : w.heap.size ≤ gb5597)); have n10_ := Aside0.mk ((by rw [hg]; exact Nat.ne_of_lt (blk_lt (g := gb5449) (o := .cells #[.int .i64 a0_0, .int .i64 a0_1] 57 (0, 0)) (by exact BK5449.out)) : gb5449 ≠ gb5597)); have n11_ := Aside0.mk ((by rw [hg]; exact Nat.ne_of_gt (blk_lt (g := gb5449) (o := .cells #[.int .i64 a0_0, .int .i64 a0_1] 57 (0, 0)) (by exact BK5449.out)) : gb5597 ≠ gb5449)); have n12_ := Aside0.mk ((by rw [hg]; exact Nat.ne_of_lt (blk_lt (g := gb5450) (o := .cells #[.int .i64 a1_0, .int .i64 a1_1] 57 (0, 0)) (by exact BK5450.out)) : gb5450 ≠ gb5597)); have n13_ := Aside0.mk ((by rw [hg]; exact Nat.ne_of_gt (blk_lt (g := gb5450) (o := .cells #[.int .i64 a1_0, .int .i64 a1_1] 57 (0, 0)) (by exact BK5450.out)) : gb5597 ≠ gb5450)); have n14_ := Aside0.mk ((by rw [hg]; exact Nat.ne_of_lt (blk_lt (g := gb5451) (o := .cells #[.int .i64 a2_0, .int .i64 a2_1] 57 (0, 0)) (by exact BK5451.out)) : gb5451 ≠ gb5597)); have n15_ := Aside0.mk ((by rw [hg]; exact Nat.ne_of_gt (blk_lt (g := gb5451) (o := .cells #[.int .i64 a2_0, .int .i64 a2_1] 57 (0, 0)) (by exact BK5451.out)) : gb5597 ≠ gb5451)); have n16_ := Aside0.mk ((by rw [hg]; exact Nat.ne_of_lt (blk_lt (g := gb5585) (o := .cells #[.int .i64 t5582, .int .i64 t5583] 57 (0, 0)) (by exact BK5585.out)) : gb5585 ≠ gb5597)); have n17_ := Aside0.mk ((by rw [hg]; exact Nat.ne_of_gt (blk_lt (g := gb5585) (o := .cells #[.int .i64 t5582, .int .i64 t5583] 57 (0, 0)) (by exact BK5585.out)) : gb5597 ≠ gb5585)); have n18_ := Aside0.mk ((by rw [hg]; exact Nat.ne_of_lt (blk_lt (g := gb5589) (o := .cells #[.int .i64 t5586, .int .i64 t5587] 57 (0, 0)) (by exact BK5589.out)) : gb5589 ≠ gb5597)); have n19_ := Aside0.mk ((by rw [hg]; exact Nat.ne_of_gt (blk_lt (g := gb5589) (o := .cells #[.int .i64 t5586, .int .i64 t5587] 57 (0, 0)) (by exact BK5589.out)) : gb5597 ≠ gb5589)); have n20_ := Aside0.mk ((by rw [hg]; exact Nat.ne_of_lt (blk_lt (g := gb5593) (o := .cells #[.int .i64 t5590, .int .i64 t5591] 57 (0, 0)) (by exact BK5593.out)) : gb5593 ≠ gb5597)); have n21_ := Aside0.mk ((by rw [hg]; exact Nat.ne_of_gt (blk_lt (g := gb5593) (o := .cells #[.int .i64 t5590, .int .i64 t5591] 57 (0, 0)) (by exact BK5593.out)) : gb5597 ≠ gb5593)); clear BK5449 BK5450 BK5451 BK5585 BK5589 BK5593 HB; have BK5449 := n0_; have BK5450 := n1_; have BK5451 := n2_; have BK5585 := n3_; have BK5589 := n4_; have BK5593 := n5_; have HB := n6_; have BK5597 := n7_; have GW5597 := n8_; have GE5597 := n9_; have NB5449_5597 := n10_; have NB5597_5449 := n11_; have NB5450_5597 := n12_; have NB5597_5450 := n13_; have NB5451_5597 := n14_; have NB5597_5451 := n15_; have NB5585_5597 := n16_; have NB5597_5585 := n17_; have NB5589_5597 := n18_; have NB5597_5589 := n19_; have NB5593_5597 := n20_; have NB5597_5593 := n21_; clear n0_ n1_ n2_ n3_ n4_ n5_ n6_ n7_ n8_ n9_ n10_ n11_ n12_ n13_ n14_ n15_ n16_ n17_ n18_ n19_ n20_ n21_; clear hb hbox hg; have hnb88 := NB5597_5449.out; have hnc88 := NB5449_5597.out; have hnb89 := NB5597_5450.out; have hnc89 := NB5450_5597.out; have hnb90 := NB5597_5451.out; have hnc90 := NB5451_5597.out; have hnb91 := NB5597_5585.out; have hnc91 := NB5585_5597.out; have hnb92 := NB5597_5589.out; have hnc92 := NB5589_5597.out; have hnb93 := NB5597_5593.out; have hnc93 := NB5593_5597.out; have hcz94_0 : w87.cell? ⟨gb5597, 0, none⟩ = some (.int .i64 0) := (blk_cell BK5597.out 0).trans rfl; have hcz94_1 : w87.cell? ⟨gb5597, 1, none⟩ = some (.int .i64 0) := (blk_cell BK5597.out 1).trans rfl; have hfz94_0 := blk_frozen BK5597.out 0; have hfz94_1 := blk_frozen BK5597.out 1; have hcz95_0 : w87.cell? ⟨gb5449, 0, none⟩ = some (.int .i64 a0_0) := (blk_cell BK5449.out 0).trans rfl; have hcz95_1 : w87.cell? ⟨gb5449, 1, none⟩ = some (.int .i64 a0_1) := (blk_cell BK5449.out 1).trans rfl; have hfz95_0 := blk_frozen BK5449.out 0; have hfz95_1 := blk_frozen BK5449.out 1; have hcz96_0 : w87.cell? ⟨gb5451, 0, none⟩ = some (.int .i64 a2_0) := (blk_cell BK5451.out 0).trans rfl; have hcz96_1 : w87.cell? ⟨gb5451, 1, none⟩ = some (.int .i64 a2_1) := (blk_cell BK5451.out 1).trans rfl; have hfz96_0 := blk_frozen BK5451.out 0; have hfz96_1 := blk_frozen BK5451.out 1) | ((with_reducible refine gate_callee (f := 48) rfl ?_); refine goesL_ (some 68) rfl rfl Try.func48 (by kernel_rfl) rfl #[.agg #[.int .i64 a0_0, .int .i64 a0_1], .agg #[.int .i64 a2_0, .int .i64 a2_1]] rfl (by (try simp only [List.map_toArray, List.map_cons, List.map_nil]); first | done | rfl) ?_; (with_reducible refine (ratio_Mul.calls a0_0 a0_1 a2_0 a2_1 t5598 t5599 t5600 _ A40.out).mono ?_); rintro e w97 ⟨rfl, hb⟩; refine ⟨_, rfl, ?_⟩; have n0_ := Aside0.mk (blk_below (g := gb5449) (o := .cells #[.int .i64 a0_0, .int .i64 a0_1] 57 (0, 0)) (by refine blk_far ?_ NB5449_5597.out _; refine blk_far ?_ NB5449_5597.out _; exact BK5449.out) hb); have n1_ := Aside0.mk (blk_below (g := gb5450) (o := .cells #[.int .i64 a1_0, .int .i64 a1_1] 57 (0, 0)) (by refine blk_far ?_ NB5450_5597.out _; refine blk_far ?_ NB5450_5597.out _; exact BK5450.out) hb); have n2_ := Aside0.mk (blk_below (g := gb5451) (o := .cells #[.int .i64 a2_0, .int .i64 a2_1] 57 (0, 0)) (by refine blk_far ?_ NB5451_5597.out _; refine blk_far ?_ NB5451_5597.out _; exact BK5451.out) hb); have n3_ := Aside0.mk (blk_below (g := gb5585) (o := .cells #[.int .i64 t5582, .int .i64 t5583] 57 (0, 0)) (by refine blk_far ?_ NB5585_5597.out _; refine blk_far ?_ NB5585_5597.out _; exact BK5585.out) hb); have n4_ := Aside0.mk (blk_below (g := gb5589) (o := .cells #[.int .i64 t5586, .int .i64 t5587] 57 (0, 0)) (by refine blk_far ?_ NB5589_5597.out _; refine blk_far ?_ NB5589_5597.out _; exact BK5589.out) hb); have n5_ := Aside0.mk (blk_below (g := gb5593) (o := .cells #[.int .i64 t5590, .int .i64 t5591] 57 (0, 0)) (by refine blk_far ?_ NB5593_5597.out _; refine blk_far ?_ NB5593_5597.out _; exact BK5593.out) hb); have n6_ := Aside0.mk (blk_below (g := gb5597) (o := .cells #[.int .i64 t5594, .int .i64 t5595] 57 (0, 0)) (by refine blk_put (cs := #[.int .i64 t5594, .int .i64 0]) ?_ 1 _ rfl; refine blk_put (cs := #[.int .i64 0, .int .i64 0]) ?_ 0 _ rfl; exact BK5597.out) hb); have n7_ := Aside0.mk (below_step (by repeat (first | (with_reducible first | exact HB.out | apply below_alloc | apply pw_below_drewN | apply below_drew1 | refine below_set ?_ GE5449.out | refine below_set ?_ GE5450.out | refine below_set ?_ GE5451.out | refine below_set ?_ GE5585.out | refine below_set ?_ GE5589.out | refine below_set ?_ GE5593.out | refine below_set ?_ GE5597.out) | exact HB.out)) hb); clear BK5449 BK5450 BK5451 BK5585 BK5589 BK5593 BK5597 HB; have BK5449 := n0_; have BK5450 := n1_; have BK5451 := n2_; have BK5585 := n3_; have BK5589 := n4_; have BK5593 := n5_; have BK5597 := n6_; have HB := n7_; clear n0_ n1_ n2_ n3_ n4_ n5_ n6_ n7_; (try clear hb)) | ((with_reducible refine gate_dst (N := 16) rfl ?_); refine box_event ?hg (N := 16) ?hd (cs := #[.int .i64 0, .int .i64 0]) (t := 57) ?hr ?_; (case hd => rfl); (case hg => rfl); (case hr => first | (go_simp; done) | (go_simp; rfl)); intro gb5601 hg w98 hbox hb; have n0_ := Aside0.mk (blk_below (g := gb5449) (o := .cells #[.int .i64 a0_0, .int .i64 a0_1] 57 (0, 0)) (by exact BK5449.out) hb); have n1_ := Aside0.mk (blk_below (g := gb5450) (o := .cells #[.int .i64 a1_0, .int .i64 a1_1] 57 (0, 0)) (by exact BK5450.out) hb); have n2_ := Aside0.mk (blk_below (g := gb5451) (o := .cells #[.int .i64 a2_0, .int .i64 a2_1] 57 (0, 0)) (by exact BK5451.out) hb); have n3_ := Aside0.mk (blk_below (g := gb5585) (o := .cells #[.int .i64 t5582, .int .i64 t5583] 57 (0, 0)) (by exact BK5585.out) hb); have n4_ := Aside0.mk (blk_below (g := gb5589) (o := .cells #[.int .i64 t5586, .int .i64 t5587] 57 (0, 0)) (by exact BK5589.out) hb); have n5_ := Aside0.mk (blk_below (g := gb5593) (o := .cells #[.int .i64 t5590, .int .i64 t5591] 57 (0, 0)) (by exact BK5593.out) hb); have n6_ := Aside0.mk (blk_below (g := gb5597) (o := .cells #[.int .i64 t5594, .int .i64 t5595] 57 (0, 0)) (by exact BK5597.out) hb); have n7_ := Aside0.mk (below_step (by repeat (first | (with_reducible first | exact HB.out | apply below_alloc | apply pw_below_drewN | apply below_drew1 | refine below_set ?_ GE5449.out | refine below_set ?_ GE5450.out | refine below_set ?_ GE5451.out | refine below_set ?_ GE5585.out | refine below_set ?_ GE5589.out | refine below_set ?_ GE5593.out | refine below_set ?_ GE5597.out) | exact HB.out)) hb); have n8_ := Aside0.mk (hbox); have n9_ := Aside0.mk ((by rw [hg]; exact (below_size (by repeat (first | (with_reducible first | exact HB.out | apply below_alloc | apply pw_below_drewN | apply below_drew1 | refine below_set ?_ GE5449.out | refine below_set ?_ GE5450.out | refine below_set ?_ GE5451.out | refine below_set ?_ GE5585.out | refine below_set ?_ GE5589.out | refine below_set ?_ GE5593.out | refine below_set ?_ GE5597.out) | exact HB.out))) : w.heap.size ≤ gb5601)); have n10_ := Aside0.mk ((by rw [hg]; exact (below_size (by repeat (first | (with_reducible first | exact HB.out | apply below_alloc | apply pw_below_drewN | apply below_drew1 | refine below_set ?_ GE5449.out | refine below_set ?_ GE5450.out | refine below_set ?_ GE5451.out | refine below_set ?_ GE5585.out | refine below_set ?_ GE5589.out | refine below_set ?_ GE5593.out | refine below_set ?_ GE5597.out) | exact HB.out))) : w.heap.size ≤ gb5601)); have n11_ := Aside0.mk ((by rw [hg]; exact Nat.ne_of_lt (blk_lt (g := gb5449) (o := .cells #[.int .i64 a0_0, .int .i64 a0_1] 57 (0, 0)) (by exact BK5449.out)) : gb5449 ≠ gb5601)); have n12_ := Aside0.mk ((by rw [hg]; exact Nat.ne_of_gt (blk_lt (g := gb5449) (o := .cells #[.int .i64 a0_0, .int .i64 a0_1] 57 (0, 0)) (by exact BK5449.out)) : gb5601 ≠ gb5449)); have n13_ := Aside0.mk ((by rw [hg]; exact Nat.ne_of_lt (blk_lt (g := gb5450) (o := .cells #[.int .i64 a1_0, .int .i64 a1_1] 57 (0, 0)) (by exact BK5450.out)) : gb5450 ≠ gb5601)); have n14_ := Aside0.mk ((by rw [hg]; exact Nat.ne_of_gt (blk_lt (g := gb5450) (o := .cells #[.int .i64 a1_0, .int .i64 a1_1] 57 (0, 0)) (by exact BK5450.out)) : gb5601 ≠ gb5450)); have n15_ := Aside0.mk ((by rw [hg]; exact Nat.ne_of_lt (blk_lt (g := gb5451) (o := .cells #[.int .i64 a2_0, .int .i64 a2_1] 57 (0, 0)) (by exact BK5451.out)) : gb5451 ≠ gb5601)); have n16_ := Aside0.mk ((by rw [hg]; exact Nat.ne_of_gt (blk_lt (g := gb5451) (o := .cells #[.int .i64 a2_0, .int .i64 a2_1] 57 (0, 0)) (by exact BK5451.out)) : gb5601 ≠ gb5451)); have n17_ := Aside0.mk ((by rw [hg]; exact Nat.ne_of_lt (blk_lt (g := gb5585) (o := .cells #[.int .i64 t5582, .int .i64 t5583] 57 (0, 0)) (by exact BK5585.out)) : gb5585 ≠ gb5601)); have n18_ := Aside0.mk ((by rw [hg]; exact Nat.ne_of_gt (blk_lt (g := gb5585) (o := .cells #[.int .i64 t5582, .int .i64 t5583] 57 (0, 0)) (by exact BK5585.out)) : gb5601 ≠ gb5585)); have n19_ := Aside0.mk ((by rw [hg]; exact Nat.ne_of_lt (blk_lt (g := gb5589) (o := .cells #[.int .i64 t5586, .int .i64 t5587] 57 (0, 0)) (by exact BK5589.out)) : gb5589 ≠ gb5601)); have n20_ := Aside0.mk ((by rw [hg]; exact Nat.ne_of_gt (blk_lt (g := gb5589) (o := .cells #[.int .i64 t5586, .int .i64 t5587] 57 (0, 0)) (by exact BK5589.out)) : gb5601 ≠ gb5589)); have n21_ := Aside0.mk ((by rw [hg]; exact Nat.ne_of_lt (blk_lt (g := gb5593) (o := .cells #[.int .i64 t5590, .int .i64 t5591] 57 (0, 0)) (by exact BK5593.out)) : gb5593 ≠ gb5601)); have n22_ := Aside0.mk ((by rw [hg]; exact Nat.ne_of_gt (blk_lt (g := gb5593) (o := .cells #[.int .i64 t5590, .int .i64 t5591] 57 (0, 0)) (by exact BK5593.out)) : gb5601 ≠ gb5593)); have n23_ := Aside0.mk ((by rw [hg]; exact Nat.ne_of_lt (blk_lt (g := gb5597) (o := .cells #[.int .i64 t5594, .int .i64 t5595] 57 (0, 0)) (by exact BK5597.out)) : gb5597 ≠ gb5601)); have n24_ := Aside0.mk ((by rw [hg]; exact Nat.ne_of_gt (blk_lt (g := gb5597) (o := .cells #[.int .i64 t5594, .int .i64 t5595] 57 (0, 0)) (by exact BK5597.out)) : gb5601 ≠ gb5597)); clear BK5449 BK5450 BK5451 BK5585 BK5589 BK5593 BK5597 HB; have BK5449 := n0_; have BK5450 := n1_; have BK5451 := n2_; have BK5585 := n3_; have BK5589 := n4_; have BK5593 := n5_; have BK5597 := n6_; have HB := n7_; have BK5601 := n8_; have GW5601 := n9_; have GE5601 := n10_; have NB5449_5601 := n11_; have NB5601_5449 := n12_; have NB5450_5601 := n13_; have NB5601_5450 := n14_; have NB5451_5601 := n15_; have NB5601_5451 := n16_; have NB5585_5601 := n17_; have NB5601_5585 := n18_; have NB5589_5601 := n19_; have NB5601_5589 := n20_; have NB5593_5601 := n21_; have NB5601_5593 := n22_; have NB5597_5601 := n23_; have NB5601_5597 := n24_; clear n0_ n1_ n2_ n3_ n4_ n5_ n6_ n7_ n8_ n9_ n10_ n11_ n12_ n13_ n14_ n15_ n16_ n17_ n18_ n19_ n20_ n21_ n22_ n23_ n24_; clear hb hbox hg; have hnb99 := NB5601_5449.out; have hnc99 := NB5449_5601.out; have hnb100 := NB5601_5450.out; have hnc100 := NB5450_5601.out; have hnb101 := NB5601_5451.out; have hnc101 := NB5451_5601.out; have hnb102 := NB5601_5585.out; have hnc102 := NB5585_5601.out; have hnb103 := NB5601_5589.out; have hnc103 := NB5589_5601.out; have hnb104 := NB5601_5593.out; have hnc104 := NB5593_5601.out; have hnb105 := NB5601_5597.out; have hnc105 := NB5597_5601.out; have hcz106_0 : w98.cell? ⟨gb5601, 0, none⟩ = some (.int .i64 0) := (blk_cell BK5601.out 0).trans rfl; have hcz106_1 : w98.cell? ⟨gb5601, 1, none⟩ = some (.int .i64 0) := (blk_cell BK5601.out 1).trans rfl; have hfz106_0 := blk_frozen BK5601.out 0; have hfz106_1 := blk_frozen BK5601.out 1; have hcz107_0 : w98.cell? ⟨gb5450, 0, none⟩ = some (.int .i64 a1_0) := (blk_cell BK5450.out 0).trans rfl; have hcz107_1 : w98.cell? ⟨gb5450, 1, none⟩ = some (.int .i64 a1_1) := (blk_cell BK5450.out 1).trans rfl; have hfz107_0 := blk_frozen BK5450.out 0; have hfz107_1 := blk_frozen BK5450.out 1; have hcz108_0 : w98.cell? ⟨gb5451, 0, none⟩ = some (.int .i64 a2_0) := (blk_cell BK5451.out 0).trans rfl; have hcz108_1 : w98.cell? ⟨gb5451, 1, none⟩ = some (.int .i64 a2_1) := (blk_cell BK5451.out 1).trans rfl; have hfz108_0 := blk_frozen BK5451.out 0; have hfz108_1 := blk_frozen BK5451.out 1) | ((with_reducible refine gate_callee (f := 48) rfl ?_); refine goesL_ (some 74) rfl rfl Try.func48 (by kernel_rfl) rfl #[.agg #[.int .i64 a1_0, .int .i64 a1_1], .agg #[.int .i64 a2_0, .int .i64 a2_1]] rfl (by (try simp only [List.map_toArray, List.map_cons, List.map_nil]); first | done | rfl) ?_; (with_reducible refine (ratio_Mul.calls a1_0 a1_1 a2_0 a2_1 t5602 t5603 t5604 _ A41.out).mono ?_); rintro e w109 ⟨rfl, hb⟩; refine ⟨_, rfl, ?_⟩; have n0_ := Aside0.mk (blk_below (g := gb5449) (o := .cells #[.int .i64 a0_0, .int .i64 a0_1] 57 (0, 0)) (by refine blk_far ?_ NB5449_5601.out _; refine blk_far ?_ NB5449_5601.out _; exact BK5449.out) hb); have n1_ := Aside0.mk (blk_below (g := gb5450) (o := .cells #[.int .i64 a1_0, .int .i64 a1_1] 57 (0, 0)) (by refine blk_far ?_ NB5450_5601.out _; refine blk_far ?_ NB5450_5601.out _; exact BK5450.out) hb); have n2_ := Aside0.mk (blk_below (g := gb5451) (o := .cells #[.int .i64 a2_0, .int .i64 a2_1] 57 (0, 0)) (by refine blk_far ?_ NB5451_5601.out _; refine blk_far ?_ NB5451_5601.out _; exact BK5451.out) hb); have n3_ := Aside0.mk (blk_below (g := gb5585) (o := .cells #[.int .i64 t5582, .int .i64 t5583] 57 (0, 0)) (by refine blk_far ?_ NB5585_5601.out _; refine blk_far ?_ NB5585_5601.out _; exact BK5585.out) hb); have n4_ := Aside0.mk (blk_below (g := gb5589) (o := .cells #[.int .i64 t5586, .int .i64 t5587] 57 (0, 0)) (by refine blk_far ?_ NB5589_5601.out _; refine blk_far ?_ NB5589_5601.out _; exact BK5589.out) hb); have n5_ := Aside0.mk (blk_below (g := gb5593) (o := .cells #[.int .i64 t5590, .int .i64 t5591] 57 (0, 0)) (by refine blk_far ?_ NB5593_5601.out _; refine blk_far ?_ NB5593_5601.out _; exact BK5593.out) hb); have n6_ := Aside0.mk (blk_below (g := gb5597) (o := .cells #[.int .i64 t5594, .int .i64 t5595] 57 (0, 0)) (by refine blk_far ?_ NB5597_5601.out _; refine blk_far ?_ NB5597_5601.out _; exact BK5597.out) hb); have n7_ := Aside0.mk (blk_below (g := gb5601) (o := .cells #[.int .i64 t5598, .int .i64 t5599] 57 (0, 0)) (by refine blk_put (cs := #[.int .i64 t5598, .int .i64 0]) ?_ 1 _ rfl; refine blk_put (cs := #[.int .i64 0, .int .i64 0]) ?_ 0 _ rfl; exact BK5601.out) hb); have n8_ := Aside0.mk (below_step (by repeat (first | (with_reducible first | exact HB.out | apply below_alloc | apply pw_below_drewN | apply below_drew1 | refine below_set ?_ GE5449.out | refine below_set ?_ GE5450.out | refine below_set ?_ GE5451.out | refine below_set ?_ GE5585.out | refine below_set ?_ GE5589.out | refine below_set ?_ GE5593.out | refine below_set ?_ GE5597.out | refine below_set ?_ GE5601.out) | exact HB.out)) hb); clear BK5449 BK5450 BK5451 BK5585 BK5589 BK5593 BK5597 BK5601 HB; have BK5449 := n0_; have BK5450 := n1_; have BK5451 := n2_; have BK5585 := n3_; have BK5589 := n4_; have BK5593 := n5_; have BK5597 := n6_; have BK5601 := n7_; have HB := n8_; clear n0_ n1_ n2_ n3_ n4_ n5_ n6_ n7_ n8_; (try clear hb)) | ((with_reducible refine gate_dst (N := 18) rfl ?_); refine box_event ?hg (N := 18) ?hd (cs := #[.int .i64 0, .int .i64 0]) (t := 57) ?hr ?_; (case hd => rfl); (case hg => rfl); (case hr => first | (go_simp; done) | (go_simp; rfl)); intro gb5605 hg w110 hbox hb; have n0_ := Aside0.mk (blk_below (g := gb5449) (o := .cells #[.int .i64 a0_0, .int .i64 a0_1] 57 (0, 0)) (by exact BK5449.out) hb); have n1_ := Aside0.mk (blk_below (g := gb5450) (o := .cells #[.int .i64 a1_0, .int .i64 a1_1] 57 (0, 0)) (by exact BK5450.out) hb); have n2_ := Aside0.mk (blk_below (g := gb5451) (o := .cells #[.int .i64 a2_0, .int .i64 a2_1] 57 (0, 0)) (by exact BK5451.out) hb); have n3_ := Aside0.mk (blk_below (g := gb5585) (o := .cells #[.int .i64 t5582, .int .i64 t5583] 57 (0, 0)) (by exact BK5585.out) hb); have n4_ := Aside0.mk (blk_below (g := gb5589) (o := .cells #[.int .i64 t5586, .int .i64 t5587] 57 (0, 0)) (by exact BK5589.out) hb); have n5_ := Aside0.mk (blk_below (g := gb5593) (o := .cells #[.int .i64 t5590, .int .i64 t5591] 57 (0, 0)) (by exact BK5593.out) hb); have n6_ := Aside0.mk (blk_below (g := gb5597) (o := .cells #[.int .i64 t5594, .int .i64 t5595] 57 (0, 0)) (by exact BK5597.out) hb); have n7_ := Aside0.mk (blk_below (g := gb5601) (o := .cells #[.int .i64 t5598, .int .i64 t5599] 57 (0, 0)) (by exact BK5601.out) hb); have n8_ := Aside0.mk (below_step (by repeat (first | (with_reducible first | exact HB.out | apply below_alloc | apply pw_below_drewN | apply below_drew1 | refine below_set ?_ GE5449.out | refine below_set ?_ GE5450.out | refine below_set ?_ GE5451.out | refine below_set ?_ GE5585.out | refine below_set ?_ GE5589.out | refine below_set ?_ GE5593.out | refine below_set ?_ GE5597.out | refine below_set ?_ GE5601.out) | exact HB.out)) hb); have n9_ := Aside0.mk (hbox); have n10_ := Aside0.mk ((by rw [hg]; exact (below_size (by repeat (first | (with_reducible first | exact HB.out | apply below_alloc | apply pw_below_drewN | apply below_drew1 | refine below_set ?_ GE5449.out | refine below_set ?_ GE5450.out | refine below_set ?_ GE5451.out | refine below_set ?_ GE5585.out | refine below_set ?_ GE5589.out | refine below_set ?_ GE5593.out | refine below_set ?_ GE5597.out | refine below_set ?_ GE5601.out) | exact HB.out))) : w.heap.size ≤ gb5605)); have n11_ := Aside0.mk ((by rw [hg]; exact (below_size (by repeat (first | (with_reducible first | exact HB.out | apply below_alloc | apply pw_below_drewN | apply below_drew1 | refine below_set ?_ GE5449.out | refine below_set ?_ GE5450.out | refine below_set ?_ GE5451.out | refine below_set ?_ GE5585.out | refine below_set ?_ GE5589.out | refine below_set ?_ GE5593.out | refine below_set ?_ GE5597.out | refine below_set ?_ GE5601.out) | exact HB.out))) : w.heap.size ≤ gb5605)); have n12_ := Aside0.mk ((by rw [hg]; exact Nat.ne_of_lt (blk_lt (g := gb5449) (o := .cells #[.int .i64 a0_0, .int .i64 a0_1] 57 (0, 0)) (by exact BK5449.out)) : gb5449 ≠ gb5605)); have n13_ := Aside0.mk ((by rw [hg]; exact Nat.ne_of_gt (blk_lt (g := gb5449) (o := .cells #[.int .i64 a0_0, .int .i64 a0_1] 57 (0, 0)) (by exact BK5449.out)) : gb5605 ≠ gb5449)); have n14_ := Aside0.mk ((by rw [hg]; exact Nat.ne_of_lt (blk_lt (g := gb5450) (o := .cells #[.int .i64 a1_0, .int .i64 a1_1] 57 (0, 0)) (by exact BK5450.out)) : gb5450 ≠ gb5605)); have n15_ := Aside0.mk ((by rw [hg]; exact Nat.ne_of_gt (blk_lt (g := gb5450) (o := .cells #[.int .i64 a1_0, .int .i64 a1_1] 57 (0, 0)) (by exact BK5450.out)) : gb5605 ≠ gb5450)); have n16_ := Aside0.mk ((by rw [hg]; exact Nat.ne_of_lt (blk_lt (g := gb5451) (o := .cells #[.int .i64 a2_0, .int .i64 a2_1] 57 (0, 0)) (by exact BK5451.out)) : gb5451 ≠ gb5605)); have n17_ := Aside0.mk ((by rw [hg]; exact Nat.ne_of_gt (blk_lt (g := gb5451) (o := .cells #[.int .i64 a2_0, .int .i64 a2_1] 57 (0, 0)) (by exact BK5451.out)) : gb5605 ≠ gb5451)); have n18_ := Aside0.mk ((by rw [hg]; exact Nat.ne_of_lt (blk_lt (g := gb5585) (o := .cells #[.int .i64 t5582, .int .i64 t5583] 57 (0, 0)) (by exact BK5585.out)) : gb5585 ≠ gb5605)); have n19_ := Aside0.mk ((by rw [hg]; exact Nat.ne_of_gt (blk_lt (g := gb5585) (o := .cells #[.int .i64 t5582, .int .i64 t5583] 57 (0, 0)) (by exact BK5585.out)) : gb5605 ≠ gb5585)); have n20_ := Aside0.mk ((by rw [hg]; exact Nat.ne_of_lt (blk_lt (g := gb5589) (o := .cells #[.int .i64 t5586, .int .i64 t5587] 57 (0, 0)) (by exact BK5589.out)) : gb5589 ≠ gb5605)); have n21_ := Aside0.mk ((by rw [hg]; exact Nat.ne_of_gt (blk_lt (g := gb5589) (o := .cells #[.int .i64 t5586, .int .i64 t5587] 57 (0, 0)) (by exact BK5589.out)) : gb5605 ≠ gb5589)); have n22_ := Aside0.mk ((by rw [hg]; exact Nat.ne_of_lt (blk_lt (g := gb5593) (o := .cells #[.int .i64 t5590, .int .i64 t5591] 57 (0, 0)) (by exact BK5593.out)) : gb5593 ≠ gb5605)); have n23_ := Aside0.mk ((by rw [hg]; exact Nat.ne_of_gt (blk_lt (g := gb5593) (o := .cells #[.int .i64 t5590, .int .i64 t5591] 57 (0, 0)) (by exact BK5593.out)) : gb5605 ≠ gb5593)); have n24_ := Aside0.mk ((by rw [hg]; exact Nat.ne_of_lt (blk_lt (g := gb5597) (o := .cells #[.int .i64 t5594, .int .i64 t5595] 57 (0, 0)) (by exact BK5597.out)) : gb5597 ≠ gb5605)); have n25_ := Aside0.mk ((by rw [hg]; exact Nat.ne_of_gt (blk_lt (g := gb5597) (o := .cells #[.int .i64 t5594, .int .i64 t5595] 57 (0, 0)) (by exact BK5597.out)) : gb5605 ≠ gb5597)); have n26_ := Aside0.mk ((by rw [hg]; exact Nat.ne_of_lt (blk_lt (g := gb5601) (o := .cells #[.int .i64 t5598, .int .i64 t5599] 57 (0, 0)) (by exact BK5601.out)) : gb5601 ≠ gb5605)); have n27_ := Aside0.mk ((by rw [hg]; exact Nat.ne_of_gt (blk_lt (g := gb5601) (o := .cells #[.int .i64 t5598, .int .i64 t5599] 57 (0, 0)) (by exact BK5601.out)) : gb5605 ≠ gb5601)); clear BK5449 BK5450 BK5451 BK5585 BK5589 BK5593 BK5597 BK5601 HB; have BK5449 := n0_; have BK5450 := n1_; have BK5451 := n2_; have BK5585 := n3_; have BK5589 := n4_; have BK5593 := n5_; have BK5597 := n6_; have BK5601 := n7_; have HB := n8_; have BK5605 := n9_; have GW5605 := n10_; have GE5605 := n11_; have NB5449_5605 := n12_; have NB5605_5449 := n13_; have NB5450_5605 := n14_; have NB5605_5450 := n15_; have NB5451_5605 := n16_; have NB5605_5451 := n17_; have NB5585_5605 := n18_; have NB5605_5585 := n19_; have NB5589_5605 := n20_; have NB5605_5589 := n21_; have NB5593_5605 := n22_; have NB5605_5593 := n23_; have NB5597_5605 := n24_; have NB5605_5597 := n25_; have NB5601_5605 := n26_; have NB5605_5601 := n27_; clear n0_ n1_ n2_ n3_ n4_ n5_ n6_ n7_ n8_ n9_ n10_ n11_ n12_ n13_ n14_ n15_ n16_ n17_ n18_ n19_ n20_ n21_ n22_ n23_ n24_ n25_ n26_ n27_; clear hb hbox hg; have hnb111 := NB5605_5449.out; have hnc111 := NB5449_5605.out; have hnb112 := NB5605_5450.out; have hnc112 := NB5450_5605.out; have hnb113 := NB5605_5451.out; have hnc113 := NB5451_5605.out; have hnb114 := NB5605_5585.out; have hnc114 := NB5585_5605.out; have hnb115 := NB5605_5589.out; have hnc115 := NB5589_5605.out; have hnb116 := NB5605_5593.out; have hnc116 := NB5593_5605.out; have hnb117 := NB5605_5597.out; have hnc117 := NB5597_5605.out; have hnb118 := NB5605_5601.out; have hnc118 := NB5601_5605.out; have hcz119_0 : w110.cell? ⟨gb5605, 0, none⟩ = some (.int .i64 0) := (blk_cell BK5605.out 0).trans rfl; have hcz119_1 : w110.cell? ⟨gb5605, 1, none⟩ = some (.int .i64 0) := (blk_cell BK5605.out 1).trans rfl; have hfz119_0 := blk_frozen BK5605.out 0; have hfz119_1 := blk_frozen BK5605.out 1; have hcz120_0 : w110.cell? ⟨gb5601, 0, none⟩ = some (.int .i64 t5598) := (blk_cell BK5601.out 0).trans rfl; have hcz120_1 : w110.cell? ⟨gb5601, 1, none⟩ = some (.int .i64 t5599) := (blk_cell BK5601.out 1).trans rfl; have hfz120_0 := blk_frozen BK5601.out 0; have hfz120_1 := blk_frozen BK5601.out 1) | ((with_reducible refine gate_callee (f := 46) rfl ?_); refine goesL_ (some 80) rfl rfl Try.func46 (by kernel_rfl) rfl #[.agg #[.int .i64 t5598, .int .i64 t5599], .agg #[.int .i64 t5602, .int .i64 t5603]] rfl (by (try simp only [List.map_toArray, List.map_cons, List.map_nil]); first | done | rfl) ?_; (with_reducible refine (ratio_Add.calls t5598 t5599 t5602 t5603 t5606 t5607 t5608 _ A42.out).mono ?_); rintro e w121 ⟨rfl, hb⟩; refine ⟨_, rfl, ?_⟩; have n0_ := Aside0.mk (blk_below (g := gb5449) (o := .cells #[.int .i64 a0_0, .int .i64 a0_1] 57 (0, 0)) (by refine blk_far ?_ NB5449_5605.out _; refine blk_far ?_ NB5449_5605.out _; exact BK5449.out) hb); have n1_ := Aside0.mk (blk_below (g := gb5450) (o := .cells #[.int .i64 a1_0, .int .i64 a1_1] 57 (0, 0)) (by refine blk_far ?_ NB5450_5605.out _; refine blk_far ?_ NB5450_5605.out _; exact BK5450.out) hb); have n2_ := Aside0.mk (blk_below (g := gb5451) (o := .cells #[.int .i64 a2_0, .int .i64 a2_1] 57 (0, 0)) (by refine blk_far ?_ NB5451_5605.out _; refine blk_far ?_ NB5451_5605.out _; exact BK5451.out) hb); have n3_ := Aside0.mk (blk_below (g := gb5585) (o := .cells #[.int .i64 t5582, .int .i64 t5583] 57 (0, 0)) (by refine blk_far ?_ NB5585_5605.out _; refine blk_far ?_ NB5585_5605.out _; exact BK5585.out) hb); have n4_ := Aside0.mk (blk_below (g := gb5589) (o := .cells #[.int .i64 t5586, .int .i64 t5587] 57 (0, 0)) (by refine blk_far ?_ NB5589_5605.out _; refine blk_far ?_ NB5589_5605.out _; exact BK5589.out) hb); have n5_ := Aside0.mk (blk_below (g := gb5593) (o := .cells #[.int .i64 t5590, .int .i64 t5591] 57 (0, 0)) (by refine blk_far ?_ NB5593_5605.out _; refine blk_far ?_ NB5593_5605.out _; exact BK5593.out) hb); have n6_ := Aside0.mk (blk_below (g := gb5597) (o := .cells #[.int .i64 t5594, .int .i64 t5595] 57 (0, 0)) (by refine blk_far ?_ NB5597_5605.out _; refine blk_far ?_ NB5597_5605.out _; exact BK5597.out) hb); have n7_ := Aside0.mk (blk_below (g := gb5601) (o := .cells #[.int .i64 t5598, .int .i64 t5599] 57 (0, 0)) (by refine blk_far ?_ NB5601_5605.out _; refine blk_far ?_ NB5601_5605.out _; exact BK5601.out) hb); have n8_ := Aside0.mk (blk_below (g := gb5605) (o := .cells #[.int .i64 t5602, .int .i64 t5603] 57 (0, 0)) (by refine blk_put (cs := #[.int .i64 t5602, .int .i64 0]) ?_ 1 _ rfl; refine blk_put (cs := #[.int .i64 0, .int .i64 0]) ?_ 0 _ rfl; exact BK5605.out) hb); have n9_ := Aside0.mk (below_step (by repeat (first | (with_reducible first | exact HB.out | apply below_alloc | apply pw_below_drewN | apply below_drew1 | refine below_set ?_ GE5449.out | refine below_set ?_ GE5450.out | refine below_set ?_ GE5451.out | refine below_set ?_ GE5585.out | refine below_set ?_ GE5589.out | refine below_set ?_ GE5593.out | refine below_set ?_ GE5597.out | refine below_set ?_ GE5601.out | refine below_set ?_ GE5605.out) | exact HB.out)) hb); clear BK5449 BK5450 BK5451 BK5585 BK5589 BK5593 BK5597 BK5601 BK5605 HB; have BK5449 := n0_; have BK5450 := n1_; have BK5451 := n2_; have BK5585 := n3_; have BK5589 := n4_; have BK5593 := n5_; have BK5597 := n6_; have BK5601 := n7_; have BK5605 := n8_; have HB := n9_; clear n0_ n1_ n2_ n3_ n4_ n5_ n6_ n7_ n8_ n9_; (try clear hb)) | ((with_reducible refine gate_dst (N := 20) rfl ?_); refine box_event ?hg (N := 20) ?hd (cs := #[.int .i64 0, .int .i64 0]) (t := 57) ?hr ?_; (case hd => rfl); (case hg => rfl); (case hr => first | (go_simp; done) | (go_simp; rfl)); intro gb5609 hg w122 hbox hb; have n0_ := Aside0.mk (blk_below (g := gb5449) (o := .cells #[.int .i64 a0_0, .int .i64 a0_1] 57 (0, 0)) (by exact BK5449.out) hb); have n1_ := Aside0.mk (blk_below (g := gb5450) (o := .cells #[.int .i64 a1_0, .int .i64 a1_1] 57 (0, 0)) (by exact BK5450.out) hb); have n2_ := Aside0.mk (blk_below (g := gb5451) (o := .cells #[.int .i64 a2_0, .int .i64 a2_1] 57 (0, 0)) (by exact BK5451.out) hb); have n3_ := Aside0.mk (blk_below (g := gb5585) (o := .cells #[.int .i64 t5582, .int .i64 t5583] 57 (0, 0)) (by exact BK5585.out) hb); have n4_ := Aside0.mk (blk_below (g := gb5589) (o := .cells #[.int .i64 t5586, .int .i64 t5587] 57 (0, 0)) (by exact BK5589.out) hb); have n5_ := Aside0.mk (blk_below (g := gb5593) (o := .cells #[.int .i64 t5590, .int .i64 t5591] 57 (0, 0)) (by exact BK5593.out) hb); have n6_ := Aside0.mk (blk_below (g := gb5597) (o := .cells #[.int .i64 t5594, .int .i64 t5595] 57 (0, 0)) (by exact BK5597.out) hb); have n7_ := Aside0.mk (blk_below (g := gb5601) (o := .cells #[.int .i64 t5598, .int .i64 t5599] 57 (0, 0)) (by exact BK5601.out) hb); have n8_ := Aside0.mk (blk_below (g := gb5605) (o := .cells #[.int .i64 t5602, .int .i64 t5603] 57 (0, 0)) (by exact BK5605.out) hb); have n9_ := Aside0.mk (below_step (by repeat (first | (with_reducible first | exact HB.out | apply below_alloc | apply pw_below_drewN | apply below_drew1 | refine below_set ?_ GE5449.out | refine below_set ?_ GE5450.out | refine below_set ?_ GE5451.out | refine below_set ?_ GE5585.out | refine below_set ?_ GE5589.out | refine below_set ?_ GE5593.out | refine below_set ?_ GE5597.out | refine below_set ?_ GE5601.out | refine below_set ?_ GE5605.out) | exact HB.out)) hb); have n10_ := Aside0.mk (hbox); have n11_ := Aside0.mk ((by rw [hg]; exact (below_size (by repeat (first | (with_reducible first | exact HB.out | apply below_alloc | apply pw_below_drewN | apply below_drew1 | refine below_set ?_ GE5449.out | refine below_set ?_ GE5450.out | refine below_set ?_ GE5451.out | refine below_set ?_ GE5585.out | refine below_set ?_ GE5589.out | refine below_set ?_ GE5593.out | refine below_set ?_ GE5597.out | refine below_set ?_ GE5601.out | refine below_set ?_ GE5605.out) | exact HB.out))) : w.heap.size ≤ gb5609)); have n12_ := Aside0.mk ((by rw [hg]; exact (below_size (by repeat (first | (with_reducible first | exact HB.out | apply below_alloc | apply pw_below_drewN | apply below_drew1 | refine below_set ?_ GE5449.out | refine below_set ?_ GE5450.out | refine below_set ?_ GE5451.out | refine below_set ?_ GE5585.out | refine below_set ?_ GE5589.out | refine below_set ?_ GE5593.out | refine below_set ?_ GE5597.out | refine below_set ?_ GE5601.out | refine below_set ?_ GE5605.out) | exact HB.out))) : w.heap.size ≤ gb5609)); have n13_ := Aside0.mk ((by rw [hg]; exact Nat.ne_of_lt (blk_lt (g := gb5449) (o := .cells #[.int .i64 a0_0, .int .i64 a0_1] 57 (0, 0)) (by exact BK5449.out)) : gb5449 ≠ gb5609)); have n14_ := Aside0.mk ((by rw [hg]; exact Nat.ne_of_gt (blk_lt (g := gb5449) (o := .cells #[.int .i64 a0_0, .int .i64 a0_1] 57 (0, 0)) (by exact BK5449.out)) : gb5609 ≠ gb5449)); have n15_ := Aside0.mk ((by rw [hg]; exact Nat.ne_of_lt (blk_lt (g := gb5450) (o := .cells #[.int .i64 a1_0, .int .i64 a1_1] 57 (0, 0)) (by exact BK5450.out)) : gb5450 ≠ gb5609)); have n16_ := Aside0.mk ((by rw [hg]; exact Nat.ne_of_gt (blk_lt (g := gb5450) (o := .cells #[.int .i64 a1_0, .int .i64 a1_1] 57 (0, 0)) (by exact BK5450.out)) : gb5609 ≠ gb5450)); have n17_ := Aside0.mk ((by rw [hg]; exact Nat.ne_of_lt (blk_lt (g := gb5451) (o := .cells #[.int .i64 a2_0, .int .i64 a2_1] 57 (0, 0)) (by exact BK5451.out)) : gb5451 ≠ gb5609)); have n18_ := Aside0.mk ((by rw [hg]; exact Nat.ne_of_gt (blk_lt (g := gb5451) (o := .cells #[.int .i64 a2_0, .int .i64 a2_1] 57 (0, 0)) (by exact BK5451.out)) : gb5609 ≠ gb5451)); have n19_ := Aside0.mk ((by rw [hg]; exact Nat.ne_of_lt (blk_lt (g := gb5585) (o := .cells #[.int .i64 t5582, .int .i64 t5583] 57 (0, 0)) (by exact BK5585.out)) : gb5585 ≠ gb5609)); have n20_ := Aside0.mk ((by rw [hg]; exact Nat.ne_of_gt (blk_lt (g := gb5585) (o := .cells #[.int .i64 t5582, .int .i64 t5583] 57 (0, 0)) (by exact BK5585.out)) : gb5609 ≠ gb5585)); have n21_ := Aside0.mk ((by rw [hg]; exact Nat.ne_of_lt (blk_lt (g := gb5589) (o := .cells #[.int .i64 t5586, .int .i64 t5587] 57 (0, 0)) (by exact BK5589.out)) : gb5589 ≠ gb5609)); have n22_ := Aside0.mk ((by rw [hg]; exact Nat.ne_of_gt (blk_lt (g := gb5589) (o := .cells #[.int .i64 t5586, .int .i64 t5587] 57 (0, 0)) (by exact BK5589.out)) : gb5609 ≠ gb5589)); have n23_ := Aside0.mk ((by rw [hg]; exact Nat.ne_of_lt (blk_lt (g := gb5593) (o := .cells #[.int .i64 t5590, .int .i64 t5591] 57 (0, 0)) (by exact BK5593.out)) : gb5593 ≠ gb5609)); have n24_ := Aside0.mk ((by rw [hg]; exact Nat.ne_of_gt (blk_lt (g := gb5593) (o := .cells #[.int .i64 t5590, .int .i64 t5591] 57 (0, 0)) (by exact BK5593.out)) : gb5609 ≠ gb5593)); have n25_ := Aside0.mk ((by rw [hg]; exact Nat.ne_of_lt (blk_lt (g := gb5597) (o := .cells #[.int .i64 t5594, .int .i64 t5595] 57 (0, 0)) (by exact BK5597.out)) : gb5597 ≠ gb5609)); have n26_ := Aside0.mk ((by rw [hg]; exact Nat.ne_of_gt (blk_lt (g := gb5597) (o := .cells #[.int .i64 t5594, .int .i64 t5595] 57 (0, 0)) (by exact BK5597.out)) : gb5609 ≠ gb5597)); have n27_ := Aside0.mk ((by rw [hg]; exact Nat.ne_of_lt (blk_lt (g := gb5601) (o := .cells #[.int .i64 t5598, .int .i64 t5599] 57 (0, 0)) (by exact BK5601.out)) : gb5601 ≠ gb5609)); have n28_ := Aside0.mk ((by rw [hg]; exact Nat.ne_of_gt (blk_lt (g := gb5601) (o := .cells #[.int .i64 t5598, .int .i64 t5599] 57 (0, 0)) (by exact BK5601.out)) : gb5609 ≠ gb5601)); have n29_ := Aside0.mk ((by rw [hg]; exact Nat.ne_of_lt (blk_lt (g := gb5605) (o := .cells #[.int .i64 t5602, .int .i64 t5603] 57 (0, 0)) (by exact BK5605.out)) : gb5605 ≠ gb5609)); have n30_ := Aside0.mk ((by rw [hg]; exact Nat.ne_of_gt (blk_lt (g := gb5605) (o := .cells #[.int .i64 t5602, .int .i64 t5603] 57 (0, 0)) (by exact BK5605.out)) : gb5609 ≠ gb5605)); clear BK5449 BK5450 BK5451 BK5585 BK5589 BK5593 BK5597 BK5601 BK5605 HB; have BK5449 := n0_; have BK5450 := n1_; have BK5451 := n2_; have BK5585 := n3_; have BK5589 := n4_; have BK5593 := n5_; have BK5597 := n6_; have BK5601 := n7_; have BK5605 := n8_; have HB := n9_; have BK5609 := n10_; have GW5609 := n11_; have GE5609 := n12_; have NB5449_5609 := n13_; have NB5609_5449 := n14_; have NB5450_5609 := n15_; have NB5609_5450 := n16_; have NB5451_5609 := n17_; have NB5609_5451 := n18_; have NB5585_5609 := n19_; have NB5609_5585 := n20_; have NB5589_5609 := n21_; have NB5609_5589 := n22_; have NB5593_5609 := n23_; have NB5609_5593 := n24_; have NB5597_5609 := n25_; have NB5609_5597 := n26_; have NB5601_5609 := n27_; have NB5609_5601 := n28_; have NB5605_5609 := n29_; have NB5609_5605 := n30_; clear n0_ n1_ n2_ n3_ n4_ n5_ n6_ n7_ n8_ n9_ n10_ n11_ n12_ n13_ n14_ n15_ n16_ n17_ n18_ n19_ n20_ n21_ n22_ n23_ n24_ n25_ n26_ n27_ n28_ n29_ n30_; clear hb hbox hg; have hnb123 := NB5609_5449.out; have hnc123 := NB5449_5609.out; have hnb124 := NB5609_5450.out; have hnc124 := NB5450_5609.out; have hnb125 := NB5609_5451.out; have hnc125 := NB5451_5609.out; have hnb126 := NB5609_5585.out; have hnc126 := NB5585_5609.out; have hnb127 := NB5609_5589.out; have hnc127 := NB5589_5609.out; have hnb128 := NB5609_5593.out; have hnc128 := NB5593_5609.out; have hnb129 := NB5609_5597.out; have hnc129 := NB5597_5609.out; have hnb130 := NB5609_5601.out; have hnc130 := NB5601_5609.out; have hnb131 := NB5609_5605.out; have hnc131 := NB5605_5609.out; have hcz132_0 : w122.cell? ⟨gb5609, 0, none⟩ = some (.int .i64 0) := (blk_cell BK5609.out 0).trans rfl; have hcz132_1 : w122.cell? ⟨gb5609, 1, none⟩ = some (.int .i64 0) := (blk_cell BK5609.out 1).trans rfl; have hfz132_0 := blk_frozen BK5609.out 0; have hfz132_1 := blk_frozen BK5609.out 1; have hcz133_0 : w122.cell? ⟨gb5585, 0, none⟩ = some (.int .i64 t5582) := (blk_cell BK5585.out 0).trans rfl; have hcz133_1 : w122.cell? ⟨gb5585, 1, none⟩ = some (.int .i64 t5583) := (blk_cell BK5585.out 1).trans rfl; have hfz133_0 := blk_frozen BK5585.out 0; have hfz133_1 := blk_frozen BK5585.out 1; have hcz134_0 : w122.cell? ⟨gb5451, 0, none⟩ = some (.int .i64 a2_0) := (blk_cell BK5451.out 0).trans rfl; have hcz134_1 : w122.cell? ⟨gb5451, 1, none⟩ = some (.int .i64 a2_1) := (blk_cell BK5451.out 1).trans rfl; have hfz134_0 := blk_frozen BK5451.out 0; have hfz134_1 := blk_frozen BK5451.out 1) | ((with_reducible refine gate_callee (f := 48) rfl ?_); refine goesL_ (some 86) rfl rfl Try.func48 (by kernel_rfl) rfl #[.agg #[.int .i64 t5582, .int .i64 t5583], .agg #[.int .i64 a2_0, .int .i64 a2_1]] rfl (by (try simp only [List.map_toArray, List.map_cons, List.map_nil]); first | done | rfl) ?_; (with_reducible refine (ratio_Mul.calls t5582 t5583 a2_0 a2_1 t5610 t5611 t5612 _ A43.out).mono ?_); rintro e w135 ⟨rfl, hb⟩; refine ⟨_, rfl, ?_⟩; have n0_ := Aside0.mk (blk_below (g := gb5449) (o := .cells #[.int .i64 a0_0, .int .i64 a0_1] 57 (0, 0)) (by refine blk_far ?_ NB5449_5609.out _; refine blk_far ?_ NB5449_5609.out _; exact BK5449.out) hb); have n1_ := Aside0.mk (blk_below (g := gb5450) (o := .cells #[.int .i64 a1_0, .int .i64 a1_1] 57 (0, 0)) (by refine blk_far ?_ NB5450_5609.out _; refine blk_far ?_ NB5450_5609.out _; exact BK5450.out) hb); have n2_ := Aside0.mk (blk_below (g := gb5451) (o := .cells #[.int .i64 a2_0, .int .i64 a2_1] 57 (0, 0)) (by refine blk_far ?_ NB5451_5609.out _; refine blk_far ?_ NB5451_5609.out _; exact BK5451.out) hb); have n3_ := Aside0.mk (blk_below (g := gb5585) (o := .cells #[.int .i64 t5582, .int .i64 t5583] 57 (0, 0)) (by refine blk_far ?_ NB5585_5609.out _; refine blk_far ?_ NB5585_5609.out _; exact BK5585.out) hb); have n4_ := Aside0.mk (blk_below (g := gb5589) (o := .cells #[.int .i64 t5586, .int .i64 t5587] 57 (0, 0)) (by refine blk_far ?_ NB5589_5609.out _; refine blk_far ?_ NB5589_5609.out _; exact BK5589.out) hb); have n5_ := Aside0.mk (blk_below (g := gb5593) (o := .cells #[.int .i64 t5590, .int .i64 t5591] 57 (0, 0)) (by refine blk_far ?_ NB5593_5609.out _; refine blk_far ?_ NB5593_5609.out _; exact BK5593.out) hb); have n6_ := Aside0.mk (blk_below (g := gb5597) (o := .cells #[.int .i64 t5594, .int .i64 t5595] 57 (0, 0)) (by refine blk_far ?_ NB5597_5609.out _; refine blk_far ?_ NB5597_5609.out _; exact BK5597.out) hb); have n7_ := Aside0.mk (blk_below (g := gb5601) (o := .cells #[.int .i64 t5598, .int .i64 t5599] 57 (0, 0)) (by refine blk_far ?_ NB5601_5609.out _; refine blk_far ?_ NB5601_5609.out _; exact BK5601.out) hb); have n8_ := Aside0.mk (blk_below (g := gb5605) (o := .cells #[.int .i64 t5602, .int .i64 t5603] 57 (0, 0)) (by refine blk_far ?_ NB5605_5609.out _; refine blk_far ?_ NB5605_5609.out _; exact BK5605.out) hb); have n9_ := Aside0.mk (blk_below (g := gb5609) (o := .cells #[.int .i64 t5606, .int .i64 t5607] 57 (0, 0)) (by refine blk_put (cs := #[.int .i64 t5606, .int .i64 0]) ?_ 1 _ rfl; refine blk_put (cs := #[.int .i64 0, .int .i64 0]) ?_ 0 _ rfl; exact BK5609.out) hb); have n10_ := Aside0.mk (below_step (by repeat (first | (with_reducible first | exact HB.out | apply below_alloc | apply pw_below_drewN | apply below_drew1 | refine below_set ?_ GE5449.out | refine below_set ?_ GE5450.out | refine below_set ?_ GE5451.out | refine below_set ?_ GE5585.out | refine below_set ?_ GE5589.out | refine below_set ?_ GE5593.out | refine below_set ?_ GE5597.out | refine below_set ?_ GE5601.out | refine below_set ?_ GE5605.out | refine below_set ?_ GE5609.out) | exact HB.out)) hb); clear BK5449 BK5450 BK5451 BK5585 BK5589 BK5593 BK5597 BK5601 BK5605 BK5609 HB; have BK5449 := n0_; have BK5450 := n1_; have BK5451 := n2_; have BK5585 := n3_; have BK5589 := n4_; have BK5593 := n5_; have BK5597 := n6_; have BK5601 := n7_; have BK5605 := n8_; have BK5609 := n9_; have HB := n10_; clear n0_ n1_ n2_ n3_ n4_ n5_ n6_ n7_ n8_ n9_ n10_; (try clear hb)) | ((with_reducible refine gate_dst (N := 22) rfl ?_); refine box_event ?hg (N := 22) ?hd (cs := #[.int .i64 0, .int .i64 0]) (t := 57) ?hr ?_; (case hd => rfl); (case hg => rfl); (case hr => first | (go_simp; done) | (go_simp; rfl)); intro gb5613 hg w136 hbox hb; have n0_ := Aside0.mk (blk_below (g := gb5449) (o := .cells #[.int .i64 a0_0, .int .i64 a0_1] 57 (0, 0)) (by exact BK5449.out) hb); have n1_ := Aside0.mk (blk_below (g := gb5450) (o := .cells #[.int .i64 a1_0, .int .i64 a1_1] 57 (0, 0)) (by exact BK5450.out) hb); have n2_ := Aside0.mk (blk_below (g := gb5451) (o := .cells #[.int .i64 a2_0, .int .i64 a2_1] 57 (0, 0)) (by exact BK5451.out) hb); have n3_ := Aside0.mk (blk_below (g := gb5585) (o := .cells #[.int .i64 t5582, .int .i64 t5583] 57 (0, 0)) (by exact BK5585.out) hb); have n4_ := Aside0.mk (blk_below (g := gb5589) (o := .cells #[.int .i64 t5586, .int .i64 t5587] 57 (0, 0)) (by exact BK5589.out) hb); have n5_ := Aside0.mk (blk_below (g := gb5593) (o := .cells #[.int .i64 t5590, .int .i64 t5591] 57 (0, 0)) (by exact BK5593.out) hb); have n6_ := Aside0.mk (blk_below (g := gb5597) (o := .cells #[.int .i64 t5594, .int .i64 t5595] 57 (0, 0)) (by exact BK5597.out) hb); have n7_ := Aside0.mk (blk_below (g := gb5601) (o := .cells #[.int .i64 t5598, .int .i64 t5599] 57 (0, 0)) (by exact BK5601.out) hb); have n8_ := Aside0.mk (blk_below (g := gb5605) (o := .cells #[.int .i64 t5602, .int .i64 t5603] 57 (0, 0)) (by exact BK5605.out) hb); have n9_ := Aside0.mk (blk_below (g := gb5609) (o := .cells #[.int .i64 t5606, .int .i64 t5607] 57 (0, 0)) (by exact BK5609.out) hb); have n10_ := Aside0.mk (below_step (by repeat (first | (with_reducible first | exact HB.out | apply below_alloc | apply pw_below_drewN | apply below_drew1 | refine below_set ?_ GE5449.out | refine below_set ?_ GE5450.out | refine below_set ?_ GE5451.out | refine below_set ?_ GE5585.out | refine below_set ?_ GE5589.out | refine below_set ?_ GE5593.out | refine below_set ?_ GE5597.out | refine below_set ?_ GE5601.out | refine below_set ?_ GE5605.out | refine below_set ?_ GE5609.out) | exact HB.out)) hb); have n11_ := Aside0.mk (hbox); have n12_ := Aside0.mk ((by rw [hg]; exact (below_size (by repeat (first | (with_reducible first | exact HB.out | apply below_alloc | apply pw_below_drewN | apply below_drew1 | refine below_set ?_ GE5449.out | refine below_set ?_ GE5450.out | refine below_set ?_ GE5451.out | refine below_set ?_ GE5585.out | refine below_set ?_ GE5589.out | refine below_set ?_ GE5593.out | refine below_set ?_ GE5597.out | refine below_set ?_ GE5601.out | refine below_set ?_ GE5605.out | refine below_set ?_ GE5609.out) | exact HB.out))) : w.heap.size ≤ gb5613)); have n13_ := Aside0.mk ((by rw [hg]; exact (below_size (by repeat (first | (with_reducible first | exact HB.out | apply below_alloc | apply pw_below_drewN | apply below_drew1 | refine below_set ?_ GE5449.out | refine below_set ?_ GE5450.out | refine below_set ?_ GE5451.out | refine below_set ?_ GE5585.out | refine below_set ?_ GE5589.out | refine below_set ?_ GE5593.out | refine below_set ?_ GE5597.out | refine below_set ?_ GE5601.out | refine below_set ?_ GE5605.out | refine below_set ?_ GE5609.out) | exact HB.out))) : w.heap.size ≤ gb5613)); have n14_ := Aside0.mk ((by rw [hg]; exact Nat.ne_of_lt (blk_lt (g := gb5449) (o := .cells #[.int .i64 a0_0, .int .i64 a0_1] 57 (0, 0)) (by exact BK5449.out)) : gb5449 ≠ gb5613)); have n15_ := Aside0.mk ((by rw [hg]; exact Nat.ne_of_gt (blk_lt (g := gb5449) (o := .cells #[.int .i64 a0_0, .int .i64 a0_1] 57 (0, 0)) (by exact BK5449.out)) : gb5613 ≠ gb5449)); have n16_ := Aside0.mk ((by rw [hg]; exact Nat.ne_of_lt (blk_lt (g := gb5450) (o := .cells #[.int .i64 a1_0, .int .i64 a1_1] 57 (0, 0)) (by exact BK5450.out)) : gb5450 ≠ gb5613)); have n17_ := Aside0.mk ((by rw [hg]; exact Nat.ne_of_gt (blk_lt (g := gb5450) (o := .cells #[.int .i64 a1_0, .int .i64 a1_1] 57 (0, 0)) (by exact BK5450.out)) : gb5613 ≠ gb5450)); have n18_ := Aside0.mk ((by rw [hg]; exact Nat.ne_of_lt (blk_lt (g := gb5451) (o := .cells #[.int .i64 a2_0, .int .i64 a2_1] 57 (0, 0)) (by exact BK5451.out)) : gb5451 ≠ gb5613)); have n19_ := Aside0.mk ((by rw [hg]; exact Nat.ne_of_gt (blk_lt (g := gb5451) (o := .cells #[.int .i64 a2_0, .int .i64 a2_1] 57 (0, 0)) (by exact BK5451.out)) : gb5613 ≠ gb5451)); have n20_ := Aside0.mk ((by rw [hg]; exact Nat.ne_of_lt (blk_lt (g := gb5585) (o := .cells #[.int .i64 t5582, .int .i64 t5583] 57 (0, 0)) (by exact BK5585.out)) : gb5585 ≠ gb5613)); have n21_ := Aside0.mk ((by rw [hg]; exact Nat.ne_of_gt (blk_lt (g := gb5585) (o := .cells #[.int .i64 t5582, .int .i64 t5583] 57 (0, 0)) (by exact BK5585.out)) : gb5613 ≠ gb5585)); have n22_ := Aside0.mk ((by rw [hg]; exact Nat.ne_of_lt (blk_lt (g := gb5589) (o := .cells #[.int .i64 t5586, .int .i64 t5587] 57 (0, 0)) (by exact BK5589.out)) : gb5589 ≠ gb5613)); have n23_ := Aside0.mk ((by rw [hg]; exact Nat.ne_of_gt (blk_lt (g := gb5589) (o := .cells #[.int .i64 t5586, .int .i64 t5587] 57 (0, 0)) (by exact BK5589.out)) : gb5613 ≠ gb5589)); have n24_ := Aside0.mk ((by rw [hg]; exact Nat.ne_of_lt (blk_lt (g := gb5593) (o := .cells #[.int .i64 t5590, .int .i64 t5591] 57 (0, 0)) (by exact BK5593.out)) : gb5593 ≠ gb5613)); have n25_ := Aside0.mk ((by rw [hg]; exact Nat.ne_of_gt (blk_lt (g := gb5593) (o := .cells #[.int .i64 t5590, .int .i64 t5591] 57 (0, 0)) (by exact BK5593.out)) : gb5613 ≠ gb5593)); have n26_ := Aside0.mk ((by rw [hg]; exact Nat.ne_of_lt (blk_lt (g := gb5597) (o := .cells #[.int .i64 t5594, .int .i64 t5595] 57 (0, 0)) (by exact BK5597.out)) : gb5597 ≠ gb5613)); have n27_ := Aside0.mk ((by rw [hg]; exact Nat.ne_of_gt (blk_lt (g := gb5597) (o := .cells #[.int .i64 t5594, .int .i64 t5595] 57 (0, 0)) (by exact BK5597.out)) : gb5613 ≠ gb5597)); have n28_ := Aside0.mk ((by rw [hg]; exact Nat.ne_of_lt (blk_lt (g := gb5601) (o := .cells #[.int .i64 t5598, .int .i64 t5599] 57 (0, 0)) (by exact BK5601.out)) : gb5601 ≠ gb5613)); have n29_ := Aside0.mk ((by rw [hg]; exact Nat.ne_of_gt (blk_lt (g := gb5601) (o := .cells #[.int .i64 t5598, .int .i64 t5599] 57 (0, 0)) (by exact BK5601.out)) : gb5613 ≠ gb5601)); have n30_ := Aside0.mk ((by rw [hg]; exact Nat.ne_of_lt (blk_lt (g := gb5605) (o := .cells #[.int .i64 t5602, .int .i64 t5603] 57 (0, 0)) (by exact BK5605.out)) : gb5605 ≠ gb5613)); have n31_ := Aside0.mk ((by rw [hg]; exact Nat.ne_of_gt (blk_lt (g := gb5605) (o := .cells #[.int .i64 t5602, .int .i64 t5603] 57 (0, 0)) (by exact BK5605.out)) : gb5613 ≠ gb5605)); have n32_ := Aside0.mk ((by rw [hg]; exact Nat.ne_of_lt (blk_lt (g := gb5609) (o := .cells #[.int .i64 t5606, .int .i64 t5607] 57 (0, 0)) (by exact BK5609.out)) : gb5609 ≠ gb5613)); have n33_ := Aside0.mk ((by rw [hg]; exact Nat.ne_of_gt (blk_lt (g := gb5609) (o := .cells #[.int .i64 t5606, .int .i64 t5607] 57 (0, 0)) (by exact BK5609.out)) : gb5613 ≠ gb5609)); clear BK5449 BK5450 BK5451 BK5585 BK5589 BK5593 BK5597 BK5601 BK5605 BK5609 HB; have BK5449 := n0_; have BK5450 := n1_; have BK5451 := n2_; have BK5585 := n3_; have BK5589 := n4_; have BK5593 := n5_; have BK5597 := n6_; have BK5601 := n7_; have BK5605 := n8_; have BK5609 := n9_; have HB := n10_; have BK5613 := n11_; have GW5613 := n12_; have GE5613 := n13_; have NB5449_5613 := n14_; have NB5613_5449 := n15_; have NB5450_5613 := n16_; have NB5613_5450 := n17_; have NB5451_5613 := n18_; have NB5613_5451 := n19_; have NB5585_5613 := n20_; have NB5613_5585 := n21_; have NB5589_5613 := n22_; have NB5613_5589 := n23_; have NB5593_5613 := n24_; have NB5613_5593 := n25_; have NB5597_5613 := n26_; have NB5613_5597 := n27_; have NB5601_5613 := n28_; have NB5613_5601 := n29_; have NB5605_5613 := n30_; have NB5613_5605 := n31_; have NB5609_5613 := n32_; have NB5613_5609 := n33_; clear n0_ n1_ n2_ n3_ n4_ n5_ n6_ n7_ n8_ n9_ n10_ n11_ n12_ n13_ n14_ n15_ n16_ n17_ n18_ n19_ n20_ n21_ n22_ n23_ n24_ n25_ n26_ n27_ n28_ n29_ n30_ n31_ n32_ n33_; clear hb hbox hg; have hnb137 := NB5613_5449.out; have hnc137 := NB5449_5613.out; have hnb138 := NB5613_5450.out; have hnc138 := NB5450_5613.out; have hnb139 := NB5613_5451.out; have hnc139 := NB5451_5613.out; have hnb140 := NB5613_5585.out; have hnc140 := NB5585_5613.out; have hnb141 := NB5613_5589.out; have hnc141 := NB5589_5613.out; have hnb142 := NB5613_5593.out; have hnc142 := NB5593_5613.out; have hnb143 := NB5613_5597.out; have hnc143 := NB5597_5613.out; have hnb144 := NB5613_5601.out; have hnc144 := NB5601_5613.out; have hnb145 := NB5613_5605.out; have hnc145 := NB5605_5613.out; have hnb146 := NB5613_5609.out; have hnc146 := NB5609_5613.out; have hcz147_0 : w136.cell? ⟨gb5613, 0, none⟩ = some (.int .i64 0) := (blk_cell BK5613.out 0).trans rfl; have hcz147_1 : w136.cell? ⟨gb5613, 1, none⟩ = some (.int .i64 0) := (blk_cell BK5613.out 1).trans rfl; have hfz147_0 := blk_frozen BK5613.out 0; have hfz147_1 := blk_frozen BK5613.out 1; have hcz148_0 : w136.cell? ⟨gb5449, 0, none⟩ = some (.int .i64 a0_0) := (blk_cell BK5449.out 0).trans rfl; have hcz148_1 : w136.cell? ⟨gb5449, 1, none⟩ = some (.int .i64 a0_1) := (blk_cell BK5449.out 1).trans rfl; have hfz148_0 := blk_frozen BK5449.out 0; have hfz148_1 := blk_frozen BK5449.out 1; have hcz149_0 : w136.cell? ⟨gb5451, 0, none⟩ = some (.int .i64 a2_0) := (blk_cell BK5451.out 0).trans rfl; have hcz149_1 : w136.cell? ⟨gb5451, 1, none⟩ = some (.int .i64 a2_1) := (blk_cell BK5451.out 1).trans rfl; have hfz149_0 := blk_frozen BK5451.out 0; have hfz149_1 := blk_frozen BK5451.out 1) | ((with_reducible refine gate_callee (f := 46) rfl ?_); refine goesL_ (some 92) rfl rfl Try.func46 (by kernel_rfl) rfl #[.agg #[.int .i64 a0_0, .int .i64 a0_1], .agg #[.int .i64 a2_0, .int .i64 a2_1]] rfl (by (try simp only [List.map_toArray, List.map_cons, List.map_nil]); first | done | rfl) ?_; (with_reducible refine (ratio_Add.calls a0_0 a0_1 a2_0 a2_1 t5614 t5615 t5616 _ A44.out).mono ?_); rintro e w150 ⟨rfl, hb⟩; refine ⟨_, rfl, ?_⟩; have n0_ := Aside0.mk (blk_below (g := gb5449) (o := .cells #[.int .i64 a0_0, .int .i64 a0_1] 57 (0, 0)) (by refine blk_far ?_ NB5449_5613.out _; refine blk_far ?_ NB5449_5613.out _; exact BK5449.out) hb); have n1_ := Aside0.mk (blk_below (g := gb5450) (o := .cells #[.int .i64 a1_0, .int .i64 a1_1] 57 (0, 0)) (by refine blk_far ?_ NB5450_5613.out _; refine blk_far ?_ NB5450_5613.out _; exact BK5450.out) hb); have n2_ := Aside0.mk (blk_below (g := gb5451) (o := .cells #[.int .i64 a2_0, .int .i64 a2_1] 57 (0, 0)) (by refine blk_far ?_ NB5451_5613.out _; refine blk_far ?_ NB5451_5613.out _; exact BK5451.out) hb); have n3_ := Aside0.mk (blk_below (g := gb5585) (o := .cells #[.int .i64 t5582, .int .i64 t5583] 57 (0, 0)) (by refine blk_far ?_ NB5585_5613.out _; refine blk_far ?_ NB5585_5613.out _; exact BK5585.out) hb); have n4_ := Aside0.mk (blk_below (g := gb5589) (o := .cells #[.int .i64 t5586, .int .i64 t5587] 57 (0, 0)) (by refine blk_far ?_ NB5589_5613.out _; refine blk_far ?_ NB5589_5613.out _; exact BK5589.out) hb); have n5_ := Aside0.mk (blk_below (g := gb5593) (o := .cells #[.int .i64 t5590, .int .i64 t5591] 57 (0, 0)) (by refine blk_far ?_ NB5593_5613.out _; refine blk_far ?_ NB5593_5613.out _; exact BK5593.out) hb); have n6_ := Aside0.mk (blk_below (g := gb5597) (o := .cells #[.int .i64 t5594, .int .i64 t5595] 57 (0, 0)) (by refine blk_far ?_ NB5597_5613.out _; refine blk_far ?_ NB5597_5613.out _; exact BK5597.out) hb); have n7_ := Aside0.mk (blk_below (g := gb5601) (o := .cells #[.int .i64 t5598, .int .i64 t5599] 57 (0, 0)) (by refine blk_far ?_ NB5601_5613.out _; refine blk_far ?_ NB5601_5613.out _; exact BK5601.out) hb); have n8_ := Aside0.mk (blk_below (g := gb5605) (o := .cells #[.int .i64 t5602, .int .i64 t5603] 57 (0, 0)) (by refine blk_far ?_ NB5605_5613.out _; refine blk_far ?_ NB5605_5613.out _; exact BK5605.out) hb); have n9_ := Aside0.mk (blk_below (g := gb5609) (o := .cells #[.int .i64 t5606, .int .i64 t5607] 57 (0, 0)) (by refine blk_far ?_ NB5609_5613.out _; refine blk_far ?_ NB5609_5613.out _; exact BK5609.out) hb); have n10_ := Aside0.mk (blk_below (g := gb5613) (o := .cells #[.int .i64 t5610, .int .i64 t5611] 57 (0, 0)) (by refine blk_put (cs := #[.int .i64 t5610, .int .i64 0]) ?_ 1 _ rfl; refine blk_put (cs := #[.int .i64 0, .int .i64 0]) ?_ 0 _ rfl; exact BK5613.out) hb); have n11_ := Aside0.mk (below_step (by repeat (first | (with_reducible first | exact HB.out | apply below_alloc | apply pw_below_drewN | apply below_drew1 | refine below_set ?_ GE5449.out | refine below_set ?_ GE5450.out | refine below_set ?_ GE5451.out | refine below_set ?_ GE5585.out | refine below_set ?_ GE5589.out | refine below_set ?_ GE5593.out | refine below_set ?_ GE5597.out | refine below_set ?_ GE5601.out | refine below_set ?_ GE5605.out | refine below_set ?_ GE5609.out | refine below_set ?_ GE5613.out) | exact HB.out)) hb); clear BK5449 BK5450 BK5451 BK5585 BK5589 BK5593 BK5597 BK5601 BK5605 BK5609 BK5613 HB; have BK5449 := n0_; have BK5450 := n1_; have BK5451 := n2_; have BK5585 := n3_; have BK5589 := n4_; have BK5593 := n5_; have BK5597 := n6_; have BK5601 := n7_; have BK5605 := n8_; have BK5609 := n9_; have BK5613 := n10_; have HB := n11_; clear n0_ n1_ n2_ n3_ n4_ n5_ n6_ n7_ n8_ n9_ n10_ n11_; (try clear hb)) | ((with_reducible refine gate_dst (N := 24) rfl ?_); refine box_event ?hg (N := 24) ?hd (cs := #[.int .i64 0, .int .i64 0]) (t := 57) ?hr ?_; (case hd => rfl); (case hg => rfl); (case hr => first | (go_simp; done) | (go_simp; rfl)); intro gb5617 hg w151 hbox hb; have n0_ := Aside0.mk (blk_below (g := gb5449) (o := .cells #[.int .i64 a0_0, .int .i64 a0_1] 57 (0, 0)) (by exact BK5449.out) hb); have n1_ := Aside0.mk (blk_below (g := gb5450) (o := .cells #[.int .i64 a1_0, .int .i64 a1_1] 57 (0, 0)) (by exact BK5450.out) hb); have n2_ := Aside0.mk (blk_below (g := gb5451) (o := .cells #[.int .i64 a2_0, .int .i64 a2_1] 57 (0, 0)) (by exact BK5451.out) hb); have n3_ := Aside0.mk (blk_below (g := gb5585) (o := .cells #[.int .i64 t5582, .int .i64 t5583] 57 (0, 0)) (by exact BK5585.out) hb); have n4_ := Aside0.mk (blk_below (g := gb5589) (o := .cells #[.int .i64 t5586, .int .i64 t5587] 57 (0, 0)) (by exact BK5589.out) hb); have n5_ := Aside0.mk (blk_below (g := gb5593) (o := .cells #[.int .i64 t5590, .int .i64 t5591] 57 (0, 0)) (by exact BK5593.out) hb); have n6_ := Aside0.mk (blk_below (g := gb5597) (o := .cells #[.int .i64 t5594, .int .i64 t5595] 57 (0, 0)) (by exact BK5597.out) hb); have n7_ := Aside0.mk (blk_below (g := gb5601) (o := .cells #[.int .i64 t5598, .int .i64 t5599] 57 (0, 0)) (by exact BK5601.out) hb); have n8_ := Aside0.mk (blk_below (g := gb5605) (o := .cells #[.int .i64 t5602, .int .i64 t5603] 57 (0, 0)) (by exact BK5605.out) hb); have n9_ := Aside0.mk (blk_below (g := gb5609) (o := .cells #[.int .i64 t5606, .int .i64 t5607] 57 (0, 0)) (by exact BK5609.out) hb); have n10_ := Aside0.mk (blk_below (g := gb5613) (o := .cells #[.int .i64 t5610, .int .i64 t5611] 57 (0, 0)) (by exact BK5613.out) hb); have n11_ := Aside0.mk (below_step (by repeat (first | (with_reducible first | exact HB.out | apply below_alloc | apply pw_below_drewN | apply below_drew1 | refine below_set ?_ GE5449.out | refine below_set ?_ GE5450.out | refine below_set ?_ GE5451.out | refine below_set ?_ GE5585.out | refine below_set ?_ GE5589.out | refine below_set ?_ GE5593.out | refine below_set ?_ GE5597.out | refine below_set ?_ GE5601.out | refine below_set ?_ GE5605.out | refine below_set ?_ GE5609.out | refine below_set ?_ GE5613.out) | exact HB.out)) hb); have n12_ := Aside0.mk (hbox); have n13_ := Aside0.mk ((by rw [hg]; exact (below_size (by repeat (first | (with_reducible first | exact HB.out | apply below_alloc | apply pw_below_drewN | apply below_drew1 | refine below_set ?_ GE5449.out | refine below_set ?_ GE5450.out | refine below_set ?_ GE5451.out | refine below_set ?_ GE5585.out | refine below_set ?_ GE5589.out | refine below_set ?_ GE5593.out | refine below_set ?_ GE5597.out | refine below_set ?_ GE5601.out | refine below_set ?_ GE5605.out | refine below_set ?_ GE5609.out | refine below_set ?_ GE5613.out) | exact HB.out))) : w.heap.size ≤ gb5617)); have n14_ := Aside0.mk ((by rw [hg]; exact (below_size (by repeat (first | (with_reducible first | exact HB.out | apply below_alloc | apply pw_below_drewN | apply below_drew1 | refine below_set ?_ GE5449.out | refine below_set ?_ GE5450.out | refine below_set ?_ GE5451.out | refine below_set ?_ GE5585.out | refine below_set ?_ GE5589.out | refine below_set ?_ GE5593.out | refine below_set ?_ GE5597.out | refine below_set ?_ GE5601.out | refine below_set ?_ GE5605.out | refine below_set ?_ GE5609.out | refine below_set ?_ GE5613.out) | exact HB.out))) : w.heap.size ≤ gb5617)); have n15_ := Aside0.mk ((by rw [hg]; exact Nat.ne_of_lt (blk_lt (g := gb5449) (o := .cells #[.int .i64 a0_0, .int .i64 a0_1] 57 (0, 0)) (by exact BK5449.out)) : gb5449 ≠ gb5617)); have n16_ := Aside0.mk ((by rw [hg]; exact Nat.ne_of_gt (blk_lt (g := gb5449) (o := .cells #[.int .i64 a0_0, .int .i64 a0_1] 57 (0, 0)) (by exact BK5449.out)) : gb5617 ≠ gb5449)); have n17_ := Aside0.mk ((by rw [hg]; exact Nat.ne_of_lt (blk_lt (g := gb5450) (o := .cells #[.int .i64 a1_0, .int .i64 a1_1] 57 (0, 0)) (by exact BK5450.out)) : gb5450 ≠ gb5617)); have n18_ := Aside0.mk ((by rw [hg]; exact Nat.ne_of_gt (blk_lt (g := gb5450) (o := .cells #[.int .i64 a1_0, .int .i64 a1_1] 57 (0, 0)) (by exact BK5450.out)) : gb5617 ≠ gb5450)); have n19_ := Aside0.mk ((by rw [hg]; exact Nat.ne_of_lt (blk_lt (g := gb5451) (o := .cells #[.int .i64 a2_0, .int .i64 a2_1] 57 (0, 0)) (by exact BK5451.out)) : gb5451 ≠ gb5617)); have n20_ := Aside0.mk ((by rw [hg]; exact Nat.ne_of_gt (blk_lt (g := gb5451) (o := .cells #[.int .i64 a2_0, .int .i64 a2_1] 57 (0, 0)) (by exact BK5451.out)) : gb5617 ≠ gb5451)); have n21_ := Aside0.mk ((by rw [hg]; exact Nat.ne_of_lt (blk_lt (g := gb5585) (o := .cells #[.int .i64 t5582, .int .i64 t5583] 57 (0, 0)) (by exact BK5585.out)) : gb5585 ≠ gb5617)); have n22_ := Aside0.mk ((by rw [hg]; exact Nat.ne_of_gt (blk_lt (g := gb5585) (o := .cells #[.int .i64 t5582, .int .i64 t5583] 57 (0, 0)) (by exact BK5585.out)) : gb5617 ≠ gb5585)); have n23_ := Aside0.mk ((by rw [hg]; exact Nat.ne_of_lt (blk_lt (g := gb5589) (o := .cells #[.int .i64 t5586, .int .i64 t5587] 57 (0, 0)) (by exact BK5589.out)) : gb5589 ≠ gb5617)); have n24_ := Aside0.mk ((by rw [hg]; exact Nat.ne_of_gt (blk_lt (g := gb5589) (o := .cells #[.int .i64 t5586, .int .i64 t5587] 57 (0, 0)) (by exact BK5589.out)) : gb5617 ≠ gb5589)); have n25_ := Aside0.mk ((by rw [hg]; exact Nat.ne_of_lt (blk_lt (g := gb5593) (o := .cells #[.int .i64 t5590, .int .i64 t5591] 57 (0, 0)) (by exact BK5593.out)) : gb5593 ≠ gb5617)); have n26_ := Aside0.mk ((by rw [hg]; exact Nat.ne_of_gt (blk_lt (g := gb5593) (o := .cells #[.int .i64 t5590, .int .i64 t5591] 57 (0, 0)) (by exact BK5593.out)) : gb5617 ≠ gb5593)); have n27_ := Aside0.mk ((by rw [hg]; exact Nat.ne_of_lt (blk_lt (g := gb5597) (o := .cells #[.int .i64 t5594, .int .i64 t5595] 57 (0, 0)) (by exact BK5597.out)) : gb5597 ≠ gb5617)); have n28_ := Aside0.mk ((by rw [hg]; exact Nat.ne_of_gt (blk_lt (g := gb5597) (o := .cells #[.int .i64 t5594, .int .i64 t5595] 57 (0, 0)) (by exact BK5597.out)) : gb5617 ≠ gb5597)); have n29_ := Aside0.mk ((by rw [hg]; exact Nat.ne_of_lt (blk_lt (g := gb5601) (o := .cells #[.int .i64 t5598, .int .i64 t5599] 57 (0, 0)) (by exact BK5601.out)) : gb5601 ≠ gb5617)); have n30_ := Aside0.mk ((by rw [hg]; exact Nat.ne_of_gt (blk_lt (g := gb5601) (o := .cells #[.int .i64 t5598, .int .i64 t5599] 57 (0, 0)) (by exact BK5601.out)) : gb5617 ≠ gb5601)); have n31_ := Aside0.mk ((by rw [hg]; exact Nat.ne_of_lt (blk_lt (g := gb5605) (o := .cells #[.int .i64 t5602, .int .i64 t5603] 57 (0, 0)) (by exact BK5605.out)) : gb5605 ≠ gb5617)); have n32_ := Aside0.mk ((by rw [hg]; exact Nat.ne_of_gt (blk_lt (g := gb5605) (o := .cells #[.int .i64 t5602, .int .i64 t5603] 57 (0, 0)) (by exact BK5605.out)) : gb5617 ≠ gb5605)); have n33_ := Aside0.mk ((by rw [hg]; exact Nat.ne_of_lt (blk_lt (g := gb5609) (o := .cells #[.int .i64 t5606, .int .i64 t5607] 57 (0, 0)) (by exact BK5609.out)) : gb5609 ≠ gb5617)); have n34_ := Aside0.mk ((by rw [hg]; exact Nat.ne_of_gt (blk_lt (g := gb5609) (o := .cells #[.int .i64 t5606, .int .i64 t5607] 57 (0, 0)) (by exact BK5609.out)) : gb5617 ≠ gb5609)); have n35_ := Aside0.mk ((by rw [hg]; exact Nat.ne_of_lt (blk_lt (g := gb5613) (o := .cells #[.int .i64 t5610, .int .i64 t5611] 57 (0, 0)) (by exact BK5613.out)) : gb5613 ≠ gb5617)); have n36_ := Aside0.mk ((by rw [hg]; exact Nat.ne_of_gt (blk_lt (g := gb5613) (o := .cells #[.int .i64 t5610, .int .i64 t5611] 57 (0, 0)) (by exact BK5613.out)) : gb5617 ≠ gb5613)); clear BK5449 BK5450 BK5451 BK5585 BK5589 BK5593 BK5597 BK5601 BK5605 BK5609 BK5613 HB; have BK5449 := n0_; have BK5450 := n1_; have BK5451 := n2_; have BK5585 := n3_; have BK5589 := n4_; have BK5593 := n5_; have BK5597 := n6_; have BK5601 := n7_; have BK5605 := n8_; have BK5609 := n9_; have BK5613 := n10_; have HB := n11_; have BK5617 := n12_; have GW5617 := n13_; have GE5617 := n14_; have NB5449_5617 := n15_; have NB5617_5449 := n16_; have NB5450_5617 := n17_; have NB5617_5450 := n18_; have NB5451_5617 := n19_; have NB5617_5451 := n20_; have NB5585_5617 := n21_; have NB5617_5585 := n22_; have NB5589_5617 := n23_; have NB5617_5589 := n24_; have NB5593_5617 := n25_; have NB5617_5593 := n26_; have NB5597_5617 := n27_; have NB5617_5597 := n28_; have NB5601_5617 := n29_; have NB5617_5601 := n30_; have NB5605_5617 := n31_; have NB5617_5605 := n32_; have NB5609_5617 := n33_; have NB5617_5609 := n34_; have NB5613_5617 := n35_; have NB5617_5613 := n36_; clear n0_ n1_ n2_ n3_ n4_ n5_ n6_ n7_ n8_ n9_ n10_ n11_ n12_ n13_ n14_ n15_ n16_ n17_ n18_ n19_ n20_ n21_ n22_ n23_ n24_ n25_ n26_ n27_ n28_ n29_ n30_ n31_ n32_ n33_ n34_ n35_ n36_; clear hb hbox hg; have hnb152 := NB5617_5449.out; have hnc152 := NB5449_5617.out; have hnb153 := NB5617_5450.out; have hnc153 := NB5450_5617.out; have hnb154 := NB5617_5451.out; have hnc154 := NB5451_5617.out; have hnb155 := NB5617_5585.out; have hnc155 := NB5585_5617.out; have hnb156 := NB5617_5589.out; have hnc156 := NB5589_5617.out; have hnb157 := NB5617_5593.out; have hnc157 := NB5593_5617.out; have hnb158 := NB5617_5597.out; have hnc158 := NB5597_5617.out; have hnb159 := NB5617_5601.out; have hnc159 := NB5601_5617.out; have hnb160 := NB5617_5605.out; have hnc160 := NB5605_5617.out; have hnb161 := NB5617_5609.out; have hnc161 := NB5609_5617.out; have hnb162 := NB5617_5613.out; have hnc162 := NB5613_5617.out; have hcz163_0 : w151.cell? ⟨gb5617, 0, none⟩ = some (.int .i64 0) := (blk_cell BK5617.out 0).trans rfl; have hcz163_1 : w151.cell? ⟨gb5617, 1, none⟩ = some (.int .i64 0) := (blk_cell BK5617.out 1).trans rfl; have hfz163_0 := blk_frozen BK5617.out 0; have hfz163_1 := blk_frozen BK5617.out 1))
        have n0_ : Aside0 (((w151.setCell ⟨gb5617, 0, none⟩ (.int .i64 t5614)).setCell ⟨gb5617, 1, none⟩ (.int .i64 t5615)).heap[gb5449]? = some (.cells #[.int .i64 a0_0, .int .i64 a0_1] 57 (0, 0))) := ⟨by refine blk_far ?_ NB5449_5617.out _; refine blk_far ?_ NB5449_5617.out _; exact BK5449.out⟩
        have n1_ : Aside0 (((w151.setCell ⟨gb5617, 0, none⟩ (.int .i64 t5614)).setCell ⟨gb5617, 1, none⟩ (.int .i64 t5615)).heap[gb5450]? = some (.cells #[.int .i64 a1_0, .int .i64 a1_1] 57 (0, 0))) := ⟨by refine blk_far ?_ NB5450_5617.out _; refine blk_far ?_ NB5450_5617.out _; exact BK5450.out⟩
        have n2_ : Aside0 (((w151.setCell ⟨gb5617, 0, none⟩ (.int .i64 t5614)).setCell ⟨gb5617, 1, none⟩ (.int .i64 t5615)).heap[gb5451]? = some (.cells #[.int .i64 a2_0, .int .i64 a2_1] 57 (0, 0))) := ⟨by refine blk_far ?_ NB5451_5617.out _; refine blk_far ?_ NB5451_5617.out _; exact BK5451.out⟩
        have n3_ : Aside0 (((w151.setCell ⟨gb5617, 0, none⟩ (.int .i64 t5614)).setCell ⟨gb5617, 1, none⟩ (.int .i64 t5615)).heap[gb5585]? = some (.cells #[.int .i64 t5582, .int .i64 t5583] 57 (0, 0))) := ⟨by refine blk_far ?_ NB5585_5617.out _; refine blk_far ?_ NB5585_5617.out _; exact BK5585.out⟩
        have n4_ : Aside0 (((w151.setCell ⟨gb5617, 0, none⟩ (.int .i64 t5614)).setCell ⟨gb5617, 1, none⟩ (.int .i64 t5615)).heap[gb5589]? = some (.cells #[.int .i64 t5586, .int .i64 t5587] 57 (0, 0))) := ⟨by refine blk_far ?_ NB5589_5617.out _; refine blk_far ?_ NB5589_5617.out _; exact BK5589.out⟩
        have n5_ : Aside0 (((w151.setCell ⟨gb5617, 0, none⟩ (.int .i64 t5614)).setCell ⟨gb5617, 1, none⟩ (.int .i64 t5615)).heap[gb5593]? = some (.cells #[.int .i64 t5590, .int .i64 t5591] 57 (0, 0))) := ⟨by refine blk_far ?_ NB5593_5617.out _; refine blk_far ?_ NB5593_5617.out _; exact BK5593.out⟩
        have n6_ : Aside0 (((w151.setCell ⟨gb5617, 0, none⟩ (.int .i64 t5614)).setCell ⟨gb5617, 1, none⟩ (.int .i64 t5615)).heap[gb5597]? = some (.cells #[.int .i64 t5594, .int .i64 t5595] 57 (0, 0))) := ⟨by refine blk_far ?_ NB5597_5617.out _; refine blk_far ?_ NB5597_5617.out _; exact BK5597.out⟩
        have n7_ : Aside0 (((w151.setCell ⟨gb5617, 0, none⟩ (.int .i64 t5614)).setCell ⟨gb5617, 1, none⟩ (.int .i64 t5615)).heap[gb5601]? = some (.cells #[.int .i64 t5598, .int .i64 t5599] 57 (0, 0))) := ⟨by refine blk_far ?_ NB5601_5617.out _; refine blk_far ?_ NB5601_5617.out _; exact BK5601.out⟩
        have n8_ : Aside0 (((w151.setCell ⟨gb5617, 0, none⟩ (.int .i64 t5614)).setCell ⟨gb5617, 1, none⟩ (.int .i64 t5615)).heap[gb5605]? = some (.cells #[.int .i64 t5602, .int .i64 t5603] 57 (0, 0))) := ⟨by refine blk_far ?_ NB5605_5617.out _; refine blk_far ?_ NB5605_5617.out _; exact BK5605.out⟩
        have n9_ : Aside0 (((w151.setCell ⟨gb5617, 0, none⟩ (.int .i64 t5614)).setCell ⟨gb5617, 1, none⟩ (.int .i64 t5615)).heap[gb5609]? = some (.cells #[.int .i64 t5606, .int .i64 t5607] 57 (0, 0))) := ⟨by refine blk_far ?_ NB5609_5617.out _; refine blk_far ?_ NB5609_5617.out _; exact BK5609.out⟩
        have n10_ : Aside0 (((w151.setCell ⟨gb5617, 0, none⟩ (.int .i64 t5614)).setCell ⟨gb5617, 1, none⟩ (.int .i64 t5615)).heap[gb5613]? = some (.cells #[.int .i64 t5610, .int .i64 t5611] 57 (0, 0))) := ⟨by refine blk_far ?_ NB5613_5617.out _; refine blk_far ?_ NB5613_5617.out _; exact BK5613.out⟩
        have n11_ : Aside0 (((w151.setCell ⟨gb5617, 0, none⟩ (.int .i64 t5614)).setCell ⟨gb5617, 1, none⟩ (.int .i64 t5615)).heap[gb5617]? = some (.cells #[.int .i64 t5614, .int .i64 t5615] 57 (0, 0))) := ⟨by refine blk_put (cs := #[.int .i64 t5614, .int .i64 0]) ?_ 1 _ rfl; refine blk_put (cs := #[.int .i64 0, .int .i64 0]) ?_ 0 _ rfl; exact BK5617.out⟩
        have n12_ : Aside0 (Below w.heap.size w ((w151.setCell ⟨gb5617, 0, none⟩ (.int .i64 t5614)).setCell ⟨gb5617, 1, none⟩ (.int .i64 t5615))) := ⟨by repeat (first | (with_reducible first | exact HB.out | apply below_alloc | apply pw_below_drewN | apply below_drew1 | refine below_set ?_ GE5449.out | refine below_set ?_ GE5450.out | refine below_set ?_ GE5451.out | refine below_set ?_ GE5585.out | refine below_set ?_ GE5589.out | refine below_set ?_ GE5593.out | refine below_set ?_ GE5597.out | refine below_set ?_ GE5601.out | refine below_set ?_ GE5605.out | refine below_set ?_ GE5609.out | refine below_set ?_ GE5613.out | refine below_set ?_ GE5617.out) | exact HB.out)⟩
        (try clear BK5449)
        (try clear BK5450)
        (try clear BK5451)
        (try clear BK5585)
        (try clear BK5589)
        (try clear BK5593)
        (try clear BK5597)
        (try clear BK5601)
        (try clear BK5605)
        (try clear BK5609)
        (try clear BK5613)
        (try clear BK5617)
        (try clear HB)
        generalize ((w151.setCell ⟨gb5617, 0, none⟩ (.int .i64 t5614)).setCell ⟨gb5617, 1, none⟩ (.int .i64 t5615)) = w164 at n0_ n1_ n2_ n3_ n4_ n5_ n6_ n7_ n8_ n9_ n10_ n11_ n12_ ⊢
        have BK5449 := n0_
        have BK5450 := n1_
        have BK5451 := n2_
        have BK5585 := n3_
        have BK5589 := n4_
        have BK5593 := n5_
        have BK5597 := n6_
        have BK5601 := n7_
        have BK5605 := n8_
        have BK5609 := n9_
        have BK5613 := n10_
        have BK5617 := n11_
        have HB := n12_
        clear n0_ n1_ n2_ n3_ n4_ n5_ n6_ n7_ n8_ n9_ n10_ n11_ n12_
        have n0_ := Aside0.mk (blk_drew BK5449.out)
        have n1_ := Aside0.mk (blk_drew BK5450.out)
        have n2_ := Aside0.mk (blk_drew BK5451.out)
        have n3_ := Aside0.mk (blk_drew BK5585.out)
        have n4_ := Aside0.mk (blk_drew BK5589.out)
        have n5_ := Aside0.mk (blk_drew BK5593.out)
        have n6_ := Aside0.mk (blk_drew BK5597.out)
        have n7_ := Aside0.mk (blk_drew BK5601.out)
        have n8_ := Aside0.mk (blk_drew BK5605.out)
        have n9_ := Aside0.mk (blk_drew BK5609.out)
        have n10_ := Aside0.mk (blk_drew BK5613.out)
        have n11_ := Aside0.mk (blk_drew BK5617.out)
        have n12_ := Aside0.mk (below_drew1 HB.out)
        clear BK5449 BK5450 BK5451 BK5585 BK5589 BK5593 BK5597 BK5601 BK5605 BK5609 BK5613 BK5617 HB
        have BK5449 := n0_
        have BK5450 := n1_
        have BK5451 := n2_
        have BK5585 := n3_
        have BK5589 := n4_
        have BK5593 := n5_
        have BK5597 := n6_
        have BK5601 := n7_
        have BK5605 := n8_
        have BK5609 := n9_
        have BK5613 := n10_
        have BK5617 := n11_
        have HB := n12_
        clear n0_ n1_ n2_ n3_ n4_ n5_ n6_ n7_ n8_ n9_ n10_ n11_ n12_
      · refine start_ (n := 37) (S := fun w' => w'.cell? ⟨gb5593, 0, none⟩ = some (.int .i64 t5590) ∧ w'.cell? ⟨gb5593, 1, none⟩ = some (.int .i64 t5591) ∧ w'.cell? ⟨gb5597, 0, none⟩ = some (.int .i64 t5594) ∧ w'.cell? ⟨gb5597, 1, none⟩ = some (.int .i64 t5595) ∧ w'.cell? ⟨gb5617, 0, none⟩ = some (.int .i64 t5614) ∧ w'.cell? ⟨gb5617, 1, none⟩ = some (.int .i64 t5615) ∧ w'.cell? ⟨gb5589, 0, none⟩ = some (.int .i64 t5586) ∧ w'.cell? ⟨gb5589, 1, none⟩ = some (.int .i64 t5587) ∧ w'.cell? ⟨gb5449, 0, none⟩ = some (.int .i64 a0_0) ∧ w'.cell? ⟨gb5449, 1, none⟩ = some (.int .i64 a0_1) ∧ w'.cell? ⟨gb5450, 0, none⟩ = some (.int .i64 a1_0) ∧ w'.cell? ⟨gb5450, 1, none⟩ = some (.int .i64 a1_1)) (ds := []) (demurragelaw02_RatioSums.ups 37 0) (by kernel_rfl) rfl rfl ⟨(blk_cell BK5593.out 0).trans rfl, (blk_cell BK5593.out 1).trans rfl, (blk_cell BK5597.out 0).trans rfl, (blk_cell BK5597.out 1).trans rfl, (blk_cell BK5617.out 0).trans rfl, (blk_cell BK5617.out 1).trans rfl, (blk_cell BK5589.out 0).trans rfl, (blk_cell BK5589.out 1).trans rfl, (blk_cell BK5449.out 0).trans rfl, (blk_cell BK5449.out 1).trans rfl, (blk_cell BK5450.out 0).trans rfl, (blk_cell BK5450.out 1).trans rfl⟩ (fun hHeld => ?_); refine with_tabW demurragelaw02_RatioSums.tab13 demurragelaw02_RatioSums.bits13 (fun HT_ HW_ => ?_)
        generalize w164.drew = w397 at BK5449 BK5450 BK5451 BK5585 BK5589 BK5593 BK5597 BK5601 BK5605 BK5609 BK5613 BK5617 HB hHeld ⊢
        refine pure_ (i := 0) (N := some 95) (v := ?_) (a' := ?_) (demurragelaw02_RatioSums.ups 37 1) rfl rfl (any_of HT_.out (by kernel_rfl)) (fun _ _ _ h => h) (Or.inl ⟨by rfl, ?_⟩) ?_ ?_
        rotate_left
        · intro w'
          go_simp
          with_reducible rfl
        rotate_left
        · simp only [Act.put, List.setIfInBounds_toArray, List.set_cons_zero, List.set_cons_succ, i64_w, i32_w]
          rfl
        refine pure_ (i := 1) (N := some 96) (v := ?_) (a' := ?_) (demurragelaw02_RatioSums.ups 37 3) rfl rfl (any_of HT_.out (by kernel_rfl)) (fun _ _ _ h => h) (Or.inl ⟨by rfl, ?_⟩) ?_ ?_
        rotate_left
        · intro w'
          go_simp
          with_reducible rfl
        rotate_left
        · simp only [Act.put, List.setIfInBounds_toArray, List.set_cons_zero, List.set_cons_succ, i64_w, i32_w]
          rfl
        refine pure_ (i := 2) (N := some 97) (v := ?_) (a' := ?_) (demurragelaw02_RatioSums.ups 37 7) rfl rfl (any_of HT_.out (by kernel_rfl)) (fun _ _ _ h => h) (Or.inl ⟨by rfl, ?_⟩) ?_ ?_
        rotate_left
        · intro w'
          go_simp
          with_reducible rfl
        rotate_left
        · simp only [Act.put, List.setIfInBounds_toArray, List.set_cons_zero, List.set_cons_succ, i64_w, i32_w]
          rfl
        refine pure_ (i := 3) (N := some 98) (v := ?_) (a' := ?_) (demurragelaw02_RatioSums.ups 37 15) rfl rfl (any_of HT_.out (by kernel_rfl)) (fun _ _ _ h => h) (Or.inl ⟨by rfl, ?_⟩) ?_ ?_
        rotate_left
        · intro w'
          go_simp
          with_reducible rfl
        rotate_left
        · simp only [Act.put, List.setIfInBounds_toArray, List.set_cons_zero, List.set_cons_succ, i64_w, i32_w]
          rfl
        refine pure_ (i := 4) (N := some 99) (v := ?_) (a' := ?_) (demurragelaw02_RatioSums.ups 37 31) rfl rfl (any_of HT_.out (by kernel_rfl)) (fun _ _ _ h => h) (Or.inl ⟨by rfl, ?_⟩) ?_ ?_
        rotate_left
        · intro w'
          go_simp
          with_reducible rfl
        rotate_left
        · simp only [Act.put, List.setIfInBounds_toArray, List.set_cons_zero, List.set_cons_succ, i64_w, i32_w]
          rfl
        refine pure_ (i := 5) (N := some 100) (v := ?_) (a' := ?_) (demurragelaw02_RatioSums.ups 37 63) rfl rfl (any_of HT_.out (by kernel_rfl)) (fun _ _ _ h => h) (Or.inl ⟨by rfl, ?_⟩) ?_ ?_
        rotate_left
        · intro w'
          go_simp
          with_reducible rfl
        rotate_left
        · simp only [Act.put, List.setIfInBounds_toArray, List.set_cons_zero, List.set_cons_succ, i64_w, i32_w]
          rfl
        refine pure_ (i := 6) (N := some 101) (v := ?_) (a' := ?_) (demurragelaw02_RatioSums.ups 37 127) rfl rfl (any_of HT_.out (by kernel_rfl)) (fun _ _ _ h => h) (Or.inl ⟨by rfl, ?_⟩) ?_ ?_
        rotate_left
        · intro w'
          go_simp
          with_reducible rfl
        rotate_left
        · simp only [Act.put, List.setIfInBounds_toArray, List.set_cons_zero, List.set_cons_succ, i64_w, i32_w]
          rfl
        refine pure_ (i := 7) (N := some 102) (v := ?_) (a' := ?_) (demurragelaw02_RatioSums.ups 37 255) rfl rfl (any_of HT_.out (by kernel_rfl)) (fun _ _ _ h => h) (Or.inl ⟨by rfl, ?_⟩) ?_ ?_
        rotate_left
        · intro w'
          go_simp
          with_reducible rfl
        rotate_left
        · simp only [Act.put, List.setIfInBounds_toArray, List.set_cons_zero, List.set_cons_succ, i64_w, i32_w]
          rfl
        refine pure_ (i := 8) (N := some 103) (v := ?_) (a' := ?_) (demurragelaw02_RatioSums.ups 37 511) rfl rfl (any_of HT_.out (by kernel_rfl)) (fun _ _ _ h => h) (Or.inl ⟨by rfl, ?_⟩) ?_ ?_
        rotate_left
        · intro w'
          go_simp
          with_reducible rfl
        rotate_left
        · simp only [Act.put, List.setIfInBounds_toArray, List.set_cons_zero, List.set_cons_succ, i64_w, i32_w]
          rfl
        refine pure_ (i := 9) (N := some 104) (v := ?_) (a' := ?_) (demurragelaw02_RatioSums.ups 37 1023) rfl rfl (any_of HT_.out (by kernel_rfl)) (fun _ _ _ h => h) (Or.inl ⟨by rfl, ?_⟩) ?_ ?_
        rotate_left
        · intro w'
          go_simp
          with_reducible rfl
        rotate_left
        · simp only [Act.put, List.setIfInBounds_toArray, List.set_cons_zero, List.set_cons_succ, i64_w, i32_w]
          rfl
        refine take_ (i := 10) (N := some 105) (v := ?_) (a' := ?_) (demurragelaw02_RatioSums.ups 37 2047) rfl rfl (take_ofW HT_.out HW_.out (by kernel_rfl)) (fun _ _ _ h => h) (Or.inl ⟨by rfl, ?_⟩) hHeld ?_ ?_
        rotate_left
        · rintro w' ⟨s0, s1, s2, s3, s4, s5, s6, s7, s8, s9, s10, s11⟩
          go_simp
          with_reducible rfl
        rotate_left
        · simp only [Act.put, List.setIfInBounds_toArray, List.set_cons_zero, List.set_cons_succ, i64_w, i32_w]
          rfl
        refine take_ (i := 11) (N := some 106) (v := ?_) (a' := ?_) (demurragelaw02_RatioSums.ups 37 4095) rfl rfl (take_ofW HT_.out HW_.out (by kernel_rfl)) (fun _ _ _ h => h) (Or.inl ⟨by rfl, ?_⟩) hHeld ?_ ?_
        rotate_left
        · rintro w' ⟨s0, s1, s2, s3, s4, s5, s6, s7, s8, s9, s10, s11⟩
          go_simp
          with_reducible rfl
        rotate_left
        · simp only [Act.put, List.setIfInBounds_toArray, List.set_cons_zero, List.set_cons_succ, i64_w, i32_w]
          rfl
        refine pure_ (i := 12) (N := some 107) (v := ?_) (a' := ?_) (demurragelaw02_RatioSums.ups 37 8191) rfl rfl (any_of HT_.out (by kernel_rfl)) (fun _ _ _ h => h) (Or.inl ⟨by rfl, ?_⟩) ?_ ?_
        rotate_left
        · intro w'
          go_simp
          with_reducible rfl
        rotate_left
        · simp only [Act.put, List.setIfInBounds_toArray, List.set_cons_zero, List.set_cons_succ, i64_w, i32_w]
          rfl
        refine pure_ (i := 13) (N := some 108) (v := ?_) (a' := ?_) (demurragelaw02_RatioSums.ups 37 16383) rfl rfl (any_of HT_.out (by kernel_rfl)) (fun _ _ _ h => h) (Or.inl ⟨by rfl, ?_⟩) ?_ ?_
        rotate_left
        · intro w'
          go_simp
          with_reducible rfl
        rotate_left
        · simp only [Act.put, List.setIfInBounds_toArray, List.set_cons_zero, List.set_cons_succ, i64_w, i32_w]
          rfl
        refine pure_ (i := 14) (N := some 109) (v := ?_) (a' := ?_) (demurragelaw02_RatioSums.ups 37 32767) rfl rfl (any_of HT_.out (by kernel_rfl)) (fun _ _ _ h => h) (Or.inl ⟨by rfl, ?_⟩) ?_ ?_
        rotate_left
        · intro w'
          go_simp
          with_reducible rfl
        rotate_left
        · simp only [Act.put, List.setIfInBounds_toArray, List.set_cons_zero, List.set_cons_succ, i64_w, i32_w]
          rfl
        refine pure_ (i := 15) (N := some 110) (v := ?_) (a' := ?_) (demurragelaw02_RatioSums.ups 37 65535) rfl rfl (any_of HT_.out (by kernel_rfl)) (fun _ _ _ h => h) (Or.inl ⟨by rfl, ?_⟩) ?_ ?_
        rotate_left
        · intro w'
          go_simp
          with_reducible rfl
        rotate_left
        · simp only [Act.put, List.setIfInBounds_toArray, List.set_cons_zero, List.set_cons_succ, i64_w, i32_w]
          rfl
        refine pure_ (i := 16) (N := some 111) (v := ?_) (a' := ?_) (demurragelaw02_RatioSums.ups 37 131071) rfl rfl (any_of HT_.out (by kernel_rfl)) (fun _ _ _ h => h) (Or.inl ⟨by rfl, ?_⟩) ?_ ?_
        rotate_left
        · intro w'
          go_simp
          with_reducible rfl
        rotate_left
        · simp only [Act.put, List.setIfInBounds_toArray, List.set_cons_zero, List.set_cons_succ, i64_w, i32_w]
          rfl
        refine pure_ (i := 17) (N := some 112) (v := ?_) (a' := ?_) (demurragelaw02_RatioSums.ups 37 262143) rfl rfl (any_of HT_.out (by kernel_rfl)) (fun _ _ _ h => h) (Or.inl ⟨by rfl, ?_⟩) ?_ ?_
        rotate_left
        · intro w'
          go_simp
          with_reducible rfl
        rotate_left
        · simp only [Act.put, List.setIfInBounds_toArray, List.set_cons_zero, List.set_cons_succ, i64_w, i32_w]
          rfl
        refine pure_ (i := 18) (N := some 113) (v := undef) (a' := ?_) (demurragelaw02_RatioSums.ups 37 524287) rfl rfl (any_of HT_.out (by kernel_rfl)) (fun _ _ _ h => h) (Or.inr ⟨by rfl, rfl⟩) ?_ ?_
        rotate_left
        · simp only [Act.put, List.setIfInBounds_toArray, List.set_cons_zero, List.set_cons_succ, i64_w, i32_w]
          rfl
        refine pure_ (i := 19) (N := some 114) (v := undef) (a' := ?_) (demurragelaw02_RatioSums.ups 37 1048575) rfl rfl (any_of HT_.out (by kernel_rfl)) (fun _ _ _ h => h) (Or.inr ⟨by rfl, rfl⟩) ?_ ?_
        rotate_left
        · simp only [Act.put, List.setIfInBounds_toArray, List.set_cons_zero, List.set_cons_succ, i64_w, i32_w]
          rfl
        refine pure_ (i := 20) (N := some 115) (v := ?_) (a' := ?_) (demurragelaw02_RatioSums.ups 37 2097151) rfl rfl (any_of HT_.out (by kernel_rfl)) (fun _ _ _ h => h) (Or.inl ⟨by rfl, ?_⟩) ?_ ?_
        rotate_left
        · intro w'
          go_simp
          with_reducible rfl
        rotate_left
        · simp only [Act.put, List.setIfInBounds_toArray, List.set_cons_zero, List.set_cons_succ, i64_w, i32_w]
          rfl
        refine pure_ (i := 21) (N := some 116) (v := ?_) (a' := ?_) (demurragelaw02_RatioSums.ups 37 4194303) rfl rfl (any_of HT_.out (by kernel_rfl)) (fun _ _ _ h => h) (Or.inl ⟨by rfl, ?_⟩) ?_ ?_
        rotate_left
        · intro w'
          go_simp
          with_reducible rfl
        rotate_left
        · simp only [Act.put, List.setIfInBounds_toArray, List.set_cons_zero, List.set_cons_succ, i64_w, i32_w]
          rfl
        refine pure_ (i := 22) (N := some 117) (v := undef) (a' := ?_) (demurragelaw02_RatioSums.ups 37 8388607) rfl rfl (any_of HT_.out (by kernel_rfl)) (fun _ _ _ h => h) (Or.inr ⟨by rfl, rfl⟩) ?_ ?_
        rotate_left
        · simp only [Act.put, List.setIfInBounds_toArray, List.set_cons_zero, List.set_cons_succ, i64_w, i32_w]
          rfl
        refine pure_ (i := 23) (N := some 118) (v := undef) (a' := ?_) (demurragelaw02_RatioSums.ups 37 16777215) rfl rfl (any_of HT_.out (by kernel_rfl)) (fun _ _ _ h => h) (Or.inr ⟨by rfl, rfl⟩) ?_ ?_
        rotate_left
        · simp only [Act.put, List.setIfInBounds_toArray, List.set_cons_zero, List.set_cons_succ, i64_w, i32_w]
          rfl
        refine pure_ (i := 24) (N := some 119) (v := undef) (a' := ?_) (demurragelaw02_RatioSums.ups 37 33554431) rfl rfl (any_of HT_.out (by kernel_rfl)) (fun _ _ _ h => h) (Or.inr ⟨by rfl, rfl⟩) ?_ ?_
        rotate_left
        · simp only [Act.put, List.setIfInBounds_toArray, List.set_cons_zero, List.set_cons_succ, i64_w, i32_w]
          rfl
        refine pure_ (i := 25) (N := some 120) (v := ?_) (a' := ?_) (demurragelaw02_RatioSums.ups 37 67108863) rfl rfl (any_of HT_.out (by kernel_rfl)) (fun _ _ _ h => h) (Or.inl ⟨by rfl, ?_⟩) ?_ ?_
        rotate_left
        · intro w'
          go_simp
          with_reducible rfl
        rotate_left
        · simp only [Act.put, List.setIfInBounds_toArray, List.set_cons_zero, List.set_cons_succ, i64_w, i32_w]
          rfl
        refine pure_ (i := 26) (N := some 121) (v := ?_) (a' := ?_) (demurragelaw02_RatioSums.ups 37 134217727) rfl rfl (any_of HT_.out (by kernel_rfl)) (fun _ _ _ h => h) (Or.inl ⟨by rfl, ?_⟩) ?_ ?_
        rotate_left
        · intro w'
          go_simp
          with_reducible rfl
        rotate_left
        · simp only [Act.put, List.setIfInBounds_toArray, List.set_cons_zero, List.set_cons_succ, i64_w, i32_w]
          rfl
        refine pure_ (i := 27) (N := some 122) (v := ?_) (a' := ?_) (demurragelaw02_RatioSums.ups 37 268435455) rfl rfl (any_of HT_.out (by kernel_rfl)) (fun _ _ _ h => h) (Or.inl ⟨by rfl, ?_⟩) ?_ ?_
        rotate_left
        · intro w'
          go_simp
          with_reducible rfl
        rotate_left
        · simp only [Act.put, List.setIfInBounds_toArray, List.set_cons_zero, List.set_cons_succ, i64_w, i32_w]
          rfl
        refine take_ (i := 28) (N := some 123) (v := ?_) (a' := ?_) (demurragelaw02_RatioSums.ups 37 536870911) rfl rfl (take_ofW HT_.out HW_.out (by kernel_rfl)) (fun _ _ _ h => h) (Or.inl ⟨by rfl, ?_⟩) hHeld ?_ ?_
        rotate_left
        · rintro w' ⟨s0, s1, s2, s3, s4, s5, s6, s7, s8, s9, s10, s11⟩
          go_simp
          with_reducible rfl
        rotate_left
        · simp only [Act.put, List.setIfInBounds_toArray, List.set_cons_zero, List.set_cons_succ, i64_w, i32_w]
          rfl
        refine take_ (i := 29) (N := some 124) (v := ?_) (a' := ?_) (demurragelaw02_RatioSums.ups 37 1073741823) rfl rfl (take_ofW HT_.out HW_.out (by kernel_rfl)) (fun _ _ _ h => h) (Or.inl ⟨by rfl, ?_⟩) hHeld ?_ ?_
        rotate_left
        · rintro w' ⟨s0, s1, s2, s3, s4, s5, s6, s7, s8, s9, s10, s11⟩
          go_simp
          with_reducible rfl
        rotate_left
        · simp only [Act.put, List.setIfInBounds_toArray, List.set_cons_zero, List.set_cons_succ, i64_w, i32_w]
          rfl
        refine take_ (i := 31) (N := some 126) (v := ?_) (a' := ?_) (demurragelaw02_RatioSums.ups 37 3221225471) rfl rfl (take_ofW HT_.out HW_.out (by kernel_rfl)) (fun _ _ _ h => h) (Or.inl ⟨by rfl, ?_⟩) hHeld ?_ ?_
        rotate_left
        · rintro w' ⟨s0, s1, s2, s3, s4, s5, s6, s7, s8, s9, s10, s11⟩
          go_simp
          with_reducible rfl
        rotate_left
        · simp only [Act.put, List.setIfInBounds_toArray, List.set_cons_zero, List.set_cons_succ, i64_w, i32_w]
          rfl
        refine take_ (i := 32) (N := some 127) (v := ?_) (a' := ?_) (demurragelaw02_RatioSums.ups 37 7516192767) rfl rfl (take_ofW HT_.out HW_.out (by kernel_rfl)) (fun _ _ _ h => h) (Or.inl ⟨by rfl, ?_⟩) hHeld ?_ ?_
        rotate_left
        · rintro w' ⟨s0, s1, s2, s3, s4, s5, s6, s7, s8, s9, s10, s11⟩
          go_simp
          with_reducible rfl
        rotate_left
        · simp only [Act.put, List.setIfInBounds_toArray, List.set_cons_zero, List.set_cons_succ, i64_w, i32_w]
          rfl
        refine one_ (i := 30) (N := some 125) (demurragelaw02_RatioSums.ups 37 8589934591) rfl rfl (one_of HT_.out (by kernel_rfl)) (by decide) (fun K hK => ?_)
        refine goes_ Try.func50 (by kernel_rfl) rfl #[.agg #[.int .i64 t5614, .int .i64 t5615], .agg #[.int .i64 t5586, .int .i64 t5587]] (by rfl) rfl rfl (by (try simp only [List.map_toArray, List.map_cons, List.map_nil]); first | done | rfl) ?_
        with_reducible refine (ratio_Cmp.calls t5614 t5615 t5586 t5587 t5618 _ A52.out).mono ?_
        rintro e w398 ⟨rfl, hb⟩
        refine ⟨_, rfl, ?_⟩
        have n0_ := Aside0.mk (blk_below (g := gb5449) (o := .cells #[.int .i64 a0_0, .int .i64 a0_1] 57 (0, 0)) (by exact BK5449.out) hb)
        have n1_ := Aside0.mk (blk_below (g := gb5450) (o := .cells #[.int .i64 a1_0, .int .i64 a1_1] 57 (0, 0)) (by exact BK5450.out) hb)
        have n2_ := Aside0.mk (blk_below (g := gb5451) (o := .cells #[.int .i64 a2_0, .int .i64 a2_1] 57 (0, 0)) (by exact BK5451.out) hb)
        have n3_ := Aside0.mk (blk_below (g := gb5585) (o := .cells #[.int .i64 t5582, .int .i64 t5583] 57 (0, 0)) (by exact BK5585.out) hb)
        have n4_ := Aside0.mk (blk_below (g := gb5589) (o := .cells #[.int .i64 t5586, .int .i64 t5587] 57 (0, 0)) (by exact BK5589.out) hb)
        have n5_ := Aside0.mk (blk_below (g := gb5593) (o := .cells #[.int .i64 t5590, .int .i64 t5591] 57 (0, 0)) (by exact BK5593.out) hb)
        have n6_ := Aside0.mk (blk_below (g := gb5597) (o := .cells #[.int .i64 t5594, .int .i64 t5595] 57 (0, 0)) (by exact BK5597.out) hb)
        have n7_ := Aside0.mk (blk_below (g := gb5601) (o := .cells #[.int .i64 t5598, .int .i64 t5599] 57 (0, 0)) (by exact BK5601.out) hb)
        have n8_ := Aside0.mk (blk_below (g := gb5605) (o := .cells #[.int .i64 t5602, .int .i64 t5603] 57 (0, 0)) (by exact BK5605.out) hb)
        have n9_ := Aside0.mk (blk_below (g := gb5609) (o := .cells #[.int .i64 t5606, .int .i64 t5607] 57 (0, 0)) (by exact BK5609.out) hb)
        have n10_ := Aside0.mk (blk_below (g := gb5613) (o := .cells #[.int .i64 t5610, .int .i64 t5611] 57 (0, 0)) (by exact BK5613.out) hb)
        have n11_ := Aside0.mk (blk_below (g := gb5617) (o := .cells #[.int .i64 t5614, .int .i64 t5615] 57 (0, 0)) (by exact BK5617.out) hb)
        have n12_ := Aside0.mk (below_step (by repeat (first | (with_reducible first | exact HB.out | apply below_alloc | apply pw_below_drewN | apply below_drew1 | refine below_set ?_ GE5449.out | refine below_set ?_ GE5450.out | refine below_set ?_ GE5451.out | refine below_set ?_ GE5585.out | refine below_set ?_ GE5589.out | refine below_set ?_ GE5593.out | refine below_set ?_ GE5597.out | refine below_set ?_ GE5601.out | refine below_set ?_ GE5605.out | refine below_set ?_ GE5609.out | refine below_set ?_ GE5613.out | refine below_set ?_ GE5617.out) | exact HB.out)) hb)
        clear BK5449 BK5450 BK5451 BK5585 BK5589 BK5593 BK5597 BK5601 BK5605 BK5609 BK5613 BK5617 HB
        have BK5449 := n0_
        have BK5450 := n1_
        have BK5451 := n2_
        have BK5585 := n3_
        have BK5589 := n4_
        have BK5593 := n5_
        have BK5597 := n6_
        have BK5601 := n7_
        have BK5605 := n8_
        have BK5609 := n9_
        have BK5613 := n10_
        have BK5617 := n11_
        have HB := n12_
        clear n0_ n1_ n2_ n3_ n4_ n5_ n6_ n7_ n8_ n9_ n10_ n11_ n12_
        (try clear hb)
        (try clear hb2)
        (try clear hk)
        (try clear hi)
        refine hK.out _ _ ⟨(blk_cell BK5593.out 0).trans rfl, (blk_cell BK5593.out 1).trans rfl, (blk_cell BK5597.out 0).trans rfl, (blk_cell BK5597.out 1).trans rfl, (blk_cell BK5617.out 0).trans rfl, (blk_cell BK5617.out 1).trans rfl, (blk_cell BK5589.out 0).trans rfl, (blk_cell BK5589.out 1).trans rfl, (blk_cell BK5449.out 0).trans rfl, (blk_cell BK5449.out 1).trans rfl, (blk_cell BK5450.out 0).trans rfl, (blk_cell BK5450.out 1).trans rfl⟩ (fun hHeld => ?_)
        clear hK K
        refine norm_ (a' := ?_) ?_ ?_
        rotate_left
        · show Act.put _ (some 125) _ = _
          simp only [Act.put, List.setIfInBounds_toArray, List.set_cons_zero, List.set_cons_succ, i64_w, i32_w]
          rfl
        refine one_ (i := 33) (N := some 128) (demurragelaw02_RatioSums.ups 37 17179869183) rfl rfl (one_of HT_.out (by kernel_rfl)) (by decide) (fun K hK => ?_)
        refine goes_ Try.func50 (by kernel_rfl) rfl #[.agg #[.int .i64 a0_0, .int .i64 a0_1], .agg #[.int .i64 a1_0, .int .i64 a1_1]] (by rfl) rfl rfl (by (try simp only [List.map_toArray, List.map_cons, List.map_nil]); first | done | rfl) ?_
        with_reducible refine (ratio_Cmp.calls a0_0 a0_1 a1_0 a1_1 t5619 _ A53.out).mono ?_
        rintro e w399 ⟨rfl, hb⟩
        refine ⟨_, rfl, ?_⟩
        have n0_ := Aside0.mk (blk_below (g := gb5449) (o := .cells #[.int .i64 a0_0, .int .i64 a0_1] 57 (0, 0)) (by exact BK5449.out) hb)
        have n1_ := Aside0.mk (blk_below (g := gb5450) (o := .cells #[.int .i64 a1_0, .int .i64 a1_1] 57 (0, 0)) (by exact BK5450.out) hb)
        have n2_ := Aside0.mk (blk_below (g := gb5451) (o := .cells #[.int .i64 a2_0, .int .i64 a2_1] 57 (0, 0)) (by exact BK5451.out) hb)
        have n3_ := Aside0.mk (blk_below (g := gb5585) (o := .cells #[.int .i64 t5582, .int .i64 t5583] 57 (0, 0)) (by exact BK5585.out) hb)
        have n4_ := Aside0.mk (blk_below (g := gb5589) (o := .cells #[.int .i64 t5586, .int .i64 t5587] 57 (0, 0)) (by exact BK5589.out) hb)
        have n5_ := Aside0.mk (blk_below (g := gb5593) (o := .cells #[.int .i64 t5590, .int .i64 t5591] 57 (0, 0)) (by exact BK5593.out) hb)
        have n6_ := Aside0.mk (blk_below (g := gb5597) (o := .cells #[.int .i64 t5594, .int .i64 t5595] 57 (0, 0)) (by exact BK5597.out) hb)
        have n7_ := Aside0.mk (blk_below (g := gb5601) (o := .cells #[.int .i64 t5598, .int .i64 t5599] 57 (0, 0)) (by exact BK5601.out) hb)
        have n8_ := Aside0.mk (blk_below (g := gb5605) (o := .cells #[.int .i64 t5602, .int .i64 t5603] 57 (0, 0)) (by exact BK5605.out) hb)
        have n9_ := Aside0.mk (blk_below (g := gb5609) (o := .cells #[.int .i64 t5606, .int .i64 t5607] 57 (0, 0)) (by exact BK5609.out) hb)
        have n10_ := Aside0.mk (blk_below (g := gb5613) (o := .cells #[.int .i64 t5610, .int .i64 t5611] 57 (0, 0)) (by exact BK5613.out) hb)
        have n11_ := Aside0.mk (blk_below (g := gb5617) (o := .cells #[.int .i64 t5614, .int .i64 t5615] 57 (0, 0)) (by exact BK5617.out) hb)
        have n12_ := Aside0.mk (below_step (by repeat (first | (with_reducible first | exact HB.out | apply below_alloc | apply pw_below_drewN | apply below_drew1 | refine below_set ?_ GE5449.out | refine below_set ?_ GE5450.out | refine below_set ?_ GE5451.out | refine below_set ?_ GE5585.out | refine below_set ?_ GE5589.out | refine below_set ?_ GE5593.out | refine below_set ?_ GE5597.out | refine below_set ?_ GE5601.out | refine below_set ?_ GE5605.out | refine below_set ?_ GE5609.out | refine below_set ?_ GE5613.out | refine below_set ?_ GE5617.out) | exact HB.out)) hb)
        clear BK5449 BK5450 BK5451 BK5585 BK5589 BK5593 BK5597 BK5601 BK5605 BK5609 BK5613 BK5617 HB
        have BK5449 := n0_
        have BK5450 := n1_
        have BK5451 := n2_
        have BK5585 := n3_
        have BK5589 := n4_
        have BK5593 := n5_
        have BK5597 := n6_
        have BK5601 := n7_
        have BK5605 := n8_
        have BK5609 := n9_
        have BK5613 := n10_
        have BK5617 := n11_
        have HB := n12_
        clear n0_ n1_ n2_ n3_ n4_ n5_ n6_ n7_ n8_ n9_ n10_ n11_ n12_
        (try clear hb)
        (try clear hb2)
        (try clear hk)
        (try clear hi)
        refine hK.out _ _ ⟨(blk_cell BK5593.out 0).trans rfl, (blk_cell BK5593.out 1).trans rfl, (blk_cell BK5597.out 0).trans rfl, (blk_cell BK5597.out 1).trans rfl, (blk_cell BK5617.out 0).trans rfl, (blk_cell BK5617.out 1).trans rfl, (blk_cell BK5589.out 0).trans rfl, (blk_cell BK5589.out 1).trans rfl, (blk_cell BK5449.out 0).trans rfl, (blk_cell BK5449.out 1).trans rfl, (blk_cell BK5450.out 0).trans rfl, (blk_cell BK5450.out 1).trans rfl⟩ (fun hHeld => ?_)
        clear hK K
        refine norm_ (a' := ?_) ?_ ?_
        rotate_left
        · show Act.put _ (some 128) _ = _
          simp only [Act.put, List.setIfInBounds_toArray, List.set_cons_zero, List.set_cons_succ, i64_w, i32_w]
          rfl
        refine pure_ (i := 34) (N := some 129) (v := ?_) (a' := ?_) (demurragelaw02_RatioSums.ups 37 34359738367) rfl rfl (any_of HT_.out (by kernel_rfl)) (fun _ _ _ h => h) (Or.inl ⟨by rfl, ?_⟩) ?_ ?_
        rotate_left
        · intro w'
          go_simp
          with_reducible rfl
        rotate_left
        · simp only [Act.put, List.setIfInBounds_toArray, List.set_cons_zero, List.set_cons_succ, i64_w, i32_w]
          rfl
        refine pure_ (i := 35) (N := some 130) (v := ?_) (a' := ?_) (demurragelaw02_RatioSums.ups 37 68719476735) rfl rfl (any_of HT_.out (by kernel_rfl)) (fun _ _ _ h => h) (Or.inl ⟨by rfl, ?_⟩) ?_ ?_
        rotate_left
        · intro w'
          go_simp
          with_reducible rfl
        rotate_left
        · simp only [Act.put, List.setIfInBounds_toArray, List.set_cons_zero, List.set_cons_succ, i64_w, i32_w]
          rfl
        refine pure_ (i := 36) (N := some 6) (v := ?_) (a' := ?_) (demurragelaw02_RatioSums.ups 37 137438953471) rfl rfl (any_of HT_.out (by kernel_rfl)) (fun _ _ _ h => h) (Or.inl ⟨by rfl, ?_⟩) ?_ ?_
        rotate_left
        · intro w'
          go_simp
          with_reducible rfl
        rotate_left
        · simp only [Act.put, List.setIfInBounds_toArray, List.set_cons_zero, List.set_cons_succ, i64_w, i32_w]
          rfl
        refine done_ (done_of HT_.out (by kernel_rfl)) ?_
        try go_wp2
        go_ret
        exact ⟨by rfl, by repeat (first | (with_reducible first | exact HB.out | apply below_alloc | apply pw_below_drewN | apply below_drew1 | refine below_set ?_ GE5449.out | refine below_set ?_ GE5450.out | refine below_set ?_ GE5451.out | refine below_set ?_ GE5585.out | refine below_set ?_ GE5589.out | refine below_set ?_ GE5593.out | refine below_set ?_ GE5597.out | refine below_set ?_ GE5601.out | refine below_set ?_ GE5605.out | refine below_set ?_ GE5609.out | refine below_set ?_ GE5613.out | refine below_set ?_ GE5617.out) | exact HB.out)⟩
      · refine start_ (n := 37) (S := fun w' => w'.cell? ⟨gb5593, 0, none⟩ = some (.int .i64 t5590) ∧ w'.cell? ⟨gb5593, 1, none⟩ = some (.int .i64 t5591) ∧ w'.cell? ⟨gb5597, 0, none⟩ = some (.int .i64 t5594) ∧ w'.cell? ⟨gb5597, 1, none⟩ = some (.int .i64 t5595) ∧ w'.cell? ⟨gb5617, 0, none⟩ = some (.int .i64 t5614) ∧ w'.cell? ⟨gb5617, 1, none⟩ = some (.int .i64 t5615) ∧ w'.cell? ⟨gb5589, 0, none⟩ = some (.int .i64 t5586) ∧ w'.cell? ⟨gb5589, 1, none⟩ = some (.int .i64 t5587) ∧ w'.cell? ⟨gb5449, 0, none⟩ = some (.int .i64 a0_0) ∧ w'.cell? ⟨gb5449, 1, none⟩ = some (.int .i64 a0_1) ∧ w'.cell? ⟨gb5450, 0, none⟩ = some (.int .i64 a1_0) ∧ w'.cell? ⟨gb5450, 1, none⟩ = some (.int .i64 a1_1)) (ds := []) (demurragelaw02_RatioSums.ups 37 0) (by kernel_rfl) rfl rfl ⟨(blk_cell BK5593.out 0).trans rfl, (blk_cell BK5593.out 1).trans rfl, (blk_cell BK5597.out 0).trans rfl, (blk_cell BK5597.out 1).trans rfl, (blk_cell BK5617.out 0).trans rfl, (blk_cell BK5617.out 1).trans rfl, (blk_cell BK5589.out 0).trans rfl, (blk_cell BK5589.out 1).trans rfl, (blk_cell BK5449.out 0).trans rfl, (blk_cell BK5449.out 1).trans rfl, (blk_cell BK5450.out 0).trans rfl, (blk_cell BK5450.out 1).trans rfl⟩ (fun hHeld => ?_); refine with_tabW demurragelaw02_RatioSums.tab13 demurragelaw02_RatioSums.bits13 (fun HT_ HW_ => ?_)
        generalize w164.drew = w281 at BK5449 BK5450 BK5451 BK5585 BK5589 BK5593 BK5597 BK5601 BK5605 BK5609 BK5613 BK5617 HB hHeld ⊢
        refine pure_ (i := 0) (N := some 95) (v := ?_) (a' := ?_) (demurragelaw02_RatioSums.ups 37 1) rfl rfl (any_of HT_.out (by kernel_rfl)) (fun _ _ _ h => h) (Or.inl ⟨by rfl, ?_⟩) ?_ ?_
        rotate_left
        · intro w'
          go_simp
          with_reducible rfl
        rotate_left
        · simp only [Act.put, List.setIfInBounds_toArray, List.set_cons_zero, List.set_cons_succ, i64_w, i32_w]
          rfl
        refine pure_ (i := 1) (N := some 96) (v := ?_) (a' := ?_) (demurragelaw02_RatioSums.ups 37 3) rfl rfl (any_of HT_.out (by kernel_rfl)) (fun _ _ _ h => h) (Or.inl ⟨by rfl, ?_⟩) ?_ ?_
        rotate_left
        · intro w'
          go_simp
          with_reducible rfl
        rotate_left
        · simp only [Act.put, List.setIfInBounds_toArray, List.set_cons_zero, List.set_cons_succ, i64_w, i32_w]
          rfl
        refine pure_ (i := 2) (N := some 97) (v := ?_) (a' := ?_) (demurragelaw02_RatioSums.ups 37 7) rfl rfl (any_of HT_.out (by kernel_rfl)) (fun _ _ _ h => h) (Or.inl ⟨by rfl, ?_⟩) ?_ ?_
        rotate_left
        · intro w'
          go_simp
          with_reducible rfl
        rotate_left
        · simp only [Act.put, List.setIfInBounds_toArray, List.set_cons_zero, List.set_cons_succ, i64_w, i32_w]
          rfl
        refine pure_ (i := 3) (N := some 98) (v := ?_) (a' := ?_) (demurragelaw02_RatioSums.ups 37 15) rfl rfl (any_of HT_.out (by kernel_rfl)) (fun _ _ _ h => h) (Or.inl ⟨by rfl, ?_⟩) ?_ ?_
        rotate_left
        · intro w'
          go_simp
          with_reducible rfl
        rotate_left
        · simp only [Act.put, List.setIfInBounds_toArray, List.set_cons_zero, List.set_cons_succ, i64_w, i32_w]
          rfl
        refine pure_ (i := 4) (N := some 99) (v := ?_) (a' := ?_) (demurragelaw02_RatioSums.ups 37 31) rfl rfl (any_of HT_.out (by kernel_rfl)) (fun _ _ _ h => h) (Or.inl ⟨by rfl, ?_⟩) ?_ ?_
        rotate_left
        · intro w'
          go_simp
          with_reducible rfl
        rotate_left
        · simp only [Act.put, List.setIfInBounds_toArray, List.set_cons_zero, List.set_cons_succ, i64_w, i32_w]
          rfl
        refine pure_ (i := 5) (N := some 100) (v := ?_) (a' := ?_) (demurragelaw02_RatioSums.ups 37 63) rfl rfl (any_of HT_.out (by kernel_rfl)) (fun _ _ _ h => h) (Or.inl ⟨by rfl, ?_⟩) ?_ ?_
        rotate_left
        · intro w'
          go_simp
          with_reducible rfl
        rotate_left
        · simp only [Act.put, List.setIfInBounds_toArray, List.set_cons_zero, List.set_cons_succ, i64_w, i32_w]
          rfl
        refine pure_ (i := 6) (N := some 101) (v := ?_) (a' := ?_) (demurragelaw02_RatioSums.ups 37 127) rfl rfl (any_of HT_.out (by kernel_rfl)) (fun _ _ _ h => h) (Or.inl ⟨by rfl, ?_⟩) ?_ ?_
        rotate_left
        · intro w'
          go_simp
          with_reducible rfl
        rotate_left
        · simp only [Act.put, List.setIfInBounds_toArray, List.set_cons_zero, List.set_cons_succ, i64_w, i32_w]
          rfl
        refine pure_ (i := 7) (N := some 102) (v := ?_) (a' := ?_) (demurragelaw02_RatioSums.ups 37 255) rfl rfl (any_of HT_.out (by kernel_rfl)) (fun _ _ _ h => h) (Or.inl ⟨by rfl, ?_⟩) ?_ ?_
        rotate_left
        · intro w'
          go_simp
          with_reducible rfl
        rotate_left
        · simp only [Act.put, List.setIfInBounds_toArray, List.set_cons_zero, List.set_cons_succ, i64_w, i32_w]
          rfl
        refine pure_ (i := 8) (N := some 103) (v := ?_) (a' := ?_) (demurragelaw02_RatioSums.ups 37 511) rfl rfl (any_of HT_.out (by kernel_rfl)) (fun _ _ _ h => h) (Or.inl ⟨by rfl, ?_⟩) ?_ ?_
        rotate_left
        · intro w'
          go_simp
          with_reducible rfl
        rotate_left
        · simp only [Act.put, List.setIfInBounds_toArray, List.set_cons_zero, List.set_cons_succ, i64_w, i32_w]
          rfl
        refine pure_ (i := 9) (N := some 104) (v := ?_) (a' := ?_) (demurragelaw02_RatioSums.ups 37 1023) rfl rfl (any_of HT_.out (by kernel_rfl)) (fun _ _ _ h => h) (Or.inl ⟨by rfl, ?_⟩) ?_ ?_
        rotate_left
        · intro w'
          go_simp
          with_reducible rfl
        rotate_left
        · simp only [Act.put, List.setIfInBounds_toArray, List.set_cons_zero, List.set_cons_succ, i64_w, i32_w]
          rfl
        refine take_ (i := 10) (N := some 105) (v := ?_) (a' := ?_) (demurragelaw02_RatioSums.ups 37 2047) rfl rfl (take_ofW HT_.out HW_.out (by kernel_rfl)) (fun _ _ _ h => h) (Or.inl ⟨by rfl, ?_⟩) hHeld ?_ ?_
        rotate_left
        · rintro w' ⟨s0, s1, s2, s3, s4, s5, s6, s7, s8, s9, s10, s11⟩
          go_simp
          with_reducible rfl
        rotate_left
        · simp only [Act.put, List.setIfInBounds_toArray, List.set_cons_zero, List.set_cons_succ, i64_w, i32_w]
          rfl
        refine take_ (i := 11) (N := some 106) (v := ?_) (a' := ?_) (demurragelaw02_RatioSums.ups 37 4095) rfl rfl (take_ofW HT_.out HW_.out (by kernel_rfl)) (fun _ _ _ h => h) (Or.inl ⟨by rfl, ?_⟩) hHeld ?_ ?_
        rotate_left
        · rintro w' ⟨s0, s1, s2, s3, s4, s5, s6, s7, s8, s9, s10, s11⟩
          go_simp
          with_reducible rfl
        rotate_left
        · simp only [Act.put, List.setIfInBounds_toArray, List.set_cons_zero, List.set_cons_succ, i64_w, i32_w]
          rfl
        refine pure_ (i := 12) (N := some 107) (v := ?_) (a' := ?_) (demurragelaw02_RatioSums.ups 37 8191) rfl rfl (any_of HT_.out (by kernel_rfl)) (fun _ _ _ h => h) (Or.inl ⟨by rfl, ?_⟩) ?_ ?_
        rotate_left
        · intro w'
          go_simp
          with_reducible rfl
        rotate_left
        · simp only [Act.put, List.setIfInBounds_toArray, List.set_cons_zero, List.set_cons_succ, i64_w, i32_w]
          rfl
        refine pure_ (i := 13) (N := some 108) (v := ?_) (a' := ?_) (demurragelaw02_RatioSums.ups 37 16383) rfl rfl (any_of HT_.out (by kernel_rfl)) (fun _ _ _ h => h) (Or.inl ⟨by rfl, ?_⟩) ?_ ?_
        rotate_left
        · intro w'
          go_simp
          with_reducible rfl
        rotate_left
        · simp only [Act.put, List.setIfInBounds_toArray, List.set_cons_zero, List.set_cons_succ, i64_w, i32_w]
          rfl
        refine pure_ (i := 14) (N := some 109) (v := ?_) (a' := ?_) (demurragelaw02_RatioSums.ups 37 32767) rfl rfl (any_of HT_.out (by kernel_rfl)) (fun _ _ _ h => h) (Or.inl ⟨by rfl, ?_⟩) ?_ ?_
        rotate_left
        · intro w'
          go_simp
          with_reducible rfl
        rotate_left
        · simp only [Act.put, List.setIfInBounds_toArray, List.set_cons_zero, List.set_cons_succ, i64_w, i32_w]
          rfl
        refine pure_ (i := 15) (N := some 110) (v := ?_) (a' := ?_) (demurragelaw02_RatioSums.ups 37 65535) rfl rfl (any_of HT_.out (by kernel_rfl)) (fun _ _ _ h => h) (Or.inl ⟨by rfl, ?_⟩) ?_ ?_
        rotate_left
        · intro w'
          go_simp
          with_reducible rfl
        rotate_left
        · simp only [Act.put, List.setIfInBounds_toArray, List.set_cons_zero, List.set_cons_succ, i64_w, i32_w]
          rfl
        refine pure_ (i := 16) (N := some 111) (v := ?_) (a' := ?_) (demurragelaw02_RatioSums.ups 37 131071) rfl rfl (any_of HT_.out (by kernel_rfl)) (fun _ _ _ h => h) (Or.inl ⟨by rfl, ?_⟩) ?_ ?_
        rotate_left
        · intro w'
          go_simp
          with_reducible rfl
        rotate_left
        · simp only [Act.put, List.setIfInBounds_toArray, List.set_cons_zero, List.set_cons_succ, i64_w, i32_w]
          rfl
        refine pure_ (i := 17) (N := some 112) (v := ?_) (a' := ?_) (demurragelaw02_RatioSums.ups 37 262143) rfl rfl (any_of HT_.out (by kernel_rfl)) (fun _ _ _ h => h) (Or.inl ⟨by rfl, ?_⟩) ?_ ?_
        rotate_left
        · intro w'
          go_simp
          with_reducible rfl
        rotate_left
        · simp only [Act.put, List.setIfInBounds_toArray, List.set_cons_zero, List.set_cons_succ, i64_w, i32_w]
          rfl
        refine pure_ (i := 18) (N := some 113) (v := ?_) (a' := ?_) (demurragelaw02_RatioSums.ups 37 524287) rfl rfl (any_of HT_.out (by kernel_rfl)) (fun _ _ _ h => h) (Or.inl ⟨by rfl, ?_⟩) ?_ ?_
        rotate_left
        · intro w'
          go_simp
          with_reducible rfl
        rotate_left
        · simp only [Act.put, List.setIfInBounds_toArray, List.set_cons_zero, List.set_cons_succ, i64_w, i32_w]
          rfl
        refine pure_ (i := 19) (N := some 114) (v := ?_) (a' := ?_) (demurragelaw02_RatioSums.ups 37 1048575) rfl rfl (any_of HT_.out (by kernel_rfl)) (fun _ _ _ h => h) (Or.inl ⟨by rfl, ?_⟩) ?_ ?_
        rotate_left
        · intro w'
          go_simp
          with_reducible rfl
        rotate_left
        · simp only [Act.put, List.setIfInBounds_toArray, List.set_cons_zero, List.set_cons_succ, i64_w, i32_w]
          rfl
        refine pure_ (i := 20) (N := some 115) (v := ?_) (a' := ?_) (demurragelaw02_RatioSums.ups 37 2097151) rfl rfl (any_of HT_.out (by kernel_rfl)) (fun _ _ _ h => h) (Or.inl ⟨by rfl, ?_⟩) ?_ ?_
        rotate_left
        · intro w'
          go_simp
          with_reducible rfl
        rotate_left
        · simp only [Act.put, List.setIfInBounds_toArray, List.set_cons_zero, List.set_cons_succ, i64_w, i32_w]
          rfl
        refine pure_ (i := 21) (N := some 116) (v := ?_) (a' := ?_) (demurragelaw02_RatioSums.ups 37 4194303) rfl rfl (any_of HT_.out (by kernel_rfl)) (fun _ _ _ h => h) (Or.inl ⟨by rfl, ?_⟩) ?_ ?_
        rotate_left
        · intro w'
          go_simp
          with_reducible rfl
        rotate_left
        · simp only [Act.put, List.setIfInBounds_toArray, List.set_cons_zero, List.set_cons_succ, i64_w, i32_w]
          rfl
        refine pure_ (i := 22) (N := some 117) (v := undef) (a' := ?_) (demurragelaw02_RatioSums.ups 37 8388607) rfl rfl (any_of HT_.out (by kernel_rfl)) (fun _ _ _ h => h) (Or.inr ⟨by rfl, rfl⟩) ?_ ?_
        rotate_left
        · simp only [Act.put, List.setIfInBounds_toArray, List.set_cons_zero, List.set_cons_succ, i64_w, i32_w]
          rfl
        refine pure_ (i := 23) (N := some 118) (v := undef) (a' := ?_) (demurragelaw02_RatioSums.ups 37 16777215) rfl rfl (any_of HT_.out (by kernel_rfl)) (fun _ _ _ h => h) (Or.inr ⟨by rfl, rfl⟩) ?_ ?_
        rotate_left
        · simp only [Act.put, List.setIfInBounds_toArray, List.set_cons_zero, List.set_cons_succ, i64_w, i32_w]
          rfl
        refine pure_ (i := 24) (N := some 119) (v := undef) (a' := ?_) (demurragelaw02_RatioSums.ups 37 33554431) rfl rfl (any_of HT_.out (by kernel_rfl)) (fun _ _ _ h => h) (Or.inr ⟨by rfl, rfl⟩) ?_ ?_
        rotate_left
        · simp only [Act.put, List.setIfInBounds_toArray, List.set_cons_zero, List.set_cons_succ, i64_w, i32_w]
          rfl
        refine pure_ (i := 25) (N := some 120) (v := ?_) (a' := ?_) (demurragelaw02_RatioSums.ups 37 67108863) rfl rfl (any_of HT_.out (by kernel_rfl)) (fun _ _ _ h => h) (Or.inl ⟨by rfl, ?_⟩) ?_ ?_
        rotate_left
        · intro w'
          go_simp
          with_reducible rfl
        rotate_left
        · simp only [Act.put, List.setIfInBounds_toArray, List.set_cons_zero, List.set_cons_succ, i64_w, i32_w]
          rfl
        refine pure_ (i := 26) (N := some 121) (v := ?_) (a' := ?_) (demurragelaw02_RatioSums.ups 37 134217727) rfl rfl (any_of HT_.out (by kernel_rfl)) (fun _ _ _ h => h) (Or.inl ⟨by rfl, ?_⟩) ?_ ?_
        rotate_left
        · intro w'
          go_simp
          with_reducible rfl
        rotate_left
        · simp only [Act.put, List.setIfInBounds_toArray, List.set_cons_zero, List.set_cons_succ, i64_w, i32_w]
          rfl
        refine pure_ (i := 27) (N := some 122) (v := ?_) (a' := ?_) (demurragelaw02_RatioSums.ups 37 268435455) rfl rfl (any_of HT_.out (by kernel_rfl)) (fun _ _ _ h => h) (Or.inl ⟨by rfl, ?_⟩) ?_ ?_
        rotate_left
        · intro w'
          go_simp
          with_reducible rfl
        rotate_left
        · simp only [Act.put, List.setIfInBounds_toArray, List.set_cons_zero, List.set_cons_succ, i64_w, i32_w]
          rfl
        refine take_ (i := 28) (N := some 123) (v := ?_) (a' := ?_) (demurragelaw02_RatioSums.ups 37 536870911) rfl rfl (take_ofW HT_.out HW_.out (by kernel_rfl)) (fun _ _ _ h => h) (Or.inl ⟨by rfl, ?_⟩) hHeld ?_ ?_
        rotate_left
        · rintro w' ⟨s0, s1, s2, s3, s4, s5, s6, s7, s8, s9, s10, s11⟩
          go_simp
          with_reducible rfl
        rotate_left
        · simp only [Act.put, List.setIfInBounds_toArray, List.set_cons_zero, List.set_cons_succ, i64_w, i32_w]
          rfl
        refine take_ (i := 29) (N := some 124) (v := ?_) (a' := ?_) (demurragelaw02_RatioSums.ups 37 1073741823) rfl rfl (take_ofW HT_.out HW_.out (by kernel_rfl)) (fun _ _ _ h => h) (Or.inl ⟨by rfl, ?_⟩) hHeld ?_ ?_
        rotate_left
        · rintro w' ⟨s0, s1, s2, s3, s4, s5, s6, s7, s8, s9, s10, s11⟩
          go_simp
          with_reducible rfl
        rotate_left
        · simp only [Act.put, List.setIfInBounds_toArray, List.set_cons_zero, List.set_cons_succ, i64_w, i32_w]
          rfl
        refine take_ (i := 31) (N := some 126) (v := ?_) (a' := ?_) (demurragelaw02_RatioSums.ups 37 3221225471) rfl rfl (take_ofW HT_.out HW_.out (by kernel_rfl)) (fun _ _ _ h => h) (Or.inl ⟨by rfl, ?_⟩) hHeld ?_ ?_
        rotate_left
        · rintro w' ⟨s0, s1, s2, s3, s4, s5, s6, s7, s8, s9, s10, s11⟩
          go_simp
          with_reducible rfl
        rotate_left
        · simp only [Act.put, List.setIfInBounds_toArray, List.set_cons_zero, List.set_cons_succ, i64_w, i32_w]
          rfl
        refine take_ (i := 32) (N := some 127) (v := ?_) (a' := ?_) (demurragelaw02_RatioSums.ups 37 7516192767) rfl rfl (take_ofW HT_.out HW_.out (by kernel_rfl)) (fun _ _ _ h => h) (Or.inl ⟨by rfl, ?_⟩) hHeld ?_ ?_
        rotate_left
        · rintro w' ⟨s0, s1, s2, s3, s4, s5, s6, s7, s8, s9, s10, s11⟩
          go_simp
          with_reducible rfl
        rotate_left
        · simp only [Act.put, List.setIfInBounds_toArray, List.set_cons_zero, List.set_cons_succ, i64_w, i32_w]
          rfl
        refine one_ (i := 30) (N := some 125) (demurragelaw02_RatioSums.ups 37 8589934591) rfl rfl (one_of HT_.out (by kernel_rfl)) (by decide) (fun K hK => ?_)
        refine goes_ Try.func50 (by kernel_rfl) rfl #[.agg #[.int .i64 t5614, .int .i64 t5615], .agg #[.int .i64 t5586, .int .i64 t5587]] (by rfl) rfl rfl (by (try simp only [List.map_toArray, List.map_cons, List.map_nil]); first | done | rfl) ?_
        with_reducible refine (ratio_Cmp.calls t5614 t5615 t5586 t5587 t5618 _ A52.out).mono ?_
        rintro e w282 ⟨rfl, hb⟩
        refine ⟨_, rfl, ?_⟩
        have n0_ := Aside0.mk (blk_below (g := gb5449) (o := .cells #[.int .i64 a0_0, .int .i64 a0_1] 57 (0, 0)) (by exact BK5449.out) hb)
        have n1_ := Aside0.mk (blk_below (g := gb5450) (o := .cells #[.int .i64 a1_0, .int .i64 a1_1] 57 (0, 0)) (by exact BK5450.out) hb)
        have n2_ := Aside0.mk (blk_below (g := gb5451) (o := .cells #[.int .i64 a2_0, .int .i64 a2_1] 57 (0, 0)) (by exact BK5451.out) hb)
        have n3_ := Aside0.mk (blk_below (g := gb5585) (o := .cells #[.int .i64 t5582, .int .i64 t5583] 57 (0, 0)) (by exact BK5585.out) hb)
        have n4_ := Aside0.mk (blk_below (g := gb5589) (o := .cells #[.int .i64 t5586, .int .i64 t5587] 57 (0, 0)) (by exact BK5589.out) hb)
        have n5_ := Aside0.mk (blk_below (g := gb5593) (o := .cells #[.int .i64 t5590, .int .i64 t5591] 57 (0, 0)) (by exact BK5593.out) hb)
        have n6_ := Aside0.mk (blk_below (g := gb5597) (o := .cells #[.int .i64 t5594, .int .i64 t5595] 57 (0, 0)) (by exact BK5597.out) hb)
        have n7_ := Aside0.mk (blk_below (g := gb5601) (o := .cells #[.int .i64 t5598, .int .i64 t5599] 57 (0, 0)) (by exact BK5601.out) hb)
        have n8_ := Aside0.mk (blk_below (g := gb5605) (o := .cells #[.int .i64 t5602, .int .i64 t5603] 57 (0, 0)) (by exact BK5605.out) hb)
        have n9_ := Aside0.mk (blk_below (g := gb5609) (o := .cells #[.int .i64 t5606, .int .i64 t5607] 57 (0, 0)) (by exact BK5609.out) hb)
        have n10_ := Aside0.mk (blk_below (g := gb5613) (o := .cells #[.int .i64 t5610, .int .i64 t5611] 57 (0, 0)) (by exact BK5613.out) hb)
        have n11_ := Aside0.mk (blk_below (g := gb5617) (o := .cells #[.int .i64 t5614, .int .i64 t5615] 57 (0, 0)) (by exact BK5617.out) hb)
        have n12_ := Aside0.mk (below_step (by repeat (first | (with_reducible first | exact HB.out | apply below_alloc | apply pw_below_drewN | apply below_drew1 | refine below_set ?_ GE5449.out | refine below_set ?_ GE5450.out | refine below_set ?_ GE5451.out | refine below_set ?_ GE5585.out | refine below_set ?_ GE5589.out | refine below_set ?_ GE5593.out | refine below_set ?_ GE5597.out | refine below_set ?_ GE5601.out | refine below_set ?_ GE5605.out | refine below_set ?_ GE5609.out | refine below_set ?_ GE5613.out | refine below_set ?_ GE5617.out) | exact HB.out)) hb)
        clear BK5449 BK5450 BK5451 BK5585 BK5589 BK5593 BK5597 BK5601 BK5605 BK5609 BK5613 BK5617 HB
        have BK5449 := n0_
        have BK5450 := n1_
        have BK5451 := n2_
        have BK5585 := n3_
        have BK5589 := n4_
        have BK5593 := n5_
        have BK5597 := n6_
        have BK5601 := n7_
        have BK5605 := n8_
        have BK5609 := n9_
        have BK5613 := n10_
        have BK5617 := n11_
        have HB := n12_
        clear n0_ n1_ n2_ n3_ n4_ n5_ n6_ n7_ n8_ n9_ n10_ n11_ n12_
        (try clear hb)
        (try clear hb2)
        (try clear hk)
        (try clear hi)
        refine hK.out _ _ ⟨(blk_cell BK5593.out 0).trans rfl, (blk_cell BK5593.out 1).trans rfl, (blk_cell BK5597.out 0).trans rfl, (blk_cell BK5597.out 1).trans rfl, (blk_cell BK5617.out 0).trans rfl, (blk_cell BK5617.out 1).trans rfl, (blk_cell BK5589.out 0).trans rfl, (blk_cell BK5589.out 1).trans rfl, (blk_cell BK5449.out 0).trans rfl, (blk_cell BK5449.out 1).trans rfl, (blk_cell BK5450.out 0).trans rfl, (blk_cell BK5450.out 1).trans rfl⟩ (fun hHeld => ?_)
        clear hK K
        refine norm_ (a' := ?_) ?_ ?_
        rotate_left
        · show Act.put _ (some 125) _ = _
          simp only [Act.put, List.setIfInBounds_toArray, List.set_cons_zero, List.set_cons_succ, i64_w, i32_w]
          rfl
        refine one_ (i := 33) (N := some 128) (demurragelaw02_RatioSums.ups 37 17179869183) rfl rfl (one_of HT_.out (by kernel_rfl)) (by decide) (fun K hK => ?_)
        refine goes_ Try.func50 (by kernel_rfl) rfl #[.agg #[.int .i64 a0_0, .int .i64 a0_1], .agg #[.int .i64 a1_0, .int .i64 a1_1]] (by rfl) rfl rfl (by (try simp only [List.map_toArray, List.map_cons, List.map_nil]); first | done | rfl) ?_
        with_reducible refine (ratio_Cmp.calls a0_0 a0_1 a1_0 a1_1 t5619 _ A53.out).mono ?_
        rintro e w283 ⟨rfl, hb⟩
        refine ⟨_, rfl, ?_⟩
        have n0_ := Aside0.mk (blk_below (g := gb5449) (o := .cells #[.int .i64 a0_0, .int .i64 a0_1] 57 (0, 0)) (by exact BK5449.out) hb)
        have n1_ := Aside0.mk (blk_below (g := gb5450) (o := .cells #[.int .i64 a1_0, .int .i64 a1_1] 57 (0, 0)) (by exact BK5450.out) hb)
        have n2_ := Aside0.mk (blk_below (g := gb5451) (o := .cells #[.int .i64 a2_0, .int .i64 a2_1] 57 (0, 0)) (by exact BK5451.out) hb)
        have n3_ := Aside0.mk (blk_below (g := gb5585) (o := .cells #[.int .i64 t5582, .int .i64 t5583] 57 (0, 0)) (by exact BK5585.out) hb)
        have n4_ := Aside0.mk (blk_below (g := gb5589) (o := .cells #[.int .i64 t5586, .int .i64 t5587] 57 (0, 0)) (by exact BK5589.out) hb)
        have n5_ := Aside0.mk (blk_below (g := gb5593) (o := .cells #[.int .i64 t5590, .int .i64 t5591] 57 (0, 0)) (by exact BK5593.out) hb)
        have n6_ := Aside0.mk (blk_below (g := gb5597) (o := .cells #[.int .i64 t5594, .int .i64 t5595] 57 (0, 0)) (by exact BK5597.out) hb)
        have n7_ := Aside0.mk (blk_below (g := gb5601) (o := .cells #[.int .i64 t5598, .int .i64 t5599] 57 (0, 0)) (by exact BK5601.out) hb)
        have n8_ := Aside0.mk (blk_below (g := gb5605) (o := .cells #[.int .i64 t5602, .int .i64 t5603] 57 (0, 0)) (by exact BK5605.out) hb)
        have n9_ := Aside0.mk (blk_below (g := gb5609) (o := .cells #[.int .i64 t5606, .int .i64 t5607] 57 (0, 0)) (by exact BK5609.out) hb)
        have n10_ := Aside0.mk (blk_below (g := gb5613) (o := .cells #[.int .i64 t5610, .int .i64 t5611] 57 (0, 0)) (by exact BK5613.out) hb)
        have n11_ := Aside0.mk (blk_below (g := gb5617) (o := .cells #[.int .i64 t5614, .int .i64 t5615] 57 (0, 0)) (by exact BK5617.out) hb)
        have n12_ := Aside0.mk (below_step (by repeat (first | (with_reducible first | exact HB.out | apply below_alloc | apply pw_below_drewN | apply below_drew1 | refine below_set ?_ GE5449.out | refine below_set ?_ GE5450.out | refine below_set ?_ GE5451.out | refine below_set ?_ GE5585.out | refine below_set ?_ GE5589.out | refine below_set ?_ GE5593.out | refine below_set ?_ GE5597.out | refine below_set ?_ GE5601.out | refine below_set ?_ GE5605.out | refine below_set ?_ GE5609.out | refine below_set ?_ GE5613.out | refine below_set ?_ GE5617.out) | exact HB.out)) hb)
        clear BK5449 BK5450 BK5451 BK5585 BK5589 BK5593 BK5597 BK5601 BK5605 BK5609 BK5613 BK5617 HB
        have BK5449 := n0_
        have BK5450 := n1_
        have BK5451 := n2_
        have BK5585 := n3_
        have BK5589 := n4_
        have BK5593 := n5_
        have BK5597 := n6_
        have BK5601 := n7_
        have BK5605 := n8_
        have BK5609 := n9_
        have BK5613 := n10_
        have BK5617 := n11_
        have HB := n12_
        clear n0_ n1_ n2_ n3_ n4_ n5_ n6_ n7_ n8_ n9_ n10_ n11_ n12_
        (try clear hb)
        (try clear hb2)
        (try clear hk)
        (try clear hi)
        refine hK.out _ _ ⟨(blk_cell BK5593.out 0).trans rfl, (blk_cell BK5593.out 1).trans rfl, (blk_cell BK5597.out 0).trans rfl, (blk_cell BK5597.out 1).trans rfl, (blk_cell BK5617.out 0).trans rfl, (blk_cell BK5617.out 1).trans rfl, (blk_cell BK5589.out 0).trans rfl, (blk_cell BK5589.out 1).trans rfl, (blk_cell BK5449.out 0).trans rfl, (blk_cell BK5449.out 1).trans rfl, (blk_cell BK5450.out 0).trans rfl, (blk_cell BK5450.out 1).trans rfl⟩ (fun hHeld => ?_)
        clear hK K
        refine norm_ (a' := ?_) ?_ ?_
        rotate_left
        · show Act.put _ (some 128) _ = _
          simp only [Act.put, List.setIfInBounds_toArray, List.set_cons_zero, List.set_cons_succ, i64_w, i32_w]
          rfl
        refine pure_ (i := 34) (N := some 129) (v := ?_) (a' := ?_) (demurragelaw02_RatioSums.ups 37 34359738367) rfl rfl (any_of HT_.out (by kernel_rfl)) (fun _ _ _ h => h) (Or.inl ⟨by rfl, ?_⟩) ?_ ?_
        rotate_left
        · intro w'
          go_simp
          with_reducible rfl
        rotate_left
        · simp only [Act.put, List.setIfInBounds_toArray, List.set_cons_zero, List.set_cons_succ, i64_w, i32_w]
          rfl
        refine pure_ (i := 35) (N := some 130) (v := ?_) (a' := ?_) (demurragelaw02_RatioSums.ups 37 68719476735) rfl rfl (any_of HT_.out (by kernel_rfl)) (fun _ _ _ h => h) (Or.inl ⟨by rfl, ?_⟩) ?_ ?_
        rotate_left
        · intro w'
          go_simp
          with_reducible rfl
        rotate_left
        · simp only [Act.put, List.setIfInBounds_toArray, List.set_cons_zero, List.set_cons_succ, i64_w, i32_w]
          rfl
        refine pure_ (i := 36) (N := some 6) (v := ?_) (a' := ?_) (demurragelaw02_RatioSums.ups 37 137438953471) rfl rfl (any_of HT_.out (by kernel_rfl)) (fun _ _ _ h => h) (Or.inl ⟨by rfl, ?_⟩) ?_ ?_
        rotate_left
        · intro w'
          go_simp
          with_reducible rfl
        rotate_left
        · simp only [Act.put, List.setIfInBounds_toArray, List.set_cons_zero, List.set_cons_succ, i64_w, i32_w]
          rfl
        refine done_ (done_of HT_.out (by kernel_rfl)) ?_
        try go_wp2
        go_ret
        exact ⟨by rfl, by repeat (first | (with_reducible first | exact HB.out | apply below_alloc | apply pw_below_drewN | apply below_drew1 | refine below_set ?_ GE5449.out | refine below_set ?_ GE5450.out | refine below_set ?_ GE5451.out | refine below_set ?_ GE5585.out | refine below_set ?_ GE5589.out | refine below_set ?_ GE5593.out | refine below_set ?_ GE5597.out | refine below_set ?_ GE5601.out | refine below_set ?_ GE5605.out | refine below_set ?_ GE5609.out | refine below_set ?_ GE5613.out | refine below_set ?_ GE5617.out) | exact HB.out)⟩
      · refine start_ (n := 37) (S := fun w' => w'.cell? ⟨gb5593, 0, none⟩ = some (.int .i64 t5590) ∧ w'.cell? ⟨gb5593, 1, none⟩ = some (.int .i64 t5591) ∧ w'.cell? ⟨gb5597, 0, none⟩ = some (.int .i64 t5594) ∧ w'.cell? ⟨gb5597, 1, none⟩ = some (.int .i64 t5595) ∧ w'.cell? ⟨gb5609, 0, none⟩ = some (.int .i64 t5606) ∧ w'.cell? ⟨gb5609, 1, none⟩ = some (.int .i64 t5607) ∧ w'.cell? ⟨gb5613, 0, none⟩ = some (.int .i64 t5610) ∧ w'.cell? ⟨gb5613, 1, none⟩ = some (.int .i64 t5611) ∧ w'.cell? ⟨gb5617, 0, none⟩ = some (.int .i64 t5614) ∧ w'.cell? ⟨gb5617, 1, none⟩ = some (.int .i64 t5615) ∧ w'.cell? ⟨gb5589, 0, none⟩ = some (.int .i64 t5586) ∧ w'.cell? ⟨gb5589, 1, none⟩ = some (.int .i64 t5587) ∧ w'.cell? ⟨gb5449, 0, none⟩ = some (.int .i64 a0_0) ∧ w'.cell? ⟨gb5449, 1, none⟩ = some (.int .i64 a0_1) ∧ w'.cell? ⟨gb5450, 0, none⟩ = some (.int .i64 a1_0) ∧ w'.cell? ⟨gb5450, 1, none⟩ = some (.int .i64 a1_1)) (ds := []) (demurragelaw02_RatioSums.ups 37 0) (by kernel_rfl) rfl rfl ⟨(blk_cell BK5593.out 0).trans rfl, (blk_cell BK5593.out 1).trans rfl, (blk_cell BK5597.out 0).trans rfl, (blk_cell BK5597.out 1).trans rfl, (blk_cell BK5609.out 0).trans rfl, (blk_cell BK5609.out 1).trans rfl, (blk_cell BK5613.out 0).trans rfl, (blk_cell BK5613.out 1).trans rfl, (blk_cell BK5617.out 0).trans rfl, (blk_cell BK5617.out 1).trans rfl, (blk_cell BK5589.out 0).trans rfl, (blk_cell BK5589.out 1).trans rfl, (blk_cell BK5449.out 0).trans rfl, (blk_cell BK5449.out 1).trans rfl, (blk_cell BK5450.out 0).trans rfl, (blk_cell BK5450.out 1).trans rfl⟩ (fun hHeld => ?_); refine with_tabW demurragelaw02_RatioSums.tab13 demurragelaw02_RatioSums.bits13 (fun HT_ HW_ => ?_)
        generalize w164.drew = w165 at BK5449 BK5450 BK5451 BK5585 BK5589 BK5593 BK5597 BK5601 BK5605 BK5609 BK5613 BK5617 HB hHeld ⊢
        refine pure_ (i := 0) (N := some 95) (v := ?_) (a' := ?_) (demurragelaw02_RatioSums.ups 37 1) rfl rfl (any_of HT_.out (by kernel_rfl)) (fun _ _ _ h => h) (Or.inl ⟨by rfl, ?_⟩) ?_ ?_
        rotate_left
        · intro w'
          go_simp
          with_reducible rfl
        rotate_left
        · simp only [Act.put, List.setIfInBounds_toArray, List.set_cons_zero, List.set_cons_succ, i64_w, i32_w]
          rfl
        refine pure_ (i := 1) (N := some 96) (v := ?_) (a' := ?_) (demurragelaw02_RatioSums.ups 37 3) rfl rfl (any_of HT_.out (by kernel_rfl)) (fun _ _ _ h => h) (Or.inl ⟨by rfl, ?_⟩) ?_ ?_
        rotate_left
        · intro w'
          go_simp
          with_reducible rfl
        rotate_left
        · simp only [Act.put, List.setIfInBounds_toArray, List.set_cons_zero, List.set_cons_succ, i64_w, i32_w]
          rfl
        refine pure_ (i := 2) (N := some 97) (v := ?_) (a' := ?_) (demurragelaw02_RatioSums.ups 37 7) rfl rfl (any_of HT_.out (by kernel_rfl)) (fun _ _ _ h => h) (Or.inl ⟨by rfl, ?_⟩) ?_ ?_
        rotate_left
        · intro w'
          go_simp
          with_reducible rfl
        rotate_left
        · simp only [Act.put, List.setIfInBounds_toArray, List.set_cons_zero, List.set_cons_succ, i64_w, i32_w]
          rfl
        refine pure_ (i := 3) (N := some 98) (v := ?_) (a' := ?_) (demurragelaw02_RatioSums.ups 37 15) rfl rfl (any_of HT_.out (by kernel_rfl)) (fun _ _ _ h => h) (Or.inl ⟨by rfl, ?_⟩) ?_ ?_
        rotate_left
        · intro w'
          go_simp
          with_reducible rfl
        rotate_left
        · simp only [Act.put, List.setIfInBounds_toArray, List.set_cons_zero, List.set_cons_succ, i64_w, i32_w]
          rfl
        refine pure_ (i := 4) (N := some 99) (v := ?_) (a' := ?_) (demurragelaw02_RatioSums.ups 37 31) rfl rfl (any_of HT_.out (by kernel_rfl)) (fun _ _ _ h => h) (Or.inl ⟨by rfl, ?_⟩) ?_ ?_
        rotate_left
        · intro w'
          go_simp
          with_reducible rfl
        rotate_left
        · simp only [Act.put, List.setIfInBounds_toArray, List.set_cons_zero, List.set_cons_succ, i64_w, i32_w]
          rfl
        refine pure_ (i := 5) (N := some 100) (v := ?_) (a' := ?_) (demurragelaw02_RatioSums.ups 37 63) rfl rfl (any_of HT_.out (by kernel_rfl)) (fun _ _ _ h => h) (Or.inl ⟨by rfl, ?_⟩) ?_ ?_
        rotate_left
        · intro w'
          go_simp
          with_reducible rfl
        rotate_left
        · simp only [Act.put, List.setIfInBounds_toArray, List.set_cons_zero, List.set_cons_succ, i64_w, i32_w]
          rfl
        refine pure_ (i := 6) (N := some 101) (v := ?_) (a' := ?_) (demurragelaw02_RatioSums.ups 37 127) rfl rfl (any_of HT_.out (by kernel_rfl)) (fun _ _ _ h => h) (Or.inl ⟨by rfl, ?_⟩) ?_ ?_
        rotate_left
        · intro w'
          go_simp
          with_reducible rfl
        rotate_left
        · simp only [Act.put, List.setIfInBounds_toArray, List.set_cons_zero, List.set_cons_succ, i64_w, i32_w]
          rfl
        refine pure_ (i := 7) (N := some 102) (v := ?_) (a' := ?_) (demurragelaw02_RatioSums.ups 37 255) rfl rfl (any_of HT_.out (by kernel_rfl)) (fun _ _ _ h => h) (Or.inl ⟨by rfl, ?_⟩) ?_ ?_
        rotate_left
        · intro w'
          go_simp
          with_reducible rfl
        rotate_left
        · simp only [Act.put, List.setIfInBounds_toArray, List.set_cons_zero, List.set_cons_succ, i64_w, i32_w]
          rfl
        refine pure_ (i := 8) (N := some 103) (v := ?_) (a' := ?_) (demurragelaw02_RatioSums.ups 37 511) rfl rfl (any_of HT_.out (by kernel_rfl)) (fun _ _ _ h => h) (Or.inl ⟨by rfl, ?_⟩) ?_ ?_
        rotate_left
        · intro w'
          go_simp
          with_reducible rfl
        rotate_left
        · simp only [Act.put, List.setIfInBounds_toArray, List.set_cons_zero, List.set_cons_succ, i64_w, i32_w]
          rfl
        refine pure_ (i := 9) (N := some 104) (v := ?_) (a' := ?_) (demurragelaw02_RatioSums.ups 37 1023) rfl rfl (any_of HT_.out (by kernel_rfl)) (fun _ _ _ h => h) (Or.inl ⟨by rfl, ?_⟩) ?_ ?_
        rotate_left
        · intro w'
          go_simp
          with_reducible rfl
        rotate_left
        · simp only [Act.put, List.setIfInBounds_toArray, List.set_cons_zero, List.set_cons_succ, i64_w, i32_w]
          rfl
        refine take_ (i := 10) (N := some 105) (v := ?_) (a' := ?_) (demurragelaw02_RatioSums.ups 37 2047) rfl rfl (take_ofW HT_.out HW_.out (by kernel_rfl)) (fun _ _ _ h => h) (Or.inl ⟨by rfl, ?_⟩) hHeld ?_ ?_
        rotate_left
        · rintro w' ⟨s0, s1, s2, s3, s4, s5, s6, s7, s8, s9, s10, s11, s12, s13, s14, s15⟩
          go_simp
          with_reducible rfl
        rotate_left
        · simp only [Act.put, List.setIfInBounds_toArray, List.set_cons_zero, List.set_cons_succ, i64_w, i32_w]
          rfl
        refine take_ (i := 11) (N := some 106) (v := ?_) (a' := ?_) (demurragelaw02_RatioSums.ups 37 4095) rfl rfl (take_ofW HT_.out HW_.out (by kernel_rfl)) (fun _ _ _ h => h) (Or.inl ⟨by rfl, ?_⟩) hHeld ?_ ?_
        rotate_left
        · rintro w' ⟨s0, s1, s2, s3, s4, s5, s6, s7, s8, s9, s10, s11, s12, s13, s14, s15⟩
          go_simp
          with_reducible rfl
        rotate_left
        · simp only [Act.put, List.setIfInBounds_toArray, List.set_cons_zero, List.set_cons_succ, i64_w, i32_w]
          rfl
        refine pure_ (i := 12) (N := some 107) (v := ?_) (a' := ?_) (demurragelaw02_RatioSums.ups 37 8191) rfl rfl (any_of HT_.out (by kernel_rfl)) (fun _ _ _ h => h) (Or.inl ⟨by rfl, ?_⟩) ?_ ?_
        rotate_left
        · intro w'
          go_simp
          with_reducible rfl
        rotate_left
        · simp only [Act.put, List.setIfInBounds_toArray, List.set_cons_zero, List.set_cons_succ, i64_w, i32_w]
          rfl
        refine pure_ (i := 13) (N := some 108) (v := ?_) (a' := ?_) (demurragelaw02_RatioSums.ups 37 16383) rfl rfl (any_of HT_.out (by kernel_rfl)) (fun _ _ _ h => h) (Or.inl ⟨by rfl, ?_⟩) ?_ ?_
        rotate_left
        · intro w'
          go_simp
          with_reducible rfl
        rotate_left
        · simp only [Act.put, List.setIfInBounds_toArray, List.set_cons_zero, List.set_cons_succ, i64_w, i32_w]
          rfl
        refine pure_ (i := 14) (N := some 109) (v := ?_) (a' := ?_) (demurragelaw02_RatioSums.ups 37 32767) rfl rfl (any_of HT_.out (by kernel_rfl)) (fun _ _ _ h => h) (Or.inl ⟨by rfl, ?_⟩) ?_ ?_
        rotate_left
        · intro w'
          go_simp
          with_reducible rfl
        rotate_left
        · simp only [Act.put, List.setIfInBounds_toArray, List.set_cons_zero, List.set_cons_succ, i64_w, i32_w]
          rfl
        refine pure_ (i := 15) (N := some 110) (v := ?_) (a' := ?_) (demurragelaw02_RatioSums.ups 37 65535) rfl rfl (any_of HT_.out (by kernel_rfl)) (fun _ _ _ h => h) (Or.inl ⟨by rfl, ?_⟩) ?_ ?_
        rotate_left
        · intro w'
          go_simp
          with_reducible rfl
        rotate_left
        · simp only [Act.put, List.setIfInBounds_toArray, List.set_cons_zero, List.set_cons_succ, i64_w, i32_w]
          rfl
        refine pure_ (i := 16) (N := some 111) (v := ?_) (a' := ?_) (demurragelaw02_RatioSums.ups 37 131071) rfl rfl (any_of HT_.out (by kernel_rfl)) (fun _ _ _ h => h) (Or.inl ⟨by rfl, ?_⟩) ?_ ?_
        rotate_left
        · intro w'
          go_simp
          with_reducible rfl
        rotate_left
        · simp only [Act.put, List.setIfInBounds_toArray, List.set_cons_zero, List.set_cons_succ, i64_w, i32_w]
          rfl
        refine pure_ (i := 17) (N := some 112) (v := ?_) (a' := ?_) (demurragelaw02_RatioSums.ups 37 262143) rfl rfl (any_of HT_.out (by kernel_rfl)) (fun _ _ _ h => h) (Or.inl ⟨by rfl, ?_⟩) ?_ ?_
        rotate_left
        · intro w'
          go_simp
          with_reducible rfl
        rotate_left
        · simp only [Act.put, List.setIfInBounds_toArray, List.set_cons_zero, List.set_cons_succ, i64_w, i32_w]
          rfl
        refine pure_ (i := 18) (N := some 113) (v := ?_) (a' := ?_) (demurragelaw02_RatioSums.ups 37 524287) rfl rfl (any_of HT_.out (by kernel_rfl)) (fun _ _ _ h => h) (Or.inl ⟨by rfl, ?_⟩) ?_ ?_
        rotate_left
        · intro w'
          go_simp
          with_reducible rfl
        rotate_left
        · simp only [Act.put, List.setIfInBounds_toArray, List.set_cons_zero, List.set_cons_succ, i64_w, i32_w]
          rfl
        refine pure_ (i := 19) (N := some 114) (v := ?_) (a' := ?_) (demurragelaw02_RatioSums.ups 37 1048575) rfl rfl (any_of HT_.out (by kernel_rfl)) (fun _ _ _ h => h) (Or.inl ⟨by rfl, ?_⟩) ?_ ?_
        rotate_left
        · intro w'
          go_simp
          with_reducible rfl
        rotate_left
        · simp only [Act.put, List.setIfInBounds_toArray, List.set_cons_zero, List.set_cons_succ, i64_w, i32_w]
          rfl
        refine pure_ (i := 20) (N := some 115) (v := ?_) (a' := ?_) (demurragelaw02_RatioSums.ups 37 2097151) rfl rfl (any_of HT_.out (by kernel_rfl)) (fun _ _ _ h => h) (Or.inl ⟨by rfl, ?_⟩) ?_ ?_
        rotate_left
        · intro w'
          go_simp
          with_reducible rfl
        rotate_left
        · simp only [Act.put, List.setIfInBounds_toArray, List.set_cons_zero, List.set_cons_succ, i64_w, i32_w]
          rfl
        refine pure_ (i := 21) (N := some 116) (v := ?_) (a' := ?_) (demurragelaw02_RatioSums.ups 37 4194303) rfl rfl (any_of HT_.out (by kernel_rfl)) (fun _ _ _ h => h) (Or.inl ⟨by rfl, ?_⟩) ?_ ?_
        rotate_left
        · intro w'
          go_simp
          with_reducible rfl
        rotate_left
        · simp only [Act.put, List.setIfInBounds_toArray, List.set_cons_zero, List.set_cons_succ, i64_w, i32_w]
          rfl
        refine take_ (i := 22) (N := some 117) (v := ?_) (a' := ?_) (demurragelaw02_RatioSums.ups 37 8388607) rfl rfl (take_ofW HT_.out HW_.out (by kernel_rfl)) (fun _ _ _ h => h) (Or.inl ⟨by rfl, ?_⟩) hHeld ?_ ?_
        rotate_left
        · rintro w' ⟨s0, s1, s2, s3, s4, s5, s6, s7, s8, s9, s10, s11, s12, s13, s14, s15⟩
          go_simp
          with_reducible rfl
        rotate_left
        · simp only [Act.put, List.setIfInBounds_toArray, List.set_cons_zero, List.set_cons_succ, i64_w, i32_w]
          rfl
        refine take_ (i := 23) (N := some 118) (v := ?_) (a' := ?_) (demurragelaw02_RatioSums.ups 37 16777215) rfl rfl (take_ofW HT_.out HW_.out (by kernel_rfl)) (fun _ _ _ h => h) (Or.inl ⟨by rfl, ?_⟩) hHeld ?_ ?_
        rotate_left
        · rintro w' ⟨s0, s1, s2, s3, s4, s5, s6, s7, s8, s9, s10, s11, s12, s13, s14, s15⟩
          go_simp
          with_reducible rfl
        rotate_left
        · simp only [Act.put, List.setIfInBounds_toArray, List.set_cons_zero, List.set_cons_succ, i64_w, i32_w]
          rfl
        refine pure_ (i := 24) (N := some 119) (v := ?_) (a' := ?_) (demurragelaw02_RatioSums.ups 37 33554431) rfl rfl (any_of HT_.out (by kernel_rfl)) (fun _ _ _ h => h) (Or.inl ⟨by rfl, ?_⟩) ?_ ?_
        rotate_left
        · intro w'
          go_simp
          with_reducible rfl
        rotate_left
        · simp only [Act.put, List.setIfInBounds_toArray, List.set_cons_zero, List.set_cons_succ, i64_w, i32_w]
          rfl
        refine pure_ (i := 25) (N := some 120) (v := ?_) (a' := ?_) (demurragelaw02_RatioSums.ups 37 67108863) rfl rfl (any_of HT_.out (by kernel_rfl)) (fun _ _ _ h => h) (Or.inl ⟨by rfl, ?_⟩) ?_ ?_
        rotate_left
        · intro w'
          go_simp
          with_reducible rfl
        rotate_left
        · simp only [Act.put, List.setIfInBounds_toArray, List.set_cons_zero, List.set_cons_succ, i64_w, i32_w]
          rfl
        refine pure_ (i := 26) (N := some 121) (v := ?_) (a' := ?_) (demurragelaw02_RatioSums.ups 37 134217727) rfl rfl (any_of HT_.out (by kernel_rfl)) (fun _ _ _ h => h) (Or.inl ⟨by rfl, ?_⟩) ?_ ?_
        rotate_left
        · intro w'
          go_simp
          with_reducible rfl
        rotate_left
        · simp only [Act.put, List.setIfInBounds_toArray, List.set_cons_zero, List.set_cons_succ, i64_w, i32_w]
          rfl
        refine pure_ (i := 27) (N := some 122) (v := ?_) (a' := ?_) (demurragelaw02_RatioSums.ups 37 268435455) rfl rfl (any_of HT_.out (by kernel_rfl)) (fun _ _ _ h => h) (Or.inl ⟨by rfl, ?_⟩) ?_ ?_
        rotate_left
        · intro w'
          go_simp
          with_reducible rfl
        rotate_left
        · simp only [Act.put, List.setIfInBounds_toArray, List.set_cons_zero, List.set_cons_succ, i64_w, i32_w]
          rfl
        refine take_ (i := 28) (N := some 123) (v := ?_) (a' := ?_) (demurragelaw02_RatioSums.ups 37 536870911) rfl rfl (take_ofW HT_.out HW_.out (by kernel_rfl)) (fun _ _ _ h => h) (Or.inl ⟨by rfl, ?_⟩) hHeld ?_ ?_
        rotate_left
        · rintro w' ⟨s0, s1, s2, s3, s4, s5, s6, s7, s8, s9, s10, s11, s12, s13, s14, s15⟩
          go_simp
          with_reducible rfl
        rotate_left
        · simp only [Act.put, List.setIfInBounds_toArray, List.set_cons_zero, List.set_cons_succ, i64_w, i32_w]
          rfl
        refine take_ (i := 29) (N := some 124) (v := ?_) (a' := ?_) (demurragelaw02_RatioSums.ups 37 1073741823) rfl rfl (take_ofW HT_.out HW_.out (by kernel_rfl)) (fun _ _ _ h => h) (Or.inl ⟨by rfl, ?_⟩) hHeld ?_ ?_
        rotate_left
        · rintro w' ⟨s0, s1, s2, s3, s4, s5, s6, s7, s8, s9, s10, s11, s12, s13, s14, s15⟩
          go_simp
          with_reducible rfl
        rotate_left
        · simp only [Act.put, List.setIfInBounds_toArray, List.set_cons_zero, List.set_cons_succ, i64_w, i32_w]
          rfl
        refine take_ (i := 31) (N := some 126) (v := ?_) (a' := ?_) (demurragelaw02_RatioSums.ups 37 3221225471) rfl rfl (take_ofW HT_.out HW_.out (by kernel_rfl)) (fun _ _ _ h => h) (Or.inl ⟨by rfl, ?_⟩) hHeld ?_ ?_
        rotate_left
        · rintro w' ⟨s0, s1, s2, s3, s4, s5, s6, s7, s8, s9, s10, s11, s12, s13, s14, s15⟩
          go_simp
          with_reducible rfl
        rotate_left
        · simp only [Act.put, List.setIfInBounds_toArray, List.set_cons_zero, List.set_cons_succ, i64_w, i32_w]
          rfl
        refine take_ (i := 32) (N := some 127) (v := ?_) (a' := ?_) (demurragelaw02_RatioSums.ups 37 7516192767) rfl rfl (take_ofW HT_.out HW_.out (by kernel_rfl)) (fun _ _ _ h => h) (Or.inl ⟨by rfl, ?_⟩) hHeld ?_ ?_
        rotate_left
        · rintro w' ⟨s0, s1, s2, s3, s4, s5, s6, s7, s8, s9, s10, s11, s12, s13, s14, s15⟩
          go_simp
          with_reducible rfl
        rotate_left
        · simp only [Act.put, List.setIfInBounds_toArray, List.set_cons_zero, List.set_cons_succ, i64_w, i32_w]
          rfl
        refine one_ (i := 30) (N := some 125) (demurragelaw02_RatioSums.ups 37 8589934591) rfl rfl (one_of HT_.out (by kernel_rfl)) (by decide) (fun K hK => ?_)
        refine goes_ Try.func50 (by kernel_rfl) rfl #[.agg #[.int .i64 t5614, .int .i64 t5615], .agg #[.int .i64 t5586, .int .i64 t5587]] (by rfl) rfl rfl (by (try simp only [List.map_toArray, List.map_cons, List.map_nil]); first | done | rfl) ?_
        with_reducible refine (ratio_Cmp.calls t5614 t5615 t5586 t5587 t5618 _ A52.out).mono ?_
        rintro e w166 ⟨rfl, hb⟩
        refine ⟨_, rfl, ?_⟩
        have n0_ := Aside0.mk (blk_below (g := gb5449) (o := .cells #[.int .i64 a0_0, .int .i64 a0_1] 57 (0, 0)) (by exact BK5449.out) hb)
        have n1_ := Aside0.mk (blk_below (g := gb5450) (o := .cells #[.int .i64 a1_0, .int .i64 a1_1] 57 (0, 0)) (by exact BK5450.out) hb)
        have n2_ := Aside0.mk (blk_below (g := gb5451) (o := .cells #[.int .i64 a2_0, .int .i64 a2_1] 57 (0, 0)) (by exact BK5451.out) hb)
        have n3_ := Aside0.mk (blk_below (g := gb5585) (o := .cells #[.int .i64 t5582, .int .i64 t5583] 57 (0, 0)) (by exact BK5585.out) hb)
        have n4_ := Aside0.mk (blk_below (g := gb5589) (o := .cells #[.int .i64 t5586, .int .i64 t5587] 57 (0, 0)) (by exact BK5589.out) hb)
        have n5_ := Aside0.mk (blk_below (g := gb5593) (o := .cells #[.int .i64 t5590, .int .i64 t5591] 57 (0, 0)) (by exact BK5593.out) hb)
        have n6_ := Aside0.mk (blk_below (g := gb5597) (o := .cells #[.int .i64 t5594, .int .i64 t5595] 57 (0, 0)) (by exact BK5597.out) hb)
        have n7_ := Aside0.mk (blk_below (g := gb5601) (o := .cells #[.int .i64 t5598, .int .i64 t5599] 57 (0, 0)) (by exact BK5601.out) hb)
        have n8_ := Aside0.mk (blk_below (g := gb5605) (o := .cells #[.int .i64 t5602, .int .i64 t5603] 57 (0, 0)) (by exact BK5605.out) hb)
        have n9_ := Aside0.mk (blk_below (g := gb5609) (o := .cells #[.int .i64 t5606, .int .i64 t5607] 57 (0, 0)) (by exact BK5609.out) hb)
        have n10_ := Aside0.mk (blk_below (g := gb5613) (o := .cells #[.int .i64 t5610, .int .i64 t5611] 57 (0, 0)) (by exact BK5613.out) hb)
        have n11_ := Aside0.mk (blk_below (g := gb5617) (o := .cells #[.int .i64 t5614, .int .i64 t5615] 57 (0, 0)) (by exact BK5617.out) hb)
        have n12_ := Aside0.mk (below_step (by repeat (first | (with_reducible first | exact HB.out | apply below_alloc | apply pw_below_drewN | apply below_drew1 | refine below_set ?_ GE5449.out | refine below_set ?_ GE5450.out | refine below_set ?_ GE5451.out | refine below_set ?_ GE5585.out | refine below_set ?_ GE5589.out | refine below_set ?_ GE5593.out | refine below_set ?_ GE5597.out | refine below_set ?_ GE5601.out | refine below_set ?_ GE5605.out | refine below_set ?_ GE5609.out | refine below_set ?_ GE5613.out | refine below_set ?_ GE5617.out) | exact HB.out)) hb)
        clear BK5449 BK5450 BK5451 BK5585 BK5589 BK5593 BK5597 BK5601 BK5605 BK5609 BK5613 BK5617 HB
        have BK5449 := n0_
        have BK5450 := n1_
        have BK5451 := n2_
        have BK5585 := n3_
        have BK5589 := n4_
        have BK5593 := n5_
        have BK5597 := n6_
        have BK5601 := n7_
        have BK5605 := n8_
        have BK5609 := n9_
        have BK5613 := n10_
        have BK5617 := n11_
        have HB := n12_
        clear n0_ n1_ n2_ n3_ n4_ n5_ n6_ n7_ n8_ n9_ n10_ n11_ n12_
        (try clear hb)
        (try clear hb2)
        (try clear hk)
        (try clear hi)
        refine hK.out _ _ ⟨(blk_cell BK5593.out 0).trans rfl, (blk_cell BK5593.out 1).trans rfl, (blk_cell BK5597.out 0).trans rfl, (blk_cell BK5597.out 1).trans rfl, (blk_cell BK5609.out 0).trans rfl, (blk_cell BK5609.out 1).trans rfl, (blk_cell BK5613.out 0).trans rfl, (blk_cell BK5613.out 1).trans rfl, (blk_cell BK5617.out 0).trans rfl, (blk_cell BK5617.out 1).trans rfl, (blk_cell BK5589.out 0).trans rfl, (blk_cell BK5589.out 1).trans rfl, (blk_cell BK5449.out 0).trans rfl, (blk_cell BK5449.out 1).trans rfl, (blk_cell BK5450.out 0).trans rfl, (blk_cell BK5450.out 1).trans rfl⟩ (fun hHeld => ?_)
        clear hK K
        refine norm_ (a' := ?_) ?_ ?_
        rotate_left
        · show Act.put _ (some 125) _ = _
          simp only [Act.put, List.setIfInBounds_toArray, List.set_cons_zero, List.set_cons_succ, i64_w, i32_w]
          rfl
        refine one_ (i := 33) (N := some 128) (demurragelaw02_RatioSums.ups 37 17179869183) rfl rfl (one_of HT_.out (by kernel_rfl)) (by decide) (fun K hK => ?_)
        refine goes_ Try.func50 (by kernel_rfl) rfl #[.agg #[.int .i64 a0_0, .int .i64 a0_1], .agg #[.int .i64 a1_0, .int .i64 a1_1]] (by rfl) rfl rfl (by (try simp only [List.map_toArray, List.map_cons, List.map_nil]); first | done | rfl) ?_
        with_reducible refine (ratio_Cmp.calls a0_0 a0_1 a1_0 a1_1 t5619 _ A53.out).mono ?_
        rintro e w167 ⟨rfl, hb⟩
        refine ⟨_, rfl, ?_⟩
        have n0_ := Aside0.mk (blk_below (g := gb5449) (o := .cells #[.int .i64 a0_0, .int .i64 a0_1] 57 (0, 0)) (by exact BK5449.out) hb)
        have n1_ := Aside0.mk (blk_below (g := gb5450) (o := .cells #[.int .i64 a1_0, .int .i64 a1_1] 57 (0, 0)) (by exact BK5450.out) hb)
        have n2_ := Aside0.mk (blk_below (g := gb5451) (o := .cells #[.int .i64 a2_0, .int .i64 a2_1] 57 (0, 0)) (by exact BK5451.out) hb)
        have n3_ := Aside0.mk (blk_below (g := gb5585) (o := .cells #[.int .i64 t5582, .int .i64 t5583] 57 (0, 0)) (by exact BK5585.out) hb)
        have n4_ := Aside0.mk (blk_below (g := gb5589) (o := .cells #[.int .i64 t5586, .int .i64 t5587] 57 (0, 0)) (by exact BK5589.out) hb)
        have n5_ := Aside0.mk (blk_below (g := gb5593) (o := .cells #[.int .i64 t5590, .int .i64 t5591] 57 (0, 0)) (by exact BK5593.out) hb)
        have n6_ := Aside0.mk (blk_below (g := gb5597) (o := .cells #[.int .i64 t5594, .int .i64 t5595] 57 (0, 0)) (by exact BK5597.out) hb)
        have n7_ := Aside0.mk (blk_below (g := gb5601) (o := .cells #[.int .i64 t5598, .int .i64 t5599] 57 (0, 0)) (by exact BK5601.out) hb)
        have n8_ := Aside0.mk (blk_below (g := gb5605) (o := .cells #[.int .i64 t5602, .int .i64 t5603] 57 (0, 0)) (by exact BK5605.out) hb)
        have n9_ := Aside0.mk (blk_below (g := gb5609) (o := .cells #[.int .i64 t5606, .int .i64 t5607] 57 (0, 0)) (by exact BK5609.out) hb)
        have n10_ := Aside0.mk (blk_below (g := gb5613) (o := .cells #[.int .i64 t5610, .int .i64 t5611] 57 (0, 0)) (by exact BK5613.out) hb)
        have n11_ := Aside0.mk (blk_below (g := gb5617) (o := .cells #[.int .i64 t5614, .int .i64 t5615] 57 (0, 0)) (by exact BK5617.out) hb)
        have n12_ := Aside0.mk (below_step (by repeat (first | (with_reducible first | exact HB.out | apply below_alloc | apply pw_below_drewN | apply below_drew1 | refine below_set ?_ GE5449.out | refine below_set ?_ GE5450.out | refine below_set ?_ GE5451.out | refine below_set ?_ GE5585.out | refine below_set ?_ GE5589.out | refine below_set ?_ GE5593.out | refine below_set ?_ GE5597.out | refine below_set ?_ GE5601.out | refine below_set ?_ GE5605.out | refine below_set ?_ GE5609.out | refine below_set ?_ GE5613.out | refine below_set ?_ GE5617.out) | exact HB.out)) hb)
        clear BK5449 BK5450 BK5451 BK5585 BK5589 BK5593 BK5597 BK5601 BK5605 BK5609 BK5613 BK5617 HB
        have BK5449 := n0_
        have BK5450 := n1_
        have BK5451 := n2_
        have BK5585 := n3_
        have BK5589 := n4_
        have BK5593 := n5_
        have BK5597 := n6_
        have BK5601 := n7_
        have BK5605 := n8_
        have BK5609 := n9_
        have BK5613 := n10_
        have BK5617 := n11_
        have HB := n12_
        clear n0_ n1_ n2_ n3_ n4_ n5_ n6_ n7_ n8_ n9_ n10_ n11_ n12_
        (try clear hb)
        (try clear hb2)
        (try clear hk)
        (try clear hi)
        refine hK.out _ _ ⟨(blk_cell BK5593.out 0).trans rfl, (blk_cell BK5593.out 1).trans rfl, (blk_cell BK5597.out 0).trans rfl, (blk_cell BK5597.out 1).trans rfl, (blk_cell BK5609.out 0).trans rfl, (blk_cell BK5609.out 1).trans rfl, (blk_cell BK5613.out 0).trans rfl, (blk_cell BK5613.out 1).trans rfl, (blk_cell BK5617.out 0).trans rfl, (blk_cell BK5617.out 1).trans rfl, (blk_cell BK5589.out 0).trans rfl, (blk_cell BK5589.out 1).trans rfl, (blk_cell BK5449.out 0).trans rfl, (blk_cell BK5449.out 1).trans rfl, (blk_cell BK5450.out 0).trans rfl, (blk_cell BK5450.out 1).trans rfl⟩ (fun hHeld => ?_)
        clear hK K
        refine norm_ (a' := ?_) ?_ ?_
        rotate_left
        · show Act.put _ (some 128) _ = _
          simp only [Act.put, List.setIfInBounds_toArray, List.set_cons_zero, List.set_cons_succ, i64_w, i32_w]
          rfl
        refine pure_ (i := 34) (N := some 129) (v := ?_) (a' := ?_) (demurragelaw02_RatioSums.ups 37 34359738367) rfl rfl (any_of HT_.out (by kernel_rfl)) (fun _ _ _ h => h) (Or.inl ⟨by rfl, ?_⟩) ?_ ?_
        rotate_left
        · intro w'
          go_simp
          with_reducible rfl
        rotate_left
        · simp only [Act.put, List.setIfInBounds_toArray, List.set_cons_zero, List.set_cons_succ, i64_w, i32_w]
          rfl
        refine pure_ (i := 35) (N := some 130) (v := ?_) (a' := ?_) (demurragelaw02_RatioSums.ups 37 68719476735) rfl rfl (any_of HT_.out (by kernel_rfl)) (fun _ _ _ h => h) (Or.inl ⟨by rfl, ?_⟩) ?_ ?_
        rotate_left
        · intro w'
          go_simp
          with_reducible rfl
        rotate_left
        · simp only [Act.put, List.setIfInBounds_toArray, List.set_cons_zero, List.set_cons_succ, i64_w, i32_w]
          rfl
        refine pure_ (i := 36) (N := some 6) (v := ?_) (a' := ?_) (demurragelaw02_RatioSums.ups 37 137438953471) rfl rfl (any_of HT_.out (by kernel_rfl)) (fun _ _ _ h => h) (Or.inl ⟨by rfl, ?_⟩) ?_ ?_
        rotate_left
        · intro w'
          go_simp
          with_reducible rfl
        rotate_left
        · simp only [Act.put, List.setIfInBounds_toArray, List.set_cons_zero, List.set_cons_succ, i64_w, i32_w]
          rfl
        refine done_ (done_of HT_.out (by kernel_rfl)) ?_
        try go_wp2
        go_ret
        exact ⟨by rfl, by repeat (first | (with_reducible first | exact HB.out | apply below_alloc | apply pw_below_drewN | apply below_drew1 | refine below_set ?_ GE5449.out | refine below_set ?_ GE5450.out | refine below_set ?_ GE5451.out | refine below_set ?_ GE5585.out | refine below_set ?_ GE5589.out | refine below_set ?_ GE5593.out | refine below_set ?_ GE5597.out | refine below_set ?_ GE5601.out | refine below_set ?_ GE5605.out | refine below_set ?_ GE5609.out | refine below_set ?_ GE5613.out | refine below_set ?_ GE5617.out) | exact HB.out)⟩

end Go.Proofs.Ytcdbmmlnmefoeaa.X
