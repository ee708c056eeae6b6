-- CUT by prune.py, a program of this session, to what the claim reaches (out of a text that the kit's printer, the session's programs or the session wrote)
import Derived.Test.YtcdbmmlnmefoeaaProg
import Derived.Below
import Derived.Deep.Draws
import Derived.Deep.AppendLies
import Derived.Maps.AppendAt
import Derived.OwnWalk
import Derived.Laws.BytesArg
import Derived.Laws.MakeOwn
import Derived.Laws.OwnMore
import Derived.Deep.OwnRows
import Derived.Tactics
import Derived.Lib.ConvBytes
import Derived.Laws.Slices
import Derived.WalkKit
import Derived.KernelRfl
import Derived.RowKit3
import Derived.Deep.LoopGhost
import Derived.Deep.QuietTactic
import Derived.BigQuiet
import Derived.WideLaws
import Derived.Deep.DeepCutAuto
import Derived.Deep.CutBlock
import Derived.Deep.RegionHeld3
import Derived.Laws.Rows
import Derived.Lib.AppendStr
import Derived.ArgAppend
import Derived.Laws.IdiomCopy
import Derived.OrdersHeld
import Derived.Laws.BitsLemmas
import Derived.RowKit
import Derived.Test.YtcdbmmlnmefoeaaPRatioLawsWWords
import Derived.Test.YtcdbmmlnmefoeaaPRatioLawsWLast
import Derived.Test.YtcdbmmlnmefoeaaPRatioLawsWTab
import Derived.Test.YtcdbmmlnmefoeaaPRatioLawsWEqStruct
import Derived.Test.YtcdbmmlnmefoeaaPRatioLawsWMore
import Derived.Test.YtcdbmmlnmefoeaaPRatioLawsXEq
import Derived.Test.YtcdbmmlnmefoeaaPRatioLawsXRatio
import Derived.Test.YtcdbmmlnmefoeaaPRatioLawsXRefRight
import Derived.Test.YtcdbmmlnmefoeaaPRatioLawsXSTwo
namespace Go.Proofs.Ytcdbmmlnmefoeaa.X
open Go.RowKit Go.Proofs.YtcdbmmlnmefoeaaW.PrintWords Go.Proofs.YtcdbmmlnmefoeaaW.PrintLast Go.Proofs.YtcdbmmlnmefoeaaW.PrintMore
set_option linter.unusedVariables false
set_option linter.unusedSimpArgs false

attribute [local go_sem high] eqA57
def demurragelaw02_RatioLaws.upsl : Nat → Nat → List Bool
  | 0, _ => []
  | n + 1, m => (m % 2 == 1) :: demurragelaw02_RatioLaws.upsl n (m / 2)
def demurragelaw02_RatioLaws.ups (n m : Nat) : Array Bool := ⟨demurragelaw02_RatioLaws.upsl n m⟩
def demurragelaw02_RatioLaws.j0 : Nat → Bool → Bool → Int → Int → Int → Int → Option (Bool)
  | 0, _, _, _, _, _, _ => none
  | k + 1, x5, x28, x4807000, x4807001, x4808000, x4808001 => if x28 = true then (some x5) else ((ratio_Add.f x4807000 x4807001 x4808000 x4808001).bind fun bt5111 => ((ratio_Add.f x4808000 x4808001 x4807000 x4807001).bind fun bt5115 => ((ratio_Mul.f x4807000 x4807001 x4808000 x4808001).bind fun bt5119 => ((ratio_Mul.f x4808000 x4808001 x4807000 x4807001).bind fun bt5123 => ((ratio_Add.f x4807000 x4807001 0 1).bind fun bt5127 => ((ratio_Mul.f x4807000 x4807001 1 1).bind fun bt5131 => ((ratio_Mul.f x4807000 x4807001 0 1).bind fun bt5135 => (if (!(bt5111.1 == bt5115.1) || (!(bt5111.2.1 == bt5115.2.1))) = true then (none) else (if bt5111.2.2 = bt5115.2.2 then (if (!(bt5119.1 == bt5123.1) || (!(bt5119.2.1 == bt5123.2.1))) = true then (none) else (if bt5119.2.2 = bt5123.2.2 then (if (!(bt5127.1 == x4807000) || (!(bt5127.2.1 == x4807001))) = true then (none) else (if bt5127.2.2 = 0 then (if (!(bt5131.1 == x4807000) || (!(bt5131.2.1 == x4807001))) = true then (none) else (if bt5131.2.2 = 0 then (if (!(bt5135.1 == 0) || (!(bt5135.2.1 == 1))) = true then (none) else (if bt5135.2.2 = 0 then (if x5 = true then (if bt5111.2.2 = 0 then ((demurrageref02_Right.f k bt5111.1 bt5111.2.1).bind fun t5193 => (if t5193 = true then ((ratio_Cmp.f bt5111.1 bt5111.2.1 x4807000 x4807001).bind fun t5194 => (if t5194 ≥ 0 then ((ratio_Cmp.f bt5111.1 bt5111.2.1 x4808000 x4808001).bind fun t5195 => (if t5195 ≥ 0 then ((ratio_Cmp.f bt5111.1 bt5111.2.1 x4807000 x4807001).bind fun t5196 => (if ((t5196 == 0) == (x4808000 == 0)) = true then (if bt5119.2.2 = 0 then ((demurrageref02_Right.f k bt5119.1 bt5119.2.1).bind fun t5197 => (if t5197 = true then ((ratio_Cmp.f x4807000 x4807001 x4808000 x4808001).bind fun t5198 => ((ratio_Cmp.f x4808000 x4808001 x4807000 x4807001).bind fun t5199 => (if t5198 = (wrap64 (-t5199)) then ((ratio_Cmp.f x4807000 x4807001 x4808000 x4808001).bind fun t5200 => (some ((t5200 == 0) == (x4807000 == x4808000 && (x4807001 == x4808001))))) else (none)))) else (none))) else ((ratio_Cmp.f x4807000 x4807001 x4808000 x4808001).bind fun t5201 => ((ratio_Cmp.f x4808000 x4808001 x4807000 x4807001).bind fun t5202 => (if t5201 = (wrap64 (-t5202)) then ((ratio_Cmp.f x4807000 x4807001 x4808000 x4808001).bind fun t5203 => (some ((t5203 == 0) == (x4807000 == x4808000 && (x4807001 == x4808001))))) else (none))))) else (none))) else (none))) else (none))) else (none))) else (if bt5119.2.2 = 0 then ((demurrageref02_Right.f k bt5119.1 bt5119.2.1).bind fun t5204 => (if t5204 = true then ((ratio_Cmp.f x4807000 x4807001 x4808000 x4808001).bind fun t5205 => ((ratio_Cmp.f x4808000 x4808001 x4807000 x4807001).bind fun t5206 => (if t5205 = (wrap64 (-t5206)) then ((ratio_Cmp.f x4807000 x4807001 x4808000 x4808001).bind fun t5207 => (some ((t5207 == 0) == (x4807000 == x4808000 && (x4807001 == x4808001))))) else (none)))) else (none))) else ((ratio_Cmp.f x4807000 x4807001 x4808000 x4808001).bind fun t5208 => ((ratio_Cmp.f x4808000 x4808001 x4807000 x4807001).bind fun t5209 => (if t5208 = (wrap64 (-t5209)) then ((ratio_Cmp.f x4807000 x4807001 x4808000 x4808001).bind fun t5210 => (some ((t5210 == 0) == (x4807000 == x4808000 && (x4807001 == x4808001))))) else (none)))))) else (none)) else (none))) else (none))) else (none))) else (none))) else (none))))))))))
def demurragelaw02_RatioLaws.f (k : Nat) (a0_0 : Int) (a0_1 : Int) (a1_0 : Int) (a1_1 : Int) : Option (Bool) := (demurragelaw02_shown.f k).bind fun t4808 => ((demurrageref02_Right.f k a0_0 a0_1).bind fun t4809 => (if t4809 = true then ((demurrageref02_Right.f k a1_0 a1_1).bind fun t4810 => (demurragelaw02_RatioLaws.j0 k t4808 (!t4810) a0_0 a0_1 a1_0 a1_1)) else (demurragelaw02_RatioLaws.j0 k t4808 true a0_0 a0_1 a1_0 a1_1)))
def demurragelaw02_RatioLaws.T13 : Bool × List (List Nat × List Nat) := (true, [([], []), ([0], [0]), ([1], [1]), ([2, 1], [1, 2]), ([3, 1, 1], [1, 3]), ([4], [4]), ([5, 4, 4], [4, 5]), ([6, 6, 4], [4, 6]), ([7], [7]), ([7], [7]), ([8, 9, 7, 7], [7, 8, 9]), ([10, 7], [7, 10]), ([7, 11, 4], [4, 7, 11]), ([12, 10, 4], [4, 12]), ([13], [13]), ([13], [13]), ([14, 15, 13, 13], [13, 14, 15]), ([16, 13], [13, 16]), ([13, 17, 4], [4, 13, 17]), ([18, 16, 4], [4, 18]), ([19], [19]), ([19], [19]), ([20, 21, 19, 19], [19, 20, 21]), ([22, 19], [19, 22]), ([19], [19]), ([24, 19], [19, 24]), ([25, 19], [19, 25]), ([23, 26, 19], [19, 23, 26]), ([19, 27, 4], [4, 19, 27]), ([4, 28, 1], [1, 4, 28]), ([1, 29], [1, 29]), ([30, 22], [30]), ([31], [31]), ([32, 31], [31, 32]), ([33, 31, 31], [31, 33]), ([34], [34]), ([35, 34, 34], [34, 35]), ([34, 36, 31], [31, 34, 36]), ([31, 37], [31, 37]), ([38, 36], [38]), ([39], [39]), ([39], [39]), ([40, 41, 39, 39], [39, 40, 41]), ([39], [39]), ([39], [39]), ([43, 44, 42, 39], [39, 43, 44]), ([45, 39], [39, 45]), ([42, 46, 39], [39, 42, 46]), ([39, 47], [39, 47]), ([48, 45], [48]), ([49], [49]), ([49], [49]), ([50, 51, 49, 49], [49, 50, 51]), ([52, 49], [49, 52]), ([49], [49]), ([49], [49]), ([54, 55, 49], [49, 54, 55]), ([53, 56, 49], [49, 53, 56]), ([49, 57], [49, 57]), ([58, 52, 0, 1, 2, 3, 4, 5, 6, 7, 8, 9, 10, 11, 12, 13, 14, 15, 16, 17, 18, 19, 20, 21, 22, 23, 24, 25, 26, 27, 28, 29, 30, 31, 32, 33, 34, 35, 36, 37, 38, 39, 40, 41, 42, 43, 44, 45, 46, 47, 48, 49, 50, 51, 52, 53, 54, 55, 56, 57, 58], [58])])
def demurragelaw02_RatioLaws.B13 : List Nat := [0, 1, 3, 7, 15, 31, 63, 127, 255, 255, 1023, 2047, 4095, 8191, 16383, 16383, 65535, 131071, 262143, 524287, 1048575, 1048575, 4194303, 8388607, 1048575, 17825791, 51380223, 134217727, 268435455, 536870911, 1073741823, 2147483647, 4294967295, 8589934591, 17179869183, 34359738367, 68719476735, 137438953471, 274877906943, 549755813887, 1099511627775, 1099511627775, 4398046511103, 1099511627775, 1099511627775, 35184372088831, 70368744177663, 140737488355327, 281474976710655, 562949953421311, 1125899906842623, 1125899906842623, 4503599627370495, 9007199254740991, 1125899906842623, 1125899906842623, 55169095435288575, 144115188075855871, 288230376151711743, 576460752303423487]
theorem demurragelaw02_RatioLaws.tab13 : rtab .any (opsOf Try.f12 13) = demurragelaw02_RatioLaws.T13 := by kernel_rfl
theorem demurragelaw02_RatioLaws.bits13 : waitsOk demurragelaw02_RatioLaws.T13.2 demurragelaw02_RatioLaws.B13 = true := by kernel_rfl
set_option maxHeartbeats 8000000 in
set_option maxRecDepth 100000 in
theorem demurragelaw02_RatioLaws.calls (k : Nat) (a0_0 : Int) (a0_1 : Int) (a1_0 : Int) (a1_1 : Int) (r : Bool) (w : World) (h : demurragelaw02_RatioLaws.f k a0_0 a0_1 a1_0 a1_1 = some r) :
    Calls Try.prog 12 #[.agg #[.int .i64 a0_0, .int .i64 a0_1], .agg #[.int .i64 a1_0, .int .i64 a1_1]] w fun e w' => e = .returned (.bool r) ∧ Below w.heap.size w w' := by
  have hu57 := Try.underlying57
  have HB := Aside0.mk (Below.refl w.heap.size w)
  have H : ((demurragelaw02_shown.f k).bind fun t4808 => ((demurrageref02_Right.f k a0_0 a0_1).bind fun t4809 => (if t4809 = true then ((demurrageref02_Right.f k a1_0 a1_1).bind fun t4810 => (demurragelaw02_RatioLaws.j0 k t4808 (!t4810) a0_0 a0_1 a1_0 a1_1)) else (demurragelaw02_RatioLaws.j0 k t4808 true a0_0 a0_1 a1_0 a1_1)))) = some r := h
  clear h
  replace H := Option.bind_eq_some_iff.mp H
  obtain ⟨t4808, A30, H⟩ := H
  replace H : ((demurrageref02_Right.f k a0_0 a0_1).bind fun t4809 => (if t4809 = true then ((demurrageref02_Right.f k a1_0 a1_1).bind fun t4810 => (demurragelaw02_RatioLaws.j0 k t4808 (!t4810) a0_0 a0_1 a1_0 a1_1)) else (demurragelaw02_RatioLaws.j0 k t4808 true a0_0 a0_1 a1_0 a1_1))) = some r := H
  have A3 := Aside0.mk A30
  clear A30
  have HC4 := Aside0.mk H
  clear H
  go_enter Try.func12, Try.ntmps12
  go_upto_region 2 with (first | ((with_reducible refine gate_dst (N := 2) rfl ?_); refine box_event ?hg (N := 2) ?hd (cs := #[.int .i64 a0_0, .int .i64 a0_1]) (t := 57) ?hr ?_; (case hd => rfl); (case hg => rfl); (case hr => first | (go_simp; done) | (go_simp; rfl)); intro gb4806 hg w5 hbox hb; have n0_ := Aside0.mk (below_step (by repeat (first | (with_reducible first | exact HB.out | apply below_alloc | apply pw_below_drewN | apply below_drew1) | exact HB.out)) hb); have n1_ := Aside0.mk (hbox); have n2_ := Aside0.mk ((by rw [hg]; exact (below_size (by repeat (first | (with_reducible first | exact HB.out | apply below_alloc | apply pw_below_drewN | apply below_drew1) | exact HB.out))) : w.heap.size ≤ gb4806)); have n3_ := Aside0.mk ((by rw [hg]; exact (below_size (by repeat (first | (with_reducible first | exact HB.out | apply below_alloc | apply pw_below_drewN | apply below_drew1) | exact HB.out))) : w.heap.size ≤ gb4806)); clear HB; have HB := n0_; have BK4806 := n1_; have GW4806 := n2_; have GE4806 := n3_; clear n0_ n1_ n2_ n3_; clear hb hbox hg) | ((with_reducible refine gate_dst (N := 3) rfl ?_); refine box_event ?hg (N := 3) ?hd (cs := #[.int .i64 a1_0, .int .i64 a1_1]) (t := 57) ?hr ?_; (case hd => rfl); (case hg => rfl); (case hr => first | (go_simp; done) | (go_simp; rfl)); intro gb4807 hg w6 hbox hb; have n0_ := Aside0.mk (blk_below (g := gb4806) (o := .cells #[.int .i64 a0_0, .int .i64 a0_1] 57 (0, 0)) (by exact BK4806.out) hb); have n1_ := Aside0.mk (below_step (by repeat (first | (with_reducible first | exact HB.out | apply below_alloc | apply pw_below_drewN | apply below_drew1 | refine below_set ?_ GE4806.out) | exact HB.out)) hb); have n2_ := Aside0.mk (hbox); have n3_ := Aside0.mk ((by rw [hg]; exact (below_size (by repeat (first | (with_reducible first | exact HB.out | apply below_alloc | apply pw_below_drewN | apply below_drew1 | refine below_set ?_ GE4806.out) | exact HB.out))) : w.heap.size ≤ gb4807)); have n4_ := Aside0.mk ((by rw [hg]; exact (below_size (by repeat (first | (with_reducible first | exact HB.out | apply below_alloc | apply pw_below_drewN | apply below_drew1 | refine below_set ?_ GE4806.out) | exact HB.out))) : w.heap.size ≤ gb4807)); have n5_ := Aside0.mk ((by rw [hg]; exact Nat.ne_of_lt (blk_lt (g := gb4806) (o := .cells #[.int .i64 a0_0, .int .i64 a0_1] 57 (0, 0)) (by exact BK4806.out)) : gb4806 ≠ gb4807)); have n6_ := Aside0.mk ((by rw [hg]; exact Nat.ne_of_gt (blk_lt (g := gb4806) (o := .cells #[.int .i64 a0_0, .int .i64 a0_1] 57 (0, 0)) (by exact BK4806.out)) : gb4807 ≠ gb4806)); clear BK4806 HB; have BK4806 := n0_; have HB := n1_; have BK4807 := n2_; have GW4807 := n3_; have GE4807 := n4_; have NB4806_4807 := n5_; have NB4807_4806 := n6_; clear n0_ n1_ n2_ n3_ n4_ n5_ n6_; clear hb hbox hg) | ((with_reducible refine gate_callee (f := 39) rfl ?_); refine goesL_ (some 20) rfl rfl Try.func39 (by kernel_rfl) rfl #[] rfl (by (try simp only [List.map_toArray, List.map_cons, List.map_nil]); first | done | rfl) ?_; (with_reducible refine (demurragelaw02_shown.calls k  t4808 _ A3.out).mono ?_); rintro e w7 ⟨rfl, hb⟩; refine ⟨_, rfl, ?_⟩; have n0_ := Aside0.mk (blk_below (g := gb4806) (o := .cells #[.int .i64 a0_0, .int .i64 a0_1] 57 (0, 0)) (by exact BK4806.out) hb); have n1_ := Aside0.mk (blk_below (g := gb4807) (o := .cells #[.int .i64 a1_0, .int .i64 a1_1] 57 (0, 0)) (by exact BK4807.out) hb); have n2_ := Aside0.mk (below_step (by repeat (first | (with_reducible first | exact HB.out | apply below_alloc | apply pw_below_drewN | apply below_drew1 | refine below_set ?_ GE4806.out | refine below_set ?_ GE4807.out) | exact HB.out)) hb); clear BK4806 BK4807 HB; have BK4806 := n0_; have BK4807 := n1_; have HB := n2_; clear n0_ n1_ n2_; (try clear hb)))
  (try simp only [Act.put, List.setIfInBounds_toArray, List.set_cons_zero, List.set_cons_succ])
  go_cut [28] (fun v28 wc => ∃ (kq : Nat) (x28_3 : Bool), v28 = .bool x28_3 ∧ Aside0 (demurragelaw02_RatioLaws.j0 kq t4808 x28_3 a0_0 a0_1 a1_0 a1_1 = some r) ∧ Aside0 (kq ≤ k) ∧ Aside0 (wc.heap[gb4806]? = some (.cells #[.int .i64 a0_0, .int .i64 a0_1] 57 (0, 0))) ∧ Aside0 (wc.heap[gb4807]? = some (.cells #[.int .i64 a1_0, .int .i64 a1_1] 57 (0, 0))) ∧ Aside0 (Below w.heap.size w wc))
  case first =>
    have H := HC4.out
    clear HC4
    replace H := Option.bind_eq_some_iff.mp H
    obtain ⟨t4809, A80, H⟩ := H
    replace H : (if t4809 = true then ((demurrageref02_Right.f k a1_0 a1_1).bind fun t4810 => (demurragelaw02_RatioLaws.j0 k t4808 (!t4810) a0_0 a0_1 a1_0 a1_1)) else (demurragelaw02_RatioLaws.j0 k t4808 true a0_0 a0_1 a1_0 a1_1)) = some r := H
    have A8 := Aside0.mk A80
    clear A80
    by_cases c9 : t4809 = true
    · subst c9
      have H1 : ((demurrageref02_Right.f k a1_0 a1_1).bind fun t4810 => (demurragelaw02_RatioLaws.j0 k t4808 (!t4810) a0_0 a0_1 a1_0 a1_1)) = some r := by rw [if_pos rfl] at H; exact H
      clear H
      have H := H1
      clear H1
      replace H := Option.bind_eq_some_iff.mp H
      obtain ⟨t4810, A100, H⟩ := H
      replace H : (demurragelaw02_RatioLaws.j0 k t4808 (!t4810) a0_0 a0_1 a1_0 a1_1) = some r := H
      have A10 := Aside0.mk A100
      clear A100
      have H' := Aside0.mk H
      clear H
      have hnb11 := NB4806_4807.out
      have hnc11 := NB4807_4806.out
      have hcz12_0 : w7.cell? ⟨gb4806, 0, none⟩ = some (.int .i64 a0_0) := (blk_cell BK4806.out 0).trans rfl
      have hcz12_1 : w7.cell? ⟨gb4806, 1, none⟩ = some (.int .i64 a0_1) := (blk_cell BK4806.out 1).trans rfl
      have hfz12_0 := blk_frozen BK4806.out 0
      have hfz12_1 := blk_frozen BK4806.out 1
      go_wp2_with (first | ((with_reducible refine gate_callee (f := 44) rfl ?_); refine goesL_ (some 22) rfl rfl Try.func44 (by kernel_rfl) rfl #[.agg #[.int .i64 a0_0, .int .i64 a0_1]] rfl (by (try simp only [List.map_toArray, List.map_cons, List.map_nil]); first | done | rfl) ?_; (with_reducible refine (demurrageref02_Right.calls k a0_0 a0_1 true _ A8.out).mono ?_); rintro e w13 ⟨rfl, hb⟩; refine ⟨_, rfl, ?_⟩; have n0_ := Aside0.mk (blk_below (g := gb4806) (o := .cells #[.int .i64 a0_0, .int .i64 a0_1] 57 (0, 0)) (by exact BK4806.out) hb); have n1_ := Aside0.mk (blk_below (g := gb4807) (o := .cells #[.int .i64 a1_0, .int .i64 a1_1] 57 (0, 0)) (by exact BK4807.out) hb); have n2_ := Aside0.mk (below_step (by repeat (first | (with_reducible first | exact HB.out | apply below_alloc | apply pw_below_drewN | apply below_drew1 | refine below_set ?_ GE4806.out | refine below_set ?_ GE4807.out) | exact HB.out)) hb); clear BK4806 BK4807 HB; have BK4806 := n0_; have BK4807 := n1_; have HB := n2_; clear n0_ n1_ n2_; (try clear hb); have hcz14_0 : w13.cell? ⟨gb4807, 0, none⟩ = some (.int .i64 a1_0) := (blk_cell BK4807.out 0).trans rfl; have hcz14_1 : w13.cell? ⟨gb4807, 1, none⟩ = some (.int .i64 a1_1) := (blk_cell BK4807.out 1).trans rfl; have hfz14_0 := blk_frozen BK4807.out 0; have hfz14_1 := blk_frozen BK4807.out 1) | (go_at_call 44; (with_reducible refine (demurrageref02_Right.calls k a1_0 a1_1 t4810 _ A10.out).mono ?_); rintro e w15 ⟨rfl, hb⟩; have n0_ := Aside0.mk (blk_below (g := gb4806) (o := .cells #[.int .i64 a0_0, .int .i64 a0_1] 57 (0, 0)) (by exact BK4806.out) hb); have n1_ := Aside0.mk (blk_below (g := gb4807) (o := .cells #[.int .i64 a1_0, .int .i64 a1_1] 57 (0, 0)) (by exact BK4807.out) hb); have n2_ := Aside0.mk (below_step (by repeat (first | (with_reducible first | exact HB.out | apply below_alloc | apply pw_below_drewN | apply below_drew1 | refine below_set ?_ GE4806.out | refine below_set ?_ GE4807.out) | exact HB.out)) hb); clear BK4806 BK4807 HB; have BK4806 := n0_; have BK4807 := n1_; have HB := n2_; clear n0_ n1_ n2_; (try clear hb)))
      go_meet
      case rel => exact ⟨_, (!t4810), (by first | rfl | (simp; done) | (simp [*]; done)), H', ⟨by first | omega | exact Nat.le_refl _⟩, ⟨by exact BK4806.out⟩, ⟨by exact BK4807.out⟩, ⟨by repeat (first | (with_reducible first | exact HB.out | apply below_alloc | apply pw_below_drewN | apply below_drew1 | refine below_set ?_ GE4806.out | refine below_set ?_ GE4807.out) | exact HB.out)⟩⟩
    · replace c9 := Bool.eq_false_iff.mpr c9
      subst c9
      have H1 : (demurragelaw02_RatioLaws.j0 k t4808 true a0_0 a0_1 a1_0 a1_1) = some r := by rw [if_neg (show ¬ (false = true) by decide)] at H; exact H
      clear H
      have H := H1
      clear H1
      have H' := Aside0.mk H
      clear H
      have hnb16 := NB4806_4807.out
      have hnc16 := NB4807_4806.out
      have hcz17_0 : w7.cell? ⟨gb4806, 0, none⟩ = some (.int .i64 a0_0) := (blk_cell BK4806.out 0).trans rfl
      have hcz17_1 : w7.cell? ⟨gb4806, 1, none⟩ = some (.int .i64 a0_1) := (blk_cell BK4806.out 1).trans rfl
      have hfz17_0 := blk_frozen BK4806.out 0
      have hfz17_1 := blk_frozen BK4806.out 1
      go_wp2_with (first | ((with_reducible refine gate_callee (f := 44) rfl ?_); refine goesL_ (some 22) rfl rfl Try.func44 (by kernel_rfl) rfl #[.agg #[.int .i64 a0_0, .int .i64 a0_1]] rfl (by (try simp only [List.map_toArray, List.map_cons, List.map_nil]); first | done | rfl) ?_; (with_reducible refine (demurrageref02_Right.calls k a0_0 a0_1 false _ A8.out).mono ?_); rintro e w18 ⟨rfl, hb⟩; refine ⟨_, rfl, ?_⟩; have n0_ := Aside0.mk (blk_below (g := gb4806) (o := .cells #[.int .i64 a0_0, .int .i64 a0_1] 57 (0, 0)) (by exact BK4806.out) hb); have n1_ := Aside0.mk (blk_below (g := gb4807) (o := .cells #[.int .i64 a1_0, .int .i64 a1_1] 57 (0, 0)) (by exact BK4807.out) hb); have n2_ := Aside0.mk (below_step (by repeat (first | (with_reducible first | exact HB.out | apply below_alloc | apply pw_below_drewN | apply below_drew1 | refine below_set ?_ GE4806.out | refine below_set ?_ GE4807.out) | exact HB.out)) hb); clear BK4806 BK4807 HB; have BK4806 := n0_; have BK4807 := n1_; have HB := n2_; clear n0_ n1_ n2_; (try clear hb)))
      go_meet
      case rel => exact ⟨_, (true), (by first | rfl | (simp; done) | (simp [*]; done)), H', ⟨by first | omega | exact Nat.le_refl _⟩, ⟨by exact BK4806.out⟩, ⟨by exact BK4807.out⟩, ⟨by repeat (first | (with_reducible first | exact HB.out | apply below_alloc | apply pw_below_drewN | apply below_drew1 | refine below_set ?_ GE4806.out | refine below_set ?_ GE4807.out) | exact HB.out)⟩⟩
  case rest =>
    clear HC4
    try clear c1
    try clear p2
    try clear c3
    try clear c4
    try clear c9
    try clear c11
    try clear c12
    try clear c16
    try clear hcz12_0
    try clear hcz12_1
    try clear hcz14_0
    try clear hcz14_1
    try clear hcz17_0
    try clear hcz17_1
    try clear hfz12_0
    try clear hfz12_1
    try clear hfz14_0
    try clear hfz14_1
    try clear hfz17_0
    try clear hfz17_1
    obtain ⟨kq, x28_3, rfl, HA, HJ3, BK4806, BK4807, HB⟩ := hcut
    cases kq with
    | zero => exact absurd HA.out (by simp [demurragelaw02_RatioLaws.j0])
    | succ kj3 =>
      have H := HA.out
      clear HA
      simp only [demurragelaw02_RatioLaws.j0] at H
      by_cases c19 : x28_3 = true
      · subst c19
        have H1 : (some t4808) = some r := by rw [if_pos rfl] at H; exact H
        clear H
        have H := H1
        clear H1
        obtain rfl := Option.some.inj H
        go_wp2
        go_ret
        exact ⟨by rfl, by repeat (first | (with_reducible first | exact HB.out | apply below_alloc | apply pw_below_drewN | apply below_drew1 | refine below_set ?_ GE4806.out | refine below_set ?_ GE4807.out) | exact HB.out)⟩
      replace c19 := Bool.eq_false_iff.mpr c19
      subst c19
      have H1 : ((ratio_Add.f a0_0 a0_1 a1_0 a1_1).bind fun bt5111 => ((ratio_Add.f a1_0 a1_1 a0_0 a0_1).bind fun bt5115 => ((ratio_Mul.f a0_0 a0_1 a1_0 a1_1).bind fun bt5119 => ((ratio_Mul.f a1_0 a1_1 a0_0 a0_1).bind fun bt5123 => ((ratio_Add.f a0_0 a0_1 0 1).bind fun bt5127 => ((ratio_Mul.f a0_0 a0_1 1 1).bind fun bt5131 => ((ratio_Mul.f a0_0 a0_1 0 1).bind fun bt5135 => (if (!(bt5111.1 == bt5115.1) || (!(bt5111.2.1 == bt5115.2.1))) = true then (none) else (if bt5111.2.2 = bt5115.2.2 then (if (!(bt5119.1 == bt5123.1) || (!(bt5119.2.1 == bt5123.2.1))) = true then (none) else (if bt5119.2.2 = bt5123.2.2 then (if (!(bt5127.1 == a0_0) || (!(bt5127.2.1 == a0_1))) = true then (none) else (if bt5127.2.2 = 0 then (if (!(bt5131.1 == a0_0) || (!(bt5131.2.1 == a0_1))) = true then (none) else (if bt5131.2.2 = 0 then (if (!(bt5135.1 == 0) || (!(bt5135.2.1 == 1))) = true then (none) else (if bt5135.2.2 = 0 then (if t4808 = true then (if bt5111.2.2 = 0 then ((demurrageref02_Right.f kj3 bt5111.1 bt5111.2.1).bind fun t5193 => (if t5193 = true then ((ratio_Cmp.f bt5111.1 bt5111.2.1 a0_0 a0_1).bind fun t5194 => (if t5194 ≥ 0 then ((ratio_Cmp.f bt5111.1 bt5111.2.1 a1_0 a1_1).bind fun t5195 => (if t5195 ≥ 0 then ((ratio_Cmp.f bt5111.1 bt5111.2.1 a0_0 a0_1).bind fun t5196 => (if ((t5196 == 0) == (a1_0 == 0)) = true then (if bt5119.2.2 = 0 then ((demurrageref02_Right.f kj3 bt5119.1 bt5119.2.1).bind fun t5197 => (if t5197 = true then ((ratio_Cmp.f a0_0 a0_1 a1_0 a1_1).bind fun t5198 => ((ratio_Cmp.f a1_0 a1_1 a0_0 a0_1).bind fun t5199 => (if t5198 = (wrap64 (-t5199)) then ((ratio_Cmp.f a0_0 a0_1 a1_0 a1_1).bind fun t5200 => (some ((t5200 == 0) == (a0_0 == a1_0 && (a0_1 == a1_1))))) else (none)))) else (none))) else ((ratio_Cmp.f a0_0 a0_1 a1_0 a1_1).bind fun t5201 => ((ratio_Cmp.f a1_0 a1_1 a0_0 a0_1).bind fun t5202 => (if t5201 = (wrap64 (-t5202)) then ((ratio_Cmp.f a0_0 a0_1 a1_0 a1_1).bind fun t5203 => (some ((t5203 == 0) == (a0_0 == a1_0 && (a0_1 == a1_1))))) else (none))))) else (none))) else (none))) else (none))) else (none))) else (if bt5119.2.2 = 0 then ((demurrageref02_Right.f kj3 bt5119.1 bt5119.2.1).bind fun t5204 => (if t5204 = true then ((ratio_Cmp.f a0_0 a0_1 a1_0 a1_1).bind fun t5205 => ((ratio_Cmp.f a1_0 a1_1 a0_0 a0_1).bind fun t5206 => (if t5205 = (wrap64 (-t5206)) then ((ratio_Cmp.f a0_0 a0_1 a1_0 a1_1).bind fun t5207 => (some ((t5207 == 0) == (a0_0 == a1_0 && (a0_1 == a1_1))))) else (none)))) else (none))) else ((ratio_Cmp.f a0_0 a0_1 a1_0 a1_1).bind fun t5208 => ((ratio_Cmp.f a1_0 a1_1 a0_0 a0_1).bind fun t5209 => (if t5208 = (wrap64 (-t5209)) then ((ratio_Cmp.f a0_0 a0_1 a1_0 a1_1).bind fun t5210 => (some ((t5210 == 0) == (a0_0 == a1_0 && (a0_1 == a1_1))))) else (none)))))) else (none)) else (none))) else (none))) else (none))) else (none))) else (none)))))))))) = some r := by rw [if_neg (show ¬ (false = true) by decide)] at H; exact H
      clear H
      have H := H1
      clear H1
      replace H := Option.bind_eq_some_iff.mp H
      obtain ⟨⟨t5111, t5112, t5113⟩, A200, H⟩ := H
      replace H : ((ratio_Add.f a1_0 a1_1 a0_0 a0_1).bind fun bt5115 => ((ratio_Mul.f a0_0 a0_1 a1_0 a1_1).bind fun bt5119 => ((ratio_Mul.f a1_0 a1_1 a0_0 a0_1).bind fun bt5123 => ((ratio_Add.f a0_0 a0_1 0 1).bind fun bt5127 => ((ratio_Mul.f a0_0 a0_1 1 1).bind fun bt5131 => ((ratio_Mul.f a0_0 a0_1 0 1).bind fun bt5135 => (if (!(t5111 == bt5115.1) || (!(t5112 == bt5115.2.1))) = true then (none) else (if t5113 = bt5115.2.2 then (if (!(bt5119.1 == bt5123.1) || (!(bt5119.2.1 == bt5123.2.1))) = true then (none) else (if bt5119.2.2 = bt5123.2.2 then (if (!(bt5127.1 == a0_0) || (!(bt5127.2.1 == a0_1))) = true then (none) else (if bt5127.2.2 = 0 then (if (!(bt5131.1 == a0_0) || (!(bt5131.2.1 == a0_1))) = true then (none) else (if bt5131.2.2 = 0 then (if (!(bt5135.1 == 0) || (!(bt5135.2.1 == 1))) = true then (none) else (if bt5135.2.2 = 0 then (if t4808 = true then (if t5113 = 0 then ((demurrageref02_Right.f kj3 t5111 t5112).bind fun t5193 => (if t5193 = true then ((ratio_Cmp.f t5111 t5112 a0_0 a0_1).bind fun t5194 => (if t5194 ≥ 0 then ((ratio_Cmp.f t5111 t5112 a1_0 a1_1).bind fun t5195 => (if t5195 ≥ 0 then ((ratio_Cmp.f t5111 t5112 a0_0 a0_1).bind fun t5196 => (if ((t5196 == 0) == (a1_0 == 0)) = true then (if bt5119.2.2 = 0 then ((demurrageref02_Right.f kj3 bt5119.1 bt5119.2.1).bind fun t5197 => (if t5197 = true then ((ratio_Cmp.f a0_0 a0_1 a1_0 a1_1).bind fun t5198 => ((ratio_Cmp.f a1_0 a1_1 a0_0 a0_1).bind fun t5199 => (if t5198 = (wrap64 (-t5199)) then ((ratio_Cmp.f a0_0 a0_1 a1_0 a1_1).bind fun t5200 => (some ((t5200 == 0) == (a0_0 == a1_0 && (a0_1 == a1_1))))) else (none)))) else (none))) else ((ratio_Cmp.f a0_0 a0_1 a1_0 a1_1).bind fun t5201 => ((ratio_Cmp.f a1_0 a1_1 a0_0 a0_1).bind fun t5202 => (if t5201 = (wrap64 (-t5202)) then ((ratio_Cmp.f a0_0 a0_1 a1_0 a1_1).bind fun t5203 => (some ((t5203 == 0) == (a0_0 == a1_0 && (a0_1 == a1_1))))) else (none))))) else (none))) else (none))) else (none))) else (none))) else (if bt5119.2.2 = 0 then ((demurrageref02_Right.f kj3 bt5119.1 bt5119.2.1).bind fun t5204 => (if t5204 = true then ((ratio_Cmp.f a0_0 a0_1 a1_0 a1_1).bind fun t5205 => ((ratio_Cmp.f a1_0 a1_1 a0_0 a0_1).bind fun t5206 => (if t5205 = (wrap64 (-t5206)) then ((ratio_Cmp.f a0_0 a0_1 a1_0 a1_1).bind fun t5207 => (some ((t5207 == 0) == (a0_0 == a1_0 && (a0_1 == a1_1))))) else (none)))) else (none))) else ((ratio_Cmp.f a0_0 a0_1 a1_0 a1_1).bind fun t5208 => ((ratio_Cmp.f a1_0 a1_1 a0_0 a0_1).bind fun t5209 => (if t5208 = (wrap64 (-t5209)) then ((ratio_Cmp.f a0_0 a0_1 a1_0 a1_1).bind fun t5210 => (some ((t5210 == 0) == (a0_0 == a1_0 && (a0_1 == a1_1))))) else (none)))))) else (none)) else (none))) else (none))) else (none))) else (none))) else (none))))))))) = some r := H
      have A20 := Aside0.mk A200
      clear A200
      replace H := Option.bind_eq_some_iff.mp H
      obtain ⟨⟨t5115, t5116, t5117⟩, A210, H⟩ := H
      replace H : ((ratio_Mul.f a0_0 a0_1 a1_0 a1_1).bind fun bt5119 => ((ratio_Mul.f a1_0 a1_1 a0_0 a0_1).bind fun bt5123 => ((ratio_Add.f a0_0 a0_1 0 1).bind fun bt5127 => ((ratio_Mul.f a0_0 a0_1 1 1).bind fun bt5131 => ((ratio_Mul.f a0_0 a0_1 0 1).bind fun bt5135 => (if (!(t5111 == t5115) || (!(t5112 == t5116))) = true then (none) else (if t5113 = t5117 then (if (!(bt5119.1 == bt5123.1) || (!(bt5119.2.1 == bt5123.2.1))) = true then (none) else (if bt5119.2.2 = bt5123.2.2 then (if (!(bt5127.1 == a0_0) || (!(bt5127.2.1 == a0_1))) = true then (none) else (if bt5127.2.2 = 0 then (if (!(bt5131.1 == a0_0) || (!(bt5131.2.1 == a0_1))) = true then (none) else (if bt5131.2.2 = 0 then (if (!(bt5135.1 == 0) || (!(bt5135.2.1 == 1))) = true then (none) else (if bt5135.2.2 = 0 then (if t4808 = true then (if t5113 = 0 then ((demurrageref02_Right.f kj3 t5111 t5112).bind fun t5193 => (if t5193 = true then ((ratio_Cmp.f t5111 t5112 a0_0 a0_1).bind fun t5194 => (if t5194 ≥ 0 then ((ratio_Cmp.f t5111 t5112 a1_0 a1_1).bind fun t5195 => (if t5195 ≥ 0 then ((ratio_Cmp.f t5111 t5112 a0_0 a0_1).bind fun t5196 => (if ((t5196 == 0) == (a1_0 == 0)) = true then (if bt5119.2.2 = 0 then ((demurrageref02_Right.f kj3 bt5119.1 bt5119.2.1).bind fun t5197 => (if t5197 = true then ((ratio_Cmp.f a0_0 a0_1 a1_0 a1_1).bind fun t5198 => ((ratio_Cmp.f a1_0 a1_1 a0_0 a0_1).bind fun t5199 => (if t5198 = (wrap64 (-t5199)) then ((ratio_Cmp.f a0_0 a0_1 a1_0 a1_1).bind fun t5200 => (some ((t5200 == 0) == (a0_0 == a1_0 && (a0_1 == a1_1))))) else (none)))) else (none))) else ((ratio_Cmp.f a0_0 a0_1 a1_0 a1_1).bind fun t5201 => ((ratio_Cmp.f a1_0 a1_1 a0_0 a0_1).bind fun t5202 => (if t5201 = (wrap64 (-t5202)) then ((ratio_Cmp.f a0_0 a0_1 a1_0 a1_1).bind fun t5203 => (some ((t5203 == 0) == (a0_0 == a1_0 && (a0_1 == a1_1))))) else (none))))) else (none))) else (none))) else (none))) else (none))) else (if bt5119.2.2 = 0 then ((demurrageref02_Right.f kj3 bt5119.1 bt5119.2.1).bind fun t5204 => (if t5204 = true then ((ratio_Cmp.f a0_0 a0_1 a1_0 a1_1).bind fun t5205 => ((ratio_Cmp.f a1_0 a1_1 a0_0 a0_1).bind fun t5206 => (if t5205 = (wrap64 (-t5206)) then ((ratio_Cmp.f a0_0 a0_1 a1_0 a1_1).bind fun t5207 => (some ((t5207 == 0) == (a0_0 == a1_0 && (a0_1 == a1_1))))) else (none)))) else (none))) else ((ratio_Cmp.f a0_0 a0_1 a1_0 a1_1).bind fun t5208 => ((ratio_Cmp.f a1_0 a1_1 a0_0 a0_1).bind fun t5209 => (if t5208 = (wrap64 (-t5209)) then ((ratio_Cmp.f a0_0 a0_1 a1_0 a1_1).bind fun t5210 => (some ((t5210 == 0) == (a0_0 == a1_0 && (a0_1 == a1_1))))) else (none)))))) else (none)) else (none))) else (none))) else (none))) else (none))) else (none)))))))) = some r := H
      have A21 := Aside0.mk A210
      clear A210
      replace H := Option.bind_eq_some_iff.mp H
      obtain ⟨⟨t5119, t5120, t5121⟩, A220, H⟩ := H
      replace H : ((ratio_Mul.f a1_0 a1_1 a0_0 a0_1).bind fun bt5123 => ((ratio_Add.f a0_0 a0_1 0 1).bind fun bt5127 => ((ratio_Mul.f a0_0 a0_1 1 1).bind fun bt5131 => ((ratio_Mul.f a0_0 a0_1 0 1).bind fun bt5135 => (if (!(t5111 == t5115) || (!(t5112 == t5116))) = true then (none) else (if t5113 = t5117 then (if (!(t5119 == bt5123.1) || (!(t5120 == bt5123.2.1))) = true then (none) else (if t5121 = bt5123.2.2 then (if (!(bt5127.1 == a0_0) || (!(bt5127.2.1 == a0_1))) = true then (none) else (if bt5127.2.2 = 0 then (if (!(bt5131.1 == a0_0) || (!(bt5131.2.1 == a0_1))) = true then (none) else (if bt5131.2.2 = 0 then (if (!(bt5135.1 == 0) || (!(bt5135.2.1 == 1))) = true then (none) else (if bt5135.2.2 = 0 then (if t4808 = true then (if t5113 = 0 then ((demurrageref02_Right.f kj3 t5111 t5112).bind fun t5193 => (if t5193 = true then ((ratio_Cmp.f t5111 t5112 a0_0 a0_1).bind fun t5194 => (if t5194 ≥ 0 then ((ratio_Cmp.f t5111 t5112 a1_0 a1_1).bind fun t5195 => (if t5195 ≥ 0 then ((ratio_Cmp.f t5111 t5112 a0_0 a0_1).bind fun t5196 => (if ((t5196 == 0) == (a1_0 == 0)) = true then (if t5121 = 0 then ((demurrageref02_Right.f kj3 t5119 t5120).bind fun t5197 => (if t5197 = true then ((ratio_Cmp.f a0_0 a0_1 a1_0 a1_1).bind fun t5198 => ((ratio_Cmp.f a1_0 a1_1 a0_0 a0_1).bind fun t5199 => (if t5198 = (wrap64 (-t5199)) then ((ratio_Cmp.f a0_0 a0_1 a1_0 a1_1).bind fun t5200 => (some ((t5200 == 0) == (a0_0 == a1_0 && (a0_1 == a1_1))))) else (none)))) else (none))) else ((ratio_Cmp.f a0_0 a0_1 a1_0 a1_1).bind fun t5201 => ((ratio_Cmp.f a1_0 a1_1 a0_0 a0_1).bind fun t5202 => (if t5201 = (wrap64 (-t5202)) then ((ratio_Cmp.f a0_0 a0_1 a1_0 a1_1).bind fun t5203 => (some ((t5203 == 0) == (a0_0 == a1_0 && (a0_1 == a1_1))))) else (none))))) else (none))) else (none))) else (none))) else (none))) else (if t5121 = 0 then ((demurrageref02_Right.f kj3 t5119 t5120).bind fun t5204 => (if t5204 = true then ((ratio_Cmp.f a0_0 a0_1 a1_0 a1_1).bind fun t5205 => ((ratio_Cmp.f a1_0 a1_1 a0_0 a0_1).bind fun t5206 => (if t5205 = (wrap64 (-t5206)) then ((ratio_Cmp.f a0_0 a0_1 a1_0 a1_1).bind fun t5207 => (some ((t5207 == 0) == (a0_0 == a1_0 && (a0_1 == a1_1))))) else (none)))) else (none))) else ((ratio_Cmp.f a0_0 a0_1 a1_0 a1_1).bind fun t5208 => ((ratio_Cmp.f a1_0 a1_1 a0_0 a0_1).bind fun t5209 => (if t5208 = (wrap64 (-t5209)) then ((ratio_Cmp.f a0_0 a0_1 a1_0 a1_1).bind fun t5210 => (some ((t5210 == 0) == (a0_0 == a1_0 && (a0_1 == a1_1))))) else (none)))))) else (none)) else (none))) else (none))) else (none))) else (none))) else (none))))))) = some r := H
      have A22 := Aside0.mk A220
      clear A220
      replace H := Option.bind_eq_some_iff.mp H
      obtain ⟨⟨t5123, t5124, t5125⟩, A230, H⟩ := H
      replace H : ((ratio_Add.f a0_0 a0_1 0 1).bind fun bt5127 => ((ratio_Mul.f a0_0 a0_1 1 1).bind fun bt5131 => ((ratio_Mul.f a0_0 a0_1 0 1).bind fun bt5135 => (if (!(t5111 == t5115) || (!(t5112 == t5116))) = true then (none) else (if t5113 = t5117 then (if (!(t5119 == t5123) || (!(t5120 == t5124))) = true then (none) else (if t5121 = t5125 then (if (!(bt5127.1 == a0_0) || (!(bt5127.2.1 == a0_1))) = true then (none) else (if bt5127.2.2 = 0 then (if (!(bt5131.1 == a0_0) || (!(bt5131.2.1 == a0_1))) = true then (none) else (if bt5131.2.2 = 0 then (if (!(bt5135.1 == 0) || (!(bt5135.2.1 == 1))) = true then (none) else (if bt5135.2.2 = 0 then (if t4808 = true then (if t5113 = 0 then ((demurrageref02_Right.f kj3 t5111 t5112).bind fun t5193 => (if t5193 = true then ((ratio_Cmp.f t5111 t5112 a0_0 a0_1).bind fun t5194 => (if t5194 ≥ 0 then ((ratio_Cmp.f t5111 t5112 a1_0 a1_1).bind fun t5195 => (if t5195 ≥ 0 then ((ratio_Cmp.f t5111 t5112 a0_0 a0_1).bind fun t5196 => (if ((t5196 == 0) == (a1_0 == 0)) = true then (if t5121 = 0 then ((demurrageref02_Right.f kj3 t5119 t5120).bind fun t5197 => (if t5197 = true then ((ratio_Cmp.f a0_0 a0_1 a1_0 a1_1).bind fun t5198 => ((ratio_Cmp.f a1_0 a1_1 a0_0 a0_1).bind fun t5199 => (if t5198 = (wrap64 (-t5199)) then ((ratio_Cmp.f a0_0 a0_1 a1_0 a1_1).bind fun t5200 => (some ((t5200 == 0) == (a0_0 == a1_0 && (a0_1 == a1_1))))) else (none)))) else (none))) else ((ratio_Cmp.f a0_0 a0_1 a1_0 a1_1).bind fun t5201 => ((ratio_Cmp.f a1_0 a1_1 a0_0 a0_1).bind fun t5202 => (if t5201 = (wrap64 (-t5202)) then ((ratio_Cmp.f a0_0 a0_1 a1_0 a1_1).bind fun t5203 => (some ((t5203 == 0) == (a0_0 == a1_0 && (a0_1 == a1_1))))) else (none))))) else (none))) else (none))) else (none))) else (none))) else (if t5121 = 0 then ((demurrageref02_Right.f kj3 t5119 t5120).bind fun t5204 => (if t5204 = true then ((ratio_Cmp.f a0_0 a0_1 a1_0 a1_1).bind fun t5205 => ((ratio_Cmp.f a1_0 a1_1 a0_0 a0_1).bind fun t5206 => (if t5205 = (wrap64 (-t5206)) then ((ratio_Cmp.f a0_0 a0_1 a1_0 a1_1).bind fun t5207 => (some ((t5207 == 0) == (a0_0 == a1_0 && (a0_1 == a1_1))))) else (none)))) else (none))) else ((ratio_Cmp.f a0_0 a0_1 a1_0 a1_1).bind fun t5208 => ((ratio_Cmp.f a1_0 a1_1 a0_0 a0_1).bind fun t5209 => (if t5208 = (wrap64 (-t5209)) then ((ratio_Cmp.f a0_0 a0_1 a1_0 a1_1).bind fun t5210 => (some ((t5210 == 0) == (a0_0 == a1_0 && (a0_1 == a1_1))))) else (none)))))) else (none)) else (none))) else (none))) else (none))) else (none))) else (none)))))) = some r := H
      have A23 := Aside0.mk A230
      clear A230
      replace H := Option.bind_eq_some_iff.mp H
      obtain ⟨⟨t5127, t5128, t5129⟩, A240, H⟩ := H
      replace H : ((ratio_Mul.f a0_0 a0_1 1 1).bind fun bt5131 => ((ratio_Mul.f a0_0 a0_1 0 1).bind fun bt5135 => (if (!(t5111 == t5115) || (!(t5112 == t5116))) = true then (none) else (if t5113 = t5117 then (if (!(t5119 == t5123) || (!(t5120 == t5124))) = true then (none) else (if t5121 = t5125 then (if (!(t5127 == a0_0) || (!(t5128 == a0_1))) = true then (none) else (if t5129 = 0 then (if (!(bt5131.1 == a0_0) || (!(bt5131.2.1 == a0_1))) = true then (none) else (if bt5131.2.2 = 0 then (if (!(bt5135.1 == 0) || (!(bt5135.2.1 == 1))) = true then (none) else (if bt5135.2.2 = 0 then (if t4808 = true then (if t5113 = 0 then ((demurrageref02_Right.f kj3 t5111 t5112).bind fun t5193 => (if t5193 = true then ((ratio_Cmp.f t5111 t5112 a0_0 a0_1).bind fun t5194 => (if t5194 ≥ 0 then ((ratio_Cmp.f t5111 t5112 a1_0 a1_1).bind fun t5195 => (if t5195 ≥ 0 then ((ratio_Cmp.f t5111 t5112 a0_0 a0_1).bind fun t5196 => (if ((t5196 == 0) == (a1_0 == 0)) = true then (if t5121 = 0 then ((demurrageref02_Right.f kj3 t5119 t5120).bind fun t5197 => (if t5197 = true then ((ratio_Cmp.f a0_0 a0_1 a1_0 a1_1).bind fun t5198 => ((ratio_Cmp.f a1_0 a1_1 a0_0 a0_1).bind fun t5199 => (if t5198 = (wrap64 (-t5199)) then ((ratio_Cmp.f a0_0 a0_1 a1_0 a1_1).bind fun t5200 => (some ((t5200 == 0) == (a0_0 == a1_0 && (a0_1 == a1_1))))) else (none)))) else (none))) else ((ratio_Cmp.f a0_0 a0_1 a1_0 a1_1).bind fun t5201 => ((ratio_Cmp.f a1_0 a1_1 a0_0 a0_1).bind fun t5202 => (if t5201 = (wrap64 (-t5202)) then ((ratio_Cmp.f a0_0 a0_1 a1_0 a1_1).bind fun t5203 => (some ((t5203 == 0) == (a0_0 == a1_0 && (a0_1 == a1_1))))) else (none))))) else (none))) else (none))) else (none))) else (none))) else (if t5121 = 0 then ((demurrageref02_Right.f kj3 t5119 t5120).bind fun t5204 => (if t5204 = true then ((ratio_Cmp.f a0_0 a0_1 a1_0 a1_1).bind fun t5205 => ((ratio_Cmp.f a1_0 a1_1 a0_0 a0_1).bind fun t5206 => (if t5205 = (wrap64 (-t5206)) then ((ratio_Cmp.f a0_0 a0_1 a1_0 a1_1).bind fun t5207 => (some ((t5207 == 0) == (a0_0 == a1_0 && (a0_1 == a1_1))))) else (none)))) else (none))) else ((ratio_Cmp.f a0_0 a0_1 a1_0 a1_1).bind fun t5208 => ((ratio_Cmp.f a1_0 a1_1 a0_0 a0_1).bind fun t5209 => (if t5208 = (wrap64 (-t5209)) then ((ratio_Cmp.f a0_0 a0_1 a1_0 a1_1).bind fun t5210 => (some ((t5210 == 0) == (a0_0 == a1_0 && (a0_1 == a1_1))))) else (none)))))) else (none)) else (none))) else (none))) else (none))) else (none))) else (none))))) = some r := H
      have A24 := Aside0.mk A240
      clear A240
      replace H := Option.bind_eq_some_iff.mp H
      obtain ⟨⟨t5131, t5132, t5133⟩, A250, H⟩ := H
      replace H : ((ratio_Mul.f a0_0 a0_1 0 1).bind fun bt5135 => (if (!(t5111 == t5115) || (!(t5112 == t5116))) = true then (none) else (if t5113 = t5117 then (if (!(t5119 == t5123) || (!(t5120 == t5124))) = true then (none) else (if t5121 = t5125 then (if (!(t5127 == a0_0) || (!(t5128 == a0_1))) = true then (none) else (if t5129 = 0 then (if (!(t5131 == a0_0) || (!(t5132 == a0_1))) = true then (none) else (if t5133 = 0 then (if (!(bt5135.1 == 0) || (!(bt5135.2.1 == 1))) = true then (none) else (if bt5135.2.2 = 0 then (if t4808 = true then (if t5113 = 0 then ((demurrageref02_Right.f kj3 t5111 t5112).bind fun t5193 => (if t5193 = true then ((ratio_Cmp.f t5111 t5112 a0_0 a0_1).bind fun t5194 => (if t5194 ≥ 0 then ((ratio_Cmp.f t5111 t5112 a1_0 a1_1).bind fun t5195 => (if t5195 ≥ 0 then ((ratio_Cmp.f t5111 t5112 a0_0 a0_1).bind fun t5196 => (if ((t5196 == 0) == (a1_0 == 0)) = true then (if t5121 = 0 then ((demurrageref02_Right.f kj3 t5119 t5120).bind fun t5197 => (if t5197 = true then ((ratio_Cmp.f a0_0 a0_1 a1_0 a1_1).bind fun t5198 => ((ratio_Cmp.f a1_0 a1_1 a0_0 a0_1).bind fun t5199 => (if t5198 = (wrap64 (-t5199)) then ((ratio_Cmp.f a0_0 a0_1 a1_0 a1_1).bind fun t5200 => (some ((t5200 == 0) == (a0_0 == a1_0 && (a0_1 == a1_1))))) else (none)))) else (none))) else ((ratio_Cmp.f a0_0 a0_1 a1_0 a1_1).bind fun t5201 => ((ratio_Cmp.f a1_0 a1_1 a0_0 a0_1).bind fun t5202 => (if t5201 = (wrap64 (-t5202)) then ((ratio_Cmp.f a0_0 a0_1 a1_0 a1_1).bind fun t5203 => (some ((t5203 == 0) == (a0_0 == a1_0 && (a0_1 == a1_1))))) else (none))))) else (none))) else (none))) else (none))) else (none))) else (if t5121 = 0 then ((demurrageref02_Right.f kj3 t5119 t5120).bind fun t5204 => (if t5204 = true then ((ratio_Cmp.f a0_0 a0_1 a1_0 a1_1).bind fun t5205 => ((ratio_Cmp.f a1_0 a1_1 a0_0 a0_1).bind fun t5206 => (if t5205 = (wrap64 (-t5206)) then ((ratio_Cmp.f a0_0 a0_1 a1_0 a1_1).bind fun t5207 => (some ((t5207 == 0) == (a0_0 == a1_0 && (a0_1 == a1_1))))) else (none)))) else (none))) else ((ratio_Cmp.f a0_0 a0_1 a1_0 a1_1).bind fun t5208 => ((ratio_Cmp.f a1_0 a1_1 a0_0 a0_1).bind fun t5209 => (if t5208 = (wrap64 (-t5209)) then ((ratio_Cmp.f a0_0 a0_1 a1_0 a1_1).bind fun t5210 => (some ((t5210 == 0) == (a0_0 == a1_0 && (a0_1 == a1_1))))) else (none)))))) else (none)) else (none))) else (none))) else (none))) else (none))) else (none)))) = some r := H
      have A25 := Aside0.mk A250
      clear A250
      replace H := Option.bind_eq_some_iff.mp H
      obtain ⟨⟨t5135, t5136, t5137⟩, A260, H⟩ := H
      replace H : (if (!(t5111 == t5115) || (!(t5112 == t5116))) = true then (none) else (if t5113 = t5117 then (if (!(t5119 == t5123) || (!(t5120 == t5124))) = true then (none) else (if t5121 = t5125 then (if (!(t5127 == a0_0) || (!(t5128 == a0_1))) = true then (none) else (if t5129 = 0 then (if (!(t5131 == a0_0) || (!(t5132 == a0_1))) = true then (none) else (if t5133 = 0 then (if (!(t5135 == 0) || (!(t5136 == 1))) = true then (none) else (if t5137 = 0 then (if t4808 = true then (if t5113 = 0 then ((demurrageref02_Right.f kj3 t5111 t5112).bind fun t5193 => (if t5193 = true then ((ratio_Cmp.f t5111 t5112 a0_0 a0_1).bind fun t5194 => (if t5194 ≥ 0 then ((ratio_Cmp.f t5111 t5112 a1_0 a1_1).bind fun t5195 => (if t5195 ≥ 0 then ((ratio_Cmp.f t5111 t5112 a0_0 a0_1).bind fun t5196 => (if ((t5196 == 0) == (a1_0 == 0)) = true then (if t5121 = 0 then ((demurrageref02_Right.f kj3 t5119 t5120).bind fun t5197 => (if t5197 = true then ((ratio_Cmp.f a0_0 a0_1 a1_0 a1_1).bind fun t5198 => ((ratio_Cmp.f a1_0 a1_1 a0_0 a0_1).bind fun t5199 => (if t5198 = (wrap64 (-t5199)) then ((ratio_Cmp.f a0_0 a0_1 a1_0 a1_1).bind fun t5200 => (some ((t5200 == 0) == (a0_0 == a1_0 && (a0_1 == a1_1))))) else (none)))) else (none))) else ((ratio_Cmp.f a0_0 a0_1 a1_0 a1_1).bind fun t5201 => ((ratio_Cmp.f a1_0 a1_1 a0_0 a0_1).bind fun t5202 => (if t5201 = (wrap64 (-t5202)) then ((ratio_Cmp.f a0_0 a0_1 a1_0 a1_1).bind fun t5203 => (some ((t5203 == 0) == (a0_0 == a1_0 && (a0_1 == a1_1))))) else (none))))) else (none))) else (none))) else (none))) else (none))) else (if t5121 = 0 then ((demurrageref02_Right.f kj3 t5119 t5120).bind fun t5204 => (if t5204 = true then ((ratio_Cmp.f a0_0 a0_1 a1_0 a1_1).bind fun t5205 => ((ratio_Cmp.f a1_0 a1_1 a0_0 a0_1).bind fun t5206 => (if t5205 = (wrap64 (-t5206)) then ((ratio_Cmp.f a0_0 a0_1 a1_0 a1_1).bind fun t5207 => (some ((t5207 == 0) == (a0_0 == a1_0 && (a0_1 == a1_1))))) else (none)))) else (none))) else ((ratio_Cmp.f a0_0 a0_1 a1_0 a1_1).bind fun t5208 => ((ratio_Cmp.f a1_0 a1_1 a0_0 a0_1).bind fun t5209 => (if t5208 = (wrap64 (-t5209)) then ((ratio_Cmp.f a0_0 a0_1 a1_0 a1_1).bind fun t5210 => (some ((t5210 == 0) == (a0_0 == a1_0 && (a0_1 == a1_1))))) else (none)))))) else (none)) else (none))) else (none))) else (none))) else (none))) else (none))) = some r := H
      have A26 := Aside0.mk A260
      clear A260
      by_cases c27 : (!(t5111 == t5115) || (!(t5112 == t5116))) = true
      · rw [if_pos c27] at H
        exact absurd H (by simp)
      rw [if_neg c27] at H
      have c27b0 : (!(t5111 == t5115) || (!(t5112 == t5116))) = false := by simpa using c27
      clear c27
      by_cases c28 : t5113 = t5117
      rotate_left
      · rw [if_neg c28] at H
        exact absurd H (by simp)
      rw [if_pos c28] at H
      have c28b0 : (t5113 == t5117) = true := beq_iff_eq.mpr c28
      have c28b1 : (t5113 != t5117) = false := bne_eq_false_iff_eq.mpr c28
      clear c28
      by_cases c29 : (!(t5119 == t5123) || (!(t5120 == t5124))) = true
      · rw [if_pos c29] at H
        exact absurd H (by simp)
      rw [if_neg c29] at H
      have c29b0 : (!(t5119 == t5123) || (!(t5120 == t5124))) = false := by simpa using c29
      clear c29
      by_cases c30 : t5121 = t5125
      rotate_left
      · rw [if_neg c30] at H
        exact absurd H (by simp)
      rw [if_pos c30] at H
      have c30b0 : (t5121 == t5125) = true := beq_iff_eq.mpr c30
      have c30b1 : (t5121 != t5125) = false := bne_eq_false_iff_eq.mpr c30
      clear c30
      by_cases c31 : (!(t5127 == a0_0) || (!(t5128 == a0_1))) = true
      · rw [if_pos c31] at H
        exact absurd H (by simp)
      rw [if_neg c31] at H
      have c31b0 : (!(t5127 == a0_0) || (!(t5128 == a0_1))) = false := by simpa using c31
      clear c31
      by_cases c32 : t5129 = 0
      rotate_left
      · rw [if_neg c32] at H
        exact absurd H (by simp)
      rw [if_pos c32] at H
      have c32b0 : (t5129 == 0) = true := beq_iff_eq.mpr c32
      have c32b1 : (t5129 != 0) = false := bne_eq_false_iff_eq.mpr c32
      clear c32
      by_cases c33 : (!(t5131 == a0_0) || (!(t5132 == a0_1))) = true
      · rw [if_pos c33] at H
        exact absurd H (by simp)
      rw [if_neg c33] at H
      have c33b0 : (!(t5131 == a0_0) || (!(t5132 == a0_1))) = false := by simpa using c33
      clear c33
      by_cases c34 : t5133 = 0
      rotate_left
      · rw [if_neg c34] at H
        exact absurd H (by simp)
      rw [if_pos c34] at H
      have c34b0 : (t5133 == 0) = true := beq_iff_eq.mpr c34
      have c34b1 : (t5133 != 0) = false := bne_eq_false_iff_eq.mpr c34
      clear c34
      by_cases c35 : (!(t5135 == 0) || (!(t5136 == 1))) = true
      · rw [if_pos c35] at H
        exact absurd H (by simp)
      rw [if_neg c35] at H
      have c35b0 : (!(t5135 == 0) || (!(t5136 == 1))) = false := by simpa using c35
      clear c35
      by_cases c36 : t5137 = 0
      rotate_left
      · rw [if_neg c36] at H
        exact absurd H (by simp)
      rw [if_pos c36] at H
      have c36b0 : (t5137 == 0) = true := beq_iff_eq.mpr c36
      have c36b1 : (t5137 != 0) = false := bne_eq_false_iff_eq.mpr c36
      clear c36
      by_cases c37 : t4808 = true
      rotate_left
      · replace c37 := Bool.eq_false_iff.mpr c37
        subst c37
        have H1 : (none) = some r := by rw [if_neg (show ¬ (false = true) by decide)] at H; exact H
        clear H
        have H := H1
        clear H1
        exact absurd H (by simp)
      subst c37
      have H1 : (if t5113 = 0 then ((demurrageref02_Right.f kj3 t5111 t5112).bind fun t5193 => (if t5193 = true then ((ratio_Cmp.f t5111 t5112 a0_0 a0_1).bind fun t5194 => (if t5194 ≥ 0 then ((ratio_Cmp.f t5111 t5112 a1_0 a1_1).bind fun t5195 => (if t5195 ≥ 0 then ((ratio_Cmp.f t5111 t5112 a0_0 a0_1).bind fun t5196 => (if ((t5196 == 0) == (a1_0 == 0)) = true then (if t5121 = 0 then ((demurrageref02_Right.f kj3 t5119 t5120).bind fun t5197 => (if t5197 = true then ((ratio_Cmp.f a0_0 a0_1 a1_0 a1_1).bind fun t5198 => ((ratio_Cmp.f a1_0 a1_1 a0_0 a0_1).bind fun t5199 => (if t5198 = (wrap64 (-t5199)) then ((ratio_Cmp.f a0_0 a0_1 a1_0 a1_1).bind fun t5200 => (some ((t5200 == 0) == (a0_0 == a1_0 && (a0_1 == a1_1))))) else (none)))) else (none))) else ((ratio_Cmp.f a0_0 a0_1 a1_0 a1_1).bind fun t5201 => ((ratio_Cmp.f a1_0 a1_1 a0_0 a0_1).bind fun t5202 => (if t5201 = (wrap64 (-t5202)) then ((ratio_Cmp.f a0_0 a0_1 a1_0 a1_1).bind fun t5203 => (some ((t5203 == 0) == (a0_0 == a1_0 && (a0_1 == a1_1))))) else (none))))) else (none))) else (none))) else (none))) else (none))) else (if t5121 = 0 then ((demurrageref02_Right.f kj3 t5119 t5120).bind fun t5204 => (if t5204 = true then ((ratio_Cmp.f a0_0 a0_1 a1_0 a1_1).bind fun t5205 => ((ratio_Cmp.f a1_0 a1_1 a0_0 a0_1).bind fun t5206 => (if t5205 = (wrap64 (-t5206)) then ((ratio_Cmp.f a0_0 a0_1 a1_0 a1_1).bind fun t5207 => (some ((t5207 == 0) == (a0_0 == a1_0 && (a0_1 == a1_1))))) else (none)))) else (none))) else ((ratio_Cmp.f a0_0 a0_1 a1_0 a1_1).bind fun t5208 => ((ratio_Cmp.f a1_0 a1_1 a0_0 a0_1).bind fun t5209 => (if t5208 = (wrap64 (-t5209)) then ((ratio_Cmp.f a0_0 a0_1 a1_0 a1_1).bind fun t5210 => (some ((t5210 == 0) == (a0_0 == a1_0 && (a0_1 == a1_1))))) else (none)))))) = some r := by rw [if_pos rfl] at H; exact H
      clear H
      have H := H1
      clear H1
      by_cases c38 : t5113 = 0
      focus
        rw [if_pos c38] at H
        have c38b0 : (t5113 == 0) = true := beq_iff_eq.mpr c38
        have c38b1 : (t5113 != 0) = false := bne_eq_false_iff_eq.mpr c38
        clear c38
        replace H := Option.bind_eq_some_iff.mp H
        obtain ⟨t5193, A390, H⟩ := H
        replace H : (if t5193 = true then ((ratio_Cmp.f t5111 t5112 a0_0 a0_1).bind fun t5194 => (if t5194 ≥ 0 then ((ratio_Cmp.f t5111 t5112 a1_0 a1_1).bind fun t5195 => (if t5195 ≥ 0 then ((ratio_Cmp.f t5111 t5112 a0_0 a0_1).bind fun t5196 => (if ((t5196 == 0) == (a1_0 == 0)) = true then (if t5121 = 0 then ((demurrageref02_Right.f kj3 t5119 t5120).bind fun t5197 => (if t5197 = true then ((ratio_Cmp.f a0_0 a0_1 a1_0 a1_1).bind fun t5198 => ((ratio_Cmp.f a1_0 a1_1 a0_0 a0_1).bind fun t5199 => (if t5198 = (wrap64 (-t5199)) then ((ratio_Cmp.f a0_0 a0_1 a1_0 a1_1).bind fun t5200 => (some ((t5200 == 0) == (a0_0 == a1_0 && (a0_1 == a1_1))))) else (none)))) else (none))) else ((ratio_Cmp.f a0_0 a0_1 a1_0 a1_1).bind fun t5201 => ((ratio_Cmp.f a1_0 a1_1 a0_0 a0_1).bind fun t5202 => (if t5201 = (wrap64 (-t5202)) then ((ratio_Cmp.f a0_0 a0_1 a1_0 a1_1).bind fun t5203 => (some ((t5203 == 0) == (a0_0 == a1_0 && (a0_1 == a1_1))))) else (none))))) else (none))) else (none))) else (none))) else (none)) = some r := H
        have A39 := Aside0.mk A390
        clear A390
        by_cases c40 : t5193 = true
        rotate_left
        · replace c40 := Bool.eq_false_iff.mpr c40
          subst c40
          have H1 : (none) = some r := by rw [if_neg (show ¬ (false = true) by decide)] at H; exact H
          clear H
          have H := H1
          clear H1
          exact absurd H (by simp)
        subst c40
        have H1 : ((ratio_Cmp.f t5111 t5112 a0_0 a0_1).bind fun t5194 => (if t5194 ≥ 0 then ((ratio_Cmp.f t5111 t5112 a1_0 a1_1).bind fun t5195 => (if t5195 ≥ 0 then ((ratio_Cmp.f t5111 t5112 a0_0 a0_1).bind fun t5196 => (if ((t5196 == 0) == (a1_0 == 0)) = true then (if t5121 = 0 then ((demurrageref02_Right.f kj3 t5119 t5120).bind fun t5197 => (if t5197 = true then ((ratio_Cmp.f a0_0 a0_1 a1_0 a1_1).bind fun t5198 => ((ratio_Cmp.f a1_0 a1_1 a0_0 a0_1).bind fun t5199 => (if t5198 = (wrap64 (-t5199)) then ((ratio_Cmp.f a0_0 a0_1 a1_0 a1_1).bind fun t5200 => (some ((t5200 == 0) == (a0_0 == a1_0 && (a0_1 == a1_1))))) else (none)))) else (none))) else ((ratio_Cmp.f a0_0 a0_1 a1_0 a1_1).bind fun t5201 => ((ratio_Cmp.f a1_0 a1_1 a0_0 a0_1).bind fun t5202 => (if t5201 = (wrap64 (-t5202)) then ((ratio_Cmp.f a0_0 a0_1 a1_0 a1_1).bind fun t5203 => (some ((t5203 == 0) == (a0_0 == a1_0 && (a0_1 == a1_1))))) else (none))))) else (none))) else (none))) else (none))) = some r := by rw [if_pos rfl] at H; exact H
        clear H
        have H := H1
        clear H1
        replace H := Option.bind_eq_some_iff.mp H
        obtain ⟨t5194, A410, H⟩ := H
        replace H : (if t5194 ≥ 0 then ((ratio_Cmp.f t5111 t5112 a1_0 a1_1).bind fun t5195 => (if t5195 ≥ 0 then ((ratio_Cmp.f t5111 t5112 a0_0 a0_1).bind fun t5196 => (if ((t5196 == 0) == (a1_0 == 0)) = true then (if t5121 = 0 then ((demurrageref02_Right.f kj3 t5119 t5120).bind fun t5197 => (if t5197 = true then ((ratio_Cmp.f a0_0 a0_1 a1_0 a1_1).bind fun t5198 => ((ratio_Cmp.f a1_0 a1_1 a0_0 a0_1).bind fun t5199 => (if t5198 = (wrap64 (-t5199)) then ((ratio_Cmp.f a0_0 a0_1 a1_0 a1_1).bind fun t5200 => (some ((t5200 == 0) == (a0_0 == a1_0 && (a0_1 == a1_1))))) else (none)))) else (none))) else ((ratio_Cmp.f a0_0 a0_1 a1_0 a1_1).bind fun t5201 => ((ratio_Cmp.f a1_0 a1_1 a0_0 a0_1).bind fun t5202 => (if t5201 = (wrap64 (-t5202)) then ((ratio_Cmp.f a0_0 a0_1 a1_0 a1_1).bind fun t5203 => (some ((t5203 == 0) == (a0_0 == a1_0 && (a0_1 == a1_1))))) else (none))))) else (none))) else (none))) else (none)) = some r := H
        have A41 := Aside0.mk A410
        clear A410
        by_cases c42 : t5194 ≥ 0
        rotate_left
        · rw [if_neg c42] at H
          exact absurd H (by simp)
        rw [if_pos c42] at H
        have c42b0 : decide (0 ≤ t5194) = true := decide_eq_true c42
        clear c42
        replace H := Option.bind_eq_some_iff.mp H
        obtain ⟨t5195, A430, H⟩ := H
        replace H : (if t5195 ≥ 0 then ((ratio_Cmp.f t5111 t5112 a0_0 a0_1).bind fun t5196 => (if ((t5196 == 0) == (a1_0 == 0)) = true then (if t5121 = 0 then ((demurrageref02_Right.f kj3 t5119 t5120).bind fun t5197 => (if t5197 = true then ((ratio_Cmp.f a0_0 a0_1 a1_0 a1_1).bind fun t5198 => ((ratio_Cmp.f a1_0 a1_1 a0_0 a0_1).bind fun t5199 => (if t5198 = (wrap64 (-t5199)) then ((ratio_Cmp.f a0_0 a0_1 a1_0 a1_1).bind fun t5200 => (some ((t5200 == 0) == (a0_0 == a1_0 && (a0_1 == a1_1))))) else (none)))) else (none))) else ((ratio_Cmp.f a0_0 a0_1 a1_0 a1_1).bind fun t5201 => ((ratio_Cmp.f a1_0 a1_1 a0_0 a0_1).bind fun t5202 => (if t5201 = (wrap64 (-t5202)) then ((ratio_Cmp.f a0_0 a0_1 a1_0 a1_1).bind fun t5203 => (some ((t5203 == 0) == (a0_0 == a1_0 && (a0_1 == a1_1))))) else (none))))) else (none))) else (none)) = some r := H
        have A43 := Aside0.mk A430
        clear A430
        by_cases c44 : t5195 ≥ 0
        rotate_left
        · rw [if_neg c44] at H
          exact absurd H (by simp)
        rw [if_pos c44] at H
        have c44b0 : decide (0 ≤ t5195) = true := decide_eq_true c44
        clear c44
        replace H := Option.bind_eq_some_iff.mp H
        obtain ⟨t5196, A450, H⟩ := H
        replace H : (if ((t5196 == 0) == (a1_0 == 0)) = true then (if t5121 = 0 then ((demurrageref02_Right.f kj3 t5119 t5120).bind fun t5197 => (if t5197 = true then ((ratio_Cmp.f a0_0 a0_1 a1_0 a1_1).bind fun t5198 => ((ratio_Cmp.f a1_0 a1_1 a0_0 a0_1).bind fun t5199 => (if t5198 = (wrap64 (-t5199)) then ((ratio_Cmp.f a0_0 a0_1 a1_0 a1_1).bind fun t5200 => (some ((t5200 == 0) == (a0_0 == a1_0 && (a0_1 == a1_1))))) else (none)))) else (none))) else ((ratio_Cmp.f a0_0 a0_1 a1_0 a1_1).bind fun t5201 => ((ratio_Cmp.f a1_0 a1_1 a0_0 a0_1).bind fun t5202 => (if t5201 = (wrap64 (-t5202)) then ((ratio_Cmp.f a0_0 a0_1 a1_0 a1_1).bind fun t5203 => (some ((t5203 == 0) == (a0_0 == a1_0 && (a0_1 == a1_1))))) else (none))))) else (none)) = some r := H
        have A45 := Aside0.mk A450
        clear A450
        by_cases c46 : ((t5196 == 0) == (a1_0 == 0)) = true
        rotate_left
        · rw [if_neg c46] at H
          exact absurd H (by simp)
        rw [if_pos c46] at H
        have c46b0 : ((t5196 == 0) == (a1_0 == 0)) = true := c46
        (try (have c46b1 : decide ((t5196 == 0) = (a1_0 == 0)) = true := by simpa using c46))
        (try (have c46b2 : ((t5196 == 0) == (a1_0 == 0)) = true := by simpa using c46))
        clear c46
        by_cases c47 : t5121 = 0
        focus
          rw [if_pos c47] at H
          have c47b0 : (t5121 == 0) = true := beq_iff_eq.mpr c47
          have c47b1 : (t5121 != 0) = false := bne_eq_false_iff_eq.mpr c47
          clear c47
          replace H := Option.bind_eq_some_iff.mp H
          obtain ⟨t5197, A480, H⟩ := H
          replace H : (if t5197 = true then ((ratio_Cmp.f a0_0 a0_1 a1_0 a1_1).bind fun t5198 => ((ratio_Cmp.f a1_0 a1_1 a0_0 a0_1).bind fun t5199 => (if t5198 = (wrap64 (-t5199)) then ((ratio_Cmp.f a0_0 a0_1 a1_0 a1_1).bind fun t5200 => (some ((t5200 == 0) == (a0_0 == a1_0 && (a0_1 == a1_1))))) else (none)))) else (none)) = some r := H
          have A48 := Aside0.mk A480
          clear A480
          by_cases c49 : t5197 = true
          rotate_left
          · replace c49 := Bool.eq_false_iff.mpr c49
            subst c49
            have H1 : (none) = some r := by rw [if_neg (show ¬ (false = true) by decide)] at H; exact H
            clear H
            have H := H1
            clear H1
            exact absurd H (by simp)
          subst c49
          have H1 : ((ratio_Cmp.f a0_0 a0_1 a1_0 a1_1).bind fun t5198 => ((ratio_Cmp.f a1_0 a1_1 a0_0 a0_1).bind fun t5199 => (if t5198 = (wrap64 (-t5199)) then ((ratio_Cmp.f a0_0 a0_1 a1_0 a1_1).bind fun t5200 => (some ((t5200 == 0) == (a0_0 == a1_0 && (a0_1 == a1_1))))) else (none)))) = some r := by rw [if_pos rfl] at H; exact H
          clear H
          have H := H1
          clear H1
          replace H := Option.bind_eq_some_iff.mp H
          obtain ⟨t5198, A500, H⟩ := H
          replace H : ((ratio_Cmp.f a1_0 a1_1 a0_0 a0_1).bind fun t5199 => (if t5198 = (wrap64 (-t5199)) then ((ratio_Cmp.f a0_0 a0_1 a1_0 a1_1).bind fun t5200 => (some ((t5200 == 0) == (a0_0 == a1_0 && (a0_1 == a1_1))))) else (none))) = some r := H
          have A50 := Aside0.mk A500
          clear A500
          replace H := Option.bind_eq_some_iff.mp H
          obtain ⟨t5199, A510, H⟩ := H
          replace H : (if t5198 = (wrap64 (-t5199)) then ((ratio_Cmp.f a0_0 a0_1 a1_0 a1_1).bind fun t5200 => (some ((t5200 == 0) == (a0_0 == a1_0 && (a0_1 == a1_1))))) else (none)) = some r := H
          have A51 := Aside0.mk A510
          clear A510
          by_cases c52 : t5198 = (wrap64 (-t5199))
          rotate_left
          · rw [if_neg c52] at H
            exact absurd H (by simp)
        rotate_left
        focus
          rw [if_neg c47] at H
          have c47b0 : (t5121 == 0) = false := beq_eq_false_iff_ne.mpr c47
          have c47b1 : (t5121 != 0) = true := bne_iff_ne.mpr c47
          replace H := Option.bind_eq_some_iff.mp H
          obtain ⟨t5198, A1390, H⟩ := H
          replace H : ((ratio_Cmp.f a1_0 a1_1 a0_0 a0_1).bind fun t5199 => (if t5198 = (wrap64 (-t5199)) then ((ratio_Cmp.f a0_0 a0_1 a1_0 a1_1).bind fun t5200 => (some ((t5200 == 0) == (a0_0 == a1_0 && (a0_1 == a1_1))))) else (none))) = some r := H
          have A139 := Aside0.mk A1390
          clear A1390
          replace H := Option.bind_eq_some_iff.mp H
          obtain ⟨t5199, A1400, H⟩ := H
          replace H : (if t5198 = (wrap64 (-t5199)) then ((ratio_Cmp.f a0_0 a0_1 a1_0 a1_1).bind fun t5200 => (some ((t5200 == 0) == (a0_0 == a1_0 && (a0_1 == a1_1))))) else (none)) = some r := H
          have A140 := Aside0.mk A1400
          clear A1400
          by_cases c52 : t5198 = (wrap64 (-t5199))
          rotate_left
          · rw [if_neg c52] at H
            exact absurd H (by simp)
      rotate_left 2
      focus
        rw [if_neg c38] at H
        have c38b0 : (t5113 == 0) = false := beq_eq_false_iff_ne.mpr c38
        have c38b1 : (t5113 != 0) = true := bne_iff_ne.mpr c38
        by_cases c227 : t5121 = 0
        focus
          rw [if_pos c227] at H
          have c227b0 : (t5121 == 0) = true := beq_iff_eq.mpr c227
          have c227b1 : (t5121 != 0) = false := bne_eq_false_iff_eq.mpr c227
          clear c227
          replace H := Option.bind_eq_some_iff.mp H
          obtain ⟨t5204, A2280, H⟩ := H
          replace H : (if t5204 = true then ((ratio_Cmp.f a0_0 a0_1 a1_0 a1_1).bind fun t5198 => ((ratio_Cmp.f a1_0 a1_1 a0_0 a0_1).bind fun t5199 => (if t5198 = (wrap64 (-t5199)) then ((ratio_Cmp.f a0_0 a0_1 a1_0 a1_1).bind fun t5200 => (some ((t5200 == 0) == (a0_0 == a1_0 && (a0_1 == a1_1))))) else (none)))) else (none)) = some r := H
          have A228 := Aside0.mk A2280
          clear A2280
          by_cases c229 : t5204 = true
          rotate_left
          · replace c229 := Bool.eq_false_iff.mpr c229
            subst c229
            have H1 : (none) = some r := by rw [if_neg (show ¬ (false = true) by decide)] at H; exact H
            clear H
            have H := H1
            clear H1
            exact absurd H (by simp)
          subst c229
          have H1 : ((ratio_Cmp.f a0_0 a0_1 a1_0 a1_1).bind fun t5198 => ((ratio_Cmp.f a1_0 a1_1 a0_0 a0_1).bind fun t5199 => (if t5198 = (wrap64 (-t5199)) then ((ratio_Cmp.f a0_0 a0_1 a1_0 a1_1).bind fun t5200 => (some ((t5200 == 0) == (a0_0 == a1_0 && (a0_1 == a1_1))))) else (none)))) = some r := by rw [if_pos rfl] at H; exact H
          clear H
          have H := H1
          clear H1
          replace H := Option.bind_eq_some_iff.mp H
          obtain ⟨t5198, A2300, H⟩ := H
          replace H : ((ratio_Cmp.f a1_0 a1_1 a0_0 a0_1).bind fun t5199 => (if t5198 = (wrap64 (-t5199)) then ((ratio_Cmp.f a0_0 a0_1 a1_0 a1_1).bind fun t5200 => (some ((t5200 == 0) == (a0_0 == a1_0 && (a0_1 == a1_1))))) else (none))) = some r := H
          have A230 := Aside0.mk A2300
          clear A2300
          replace H := Option.bind_eq_some_iff.mp H
          obtain ⟨t5199, A2310, H⟩ := H
          replace H : (if t5198 = (wrap64 (-t5199)) then ((ratio_Cmp.f a0_0 a0_1 a1_0 a1_1).bind fun t5200 => (some ((t5200 == 0) == (a0_0 == a1_0 && (a0_1 == a1_1))))) else (none)) = some r := H
          have A231 := Aside0.mk A2310
          clear A2310
          by_cases c52 : t5198 = (wrap64 (-t5199))
          rotate_left
          · rw [if_neg c52] at H
            exact absurd H (by simp)
        rotate_left
        focus
          rw [if_neg c227] at H
          have c227b0 : (t5121 == 0) = false := beq_eq_false_iff_ne.mpr c227
          have c227b1 : (t5121 != 0) = true := bne_iff_ne.mpr c227
          replace H := Option.bind_eq_some_iff.mp H
          obtain ⟨t5198, A3150, H⟩ := H
          replace H : ((ratio_Cmp.f a1_0 a1_1 a0_0 a0_1).bind fun t5199 => (if t5198 = (wrap64 (-t5199)) then ((ratio_Cmp.f a0_0 a0_1 a1_0 a1_1).bind fun t5200 => (some ((t5200 == 0) == (a0_0 == a1_0 && (a0_1 == a1_1))))) else (none))) = some r := H
          have A315 := Aside0.mk A3150
          clear A3150
          replace H := Option.bind_eq_some_iff.mp H
          obtain ⟨t5199, A3160, H⟩ := H
          replace H : (if t5198 = (wrap64 (-t5199)) then ((ratio_Cmp.f a0_0 a0_1 a1_0 a1_1).bind fun t5200 => (some ((t5200 == 0) == (a0_0 == a1_0 && (a0_1 == a1_1))))) else (none)) = some r := H
          have A316 := Aside0.mk A3160
          clear A3160
          by_cases c52 : t5198 = (wrap64 (-t5199))
          rotate_left
          · rw [if_neg c52] at H
            exact absurd H (by simp)
      all_goals
        rw [if_pos c52] at H
        have c52b0 : (t5198 == (wrap64 (-t5199))) = true := beq_iff_eq.mpr c52
        have c52b1 : (t5198 != (wrap64 (-t5199))) = false := bne_eq_false_iff_eq.mpr c52
        clear c52
        replace H := Option.bind_eq_some_iff.mp H
        obtain ⟨t5200, A530, H⟩ := H
        replace H : (some ((t5200 == 0) == (a0_0 == a1_0 && (a0_1 == a1_1)))) = some r := H
        have A53 := Aside0.mk A530
        clear A530
        obtain rfl := Option.some.inj H
        have hnb54 := NB4806_4807.out
        have hnc54 := NB4807_4806.out
        have hcz55_0 : wc.cell? ⟨gb4806, 0, none⟩ = some (.int .i64 a0_0) := (blk_cell BK4806.out 0).trans rfl
        have hcz55_1 : wc.cell? ⟨gb4806, 1, none⟩ = some (.int .i64 a0_1) := (blk_cell BK4806.out 1).trans rfl
        have hfz55_0 := blk_frozen BK4806.out 0
        have hfz55_1 := blk_frozen BK4806.out 1
        have hcz56_0 : wc.cell? ⟨gb4807, 0, none⟩ = some (.int .i64 a1_0) := (blk_cell BK4807.out 0).trans rfl
        have hcz56_1 : wc.cell? ⟨gb4807, 1, none⟩ = some (.int .i64 a1_1) := (blk_cell BK4807.out 1).trans rfl
        have hfz56_0 := blk_frozen BK4807.out 0
        have hfz56_1 := blk_frozen BK4807.out 1
        try go_wp2_with (first | ((with_reducible refine gate_callee (f := 46) rfl ?_); refine goesL_ (some 33) rfl rfl Try.func46 (by kernel_rfl) rfl #[.agg #[.int .i64 a0_0, .int .i64 a0_1], .agg #[.int .i64 a1_0, .int .i64 a1_1]] rfl (by (try simp only [List.map_toArray, List.map_cons, List.map_nil]); first | done | rfl) ?_; (with_reducible refine (ratio_Add.calls a0_0 a0_1 a1_0 a1_1 t5111 t5112 t5113 _ A20.out).mono ?_); rintro e w57 ⟨rfl, hb⟩; refine ⟨_, rfl, ?_⟩; have n0_ := Aside0.mk (blk_below (g := gb4806) (o := .cells #[.int .i64 a0_0, .int .i64 a0_1] 57 (0, 0)) (by exact BK4806.out) hb); have n1_ := Aside0.mk (blk_below (g := gb4807) (o := .cells #[.int .i64 a1_0, .int .i64 a1_1] 57 (0, 0)) (by exact BK4807.out) hb); have n2_ := Aside0.mk (below_step (by repeat (first | (with_reducible first | exact HB.out | apply below_alloc | apply pw_below_drewN | apply below_drew1 | refine below_set ?_ GE4806.out | refine below_set ?_ GE4807.out) | exact HB.out)) hb); clear BK4806 BK4807 HB; have BK4806 := n0_; have BK4807 := n1_; have HB := n2_; clear n0_ n1_ n2_; (try clear hb)) | ((with_reducible refine gate_dst (N := 6) rfl ?_); refine box_event ?hg (N := 6) ?hd (cs := #[.int .i64 0, .int .i64 0]) (t := 57) ?hr ?_; (case hd => rfl); (case hg => rfl); (case hr => first | (go_simp; done) | (go_simp; rfl)); intro gb5114 hg w58 hbox hb; have n0_ := Aside0.mk (blk_below (g := gb4806) (o := .cells #[.int .i64 a0_0, .int .i64 a0_1] 57 (0, 0)) (by exact BK4806.out) hb); have n1_ := Aside0.mk (blk_below (g := gb4807) (o := .cells #[.int .i64 a1_0, .int .i64 a1_1] 57 (0, 0)) (by exact BK4807.out) hb); have n2_ := Aside0.mk (below_step (by repeat (first | (with_reducible first | exact HB.out | apply below_alloc | apply pw_below_drewN | apply below_drew1 | refine below_set ?_ GE4806.out | refine below_set ?_ GE4807.out) | exact HB.out)) hb); have n3_ := Aside0.mk (hbox); have n4_ := Aside0.mk ((by rw [hg]; exact (below_size (by repeat (first | (with_reducible first | exact HB.out | apply below_alloc | apply pw_below_drewN | apply below_drew1 | refine below_set ?_ GE4806.out | refine below_set ?_ GE4807.out) | exact HB.out))) : w.heap.size ≤ gb5114)); have n5_ := Aside0.mk ((by rw [hg]; exact (below_size (by repeat (first | (with_reducible first | exact HB.out | apply below_alloc | apply pw_below_drewN | apply below_drew1 | refine below_set ?_ GE4806.out | refine below_set ?_ GE4807.out) | exact HB.out))) : w.heap.size ≤ gb5114)); have n6_ := Aside0.mk ((by rw [hg]; exact Nat.ne_of_lt (blk_lt (g := gb4806) (o := .cells #[.int .i64 a0_0, .int .i64 a0_1] 57 (0, 0)) (by exact BK4806.out)) : gb4806 ≠ gb5114)); have n7_ := Aside0.mk ((by rw [hg]; exact Nat.ne_of_gt (blk_lt (g := gb4806) (o := .cells #[.int .i64 a0_0, .int .i64 a0_1] 57 (0, 0)) (by exact BK4806.out)) : gb5114 ≠ gb4806)); have n8_ := Aside0.mk ((by rw [hg]; exact Nat.ne_of_lt (blk_lt (g := gb4807) (o := .cells #[.int .i64 a1_0, .int .i64 a1_1] 57 (0, 0)) (by exact BK4807.out)) : gb4807 ≠ gb5114)); have n9_ := Aside0.mk ((by rw [hg]; exact Nat.ne_of_gt (blk_lt (g := gb4807) (o := .cells #[.int .i64 a1_0, .int .i64 a1_1] 57 (0, 0)) (by exact BK4807.out)) : gb5114 ≠ gb4807)); clear BK4806 BK4807 HB; have BK4806 := n0_; have BK4807 := n1_; have HB := n2_; have BK5114 := n3_; have GW5114 := n4_; have GE5114 := n5_; have NB4806_5114 := n6_; have NB5114_4806 := n7_; have NB4807_5114 := n8_; have NB5114_4807 := n9_; clear n0_ n1_ n2_ n3_ n4_ n5_ n6_ n7_ n8_ n9_; clear hb hbox hg; have hnb59 := NB5114_4806.out; have hnc59 := NB4806_5114.out; have hnb60 := NB5114_4807.out; have hnc60 := NB4807_5114.out; have hcz61_0 : w58.cell? ⟨gb5114, 0, none⟩ = some (.int .i64 0) := (blk_cell BK5114.out 0).trans rfl; have hcz61_1 : w58.cell? ⟨gb5114, 1, none⟩ = some (.int .i64 0) := (blk_cell BK5114.out 1).trans rfl; have hfz61_0 := blk_frozen BK5114.out 0; have hfz61_1 := blk_frozen BK5114.out 1; have hcz62_0 : w58.cell? ⟨gb4807, 0, none⟩ = some (.int .i64 a1_0) := (blk_cell BK4807.out 0).trans rfl; have hcz62_1 : w58.cell? ⟨gb4807, 1, none⟩ = some (.int .i64 a1_1) := (blk_cell BK4807.out 1).trans rfl; have hfz62_0 := blk_frozen BK4807.out 0; have hfz62_1 := blk_frozen BK4807.out 1; have hcz63_0 : w58.cell? ⟨gb4806, 0, none⟩ = some (.int .i64 a0_0) := (blk_cell BK4806.out 0).trans rfl; have hcz63_1 : w58.cell? ⟨gb4806, 1, none⟩ = some (.int .i64 a0_1) := (blk_cell BK4806.out 1).trans rfl; have hfz63_0 := blk_frozen BK4806.out 0; have hfz63_1 := blk_frozen BK4806.out 1) | ((with_reducible refine gate_callee (f := 46) rfl ?_); refine goesL_ (some 39) rfl rfl Try.func46 (by kernel_rfl) rfl #[.agg #[.int .i64 a1_0, .int .i64 a1_1], .agg #[.int .i64 a0_0, .int .i64 a0_1]] rfl (by (try simp only [List.map_toArray, List.map_cons, List.map_nil]); first | done | rfl) ?_; (with_reducible refine (ratio_Add.calls a1_0 a1_1 a0_0 a0_1 t5115 t5116 t5117 _ A21.out).mono ?_); rintro e w64 ⟨rfl, hb⟩; refine ⟨_, rfl, ?_⟩; have n0_ := Aside0.mk (blk_below (g := gb4806) (o := .cells #[.int .i64 a0_0, .int .i64 a0_1] 57 (0, 0)) (by refine blk_far ?_ NB4806_5114.out _; refine blk_far ?_ NB4806_5114.out _; exact BK4806.out) hb); have n1_ := Aside0.mk (blk_below (g := gb4807) (o := .cells #[.int .i64 a1_0, .int .i64 a1_1] 57 (0, 0)) (by refine blk_far ?_ NB4807_5114.out _; refine blk_far ?_ NB4807_5114.out _; exact BK4807.out) hb); have n2_ := Aside0.mk (blk_below (g := gb5114) (o := .cells #[.int .i64 t5111, .int .i64 t5112] 57 (0, 0)) (by refine blk_put (cs := #[.int .i64 t5111, .int .i64 0]) ?_ 1 _ rfl; refine blk_put (cs := #[.int .i64 0, .int .i64 0]) ?_ 0 _ rfl; exact BK5114.out) hb); have n3_ := Aside0.mk (below_step (by repeat (first | (with_reducible first | exact HB.out | apply below_alloc | apply pw_below_drewN | apply below_drew1 | refine below_set ?_ GE4806.out | refine below_set ?_ GE4807.out | refine below_set ?_ GE5114.out) | exact HB.out)) hb); clear BK4806 BK4807 BK5114 HB; have BK4806 := n0_; have BK4807 := n1_; have BK5114 := n2_; have HB := n3_; clear n0_ n1_ n2_ n3_; (try clear hb)) | ((with_reducible refine gate_dst (N := 8) rfl ?_); refine box_event ?hg (N := 8) ?hd (cs := #[.int .i64 0, .int .i64 0]) (t := 57) ?hr ?_; (case hd => rfl); (case hg => rfl); (case hr => first | (go_simp; done) | (go_simp; rfl)); intro gb5118 hg w65 hbox hb; have n0_ := Aside0.mk (blk_below (g := gb4806) (o := .cells #[.int .i64 a0_0, .int .i64 a0_1] 57 (0, 0)) (by exact BK4806.out) hb); have n1_ := Aside0.mk (blk_below (g := gb4807) (o := .cells #[.int .i64 a1_0, .int .i64 a1_1] 57 (0, 0)) (by exact BK4807.out) hb); have n2_ := Aside0.mk (blk_below (g := gb5114) (o := .cells #[.int .i64 t5111, .int .i64 t5112] 57 (0, 0)) (by exact BK5114.out) hb); have n3_ := Aside0.mk (below_step (by repeat (first | (with_reducible first | exact HB.out | apply below_alloc | apply pw_below_drewN | apply below_drew1 | refine below_set ?_ GE4806.out | refine below_set ?_ GE4807.out | refine below_set ?_ GE5114.out) | exact HB.out)) hb); have n4_ := Aside0.mk (hbox); have n5_ := Aside0.mk ((by rw [hg]; exact (below_size (by repeat (first | (with_reducible first | exact HB.out | apply below_alloc | apply pw_below_drewN | apply below_drew1 | refine below_set ?_ GE4806.out | refine below_set ?_ GE4807.out | refine below_set ?_ GE5114.out) | exact HB.out))) : w.heap.size ≤ gb5118)); have n6_ := Aside0.mk ((by rw [hg]; exact (below_size (by repeat (first | (with_reducible first | exact HB.out | apply below_alloc | apply pw_below_drewN | apply below_drew1 | refine below_set ?_ GE4806.out | refine below_set ?_ GE4807.out | refine below_set ?_ GE5114.out) | exact HB.out))) : w.heap.size ≤ gb5118)); have n7_ := Aside0.mk ((by rw [hg]; exact Nat.ne_of_lt (blk_lt (g := gb4806) (o := .cells #[.int .i64 a0_0, .int .i64 a0_1] 57 (0, 0)) (by exact BK4806.out)) : gb4806 ≠ gb5118)); have n8_ := Aside0.mk ((by rw [hg]; exact Nat.ne_of_gt (blk_lt (g := gb4806) (o := .cells #[.int .i64 a0_0, .int .i64 a0_1] 57 (0, 0)) (by exact BK4806.out)) : gb5118 ≠ gb4806)); have n9_ := Aside0.mk ((by rw [hg]; exact Nat.ne_of_lt (blk_lt (g := gb4807) (o := .cells #[.int .i64 a1_0, .int .i64 a1_1] 57 (0, 0)) (by exact BK4807.out)) : gb4807 ≠ gb5118)); have n10_ := Aside0.mk ((by rw [hg]; exact Nat.ne_of_gt (blk_lt (g := gb4807) (o := .cells #[.int .i64 a1_0, .int .i64 a1_1] 57 (0, 0)) (by exact BK4807.out)) : gb5118 ≠ gb4807)); have n11_ := Aside0.mk ((by rw [hg]; exact Nat.ne_of_lt (blk_lt (g := gb5114) (o := .cells #[.int .i64 t5111, .int .i64 t5112] 57 (0, 0)) (by exact BK5114.out)) : gb5114 ≠ gb5118)); have n12_ := Aside0.mk ((by rw [hg]; exact Nat.ne_of_gt (blk_lt (g := gb5114) (o := .cells #[.int .i64 t5111, .int .i64 t5112] 57 (0, 0)) (by exact BK5114.out)) : gb5118 ≠ gb5114)); clear BK4806 BK4807 BK5114 HB; have BK4806 := n0_; have BK4807 := n1_; have BK5114 := n2_; have HB := n3_; have BK5118 := n4_; have GW5118 := n5_; have GE5118 := n6_; have NB4806_5118 := n7_; have NB5118_4806 := n8_; have NB4807_5118 := n9_; have NB5118_4807 := n10_; have NB5114_5118 := n11_; have NB5118_5114 := n12_; clear n0_ n1_ n2_ n3_ n4_ n5_ n6_ n7_ n8_ n9_ n10_ n11_ n12_; clear hb hbox hg; have hnb66 := NB5118_4806.out; have hnc66 := NB4806_5118.out; have hnb67 := NB5118_4807.out; have hnc67 := NB4807_5118.out; have hnb68 := NB5118_5114.out; have hnc68 := NB5114_5118.out; have hcz69_0 : w65.cell? ⟨gb5118, 0, none⟩ = some (.int .i64 0) := (blk_cell BK5118.out 0).trans rfl; have hcz69_1 : w65.cell? ⟨gb5118, 1, none⟩ = some (.int .i64 0) := (blk_cell BK5118.out 1).trans rfl; have hfz69_0 := blk_frozen BK5118.out 0; have hfz69_1 := blk_frozen BK5118.out 1; have hcz70_0 : w65.cell? ⟨gb4806, 0, none⟩ = some (.int .i64 a0_0) := (blk_cell BK4806.out 0).trans rfl; have hcz70_1 : w65.cell? ⟨gb4806, 1, none⟩ = some (.int .i64 a0_1) := (blk_cell BK4806.out 1).trans rfl; have hfz70_0 := blk_frozen BK4806.out 0; have hfz70_1 := blk_frozen BK4806.out 1; have hcz71_0 : w65.cell? ⟨gb4807, 0, none⟩ = some (.int .i64 a1_0) := (blk_cell BK4807.out 0).trans rfl; have hcz71_1 : w65.cell? ⟨gb4807, 1, none⟩ = some (.int .i64 a1_1) := (blk_cell BK4807.out 1).trans rfl; have hfz71_0 := blk_frozen BK4807.out 0; have hfz71_1 := blk_frozen BK4807.out 1) | ((with_reducible refine gate_callee (f := 48) rfl ?_); refine goesL_ (some 45) rfl rfl Try.func48 (by kernel_rfl) rfl #[.agg #[.int .i64 a0_0, .int .i64 a0_1], .agg #[.int .i64 a1_0, .int .i64 a1_1]] rfl (by (try simp only [List.map_toArray, List.map_cons, List.map_nil]); first | done | rfl) ?_; (with_reducible refine (ratio_Mul.calls a0_0 a0_1 a1_0 a1_1 t5119 t5120 t5121 _ A22.out).mono ?_); rintro e w72 ⟨rfl, hb⟩; refine ⟨_, rfl, ?_⟩; have n0_ := Aside0.mk (blk_below (g := gb4806) (o := .cells #[.int .i64 a0_0, .int .i64 a0_1] 57 (0, 0)) (by refine blk_far ?_ NB4806_5118.out _; refine blk_far ?_ NB4806_5118.out _; exact BK4806.out) hb); have n1_ := Aside0.mk (blk_below (g := gb4807) (o := .cells #[.int .i64 a1_0, .int .i64 a1_1] 57 (0, 0)) (by refine blk_far ?_ NB4807_5118.out _; refine blk_far ?_ NB4807_5118.out _; exact BK4807.out) hb); have n2_ := Aside0.mk (blk_below (g := gb5114) (o := .cells #[.int .i64 t5111, .int .i64 t5112] 57 (0, 0)) (by refine blk_far ?_ NB5114_5118.out _; refine blk_far ?_ NB5114_5118.out _; exact BK5114.out) hb); have n3_ := Aside0.mk (blk_below (g := gb5118) (o := .cells #[.int .i64 t5115, .int .i64 t5116] 57 (0, 0)) (by refine blk_put (cs := #[.int .i64 t5115, .int .i64 0]) ?_ 1 _ rfl; refine blk_put (cs := #[.int .i64 0, .int .i64 0]) ?_ 0 _ rfl; exact BK5118.out) hb); have n4_ := Aside0.mk (below_step (by repeat (first | (with_reducible first | exact HB.out | apply below_alloc | apply pw_below_drewN | apply below_drew1 | refine below_set ?_ GE4806.out | refine below_set ?_ GE4807.out | refine below_set ?_ GE5114.out | refine below_set ?_ GE5118.out) | exact HB.out)) hb); clear BK4806 BK4807 BK5114 BK5118 HB; have BK4806 := n0_; have BK4807 := n1_; have BK5114 := n2_; have BK5118 := n3_; have HB := n4_; clear n0_ n1_ n2_ n3_ n4_; (try clear hb)) | ((with_reducible refine gate_dst (N := 10) rfl ?_); refine box_event ?hg (N := 10) ?hd (cs := #[.int .i64 0, .int .i64 0]) (t := 57) ?hr ?_; (case hd => rfl); (case hg => rfl); (case hr => first | (go_simp; done) | (go_simp; rfl)); intro gb5122 hg w73 hbox hb; have n0_ := Aside0.mk (blk_below (g := gb4806) (o := .cells #[.int .i64 a0_0, .int .i64 a0_1] 57 (0, 0)) (by exact BK4806.out) hb); have n1_ := Aside0.mk (blk_below (g := gb4807) (o := .cells #[.int .i64 a1_0, .int .i64 a1_1] 57 (0, 0)) (by exact BK4807.out) hb); have n2_ := Aside0.mk (blk_below (g := gb5114) (o := .cells #[.int .i64 t5111, .int .i64 t5112] 57 (0, 0)) (by exact BK5114.out) hb); have n3_ := Aside0.mk (blk_below (g := gb5118) (o := .cells #[.int .i64 t5115, .int .i64 t5116] 57 (0, 0)) (by exact BK5118.out) hb); have n4_ := Aside0.mk (below_step (by repeat (first | (with_reducible first | exact HB.out | apply below_alloc | apply pw_below_drewN | apply below_drew1 | refine below_set ?_ GE4806.out | refine below_set ?_ GE4807.out | refine below_set ?_ GE5114.out | refine below_set ?_ GE5118.out) | exact HB.out)) hb); have n5_ := Aside0.mk (hbox); have n6_ := Aside0.mk ((by rw [hg]; exact (below_size (by repeat (first | (with_reducible first | exact HB.out | apply below_alloc | apply pw_below_drewN | apply below_drew1 | refine below_set ?_ GE4806.out | refine below_set ?_ GE4807.out | refine below_set ?_ GE5114.out | refine below_set ?_ GE5118.out) | exact HB.out))) : w.heap.size ≤ gb5122)); have n7_ := Aside0.mk ((by rw [hg]; exact (below_size (by repeat (first | (with_reducible first | exact HB.out | apply below_alloc | apply pw_below_drewN | apply below_drew1 | refine below_set ?_ GE4806.out | refine below_set ?_ GE4807.out | refine below_set ?_ GE5114.out | refine below_set ?_ GE5118.out) | exact HB.out))) : w.heap.size ≤ gb5122)); have n8_ := Aside0.mk ((by rw [hg]; exact Nat.ne_of_lt (blk_lt (g := gb4806) (o := .cells #[.int .i64 a0_0, .int .i64 a0_1] 57 (0, 0)) (by exact BK4806.out)) : gb4806 ≠ gb5122)); have n9_ := Aside0.mk ((by rw [hg]; exact Nat.ne_of_gt (blk_lt (g := gb4806) (o := .cells #[.int .i64 a0_0, .int .i64 a0_1] 57 (0, 0)) (by exact BK4806.out)) : gb5122 ≠ gb4806)); have n10_ := Aside0.mk ((by rw [hg]; exact Nat.ne_of_lt (blk_lt (g := gb4807) (o := .cells #[.int .i64 a1_0, .int .i64 a1_1] 57 (0, 0)) (by exact BK4807.out)) : gb4807 ≠ gb5122)); have n11_ := Aside0.mk ((by rw [hg]; exact Nat.ne_of_gt (blk_lt (g := gb4807) (o := .cells #[.int .i64 a1_0, .int .i64 a1_1] 57 (0, 0)) (by exact BK4807.out)) : gb5122 ≠ gb4807)); have n12_ := Aside0.mk ((by rw [hg]; exact Nat.ne_of_lt (blk_lt (g := gb5114) (o := .cells #[.int .i64 t5111, .int .i64 t5112] 57 (0, 0)) (by exact BK5114.out)) : gb5114 ≠ gb5122)); have n13_ := Aside0.mk ((by rw [hg]; exact Nat.ne_of_gt (blk_lt (g := gb5114) (o := .cells #[.int .i64 t5111, .int .i64 t5112] 57 (0, 0)) (by exact BK5114.out)) : gb5122 ≠ gb5114)); have n14_ := Aside0.mk ((by rw [hg]; exact Nat.ne_of_lt (blk_lt (g := gb5118) (o := .cells #[.int .i64 t5115, .int .i64 t5116] 57 (0, 0)) (by exact BK5118.out)) : gb5118 ≠ gb5122)); have n15_ := Aside0.mk ((by rw [hg]; exact Nat.ne_of_gt (blk_lt (g := gb5118) (o := .cells #[.int .i64 t5115, .int .i64 t5116] 57 (0, 0)) (by exact BK5118.out)) : gb5122 ≠ gb5118)); clear BK4806 BK4807 BK5114 BK5118 HB; have BK4806 := n0_; have BK4807 := n1_; have BK5114 := n2_; have BK5118 := n3_; have HB := n4_; have BK5122 := n5_; have GW5122 := n6_; have GE5122 := n7_; have NB4806_5122 := n8_; have NB5122_4806 := n9_; have NB4807_5122 := n10_; have NB5122_4807 := n11_; have NB5114_5122 := n12_; have NB5122_5114 := n13_; have NB5118_5122 := n14_; have NB5122_5118 := n15_; clear n0_ n1_ n2_ n3_ n4_ n5_ n6_ n7_ n8_ n9_ n10_ n11_ n12_ n13_ n14_ n15_; clear hb hbox hg; have hnb74 := NB5122_4806.out; have hnc74 := NB4806_5122.out; have hnb75 := NB5122_4807.out; have hnc75 := NB4807_5122.out; have hnb76 := NB5122_5114.out; have hnc76 := NB5114_5122.out; have hnb77 := NB5122_5118.out; have hnc77 := NB5118_5122.out; have hcz78_0 : w73.cell? ⟨gb5122, 0, none⟩ = some (.int .i64 0) := (blk_cell BK5122.out 0).trans rfl; have hcz78_1 : w73.cell? ⟨gb5122, 1, none⟩ = some (.int .i64 0) := (blk_cell BK5122.out 1).trans rfl; have hfz78_0 := blk_frozen BK5122.out 0; have hfz78_1 := blk_frozen BK5122.out 1; have hcz79_0 : w73.cell? ⟨gb4807, 0, none⟩ = some (.int .i64 a1_0) := (blk_cell BK4807.out 0).trans rfl; have hcz79_1 : w73.cell? ⟨gb4807, 1, none⟩ = some (.int .i64 a1_1) := (blk_cell BK4807.out 1).trans rfl; have hfz79_0 := blk_frozen BK4807.out 0; have hfz79_1 := blk_frozen BK4807.out 1; have hcz80_0 : w73.cell? ⟨gb4806, 0, none⟩ = some (.int .i64 a0_0) := (blk_cell BK4806.out 0).trans rfl; have hcz80_1 : w73.cell? ⟨gb4806, 1, none⟩ = some (.int .i64 a0_1) := (blk_cell BK4806.out 1).trans rfl; have hfz80_0 := blk_frozen BK4806.out 0; have hfz80_1 := blk_frozen BK4806.out 1) | ((with_reducible refine gate_callee (f := 48) rfl ?_); refine goesL_ (some 51) rfl rfl Try.func48 (by kernel_rfl) rfl #[.agg #[.int .i64 a1_0, .int .i64 a1_1], .agg #[.int .i64 a0_0, .int .i64 a0_1]] rfl (by (try simp only [List.map_toArray, List.map_cons, List.map_nil]); first | done | rfl) ?_; (with_reducible refine (ratio_Mul.calls a1_0 a1_1 a0_0 a0_1 t5123 t5124 t5125 _ A23.out).mono ?_); rintro e w81 ⟨rfl, hb⟩; refine ⟨_, rfl, ?_⟩; have n0_ := Aside0.mk (blk_below (g := gb4806) (o := .cells #[.int .i64 a0_0, .int .i64 a0_1] 57 (0, 0)) (by refine blk_far ?_ NB4806_5122.out _; refine blk_far ?_ NB4806_5122.out _; exact BK4806.out) hb); have n1_ := Aside0.mk (blk_below (g := gb4807) (o := .cells #[.int .i64 a1_0, .int .i64 a1_1] 57 (0, 0)) (by refine blk_far ?_ NB4807_5122.out _; refine blk_far ?_ NB4807_5122.out _; exact BK4807.out) hb); have n2_ := Aside0.mk (blk_below (g := gb5114) (o := .cells #[.int .i64 t5111, .int .i64 t5112] 57 (0, 0)) (by refine blk_far ?_ NB5114_5122.out _; refine blk_far ?_ NB5114_5122.out _; exact BK5114.out) hb); have n3_ := Aside0.mk (blk_below (g := gb5118) (o := .cells #[.int .i64 t5115, .int .i64 t5116] 57 (0, 0)) (by refine blk_far ?_ NB5118_5122.out _; refine blk_far ?_ NB5118_5122.out _; exact BK5118.out) hb); have n4_ := Aside0.mk (blk_below (g := gb5122) (o := .cells #[.int .i64 t5119, .int .i64 t5120] 57 (0, 0)) (by refine blk_put (cs := #[.int .i64 t5119, .int .i64 0]) ?_ 1 _ rfl; refine blk_put (cs := #[.int .i64 0, .int .i64 0]) ?_ 0 _ rfl; exact BK5122.out) hb); have n5_ := Aside0.mk (below_step (by repeat (first | (with_reducible first | exact HB.out | apply below_alloc | apply pw_below_drewN | apply below_drew1 | refine below_set ?_ GE4806.out | refine below_set ?_ GE4807.out | refine below_set ?_ GE5114.out | refine below_set ?_ GE5118.out | refine below_set ?_ GE5122.out) | exact HB.out)) hb); clear BK4806 BK4807 BK5114 BK5118 BK5122 HB; have BK4806 := n0_; have BK4807 := n1_; have BK5114 := n2_; have BK5118 := n3_; have BK5122 := n4_; have HB := n5_; clear n0_ n1_ n2_ n3_ n4_ n5_; (try clear hb)) | ((with_reducible refine gate_dst (N := 12) rfl ?_); refine box_event ?hg (N := 12) ?hd (cs := #[.int .i64 0, .int .i64 0]) (t := 57) ?hr ?_; (case hd => rfl); (case hg => rfl); (case hr => first | (go_simp; done) | (go_simp; rfl)); intro gb5126 hg w82 hbox hb; have n0_ := Aside0.mk (blk_below (g := gb4806) (o := .cells #[.int .i64 a0_0, .int .i64 a0_1] 57 (0, 0)) (by exact BK4806.out) hb); have n1_ := Aside0.mk (blk_below (g := gb4807) (o := .cells #[.int .i64 a1_0, .int .i64 a1_1] 57 (0, 0)) (by exact BK4807.out) hb); have n2_ := Aside0.mk (blk_below (g := gb5114) (o := .cells #[.int .i64 t5111, .int .i64 t5112] 57 (0, 0)) (by exact BK5114.out) hb); have n3_ := Aside0.mk (blk_below (g := gb5118) (o := .cells #[.int .i64 t5115, .int .i64 t5116] 57 (0, 0)) (by exact BK5118.out) hb); have n4_ := Aside0.mk (blk_below (g := gb5122) (o := .cells #[.int .i64 t5119, .int .i64 t5120] 57 (0, 0)) (by exact BK5122.out) hb); have n5_ := Aside0.mk (below_step (by repeat (first | (with_reducible first | exact HB.out | apply below_alloc | apply pw_below_drewN | apply below_drew1 | refine below_set ?_ GE4806.out | refine below_set ?_ GE4807.out | refine below_set ?_ GE5114.out | refine below_set ?_ GE5118.out | refine below_set ?_ GE5122.out) | exact HB.out)) hb); have n6_ := Aside0.mk (hbox); have n7_ := Aside0.mk ((by rw [hg]; exact (below_size (by repeat (first | (with_reducible first | exact HB.out | apply below_alloc | apply pw_below_drewN | apply below_drew1 | refine below_set ?_ GE4806.out | refine below_set ?_ GE4807.out | refine below_set ?_ GE5114.out | refine below_set ?_ GE5118.out | refine below_set ?_ GE5122.out) | exact HB.out))) : w.heap.size ≤ gb5126)); have n8_ := Aside0.mk ((by rw [hg]; exact (below_size (by repeat (first | (with_reducible first | exact HB.out | apply below_alloc | apply pw_below_drewN | apply below_drew1 | refine below_set ?_ GE4806.out | refine below_set ?_ GE4807.out | refine below_set ?_ GE5114.out | refine below_set ?_ GE5118.out | refine below_set ?_ GE5122.out) | exact HB.out))) : w.heap.size ≤ gb5126)); have n9_ := Aside0.mk ((by rw [hg]; exact Nat.ne_of_lt (blk_lt (g := gb4806) (o := .cells #[.int .i64 a0_0, .int .i64 a0_1] 57 (0, 0)) (by exact BK4806.out)) : gb4806 ≠ gb5126)); have n10_ := Aside0.mk ((by rw [hg]; exact Nat.ne_of_gt (blk_lt (g := gb4806) (o := .cells #[.int .i64 a0_0, .int .i64 a0_1] 57 (0, 0)) (by exact BK4806.out)) : gb5126 ≠ gb4806)); have n11_ := Aside0.mk ((by rw [hg]; exact Nat.ne_of_lt (blk_lt (g := gb4807) (o := .cells #[.int .i64 a1_0, .int .i64 a1_1] 57 (0, 0)) (by exact BK4807.out)) : gb4807 ≠ gb5126)); have n12_ := Aside0.mk ((by rw [hg]; exact Nat.ne_of_gt (blk_lt (g := gb4807) (o := .cells #[.int .i64 a1_0, .int .i64 a1_1] 57 (0, 0)) (by exact BK4807.out)) : gb5126 ≠ gb4807)); have n13_ := Aside0.mk ((by rw [hg]; exact Nat.ne_of_lt (blk_lt (g := gb5114) (o := .cells #[.int .i64 t5111, .int .i64 t5112] 57 (0, 0)) (by exact BK5114.out)) : gb5114 ≠ gb5126)); have n14_ := Aside0.mk ((by rw [hg]; exact Nat.ne_of_gt (blk_lt (g := gb5114) (o := .cells #[.int .i64 t5111, .int .i64 t5112] 57 (0, 0)) (by exact BK5114.out)) : gb5126 ≠ gb5114)); have n15_ := Aside0.mk ((by rw [hg]; exact Nat.ne_of_lt (blk_lt (g := gb5118) (o := .cells #[.int .i64 t5115, .int .i64 t5116] 57 (0, 0)) (by exact BK5118.out)) : gb5118 ≠ gb5126)); have n16_ := Aside0.mk ((by rw [hg]; exact Nat.ne_of_gt (blk_lt (g := gb5118) (o := .cells #[.int .i64 t5115, .int .i64 t5116] 57 (0, 0)) (by exact BK5118.out)) : gb5126 ≠ gb5118)); have n17_ := Aside0.mk ((by rw [hg]; exact Nat.ne_of_lt (blk_lt (g := gb5122) (o := .cells #[.int .i64 t5119, .int .i64 t5120] 57 (0, 0)) (by exact BK5122.out)) : gb5122 ≠ gb5126)); have n18_ := Aside0.mk ((by rw [hg]; exact Nat.ne_of_gt (blk_lt (g := gb5122) (o := .cells #[.int .i64 t5119, .int .i64 t5120] 57 (0, 0)) (by exact BK5122.out)) : gb5126 ≠ gb5122)); clear BK4806 BK4807 BK5114 BK5118 BK5122 HB; have BK4806 := n0_; have BK4807 := n1_; have BK5114 := n2_; have BK5118 := n3_; have BK5122 := n4_; have HB := n5_; have BK5126 := n6_; have GW5126 := n7_; have GE5126 := n8_; have NB4806_5126 := n9_; have NB5126_4806 := n10_; have NB4807_5126 := n11_; have NB5126_4807 := n12_; have NB5114_5126 := n13_; have NB5126_5114 := n14_; have NB5118_5126 := n15_; have NB5126_5118 := n16_; have NB5122_5126 := n17_; have NB5126_5122 := n18_; clear n0_ n1_ n2_ n3_ n4_ n5_ n6_ n7_ n8_ n9_ n10_ n11_ n12_ n13_ n14_ n15_ n16_ n17_ n18_; clear hb hbox hg; have hnb83 := NB5126_4806.out; have hnc83 := NB4806_5126.out; have hnb84 := NB5126_4807.out; have hnc84 := NB4807_5126.out; have hnb85 := NB5126_5114.out; have hnc85 := NB5114_5126.out; have hnb86 := NB5126_5118.out; have hnc86 := NB5118_5126.out; have hnb87 := NB5126_5122.out; have hnc87 := NB5122_5126.out; have hcz88_0 : w82.cell? ⟨gb5126, 0, none⟩ = some (.int .i64 0) := (blk_cell BK5126.out 0).trans rfl; have hcz88_1 : w82.cell? ⟨gb5126, 1, none⟩ = some (.int .i64 0) := (blk_cell BK5126.out 1).trans rfl; have hfz88_0 := blk_frozen BK5126.out 0; have hfz88_1 := blk_frozen BK5126.out 1; have hcz89_0 : w82.cell? ⟨gb4806, 0, none⟩ = some (.int .i64 a0_0) := (blk_cell BK4806.out 0).trans rfl; have hcz89_1 : w82.cell? ⟨gb4806, 1, none⟩ = some (.int .i64 a0_1) := (blk_cell BK4806.out 1).trans rfl; have hfz89_0 := blk_frozen BK4806.out 0; have hfz89_1 := blk_frozen BK4806.out 1) | ((with_reducible refine gate_callee (f := 46) rfl ?_); refine goesL_ (some 57) rfl rfl Try.func46 (by kernel_rfl) rfl #[.agg #[.int .i64 a0_0, .int .i64 a0_1], .agg #[.int .i64 0, .int .i64 1]] rfl (by (try simp only [List.map_toArray, List.map_cons, List.map_nil]); first | done | rfl) ?_; (with_reducible refine (ratio_Add.calls a0_0 a0_1 0 1 t5127 t5128 t5129 _ A24.out).mono ?_); rintro e w90 ⟨rfl, hb⟩; refine ⟨_, rfl, ?_⟩; have n0_ := Aside0.mk (blk_below (g := gb4806) (o := .cells #[.int .i64 a0_0, .int .i64 a0_1] 57 (0, 0)) (by refine blk_far ?_ NB4806_5126.out _; refine blk_far ?_ NB4806_5126.out _; exact BK4806.out) hb); have n1_ := Aside0.mk (blk_below (g := gb4807) (o := .cells #[.int .i64 a1_0, .int .i64 a1_1] 57 (0, 0)) (by refine blk_far ?_ NB4807_5126.out _; refine blk_far ?_ NB4807_5126.out _; exact BK4807.out) hb); have n2_ := Aside0.mk (blk_below (g := gb5114) (o := .cells #[.int .i64 t5111, .int .i64 t5112] 57 (0, 0)) (by refine blk_far ?_ NB5114_5126.out _; refine blk_far ?_ NB5114_5126.out _; exact BK5114.out) hb); have n3_ := Aside0.mk (blk_below (g := gb5118) (o := .cells #[.int .i64 t5115, .int .i64 t5116] 57 (0, 0)) (by refine blk_far ?_ NB5118_5126.out _; refine blk_far ?_ NB5118_5126.out _; exact BK5118.out) hb); have n4_ := Aside0.mk (blk_below (g := gb5122) (o := .cells #[.int .i64 t5119, .int .i64 t5120] 57 (0, 0)) (by refine blk_far ?_ NB5122_5126.out _; refine blk_far ?_ NB5122_5126.out _; exact BK5122.out) hb); have n5_ := Aside0.mk (blk_below (g := gb5126) (o := .cells #[.int .i64 t5123, .int .i64 t5124] 57 (0, 0)) (by refine blk_put (cs := #[.int .i64 t5123, .int .i64 0]) ?_ 1 _ rfl; refine blk_put (cs := #[.int .i64 0, .int .i64 0]) ?_ 0 _ rfl; exact BK5126.out) hb); have n6_ := Aside0.mk (below_step (by repeat (first | (with_reducible first | exact HB.out | apply below_alloc | apply pw_below_drewN | apply below_drew1 | refine below_set ?_ GE4806.out | refine below_set ?_ GE4807.out | refine below_set ?_ GE5114.out | refine below_set ?_ GE5118.out | refine below_set ?_ GE5122.out | refine below_set ?_ GE5126.out) | exact HB.out)) hb); clear BK4806 BK4807 BK5114 BK5118 BK5122 BK5126 HB; have BK4806 := n0_; have BK4807 := n1_; have BK5114 := n2_; have BK5118 := n3_; have BK5122 := n4_; have BK5126 := n5_; have HB := n6_; clear n0_ n1_ n2_ n3_ n4_ n5_ n6_; (try clear hb)) | ((with_reducible refine gate_dst (N := 14) rfl ?_); refine box_event ?hg (N := 14) ?hd (cs := #[.int .i64 0, .int .i64 0]) (t := 57) ?hr ?_; (case hd => rfl); (case hg => rfl); (case hr => first | (go_simp; done) | (go_simp; rfl)); intro gb5130 hg w91 hbox hb; have n0_ := Aside0.mk (blk_below (g := gb4806) (o := .cells #[.int .i64 a0_0, .int .i64 a0_1] 57 (0, 0)) (by exact BK4806.out) hb); have n1_ := Aside0.mk (blk_below (g := gb4807) (o := .cells #[.int .i64 a1_0, .int .i64 a1_1] 57 (0, 0)) (by exact BK4807.out) hb); have n2_ := Aside0.mk (blk_below (g := gb5114) (o := .cells #[.int .i64 t5111, .int .i64 t5112] 57 (0, 0)) (by exact BK5114.out) hb); have n3_ := Aside0.mk (blk_below (g := gb5118) (o := .cells #[.int .i64 t5115, .int .i64 t5116] 57 (0, 0)) (by exact BK5118.out) hb); have n4_ := Aside0.mk (blk_below (g := gb5122) (o := .cells #[.int .i64 t5119, .int .i64 t5120] 57 (0, 0)) (by exact BK5122.out) hb); have n5_ := Aside0.mk (blk_below (g := gb5126) (o := .cells #[.int .i64 t5123, .int .i64 t5124] 57 (0, 0)) (by exact BK5126.out) hb); have n6_ := Aside0.mk (below_step (by repeat (first | (with_reducible first | exact HB.out | apply below_alloc | apply pw_below_drewN | apply below_drew1 | refine below_set ?_ GE4806.out | refine below_set ?_ GE4807.out | refine below_set ?_ GE5114.out | refine below_set ?_ GE5118.out | refine below_set ?_ GE5122.out | refine below_set ?_ GE5126.out) | exact HB.out)) hb); have n7_ := Aside0.mk (hbox); have n8_ := Aside0.mk ((by rw [hg]; exact (below_size (by repeat (first | (with_reducible first | exact HB.out | apply below_alloc | apply pw_below_drewN | apply below_drew1 | refine below_set ?_ GE4806.out | refine below_set ?_ GE4807.out | refine below_set ?_ GE5114.out | refine below_set ?_ GE5118.out | refine below_set ?_ GE5122.out | refine below_set ?_ GE5126.out) | exact HB.out))) : w.heap.size ≤ gb5130)); have n9_ := Aside0.mk ((by rw [hg]; exact (below_size (by repeat (first | (with_reducible first | exact HB.out | apply below_alloc | apply pw_below_drewN | apply below_drew1 | refine below_set ?_ GE4806.out | refine below_set ?_ GE4807.out | refine below_set ?_ GE5114.out | refine below_set ?_ GE5118.out | refine below_set ?_ GE5122.out | refine below_set ?_ GE5126.out) | exact HB.out))) : w.heap.size ≤ gb5130)); have n10_ := Aside0.mk ((by rw [hg]; exact Nat.ne_of_lt (blk_lt (g := gb4806) (o := .cells #[.int .i64 a0_0, .int .i64 a0_1] 57 (0, 0)) (by exact BK4806.out)) : gb4806 ≠ gb5130)); have n11_ := Aside0.mk ((by rw [hg]; exact Nat.ne_of_gt (blk_lt (g := gb4806) (o := .cells #[.int .i64 a0_0, .int .i64 a0_1] 57 (0, 0)) (by exact BK4806.out)) : gb5130 ≠ gb4806)); have n12_ := Aside0.mk ((by rw [hg]; exact Nat.ne_of_lt (blk_lt (g := gb4807) (o := .cells #[.int .i64 a1_0, .int .i64 a1_1] 57 (0, 0)) (by exact BK4807.out)) : gb4807 ≠ gb5130)); have n13_ := Aside0.mk ((by rw [hg]; exact Nat.ne_of_gt (blk_lt (g := gb4807) (o := .cells #[.int .i64 a1_0, .int .i64 a1_1] 57 (0, 0)) (by exact BK4807.out)) : gb5130 ≠ gb4807)); have n14_ := Aside0.mk ((by rw [hg]; exact Nat.ne_of_lt (blk_lt (g := gb5114) (o := .cells #[.int .i64 t5111, .int .i64 t5112] 57 (0, 0)) (by exact BK5114.out)) : gb5114 ≠ gb5130)); have n15_ := Aside0.mk ((by rw [hg]; exact Nat.ne_of_gt (blk_lt (g := gb5114) (o := .cells #[.int .i64 t5111, .int .i64 t5112] 57 (0, 0)) (by exact BK5114.out)) : gb5130 ≠ gb5114)); have n16_ := Aside0.mk ((by rw [hg]; exact Nat.ne_of_lt (blk_lt (g := gb5118) (o := .cells #[.int .i64 t5115, .int .i64 t5116] 57 (0, 0)) (by exact BK5118.out)) : gb5118 ≠ gb5130)); have n17_ := Aside0.mk ((by rw [hg]; exact Nat.ne_of_gt (blk_lt (g := gb5118) (o := .cells #[.int .i64 t5115, .int .i64 t5116] 57 (0, 0)) (by exact BK5118.out)) : gb5130 ≠ gb5118)); have n18_ := Aside0.mk ((by rw [hg]; exact Nat.ne_of_lt (blk_lt (g := gb5122) (o := .cells #[.int .i64 t5119, .int .i64 t5120] 57 (0, 0)) (by exact BK5122.out)) : gb5122 ≠ gb5130)); have n19_ := Aside0.mk ((by rw [hg]; exact Nat.ne_of_gt (blk_lt (g := gb5122) (o := .cells #[.int .i64 t5119, .int .i64 t5120] 57 (0, 0)) (by exact BK5122.out)) : gb5130 ≠ gb5122)); have n20_ := Aside0.mk ((by rw [hg]; exact Nat.ne_of_lt (blk_lt (g := gb5126) (o := .cells #[.int .i64 t5123, .int .i64 t5124] 57 (0, 0)) (by exact BK5126.out)) : gb5126 ≠ gb5130)); have n21_ := Aside0.mk ((by rw [hg]; exact Nat.ne_of_gt (blk_lt (g := gb5126) (o := .cells #[.int .i64 t5123, .int .i64 t5124] 57 (0, 0)) (by exact BK5126.out)) : gb5130 ≠ gb5126)); clear BK4806 BK4807 BK5114 BK5118 BK5122 BK5126 HB; have BK4806 := n0_; have BK4807 := n1_; have BK5114 := n2_; have BK5118 := n3_; have BK5122 := n4_; have BK5126 := n5_; have HB := n6_; have BK5130 := n7_; have GW5130 := n8_; have GE5130 := n9_; have NB4806_5130 := n10_; have NB5130_4806 := n11_; have NB4807_5130 := n12_; have NB5130_4807 := n13_; have NB5114_5130 := n14_; have NB5130_5114 := n15_; have NB5118_5130 := n16_; have NB5130_5118 := n17_; have NB5122_5130 := n18_; have NB5130_5122 := n19_; have NB5126_5130 := n20_; have NB5130_5126 := n21_; clear n0_ n1_ n2_ n3_ n4_ n5_ n6_ n7_ n8_ n9_ n10_ n11_ n12_ n13_ n14_ n15_ n16_ n17_ n18_ n19_ n20_ n21_; clear hb hbox hg; have hnb92 := NB5130_4806.out; have hnc92 := NB4806_5130.out; have hnb93 := NB5130_4807.out; have hnc93 := NB4807_5130.out; have hnb94 := NB5130_5114.out; have hnc94 := NB5114_5130.out; have hnb95 := NB5130_5118.out; have hnc95 := NB5118_5130.out; have hnb96 := NB5130_5122.out; have hnc96 := NB5122_5130.out; have hnb97 := NB5130_5126.out; have hnc97 := NB5126_5130.out; have hcz98_0 : w91.cell? ⟨gb5130, 0, none⟩ = some (.int .i64 0) := (blk_cell BK5130.out 0).trans rfl; have hcz98_1 : w91.cell? ⟨gb5130, 1, none⟩ = some (.int .i64 0) := (blk_cell BK5130.out 1).trans rfl; have hfz98_0 := blk_frozen BK5130.out 0; have hfz98_1 := blk_frozen BK5130.out 1; have hcz99_0 : w91.cell? ⟨gb4806, 0, none⟩ = some (.int .i64 a0_0) := (blk_cell BK4806.out 0).trans rfl; have hcz99_1 : w91.cell? ⟨gb4806, 1, none⟩ = some (.int .i64 a0_1) := (blk_cell BK4806.out 1).trans rfl; have hfz99_0 := blk_frozen BK4806.out 0; have hfz99_1 := blk_frozen BK4806.out 1) | ((with_reducible refine gate_callee (f := 48) rfl ?_); refine goesL_ (some 63) rfl rfl Try.func48 (by kernel_rfl) rfl #[.agg #[.int .i64 a0_0, .int .i64 a0_1], .agg #[.int .i64 1, .int .i64 1]] rfl (by (try simp only [List.map_toArray, List.map_cons, List.map_nil]); first | done | rfl) ?_; (with_reducible refine (ratio_Mul.calls a0_0 a0_1 1 1 t5131 t5132 t5133 _ A25.out).mono ?_); rintro e w100 ⟨rfl, hb⟩; refine ⟨_, rfl, ?_⟩; have n0_ := Aside0.mk (blk_below (g := gb4806) (o := .cells #[.int .i64 a0_0, .int .i64 a0_1] 57 (0, 0)) (by refine blk_far ?_ NB4806_5130.out _; refine blk_far ?_ NB4806_5130.out _; exact BK4806.out) hb); have n1_ := Aside0.mk (blk_below (g := gb4807) (o := .cells #[.int .i64 a1_0, .int .i64 a1_1] 57 (0, 0)) (by refine blk_far ?_ NB4807_5130.out _; refine blk_far ?_ NB4807_5130.out _; exact BK4807.out) hb); have n2_ := Aside0.mk (blk_below (g := gb5114) (o := .cells #[.int .i64 t5111, .int .i64 t5112] 57 (0, 0)) (by refine blk_far ?_ NB5114_5130.out _; refine blk_far ?_ NB5114_5130.out _; exact BK5114.out) hb); have n3_ := Aside0.mk (blk_below (g := gb5118) (o := .cells #[.int .i64 t5115, .int .i64 t5116] 57 (0, 0)) (by refine blk_far ?_ NB5118_5130.out _; refine blk_far ?_ NB5118_5130.out _; exact BK5118.out) hb); have n4_ := Aside0.mk (blk_below (g := gb5122) (o := .cells #[.int .i64 t5119, .int .i64 t5120] 57 (0, 0)) (by refine blk_far ?_ NB5122_5130.out _; refine blk_far ?_ NB5122_5130.out _; exact BK5122.out) hb); have n5_ := Aside0.mk (blk_below (g := gb5126) (o := .cells #[.int .i64 t5123, .int .i64 t5124] 57 (0, 0)) (by refine blk_far ?_ NB5126_5130.out _; refine blk_far ?_ NB5126_5130.out _; exact BK5126.out) hb); have n6_ := Aside0.mk (blk_below (g := gb5130) (o := .cells #[.int .i64 t5127, .int .i64 t5128] 57 (0, 0)) (by refine blk_put (cs := #[.int .i64 t5127, .int .i64 0]) ?_ 1 _ rfl; refine blk_put (cs := #[.int .i64 0, .int .i64 0]) ?_ 0 _ rfl; exact BK5130.out) hb); have n7_ := Aside0.mk (below_step (by repeat (first | (with_reducible first | exact HB.out | apply below_alloc | apply pw_below_drewN | apply below_drew1 | refine below_set ?_ GE4806.out | refine below_set ?_ GE4807.out | refine below_set ?_ GE5114.out | refine below_set ?_ GE5118.out | refine below_set ?_ GE5122.out | refine below_set ?_ GE5126.out | refine below_set ?_ GE5130.out) | exact HB.out)) hb); clear BK4806 BK4807 BK5114 BK5118 BK5122 BK5126 BK5130 HB; have BK4806 := n0_; have BK4807 := n1_; have BK5114 := n2_; have BK5118 := n3_; have BK5122 := n4_; have BK5126 := n5_; have BK5130 := n6_; have HB := n7_; clear n0_ n1_ n2_ n3_ n4_ n5_ n6_ n7_; (try clear hb)) | ((with_reducible refine gate_dst (N := 16) rfl ?_); refine box_event ?hg (N := 16) ?hd (cs := #[.int .i64 0, .int .i64 0]) (t := 57) ?hr ?_; (case hd => rfl); (case hg => rfl); (case hr => first | (go_simp; done) | (go_simp; rfl)); intro gb5134 hg w101 hbox hb; have n0_ := Aside0.mk (blk_below (g := gb4806) (o := .cells #[.int .i64 a0_0, .int .i64 a0_1] 57 (0, 0)) (by exact BK4806.out) hb); have n1_ := Aside0.mk (blk_below (g := gb4807) (o := .cells #[.int .i64 a1_0, .int .i64 a1_1] 57 (0, 0)) (by exact BK4807.out) hb); have n2_ := Aside0.mk (blk_below (g := gb5114) (o := .cells #[.int .i64 t5111, .int .i64 t5112] 57 (0, 0)) (by exact BK5114.out) hb); have n3_ := Aside0.mk (blk_below (g := gb5118) (o := .cells #[.int .i64 t5115, .int .i64 t5116] 57 (0, 0)) (by exact BK5118.out) hb); have n4_ := Aside0.mk (blk_below (g := gb5122) (o := .cells #[.int .i64 t5119, .int .i64 t5120] 57 (0, 0)) (by exact BK5122.out) hb); have n5_ := Aside0.mk (blk_below (g := gb5126) (o := .cells #[.int .i64 t5123, .int .i64 t5124] 57 (0, 0)) (by exact BK5126.out) hb); have n6_ := Aside0.mk (blk_below (g := gb5130) (o := .cells #[.int .i64 t5127, .int .i64 t5128] 57 (0, 0)) (by exact BK5130.out) hb); have n7_ := Aside0.mk (below_step (by repeat (first | (with_reducible first | exact HB.out | apply below_alloc | apply pw_below_drewN | apply below_drew1 | refine below_set ?_ GE4806.out | refine below_set ?_ GE4807.out | refine below_set ?_ GE5114.out | refine below_set ?_ GE5118.out | refine below_set ?_ GE5122.out | refine below_set ?_ GE5126.out | refine below_set ?_ GE5130.out) | exact HB.out)) hb); have n8_ := Aside0.mk (hbox); have n9_ := Aside0.mk ((by rw [hg]; exact (below_size (by repeat (first | (with_reducible first | exact HB.out | apply below_alloc | apply pw_below_drewN | apply below_drew1 | refine below_set ?_ GE4806.out | refine below_set ?_ GE4807.out | refine below_set ?_ GE5114.out | refine below_set ?_ GE5118.out | refine below_set ?_ GE5122.out | refine below_set ?_ GE5126.out | refine below_set ?_ GE5130.out) | exact HB.out))) : w.heap.size ≤ gb5134)); have n10_ := Aside0.mk ((by rw [hg]; exact (below_size (by repeat (first | (with_reducible first | exact HB.out | apply below_alloc | apply pw_below_drewN | apply below_drew1 | refine below_set ?_ GE4806.out | refine below_set ?_ GE4807.out | refine below_set ?_ GE5114.out | refine below_set ?_ GE5118.out | refine below_set ?_ GE5122.out | refine below_set ?_ GE5126.out | refine below_set ?_ GE5130.out) | exact HB.out))) : w.heap.size ≤ gb5134)); have n11_ := Aside0.mk ((by rw [hg]; exact Nat.ne_of_lt (blk_lt (g := gb4806) (o := .cells #[.int .i64 a0_0, .int .i64 a0_1] 57 (0, 0)) (by exact BK4806.out)) : gb4806 ≠ gb5134)); have n12_ := Aside0.mk ((by rw [hg]; exact Nat.ne_of_gt (blk_lt (g := gb4806) (o := .cells #[.int .i64 a0_0, .int .i64 a0_1] 57 (0, 0)) (by exact BK4806.out)) : gb5134 ≠ gb4806)); have n13_ := Aside0.mk ((by rw [hg]; exact Nat.ne_of_lt (blk_lt (g := gb4807) (o := .cells #[.int .i64 a1_0, .int .i64 a1_1] 57 (0, 0)) (by exact BK4807.out)) : gb4807 ≠ gb5134)); have n14_ := Aside0.mk ((by rw [hg]; exact Nat.ne_of_gt (blk_lt (g := gb4807) (o := .cells #[.int .i64 a1_0, .int .i64 a1_1] 57 (0, 0)) (by exact BK4807.out)) : gb5134 ≠ gb4807)); have n15_ := Aside0.mk ((by rw [hg]; exact Nat.ne_of_lt (blk_lt (g := gb5114) (o := .cells #[.int .i64 t5111, .int .i64 t5112] 57 (0, 0)) (by exact BK5114.out)) : gb5114 ≠ gb5134)); have n16_ := Aside0.mk ((by rw [hg]; exact Nat.ne_of_gt (blk_lt (g := gb5114) (o := .cells #[.int .i64 t5111, .int .i64 t5112] 57 (0, 0)) (by exact BK5114.out)) : gb5134 ≠ gb5114)); have n17_ := Aside0.mk ((by rw [hg]; exact Nat.ne_of_lt (blk_lt (g := gb5118) (o := .cells #[.int .i64 t5115, .int .i64 t5116] 57 (0, 0)) (by exact BK5118.out)) : gb5118 ≠ gb5134)); have n18_ := Aside0.mk ((by rw [hg]; exact Nat.ne_of_gt (blk_lt (g := gb5118) (o := .cells #[.int .i64 t5115, .int .i64 t5116] 57 (0, 0)) (by exact BK5118.out)) : gb5134 ≠ gb5118)); have n19_ := Aside0.mk ((by rw [hg]; exact Nat.ne_of_lt (blk_lt (g := gb5122) (o := .cells #[.int .i64 t5119, .int .i64 t5120] 57 (0, 0)) (by exact BK5122.out)) : gb5122 ≠ gb5134)); have n20_ := Aside0.mk ((by rw [hg]; exact Nat.ne_of_gt (blk_lt (g := gb5122) (o := .cells #[.int .i64 t5119, .int .i64 t5120] 57 (0, 0)) (by exact BK5122.out)) : gb5134 ≠ gb5122)); have n21_ := Aside0.mk ((by rw [hg]; exact Nat.ne_of_lt (blk_lt (g := gb5126) (o := .cells #[.int .i64 t5123, .int .i64 t5124] 57 (0, 0)) (by exact BK5126.out)) : gb5126 ≠ gb5134)); have n22_ := Aside0.mk ((by rw [hg]; exact Nat.ne_of_gt (blk_lt (g := gb5126) (o := .cells #[.int .i64 t5123, .int .i64 t5124] 57 (0, 0)) (by exact BK5126.out)) : gb5134 ≠ gb5126)); have n23_ := Aside0.mk ((by rw [hg]; exact Nat.ne_of_lt (blk_lt (g := gb5130) (o := .cells #[.int .i64 t5127, .int .i64 t5128] 57 (0, 0)) (by exact BK5130.out)) : gb5130 ≠ gb5134)); have n24_ := Aside0.mk ((by rw [hg]; exact Nat.ne_of_gt (blk_lt (g := gb5130) (o := .cells #[.int .i64 t5127, .int .i64 t5128] 57 (0, 0)) (by exact BK5130.out)) : gb5134 ≠ gb5130)); clear BK4806 BK4807 BK5114 BK5118 BK5122 BK5126 BK5130 HB; have BK4806 := n0_; have BK4807 := n1_; have BK5114 := n2_; have BK5118 := n3_; have BK5122 := n4_; have BK5126 := n5_; have BK5130 := n6_; have HB := n7_; have BK5134 := n8_; have GW5134 := n9_; have GE5134 := n10_; have NB4806_5134 := n11_; have NB5134_4806 := n12_; have NB4807_5134 := n13_; have NB5134_4807 := n14_; have NB5114_5134 := n15_; have NB5134_5114 := n16_; have NB5118_5134 := n17_; have NB5134_5118 := n18_; have NB5122_5134 := n19_; have NB5134_5122 := n20_; have NB5126_5134 := n21_; have NB5134_5126 := n22_; have NB5130_5134 := n23_; have NB5134_5130 := n24_; clear n0_ n1_ n2_ n3_ n4_ n5_ n6_ n7_ n8_ n9_ n10_ n11_ n12_ n13_ n14_ n15_ n16_ n17_ n18_ n19_ n20_ n21_ n22_ n23_ n24_; clear hb hbox hg; have hnb102 := NB5134_4806.out; have hnc102 := NB4806_5134.out; have hnb103 := NB5134_4807.out; have hnc103 := NB4807_5134.out; have hnb104 := NB5134_5114.out; have hnc104 := NB5114_5134.out; have hnb105 := NB5134_5118.out; have hnc105 := NB5118_5134.out; have hnb106 := NB5134_5122.out; have hnc106 := NB5122_5134.out; have hnb107 := NB5134_5126.out; have hnc107 := NB5126_5134.out; have hnb108 := NB5134_5130.out; have hnc108 := NB5130_5134.out; have hcz109_0 : w101.cell? ⟨gb5134, 0, none⟩ = some (.int .i64 0) := (blk_cell BK5134.out 0).trans rfl; have hcz109_1 : w101.cell? ⟨gb5134, 1, none⟩ = some (.int .i64 0) := (blk_cell BK5134.out 1).trans rfl; have hfz109_0 := blk_frozen BK5134.out 0; have hfz109_1 := blk_frozen BK5134.out 1; have hcz110_0 : w101.cell? ⟨gb4806, 0, none⟩ = some (.int .i64 a0_0) := (blk_cell BK4806.out 0).trans rfl; have hcz110_1 : w101.cell? ⟨gb4806, 1, none⟩ = some (.int .i64 a0_1) := (blk_cell BK4806.out 1).trans rfl; have hfz110_0 := blk_frozen BK4806.out 0; have hfz110_1 := blk_frozen BK4806.out 1) | ((with_reducible refine gate_callee (f := 48) rfl ?_); refine goesL_ (some 69) rfl rfl Try.func48 (by kernel_rfl) rfl #[.agg #[.int .i64 a0_0, .int .i64 a0_1], .agg #[.int .i64 0, .int .i64 1]] rfl (by (try simp only [List.map_toArray, List.map_cons, List.map_nil]); first | done | rfl) ?_; (with_reducible refine (ratio_Mul.calls a0_0 a0_1 0 1 t5135 t5136 t5137 _ A26.out).mono ?_); rintro e w111 ⟨rfl, hb⟩; refine ⟨_, rfl, ?_⟩; have n0_ := Aside0.mk (blk_below (g := gb4806) (o := .cells #[.int .i64 a0_0, .int .i64 a0_1] 57 (0, 0)) (by refine blk_far ?_ NB4806_5134.out _; refine blk_far ?_ NB4806_5134.out _; exact BK4806.out) hb); have n1_ := Aside0.mk (blk_below (g := gb4807) (o := .cells #[.int .i64 a1_0, .int .i64 a1_1] 57 (0, 0)) (by refine blk_far ?_ NB4807_5134.out _; refine blk_far ?_ NB4807_5134.out _; exact BK4807.out) hb); have n2_ := Aside0.mk (blk_below (g := gb5114) (o := .cells #[.int .i64 t5111, .int .i64 t5112] 57 (0, 0)) (by refine blk_far ?_ NB5114_5134.out _; refine blk_far ?_ NB5114_5134.out _; exact BK5114.out) hb); have n3_ := Aside0.mk (blk_below (g := gb5118) (o := .cells #[.int .i64 t5115, .int .i64 t5116] 57 (0, 0)) (by refine blk_far ?_ NB5118_5134.out _; refine blk_far ?_ NB5118_5134.out _; exact BK5118.out) hb); have n4_ := Aside0.mk (blk_below (g := gb5122) (o := .cells #[.int .i64 t5119, .int .i64 t5120] 57 (0, 0)) (by refine blk_far ?_ NB5122_5134.out _; refine blk_far ?_ NB5122_5134.out _; exact BK5122.out) hb); have n5_ := Aside0.mk (blk_below (g := gb5126) (o := .cells #[.int .i64 t5123, .int .i64 t5124] 57 (0, 0)) (by refine blk_far ?_ NB5126_5134.out _; refine blk_far ?_ NB5126_5134.out _; exact BK5126.out) hb); have n6_ := Aside0.mk (blk_below (g := gb5130) (o := .cells #[.int .i64 t5127, .int .i64 t5128] 57 (0, 0)) (by refine blk_far ?_ NB5130_5134.out _; refine blk_far ?_ NB5130_5134.out _; exact BK5130.out) hb); have n7_ := Aside0.mk (blk_below (g := gb5134) (o := .cells #[.int .i64 t5131, .int .i64 t5132] 57 (0, 0)) (by refine blk_put (cs := #[.int .i64 t5131, .int .i64 0]) ?_ 1 _ rfl; refine blk_put (cs := #[.int .i64 0, .int .i64 0]) ?_ 0 _ rfl; exact BK5134.out) hb); have n8_ := Aside0.mk (below_step (by repeat (first | (with_reducible first | exact HB.out | apply below_alloc | apply pw_below_drewN | apply below_drew1 | refine below_set ?_ GE4806.out | refine below_set ?_ GE4807.out | refine below_set ?_ GE5114.out | refine below_set ?_ GE5118.out | refine below_set ?_ GE5122.out | refine below_set ?_ GE5126.out | refine below_set ?_ GE5130.out | refine below_set ?_ GE5134.out) | exact HB.out)) hb); clear BK4806 BK4807 BK5114 BK5118 BK5122 BK5126 BK5130 BK5134 HB; have BK4806 := n0_; have BK4807 := n1_; have BK5114 := n2_; have BK5118 := n3_; have BK5122 := n4_; have BK5126 := n5_; have BK5130 := n6_; have BK5134 := n7_; have HB := n8_; clear n0_ n1_ n2_ n3_ n4_ n5_ n6_ n7_ n8_; (try clear hb)) | ((with_reducible refine gate_dst (N := 18) rfl ?_); refine box_event ?hg (N := 18) ?hd (cs := #[.int .i64 0, .int .i64 0]) (t := 57) ?hr ?_; (case hd => rfl); (case hg => rfl); (case hr => first | (go_simp; done) | (go_simp; rfl)); intro gb5138 hg w112 hbox hb; have n0_ := Aside0.mk (blk_below (g := gb4806) (o := .cells #[.int .i64 a0_0, .int .i64 a0_1] 57 (0, 0)) (by exact BK4806.out) hb); have n1_ := Aside0.mk (blk_below (g := gb4807) (o := .cells #[.int .i64 a1_0, .int .i64 a1_1] 57 (0, 0)) (by exact BK4807.out) hb); have n2_ := Aside0.mk (blk_below (g := gb5114) (o := .cells #[.int .i64 t5111, .int .i64 t5112] 57 (0, 0)) (by exact BK5114.out) hb); have n3_ := Aside0.mk (blk_below (g := gb5118) (o := .cells #[.int .i64 t5115, .int .i64 t5116] 57 (0, 0)) (by exact BK5118.out) hb); have n4_ := Aside0.mk (blk_below (g := gb5122) (o := .cells #[.int .i64 t5119, .int .i64 t5120] 57 (0, 0)) (by exact BK5122.out) hb); have n5_ := Aside0.mk (blk_below (g := gb5126) (o := .cells #[.int .i64 t5123, .int .i64 t5124] 57 (0, 0)) (by exact BK5126.out) hb); have n6_ := Aside0.mk (blk_below (g := gb5130) (o := .cells #[.int .i64 t5127, .int .i64 t5128] 57 (0, 0)) (by exact BK5130.out) hb); have n7_ := Aside0.mk (blk_below (g := gb5134) (o := .cells #[.int .i64 t5131, .int .i64 t5132] 57 (0, 0)) (by exact BK5134.out) hb); have n8_ := Aside0.mk (below_step (by repeat (first | (with_reducible first | exact HB.out | apply below_alloc | apply pw_below_drewN | apply below_drew1 | refine below_set ?_ GE4806.out | refine below_set ?_ GE4807.out | refine below_set ?_ GE5114.out | refine below_set ?_ GE5118.out | refine below_set ?_ GE5122.out | refine below_set ?_ GE5126.out | refine below_set ?_ GE5130.out | refine below_set ?_ GE5134.out) | exact HB.out)) hb); have n9_ := Aside0.mk (hbox); have n10_ := Aside0.mk ((by rw [hg]; exact (below_size (by repeat (first | (with_reducible first | exact HB.out | apply below_alloc | apply pw_below_drewN | apply below_drew1 | refine below_set ?_ GE4806.out | refine below_set ?_ GE4807.out | refine below_set ?_ GE5114.out | refine below_set ?_ GE5118.out | refine below_set ?_ GE5122.out | refine below_set ?_ GE5126.out | refine below_set ?_ GE5130.out | refine below_set ?_ GE5134.out) | exact HB.out))) : w.heap.size ≤ gb5138)); have n11_ := Aside0.mk ((by rw [hg]; exact (below_size (by repeat (first | (with_reducible first | exact HB.out | apply below_alloc | apply pw_below_drewN | apply below_drew1 | refine below_set ?_ GE4806.out | refine below_set ?_ GE4807.out | refine below_set ?_ GE5114.out | refine below_set ?_ GE5118.out | refine below_set ?_ GE5122.out | refine below_set ?_ GE5126.out | refine below_set ?_ GE5130.out | refine below_set ?_ GE5134.out) | exact HB.out))) : w.heap.size ≤ gb5138)); have n12_ := Aside0.mk ((by rw [hg]; exact Nat.ne_of_lt (blk_lt (g := gb4806) (o := .cells #[.int .i64 a0_0, .int .i64 a0_1] 57 (0, 0)) (by exact BK4806.out)) : gb4806 ≠ gb5138)); have n13_ := Aside0.mk ((by rw [hg]; exact Nat.ne_of_gt (blk_lt (g := gb4806) (o := .cells #[.int .i64 a0_0, .int .i64 a0_1] 57 (0, 0)) (by exact BK4806.out)) : gb5138 ≠ gb4806)); have n14_ := Aside0.mk ((by rw [hg]; exact Nat.ne_of_lt (blk_lt (g := gb4807) (o := .cells #[.int .i64 a1_0, .int .i64 a1_1] 57 (0, 0)) (by exact BK4807.out)) : gb4807 ≠ gb5138)); have n15_ := Aside0.mk ((by rw [hg]; exact Nat.ne_of_gt (blk_lt (g := gb4807) (o := .cells #[.int .i64 a1_0, .int .i64 a1_1] 57 (0, 0)) (by exact BK4807.out)) : gb5138 ≠ gb4807)); have n16_ := Aside0.mk ((by rw [hg]; exact Nat.ne_of_lt (blk_lt (g := gb5114) (o := .cells #[.int .i64 t5111, .int .i64 t5112] 57 (0, 0)) (by exact BK5114.out)) : gb5114 ≠ gb5138)); have n17_ := Aside0.mk ((by rw [hg]; exact Nat.ne_of_gt (blk_lt (g := gb5114) (o := .cells #[.int .i64 t5111, .int .i64 t5112] 57 (0, 0)) (by exact BK5114.out)) : gb5138 ≠ gb5114)); have n18_ := Aside0.mk ((by rw [hg]; exact Nat.ne_of_lt (blk_lt (g := gb5118) (o := .cells #[.int .i64 t5115, .int .i64 t5116] 57 (0, 0)) (by exact BK5118.out)) : gb5118 ≠ gb5138)); have n19_ := Aside0.mk ((by rw [hg]; exact Nat.ne_of_gt (blk_lt (g := gb5118) (o := .cells #[.int .i64 t5115, .int .i64 t5116] 57 (0, 0)) (by exact BK5118.out)) : gb5138 ≠ gb5118)); have n20_ := Aside0.mk ((by rw [hg]; exact Nat.ne_of_lt (blk_lt (g := gb5122) (o := .cells #[.int .i64 t5119, .int .i64 t5120] 57 (0, 0)) (by exact BK5122.out)) : gb5122 ≠ gb5138)); have n21_ := Aside0.mk ((by rw [hg]; exact Nat.ne_of_gt (blk_lt (g := gb5122) (o := .cells #[.int .i64 t5119, .int .i64 t5120] 57 (0, 0)) (by exact BK5122.out)) : gb5138 ≠ gb5122)); have n22_ := Aside0.mk ((by rw [hg]; exact Nat.ne_of_lt (blk_lt (g := gb5126) (o := .cells #[.int .i64 t5123, .int .i64 t5124] 57 (0, 0)) (by exact BK5126.out)) : gb5126 ≠ gb5138)); have n23_ := Aside0.mk ((by rw [hg]; exact Nat.ne_of_gt (blk_lt (g := gb5126) (o := .cells #[.int .i64 t5123, .int .i64 t5124] 57 (0, 0)) (by exact BK5126.out)) : gb5138 ≠ gb5126)); have n24_ := Aside0.mk ((by rw [hg]; exact Nat.ne_of_lt (blk_lt (g := gb5130) (o := .cells #[.int .i64 t5127, .int .i64 t5128] 57 (0, 0)) (by exact BK5130.out)) : gb5130 ≠ gb5138)); have n25_ := Aside0.mk ((by rw [hg]; exact Nat.ne_of_gt (blk_lt (g := gb5130) (o := .cells #[.int .i64 t5127, .int .i64 t5128] 57 (0, 0)) (by exact BK5130.out)) : gb5138 ≠ gb5130)); have n26_ := Aside0.mk ((by rw [hg]; exact Nat.ne_of_lt (blk_lt (g := gb5134) (o := .cells #[.int .i64 t5131, .int .i64 t5132] 57 (0, 0)) (by exact BK5134.out)) : gb5134 ≠ gb5138)); have n27_ := Aside0.mk ((by rw [hg]; exact Nat.ne_of_gt (blk_lt (g := gb5134) (o := .cells #[.int .i64 t5131, .int .i64 t5132] 57 (0, 0)) (by exact BK5134.out)) : gb5138 ≠ gb5134)); clear BK4806 BK4807 BK5114 BK5118 BK5122 BK5126 BK5130 BK5134 HB; have BK4806 := n0_; have BK4807 := n1_; have BK5114 := n2_; have BK5118 := n3_; have BK5122 := n4_; have BK5126 := n5_; have BK5130 := n6_; have BK5134 := n7_; have HB := n8_; have BK5138 := n9_; have GW5138 := n10_; have GE5138 := n11_; have NB4806_5138 := n12_; have NB5138_4806 := n13_; have NB4807_5138 := n14_; have NB5138_4807 := n15_; have NB5114_5138 := n16_; have NB5138_5114 := n17_; have NB5118_5138 := n18_; have NB5138_5118 := n19_; have NB5122_5138 := n20_; have NB5138_5122 := n21_; have NB5126_5138 := n22_; have NB5138_5126 := n23_; have NB5130_5138 := n24_; have NB5138_5130 := n25_; have NB5134_5138 := n26_; have NB5138_5134 := n27_; clear n0_ n1_ n2_ n3_ n4_ n5_ n6_ n7_ n8_ n9_ n10_ n11_ n12_ n13_ n14_ n15_ n16_ n17_ n18_ n19_ n20_ n21_ n22_ n23_ n24_ n25_ n26_ n27_; clear hb hbox hg; have hnb113 := NB5138_4806.out; have hnc113 := NB4806_5138.out; have hnb114 := NB5138_4807.out; have hnc114 := NB4807_5138.out; have hnb115 := NB5138_5114.out; have hnc115 := NB5114_5138.out; have hnb116 := NB5138_5118.out; have hnc116 := NB5118_5138.out; have hnb117 := NB5138_5122.out; have hnc117 := NB5122_5138.out; have hnb118 := NB5138_5126.out; have hnc118 := NB5126_5138.out; have hnb119 := NB5138_5130.out; have hnc119 := NB5130_5138.out; have hnb120 := NB5138_5134.out; have hnc120 := NB5134_5138.out; have hcz121_0 : w112.cell? ⟨gb5138, 0, none⟩ = some (.int .i64 0) := (blk_cell BK5138.out 0).trans rfl; have hcz121_1 : w112.cell? ⟨gb5138, 1, none⟩ = some (.int .i64 0) := (blk_cell BK5138.out 1).trans rfl; have hfz121_0 := blk_frozen BK5138.out 0; have hfz121_1 := blk_frozen BK5138.out 1; have hcz122_0 : w112.cell? ⟨gb5114, 0, none⟩ = some (.int .i64 t5111) := (blk_cell BK5114.out 0).trans rfl; have hcz122_1 : w112.cell? ⟨gb5114, 1, none⟩ = some (.int .i64 t5112) := (blk_cell BK5114.out 1).trans rfl; have hfz122_0 := blk_frozen BK5114.out 0; have hfz122_1 := blk_frozen BK5114.out 1; have hcz123_0 : w112.cell? ⟨gb5118, 0, none⟩ = some (.int .i64 t5115) := (blk_cell BK5118.out 0).trans rfl; have hcz123_1 : w112.cell? ⟨gb5118, 1, none⟩ = some (.int .i64 t5116) := (blk_cell BK5118.out 1).trans rfl; have hfz123_0 := blk_frozen BK5118.out 0; have hfz123_1 := blk_frozen BK5118.out 1; have hcz124_0 : w112.cell? ⟨gb5122, 0, none⟩ = some (.int .i64 t5119) := (blk_cell BK5122.out 0).trans rfl; have hcz124_1 : w112.cell? ⟨gb5122, 1, none⟩ = some (.int .i64 t5120) := (blk_cell BK5122.out 1).trans rfl; have hfz124_0 := blk_frozen BK5122.out 0; have hfz124_1 := blk_frozen BK5122.out 1; have hcz125_0 : w112.cell? ⟨gb5126, 0, none⟩ = some (.int .i64 t5123) := (blk_cell BK5126.out 0).trans rfl; have hcz125_1 : w112.cell? ⟨gb5126, 1, none⟩ = some (.int .i64 t5124) := (blk_cell BK5126.out 1).trans rfl; have hfz125_0 := blk_frozen BK5126.out 0; have hfz125_1 := blk_frozen BK5126.out 1; have hcz126_0 : w112.cell? ⟨gb5130, 0, none⟩ = some (.int .i64 t5127) := (blk_cell BK5130.out 0).trans rfl; have hcz126_1 : w112.cell? ⟨gb5130, 1, none⟩ = some (.int .i64 t5128) := (blk_cell BK5130.out 1).trans rfl; have hfz126_0 := blk_frozen BK5130.out 0; have hfz126_1 := blk_frozen BK5130.out 1; have hcz127_0 : w112.cell? ⟨gb4806, 0, none⟩ = some (.int .i64 a0_0) := (blk_cell BK4806.out 0).trans rfl; have hcz127_1 : w112.cell? ⟨gb4806, 1, none⟩ = some (.int .i64 a0_1) := (blk_cell BK4806.out 1).trans rfl; have hfz127_0 := blk_frozen BK4806.out 0; have hfz127_1 := blk_frozen BK4806.out 1; have hcz128_0 : w112.cell? ⟨gb5134, 0, none⟩ = some (.int .i64 t5131) := (blk_cell BK5134.out 0).trans rfl; have hcz128_1 : w112.cell? ⟨gb5134, 1, none⟩ = some (.int .i64 t5132) := (blk_cell BK5134.out 1).trans rfl; have hfz128_0 := blk_frozen BK5134.out 0; have hfz128_1 := blk_frozen BK5134.out 1))
        have n0_ : Aside0 (((w112.setCell ⟨gb5138, 0, none⟩ (.int .i64 t5135)).setCell ⟨gb5138, 1, none⟩ (.int .i64 t5136)).heap[gb4806]? = some (.cells #[.int .i64 a0_0, .int .i64 a0_1] 57 (0, 0))) := ⟨by refine blk_far ?_ NB4806_5138.out _; refine blk_far ?_ NB4806_5138.out _; exact BK4806.out⟩
        have n1_ : Aside0 (((w112.setCell ⟨gb5138, 0, none⟩ (.int .i64 t5135)).setCell ⟨gb5138, 1, none⟩ (.int .i64 t5136)).heap[gb4807]? = some (.cells #[.int .i64 a1_0, .int .i64 a1_1] 57 (0, 0))) := ⟨by refine blk_far ?_ NB4807_5138.out _; refine blk_far ?_ NB4807_5138.out _; exact BK4807.out⟩
        have n2_ : Aside0 (((w112.setCell ⟨gb5138, 0, none⟩ (.int .i64 t5135)).setCell ⟨gb5138, 1, none⟩ (.int .i64 t5136)).heap[gb5114]? = some (.cells #[.int .i64 t5111, .int .i64 t5112] 57 (0, 0))) := ⟨by refine blk_far ?_ NB5114_5138.out _; refine blk_far ?_ NB5114_5138.out _; exact BK5114.out⟩
        have n3_ : Aside0 (((w112.setCell ⟨gb5138, 0, none⟩ (.int .i64 t5135)).setCell ⟨gb5138, 1, none⟩ (.int .i64 t5136)).heap[gb5118]? = some (.cells #[.int .i64 t5115, .int .i64 t5116] 57 (0, 0))) := ⟨by refine blk_far ?_ NB5118_5138.out _; refine blk_far ?_ NB5118_5138.out _; exact BK5118.out⟩
        have n4_ : Aside0 (((w112.setCell ⟨gb5138, 0, none⟩ (.int .i64 t5135)).setCell ⟨gb5138, 1, none⟩ (.int .i64 t5136)).heap[gb5122]? = some (.cells #[.int .i64 t5119, .int .i64 t5120] 57 (0, 0))) := ⟨by refine blk_far ?_ NB5122_5138.out _; refine blk_far ?_ NB5122_5138.out _; exact BK5122.out⟩
        have n5_ : Aside0 (((w112.setCell ⟨gb5138, 0, none⟩ (.int .i64 t5135)).setCell ⟨gb5138, 1, none⟩ (.int .i64 t5136)).heap[gb5126]? = some (.cells #[.int .i64 t5123, .int .i64 t5124] 57 (0, 0))) := ⟨by refine blk_far ?_ NB5126_5138.out _; refine blk_far ?_ NB5126_5138.out _; exact BK5126.out⟩
        have n6_ : Aside0 (((w112.setCell ⟨gb5138, 0, none⟩ (.int .i64 t5135)).setCell ⟨gb5138, 1, none⟩ (.int .i64 t5136)).heap[gb5130]? = some (.cells #[.int .i64 t5127, .int .i64 t5128] 57 (0, 0))) := ⟨by refine blk_far ?_ NB5130_5138.out _; refine blk_far ?_ NB5130_5138.out _; exact BK5130.out⟩
        have n7_ : Aside0 (((w112.setCell ⟨gb5138, 0, none⟩ (.int .i64 t5135)).setCell ⟨gb5138, 1, none⟩ (.int .i64 t5136)).heap[gb5134]? = some (.cells #[.int .i64 t5131, .int .i64 t5132] 57 (0, 0))) := ⟨by refine blk_far ?_ NB5134_5138.out _; refine blk_far ?_ NB5134_5138.out _; exact BK5134.out⟩
        have n8_ : Aside0 (((w112.setCell ⟨gb5138, 0, none⟩ (.int .i64 t5135)).setCell ⟨gb5138, 1, none⟩ (.int .i64 t5136)).heap[gb5138]? = some (.cells #[.int .i64 t5135, .int .i64 t5136] 57 (0, 0))) := ⟨by refine blk_put (cs := #[.int .i64 t5135, .int .i64 0]) ?_ 1 _ rfl; refine blk_put (cs := #[.int .i64 0, .int .i64 0]) ?_ 0 _ rfl; exact BK5138.out⟩
        have n9_ : Aside0 (Below w.heap.size w ((w112.setCell ⟨gb5138, 0, none⟩ (.int .i64 t5135)).setCell ⟨gb5138, 1, none⟩ (.int .i64 t5136))) := ⟨by repeat (first | (with_reducible first | exact HB.out | apply below_alloc | apply pw_below_drewN | apply below_drew1 | refine below_set ?_ GE4806.out | refine below_set ?_ GE4807.out | refine below_set ?_ GE5114.out | refine below_set ?_ GE5118.out | refine below_set ?_ GE5122.out | refine below_set ?_ GE5126.out | refine below_set ?_ GE5130.out | refine below_set ?_ GE5134.out | refine below_set ?_ GE5138.out) | exact HB.out)⟩
        (try clear BK4806)
        (try clear BK4807)
        (try clear BK5114)
        (try clear BK5118)
        (try clear BK5122)
        (try clear BK5126)
        (try clear BK5130)
        (try clear BK5134)
        (try clear BK5138)
        (try clear HB)
        generalize ((w112.setCell ⟨gb5138, 0, none⟩ (.int .i64 t5135)).setCell ⟨gb5138, 1, none⟩ (.int .i64 t5136)) = w129 at n0_ n1_ n2_ n3_ n4_ n5_ n6_ n7_ n8_ n9_ ⊢
        have BK4806 := n0_
        have BK4807 := n1_
        have BK5114 := n2_
        have BK5118 := n3_
        have BK5122 := n4_
        have BK5126 := n5_
        have BK5130 := n6_
        have BK5134 := n7_
        have BK5138 := n8_
        have HB := n9_
        clear n0_ n1_ n2_ n3_ n4_ n5_ n6_ n7_ n8_ n9_
        have n0_ := Aside0.mk (blk_drew BK4806.out)
        have n1_ := Aside0.mk (blk_drew BK4807.out)
        have n2_ := Aside0.mk (blk_drew BK5114.out)
        have n3_ := Aside0.mk (blk_drew BK5118.out)
        have n4_ := Aside0.mk (blk_drew BK5122.out)
        have n5_ := Aside0.mk (blk_drew BK5126.out)
        have n6_ := Aside0.mk (blk_drew BK5130.out)
        have n7_ := Aside0.mk (blk_drew BK5134.out)
        have n8_ := Aside0.mk (blk_drew BK5138.out)
        have n9_ := Aside0.mk (below_drew1 HB.out)
        clear BK4806 BK4807 BK5114 BK5118 BK5122 BK5126 BK5130 BK5134 BK5138 HB
        have BK4806 := n0_
        have BK4807 := n1_
        have BK5114 := n2_
        have BK5118 := n3_
        have BK5122 := n4_
        have BK5126 := n5_
        have BK5130 := n6_
        have BK5134 := n7_
        have BK5138 := n8_
        have HB := n9_
        clear n0_ n1_ n2_ n3_ n4_ n5_ n6_ n7_ n8_ n9_
      · refine start_ (n := 60) (S := fun w' => w'.cell? ⟨gb4806, 0, none⟩ = some (.int .i64 a0_0) ∧ w'.cell? ⟨gb4806, 1, none⟩ = some (.int .i64 a0_1) ∧ w'.cell? ⟨gb4807, 0, none⟩ = some (.int .i64 a1_0) ∧ w'.cell? ⟨gb4807, 1, none⟩ = some (.int .i64 a1_1)) (ds := []) (demurragelaw02_RatioLaws.ups 60 0) (by kernel_rfl) rfl rfl ⟨(blk_cell BK4806.out 0).trans rfl, (blk_cell BK4806.out 1).trans rfl, (blk_cell BK4807.out 0).trans rfl, (blk_cell BK4807.out 1).trans rfl⟩ (fun hHeld => ?_); refine with_tabW demurragelaw02_RatioLaws.tab13 demurragelaw02_RatioLaws.bits13 (fun HT_ HW_ => ?_)
        generalize w129.drew = w395 at BK4806 BK4807 BK5114 BK5118 BK5122 BK5126 BK5130 BK5134 BK5138 HB hHeld ⊢
        refine pure_ (i := 0) (N := some 117) (v := ?_) (a' := ?_) (demurragelaw02_RatioLaws.ups 60 1) rfl rfl (any_of HT_.out (by kernel_rfl)) (fun _ _ _ h => h) (Or.inl ⟨by rfl, ?_⟩) ?_ ?_
        rotate_left
        · intro w'
          go_simp
          with_reducible rfl
        rotate_left
        · simp only [Act.put, List.setIfInBounds_toArray, List.set_cons_zero, List.set_cons_succ, i64_w, i32_w]
          rfl
        refine pure_ (i := 1) (N := some 118) (v := ?_) (a' := ?_) (demurragelaw02_RatioLaws.ups 60 3) rfl rfl (any_of HT_.out (by kernel_rfl)) (fun _ _ _ h => h) (Or.inl ⟨by rfl, ?_⟩) ?_ ?_
        rotate_left
        · intro w'
          go_simp
          with_reducible rfl
        rotate_left
        · simp only [Act.put, List.setIfInBounds_toArray, List.set_cons_zero, List.set_cons_succ, i64_w, i32_w]
          rfl
        refine pure_ (i := 2) (N := some 119) (v := ?_) (a' := ?_) (demurragelaw02_RatioLaws.ups 60 7) rfl rfl (any_of HT_.out (by kernel_rfl)) (fun _ _ _ h => h) (Or.inl ⟨by rfl, ?_⟩) ?_ ?_
        rotate_left
        · intro w'
          go_simp
          with_reducible rfl
        rotate_left
        · simp only [Act.put, List.setIfInBounds_toArray, List.set_cons_zero, List.set_cons_succ, i64_w, i32_w]
          rfl
        refine pure_ (i := 3) (N := some 120) (v := ?_) (a' := ?_) (demurragelaw02_RatioLaws.ups 60 15) rfl rfl (any_of HT_.out (by kernel_rfl)) (fun _ _ _ h => h) (Or.inl ⟨by rfl, ?_⟩) ?_ ?_
        rotate_left
        · intro w'
          go_simp
          with_reducible rfl
        rotate_left
        · simp only [Act.put, List.setIfInBounds_toArray, List.set_cons_zero, List.set_cons_succ, i64_w, i32_w]
          rfl
        refine pure_ (i := 4) (N := some 121) (v := ?_) (a' := ?_) (demurragelaw02_RatioLaws.ups 60 31) rfl rfl (any_of HT_.out (by kernel_rfl)) (fun _ _ _ h => h) (Or.inl ⟨by rfl, ?_⟩) ?_ ?_
        rotate_left
        · intro w'
          go_simp
          with_reducible rfl
        rotate_left
        · simp only [Act.put, List.setIfInBounds_toArray, List.set_cons_zero, List.set_cons_succ, i64_w, i32_w]
          rfl
        refine pure_ (i := 5) (N := some 122) (v := undef) (a' := ?_) (demurragelaw02_RatioLaws.ups 60 63) rfl rfl (any_of HT_.out (by kernel_rfl)) (fun _ _ _ h => h) (Or.inr ⟨by rfl, rfl⟩) ?_ ?_
        rotate_left
        · simp only [Act.put, List.setIfInBounds_toArray, List.set_cons_zero, List.set_cons_succ, i64_w, i32_w]
          rfl
        refine pure_ (i := 6) (N := some 123) (v := undef) (a' := ?_) (demurragelaw02_RatioLaws.ups 60 127) rfl rfl (any_of HT_.out (by kernel_rfl)) (fun _ _ _ h => h) (Or.inr ⟨by rfl, rfl⟩) ?_ ?_
        rotate_left
        · simp only [Act.put, List.setIfInBounds_toArray, List.set_cons_zero, List.set_cons_succ, i64_w, i32_w]
          rfl
        refine pure_ (i := 7) (N := some 124) (v := undef) (a' := ?_) (demurragelaw02_RatioLaws.ups 60 255) rfl rfl (any_of HT_.out (by kernel_rfl)) (fun _ _ _ h => h) (Or.inr ⟨by rfl, rfl⟩) ?_ ?_
        rotate_left
        · simp only [Act.put, List.setIfInBounds_toArray, List.set_cons_zero, List.set_cons_succ, i64_w, i32_w]
          rfl
        refine pure_ (i := 8) (N := some 125) (v := undef) (a' := ?_) (demurragelaw02_RatioLaws.ups 60 511) rfl rfl (any_of HT_.out (by kernel_rfl)) (fun _ _ _ h => h) (Or.inr ⟨by rfl, rfl⟩) ?_ ?_
        rotate_left
        · simp only [Act.put, List.setIfInBounds_toArray, List.set_cons_zero, List.set_cons_succ, i64_w, i32_w]
          rfl
        refine pure_ (i := 9) (N := some 126) (v := undef) (a' := ?_) (demurragelaw02_RatioLaws.ups 60 1023) rfl rfl (any_of HT_.out (by kernel_rfl)) (fun _ _ _ h => h) (Or.inr ⟨by rfl, rfl⟩) ?_ ?_
        rotate_left
        · simp only [Act.put, List.setIfInBounds_toArray, List.set_cons_zero, List.set_cons_succ, i64_w, i32_w]
          rfl
        refine pure_ (i := 10) (N := some 127) (v := undef) (a' := ?_) (demurragelaw02_RatioLaws.ups 60 2047) rfl rfl (any_of HT_.out (by kernel_rfl)) (fun _ _ _ h => h) (Or.inr ⟨by rfl, rfl⟩) ?_ ?_
        rotate_left
        · simp only [Act.put, List.setIfInBounds_toArray, List.set_cons_zero, List.set_cons_succ, i64_w, i32_w]
          rfl
        refine pure_ (i := 11) (N := some 128) (v := undef) (a' := ?_) (demurragelaw02_RatioLaws.ups 60 4095) rfl rfl (any_of HT_.out (by kernel_rfl)) (fun _ _ _ h => h) (Or.inr ⟨by rfl, rfl⟩) ?_ ?_
        rotate_left
        · simp only [Act.put, List.setIfInBounds_toArray, List.set_cons_zero, List.set_cons_succ, i64_w, i32_w]
          rfl
        refine pure_ (i := 12) (N := some 129) (v := undef) (a' := ?_) (demurragelaw02_RatioLaws.ups 60 8191) rfl rfl (any_of HT_.out (by kernel_rfl)) (fun _ _ _ h => h) (Or.inr ⟨by rfl, rfl⟩) ?_ ?_
        rotate_left
        · simp only [Act.put, List.setIfInBounds_toArray, List.set_cons_zero, List.set_cons_succ, i64_w, i32_w]
          rfl
        refine pure_ (i := 13) (N := some 130) (v := undef) (a' := ?_) (demurragelaw02_RatioLaws.ups 60 16383) rfl rfl (any_of HT_.out (by kernel_rfl)) (fun _ _ _ h => h) (Or.inr ⟨by rfl, rfl⟩) ?_ ?_
        rotate_left
        · simp only [Act.put, List.setIfInBounds_toArray, List.set_cons_zero, List.set_cons_succ, i64_w, i32_w]
          rfl
        refine pure_ (i := 14) (N := some 131) (v := undef) (a' := ?_) (demurragelaw02_RatioLaws.ups 60 32767) rfl rfl (any_of HT_.out (by kernel_rfl)) (fun _ _ _ h => h) (Or.inr ⟨by rfl, rfl⟩) ?_ ?_
        rotate_left
        · simp only [Act.put, List.setIfInBounds_toArray, List.set_cons_zero, List.set_cons_succ, i64_w, i32_w]
          rfl
        refine pure_ (i := 15) (N := some 132) (v := undef) (a' := ?_) (demurragelaw02_RatioLaws.ups 60 65535) rfl rfl (any_of HT_.out (by kernel_rfl)) (fun _ _ _ h => h) (Or.inr ⟨by rfl, rfl⟩) ?_ ?_
        rotate_left
        · simp only [Act.put, List.setIfInBounds_toArray, List.set_cons_zero, List.set_cons_succ, i64_w, i32_w]
          rfl
        refine pure_ (i := 16) (N := some 133) (v := undef) (a' := ?_) (demurragelaw02_RatioLaws.ups 60 131071) rfl rfl (any_of HT_.out (by kernel_rfl)) (fun _ _ _ h => h) (Or.inr ⟨by rfl, rfl⟩) ?_ ?_
        rotate_left
        · simp only [Act.put, List.setIfInBounds_toArray, List.set_cons_zero, List.set_cons_succ, i64_w, i32_w]
          rfl
        refine pure_ (i := 17) (N := some 134) (v := undef) (a' := ?_) (demurragelaw02_RatioLaws.ups 60 262143) rfl rfl (any_of HT_.out (by kernel_rfl)) (fun _ _ _ h => h) (Or.inr ⟨by rfl, rfl⟩) ?_ ?_
        rotate_left
        · simp only [Act.put, List.setIfInBounds_toArray, List.set_cons_zero, List.set_cons_succ, i64_w, i32_w]
          rfl
        refine pure_ (i := 18) (N := some 135) (v := undef) (a' := ?_) (demurragelaw02_RatioLaws.ups 60 524287) rfl rfl (any_of HT_.out (by kernel_rfl)) (fun _ _ _ h => h) (Or.inr ⟨by rfl, rfl⟩) ?_ ?_
        rotate_left
        · simp only [Act.put, List.setIfInBounds_toArray, List.set_cons_zero, List.set_cons_succ, i64_w, i32_w]
          rfl
        refine pure_ (i := 19) (N := some 136) (v := undef) (a' := ?_) (demurragelaw02_RatioLaws.ups 60 1048575) rfl rfl (any_of HT_.out (by kernel_rfl)) (fun _ _ _ h => h) (Or.inr ⟨by rfl, rfl⟩) ?_ ?_
        rotate_left
        · simp only [Act.put, List.setIfInBounds_toArray, List.set_cons_zero, List.set_cons_succ, i64_w, i32_w]
          rfl
        refine pure_ (i := 20) (N := some 137) (v := undef) (a' := ?_) (demurragelaw02_RatioLaws.ups 60 2097151) rfl rfl (any_of HT_.out (by kernel_rfl)) (fun _ _ _ h => h) (Or.inr ⟨by rfl, rfl⟩) ?_ ?_
        rotate_left
        · simp only [Act.put, List.setIfInBounds_toArray, List.set_cons_zero, List.set_cons_succ, i64_w, i32_w]
          rfl
        refine pure_ (i := 21) (N := some 138) (v := undef) (a' := ?_) (demurragelaw02_RatioLaws.ups 60 4194303) rfl rfl (any_of HT_.out (by kernel_rfl)) (fun _ _ _ h => h) (Or.inr ⟨by rfl, rfl⟩) ?_ ?_
        rotate_left
        · simp only [Act.put, List.setIfInBounds_toArray, List.set_cons_zero, List.set_cons_succ, i64_w, i32_w]
          rfl
        refine pure_ (i := 22) (N := some 139) (v := undef) (a' := ?_) (demurragelaw02_RatioLaws.ups 60 8388607) rfl rfl (any_of HT_.out (by kernel_rfl)) (fun _ _ _ h => h) (Or.inr ⟨by rfl, rfl⟩) ?_ ?_
        rotate_left
        · simp only [Act.put, List.setIfInBounds_toArray, List.set_cons_zero, List.set_cons_succ, i64_w, i32_w]
          rfl
        refine pure_ (i := 23) (N := some 140) (v := undef) (a' := ?_) (demurragelaw02_RatioLaws.ups 60 16777215) rfl rfl (any_of HT_.out (by kernel_rfl)) (fun _ _ _ h => h) (Or.inr ⟨by rfl, rfl⟩) ?_ ?_
        rotate_left
        · simp only [Act.put, List.setIfInBounds_toArray, List.set_cons_zero, List.set_cons_succ, i64_w, i32_w]
          rfl
        refine pure_ (i := 24) (N := some 141) (v := undef) (a' := ?_) (demurragelaw02_RatioLaws.ups 60 33554431) rfl rfl (any_of HT_.out (by kernel_rfl)) (fun _ _ _ h => h) (Or.inr ⟨by rfl, rfl⟩) ?_ ?_
        rotate_left
        · simp only [Act.put, List.setIfInBounds_toArray, List.set_cons_zero, List.set_cons_succ, i64_w, i32_w]
          rfl
        refine pure_ (i := 25) (N := some 142) (v := undef) (a' := ?_) (demurragelaw02_RatioLaws.ups 60 67108863) rfl rfl (any_of HT_.out (by kernel_rfl)) (fun _ _ _ h => h) (Or.inr ⟨by rfl, rfl⟩) ?_ ?_
        rotate_left
        · simp only [Act.put, List.setIfInBounds_toArray, List.set_cons_zero, List.set_cons_succ, i64_w, i32_w]
          rfl
        refine pure_ (i := 26) (N := some 143) (v := undef) (a' := ?_) (demurragelaw02_RatioLaws.ups 60 134217727) rfl rfl (any_of HT_.out (by kernel_rfl)) (fun _ _ _ h => h) (Or.inr ⟨by rfl, rfl⟩) ?_ ?_
        rotate_left
        · simp only [Act.put, List.setIfInBounds_toArray, List.set_cons_zero, List.set_cons_succ, i64_w, i32_w]
          rfl
        refine pure_ (i := 27) (N := some 144) (v := undef) (a' := ?_) (demurragelaw02_RatioLaws.ups 60 268435455) rfl rfl (any_of HT_.out (by kernel_rfl)) (fun _ _ _ h => h) (Or.inr ⟨by rfl, rfl⟩) ?_ ?_
        rotate_left
        · simp only [Act.put, List.setIfInBounds_toArray, List.set_cons_zero, List.set_cons_succ, i64_w, i32_w]
          rfl
        refine pure_ (i := 28) (N := some 145) (v := undef) (a' := ?_) (demurragelaw02_RatioLaws.ups 60 536870911) rfl rfl (any_of HT_.out (by kernel_rfl)) (fun _ _ _ h => h) (Or.inr ⟨by rfl, rfl⟩) ?_ ?_
        rotate_left
        · simp only [Act.put, List.setIfInBounds_toArray, List.set_cons_zero, List.set_cons_succ, i64_w, i32_w]
          rfl
        refine pure_ (i := 29) (N := some 146) (v := ?_) (a' := ?_) (demurragelaw02_RatioLaws.ups 60 1073741823) rfl rfl (any_of HT_.out (by kernel_rfl)) (fun _ _ _ h => h) (Or.inl ⟨by rfl, ?_⟩) ?_ ?_
        rotate_left
        · intro w'
          go_simp
          with_reducible rfl
        rotate_left
        · simp only [Act.put, List.setIfInBounds_toArray, List.set_cons_zero, List.set_cons_succ, i64_w, i32_w]
          rfl
        refine pure_ (i := 30) (N := some 147) (v := ?_) (a' := ?_) (demurragelaw02_RatioLaws.ups 60 2147483647) rfl rfl (any_of HT_.out (by kernel_rfl)) (fun _ _ _ h => h) (Or.inl ⟨by rfl, ?_⟩) ?_ ?_
        rotate_left
        · intro w'
          go_simp
          with_reducible rfl
        rotate_left
        · simp only [Act.put, List.setIfInBounds_toArray, List.set_cons_zero, List.set_cons_succ, i64_w, i32_w]
          rfl
        refine pure_ (i := 31) (N := some 148) (v := ?_) (a' := ?_) (demurragelaw02_RatioLaws.ups 60 4294967295) rfl rfl (any_of HT_.out (by kernel_rfl)) (fun _ _ _ h => h) (Or.inl ⟨by rfl, ?_⟩) ?_ ?_
        rotate_left
        · intro w'
          go_simp
          with_reducible rfl
        rotate_left
        · simp only [Act.put, List.setIfInBounds_toArray, List.set_cons_zero, List.set_cons_succ, i64_w, i32_w]
          rfl
        refine pure_ (i := 32) (N := some 149) (v := ?_) (a' := ?_) (demurragelaw02_RatioLaws.ups 60 8589934591) rfl rfl (any_of HT_.out (by kernel_rfl)) (fun _ _ _ h => h) (Or.inl ⟨by rfl, ?_⟩) ?_ ?_
        rotate_left
        · intro w'
          go_simp
          with_reducible rfl
        rotate_left
        · simp only [Act.put, List.setIfInBounds_toArray, List.set_cons_zero, List.set_cons_succ, i64_w, i32_w]
          rfl
        refine pure_ (i := 33) (N := some 150) (v := ?_) (a' := ?_) (demurragelaw02_RatioLaws.ups 60 17179869183) rfl rfl (any_of HT_.out (by kernel_rfl)) (fun _ _ _ h => h) (Or.inl ⟨by rfl, ?_⟩) ?_ ?_
        rotate_left
        · intro w'
          go_simp
          with_reducible rfl
        rotate_left
        · simp only [Act.put, List.setIfInBounds_toArray, List.set_cons_zero, List.set_cons_succ, i64_w, i32_w]
          rfl
        refine pure_ (i := 34) (N := some 151) (v := ?_) (a' := ?_) (demurragelaw02_RatioLaws.ups 60 34359738367) rfl rfl (any_of HT_.out (by kernel_rfl)) (fun _ _ _ h => h) (Or.inl ⟨by rfl, ?_⟩) ?_ ?_
        rotate_left
        · intro w'
          go_simp
          with_reducible rfl
        rotate_left
        · simp only [Act.put, List.setIfInBounds_toArray, List.set_cons_zero, List.set_cons_succ, i64_w, i32_w]
          rfl
        refine pure_ (i := 35) (N := some 152) (v := undef) (a' := ?_) (demurragelaw02_RatioLaws.ups 60 68719476735) rfl rfl (any_of HT_.out (by kernel_rfl)) (fun _ _ _ h => h) (Or.inr ⟨by rfl, rfl⟩) ?_ ?_
        rotate_left
        · simp only [Act.put, List.setIfInBounds_toArray, List.set_cons_zero, List.set_cons_succ, i64_w, i32_w]
          rfl
        refine pure_ (i := 36) (N := some 153) (v := undef) (a' := ?_) (demurragelaw02_RatioLaws.ups 60 137438953471) rfl rfl (any_of HT_.out (by kernel_rfl)) (fun _ _ _ h => h) (Or.inr ⟨by rfl, rfl⟩) ?_ ?_
        rotate_left
        · simp only [Act.put, List.setIfInBounds_toArray, List.set_cons_zero, List.set_cons_succ, i64_w, i32_w]
          rfl
        refine pure_ (i := 37) (N := some 154) (v := ?_) (a' := ?_) (demurragelaw02_RatioLaws.ups 60 274877906943) rfl rfl (any_of HT_.out (by kernel_rfl)) (fun _ _ _ h => h) (Or.inl ⟨by rfl, ?_⟩) ?_ ?_
        rotate_left
        · intro w'
          go_simp
          with_reducible rfl
        rotate_left
        · simp only [Act.put, List.setIfInBounds_toArray, List.set_cons_zero, List.set_cons_succ, i64_w, i32_w]
          rfl
        refine pure_ (i := 38) (N := some 155) (v := ?_) (a' := ?_) (demurragelaw02_RatioLaws.ups 60 549755813887) rfl rfl (any_of HT_.out (by kernel_rfl)) (fun _ _ _ h => h) (Or.inl ⟨by rfl, ?_⟩) ?_ ?_
        rotate_left
        · intro w'
          go_simp
          with_reducible rfl
        rotate_left
        · simp only [Act.put, List.setIfInBounds_toArray, List.set_cons_zero, List.set_cons_succ, i64_w, i32_w]
          rfl
        refine pure_ (i := 39) (N := some 156) (v := ?_) (a' := ?_) (demurragelaw02_RatioLaws.ups 60 1099511627775) rfl rfl (any_of HT_.out (by kernel_rfl)) (fun _ _ _ h => h) (Or.inl ⟨by rfl, ?_⟩) ?_ ?_
        rotate_left
        · intro w'
          go_simp
          with_reducible rfl
        rotate_left
        · simp only [Act.put, List.setIfInBounds_toArray, List.set_cons_zero, List.set_cons_succ, i64_w, i32_w]
          rfl
        refine take_ (i := 40) (N := some 157) (v := ?_) (a' := ?_) (demurragelaw02_RatioLaws.ups 60 2199023255551) rfl rfl (take_ofW HT_.out HW_.out (by kernel_rfl)) (fun _ _ _ h => h) (Or.inl ⟨by rfl, ?_⟩) hHeld ?_ ?_
        rotate_left
        · rintro w' ⟨s0, s1, s2, s3⟩
          go_simp
          with_reducible rfl
        rotate_left
        · simp only [Act.put, List.setIfInBounds_toArray, List.set_cons_zero, List.set_cons_succ, i64_w, i32_w]
          rfl
        refine take_ (i := 41) (N := some 158) (v := ?_) (a' := ?_) (demurragelaw02_RatioLaws.ups 60 4398046511103) rfl rfl (take_ofW HT_.out HW_.out (by kernel_rfl)) (fun _ _ _ h => h) (Or.inl ⟨by rfl, ?_⟩) hHeld ?_ ?_
        rotate_left
        · rintro w' ⟨s0, s1, s2, s3⟩
          go_simp
          with_reducible rfl
        rotate_left
        · simp only [Act.put, List.setIfInBounds_toArray, List.set_cons_zero, List.set_cons_succ, i64_w, i32_w]
          rfl
        refine take_ (i := 43) (N := some 160) (v := ?_) (a' := ?_) (demurragelaw02_RatioLaws.ups 60 13194139533311) rfl rfl (take_ofW HT_.out HW_.out (by kernel_rfl)) (fun _ _ _ h => h) (Or.inl ⟨by rfl, ?_⟩) hHeld ?_ ?_
        rotate_left
        · rintro w' ⟨s0, s1, s2, s3⟩
          go_simp
          with_reducible rfl
        rotate_left
        · simp only [Act.put, List.setIfInBounds_toArray, List.set_cons_zero, List.set_cons_succ, i64_w, i32_w]
          rfl
        refine take_ (i := 44) (N := some 161) (v := ?_) (a' := ?_) (demurragelaw02_RatioLaws.ups 60 30786325577727) rfl rfl (take_ofW HT_.out HW_.out (by kernel_rfl)) (fun _ _ _ h => h) (Or.inl ⟨by rfl, ?_⟩) hHeld ?_ ?_
        rotate_left
        · rintro w' ⟨s0, s1, s2, s3⟩
          go_simp
          with_reducible rfl
        rotate_left
        · simp only [Act.put, List.setIfInBounds_toArray, List.set_cons_zero, List.set_cons_succ, i64_w, i32_w]
          rfl
        refine one_ (i := 42) (N := some 159) (demurragelaw02_RatioLaws.ups 60 35184372088831) rfl rfl (one_of HT_.out (by kernel_rfl)) (by decide) (fun K hK => ?_)
        refine goes_ Try.func50 (by kernel_rfl) rfl #[.agg #[.int .i64 a0_0, .int .i64 a0_1], .agg #[.int .i64 a1_0, .int .i64 a1_1]] (by rfl) rfl rfl (by (try simp only [List.map_toArray, List.map_cons, List.map_nil]); first | done | rfl) ?_
        with_reducible refine (ratio_Cmp.calls a0_0 a0_1 a1_0 a1_1 t5198 _ A315.out).mono ?_
        rintro e w396 ⟨rfl, hb⟩
        refine ⟨_, rfl, ?_⟩
        have n0_ := Aside0.mk (blk_below (g := gb4806) (o := .cells #[.int .i64 a0_0, .int .i64 a0_1] 57 (0, 0)) (by exact BK4806.out) hb)
        have n1_ := Aside0.mk (blk_below (g := gb4807) (o := .cells #[.int .i64 a1_0, .int .i64 a1_1] 57 (0, 0)) (by exact BK4807.out) hb)
        have n2_ := Aside0.mk (blk_below (g := gb5114) (o := .cells #[.int .i64 t5111, .int .i64 t5112] 57 (0, 0)) (by exact BK5114.out) hb)
        have n3_ := Aside0.mk (blk_below (g := gb5118) (o := .cells #[.int .i64 t5115, .int .i64 t5116] 57 (0, 0)) (by exact BK5118.out) hb)
        have n4_ := Aside0.mk (blk_below (g := gb5122) (o := .cells #[.int .i64 t5119, .int .i64 t5120] 57 (0, 0)) (by exact BK5122.out) hb)
        have n5_ := Aside0.mk (blk_below (g := gb5126) (o := .cells #[.int .i64 t5123, .int .i64 t5124] 57 (0, 0)) (by exact BK5126.out) hb)
        have n6_ := Aside0.mk (blk_below (g := gb5130) (o := .cells #[.int .i64 t5127, .int .i64 t5128] 57 (0, 0)) (by exact BK5130.out) hb)
        have n7_ := Aside0.mk (blk_below (g := gb5134) (o := .cells #[.int .i64 t5131, .int .i64 t5132] 57 (0, 0)) (by exact BK5134.out) hb)
        have n8_ := Aside0.mk (blk_below (g := gb5138) (o := .cells #[.int .i64 t5135, .int .i64 t5136] 57 (0, 0)) (by exact BK5138.out) hb)
        have n9_ := Aside0.mk (below_step (by repeat (first | (with_reducible first | exact HB.out | apply below_alloc | apply pw_below_drewN | apply below_drew1 | refine below_set ?_ GE4806.out | refine below_set ?_ GE4807.out | refine below_set ?_ GE5114.out | refine below_set ?_ GE5118.out | refine below_set ?_ GE5122.out | refine below_set ?_ GE5126.out | refine below_set ?_ GE5130.out | refine below_set ?_ GE5134.out | refine below_set ?_ GE5138.out) | exact HB.out)) hb)
        clear BK4806 BK4807 BK5114 BK5118 BK5122 BK5126 BK5130 BK5134 BK5138 HB
        have BK4806 := n0_
        have BK4807 := n1_
        have BK5114 := n2_
        have BK5118 := n3_
        have BK5122 := n4_
        have BK5126 := n5_
        have BK5130 := n6_
        have BK5134 := n7_
        have BK5138 := n8_
        have HB := n9_
        clear n0_ n1_ n2_ n3_ n4_ n5_ n6_ n7_ n8_ n9_
        (try clear hb)
        (try clear hb2)
        (try clear hk)
        (try clear hi)
        refine hK.out _ _ ⟨(blk_cell BK4806.out 0).trans rfl, (blk_cell BK4806.out 1).trans rfl, (blk_cell BK4807.out 0).trans rfl, (blk_cell BK4807.out 1).trans rfl⟩ (fun hHeld => ?_)
        clear hK K
        refine norm_ (a' := ?_) ?_ ?_
        rotate_left
        · show Act.put _ (some 159) _ = _
          simp only [Act.put, List.setIfInBounds_toArray, List.set_cons_zero, List.set_cons_succ, i64_w, i32_w]
          rfl
        refine one_ (i := 45) (N := some 162) (demurragelaw02_RatioLaws.ups 60 70368744177663) rfl rfl (one_of HT_.out (by kernel_rfl)) (by decide) (fun K hK => ?_)
        refine goes_ Try.func50 (by kernel_rfl) rfl #[.agg #[.int .i64 a1_0, .int .i64 a1_1], .agg #[.int .i64 a0_0, .int .i64 a0_1]] (by rfl) rfl rfl (by (try simp only [List.map_toArray, List.map_cons, List.map_nil]); first | done | rfl) ?_
        with_reducible refine (ratio_Cmp.calls a1_0 a1_1 a0_0 a0_1 t5199 _ A316.out).mono ?_
        rintro e w397 ⟨rfl, hb⟩
        refine ⟨_, rfl, ?_⟩
        have n0_ := Aside0.mk (blk_below (g := gb4806) (o := .cells #[.int .i64 a0_0, .int .i64 a0_1] 57 (0, 0)) (by exact BK4806.out) hb)
        have n1_ := Aside0.mk (blk_below (g := gb4807) (o := .cells #[.int .i64 a1_0, .int .i64 a1_1] 57 (0, 0)) (by exact BK4807.out) hb)
        have n2_ := Aside0.mk (blk_below (g := gb5114) (o := .cells #[.int .i64 t5111, .int .i64 t5112] 57 (0, 0)) (by exact BK5114.out) hb)
        have n3_ := Aside0.mk (blk_below (g := gb5118) (o := .cells #[.int .i64 t5115, .int .i64 t5116] 57 (0, 0)) (by exact BK5118.out) hb)
        have n4_ := Aside0.mk (blk_below (g := gb5122) (o := .cells #[.int .i64 t5119, .int .i64 t5120] 57 (0, 0)) (by exact BK5122.out) hb)
        have n5_ := Aside0.mk (blk_below (g := gb5126) (o := .cells #[.int .i64 t5123, .int .i64 t5124] 57 (0, 0)) (by exact BK5126.out) hb)
        have n6_ := Aside0.mk (blk_below (g := gb5130) (o := .cells #[.int .i64 t5127, .int .i64 t5128] 57 (0, 0)) (by exact BK5130.out) hb)
        have n7_ := Aside0.mk (blk_below (g := gb5134) (o := .cells #[.int .i64 t5131, .int .i64 t5132] 57 (0, 0)) (by exact BK5134.out) hb)
        have n8_ := Aside0.mk (blk_below (g := gb5138) (o := .cells #[.int .i64 t5135, .int .i64 t5136] 57 (0, 0)) (by exact BK5138.out) hb)
        have n9_ := Aside0.mk (below_step (by repeat (first | (with_reducible first | exact HB.out | apply below_alloc | apply pw_below_drewN | apply below_drew1 | refine below_set ?_ GE4806.out | refine below_set ?_ GE4807.out | refine below_set ?_ GE5114.out | refine below_set ?_ GE5118.out | refine below_set ?_ GE5122.out | refine below_set ?_ GE5126.out | refine below_set ?_ GE5130.out | refine below_set ?_ GE5134.out | refine below_set ?_ GE5138.out) | exact HB.out)) hb)
        clear BK4806 BK4807 BK5114 BK5118 BK5122 BK5126 BK5130 BK5134 BK5138 HB
        have BK4806 := n0_
        have BK4807 := n1_
        have BK5114 := n2_
        have BK5118 := n3_
        have BK5122 := n4_
        have BK5126 := n5_
        have BK5130 := n6_
        have BK5134 := n7_
        have BK5138 := n8_
        have HB := n9_
        clear n0_ n1_ n2_ n3_ n4_ n5_ n6_ n7_ n8_ n9_
        (try clear hb)
        (try clear hb2)
        (try clear hk)
        (try clear hi)
        refine hK.out _ _ ⟨(blk_cell BK4806.out 0).trans rfl, (blk_cell BK4806.out 1).trans rfl, (blk_cell BK4807.out 0).trans rfl, (blk_cell BK4807.out 1).trans rfl⟩ (fun hHeld => ?_)
        clear hK K
        refine norm_ (a' := ?_) ?_ ?_
        rotate_left
        · show Act.put _ (some 162) _ = _
          simp only [Act.put, List.setIfInBounds_toArray, List.set_cons_zero, List.set_cons_succ, i64_w, i32_w]
          rfl
        refine pure_ (i := 46) (N := some 163) (v := ?_) (a' := ?_) (demurragelaw02_RatioLaws.ups 60 140737488355327) rfl rfl (any_of HT_.out (by kernel_rfl)) (fun _ _ _ h => h) (Or.inl ⟨by rfl, ?_⟩) ?_ ?_
        rotate_left
        · intro w'
          go_simp
          with_reducible rfl
        rotate_left
        · simp only [Act.put, List.setIfInBounds_toArray, List.set_cons_zero, List.set_cons_succ, i64_w, i32_w]
          rfl
        refine pure_ (i := 47) (N := some 164) (v := ?_) (a' := ?_) (demurragelaw02_RatioLaws.ups 60 281474976710655) rfl rfl (any_of HT_.out (by kernel_rfl)) (fun _ _ _ h => h) (Or.inl ⟨by rfl, ?_⟩) ?_ ?_
        rotate_left
        · intro w'
          go_simp
          with_reducible rfl
        rotate_left
        · simp only [Act.put, List.setIfInBounds_toArray, List.set_cons_zero, List.set_cons_succ, i64_w, i32_w]
          rfl
        refine pure_ (i := 48) (N := some 165) (v := ?_) (a' := ?_) (demurragelaw02_RatioLaws.ups 60 562949953421311) rfl rfl (any_of HT_.out (by kernel_rfl)) (fun _ _ _ h => h) (Or.inl ⟨by rfl, ?_⟩) ?_ ?_
        rotate_left
        · intro w'
          go_simp
          with_reducible rfl
        rotate_left
        · simp only [Act.put, List.setIfInBounds_toArray, List.set_cons_zero, List.set_cons_succ, i64_w, i32_w]
          rfl
        refine pure_ (i := 49) (N := some 166) (v := ?_) (a' := ?_) (demurragelaw02_RatioLaws.ups 60 1125899906842623) rfl rfl (any_of HT_.out (by kernel_rfl)) (fun _ _ _ h => h) (Or.inl ⟨by rfl, ?_⟩) ?_ ?_
        rotate_left
        · intro w'
          go_simp
          with_reducible rfl
        rotate_left
        · simp only [Act.put, List.setIfInBounds_toArray, List.set_cons_zero, List.set_cons_succ, i64_w, i32_w]
          rfl
        refine take_ (i := 50) (N := some 167) (v := ?_) (a' := ?_) (demurragelaw02_RatioLaws.ups 60 2251799813685247) rfl rfl (take_ofW HT_.out HW_.out (by kernel_rfl)) (fun _ _ _ h => h) (Or.inl ⟨by rfl, ?_⟩) hHeld ?_ ?_
        rotate_left
        · rintro w' ⟨s0, s1, s2, s3⟩
          go_simp
          with_reducible rfl
        rotate_left
        · simp only [Act.put, List.setIfInBounds_toArray, List.set_cons_zero, List.set_cons_succ, i64_w, i32_w]
          rfl
        refine take_ (i := 51) (N := some 168) (v := ?_) (a' := ?_) (demurragelaw02_RatioLaws.ups 60 4503599627370495) rfl rfl (take_ofW HT_.out HW_.out (by kernel_rfl)) (fun _ _ _ h => h) (Or.inl ⟨by rfl, ?_⟩) hHeld ?_ ?_
        rotate_left
        · rintro w' ⟨s0, s1, s2, s3⟩
          go_simp
          with_reducible rfl
        rotate_left
        · simp only [Act.put, List.setIfInBounds_toArray, List.set_cons_zero, List.set_cons_succ, i64_w, i32_w]
          rfl
        refine take_ (i := 54) (N := some 171) (v := ?_) (a' := ?_) (demurragelaw02_RatioLaws.ups 60 22517998136852479) rfl rfl (take_ofW HT_.out HW_.out (by kernel_rfl)) (fun _ _ _ h => h) (Or.inl ⟨by rfl, ?_⟩) hHeld ?_ ?_
        rotate_left
        · rintro w' ⟨s0, s1, s2, s3⟩
          go_simp
          with_reducible rfl
        rotate_left
        · simp only [Act.put, List.setIfInBounds_toArray, List.set_cons_zero, List.set_cons_succ, i64_w, i32_w]
          rfl
        refine take_ (i := 55) (N := some 172) (v := ?_) (a' := ?_) (demurragelaw02_RatioLaws.ups 60 58546795155816447) rfl rfl (take_ofW HT_.out HW_.out (by kernel_rfl)) (fun _ _ _ h => h) (Or.inl ⟨by rfl, ?_⟩) hHeld ?_ ?_
        rotate_left
        · rintro w' ⟨s0, s1, s2, s3⟩
          go_simp
          with_reducible rfl
        rotate_left
        · simp only [Act.put, List.setIfInBounds_toArray, List.set_cons_zero, List.set_cons_succ, i64_w, i32_w]
          rfl
        refine pure_ (i := 56) (N := some 173) (v := ?_) (a' := ?_) (demurragelaw02_RatioLaws.ups 60 130604389193744383) rfl rfl (any_of HT_.out (by kernel_rfl)) (fun _ _ _ h => h) (Or.inl ⟨by rfl, ?_⟩) ?_ ?_
        rotate_left
        · intro w'
          go_simp
          with_reducible rfl
        rotate_left
        · simp only [Act.put, List.setIfInBounds_toArray, List.set_cons_zero, List.set_cons_succ, i64_w, i32_w]
          rfl
        refine one_ (i := 52) (N := some 169) (demurragelaw02_RatioLaws.ups 60 135107988821114879) rfl rfl (one_of HT_.out (by kernel_rfl)) (by decide) (fun K hK => ?_)
        refine goes_ Try.func50 (by kernel_rfl) rfl #[.agg #[.int .i64 a0_0, .int .i64 a0_1], .agg #[.int .i64 a1_0, .int .i64 a1_1]] (by rfl) rfl rfl (by (try simp only [List.map_toArray, List.map_cons, List.map_nil]); first | done | rfl) ?_
        with_reducible refine (ratio_Cmp.calls a0_0 a0_1 a1_0 a1_1 t5200 _ A53.out).mono ?_
        rintro e w398 ⟨rfl, hb⟩
        refine ⟨_, rfl, ?_⟩
        have n0_ := Aside0.mk (blk_below (g := gb4806) (o := .cells #[.int .i64 a0_0, .int .i64 a0_1] 57 (0, 0)) (by exact BK4806.out) hb)
        have n1_ := Aside0.mk (blk_below (g := gb4807) (o := .cells #[.int .i64 a1_0, .int .i64 a1_1] 57 (0, 0)) (by exact BK4807.out) hb)
        have n2_ := Aside0.mk (blk_below (g := gb5114) (o := .cells #[.int .i64 t5111, .int .i64 t5112] 57 (0, 0)) (by exact BK5114.out) hb)
        have n3_ := Aside0.mk (blk_below (g := gb5118) (o := .cells #[.int .i64 t5115, .int .i64 t5116] 57 (0, 0)) (by exact BK5118.out) hb)
        have n4_ := Aside0.mk (blk_below (g := gb5122) (o := .cells #[.int .i64 t5119, .int .i64 t5120] 57 (0, 0)) (by exact BK5122.out) hb)
        have n5_ := Aside0.mk (blk_below (g := gb5126) (o := .cells #[.int .i64 t5123, .int .i64 t5124] 57 (0, 0)) (by exact BK5126.out) hb)
        have n6_ := Aside0.mk (blk_below (g := gb5130) (o := .cells #[.int .i64 t5127, .int .i64 t5128] 57 (0, 0)) (by exact BK5130.out) hb)
        have n7_ := Aside0.mk (blk_below (g := gb5134) (o := .cells #[.int .i64 t5131, .int .i64 t5132] 57 (0, 0)) (by exact BK5134.out) hb)
        have n8_ := Aside0.mk (blk_below (g := gb5138) (o := .cells #[.int .i64 t5135, .int .i64 t5136] 57 (0, 0)) (by exact BK5138.out) hb)
        have n9_ := Aside0.mk (below_step (by repeat (first | (with_reducible first | exact HB.out | apply below_alloc | apply pw_below_drewN | apply below_drew1 | refine below_set ?_ GE4806.out | refine below_set ?_ GE4807.out | refine below_set ?_ GE5114.out | refine below_set ?_ GE5118.out | refine below_set ?_ GE5122.out | refine below_set ?_ GE5126.out | refine below_set ?_ GE5130.out | refine below_set ?_ GE5134.out | refine below_set ?_ GE5138.out) | exact HB.out)) hb)
        clear BK4806 BK4807 BK5114 BK5118 BK5122 BK5126 BK5130 BK5134 BK5138 HB
        have BK4806 := n0_
        have BK4807 := n1_
        have BK5114 := n2_
        have BK5118 := n3_
        have BK5122 := n4_
        have BK5126 := n5_
        have BK5130 := n6_
        have BK5134 := n7_
        have BK5138 := n8_
        have HB := n9_
        clear n0_ n1_ n2_ n3_ n4_ n5_ n6_ n7_ n8_ n9_
        (try clear hb)
        (try clear hb2)
        (try clear hk)
        (try clear hi)
        refine hK.out _ _ ⟨(blk_cell BK4806.out 0).trans rfl, (blk_cell BK4806.out 1).trans rfl, (blk_cell BK4807.out 0).trans rfl, (blk_cell BK4807.out 1).trans rfl⟩ (fun hHeld => ?_)
        clear hK K
        refine norm_ (a' := ?_) ?_ ?_
        rotate_left
        · show Act.put _ (some 169) _ = _
          simp only [Act.put, List.setIfInBounds_toArray, List.set_cons_zero, List.set_cons_succ, i64_w, i32_w]
          rfl
        refine pure_ (i := 53) (N := some 170) (v := ?_) (a' := ?_) (demurragelaw02_RatioLaws.ups 60 144115188075855871) rfl rfl (any_of HT_.out (by kernel_rfl)) (fun _ _ _ h => h) (Or.inl ⟨by rfl, ?_⟩) ?_ ?_
        rotate_left
        · intro w'
          go_simp
          with_reducible rfl
        rotate_left
        · simp only [Act.put, List.setIfInBounds_toArray, List.set_cons_zero, List.set_cons_succ, i64_w, i32_w]
          rfl
        refine pure_ (i := 57) (N := some 174) (v := ?_) (a' := ?_) (demurragelaw02_RatioLaws.ups 60 288230376151711743) rfl rfl (any_of HT_.out (by kernel_rfl)) (fun _ _ _ h => h) (Or.inl ⟨by rfl, ?_⟩) ?_ ?_
        rotate_left
        · intro w'
          go_simp
          with_reducible rfl
        rotate_left
        · simp only [Act.put, List.setIfInBounds_toArray, List.set_cons_zero, List.set_cons_succ, i64_w, i32_w]
          rfl
        refine pure_ (i := 58) (N := some 175) (v := ?_) (a' := ?_) (demurragelaw02_RatioLaws.ups 60 576460752303423487) rfl rfl (any_of HT_.out (by kernel_rfl)) (fun _ _ _ h => h) (Or.inl ⟨by rfl, ?_⟩) ?_ ?_
        rotate_left
        · intro w'
          go_simp
          with_reducible rfl
        rotate_left
        · simp only [Act.put, List.setIfInBounds_toArray, List.set_cons_zero, List.set_cons_succ, i64_w, i32_w]
          rfl
        refine pure_ (i := 59) (N := some 4) (v := ?_) (a' := ?_) (demurragelaw02_RatioLaws.ups 60 1152921504606846975) rfl rfl (any_of HT_.out (by kernel_rfl)) (fun _ _ _ h => h) (Or.inl ⟨by rfl, ?_⟩) ?_ ?_
        rotate_left
        · intro w'
          go_simp
          with_reducible rfl
        rotate_left
        · simp only [Act.put, List.setIfInBounds_toArray, List.set_cons_zero, List.set_cons_succ, i64_w, i32_w]
          rfl
        refine done_ (done_of HT_.out (by kernel_rfl)) ?_
        try go_wp2
        go_ret
        exact ⟨by rfl, by repeat (first | (with_reducible first | exact HB.out | apply below_alloc | apply pw_below_drewN | apply below_drew1 | refine below_set ?_ GE4806.out | refine below_set ?_ GE4807.out | refine below_set ?_ GE5114.out | refine below_set ?_ GE5118.out | refine below_set ?_ GE5122.out | refine below_set ?_ GE5126.out | refine below_set ?_ GE5130.out | refine below_set ?_ GE5134.out | refine below_set ?_ GE5138.out) | exact HB.out)⟩
      · refine start_ (n := 60) (S := fun w' => w'.cell? ⟨gb5122, 0, none⟩ = some (.int .i64 t5119) ∧ w'.cell? ⟨gb5122, 1, none⟩ = some (.int .i64 t5120) ∧ w'.cell? ⟨gb4806, 0, none⟩ = some (.int .i64 a0_0) ∧ w'.cell? ⟨gb4806, 1, none⟩ = some (.int .i64 a0_1) ∧ w'.cell? ⟨gb4807, 0, none⟩ = some (.int .i64 a1_0) ∧ w'.cell? ⟨gb4807, 1, none⟩ = some (.int .i64 a1_1)) (ds := []) (demurragelaw02_RatioLaws.ups 60 0) (by kernel_rfl) rfl rfl ⟨(blk_cell BK5122.out 0).trans rfl, (blk_cell BK5122.out 1).trans rfl, (blk_cell BK4806.out 0).trans rfl, (blk_cell BK4806.out 1).trans rfl, (blk_cell BK4807.out 0).trans rfl, (blk_cell BK4807.out 1).trans rfl⟩ (fun hHeld => ?_); refine with_tabW demurragelaw02_RatioLaws.tab13 demurragelaw02_RatioLaws.bits13 (fun HT_ HW_ => ?_)
        generalize w129.drew = w310 at BK4806 BK4807 BK5114 BK5118 BK5122 BK5126 BK5130 BK5134 BK5138 HB hHeld ⊢
        refine pure_ (i := 0) (N := some 117) (v := ?_) (a' := ?_) (demurragelaw02_RatioLaws.ups 60 1) rfl rfl (any_of HT_.out (by kernel_rfl)) (fun _ _ _ h => h) (Or.inl ⟨by rfl, ?_⟩) ?_ ?_
        rotate_left
        · intro w'
          go_simp
          with_reducible rfl
        rotate_left
        · simp only [Act.put, List.setIfInBounds_toArray, List.set_cons_zero, List.set_cons_succ, i64_w, i32_w]
          rfl
        refine pure_ (i := 1) (N := some 118) (v := ?_) (a' := ?_) (demurragelaw02_RatioLaws.ups 60 3) rfl rfl (any_of HT_.out (by kernel_rfl)) (fun _ _ _ h => h) (Or.inl ⟨by rfl, ?_⟩) ?_ ?_
        rotate_left
        · intro w'
          go_simp
          with_reducible rfl
        rotate_left
        · simp only [Act.put, List.setIfInBounds_toArray, List.set_cons_zero, List.set_cons_succ, i64_w, i32_w]
          rfl
        refine pure_ (i := 2) (N := some 119) (v := ?_) (a' := ?_) (demurragelaw02_RatioLaws.ups 60 7) rfl rfl (any_of HT_.out (by kernel_rfl)) (fun _ _ _ h => h) (Or.inl ⟨by rfl, ?_⟩) ?_ ?_
        rotate_left
        · intro w'
          go_simp
          with_reducible rfl
        rotate_left
        · simp only [Act.put, List.setIfInBounds_toArray, List.set_cons_zero, List.set_cons_succ, i64_w, i32_w]
          rfl
        refine pure_ (i := 3) (N := some 120) (v := ?_) (a' := ?_) (demurragelaw02_RatioLaws.ups 60 15) rfl rfl (any_of HT_.out (by kernel_rfl)) (fun _ _ _ h => h) (Or.inl ⟨by rfl, ?_⟩) ?_ ?_
        rotate_left
        · intro w'
          go_simp
          with_reducible rfl
        rotate_left
        · simp only [Act.put, List.setIfInBounds_toArray, List.set_cons_zero, List.set_cons_succ, i64_w, i32_w]
          rfl
        refine pure_ (i := 4) (N := some 121) (v := ?_) (a' := ?_) (demurragelaw02_RatioLaws.ups 60 31) rfl rfl (any_of HT_.out (by kernel_rfl)) (fun _ _ _ h => h) (Or.inl ⟨by rfl, ?_⟩) ?_ ?_
        rotate_left
        · intro w'
          go_simp
          with_reducible rfl
        rotate_left
        · simp only [Act.put, List.setIfInBounds_toArray, List.set_cons_zero, List.set_cons_succ, i64_w, i32_w]
          rfl
        refine pure_ (i := 5) (N := some 122) (v := undef) (a' := ?_) (demurragelaw02_RatioLaws.ups 60 63) rfl rfl (any_of HT_.out (by kernel_rfl)) (fun _ _ _ h => h) (Or.inr ⟨by rfl, rfl⟩) ?_ ?_
        rotate_left
        · simp only [Act.put, List.setIfInBounds_toArray, List.set_cons_zero, List.set_cons_succ, i64_w, i32_w]
          rfl
        refine pure_ (i := 6) (N := some 123) (v := undef) (a' := ?_) (demurragelaw02_RatioLaws.ups 60 127) rfl rfl (any_of HT_.out (by kernel_rfl)) (fun _ _ _ h => h) (Or.inr ⟨by rfl, rfl⟩) ?_ ?_
        rotate_left
        · simp only [Act.put, List.setIfInBounds_toArray, List.set_cons_zero, List.set_cons_succ, i64_w, i32_w]
          rfl
        refine pure_ (i := 7) (N := some 124) (v := undef) (a' := ?_) (demurragelaw02_RatioLaws.ups 60 255) rfl rfl (any_of HT_.out (by kernel_rfl)) (fun _ _ _ h => h) (Or.inr ⟨by rfl, rfl⟩) ?_ ?_
        rotate_left
        · simp only [Act.put, List.setIfInBounds_toArray, List.set_cons_zero, List.set_cons_succ, i64_w, i32_w]
          rfl
        refine pure_ (i := 8) (N := some 125) (v := undef) (a' := ?_) (demurragelaw02_RatioLaws.ups 60 511) rfl rfl (any_of HT_.out (by kernel_rfl)) (fun _ _ _ h => h) (Or.inr ⟨by rfl, rfl⟩) ?_ ?_
        rotate_left
        · simp only [Act.put, List.setIfInBounds_toArray, List.set_cons_zero, List.set_cons_succ, i64_w, i32_w]
          rfl
        refine pure_ (i := 9) (N := some 126) (v := undef) (a' := ?_) (demurragelaw02_RatioLaws.ups 60 1023) rfl rfl (any_of HT_.out (by kernel_rfl)) (fun _ _ _ h => h) (Or.inr ⟨by rfl, rfl⟩) ?_ ?_
        rotate_left
        · simp only [Act.put, List.setIfInBounds_toArray, List.set_cons_zero, List.set_cons_succ, i64_w, i32_w]
          rfl
        refine pure_ (i := 10) (N := some 127) (v := undef) (a' := ?_) (demurragelaw02_RatioLaws.ups 60 2047) rfl rfl (any_of HT_.out (by kernel_rfl)) (fun _ _ _ h => h) (Or.inr ⟨by rfl, rfl⟩) ?_ ?_
        rotate_left
        · simp only [Act.put, List.setIfInBounds_toArray, List.set_cons_zero, List.set_cons_succ, i64_w, i32_w]
          rfl
        refine pure_ (i := 11) (N := some 128) (v := undef) (a' := ?_) (demurragelaw02_RatioLaws.ups 60 4095) rfl rfl (any_of HT_.out (by kernel_rfl)) (fun _ _ _ h => h) (Or.inr ⟨by rfl, rfl⟩) ?_ ?_
        rotate_left
        · simp only [Act.put, List.setIfInBounds_toArray, List.set_cons_zero, List.set_cons_succ, i64_w, i32_w]
          rfl
        refine pure_ (i := 12) (N := some 129) (v := undef) (a' := ?_) (demurragelaw02_RatioLaws.ups 60 8191) rfl rfl (any_of HT_.out (by kernel_rfl)) (fun _ _ _ h => h) (Or.inr ⟨by rfl, rfl⟩) ?_ ?_
        rotate_left
        · simp only [Act.put, List.setIfInBounds_toArray, List.set_cons_zero, List.set_cons_succ, i64_w, i32_w]
          rfl
        refine pure_ (i := 13) (N := some 130) (v := undef) (a' := ?_) (demurragelaw02_RatioLaws.ups 60 16383) rfl rfl (any_of HT_.out (by kernel_rfl)) (fun _ _ _ h => h) (Or.inr ⟨by rfl, rfl⟩) ?_ ?_
        rotate_left
        · simp only [Act.put, List.setIfInBounds_toArray, List.set_cons_zero, List.set_cons_succ, i64_w, i32_w]
          rfl
        refine pure_ (i := 14) (N := some 131) (v := undef) (a' := ?_) (demurragelaw02_RatioLaws.ups 60 32767) rfl rfl (any_of HT_.out (by kernel_rfl)) (fun _ _ _ h => h) (Or.inr ⟨by rfl, rfl⟩) ?_ ?_
        rotate_left
        · simp only [Act.put, List.setIfInBounds_toArray, List.set_cons_zero, List.set_cons_succ, i64_w, i32_w]
          rfl
        refine pure_ (i := 15) (N := some 132) (v := undef) (a' := ?_) (demurragelaw02_RatioLaws.ups 60 65535) rfl rfl (any_of HT_.out (by kernel_rfl)) (fun _ _ _ h => h) (Or.inr ⟨by rfl, rfl⟩) ?_ ?_
        rotate_left
        · simp only [Act.put, List.setIfInBounds_toArray, List.set_cons_zero, List.set_cons_succ, i64_w, i32_w]
          rfl
        refine pure_ (i := 16) (N := some 133) (v := undef) (a' := ?_) (demurragelaw02_RatioLaws.ups 60 131071) rfl rfl (any_of HT_.out (by kernel_rfl)) (fun _ _ _ h => h) (Or.inr ⟨by rfl, rfl⟩) ?_ ?_
        rotate_left
        · simp only [Act.put, List.setIfInBounds_toArray, List.set_cons_zero, List.set_cons_succ, i64_w, i32_w]
          rfl
        refine pure_ (i := 17) (N := some 134) (v := undef) (a' := ?_) (demurragelaw02_RatioLaws.ups 60 262143) rfl rfl (any_of HT_.out (by kernel_rfl)) (fun _ _ _ h => h) (Or.inr ⟨by rfl, rfl⟩) ?_ ?_
        rotate_left
        · simp only [Act.put, List.setIfInBounds_toArray, List.set_cons_zero, List.set_cons_succ, i64_w, i32_w]
          rfl
        refine pure_ (i := 18) (N := some 135) (v := undef) (a' := ?_) (demurragelaw02_RatioLaws.ups 60 524287) rfl rfl (any_of HT_.out (by kernel_rfl)) (fun _ _ _ h => h) (Or.inr ⟨by rfl, rfl⟩) ?_ ?_
        rotate_left
        · simp only [Act.put, List.setIfInBounds_toArray, List.set_cons_zero, List.set_cons_succ, i64_w, i32_w]
          rfl
        refine pure_ (i := 19) (N := some 136) (v := undef) (a' := ?_) (demurragelaw02_RatioLaws.ups 60 1048575) rfl rfl (any_of HT_.out (by kernel_rfl)) (fun _ _ _ h => h) (Or.inr ⟨by rfl, rfl⟩) ?_ ?_
        rotate_left
        · simp only [Act.put, List.setIfInBounds_toArray, List.set_cons_zero, List.set_cons_succ, i64_w, i32_w]
          rfl
        refine pure_ (i := 20) (N := some 137) (v := undef) (a' := ?_) (demurragelaw02_RatioLaws.ups 60 2097151) rfl rfl (any_of HT_.out (by kernel_rfl)) (fun _ _ _ h => h) (Or.inr ⟨by rfl, rfl⟩) ?_ ?_
        rotate_left
        · simp only [Act.put, List.setIfInBounds_toArray, List.set_cons_zero, List.set_cons_succ, i64_w, i32_w]
          rfl
        refine pure_ (i := 21) (N := some 138) (v := undef) (a' := ?_) (demurragelaw02_RatioLaws.ups 60 4194303) rfl rfl (any_of HT_.out (by kernel_rfl)) (fun _ _ _ h => h) (Or.inr ⟨by rfl, rfl⟩) ?_ ?_
        rotate_left
        · simp only [Act.put, List.setIfInBounds_toArray, List.set_cons_zero, List.set_cons_succ, i64_w, i32_w]
          rfl
        refine pure_ (i := 22) (N := some 139) (v := undef) (a' := ?_) (demurragelaw02_RatioLaws.ups 60 8388607) rfl rfl (any_of HT_.out (by kernel_rfl)) (fun _ _ _ h => h) (Or.inr ⟨by rfl, rfl⟩) ?_ ?_
        rotate_left
        · simp only [Act.put, List.setIfInBounds_toArray, List.set_cons_zero, List.set_cons_succ, i64_w, i32_w]
          rfl
        refine pure_ (i := 23) (N := some 140) (v := undef) (a' := ?_) (demurragelaw02_RatioLaws.ups 60 16777215) rfl rfl (any_of HT_.out (by kernel_rfl)) (fun _ _ _ h => h) (Or.inr ⟨by rfl, rfl⟩) ?_ ?_
        rotate_left
        · simp only [Act.put, List.setIfInBounds_toArray, List.set_cons_zero, List.set_cons_succ, i64_w, i32_w]
          rfl
        refine pure_ (i := 24) (N := some 141) (v := undef) (a' := ?_) (demurragelaw02_RatioLaws.ups 60 33554431) rfl rfl (any_of HT_.out (by kernel_rfl)) (fun _ _ _ h => h) (Or.inr ⟨by rfl, rfl⟩) ?_ ?_
        rotate_left
        · simp only [Act.put, List.setIfInBounds_toArray, List.set_cons_zero, List.set_cons_succ, i64_w, i32_w]
          rfl
        refine pure_ (i := 25) (N := some 142) (v := undef) (a' := ?_) (demurragelaw02_RatioLaws.ups 60 67108863) rfl rfl (any_of HT_.out (by kernel_rfl)) (fun _ _ _ h => h) (Or.inr ⟨by rfl, rfl⟩) ?_ ?_
        rotate_left
        · simp only [Act.put, List.setIfInBounds_toArray, List.set_cons_zero, List.set_cons_succ, i64_w, i32_w]
          rfl
        refine pure_ (i := 26) (N := some 143) (v := undef) (a' := ?_) (demurragelaw02_RatioLaws.ups 60 134217727) rfl rfl (any_of HT_.out (by kernel_rfl)) (fun _ _ _ h => h) (Or.inr ⟨by rfl, rfl⟩) ?_ ?_
        rotate_left
        · simp only [Act.put, List.setIfInBounds_toArray, List.set_cons_zero, List.set_cons_succ, i64_w, i32_w]
          rfl
        refine pure_ (i := 27) (N := some 144) (v := undef) (a' := ?_) (demurragelaw02_RatioLaws.ups 60 268435455) rfl rfl (any_of HT_.out (by kernel_rfl)) (fun _ _ _ h => h) (Or.inr ⟨by rfl, rfl⟩) ?_ ?_
        rotate_left
        · simp only [Act.put, List.setIfInBounds_toArray, List.set_cons_zero, List.set_cons_succ, i64_w, i32_w]
          rfl
        refine pure_ (i := 28) (N := some 145) (v := undef) (a' := ?_) (demurragelaw02_RatioLaws.ups 60 536870911) rfl rfl (any_of HT_.out (by kernel_rfl)) (fun _ _ _ h => h) (Or.inr ⟨by rfl, rfl⟩) ?_ ?_
        rotate_left
        · simp only [Act.put, List.setIfInBounds_toArray, List.set_cons_zero, List.set_cons_succ, i64_w, i32_w]
          rfl
        refine pure_ (i := 29) (N := some 146) (v := ?_) (a' := ?_) (demurragelaw02_RatioLaws.ups 60 1073741823) rfl rfl (any_of HT_.out (by kernel_rfl)) (fun _ _ _ h => h) (Or.inl ⟨by rfl, ?_⟩) ?_ ?_
        rotate_left
        · intro w'
          go_simp
          with_reducible rfl
        rotate_left
        · simp only [Act.put, List.setIfInBounds_toArray, List.set_cons_zero, List.set_cons_succ, i64_w, i32_w]
          rfl
        refine pure_ (i := 30) (N := some 147) (v := ?_) (a' := ?_) (demurragelaw02_RatioLaws.ups 60 2147483647) rfl rfl (any_of HT_.out (by kernel_rfl)) (fun _ _ _ h => h) (Or.inl ⟨by rfl, ?_⟩) ?_ ?_
        rotate_left
        · intro w'
          go_simp
          with_reducible rfl
        rotate_left
        · simp only [Act.put, List.setIfInBounds_toArray, List.set_cons_zero, List.set_cons_succ, i64_w, i32_w]
          rfl
        refine pure_ (i := 31) (N := some 148) (v := ?_) (a' := ?_) (demurragelaw02_RatioLaws.ups 60 4294967295) rfl rfl (any_of HT_.out (by kernel_rfl)) (fun _ _ _ h => h) (Or.inl ⟨by rfl, ?_⟩) ?_ ?_
        rotate_left
        · intro w'
          go_simp
          with_reducible rfl
        rotate_left
        · simp only [Act.put, List.setIfInBounds_toArray, List.set_cons_zero, List.set_cons_succ, i64_w, i32_w]
          rfl
        refine pure_ (i := 32) (N := some 149) (v := ?_) (a' := ?_) (demurragelaw02_RatioLaws.ups 60 8589934591) rfl rfl (any_of HT_.out (by kernel_rfl)) (fun _ _ _ h => h) (Or.inl ⟨by rfl, ?_⟩) ?_ ?_
        rotate_left
        · intro w'
          go_simp
          with_reducible rfl
        rotate_left
        · simp only [Act.put, List.setIfInBounds_toArray, List.set_cons_zero, List.set_cons_succ, i64_w, i32_w]
          rfl
        refine pure_ (i := 33) (N := some 150) (v := ?_) (a' := ?_) (demurragelaw02_RatioLaws.ups 60 17179869183) rfl rfl (any_of HT_.out (by kernel_rfl)) (fun _ _ _ h => h) (Or.inl ⟨by rfl, ?_⟩) ?_ ?_
        rotate_left
        · intro w'
          go_simp
          with_reducible rfl
        rotate_left
        · simp only [Act.put, List.setIfInBounds_toArray, List.set_cons_zero, List.set_cons_succ, i64_w, i32_w]
          rfl
        refine pure_ (i := 34) (N := some 151) (v := ?_) (a' := ?_) (demurragelaw02_RatioLaws.ups 60 34359738367) rfl rfl (any_of HT_.out (by kernel_rfl)) (fun _ _ _ h => h) (Or.inl ⟨by rfl, ?_⟩) ?_ ?_
        rotate_left
        · intro w'
          go_simp
          with_reducible rfl
        rotate_left
        · simp only [Act.put, List.setIfInBounds_toArray, List.set_cons_zero, List.set_cons_succ, i64_w, i32_w]
          rfl
        refine take_ (i := 35) (N := some 152) (v := ?_) (a' := ?_) (demurragelaw02_RatioLaws.ups 60 68719476735) rfl rfl (take_ofW HT_.out HW_.out (by kernel_rfl)) (fun _ _ _ h => h) (Or.inl ⟨by rfl, ?_⟩) hHeld ?_ ?_
        rotate_left
        · rintro w' ⟨s0, s1, s2, s3, s4, s5⟩
          go_simp
          with_reducible rfl
        rotate_left
        · simp only [Act.put, List.setIfInBounds_toArray, List.set_cons_zero, List.set_cons_succ, i64_w, i32_w]
          rfl
        refine one_ (i := 36) (N := some 153) (demurragelaw02_RatioLaws.ups 60 137438953471) rfl rfl (one_of HT_.out (by kernel_rfl)) (by decide) (fun K hK => ?_)
        refine goes_ Try.func44 (by kernel_rfl) rfl #[.agg #[.int .i64 t5119, .int .i64 t5120]] (by rfl) rfl rfl (by (try simp only [List.map_toArray, List.map_cons, List.map_nil]); first | done | rfl) ?_
        with_reducible refine (demurrageref02_Right.calls kj3 t5119 t5120 true _ A228.out).mono ?_
        rintro e w311 ⟨rfl, hb⟩
        refine ⟨_, rfl, ?_⟩
        have n0_ := Aside0.mk (blk_below (g := gb4806) (o := .cells #[.int .i64 a0_0, .int .i64 a0_1] 57 (0, 0)) (by exact BK4806.out) hb)
        have n1_ := Aside0.mk (blk_below (g := gb4807) (o := .cells #[.int .i64 a1_0, .int .i64 a1_1] 57 (0, 0)) (by exact BK4807.out) hb)
        have n2_ := Aside0.mk (blk_below (g := gb5114) (o := .cells #[.int .i64 t5111, .int .i64 t5112] 57 (0, 0)) (by exact BK5114.out) hb)
        have n3_ := Aside0.mk (blk_below (g := gb5118) (o := .cells #[.int .i64 t5115, .int .i64 t5116] 57 (0, 0)) (by exact BK5118.out) hb)
        have n4_ := Aside0.mk (blk_below (g := gb5122) (o := .cells #[.int .i64 t5119, .int .i64 t5120] 57 (0, 0)) (by exact BK5122.out) hb)
        have n5_ := Aside0.mk (blk_below (g := gb5126) (o := .cells #[.int .i64 t5123, .int .i64 t5124] 57 (0, 0)) (by exact BK5126.out) hb)
        have n6_ := Aside0.mk (blk_below (g := gb5130) (o := .cells #[.int .i64 t5127, .int .i64 t5128] 57 (0, 0)) (by exact BK5130.out) hb)
        have n7_ := Aside0.mk (blk_below (g := gb5134) (o := .cells #[.int .i64 t5131, .int .i64 t5132] 57 (0, 0)) (by exact BK5134.out) hb)
        have n8_ := Aside0.mk (blk_below (g := gb5138) (o := .cells #[.int .i64 t5135, .int .i64 t5136] 57 (0, 0)) (by exact BK5138.out) hb)
        have n9_ := Aside0.mk (below_step (by repeat (first | (with_reducible first | exact HB.out | apply below_alloc | apply pw_below_drewN | apply below_drew1 | refine below_set ?_ GE4806.out | refine below_set ?_ GE4807.out | refine below_set ?_ GE5114.out | refine below_set ?_ GE5118.out | refine below_set ?_ GE5122.out | refine below_set ?_ GE5126.out | refine below_set ?_ GE5130.out | refine below_set ?_ GE5134.out | refine below_set ?_ GE5138.out) | exact HB.out)) hb)
        clear BK4806 BK4807 BK5114 BK5118 BK5122 BK5126 BK5130 BK5134 BK5138 HB
        have BK4806 := n0_
        have BK4807 := n1_
        have BK5114 := n2_
        have BK5118 := n3_
        have BK5122 := n4_
        have BK5126 := n5_
        have BK5130 := n6_
        have BK5134 := n7_
        have BK5138 := n8_
        have HB := n9_
        clear n0_ n1_ n2_ n3_ n4_ n5_ n6_ n7_ n8_ n9_
        (try clear hb)
        (try clear hb2)
        (try clear hk)
        (try clear hi)
        refine hK.out _ _ ⟨(blk_cell BK5122.out 0).trans rfl, (blk_cell BK5122.out 1).trans rfl, (blk_cell BK4806.out 0).trans rfl, (blk_cell BK4806.out 1).trans rfl, (blk_cell BK4807.out 0).trans rfl, (blk_cell BK4807.out 1).trans rfl⟩ (fun hHeld => ?_)
        clear hK K
        refine norm_ (a' := ?_) ?_ ?_
        rotate_left
        · show Act.put _ (some 153) _ = _
          simp only [Act.put, List.setIfInBounds_toArray, List.set_cons_zero, List.set_cons_succ, i64_w, i32_w]
          rfl
        refine pure_ (i := 37) (N := some 154) (v := ?_) (a' := ?_) (demurragelaw02_RatioLaws.ups 60 274877906943) rfl rfl (any_of HT_.out (by kernel_rfl)) (fun _ _ _ h => h) (Or.inl ⟨by rfl, ?_⟩) ?_ ?_
        rotate_left
        · intro w'
          go_simp
          with_reducible rfl
        rotate_left
        · simp only [Act.put, List.setIfInBounds_toArray, List.set_cons_zero, List.set_cons_succ, i64_w, i32_w]
          rfl
        refine pure_ (i := 38) (N := some 155) (v := ?_) (a' := ?_) (demurragelaw02_RatioLaws.ups 60 549755813887) rfl rfl (any_of HT_.out (by kernel_rfl)) (fun _ _ _ h => h) (Or.inl ⟨by rfl, ?_⟩) ?_ ?_
        rotate_left
        · intro w'
          go_simp
          with_reducible rfl
        rotate_left
        · simp only [Act.put, List.setIfInBounds_toArray, List.set_cons_zero, List.set_cons_succ, i64_w, i32_w]
          rfl
        refine pure_ (i := 39) (N := some 156) (v := ?_) (a' := ?_) (demurragelaw02_RatioLaws.ups 60 1099511627775) rfl rfl (any_of HT_.out (by kernel_rfl)) (fun _ _ _ h => h) (Or.inl ⟨by rfl, ?_⟩) ?_ ?_
        rotate_left
        · intro w'
          go_simp
          with_reducible rfl
        rotate_left
        · simp only [Act.put, List.setIfInBounds_toArray, List.set_cons_zero, List.set_cons_succ, i64_w, i32_w]
          rfl
        refine take_ (i := 40) (N := some 157) (v := ?_) (a' := ?_) (demurragelaw02_RatioLaws.ups 60 2199023255551) rfl rfl (take_ofW HT_.out HW_.out (by kernel_rfl)) (fun _ _ _ h => h) (Or.inl ⟨by rfl, ?_⟩) hHeld ?_ ?_
        rotate_left
        · rintro w' ⟨s0, s1, s2, s3, s4, s5⟩
          go_simp
          with_reducible rfl
        rotate_left
        · simp only [Act.put, List.setIfInBounds_toArray, List.set_cons_zero, List.set_cons_succ, i64_w, i32_w]
          rfl
        refine take_ (i := 41) (N := some 158) (v := ?_) (a' := ?_) (demurragelaw02_RatioLaws.ups 60 4398046511103) rfl rfl (take_ofW HT_.out HW_.out (by kernel_rfl)) (fun _ _ _ h => h) (Or.inl ⟨by rfl, ?_⟩) hHeld ?_ ?_
        rotate_left
        · rintro w' ⟨s0, s1, s2, s3, s4, s5⟩
          go_simp
          with_reducible rfl
        rotate_left
        · simp only [Act.put, List.setIfInBounds_toArray, List.set_cons_zero, List.set_cons_succ, i64_w, i32_w]
          rfl
        refine take_ (i := 43) (N := some 160) (v := ?_) (a' := ?_) (demurragelaw02_RatioLaws.ups 60 13194139533311) rfl rfl (take_ofW HT_.out HW_.out (by kernel_rfl)) (fun _ _ _ h => h) (Or.inl ⟨by rfl, ?_⟩) hHeld ?_ ?_
        rotate_left
        · rintro w' ⟨s0, s1, s2, s3, s4, s5⟩
          go_simp
          with_reducible rfl
        rotate_left
        · simp only [Act.put, List.setIfInBounds_toArray, List.set_cons_zero, List.set_cons_succ, i64_w, i32_w]
          rfl
        refine take_ (i := 44) (N := some 161) (v := ?_) (a' := ?_) (demurragelaw02_RatioLaws.ups 60 30786325577727) rfl rfl (take_ofW HT_.out HW_.out (by kernel_rfl)) (fun _ _ _ h => h) (Or.inl ⟨by rfl, ?_⟩) hHeld ?_ ?_
        rotate_left
        · rintro w' ⟨s0, s1, s2, s3, s4, s5⟩
          go_simp
          with_reducible rfl
        rotate_left
        · simp only [Act.put, List.setIfInBounds_toArray, List.set_cons_zero, List.set_cons_succ, i64_w, i32_w]
          rfl
        refine one_ (i := 42) (N := some 159) (demurragelaw02_RatioLaws.ups 60 35184372088831) rfl rfl (one_of HT_.out (by kernel_rfl)) (by decide) (fun K hK => ?_)
        refine goes_ Try.func50 (by kernel_rfl) rfl #[.agg #[.int .i64 a0_0, .int .i64 a0_1], .agg #[.int .i64 a1_0, .int .i64 a1_1]] (by rfl) rfl rfl (by (try simp only [List.map_toArray, List.map_cons, List.map_nil]); first | done | rfl) ?_
        with_reducible refine (ratio_Cmp.calls a0_0 a0_1 a1_0 a1_1 t5198 _ A230.out).mono ?_
        rintro e w312 ⟨rfl, hb⟩
        refine ⟨_, rfl, ?_⟩
        have n0_ := Aside0.mk (blk_below (g := gb4806) (o := .cells #[.int .i64 a0_0, .int .i64 a0_1] 57 (0, 0)) (by exact BK4806.out) hb)
        have n1_ := Aside0.mk (blk_below (g := gb4807) (o := .cells #[.int .i64 a1_0, .int .i64 a1_1] 57 (0, 0)) (by exact BK4807.out) hb)
        have n2_ := Aside0.mk (blk_below (g := gb5114) (o := .cells #[.int .i64 t5111, .int .i64 t5112] 57 (0, 0)) (by exact BK5114.out) hb)
        have n3_ := Aside0.mk (blk_below (g := gb5118) (o := .cells #[.int .i64 t5115, .int .i64 t5116] 57 (0, 0)) (by exact BK5118.out) hb)
        have n4_ := Aside0.mk (blk_below (g := gb5122) (o := .cells #[.int .i64 t5119, .int .i64 t5120] 57 (0, 0)) (by exact BK5122.out) hb)
        have n5_ := Aside0.mk (blk_below (g := gb5126) (o := .cells #[.int .i64 t5123, .int .i64 t5124] 57 (0, 0)) (by exact BK5126.out) hb)
        have n6_ := Aside0.mk (blk_below (g := gb5130) (o := .cells #[.int .i64 t5127, .int .i64 t5128] 57 (0, 0)) (by exact BK5130.out) hb)
        have n7_ := Aside0.mk (blk_below (g := gb5134) (o := .cells #[.int .i64 t5131, .int .i64 t5132] 57 (0, 0)) (by exact BK5134.out) hb)
        have n8_ := Aside0.mk (blk_below (g := gb5138) (o := .cells #[.int .i64 t5135, .int .i64 t5136] 57 (0, 0)) (by exact BK5138.out) hb)
        have n9_ := Aside0.mk (below_step (by repeat (first | (with_reducible first | exact HB.out | apply below_alloc | apply pw_below_drewN | apply below_drew1 | refine below_set ?_ GE4806.out | refine below_set ?_ GE4807.out | refine below_set ?_ GE5114.out | refine below_set ?_ GE5118.out | refine below_set ?_ GE5122.out | refine below_set ?_ GE5126.out | refine below_set ?_ GE5130.out | refine below_set ?_ GE5134.out | refine below_set ?_ GE5138.out) | exact HB.out)) hb)
        clear BK4806 BK4807 BK5114 BK5118 BK5122 BK5126 BK5130 BK5134 BK5138 HB
        have BK4806 := n0_
        have BK4807 := n1_
        have BK5114 := n2_
        have BK5118 := n3_
        have BK5122 := n4_
        have BK5126 := n5_
        have BK5130 := n6_
        have BK5134 := n7_
        have BK5138 := n8_
        have HB := n9_
        clear n0_ n1_ n2_ n3_ n4_ n5_ n6_ n7_ n8_ n9_
        (try clear hb)
        (try clear hb2)
        (try clear hk)
        (try clear hi)
        refine hK.out _ _ ⟨(blk_cell BK5122.out 0).trans rfl, (blk_cell BK5122.out 1).trans rfl, (blk_cell BK4806.out 0).trans rfl, (blk_cell BK4806.out 1).trans rfl, (blk_cell BK4807.out 0).trans rfl, (blk_cell BK4807.out 1).trans rfl⟩ (fun hHeld => ?_)
        clear hK K
        refine norm_ (a' := ?_) ?_ ?_
        rotate_left
        · show Act.put _ (some 159) _ = _
          simp only [Act.put, List.setIfInBounds_toArray, List.set_cons_zero, List.set_cons_succ, i64_w, i32_w]
          rfl
        refine one_ (i := 45) (N := some 162) (demurragelaw02_RatioLaws.ups 60 70368744177663) rfl rfl (one_of HT_.out (by kernel_rfl)) (by decide) (fun K hK => ?_)
        refine goes_ Try.func50 (by kernel_rfl) rfl #[.agg #[.int .i64 a1_0, .int .i64 a1_1], .agg #[.int .i64 a0_0, .int .i64 a0_1]] (by rfl) rfl rfl (by (try simp only [List.map_toArray, List.map_cons, List.map_nil]); first | done | rfl) ?_
        with_reducible refine (ratio_Cmp.calls a1_0 a1_1 a0_0 a0_1 t5199 _ A231.out).mono ?_
        rintro e w313 ⟨rfl, hb⟩
        refine ⟨_, rfl, ?_⟩
        have n0_ := Aside0.mk (blk_below (g := gb4806) (o := .cells #[.int .i64 a0_0, .int .i64 a0_1] 57 (0, 0)) (by exact BK4806.out) hb)
        have n1_ := Aside0.mk (blk_below (g := gb4807) (o := .cells #[.int .i64 a1_0, .int .i64 a1_1] 57 (0, 0)) (by exact BK4807.out) hb)
        have n2_ := Aside0.mk (blk_below (g := gb5114) (o := .cells #[.int .i64 t5111, .int .i64 t5112] 57 (0, 0)) (by exact BK5114.out) hb)
        have n3_ := Aside0.mk (blk_below (g := gb5118) (o := .cells #[.int .i64 t5115, .int .i64 t5116] 57 (0, 0)) (by exact BK5118.out) hb)
        have n4_ := Aside0.mk (blk_below (g := gb5122) (o := .cells #[.int .i64 t5119, .int .i64 t5120] 57 (0, 0)) (by exact BK5122.out) hb)
        have n5_ := Aside0.mk (blk_below (g := gb5126) (o := .cells #[.int .i64 t5123, .int .i64 t5124] 57 (0, 0)) (by exact BK5126.out) hb)
        have n6_ := Aside0.mk (blk_below (g := gb5130) (o := .cells #[.int .i64 t5127, .int .i64 t5128] 57 (0, 0)) (by exact BK5130.out) hb)
        have n7_ := Aside0.mk (blk_below (g := gb5134) (o := .cells #[.int .i64 t5131, .int .i64 t5132] 57 (0, 0)) (by exact BK5134.out) hb)
        have n8_ := Aside0.mk (blk_below (g := gb5138) (o := .cells #[.int .i64 t5135, .int .i64 t5136] 57 (0, 0)) (by exact BK5138.out) hb)
        have n9_ := Aside0.mk (below_step (by repeat (first | (with_reducible first | exact HB.out | apply below_alloc | apply pw_below_drewN | apply below_drew1 | refine below_set ?_ GE4806.out | refine below_set ?_ GE4807.out | refine below_set ?_ GE5114.out | refine below_set ?_ GE5118.out | refine below_set ?_ GE5122.out | refine below_set ?_ GE5126.out | refine below_set ?_ GE5130.out | refine below_set ?_ GE5134.out | refine below_set ?_ GE5138.out) | exact HB.out)) hb)
        clear BK4806 BK4807 BK5114 BK5118 BK5122 BK5126 BK5130 BK5134 BK5138 HB
        have BK4806 := n0_
        have BK4807 := n1_
        have BK5114 := n2_
        have BK5118 := n3_
        have BK5122 := n4_
        have BK5126 := n5_
        have BK5130 := n6_
        have BK5134 := n7_
        have BK5138 := n8_
        have HB := n9_
        clear n0_ n1_ n2_ n3_ n4_ n5_ n6_ n7_ n8_ n9_
        (try clear hb)
        (try clear hb2)
        (try clear hk)
        (try clear hi)
        refine hK.out _ _ ⟨(blk_cell BK5122.out 0).trans rfl, (blk_cell BK5122.out 1).trans rfl, (blk_cell BK4806.out 0).trans rfl, (blk_cell BK4806.out 1).trans rfl, (blk_cell BK4807.out 0).trans rfl, (blk_cell BK4807.out 1).trans rfl⟩ (fun hHeld => ?_)
        clear hK K
        refine norm_ (a' := ?_) ?_ ?_
        rotate_left
        · show Act.put _ (some 162) _ = _
          simp only [Act.put, List.setIfInBounds_toArray, List.set_cons_zero, List.set_cons_succ, i64_w, i32_w]
          rfl
        refine pure_ (i := 46) (N := some 163) (v := ?_) (a' := ?_) (demurragelaw02_RatioLaws.ups 60 140737488355327) rfl rfl (any_of HT_.out (by kernel_rfl)) (fun _ _ _ h => h) (Or.inl ⟨by rfl, ?_⟩) ?_ ?_
        rotate_left
        · intro w'
          go_simp
          with_reducible rfl
        rotate_left
        · simp only [Act.put, List.setIfInBounds_toArray, List.set_cons_zero, List.set_cons_succ, i64_w, i32_w]
          rfl
        refine pure_ (i := 47) (N := some 164) (v := ?_) (a' := ?_) (demurragelaw02_RatioLaws.ups 60 281474976710655) rfl rfl (any_of HT_.out (by kernel_rfl)) (fun _ _ _ h => h) (Or.inl ⟨by rfl, ?_⟩) ?_ ?_
        rotate_left
        · intro w'
          go_simp
          with_reducible rfl
        rotate_left
        · simp only [Act.put, List.setIfInBounds_toArray, List.set_cons_zero, List.set_cons_succ, i64_w, i32_w]
          rfl
        refine pure_ (i := 48) (N := some 165) (v := ?_) (a' := ?_) (demurragelaw02_RatioLaws.ups 60 562949953421311) rfl rfl (any_of HT_.out (by kernel_rfl)) (fun _ _ _ h => h) (Or.inl ⟨by rfl, ?_⟩) ?_ ?_
        rotate_left
        · intro w'
          go_simp
          with_reducible rfl
        rotate_left
        · simp only [Act.put, List.setIfInBounds_toArray, List.set_cons_zero, List.set_cons_succ, i64_w, i32_w]
          rfl
        refine pure_ (i := 49) (N := some 166) (v := ?_) (a' := ?_) (demurragelaw02_RatioLaws.ups 60 1125899906842623) rfl rfl (any_of HT_.out (by kernel_rfl)) (fun _ _ _ h => h) (Or.inl ⟨by rfl, ?_⟩) ?_ ?_
        rotate_left
        · intro w'
          go_simp
          with_reducible rfl
        rotate_left
        · simp only [Act.put, List.setIfInBounds_toArray, List.set_cons_zero, List.set_cons_succ, i64_w, i32_w]
          rfl
        refine take_ (i := 50) (N := some 167) (v := ?_) (a' := ?_) (demurragelaw02_RatioLaws.ups 60 2251799813685247) rfl rfl (take_ofW HT_.out HW_.out (by kernel_rfl)) (fun _ _ _ h => h) (Or.inl ⟨by rfl, ?_⟩) hHeld ?_ ?_
        rotate_left
        · rintro w' ⟨s0, s1, s2, s3, s4, s5⟩
          go_simp
          with_reducible rfl
        rotate_left
        · simp only [Act.put, List.setIfInBounds_toArray, List.set_cons_zero, List.set_cons_succ, i64_w, i32_w]
          rfl
        refine take_ (i := 51) (N := some 168) (v := ?_) (a' := ?_) (demurragelaw02_RatioLaws.ups 60 4503599627370495) rfl rfl (take_ofW HT_.out HW_.out (by kernel_rfl)) (fun _ _ _ h => h) (Or.inl ⟨by rfl, ?_⟩) hHeld ?_ ?_
        rotate_left
        · rintro w' ⟨s0, s1, s2, s3, s4, s5⟩
          go_simp
          with_reducible rfl
        rotate_left
        · simp only [Act.put, List.setIfInBounds_toArray, List.set_cons_zero, List.set_cons_succ, i64_w, i32_w]
          rfl
        refine take_ (i := 54) (N := some 171) (v := ?_) (a' := ?_) (demurragelaw02_RatioLaws.ups 60 22517998136852479) rfl rfl (take_ofW HT_.out HW_.out (by kernel_rfl)) (fun _ _ _ h => h) (Or.inl ⟨by rfl, ?_⟩) hHeld ?_ ?_
        rotate_left
        · rintro w' ⟨s0, s1, s2, s3, s4, s5⟩
          go_simp
          with_reducible rfl
        rotate_left
        · simp only [Act.put, List.setIfInBounds_toArray, List.set_cons_zero, List.set_cons_succ, i64_w, i32_w]
          rfl
        refine take_ (i := 55) (N := some 172) (v := ?_) (a' := ?_) (demurragelaw02_RatioLaws.ups 60 58546795155816447) rfl rfl (take_ofW HT_.out HW_.out (by kernel_rfl)) (fun _ _ _ h => h) (Or.inl ⟨by rfl, ?_⟩) hHeld ?_ ?_
        rotate_left
        · rintro w' ⟨s0, s1, s2, s3, s4, s5⟩
          go_simp
          with_reducible rfl
        rotate_left
        · simp only [Act.put, List.setIfInBounds_toArray, List.set_cons_zero, List.set_cons_succ, i64_w, i32_w]
          rfl
        refine pure_ (i := 56) (N := some 173) (v := ?_) (a' := ?_) (demurragelaw02_RatioLaws.ups 60 130604389193744383) rfl rfl (any_of HT_.out (by kernel_rfl)) (fun _ _ _ h => h) (Or.inl ⟨by rfl, ?_⟩) ?_ ?_
        rotate_left
        · intro w'
          go_simp
          with_reducible rfl
        rotate_left
        · simp only [Act.put, List.setIfInBounds_toArray, List.set_cons_zero, List.set_cons_succ, i64_w, i32_w]
          rfl
        refine one_ (i := 52) (N := some 169) (demurragelaw02_RatioLaws.ups 60 135107988821114879) rfl rfl (one_of HT_.out (by kernel_rfl)) (by decide) (fun K hK => ?_)
        refine goes_ Try.func50 (by kernel_rfl) rfl #[.agg #[.int .i64 a0_0, .int .i64 a0_1], .agg #[.int .i64 a1_0, .int .i64 a1_1]] (by rfl) rfl rfl (by (try simp only [List.map_toArray, List.map_cons, List.map_nil]); first | done | rfl) ?_
        with_reducible refine (ratio_Cmp.calls a0_0 a0_1 a1_0 a1_1 t5200 _ A53.out).mono ?_
        rintro e w314 ⟨rfl, hb⟩
        refine ⟨_, rfl, ?_⟩
        have n0_ := Aside0.mk (blk_below (g := gb4806) (o := .cells #[.int .i64 a0_0, .int .i64 a0_1] 57 (0, 0)) (by exact BK4806.out) hb)
        have n1_ := Aside0.mk (blk_below (g := gb4807) (o := .cells #[.int .i64 a1_0, .int .i64 a1_1] 57 (0, 0)) (by exact BK4807.out) hb)
        have n2_ := Aside0.mk (blk_below (g := gb5114) (o := .cells #[.int .i64 t5111, .int .i64 t5112] 57 (0, 0)) (by exact BK5114.out) hb)
        have n3_ := Aside0.mk (blk_below (g := gb5118) (o := .cells #[.int .i64 t5115, .int .i64 t5116] 57 (0, 0)) (by exact BK5118.out) hb)
        have n4_ := Aside0.mk (blk_below (g := gb5122) (o := .cells #[.int .i64 t5119, .int .i64 t5120] 57 (0, 0)) (by exact BK5122.out) hb)
        have n5_ := Aside0.mk (blk_below (g := gb5126) (o := .cells #[.int .i64 t5123, .int .i64 t5124] 57 (0, 0)) (by exact BK5126.out) hb)
        have n6_ := Aside0.mk (blk_below (g := gb5130) (o := .cells #[.int .i64 t5127, .int .i64 t5128] 57 (0, 0)) (by exact BK5130.out) hb)
        have n7_ := Aside0.mk (blk_below (g := gb5134) (o := .cells #[.int .i64 t5131, .int .i64 t5132] 57 (0, 0)) (by exact BK5134.out) hb)
        have n8_ := Aside0.mk (blk_below (g := gb5138) (o := .cells #[.int .i64 t5135, .int .i64 t5136] 57 (0, 0)) (by exact BK5138.out) hb)
        have n9_ := Aside0.mk (below_step (by repeat (first | (with_reducible first | exact HB.out | apply below_alloc | apply pw_below_drewN | apply below_drew1 | refine below_set ?_ GE4806.out | refine below_set ?_ GE4807.out | refine below_set ?_ GE5114.out | refine below_set ?_ GE5118.out | refine below_set ?_ GE5122.out | refine below_set ?_ GE5126.out | refine below_set ?_ GE5130.out | refine below_set ?_ GE5134.out | refine below_set ?_ GE5138.out) | exact HB.out)) hb)
        clear BK4806 BK4807 BK5114 BK5118 BK5122 BK5126 BK5130 BK5134 BK5138 HB
        have BK4806 := n0_
        have BK4807 := n1_
        have BK5114 := n2_
        have BK5118 := n3_
        have BK5122 := n4_
        have BK5126 := n5_
        have BK5130 := n6_
        have BK5134 := n7_
        have BK5138 := n8_
        have HB := n9_
        clear n0_ n1_ n2_ n3_ n4_ n5_ n6_ n7_ n8_ n9_
        (try clear hb)
        (try clear hb2)
        (try clear hk)
        (try clear hi)
        refine hK.out _ _ ⟨(blk_cell BK5122.out 0).trans rfl, (blk_cell BK5122.out 1).trans rfl, (blk_cell BK4806.out 0).trans rfl, (blk_cell BK4806.out 1).trans rfl, (blk_cell BK4807.out 0).trans rfl, (blk_cell BK4807.out 1).trans rfl⟩ (fun hHeld => ?_)
        clear hK K
        refine norm_ (a' := ?_) ?_ ?_
        rotate_left
        · show Act.put _ (some 169) _ = _
          simp only [Act.put, List.setIfInBounds_toArray, List.set_cons_zero, List.set_cons_succ, i64_w, i32_w]
          rfl
        refine pure_ (i := 53) (N := some 170) (v := ?_) (a' := ?_) (demurragelaw02_RatioLaws.ups 60 144115188075855871) rfl rfl (any_of HT_.out (by kernel_rfl)) (fun _ _ _ h => h) (Or.inl ⟨by rfl, ?_⟩) ?_ ?_
        rotate_left
        · intro w'
          go_simp
          with_reducible rfl
        rotate_left
        · simp only [Act.put, List.setIfInBounds_toArray, List.set_cons_zero, List.set_cons_succ, i64_w, i32_w]
          rfl
        refine pure_ (i := 57) (N := some 174) (v := ?_) (a' := ?_) (demurragelaw02_RatioLaws.ups 60 288230376151711743) rfl rfl (any_of HT_.out (by kernel_rfl)) (fun _ _ _ h => h) (Or.inl ⟨by rfl, ?_⟩) ?_ ?_
        rotate_left
        · intro w'
          go_simp
          with_reducible rfl
        rotate_left
        · simp only [Act.put, List.setIfInBounds_toArray, List.set_cons_zero, List.set_cons_succ, i64_w, i32_w]
          rfl
        refine pure_ (i := 58) (N := some 175) (v := ?_) (a' := ?_) (demurragelaw02_RatioLaws.ups 60 576460752303423487) rfl rfl (any_of HT_.out (by kernel_rfl)) (fun _ _ _ h => h) (Or.inl ⟨by rfl, ?_⟩) ?_ ?_
        rotate_left
        · intro w'
          go_simp
          with_reducible rfl
        rotate_left
        · simp only [Act.put, List.setIfInBounds_toArray, List.set_cons_zero, List.set_cons_succ, i64_w, i32_w]
          rfl
        refine pure_ (i := 59) (N := some 4) (v := ?_) (a' := ?_) (demurragelaw02_RatioLaws.ups 60 1152921504606846975) rfl rfl (any_of HT_.out (by kernel_rfl)) (fun _ _ _ h => h) (Or.inl ⟨by rfl, ?_⟩) ?_ ?_
        rotate_left
        · intro w'
          go_simp
          with_reducible rfl
        rotate_left
        · simp only [Act.put, List.setIfInBounds_toArray, List.set_cons_zero, List.set_cons_succ, i64_w, i32_w]
          rfl
        refine done_ (done_of HT_.out (by kernel_rfl)) ?_
        try go_wp2
        go_ret
        exact ⟨by rfl, by repeat (first | (with_reducible first | exact HB.out | apply below_alloc | apply pw_below_drewN | apply below_drew1 | refine below_set ?_ GE4806.out | refine below_set ?_ GE4807.out | refine below_set ?_ GE5114.out | refine below_set ?_ GE5118.out | refine below_set ?_ GE5122.out | refine below_set ?_ GE5126.out | refine below_set ?_ GE5130.out | refine below_set ?_ GE5134.out | refine below_set ?_ GE5138.out) | exact HB.out)⟩
      · refine start_ (n := 60) (S := fun w' => w'.cell? ⟨gb5114, 0, none⟩ = some (.int .i64 t5111) ∧ w'.cell? ⟨gb5114, 1, none⟩ = some (.int .i64 t5112) ∧ w'.cell? ⟨gb4806, 0, none⟩ = some (.int .i64 a0_0) ∧ w'.cell? ⟨gb4806, 1, none⟩ = some (.int .i64 a0_1) ∧ w'.cell? ⟨gb4807, 0, none⟩ = some (.int .i64 a1_0) ∧ w'.cell? ⟨gb4807, 1, none⟩ = some (.int .i64 a1_1)) (ds := []) (demurragelaw02_RatioLaws.ups 60 0) (by kernel_rfl) rfl rfl ⟨(blk_cell BK5114.out 0).trans rfl, (blk_cell BK5114.out 1).trans rfl, (blk_cell BK4806.out 0).trans rfl, (blk_cell BK4806.out 1).trans rfl, (blk_cell BK4807.out 0).trans rfl, (blk_cell BK4807.out 1).trans rfl⟩ (fun hHeld => ?_); refine with_tabW demurragelaw02_RatioLaws.tab13 demurragelaw02_RatioLaws.bits13 (fun HT_ HW_ => ?_)
        generalize w129.drew = w219 at BK4806 BK4807 BK5114 BK5118 BK5122 BK5126 BK5130 BK5134 BK5138 HB hHeld ⊢
        refine pure_ (i := 0) (N := some 117) (v := ?_) (a' := ?_) (demurragelaw02_RatioLaws.ups 60 1) rfl rfl (any_of HT_.out (by kernel_rfl)) (fun _ _ _ h => h) (Or.inl ⟨by rfl, ?_⟩) ?_ ?_
        rotate_left
        · intro w'
          go_simp
          with_reducible rfl
        rotate_left
        · simp only [Act.put, List.setIfInBounds_toArray, List.set_cons_zero, List.set_cons_succ, i64_w, i32_w]
          rfl
        refine pure_ (i := 1) (N := some 118) (v := ?_) (a' := ?_) (demurragelaw02_RatioLaws.ups 60 3) rfl rfl (any_of HT_.out (by kernel_rfl)) (fun _ _ _ h => h) (Or.inl ⟨by rfl, ?_⟩) ?_ ?_
        rotate_left
        · intro w'
          go_simp
          with_reducible rfl
        rotate_left
        · simp only [Act.put, List.setIfInBounds_toArray, List.set_cons_zero, List.set_cons_succ, i64_w, i32_w]
          rfl
        refine pure_ (i := 2) (N := some 119) (v := ?_) (a' := ?_) (demurragelaw02_RatioLaws.ups 60 7) rfl rfl (any_of HT_.out (by kernel_rfl)) (fun _ _ _ h => h) (Or.inl ⟨by rfl, ?_⟩) ?_ ?_
        rotate_left
        · intro w'
          go_simp
          with_reducible rfl
        rotate_left
        · simp only [Act.put, List.setIfInBounds_toArray, List.set_cons_zero, List.set_cons_succ, i64_w, i32_w]
          rfl
        refine pure_ (i := 3) (N := some 120) (v := ?_) (a' := ?_) (demurragelaw02_RatioLaws.ups 60 15) rfl rfl (any_of HT_.out (by kernel_rfl)) (fun _ _ _ h => h) (Or.inl ⟨by rfl, ?_⟩) ?_ ?_
        rotate_left
        · intro w'
          go_simp
          with_reducible rfl
        rotate_left
        · simp only [Act.put, List.setIfInBounds_toArray, List.set_cons_zero, List.set_cons_succ, i64_w, i32_w]
          rfl
        refine pure_ (i := 4) (N := some 121) (v := ?_) (a' := ?_) (demurragelaw02_RatioLaws.ups 60 31) rfl rfl (any_of HT_.out (by kernel_rfl)) (fun _ _ _ h => h) (Or.inl ⟨by rfl, ?_⟩) ?_ ?_
        rotate_left
        · intro w'
          go_simp
          with_reducible rfl
        rotate_left
        · simp only [Act.put, List.setIfInBounds_toArray, List.set_cons_zero, List.set_cons_succ, i64_w, i32_w]
          rfl
        refine take_ (i := 5) (N := some 122) (v := ?_) (a' := ?_) (demurragelaw02_RatioLaws.ups 60 63) rfl rfl (take_ofW HT_.out HW_.out (by kernel_rfl)) (fun _ _ _ h => h) (Or.inl ⟨by rfl, ?_⟩) hHeld ?_ ?_
        rotate_left
        · rintro w' ⟨s0, s1, s2, s3, s4, s5⟩
          go_simp
          with_reducible rfl
        rotate_left
        · simp only [Act.put, List.setIfInBounds_toArray, List.set_cons_zero, List.set_cons_succ, i64_w, i32_w]
          rfl
        refine one_ (i := 6) (N := some 123) (demurragelaw02_RatioLaws.ups 60 127) rfl rfl (one_of HT_.out (by kernel_rfl)) (by decide) (fun K hK => ?_)
        refine goes_ Try.func44 (by kernel_rfl) rfl #[.agg #[.int .i64 t5111, .int .i64 t5112]] (by rfl) rfl rfl (by (try simp only [List.map_toArray, List.map_cons, List.map_nil]); first | done | rfl) ?_
        with_reducible refine (demurrageref02_Right.calls kj3 t5111 t5112 true _ A39.out).mono ?_
        rintro e w220 ⟨rfl, hb⟩
        refine ⟨_, rfl, ?_⟩
        have n0_ := Aside0.mk (blk_below (g := gb4806) (o := .cells #[.int .i64 a0_0, .int .i64 a0_1] 57 (0, 0)) (by exact BK4806.out) hb)
        have n1_ := Aside0.mk (blk_below (g := gb4807) (o := .cells #[.int .i64 a1_0, .int .i64 a1_1] 57 (0, 0)) (by exact BK4807.out) hb)
        have n2_ := Aside0.mk (blk_below (g := gb5114) (o := .cells #[.int .i64 t5111, .int .i64 t5112] 57 (0, 0)) (by exact BK5114.out) hb)
        have n3_ := Aside0.mk (blk_below (g := gb5118) (o := .cells #[.int .i64 t5115, .int .i64 t5116] 57 (0, 0)) (by exact BK5118.out) hb)
        have n4_ := Aside0.mk (blk_below (g := gb5122) (o := .cells #[.int .i64 t5119, .int .i64 t5120] 57 (0, 0)) (by exact BK5122.out) hb)
        have n5_ := Aside0.mk (blk_below (g := gb5126) (o := .cells #[.int .i64 t5123, .int .i64 t5124] 57 (0, 0)) (by exact BK5126.out) hb)
        have n6_ := Aside0.mk (blk_below (g := gb5130) (o := .cells #[.int .i64 t5127, .int .i64 t5128] 57 (0, 0)) (by exact BK5130.out) hb)
        have n7_ := Aside0.mk (blk_below (g := gb5134) (o := .cells #[.int .i64 t5131, .int .i64 t5132] 57 (0, 0)) (by exact BK5134.out) hb)
        have n8_ := Aside0.mk (blk_below (g := gb5138) (o := .cells #[.int .i64 t5135, .int .i64 t5136] 57 (0, 0)) (by exact BK5138.out) hb)
        have n9_ := Aside0.mk (below_step (by repeat (first | (with_reducible first | exact HB.out | apply below_alloc | apply pw_below_drewN | apply below_drew1 | refine below_set ?_ GE4806.out | refine below_set ?_ GE4807.out | refine below_set ?_ GE5114.out | refine below_set ?_ GE5118.out | refine below_set ?_ GE5122.out | refine below_set ?_ GE5126.out | refine below_set ?_ GE5130.out | refine below_set ?_ GE5134.out | refine below_set ?_ GE5138.out) | exact HB.out)) hb)
        clear BK4806 BK4807 BK5114 BK5118 BK5122 BK5126 BK5130 BK5134 BK5138 HB
        have BK4806 := n0_
        have BK4807 := n1_
        have BK5114 := n2_
        have BK5118 := n3_
        have BK5122 := n4_
        have BK5126 := n5_
        have BK5130 := n6_
        have BK5134 := n7_
        have BK5138 := n8_
        have HB := n9_
        clear n0_ n1_ n2_ n3_ n4_ n5_ n6_ n7_ n8_ n9_
        (try clear hb)
        (try clear hb2)
        (try clear hk)
        (try clear hi)
        refine hK.out _ _ ⟨(blk_cell BK5114.out 0).trans rfl, (blk_cell BK5114.out 1).trans rfl, (blk_cell BK4806.out 0).trans rfl, (blk_cell BK4806.out 1).trans rfl, (blk_cell BK4807.out 0).trans rfl, (blk_cell BK4807.out 1).trans rfl⟩ (fun hHeld => ?_)
        clear hK K
        refine norm_ (a' := ?_) ?_ ?_
        rotate_left
        · show Act.put _ (some 123) _ = _
          simp only [Act.put, List.setIfInBounds_toArray, List.set_cons_zero, List.set_cons_succ, i64_w, i32_w]
          rfl
        refine pure_ (i := 7) (N := some 124) (v := ?_) (a' := ?_) (demurragelaw02_RatioLaws.ups 60 255) rfl rfl (any_of HT_.out (by kernel_rfl)) (fun _ _ _ h => h) (Or.inl ⟨by rfl, ?_⟩) ?_ ?_
        rotate_left
        · intro w'
          go_simp
          with_reducible rfl
        rotate_left
        · simp only [Act.put, List.setIfInBounds_toArray, List.set_cons_zero, List.set_cons_succ, i64_w, i32_w]
          rfl
        refine take_ (i := 8) (N := some 125) (v := ?_) (a' := ?_) (demurragelaw02_RatioLaws.ups 60 511) rfl rfl (take_ofW HT_.out HW_.out (by kernel_rfl)) (fun _ _ _ h => h) (Or.inl ⟨by rfl, ?_⟩) hHeld ?_ ?_
        rotate_left
        · rintro w' ⟨s0, s1, s2, s3, s4, s5⟩
          go_simp
          with_reducible rfl
        rotate_left
        · simp only [Act.put, List.setIfInBounds_toArray, List.set_cons_zero, List.set_cons_succ, i64_w, i32_w]
          rfl
        refine take_ (i := 9) (N := some 126) (v := ?_) (a' := ?_) (demurragelaw02_RatioLaws.ups 60 1023) rfl rfl (take_ofW HT_.out HW_.out (by kernel_rfl)) (fun _ _ _ h => h) (Or.inl ⟨by rfl, ?_⟩) hHeld ?_ ?_
        rotate_left
        · rintro w' ⟨s0, s1, s2, s3, s4, s5⟩
          go_simp
          with_reducible rfl
        rotate_left
        · simp only [Act.put, List.setIfInBounds_toArray, List.set_cons_zero, List.set_cons_succ, i64_w, i32_w]
          rfl
        refine one_ (i := 10) (N := some 127) (demurragelaw02_RatioLaws.ups 60 2047) rfl rfl (one_of HT_.out (by kernel_rfl)) (by decide) (fun K hK => ?_)
        refine goes_ Try.func50 (by kernel_rfl) rfl #[.agg #[.int .i64 t5111, .int .i64 t5112], .agg #[.int .i64 a0_0, .int .i64 a0_1]] (by rfl) rfl rfl (by (try simp only [List.map_toArray, List.map_cons, List.map_nil]); first | done | rfl) ?_
        with_reducible refine (ratio_Cmp.calls t5111 t5112 a0_0 a0_1 t5194 _ A41.out).mono ?_
        rintro e w221 ⟨rfl, hb⟩
        refine ⟨_, rfl, ?_⟩
        have n0_ := Aside0.mk (blk_below (g := gb4806) (o := .cells #[.int .i64 a0_0, .int .i64 a0_1] 57 (0, 0)) (by exact BK4806.out) hb)
        have n1_ := Aside0.mk (blk_below (g := gb4807) (o := .cells #[.int .i64 a1_0, .int .i64 a1_1] 57 (0, 0)) (by exact BK4807.out) hb)
        have n2_ := Aside0.mk (blk_below (g := gb5114) (o := .cells #[.int .i64 t5111, .int .i64 t5112] 57 (0, 0)) (by exact BK5114.out) hb)
        have n3_ := Aside0.mk (blk_below (g := gb5118) (o := .cells #[.int .i64 t5115, .int .i64 t5116] 57 (0, 0)) (by exact BK5118.out) hb)
        have n4_ := Aside0.mk (blk_below (g := gb5122) (o := .cells #[.int .i64 t5119, .int .i64 t5120] 57 (0, 0)) (by exact BK5122.out) hb)
        have n5_ := Aside0.mk (blk_below (g := gb5126) (o := .cells #[.int .i64 t5123, .int .i64 t5124] 57 (0, 0)) (by exact BK5126.out) hb)
        have n6_ := Aside0.mk (blk_below (g := gb5130) (o := .cells #[.int .i64 t5127, .int .i64 t5128] 57 (0, 0)) (by exact BK5130.out) hb)
        have n7_ := Aside0.mk (blk_below (g := gb5134) (o := .cells #[.int .i64 t5131, .int .i64 t5132] 57 (0, 0)) (by exact BK5134.out) hb)
        have n8_ := Aside0.mk (blk_below (g := gb5138) (o := .cells #[.int .i64 t5135, .int .i64 t5136] 57 (0, 0)) (by exact BK5138.out) hb)
        have n9_ := Aside0.mk (below_step (by repeat (first | (with_reducible first | exact HB.out | apply below_alloc | apply pw_below_drewN | apply below_drew1 | refine below_set ?_ GE4806.out | refine below_set ?_ GE4807.out | refine below_set ?_ GE5114.out | refine below_set ?_ GE5118.out | refine below_set ?_ GE5122.out | refine below_set ?_ GE5126.out | refine below_set ?_ GE5130.out | refine below_set ?_ GE5134.out | refine below_set ?_ GE5138.out) | exact HB.out)) hb)
        clear BK4806 BK4807 BK5114 BK5118 BK5122 BK5126 BK5130 BK5134 BK5138 HB
        have BK4806 := n0_
        have BK4807 := n1_
        have BK5114 := n2_
        have BK5118 := n3_
        have BK5122 := n4_
        have BK5126 := n5_
        have BK5130 := n6_
        have BK5134 := n7_
        have BK5138 := n8_
        have HB := n9_
        clear n0_ n1_ n2_ n3_ n4_ n5_ n6_ n7_ n8_ n9_
        (try clear hb)
        (try clear hb2)
        (try clear hk)
        (try clear hi)
        refine hK.out _ _ ⟨(blk_cell BK5114.out 0).trans rfl, (blk_cell BK5114.out 1).trans rfl, (blk_cell BK4806.out 0).trans rfl, (blk_cell BK4806.out 1).trans rfl, (blk_cell BK4807.out 0).trans rfl, (blk_cell BK4807.out 1).trans rfl⟩ (fun hHeld => ?_)
        clear hK K
        refine norm_ (a' := ?_) ?_ ?_
        rotate_left
        · show Act.put _ (some 127) _ = _
          simp only [Act.put, List.setIfInBounds_toArray, List.set_cons_zero, List.set_cons_succ, i64_w, i32_w]
          rfl
        refine pure_ (i := 11) (N := some 128) (v := ?_) (a' := ?_) (demurragelaw02_RatioLaws.ups 60 4095) rfl rfl (any_of HT_.out (by kernel_rfl)) (fun _ _ _ h => h) (Or.inl ⟨by rfl, ?_⟩) ?_ ?_
        rotate_left
        · intro w'
          go_simp
          with_reducible rfl
        rotate_left
        · simp only [Act.put, List.setIfInBounds_toArray, List.set_cons_zero, List.set_cons_succ, i64_w, i32_w]
          rfl
        refine pure_ (i := 12) (N := some 129) (v := ?_) (a' := ?_) (demurragelaw02_RatioLaws.ups 60 8191) rfl rfl (any_of HT_.out (by kernel_rfl)) (fun _ _ _ h => h) (Or.inl ⟨by rfl, ?_⟩) ?_ ?_
        rotate_left
        · intro w'
          go_simp
          with_reducible rfl
        rotate_left
        · simp only [Act.put, List.setIfInBounds_toArray, List.set_cons_zero, List.set_cons_succ, i64_w, i32_w]
          rfl
        refine pure_ (i := 13) (N := some 130) (v := ?_) (a' := ?_) (demurragelaw02_RatioLaws.ups 60 16383) rfl rfl (any_of HT_.out (by kernel_rfl)) (fun _ _ _ h => h) (Or.inl ⟨by rfl, ?_⟩) ?_ ?_
        rotate_left
        · intro w'
          go_simp
          with_reducible rfl
        rotate_left
        · simp only [Act.put, List.setIfInBounds_toArray, List.set_cons_zero, List.set_cons_succ, i64_w, i32_w]
          rfl
        refine take_ (i := 14) (N := some 131) (v := ?_) (a' := ?_) (demurragelaw02_RatioLaws.ups 60 32767) rfl rfl (take_ofW HT_.out HW_.out (by kernel_rfl)) (fun _ _ _ h => h) (Or.inl ⟨by rfl, ?_⟩) hHeld ?_ ?_
        rotate_left
        · rintro w' ⟨s0, s1, s2, s3, s4, s5⟩
          go_simp
          with_reducible rfl
        rotate_left
        · simp only [Act.put, List.setIfInBounds_toArray, List.set_cons_zero, List.set_cons_succ, i64_w, i32_w]
          rfl
        refine take_ (i := 15) (N := some 132) (v := ?_) (a' := ?_) (demurragelaw02_RatioLaws.ups 60 65535) rfl rfl (take_ofW HT_.out HW_.out (by kernel_rfl)) (fun _ _ _ h => h) (Or.inl ⟨by rfl, ?_⟩) hHeld ?_ ?_
        rotate_left
        · rintro w' ⟨s0, s1, s2, s3, s4, s5⟩
          go_simp
          with_reducible rfl
        rotate_left
        · simp only [Act.put, List.setIfInBounds_toArray, List.set_cons_zero, List.set_cons_succ, i64_w, i32_w]
          rfl
        refine one_ (i := 16) (N := some 133) (demurragelaw02_RatioLaws.ups 60 131071) rfl rfl (one_of HT_.out (by kernel_rfl)) (by decide) (fun K hK => ?_)
        refine goes_ Try.func50 (by kernel_rfl) rfl #[.agg #[.int .i64 t5111, .int .i64 t5112], .agg #[.int .i64 a1_0, .int .i64 a1_1]] (by rfl) rfl rfl (by (try simp only [List.map_toArray, List.map_cons, List.map_nil]); first | done | rfl) ?_
        with_reducible refine (ratio_Cmp.calls t5111 t5112 a1_0 a1_1 t5195 _ A43.out).mono ?_
        rintro e w222 ⟨rfl, hb⟩
        refine ⟨_, rfl, ?_⟩
        have n0_ := Aside0.mk (blk_below (g := gb4806) (o := .cells #[.int .i64 a0_0, .int .i64 a0_1] 57 (0, 0)) (by exact BK4806.out) hb)
        have n1_ := Aside0.mk (blk_below (g := gb4807) (o := .cells #[.int .i64 a1_0, .int .i64 a1_1] 57 (0, 0)) (by exact BK4807.out) hb)
        have n2_ := Aside0.mk (blk_below (g := gb5114) (o := .cells #[.int .i64 t5111, .int .i64 t5112] 57 (0, 0)) (by exact BK5114.out) hb)
        have n3_ := Aside0.mk (blk_below (g := gb5118) (o := .cells #[.int .i64 t5115, .int .i64 t5116] 57 (0, 0)) (by exact BK5118.out) hb)
        have n4_ := Aside0.mk (blk_below (g := gb5122) (o := .cells #[.int .i64 t5119, .int .i64 t5120] 57 (0, 0)) (by exact BK5122.out) hb)
        have n5_ := Aside0.mk (blk_below (g := gb5126) (o := .cells #[.int .i64 t5123, .int .i64 t5124] 57 (0, 0)) (by exact BK5126.out) hb)
        have n6_ := Aside0.mk (blk_below (g := gb5130) (o := .cells #[.int .i64 t5127, .int .i64 t5128] 57 (0, 0)) (by exact BK5130.out) hb)
        have n7_ := Aside0.mk (blk_below (g := gb5134) (o := .cells #[.int .i64 t5131, .int .i64 t5132] 57 (0, 0)) (by exact BK5134.out) hb)
        have n8_ := Aside0.mk (blk_below (g := gb5138) (o := .cells #[.int .i64 t5135, .int .i64 t5136] 57 (0, 0)) (by exact BK5138.out) hb)
        have n9_ := Aside0.mk (below_step (by repeat (first | (with_reducible first | exact HB.out | apply below_alloc | apply pw_below_drewN | apply below_drew1 | refine below_set ?_ GE4806.out | refine below_set ?_ GE4807.out | refine below_set ?_ GE5114.out | refine below_set ?_ GE5118.out | refine below_set ?_ GE5122.out | refine below_set ?_ GE5126.out | refine below_set ?_ GE5130.out | refine below_set ?_ GE5134.out | refine below_set ?_ GE5138.out) | exact HB.out)) hb)
        clear BK4806 BK4807 BK5114 BK5118 BK5122 BK5126 BK5130 BK5134 BK5138 HB
        have BK4806 := n0_
        have BK4807 := n1_
        have BK5114 := n2_
        have BK5118 := n3_
        have BK5122 := n4_
        have BK5126 := n5_
        have BK5130 := n6_
        have BK5134 := n7_
        have BK5138 := n8_
        have HB := n9_
        clear n0_ n1_ n2_ n3_ n4_ n5_ n6_ n7_ n8_ n9_
        (try clear hb)
        (try clear hb2)
        (try clear hk)
        (try clear hi)
        refine hK.out _ _ ⟨(blk_cell BK5114.out 0).trans rfl, (blk_cell BK5114.out 1).trans rfl, (blk_cell BK4806.out 0).trans rfl, (blk_cell BK4806.out 1).trans rfl, (blk_cell BK4807.out 0).trans rfl, (blk_cell BK4807.out 1).trans rfl⟩ (fun hHeld => ?_)
        clear hK K
        refine norm_ (a' := ?_) ?_ ?_
        rotate_left
        · show Act.put _ (some 133) _ = _
          simp only [Act.put, List.setIfInBounds_toArray, List.set_cons_zero, List.set_cons_succ, i64_w, i32_w]
          rfl
        refine pure_ (i := 17) (N := some 134) (v := ?_) (a' := ?_) (demurragelaw02_RatioLaws.ups 60 262143) rfl rfl (any_of HT_.out (by kernel_rfl)) (fun _ _ _ h => h) (Or.inl ⟨by rfl, ?_⟩) ?_ ?_
        rotate_left
        · intro w'
          go_simp
          with_reducible rfl
        rotate_left
        · simp only [Act.put, List.setIfInBounds_toArray, List.set_cons_zero, List.set_cons_succ, i64_w, i32_w]
          rfl
        refine pure_ (i := 18) (N := some 135) (v := ?_) (a' := ?_) (demurragelaw02_RatioLaws.ups 60 524287) rfl rfl (any_of HT_.out (by kernel_rfl)) (fun _ _ _ h => h) (Or.inl ⟨by rfl, ?_⟩) ?_ ?_
        rotate_left
        · intro w'
          go_simp
          with_reducible rfl
        rotate_left
        · simp only [Act.put, List.setIfInBounds_toArray, List.set_cons_zero, List.set_cons_succ, i64_w, i32_w]
          rfl
        refine pure_ (i := 19) (N := some 136) (v := ?_) (a' := ?_) (demurragelaw02_RatioLaws.ups 60 1048575) rfl rfl (any_of HT_.out (by kernel_rfl)) (fun _ _ _ h => h) (Or.inl ⟨by rfl, ?_⟩) ?_ ?_
        rotate_left
        · intro w'
          go_simp
          with_reducible rfl
        rotate_left
        · simp only [Act.put, List.setIfInBounds_toArray, List.set_cons_zero, List.set_cons_succ, i64_w, i32_w]
          rfl
        refine pure_ (i := 24) (N := some 141) (v := ?_) (a' := ?_) (demurragelaw02_RatioLaws.ups 60 17825791) rfl rfl (any_of HT_.out (by kernel_rfl)) (fun _ _ _ h => h) (Or.inl ⟨by rfl, ?_⟩) ?_ ?_
        rotate_left
        · intro w'
          go_simp
          with_reducible rfl
        rotate_left
        · simp only [Act.put, List.setIfInBounds_toArray, List.set_cons_zero, List.set_cons_succ, i64_w, i32_w]
          rfl
        refine take_ (i := 20) (N := some 137) (v := ?_) (a' := ?_) (demurragelaw02_RatioLaws.ups 60 18874367) rfl rfl (take_ofW HT_.out HW_.out (by kernel_rfl)) (fun _ _ _ h => h) (Or.inl ⟨by rfl, ?_⟩) hHeld ?_ ?_
        rotate_left
        · rintro w' ⟨s0, s1, s2, s3, s4, s5⟩
          go_simp
          with_reducible rfl
        rotate_left
        · simp only [Act.put, List.setIfInBounds_toArray, List.set_cons_zero, List.set_cons_succ, i64_w, i32_w]
          rfl
        refine take_ (i := 21) (N := some 138) (v := ?_) (a' := ?_) (demurragelaw02_RatioLaws.ups 60 20971519) rfl rfl (take_ofW HT_.out HW_.out (by kernel_rfl)) (fun _ _ _ h => h) (Or.inl ⟨by rfl, ?_⟩) hHeld ?_ ?_
        rotate_left
        · rintro w' ⟨s0, s1, s2, s3, s4, s5⟩
          go_simp
          with_reducible rfl
        rotate_left
        · simp only [Act.put, List.setIfInBounds_toArray, List.set_cons_zero, List.set_cons_succ, i64_w, i32_w]
          rfl
        refine take_ (i := 25) (N := some 142) (v := ?_) (a' := ?_) (demurragelaw02_RatioLaws.ups 60 54525951) rfl rfl (take_ofW HT_.out HW_.out (by kernel_rfl)) (fun _ _ _ h => h) (Or.inl ⟨by rfl, ?_⟩) hHeld ?_ ?_
        rotate_left
        · rintro w' ⟨s0, s1, s2, s3, s4, s5⟩
          go_simp
          with_reducible rfl
        rotate_left
        · simp only [Act.put, List.setIfInBounds_toArray, List.set_cons_zero, List.set_cons_succ, i64_w, i32_w]
          rfl
        refine pure_ (i := 26) (N := some 143) (v := ?_) (a' := ?_) (demurragelaw02_RatioLaws.ups 60 121634815) rfl rfl (any_of HT_.out (by kernel_rfl)) (fun _ _ _ h => h) (Or.inl ⟨by rfl, ?_⟩) ?_ ?_
        rotate_left
        · intro w'
          go_simp
          with_reducible rfl
        rotate_left
        · simp only [Act.put, List.setIfInBounds_toArray, List.set_cons_zero, List.set_cons_succ, i64_w, i32_w]
          rfl
        refine one_ (i := 22) (N := some 139) (demurragelaw02_RatioLaws.ups 60 125829119) rfl rfl (one_of HT_.out (by kernel_rfl)) (by decide) (fun K hK => ?_)
        refine goes_ Try.func50 (by kernel_rfl) rfl #[.agg #[.int .i64 t5111, .int .i64 t5112], .agg #[.int .i64 a0_0, .int .i64 a0_1]] (by rfl) rfl rfl (by (try simp only [List.map_toArray, List.map_cons, List.map_nil]); first | done | rfl) ?_
        with_reducible refine (ratio_Cmp.calls t5111 t5112 a0_0 a0_1 t5196 _ A45.out).mono ?_
        rintro e w223 ⟨rfl, hb⟩
        refine ⟨_, rfl, ?_⟩
        have n0_ := Aside0.mk (blk_below (g := gb4806) (o := .cells #[.int .i64 a0_0, .int .i64 a0_1] 57 (0, 0)) (by exact BK4806.out) hb)
        have n1_ := Aside0.mk (blk_below (g := gb4807) (o := .cells #[.int .i64 a1_0, .int .i64 a1_1] 57 (0, 0)) (by exact BK4807.out) hb)
        have n2_ := Aside0.mk (blk_below (g := gb5114) (o := .cells #[.int .i64 t5111, .int .i64 t5112] 57 (0, 0)) (by exact BK5114.out) hb)
        have n3_ := Aside0.mk (blk_below (g := gb5118) (o := .cells #[.int .i64 t5115, .int .i64 t5116] 57 (0, 0)) (by exact BK5118.out) hb)
        have n4_ := Aside0.mk (blk_below (g := gb5122) (o := .cells #[.int .i64 t5119, .int .i64 t5120] 57 (0, 0)) (by exact BK5122.out) hb)
        have n5_ := Aside0.mk (blk_below (g := gb5126) (o := .cells #[.int .i64 t5123, .int .i64 t5124] 57 (0, 0)) (by exact BK5126.out) hb)
        have n6_ := Aside0.mk (blk_below (g := gb5130) (o := .cells #[.int .i64 t5127, .int .i64 t5128] 57 (0, 0)) (by exact BK5130.out) hb)
        have n7_ := Aside0.mk (blk_below (g := gb5134) (o := .cells #[.int .i64 t5131, .int .i64 t5132] 57 (0, 0)) (by exact BK5134.out) hb)
        have n8_ := Aside0.mk (blk_below (g := gb5138) (o := .cells #[.int .i64 t5135, .int .i64 t5136] 57 (0, 0)) (by exact BK5138.out) hb)
        have n9_ := Aside0.mk (below_step (by repeat (first | (with_reducible first | exact HB.out | apply below_alloc | apply pw_below_drewN | apply below_drew1 | refine below_set ?_ GE4806.out | refine below_set ?_ GE4807.out | refine below_set ?_ GE5114.out | refine below_set ?_ GE5118.out | refine below_set ?_ GE5122.out | refine below_set ?_ GE5126.out | refine below_set ?_ GE5130.out | refine below_set ?_ GE5134.out | refine below_set ?_ GE5138.out) | exact HB.out)) hb)
        clear BK4806 BK4807 BK5114 BK5118 BK5122 BK5126 BK5130 BK5134 BK5138 HB
        have BK4806 := n0_
        have BK4807 := n1_
        have BK5114 := n2_
        have BK5118 := n3_
        have BK5122 := n4_
        have BK5126 := n5_
        have BK5130 := n6_
        have BK5134 := n7_
        have BK5138 := n8_
        have HB := n9_
        clear n0_ n1_ n2_ n3_ n4_ n5_ n6_ n7_ n8_ n9_
        (try clear hb)
        (try clear hb2)
        (try clear hk)
        (try clear hi)
        refine hK.out _ _ ⟨(blk_cell BK5114.out 0).trans rfl, (blk_cell BK5114.out 1).trans rfl, (blk_cell BK4806.out 0).trans rfl, (blk_cell BK4806.out 1).trans rfl, (blk_cell BK4807.out 0).trans rfl, (blk_cell BK4807.out 1).trans rfl⟩ (fun hHeld => ?_)
        clear hK K
        refine norm_ (a' := ?_) ?_ ?_
        rotate_left
        · show Act.put _ (some 139) _ = _
          simp only [Act.put, List.setIfInBounds_toArray, List.set_cons_zero, List.set_cons_succ, i64_w, i32_w]
          rfl
        refine pure_ (i := 23) (N := some 140) (v := ?_) (a' := ?_) (demurragelaw02_RatioLaws.ups 60 134217727) rfl rfl (any_of HT_.out (by kernel_rfl)) (fun _ _ _ h => h) (Or.inl ⟨by rfl, ?_⟩) ?_ ?_
        rotate_left
        · intro w'
          go_simp
          with_reducible rfl
        rotate_left
        · simp only [Act.put, List.setIfInBounds_toArray, List.set_cons_zero, List.set_cons_succ, i64_w, i32_w]
          rfl
        refine pure_ (i := 27) (N := some 144) (v := ?_) (a' := ?_) (demurragelaw02_RatioLaws.ups 60 268435455) rfl rfl (any_of HT_.out (by kernel_rfl)) (fun _ _ _ h => h) (Or.inl ⟨by rfl, ?_⟩) ?_ ?_
        rotate_left
        · intro w'
          go_simp
          with_reducible rfl
        rotate_left
        · simp only [Act.put, List.setIfInBounds_toArray, List.set_cons_zero, List.set_cons_succ, i64_w, i32_w]
          rfl
        refine pure_ (i := 28) (N := some 145) (v := ?_) (a' := ?_) (demurragelaw02_RatioLaws.ups 60 536870911) rfl rfl (any_of HT_.out (by kernel_rfl)) (fun _ _ _ h => h) (Or.inl ⟨by rfl, ?_⟩) ?_ ?_
        rotate_left
        · intro w'
          go_simp
          with_reducible rfl
        rotate_left
        · simp only [Act.put, List.setIfInBounds_toArray, List.set_cons_zero, List.set_cons_succ, i64_w, i32_w]
          rfl
        refine pure_ (i := 29) (N := some 146) (v := ?_) (a' := ?_) (demurragelaw02_RatioLaws.ups 60 1073741823) rfl rfl (any_of HT_.out (by kernel_rfl)) (fun _ _ _ h => h) (Or.inl ⟨by rfl, ?_⟩) ?_ ?_
        rotate_left
        · intro w'
          go_simp
          with_reducible rfl
        rotate_left
        · simp only [Act.put, List.setIfInBounds_toArray, List.set_cons_zero, List.set_cons_succ, i64_w, i32_w]
          rfl
        refine pure_ (i := 30) (N := some 147) (v := ?_) (a' := ?_) (demurragelaw02_RatioLaws.ups 60 2147483647) rfl rfl (any_of HT_.out (by kernel_rfl)) (fun _ _ _ h => h) (Or.inl ⟨by rfl, ?_⟩) ?_ ?_
        rotate_left
        · intro w'
          go_simp
          with_reducible rfl
        rotate_left
        · simp only [Act.put, List.setIfInBounds_toArray, List.set_cons_zero, List.set_cons_succ, i64_w, i32_w]
          rfl
        refine pure_ (i := 31) (N := some 148) (v := ?_) (a' := ?_) (demurragelaw02_RatioLaws.ups 60 4294967295) rfl rfl (any_of HT_.out (by kernel_rfl)) (fun _ _ _ h => h) (Or.inl ⟨by rfl, ?_⟩) ?_ ?_
        rotate_left
        · intro w'
          go_simp
          with_reducible rfl
        rotate_left
        · simp only [Act.put, List.setIfInBounds_toArray, List.set_cons_zero, List.set_cons_succ, i64_w, i32_w]
          rfl
        refine pure_ (i := 32) (N := some 149) (v := ?_) (a' := ?_) (demurragelaw02_RatioLaws.ups 60 8589934591) rfl rfl (any_of HT_.out (by kernel_rfl)) (fun _ _ _ h => h) (Or.inl ⟨by rfl, ?_⟩) ?_ ?_
        rotate_left
        · intro w'
          go_simp
          with_reducible rfl
        rotate_left
        · simp only [Act.put, List.setIfInBounds_toArray, List.set_cons_zero, List.set_cons_succ, i64_w, i32_w]
          rfl
        refine pure_ (i := 33) (N := some 150) (v := ?_) (a' := ?_) (demurragelaw02_RatioLaws.ups 60 17179869183) rfl rfl (any_of HT_.out (by kernel_rfl)) (fun _ _ _ h => h) (Or.inl ⟨by rfl, ?_⟩) ?_ ?_
        rotate_left
        · intro w'
          go_simp
          with_reducible rfl
        rotate_left
        · simp only [Act.put, List.setIfInBounds_toArray, List.set_cons_zero, List.set_cons_succ, i64_w, i32_w]
          rfl
        refine pure_ (i := 34) (N := some 151) (v := ?_) (a' := ?_) (demurragelaw02_RatioLaws.ups 60 34359738367) rfl rfl (any_of HT_.out (by kernel_rfl)) (fun _ _ _ h => h) (Or.inl ⟨by rfl, ?_⟩) ?_ ?_
        rotate_left
        · intro w'
          go_simp
          with_reducible rfl
        rotate_left
        · simp only [Act.put, List.setIfInBounds_toArray, List.set_cons_zero, List.set_cons_succ, i64_w, i32_w]
          rfl
        refine pure_ (i := 35) (N := some 152) (v := undef) (a' := ?_) (demurragelaw02_RatioLaws.ups 60 68719476735) rfl rfl (any_of HT_.out (by kernel_rfl)) (fun _ _ _ h => h) (Or.inr ⟨by rfl, rfl⟩) ?_ ?_
        rotate_left
        · simp only [Act.put, List.setIfInBounds_toArray, List.set_cons_zero, List.set_cons_succ, i64_w, i32_w]
          rfl
        refine pure_ (i := 36) (N := some 153) (v := undef) (a' := ?_) (demurragelaw02_RatioLaws.ups 60 137438953471) rfl rfl (any_of HT_.out (by kernel_rfl)) (fun _ _ _ h => h) (Or.inr ⟨by rfl, rfl⟩) ?_ ?_
        rotate_left
        · simp only [Act.put, List.setIfInBounds_toArray, List.set_cons_zero, List.set_cons_succ, i64_w, i32_w]
          rfl
        refine pure_ (i := 37) (N := some 154) (v := ?_) (a' := ?_) (demurragelaw02_RatioLaws.ups 60 274877906943) rfl rfl (any_of HT_.out (by kernel_rfl)) (fun _ _ _ h => h) (Or.inl ⟨by rfl, ?_⟩) ?_ ?_
        rotate_left
        · intro w'
          go_simp
          with_reducible rfl
        rotate_left
        · simp only [Act.put, List.setIfInBounds_toArray, List.set_cons_zero, List.set_cons_succ, i64_w, i32_w]
          rfl
        refine pure_ (i := 38) (N := some 155) (v := ?_) (a' := ?_) (demurragelaw02_RatioLaws.ups 60 549755813887) rfl rfl (any_of HT_.out (by kernel_rfl)) (fun _ _ _ h => h) (Or.inl ⟨by rfl, ?_⟩) ?_ ?_
        rotate_left
        · intro w'
          go_simp
          with_reducible rfl
        rotate_left
        · simp only [Act.put, List.setIfInBounds_toArray, List.set_cons_zero, List.set_cons_succ, i64_w, i32_w]
          rfl
        refine pure_ (i := 39) (N := some 156) (v := ?_) (a' := ?_) (demurragelaw02_RatioLaws.ups 60 1099511627775) rfl rfl (any_of HT_.out (by kernel_rfl)) (fun _ _ _ h => h) (Or.inl ⟨by rfl, ?_⟩) ?_ ?_
        rotate_left
        · intro w'
          go_simp
          with_reducible rfl
        rotate_left
        · simp only [Act.put, List.setIfInBounds_toArray, List.set_cons_zero, List.set_cons_succ, i64_w, i32_w]
          rfl
        refine take_ (i := 40) (N := some 157) (v := ?_) (a' := ?_) (demurragelaw02_RatioLaws.ups 60 2199023255551) rfl rfl (take_ofW HT_.out HW_.out (by kernel_rfl)) (fun _ _ _ h => h) (Or.inl ⟨by rfl, ?_⟩) hHeld ?_ ?_
        rotate_left
        · rintro w' ⟨s0, s1, s2, s3, s4, s5⟩
          go_simp
          with_reducible rfl
        rotate_left
        · simp only [Act.put, List.setIfInBounds_toArray, List.set_cons_zero, List.set_cons_succ, i64_w, i32_w]
          rfl
        refine take_ (i := 41) (N := some 158) (v := ?_) (a' := ?_) (demurragelaw02_RatioLaws.ups 60 4398046511103) rfl rfl (take_ofW HT_.out HW_.out (by kernel_rfl)) (fun _ _ _ h => h) (Or.inl ⟨by rfl, ?_⟩) hHeld ?_ ?_
        rotate_left
        · rintro w' ⟨s0, s1, s2, s3, s4, s5⟩
          go_simp
          with_reducible rfl
        rotate_left
        · simp only [Act.put, List.setIfInBounds_toArray, List.set_cons_zero, List.set_cons_succ, i64_w, i32_w]
          rfl
        refine take_ (i := 43) (N := some 160) (v := ?_) (a' := ?_) (demurragelaw02_RatioLaws.ups 60 13194139533311) rfl rfl (take_ofW HT_.out HW_.out (by kernel_rfl)) (fun _ _ _ h => h) (Or.inl ⟨by rfl, ?_⟩) hHeld ?_ ?_
        rotate_left
        · rintro w' ⟨s0, s1, s2, s3, s4, s5⟩
          go_simp
          with_reducible rfl
        rotate_left
        · simp only [Act.put, List.setIfInBounds_toArray, List.set_cons_zero, List.set_cons_succ, i64_w, i32_w]
          rfl
        refine take_ (i := 44) (N := some 161) (v := ?_) (a' := ?_) (demurragelaw02_RatioLaws.ups 60 30786325577727) rfl rfl (take_ofW HT_.out HW_.out (by kernel_rfl)) (fun _ _ _ h => h) (Or.inl ⟨by rfl, ?_⟩) hHeld ?_ ?_
        rotate_left
        · rintro w' ⟨s0, s1, s2, s3, s4, s5⟩
          go_simp
          with_reducible rfl
        rotate_left
        · simp only [Act.put, List.setIfInBounds_toArray, List.set_cons_zero, List.set_cons_succ, i64_w, i32_w]
          rfl
        refine one_ (i := 42) (N := some 159) (demurragelaw02_RatioLaws.ups 60 35184372088831) rfl rfl (one_of HT_.out (by kernel_rfl)) (by decide) (fun K hK => ?_)
        refine goes_ Try.func50 (by kernel_rfl) rfl #[.agg #[.int .i64 a0_0, .int .i64 a0_1], .agg #[.int .i64 a1_0, .int .i64 a1_1]] (by rfl) rfl rfl (by (try simp only [List.map_toArray, List.map_cons, List.map_nil]); first | done | rfl) ?_
        with_reducible refine (ratio_Cmp.calls a0_0 a0_1 a1_0 a1_1 t5198 _ A139.out).mono ?_
        rintro e w224 ⟨rfl, hb⟩
        refine ⟨_, rfl, ?_⟩
        have n0_ := Aside0.mk (blk_below (g := gb4806) (o := .cells #[.int .i64 a0_0, .int .i64 a0_1] 57 (0, 0)) (by exact BK4806.out) hb)
        have n1_ := Aside0.mk (blk_below (g := gb4807) (o := .cells #[.int .i64 a1_0, .int .i64 a1_1] 57 (0, 0)) (by exact BK4807.out) hb)
        have n2_ := Aside0.mk (blk_below (g := gb5114) (o := .cells #[.int .i64 t5111, .int .i64 t5112] 57 (0, 0)) (by exact BK5114.out) hb)
        have n3_ := Aside0.mk (blk_below (g := gb5118) (o := .cells #[.int .i64 t5115, .int .i64 t5116] 57 (0, 0)) (by exact BK5118.out) hb)
        have n4_ := Aside0.mk (blk_below (g := gb5122) (o := .cells #[.int .i64 t5119, .int .i64 t5120] 57 (0, 0)) (by exact BK5122.out) hb)
        have n5_ := Aside0.mk (blk_below (g := gb5126) (o := .cells #[.int .i64 t5123, .int .i64 t5124] 57 (0, 0)) (by exact BK5126.out) hb)
        have n6_ := Aside0.mk (blk_below (g := gb5130) (o := .cells #[.int .i64 t5127, .int .i64 t5128] 57 (0, 0)) (by exact BK5130.out) hb)
        have n7_ := Aside0.mk (blk_below (g := gb5134) (o := .cells #[.int .i64 t5131, .int .i64 t5132] 57 (0, 0)) (by exact BK5134.out) hb)
        have n8_ := Aside0.mk (blk_below (g := gb5138) (o := .cells #[.int .i64 t5135, .int .i64 t5136] 57 (0, 0)) (by exact BK5138.out) hb)
        have n9_ := Aside0.mk (below_step (by repeat (first | (with_reducible first | exact HB.out | apply below_alloc | apply pw_below_drewN | apply below_drew1 | refine below_set ?_ GE4806.out | refine below_set ?_ GE4807.out | refine below_set ?_ GE5114.out | refine below_set ?_ GE5118.out | refine below_set ?_ GE5122.out | refine below_set ?_ GE5126.out | refine below_set ?_ GE5130.out | refine below_set ?_ GE5134.out | refine below_set ?_ GE5138.out) | exact HB.out)) hb)
        clear BK4806 BK4807 BK5114 BK5118 BK5122 BK5126 BK5130 BK5134 BK5138 HB
        have BK4806 := n0_
        have BK4807 := n1_
        have BK5114 := n2_
        have BK5118 := n3_
        have BK5122 := n4_
        have BK5126 := n5_
        have BK5130 := n6_
        have BK5134 := n7_
        have BK5138 := n8_
        have HB := n9_
        clear n0_ n1_ n2_ n3_ n4_ n5_ n6_ n7_ n8_ n9_
        (try clear hb)
        (try clear hb2)
        (try clear hk)
        (try clear hi)
        refine hK.out _ _ ⟨(blk_cell BK5114.out 0).trans rfl, (blk_cell BK5114.out 1).trans rfl, (blk_cell BK4806.out 0).trans rfl, (blk_cell BK4806.out 1).trans rfl, (blk_cell BK4807.out 0).trans rfl, (blk_cell BK4807.out 1).trans rfl⟩ (fun hHeld => ?_)
        clear hK K
        refine norm_ (a' := ?_) ?_ ?_
        rotate_left
        · show Act.put _ (some 159) _ = _
          simp only [Act.put, List.setIfInBounds_toArray, List.set_cons_zero, List.set_cons_succ, i64_w, i32_w]
          rfl
        refine one_ (i := 45) (N := some 162) (demurragelaw02_RatioLaws.ups 60 70368744177663) rfl rfl (one_of HT_.out (by kernel_rfl)) (by decide) (fun K hK => ?_)
        refine goes_ Try.func50 (by kernel_rfl) rfl #[.agg #[.int .i64 a1_0, .int .i64 a1_1], .agg #[.int .i64 a0_0, .int .i64 a0_1]] (by rfl) rfl rfl (by (try simp only [List.map_toArray, List.map_cons, List.map_nil]); first | done | rfl) ?_
        with_reducible refine (ratio_Cmp.calls a1_0 a1_1 a0_0 a0_1 t5199 _ A140.out).mono ?_
        rintro e w225 ⟨rfl, hb⟩
        refine ⟨_, rfl, ?_⟩
        have n0_ := Aside0.mk (blk_below (g := gb4806) (o := .cells #[.int .i64 a0_0, .int .i64 a0_1] 57 (0, 0)) (by exact BK4806.out) hb)
        have n1_ := Aside0.mk (blk_below (g := gb4807) (o := .cells #[.int .i64 a1_0, .int .i64 a1_1] 57 (0, 0)) (by exact BK4807.out) hb)
        have n2_ := Aside0.mk (blk_below (g := gb5114) (o := .cells #[.int .i64 t5111, .int .i64 t5112] 57 (0, 0)) (by exact BK5114.out) hb)
        have n3_ := Aside0.mk (blk_below (g := gb5118) (o := .cells #[.int .i64 t5115, .int .i64 t5116] 57 (0, 0)) (by exact BK5118.out) hb)
        have n4_ := Aside0.mk (blk_below (g := gb5122) (o := .cells #[.int .i64 t5119, .int .i64 t5120] 57 (0, 0)) (by exact BK5122.out) hb)
        have n5_ := Aside0.mk (blk_below (g := gb5126) (o := .cells #[.int .i64 t5123, .int .i64 t5124] 57 (0, 0)) (by exact BK5126.out) hb)
        have n6_ := Aside0.mk (blk_below (g := gb5130) (o := .cells #[.int .i64 t5127, .int .i64 t5128] 57 (0, 0)) (by exact BK5130.out) hb)
        have n7_ := Aside0.mk (blk_below (g := gb5134) (o := .cells #[.int .i64 t5131, .int .i64 t5132] 57 (0, 0)) (by exact BK5134.out) hb)
        have n8_ := Aside0.mk (blk_below (g := gb5138) (o := .cells #[.int .i64 t5135, .int .i64 t5136] 57 (0, 0)) (by exact BK5138.out) hb)
        have n9_ := Aside0.mk (below_step (by repeat (first | (with_reducible first | exact HB.out | apply below_alloc | apply pw_below_drewN | apply below_drew1 | refine below_set ?_ GE4806.out | refine below_set ?_ GE4807.out | refine below_set ?_ GE5114.out | refine below_set ?_ GE5118.out | refine below_set ?_ GE5122.out | refine below_set ?_ GE5126.out | refine below_set ?_ GE5130.out | refine below_set ?_ GE5134.out | refine below_set ?_ GE5138.out) | exact HB.out)) hb)
        clear BK4806 BK4807 BK5114 BK5118 BK5122 BK5126 BK5130 BK5134 BK5138 HB
        have BK4806 := n0_
        have BK4807 := n1_
        have BK5114 := n2_
        have BK5118 := n3_
        have BK5122 := n4_
        have BK5126 := n5_
        have BK5130 := n6_
        have BK5134 := n7_
        have BK5138 := n8_
        have HB := n9_
        clear n0_ n1_ n2_ n3_ n4_ n5_ n6_ n7_ n8_ n9_
        (try clear hb)
        (try clear hb2)
        (try clear hk)
        (try clear hi)
        refine hK.out _ _ ⟨(blk_cell BK5114.out 0).trans rfl, (blk_cell BK5114.out 1).trans rfl, (blk_cell BK4806.out 0).trans rfl, (blk_cell BK4806.out 1).trans rfl, (blk_cell BK4807.out 0).trans rfl, (blk_cell BK4807.out 1).trans rfl⟩ (fun hHeld => ?_)
        clear hK K
        refine norm_ (a' := ?_) ?_ ?_
        rotate_left
        · show Act.put _ (some 162) _ = _
          simp only [Act.put, List.setIfInBounds_toArray, List.set_cons_zero, List.set_cons_succ, i64_w, i32_w]
          rfl
        refine pure_ (i := 46) (N := some 163) (v := ?_) (a' := ?_) (demurragelaw02_RatioLaws.ups 60 140737488355327) rfl rfl (any_of HT_.out (by kernel_rfl)) (fun _ _ _ h => h) (Or.inl ⟨by rfl, ?_⟩) ?_ ?_
        rotate_left
        · intro w'
          go_simp
          with_reducible rfl
        rotate_left
        · simp only [Act.put, List.setIfInBounds_toArray, List.set_cons_zero, List.set_cons_succ, i64_w, i32_w]
          rfl
        refine pure_ (i := 47) (N := some 164) (v := ?_) (a' := ?_) (demurragelaw02_RatioLaws.ups 60 281474976710655) rfl rfl (any_of HT_.out (by kernel_rfl)) (fun _ _ _ h => h) (Or.inl ⟨by rfl, ?_⟩) ?_ ?_
        rotate_left
        · intro w'
          go_simp
          with_reducible rfl
        rotate_left
        · simp only [Act.put, List.setIfInBounds_toArray, List.set_cons_zero, List.set_cons_succ, i64_w, i32_w]
          rfl
        refine pure_ (i := 48) (N := some 165) (v := ?_) (a' := ?_) (demurragelaw02_RatioLaws.ups 60 562949953421311) rfl rfl (any_of HT_.out (by kernel_rfl)) (fun _ _ _ h => h) (Or.inl ⟨by rfl, ?_⟩) ?_ ?_
        rotate_left
        · intro w'
          go_simp
          with_reducible rfl
        rotate_left
        · simp only [Act.put, List.setIfInBounds_toArray, List.set_cons_zero, List.set_cons_succ, i64_w, i32_w]
          rfl
        refine pure_ (i := 49) (N := some 166) (v := ?_) (a' := ?_) (demurragelaw02_RatioLaws.ups 60 1125899906842623) rfl rfl (any_of HT_.out (by kernel_rfl)) (fun _ _ _ h => h) (Or.inl ⟨by rfl, ?_⟩) ?_ ?_
        rotate_left
        · intro w'
          go_simp
          with_reducible rfl
        rotate_left
        · simp only [Act.put, List.setIfInBounds_toArray, List.set_cons_zero, List.set_cons_succ, i64_w, i32_w]
          rfl
        refine take_ (i := 50) (N := some 167) (v := ?_) (a' := ?_) (demurragelaw02_RatioLaws.ups 60 2251799813685247) rfl rfl (take_ofW HT_.out HW_.out (by kernel_rfl)) (fun _ _ _ h => h) (Or.inl ⟨by rfl, ?_⟩) hHeld ?_ ?_
        rotate_left
        · rintro w' ⟨s0, s1, s2, s3, s4, s5⟩
          go_simp
          with_reducible rfl
        rotate_left
        · simp only [Act.put, List.setIfInBounds_toArray, List.set_cons_zero, List.set_cons_succ, i64_w, i32_w]
          rfl
        refine take_ (i := 51) (N := some 168) (v := ?_) (a' := ?_) (demurragelaw02_RatioLaws.ups 60 4503599627370495) rfl rfl (take_ofW HT_.out HW_.out (by kernel_rfl)) (fun _ _ _ h => h) (Or.inl ⟨by rfl, ?_⟩) hHeld ?_ ?_
        rotate_left
        · rintro w' ⟨s0, s1, s2, s3, s4, s5⟩
          go_simp
          with_reducible rfl
        rotate_left
        · simp only [Act.put, List.setIfInBounds_toArray, List.set_cons_zero, List.set_cons_succ, i64_w, i32_w]
          rfl
        refine take_ (i := 54) (N := some 171) (v := ?_) (a' := ?_) (demurragelaw02_RatioLaws.ups 60 22517998136852479) rfl rfl (take_ofW HT_.out HW_.out (by kernel_rfl)) (fun _ _ _ h => h) (Or.inl ⟨by rfl, ?_⟩) hHeld ?_ ?_
        rotate_left
        · rintro w' ⟨s0, s1, s2, s3, s4, s5⟩
          go_simp
          with_reducible rfl
        rotate_left
        · simp only [Act.put, List.setIfInBounds_toArray, List.set_cons_zero, List.set_cons_succ, i64_w, i32_w]
          rfl
        refine take_ (i := 55) (N := some 172) (v := ?_) (a' := ?_) (demurragelaw02_RatioLaws.ups 60 58546795155816447) rfl rfl (take_ofW HT_.out HW_.out (by kernel_rfl)) (fun _ _ _ h => h) (Or.inl ⟨by rfl, ?_⟩) hHeld ?_ ?_
        rotate_left
        · rintro w' ⟨s0, s1, s2, s3, s4, s5⟩
          go_simp
          with_reducible rfl
        rotate_left
        · simp only [Act.put, List.setIfInBounds_toArray, List.set_cons_zero, List.set_cons_succ, i64_w, i32_w]
          rfl
        refine pure_ (i := 56) (N := some 173) (v := ?_) (a' := ?_) (demurragelaw02_RatioLaws.ups 60 130604389193744383) rfl rfl (any_of HT_.out (by kernel_rfl)) (fun _ _ _ h => h) (Or.inl ⟨by rfl, ?_⟩) ?_ ?_
        rotate_left
        · intro w'
          go_simp
          with_reducible rfl
        rotate_left
        · simp only [Act.put, List.setIfInBounds_toArray, List.set_cons_zero, List.set_cons_succ, i64_w, i32_w]
          rfl
        refine one_ (i := 52) (N := some 169) (demurragelaw02_RatioLaws.ups 60 135107988821114879) rfl rfl (one_of HT_.out (by kernel_rfl)) (by decide) (fun K hK => ?_)
        refine goes_ Try.func50 (by kernel_rfl) rfl #[.agg #[.int .i64 a0_0, .int .i64 a0_1], .agg #[.int .i64 a1_0, .int .i64 a1_1]] (by rfl) rfl rfl (by (try simp only [List.map_toArray, List.map_cons, List.map_nil]); first | done | rfl) ?_
        with_reducible refine (ratio_Cmp.calls a0_0 a0_1 a1_0 a1_1 t5200 _ A53.out).mono ?_
        rintro e w226 ⟨rfl, hb⟩
        refine ⟨_, rfl, ?_⟩
        have n0_ := Aside0.mk (blk_below (g := gb4806) (o := .cells #[.int .i64 a0_0, .int .i64 a0_1] 57 (0, 0)) (by exact BK4806.out) hb)
        have n1_ := Aside0.mk (blk_below (g := gb4807) (o := .cells #[.int .i64 a1_0, .int .i64 a1_1] 57 (0, 0)) (by exact BK4807.out) hb)
        have n2_ := Aside0.mk (blk_below (g := gb5114) (o := .cells #[.int .i64 t5111, .int .i64 t5112] 57 (0, 0)) (by exact BK5114.out) hb)
        have n3_ := Aside0.mk (blk_below (g := gb5118) (o := .cells #[.int .i64 t5115, .int .i64 t5116] 57 (0, 0)) (by exact BK5118.out) hb)
        have n4_ := Aside0.mk (blk_below (g := gb5122) (o := .cells #[.int .i64 t5119, .int .i64 t5120] 57 (0, 0)) (by exact BK5122.out) hb)
        have n5_ := Aside0.mk (blk_below (g := gb5126) (o := .cells #[.int .i64 t5123, .int .i64 t5124] 57 (0, 0)) (by exact BK5126.out) hb)
        have n6_ := Aside0.mk (blk_below (g := gb5130) (o := .cells #[.int .i64 t5127, .int .i64 t5128] 57 (0, 0)) (by exact BK5130.out) hb)
        have n7_ := Aside0.mk (blk_below (g := gb5134) (o := .cells #[.int .i64 t5131, .int .i64 t5132] 57 (0, 0)) (by exact BK5134.out) hb)
        have n8_ := Aside0.mk (blk_below (g := gb5138) (o := .cells #[.int .i64 t5135, .int .i64 t5136] 57 (0, 0)) (by exact BK5138.out) hb)
        have n9_ := Aside0.mk (below_step (by repeat (first | (with_reducible first | exact HB.out | apply below_alloc | apply pw_below_drewN | apply below_drew1 | refine below_set ?_ GE4806.out | refine below_set ?_ GE4807.out | refine below_set ?_ GE5114.out | refine below_set ?_ GE5118.out | refine below_set ?_ GE5122.out | refine below_set ?_ GE5126.out | refine below_set ?_ GE5130.out | refine below_set ?_ GE5134.out | refine below_set ?_ GE5138.out) | exact HB.out)) hb)
        clear BK4806 BK4807 BK5114 BK5118 BK5122 BK5126 BK5130 BK5134 BK5138 HB
        have BK4806 := n0_
        have BK4807 := n1_
        have BK5114 := n2_
        have BK5118 := n3_
        have BK5122 := n4_
        have BK5126 := n5_
        have BK5130 := n6_
        have BK5134 := n7_
        have BK5138 := n8_
        have HB := n9_
        clear n0_ n1_ n2_ n3_ n4_ n5_ n6_ n7_ n8_ n9_
        (try clear hb)
        (try clear hb2)
        (try clear hk)
        (try clear hi)
        refine hK.out _ _ ⟨(blk_cell BK5114.out 0).trans rfl, (blk_cell BK5114.out 1).trans rfl, (blk_cell BK4806.out 0).trans rfl, (blk_cell BK4806.out 1).trans rfl, (blk_cell BK4807.out 0).trans rfl, (blk_cell BK4807.out 1).trans rfl⟩ (fun hHeld => ?_)
        clear hK K
        refine norm_ (a' := ?_) ?_ ?_
        rotate_left
        · show Act.put _ (some 169) _ = _
          simp only [Act.put, List.setIfInBounds_toArray, List.set_cons_zero, List.set_cons_succ, i64_w, i32_w]
          rfl
        refine pure_ (i := 53) (N := some 170) (v := ?_) (a' := ?_) (demurragelaw02_RatioLaws.ups 60 144115188075855871) rfl rfl (any_of HT_.out (by kernel_rfl)) (fun _ _ _ h => h) (Or.inl ⟨by rfl, ?_⟩) ?_ ?_
        rotate_left
        · intro w'
          go_simp
          with_reducible rfl
        rotate_left
        · simp only [Act.put, List.setIfInBounds_toArray, List.set_cons_zero, List.set_cons_succ, i64_w, i32_w]
          rfl
        refine pure_ (i := 57) (N := some 174) (v := ?_) (a' := ?_) (demurragelaw02_RatioLaws.ups 60 288230376151711743) rfl rfl (any_of HT_.out (by kernel_rfl)) (fun _ _ _ h => h) (Or.inl ⟨by rfl, ?_⟩) ?_ ?_
        rotate_left
        · intro w'
          go_simp
          with_reducible rfl
        rotate_left
        · simp only [Act.put, List.setIfInBounds_toArray, List.set_cons_zero, List.set_cons_succ, i64_w, i32_w]
          rfl
        refine pure_ (i := 58) (N := some 175) (v := ?_) (a' := ?_) (demurragelaw02_RatioLaws.ups 60 576460752303423487) rfl rfl (any_of HT_.out (by kernel_rfl)) (fun _ _ _ h => h) (Or.inl ⟨by rfl, ?_⟩) ?_ ?_
        rotate_left
        · intro w'
          go_simp
          with_reducible rfl
        rotate_left
        · simp only [Act.put, List.setIfInBounds_toArray, List.set_cons_zero, List.set_cons_succ, i64_w, i32_w]
          rfl
        refine pure_ (i := 59) (N := some 4) (v := ?_) (a' := ?_) (demurragelaw02_RatioLaws.ups 60 1152921504606846975) rfl rfl (any_of HT_.out (by kernel_rfl)) (fun _ _ _ h => h) (Or.inl ⟨by rfl, ?_⟩) ?_ ?_
        rotate_left
        · intro w'
          go_simp
          with_reducible rfl
        rotate_left
        · simp only [Act.put, List.setIfInBounds_toArray, List.set_cons_zero, List.set_cons_succ, i64_w, i32_w]
          rfl
        refine done_ (done_of HT_.out (by kernel_rfl)) ?_
        try go_wp2
        go_ret
        exact ⟨by rfl, by repeat (first | (with_reducible first | exact HB.out | apply below_alloc | apply pw_below_drewN | apply below_drew1 | refine below_set ?_ GE4806.out | refine below_set ?_ GE4807.out | refine below_set ?_ GE5114.out | refine below_set ?_ GE5118.out | refine below_set ?_ GE5122.out | refine below_set ?_ GE5126.out | refine below_set ?_ GE5130.out | refine below_set ?_ GE5134.out | refine below_set ?_ GE5138.out) | exact HB.out)⟩
      · refine start_ (n := 60) (S := fun w' => w'.cell? ⟨gb5114, 0, none⟩ = some (.int .i64 t5111) ∧ w'.cell? ⟨gb5114, 1, none⟩ = some (.int .i64 t5112) ∧ w'.cell? ⟨gb4806, 0, none⟩ = some (.int .i64 a0_0) ∧ w'.cell? ⟨gb4806, 1, none⟩ = some (.int .i64 a0_1) ∧ w'.cell? ⟨gb4807, 0, none⟩ = some (.int .i64 a1_0) ∧ w'.cell? ⟨gb4807, 1, none⟩ = some (.int .i64 a1_1) ∧ w'.cell? ⟨gb5122, 0, none⟩ = some (.int .i64 t5119) ∧ w'.cell? ⟨gb5122, 1, none⟩ = some (.int .i64 t5120)) (ds := []) (demurragelaw02_RatioLaws.ups 60 0) (by kernel_rfl) rfl rfl ⟨(blk_cell BK5114.out 0).trans rfl, (blk_cell BK5114.out 1).trans rfl, (blk_cell BK4806.out 0).trans rfl, (blk_cell BK4806.out 1).trans rfl, (blk_cell BK4807.out 0).trans rfl, (blk_cell BK4807.out 1).trans rfl, (blk_cell BK5122.out 0).trans rfl, (blk_cell BK5122.out 1).trans rfl⟩ (fun hHeld => ?_); refine with_tabW demurragelaw02_RatioLaws.tab13 demurragelaw02_RatioLaws.bits13 (fun HT_ HW_ => ?_)
        generalize w129.drew = w130 at BK4806 BK4807 BK5114 BK5118 BK5122 BK5126 BK5130 BK5134 BK5138 HB hHeld ⊢
        refine pure_ (i := 0) (N := some 117) (v := ?_) (a' := ?_) (demurragelaw02_RatioLaws.ups 60 1) rfl rfl (any_of HT_.out (by kernel_rfl)) (fun _ _ _ h => h) (Or.inl ⟨by rfl, ?_⟩) ?_ ?_
        rotate_left
        · intro w'
          go_simp
          with_reducible rfl
        rotate_left
        · simp only [Act.put, List.setIfInBounds_toArray, List.set_cons_zero, List.set_cons_succ, i64_w, i32_w]
          rfl
        refine pure_ (i := 1) (N := some 118) (v := ?_) (a' := ?_) (demurragelaw02_RatioLaws.ups 60 3) rfl rfl (any_of HT_.out (by kernel_rfl)) (fun _ _ _ h => h) (Or.inl ⟨by rfl, ?_⟩) ?_ ?_
        rotate_left
        · intro w'
          go_simp
          with_reducible rfl
        rotate_left
        · simp only [Act.put, List.setIfInBounds_toArray, List.set_cons_zero, List.set_cons_succ, i64_w, i32_w]
          rfl
        refine pure_ (i := 2) (N := some 119) (v := ?_) (a' := ?_) (demurragelaw02_RatioLaws.ups 60 7) rfl rfl (any_of HT_.out (by kernel_rfl)) (fun _ _ _ h => h) (Or.inl ⟨by rfl, ?_⟩) ?_ ?_
        rotate_left
        · intro w'
          go_simp
          with_reducible rfl
        rotate_left
        · simp only [Act.put, List.setIfInBounds_toArray, List.set_cons_zero, List.set_cons_succ, i64_w, i32_w]
          rfl
        refine pure_ (i := 3) (N := some 120) (v := ?_) (a' := ?_) (demurragelaw02_RatioLaws.ups 60 15) rfl rfl (any_of HT_.out (by kernel_rfl)) (fun _ _ _ h => h) (Or.inl ⟨by rfl, ?_⟩) ?_ ?_
        rotate_left
        · intro w'
          go_simp
          with_reducible rfl
        rotate_left
        · simp only [Act.put, List.setIfInBounds_toArray, List.set_cons_zero, List.set_cons_succ, i64_w, i32_w]
          rfl
        refine pure_ (i := 4) (N := some 121) (v := ?_) (a' := ?_) (demurragelaw02_RatioLaws.ups 60 31) rfl rfl (any_of HT_.out (by kernel_rfl)) (fun _ _ _ h => h) (Or.inl ⟨by rfl, ?_⟩) ?_ ?_
        rotate_left
        · intro w'
          go_simp
          with_reducible rfl
        rotate_left
        · simp only [Act.put, List.setIfInBounds_toArray, List.set_cons_zero, List.set_cons_succ, i64_w, i32_w]
          rfl
        refine take_ (i := 5) (N := some 122) (v := ?_) (a' := ?_) (demurragelaw02_RatioLaws.ups 60 63) rfl rfl (take_ofW HT_.out HW_.out (by kernel_rfl)) (fun _ _ _ h => h) (Or.inl ⟨by rfl, ?_⟩) hHeld ?_ ?_
        rotate_left
        · rintro w' ⟨s0, s1, s2, s3, s4, s5, s6, s7⟩
          go_simp
          with_reducible rfl
        rotate_left
        · simp only [Act.put, List.setIfInBounds_toArray, List.set_cons_zero, List.set_cons_succ, i64_w, i32_w]
          rfl
        refine one_ (i := 6) (N := some 123) (demurragelaw02_RatioLaws.ups 60 127) rfl rfl (one_of HT_.out (by kernel_rfl)) (by decide) (fun K hK => ?_)
        refine goes_ Try.func44 (by kernel_rfl) rfl #[.agg #[.int .i64 t5111, .int .i64 t5112]] (by rfl) rfl rfl (by (try simp only [List.map_toArray, List.map_cons, List.map_nil]); first | done | rfl) ?_
        with_reducible refine (demurrageref02_Right.calls kj3 t5111 t5112 true _ A39.out).mono ?_
        rintro e w131 ⟨rfl, hb⟩
        refine ⟨_, rfl, ?_⟩
        have n0_ := Aside0.mk (blk_below (g := gb4806) (o := .cells #[.int .i64 a0_0, .int .i64 a0_1] 57 (0, 0)) (by exact BK4806.out) hb)
        have n1_ := Aside0.mk (blk_below (g := gb4807) (o := .cells #[.int .i64 a1_0, .int .i64 a1_1] 57 (0, 0)) (by exact BK4807.out) hb)
        have n2_ := Aside0.mk (blk_below (g := gb5114) (o := .cells #[.int .i64 t5111, .int .i64 t5112] 57 (0, 0)) (by exact BK5114.out) hb)
        have n3_ := Aside0.mk (blk_below (g := gb5118) (o := .cells #[.int .i64 t5115, .int .i64 t5116] 57 (0, 0)) (by exact BK5118.out) hb)
        have n4_ := Aside0.mk (blk_below (g := gb5122) (o := .cells #[.int .i64 t5119, .int .i64 t5120] 57 (0, 0)) (by exact BK5122.out) hb)
        have n5_ := Aside0.mk (blk_below (g := gb5126) (o := .cells #[.int .i64 t5123, .int .i64 t5124] 57 (0, 0)) (by exact BK5126.out) hb)
        have n6_ := Aside0.mk (blk_below (g := gb5130) (o := .cells #[.int .i64 t5127, .int .i64 t5128] 57 (0, 0)) (by exact BK5130.out) hb)
        have n7_ := Aside0.mk (blk_below (g := gb5134) (o := .cells #[.int .i64 t5131, .int .i64 t5132] 57 (0, 0)) (by exact BK5134.out) hb)
        have n8_ := Aside0.mk (blk_below (g := gb5138) (o := .cells #[.int .i64 t5135, .int .i64 t5136] 57 (0, 0)) (by exact BK5138.out) hb)
        have n9_ := Aside0.mk (below_step (by repeat (first | (with_reducible first | exact HB.out | apply below_alloc | apply pw_below_drewN | apply below_drew1 | refine below_set ?_ GE4806.out | refine below_set ?_ GE4807.out | refine below_set ?_ GE5114.out | refine below_set ?_ GE5118.out | refine below_set ?_ GE5122.out | refine below_set ?_ GE5126.out | refine below_set ?_ GE5130.out | refine below_set ?_ GE5134.out | refine below_set ?_ GE5138.out) | exact HB.out)) hb)
        clear BK4806 BK4807 BK5114 BK5118 BK5122 BK5126 BK5130 BK5134 BK5138 HB
        have BK4806 := n0_
        have BK4807 := n1_
        have BK5114 := n2_
        have BK5118 := n3_
        have BK5122 := n4_
        have BK5126 := n5_
        have BK5130 := n6_
        have BK5134 := n7_
        have BK5138 := n8_
        have HB := n9_
        clear n0_ n1_ n2_ n3_ n4_ n5_ n6_ n7_ n8_ n9_
        (try clear hb)
        (try clear hb2)
        (try clear hk)
        (try clear hi)
        refine hK.out _ _ ⟨(blk_cell BK5114.out 0).trans rfl, (blk_cell BK5114.out 1).trans rfl, (blk_cell BK4806.out 0).trans rfl, (blk_cell BK4806.out 1).trans rfl, (blk_cell BK4807.out 0).trans rfl, (blk_cell BK4807.out 1).trans rfl, (blk_cell BK5122.out 0).trans rfl, (blk_cell BK5122.out 1).trans rfl⟩ (fun hHeld => ?_)
        clear hK K
        refine norm_ (a' := ?_) ?_ ?_
        rotate_left
        · show Act.put _ (some 123) _ = _
          simp only [Act.put, List.setIfInBounds_toArray, List.set_cons_zero, List.set_cons_succ, i64_w, i32_w]
          rfl
        refine pure_ (i := 7) (N := some 124) (v := ?_) (a' := ?_) (demurragelaw02_RatioLaws.ups 60 255) rfl rfl (any_of HT_.out (by kernel_rfl)) (fun _ _ _ h => h) (Or.inl ⟨by rfl, ?_⟩) ?_ ?_
        rotate_left
        · intro w'
          go_simp
          with_reducible rfl
        rotate_left
        · simp only [Act.put, List.setIfInBounds_toArray, List.set_cons_zero, List.set_cons_succ, i64_w, i32_w]
          rfl
        refine take_ (i := 8) (N := some 125) (v := ?_) (a' := ?_) (demurragelaw02_RatioLaws.ups 60 511) rfl rfl (take_ofW HT_.out HW_.out (by kernel_rfl)) (fun _ _ _ h => h) (Or.inl ⟨by rfl, ?_⟩) hHeld ?_ ?_
        rotate_left
        · rintro w' ⟨s0, s1, s2, s3, s4, s5, s6, s7⟩
          go_simp
          with_reducible rfl
        rotate_left
        · simp only [Act.put, List.setIfInBounds_toArray, List.set_cons_zero, List.set_cons_succ, i64_w, i32_w]
          rfl
        refine take_ (i := 9) (N := some 126) (v := ?_) (a' := ?_) (demurragelaw02_RatioLaws.ups 60 1023) rfl rfl (take_ofW HT_.out HW_.out (by kernel_rfl)) (fun _ _ _ h => h) (Or.inl ⟨by rfl, ?_⟩) hHeld ?_ ?_
        rotate_left
        · rintro w' ⟨s0, s1, s2, s3, s4, s5, s6, s7⟩
          go_simp
          with_reducible rfl
        rotate_left
        · simp only [Act.put, List.setIfInBounds_toArray, List.set_cons_zero, List.set_cons_succ, i64_w, i32_w]
          rfl
        refine one_ (i := 10) (N := some 127) (demurragelaw02_RatioLaws.ups 60 2047) rfl rfl (one_of HT_.out (by kernel_rfl)) (by decide) (fun K hK => ?_)
        refine goes_ Try.func50 (by kernel_rfl) rfl #[.agg #[.int .i64 t5111, .int .i64 t5112], .agg #[.int .i64 a0_0, .int .i64 a0_1]] (by rfl) rfl rfl (by (try simp only [List.map_toArray, List.map_cons, List.map_nil]); first | done | rfl) ?_
        with_reducible refine (ratio_Cmp.calls t5111 t5112 a0_0 a0_1 t5194 _ A41.out).mono ?_
        rintro e w132 ⟨rfl, hb⟩
        refine ⟨_, rfl, ?_⟩
        have n0_ := Aside0.mk (blk_below (g := gb4806) (o := .cells #[.int .i64 a0_0, .int .i64 a0_1] 57 (0, 0)) (by exact BK4806.out) hb)
        have n1_ := Aside0.mk (blk_below (g := gb4807) (o := .cells #[.int .i64 a1_0, .int .i64 a1_1] 57 (0, 0)) (by exact BK4807.out) hb)
        have n2_ := Aside0.mk (blk_below (g := gb5114) (o := .cells #[.int .i64 t5111, .int .i64 t5112] 57 (0, 0)) (by exact BK5114.out) hb)
        have n3_ := Aside0.mk (blk_below (g := gb5118) (o := .cells #[.int .i64 t5115, .int .i64 t5116] 57 (0, 0)) (by exact BK5118.out) hb)
        have n4_ := Aside0.mk (blk_below (g := gb5122) (o := .cells #[.int .i64 t5119, .int .i64 t5120] 57 (0, 0)) (by exact BK5122.out) hb)
        have n5_ := Aside0.mk (blk_below (g := gb5126) (o := .cells #[.int .i64 t5123, .int .i64 t5124] 57 (0, 0)) (by exact BK5126.out) hb)
        have n6_ := Aside0.mk (blk_below (g := gb5130) (o := .cells #[.int .i64 t5127, .int .i64 t5128] 57 (0, 0)) (by exact BK5130.out) hb)
        have n7_ := Aside0.mk (blk_below (g := gb5134) (o := .cells #[.int .i64 t5131, .int .i64 t5132] 57 (0, 0)) (by exact BK5134.out) hb)
        have n8_ := Aside0.mk (blk_below (g := gb5138) (o := .cells #[.int .i64 t5135, .int .i64 t5136] 57 (0, 0)) (by exact BK5138.out) hb)
        have n9_ := Aside0.mk (below_step (by repeat (first | (with_reducible first | exact HB.out | apply below_alloc | apply pw_below_drewN | apply below_drew1 | refine below_set ?_ GE4806.out | refine below_set ?_ GE4807.out | refine below_set ?_ GE5114.out | refine below_set ?_ GE5118.out | refine below_set ?_ GE5122.out | refine below_set ?_ GE5126.out | refine below_set ?_ GE5130.out | refine below_set ?_ GE5134.out | refine below_set ?_ GE5138.out) | exact HB.out)) hb)
        clear BK4806 BK4807 BK5114 BK5118 BK5122 BK5126 BK5130 BK5134 BK5138 HB
        have BK4806 := n0_
        have BK4807 := n1_
        have BK5114 := n2_
        have BK5118 := n3_
        have BK5122 := n4_
        have BK5126 := n5_
        have BK5130 := n6_
        have BK5134 := n7_
        have BK5138 := n8_
        have HB := n9_
        clear n0_ n1_ n2_ n3_ n4_ n5_ n6_ n7_ n8_ n9_
        (try clear hb)
        (try clear hb2)
        (try clear hk)
        (try clear hi)
        refine hK.out _ _ ⟨(blk_cell BK5114.out 0).trans rfl, (blk_cell BK5114.out 1).trans rfl, (blk_cell BK4806.out 0).trans rfl, (blk_cell BK4806.out 1).trans rfl, (blk_cell BK4807.out 0).trans rfl, (blk_cell BK4807.out 1).trans rfl, (blk_cell BK5122.out 0).trans rfl, (blk_cell BK5122.out 1).trans rfl⟩ (fun hHeld => ?_)
        clear hK K
        refine norm_ (a' := ?_) ?_ ?_
        rotate_left
        · show Act.put _ (some 127) _ = _
          simp only [Act.put, List.setIfInBounds_toArray, List.set_cons_zero, List.set_cons_succ, i64_w, i32_w]
          rfl
        refine pure_ (i := 11) (N := some 128) (v := ?_) (a' := ?_) (demurragelaw02_RatioLaws.ups 60 4095) rfl rfl (any_of HT_.out (by kernel_rfl)) (fun _ _ _ h => h) (Or.inl ⟨by rfl, ?_⟩) ?_ ?_
        rotate_left
        · intro w'
          go_simp
          with_reducible rfl
        rotate_left
        · simp only [Act.put, List.setIfInBounds_toArray, List.set_cons_zero, List.set_cons_succ, i64_w, i32_w]
          rfl
        refine pure_ (i := 12) (N := some 129) (v := ?_) (a' := ?_) (demurragelaw02_RatioLaws.ups 60 8191) rfl rfl (any_of HT_.out (by kernel_rfl)) (fun _ _ _ h => h) (Or.inl ⟨by rfl, ?_⟩) ?_ ?_
        rotate_left
        · intro w'
          go_simp
          with_reducible rfl
        rotate_left
        · simp only [Act.put, List.setIfInBounds_toArray, List.set_cons_zero, List.set_cons_succ, i64_w, i32_w]
          rfl
        refine pure_ (i := 13) (N := some 130) (v := ?_) (a' := ?_) (demurragelaw02_RatioLaws.ups 60 16383) rfl rfl (any_of HT_.out (by kernel_rfl)) (fun _ _ _ h => h) (Or.inl ⟨by rfl, ?_⟩) ?_ ?_
        rotate_left
        · intro w'
          go_simp
          with_reducible rfl
        rotate_left
        · simp only [Act.put, List.setIfInBounds_toArray, List.set_cons_zero, List.set_cons_succ, i64_w, i32_w]
          rfl
        refine take_ (i := 14) (N := some 131) (v := ?_) (a' := ?_) (demurragelaw02_RatioLaws.ups 60 32767) rfl rfl (take_ofW HT_.out HW_.out (by kernel_rfl)) (fun _ _ _ h => h) (Or.inl ⟨by rfl, ?_⟩) hHeld ?_ ?_
        rotate_left
        · rintro w' ⟨s0, s1, s2, s3, s4, s5, s6, s7⟩
          go_simp
          with_reducible rfl
        rotate_left
        · simp only [Act.put, List.setIfInBounds_toArray, List.set_cons_zero, List.set_cons_succ, i64_w, i32_w]
          rfl
        refine take_ (i := 15) (N := some 132) (v := ?_) (a' := ?_) (demurragelaw02_RatioLaws.ups 60 65535) rfl rfl (take_ofW HT_.out HW_.out (by kernel_rfl)) (fun _ _ _ h => h) (Or.inl ⟨by rfl, ?_⟩) hHeld ?_ ?_
        rotate_left
        · rintro w' ⟨s0, s1, s2, s3, s4, s5, s6, s7⟩
          go_simp
          with_reducible rfl
        rotate_left
        · simp only [Act.put, List.setIfInBounds_toArray, List.set_cons_zero, List.set_cons_succ, i64_w, i32_w]
          rfl
        refine one_ (i := 16) (N := some 133) (demurragelaw02_RatioLaws.ups 60 131071) rfl rfl (one_of HT_.out (by kernel_rfl)) (by decide) (fun K hK => ?_)
        refine goes_ Try.func50 (by kernel_rfl) rfl #[.agg #[.int .i64 t5111, .int .i64 t5112], .agg #[.int .i64 a1_0, .int .i64 a1_1]] (by rfl) rfl rfl (by (try simp only [List.map_toArray, List.map_cons, List.map_nil]); first | done | rfl) ?_
        with_reducible refine (ratio_Cmp.calls t5111 t5112 a1_0 a1_1 t5195 _ A43.out).mono ?_
        rintro e w133 ⟨rfl, hb⟩
        refine ⟨_, rfl, ?_⟩
        have n0_ := Aside0.mk (blk_below (g := gb4806) (o := .cells #[.int .i64 a0_0, .int .i64 a0_1] 57 (0, 0)) (by exact BK4806.out) hb)
        have n1_ := Aside0.mk (blk_below (g := gb4807) (o := .cells #[.int .i64 a1_0, .int .i64 a1_1] 57 (0, 0)) (by exact BK4807.out) hb)
        have n2_ := Aside0.mk (blk_below (g := gb5114) (o := .cells #[.int .i64 t5111, .int .i64 t5112] 57 (0, 0)) (by exact BK5114.out) hb)
        have n3_ := Aside0.mk (blk_below (g := gb5118) (o := .cells #[.int .i64 t5115, .int .i64 t5116] 57 (0, 0)) (by exact BK5118.out) hb)
        have n4_ := Aside0.mk (blk_below (g := gb5122) (o := .cells #[.int .i64 t5119, .int .i64 t5120] 57 (0, 0)) (by exact BK5122.out) hb)
        have n5_ := Aside0.mk (blk_below (g := gb5126) (o := .cells #[.int .i64 t5123, .int .i64 t5124] 57 (0, 0)) (by exact BK5126.out) hb)
        have n6_ := Aside0.mk (blk_below (g := gb5130) (o := .cells #[.int .i64 t5127, .int .i64 t5128] 57 (0, 0)) (by exact BK5130.out) hb)
        have n7_ := Aside0.mk (blk_below (g := gb5134) (o := .cells #[.int .i64 t5131, .int .i64 t5132] 57 (0, 0)) (by exact BK5134.out) hb)
        have n8_ := Aside0.mk (blk_below (g := gb5138) (o := .cells #[.int .i64 t5135, .int .i64 t5136] 57 (0, 0)) (by exact BK5138.out) hb)
        have n9_ := Aside0.mk (below_step (by repeat (first | (with_reducible first | exact HB.out | apply below_alloc | apply pw_below_drewN | apply below_drew1 | refine below_set ?_ GE4806.out | refine below_set ?_ GE4807.out | refine below_set ?_ GE5114.out | refine below_set ?_ GE5118.out | refine below_set ?_ GE5122.out | refine below_set ?_ GE5126.out | refine below_set ?_ GE5130.out | refine below_set ?_ GE5134.out | refine below_set ?_ GE5138.out) | exact HB.out)) hb)
        clear BK4806 BK4807 BK5114 BK5118 BK5122 BK5126 BK5130 BK5134 BK5138 HB
        have BK4806 := n0_
        have BK4807 := n1_
        have BK5114 := n2_
        have BK5118 := n3_
        have BK5122 := n4_
        have BK5126 := n5_
        have BK5130 := n6_
        have BK5134 := n7_
        have BK5138 := n8_
        have HB := n9_
        clear n0_ n1_ n2_ n3_ n4_ n5_ n6_ n7_ n8_ n9_
        (try clear hb)
        (try clear hb2)
        (try clear hk)
        (try clear hi)
        refine hK.out _ _ ⟨(blk_cell BK5114.out 0).trans rfl, (blk_cell BK5114.out 1).trans rfl, (blk_cell BK4806.out 0).trans rfl, (blk_cell BK4806.out 1).trans rfl, (blk_cell BK4807.out 0).trans rfl, (blk_cell BK4807.out 1).trans rfl, (blk_cell BK5122.out 0).trans rfl, (blk_cell BK5122.out 1).trans rfl⟩ (fun hHeld => ?_)
        clear hK K
        refine norm_ (a' := ?_) ?_ ?_
        rotate_left
        · show Act.put _ (some 133) _ = _
          simp only [Act.put, List.setIfInBounds_toArray, List.set_cons_zero, List.set_cons_succ, i64_w, i32_w]
          rfl
        refine pure_ (i := 17) (N := some 134) (v := ?_) (a' := ?_) (demurragelaw02_RatioLaws.ups 60 262143) rfl rfl (any_of HT_.out (by kernel_rfl)) (fun _ _ _ h => h) (Or.inl ⟨by rfl, ?_⟩) ?_ ?_
        rotate_left
        · intro w'
          go_simp
          with_reducible rfl
        rotate_left
        · simp only [Act.put, List.setIfInBounds_toArray, List.set_cons_zero, List.set_cons_succ, i64_w, i32_w]
          rfl
        refine pure_ (i := 18) (N := some 135) (v := ?_) (a' := ?_) (demurragelaw02_RatioLaws.ups 60 524287) rfl rfl (any_of HT_.out (by kernel_rfl)) (fun _ _ _ h => h) (Or.inl ⟨by rfl, ?_⟩) ?_ ?_
        rotate_left
        · intro w'
          go_simp
          with_reducible rfl
        rotate_left
        · simp only [Act.put, List.setIfInBounds_toArray, List.set_cons_zero, List.set_cons_succ, i64_w, i32_w]
          rfl
        refine pure_ (i := 19) (N := some 136) (v := ?_) (a' := ?_) (demurragelaw02_RatioLaws.ups 60 1048575) rfl rfl (any_of HT_.out (by kernel_rfl)) (fun _ _ _ h => h) (Or.inl ⟨by rfl, ?_⟩) ?_ ?_
        rotate_left
        · intro w'
          go_simp
          with_reducible rfl
        rotate_left
        · simp only [Act.put, List.setIfInBounds_toArray, List.set_cons_zero, List.set_cons_succ, i64_w, i32_w]
          rfl
        refine pure_ (i := 24) (N := some 141) (v := ?_) (a' := ?_) (demurragelaw02_RatioLaws.ups 60 17825791) rfl rfl (any_of HT_.out (by kernel_rfl)) (fun _ _ _ h => h) (Or.inl ⟨by rfl, ?_⟩) ?_ ?_
        rotate_left
        · intro w'
          go_simp
          with_reducible rfl
        rotate_left
        · simp only [Act.put, List.setIfInBounds_toArray, List.set_cons_zero, List.set_cons_succ, i64_w, i32_w]
          rfl
        refine take_ (i := 20) (N := some 137) (v := ?_) (a' := ?_) (demurragelaw02_RatioLaws.ups 60 18874367) rfl rfl (take_ofW HT_.out HW_.out (by kernel_rfl)) (fun _ _ _ h => h) (Or.inl ⟨by rfl, ?_⟩) hHeld ?_ ?_
        rotate_left
        · rintro w' ⟨s0, s1, s2, s3, s4, s5, s6, s7⟩
          go_simp
          with_reducible rfl
        rotate_left
        · simp only [Act.put, List.setIfInBounds_toArray, List.set_cons_zero, List.set_cons_succ, i64_w, i32_w]
          rfl
        refine take_ (i := 21) (N := some 138) (v := ?_) (a' := ?_) (demurragelaw02_RatioLaws.ups 60 20971519) rfl rfl (take_ofW HT_.out HW_.out (by kernel_rfl)) (fun _ _ _ h => h) (Or.inl ⟨by rfl, ?_⟩) hHeld ?_ ?_
        rotate_left
        · rintro w' ⟨s0, s1, s2, s3, s4, s5, s6, s7⟩
          go_simp
          with_reducible rfl
        rotate_left
        · simp only [Act.put, List.setIfInBounds_toArray, List.set_cons_zero, List.set_cons_succ, i64_w, i32_w]
          rfl
        refine take_ (i := 25) (N := some 142) (v := ?_) (a' := ?_) (demurragelaw02_RatioLaws.ups 60 54525951) rfl rfl (take_ofW HT_.out HW_.out (by kernel_rfl)) (fun _ _ _ h => h) (Or.inl ⟨by rfl, ?_⟩) hHeld ?_ ?_
        rotate_left
        · rintro w' ⟨s0, s1, s2, s3, s4, s5, s6, s7⟩
          go_simp
          with_reducible rfl
        rotate_left
        · simp only [Act.put, List.setIfInBounds_toArray, List.set_cons_zero, List.set_cons_succ, i64_w, i32_w]
          rfl
        refine pure_ (i := 26) (N := some 143) (v := ?_) (a' := ?_) (demurragelaw02_RatioLaws.ups 60 121634815) rfl rfl (any_of HT_.out (by kernel_rfl)) (fun _ _ _ h => h) (Or.inl ⟨by rfl, ?_⟩) ?_ ?_
        rotate_left
        · intro w'
          go_simp
          with_reducible rfl
        rotate_left
        · simp only [Act.put, List.setIfInBounds_toArray, List.set_cons_zero, List.set_cons_succ, i64_w, i32_w]
          rfl
        refine one_ (i := 22) (N := some 139) (demurragelaw02_RatioLaws.ups 60 125829119) rfl rfl (one_of HT_.out (by kernel_rfl)) (by decide) (fun K hK => ?_)
        refine goes_ Try.func50 (by kernel_rfl) rfl #[.agg #[.int .i64 t5111, .int .i64 t5112], .agg #[.int .i64 a0_0, .int .i64 a0_1]] (by rfl) rfl rfl (by (try simp only [List.map_toArray, List.map_cons, List.map_nil]); first | done | rfl) ?_
        with_reducible refine (ratio_Cmp.calls t5111 t5112 a0_0 a0_1 t5196 _ A45.out).mono ?_
        rintro e w134 ⟨rfl, hb⟩
        refine ⟨_, rfl, ?_⟩
        have n0_ := Aside0.mk (blk_below (g := gb4806) (o := .cells #[.int .i64 a0_0, .int .i64 a0_1] 57 (0, 0)) (by exact BK4806.out) hb)
        have n1_ := Aside0.mk (blk_below (g := gb4807) (o := .cells #[.int .i64 a1_0, .int .i64 a1_1] 57 (0, 0)) (by exact BK4807.out) hb)
        have n2_ := Aside0.mk (blk_below (g := gb5114) (o := .cells #[.int .i64 t5111, .int .i64 t5112] 57 (0, 0)) (by exact BK5114.out) hb)
        have n3_ := Aside0.mk (blk_below (g := gb5118) (o := .cells #[.int .i64 t5115, .int .i64 t5116] 57 (0, 0)) (by exact BK5118.out) hb)
        have n4_ := Aside0.mk (blk_below (g := gb5122) (o := .cells #[.int .i64 t5119, .int .i64 t5120] 57 (0, 0)) (by exact BK5122.out) hb)
        have n5_ := Aside0.mk (blk_below (g := gb5126) (o := .cells #[.int .i64 t5123, .int .i64 t5124] 57 (0, 0)) (by exact BK5126.out) hb)
        have n6_ := Aside0.mk (blk_below (g := gb5130) (o := .cells #[.int .i64 t5127, .int .i64 t5128] 57 (0, 0)) (by exact BK5130.out) hb)
        have n7_ := Aside0.mk (blk_below (g := gb5134) (o := .cells #[.int .i64 t5131, .int .i64 t5132] 57 (0, 0)) (by exact BK5134.out) hb)
        have n8_ := Aside0.mk (blk_below (g := gb5138) (o := .cells #[.int .i64 t5135, .int .i64 t5136] 57 (0, 0)) (by exact BK5138.out) hb)
        have n9_ := Aside0.mk (below_step (by repeat (first | (with_reducible first | exact HB.out | apply below_alloc | apply pw_below_drewN | apply below_drew1 | refine below_set ?_ GE4806.out | refine below_set ?_ GE4807.out | refine below_set ?_ GE5114.out | refine below_set ?_ GE5118.out | refine below_set ?_ GE5122.out | refine below_set ?_ GE5126.out | refine below_set ?_ GE5130.out | refine below_set ?_ GE5134.out | refine below_set ?_ GE5138.out) | exact HB.out)) hb)
        clear BK4806 BK4807 BK5114 BK5118 BK5122 BK5126 BK5130 BK5134 BK5138 HB
        have BK4806 := n0_
        have BK4807 := n1_
        have BK5114 := n2_
        have BK5118 := n3_
        have BK5122 := n4_
        have BK5126 := n5_
        have BK5130 := n6_
        have BK5134 := n7_
        have BK5138 := n8_
        have HB := n9_
        clear n0_ n1_ n2_ n3_ n4_ n5_ n6_ n7_ n8_ n9_
        (try clear hb)
        (try clear hb2)
        (try clear hk)
        (try clear hi)
        refine hK.out _ _ ⟨(blk_cell BK5114.out 0).trans rfl, (blk_cell BK5114.out 1).trans rfl, (blk_cell BK4806.out 0).trans rfl, (blk_cell BK4806.out 1).trans rfl, (blk_cell BK4807.out 0).trans rfl, (blk_cell BK4807.out 1).trans rfl, (blk_cell BK5122.out 0).trans rfl, (blk_cell BK5122.out 1).trans rfl⟩ (fun hHeld => ?_)
        clear hK K
        refine norm_ (a' := ?_) ?_ ?_
        rotate_left
        · show Act.put _ (some 139) _ = _
          simp only [Act.put, List.setIfInBounds_toArray, List.set_cons_zero, List.set_cons_succ, i64_w, i32_w]
          rfl
        refine pure_ (i := 23) (N := some 140) (v := ?_) (a' := ?_) (demurragelaw02_RatioLaws.ups 60 134217727) rfl rfl (any_of HT_.out (by kernel_rfl)) (fun _ _ _ h => h) (Or.inl ⟨by rfl, ?_⟩) ?_ ?_
        rotate_left
        · intro w'
          go_simp
          with_reducible rfl
        rotate_left
        · simp only [Act.put, List.setIfInBounds_toArray, List.set_cons_zero, List.set_cons_succ, i64_w, i32_w]
          rfl
        refine pure_ (i := 27) (N := some 144) (v := ?_) (a' := ?_) (demurragelaw02_RatioLaws.ups 60 268435455) rfl rfl (any_of HT_.out (by kernel_rfl)) (fun _ _ _ h => h) (Or.inl ⟨by rfl, ?_⟩) ?_ ?_
        rotate_left
        · intro w'
          go_simp
          with_reducible rfl
        rotate_left
        · simp only [Act.put, List.setIfInBounds_toArray, List.set_cons_zero, List.set_cons_succ, i64_w, i32_w]
          rfl
        refine pure_ (i := 28) (N := some 145) (v := ?_) (a' := ?_) (demurragelaw02_RatioLaws.ups 60 536870911) rfl rfl (any_of HT_.out (by kernel_rfl)) (fun _ _ _ h => h) (Or.inl ⟨by rfl, ?_⟩) ?_ ?_
        rotate_left
        · intro w'
          go_simp
          with_reducible rfl
        rotate_left
        · simp only [Act.put, List.setIfInBounds_toArray, List.set_cons_zero, List.set_cons_succ, i64_w, i32_w]
          rfl
        refine pure_ (i := 29) (N := some 146) (v := ?_) (a' := ?_) (demurragelaw02_RatioLaws.ups 60 1073741823) rfl rfl (any_of HT_.out (by kernel_rfl)) (fun _ _ _ h => h) (Or.inl ⟨by rfl, ?_⟩) ?_ ?_
        rotate_left
        · intro w'
          go_simp
          with_reducible rfl
        rotate_left
        · simp only [Act.put, List.setIfInBounds_toArray, List.set_cons_zero, List.set_cons_succ, i64_w, i32_w]
          rfl
        refine pure_ (i := 30) (N := some 147) (v := ?_) (a' := ?_) (demurragelaw02_RatioLaws.ups 60 2147483647) rfl rfl (any_of HT_.out (by kernel_rfl)) (fun _ _ _ h => h) (Or.inl ⟨by rfl, ?_⟩) ?_ ?_
        rotate_left
        · intro w'
          go_simp
          with_reducible rfl
        rotate_left
        · simp only [Act.put, List.setIfInBounds_toArray, List.set_cons_zero, List.set_cons_succ, i64_w, i32_w]
          rfl
        refine pure_ (i := 31) (N := some 148) (v := ?_) (a' := ?_) (demurragelaw02_RatioLaws.ups 60 4294967295) rfl rfl (any_of HT_.out (by kernel_rfl)) (fun _ _ _ h => h) (Or.inl ⟨by rfl, ?_⟩) ?_ ?_
        rotate_left
        · intro w'
          go_simp
          with_reducible rfl
        rotate_left
        · simp only [Act.put, List.setIfInBounds_toArray, List.set_cons_zero, List.set_cons_succ, i64_w, i32_w]
          rfl
        refine pure_ (i := 32) (N := some 149) (v := ?_) (a' := ?_) (demurragelaw02_RatioLaws.ups 60 8589934591) rfl rfl (any_of HT_.out (by kernel_rfl)) (fun _ _ _ h => h) (Or.inl ⟨by rfl, ?_⟩) ?_ ?_
        rotate_left
        · intro w'
          go_simp
          with_reducible rfl
        rotate_left
        · simp only [Act.put, List.setIfInBounds_toArray, List.set_cons_zero, List.set_cons_succ, i64_w, i32_w]
          rfl
        refine pure_ (i := 33) (N := some 150) (v := ?_) (a' := ?_) (demurragelaw02_RatioLaws.ups 60 17179869183) rfl rfl (any_of HT_.out (by kernel_rfl)) (fun _ _ _ h => h) (Or.inl ⟨by rfl, ?_⟩) ?_ ?_
        rotate_left
        · intro w'
          go_simp
          with_reducible rfl
        rotate_left
        · simp only [Act.put, List.setIfInBounds_toArray, List.set_cons_zero, List.set_cons_succ, i64_w, i32_w]
          rfl
        refine pure_ (i := 34) (N := some 151) (v := ?_) (a' := ?_) (demurragelaw02_RatioLaws.ups 60 34359738367) rfl rfl (any_of HT_.out (by kernel_rfl)) (fun _ _ _ h => h) (Or.inl ⟨by rfl, ?_⟩) ?_ ?_
        rotate_left
        · intro w'
          go_simp
          with_reducible rfl
        rotate_left
        · simp only [Act.put, List.setIfInBounds_toArray, List.set_cons_zero, List.set_cons_succ, i64_w, i32_w]
          rfl
        refine take_ (i := 35) (N := some 152) (v := ?_) (a' := ?_) (demurragelaw02_RatioLaws.ups 60 68719476735) rfl rfl (take_ofW HT_.out HW_.out (by kernel_rfl)) (fun _ _ _ h => h) (Or.inl ⟨by rfl, ?_⟩) hHeld ?_ ?_
        rotate_left
        · rintro w' ⟨s0, s1, s2, s3, s4, s5, s6, s7⟩
          go_simp
          with_reducible rfl
        rotate_left
        · simp only [Act.put, List.setIfInBounds_toArray, List.set_cons_zero, List.set_cons_succ, i64_w, i32_w]
          rfl
        refine one_ (i := 36) (N := some 153) (demurragelaw02_RatioLaws.ups 60 137438953471) rfl rfl (one_of HT_.out (by kernel_rfl)) (by decide) (fun K hK => ?_)
        refine goes_ Try.func44 (by kernel_rfl) rfl #[.agg #[.int .i64 t5119, .int .i64 t5120]] (by rfl) rfl rfl (by (try simp only [List.map_toArray, List.map_cons, List.map_nil]); first | done | rfl) ?_
        with_reducible refine (demurrageref02_Right.calls kj3 t5119 t5120 true _ A48.out).mono ?_
        rintro e w135 ⟨rfl, hb⟩
        refine ⟨_, rfl, ?_⟩
        have n0_ := Aside0.mk (blk_below (g := gb4806) (o := .cells #[.int .i64 a0_0, .int .i64 a0_1] 57 (0, 0)) (by exact BK4806.out) hb)
        have n1_ := Aside0.mk (blk_below (g := gb4807) (o := .cells #[.int .i64 a1_0, .int .i64 a1_1] 57 (0, 0)) (by exact BK4807.out) hb)
        have n2_ := Aside0.mk (blk_below (g := gb5114) (o := .cells #[.int .i64 t5111, .int .i64 t5112] 57 (0, 0)) (by exact BK5114.out) hb)
        have n3_ := Aside0.mk (blk_below (g := gb5118) (o := .cells #[.int .i64 t5115, .int .i64 t5116] 57 (0, 0)) (by exact BK5118.out) hb)
        have n4_ := Aside0.mk (blk_below (g := gb5122) (o := .cells #[.int .i64 t5119, .int .i64 t5120] 57 (0, 0)) (by exact BK5122.out) hb)
        have n5_ := Aside0.mk (blk_below (g := gb5126) (o := .cells #[.int .i64 t5123, .int .i64 t5124] 57 (0, 0)) (by exact BK5126.out) hb)
        have n6_ := Aside0.mk (blk_below (g := gb5130) (o := .cells #[.int .i64 t5127, .int .i64 t5128] 57 (0, 0)) (by exact BK5130.out) hb)
        have n7_ := Aside0.mk (blk_below (g := gb5134) (o := .cells #[.int .i64 t5131, .int .i64 t5132] 57 (0, 0)) (by exact BK5134.out) hb)
        have n8_ := Aside0.mk (blk_below (g := gb5138) (o := .cells #[.int .i64 t5135, .int .i64 t5136] 57 (0, 0)) (by exact BK5138.out) hb)
        have n9_ := Aside0.mk (below_step (by repeat (first | (with_reducible first | exact HB.out | apply below_alloc | apply pw_below_drewN | apply below_drew1 | refine below_set ?_ GE4806.out | refine below_set ?_ GE4807.out | refine below_set ?_ GE5114.out | refine below_set ?_ GE5118.out | refine below_set ?_ GE5122.out | refine below_set ?_ GE5126.out | refine below_set ?_ GE5130.out | refine below_set ?_ GE5134.out | refine below_set ?_ GE5138.out) | exact HB.out)) hb)
        clear BK4806 BK4807 BK5114 BK5118 BK5122 BK5126 BK5130 BK5134 BK5138 HB
        have BK4806 := n0_
        have BK4807 := n1_
        have BK5114 := n2_
        have BK5118 := n3_
        have BK5122 := n4_
        have BK5126 := n5_
        have BK5130 := n6_
        have BK5134 := n7_
        have BK5138 := n8_
        have HB := n9_
        clear n0_ n1_ n2_ n3_ n4_ n5_ n6_ n7_ n8_ n9_
        (try clear hb)
        (try clear hb2)
        (try clear hk)
        (try clear hi)
        refine hK.out _ _ ⟨(blk_cell BK5114.out 0).trans rfl, (blk_cell BK5114.out 1).trans rfl, (blk_cell BK4806.out 0).trans rfl, (blk_cell BK4806.out 1).trans rfl, (blk_cell BK4807.out 0).trans rfl, (blk_cell BK4807.out 1).trans rfl, (blk_cell BK5122.out 0).trans rfl, (blk_cell BK5122.out 1).trans rfl⟩ (fun hHeld => ?_)
        clear hK K
        refine norm_ (a' := ?_) ?_ ?_
        rotate_left
        · show Act.put _ (some 153) _ = _
          simp only [Act.put, List.setIfInBounds_toArray, List.set_cons_zero, List.set_cons_succ, i64_w, i32_w]
          rfl
        refine pure_ (i := 37) (N := some 154) (v := ?_) (a' := ?_) (demurragelaw02_RatioLaws.ups 60 274877906943) rfl rfl (any_of HT_.out (by kernel_rfl)) (fun _ _ _ h => h) (Or.inl ⟨by rfl, ?_⟩) ?_ ?_
        rotate_left
        · intro w'
          go_simp
          with_reducible rfl
        rotate_left
        · simp only [Act.put, List.setIfInBounds_toArray, List.set_cons_zero, List.set_cons_succ, i64_w, i32_w]
          rfl
        refine pure_ (i := 38) (N := some 155) (v := ?_) (a' := ?_) (demurragelaw02_RatioLaws.ups 60 549755813887) rfl rfl (any_of HT_.out (by kernel_rfl)) (fun _ _ _ h => h) (Or.inl ⟨by rfl, ?_⟩) ?_ ?_
        rotate_left
        · intro w'
          go_simp
          with_reducible rfl
        rotate_left
        · simp only [Act.put, List.setIfInBounds_toArray, List.set_cons_zero, List.set_cons_succ, i64_w, i32_w]
          rfl
        refine pure_ (i := 39) (N := some 156) (v := ?_) (a' := ?_) (demurragelaw02_RatioLaws.ups 60 1099511627775) rfl rfl (any_of HT_.out (by kernel_rfl)) (fun _ _ _ h => h) (Or.inl ⟨by rfl, ?_⟩) ?_ ?_
        rotate_left
        · intro w'
          go_simp
          with_reducible rfl
        rotate_left
        · simp only [Act.put, List.setIfInBounds_toArray, List.set_cons_zero, List.set_cons_succ, i64_w, i32_w]
          rfl
        refine take_ (i := 40) (N := some 157) (v := ?_) (a' := ?_) (demurragelaw02_RatioLaws.ups 60 2199023255551) rfl rfl (take_ofW HT_.out HW_.out (by kernel_rfl)) (fun _ _ _ h => h) (Or.inl ⟨by rfl, ?_⟩) hHeld ?_ ?_
        rotate_left
        · rintro w' ⟨s0, s1, s2, s3, s4, s5, s6, s7⟩
          go_simp
          with_reducible rfl
        rotate_left
        · simp only [Act.put, List.setIfInBounds_toArray, List.set_cons_zero, List.set_cons_succ, i64_w, i32_w]
          rfl
        refine take_ (i := 41) (N := some 158) (v := ?_) (a' := ?_) (demurragelaw02_RatioLaws.ups 60 4398046511103) rfl rfl (take_ofW HT_.out HW_.out (by kernel_rfl)) (fun _ _ _ h => h) (Or.inl ⟨by rfl, ?_⟩) hHeld ?_ ?_
        rotate_left
        · rintro w' ⟨s0, s1, s2, s3, s4, s5, s6, s7⟩
          go_simp
          with_reducible rfl
        rotate_left
        · simp only [Act.put, List.setIfInBounds_toArray, List.set_cons_zero, List.set_cons_succ, i64_w, i32_w]
          rfl
        refine take_ (i := 43) (N := some 160) (v := ?_) (a' := ?_) (demurragelaw02_RatioLaws.ups 60 13194139533311) rfl rfl (take_ofW HT_.out HW_.out (by kernel_rfl)) (fun _ _ _ h => h) (Or.inl ⟨by rfl, ?_⟩) hHeld ?_ ?_
        rotate_left
        · rintro w' ⟨s0, s1, s2, s3, s4, s5, s6, s7⟩
          go_simp
          with_reducible rfl
        rotate_left
        · simp only [Act.put, List.setIfInBounds_toArray, List.set_cons_zero, List.set_cons_succ, i64_w, i32_w]
          rfl
        refine take_ (i := 44) (N := some 161) (v := ?_) (a' := ?_) (demurragelaw02_RatioLaws.ups 60 30786325577727) rfl rfl (take_ofW HT_.out HW_.out (by kernel_rfl)) (fun _ _ _ h => h) (Or.inl ⟨by rfl, ?_⟩) hHeld ?_ ?_
        rotate_left
        · rintro w' ⟨s0, s1, s2, s3, s4, s5, s6, s7⟩
          go_simp
          with_reducible rfl
        rotate_left
        · simp only [Act.put, List.setIfInBounds_toArray, List.set_cons_zero, List.set_cons_succ, i64_w, i32_w]
          rfl
        refine one_ (i := 42) (N := some 159) (demurragelaw02_RatioLaws.ups 60 35184372088831) rfl rfl (one_of HT_.out (by kernel_rfl)) (by decide) (fun K hK => ?_)
        refine goes_ Try.func50 (by kernel_rfl) rfl #[.agg #[.int .i64 a0_0, .int .i64 a0_1], .agg #[.int .i64 a1_0, .int .i64 a1_1]] (by rfl) rfl rfl (by (try simp only [List.map_toArray, List.map_cons, List.map_nil]); first | done | rfl) ?_
        with_reducible refine (ratio_Cmp.calls a0_0 a0_1 a1_0 a1_1 t5198 _ A50.out).mono ?_
        rintro e w136 ⟨rfl, hb⟩
        refine ⟨_, rfl, ?_⟩
        have n0_ := Aside0.mk (blk_below (g := gb4806) (o := .cells #[.int .i64 a0_0, .int .i64 a0_1] 57 (0, 0)) (by exact BK4806.out) hb)
        have n1_ := Aside0.mk (blk_below (g := gb4807) (o := .cells #[.int .i64 a1_0, .int .i64 a1_1] 57 (0, 0)) (by exact BK4807.out) hb)
        have n2_ := Aside0.mk (blk_below (g := gb5114) (o := .cells #[.int .i64 t5111, .int .i64 t5112] 57 (0, 0)) (by exact BK5114.out) hb)
        have n3_ := Aside0.mk (blk_below (g := gb5118) (o := .cells #[.int .i64 t5115, .int .i64 t5116] 57 (0, 0)) (by exact BK5118.out) hb)
        have n4_ := Aside0.mk (blk_below (g := gb5122) (o := .cells #[.int .i64 t5119, .int .i64 t5120] 57 (0, 0)) (by exact BK5122.out) hb)
        have n5_ := Aside0.mk (blk_below (g := gb5126) (o := .cells #[.int .i64 t5123, .int .i64 t5124] 57 (0, 0)) (by exact BK5126.out) hb)
        have n6_ := Aside0.mk (blk_below (g := gb5130) (o := .cells #[.int .i64 t5127, .int .i64 t5128] 57 (0, 0)) (by exact BK5130.out) hb)
        have n7_ := Aside0.mk (blk_below (g := gb5134) (o := .cells #[.int .i64 t5131, .int .i64 t5132] 57 (0, 0)) (by exact BK5134.out) hb)
        have n8_ := Aside0.mk (blk_below (g := gb5138) (o := .cells #[.int .i64 t5135, .int .i64 t5136] 57 (0, 0)) (by exact BK5138.out) hb)
        have n9_ := Aside0.mk (below_step (by repeat (first | (with_reducible first | exact HB.out | apply below_alloc | apply pw_below_drewN | apply below_drew1 | refine below_set ?_ GE4806.out | refine below_set ?_ GE4807.out | refine below_set ?_ GE5114.out | refine below_set ?_ GE5118.out | refine below_set ?_ GE5122.out | refine below_set ?_ GE5126.out | refine below_set ?_ GE5130.out | refine below_set ?_ GE5134.out | refine below_set ?_ GE5138.out) | exact HB.out)) hb)
        clear BK4806 BK4807 BK5114 BK5118 BK5122 BK5126 BK5130 BK5134 BK5138 HB
        have BK4806 := n0_
        have BK4807 := n1_
        have BK5114 := n2_
        have BK5118 := n3_
        have BK5122 := n4_
        have BK5126 := n5_
        have BK5130 := n6_
        have BK5134 := n7_
        have BK5138 := n8_
        have HB := n9_
        clear n0_ n1_ n2_ n3_ n4_ n5_ n6_ n7_ n8_ n9_
        (try clear hb)
        (try clear hb2)
        (try clear hk)
        (try clear hi)
        refine hK.out _ _ ⟨(blk_cell BK5114.out 0).trans rfl, (blk_cell BK5114.out 1).trans rfl, (blk_cell BK4806.out 0).trans rfl, (blk_cell BK4806.out 1).trans rfl, (blk_cell BK4807.out 0).trans rfl, (blk_cell BK4807.out 1).trans rfl, (blk_cell BK5122.out 0).trans rfl, (blk_cell BK5122.out 1).trans rfl⟩ (fun hHeld => ?_)
        clear hK K
        refine norm_ (a' := ?_) ?_ ?_
        rotate_left
        · show Act.put _ (some 159) _ = _
          simp only [Act.put, List.setIfInBounds_toArray, List.set_cons_zero, List.set_cons_succ, i64_w, i32_w]
          rfl
        refine one_ (i := 45) (N := some 162) (demurragelaw02_RatioLaws.ups 60 70368744177663) rfl rfl (one_of HT_.out (by kernel_rfl)) (by decide) (fun K hK => ?_)
        refine goes_ Try.func50 (by kernel_rfl) rfl #[.agg #[.int .i64 a1_0, .int .i64 a1_1], .agg #[.int .i64 a0_0, .int .i64 a0_1]] (by rfl) rfl rfl (by (try simp only [List.map_toArray, List.map_cons, List.map_nil]); first | done | rfl) ?_
        with_reducible refine (ratio_Cmp.calls a1_0 a1_1 a0_0 a0_1 t5199 _ A51.out).mono ?_
        rintro e w137 ⟨rfl, hb⟩
        refine ⟨_, rfl, ?_⟩
        have n0_ := Aside0.mk (blk_below (g := gb4806) (o := .cells #[.int .i64 a0_0, .int .i64 a0_1] 57 (0, 0)) (by exact BK4806.out) hb)
        have n1_ := Aside0.mk (blk_below (g := gb4807) (o := .cells #[.int .i64 a1_0, .int .i64 a1_1] 57 (0, 0)) (by exact BK4807.out) hb)
        have n2_ := Aside0.mk (blk_below (g := gb5114) (o := .cells #[.int .i64 t5111, .int .i64 t5112] 57 (0, 0)) (by exact BK5114.out) hb)
        have n3_ := Aside0.mk (blk_below (g := gb5118) (o := .cells #[.int .i64 t5115, .int .i64 t5116] 57 (0, 0)) (by exact BK5118.out) hb)
        have n4_ := Aside0.mk (blk_below (g := gb5122) (o := .cells #[.int .i64 t5119, .int .i64 t5120] 57 (0, 0)) (by exact BK5122.out) hb)
        have n5_ := Aside0.mk (blk_below (g := gb5126) (o := .cells #[.int .i64 t5123, .int .i64 t5124] 57 (0, 0)) (by exact BK5126.out) hb)
        have n6_ := Aside0.mk (blk_below (g := gb5130) (o := .cells #[.int .i64 t5127, .int .i64 t5128] 57 (0, 0)) (by exact BK5130.out) hb)
        have n7_ := Aside0.mk (blk_below (g := gb5134) (o := .cells #[.int .i64 t5131, .int .i64 t5132] 57 (0, 0)) (by exact BK5134.out) hb)
        have n8_ := Aside0.mk (blk_below (g := gb5138) (o := .cells #[.int .i64 t5135, .int .i64 t5136] 57 (0, 0)) (by exact BK5138.out) hb)
        have n9_ := Aside0.mk (below_step (by repeat (first | (with_reducible first | exact HB.out | apply below_alloc | apply pw_below_drewN | apply below_drew1 | refine below_set ?_ GE4806.out | refine below_set ?_ GE4807.out | refine below_set ?_ GE5114.out | refine below_set ?_ GE5118.out | refine below_set ?_ GE5122.out | refine below_set ?_ GE5126.out | refine below_set ?_ GE5130.out | refine below_set ?_ GE5134.out | refine below_set ?_ GE5138.out) | exact HB.out)) hb)
        clear BK4806 BK4807 BK5114 BK5118 BK5122 BK5126 BK5130 BK5134 BK5138 HB
        have BK4806 := n0_
        have BK4807 := n1_
        have BK5114 := n2_
        have BK5118 := n3_
        have BK5122 := n4_
        have BK5126 := n5_
        have BK5130 := n6_
        have BK5134 := n7_
        have BK5138 := n8_
        have HB := n9_
        clear n0_ n1_ n2_ n3_ n4_ n5_ n6_ n7_ n8_ n9_
        (try clear hb)
        (try clear hb2)
        (try clear hk)
        (try clear hi)
        refine hK.out _ _ ⟨(blk_cell BK5114.out 0).trans rfl, (blk_cell BK5114.out 1).trans rfl, (blk_cell BK4806.out 0).trans rfl, (blk_cell BK4806.out 1).trans rfl, (blk_cell BK4807.out 0).trans rfl, (blk_cell BK4807.out 1).trans rfl, (blk_cell BK5122.out 0).trans rfl, (blk_cell BK5122.out 1).trans rfl⟩ (fun hHeld => ?_)
        clear hK K
        refine norm_ (a' := ?_) ?_ ?_
        rotate_left
        · show Act.put _ (some 162) _ = _
          simp only [Act.put, List.setIfInBounds_toArray, List.set_cons_zero, List.set_cons_succ, i64_w, i32_w]
          rfl
        refine pure_ (i := 46) (N := some 163) (v := ?_) (a' := ?_) (demurragelaw02_RatioLaws.ups 60 140737488355327) rfl rfl (any_of HT_.out (by kernel_rfl)) (fun _ _ _ h => h) (Or.inl ⟨by rfl, ?_⟩) ?_ ?_
        rotate_left
        · intro w'
          go_simp
          with_reducible rfl
        rotate_left
        · simp only [Act.put, List.setIfInBounds_toArray, List.set_cons_zero, List.set_cons_succ, i64_w, i32_w]
          rfl
        refine pure_ (i := 47) (N := some 164) (v := ?_) (a' := ?_) (demurragelaw02_RatioLaws.ups 60 281474976710655) rfl rfl (any_of HT_.out (by kernel_rfl)) (fun _ _ _ h => h) (Or.inl ⟨by rfl, ?_⟩) ?_ ?_
        rotate_left
        · intro w'
          go_simp
          with_reducible rfl
        rotate_left
        · simp only [Act.put, List.setIfInBounds_toArray, List.set_cons_zero, List.set_cons_succ, i64_w, i32_w]
          rfl
        refine pure_ (i := 48) (N := some 165) (v := ?_) (a' := ?_) (demurragelaw02_RatioLaws.ups 60 562949953421311) rfl rfl (any_of HT_.out (by kernel_rfl)) (fun _ _ _ h => h) (Or.inl ⟨by rfl, ?_⟩) ?_ ?_
        rotate_left
        · intro w'
          go_simp
          with_reducible rfl
        rotate_left
        · simp only [Act.put, List.setIfInBounds_toArray, List.set_cons_zero, List.set_cons_succ, i64_w, i32_w]
          rfl
        refine pure_ (i := 49) (N := some 166) (v := ?_) (a' := ?_) (demurragelaw02_RatioLaws.ups 60 1125899906842623) rfl rfl (any_of HT_.out (by kernel_rfl)) (fun _ _ _ h => h) (Or.inl ⟨by rfl, ?_⟩) ?_ ?_
        rotate_left
        · intro w'
          go_simp
          with_reducible rfl
        rotate_left
        · simp only [Act.put, List.setIfInBounds_toArray, List.set_cons_zero, List.set_cons_succ, i64_w, i32_w]
          rfl
        refine take_ (i := 50) (N := some 167) (v := ?_) (a' := ?_) (demurragelaw02_RatioLaws.ups 60 2251799813685247) rfl rfl (take_ofW HT_.out HW_.out (by kernel_rfl)) (fun _ _ _ h => h) (Or.inl ⟨by rfl, ?_⟩) hHeld ?_ ?_
        rotate_left
        · rintro w' ⟨s0, s1, s2, s3, s4, s5, s6, s7⟩
          go_simp
          with_reducible rfl
        rotate_left
        · simp only [Act.put, List.setIfInBounds_toArray, List.set_cons_zero, List.set_cons_succ, i64_w, i32_w]
          rfl
        refine take_ (i := 51) (N := some 168) (v := ?_) (a' := ?_) (demurragelaw02_RatioLaws.ups 60 4503599627370495) rfl rfl (take_ofW HT_.out HW_.out (by kernel_rfl)) (fun _ _ _ h => h) (Or.inl ⟨by rfl, ?_⟩) hHeld ?_ ?_
        rotate_left
        · rintro w' ⟨s0, s1, s2, s3, s4, s5, s6, s7⟩
          go_simp
          with_reducible rfl
        rotate_left
        · simp only [Act.put, List.setIfInBounds_toArray, List.set_cons_zero, List.set_cons_succ, i64_w, i32_w]
          rfl
        refine take_ (i := 54) (N := some 171) (v := ?_) (a' := ?_) (demurragelaw02_RatioLaws.ups 60 22517998136852479) rfl rfl (take_ofW HT_.out HW_.out (by kernel_rfl)) (fun _ _ _ h => h) (Or.inl ⟨by rfl, ?_⟩) hHeld ?_ ?_
        rotate_left
        · rintro w' ⟨s0, s1, s2, s3, s4, s5, s6, s7⟩
          go_simp
          with_reducible rfl
        rotate_left
        · simp only [Act.put, List.setIfInBounds_toArray, List.set_cons_zero, List.set_cons_succ, i64_w, i32_w]
          rfl
        refine take_ (i := 55) (N := some 172) (v := ?_) (a' := ?_) (demurragelaw02_RatioLaws.ups 60 58546795155816447) rfl rfl (take_ofW HT_.out HW_.out (by kernel_rfl)) (fun _ _ _ h => h) (Or.inl ⟨by rfl, ?_⟩) hHeld ?_ ?_
        rotate_left
        · rintro w' ⟨s0, s1, s2, s3, s4, s5, s6, s7⟩
          go_simp
          with_reducible rfl
        rotate_left
        · simp only [Act.put, List.setIfInBounds_toArray, List.set_cons_zero, List.set_cons_succ, i64_w, i32_w]
          rfl
        refine pure_ (i := 56) (N := some 173) (v := ?_) (a' := ?_) (demurragelaw02_RatioLaws.ups 60 130604389193744383) rfl rfl (any_of HT_.out (by kernel_rfl)) (fun _ _ _ h => h) (Or.inl ⟨by rfl, ?_⟩) ?_ ?_
        rotate_left
        · intro w'
          go_simp
          with_reducible rfl
        rotate_left
        · simp only [Act.put, List.setIfInBounds_toArray, List.set_cons_zero, List.set_cons_succ, i64_w, i32_w]
          rfl
        refine one_ (i := 52) (N := some 169) (demurragelaw02_RatioLaws.ups 60 135107988821114879) rfl rfl (one_of HT_.out (by kernel_rfl)) (by decide) (fun K hK => ?_)
        refine goes_ Try.func50 (by kernel_rfl) rfl #[.agg #[.int .i64 a0_0, .int .i64 a0_1], .agg #[.int .i64 a1_0, .int .i64 a1_1]] (by rfl) rfl rfl (by (try simp only [List.map_toArray, List.map_cons, List.map_nil]); first | done | rfl) ?_
        with_reducible refine (ratio_Cmp.calls a0_0 a0_1 a1_0 a1_1 t5200 _ A53.out).mono ?_
        rintro e w138 ⟨rfl, hb⟩
        refine ⟨_, rfl, ?_⟩
        have n0_ := Aside0.mk (blk_below (g := gb4806) (o := .cells #[.int .i64 a0_0, .int .i64 a0_1] 57 (0, 0)) (by exact BK4806.out) hb)
        have n1_ := Aside0.mk (blk_below (g := gb4807) (o := .cells #[.int .i64 a1_0, .int .i64 a1_1] 57 (0, 0)) (by exact BK4807.out) hb)
        have n2_ := Aside0.mk (blk_below (g := gb5114) (o := .cells #[.int .i64 t5111, .int .i64 t5112] 57 (0, 0)) (by exact BK5114.out) hb)
        have n3_ := Aside0.mk (blk_below (g := gb5118) (o := .cells #[.int .i64 t5115, .int .i64 t5116] 57 (0, 0)) (by exact BK5118.out) hb)
        have n4_ := Aside0.mk (blk_below (g := gb5122) (o := .cells #[.int .i64 t5119, .int .i64 t5120] 57 (0, 0)) (by exact BK5122.out) hb)
        have n5_ := Aside0.mk (blk_below (g := gb5126) (o := .cells #[.int .i64 t5123, .int .i64 t5124] 57 (0, 0)) (by exact BK5126.out) hb)
        have n6_ := Aside0.mk (blk_below (g := gb5130) (o := .cells #[.int .i64 t5127, .int .i64 t5128] 57 (0, 0)) (by exact BK5130.out) hb)
        have n7_ := Aside0.mk (blk_below (g := gb5134) (o := .cells #[.int .i64 t5131, .int .i64 t5132] 57 (0, 0)) (by exact BK5134.out) hb)
        have n8_ := Aside0.mk (blk_below (g := gb5138) (o := .cells #[.int .i64 t5135, .int .i64 t5136] 57 (0, 0)) (by exact BK5138.out) hb)
        have n9_ := Aside0.mk (below_step (by repeat (first | (with_reducible first | exact HB.out | apply below_alloc | apply pw_below_drewN | apply below_drew1 | refine below_set ?_ GE4806.out | refine below_set ?_ GE4807.out | refine below_set ?_ GE5114.out | refine below_set ?_ GE5118.out | refine below_set ?_ GE5122.out | refine below_set ?_ GE5126.out | refine below_set ?_ GE5130.out | refine below_set ?_ GE5134.out | refine below_set ?_ GE5138.out) | exact HB.out)) hb)
        clear BK4806 BK4807 BK5114 BK5118 BK5122 BK5126 BK5130 BK5134 BK5138 HB
        have BK4806 := n0_
        have BK4807 := n1_
        have BK5114 := n2_
        have BK5118 := n3_
        have BK5122 := n4_
        have BK5126 := n5_
        have BK5130 := n6_
        have BK5134 := n7_
        have BK5138 := n8_
        have HB := n9_
        clear n0_ n1_ n2_ n3_ n4_ n5_ n6_ n7_ n8_ n9_
        (try clear hb)
        (try clear hb2)
        (try clear hk)
        (try clear hi)
        refine hK.out _ _ ⟨(blk_cell BK5114.out 0).trans rfl, (blk_cell BK5114.out 1).trans rfl, (blk_cell BK4806.out 0).trans rfl, (blk_cell BK4806.out 1).trans rfl, (blk_cell BK4807.out 0).trans rfl, (blk_cell BK4807.out 1).trans rfl, (blk_cell BK5122.out 0).trans rfl, (blk_cell BK5122.out 1).trans rfl⟩ (fun hHeld => ?_)
        clear hK K
        refine norm_ (a' := ?_) ?_ ?_
        rotate_left
        · show Act.put _ (some 169) _ = _
          simp only [Act.put, List.setIfInBounds_toArray, List.set_cons_zero, List.set_cons_succ, i64_w, i32_w]
          rfl
        refine pure_ (i := 53) (N := some 170) (v := ?_) (a' := ?_) (demurragelaw02_RatioLaws.ups 60 144115188075855871) rfl rfl (any_of HT_.out (by kernel_rfl)) (fun _ _ _ h => h) (Or.inl ⟨by rfl, ?_⟩) ?_ ?_
        rotate_left
        · intro w'
          go_simp
          with_reducible rfl
        rotate_left
        · simp only [Act.put, List.setIfInBounds_toArray, List.set_cons_zero, List.set_cons_succ, i64_w, i32_w]
          rfl
        refine pure_ (i := 57) (N := some 174) (v := ?_) (a' := ?_) (demurragelaw02_RatioLaws.ups 60 288230376151711743) rfl rfl (any_of HT_.out (by kernel_rfl)) (fun _ _ _ h => h) (Or.inl ⟨by rfl, ?_⟩) ?_ ?_
        rotate_left
        · intro w'
          go_simp
          with_reducible rfl
        rotate_left
        · simp only [Act.put, List.setIfInBounds_toArray, List.set_cons_zero, List.set_cons_succ, i64_w, i32_w]
          rfl
        refine pure_ (i := 58) (N := some 175) (v := ?_) (a' := ?_) (demurragelaw02_RatioLaws.ups 60 576460752303423487) rfl rfl (any_of HT_.out (by kernel_rfl)) (fun _ _ _ h => h) (Or.inl ⟨by rfl, ?_⟩) ?_ ?_
        rotate_left
        · intro w'
          go_simp
          with_reducible rfl
        rotate_left
        · simp only [Act.put, List.setIfInBounds_toArray, List.set_cons_zero, List.set_cons_succ, i64_w, i32_w]
          rfl
        refine pure_ (i := 59) (N := some 4) (v := ?_) (a' := ?_) (demurragelaw02_RatioLaws.ups 60 1152921504606846975) rfl rfl (any_of HT_.out (by kernel_rfl)) (fun _ _ _ h => h) (Or.inl ⟨by rfl, ?_⟩) ?_ ?_
        rotate_left
        · intro w'
          go_simp
          with_reducible rfl
        rotate_left
        · simp only [Act.put, List.setIfInBounds_toArray, List.set_cons_zero, List.set_cons_succ, i64_w, i32_w]
          rfl
        refine done_ (done_of HT_.out (by kernel_rfl)) ?_
        try go_wp2
        go_ret
        exact ⟨by rfl, by repeat (first | (with_reducible first | exact HB.out | apply below_alloc | apply pw_below_drewN | apply below_drew1 | refine below_set ?_ GE4806.out | refine below_set ?_ GE4807.out | refine below_set ?_ GE5114.out | refine below_set ?_ GE5118.out | refine below_set ?_ GE5122.out | refine below_set ?_ GE5126.out | refine below_set ?_ GE5130.out | refine below_set ?_ GE5134.out | refine below_set ?_ GE5138.out) | exact HB.out)⟩

end Go.Proofs.Ytcdbmmlnmefoeaa.X
