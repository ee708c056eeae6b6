-- WRITTEN BY printx.py, a program of this session, with the kit's printer
import Derived.Test.YtcdbmmlnmefoeaaX0
import Derived.Test.YtcdbmmlnmefoeaaXEq
import Derived.Test.YtcdbmmlnmefoeaaXWCmp
import Derived.Test.YtcdbmmlnmefoeaaXWMul
import Derived.Test.YtcdbmmlnmefoeaaXSOne
import Derived.Test.YtcdbmmlnmefoeaaHDiv
import Derived.Test.YtcdbmmlnmefoeaaHWide
namespace Go.Proofs.Ytcdbmmlnmefoeaa.X
open Go.RowKit Go.Proofs.YtcdbmmlnmefoeaaW.PrintWords Go.Proofs.YtcdbmmlnmefoeaaW.PrintLast Go.Proofs.YtcdbmmlnmefoeaaW.PrintMore
attribute [local go_sem] max2_int min2_int max_two min_two max_three min_three max_four min_four   -- for this text's walks alone
set_option linter.unusedVariables false
set_option linter.unusedSimpArgs false

attribute [local go_sem high] eqA24
/-! ### demurragelaw01_WideParts: function 9 -/
mutual
def demurragelaw01_WideParts.j0 : Nat → Int → Int → Int → Bool → Int → Int → Int → Int → Bool → Int → Int → Int → Int → Option (Bool)
  | 0, _, _, _, _, _, _, _, _, _, _, _, _, _ => none
  | k + 1, x6, x7, x8, x9, x10, x11, x14, x17, x65, x3472000, x3472001, x3483000, x3483001 => if x65 = true then ((wide_Div.f x3472000 x3472001 (IntKind.u64.wrap (x10 * x11))).bind fun bt4088 => (if bt4088.2.2.2 = 0 then (if (!(bt4088.1 == x3483000) || (!(bt4088.2.1 == x3483001))) = true then (none) else (demurragelaw01_WideParts.j1 k x6 x7 x8 x9 x14 x17)) else (none))) else (demurragelaw01_WideParts.j1 k x6 x7 x8 x9 x14 x17)
def demurragelaw01_WideParts.j1 : Nat → Int → Int → Int → Bool → Int → Int → Option (Bool)
  | 0, _, _, _, _, _, _ => none
  | k + 1, x6, x7, x8, x9, x14, x17 => if x14 = 0 then (if x17 = 0 then (if x7 = 0 then (some x9) else ((wide_Mul.f x6 x7).bind fun bt4438 => ((wide_Of.f (Int.tmod x8 x7)).bind fun bt4440 => ((wide_Add.f bt4438.1 bt4438.2 bt4440.1 bt4440.2).bind fun bt4442 => ((wide_Div.f bt4442.1 bt4442.2.1 x7).bind fun bt4446 => (if x9 = true then (if bt4442.2.2 = 0 then (if bt4446.2.2.2 = 0 then ((wide_Of.f x6).bind fun bt4451 => (if (bt4446.1 == bt4451.1 && (bt4446.2.1 == bt4451.2)) = true then (some (bt4446.2.2.1 == (Int.tmod x8 x7))) else (none))) else (none)) else (none)) else (none))))))) else (none)) else (none)
end
def demurragelaw01_WideParts.f (k : Nat) (a0_0 : Int) (a0_1 : Int) (a0_2 : Int) (a0_3 : Int) (a0_4 : Int) (a0_5 : Int) (a0_6 : Int) : Option (Bool) := (demurragelaw01_shown.f).bind fun t3472 => ((wide_Div.f a0_0 a0_1 (IntKind.u64.wrap (1 + (IntKind.u64.wrap (a0_2))))).bind fun bt3473 => ((wide_Div.f bt3473.1 bt3473.2.1 (IntKind.u64.wrap (1 + (IntKind.u64.wrap (a0_3))))).bind fun bt3478 => (if (IntKind.u64.wrap (1 + (IntKind.u64.wrap (a0_2)))) ≤ 2147483648 then (demurragelaw01_WideParts.j0 k a0_4 a0_5 a0_6 t3472 (IntKind.u64.wrap (1 + (IntKind.u64.wrap (a0_2)))) (IntKind.u64.wrap (1 + (IntKind.u64.wrap (a0_3)))) bt3473.2.2.2 bt3478.2.2.2 (decide ((IntKind.u64.wrap (1 + (IntKind.u64.wrap (a0_3)))) ≤ 2147483648)) a0_0 a0_1 bt3478.1 bt3478.2.1) else (demurragelaw01_WideParts.j0 k a0_4 a0_5 a0_6 t3472 (IntKind.u64.wrap (1 + (IntKind.u64.wrap (a0_2)))) (IntKind.u64.wrap (1 + (IntKind.u64.wrap (a0_3)))) bt3473.2.2.2 bt3478.2.2.2 false a0_0 a0_1 bt3478.1 bt3478.2.1))))
theorem demurragelaw01_WideParts.mono_l : ∀ k, (∀ y0 y1 y2 y3 y4 y5 y6 y7 y8 y9 y10 y11 y12, LeO (demurragelaw01_WideParts.j0 k y0 y1 y2 y3 y4 y5 y6 y7 y8 y9 y10 y11 y12) (demurragelaw01_WideParts.j0 (k + 1) y0 y1 y2 y3 y4 y5 y6 y7 y8 y9 y10 y11 y12)) ∧ (∀ y0 y1 y2 y3 y4 y5, LeO (demurragelaw01_WideParts.j1 k y0 y1 y2 y3 y4 y5) (demurragelaw01_WideParts.j1 (k + 1) y0 y1 y2 y3 y4 y5))
  | 0 => ⟨fun _ _ _ _ _ _ _ _ _ _ _ _ _ r h => by simp [demurragelaw01_WideParts.j0] at h, fun _ _ _ _ _ _ r h => by simp [demurragelaw01_WideParts.j1] at h⟩
  | k + 1 => by
    obtain ⟨ih0, ih1⟩ := demurragelaw01_WideParts.mono_l k
    refine ⟨?_, ?_⟩
    · intro y0 y1 y2 y3 y4 y5 y6 y7 y8 y9 y10 y11 y12
      unfold demurragelaw01_WideParts.j0
      repeat' first
      | (with_reducible exact ih0 _ _ _ _ _ _ _ _ _ _ _ _ _)
      | (with_reducible exact ih1 _ _ _ _ _ _)
      | (with_reducible exact LeO.refl _)
      | (with_reducible exact LeO.none _)
      | (with_reducible refine LeO.ite ?_ ?_)
      | (with_reducible refine LeO.bind ?_ (fun _ => ?_))
      | exact ih0 _ _ _ _ _ _ _ _ _ _ _ _ _
      | exact ih1 _ _ _ _ _ _
      | exact LeO.none _
      | refine LeO.ite ?_ ?_
      | refine LeO.bind ?_ (fun _ => ?_)
    · intro y0 y1 y2 y3 y4 y5
      unfold demurragelaw01_WideParts.j1
      repeat' first
      | (with_reducible exact ih0 _ _ _ _ _ _ _ _ _ _ _ _ _)
      | (with_reducible exact ih1 _ _ _ _ _ _)
      | (with_reducible exact LeO.refl _)
      | (with_reducible exact LeO.none _)
      | (with_reducible refine LeO.ite ?_ ?_)
      | (with_reducible refine LeO.bind ?_ (fun _ => ?_))
      | exact ih0 _ _ _ _ _ _ _ _ _ _ _ _ _
      | exact ih1 _ _ _ _ _ _
      | exact LeO.none _
      | refine LeO.ite ?_ ?_
      | refine LeO.bind ?_ (fun _ => ?_)
theorem demurragelaw01_WideParts.mono : ∀ a0 a1 a2 a3 a4 a5 a6 k, LeO (demurragelaw01_WideParts.f k a0 a1 a2 a3 a4 a5 a6) (demurragelaw01_WideParts.f (k + 1) a0 a1 a2 a3 a4 a5 a6) := by
  intro a0 a1 a2 a3 a4 a5 a6 k
  obtain ⟨ih0, ih1⟩ := demurragelaw01_WideParts.mono_l k
  unfold demurragelaw01_WideParts.f
  repeat' first
      | (with_reducible exact ih0 _ _ _ _ _ _ _ _ _ _ _ _ _)
      | (with_reducible exact ih1 _ _ _ _ _ _)
      | (with_reducible exact LeO.refl _)
      | (with_reducible exact LeO.none _)
      | (with_reducible refine LeO.ite ?_ ?_)
      | (with_reducible refine LeO.bind ?_ (fun _ => ?_))
      | exact ih0 _ _ _ _ _ _ _ _ _ _ _ _ _
      | exact ih1 _ _ _ _ _ _
      | exact LeO.none _
      | refine LeO.ite ?_ ?_
      | refine LeO.bind ?_ (fun _ => ?_)
def demurragelaw01_WideParts.T23 : Bool × List (List Nat × List Nat) := (true, [([], []), ([0], [0]), ([1], [1]), ([2, 1], [1, 2]), ([1, 3], [1, 3]), ([4, 1], [4]), ([5], [5]), ([6, 5], [5, 6]), ([5, 7], [5, 7]), ([8, 5], [8]), ([9], [9]), ([9], [9]), ([11, 9, 9], [9, 11]), ([10, 12, 9], [9, 10, 12]), ([9, 13], [9, 13]), ([14, 12], [14]), ([15], [15]), ([15], [15]), ([16, 17, 15], [15, 16, 17]), ([15, 18], [15, 18]), ([19, 15, 0, 1, 2, 3, 4, 5, 6, 7, 8, 9, 10, 11, 12, 13, 14, 15, 16, 17, 18, 19], [19])])
def demurragelaw01_WideParts.B23 : List Nat := [0, 1, 3, 7, 15, 31, 63, 127, 255, 511, 1023, 1023, 3071, 8191, 16383, 32767, 65535, 65535, 262143, 524287, 1048575]
theorem demurragelaw01_WideParts.tab23 : rtab .any (opsOf Try.f9 23) = demurragelaw01_WideParts.T23 := by kernel_rfl
theorem demurragelaw01_WideParts.bits23 : waitsOk demurragelaw01_WideParts.T23.2 demurragelaw01_WideParts.B23 = true := by kernel_rfl
set_option maxHeartbeats 8000000 in
set_option maxRecDepth 100000 in
theorem demurragelaw01_WideParts.calls (k : Nat) (a0_0 : Int) (a0_1 : Int) (a0_2 : Int) (a0_3 : Int) (a0_4 : Int) (a0_5 : Int) (a0_6 : Int) (r : Bool) (w : World) (h : demurragelaw01_WideParts.f k a0_0 a0_1 a0_2 a0_3 a0_4 a0_5 a0_6 = some r) :
    Calls Try.prog 9 #[.agg #[.int .u64 a0_0, .int .u64 a0_1, .int .u32 a0_2, .int .u32 a0_3, .int .u64 a0_4, .int .u64 a0_5, .int .u64 a0_6]] w fun e w' => e = .returned (.bool r) ∧ Below w.heap.size w w' := by
  have hu54 := Try.underlying54
  have hu24 := Try.underlying24
  have HB := Aside0.mk (Below.refl w.heap.size w)
  have H : ((demurragelaw01_shown.f).bind fun t3472 => ((wide_Div.f a0_0 a0_1 (IntKind.u64.wrap (1 + (IntKind.u64.wrap (a0_2))))).bind fun bt3473 => ((wide_Div.f bt3473.1 bt3473.2.1 (IntKind.u64.wrap (1 + (IntKind.u64.wrap (a0_3))))).bind fun bt3478 => (if (IntKind.u64.wrap (1 + (IntKind.u64.wrap (a0_2)))) ≤ 2147483648 then (demurragelaw01_WideParts.j0 k a0_4 a0_5 a0_6 t3472 (IntKind.u64.wrap (1 + (IntKind.u64.wrap (a0_2)))) (IntKind.u64.wrap (1 + (IntKind.u64.wrap (a0_3)))) bt3473.2.2.2 bt3478.2.2.2 (decide ((IntKind.u64.wrap (1 + (IntKind.u64.wrap (a0_3)))) ≤ 2147483648)) a0_0 a0_1 bt3478.1 bt3478.2.1) else (demurragelaw01_WideParts.j0 k a0_4 a0_5 a0_6 t3472 (IntKind.u64.wrap (1 + (IntKind.u64.wrap (a0_2)))) (IntKind.u64.wrap (1 + (IntKind.u64.wrap (a0_3)))) bt3473.2.2.2 bt3478.2.2.2 false a0_0 a0_1 bt3478.1 bt3478.2.1))))) = some r := h
  clear h
  replace H := Option.bind_eq_some_iff.mp H
  obtain ⟨t3472, A20, H⟩ := H
  replace H : ((wide_Div.f a0_0 a0_1 (IntKind.u64.wrap (1 + (IntKind.u64.wrap (a0_2))))).bind fun bt3473 => ((wide_Div.f bt3473.1 bt3473.2.1 (IntKind.u64.wrap (1 + (IntKind.u64.wrap (a0_3))))).bind fun bt3478 => (if (IntKind.u64.wrap (1 + (IntKind.u64.wrap (a0_2)))) ≤ 2147483648 then (demurragelaw01_WideParts.j0 k a0_4 a0_5 a0_6 t3472 (IntKind.u64.wrap (1 + (IntKind.u64.wrap (a0_2)))) (IntKind.u64.wrap (1 + (IntKind.u64.wrap (a0_3)))) bt3473.2.2.2 bt3478.2.2.2 (decide ((IntKind.u64.wrap (1 + (IntKind.u64.wrap (a0_3)))) ≤ 2147483648)) a0_0 a0_1 bt3478.1 bt3478.2.1) else (demurragelaw01_WideParts.j0 k a0_4 a0_5 a0_6 t3472 (IntKind.u64.wrap (1 + (IntKind.u64.wrap (a0_2)))) (IntKind.u64.wrap (1 + (IntKind.u64.wrap (a0_3)))) bt3473.2.2.2 bt3478.2.2.2 false a0_0 a0_1 bt3478.1 bt3478.2.1)))) = some r := H
  have A2 := Aside0.mk A20
  clear A20
  replace H := Option.bind_eq_some_iff.mp H
  obtain ⟨⟨t3473, t3474, t3475, t3476⟩, A30, H⟩ := H
  replace H : ((wide_Div.f t3473 t3474 (IntKind.u64.wrap (1 + (IntKind.u64.wrap (a0_3))))).bind fun bt3478 => (if (IntKind.u64.wrap (1 + (IntKind.u64.wrap (a0_2)))) ≤ 2147483648 then (demurragelaw01_WideParts.j0 k a0_4 a0_5 a0_6 t3472 (IntKind.u64.wrap (1 + (IntKind.u64.wrap (a0_2)))) (IntKind.u64.wrap (1 + (IntKind.u64.wrap (a0_3)))) t3476 bt3478.2.2.2 (decide ((IntKind.u64.wrap (1 + (IntKind.u64.wrap (a0_3)))) ≤ 2147483648)) a0_0 a0_1 bt3478.1 bt3478.2.1) else (demurragelaw01_WideParts.j0 k a0_4 a0_5 a0_6 t3472 (IntKind.u64.wrap (1 + (IntKind.u64.wrap (a0_2)))) (IntKind.u64.wrap (1 + (IntKind.u64.wrap (a0_3)))) t3476 bt3478.2.2.2 false a0_0 a0_1 bt3478.1 bt3478.2.1))) = some r := H
  have A3 := Aside0.mk A30
  clear A30
  replace H := Option.bind_eq_some_iff.mp H
  obtain ⟨⟨t3478, t3479, t3480, t3481⟩, A40, H⟩ := H
  replace H : (if (IntKind.u64.wrap (1 + (IntKind.u64.wrap (a0_2)))) ≤ 2147483648 then (demurragelaw01_WideParts.j0 k a0_4 a0_5 a0_6 t3472 (IntKind.u64.wrap (1 + (IntKind.u64.wrap (a0_2)))) (IntKind.u64.wrap (1 + (IntKind.u64.wrap (a0_3)))) t3476 t3481 (decide ((IntKind.u64.wrap (1 + (IntKind.u64.wrap (a0_3)))) ≤ 2147483648)) a0_0 a0_1 t3478 t3479) else (demurragelaw01_WideParts.j0 k a0_4 a0_5 a0_6 t3472 (IntKind.u64.wrap (1 + (IntKind.u64.wrap (a0_2)))) (IntKind.u64.wrap (1 + (IntKind.u64.wrap (a0_3)))) t3476 t3481 false a0_0 a0_1 t3478 t3479)) = some r := H
  have A4 := Aside0.mk A40
  clear A40
  have HC5 := Aside0.mk H
  clear H
  go_enter Try.func9, Try.ntmps9
  go_upto_region 12 with (first | ((with_reducible refine gate_dst (N := 1) rfl ?_); refine box_event ?hg (N := 1) ?hd (cs := #[.int .u64 a0_0, .int .u64 a0_1, .int .u32 a0_2, .int .u32 a0_3, .int .u64 a0_4, .int .u64 a0_5, .int .u64 a0_6]) (t := 54) ?hr ?_; (case hd => rfl); (case hg => rfl); (case hr => first | (go_simp; done) | (go_simp; rfl)); intro gb3470 hg w6 hbox hb; have n0_ := Aside0.mk (below_step (by repeat (first | (with_reducible first | exact HB.out | apply below_alloc | apply pw_below_drewN | apply below_drew1) | exact HB.out)) hb); have n1_ := Aside0.mk (hbox); have n2_ := Aside0.mk ((by rw [hg]; exact (below_size (by repeat (first | (with_reducible first | exact HB.out | apply below_alloc | apply pw_below_drewN | apply below_drew1) | exact HB.out))) : w.heap.size ≤ gb3470)); have n3_ := Aside0.mk ((by rw [hg]; exact (below_size (by repeat (first | (with_reducible first | exact HB.out | apply below_alloc | apply pw_below_drewN | apply below_drew1) | exact HB.out))) : w.heap.size ≤ gb3470)); clear HB; have HB := n0_; have BK3470 := n1_; have GW3470 := n2_; have GE3470 := n3_; clear n0_ n1_ n2_ n3_; clear hb hbox hg; have hcz7_0 : w6.cell? ⟨gb3470, 0, none⟩ = some (.int .u64 a0_0) := (blk_cell BK3470.out 0).trans rfl; have hcz7_1 : w6.cell? ⟨gb3470, 1, none⟩ = some (.int .u64 a0_1) := (blk_cell BK3470.out 1).trans rfl; have hcz7_2 : w6.cell? ⟨gb3470, 2, none⟩ = some (.int .u32 a0_2) := (blk_cell BK3470.out 2).trans rfl; have hcz7_3 : w6.cell? ⟨gb3470, 3, none⟩ = some (.int .u32 a0_3) := (blk_cell BK3470.out 3).trans rfl; have hcz7_4 : w6.cell? ⟨gb3470, 4, none⟩ = some (.int .u64 a0_4) := (blk_cell BK3470.out 4).trans rfl; have hcz7_5 : w6.cell? ⟨gb3470, 5, none⟩ = some (.int .u64 a0_5) := (blk_cell BK3470.out 5).trans rfl; have hcz7_6 : w6.cell? ⟨gb3470, 6, none⟩ = some (.int .u64 a0_6) := (blk_cell BK3470.out 6).trans rfl; have hfz7_0 := blk_frozen BK3470.out 0; have hfz7_1 := blk_frozen BK3470.out 1; have hfz7_2 := blk_frozen BK3470.out 2; have hfz7_3 := blk_frozen BK3470.out 3; have hfz7_4 := blk_frozen BK3470.out 4; have hfz7_5 := blk_frozen BK3470.out 5; have hfz7_6 := blk_frozen BK3470.out 6) | ((with_reducible refine gate_dst (N := 3) rfl ?_); refine box_event ?hg (N := 3) ?hd (cs := #[.int .u64 0, .int .u64 0]) (t := 24) ?hr ?_; (case hd => rfl); (case hg => rfl); (case hr => first | (go_simp; done) | (go_simp; rfl)); intro gb3471 hg w8 hbox hb; have n0_ := Aside0.mk (blk_below (g := gb3470) (o := .cells #[.int .u64 a0_0, .int .u64 a0_1, .int .u32 a0_2, .int .u32 a0_3, .int .u64 a0_4, .int .u64 a0_5, .int .u64 a0_6] 54 (0, 0)) (by (with_reducible repeat (first | refine blk_drewN ?_ _ | refine blk_drew ?_ | refine blk_alloc ?_ _)); exact BK3470.out) hb); have n1_ := Aside0.mk (below_step (by repeat (first | (with_reducible first | exact HB.out | apply below_alloc | apply pw_below_drewN | apply below_drew1 | refine below_set ?_ GE3470.out) | exact HB.out)) hb); have n2_ := Aside0.mk (hbox); have n3_ := Aside0.mk ((by rw [hg]; exact (below_size (by repeat (first | (with_reducible first | exact HB.out | apply below_alloc | apply pw_below_drewN | apply below_drew1 | refine below_set ?_ GE3470.out) | exact HB.out))) : w.heap.size ≤ gb3471)); have n4_ := Aside0.mk ((by rw [hg]; exact (below_size (by repeat (first | (with_reducible first | exact HB.out | apply below_alloc | apply pw_below_drewN | apply below_drew1 | refine below_set ?_ GE3470.out) | exact HB.out))) : w.heap.size ≤ gb3471)); have n5_ := Aside0.mk ((by rw [hg]; exact Nat.ne_of_lt (blk_lt (g := gb3470) (o := .cells #[.int .u64 a0_0, .int .u64 a0_1, .int .u32 a0_2, .int .u32 a0_3, .int .u64 a0_4, .int .u64 a0_5, .int .u64 a0_6] 54 (0, 0)) (by (with_reducible repeat (first | refine blk_drewN ?_ _ | refine blk_drew ?_ | refine blk_alloc ?_ _)); exact BK3470.out)) : gb3470 ≠ gb3471)); have n6_ := Aside0.mk ((by rw [hg]; exact Nat.ne_of_gt (blk_lt (g := gb3470) (o := .cells #[.int .u64 a0_0, .int .u64 a0_1, .int .u32 a0_2, .int .u32 a0_3, .int .u64 a0_4, .int .u64 a0_5, .int .u64 a0_6] 54 (0, 0)) (by (with_reducible repeat (first | refine blk_drewN ?_ _ | refine blk_drew ?_ | refine blk_alloc ?_ _)); exact BK3470.out)) : gb3471 ≠ gb3470)); clear BK3470; clear HB; have BK3470 := n0_; have HB := n1_; have BK3471 := n2_; have GW3471 := n3_; have GE3471 := n4_; have NB3470_3471 := n5_; have NB3471_3470 := n6_; clear n0_ n1_ n2_ n3_ n4_ n5_ n6_; clear hb hbox hg; have hnb9 := NB3471_3470.out; have hnc9 := NB3470_3471.out; have hcz10_0 : w8.cell? ⟨gb3471, 0, none⟩ = some (.int .u64 0) := (blk_cell BK3471.out 0).trans rfl; have hcz10_1 : w8.cell? ⟨gb3471, 1, none⟩ = some (.int .u64 0) := (blk_cell BK3471.out 1).trans rfl; have hfz10_0 := blk_frozen BK3471.out 0; have hfz10_1 := blk_frozen BK3471.out 1; have hcz11_0 : w8.cell? ⟨gb3470, 0, none⟩ = some (.int .u64 a0_0) := (blk_cell BK3470.out 0).trans rfl; have hcz11_1 : w8.cell? ⟨gb3470, 1, none⟩ = some (.int .u64 a0_1) := (blk_cell BK3470.out 1).trans rfl; have hcz11_2 : w8.cell? ⟨gb3470, 2, none⟩ = some (.int .u32 a0_2) := (blk_cell BK3470.out 2).trans rfl; have hcz11_3 : w8.cell? ⟨gb3470, 3, none⟩ = some (.int .u32 a0_3) := (blk_cell BK3470.out 3).trans rfl; have hcz11_4 : w8.cell? ⟨gb3470, 4, none⟩ = some (.int .u64 a0_4) := (blk_cell BK3470.out 4).trans rfl; have hcz11_5 : w8.cell? ⟨gb3470, 5, none⟩ = some (.int .u64 a0_5) := (blk_cell BK3470.out 5).trans rfl; have hcz11_6 : w8.cell? ⟨gb3470, 6, none⟩ = some (.int .u64 a0_6) := (blk_cell BK3470.out 6).trans rfl; have hfz11_0 := blk_frozen BK3470.out 0; have hfz11_1 := blk_frozen BK3470.out 1; have hfz11_2 := blk_frozen BK3470.out 2; have hfz11_3 := blk_frozen BK3470.out 3; have hfz11_4 := blk_frozen BK3470.out 4; have hfz11_5 := blk_frozen BK3470.out 5; have hfz11_6 := blk_frozen BK3470.out 6) | ((with_reducible refine gate_callee (f := 22) rfl ?_); refine goesL_ (some 39) rfl rfl Try.func22 (by kernel_rfl) rfl #[] rfl (by (try simp only [List.map_toArray, List.map_cons, List.map_nil]); first | done | rfl | (simp only [List.length_drop, List.length_take]; rfl)) ?_; (with_reducible refine (demurragelaw01_shown.calls  t3472 _ A2.out).mono ?_); rintro e w12 ⟨rfl, hb⟩; refine ⟨_, rfl, ?_⟩; have n0_ := Aside0.mk (blk_below (g := gb3470) (o := .cells #[.int .u64 a0_0, .int .u64 a0_1, .int .u32 a0_2, .int .u32 a0_3, .int .u64 a0_4, .int .u64 a0_5, .int .u64 a0_6] 54 (0, 0)) (by (with_reducible repeat (first | refine blk_drewN ?_ _ | refine blk_drew ?_ | refine blk_alloc ?_ _)); refine blk_far ?_ NB3470_3471.out _; (with_reducible repeat (first | refine blk_drewN ?_ _ | refine blk_drew ?_ | refine blk_alloc ?_ _)); refine blk_far ?_ NB3470_3471.out _; (with_reducible repeat (first | refine blk_drewN ?_ _ | refine blk_drew ?_ | refine blk_alloc ?_ _)); exact BK3470.out) hb); have n1_ := Aside0.mk (blk_below (g := gb3471) (o := .cells #[.int .u64 a0_0, .int .u64 a0_1] 24 (0, 0)) (by (with_reducible repeat (first | refine blk_drewN ?_ _ | refine blk_drew ?_ | refine blk_alloc ?_ _)); refine blk_put (cs := #[.int .u64 a0_0, .int .u64 0]) ?_ 1 _ rfl; (with_reducible repeat (first | refine blk_drewN ?_ _ | refine blk_drew ?_ | refine blk_alloc ?_ _)); refine blk_put (cs := #[.int .u64 0, .int .u64 0]) ?_ 0 _ rfl; (with_reducible repeat (first | refine blk_drewN ?_ _ | refine blk_drew ?_ | refine blk_alloc ?_ _)); exact BK3471.out) hb); have n2_ := Aside0.mk (below_step (by repeat (first | (with_reducible first | exact HB.out | apply below_alloc | apply pw_below_drewN | apply below_drew1 | refine below_set ?_ GE3470.out | refine below_set ?_ GE3471.out) | exact HB.out)) hb); clear BK3470; clear BK3471; clear HB; have BK3470 := n0_; have BK3471 := n1_; have HB := n2_; clear n0_ n1_ n2_; (try clear hb); (try clear hb2); (try clear hk); (try clear hi); have hcz13_0 : w12.cell? ⟨gb3471, 0, none⟩ = some (.int .u64 a0_0) := (blk_cell BK3471.out 0).trans rfl; have hcz13_1 : w12.cell? ⟨gb3471, 1, none⟩ = some (.int .u64 a0_1) := (blk_cell BK3471.out 1).trans rfl; have hfz13_0 := blk_frozen BK3471.out 0; have hfz13_1 := blk_frozen BK3471.out 1) | ((with_reducible refine gate_callee (f := 37) rfl ?_); refine goesL_ (some 49) rfl rfl Try.func37 (by kernel_rfl) rfl #[.agg #[.int .u64 a0_0, .int .u64 a0_1], .int .u64 (IntKind.u64.wrap (1 + (IntKind.u64.wrap (a0_2))))] rfl (by (try simp only [List.map_toArray, List.map_cons, List.map_nil]); first | done | rfl | (simp only [List.length_drop, List.length_take]; rfl)) ?_; (with_reducible refine (wide_Div.calls a0_0 a0_1 (IntKind.u64.wrap (1 + (IntKind.u64.wrap (a0_2)))) t3473 t3474 t3475 t3476 _ A3.out).mono ?_); rintro e w14 ⟨rfl, hb⟩; refine ⟨_, rfl, ?_⟩; have n0_ := Aside0.mk (blk_below (g := gb3470) (o := .cells #[.int .u64 a0_0, .int .u64 a0_1, .int .u32 a0_2, .int .u32 a0_3, .int .u64 a0_4, .int .u64 a0_5, .int .u64 a0_6] 54 (0, 0)) (by (with_reducible repeat (first | refine blk_drewN ?_ _ | refine blk_drew ?_ | refine blk_alloc ?_ _)); exact BK3470.out) hb); have n1_ := Aside0.mk (blk_below (g := gb3471) (o := .cells #[.int .u64 a0_0, .int .u64 a0_1] 24 (0, 0)) (by (with_reducible repeat (first | refine blk_drewN ?_ _ | refine blk_drew ?_ | refine blk_alloc ?_ _)); exact BK3471.out) hb); have n2_ := Aside0.mk (below_step (by repeat (first | (with_reducible first | exact HB.out | apply below_alloc | apply pw_below_drewN | apply below_drew1 | refine below_set ?_ GE3470.out | refine below_set ?_ GE3471.out) | exact HB.out)) hb); clear BK3470; clear BK3471; clear HB; have BK3470 := n0_; have BK3471 := n1_; have HB := n2_; clear n0_ n1_ n2_; (try clear hb); (try clear hb2); (try clear hk); (try clear hi)) | ((with_reducible refine gate_dst (N := 12) rfl ?_); refine box_event ?hg (N := 12) ?hd (cs := #[.int .u64 0, .int .u64 0]) (t := 24) ?hr ?_; (case hd => rfl); (case hg => rfl); (case hr => first | (go_simp; done) | (go_simp; rfl)); intro gb3477 hg w15 hbox hb; have n0_ := Aside0.mk (blk_below (g := gb3470) (o := .cells #[.int .u64 a0_0, .int .u64 a0_1, .int .u32 a0_2, .int .u32 a0_3, .int .u64 a0_4, .int .u64 a0_5, .int .u64 a0_6] 54 (0, 0)) (by (with_reducible repeat (first | refine blk_drewN ?_ _ | refine blk_drew ?_ | refine blk_alloc ?_ _)); exact BK3470.out) hb); have n1_ := Aside0.mk (blk_below (g := gb3471) (o := .cells #[.int .u64 a0_0, .int .u64 a0_1] 24 (0, 0)) (by (with_reducible repeat (first | refine blk_drewN ?_ _ | refine blk_drew ?_ | refine blk_alloc ?_ _)); exact BK3471.out) hb); have n2_ := Aside0.mk (below_step (by repeat (first | (with_reducible first | exact HB.out | apply below_alloc | apply pw_below_drewN | apply below_drew1 | refine below_set ?_ GE3470.out | refine below_set ?_ GE3471.out) | exact HB.out)) hb); have n3_ := Aside0.mk (hbox); have n4_ := Aside0.mk ((by rw [hg]; exact (below_size (by repeat (first | (with_reducible first | exact HB.out | apply below_alloc | apply pw_below_drewN | apply below_drew1 | refine below_set ?_ GE3470.out | refine below_set ?_ GE3471.out) | exact HB.out))) : w.heap.size ≤ gb3477)); have n5_ := Aside0.mk ((by rw [hg]; exact (below_size (by repeat (first | (with_reducible first | exact HB.out | apply below_alloc | apply pw_below_drewN | apply below_drew1 | refine below_set ?_ GE3470.out | refine below_set ?_ GE3471.out) | exact HB.out))) : w.heap.size ≤ gb3477)); have n6_ := Aside0.mk ((by rw [hg]; exact Nat.ne_of_lt (blk_lt (g := gb3470) (o := .cells #[.int .u64 a0_0, .int .u64 a0_1, .int .u32 a0_2, .int .u32 a0_3, .int .u64 a0_4, .int .u64 a0_5, .int .u64 a0_6] 54 (0, 0)) (by (with_reducible repeat (first | refine blk_drewN ?_ _ | refine blk_drew ?_ | refine blk_alloc ?_ _)); exact BK3470.out)) : gb3470 ≠ gb3477)); have n7_ := Aside0.mk ((by rw [hg]; exact Nat.ne_of_gt (blk_lt (g := gb3470) (o := .cells #[.int .u64 a0_0, .int .u64 a0_1, .int .u32 a0_2, .int .u32 a0_3, .int .u64 a0_4, .int .u64 a0_5, .int .u64 a0_6] 54 (0, 0)) (by (with_reducible repeat (first | refine blk_drewN ?_ _ | refine blk_drew ?_ | refine blk_alloc ?_ _)); exact BK3470.out)) : gb3477 ≠ gb3470)); have n8_ := Aside0.mk ((by rw [hg]; exact Nat.ne_of_lt (blk_lt (g := gb3471) (o := .cells #[.int .u64 a0_0, .int .u64 a0_1] 24 (0, 0)) (by (with_reducible repeat (first | refine blk_drewN ?_ _ | refine blk_drew ?_ | refine blk_alloc ?_ _)); exact BK3471.out)) : gb3471 ≠ gb3477)); have n9_ := Aside0.mk ((by rw [hg]; exact Nat.ne_of_gt (blk_lt (g := gb3471) (o := .cells #[.int .u64 a0_0, .int .u64 a0_1] 24 (0, 0)) (by (with_reducible repeat (first | refine blk_drewN ?_ _ | refine blk_drew ?_ | refine blk_alloc ?_ _)); exact BK3471.out)) : gb3477 ≠ gb3471)); clear BK3470; clear BK3471; clear HB; have BK3470 := n0_; have BK3471 := n1_; have HB := n2_; have BK3477 := n3_; have GW3477 := n4_; have GE3477 := n5_; have NB3470_3477 := n6_; have NB3477_3470 := n7_; have NB3471_3477 := n8_; have NB3477_3471 := n9_; clear n0_ n1_ n2_ n3_ n4_ n5_ n6_ n7_ n8_ n9_; clear hb hbox hg; have hnb16 := NB3477_3470.out; have hnc16 := NB3470_3477.out; have hnb17 := NB3477_3471.out; have hnc17 := NB3471_3477.out; have hcz18_0 : w15.cell? ⟨gb3477, 0, none⟩ = some (.int .u64 0) := (blk_cell BK3477.out 0).trans rfl; have hcz18_1 : w15.cell? ⟨gb3477, 1, none⟩ = some (.int .u64 0) := (blk_cell BK3477.out 1).trans rfl; have hfz18_0 := blk_frozen BK3477.out 0; have hfz18_1 := blk_frozen BK3477.out 1) | ((with_reducible refine gate_callee (f := 37) rfl ?_); refine goesL_ (some 56) rfl rfl Try.func37 (by kernel_rfl) rfl #[.agg #[.int .u64 t3473, .int .u64 t3474], .int .u64 (IntKind.u64.wrap (1 + (IntKind.u64.wrap (a0_3))))] rfl (by (try simp only [List.map_toArray, List.map_cons, List.map_nil]); first | done | rfl | (simp only [List.length_drop, List.length_take]; rfl)) ?_; (with_reducible refine (wide_Div.calls t3473 t3474 (IntKind.u64.wrap (1 + (IntKind.u64.wrap (a0_3)))) t3478 t3479 t3480 t3481 _ A4.out).mono ?_); rintro e w19 ⟨rfl, hb⟩; refine ⟨_, rfl, ?_⟩; have n0_ := Aside0.mk (blk_below (g := gb3470) (o := .cells #[.int .u64 a0_0, .int .u64 a0_1, .int .u32 a0_2, .int .u32 a0_3, .int .u64 a0_4, .int .u64 a0_5, .int .u64 a0_6] 54 (0, 0)) (by (with_reducible repeat (first | refine blk_drewN ?_ _ | refine blk_drew ?_ | refine blk_alloc ?_ _)); refine blk_far ?_ NB3470_3477.out _; (with_reducible repeat (first | refine blk_drewN ?_ _ | refine blk_drew ?_ | refine blk_alloc ?_ _)); refine blk_far ?_ NB3470_3477.out _; (with_reducible repeat (first | refine blk_drewN ?_ _ | refine blk_drew ?_ | refine blk_alloc ?_ _)); exact BK3470.out) hb); have n1_ := Aside0.mk (blk_below (g := gb3471) (o := .cells #[.int .u64 a0_0, .int .u64 a0_1] 24 (0, 0)) (by (with_reducible repeat (first | refine blk_drewN ?_ _ | refine blk_drew ?_ | refine blk_alloc ?_ _)); refine blk_far ?_ NB3471_3477.out _; (with_reducible repeat (first | refine blk_drewN ?_ _ | refine blk_drew ?_ | refine blk_alloc ?_ _)); refine blk_far ?_ NB3471_3477.out _; (with_reducible repeat (first | refine blk_drewN ?_ _ | refine blk_drew ?_ | refine blk_alloc ?_ _)); exact BK3471.out) hb); have n2_ := Aside0.mk (blk_below (g := gb3477) (o := .cells #[.int .u64 t3473, .int .u64 t3474] 24 (0, 0)) (by (with_reducible repeat (first | refine blk_drewN ?_ _ | refine blk_drew ?_ | refine blk_alloc ?_ _)); refine blk_put (cs := #[.int .u64 t3473, .int .u64 0]) ?_ 1 _ rfl; (with_reducible repeat (first | refine blk_drewN ?_ _ | refine blk_drew ?_ | refine blk_alloc ?_ _)); refine blk_put (cs := #[.int .u64 0, .int .u64 0]) ?_ 0 _ rfl; (with_reducible repeat (first | refine blk_drewN ?_ _ | refine blk_drew ?_ | refine blk_alloc ?_ _)); exact BK3477.out) hb); have n3_ := Aside0.mk (below_step (by repeat (first | (with_reducible first | exact HB.out | apply below_alloc | apply pw_below_drewN | apply below_drew1 | refine below_set ?_ GE3470.out | refine below_set ?_ GE3471.out | refine below_set ?_ GE3477.out) | exact HB.out)) hb); clear BK3470; clear BK3471; clear BK3477; clear HB; have BK3470 := n0_; have BK3471 := n1_; have BK3477 := n2_; have HB := n3_; clear n0_ n1_ n2_ n3_; (try clear hb); (try clear hb2); (try clear hk); (try clear hi)) | ((with_reducible refine gate_dst (N := 15) rfl ?_); refine box_event ?hg (N := 15) ?hd (cs := #[.int .u64 0, .int .u64 0]) (t := 24) ?hr ?_; (case hd => rfl); (case hg => rfl); (case hr => first | (go_simp; done) | (go_simp; rfl)); intro gb3482 hg w20 hbox hb; have n0_ := Aside0.mk (blk_below (g := gb3470) (o := .cells #[.int .u64 a0_0, .int .u64 a0_1, .int .u32 a0_2, .int .u32 a0_3, .int .u64 a0_4, .int .u64 a0_5, .int .u64 a0_6] 54 (0, 0)) (by (with_reducible repeat (first | refine blk_drewN ?_ _ | refine blk_drew ?_ | refine blk_alloc ?_ _)); exact BK3470.out) hb); have n1_ := Aside0.mk (blk_below (g := gb3471) (o := .cells #[.int .u64 a0_0, .int .u64 a0_1] 24 (0, 0)) (by (with_reducible repeat (first | refine blk_drewN ?_ _ | refine blk_drew ?_ | refine blk_alloc ?_ _)); exact BK3471.out) hb); have n2_ := Aside0.mk (blk_below (g := gb3477) (o := .cells #[.int .u64 t3473, .int .u64 t3474] 24 (0, 0)) (by (with_reducible repeat (first | refine blk_drewN ?_ _ | refine blk_drew ?_ | refine blk_alloc ?_ _)); exact BK3477.out) hb); have n3_ := Aside0.mk (below_step (by repeat (first | (with_reducible first | exact HB.out | apply below_alloc | apply pw_below_drewN | apply below_drew1 | refine below_set ?_ GE3470.out | refine below_set ?_ GE3471.out | refine below_set ?_ GE3477.out) | exact HB.out)) hb); have n4_ := Aside0.mk (hbox); have n5_ := Aside0.mk ((by rw [hg]; exact (below_size (by repeat (first | (with_reducible first | exact HB.out | apply below_alloc | apply pw_below_drewN | apply below_drew1 | refine below_set ?_ GE3470.out | refine below_set ?_ GE3471.out | refine below_set ?_ GE3477.out) | exact HB.out))) : w.heap.size ≤ gb3482)); have n6_ := Aside0.mk ((by rw [hg]; exact (below_size (by repeat (first | (with_reducible first | exact HB.out | apply below_alloc | apply pw_below_drewN | apply below_drew1 | refine below_set ?_ GE3470.out | refine below_set ?_ GE3471.out | refine below_set ?_ GE3477.out) | exact HB.out))) : w.heap.size ≤ gb3482)); have n7_ := Aside0.mk ((by rw [hg]; exact Nat.ne_of_lt (blk_lt (g := gb3470) (o := .cells #[.int .u64 a0_0, .int .u64 a0_1, .int .u32 a0_2, .int .u32 a0_3, .int .u64 a0_4, .int .u64 a0_5, .int .u64 a0_6] 54 (0, 0)) (by (with_reducible repeat (first | refine blk_drewN ?_ _ | refine blk_drew ?_ | refine blk_alloc ?_ _)); exact BK3470.out)) : gb3470 ≠ gb3482)); have n8_ := Aside0.mk ((by rw [hg]; exact Nat.ne_of_gt (blk_lt (g := gb3470) (o := .cells #[.int .u64 a0_0, .int .u64 a0_1, .int .u32 a0_2, .int .u32 a0_3, .int .u64 a0_4, .int .u64 a0_5, .int .u64 a0_6] 54 (0, 0)) (by (with_reducible repeat (first | refine blk_drewN ?_ _ | refine blk_drew ?_ | refine blk_alloc ?_ _)); exact BK3470.out)) : gb3482 ≠ gb3470)); have n9_ := Aside0.mk ((by rw [hg]; exact Nat.ne_of_lt (blk_lt (g := gb3471) (o := .cells #[.int .u64 a0_0, .int .u64 a0_1] 24 (0, 0)) (by (with_reducible repeat (first | refine blk_drewN ?_ _ | refine blk_drew ?_ | refine blk_alloc ?_ _)); exact BK3471.out)) : gb3471 ≠ gb3482)); have n10_ := Aside0.mk ((by rw [hg]; exact Nat.ne_of_gt (blk_lt (g := gb3471) (o := .cells #[.int .u64 a0_0, .int .u64 a0_1] 24 (0, 0)) (by (with_reducible repeat (first | refine blk_drewN ?_ _ | refine blk_drew ?_ | refine blk_alloc ?_ _)); exact BK3471.out)) : gb3482 ≠ gb3471)); have n11_ := Aside0.mk ((by rw [hg]; exact Nat.ne_of_lt (blk_lt (g := gb3477) (o := .cells #[.int .u64 t3473, .int .u64 t3474] 24 (0, 0)) (by (with_reducible repeat (first | refine blk_drewN ?_ _ | refine blk_drew ?_ | refine blk_alloc ?_ _)); exact BK3477.out)) : gb3477 ≠ gb3482)); have n12_ := Aside0.mk ((by rw [hg]; exact Nat.ne_of_gt (blk_lt (g := gb3477) (o := .cells #[.int .u64 t3473, .int .u64 t3474] 24 (0, 0)) (by (with_reducible repeat (first | refine blk_drewN ?_ _ | refine blk_drew ?_ | refine blk_alloc ?_ _)); exact BK3477.out)) : gb3482 ≠ gb3477)); clear BK3470; clear BK3471; clear BK3477; clear HB; have BK3470 := n0_; have BK3471 := n1_; have BK3477 := n2_; have HB := n3_; have BK3482 := n4_; have GW3482 := n5_; have GE3482 := n6_; have NB3470_3482 := n7_; have NB3482_3470 := n8_; have NB3471_3482 := n9_; have NB3482_3471 := n10_; have NB3477_3482 := n11_; have NB3482_3477 := n12_; clear n0_ n1_ n2_ n3_ n4_ n5_ n6_ n7_ n8_ n9_ n10_ n11_ n12_; clear hb hbox hg; have hnb21 := NB3482_3470.out; have hnc21 := NB3470_3482.out; have hnb22 := NB3482_3471.out; have hnc22 := NB3471_3482.out; have hnb23 := NB3482_3477.out; have hnc23 := NB3477_3482.out; have hcz24_0 : w20.cell? ⟨gb3482, 0, none⟩ = some (.int .u64 0) := (blk_cell BK3482.out 0).trans rfl; have hcz24_1 : w20.cell? ⟨gb3482, 1, none⟩ = some (.int .u64 0) := (blk_cell BK3482.out 1).trans rfl; have hfz24_0 := blk_frozen BK3482.out 0; have hfz24_1 := blk_frozen BK3482.out 1))
  (try simp only [Act.put, List.setIfInBounds_toArray, List.set_cons_zero, List.set_cons_succ])
  go_cut [65] (fun v65 wc => ∃ (kq : Nat) (x65_4 : Bool), v65 = .bool x65_4 ∧ Aside0 (demurragelaw01_WideParts.j0 kq a0_4 a0_5 a0_6 t3472 (IntKind.u64.wrap (1 + (IntKind.u64.wrap (a0_2)))) (IntKind.u64.wrap (1 + (IntKind.u64.wrap (a0_3)))) t3476 t3481 x65_4 a0_0 a0_1 t3478 t3479 = some r) ∧ Aside0 (kq ≤ k) ∧ Aside0 (wc.heap[gb3470]? = some (.cells #[.int .u64 a0_0, .int .u64 a0_1, .int .u32 a0_2, .int .u32 a0_3, .int .u64 a0_4, .int .u64 a0_5, .int .u64 a0_6] 54 (0, 0))) ∧ Aside0 (wc.heap[gb3471]? = some (.cells #[.int .u64 a0_0, .int .u64 a0_1] 24 (0, 0))) ∧ Aside0 (wc.heap[gb3477]? = some (.cells #[.int .u64 t3473, .int .u64 t3474] 24 (0, 0))) ∧ Aside0 (wc.heap[gb3482]? = some (.cells #[.int .u64 t3478, .int .u64 t3479] 24 (0, 0))) ∧ Aside0 (Below w.heap.size w wc))
  case first =>
    have H := HC5.out
    clear HC5
    by_cases c25 : (IntKind.u64.wrap (1 + (IntKind.u64.wrap (a0_2)))) ≤ 2147483648
    · rw [if_pos c25] at H
      have c25b0 : decide ((IntKind.u64.wrap (1 + (IntKind.u64.wrap (a0_2)))) ≤ 2147483648) = true := decide_eq_true c25
      clear c25
      (first | rw [c25b0] | (simp only [i64_w, i32_w]; rw [c25b0]) | rw [c25b1] | skip)
      have H' := Aside0.mk H
      clear H
      go_wp2
      go_meet
      case rel => exact ⟨_, (decide ((IntKind.u64.wrap (1 + (IntKind.u64.wrap (a0_3)))) ≤ 2147483648)), (by first | rfl | (simp; done) | (simp [*]; done)), H', ⟨by first | omega | exact Nat.le_refl _⟩, ⟨by (with_reducible repeat (first | refine blk_drewN ?_ _ | refine blk_drew ?_ | refine blk_alloc ?_ _)); refine blk_far ?_ NB3470_3482.out _; (with_reducible repeat (first | refine blk_drewN ?_ _ | refine blk_drew ?_ | refine blk_alloc ?_ _)); refine blk_far ?_ NB3470_3482.out _; (with_reducible repeat (first | refine blk_drewN ?_ _ | refine blk_drew ?_ | refine blk_alloc ?_ _)); exact BK3470.out⟩, ⟨by (with_reducible repeat (first | refine blk_drewN ?_ _ | refine blk_drew ?_ | refine blk_alloc ?_ _)); refine blk_far ?_ NB3471_3482.out _; (with_reducible repeat (first | refine blk_drewN ?_ _ | refine blk_drew ?_ | refine blk_alloc ?_ _)); refine blk_far ?_ NB3471_3482.out _; (with_reducible repeat (first | refine blk_drewN ?_ _ | refine blk_drew ?_ | refine blk_alloc ?_ _)); exact BK3471.out⟩, ⟨by (with_reducible repeat (first | refine blk_drewN ?_ _ | refine blk_drew ?_ | refine blk_alloc ?_ _)); refine blk_far ?_ NB3477_3482.out _; (with_reducible repeat (first | refine blk_drewN ?_ _ | refine blk_drew ?_ | refine blk_alloc ?_ _)); refine blk_far ?_ NB3477_3482.out _; (with_reducible repeat (first | refine blk_drewN ?_ _ | refine blk_drew ?_ | refine blk_alloc ?_ _)); exact BK3477.out⟩, ⟨by (with_reducible repeat (first | refine blk_drewN ?_ _ | refine blk_drew ?_ | refine blk_alloc ?_ _)); refine blk_put (cs := #[.int .u64 t3478, .int .u64 0]) ?_ 1 _ rfl; (with_reducible repeat (first | refine blk_drewN ?_ _ | refine blk_drew ?_ | refine blk_alloc ?_ _)); refine blk_put (cs := #[.int .u64 0, .int .u64 0]) ?_ 0 _ rfl; (with_reducible repeat (first | refine blk_drewN ?_ _ | refine blk_drew ?_ | refine blk_alloc ?_ _)); exact BK3482.out⟩, ⟨by repeat (first | (with_reducible first | exact HB.out | apply below_alloc | apply pw_below_drewN | apply below_drew1 | refine below_set ?_ GE3470.out | refine below_set ?_ GE3471.out | refine below_set ?_ GE3477.out | refine below_set ?_ GE3482.out) | exact HB.out)⟩⟩
    · rw [if_neg c25] at H
      have c25b0 : decide ((IntKind.u64.wrap (1 + (IntKind.u64.wrap (a0_2)))) ≤ 2147483648) = false := decide_eq_false c25
      clear c25
      (first | rw [c25b0] | (simp only [i64_w, i32_w]; rw [c25b0]) | rw [c25b1] | skip)
      have H' := Aside0.mk H
      clear H
      go_wp2
      go_meet
      case rel => exact ⟨_, (false), (by first | rfl | (simp; done) | (simp [*]; done)), H', ⟨by first | omega | exact Nat.le_refl _⟩, ⟨by (with_reducible repeat (first | refine blk_drewN ?_ _ | refine blk_drew ?_ | refine blk_alloc ?_ _)); refine blk_far ?_ NB3470_3482.out _; (with_reducible repeat (first | refine blk_drewN ?_ _ | refine blk_drew ?_ | refine blk_alloc ?_ _)); refine blk_far ?_ NB3470_3482.out _; (with_reducible repeat (first | refine blk_drewN ?_ _ | refine blk_drew ?_ | refine blk_alloc ?_ _)); exact BK3470.out⟩, ⟨by (with_reducible repeat (first | refine blk_drewN ?_ _ | refine blk_drew ?_ | refine blk_alloc ?_ _)); refine blk_far ?_ NB3471_3482.out _; (with_reducible repeat (first | refine blk_drewN ?_ _ | refine blk_drew ?_ | refine blk_alloc ?_ _)); refine blk_far ?_ NB3471_3482.out _; (with_reducible repeat (first | refine blk_drewN ?_ _ | refine blk_drew ?_ | refine blk_alloc ?_ _)); exact BK3471.out⟩, ⟨by (with_reducible repeat (first | refine blk_drewN ?_ _ | refine blk_drew ?_ | refine blk_alloc ?_ _)); refine blk_far ?_ NB3477_3482.out _; (with_reducible repeat (first | refine blk_drewN ?_ _ | refine blk_drew ?_ | refine blk_alloc ?_ _)); refine blk_far ?_ NB3477_3482.out _; (with_reducible repeat (first | refine blk_drewN ?_ _ | refine blk_drew ?_ | refine blk_alloc ?_ _)); exact BK3477.out⟩, ⟨by (with_reducible repeat (first | refine blk_drewN ?_ _ | refine blk_drew ?_ | refine blk_alloc ?_ _)); refine blk_put (cs := #[.int .u64 t3478, .int .u64 0]) ?_ 1 _ rfl; (with_reducible repeat (first | refine blk_drewN ?_ _ | refine blk_drew ?_ | refine blk_alloc ?_ _)); refine blk_put (cs := #[.int .u64 0, .int .u64 0]) ?_ 0 _ rfl; (with_reducible repeat (first | refine blk_drewN ?_ _ | refine blk_drew ?_ | refine blk_alloc ?_ _)); exact BK3482.out⟩, ⟨by repeat (first | (with_reducible first | exact HB.out | apply below_alloc | apply pw_below_drewN | apply below_drew1 | refine below_set ?_ GE3470.out | refine below_set ?_ GE3471.out | refine below_set ?_ GE3477.out | refine below_set ?_ GE3482.out) | exact HB.out)⟩⟩
  case rest =>
    clear HC5
    try clear c1
    try clear c2
    try clear p2
    try clear c3
    try clear c9
    try clear c16
    try clear c17
    try clear c21
    try clear c22
    try clear c23
    try clear c25
    try clear c25b0
    try clear c25b1
    try clear hcz10_0
    try clear hcz10_1
    try clear hcz11_0
    try clear hcz11_1
    try clear hcz11_2
    try clear hcz11_3
    try clear hcz11_4
    try clear hcz11_5
    try clear hcz11_6
    try clear hcz13_0
    try clear hcz13_1
    try clear hcz18_0
    try clear hcz18_1
    try clear hcz24_0
    try clear hcz24_1
    try clear hcz7_0
    try clear hcz7_1
    try clear hcz7_2
    try clear hcz7_3
    try clear hcz7_4
    try clear hcz7_5
    try clear hcz7_6
    try clear hfz10_0
    try clear hfz10_1
    try clear hfz11_0
    try clear hfz11_1
    try clear hfz11_2
    try clear hfz11_3
    try clear hfz11_4
    try clear hfz11_5
    try clear hfz11_6
    try clear hfz13_0
    try clear hfz13_1
    try clear hfz18_0
    try clear hfz18_1
    try clear hfz24_0
    try clear hfz24_1
    try clear hfz7_0
    try clear hfz7_1
    try clear hfz7_2
    try clear hfz7_3
    try clear hfz7_4
    try clear hfz7_5
    try clear hfz7_6
    obtain ⟨kq, x65_4, rfl, HA, HJ4, BK3470, BK3471, BK3477, BK3482, HB⟩ := hcut
    cases kq with
    | zero => exact absurd HA.out (by simp [demurragelaw01_WideParts.j0])
    | succ kj4 =>
      have H := HA.out
      clear HA
      simp only [demurragelaw01_WideParts.j0] at H
      have HC26 := Aside0.mk H
      clear H
      go_upto_if 65 with (fail)
      go_cut [] (fun wc => ∃ (kq : Nat), Aside0 (demurragelaw01_WideParts.j1 kq a0_4 a0_5 a0_6 t3472 t3476 t3481 = some r) ∧ Aside0 (kq ≤ kj4) ∧ Aside0 (wc.heap[gb3470]? = some (.cells #[.int .u64 a0_0, .int .u64 a0_1, .int .u32 a0_2, .int .u32 a0_3, .int .u64 a0_4, .int .u64 a0_5, .int .u64 a0_6] 54 (0, 0))) ∧ Aside0 (wc.heap[gb3471]? = some (.cells #[.int .u64 a0_0, .int .u64 a0_1] 24 (0, 0))) ∧ Aside0 (wc.heap[gb3477]? = some (.cells #[.int .u64 t3473, .int .u64 t3474] 24 (0, 0))) ∧ Aside0 (wc.heap[gb3482]? = some (.cells #[.int .u64 t3478, .int .u64 t3479] 24 (0, 0))) ∧ Aside0 (Below w.heap.size w wc))
      case first =>
        have H := HC26.out
        clear HC26
        by_cases c27 : x65_4 = true
        · subst c27
          have H1 : ((wide_Div.f a0_0 a0_1 (IntKind.u64.wrap ((IntKind.u64.wrap (1 + (IntKind.u64.wrap (a0_2)))) * (IntKind.u64.wrap (1 + (IntKind.u64.wrap (a0_3))))))).bind fun bt4088 => (if bt4088.2.2.2 = 0 then (if (!(bt4088.1 == t3478) || (!(bt4088.2.1 == t3479))) = true then (none) else (demurragelaw01_WideParts.j1 kj4 a0_4 a0_5 a0_6 t3472 t3476 t3481)) else (none))) = some r := by rw [if_pos rfl] at H; exact H
          clear H
          have H := H1
          clear H1
          replace H := Option.bind_eq_some_iff.mp H
          obtain ⟨⟨t4088, t4089, t4090, t4091⟩, A280, H⟩ := H
          replace H : (if t4091 = 0 then (if (!(t4088 == t3478) || (!(t4089 == t3479))) = true then (none) else (demurragelaw01_WideParts.j1 kj4 a0_4 a0_5 a0_6 t3472 t3476 t3481)) else (none)) = some r := H
          have A28 := Aside0.mk A280
          clear A280
          by_cases c29 : t4091 = 0
          · rw [if_pos c29] at H
            have c29b0 : (t4091 == 0) = true := beq_iff_eq.mpr c29
            have c29b1 : (t4091 != 0) = false := bne_eq_false_iff_eq.mpr c29
            clear c29
            (first | rw [c29b0] | (simp only [i64_w, i32_w]; rw [c29b0]) | rw [c29b1] | skip)
            by_cases c30 : (!(t4088 == t3478) || (!(t4089 == t3479))) = true
            · rw [if_pos c30] at H
              exact absurd H (by simp)
            · rw [if_neg c30] at H
              have c30b0 : (!(t4088 == t3478) || (!(t4089 == t3479))) = false := by simpa using c30
              clear c30
              have H' := Aside0.mk H
              clear H
              have hnb31 := NB3471_3470.out
              have hnc31 := NB3470_3471.out
              have hnb32 := NB3471_3477.out
              have hnc32 := NB3477_3471.out
              have hnb33 := NB3471_3482.out
              have hnc33 := NB3482_3471.out
              have hcz34_0 : wc.cell? ⟨gb3471, 0, none⟩ = some (.int .u64 a0_0) := (blk_cell BK3471.out 0).trans rfl
              have hcz34_1 : wc.cell? ⟨gb3471, 1, none⟩ = some (.int .u64 a0_1) := (blk_cell BK3471.out 1).trans rfl
              have hfz34_0 := blk_frozen BK3471.out 0
              have hfz34_1 := blk_frozen BK3471.out 1
              go_wp2_with (first | ((with_reducible refine gate_callee (f := 37) rfl ?_); refine goesL_ (some 71) rfl rfl Try.func37 (by kernel_rfl) rfl #[.agg #[.int .u64 a0_0, .int .u64 a0_1], .int .u64 (IntKind.u64.wrap ((IntKind.u64.wrap (1 + (IntKind.u64.wrap (a0_2)))) * (IntKind.u64.wrap (1 + (IntKind.u64.wrap (a0_3))))))] rfl (by (try simp only [List.map_toArray, List.map_cons, List.map_nil]); first | done | rfl | (simp only [List.length_drop, List.length_take]; rfl)) ?_; (with_reducible refine (wide_Div.calls a0_0 a0_1 (IntKind.u64.wrap ((IntKind.u64.wrap (1 + (IntKind.u64.wrap (a0_2)))) * (IntKind.u64.wrap (1 + (IntKind.u64.wrap (a0_3)))))) t4088 t4089 t4090 t4091 _ A28.out).mono ?_); rintro e w35 ⟨rfl, hb⟩; refine ⟨_, rfl, ?_⟩; have n0_ := Aside0.mk (blk_below (g := gb3470) (o := .cells #[.int .u64 a0_0, .int .u64 a0_1, .int .u32 a0_2, .int .u32 a0_3, .int .u64 a0_4, .int .u64 a0_5, .int .u64 a0_6] 54 (0, 0)) (by (with_reducible repeat (first | refine blk_drewN ?_ _ | refine blk_drew ?_ | refine blk_alloc ?_ _)); exact BK3470.out) hb); have n1_ := Aside0.mk (blk_below (g := gb3471) (o := .cells #[.int .u64 a0_0, .int .u64 a0_1] 24 (0, 0)) (by (with_reducible repeat (first | refine blk_drewN ?_ _ | refine blk_drew ?_ | refine blk_alloc ?_ _)); exact BK3471.out) hb); have n2_ := Aside0.mk (blk_below (g := gb3477) (o := .cells #[.int .u64 t3473, .int .u64 t3474] 24 (0, 0)) (by (with_reducible repeat (first | refine blk_drewN ?_ _ | refine blk_drew ?_ | refine blk_alloc ?_ _)); exact BK3477.out) hb); have n3_ := Aside0.mk (blk_below (g := gb3482) (o := .cells #[.int .u64 t3478, .int .u64 t3479] 24 (0, 0)) (by (with_reducible repeat (first | refine blk_drewN ?_ _ | refine blk_drew ?_ | refine blk_alloc ?_ _)); exact BK3482.out) hb); have n4_ := Aside0.mk (below_step (by repeat (first | (with_reducible first | exact HB.out | apply below_alloc | apply pw_below_drewN | apply below_drew1 | refine below_set ?_ GE3470.out | refine below_set ?_ GE3471.out | refine below_set ?_ GE3477.out | refine below_set ?_ GE3482.out) | exact HB.out)) hb); clear BK3470; clear BK3471; clear BK3477; clear BK3482; clear HB; have BK3470 := n0_; have BK3471 := n1_; have BK3477 := n2_; have BK3482 := n3_; have HB := n4_; clear n0_ n1_ n2_ n3_ n4_; (try clear hb); (try clear hb2); (try clear hk); (try clear hi)) | ((with_reducible refine gate_dst (N := 18) rfl ?_); refine box_event ?hg (N := 18) ?hd (cs := #[.int .u64 0, .int .u64 0]) (t := 24) ?hr ?_; (case hd => rfl); (case hg => rfl); (case hr => first | (go_simp; done) | (go_simp; rfl)); intro gb4092 hg w36 hbox hb; have n0_ := Aside0.mk (blk_below (g := gb3470) (o := .cells #[.int .u64 a0_0, .int .u64 a0_1, .int .u32 a0_2, .int .u32 a0_3, .int .u64 a0_4, .int .u64 a0_5, .int .u64 a0_6] 54 (0, 0)) (by (with_reducible repeat (first | refine blk_drewN ?_ _ | refine blk_drew ?_ | refine blk_alloc ?_ _)); exact BK3470.out) hb); have n1_ := Aside0.mk (blk_below (g := gb3471) (o := .cells #[.int .u64 a0_0, .int .u64 a0_1] 24 (0, 0)) (by (with_reducible repeat (first | refine blk_drewN ?_ _ | refine blk_drew ?_ | refine blk_alloc ?_ _)); exact BK3471.out) hb); have n2_ := Aside0.mk (blk_below (g := gb3477) (o := .cells #[.int .u64 t3473, .int .u64 t3474] 24 (0, 0)) (by (with_reducible repeat (first | refine blk_drewN ?_ _ | refine blk_drew ?_ | refine blk_alloc ?_ _)); exact BK3477.out) hb); have n3_ := Aside0.mk (blk_below (g := gb3482) (o := .cells #[.int .u64 t3478, .int .u64 t3479] 24 (0, 0)) (by (with_reducible repeat (first | refine blk_drewN ?_ _ | refine blk_drew ?_ | refine blk_alloc ?_ _)); exact BK3482.out) hb); have n4_ := Aside0.mk (below_step (by repeat (first | (with_reducible first | exact HB.out | apply below_alloc | apply pw_below_drewN | apply below_drew1 | refine below_set ?_ GE3470.out | refine below_set ?_ GE3471.out | refine below_set ?_ GE3477.out | refine below_set ?_ GE3482.out) | exact HB.out)) hb); have n5_ := Aside0.mk (hbox); have n6_ := Aside0.mk ((by rw [hg]; exact (below_size (by repeat (first | (with_reducible first | exact HB.out | apply below_alloc | apply pw_below_drewN | apply below_drew1 | refine below_set ?_ GE3470.out | refine below_set ?_ GE3471.out | refine below_set ?_ GE3477.out | refine below_set ?_ GE3482.out) | exact HB.out))) : w.heap.size ≤ gb4092)); have n7_ := Aside0.mk ((by rw [hg]; exact (below_size (by repeat (first | (with_reducible first | exact HB.out | apply below_alloc | apply pw_below_drewN | apply below_drew1 | refine below_set ?_ GE3470.out | refine below_set ?_ GE3471.out | refine below_set ?_ GE3477.out | refine below_set ?_ GE3482.out) | exact HB.out))) : w.heap.size ≤ gb4092)); have n8_ := Aside0.mk ((by rw [hg]; exact Nat.ne_of_lt (blk_lt (g := gb3470) (o := .cells #[.int .u64 a0_0, .int .u64 a0_1, .int .u32 a0_2, .int .u32 a0_3, .int .u64 a0_4, .int .u64 a0_5, .int .u64 a0_6] 54 (0, 0)) (by (with_reducible repeat (first | refine blk_drewN ?_ _ | refine blk_drew ?_ | refine blk_alloc ?_ _)); exact BK3470.out)) : gb3470 ≠ gb4092)); have n9_ := Aside0.mk ((by rw [hg]; exact Nat.ne_of_gt (blk_lt (g := gb3470) (o := .cells #[.int .u64 a0_0, .int .u64 a0_1, .int .u32 a0_2, .int .u32 a0_3, .int .u64 a0_4, .int .u64 a0_5, .int .u64 a0_6] 54 (0, 0)) (by (with_reducible repeat (first | refine blk_drewN ?_ _ | refine blk_drew ?_ | refine blk_alloc ?_ _)); exact BK3470.out)) : gb4092 ≠ gb3470)); have n10_ := Aside0.mk ((by rw [hg]; exact Nat.ne_of_lt (blk_lt (g := gb3471) (o := .cells #[.int .u64 a0_0, .int .u64 a0_1] 24 (0, 0)) (by (with_reducible repeat (first | refine blk_drewN ?_ _ | refine blk_drew ?_ | refine blk_alloc ?_ _)); exact BK3471.out)) : gb3471 ≠ gb4092)); have n11_ := Aside0.mk ((by rw [hg]; exact Nat.ne_of_gt (blk_lt (g := gb3471) (o := .cells #[.int .u64 a0_0, .int .u64 a0_1] 24 (0, 0)) (by (with_reducible repeat (first | refine blk_drewN ?_ _ | refine blk_drew ?_ | refine blk_alloc ?_ _)); exact BK3471.out)) : gb4092 ≠ gb3471)); have n12_ := Aside0.mk ((by rw [hg]; exact Nat.ne_of_lt (blk_lt (g := gb3477) (o := .cells #[.int .u64 t3473, .int .u64 t3474] 24 (0, 0)) (by (with_reducible repeat (first | refine blk_drewN ?_ _ | refine blk_drew ?_ | refine blk_alloc ?_ _)); exact BK3477.out)) : gb3477 ≠ gb4092)); have n13_ := Aside0.mk ((by rw [hg]; exact Nat.ne_of_gt (blk_lt (g := gb3477) (o := .cells #[.int .u64 t3473, .int .u64 t3474] 24 (0, 0)) (by (with_reducible repeat (first | refine blk_drewN ?_ _ | refine blk_drew ?_ | refine blk_alloc ?_ _)); exact BK3477.out)) : gb4092 ≠ gb3477)); have n14_ := Aside0.mk ((by rw [hg]; exact Nat.ne_of_lt (blk_lt (g := gb3482) (o := .cells #[.int .u64 t3478, .int .u64 t3479] 24 (0, 0)) (by (with_reducible repeat (first | refine blk_drewN ?_ _ | refine blk_drew ?_ | refine blk_alloc ?_ _)); exact BK3482.out)) : gb3482 ≠ gb4092)); have n15_ := Aside0.mk ((by rw [hg]; exact Nat.ne_of_gt (blk_lt (g := gb3482) (o := .cells #[.int .u64 t3478, .int .u64 t3479] 24 (0, 0)) (by (with_reducible repeat (first | refine blk_drewN ?_ _ | refine blk_drew ?_ | refine blk_alloc ?_ _)); exact BK3482.out)) : gb4092 ≠ gb3482)); clear BK3470; clear BK3471; clear BK3477; clear BK3482; clear HB; have BK3470 := n0_; have BK3471 := n1_; have BK3477 := n2_; have BK3482 := n3_; have HB := n4_; have BK4092 := n5_; have GW4092 := n6_; have GE4092 := n7_; have NB3470_4092 := n8_; have NB4092_3470 := n9_; have NB3471_4092 := n10_; have NB4092_3471 := n11_; have NB3477_4092 := n12_; have NB4092_3477 := n13_; have NB3482_4092 := n14_; have NB4092_3482 := n15_; clear n0_ n1_ n2_ n3_ n4_ n5_ n6_ n7_ n8_ n9_ n10_ n11_ n12_ n13_ n14_ n15_; clear hb hbox hg; have hnb37 := NB4092_3470.out; have hnc37 := NB3470_4092.out; have hnb38 := NB4092_3471.out; have hnc38 := NB3471_4092.out; have hnb39 := NB4092_3477.out; have hnc39 := NB3477_4092.out; have hnb40 := NB4092_3482.out; have hnc40 := NB3482_4092.out; have hcz41_0 : w36.cell? ⟨gb4092, 0, none⟩ = some (.int .u64 0) := (blk_cell BK4092.out 0).trans rfl; have hcz41_1 : w36.cell? ⟨gb4092, 1, none⟩ = some (.int .u64 0) := (blk_cell BK4092.out 1).trans rfl; have hfz41_0 := blk_frozen BK4092.out 0; have hfz41_1 := blk_frozen BK4092.out 1; have hnb42 := NB3482_3470.out; have hnc42 := NB3470_3482.out; have hnb43 := NB3482_3477.out; have hnc43 := NB3477_3482.out; have hcz44_0 : w36.cell? ⟨gb3482, 0, none⟩ = some (.int .u64 t3478) := (blk_cell BK3482.out 0).trans rfl; have hcz44_1 : w36.cell? ⟨gb3482, 1, none⟩ = some (.int .u64 t3479) := (blk_cell BK3482.out 1).trans rfl; have hfz44_0 := blk_frozen BK3482.out 0; have hfz44_1 := blk_frozen BK3482.out 1))
              go_meet
              case rel => exact ⟨_, H', ⟨by have := HJ4.out; first | omega | exact Nat.le_refl _⟩, ⟨by (with_reducible repeat (first | refine blk_drewN ?_ _ | refine blk_drew ?_ | refine blk_alloc ?_ _)); refine blk_far ?_ NB3470_4092.out _; (with_reducible repeat (first | refine blk_drewN ?_ _ | refine blk_drew ?_ | refine blk_alloc ?_ _)); refine blk_far ?_ NB3470_4092.out _; (with_reducible repeat (first | refine blk_drewN ?_ _ | refine blk_drew ?_ | refine blk_alloc ?_ _)); exact BK3470.out⟩, ⟨by (with_reducible repeat (first | refine blk_drewN ?_ _ | refine blk_drew ?_ | refine blk_alloc ?_ _)); refine blk_far ?_ NB3471_4092.out _; (with_reducible repeat (first | refine blk_drewN ?_ _ | refine blk_drew ?_ | refine blk_alloc ?_ _)); refine blk_far ?_ NB3471_4092.out _; (with_reducible repeat (first | refine blk_drewN ?_ _ | refine blk_drew ?_ | refine blk_alloc ?_ _)); exact BK3471.out⟩, ⟨by (with_reducible repeat (first | refine blk_drewN ?_ _ | refine blk_drew ?_ | refine blk_alloc ?_ _)); refine blk_far ?_ NB3477_4092.out _; (with_reducible repeat (first | refine blk_drewN ?_ _ | refine blk_drew ?_ | refine blk_alloc ?_ _)); refine blk_far ?_ NB3477_4092.out _; (with_reducible repeat (first | refine blk_drewN ?_ _ | refine blk_drew ?_ | refine blk_alloc ?_ _)); exact BK3477.out⟩, ⟨by (with_reducible repeat (first | refine blk_drewN ?_ _ | refine blk_drew ?_ | refine blk_alloc ?_ _)); refine blk_far ?_ NB3482_4092.out _; (with_reducible repeat (first | refine blk_drewN ?_ _ | refine blk_drew ?_ | refine blk_alloc ?_ _)); refine blk_far ?_ NB3482_4092.out _; (with_reducible repeat (first | refine blk_drewN ?_ _ | refine blk_drew ?_ | refine blk_alloc ?_ _)); exact BK3482.out⟩, ⟨by repeat (first | (with_reducible first | exact HB.out | apply below_alloc | apply pw_below_drewN | apply below_drew1 | refine below_set ?_ GE3470.out | refine below_set ?_ GE3471.out | refine below_set ?_ GE3477.out | refine below_set ?_ GE3482.out | refine below_set ?_ GE4092.out) | exact HB.out)⟩⟩
          · rw [if_neg c29] at H
            exact absurd H (by simp)
        · replace c27 := Bool.eq_false_iff.mpr c27
          subst c27
          have H1 : (demurragelaw01_WideParts.j1 kj4 a0_4 a0_5 a0_6 t3472 t3476 t3481) = some r := by rw [if_neg (show ¬ (false = true) by decide)] at H; exact H
          clear H
          have H := H1
          clear H1
          have H' := Aside0.mk H
          clear H
          go_wp2
          go_meet
          case rel => exact ⟨_, H', ⟨by have := HJ4.out; first | omega | exact Nat.le_refl _⟩, ⟨by (with_reducible repeat (first | refine blk_drewN ?_ _ | refine blk_drew ?_ | refine blk_alloc ?_ _)); exact BK3470.out⟩, ⟨by (with_reducible repeat (first | refine blk_drewN ?_ _ | refine blk_drew ?_ | refine blk_alloc ?_ _)); exact BK3471.out⟩, ⟨by (with_reducible repeat (first | refine blk_drewN ?_ _ | refine blk_drew ?_ | refine blk_alloc ?_ _)); exact BK3477.out⟩, ⟨by (with_reducible repeat (first | refine blk_drewN ?_ _ | refine blk_drew ?_ | refine blk_alloc ?_ _)); exact BK3482.out⟩, ⟨by repeat (first | (with_reducible first | exact HB.out | apply below_alloc | apply pw_below_drewN | apply below_drew1 | refine below_set ?_ GE3470.out | refine below_set ?_ GE3471.out | refine below_set ?_ GE3477.out | refine below_set ?_ GE3482.out) | exact HB.out)⟩⟩
      case rest =>
        clear HC26
        try clear c1
        try clear c2
        try clear p2
        try clear c3
        try clear c4
        try clear c9
        try clear c16
        try clear c17
        try clear c21
        try clear c22
        try clear c23
        try clear c25
        try clear c25b0
        try clear c25b1
        try clear c27
        try clear c29
        try clear c29b0
        try clear c29b1
        try clear c30
        try clear c30b0
        try clear c31
        try clear c32
        try clear c33
        try clear c37
        try clear c38
        try clear c39
        try clear c40
        try clear c42
        try clear c43
        try clear hcz10_0
        try clear hcz10_1
        try clear hcz11_0
        try clear hcz11_1
        try clear hcz11_2
        try clear hcz11_3
        try clear hcz11_4
        try clear hcz11_5
        try clear hcz11_6
        try clear hcz13_0
        try clear hcz13_1
        try clear hcz18_0
        try clear hcz18_1
        try clear hcz24_0
        try clear hcz24_1
        try clear hcz34_0
        try clear hcz34_1
        try clear hcz41_0
        try clear hcz41_1
        try clear hcz44_0
        try clear hcz44_1
        try clear hcz7_0
        try clear hcz7_1
        try clear hcz7_2
        try clear hcz7_3
        try clear hcz7_4
        try clear hcz7_5
        try clear hcz7_6
        try clear hfz10_0
        try clear hfz10_1
        try clear hfz11_0
        try clear hfz11_1
        try clear hfz11_2
        try clear hfz11_3
        try clear hfz11_4
        try clear hfz11_5
        try clear hfz11_6
        try clear hfz13_0
        try clear hfz13_1
        try clear hfz18_0
        try clear hfz18_1
        try clear hfz24_0
        try clear hfz24_1
        try clear hfz34_0
        try clear hfz34_1
        try clear hfz41_0
        try clear hfz41_1
        try clear hfz44_0
        try clear hfz44_1
        try clear hfz7_0
        try clear hfz7_1
        try clear hfz7_2
        try clear hfz7_3
        try clear hfz7_4
        try clear hfz7_5
        try clear hfz7_6
        try clear p2
        obtain ⟨kq, HA, HJ25, BK3470, BK3471, BK3477, BK3482, HB⟩ := hcut
        cases kq with
        | zero => exact absurd HA.out (by simp [demurragelaw01_WideParts.j1])
        | succ kj25 =>
          have H := HA.out
          clear HA
          simp only [demurragelaw01_WideParts.j1] at H
          by_cases c45 : t3476 = 0
          · rw [if_pos c45] at H
            have c45b0 : (t3476 == 0) = true := beq_iff_eq.mpr c45
            have c45b1 : (t3476 != 0) = false := bne_eq_false_iff_eq.mpr c45
            clear c45
            by_cases c46 : t3481 = 0
            · rw [if_pos c46] at H
              have c46b0 : (t3481 == 0) = true := beq_iff_eq.mpr c46
              have c46b1 : (t3481 != 0) = false := bne_eq_false_iff_eq.mpr c46
              clear c46
              by_cases c47 : a0_5 = 0
              · rw [if_pos c47] at H
                have c47b0 : (a0_5 == 0) = true := beq_iff_eq.mpr c47
                have c47b1 : (a0_5 != 0) = false := bne_eq_false_iff_eq.mpr c47
                clear c47
                obtain rfl := Option.some.inj H
                go_wp2
                go_ret
                exact ⟨by first | rfl | (simp [errW_none, errW_some] <;> rfl) | (simp [*, errW_none, errW_some] <;> rfl), by repeat (first | (with_reducible first | exact HB.out | apply below_alloc | apply pw_below_drewN | apply below_drew1 | refine below_set ?_ GE3470.out | refine below_set ?_ GE3471.out | refine below_set ?_ GE3477.out | refine below_set ?_ GE3482.out) | exact HB.out)⟩
              · rw [if_neg c47] at H
                have c47b0 : (a0_5 == 0) = false := beq_eq_false_iff_ne.mpr c47
                have c47b1 : (a0_5 != 0) = true := bne_iff_ne.mpr c47
                replace H := Option.bind_eq_some_iff.mp H
                obtain ⟨⟨t4438, t4439⟩, A480, H⟩ := H
                replace H : ((wide_Of.f (Int.tmod a0_6 a0_5)).bind fun bt4440 => ((wide_Add.f t4438 t4439 bt4440.1 bt4440.2).bind fun bt4442 => ((wide_Div.f bt4442.1 bt4442.2.1 a0_5).bind fun bt4446 => (if t3472 = true then (if bt4442.2.2 = 0 then (if bt4446.2.2.2 = 0 then ((wide_Of.f a0_4).bind fun bt4451 => (if (bt4446.1 == bt4451.1 && (bt4446.2.1 == bt4451.2)) = true then (some (bt4446.2.2.1 == (Int.tmod a0_6 a0_5))) else (none))) else (none)) else (none)) else (none))))) = some r := H
                have A48 := Aside0.mk A480
                clear A480
                replace H := Option.bind_eq_some_iff.mp H
                obtain ⟨⟨t4440, t4441⟩, A490, H⟩ := H
                replace H : ((wide_Add.f t4438 t4439 t4440 t4441).bind fun bt4442 => ((wide_Div.f bt4442.1 bt4442.2.1 a0_5).bind fun bt4446 => (if t3472 = true then (if bt4442.2.2 = 0 then (if bt4446.2.2.2 = 0 then ((wide_Of.f a0_4).bind fun bt4451 => (if (bt4446.1 == bt4451.1 && (bt4446.2.1 == bt4451.2)) = true then (some (bt4446.2.2.1 == (Int.tmod a0_6 a0_5))) else (none))) else (none)) else (none)) else (none)))) = some r := H
                have A49 := Aside0.mk A490
                clear A490
                replace H := Option.bind_eq_some_iff.mp H
                obtain ⟨⟨t4442, t4443, t4444⟩, A500, H⟩ := H
                replace H : ((wide_Div.f t4442 t4443 a0_5).bind fun bt4446 => (if t3472 = true then (if t4444 = 0 then (if bt4446.2.2.2 = 0 then ((wide_Of.f a0_4).bind fun bt4451 => (if (bt4446.1 == bt4451.1 && (bt4446.2.1 == bt4451.2)) = true then (some (bt4446.2.2.1 == (Int.tmod a0_6 a0_5))) else (none))) else (none)) else (none)) else (none))) = some r := H
                have A50 := Aside0.mk A500
                clear A500
                replace H := Option.bind_eq_some_iff.mp H
                obtain ⟨⟨t4446, t4447, t4448, t4449⟩, A510, H⟩ := H
                replace H : (if t3472 = true then (if t4444 = 0 then (if t4449 = 0 then ((wide_Of.f a0_4).bind fun bt4451 => (if (t4446 == bt4451.1 && (t4447 == bt4451.2)) = true then (some (t4448 == (Int.tmod a0_6 a0_5))) else (none))) else (none)) else (none)) else (none)) = some r := H
                have A51 := Aside0.mk A510
                clear A510
                by_cases c52 : t3472 = true
                · subst c52
                  have H1 : (if t4444 = 0 then (if t4449 = 0 then ((wide_Of.f a0_4).bind fun bt4451 => (if (t4446 == bt4451.1 && (t4447 == bt4451.2)) = true then (some (t4448 == (Int.tmod a0_6 a0_5))) else (none))) else (none)) else (none)) = some r := by rw [if_pos rfl] at H; exact H
                  clear H
                  have H := H1
                  clear H1
                  by_cases c53 : t4444 = 0
                  · rw [if_pos c53] at H
                    have c53b0 : (t4444 == 0) = true := beq_iff_eq.mpr c53
                    have c53b1 : (t4444 != 0) = false := bne_eq_false_iff_eq.mpr c53
                    clear c53
                    by_cases c54 : t4449 = 0
                    · rw [if_pos c54] at H
                      have c54b0 : (t4449 == 0) = true := beq_iff_eq.mpr c54
                      have c54b1 : (t4449 != 0) = false := bne_eq_false_iff_eq.mpr c54
                      clear c54
                      replace H := Option.bind_eq_some_iff.mp H
                      obtain ⟨⟨t4451, t4452⟩, A550, H⟩ := H
                      replace H : (if (t4446 == t4451 && (t4447 == t4452)) = true then (some (t4448 == (Int.tmod a0_6 a0_5))) else (none)) = some r := H
                      have A55 := Aside0.mk A550
                      clear A550
                      by_cases c56 : (t4446 == t4451 && (t4447 == t4452)) = true
                      · rw [if_pos c56] at H
                        have c56b0 : (t4446 == t4451 && (t4447 == t4452)) = true := c56
                        (try (have c56b1 : decide (t4446 = t4451 && (t4447 == t4452)) = true := by simpa using c56))
                        (try (have c56b2 : (t4446 == t4451 && (t4447 == t4452)) = true := by simpa using c56))
                        clear c56
                        obtain rfl := Option.some.inj H
                        try go_wp2_with (first | ((with_reducible refine gate_callee (f := 34) rfl ?_); refine goesL_ (some 97) rfl rfl Try.func34 (by kernel_rfl) rfl #[.int .u64 a0_4, .int .u64 a0_5] rfl (by (try simp only [List.map_toArray, List.map_cons, List.map_nil]); first | done | rfl | (simp only [List.length_drop, List.length_take]; rfl)) ?_; (with_reducible refine (wide_Mul.calls a0_4 a0_5 t4438 t4439 _ A48.out).mono ?_); rintro e w57 ⟨rfl, hb⟩; refine ⟨_, rfl, ?_⟩; have n0_ := Aside0.mk (blk_below (g := gb3470) (o := .cells #[.int .u64 a0_0, .int .u64 a0_1, .int .u32 a0_2, .int .u32 a0_3, .int .u64 a0_4, .int .u64 a0_5, .int .u64 a0_6] 54 (0, 0)) (by (with_reducible repeat (first | refine blk_drewN ?_ _ | refine blk_drew ?_ | refine blk_alloc ?_ _)); exact BK3470.out) hb); have n1_ := Aside0.mk (blk_below (g := gb3471) (o := .cells #[.int .u64 a0_0, .int .u64 a0_1] 24 (0, 0)) (by (with_reducible repeat (first | refine blk_drewN ?_ _ | refine blk_drew ?_ | refine blk_alloc ?_ _)); exact BK3471.out) hb); have n2_ := Aside0.mk (blk_below (g := gb3477) (o := .cells #[.int .u64 t3473, .int .u64 t3474] 24 (0, 0)) (by (with_reducible repeat (first | refine blk_drewN ?_ _ | refine blk_drew ?_ | refine blk_alloc ?_ _)); exact BK3477.out) hb); have n3_ := Aside0.mk (blk_below (g := gb3482) (o := .cells #[.int .u64 t3478, .int .u64 t3479] 24 (0, 0)) (by (with_reducible repeat (first | refine blk_drewN ?_ _ | refine blk_drew ?_ | refine blk_alloc ?_ _)); exact BK3482.out) hb); have n4_ := Aside0.mk (below_step (by repeat (first | (with_reducible first | exact HB.out | apply below_alloc | apply pw_below_drewN | apply below_drew1 | refine below_set ?_ GE3470.out | refine below_set ?_ GE3471.out | refine below_set ?_ GE3477.out | refine below_set ?_ GE3482.out) | exact HB.out)) hb); clear BK3470; clear BK3471; clear BK3477; clear BK3482; clear HB; have BK3470 := n0_; have BK3471 := n1_; have BK3477 := n2_; have BK3482 := n3_; have HB := n4_; clear n0_ n1_ n2_ n3_ n4_; (try clear hb); (try clear hb2); (try clear hk); (try clear hi)) | ((with_reducible refine gate_callee (f := 33) rfl ?_); refine goesL_ (some 99) rfl rfl Try.func33 (by kernel_rfl) rfl #[.int .u64 (Int.tmod a0_6 a0_5)] rfl (by (try simp only [List.map_toArray, List.map_cons, List.map_nil]); first | done | rfl | (simp only [List.length_drop, List.length_take]; rfl)) ?_; (with_reducible refine (wide_Of.calls (Int.tmod a0_6 a0_5) t4440 t4441 _ A49.out).mono ?_); rintro e w58 ⟨rfl, hb⟩; refine ⟨_, rfl, ?_⟩; have n0_ := Aside0.mk (blk_below (g := gb3470) (o := .cells #[.int .u64 a0_0, .int .u64 a0_1, .int .u32 a0_2, .int .u32 a0_3, .int .u64 a0_4, .int .u64 a0_5, .int .u64 a0_6] 54 (0, 0)) (by (with_reducible repeat (first | refine blk_drewN ?_ _ | refine blk_drew ?_ | refine blk_alloc ?_ _)); exact BK3470.out) hb); have n1_ := Aside0.mk (blk_below (g := gb3471) (o := .cells #[.int .u64 a0_0, .int .u64 a0_1] 24 (0, 0)) (by (with_reducible repeat (first | refine blk_drewN ?_ _ | refine blk_drew ?_ | refine blk_alloc ?_ _)); exact BK3471.out) hb); have n2_ := Aside0.mk (blk_below (g := gb3477) (o := .cells #[.int .u64 t3473, .int .u64 t3474] 24 (0, 0)) (by (with_reducible repeat (first | refine blk_drewN ?_ _ | refine blk_drew ?_ | refine blk_alloc ?_ _)); exact BK3477.out) hb); have n3_ := Aside0.mk (blk_below (g := gb3482) (o := .cells #[.int .u64 t3478, .int .u64 t3479] 24 (0, 0)) (by (with_reducible repeat (first | refine blk_drewN ?_ _ | refine blk_drew ?_ | refine blk_alloc ?_ _)); exact BK3482.out) hb); have n4_ := Aside0.mk (below_step (by repeat (first | (with_reducible first | exact HB.out | apply below_alloc | apply pw_below_drewN | apply below_drew1 | refine below_set ?_ GE3470.out | refine below_set ?_ GE3471.out | refine below_set ?_ GE3477.out | refine below_set ?_ GE3482.out) | exact HB.out)) hb); clear BK3470; clear BK3471; clear BK3477; clear BK3482; clear HB; have BK3470 := n0_; have BK3471 := n1_; have BK3477 := n2_; have BK3482 := n3_; have HB := n4_; clear n0_ n1_ n2_ n3_ n4_; (try clear hb); (try clear hb2); (try clear hk); (try clear hi)) | ((with_reducible refine gate_callee (f := 27) rfl ?_); refine goesL_ (some 100) rfl rfl Try.func27 (by kernel_rfl) rfl #[.agg #[.int .u64 t4438, .int .u64 t4439], .agg #[.int .u64 t4440, .int .u64 t4441]] rfl (by (try simp only [List.map_toArray, List.map_cons, List.map_nil]); first | done | rfl | (simp only [List.length_drop, List.length_take]; rfl)) ?_; (with_reducible refine (wide_Add.calls t4438 t4439 t4440 t4441 t4442 t4443 t4444 _ A50.out).mono ?_); rintro e w59 ⟨rfl, hb⟩; refine ⟨_, rfl, ?_⟩; have n0_ := Aside0.mk (blk_below (g := gb3470) (o := .cells #[.int .u64 a0_0, .int .u64 a0_1, .int .u32 a0_2, .int .u32 a0_3, .int .u64 a0_4, .int .u64 a0_5, .int .u64 a0_6] 54 (0, 0)) (by (with_reducible repeat (first | refine blk_drewN ?_ _ | refine blk_drew ?_ | refine blk_alloc ?_ _)); exact BK3470.out) hb); have n1_ := Aside0.mk (blk_below (g := gb3471) (o := .cells #[.int .u64 a0_0, .int .u64 a0_1] 24 (0, 0)) (by (with_reducible repeat (first | refine blk_drewN ?_ _ | refine blk_drew ?_ | refine blk_alloc ?_ _)); exact BK3471.out) hb); have n2_ := Aside0.mk (blk_below (g := gb3477) (o := .cells #[.int .u64 t3473, .int .u64 t3474] 24 (0, 0)) (by (with_reducible repeat (first | refine blk_drewN ?_ _ | refine blk_drew ?_ | refine blk_alloc ?_ _)); exact BK3477.out) hb); have n3_ := Aside0.mk (blk_below (g := gb3482) (o := .cells #[.int .u64 t3478, .int .u64 t3479] 24 (0, 0)) (by (with_reducible repeat (first | refine blk_drewN ?_ _ | refine blk_drew ?_ | refine blk_alloc ?_ _)); exact BK3482.out) hb); have n4_ := Aside0.mk (below_step (by repeat (first | (with_reducible first | exact HB.out | apply below_alloc | apply pw_below_drewN | apply below_drew1 | refine below_set ?_ GE3470.out | refine below_set ?_ GE3471.out | refine below_set ?_ GE3477.out | refine below_set ?_ GE3482.out) | exact HB.out)) hb); clear BK3470; clear BK3471; clear BK3477; clear BK3482; clear HB; have BK3470 := n0_; have BK3471 := n1_; have BK3477 := n2_; have BK3482 := n3_; have HB := n4_; clear n0_ n1_ n2_ n3_ n4_; (try clear hb); (try clear hb2); (try clear hk); (try clear hi)) | ((with_reducible refine gate_dst (N := 22) rfl ?_); refine box_event ?hg (N := 22) ?hd (cs := #[.int .u64 0, .int .u64 0]) (t := 24) ?hr ?_; (case hd => rfl); (case hg => rfl); (case hr => first | (go_simp; done) | (go_simp; rfl)); intro gb4445 hg w60 hbox hb; have n0_ := Aside0.mk (blk_below (g := gb3470) (o := .cells #[.int .u64 a0_0, .int .u64 a0_1, .int .u32 a0_2, .int .u32 a0_3, .int .u64 a0_4, .int .u64 a0_5, .int .u64 a0_6] 54 (0, 0)) (by (with_reducible repeat (first | refine blk_drewN ?_ _ | refine blk_drew ?_ | refine blk_alloc ?_ _)); exact BK3470.out) hb); have n1_ := Aside0.mk (blk_below (g := gb3471) (o := .cells #[.int .u64 a0_0, .int .u64 a0_1] 24 (0, 0)) (by (with_reducible repeat (first | refine blk_drewN ?_ _ | refine blk_drew ?_ | refine blk_alloc ?_ _)); exact BK3471.out) hb); have n2_ := Aside0.mk (blk_below (g := gb3477) (o := .cells #[.int .u64 t3473, .int .u64 t3474] 24 (0, 0)) (by (with_reducible repeat (first | refine blk_drewN ?_ _ | refine blk_drew ?_ | refine blk_alloc ?_ _)); exact BK3477.out) hb); have n3_ := Aside0.mk (blk_below (g := gb3482) (o := .cells #[.int .u64 t3478, .int .u64 t3479] 24 (0, 0)) (by (with_reducible repeat (first | refine blk_drewN ?_ _ | refine blk_drew ?_ | refine blk_alloc ?_ _)); exact BK3482.out) hb); have n4_ := Aside0.mk (below_step (by repeat (first | (with_reducible first | exact HB.out | apply below_alloc | apply pw_below_drewN | apply below_drew1 | refine below_set ?_ GE3470.out | refine below_set ?_ GE3471.out | refine below_set ?_ GE3477.out | refine below_set ?_ GE3482.out) | exact HB.out)) hb); have n5_ := Aside0.mk (hbox); have n6_ := Aside0.mk ((by rw [hg]; exact (below_size (by repeat (first | (with_reducible first | exact HB.out | apply below_alloc | apply pw_below_drewN | apply below_drew1 | refine below_set ?_ GE3470.out | refine below_set ?_ GE3471.out | refine below_set ?_ GE3477.out | refine below_set ?_ GE3482.out) | exact HB.out))) : w.heap.size ≤ gb4445)); have n7_ := Aside0.mk ((by rw [hg]; exact (below_size (by repeat (first | (with_reducible first | exact HB.out | apply below_alloc | apply pw_below_drewN | apply below_drew1 | refine below_set ?_ GE3470.out | refine below_set ?_ GE3471.out | refine below_set ?_ GE3477.out | refine below_set ?_ GE3482.out) | exact HB.out))) : w.heap.size ≤ gb4445)); have n8_ := Aside0.mk ((by rw [hg]; exact Nat.ne_of_lt (blk_lt (g := gb3470) (o := .cells #[.int .u64 a0_0, .int .u64 a0_1, .int .u32 a0_2, .int .u32 a0_3, .int .u64 a0_4, .int .u64 a0_5, .int .u64 a0_6] 54 (0, 0)) (by (with_reducible repeat (first | refine blk_drewN ?_ _ | refine blk_drew ?_ | refine blk_alloc ?_ _)); exact BK3470.out)) : gb3470 ≠ gb4445)); have n9_ := Aside0.mk ((by rw [hg]; exact Nat.ne_of_gt (blk_lt (g := gb3470) (o := .cells #[.int .u64 a0_0, .int .u64 a0_1, .int .u32 a0_2, .int .u32 a0_3, .int .u64 a0_4, .int .u64 a0_5, .int .u64 a0_6] 54 (0, 0)) (by (with_reducible repeat (first | refine blk_drewN ?_ _ | refine blk_drew ?_ | refine blk_alloc ?_ _)); exact BK3470.out)) : gb4445 ≠ gb3470)); have n10_ := Aside0.mk ((by rw [hg]; exact Nat.ne_of_lt (blk_lt (g := gb3471) (o := .cells #[.int .u64 a0_0, .int .u64 a0_1] 24 (0, 0)) (by (with_reducible repeat (first | refine blk_drewN ?_ _ | refine blk_drew ?_ | refine blk_alloc ?_ _)); exact BK3471.out)) : gb3471 ≠ gb4445)); have n11_ := Aside0.mk ((by rw [hg]; exact Nat.ne_of_gt (blk_lt (g := gb3471) (o := .cells #[.int .u64 a0_0, .int .u64 a0_1] 24 (0, 0)) (by (with_reducible repeat (first | refine blk_drewN ?_ _ | refine blk_drew ?_ | refine blk_alloc ?_ _)); exact BK3471.out)) : gb4445 ≠ gb3471)); have n12_ := Aside0.mk ((by rw [hg]; exact Nat.ne_of_lt (blk_lt (g := gb3477) (o := .cells #[.int .u64 t3473, .int .u64 t3474] 24 (0, 0)) (by (with_reducible repeat (first | refine blk_drewN ?_ _ | refine blk_drew ?_ | refine blk_alloc ?_ _)); exact BK3477.out)) : gb3477 ≠ gb4445)); have n13_ := Aside0.mk ((by rw [hg]; exact Nat.ne_of_gt (blk_lt (g := gb3477) (o := .cells #[.int .u64 t3473, .int .u64 t3474] 24 (0, 0)) (by (with_reducible repeat (first | refine blk_drewN ?_ _ | refine blk_drew ?_ | refine blk_alloc ?_ _)); exact BK3477.out)) : gb4445 ≠ gb3477)); have n14_ := Aside0.mk ((by rw [hg]; exact Nat.ne_of_lt (blk_lt (g := gb3482) (o := .cells #[.int .u64 t3478, .int .u64 t3479] 24 (0, 0)) (by (with_reducible repeat (first | refine blk_drewN ?_ _ | refine blk_drew ?_ | refine blk_alloc ?_ _)); exact BK3482.out)) : gb3482 ≠ gb4445)); have n15_ := Aside0.mk ((by rw [hg]; exact Nat.ne_of_gt (blk_lt (g := gb3482) (o := .cells #[.int .u64 t3478, .int .u64 t3479] 24 (0, 0)) (by (with_reducible repeat (first | refine blk_drewN ?_ _ | refine blk_drew ?_ | refine blk_alloc ?_ _)); exact BK3482.out)) : gb4445 ≠ gb3482)); clear BK3470; clear BK3471; clear BK3477; clear BK3482; clear HB; have BK3470 := n0_; have BK3471 := n1_; have BK3477 := n2_; have BK3482 := n3_; have HB := n4_; have BK4445 := n5_; have GW4445 := n6_; have GE4445 := n7_; have NB3470_4445 := n8_; have NB4445_3470 := n9_; have NB3471_4445 := n10_; have NB4445_3471 := n11_; have NB3477_4445 := n12_; have NB4445_3477 := n13_; have NB3482_4445 := n14_; have NB4445_3482 := n15_; clear n0_ n1_ n2_ n3_ n4_ n5_ n6_ n7_ n8_ n9_ n10_ n11_ n12_ n13_ n14_ n15_; clear hb hbox hg; have hnb61 := NB4445_3470.out; have hnc61 := NB3470_4445.out; have hnb62 := NB4445_3471.out; have hnc62 := NB3471_4445.out; have hnb63 := NB4445_3477.out; have hnc63 := NB3477_4445.out; have hnb64 := NB4445_3482.out; have hnc64 := NB3482_4445.out; have hcz65_0 : w60.cell? ⟨gb4445, 0, none⟩ = some (.int .u64 0) := (blk_cell BK4445.out 0).trans rfl; have hcz65_1 : w60.cell? ⟨gb4445, 1, none⟩ = some (.int .u64 0) := (blk_cell BK4445.out 1).trans rfl; have hfz65_0 := blk_frozen BK4445.out 0; have hfz65_1 := blk_frozen BK4445.out 1) | ((with_reducible refine gate_callee (f := 37) rfl ?_); refine goesL_ (some 106) rfl rfl Try.func37 (by kernel_rfl) rfl #[.agg #[.int .u64 t4442, .int .u64 t4443], .int .u64 a0_5] rfl (by (try simp only [List.map_toArray, List.map_cons, List.map_nil]); first | done | rfl | (simp only [List.length_drop, List.length_take]; rfl)) ?_; (with_reducible refine (wide_Div.calls t4442 t4443 a0_5 t4446 t4447 t4448 t4449 _ A51.out).mono ?_); rintro e w66 ⟨rfl, hb⟩; refine ⟨_, rfl, ?_⟩; have n0_ := Aside0.mk (blk_below (g := gb3470) (o := .cells #[.int .u64 a0_0, .int .u64 a0_1, .int .u32 a0_2, .int .u32 a0_3, .int .u64 a0_4, .int .u64 a0_5, .int .u64 a0_6] 54 (0, 0)) (by (with_reducible repeat (first | refine blk_drewN ?_ _ | refine blk_drew ?_ | refine blk_alloc ?_ _)); refine blk_far ?_ NB3470_4445.out _; (with_reducible repeat (first | refine blk_drewN ?_ _ | refine blk_drew ?_ | refine blk_alloc ?_ _)); refine blk_far ?_ NB3470_4445.out _; (with_reducible repeat (first | refine blk_drewN ?_ _ | refine blk_drew ?_ | refine blk_alloc ?_ _)); exact BK3470.out) hb); have n1_ := Aside0.mk (blk_below (g := gb3471) (o := .cells #[.int .u64 a0_0, .int .u64 a0_1] 24 (0, 0)) (by (with_reducible repeat (first | refine blk_drewN ?_ _ | refine blk_drew ?_ | refine blk_alloc ?_ _)); refine blk_far ?_ NB3471_4445.out _; (with_reducible repeat (first | refine blk_drewN ?_ _ | refine blk_drew ?_ | refine blk_alloc ?_ _)); refine blk_far ?_ NB3471_4445.out _; (with_reducible repeat (first | refine blk_drewN ?_ _ | refine blk_drew ?_ | refine blk_alloc ?_ _)); exact BK3471.out) hb); have n2_ := Aside0.mk (blk_below (g := gb3477) (o := .cells #[.int .u64 t3473, .int .u64 t3474] 24 (0, 0)) (by (with_reducible repeat (first | refine blk_drewN ?_ _ | refine blk_drew ?_ | refine blk_alloc ?_ _)); refine blk_far ?_ NB3477_4445.out _; (with_reducible repeat (first | refine blk_drewN ?_ _ | refine blk_drew ?_ | refine blk_alloc ?_ _)); refine blk_far ?_ NB3477_4445.out _; (with_reducible repeat (first | refine blk_drewN ?_ _ | refine blk_drew ?_ | refine blk_alloc ?_ _)); exact BK3477.out) hb); have n3_ := Aside0.mk (blk_below (g := gb3482) (o := .cells #[.int .u64 t3478, .int .u64 t3479] 24 (0, 0)) (by (with_reducible repeat (first | refine blk_drewN ?_ _ | refine blk_drew ?_ | refine blk_alloc ?_ _)); refine blk_far ?_ NB3482_4445.out _; (with_reducible repeat (first | refine blk_drewN ?_ _ | refine blk_drew ?_ | refine blk_alloc ?_ _)); refine blk_far ?_ NB3482_4445.out _; (with_reducible repeat (first | refine blk_drewN ?_ _ | refine blk_drew ?_ | refine blk_alloc ?_ _)); exact BK3482.out) hb); have n4_ := Aside0.mk (blk_below (g := gb4445) (o := .cells #[.int .u64 t4442, .int .u64 t4443] 24 (0, 0)) (by (with_reducible repeat (first | refine blk_drewN ?_ _ | refine blk_drew ?_ | refine blk_alloc ?_ _)); refine blk_put (cs := #[.int .u64 t4442, .int .u64 0]) ?_ 1 _ rfl; (with_reducible repeat (first | refine blk_drewN ?_ _ | refine blk_drew ?_ | refine blk_alloc ?_ _)); refine blk_put (cs := #[.int .u64 0, .int .u64 0]) ?_ 0 _ rfl; (with_reducible repeat (first | refine blk_drewN ?_ _ | refine blk_drew ?_ | refine blk_alloc ?_ _)); exact BK4445.out) hb); have n5_ := Aside0.mk (below_step (by repeat (first | (with_reducible first | exact HB.out | apply below_alloc | apply pw_below_drewN | apply below_drew1 | refine below_set ?_ GE3470.out | refine below_set ?_ GE3471.out | refine below_set ?_ GE3477.out | refine below_set ?_ GE3482.out | refine below_set ?_ GE4445.out) | exact HB.out)) hb); clear BK3470; clear BK3471; clear BK3477; clear BK3482; clear BK4445; clear HB; have BK3470 := n0_; have BK3471 := n1_; have BK3477 := n2_; have BK3482 := n3_; have BK4445 := n4_; have HB := n5_; clear n0_ n1_ n2_ n3_ n4_ n5_; (try clear hb); (try clear hb2); (try clear hk); (try clear hi)) | ((with_reducible refine gate_dst (N := 24) rfl ?_); refine box_event ?hg (N := 24) ?hd (cs := #[.int .u64 0, .int .u64 0]) (t := 24) ?hr ?_; (case hd => rfl); (case hg => rfl); (case hr => first | (go_simp; done) | (go_simp; rfl)); intro gb4450 hg w67 hbox hb; have n0_ := Aside0.mk (blk_below (g := gb3470) (o := .cells #[.int .u64 a0_0, .int .u64 a0_1, .int .u32 a0_2, .int .u32 a0_3, .int .u64 a0_4, .int .u64 a0_5, .int .u64 a0_6] 54 (0, 0)) (by (with_reducible repeat (first | refine blk_drewN ?_ _ | refine blk_drew ?_ | refine blk_alloc ?_ _)); exact BK3470.out) hb); have n1_ := Aside0.mk (blk_below (g := gb3471) (o := .cells #[.int .u64 a0_0, .int .u64 a0_1] 24 (0, 0)) (by (with_reducible repeat (first | refine blk_drewN ?_ _ | refine blk_drew ?_ | refine blk_alloc ?_ _)); exact BK3471.out) hb); have n2_ := Aside0.mk (blk_below (g := gb3477) (o := .cells #[.int .u64 t3473, .int .u64 t3474] 24 (0, 0)) (by (with_reducible repeat (first | refine blk_drewN ?_ _ | refine blk_drew ?_ | refine blk_alloc ?_ _)); exact BK3477.out) hb); have n3_ := Aside0.mk (blk_below (g := gb3482) (o := .cells #[.int .u64 t3478, .int .u64 t3479] 24 (0, 0)) (by (with_reducible repeat (first | refine blk_drewN ?_ _ | refine blk_drew ?_ | refine blk_alloc ?_ _)); exact BK3482.out) hb); have n4_ := Aside0.mk (blk_below (g := gb4445) (o := .cells #[.int .u64 t4442, .int .u64 t4443] 24 (0, 0)) (by (with_reducible repeat (first | refine blk_drewN ?_ _ | refine blk_drew ?_ | refine blk_alloc ?_ _)); exact BK4445.out) hb); have n5_ := Aside0.mk (below_step (by repeat (first | (with_reducible first | exact HB.out | apply below_alloc | apply pw_below_drewN | apply below_drew1 | refine below_set ?_ GE3470.out | refine below_set ?_ GE3471.out | refine below_set ?_ GE3477.out | refine below_set ?_ GE3482.out | refine below_set ?_ GE4445.out) | exact HB.out)) hb); have n6_ := Aside0.mk (hbox); have n7_ := Aside0.mk ((by rw [hg]; exact (below_size (by repeat (first | (with_reducible first | exact HB.out | apply below_alloc | apply pw_below_drewN | apply below_drew1 | refine below_set ?_ GE3470.out | refine below_set ?_ GE3471.out | refine below_set ?_ GE3477.out | refine below_set ?_ GE3482.out | refine below_set ?_ GE4445.out) | exact HB.out))) : w.heap.size ≤ gb4450)); have n8_ := Aside0.mk ((by rw [hg]; exact (below_size (by repeat (first | (with_reducible first | exact HB.out | apply below_alloc | apply pw_below_drewN | apply below_drew1 | refine below_set ?_ GE3470.out | refine below_set ?_ GE3471.out | refine below_set ?_ GE3477.out | refine below_set ?_ GE3482.out | refine below_set ?_ GE4445.out) | exact HB.out))) : w.heap.size ≤ gb4450)); have n9_ := Aside0.mk ((by rw [hg]; exact Nat.ne_of_lt (blk_lt (g := gb3470) (o := .cells #[.int .u64 a0_0, .int .u64 a0_1, .int .u32 a0_2, .int .u32 a0_3, .int .u64 a0_4, .int .u64 a0_5, .int .u64 a0_6] 54 (0, 0)) (by (with_reducible repeat (first | refine blk_drewN ?_ _ | refine blk_drew ?_ | refine blk_alloc ?_ _)); exact BK3470.out)) : gb3470 ≠ gb4450)); have n10_ := Aside0.mk ((by rw [hg]; exact Nat.ne_of_gt (blk_lt (g := gb3470) (o := .cells #[.int .u64 a0_0, .int .u64 a0_1, .int .u32 a0_2, .int .u32 a0_3, .int .u64 a0_4, .int .u64 a0_5, .int .u64 a0_6] 54 (0, 0)) (by (with_reducible repeat (first | refine blk_drewN ?_ _ | refine blk_drew ?_ | refine blk_alloc ?_ _)); exact BK3470.out)) : gb4450 ≠ gb3470)); have n11_ := Aside0.mk ((by rw [hg]; exact Nat.ne_of_lt (blk_lt (g := gb3471) (o := .cells #[.int .u64 a0_0, .int .u64 a0_1] 24 (0, 0)) (by (with_reducible repeat (first | refine blk_drewN ?_ _ | refine blk_drew ?_ | refine blk_alloc ?_ _)); exact BK3471.out)) : gb3471 ≠ gb4450)); have n12_ := Aside0.mk ((by rw [hg]; exact Nat.ne_of_gt (blk_lt (g := gb3471) (o := .cells #[.int .u64 a0_0, .int .u64 a0_1] 24 (0, 0)) (by (with_reducible repeat (first | refine blk_drewN ?_ _ | refine blk_drew ?_ | refine blk_alloc ?_ _)); exact BK3471.out)) : gb4450 ≠ gb3471)); have n13_ := Aside0.mk ((by rw [hg]; exact Nat.ne_of_lt (blk_lt (g := gb3477) (o := .cells #[.int .u64 t3473, .int .u64 t3474] 24 (0, 0)) (by (with_reducible repeat (first | refine blk_drewN ?_ _ | refine blk_drew ?_ | refine blk_alloc ?_ _)); exact BK3477.out)) : gb3477 ≠ gb4450)); have n14_ := Aside0.mk ((by rw [hg]; exact Nat.ne_of_gt (blk_lt (g := gb3477) (o := .cells #[.int .u64 t3473, .int .u64 t3474] 24 (0, 0)) (by (with_reducible repeat (first | refine blk_drewN ?_ _ | refine blk_drew ?_ | refine blk_alloc ?_ _)); exact BK3477.out)) : gb4450 ≠ gb3477)); have n15_ := Aside0.mk ((by rw [hg]; exact Nat.ne_of_lt (blk_lt (g := gb3482) (o := .cells #[.int .u64 t3478, .int .u64 t3479] 24 (0, 0)) (by (with_reducible repeat (first | refine blk_drewN ?_ _ | refine blk_drew ?_ | refine blk_alloc ?_ _)); exact BK3482.out)) : gb3482 ≠ gb4450)); have n16_ := Aside0.mk ((by rw [hg]; exact Nat.ne_of_gt (blk_lt (g := gb3482) (o := .cells #[.int .u64 t3478, .int .u64 t3479] 24 (0, 0)) (by (with_reducible repeat (first | refine blk_drewN ?_ _ | refine blk_drew ?_ | refine blk_alloc ?_ _)); exact BK3482.out)) : gb4450 ≠ gb3482)); have n17_ := Aside0.mk ((by rw [hg]; exact Nat.ne_of_lt (blk_lt (g := gb4445) (o := .cells #[.int .u64 t4442, .int .u64 t4443] 24 (0, 0)) (by (with_reducible repeat (first | refine blk_drewN ?_ _ | refine blk_drew ?_ | refine blk_alloc ?_ _)); exact BK4445.out)) : gb4445 ≠ gb4450)); have n18_ := Aside0.mk ((by rw [hg]; exact Nat.ne_of_gt (blk_lt (g := gb4445) (o := .cells #[.int .u64 t4442, .int .u64 t4443] 24 (0, 0)) (by (with_reducible repeat (first | refine blk_drewN ?_ _ | refine blk_drew ?_ | refine blk_alloc ?_ _)); exact BK4445.out)) : gb4450 ≠ gb4445)); clear BK3470; clear BK3471; clear BK3477; clear BK3482; clear BK4445; clear HB; have BK3470 := n0_; have BK3471 := n1_; have BK3477 := n2_; have BK3482 := n3_; have BK4445 := n4_; have HB := n5_; have BK4450 := n6_; have GW4450 := n7_; have GE4450 := n8_; have NB3470_4450 := n9_; have NB4450_3470 := n10_; have NB3471_4450 := n11_; have NB4450_3471 := n12_; have NB3477_4450 := n13_; have NB4450_3477 := n14_; have NB3482_4450 := n15_; have NB4450_3482 := n16_; have NB4445_4450 := n17_; have NB4450_4445 := n18_; clear n0_ n1_ n2_ n3_ n4_ n5_ n6_ n7_ n8_ n9_ n10_ n11_ n12_ n13_ n14_ n15_ n16_ n17_ n18_; clear hb hbox hg; have hnb68 := NB4450_3470.out; have hnc68 := NB3470_4450.out; have hnb69 := NB4450_3471.out; have hnc69 := NB3471_4450.out; have hnb70 := NB4450_3477.out; have hnc70 := NB3477_4450.out; have hnb71 := NB4450_3482.out; have hnc71 := NB3482_4450.out; have hnb72 := NB4450_4445.out; have hnc72 := NB4445_4450.out; have hcz73_0 : w67.cell? ⟨gb4450, 0, none⟩ = some (.int .u64 0) := (blk_cell BK4450.out 0).trans rfl; have hcz73_1 : w67.cell? ⟨gb4450, 1, none⟩ = some (.int .u64 0) := (blk_cell BK4450.out 1).trans rfl; have hfz73_0 := blk_frozen BK4450.out 0; have hfz73_1 := blk_frozen BK4450.out 1))
                        have n0_ : Aside0 (((w67.setCell ⟨gb4450, 0, none⟩ (.int .u64 t4446)).setCell ⟨gb4450, 1, none⟩ (.int .u64 t4447)).heap[gb3470]? = some (.cells #[.int .u64 a0_0, .int .u64 a0_1, .int .u32 a0_2, .int .u32 a0_3, .int .u64 a0_4, .int .u64 a0_5, .int .u64 a0_6] 54 (0, 0))) := ⟨by (with_reducible repeat (first | refine blk_drewN ?_ _ | refine blk_drew ?_ | refine blk_alloc ?_ _)); refine blk_far ?_ NB3470_4450.out _; (with_reducible repeat (first | refine blk_drewN ?_ _ | refine blk_drew ?_ | refine blk_alloc ?_ _)); refine blk_far ?_ NB3470_4450.out _; (with_reducible repeat (first | refine blk_drewN ?_ _ | refine blk_drew ?_ | refine blk_alloc ?_ _)); exact BK3470.out⟩
                        have n1_ : Aside0 (((w67.setCell ⟨gb4450, 0, none⟩ (.int .u64 t4446)).setCell ⟨gb4450, 1, none⟩ (.int .u64 t4447)).heap[gb3471]? = some (.cells #[.int .u64 a0_0, .int .u64 a0_1] 24 (0, 0))) := ⟨by (with_reducible repeat (first | refine blk_drewN ?_ _ | refine blk_drew ?_ | refine blk_alloc ?_ _)); refine blk_far ?_ NB3471_4450.out _; (with_reducible repeat (first | refine blk_drewN ?_ _ | refine blk_drew ?_ | refine blk_alloc ?_ _)); refine blk_far ?_ NB3471_4450.out _; (with_reducible repeat (first | refine blk_drewN ?_ _ | refine blk_drew ?_ | refine blk_alloc ?_ _)); exact BK3471.out⟩
                        have n2_ : Aside0 (((w67.setCell ⟨gb4450, 0, none⟩ (.int .u64 t4446)).setCell ⟨gb4450, 1, none⟩ (.int .u64 t4447)).heap[gb3477]? = some (.cells #[.int .u64 t3473, .int .u64 t3474] 24 (0, 0))) := ⟨by (with_reducible repeat (first | refine blk_drewN ?_ _ | refine blk_drew ?_ | refine blk_alloc ?_ _)); refine blk_far ?_ NB3477_4450.out _; (with_reducible repeat (first | refine blk_drewN ?_ _ | refine blk_drew ?_ | refine blk_alloc ?_ _)); refine blk_far ?_ NB3477_4450.out _; (with_reducible repeat (first | refine blk_drewN ?_ _ | refine blk_drew ?_ | refine blk_alloc ?_ _)); exact BK3477.out⟩
                        have n3_ : Aside0 (((w67.setCell ⟨gb4450, 0, none⟩ (.int .u64 t4446)).setCell ⟨gb4450, 1, none⟩ (.int .u64 t4447)).heap[gb3482]? = some (.cells #[.int .u64 t3478, .int .u64 t3479] 24 (0, 0))) := ⟨by (with_reducible repeat (first | refine blk_drewN ?_ _ | refine blk_drew ?_ | refine blk_alloc ?_ _)); refine blk_far ?_ NB3482_4450.out _; (with_reducible repeat (first | refine blk_drewN ?_ _ | refine blk_drew ?_ | refine blk_alloc ?_ _)); refine blk_far ?_ NB3482_4450.out _; (with_reducible repeat (first | refine blk_drewN ?_ _ | refine blk_drew ?_ | refine blk_alloc ?_ _)); exact BK3482.out⟩
                        have n4_ : Aside0 (((w67.setCell ⟨gb4450, 0, none⟩ (.int .u64 t4446)).setCell ⟨gb4450, 1, none⟩ (.int .u64 t4447)).heap[gb4445]? = some (.cells #[.int .u64 t4442, .int .u64 t4443] 24 (0, 0))) := ⟨by (with_reducible repeat (first | refine blk_drewN ?_ _ | refine blk_drew ?_ | refine blk_alloc ?_ _)); refine blk_far ?_ NB4445_4450.out _; (with_reducible repeat (first | refine blk_drewN ?_ _ | refine blk_drew ?_ | refine blk_alloc ?_ _)); refine blk_far ?_ NB4445_4450.out _; (with_reducible repeat (first | refine blk_drewN ?_ _ | refine blk_drew ?_ | refine blk_alloc ?_ _)); exact BK4445.out⟩
                        have n5_ : Aside0 (((w67.setCell ⟨gb4450, 0, none⟩ (.int .u64 t4446)).setCell ⟨gb4450, 1, none⟩ (.int .u64 t4447)).heap[gb4450]? = some (.cells #[.int .u64 t4446, .int .u64 t4447] 24 (0, 0))) := ⟨by (with_reducible repeat (first | refine blk_drewN ?_ _ | refine blk_drew ?_ | refine blk_alloc ?_ _)); refine blk_put (cs := #[.int .u64 t4446, .int .u64 0]) ?_ 1 _ rfl; (with_reducible repeat (first | refine blk_drewN ?_ _ | refine blk_drew ?_ | refine blk_alloc ?_ _)); refine blk_put (cs := #[.int .u64 0, .int .u64 0]) ?_ 0 _ rfl; (with_reducible repeat (first | refine blk_drewN ?_ _ | refine blk_drew ?_ | refine blk_alloc ?_ _)); exact BK4450.out⟩
                        have n6_ : Aside0 (Below w.heap.size w ((w67.setCell ⟨gb4450, 0, none⟩ (.int .u64 t4446)).setCell ⟨gb4450, 1, none⟩ (.int .u64 t4447))) := ⟨by repeat (first | (with_reducible first | exact HB.out | apply below_alloc | apply pw_below_drewN | apply below_drew1 | refine below_set ?_ GE3470.out | refine below_set ?_ GE3471.out | refine below_set ?_ GE3477.out | refine below_set ?_ GE3482.out | refine below_set ?_ GE4445.out | refine below_set ?_ GE4450.out) | exact HB.out)⟩
                        (try clear BK3470)
                        (try clear BK3471)
                        (try clear BK3477)
                        (try clear BK3482)
                        (try clear BK4445)
                        (try clear BK4450)
                        (try clear HB)
                        generalize ((w67.setCell ⟨gb4450, 0, none⟩ (.int .u64 t4446)).setCell ⟨gb4450, 1, none⟩ (.int .u64 t4447)) = w74 at n0_ n1_ n2_ n3_ n4_ n5_ n6_ ⊢
                        have BK3470 := n0_
                        have BK3471 := n1_
                        have BK3477 := n2_
                        have BK3482 := n3_
                        have BK4445 := n4_
                        have BK4450 := n5_
                        have HB := n6_
                        clear n0_ n1_ n2_ n3_ n4_ n5_ n6_
                        have n0_ := Aside0.mk (blk_drew BK3470.out)
                        have n1_ := Aside0.mk (blk_drew BK3471.out)
                        have n2_ := Aside0.mk (blk_drew BK3477.out)
                        have n3_ := Aside0.mk (blk_drew BK3482.out)
                        have n4_ := Aside0.mk (blk_drew BK4445.out)
                        have n5_ := Aside0.mk (blk_drew BK4450.out)
                        have n6_ := Aside0.mk (below_drew1 HB.out)
                        clear BK3470
                        clear BK3471
                        clear BK3477
                        clear BK3482
                        clear BK4445
                        clear BK4450
                        clear HB
                        have BK3470 := n0_
                        have BK3471 := n1_
                        have BK3477 := n2_
                        have BK3482 := n3_
                        have BK4445 := n4_
                        have BK4450 := n5_
                        have HB := n6_
                        clear n0_ n1_ n2_ n3_ n4_ n5_ n6_
                        refine start_ (n := 21) (S := fun w' => w'.cell? ⟨gb4450, 0, none⟩ = some (.int .u64 t4446) ∧ w'.cell? ⟨gb4450, 1, none⟩ = some (.int .u64 t4447)) (ds := []) #[false, false, false, false, false, false, false, false, false, false, false, false, false, false, false, false, false, false, false, false, false] (by kernel_rfl) rfl rfl ⟨(blk_cell BK4450.out 0).trans rfl, (blk_cell BK4450.out 1).trans rfl⟩ (fun hHeld => ?_); refine with_tabW demurragelaw01_WideParts.tab23 demurragelaw01_WideParts.bits23 (fun HT_ HW_ => ?_)
                        generalize w74.drew = w75 at BK3470 BK3471 BK3477 BK3482 BK4445 BK4450 HB hHeld ⊢
                        refine pure_ (i := 0) (N := some 110) (v := ?_) (a' := ?_) #[true, false, false, false, false, false, false, false, false, false, false, false, false, false, false, false, false, false, false, false, false] rfl rfl (any_of HT_.out (by kernel_rfl)) (fun _ _ _ h => h) (Or.inl ⟨by rfl, ?_⟩) ?_ ?_
                        rotate_left
                        · intro w'
                          go_simp
                          with_reducible rfl
                        rotate_left
                        · simp only [Act.put, List.setIfInBounds_toArray, List.set_cons_zero, List.set_cons_succ, i64_w, i32_w]
                          rfl
                        refine pure_ (i := 1) (N := some 111) (v := ?_) (a' := ?_) #[true, true, false, false, false, false, false, false, false, false, false, false, false, false, false, false, false, false, false, false, false] rfl rfl (any_of HT_.out (by kernel_rfl)) (fun _ _ _ h => h) (Or.inl ⟨by rfl, ?_⟩) ?_ ?_
                        rotate_left
                        · intro w'
                          go_simp
                          with_reducible rfl
                        rotate_left
                        · simp only [Act.put, List.setIfInBounds_toArray, List.set_cons_zero, List.set_cons_succ, i64_w, i32_w]
                          rfl
                        refine pure_ (i := 2) (N := some 112) (v := ?_) (a' := ?_) #[true, true, true, false, false, false, false, false, false, false, false, false, false, false, false, false, false, false, false, false, false] rfl rfl (any_of HT_.out (by kernel_rfl)) (fun _ _ _ h => h) (Or.inl ⟨by rfl, ?_⟩) ?_ ?_
                        rotate_left
                        · intro w'
                          go_simp
                          with_reducible rfl
                        rotate_left
                        · simp only [Act.put, List.setIfInBounds_toArray, List.set_cons_zero, List.set_cons_succ, i64_w, i32_w]
                          rfl
                        refine pure_ (i := 3) (N := some 113) (v := ?_) (a' := ?_) #[true, true, true, true, false, false, false, false, false, false, false, false, false, false, false, false, false, false, false, false, false] rfl rfl (any_of HT_.out (by kernel_rfl)) (fun _ _ _ h => h) (Or.inl ⟨by rfl, ?_⟩) ?_ ?_
                        rotate_left
                        · intro w'
                          go_simp
                          with_reducible rfl
                        rotate_left
                        · simp only [Act.put, List.setIfInBounds_toArray, List.set_cons_zero, List.set_cons_succ, i64_w, i32_w]
                          rfl
                        refine pure_ (i := 4) (N := some 114) (v := ?_) (a' := ?_) #[true, true, true, true, true, false, false, false, false, false, false, false, false, false, false, false, false, false, false, false, false] rfl rfl (any_of HT_.out (by kernel_rfl)) (fun _ _ _ h => h) (Or.inl ⟨by rfl, ?_⟩) ?_ ?_
                        rotate_left
                        · intro w'
                          go_simp
                          with_reducible rfl
                        rotate_left
                        · simp only [Act.put, List.setIfInBounds_toArray, List.set_cons_zero, List.set_cons_succ, i64_w, i32_w]
                          rfl
                        refine pure_ (i := 5) (N := some 115) (v := ?_) (a' := ?_) #[true, true, true, true, true, true, false, false, false, false, false, false, false, false, false, false, false, false, false, false, false] rfl rfl (any_of HT_.out (by kernel_rfl)) (fun _ _ _ h => h) (Or.inl ⟨by rfl, ?_⟩) ?_ ?_
                        rotate_left
                        · intro w'
                          go_simp
                          with_reducible rfl
                        rotate_left
                        · simp only [Act.put, List.setIfInBounds_toArray, List.set_cons_zero, List.set_cons_succ, i64_w, i32_w]
                          rfl
                        refine pure_ (i := 6) (N := some 116) (v := ?_) (a' := ?_) #[true, true, true, true, true, true, true, false, false, false, false, false, false, false, false, false, false, false, false, false, false] rfl rfl (any_of HT_.out (by kernel_rfl)) (fun _ _ _ h => h) (Or.inl ⟨by rfl, ?_⟩) ?_ ?_
                        rotate_left
                        · intro w'
                          go_simp
                          with_reducible rfl
                        rotate_left
                        · simp only [Act.put, List.setIfInBounds_toArray, List.set_cons_zero, List.set_cons_succ, i64_w, i32_w]
                          rfl
                        refine pure_ (i := 7) (N := some 117) (v := ?_) (a' := ?_) #[true, true, true, true, true, true, true, true, false, false, false, false, false, false, false, false, false, false, false, false, false] rfl rfl (any_of HT_.out (by kernel_rfl)) (fun _ _ _ h => h) (Or.inl ⟨by rfl, ?_⟩) ?_ ?_
                        rotate_left
                        · intro w'
                          go_simp
                          with_reducible rfl
                        rotate_left
                        · simp only [Act.put, List.setIfInBounds_toArray, List.set_cons_zero, List.set_cons_succ, i64_w, i32_w]
                          rfl
                        refine pure_ (i := 8) (N := some 118) (v := ?_) (a' := ?_) #[true, true, true, true, true, true, true, true, true, false, false, false, false, false, false, false, false, false, false, false, false] rfl rfl (any_of HT_.out (by kernel_rfl)) (fun _ _ _ h => h) (Or.inl ⟨by rfl, ?_⟩) ?_ ?_
                        rotate_left
                        · intro w'
                          go_simp
                          with_reducible rfl
                        rotate_left
                        · simp only [Act.put, List.setIfInBounds_toArray, List.set_cons_zero, List.set_cons_succ, i64_w, i32_w]
                          rfl
                        refine pure_ (i := 9) (N := some 119) (v := ?_) (a' := ?_) #[true, true, true, true, true, true, true, true, true, true, false, false, false, false, false, false, false, false, false, false, false] rfl rfl (any_of HT_.out (by kernel_rfl)) (fun _ _ _ h => h) (Or.inl ⟨by rfl, ?_⟩) ?_ ?_
                        rotate_left
                        · intro w'
                          go_simp
                          with_reducible rfl
                        rotate_left
                        · simp only [Act.put, List.setIfInBounds_toArray, List.set_cons_zero, List.set_cons_succ, i64_w, i32_w]
                          rfl
                        refine pure_ (i := 11) (N := some 121) (v := ?_) (a' := ?_) #[true, true, true, true, true, true, true, true, true, true, false, true, false, false, false, false, false, false, false, false, false] rfl rfl (any_of HT_.out (by kernel_rfl)) (fun _ _ _ h => h) (Or.inl ⟨by rfl, ?_⟩) ?_ ?_
                        rotate_left
                        · intro w'
                          go_simp
                          with_reducible rfl
                        rotate_left
                        · simp only [Act.put, List.setIfInBounds_toArray, List.set_cons_zero, List.set_cons_succ, i64_w, i32_w]
                          rfl
                        refine take_ (i := 10) (N := some 120) (v := ?_) (a' := ?_) #[true, true, true, true, true, true, true, true, true, true, true, true, false, false, false, false, false, false, false, false, false] rfl rfl (take_ofW HT_.out HW_.out (by kernel_rfl)) (fun _ _ _ h => h) (Or.inl ⟨by rfl, ?_⟩) hHeld ?_ ?_
                        rotate_left
                        · rintro w' ⟨s0, s1⟩
                          go_simp
                          with_reducible rfl
                        rotate_left
                        · simp only [Act.put, List.setIfInBounds_toArray, List.set_cons_zero, List.set_cons_succ, i64_w, i32_w]
                          rfl
                        refine one_ (i := 12) (N := some 122) #[true, true, true, true, true, true, true, true, true, true, true, true, true, false, false, false, false, false, false, false, false] rfl rfl (one_of HT_.out (by kernel_rfl)) (by decide) (fun K hK => ?_)
                        refine goes_ Try.func33 (by kernel_rfl) rfl #[.int .u64 a0_4] (by rfl) rfl rfl (by (try simp only [List.map_toArray, List.map_cons, List.map_nil]); first | done | rfl | (simp only [List.length_drop, List.length_take]; rfl)) ?_
                        with_reducible refine (wide_Of.calls a0_4 t4451 t4452 _ A55.out).mono ?_
                        rintro e w76 ⟨rfl, hb⟩
                        refine ⟨_, rfl, ?_⟩
                        have n0_ := Aside0.mk (blk_below (g := gb3470) (o := .cells #[.int .u64 a0_0, .int .u64 a0_1, .int .u32 a0_2, .int .u32 a0_3, .int .u64 a0_4, .int .u64 a0_5, .int .u64 a0_6] 54 (0, 0)) (by (with_reducible repeat (first | refine blk_drewN ?_ _ | refine blk_drew ?_ | refine blk_alloc ?_ _)); exact BK3470.out) hb)
                        have n1_ := Aside0.mk (blk_below (g := gb3471) (o := .cells #[.int .u64 a0_0, .int .u64 a0_1] 24 (0, 0)) (by (with_reducible repeat (first | refine blk_drewN ?_ _ | refine blk_drew ?_ | refine blk_alloc ?_ _)); exact BK3471.out) hb)
                        have n2_ := Aside0.mk (blk_below (g := gb3477) (o := .cells #[.int .u64 t3473, .int .u64 t3474] 24 (0, 0)) (by (with_reducible repeat (first | refine blk_drewN ?_ _ | refine blk_drew ?_ | refine blk_alloc ?_ _)); exact BK3477.out) hb)
                        have n3_ := Aside0.mk (blk_below (g := gb3482) (o := .cells #[.int .u64 t3478, .int .u64 t3479] 24 (0, 0)) (by (with_reducible repeat (first | refine blk_drewN ?_ _ | refine blk_drew ?_ | refine blk_alloc ?_ _)); exact BK3482.out) hb)
                        have n4_ := Aside0.mk (blk_below (g := gb4445) (o := .cells #[.int .u64 t4442, .int .u64 t4443] 24 (0, 0)) (by (with_reducible repeat (first | refine blk_drewN ?_ _ | refine blk_drew ?_ | refine blk_alloc ?_ _)); exact BK4445.out) hb)
                        have n5_ := Aside0.mk (blk_below (g := gb4450) (o := .cells #[.int .u64 t4446, .int .u64 t4447] 24 (0, 0)) (by (with_reducible repeat (first | refine blk_drewN ?_ _ | refine blk_drew ?_ | refine blk_alloc ?_ _)); exact BK4450.out) hb)
                        have n6_ := Aside0.mk (below_step (by repeat (first | (with_reducible first | exact HB.out | apply below_alloc | apply pw_below_drewN | apply below_drew1 | refine below_set ?_ GE3470.out | refine below_set ?_ GE3471.out | refine below_set ?_ GE3477.out | refine below_set ?_ GE3482.out | refine below_set ?_ GE4445.out | refine below_set ?_ GE4450.out) | exact HB.out)) hb)
                        clear BK3470
                        clear BK3471
                        clear BK3477
                        clear BK3482
                        clear BK4445
                        clear BK4450
                        clear HB
                        have BK3470 := n0_
                        have BK3471 := n1_
                        have BK3477 := n2_
                        have BK3482 := n3_
                        have BK4445 := n4_
                        have BK4450 := n5_
                        have HB := n6_
                        clear n0_ n1_ n2_ n3_ n4_ n5_ n6_
                        (try clear hb)
                        (try clear hb2)
                        (try clear hk)
                        (try clear hi)
                        refine hK.out _ _ ⟨(blk_cell BK4450.out 0).trans rfl, (blk_cell BK4450.out 1).trans rfl⟩ (fun hHeld => ?_)
                        clear hK K
                        refine norm_ (a' := ?_) ?_ ?_
                        rotate_left
                        · show Act.put _ (some 122) _ = _
                          simp only [Act.put, List.setIfInBounds_toArray, List.set_cons_zero, List.set_cons_succ, i64_w, i32_w]
                          rfl
                        refine pure_ (i := 13) (N := some 123) (v := ?_) (a' := ?_) #[true, true, true, true, true, true, true, true, true, true, true, true, true, true, false, false, false, false, false, false, false] rfl rfl (any_of HT_.out (by kernel_rfl)) (fun _ _ _ h => h) (Or.inl ⟨by rfl, ?_⟩) ?_ ?_
                        rotate_left
                        · intro w'
                          go_simp
                          with_reducible rfl
                        rotate_left
                        · simp only [Act.put, List.setIfInBounds_toArray, List.set_cons_zero, List.set_cons_succ, i64_w, i32_w]
                          rfl
                        refine pure_ (i := 14) (N := some 124) (v := ?_) (a' := ?_) #[true, true, true, true, true, true, true, true, true, true, true, true, true, true, true, false, false, false, false, false, false] rfl rfl (any_of HT_.out (by kernel_rfl)) (fun _ _ _ h => h) (Or.inl ⟨by rfl, ?_⟩) ?_ ?_
                        rotate_left
                        · intro w'
                          go_simp
                          with_reducible rfl
                        rotate_left
                        · simp only [Act.put, List.setIfInBounds_toArray, List.set_cons_zero, List.set_cons_succ, i64_w, i32_w]
                          rfl
                        refine pure_ (i := 15) (N := some 125) (v := ?_) (a' := ?_) #[true, true, true, true, true, true, true, true, true, true, true, true, true, true, true, true, false, false, false, false, false] rfl rfl (any_of HT_.out (by kernel_rfl)) (fun _ _ _ h => h) (Or.inl ⟨by rfl, ?_⟩) ?_ ?_
                        rotate_left
                        · intro w'
                          go_simp
                          with_reducible rfl
                        rotate_left
                        · simp only [Act.put, List.setIfInBounds_toArray, List.set_cons_zero, List.set_cons_succ, i64_w, i32_w]
                          rfl
                        refine pure_ (i := 16) (N := some 126) (v := ?_) (a' := ?_) #[true, true, true, true, true, true, true, true, true, true, true, true, true, true, true, true, true, false, false, false, false] rfl rfl (any_of HT_.out (by kernel_rfl)) (fun _ _ _ h => h) (Or.inl ⟨by rfl, ?_⟩) ?_ ?_
                        rotate_left
                        · intro w'
                          go_simp
                          with_reducible rfl
                        rotate_left
                        · simp only [Act.put, List.setIfInBounds_toArray, List.set_cons_zero, List.set_cons_succ, i64_w, i32_w]
                          rfl
                        refine pure_ (i := 17) (N := some 127) (v := ?_) (a' := ?_) #[true, true, true, true, true, true, true, true, true, true, true, true, true, true, true, true, true, true, false, false, false] rfl rfl (any_of HT_.out (by kernel_rfl)) (fun _ _ _ h => h) (Or.inl ⟨by rfl, ?_⟩) ?_ ?_
                        rotate_left
                        · intro w'
                          go_simp
                          with_reducible rfl
                        rotate_left
                        · simp only [Act.put, List.setIfInBounds_toArray, List.set_cons_zero, List.set_cons_succ, i64_w, i32_w]
                          rfl
                        refine pure_ (i := 18) (N := some 128) (v := ?_) (a' := ?_) #[true, true, true, true, true, true, true, true, true, true, true, true, true, true, true, true, true, true, true, false, false] rfl rfl (any_of HT_.out (by kernel_rfl)) (fun _ _ _ h => h) (Or.inl ⟨by rfl, ?_⟩) ?_ ?_
                        rotate_left
                        · intro w'
                          go_simp
                          with_reducible rfl
                        rotate_left
                        · simp only [Act.put, List.setIfInBounds_toArray, List.set_cons_zero, List.set_cons_succ, i64_w, i32_w]
                          rfl
                        refine pure_ (i := 19) (N := some 129) (v := ?_) (a' := ?_) #[true, true, true, true, true, true, true, true, true, true, true, true, true, true, true, true, true, true, true, true, false] rfl rfl (any_of HT_.out (by kernel_rfl)) (fun _ _ _ h => h) (Or.inl ⟨by rfl, ?_⟩) ?_ ?_
                        rotate_left
                        · intro w'
                          go_simp
                          with_reducible rfl
                        rotate_left
                        · simp only [Act.put, List.setIfInBounds_toArray, List.set_cons_zero, List.set_cons_succ, i64_w, i32_w]
                          rfl
                        refine pure_ (i := 20) (N := some 2) (v := ?_) (a' := ?_) #[true, true, true, true, true, true, true, true, true, true, true, true, true, true, true, true, true, true, true, true, true] rfl rfl (any_of HT_.out (by kernel_rfl)) (fun _ _ _ h => h) (Or.inl ⟨by rfl, ?_⟩) ?_ ?_
                        rotate_left
                        · intro w'
                          go_simp
                          with_reducible rfl
                        rotate_left
                        · simp only [Act.put, List.setIfInBounds_toArray, List.set_cons_zero, List.set_cons_succ, i64_w, i32_w]
                          rfl
                        refine done_ (done_of HT_.out (by kernel_rfl)) ?_
                        try go_wp2
                        go_ret
                        exact ⟨by first | rfl | (simp [errW_none, errW_some] <;> rfl) | (simp [*, errW_none, errW_some] <;> rfl), by repeat (first | (with_reducible first | exact HB.out | apply below_alloc | apply pw_below_drewN | apply below_drew1 | refine below_set ?_ GE3470.out | refine below_set ?_ GE3471.out | refine below_set ?_ GE3477.out | refine below_set ?_ GE3482.out | refine below_set ?_ GE4445.out | refine below_set ?_ GE4450.out) | exact HB.out)⟩
                      · rw [if_neg c56] at H
                        exact absurd H (by simp)
                    · rw [if_neg c54] at H
                      exact absurd H (by simp)
                  · rw [if_neg c53] at H
                    exact absurd H (by simp)
                · replace c52 := Bool.eq_false_iff.mpr c52
                  subst c52
                  have H1 : (none) = some r := by rw [if_neg (show ¬ (false = true) by decide)] at H; exact H
                  clear H
                  have H := H1
                  clear H1
                  exact absurd H (by simp)
            · rw [if_neg c46] at H
              exact absurd H (by simp)
          · rw [if_neg c45] at H
            exact absurd H (by simp)

end Go.Proofs.Ytcdbmmlnmefoeaa.X
