-- WRITTEN BY printx.py, a program of this session, with the kit's printer
import Derived.Test.YtcdbmmlnmefoeaaX0
import Derived.Test.YtcdbmmlnmefoeaaXEq
import Derived.Test.YtcdbmmlnmefoeaaXWCmp
import Derived.Test.YtcdbmmlnmefoeaaXWMul
import Derived.Test.YtcdbmmlnmefoeaaXSOne
import Derived.Test.YtcdbmmlnmefoeaaHDiv
import Derived.Test.YtcdbmmlnmefoeaaHWide
namespace Go.Proofs.Ytcdbmmlnmefoeaa.X
open Go.RowKit Go.Proofs.YtcdbmmlnmefoeaaW.PrintWords Go.Proofs.YtcdbmmlnmefoeaaW.PrintLast Go.Proofs.YtcdbmmlnmefoeaaW.PrintMore
attribute [local go_sem] max2_int min2_int max_two min_two max_three min_three max_four min_four   -- for this text's walks alone
set_option linter.unusedVariables false
set_option linter.unusedSimpArgs false

attribute [local go_sem high] eqA24
/-! ### demurragelaw01_WideBack: function 5 -/
mutual
def demurragelaw01_WideBack.j0 : Nat → Int → Bool → Int → Int → Option (Bool)
  | 0, _, _, _, _ => none
  | k + 1, x2, x7, x1832000, x1832001 => (wide_Times.f x1832000 x1832001 x2).bind fun bt2351 => (if bt2351.2.2 = 0 then (demurragelaw01_WideBack.j1 k x2 x7 (decide (x2 > 0)) x1832000 x1832001 bt2351.1 bt2351.2.1) else (demurragelaw01_WideBack.j1 k x2 x7 false x1832000 x1832001 bt2351.1 bt2351.2.1))
def demurragelaw01_WideBack.j1 : Nat → Int → Bool → Bool → Int → Int → Int → Int → Option (Bool)
  | 0, _, _, _, _, _, _, _ => none
  | k + 1, x2, x7, x63, x1832000, x1832001, x2355000, x2355001 => if x63 = true then ((wide_Div.f x2355000 x2355001 x2).bind fun bt2510 => (if bt2510.2.2.2 = 0 then (if (!(bt2510.1 == x1832000) || (!(bt2510.2.1 == x1832001))) = true then (none) else (if bt2510.2.2.1 = 0 then (demurragelaw01_WideBack.j2 k x2 x7 x1832000 x1832001 x2355000 x2355001) else (none))) else (none))) else (demurragelaw01_WideBack.j2 k x2 x7 x1832000 x1832001 x2355000 x2355001)
def demurragelaw01_WideBack.j2 : Nat → Int → Bool → Int → Int → Int → Int → Option (Bool)
  | 0, _, _, _, _, _, _ => none
  | k + 1, x2, x7, x1832000, x1832001, x2355000, x2355001 => if x2 = 0 then (if x7 = true then (some (x2355000 == 0 && (x2355001 == 0))) else (none)) else ((wide_Div.f x1832000 x1832001 x2).bind fun bt2590 => ((wide_Times.f bt2590.1 bt2590.2.1 x2).bind fun bt2595 => ((wide_Of.f bt2590.2.2.1).bind fun bt2599 => ((wide_Add.f bt2595.1 bt2595.2.1 bt2599.1 bt2599.2).bind fun bt2601 => (if x7 = true then (if bt2590.2.2.2 = 0 then (if bt2595.2.2 = 0 then (if bt2601.2.2 = 0 then (if (bt2601.1 == x1832000 && (bt2601.2.1 == x1832001)) = true then (some (decide (bt2590.2.2.1 < x2))) else (none)) else (none)) else (none)) else (none)) else (none))))))
end
def demurragelaw01_WideBack.f (k : Nat) (a0_0 : Int) (a0_1 : Int) (a1_0 : Int) (a1_1 : Int) (a2 : Int) : Option (Bool) := (demurragelaw01_shown.f).bind fun t1833 => ((wide_Add.f a0_0 a0_1 a1_0 a1_1).bind fun bt1834 => (if bt1834.2.2 = 0 then ((wide_Sub.f bt1834.1 bt1834.2.1 a1_0 a1_1).bind fun bt1838 => (if bt1838.2.2 = 0 then (if (!(bt1838.1 == a0_0) || (!(bt1838.2.1 == a0_1))) = true then (none) else ((wide_Cmp.f bt1834.1 bt1834.2.1 a0_0 a0_1).bind fun t1842 => (if t1842 < 0 then (none) else (demurragelaw01_WideBack.j0 k a2 t1833 a0_0 a0_1)))) else (none))) else (demurragelaw01_WideBack.j0 k a2 t1833 a0_0 a0_1)))
theorem demurragelaw01_WideBack.mono_l : ∀ k, (∀ y0 y1 y2 y3, LeO (demurragelaw01_WideBack.j0 k y0 y1 y2 y3) (demurragelaw01_WideBack.j0 (k + 1) y0 y1 y2 y3)) ∧ (∀ y0 y1 y2 y3 y4 y5 y6, LeO (demurragelaw01_WideBack.j1 k y0 y1 y2 y3 y4 y5 y6) (demurragelaw01_WideBack.j1 (k + 1) y0 y1 y2 y3 y4 y5 y6)) ∧ (∀ y0 y1 y2 y3 y4 y5, LeO (demurragelaw01_WideBack.j2 k y0 y1 y2 y3 y4 y5) (demurragelaw01_WideBack.j2 (k + 1) y0 y1 y2 y3 y4 y5))
  | 0 => ⟨fun _ _ _ _ r h => by simp [demurragelaw01_WideBack.j0] at h, fun _ _ _ _ _ _ _ r h => by simp [demurragelaw01_WideBack.j1] at h, fun _ _ _ _ _ _ r h => by simp [demurragelaw01_WideBack.j2] at h⟩
  | k + 1 => by
    obtain ⟨ih0, ih1, ih2⟩ := demurragelaw01_WideBack.mono_l k
    refine ⟨?_, ?_, ?_⟩
    · intro y0 y1 y2 y3
      unfold demurragelaw01_WideBack.j0
      repeat' first
      | (with_reducible exact ih0 _ _ _ _)
      | (with_reducible exact ih1 _ _ _ _ _ _ _)
      | (with_reducible exact ih2 _ _ _ _ _ _)
      | (with_reducible exact LeO.refl _)
      | (with_reducible exact LeO.none _)
      | (with_reducible refine LeO.ite ?_ ?_)
      | (with_reducible refine LeO.bind ?_ (fun _ => ?_))
      | exact ih0 _ _ _ _
      | exact ih1 _ _ _ _ _ _ _
      | exact ih2 _ _ _ _ _ _
      | exact LeO.none _
      | refine LeO.ite ?_ ?_
      | refine LeO.bind ?_ (fun _ => ?_)
    · intro y0 y1 y2 y3 y4 y5 y6
      unfold demurragelaw01_WideBack.j1
      repeat' first
      | (with_reducible exact ih0 _ _ _ _)
      | (with_reducible exact ih1 _ _ _ _ _ _ _)
      | (with_reducible exact ih2 _ _ _ _ _ _)
      | (with_reducible exact LeO.refl _)
      | (with_reducible exact LeO.none _)
      | (with_reducible refine LeO.ite ?_ ?_)
      | (with_reducible refine LeO.bind ?_ (fun _ => ?_))
      | exact ih0 _ _ _ _
      | exact ih1 _ _ _ _ _ _ _
      | exact ih2 _ _ _ _ _ _
      | exact LeO.none _
      | refine LeO.ite ?_ ?_
      | refine LeO.bind ?_ (fun _ => ?_)
    · intro y0 y1 y2 y3 y4 y5
      unfold demurragelaw01_WideBack.j2
      repeat' first
      | (with_reducible exact ih0 _ _ _ _)
      | (with_reducible exact ih1 _ _ _ _ _ _ _)
      | (with_reducible exact ih2 _ _ _ _ _ _)
      | (with_reducible exact LeO.refl _)
      | (with_reducible exact LeO.none _)
      | (with_reducible refine LeO.ite ?_ ?_)
      | (with_reducible refine LeO.bind ?_ (fun _ => ?_))
      | exact ih0 _ _ _ _
      | exact ih1 _ _ _ _ _ _ _
      | exact ih2 _ _ _ _ _ _
      | exact LeO.none _
      | refine LeO.ite ?_ ?_
      | refine LeO.bind ?_ (fun _ => ?_)
theorem demurragelaw01_WideBack.mono : ∀ a0 a1 a2 a3 a4 k, LeO (demurragelaw01_WideBack.f k a0 a1 a2 a3 a4) (demurragelaw01_WideBack.f (k + 1) a0 a1 a2 a3 a4) := by
  intro a0 a1 a2 a3 a4 k
  obtain ⟨ih0, ih1, ih2⟩ := demurragelaw01_WideBack.mono_l k
  unfold demurragelaw01_WideBack.f
  repeat' first
      | (with_reducible exact ih0 _ _ _ _)
      | (with_reducible exact ih1 _ _ _ _ _ _ _)
      | (with_reducible exact ih2 _ _ _ _ _ _)
      | (with_reducible exact LeO.refl _)
      | (with_reducible exact LeO.none _)
      | (with_reducible refine LeO.ite ?_ ?_)
      | (with_reducible refine LeO.bind ?_ (fun _ => ?_))
      | exact ih0 _ _ _ _
      | exact ih1 _ _ _ _ _ _ _
      | exact ih2 _ _ _ _ _ _
      | exact LeO.none _
      | refine LeO.ite ?_ ?_
      | refine LeO.bind ?_ (fun _ => ?_)
def demurragelaw01_WideBack.T16 : Bool × List (List Nat × List Nat) := (true, [([], []), ([], []), ([1], [1]), ([0, 2, 2], [0, 2]), ([3], [3]), ([4], [4]), ([4], [4]), ([], []), ([7, 5, 3, 0, 1, 2, 3, 4, 5, 7], [5, 7]), ([6, 8, 0, 1, 2, 3, 4, 5, 6, 7, 8], [6])])
def demurragelaw01_WideBack.B16 : List Nat := [0, 0, 2, 7, 15, 31, 31, 0, 191, 511]
theorem demurragelaw01_WideBack.tab16 : rtab .any (opsOf Try.f5 16) = demurragelaw01_WideBack.T16 := by kernel_rfl
theorem demurragelaw01_WideBack.bits16 : waitsOk demurragelaw01_WideBack.T16.2 demurragelaw01_WideBack.B16 = true := by kernel_rfl
set_option maxHeartbeats 8000000 in
set_option maxRecDepth 100000 in
theorem demurragelaw01_WideBack.calls (k : Nat) (a0_0 : Int) (a0_1 : Int) (a1_0 : Int) (a1_1 : Int) (a2 : Int) (r : Bool) (w : World) (h : demurragelaw01_WideBack.f k a0_0 a0_1 a1_0 a1_1 a2 = some r) :
    Calls Try.prog 5 #[.agg #[.int .u64 a0_0, .int .u64 a0_1], .agg #[.int .u64 a1_0, .int .u64 a1_1], .int .u64 a2] w fun e w' => e = .returned (.bool r) ∧ Below w.heap.size w w' := by
  have hu24 := Try.underlying24
  have HB := Aside0.mk (Below.refl w.heap.size w)
  have H : ((demurragelaw01_shown.f).bind fun t1833 => ((wide_Add.f a0_0 a0_1 a1_0 a1_1).bind fun bt1834 => (if bt1834.2.2 = 0 then ((wide_Sub.f bt1834.1 bt1834.2.1 a1_0 a1_1).bind fun bt1838 => (if bt1838.2.2 = 0 then (if (!(bt1838.1 == a0_0) || (!(bt1838.2.1 == a0_1))) = true then (none) else ((wide_Cmp.f bt1834.1 bt1834.2.1 a0_0 a0_1).bind fun t1842 => (if t1842 < 0 then (none) else (demurragelaw01_WideBack.j0 k a2 t1833 a0_0 a0_1)))) else (none))) else (demurragelaw01_WideBack.j0 k a2 t1833 a0_0 a0_1)))) = some r := h
  clear h
  replace H := Option.bind_eq_some_iff.mp H
  obtain ⟨t1833, A40, H⟩ := H
  replace H : ((wide_Add.f a0_0 a0_1 a1_0 a1_1).bind fun bt1834 => (if bt1834.2.2 = 0 then ((wide_Sub.f bt1834.1 bt1834.2.1 a1_0 a1_1).bind fun bt1838 => (if bt1838.2.2 = 0 then (if (!(bt1838.1 == a0_0) || (!(bt1838.2.1 == a0_1))) = true then (none) else ((wide_Cmp.f bt1834.1 bt1834.2.1 a0_0 a0_1).bind fun t1842 => (if t1842 < 0 then (none) else (demurragelaw01_WideBack.j0 k a2 t1833 a0_0 a0_1)))) else (none))) else (demurragelaw01_WideBack.j0 k a2 t1833 a0_0 a0_1))) = some r := H
  have A4 := Aside0.mk A40
  clear A40
  replace H := Option.bind_eq_some_iff.mp H
  obtain ⟨⟨t1834, t1835, t1836⟩, A50, H⟩ := H
  replace H : (if t1836 = 0 then ((wide_Sub.f t1834 t1835 a1_0 a1_1).bind fun bt1838 => (if bt1838.2.2 = 0 then (if (!(bt1838.1 == a0_0) || (!(bt1838.2.1 == a0_1))) = true then (none) else ((wide_Cmp.f t1834 t1835 a0_0 a0_1).bind fun t1842 => (if t1842 < 0 then (none) else (demurragelaw01_WideBack.j0 k a2 t1833 a0_0 a0_1)))) else (none))) else (demurragelaw01_WideBack.j0 k a2 t1833 a0_0 a0_1)) = some r := H
  have A5 := Aside0.mk A50
  clear A50
  have HC6 := Aside0.mk H
  clear H
  go_enter Try.func5, Try.ntmps5
  go_upto_if 32 with (first | ((with_reducible refine gate_dst (N := 3) rfl ?_); refine box_event ?hg (N := 3) ?hd (cs := #[.int .u64 a0_0, .int .u64 a0_1]) (t := 24) ?hr ?_; (case hd => rfl); (case hg => rfl); (case hr => first | (go_simp; done) | (go_simp; rfl)); intro gb1831 hg w7 hbox hb; have n0_ := Aside0.mk (below_step (by repeat (first | (with_reducible first | exact HB.out | apply below_alloc | apply pw_below_drewN | apply below_drew1) | exact HB.out)) hb); have n1_ := Aside0.mk (hbox); have n2_ := Aside0.mk ((by rw [hg]; exact (below_size (by repeat (first | (with_reducible first | exact HB.out | apply below_alloc | apply pw_below_drewN | apply below_drew1) | exact HB.out))) : w.heap.size ≤ gb1831)); have n3_ := Aside0.mk ((by rw [hg]; exact (below_size (by repeat (first | (with_reducible first | exact HB.out | apply below_alloc | apply pw_below_drewN | apply below_drew1) | exact HB.out))) : w.heap.size ≤ gb1831)); clear HB; have HB := n0_; have BK1831 := n1_; have GW1831 := n2_; have GE1831 := n3_; clear n0_ n1_ n2_ n3_; clear hb hbox hg) | ((with_reducible refine gate_dst (N := 4) rfl ?_); refine box_event ?hg (N := 4) ?hd (cs := #[.int .u64 a1_0, .int .u64 a1_1]) (t := 24) ?hr ?_; (case hd => rfl); (case hg => rfl); (case hr => first | (go_simp; done) | (go_simp; rfl)); intro gb1832 hg w8 hbox hb; have n0_ := Aside0.mk (blk_below (g := gb1831) (o := .cells #[.int .u64 a0_0, .int .u64 a0_1] 24 (0, 0)) (by (with_reducible repeat (first | refine blk_drewN ?_ _ | refine blk_drew ?_ | refine blk_alloc ?_ _)); exact BK1831.out) hb); have n1_ := Aside0.mk (below_step (by repeat (first | (with_reducible first | exact HB.out | apply below_alloc | apply pw_below_drewN | apply below_drew1 | refine below_set ?_ GE1831.out) | exact HB.out)) hb); have n2_ := Aside0.mk (hbox); have n3_ := Aside0.mk ((by rw [hg]; exact (below_size (by repeat (first | (with_reducible first | exact HB.out | apply below_alloc | apply pw_below_drewN | apply below_drew1 | refine below_set ?_ GE1831.out) | exact HB.out))) : w.heap.size ≤ gb1832)); have n4_ := Aside0.mk ((by rw [hg]; exact (below_size (by repeat (first | (with_reducible first | exact HB.out | apply below_alloc | apply pw_below_drewN | apply below_drew1 | refine below_set ?_ GE1831.out) | exact HB.out))) : w.heap.size ≤ gb1832)); have n5_ := Aside0.mk ((by rw [hg]; exact Nat.ne_of_lt (blk_lt (g := gb1831) (o := .cells #[.int .u64 a0_0, .int .u64 a0_1] 24 (0, 0)) (by (with_reducible repeat (first | refine blk_drewN ?_ _ | refine blk_drew ?_ | refine blk_alloc ?_ _)); exact BK1831.out)) : gb1831 ≠ gb1832)); have n6_ := Aside0.mk ((by rw [hg]; exact Nat.ne_of_gt (blk_lt (g := gb1831) (o := .cells #[.int .u64 a0_0, .int .u64 a0_1] 24 (0, 0)) (by (with_reducible repeat (first | refine blk_drewN ?_ _ | refine blk_drew ?_ | refine blk_alloc ?_ _)); exact BK1831.out)) : gb1832 ≠ gb1831)); clear BK1831; clear HB; have BK1831 := n0_; have HB := n1_; have BK1832 := n2_; have GW1832 := n3_; have GE1832 := n4_; have NB1831_1832 := n5_; have NB1832_1831 := n6_; clear n0_ n1_ n2_ n3_ n4_ n5_ n6_; clear hb hbox hg) | ((with_reducible refine gate_callee (f := 22) rfl ?_); refine goesL_ (some 24) rfl rfl Try.func22 (by kernel_rfl) rfl #[] rfl (by (try simp only [List.map_toArray, List.map_cons, List.map_nil]); first | done | rfl | (simp only [List.length_drop, List.length_take]; rfl)) ?_; (with_reducible refine (demurragelaw01_shown.calls  t1833 _ A4.out).mono ?_); rintro e w9 ⟨rfl, hb⟩; refine ⟨_, rfl, ?_⟩; have n0_ := Aside0.mk (blk_below (g := gb1831) (o := .cells #[.int .u64 a0_0, .int .u64 a0_1] 24 (0, 0)) (by (with_reducible repeat (first | refine blk_drewN ?_ _ | refine blk_drew ?_ | refine blk_alloc ?_ _)); exact BK1831.out) hb); have n1_ := Aside0.mk (blk_below (g := gb1832) (o := .cells #[.int .u64 a1_0, .int .u64 a1_1] 24 (0, 0)) (by (with_reducible repeat (first | refine blk_drewN ?_ _ | refine blk_drew ?_ | refine blk_alloc ?_ _)); exact BK1832.out) hb); have n2_ := Aside0.mk (below_step (by repeat (first | (with_reducible first | exact HB.out | apply below_alloc | apply pw_below_drewN | apply below_drew1 | refine below_set ?_ GE1831.out | refine below_set ?_ GE1832.out) | exact HB.out)) hb); clear BK1831; clear BK1832; clear HB; have BK1831 := n0_; have BK1832 := n1_; have HB := n2_; clear n0_ n1_ n2_; (try clear hb); (try clear hb2); (try clear hk); (try clear hi); have hnb10 := NB1831_1832.out; have hnc10 := NB1832_1831.out; have hcz11_0 : w9.cell? ⟨gb1831, 0, none⟩ = some (.int .u64 a0_0) := (blk_cell BK1831.out 0).trans rfl; have hcz11_1 : w9.cell? ⟨gb1831, 1, none⟩ = some (.int .u64 a0_1) := (blk_cell BK1831.out 1).trans rfl; have hfz11_0 := blk_frozen BK1831.out 0; have hfz11_1 := blk_frozen BK1831.out 1; have hcz12_0 : w9.cell? ⟨gb1832, 0, none⟩ = some (.int .u64 a1_0) := (blk_cell BK1832.out 0).trans rfl; have hcz12_1 : w9.cell? ⟨gb1832, 1, none⟩ = some (.int .u64 a1_1) := (blk_cell BK1832.out 1).trans rfl; have hfz12_0 := blk_frozen BK1832.out 0; have hfz12_1 := blk_frozen BK1832.out 1) | ((with_reducible refine gate_callee (f := 27) rfl ?_); refine goesL_ (some 28) rfl rfl Try.func27 (by kernel_rfl) rfl #[.agg #[.int .u64 a0_0, .int .u64 a0_1], .agg #[.int .u64 a1_0, .int .u64 a1_1]] rfl (by (try simp only [List.map_toArray, List.map_cons, List.map_nil]); first | done | rfl | (simp only [List.length_drop, List.length_take]; rfl)) ?_; (with_reducible refine (wide_Add.calls a0_0 a0_1 a1_0 a1_1 t1834 t1835 t1836 _ A5.out).mono ?_); rintro e w13 ⟨rfl, hb⟩; refine ⟨_, rfl, ?_⟩; have n0_ := Aside0.mk (blk_below (g := gb1831) (o := .cells #[.int .u64 a0_0, .int .u64 a0_1] 24 (0, 0)) (by (with_reducible repeat (first | refine blk_drewN ?_ _ | refine blk_drew ?_ | refine blk_alloc ?_ _)); exact BK1831.out) hb); have n1_ := Aside0.mk (blk_below (g := gb1832) (o := .cells #[.int .u64 a1_0, .int .u64 a1_1] 24 (0, 0)) (by (with_reducible repeat (first | refine blk_drewN ?_ _ | refine blk_drew ?_ | refine blk_alloc ?_ _)); exact BK1832.out) hb); have n2_ := Aside0.mk (below_step (by repeat (first | (with_reducible first | exact HB.out | apply below_alloc | apply pw_below_drewN | apply below_drew1 | refine below_set ?_ GE1831.out | refine below_set ?_ GE1832.out) | exact HB.out)) hb); clear BK1831; clear BK1832; clear HB; have BK1831 := n0_; have BK1832 := n1_; have HB := n2_; clear n0_ n1_ n2_; (try clear hb); (try clear hb2); (try clear hk); (try clear hi)) | ((with_reducible refine gate_dst (N := 8) rfl ?_); refine box_event ?hg (N := 8) ?hd (cs := #[.int .u64 0, .int .u64 0]) (t := 24) ?hr ?_; (case hd => rfl); (case hg => rfl); (case hr => first | (go_simp; done) | (go_simp; rfl)); intro gb1837 hg w14 hbox hb; have n0_ := Aside0.mk (blk_below (g := gb1831) (o := .cells #[.int .u64 a0_0, .int .u64 a0_1] 24 (0, 0)) (by (with_reducible repeat (first | refine blk_drewN ?_ _ | refine blk_drew ?_ | refine blk_alloc ?_ _)); exact BK1831.out) hb); have n1_ := Aside0.mk (blk_below (g := gb1832) (o := .cells #[.int .u64 a1_0, .int .u64 a1_1] 24 (0, 0)) (by (with_reducible repeat (first | refine blk_drewN ?_ _ | refine blk_drew ?_ | refine blk_alloc ?_ _)); exact BK1832.out) hb); have n2_ := Aside0.mk (below_step (by repeat (first | (with_reducible first | exact HB.out | apply below_alloc | apply pw_below_drewN | apply below_drew1 | refine below_set ?_ GE1831.out | refine below_set ?_ GE1832.out) | exact HB.out)) hb); have n3_ := Aside0.mk (hbox); have n4_ := Aside0.mk ((by rw [hg]; exact (below_size (by repeat (first | (with_reducible first | exact HB.out | apply below_alloc | apply pw_below_drewN | apply below_drew1 | refine below_set ?_ GE1831.out | refine below_set ?_ GE1832.out) | exact HB.out))) : w.heap.size ≤ gb1837)); have n5_ := Aside0.mk ((by rw [hg]; exact (below_size (by repeat (first | (with_reducible first | exact HB.out | apply below_alloc | apply pw_below_drewN | apply below_drew1 | refine below_set ?_ GE1831.out | refine below_set ?_ GE1832.out) | exact HB.out))) : w.heap.size ≤ gb1837)); have n6_ := Aside0.mk ((by rw [hg]; exact Nat.ne_of_lt (blk_lt (g := gb1831) (o := .cells #[.int .u64 a0_0, .int .u64 a0_1] 24 (0, 0)) (by (with_reducible repeat (first | refine blk_drewN ?_ _ | refine blk_drew ?_ | refine blk_alloc ?_ _)); exact BK1831.out)) : gb1831 ≠ gb1837)); have n7_ := Aside0.mk ((by rw [hg]; exact Nat.ne_of_gt (blk_lt (g := gb1831) (o := .cells #[.int .u64 a0_0, .int .u64 a0_1] 24 (0, 0)) (by (with_reducible repeat (first | refine blk_drewN ?_ _ | refine blk_drew ?_ | refine blk_alloc ?_ _)); exact BK1831.out)) : gb1837 ≠ gb1831)); have n8_ := Aside0.mk ((by rw [hg]; exact Nat.ne_of_lt (blk_lt (g := gb1832) (o := .cells #[.int .u64 a1_0, .int .u64 a1_1] 24 (0, 0)) (by (with_reducible repeat (first | refine blk_drewN ?_ _ | refine blk_drew ?_ | refine blk_alloc ?_ _)); exact BK1832.out)) : gb1832 ≠ gb1837)); have n9_ := Aside0.mk ((by rw [hg]; exact Nat.ne_of_gt (blk_lt (g := gb1832) (o := .cells #[.int .u64 a1_0, .int .u64 a1_1] 24 (0, 0)) (by (with_reducible repeat (first | refine blk_drewN ?_ _ | refine blk_drew ?_ | refine blk_alloc ?_ _)); exact BK1832.out)) : gb1837 ≠ gb1832)); clear BK1831; clear BK1832; clear HB; have BK1831 := n0_; have BK1832 := n1_; have HB := n2_; have BK1837 := n3_; have GW1837 := n4_; have GE1837 := n5_; have NB1831_1837 := n6_; have NB1837_1831 := n7_; have NB1832_1837 := n8_; have NB1837_1832 := n9_; clear n0_ n1_ n2_ n3_ n4_ n5_ n6_ n7_ n8_ n9_; clear hb hbox hg; have hnb15 := NB1837_1831.out; have hnc15 := NB1831_1837.out; have hnb16 := NB1837_1832.out; have hnc16 := NB1832_1837.out; have hcz17_0 : w14.cell? ⟨gb1837, 0, none⟩ = some (.int .u64 0) := (blk_cell BK1837.out 0).trans rfl; have hcz17_1 : w14.cell? ⟨gb1837, 1, none⟩ = some (.int .u64 0) := (blk_cell BK1837.out 1).trans rfl; have hfz17_0 := blk_frozen BK1837.out 0; have hfz17_1 := blk_frozen BK1837.out 1))
  (try simp only [Act.put, List.setIfInBounds_toArray, List.set_cons_zero, List.set_cons_succ])
  go_cut [] (fun wc => ∃ (kq : Nat), Aside0 (demurragelaw01_WideBack.j0 kq a2 t1833 a0_0 a0_1 = some r) ∧ Aside0 (kq ≤ k) ∧ Aside0 (wc.heap[gb1831]? = some (.cells #[.int .u64 a0_0, .int .u64 a0_1] 24 (0, 0))) ∧ Aside0 (wc.heap[gb1832]? = some (.cells #[.int .u64 a1_0, .int .u64 a1_1] 24 (0, 0))) ∧ Aside0 (wc.heap[gb1837]? = some (.cells #[.int .u64 t1834, .int .u64 t1835] 24 (0, 0))) ∧ Aside0 (Below w.heap.size w wc))
  case first =>
    have H := HC6.out
    clear HC6
    by_cases c18 : t1836 = 0
    · rw [if_pos c18] at H
      have c18b0 : (t1836 == 0) = true := beq_iff_eq.mpr c18
      have c18b1 : (t1836 != 0) = false := bne_eq_false_iff_eq.mpr c18
      clear c18
      (first | rw [c18b0] | (simp only [i64_w, i32_w]; rw [c18b0]) | rw [c18b1] | skip)
      replace H := Option.bind_eq_some_iff.mp H
      obtain ⟨⟨t1838, t1839, t1840⟩, A190, H⟩ := H
      replace H : (if t1840 = 0 then (if (!(t1838 == a0_0) || (!(t1839 == a0_1))) = true then (none) else ((wide_Cmp.f t1834 t1835 a0_0 a0_1).bind fun t1842 => (if t1842 < 0 then (none) else (demurragelaw01_WideBack.j0 k a2 t1833 a0_0 a0_1)))) else (none)) = some r := H
      have A19 := Aside0.mk A190
      clear A190
      by_cases c20 : t1840 = 0
      · rw [if_pos c20] at H
        have c20b0 : (t1840 == 0) = true := beq_iff_eq.mpr c20
        have c20b1 : (t1840 != 0) = false := bne_eq_false_iff_eq.mpr c20
        clear c20
        by_cases c21 : (!(t1838 == a0_0) || (!(t1839 == a0_1))) = true
        · rw [if_pos c21] at H
          exact absurd H (by simp)
        · rw [if_neg c21] at H
          have c21b0 : (!(t1838 == a0_0) || (!(t1839 == a0_1))) = false := by simpa using c21
          clear c21
          replace H := Option.bind_eq_some_iff.mp H
          obtain ⟨t1842, A220, H⟩ := H
          replace H : (if t1842 < 0 then (none) else (demurragelaw01_WideBack.j0 k a2 t1833 a0_0 a0_1)) = some r := H
          have A22 := Aside0.mk A220
          clear A220
          by_cases c23 : t1842 < 0
          · rw [if_pos c23] at H
            exact absurd H (by simp)
          · rw [if_neg c23] at H
            have c23b0 : decide (t1842 < 0) = false := decide_eq_false c23
            clear c23
            have H' := Aside0.mk H
            clear H
            have hnb24 := NB1837_1831.out
            have hnc24 := NB1831_1837.out
            have hnb25 := NB1837_1832.out
            have hnc25 := NB1832_1837.out
            have hcz26_0 : w14.cell? ⟨gb1837, 0, none⟩ = some (.int .u64 0) := (blk_cell BK1837.out 0).trans rfl
            have hcz26_1 : w14.cell? ⟨gb1837, 1, none⟩ = some (.int .u64 0) := (blk_cell BK1837.out 1).trans rfl
            have hfz26_0 := blk_frozen BK1837.out 0
            have hfz26_1 := blk_frozen BK1837.out 1
            have hnb27 := NB1832_1831.out
            have hnc27 := NB1831_1832.out
            have hcz28_0 : w14.cell? ⟨gb1832, 0, none⟩ = some (.int .u64 a1_0) := (blk_cell BK1832.out 0).trans rfl
            have hcz28_1 : w14.cell? ⟨gb1832, 1, none⟩ = some (.int .u64 a1_1) := (blk_cell BK1832.out 1).trans rfl
            have hfz28_0 := blk_frozen BK1832.out 0
            have hfz28_1 := blk_frozen BK1832.out 1
            go_wp2_with (first | ((with_reducible refine gate_callee (f := 28) rfl ?_); refine goesL_ (some 36) rfl rfl Try.func28 (by kernel_rfl) rfl #[.agg #[.int .u64 t1834, .int .u64 t1835], .agg #[.int .u64 a1_0, .int .u64 a1_1]] rfl (by (try simp only [List.map_toArray, List.map_cons, List.map_nil]); first | done | rfl | (simp only [List.length_drop, List.length_take]; rfl)) ?_; (with_reducible refine (wide_Sub.calls t1834 t1835 a1_0 a1_1 t1838 t1839 t1840 _ A19.out).mono ?_); rintro e w29 ⟨rfl, hb⟩; refine ⟨_, rfl, ?_⟩; have n0_ := Aside0.mk (blk_below (g := gb1831) (o := .cells #[.int .u64 a0_0, .int .u64 a0_1] 24 (0, 0)) (by (with_reducible repeat (first | refine blk_drewN ?_ _ | refine blk_drew ?_ | refine blk_alloc ?_ _)); refine blk_far ?_ NB1831_1837.out _; (with_reducible repeat (first | refine blk_drewN ?_ _ | refine blk_drew ?_ | refine blk_alloc ?_ _)); refine blk_far ?_ NB1831_1837.out _; (with_reducible repeat (first | refine blk_drewN ?_ _ | refine blk_drew ?_ | refine blk_alloc ?_ _)); exact BK1831.out) hb); have n1_ := Aside0.mk (blk_below (g := gb1832) (o := .cells #[.int .u64 a1_0, .int .u64 a1_1] 24 (0, 0)) (by (with_reducible repeat (first | refine blk_drewN ?_ _ | refine blk_drew ?_ | refine blk_alloc ?_ _)); refine blk_far ?_ NB1832_1837.out _; (with_reducible repeat (first | refine blk_drewN ?_ _ | refine blk_drew ?_ | refine blk_alloc ?_ _)); refine blk_far ?_ NB1832_1837.out _; (with_reducible repeat (first | refine blk_drewN ?_ _ | refine blk_drew ?_ | refine blk_alloc ?_ _)); exact BK1832.out) hb); have n2_ := Aside0.mk (blk_below (g := gb1837) (o := .cells #[.int .u64 t1834, .int .u64 t1835] 24 (0, 0)) (by (with_reducible repeat (first | refine blk_drewN ?_ _ | refine blk_drew ?_ | refine blk_alloc ?_ _)); refine blk_put (cs := #[.int .u64 t1834, .int .u64 0]) ?_ 1 _ rfl; (with_reducible repeat (first | refine blk_drewN ?_ _ | refine blk_drew ?_ | refine blk_alloc ?_ _)); refine blk_put (cs := #[.int .u64 0, .int .u64 0]) ?_ 0 _ rfl; (with_reducible repeat (first | refine blk_drewN ?_ _ | refine blk_drew ?_ | refine blk_alloc ?_ _)); exact BK1837.out) hb); have n3_ := Aside0.mk (below_step (by repeat (first | (with_reducible first | exact HB.out | apply below_alloc | apply pw_below_drewN | apply below_drew1 | refine below_set ?_ GE1831.out | refine below_set ?_ GE1832.out | refine below_set ?_ GE1837.out) | exact HB.out)) hb); clear BK1831; clear BK1832; clear BK1837; clear HB; have BK1831 := n0_; have BK1832 := n1_; have BK1837 := n2_; have HB := n3_; clear n0_ n1_ n2_ n3_; (try clear hb); (try clear hb2); (try clear hk); (try clear hi)) | ((with_reducible refine gate_dst (N := 10) rfl ?_); refine box_event ?hg (N := 10) ?hd (cs := #[.int .u64 0, .int .u64 0]) (t := 24) ?hr ?_; (case hd => rfl); (case hg => rfl); (case hr => first | (go_simp; done) | (go_simp; rfl)); intro gb1841 hg w30 hbox hb; have n0_ := Aside0.mk (blk_below (g := gb1831) (o := .cells #[.int .u64 a0_0, .int .u64 a0_1] 24 (0, 0)) (by (with_reducible repeat (first | refine blk_drewN ?_ _ | refine blk_drew ?_ | refine blk_alloc ?_ _)); exact BK1831.out) hb); have n1_ := Aside0.mk (blk_below (g := gb1832) (o := .cells #[.int .u64 a1_0, .int .u64 a1_1] 24 (0, 0)) (by (with_reducible repeat (first | refine blk_drewN ?_ _ | refine blk_drew ?_ | refine blk_alloc ?_ _)); exact BK1832.out) hb); have n2_ := Aside0.mk (blk_below (g := gb1837) (o := .cells #[.int .u64 t1834, .int .u64 t1835] 24 (0, 0)) (by (with_reducible repeat (first | refine blk_drewN ?_ _ | refine blk_drew ?_ | refine blk_alloc ?_ _)); exact BK1837.out) hb); have n3_ := Aside0.mk (below_step (by repeat (first | (with_reducible first | exact HB.out | apply below_alloc | apply pw_below_drewN | apply below_drew1 | refine below_set ?_ GE1831.out | refine below_set ?_ GE1832.out | refine below_set ?_ GE1837.out) | exact HB.out)) hb); have n4_ := Aside0.mk (hbox); have n5_ := Aside0.mk ((by rw [hg]; exact (below_size (by repeat (first | (with_reducible first | exact HB.out | apply below_alloc | apply pw_below_drewN | apply below_drew1 | refine below_set ?_ GE1831.out | refine below_set ?_ GE1832.out | refine below_set ?_ GE1837.out) | exact HB.out))) : w.heap.size ≤ gb1841)); have n6_ := Aside0.mk ((by rw [hg]; exact (below_size (by repeat (first | (with_reducible first | exact HB.out | apply below_alloc | apply pw_below_drewN | apply below_drew1 | refine below_set ?_ GE1831.out | refine below_set ?_ GE1832.out | refine below_set ?_ GE1837.out) | exact HB.out))) : w.heap.size ≤ gb1841)); have n7_ := Aside0.mk ((by rw [hg]; exact Nat.ne_of_lt (blk_lt (g := gb1831) (o := .cells #[.int .u64 a0_0, .int .u64 a0_1] 24 (0, 0)) (by (with_reducible repeat (first | refine blk_drewN ?_ _ | refine blk_drew ?_ | refine blk_alloc ?_ _)); exact BK1831.out)) : gb1831 ≠ gb1841)); have n8_ := Aside0.mk ((by rw [hg]; exact Nat.ne_of_gt (blk_lt (g := gb1831) (o := .cells #[.int .u64 a0_0, .int .u64 a0_1] 24 (0, 0)) (by (with_reducible repeat (first | refine blk_drewN ?_ _ | refine blk_drew ?_ | refine blk_alloc ?_ _)); exact BK1831.out)) : gb1841 ≠ gb1831)); have n9_ := Aside0.mk ((by rw [hg]; exact Nat.ne_of_lt (blk_lt (g := gb1832) (o := .cells #[.int .u64 a1_0, .int .u64 a1_1] 24 (0, 0)) (by (with_reducible repeat (first | refine blk_drewN ?_ _ | refine blk_drew ?_ | refine blk_alloc ?_ _)); exact BK1832.out)) : gb1832 ≠ gb1841)); have n10_ := Aside0.mk ((by rw [hg]; exact Nat.ne_of_gt (blk_lt (g := gb1832) (o := .cells #[.int .u64 a1_0, .int .u64 a1_1] 24 (0, 0)) (by (with_reducible repeat (first | refine blk_drewN ?_ _ | refine blk_drew ?_ | refine blk_alloc ?_ _)); exact BK1832.out)) : gb1841 ≠ gb1832)); have n11_ := Aside0.mk ((by rw [hg]; exact Nat.ne_of_lt (blk_lt (g := gb1837) (o := .cells #[.int .u64 t1834, .int .u64 t1835] 24 (0, 0)) (by (with_reducible repeat (first | refine blk_drewN ?_ _ | refine blk_drew ?_ | refine blk_alloc ?_ _)); exact BK1837.out)) : gb1837 ≠ gb1841)); have n12_ := Aside0.mk ((by rw [hg]; exact Nat.ne_of_gt (blk_lt (g := gb1837) (o := .cells #[.int .u64 t1834, .int .u64 t1835] 24 (0, 0)) (by (with_reducible repeat (first | refine blk_drewN ?_ _ | refine blk_drew ?_ | refine blk_alloc ?_ _)); exact BK1837.out)) : gb1841 ≠ gb1837)); clear BK1831; clear BK1832; clear BK1837; clear HB; have BK1831 := n0_; have BK1832 := n1_; have BK1837 := n2_; have HB := n3_; have BK1841 := n4_; have GW1841 := n5_; have GE1841 := n6_; have NB1831_1841 := n7_; have NB1841_1831 := n8_; have NB1832_1841 := n9_; have NB1841_1832 := n10_; have NB1837_1841 := n11_; have NB1841_1837 := n12_; clear n0_ n1_ n2_ n3_ n4_ n5_ n6_ n7_ n8_ n9_ n10_ n11_ n12_; clear hb hbox hg; have hnb31 := NB1841_1831.out; have hnc31 := NB1831_1841.out; have hnb32 := NB1841_1832.out; have hnc32 := NB1832_1841.out; have hnb33 := NB1841_1837.out; have hnc33 := NB1837_1841.out; have hcz34_0 : w30.cell? ⟨gb1841, 0, none⟩ = some (.int .u64 0) := (blk_cell BK1841.out 0).trans rfl; have hcz34_1 : w30.cell? ⟨gb1841, 1, none⟩ = some (.int .u64 0) := (blk_cell BK1841.out 1).trans rfl; have hfz34_0 := blk_frozen BK1841.out 0; have hfz34_1 := blk_frozen BK1841.out 1; have hcz35_0 : w30.cell? ⟨gb1831, 0, none⟩ = some (.int .u64 a0_0) := (blk_cell BK1831.out 0).trans rfl; have hcz35_1 : w30.cell? ⟨gb1831, 1, none⟩ = some (.int .u64 a0_1) := (blk_cell BK1831.out 1).trans rfl; have hfz35_0 := blk_frozen BK1831.out 0; have hfz35_1 := blk_frozen BK1831.out 1; have hcz36_0 : w30.cell? ⟨gb1837, 0, none⟩ = some (.int .u64 t1834) := (blk_cell BK1837.out 0).trans rfl; have hcz36_1 : w30.cell? ⟨gb1837, 1, none⟩ = some (.int .u64 t1835) := (blk_cell BK1837.out 1).trans rfl; have hfz36_0 := blk_frozen BK1837.out 0; have hfz36_1 := blk_frozen BK1837.out 1) | (go_at_call 35; (with_reducible refine (wide_Cmp.calls t1834 t1835 a0_0 a0_1 t1842 _ A22.out).mono ?_); rintro e w37 ⟨rfl, hb⟩; have n0_ := Aside0.mk (blk_below (g := gb1831) (o := .cells #[.int .u64 a0_0, .int .u64 a0_1] 24 (0, 0)) (by (with_reducible repeat (first | refine blk_drewN ?_ _ | refine blk_drew ?_ | refine blk_alloc ?_ _)); refine blk_far ?_ NB1831_1841.out _; (with_reducible repeat (first | refine blk_drewN ?_ _ | refine blk_drew ?_ | refine blk_alloc ?_ _)); refine blk_far ?_ NB1831_1841.out _; (with_reducible repeat (first | refine blk_drewN ?_ _ | refine blk_drew ?_ | refine blk_alloc ?_ _)); exact BK1831.out) hb); have n1_ := Aside0.mk (blk_below (g := gb1832) (o := .cells #[.int .u64 a1_0, .int .u64 a1_1] 24 (0, 0)) (by (with_reducible repeat (first | refine blk_drewN ?_ _ | refine blk_drew ?_ | refine blk_alloc ?_ _)); refine blk_far ?_ NB1832_1841.out _; (with_reducible repeat (first | refine blk_drewN ?_ _ | refine blk_drew ?_ | refine blk_alloc ?_ _)); refine blk_far ?_ NB1832_1841.out _; (with_reducible repeat (first | refine blk_drewN ?_ _ | refine blk_drew ?_ | refine blk_alloc ?_ _)); exact BK1832.out) hb); have n2_ := Aside0.mk (blk_below (g := gb1837) (o := .cells #[.int .u64 t1834, .int .u64 t1835] 24 (0, 0)) (by (with_reducible repeat (first | refine blk_drewN ?_ _ | refine blk_drew ?_ | refine blk_alloc ?_ _)); refine blk_far ?_ NB1837_1841.out _; (with_reducible repeat (first | refine blk_drewN ?_ _ | refine blk_drew ?_ | refine blk_alloc ?_ _)); refine blk_far ?_ NB1837_1841.out _; (with_reducible repeat (first | refine blk_drewN ?_ _ | refine blk_drew ?_ | refine blk_alloc ?_ _)); exact BK1837.out) hb); have n3_ := Aside0.mk (blk_below (g := gb1841) (o := .cells #[.int .u64 t1838, .int .u64 t1839] 24 (0, 0)) (by (with_reducible repeat (first | refine blk_drewN ?_ _ | refine blk_drew ?_ | refine blk_alloc ?_ _)); refine blk_put (cs := #[.int .u64 t1838, .int .u64 0]) ?_ 1 _ rfl; (with_reducible repeat (first | refine blk_drewN ?_ _ | refine blk_drew ?_ | refine blk_alloc ?_ _)); refine blk_put (cs := #[.int .u64 0, .int .u64 0]) ?_ 0 _ rfl; (with_reducible repeat (first | refine blk_drewN ?_ _ | refine blk_drew ?_ | refine blk_alloc ?_ _)); exact BK1841.out) hb); have n4_ := Aside0.mk (below_step (by repeat (first | (with_reducible first | exact HB.out | apply below_alloc | apply pw_below_drewN | apply below_drew1 | refine below_set ?_ GE1831.out | refine below_set ?_ GE1832.out | refine below_set ?_ GE1837.out | refine below_set ?_ GE1841.out) | exact HB.out)) hb); clear BK1831; clear BK1832; clear BK1837; clear BK1841; clear HB; have BK1831 := n0_; have BK1832 := n1_; have BK1837 := n2_; have BK1841 := n3_; have HB := n4_; clear n0_ n1_ n2_ n3_ n4_; (try clear hb); (try clear hb2); (try clear hk); (try clear hi)))
            go_meet
            case rel => exact ⟨_, H', ⟨by first | omega | exact Nat.le_refl _⟩, ⟨by (with_reducible repeat (first | refine blk_drewN ?_ _ | refine blk_drew ?_ | refine blk_alloc ?_ _)); exact BK1831.out⟩, ⟨by (with_reducible repeat (first | refine blk_drewN ?_ _ | refine blk_drew ?_ | refine blk_alloc ?_ _)); exact BK1832.out⟩, ⟨by (with_reducible repeat (first | refine blk_drewN ?_ _ | refine blk_drew ?_ | refine blk_alloc ?_ _)); exact BK1837.out⟩, ⟨by repeat (first | (with_reducible first | exact HB.out | apply below_alloc | apply pw_below_drewN | apply below_drew1 | refine below_set ?_ GE1831.out | refine below_set ?_ GE1832.out | refine below_set ?_ GE1837.out | refine below_set ?_ GE1841.out) | exact HB.out)⟩⟩
      · rw [if_neg c20] at H
        exact absurd H (by simp)
    · rw [if_neg c18] at H
      have c18b0 : (t1836 == 0) = false := beq_eq_false_iff_ne.mpr c18
      have c18b1 : (t1836 != 0) = true := bne_iff_ne.mpr c18
      (first | rw [c18b0] | (simp only [i64_w, i32_w]; rw [c18b0]) | rw [c18b1] | skip)
      have H' := Aside0.mk H
      clear H
      go_wp2
      go_meet
      case rel => exact ⟨_, H', ⟨by first | omega | exact Nat.le_refl _⟩, ⟨by (with_reducible repeat (first | refine blk_drewN ?_ _ | refine blk_drew ?_ | refine blk_alloc ?_ _)); refine blk_far ?_ NB1831_1837.out _; (with_reducible repeat (first | refine blk_drewN ?_ _ | refine blk_drew ?_ | refine blk_alloc ?_ _)); refine blk_far ?_ NB1831_1837.out _; (with_reducible repeat (first | refine blk_drewN ?_ _ | refine blk_drew ?_ | refine blk_alloc ?_ _)); exact BK1831.out⟩, ⟨by (with_reducible repeat (first | refine blk_drewN ?_ _ | refine blk_drew ?_ | refine blk_alloc ?_ _)); refine blk_far ?_ NB1832_1837.out _; (with_reducible repeat (first | refine blk_drewN ?_ _ | refine blk_drew ?_ | refine blk_alloc ?_ _)); refine blk_far ?_ NB1832_1837.out _; (with_reducible repeat (first | refine blk_drewN ?_ _ | refine blk_drew ?_ | refine blk_alloc ?_ _)); exact BK1832.out⟩, ⟨by (with_reducible repeat (first | refine blk_drewN ?_ _ | refine blk_drew ?_ | refine blk_alloc ?_ _)); refine blk_put (cs := #[.int .u64 t1834, .int .u64 0]) ?_ 1 _ rfl; (with_reducible repeat (first | refine blk_drewN ?_ _ | refine blk_drew ?_ | refine blk_alloc ?_ _)); refine blk_put (cs := #[.int .u64 0, .int .u64 0]) ?_ 0 _ rfl; (with_reducible repeat (first | refine blk_drewN ?_ _ | refine blk_drew ?_ | refine blk_alloc ?_ _)); exact BK1837.out⟩, ⟨by repeat (first | (with_reducible first | exact HB.out | apply below_alloc | apply pw_below_drewN | apply below_drew1 | refine below_set ?_ GE1831.out | refine below_set ?_ GE1832.out | refine below_set ?_ GE1837.out) | exact HB.out)⟩⟩
  case rest =>
    clear HC6
    try clear c1
    try clear c2
    try clear p2
    try clear c3
    try clear c5
    try clear c10
    try clear c15
    try clear c16
    try clear c18
    try clear c18b0
    try clear c18b1
    try clear c20
    try clear c20b0
    try clear c20b1
    try clear c21
    try clear c21b0
    try clear c22
    try clear c23
    try clear c23b0
    try clear c24
    try clear c25
    try clear c27
    try clear c28
    try clear c31
    try clear c32
    try clear c33
    try clear hcz11_0
    try clear hcz11_1
    try clear hcz12_0
    try clear hcz12_1
    try clear hcz17_0
    try clear hcz17_1
    try clear hcz26_0
    try clear hcz26_1
    try clear hcz28_0
    try clear hcz28_1
    try clear hcz34_0
    try clear hcz34_1
    try clear hcz35_0
    try clear hcz35_1
    try clear hcz36_0
    try clear hcz36_1
    try clear hfz11_0
    try clear hfz11_1
    try clear hfz12_0
    try clear hfz12_1
    try clear hfz17_0
    try clear hfz17_1
    try clear hfz26_0
    try clear hfz26_1
    try clear hfz28_0
    try clear hfz28_1
    try clear hfz34_0
    try clear hfz34_1
    try clear hfz35_0
    try clear hfz35_1
    try clear hfz36_0
    try clear hfz36_1
    obtain ⟨kq, HA, HJ5, BK1831, BK1832, BK1837, HB⟩ := hcut
    cases kq with
    | zero => exact absurd HA.out (by simp [demurragelaw01_WideBack.j0])
    | succ kj5 =>
      have H := HA.out
      clear HA
      simp only [demurragelaw01_WideBack.j0] at H
      replace H := Option.bind_eq_some_iff.mp H
      obtain ⟨⟨t2351, t2352, t2353⟩, A380, H⟩ := H
      replace H : (if t2353 = 0 then (demurragelaw01_WideBack.j1 kj5 a2 t1833 (decide (a2 > 0)) a0_0 a0_1 t2351 t2352) else (demurragelaw01_WideBack.j1 kj5 a2 t1833 false a0_0 a0_1 t2351 t2352)) = some r := H
      have A38 := Aside0.mk A380
      clear A380
      have HC39 := Aside0.mk H
      clear H
      have hnb40 := NB1831_1832.out
      have hnc40 := NB1832_1831.out
      have hnb41 := NB1831_1837.out
      have hnc41 := NB1837_1831.out
      have hcz42_0 : wc.cell? ⟨gb1831, 0, none⟩ = some (.int .u64 a0_0) := (blk_cell BK1831.out 0).trans rfl
      have hcz42_1 : wc.cell? ⟨gb1831, 1, none⟩ = some (.int .u64 a0_1) := (blk_cell BK1831.out 1).trans rfl
      have hfz42_0 := blk_frozen BK1831.out 0
      have hfz42_1 := blk_frozen BK1831.out 1
      go_upto_region 8 with (first | ((with_reducible refine gate_callee (f := 26) rfl ?_); refine goesL_ (some 55) rfl rfl Try.func26 (by kernel_rfl) rfl #[.agg #[.int .u64 a0_0, .int .u64 a0_1], .int .u64 a2] rfl (by (try simp only [List.map_toArray, List.map_cons, List.map_nil]); first | done | rfl | (simp only [List.length_drop, List.length_take]; rfl)) ?_; (with_reducible refine (wide_Times.calls a0_0 a0_1 a2 t2351 t2352 t2353 _ A38.out).mono ?_); rintro e w43 ⟨rfl, hb⟩; refine ⟨_, rfl, ?_⟩; have n0_ := Aside0.mk (blk_below (g := gb1831) (o := .cells #[.int .u64 a0_0, .int .u64 a0_1] 24 (0, 0)) (by (with_reducible repeat (first | refine blk_drewN ?_ _ | refine blk_drew ?_ | refine blk_alloc ?_ _)); exact BK1831.out) hb); have n1_ := Aside0.mk (blk_below (g := gb1832) (o := .cells #[.int .u64 a1_0, .int .u64 a1_1] 24 (0, 0)) (by (with_reducible repeat (first | refine blk_drewN ?_ _ | refine blk_drew ?_ | refine blk_alloc ?_ _)); exact BK1832.out) hb); have n2_ := Aside0.mk (blk_below (g := gb1837) (o := .cells #[.int .u64 t1834, .int .u64 t1835] 24 (0, 0)) (by (with_reducible repeat (first | refine blk_drewN ?_ _ | refine blk_drew ?_ | refine blk_alloc ?_ _)); exact BK1837.out) hb); have n3_ := Aside0.mk (below_step (by repeat (first | (with_reducible first | exact HB.out | apply below_alloc | apply pw_below_drewN | apply below_drew1 | refine below_set ?_ GE1831.out | refine below_set ?_ GE1832.out | refine below_set ?_ GE1837.out) | exact HB.out)) hb); clear BK1831; clear BK1832; clear BK1837; clear HB; have BK1831 := n0_; have BK1832 := n1_; have BK1837 := n2_; have HB := n3_; clear n0_ n1_ n2_ n3_; (try clear hb); (try clear hb2); (try clear hk); (try clear hi)) | ((with_reducible refine gate_dst (N := 12) rfl ?_); refine box_event ?hg (N := 12) ?hd (cs := #[.int .u64 0, .int .u64 0]) (t := 24) ?hr ?_; (case hd => rfl); (case hg => rfl); (case hr => first | (go_simp; done) | (go_simp; rfl)); intro gb2354 hg w44 hbox hb; have n0_ := Aside0.mk (blk_below (g := gb1831) (o := .cells #[.int .u64 a0_0, .int .u64 a0_1] 24 (0, 0)) (by (with_reducible repeat (first | refine blk_drewN ?_ _ | refine blk_drew ?_ | refine blk_alloc ?_ _)); exact BK1831.out) hb); have n1_ := Aside0.mk (blk_below (g := gb1832) (o := .cells #[.int .u64 a1_0, .int .u64 a1_1] 24 (0, 0)) (by (with_reducible repeat (first | refine blk_drewN ?_ _ | refine blk_drew ?_ | refine blk_alloc ?_ _)); exact BK1832.out) hb); have n2_ := Aside0.mk (blk_below (g := gb1837) (o := .cells #[.int .u64 t1834, .int .u64 t1835] 24 (0, 0)) (by (with_reducible repeat (first | refine blk_drewN ?_ _ | refine blk_drew ?_ | refine blk_alloc ?_ _)); exact BK1837.out) hb); have n3_ := Aside0.mk (below_step (by repeat (first | (with_reducible first | exact HB.out | apply below_alloc | apply pw_below_drewN | apply below_drew1 | refine below_set ?_ GE1831.out | refine below_set ?_ GE1832.out | refine below_set ?_ GE1837.out) | exact HB.out)) hb); have n4_ := Aside0.mk (hbox); have n5_ := Aside0.mk ((by rw [hg]; exact (below_size (by repeat (first | (with_reducible first | exact HB.out | apply below_alloc | apply pw_below_drewN | apply below_drew1 | refine below_set ?_ GE1831.out | refine below_set ?_ GE1832.out | refine below_set ?_ GE1837.out) | exact HB.out))) : w.heap.size ≤ gb2354)); have n6_ := Aside0.mk ((by rw [hg]; exact (below_size (by repeat (first | (with_reducible first | exact HB.out | apply below_alloc | apply pw_below_drewN | apply below_drew1 | refine below_set ?_ GE1831.out | refine below_set ?_ GE1832.out | refine below_set ?_ GE1837.out) | exact HB.out))) : w.heap.size ≤ gb2354)); have n7_ := Aside0.mk ((by rw [hg]; exact Nat.ne_of_lt (blk_lt (g := gb1831) (o := .cells #[.int .u64 a0_0, .int .u64 a0_1] 24 (0, 0)) (by (with_reducible repeat (first | refine blk_drewN ?_ _ | refine blk_drew ?_ | refine blk_alloc ?_ _)); exact BK1831.out)) : gb1831 ≠ gb2354)); have n8_ := Aside0.mk ((by rw [hg]; exact Nat.ne_of_gt (blk_lt (g := gb1831) (o := .cells #[.int .u64 a0_0, .int .u64 a0_1] 24 (0, 0)) (by (with_reducible repeat (first | refine blk_drewN ?_ _ | refine blk_drew ?_ | refine blk_alloc ?_ _)); exact BK1831.out)) : gb2354 ≠ gb1831)); have n9_ := Aside0.mk ((by rw [hg]; exact Nat.ne_of_lt (blk_lt (g := gb1832) (o := .cells #[.int .u64 a1_0, .int .u64 a1_1] 24 (0, 0)) (by (with_reducible repeat (first | refine blk_drewN ?_ _ | refine blk_drew ?_ | refine blk_alloc ?_ _)); exact BK1832.out)) : gb1832 ≠ gb2354)); have n10_ := Aside0.mk ((by rw [hg]; exact Nat.ne_of_gt (blk_lt (g := gb1832) (o := .cells #[.int .u64 a1_0, .int .u64 a1_1] 24 (0, 0)) (by (with_reducible repeat (first | refine blk_drewN ?_ _ | refine blk_drew ?_ | refine blk_alloc ?_ _)); exact BK1832.out)) : gb2354 ≠ gb1832)); have n11_ := Aside0.mk ((by rw [hg]; exact Nat.ne_of_lt (blk_lt (g := gb1837) (o := .cells #[.int .u64 t1834, .int .u64 t1835] 24 (0, 0)) (by (with_reducible repeat (first | refine blk_drewN ?_ _ | refine blk_drew ?_ | refine blk_alloc ?_ _)); exact BK1837.out)) : gb1837 ≠ gb2354)); have n12_ := Aside0.mk ((by rw [hg]; exact Nat.ne_of_gt (blk_lt (g := gb1837) (o := .cells #[.int .u64 t1834, .int .u64 t1835] 24 (0, 0)) (by (with_reducible repeat (first | refine blk_drewN ?_ _ | refine blk_drew ?_ | refine blk_alloc ?_ _)); exact BK1837.out)) : gb2354 ≠ gb1837)); clear BK1831; clear BK1832; clear BK1837; clear HB; have BK1831 := n0_; have BK1832 := n1_; have BK1837 := n2_; have HB := n3_; have BK2354 := n4_; have GW2354 := n5_; have GE2354 := n6_; have NB1831_2354 := n7_; have NB2354_1831 := n8_; have NB1832_2354 := n9_; have NB2354_1832 := n10_; have NB1837_2354 := n11_; have NB2354_1837 := n12_; clear n0_ n1_ n2_ n3_ n4_ n5_ n6_ n7_ n8_ n9_ n10_ n11_ n12_; clear hb hbox hg; have hnb45 := NB2354_1831.out; have hnc45 := NB1831_2354.out; have hnb46 := NB2354_1832.out; have hnc46 := NB1832_2354.out; have hnb47 := NB2354_1837.out; have hnc47 := NB1837_2354.out; have hcz48_0 : w44.cell? ⟨gb2354, 0, none⟩ = some (.int .u64 0) := (blk_cell BK2354.out 0).trans rfl; have hcz48_1 : w44.cell? ⟨gb2354, 1, none⟩ = some (.int .u64 0) := (blk_cell BK2354.out 1).trans rfl; have hfz48_0 := blk_frozen BK2354.out 0; have hfz48_1 := blk_frozen BK2354.out 1))
      (try simp only [Act.put, List.setIfInBounds_toArray, List.set_cons_zero, List.set_cons_succ])
      go_cut [63] (fun v63 wc => ∃ (kq : Nat) (x63_38 : Bool), v63 = .bool x63_38 ∧ Aside0 (demurragelaw01_WideBack.j1 kq a2 t1833 x63_38 a0_0 a0_1 t2351 t2352 = some r) ∧ Aside0 (kq ≤ kj5) ∧ Aside0 (wc.heap[gb1831]? = some (.cells #[.int .u64 a0_0, .int .u64 a0_1] 24 (0, 0))) ∧ Aside0 (wc.heap[gb1832]? = some (.cells #[.int .u64 a1_0, .int .u64 a1_1] 24 (0, 0))) ∧ Aside0 (wc.heap[gb1837]? = some (.cells #[.int .u64 t1834, .int .u64 t1835] 24 (0, 0))) ∧ Aside0 (wc.heap[gb2354]? = some (.cells #[.int .u64 t2351, .int .u64 t2352] 24 (0, 0))) ∧ Aside0 (Below w.heap.size w wc))
      case first =>
        have H := HC39.out
        clear HC39
        by_cases c49 : t2353 = 0
        · rw [if_pos c49] at H
          have c49b0 : (t2353 == 0) = true := beq_iff_eq.mpr c49
          have c49b1 : (t2353 != 0) = false := bne_eq_false_iff_eq.mpr c49
          clear c49
          (first | rw [c49b0] | (simp only [i64_w, i32_w]; rw [c49b0]) | rw [c49b1] | skip)
          have H' := Aside0.mk H
          clear H
          go_wp2
          go_meet
          case rel => exact ⟨_, (decide (a2 > 0)), (by first | rfl | (simp; done) | (simp [*]; done)), H', ⟨by have := HJ5.out; first | omega | exact Nat.le_refl _⟩, ⟨by (with_reducible repeat (first | refine blk_drewN ?_ _ | refine blk_drew ?_ | refine blk_alloc ?_ _)); refine blk_far ?_ NB1831_2354.out _; (with_reducible repeat (first | refine blk_drewN ?_ _ | refine blk_drew ?_ | refine blk_alloc ?_ _)); refine blk_far ?_ NB1831_2354.out _; (with_reducible repeat (first | refine blk_drewN ?_ _ | refine blk_drew ?_ | refine blk_alloc ?_ _)); exact BK1831.out⟩, ⟨by (with_reducible repeat (first | refine blk_drewN ?_ _ | refine blk_drew ?_ | refine blk_alloc ?_ _)); refine blk_far ?_ NB1832_2354.out _; (with_reducible repeat (first | refine blk_drewN ?_ _ | refine blk_drew ?_ | refine blk_alloc ?_ _)); refine blk_far ?_ NB1832_2354.out _; (with_reducible repeat (first | refine blk_drewN ?_ _ | refine blk_drew ?_ | refine blk_alloc ?_ _)); exact BK1832.out⟩, ⟨by (with_reducible repeat (first | refine blk_drewN ?_ _ | refine blk_drew ?_ | refine blk_alloc ?_ _)); refine blk_far ?_ NB1837_2354.out _; (with_reducible repeat (first | refine blk_drewN ?_ _ | refine blk_drew ?_ | refine blk_alloc ?_ _)); refine blk_far ?_ NB1837_2354.out _; (with_reducible repeat (first | refine blk_drewN ?_ _ | refine blk_drew ?_ | refine blk_alloc ?_ _)); exact BK1837.out⟩, ⟨by (with_reducible repeat (first | refine blk_drewN ?_ _ | refine blk_drew ?_ | refine blk_alloc ?_ _)); refine blk_put (cs := #[.int .u64 t2351, .int .u64 0]) ?_ 1 _ rfl; (with_reducible repeat (first | refine blk_drewN ?_ _ | refine blk_drew ?_ | refine blk_alloc ?_ _)); refine blk_put (cs := #[.int .u64 0, .int .u64 0]) ?_ 0 _ rfl; (with_reducible repeat (first | refine blk_drewN ?_ _ | refine blk_drew ?_ | refine blk_alloc ?_ _)); exact BK2354.out⟩, ⟨by repeat (first | (with_reducible first | exact HB.out | apply below_alloc | apply pw_below_drewN | apply below_drew1 | refine below_set ?_ GE1831.out | refine below_set ?_ GE1832.out | refine below_set ?_ GE1837.out | refine below_set ?_ GE2354.out) | exact HB.out)⟩⟩
        · rw [if_neg c49] at H
          have c49b0 : (t2353 == 0) = false := beq_eq_false_iff_ne.mpr c49
          have c49b1 : (t2353 != 0) = true := bne_iff_ne.mpr c49
          (first | rw [c49b0] | (simp only [i64_w, i32_w]; rw [c49b0]) | rw [c49b1] | skip)
          have H' := Aside0.mk H
          clear H
          go_wp2
          go_meet
          case rel => exact ⟨_, (false), (by first | rfl | (simp; done) | (simp [*]; done)), H', ⟨by have := HJ5.out; first | omega | exact Nat.le_refl _⟩, ⟨by (with_reducible repeat (first | refine blk_drewN ?_ _ | refine blk_drew ?_ | refine blk_alloc ?_ _)); refine blk_far ?_ NB1831_2354.out _; (with_reducible repeat (first | refine blk_drewN ?_ _ | refine blk_drew ?_ | refine blk_alloc ?_ _)); refine blk_far ?_ NB1831_2354.out _; (with_reducible repeat (first | refine blk_drewN ?_ _ | refine blk_drew ?_ | refine blk_alloc ?_ _)); exact BK1831.out⟩, ⟨by (with_reducible repeat (first | refine blk_drewN ?_ _ | refine blk_drew ?_ | refine blk_alloc ?_ _)); refine blk_far ?_ NB1832_2354.out _; (with_reducible repeat (first | refine blk_drewN ?_ _ | refine blk_drew ?_ | refine blk_alloc ?_ _)); refine blk_far ?_ NB1832_2354.out _; (with_reducible repeat (first | refine blk_drewN ?_ _ | refine blk_drew ?_ | refine blk_alloc ?_ _)); exact BK1832.out⟩, ⟨by (with_reducible repeat (first | refine blk_drewN ?_ _ | refine blk_drew ?_ | refine blk_alloc ?_ _)); refine blk_far ?_ NB1837_2354.out _; (with_reducible repeat (first | refine blk_drewN ?_ _ | refine blk_drew ?_ | refine blk_alloc ?_ _)); refine blk_far ?_ NB1837_2354.out _; (with_reducible repeat (first | refine blk_drewN ?_ _ | refine blk_drew ?_ | refine blk_alloc ?_ _)); exact BK1837.out⟩, ⟨by (with_reducible repeat (first | refine blk_drewN ?_ _ | refine blk_drew ?_ | refine blk_alloc ?_ _)); refine blk_put (cs := #[.int .u64 t2351, .int .u64 0]) ?_ 1 _ rfl; (with_reducible repeat (first | refine blk_drewN ?_ _ | refine blk_drew ?_ | refine blk_alloc ?_ _)); refine blk_put (cs := #[.int .u64 0, .int .u64 0]) ?_ 0 _ rfl; (with_reducible repeat (first | refine blk_drewN ?_ _ | refine blk_drew ?_ | refine blk_alloc ?_ _)); exact BK2354.out⟩, ⟨by repeat (first | (with_reducible first | exact HB.out | apply below_alloc | apply pw_below_drewN | apply below_drew1 | refine below_set ?_ GE1831.out | refine below_set ?_ GE1832.out | refine below_set ?_ GE1837.out | refine below_set ?_ GE2354.out) | exact HB.out)⟩⟩
      case rest =>
        clear HC39
        try clear c1
        try clear c2
        try clear p2
        try clear c3
        try clear c4
        try clear c5
        try clear c10
        try clear c15
        try clear c16
        try clear c18
        try clear c18b0
        try clear c18b1
        try clear c20
        try clear c20b0
        try clear c20b1
        try clear c21
        try clear c21b0
        try clear c22
        try clear c23
        try clear c23b0
        try clear c24
        try clear c25
        try clear c26
        try clear c27
        try clear c28
        try clear c31
        try clear c32
        try clear c33
        try clear c40
        try clear c41
        try clear c45
        try clear c46
        try clear c47
        try clear c49
        try clear c49b0
        try clear c49b1
        try clear hcz11_0
        try clear hcz11_1
        try clear hcz12_0
        try clear hcz12_1
        try clear hcz17_0
        try clear hcz17_1
        try clear hcz26_0
        try clear hcz26_1
        try clear hcz28_0
        try clear hcz28_1
        try clear hcz34_0
        try clear hcz34_1
        try clear hcz35_0
        try clear hcz35_1
        try clear hcz36_0
        try clear hcz36_1
        try clear hcz42_0
        try clear hcz42_1
        try clear hcz48_0
        try clear hcz48_1
        try clear hfz11_0
        try clear hfz11_1
        try clear hfz12_0
        try clear hfz12_1
        try clear hfz17_0
        try clear hfz17_1
        try clear hfz26_0
        try clear hfz26_1
        try clear hfz28_0
        try clear hfz28_1
        try clear hfz34_0
        try clear hfz34_1
        try clear hfz35_0
        try clear hfz35_1
        try clear hfz36_0
        try clear hfz36_1
        try clear hfz42_0
        try clear hfz42_1
        try clear hfz48_0
        try clear hfz48_1
        try clear p2
        obtain ⟨kq, x63_38, rfl, HA, HJ38, BK1831, BK1832, BK1837, BK2354, HB⟩ := hcut
        cases kq with
        | zero => exact absurd HA.out (by simp [demurragelaw01_WideBack.j1])
        | succ kj38 =>
          have H := HA.out
          clear HA
          simp only [demurragelaw01_WideBack.j1] at H
          have HC50 := Aside0.mk H
          clear H
          go_upto_if 63 with (fail)
          go_cut [] (fun wc => ∃ (kq : Nat), Aside0 (demurragelaw01_WideBack.j2 kq a2 t1833 a0_0 a0_1 t2351 t2352 = some r) ∧ Aside0 (kq ≤ kj38) ∧ Aside0 (wc.heap[gb1831]? = some (.cells #[.int .u64 a0_0, .int .u64 a0_1] 24 (0, 0))) ∧ Aside0 (wc.heap[gb1832]? = some (.cells #[.int .u64 a1_0, .int .u64 a1_1] 24 (0, 0))) ∧ Aside0 (wc.heap[gb1837]? = some (.cells #[.int .u64 t1834, .int .u64 t1835] 24 (0, 0))) ∧ Aside0 (wc.heap[gb2354]? = some (.cells #[.int .u64 t2351, .int .u64 t2352] 24 (0, 0))) ∧ Aside0 (Below w.heap.size w wc))
          case first =>
            have H := HC50.out
            clear HC50
            by_cases c51 : x63_38 = true
            · subst c51
              have H1 : ((wide_Div.f t2351 t2352 a2).bind fun bt2510 => (if bt2510.2.2.2 = 0 then (if (!(bt2510.1 == a0_0) || (!(bt2510.2.1 == a0_1))) = true then (none) else (if bt2510.2.2.1 = 0 then (demurragelaw01_WideBack.j2 kj38 a2 t1833 a0_0 a0_1 t2351 t2352) else (none))) else (none))) = some r := by rw [if_pos rfl] at H; exact H
              clear H
              have H := H1
              clear H1
              replace H := Option.bind_eq_some_iff.mp H
              obtain ⟨⟨t2510, t2511, t2512, t2513⟩, A520, H⟩ := H
              replace H : (if t2513 = 0 then (if (!(t2510 == a0_0) || (!(t2511 == a0_1))) = true then (none) else (if t2512 = 0 then (demurragelaw01_WideBack.j2 kj38 a2 t1833 a0_0 a0_1 t2351 t2352) else (none))) else (none)) = some r := H
              have A52 := Aside0.mk A520
              clear A520
              by_cases c53 : t2513 = 0
              · rw [if_pos c53] at H
                have c53b0 : (t2513 == 0) = true := beq_iff_eq.mpr c53
                have c53b1 : (t2513 != 0) = false := bne_eq_false_iff_eq.mpr c53
                clear c53
                (first | rw [c53b0] | (simp only [i64_w, i32_w]; rw [c53b0]) | rw [c53b1] | skip)
                by_cases c54 : (!(t2510 == a0_0) || (!(t2511 == a0_1))) = true
                · rw [if_pos c54] at H
                  exact absurd H (by simp)
                · rw [if_neg c54] at H
                  have c54b0 : (!(t2510 == a0_0) || (!(t2511 == a0_1))) = false := by simpa using c54
                  clear c54
                  by_cases c55 : t2512 = 0
                  · rw [if_pos c55] at H
                    have c55b0 : (t2512 == 0) = true := beq_iff_eq.mpr c55
                    have c55b1 : (t2512 != 0) = false := bne_eq_false_iff_eq.mpr c55
                    clear c55
                    have H' := Aside0.mk H
                    clear H
                    have hnb56 := NB2354_1831.out
                    have hnc56 := NB1831_2354.out
                    have hnb57 := NB2354_1832.out
                    have hnc57 := NB1832_2354.out
                    have hnb58 := NB2354_1837.out
                    have hnc58 := NB1837_2354.out
                    have hcz59_0 : wc.cell? ⟨gb2354, 0, none⟩ = some (.int .u64 t2351) := (blk_cell BK2354.out 0).trans rfl
                    have hcz59_1 : wc.cell? ⟨gb2354, 1, none⟩ = some (.int .u64 t2352) := (blk_cell BK2354.out 1).trans rfl
                    have hfz59_0 := blk_frozen BK2354.out 0
                    have hfz59_1 := blk_frozen BK2354.out 1
                    go_wp2_with (first | ((with_reducible refine gate_callee (f := 37) rfl ?_); refine goesL_ (some 67) rfl rfl Try.func37 (by kernel_rfl) rfl #[.agg #[.int .u64 t2351, .int .u64 t2352], .int .u64 a2] rfl (by (try simp only [List.map_toArray, List.map_cons, List.map_nil]); first | done | rfl | (simp only [List.length_drop, List.length_take]; rfl)) ?_; (with_reducible refine (wide_Div.calls t2351 t2352 a2 t2510 t2511 t2512 t2513 _ A52.out).mono ?_); rintro e w60 ⟨rfl, hb⟩; refine ⟨_, rfl, ?_⟩; have n0_ := Aside0.mk (blk_below (g := gb1831) (o := .cells #[.int .u64 a0_0, .int .u64 a0_1] 24 (0, 0)) (by (with_reducible repeat (first | refine blk_drewN ?_ _ | refine blk_drew ?_ | refine blk_alloc ?_ _)); exact BK1831.out) hb); have n1_ := Aside0.mk (blk_below (g := gb1832) (o := .cells #[.int .u64 a1_0, .int .u64 a1_1] 24 (0, 0)) (by (with_reducible repeat (first | refine blk_drewN ?_ _ | refine blk_drew ?_ | refine blk_alloc ?_ _)); exact BK1832.out) hb); have n2_ := Aside0.mk (blk_below (g := gb1837) (o := .cells #[.int .u64 t1834, .int .u64 t1835] 24 (0, 0)) (by (with_reducible repeat (first | refine blk_drewN ?_ _ | refine blk_drew ?_ | refine blk_alloc ?_ _)); exact BK1837.out) hb); have n3_ := Aside0.mk (blk_below (g := gb2354) (o := .cells #[.int .u64 t2351, .int .u64 t2352] 24 (0, 0)) (by (with_reducible repeat (first | refine blk_drewN ?_ _ | refine blk_drew ?_ | refine blk_alloc ?_ _)); exact BK2354.out) hb); have n4_ := Aside0.mk (below_step (by repeat (first | (with_reducible first | exact HB.out | apply below_alloc | apply pw_below_drewN | apply below_drew1 | refine below_set ?_ GE1831.out | refine below_set ?_ GE1832.out | refine below_set ?_ GE1837.out | refine below_set ?_ GE2354.out) | exact HB.out)) hb); clear BK1831; clear BK1832; clear BK1837; clear BK2354; clear HB; have BK1831 := n0_; have BK1832 := n1_; have BK1837 := n2_; have BK2354 := n3_; have HB := n4_; clear n0_ n1_ n2_ n3_ n4_; (try clear hb); (try clear hb2); (try clear hk); (try clear hi)) | ((with_reducible refine gate_dst (N := 14) rfl ?_); refine box_event ?hg (N := 14) ?hd (cs := #[.int .u64 0, .int .u64 0]) (t := 24) ?hr ?_; (case hd => rfl); (case hg => rfl); (case hr => first | (go_simp; done) | (go_simp; rfl)); intro gb2514 hg w61 hbox hb; have n0_ := Aside0.mk (blk_below (g := gb1831) (o := .cells #[.int .u64 a0_0, .int .u64 a0_1] 24 (0, 0)) (by (with_reducible repeat (first | refine blk_drewN ?_ _ | refine blk_drew ?_ | refine blk_alloc ?_ _)); exact BK1831.out) hb); have n1_ := Aside0.mk (blk_below (g := gb1832) (o := .cells #[.int .u64 a1_0, .int .u64 a1_1] 24 (0, 0)) (by (with_reducible repeat (first | refine blk_drewN ?_ _ | refine blk_drew ?_ | refine blk_alloc ?_ _)); exact BK1832.out) hb); have n2_ := Aside0.mk (blk_below (g := gb1837) (o := .cells #[.int .u64 t1834, .int .u64 t1835] 24 (0, 0)) (by (with_reducible repeat (first | refine blk_drewN ?_ _ | refine blk_drew ?_ | refine blk_alloc ?_ _)); exact BK1837.out) hb); have n3_ := Aside0.mk (blk_below (g := gb2354) (o := .cells #[.int .u64 t2351, .int .u64 t2352] 24 (0, 0)) (by (with_reducible repeat (first | refine blk_drewN ?_ _ | refine blk_drew ?_ | refine blk_alloc ?_ _)); exact BK2354.out) hb); have n4_ := Aside0.mk (below_step (by repeat (first | (with_reducible first | exact HB.out | apply below_alloc | apply pw_below_drewN | apply below_drew1 | refine below_set ?_ GE1831.out | refine below_set ?_ GE1832.out | refine below_set ?_ GE1837.out | refine below_set ?_ GE2354.out) | exact HB.out)) hb); have n5_ := Aside0.mk (hbox); have n6_ := Aside0.mk ((by rw [hg]; exact (below_size (by repeat (first | (with_reducible first | exact HB.out | apply below_alloc | apply pw_below_drewN | apply below_drew1 | refine below_set ?_ GE1831.out | refine below_set ?_ GE1832.out | refine below_set ?_ GE1837.out | refine below_set ?_ GE2354.out) | exact HB.out))) : w.heap.size ≤ gb2514)); have n7_ := Aside0.mk ((by rw [hg]; exact (below_size (by repeat (first | (with_reducible first | exact HB.out | apply below_alloc | apply pw_below_drewN | apply below_drew1 | refine below_set ?_ GE1831.out | refine below_set ?_ GE1832.out | refine below_set ?_ GE1837.out | refine below_set ?_ GE2354.out) | exact HB.out))) : w.heap.size ≤ gb2514)); have n8_ := Aside0.mk ((by rw [hg]; exact Nat.ne_of_lt (blk_lt (g := gb1831) (o := .cells #[.int .u64 a0_0, .int .u64 a0_1] 24 (0, 0)) (by (with_reducible repeat (first | refine blk_drewN ?_ _ | refine blk_drew ?_ | refine blk_alloc ?_ _)); exact BK1831.out)) : gb1831 ≠ gb2514)); have n9_ := Aside0.mk ((by rw [hg]; exact Nat.ne_of_gt (blk_lt (g := gb1831) (o := .cells #[.int .u64 a0_0, .int .u64 a0_1] 24 (0, 0)) (by (with_reducible repeat (first | refine blk_drewN ?_ _ | refine blk_drew ?_ | refine blk_alloc ?_ _)); exact BK1831.out)) : gb2514 ≠ gb1831)); have n10_ := Aside0.mk ((by rw [hg]; exact Nat.ne_of_lt (blk_lt (g := gb1832) (o := .cells #[.int .u64 a1_0, .int .u64 a1_1] 24 (0, 0)) (by (with_reducible repeat (first | refine blk_drewN ?_ _ | refine blk_drew ?_ | refine blk_alloc ?_ _)); exact BK1832.out)) : gb1832 ≠ gb2514)); have n11_ := Aside0.mk ((by rw [hg]; exact Nat.ne_of_gt (blk_lt (g := gb1832) (o := .cells #[.int .u64 a1_0, .int .u64 a1_1] 24 (0, 0)) (by (with_reducible repeat (first | refine blk_drewN ?_ _ | refine blk_drew ?_ | refine blk_alloc ?_ _)); exact BK1832.out)) : gb2514 ≠ gb1832)); have n12_ := Aside0.mk ((by rw [hg]; exact Nat.ne_of_lt (blk_lt (g := gb1837) (o := .cells #[.int .u64 t1834, .int .u64 t1835] 24 (0, 0)) (by (with_reducible repeat (first | refine blk_drewN ?_ _ | refine blk_drew ?_ | refine blk_alloc ?_ _)); exact BK1837.out)) : gb1837 ≠ gb2514)); have n13_ := Aside0.mk ((by rw [hg]; exact Nat.ne_of_gt (blk_lt (g := gb1837) (o := .cells #[.int .u64 t1834, .int .u64 t1835] 24 (0, 0)) (by (with_reducible repeat (first | refine blk_drewN ?_ _ | refine blk_drew ?_ | refine blk_alloc ?_ _)); exact BK1837.out)) : gb2514 ≠ gb1837)); have n14_ := Aside0.mk ((by rw [hg]; exact Nat.ne_of_lt (blk_lt (g := gb2354) (o := .cells #[.int .u64 t2351, .int .u64 t2352] 24 (0, 0)) (by (with_reducible repeat (first | refine blk_drewN ?_ _ | refine blk_drew ?_ | refine blk_alloc ?_ _)); exact BK2354.out)) : gb2354 ≠ gb2514)); have n15_ := Aside0.mk ((by rw [hg]; exact Nat.ne_of_gt (blk_lt (g := gb2354) (o := .cells #[.int .u64 t2351, .int .u64 t2352] 24 (0, 0)) (by (with_reducible repeat (first | refine blk_drewN ?_ _ | refine blk_drew ?_ | refine blk_alloc ?_ _)); exact BK2354.out)) : gb2514 ≠ gb2354)); clear BK1831; clear BK1832; clear BK1837; clear BK2354; clear HB; have BK1831 := n0_; have BK1832 := n1_; have BK1837 := n2_; have BK2354 := n3_; have HB := n4_; have BK2514 := n5_; have GW2514 := n6_; have GE2514 := n7_; have NB1831_2514 := n8_; have NB2514_1831 := n9_; have NB1832_2514 := n10_; have NB2514_1832 := n11_; have NB1837_2514 := n12_; have NB2514_1837 := n13_; have NB2354_2514 := n14_; have NB2514_2354 := n15_; clear n0_ n1_ n2_ n3_ n4_ n5_ n6_ n7_ n8_ n9_ n10_ n11_ n12_ n13_ n14_ n15_; clear hb hbox hg; have hnb62 := NB2514_1831.out; have hnc62 := NB1831_2514.out; have hnb63 := NB2514_1832.out; have hnc63 := NB1832_2514.out; have hnb64 := NB2514_1837.out; have hnc64 := NB1837_2514.out; have hnb65 := NB2514_2354.out; have hnc65 := NB2354_2514.out; have hcz66_0 : w61.cell? ⟨gb2514, 0, none⟩ = some (.int .u64 0) := (blk_cell BK2514.out 0).trans rfl; have hcz66_1 : w61.cell? ⟨gb2514, 1, none⟩ = some (.int .u64 0) := (blk_cell BK2514.out 1).trans rfl; have hfz66_0 := blk_frozen BK2514.out 0; have hfz66_1 := blk_frozen BK2514.out 1; have hnb67 := NB1831_1832.out; have hnc67 := NB1832_1831.out; have hnb68 := NB1831_1837.out; have hnc68 := NB1837_1831.out; have hcz69_0 : w61.cell? ⟨gb1831, 0, none⟩ = some (.int .u64 a0_0) := (blk_cell BK1831.out 0).trans rfl; have hcz69_1 : w61.cell? ⟨gb1831, 1, none⟩ = some (.int .u64 a0_1) := (blk_cell BK1831.out 1).trans rfl; have hfz69_0 := blk_frozen BK1831.out 0; have hfz69_1 := blk_frozen BK1831.out 1))
                    go_meet
                    case rel => exact ⟨_, H', ⟨by have := HJ5.out; have := HJ38.out; first | omega | exact Nat.le_refl _⟩, ⟨by (with_reducible repeat (first | refine blk_drewN ?_ _ | refine blk_drew ?_ | refine blk_alloc ?_ _)); refine blk_far ?_ NB1831_2514.out _; (with_reducible repeat (first | refine blk_drewN ?_ _ | refine blk_drew ?_ | refine blk_alloc ?_ _)); refine blk_far ?_ NB1831_2514.out _; (with_reducible repeat (first | refine blk_drewN ?_ _ | refine blk_drew ?_ | refine blk_alloc ?_ _)); exact BK1831.out⟩, ⟨by (with_reducible repeat (first | refine blk_drewN ?_ _ | refine blk_drew ?_ | refine blk_alloc ?_ _)); refine blk_far ?_ NB1832_2514.out _; (with_reducible repeat (first | refine blk_drewN ?_ _ | refine blk_drew ?_ | refine blk_alloc ?_ _)); refine blk_far ?_ NB1832_2514.out _; (with_reducible repeat (first | refine blk_drewN ?_ _ | refine blk_drew ?_ | refine blk_alloc ?_ _)); exact BK1832.out⟩, ⟨by (with_reducible repeat (first | refine blk_drewN ?_ _ | refine blk_drew ?_ | refine blk_alloc ?_ _)); refine blk_far ?_ NB1837_2514.out _; (with_reducible repeat (first | refine blk_drewN ?_ _ | refine blk_drew ?_ | refine blk_alloc ?_ _)); refine blk_far ?_ NB1837_2514.out _; (with_reducible repeat (first | refine blk_drewN ?_ _ | refine blk_drew ?_ | refine blk_alloc ?_ _)); exact BK1837.out⟩, ⟨by (with_reducible repeat (first | refine blk_drewN ?_ _ | refine blk_drew ?_ | refine blk_alloc ?_ _)); refine blk_far ?_ NB2354_2514.out _; (with_reducible repeat (first | refine blk_drewN ?_ _ | refine blk_drew ?_ | refine blk_alloc ?_ _)); refine blk_far ?_ NB2354_2514.out _; (with_reducible repeat (first | refine blk_drewN ?_ _ | refine blk_drew ?_ | refine blk_alloc ?_ _)); exact BK2354.out⟩, ⟨by repeat (first | (with_reducible first | exact HB.out | apply below_alloc | apply pw_below_drewN | apply below_drew1 | refine below_set ?_ GE1831.out | refine below_set ?_ GE1832.out | refine below_set ?_ GE1837.out | refine below_set ?_ GE2354.out | refine below_set ?_ GE2514.out) | exact HB.out)⟩⟩
                  · rw [if_neg c55] at H
                    exact absurd H (by simp)
              · rw [if_neg c53] at H
                exact absurd H (by simp)
            · replace c51 := Bool.eq_false_iff.mpr c51
              subst c51
              have H1 : (demurragelaw01_WideBack.j2 kj38 a2 t1833 a0_0 a0_1 t2351 t2352) = some r := by rw [if_neg (show ¬ (false = true) by decide)] at H; exact H
              clear H
              have H := H1
              clear H1
              have H' := Aside0.mk H
              clear H
              go_wp2
              go_meet
              case rel => exact ⟨_, H', ⟨by have := HJ5.out; have := HJ38.out; first | omega | exact Nat.le_refl _⟩, ⟨by (with_reducible repeat (first | refine blk_drewN ?_ _ | refine blk_drew ?_ | refine blk_alloc ?_ _)); exact BK1831.out⟩, ⟨by (with_reducible repeat (first | refine blk_drewN ?_ _ | refine blk_drew ?_ | refine blk_alloc ?_ _)); exact BK1832.out⟩, ⟨by (with_reducible repeat (first | refine blk_drewN ?_ _ | refine blk_drew ?_ | refine blk_alloc ?_ _)); exact BK1837.out⟩, ⟨by (with_reducible repeat (first | refine blk_drewN ?_ _ | refine blk_drew ?_ | refine blk_alloc ?_ _)); exact BK2354.out⟩, ⟨by repeat (first | (with_reducible first | exact HB.out | apply below_alloc | apply pw_below_drewN | apply below_drew1 | refine below_set ?_ GE1831.out | refine below_set ?_ GE1832.out | refine below_set ?_ GE1837.out | refine below_set ?_ GE2354.out) | exact HB.out)⟩⟩
          case rest =>
            clear HC50
            try clear c1
            try clear c2
            try clear p2
            try clear c3
            try clear c4
            try clear c5
            try clear c6
            try clear c10
            try clear c15
            try clear c16
            try clear c18
            try clear c18b0
            try clear c18b1
            try clear c20
            try clear c20b0
            try clear c20b1
            try clear c21
            try clear c21b0
            try clear c22
            try clear c23
            try clear c23b0
            try clear c24
            try clear c25
            try clear c26
            try clear c27
            try clear c28
            try clear c31
            try clear c32
            try clear c33
            try clear c37
            try clear c40
            try clear c41
            try clear c45
            try clear c46
            try clear c47
            try clear c49
            try clear c49b0
            try clear c49b1
            try clear c51
            try clear c53
            try clear c53b0
            try clear c53b1
            try clear c54
            try clear c54b0
            try clear c55
            try clear c55b0
            try clear c55b1
            try clear c56
            try clear c57
            try clear c58
            try clear c62
            try clear c63
            try clear c64
            try clear c65
            try clear c67
            try clear c68
            try clear hcz11_0
            try clear hcz11_1
            try clear hcz12_0
            try clear hcz12_1
            try clear hcz17_0
            try clear hcz17_1
            try clear hcz26_0
            try clear hcz26_1
            try clear hcz28_0
            try clear hcz28_1
            try clear hcz34_0
            try clear hcz34_1
            try clear hcz35_0
            try clear hcz35_1
            try clear hcz36_0
            try clear hcz36_1
            try clear hcz42_0
            try clear hcz42_1
            try clear hcz48_0
            try clear hcz48_1
            try clear hcz59_0
            try clear hcz59_1
            try clear hcz66_0
            try clear hcz66_1
            try clear hcz69_0
            try clear hcz69_1
            try clear hfz11_0
            try clear hfz11_1
            try clear hfz12_0
            try clear hfz12_1
            try clear hfz17_0
            try clear hfz17_1
            try clear hfz26_0
            try clear hfz26_1
            try clear hfz28_0
            try clear hfz28_1
            try clear hfz34_0
            try clear hfz34_1
            try clear hfz35_0
            try clear hfz35_1
            try clear hfz36_0
            try clear hfz36_1
            try clear hfz42_0
            try clear hfz42_1
            try clear hfz48_0
            try clear hfz48_1
            try clear hfz59_0
            try clear hfz59_1
            try clear hfz66_0
            try clear hfz66_1
            try clear hfz69_0
            try clear hfz69_1
            try clear p2
            obtain ⟨kq, HA, HJ49, BK1831, BK1832, BK1837, BK2354, HB⟩ := hcut
            cases kq with
            | zero => exact absurd HA.out (by simp [demurragelaw01_WideBack.j2])
            | succ kj49 =>
              have H := HA.out
              clear HA
              simp only [demurragelaw01_WideBack.j2] at H
              by_cases c70 : a2 = 0
              · rw [if_pos c70] at H
                have c70b0 : (a2 == 0) = true := beq_iff_eq.mpr c70
                have c70b1 : (a2 != 0) = false := bne_eq_false_iff_eq.mpr c70
                clear c70
                by_cases c71 : t1833 = true
                · subst c71
                  have H1 : (some (t2351 == 0 && (t2352 == 0))) = some r := by rw [if_pos rfl] at H; exact H
                  clear H
                  have H := H1
                  clear H1
                  obtain rfl := Option.some.inj H
                  have hnb72 := NB2354_1831.out
                  have hnc72 := NB1831_2354.out
                  have hnb73 := NB2354_1832.out
                  have hnc73 := NB1832_2354.out
                  have hnb74 := NB2354_1837.out
                  have hnc74 := NB1837_2354.out
                  have hcz75_0 : wc.cell? ⟨gb2354, 0, none⟩ = some (.int .u64 t2351) := (blk_cell BK2354.out 0).trans rfl
                  have hcz75_1 : wc.cell? ⟨gb2354, 1, none⟩ = some (.int .u64 t2352) := (blk_cell BK2354.out 1).trans rfl
                  have hfz75_0 := blk_frozen BK2354.out 0
                  have hfz75_1 := blk_frozen BK2354.out 1
                  go_wp2
                  go_ret
                  exact ⟨by first | rfl | (simp [errW_none, errW_some] <;> rfl) | (simp [*, errW_none, errW_some] <;> rfl), by repeat (first | (with_reducible first | exact HB.out | apply below_alloc | apply pw_below_drewN | apply below_drew1 | refine below_set ?_ GE1831.out | refine below_set ?_ GE1832.out | refine below_set ?_ GE1837.out | refine below_set ?_ GE2354.out) | exact HB.out)⟩
                · replace c71 := Bool.eq_false_iff.mpr c71
                  subst c71
                  have H1 : (none) = some r := by rw [if_neg (show ¬ (false = true) by decide)] at H; exact H
                  clear H
                  have H := H1
                  clear H1
                  exact absurd H (by simp)
              · rw [if_neg c70] at H
                have c70b0 : (a2 == 0) = false := beq_eq_false_iff_ne.mpr c70
                have c70b1 : (a2 != 0) = true := bne_iff_ne.mpr c70
                replace H := Option.bind_eq_some_iff.mp H
                obtain ⟨⟨t2590, t2591, t2592, t2593⟩, A760, H⟩ := H
                replace H : ((wide_Times.f t2590 t2591 a2).bind fun bt2595 => ((wide_Of.f t2592).bind fun bt2599 => ((wide_Add.f bt2595.1 bt2595.2.1 bt2599.1 bt2599.2).bind fun bt2601 => (if t1833 = true then (if t2593 = 0 then (if bt2595.2.2 = 0 then (if bt2601.2.2 = 0 then (if (bt2601.1 == a0_0 && (bt2601.2.1 == a0_1)) = true then (some (decide (t2592 < a2))) else (none)) else (none)) else (none)) else (none)) else (none))))) = some r := H
                have A76 := Aside0.mk A760
                clear A760
                replace H := Option.bind_eq_some_iff.mp H
                obtain ⟨⟨t2595, t2596, t2597⟩, A770, H⟩ := H
                replace H : ((wide_Of.f t2592).bind fun bt2599 => ((wide_Add.f t2595 t2596 bt2599.1 bt2599.2).bind fun bt2601 => (if t1833 = true then (if t2593 = 0 then (if t2597 = 0 then (if bt2601.2.2 = 0 then (if (bt2601.1 == a0_0 && (bt2601.2.1 == a0_1)) = true then (some (decide (t2592 < a2))) else (none)) else (none)) else (none)) else (none)) else (none)))) = some r := H
                have A77 := Aside0.mk A770
                clear A770
                replace H := Option.bind_eq_some_iff.mp H
                obtain ⟨⟨t2599, t2600⟩, A780, H⟩ := H
                replace H : ((wide_Add.f t2595 t2596 t2599 t2600).bind fun bt2601 => (if t1833 = true then (if t2593 = 0 then (if t2597 = 0 then (if bt2601.2.2 = 0 then (if (bt2601.1 == a0_0 && (bt2601.2.1 == a0_1)) = true then (some (decide (t2592 < a2))) else (none)) else (none)) else (none)) else (none)) else (none))) = some r := H
                have A78 := Aside0.mk A780
                clear A780
                replace H := Option.bind_eq_some_iff.mp H
                obtain ⟨⟨t2601, t2602, t2603⟩, A790, H⟩ := H
                replace H : (if t1833 = true then (if t2593 = 0 then (if t2597 = 0 then (if t2603 = 0 then (if (t2601 == a0_0 && (t2602 == a0_1)) = true then (some (decide (t2592 < a2))) else (none)) else (none)) else (none)) else (none)) else (none)) = some r := H
                have A79 := Aside0.mk A790
                clear A790
                by_cases c80 : t1833 = true
                · subst c80
                  have H1 : (if t2593 = 0 then (if t2597 = 0 then (if t2603 = 0 then (if (t2601 == a0_0 && (t2602 == a0_1)) = true then (some (decide (t2592 < a2))) else (none)) else (none)) else (none)) else (none)) = some r := by rw [if_pos rfl] at H; exact H
                  clear H
                  have H := H1
                  clear H1
                  by_cases c81 : t2593 = 0
                  · rw [if_pos c81] at H
                    have c81b0 : (t2593 == 0) = true := beq_iff_eq.mpr c81
                    have c81b1 : (t2593 != 0) = false := bne_eq_false_iff_eq.mpr c81
                    clear c81
                    by_cases c82 : t2597 = 0
                    · rw [if_pos c82] at H
                      have c82b0 : (t2597 == 0) = true := beq_iff_eq.mpr c82
                      have c82b1 : (t2597 != 0) = false := bne_eq_false_iff_eq.mpr c82
                      clear c82
                      by_cases c83 : t2603 = 0
                      · rw [if_pos c83] at H
                        have c83b0 : (t2603 == 0) = true := beq_iff_eq.mpr c83
                        have c83b1 : (t2603 != 0) = false := bne_eq_false_iff_eq.mpr c83
                        clear c83
                        by_cases c84 : (t2601 == a0_0 && (t2602 == a0_1)) = true
                        · rw [if_pos c84] at H
                          have c84b0 : (t2601 == a0_0 && (t2602 == a0_1)) = true := c84
                          (try (have c84b1 : decide (t2601 = a0_0 && (t2602 == a0_1)) = true := by simpa using c84))
                          (try (have c84b2 : (t2601 == a0_0 && (t2602 == a0_1)) = true := by simpa using c84))
                          clear c84
                          obtain rfl := Option.some.inj H
                          have hnb85 := NB1831_1832.out
                          have hnc85 := NB1832_1831.out
                          have hnb86 := NB1831_1837.out
                          have hnc86 := NB1837_1831.out
                          have hnb87 := NB1831_2354.out
                          have hnc87 := NB2354_1831.out
                          have hcz88_0 : wc.cell? ⟨gb1831, 0, none⟩ = some (.int .u64 a0_0) := (blk_cell BK1831.out 0).trans rfl
                          have hcz88_1 : wc.cell? ⟨gb1831, 1, none⟩ = some (.int .u64 a0_1) := (blk_cell BK1831.out 1).trans rfl
                          have hfz88_0 := blk_frozen BK1831.out 0
                          have hfz88_1 := blk_frozen BK1831.out 1
                          try go_wp2_with (first | ((with_reducible refine gate_callee (f := 37) rfl ?_); refine goesL_ (some 93) rfl rfl Try.func37 (by kernel_rfl) rfl #[.agg #[.int .u64 a0_0, .int .u64 a0_1], .int .u64 a2] rfl (by (try simp only [List.map_toArray, List.map_cons, List.map_nil]); first | done | rfl | (simp only [List.length_drop, List.length_take]; rfl)) ?_; (with_reducible refine (wide_Div.calls a0_0 a0_1 a2 t2590 t2591 t2592 t2593 _ A76.out).mono ?_); rintro e w89 ⟨rfl, hb⟩; refine ⟨_, rfl, ?_⟩; have n0_ := Aside0.mk (blk_below (g := gb1831) (o := .cells #[.int .u64 a0_0, .int .u64 a0_1] 24 (0, 0)) (by (with_reducible repeat (first | refine blk_drewN ?_ _ | refine blk_drew ?_ | refine blk_alloc ?_ _)); exact BK1831.out) hb); have n1_ := Aside0.mk (blk_below (g := gb1832) (o := .cells #[.int .u64 a1_0, .int .u64 a1_1] 24 (0, 0)) (by (with_reducible repeat (first | refine blk_drewN ?_ _ | refine blk_drew ?_ | refine blk_alloc ?_ _)); exact BK1832.out) hb); have n2_ := Aside0.mk (blk_below (g := gb1837) (o := .cells #[.int .u64 t1834, .int .u64 t1835] 24 (0, 0)) (by (with_reducible repeat (first | refine blk_drewN ?_ _ | refine blk_drew ?_ | refine blk_alloc ?_ _)); exact BK1837.out) hb); have n3_ := Aside0.mk (blk_below (g := gb2354) (o := .cells #[.int .u64 t2351, .int .u64 t2352] 24 (0, 0)) (by (with_reducible repeat (first | refine blk_drewN ?_ _ | refine blk_drew ?_ | refine blk_alloc ?_ _)); exact BK2354.out) hb); have n4_ := Aside0.mk (below_step (by repeat (first | (with_reducible first | exact HB.out | apply below_alloc | apply pw_below_drewN | apply below_drew1 | refine below_set ?_ GE1831.out | refine below_set ?_ GE1832.out | refine below_set ?_ GE1837.out | refine below_set ?_ GE2354.out) | exact HB.out)) hb); clear BK1831; clear BK1832; clear BK1837; clear BK2354; clear HB; have BK1831 := n0_; have BK1832 := n1_; have BK1837 := n2_; have BK2354 := n3_; have HB := n4_; clear n0_ n1_ n2_ n3_ n4_; (try clear hb); (try clear hb2); (try clear hk); (try clear hi)) | ((with_reducible refine gate_dst (N := 17) rfl ?_); refine box_event ?hg (N := 17) ?hd (cs := #[.int .u64 0, .int .u64 0]) (t := 24) ?hr ?_; (case hd => rfl); (case hg => rfl); (case hr => first | (go_simp; done) | (go_simp; rfl)); intro gb2594 hg w90 hbox hb; have n0_ := Aside0.mk (blk_below (g := gb1831) (o := .cells #[.int .u64 a0_0, .int .u64 a0_1] 24 (0, 0)) (by (with_reducible repeat (first | refine blk_drewN ?_ _ | refine blk_drew ?_ | refine blk_alloc ?_ _)); exact BK1831.out) hb); have n1_ := Aside0.mk (blk_below (g := gb1832) (o := .cells #[.int .u64 a1_0, .int .u64 a1_1] 24 (0, 0)) (by (with_reducible repeat (first | refine blk_drewN ?_ _ | refine blk_drew ?_ | refine blk_alloc ?_ _)); exact BK1832.out) hb); have n2_ := Aside0.mk (blk_below (g := gb1837) (o := .cells #[.int .u64 t1834, .int .u64 t1835] 24 (0, 0)) (by (with_reducible repeat (first | refine blk_drewN ?_ _ | refine blk_drew ?_ | refine blk_alloc ?_ _)); exact BK1837.out) hb); have n3_ := Aside0.mk (blk_below (g := gb2354) (o := .cells #[.int .u64 t2351, .int .u64 t2352] 24 (0, 0)) (by (with_reducible repeat (first | refine blk_drewN ?_ _ | refine blk_drew ?_ | refine blk_alloc ?_ _)); exact BK2354.out) hb); have n4_ := Aside0.mk (below_step (by repeat (first | (with_reducible first | exact HB.out | apply below_alloc | apply pw_below_drewN | apply below_drew1 | refine below_set ?_ GE1831.out | refine below_set ?_ GE1832.out | refine below_set ?_ GE1837.out | refine below_set ?_ GE2354.out) | exact HB.out)) hb); have n5_ := Aside0.mk (hbox); have n6_ := Aside0.mk ((by rw [hg]; exact (below_size (by repeat (first | (with_reducible first | exact HB.out | apply below_alloc | apply pw_below_drewN | apply below_drew1 | refine below_set ?_ GE1831.out | refine below_set ?_ GE1832.out | refine below_set ?_ GE1837.out | refine below_set ?_ GE2354.out) | exact HB.out))) : w.heap.size ≤ gb2594)); have n7_ := Aside0.mk ((by rw [hg]; exact (below_size (by repeat (first | (with_reducible first | exact HB.out | apply below_alloc | apply pw_below_drewN | apply below_drew1 | refine below_set ?_ GE1831.out | refine below_set ?_ GE1832.out | refine below_set ?_ GE1837.out | refine below_set ?_ GE2354.out) | exact HB.out))) : w.heap.size ≤ gb2594)); have n8_ := Aside0.mk ((by rw [hg]; exact Nat.ne_of_lt (blk_lt (g := gb1831) (o := .cells #[.int .u64 a0_0, .int .u64 a0_1] 24 (0, 0)) (by (with_reducible repeat (first | refine blk_drewN ?_ _ | refine blk_drew ?_ | refine blk_alloc ?_ _)); exact BK1831.out)) : gb1831 ≠ gb2594)); have n9_ := Aside0.mk ((by rw [hg]; exact Nat.ne_of_gt (blk_lt (g := gb1831) (o := .cells #[.int .u64 a0_0, .int .u64 a0_1] 24 (0, 0)) (by (with_reducible repeat (first | refine blk_drewN ?_ _ | refine blk_drew ?_ | refine blk_alloc ?_ _)); exact BK1831.out)) : gb2594 ≠ gb1831)); have n10_ := Aside0.mk ((by rw [hg]; exact Nat.ne_of_lt (blk_lt (g := gb1832) (o := .cells #[.int .u64 a1_0, .int .u64 a1_1] 24 (0, 0)) (by (with_reducible repeat (first | refine blk_drewN ?_ _ | refine blk_drew ?_ | refine blk_alloc ?_ _)); exact BK1832.out)) : gb1832 ≠ gb2594)); have n11_ := Aside0.mk ((by rw [hg]; exact Nat.ne_of_gt (blk_lt (g := gb1832) (o := .cells #[.int .u64 a1_0, .int .u64 a1_1] 24 (0, 0)) (by (with_reducible repeat (first | refine blk_drewN ?_ _ | refine blk_drew ?_ | refine blk_alloc ?_ _)); exact BK1832.out)) : gb2594 ≠ gb1832)); have n12_ := Aside0.mk ((by rw [hg]; exact Nat.ne_of_lt (blk_lt (g := gb1837) (o := .cells #[.int .u64 t1834, .int .u64 t1835] 24 (0, 0)) (by (with_reducible repeat (first | refine blk_drewN ?_ _ | refine blk_drew ?_ | refine blk_alloc ?_ _)); exact BK1837.out)) : gb1837 ≠ gb2594)); have n13_ := Aside0.mk ((by rw [hg]; exact Nat.ne_of_gt (blk_lt (g := gb1837) (o := .cells #[.int .u64 t1834, .int .u64 t1835] 24 (0, 0)) (by (with_reducible repeat (first | refine blk_drewN ?_ _ | refine blk_drew ?_ | refine blk_alloc ?_ _)); exact BK1837.out)) : gb2594 ≠ gb1837)); have n14_ := Aside0.mk ((by rw [hg]; exact Nat.ne_of_lt (blk_lt (g := gb2354) (o := .cells #[.int .u64 t2351, .int .u64 t2352] 24 (0, 0)) (by (with_reducible repeat (first | refine blk_drewN ?_ _ | refine blk_drew ?_ | refine blk_alloc ?_ _)); exact BK2354.out)) : gb2354 ≠ gb2594)); have n15_ := Aside0.mk ((by rw [hg]; exact Nat.ne_of_gt (blk_lt (g := gb2354) (o := .cells #[.int .u64 t2351, .int .u64 t2352] 24 (0, 0)) (by (with_reducible repeat (first | refine blk_drewN ?_ _ | refine blk_drew ?_ | refine blk_alloc ?_ _)); exact BK2354.out)) : gb2594 ≠ gb2354)); clear BK1831; clear BK1832; clear BK1837; clear BK2354; clear HB; have BK1831 := n0_; have BK1832 := n1_; have BK1837 := n2_; have BK2354 := n3_; have HB := n4_; have BK2594 := n5_; have GW2594 := n6_; have GE2594 := n7_; have NB1831_2594 := n8_; have NB2594_1831 := n9_; have NB1832_2594 := n10_; have NB2594_1832 := n11_; have NB1837_2594 := n12_; have NB2594_1837 := n13_; have NB2354_2594 := n14_; have NB2594_2354 := n15_; clear n0_ n1_ n2_ n3_ n4_ n5_ n6_ n7_ n8_ n9_ n10_ n11_ n12_ n13_ n14_ n15_; clear hb hbox hg; have hnb91 := NB2594_1831.out; have hnc91 := NB1831_2594.out; have hnb92 := NB2594_1832.out; have hnc92 := NB1832_2594.out; have hnb93 := NB2594_1837.out; have hnc93 := NB1837_2594.out; have hnb94 := NB2594_2354.out; have hnc94 := NB2354_2594.out; have hcz95_0 : w90.cell? ⟨gb2594, 0, none⟩ = some (.int .u64 0) := (blk_cell BK2594.out 0).trans rfl; have hcz95_1 : w90.cell? ⟨gb2594, 1, none⟩ = some (.int .u64 0) := (blk_cell BK2594.out 1).trans rfl; have hfz95_0 := blk_frozen BK2594.out 0; have hfz95_1 := blk_frozen BK2594.out 1) | ((with_reducible refine gate_callee (f := 26) rfl ?_); refine goesL_ (some 100) rfl rfl Try.func26 (by kernel_rfl) rfl #[.agg #[.int .u64 t2590, .int .u64 t2591], .int .u64 a2] rfl (by (try simp only [List.map_toArray, List.map_cons, List.map_nil]); first | done | rfl | (simp only [List.length_drop, List.length_take]; rfl)) ?_; (with_reducible refine (wide_Times.calls t2590 t2591 a2 t2595 t2596 t2597 _ A77.out).mono ?_); rintro e w96 ⟨rfl, hb⟩; refine ⟨_, rfl, ?_⟩; have n0_ := Aside0.mk (blk_below (g := gb1831) (o := .cells #[.int .u64 a0_0, .int .u64 a0_1] 24 (0, 0)) (by (with_reducible repeat (first | refine blk_drewN ?_ _ | refine blk_drew ?_ | refine blk_alloc ?_ _)); refine blk_far ?_ NB1831_2594.out _; (with_reducible repeat (first | refine blk_drewN ?_ _ | refine blk_drew ?_ | refine blk_alloc ?_ _)); refine blk_far ?_ NB1831_2594.out _; (with_reducible repeat (first | refine blk_drewN ?_ _ | refine blk_drew ?_ | refine blk_alloc ?_ _)); exact BK1831.out) hb); have n1_ := Aside0.mk (blk_below (g := gb1832) (o := .cells #[.int .u64 a1_0, .int .u64 a1_1] 24 (0, 0)) (by (with_reducible repeat (first | refine blk_drewN ?_ _ | refine blk_drew ?_ | refine blk_alloc ?_ _)); refine blk_far ?_ NB1832_2594.out _; (with_reducible repeat (first | refine blk_drewN ?_ _ | refine blk_drew ?_ | refine blk_alloc ?_ _)); refine blk_far ?_ NB1832_2594.out _; (with_reducible repeat (first | refine blk_drewN ?_ _ | refine blk_drew ?_ | refine blk_alloc ?_ _)); exact BK1832.out) hb); have n2_ := Aside0.mk (blk_below (g := gb1837) (o := .cells #[.int .u64 t1834, .int .u64 t1835] 24 (0, 0)) (by (with_reducible repeat (first | refine blk_drewN ?_ _ | refine blk_drew ?_ | refine blk_alloc ?_ _)); refine blk_far ?_ NB1837_2594.out _; (with_reducible repeat (first | refine blk_drewN ?_ _ | refine blk_drew ?_ | refine blk_alloc ?_ _)); refine blk_far ?_ NB1837_2594.out _; (with_reducible repeat (first | refine blk_drewN ?_ _ | refine blk_drew ?_ | refine blk_alloc ?_ _)); exact BK1837.out) hb); have n3_ := Aside0.mk (blk_below (g := gb2354) (o := .cells #[.int .u64 t2351, .int .u64 t2352] 24 (0, 0)) (by (with_reducible repeat (first | refine blk_drewN ?_ _ | refine blk_drew ?_ | refine blk_alloc ?_ _)); refine blk_far ?_ NB2354_2594.out _; (with_reducible repeat (first | refine blk_drewN ?_ _ | refine blk_drew ?_ | refine blk_alloc ?_ _)); refine blk_far ?_ NB2354_2594.out _; (with_reducible repeat (first | refine blk_drewN ?_ _ | refine blk_drew ?_ | refine blk_alloc ?_ _)); exact BK2354.out) hb); have n4_ := Aside0.mk (blk_below (g := gb2594) (o := .cells #[.int .u64 t2590, .int .u64 t2591] 24 (0, 0)) (by (with_reducible repeat (first | refine blk_drewN ?_ _ | refine blk_drew ?_ | refine blk_alloc ?_ _)); refine blk_put (cs := #[.int .u64 t2590, .int .u64 0]) ?_ 1 _ rfl; (with_reducible repeat (first | refine blk_drewN ?_ _ | refine blk_drew ?_ | refine blk_alloc ?_ _)); refine blk_put (cs := #[.int .u64 0, .int .u64 0]) ?_ 0 _ rfl; (with_reducible repeat (first | refine blk_drewN ?_ _ | refine blk_drew ?_ | refine blk_alloc ?_ _)); exact BK2594.out) hb); have n5_ := Aside0.mk (below_step (by repeat (first | (with_reducible first | exact HB.out | apply below_alloc | apply pw_below_drewN | apply below_drew1 | refine below_set ?_ GE1831.out | refine below_set ?_ GE1832.out | refine below_set ?_ GE1837.out | refine below_set ?_ GE2354.out | refine below_set ?_ GE2594.out) | exact HB.out)) hb); clear BK1831; clear BK1832; clear BK1837; clear BK2354; clear BK2594; clear HB; have BK1831 := n0_; have BK1832 := n1_; have BK1837 := n2_; have BK2354 := n3_; have BK2594 := n4_; have HB := n5_; clear n0_ n1_ n2_ n3_ n4_ n5_; (try clear hb); (try clear hb2); (try clear hk); (try clear hi)) | ((with_reducible refine gate_dst (N := 20) rfl ?_); refine box_event ?hg (N := 20) ?hd (cs := #[.int .u64 0, .int .u64 0]) (t := 24) ?hr ?_; (case hd => rfl); (case hg => rfl); (case hr => first | (go_simp; done) | (go_simp; rfl)); intro gb2598 hg w97 hbox hb; have n0_ := Aside0.mk (blk_below (g := gb1831) (o := .cells #[.int .u64 a0_0, .int .u64 a0_1] 24 (0, 0)) (by (with_reducible repeat (first | refine blk_drewN ?_ _ | refine blk_drew ?_ | refine blk_alloc ?_ _)); exact BK1831.out) hb); have n1_ := Aside0.mk (blk_below (g := gb1832) (o := .cells #[.int .u64 a1_0, .int .u64 a1_1] 24 (0, 0)) (by (with_reducible repeat (first | refine blk_drewN ?_ _ | refine blk_drew ?_ | refine blk_alloc ?_ _)); exact BK1832.out) hb); have n2_ := Aside0.mk (blk_below (g := gb1837) (o := .cells #[.int .u64 t1834, .int .u64 t1835] 24 (0, 0)) (by (with_reducible repeat (first | refine blk_drewN ?_ _ | refine blk_drew ?_ | refine blk_alloc ?_ _)); exact BK1837.out) hb); have n3_ := Aside0.mk (blk_below (g := gb2354) (o := .cells #[.int .u64 t2351, .int .u64 t2352] 24 (0, 0)) (by (with_reducible repeat (first | refine blk_drewN ?_ _ | refine blk_drew ?_ | refine blk_alloc ?_ _)); exact BK2354.out) hb); have n4_ := Aside0.mk (blk_below (g := gb2594) (o := .cells #[.int .u64 t2590, .int .u64 t2591] 24 (0, 0)) (by (with_reducible repeat (first | refine blk_drewN ?_ _ | refine blk_drew ?_ | refine blk_alloc ?_ _)); exact BK2594.out) hb); have n5_ := Aside0.mk (below_step (by repeat (first | (with_reducible first | exact HB.out | apply below_alloc | apply pw_below_drewN | apply below_drew1 | refine below_set ?_ GE1831.out | refine below_set ?_ GE1832.out | refine below_set ?_ GE1837.out | refine below_set ?_ GE2354.out | refine below_set ?_ GE2594.out) | exact HB.out)) hb); have n6_ := Aside0.mk (hbox); have n7_ := Aside0.mk ((by rw [hg]; exact (below_size (by repeat (first | (with_reducible first | exact HB.out | apply below_alloc | apply pw_below_drewN | apply below_drew1 | refine below_set ?_ GE1831.out | refine below_set ?_ GE1832.out | refine below_set ?_ GE1837.out | refine below_set ?_ GE2354.out | refine below_set ?_ GE2594.out) | exact HB.out))) : w.heap.size ≤ gb2598)); have n8_ := Aside0.mk ((by rw [hg]; exact (below_size (by repeat (first | (with_reducible first | exact HB.out | apply below_alloc | apply pw_below_drewN | apply below_drew1 | refine below_set ?_ GE1831.out | refine below_set ?_ GE1832.out | refine below_set ?_ GE1837.out | refine below_set ?_ GE2354.out | refine below_set ?_ GE2594.out) | exact HB.out))) : w.heap.size ≤ gb2598)); have n9_ := Aside0.mk ((by rw [hg]; exact Nat.ne_of_lt (blk_lt (g := gb1831) (o := .cells #[.int .u64 a0_0, .int .u64 a0_1] 24 (0, 0)) (by (with_reducible repeat (first | refine blk_drewN ?_ _ | refine blk_drew ?_ | refine blk_alloc ?_ _)); exact BK1831.out)) : gb1831 ≠ gb2598)); have n10_ := Aside0.mk ((by rw [hg]; exact Nat.ne_of_gt (blk_lt (g := gb1831) (o := .cells #[.int .u64 a0_0, .int .u64 a0_1] 24 (0, 0)) (by (with_reducible repeat (first | refine blk_drewN ?_ _ | refine blk_drew ?_ | refine blk_alloc ?_ _)); exact BK1831.out)) : gb2598 ≠ gb1831)); have n11_ := Aside0.mk ((by rw [hg]; exact Nat.ne_of_lt (blk_lt (g := gb1832) (o := .cells #[.int .u64 a1_0, .int .u64 a1_1] 24 (0, 0)) (by (with_reducible repeat (first | refine blk_drewN ?_ _ | refine blk_drew ?_ | refine blk_alloc ?_ _)); exact BK1832.out)) : gb1832 ≠ gb2598)); have n12_ := Aside0.mk ((by rw [hg]; exact Nat.ne_of_gt (blk_lt (g := gb1832) (o := .cells #[.int .u64 a1_0, .int .u64 a1_1] 24 (0, 0)) (by (with_reducible repeat (first | refine blk_drewN ?_ _ | refine blk_drew ?_ | refine blk_alloc ?_ _)); exact BK1832.out)) : gb2598 ≠ gb1832)); have n13_ := Aside0.mk ((by rw [hg]; exact Nat.ne_of_lt (blk_lt (g := gb1837) (o := .cells #[.int .u64 t1834, .int .u64 t1835] 24 (0, 0)) (by (with_reducible repeat (first | refine blk_drewN ?_ _ | refine blk_drew ?_ | refine blk_alloc ?_ _)); exact BK1837.out)) : gb1837 ≠ gb2598)); have n14_ := Aside0.mk ((by rw [hg]; exact Nat.ne_of_gt (blk_lt (g := gb1837) (o := .cells #[.int .u64 t1834, .int .u64 t1835] 24 (0, 0)) (by (with_reducible repeat (first | refine blk_drewN ?_ _ | refine blk_drew ?_ | refine blk_alloc ?_ _)); exact BK1837.out)) : gb2598 ≠ gb1837)); have n15_ := Aside0.mk ((by rw [hg]; exact Nat.ne_of_lt (blk_lt (g := gb2354) (o := .cells #[.int .u64 t2351, .int .u64 t2352] 24 (0, 0)) (by (with_reducible repeat (first | refine blk_drewN ?_ _ | refine blk_drew ?_ | refine blk_alloc ?_ _)); exact BK2354.out)) : gb2354 ≠ gb2598)); have n16_ := Aside0.mk ((by rw [hg]; exact Nat.ne_of_gt (blk_lt (g := gb2354) (o := .cells #[.int .u64 t2351, .int .u64 t2352] 24 (0, 0)) (by (with_reducible repeat (first | refine blk_drewN ?_ _ | refine blk_drew ?_ | refine blk_alloc ?_ _)); exact BK2354.out)) : gb2598 ≠ gb2354)); have n17_ := Aside0.mk ((by rw [hg]; exact Nat.ne_of_lt (blk_lt (g := gb2594) (o := .cells #[.int .u64 t2590, .int .u64 t2591] 24 (0, 0)) (by (with_reducible repeat (first | refine blk_drewN ?_ _ | refine blk_drew ?_ | refine blk_alloc ?_ _)); exact BK2594.out)) : gb2594 ≠ gb2598)); have n18_ := Aside0.mk ((by rw [hg]; exact Nat.ne_of_gt (blk_lt (g := gb2594) (o := .cells #[.int .u64 t2590, .int .u64 t2591] 24 (0, 0)) (by (with_reducible repeat (first | refine blk_drewN ?_ _ | refine blk_drew ?_ | refine blk_alloc ?_ _)); exact BK2594.out)) : gb2598 ≠ gb2594)); clear BK1831; clear BK1832; clear BK1837; clear BK2354; clear BK2594; clear HB; have BK1831 := n0_; have BK1832 := n1_; have BK1837 := n2_; have BK2354 := n3_; have BK2594 := n4_; have HB := n5_; have BK2598 := n6_; have GW2598 := n7_; have GE2598 := n8_; have NB1831_2598 := n9_; have NB2598_1831 := n10_; have NB1832_2598 := n11_; have NB2598_1832 := n12_; have NB1837_2598 := n13_; have NB2598_1837 := n14_; have NB2354_2598 := n15_; have NB2598_2354 := n16_; have NB2594_2598 := n17_; have NB2598_2594 := n18_; clear n0_ n1_ n2_ n3_ n4_ n5_ n6_ n7_ n8_ n9_ n10_ n11_ n12_ n13_ n14_ n15_ n16_ n17_ n18_; clear hb hbox hg; have hnb98 := NB2598_1831.out; have hnc98 := NB1831_2598.out; have hnb99 := NB2598_1832.out; have hnc99 := NB1832_2598.out; have hnb100 := NB2598_1837.out; have hnc100 := NB1837_2598.out; have hnb101 := NB2598_2354.out; have hnc101 := NB2354_2598.out; have hnb102 := NB2598_2594.out; have hnc102 := NB2594_2598.out; have hcz103_0 : w97.cell? ⟨gb2598, 0, none⟩ = some (.int .u64 0) := (blk_cell BK2598.out 0).trans rfl; have hcz103_1 : w97.cell? ⟨gb2598, 1, none⟩ = some (.int .u64 0) := (blk_cell BK2598.out 1).trans rfl; have hfz103_0 := blk_frozen BK2598.out 0; have hfz103_1 := blk_frozen BK2598.out 1))
                          have n0_ : Aside0 (((w97.setCell ⟨gb2598, 0, none⟩ (.int .u64 t2595)).setCell ⟨gb2598, 1, none⟩ (.int .u64 t2596)).heap[gb1831]? = some (.cells #[.int .u64 a0_0, .int .u64 a0_1] 24 (0, 0))) := ⟨by (with_reducible repeat (first | refine blk_drewN ?_ _ | refine blk_drew ?_ | refine blk_alloc ?_ _)); refine blk_far ?_ NB1831_2598.out _; (with_reducible repeat (first | refine blk_drewN ?_ _ | refine blk_drew ?_ | refine blk_alloc ?_ _)); refine blk_far ?_ NB1831_2598.out _; (with_reducible repeat (first | refine blk_drewN ?_ _ | refine blk_drew ?_ | refine blk_alloc ?_ _)); exact BK1831.out⟩
                          have n1_ : Aside0 (((w97.setCell ⟨gb2598, 0, none⟩ (.int .u64 t2595)).setCell ⟨gb2598, 1, none⟩ (.int .u64 t2596)).heap[gb1832]? = some (.cells #[.int .u64 a1_0, .int .u64 a1_1] 24 (0, 0))) := ⟨by (with_reducible repeat (first | refine blk_drewN ?_ _ | refine blk_drew ?_ | refine blk_alloc ?_ _)); refine blk_far ?_ NB1832_2598.out _; (with_reducible repeat (first | refine blk_drewN ?_ _ | refine blk_drew ?_ | refine blk_alloc ?_ _)); refine blk_far ?_ NB1832_2598.out _; (with_reducible repeat (first | refine blk_drewN ?_ _ | refine blk_drew ?_ | refine blk_alloc ?_ _)); exact BK1832.out⟩
                          have n2_ : Aside0 (((w97.setCell ⟨gb2598, 0, none⟩ (.int .u64 t2595)).setCell ⟨gb2598, 1, none⟩ (.int .u64 t2596)).heap[gb1837]? = some (.cells #[.int .u64 t1834, .int .u64 t1835] 24 (0, 0))) := ⟨by (with_reducible repeat (first | refine blk_drewN ?_ _ | refine blk_drew ?_ | refine blk_alloc ?_ _)); refine blk_far ?_ NB1837_2598.out _; (with_reducible repeat (first | refine blk_drewN ?_ _ | refine blk_drew ?_ | refine blk_alloc ?_ _)); refine blk_far ?_ NB1837_2598.out _; (with_reducible repeat (first | refine blk_drewN ?_ _ | refine blk_drew ?_ | refine blk_alloc ?_ _)); exact BK1837.out⟩
                          have n3_ : Aside0 (((w97.setCell ⟨gb2598, 0, none⟩ (.int .u64 t2595)).setCell ⟨gb2598, 1, none⟩ (.int .u64 t2596)).heap[gb2354]? = some (.cells #[.int .u64 t2351, .int .u64 t2352] 24 (0, 0))) := ⟨by (with_reducible repeat (first | refine blk_drewN ?_ _ | refine blk_drew ?_ | refine blk_alloc ?_ _)); refine blk_far ?_ NB2354_2598.out _; (with_reducible repeat (first | refine blk_drewN ?_ _ | refine blk_drew ?_ | refine blk_alloc ?_ _)); refine blk_far ?_ NB2354_2598.out _; (with_reducible repeat (first | refine blk_drewN ?_ _ | refine blk_drew ?_ | refine blk_alloc ?_ _)); exact BK2354.out⟩
                          have n4_ : Aside0 (((w97.setCell ⟨gb2598, 0, none⟩ (.int .u64 t2595)).setCell ⟨gb2598, 1, none⟩ (.int .u64 t2596)).heap[gb2594]? = some (.cells #[.int .u64 t2590, .int .u64 t2591] 24 (0, 0))) := ⟨by (with_reducible repeat (first | refine blk_drewN ?_ _ | refine blk_drew ?_ | refine blk_alloc ?_ _)); refine blk_far ?_ NB2594_2598.out _; (with_reducible repeat (first | refine blk_drewN ?_ _ | refine blk_drew ?_ | refine blk_alloc ?_ _)); refine blk_far ?_ NB2594_2598.out _; (with_reducible repeat (first | refine blk_drewN ?_ _ | refine blk_drew ?_ | refine blk_alloc ?_ _)); exact BK2594.out⟩
                          have n5_ : Aside0 (((w97.setCell ⟨gb2598, 0, none⟩ (.int .u64 t2595)).setCell ⟨gb2598, 1, none⟩ (.int .u64 t2596)).heap[gb2598]? = some (.cells #[.int .u64 t2595, .int .u64 t2596] 24 (0, 0))) := ⟨by (with_reducible repeat (first | refine blk_drewN ?_ _ | refine blk_drew ?_ | refine blk_alloc ?_ _)); refine blk_put (cs := #[.int .u64 t2595, .int .u64 0]) ?_ 1 _ rfl; (with_reducible repeat (first | refine blk_drewN ?_ _ | refine blk_drew ?_ | refine blk_alloc ?_ _)); refine blk_put (cs := #[.int .u64 0, .int .u64 0]) ?_ 0 _ rfl; (with_reducible repeat (first | refine blk_drewN ?_ _ | refine blk_drew ?_ | refine blk_alloc ?_ _)); exact BK2598.out⟩
                          have n6_ : Aside0 (Below w.heap.size w ((w97.setCell ⟨gb2598, 0, none⟩ (.int .u64 t2595)).setCell ⟨gb2598, 1, none⟩ (.int .u64 t2596))) := ⟨by repeat (first | (with_reducible first | exact HB.out | apply below_alloc | apply pw_below_drewN | apply below_drew1 | refine below_set ?_ GE1831.out | refine below_set ?_ GE1832.out | refine below_set ?_ GE1837.out | refine below_set ?_ GE2354.out | refine below_set ?_ GE2594.out | refine below_set ?_ GE2598.out) | exact HB.out)⟩
                          (try clear BK1831)
                          (try clear BK1832)
                          (try clear BK1837)
                          (try clear BK2354)
                          (try clear BK2594)
                          (try clear BK2598)
                          (try clear HB)
                          generalize ((w97.setCell ⟨gb2598, 0, none⟩ (.int .u64 t2595)).setCell ⟨gb2598, 1, none⟩ (.int .u64 t2596)) = w104 at n0_ n1_ n2_ n3_ n4_ n5_ n6_ ⊢
                          have BK1831 := n0_
                          have BK1832 := n1_
                          have BK1837 := n2_
                          have BK2354 := n3_
                          have BK2594 := n4_
                          have BK2598 := n5_
                          have HB := n6_
                          clear n0_ n1_ n2_ n3_ n4_ n5_ n6_
                          have n0_ := Aside0.mk (blk_drew BK1831.out)
                          have n1_ := Aside0.mk (blk_drew BK1832.out)
                          have n2_ := Aside0.mk (blk_drew BK1837.out)
                          have n3_ := Aside0.mk (blk_drew BK2354.out)
                          have n4_ := Aside0.mk (blk_drew BK2594.out)
                          have n5_ := Aside0.mk (blk_drew BK2598.out)
                          have n6_ := Aside0.mk (below_drew1 HB.out)
                          clear BK1831
                          clear BK1832
                          clear BK1837
                          clear BK2354
                          clear BK2594
                          clear BK2598
                          clear HB
                          have BK1831 := n0_
                          have BK1832 := n1_
                          have BK1837 := n2_
                          have BK2354 := n3_
                          have BK2594 := n4_
                          have BK2598 := n5_
                          have HB := n6_
                          clear n0_ n1_ n2_ n3_ n4_ n5_ n6_
                          refine start_ (n := 10) (S := fun w' => w'.cell? ⟨gb2598, 0, none⟩ = some (.int .u64 t2595) ∧ w'.cell? ⟨gb2598, 1, none⟩ = some (.int .u64 t2596)) (ds := []) #[false, false, false, false, false, false, false, false, false, false] (by kernel_rfl) rfl rfl ⟨(blk_cell BK2598.out 0).trans rfl, (blk_cell BK2598.out 1).trans rfl⟩ (fun hHeld => ?_); refine with_tabW demurragelaw01_WideBack.tab16 demurragelaw01_WideBack.bits16 (fun HT_ HW_ => ?_)
                          generalize w104.drew = w105 at BK1831 BK1832 BK1837 BK2354 BK2594 BK2598 HB hHeld ⊢
                          refine pure_ (i := 1) (N := some 105) (v := ?_) (a' := ?_) #[false, true, false, false, false, false, false, false, false, false] rfl rfl (any_of HT_.out (by kernel_rfl)) (fun _ _ _ h => h) (Or.inl ⟨by rfl, ?_⟩) ?_ ?_
                          rotate_left
                          · intro w'
                            go_simp
                            with_reducible rfl
                          rotate_left
                          · simp only [Act.put, List.setIfInBounds_toArray, List.set_cons_zero, List.set_cons_succ, i64_w, i32_w]
                            rfl
                          refine take_ (i := 0) (N := some 104) (v := ?_) (a' := ?_) #[true, true, false, false, false, false, false, false, false, false] rfl rfl (take_ofW HT_.out HW_.out (by kernel_rfl)) (fun _ _ _ h => h) (Or.inl ⟨by rfl, ?_⟩) hHeld ?_ ?_
                          rotate_left
                          · rintro w' ⟨s0, s1⟩
                            go_simp
                            with_reducible rfl
                          rotate_left
                          · simp only [Act.put, List.setIfInBounds_toArray, List.set_cons_zero, List.set_cons_succ, i64_w, i32_w]
                            rfl
                          refine join_ (σ := Nat) 2 #[true, true, true, true, true, true, true, true, false, false] (fun s_ => [(106, .agg #[.int .u64 t2599, .int .u64 t2600]), (107, .tuple #[.agg #[.int .u64 t2601, .int .u64 t2602], .int .i64 t2603]), (22, .pointer (some ⟨s_, 0, none⟩)), (103, .tuple #[.agg #[.int .u64 t2601, .int .u64 t2602], .int .i64 t2603]), (108, .agg #[.int .u64 t2601, .int .u64 t2602]), (109, .int .i64 t2603)]) (fun s_ w' => (w'.cell? ⟨gb2598, 0, none⟩ = some (.int .u64 t2595) ∧ w'.cell? ⟨gb2598, 1, none⟩ = some (.int .u64 t2596)) ∧ (w'.heap[gb1831]? = some (.cells #[.int .u64 a0_0, .int .u64 a0_1] 24 (0, 0))) ∧ (w'.heap[gb1832]? = some (.cells #[.int .u64 a1_0, .int .u64 a1_1] 24 (0, 0))) ∧ (w'.heap[gb1837]? = some (.cells #[.int .u64 t1834, .int .u64 t1835] 24 (0, 0))) ∧ (w'.heap[gb2354]? = some (.cells #[.int .u64 t2351, .int .u64 t2352] 24 (0, 0))) ∧ (w'.heap[gb2594]? = some (.cells #[.int .u64 t2590, .int .u64 t2591] 24 (0, 0))) ∧ (w'.heap[gb2598]? = some (.cells #[.int .u64 t2595, .int .u64 t2596] 24 (0, 0))) ∧ (w'.heap[s_]? = some (.cells #[.int .u64 0, .int .u64 0] 24 (0, 0))) ∧ (w.heap.size ≤ s_) ∧ (w.heap.size ≤ s_) ∧ (gb1831 ≠ s_) ∧ (s_ ≠ gb1831) ∧ (gb1832 ≠ s_) ∧ (s_ ≠ gb1832) ∧ (gb1837 ≠ s_) ∧ (s_ ≠ gb1837) ∧ (gb2354 ≠ s_) ∧ (s_ ≠ gb2354) ∧ (gb2594 ≠ s_) ∧ (s_ ≠ gb2594) ∧ (gb2598 ≠ s_) ∧ (s_ ≠ gb2598) ∧ (Below w.heap.size w w')) ?_ ?_
                          rotate_left
                          · intro hCont
                            refine two_ (i := 2) (j := 7) (Ni := some 106) (Nj := some 22) #[true, true, true, false, false, false, false, false, false, false] #[true, true, false, false, false, false, false, true, false, false] rfl rfl rfl rfl (two_of HT_.out (by kernel_rfl)) (by decide) (by decide) (fun K hK => ?_) (fun K hK => ?_)
                            · skip
                              refine goes_ Try.func33 (by kernel_rfl) rfl #[.int .u64 t2592] (by rfl) rfl rfl (by (try simp only [List.map_toArray, List.map_cons, List.map_nil]); first | done | rfl | (simp only [List.length_drop, List.length_take]; rfl)) ?_
                              with_reducible refine (wide_Of.calls t2592 t2599 t2600 _ A78.out).mono ?_
                              rintro e w106 ⟨rfl, hb⟩
                              refine ⟨_, rfl, ?_⟩
                              have n0_ := Aside0.mk (blk_below (g := gb1831) (o := .cells #[.int .u64 a0_0, .int .u64 a0_1] 24 (0, 0)) (by (with_reducible repeat (first | refine blk_drewN ?_ _ | refine blk_drew ?_ | refine blk_alloc ?_ _)); exact BK1831.out) hb)
                              have n1_ := Aside0.mk (blk_below (g := gb1832) (o := .cells #[.int .u64 a1_0, .int .u64 a1_1] 24 (0, 0)) (by (with_reducible repeat (first | refine blk_drewN ?_ _ | refine blk_drew ?_ | refine blk_alloc ?_ _)); exact BK1832.out) hb)
                              have n2_ := Aside0.mk (blk_below (g := gb1837) (o := .cells #[.int .u64 t1834, .int .u64 t1835] 24 (0, 0)) (by (with_reducible repeat (first | refine blk_drewN ?_ _ | refine blk_drew ?_ | refine blk_alloc ?_ _)); exact BK1837.out) hb)
                              have n3_ := Aside0.mk (blk_below (g := gb2354) (o := .cells #[.int .u64 t2351, .int .u64 t2352] 24 (0, 0)) (by (with_reducible repeat (first | refine blk_drewN ?_ _ | refine blk_drew ?_ | refine blk_alloc ?_ _)); exact BK2354.out) hb)
                              have n4_ := Aside0.mk (blk_below (g := gb2594) (o := .cells #[.int .u64 t2590, .int .u64 t2591] 24 (0, 0)) (by (with_reducible repeat (first | refine blk_drewN ?_ _ | refine blk_drew ?_ | refine blk_alloc ?_ _)); exact BK2594.out) hb)
                              have n5_ := Aside0.mk (blk_below (g := gb2598) (o := .cells #[.int .u64 t2595, .int .u64 t2596] 24 (0, 0)) (by (with_reducible repeat (first | refine blk_drewN ?_ _ | refine blk_drew ?_ | refine blk_alloc ?_ _)); exact BK2598.out) hb)
                              have n6_ := Aside0.mk (below_step (by repeat (first | (with_reducible first | exact HB.out | apply below_alloc | apply pw_below_drewN | apply below_drew1 | refine below_set ?_ GE1831.out | refine below_set ?_ GE1832.out | refine below_set ?_ GE1837.out | refine below_set ?_ GE2354.out | refine below_set ?_ GE2594.out | refine below_set ?_ GE2598.out) | exact HB.out)) hb)
                              clear BK1831
                              clear BK1832
                              clear BK1837
                              clear BK2354
                              clear BK2594
                              clear BK2598
                              clear HB
                              have BK1831 := n0_
                              have BK1832 := n1_
                              have BK1837 := n2_
                              have BK2354 := n3_
                              have BK2594 := n4_
                              have BK2598 := n5_
                              have HB := n6_
                              clear n0_ n1_ n2_ n3_ n4_ n5_ n6_
                              (try clear hb)
                              (try clear hb2)
                              (try clear hk)
                              (try clear hi)
                              refine hK.out _ _ ⟨(blk_cell BK2598.out 0).trans rfl, (blk_cell BK2598.out 1).trans rfl⟩ (fun hHeld => ?_)
                              clear hK K
                              refine norm_ (a' := ?_) ?_ ?_
                              rotate_left
                              · show Act.put _ (some 106) _ = _
                                simp only [Act.put, List.setIfInBounds_toArray, List.set_cons_zero, List.set_cons_succ, i64_w, i32_w]
                                rfl
                              refine two_ (i := 3) (j := 7) (Ni := some 107) (Nj := some 22) #[true, true, true, true, false, false, false, false, false, false] #[true, true, true, false, false, false, false, true, false, false] rfl rfl rfl rfl (two_of HT_.out (by kernel_rfl)) (by decide) (by decide) (fun K hK => ?_) (fun K hK => ?_)
                              · skip
                                refine goes_ Try.func27 (by kernel_rfl) rfl #[.agg #[.int .u64 t2595, .int .u64 t2596], .agg #[.int .u64 t2599, .int .u64 t2600]] (by rfl) rfl rfl (by (try simp only [List.map_toArray, List.map_cons, List.map_nil]); first | done | rfl | (simp only [List.length_drop, List.length_take]; rfl)) ?_
                                with_reducible refine (wide_Add.calls t2595 t2596 t2599 t2600 t2601 t2602 t2603 _ A79.out).mono ?_
                                rintro e w107 ⟨rfl, hb⟩
                                refine ⟨_, rfl, ?_⟩
                                have n0_ := Aside0.mk (blk_below (g := gb1831) (o := .cells #[.int .u64 a0_0, .int .u64 a0_1] 24 (0, 0)) (by (with_reducible repeat (first | refine blk_drewN ?_ _ | refine blk_drew ?_ | refine blk_alloc ?_ _)); exact BK1831.out) hb)
                                have n1_ := Aside0.mk (blk_below (g := gb1832) (o := .cells #[.int .u64 a1_0, .int .u64 a1_1] 24 (0, 0)) (by (with_reducible repeat (first | refine blk_drewN ?_ _ | refine blk_drew ?_ | refine blk_alloc ?_ _)); exact BK1832.out) hb)
                                have n2_ := Aside0.mk (blk_below (g := gb1837) (o := .cells #[.int .u64 t1834, .int .u64 t1835] 24 (0, 0)) (by (with_reducible repeat (first | refine blk_drewN ?_ _ | refine blk_drew ?_ | refine blk_alloc ?_ _)); exact BK1837.out) hb)
                                have n3_ := Aside0.mk (blk_below (g := gb2354) (o := .cells #[.int .u64 t2351, .int .u64 t2352] 24 (0, 0)) (by (with_reducible repeat (first | refine blk_drewN ?_ _ | refine blk_drew ?_ | refine blk_alloc ?_ _)); exact BK2354.out) hb)
                                have n4_ := Aside0.mk (blk_below (g := gb2594) (o := .cells #[.int .u64 t2590, .int .u64 t2591] 24 (0, 0)) (by (with_reducible repeat (first | refine blk_drewN ?_ _ | refine blk_drew ?_ | refine blk_alloc ?_ _)); exact BK2594.out) hb)
                                have n5_ := Aside0.mk (blk_below (g := gb2598) (o := .cells #[.int .u64 t2595, .int .u64 t2596] 24 (0, 0)) (by (with_reducible repeat (first | refine blk_drewN ?_ _ | refine blk_drew ?_ | refine blk_alloc ?_ _)); exact BK2598.out) hb)
                                have n6_ := Aside0.mk (below_step (by repeat (first | (with_reducible first | exact HB.out | apply below_alloc | apply pw_below_drewN | apply below_drew1 | refine below_set ?_ GE1831.out | refine below_set ?_ GE1832.out | refine below_set ?_ GE1837.out | refine below_set ?_ GE2354.out | refine below_set ?_ GE2594.out | refine below_set ?_ GE2598.out) | exact HB.out)) hb)
                                clear BK1831
                                clear BK1832
                                clear BK1837
                                clear BK2354
                                clear BK2594
                                clear BK2598
                                clear HB
                                have BK1831 := n0_
                                have BK1832 := n1_
                                have BK1837 := n2_
                                have BK2354 := n3_
                                have BK2594 := n4_
                                have BK2598 := n5_
                                have HB := n6_
                                clear n0_ n1_ n2_ n3_ n4_ n5_ n6_
                                (try clear hb)
                                (try clear hb2)
                                (try clear hk)
                                (try clear hi)
                                refine hK.out _ _ ⟨(blk_cell BK2598.out 0).trans rfl, (blk_cell BK2598.out 1).trans rfl⟩ (fun hHeld => ?_)
                                clear hK K
                                refine norm_ (a' := ?_) ?_ ?_
                                rotate_left
                                · show Act.put _ (some 107) _ = _
                                  simp only [Act.put, List.setIfInBounds_toArray, List.set_cons_zero, List.set_cons_succ, i64_w, i32_w]
                                  rfl
                                refine pure_ (i := 4) (N := some 103) (v := ?_) (a' := ?_) #[true, true, true, true, true, false, false, false, false, false] rfl rfl (any_of HT_.out (by kernel_rfl)) (fun _ _ _ h => h) (Or.inl ⟨by rfl, ?_⟩) ?_ ?_
                                rotate_left
                                · intro w'
                                  go_simp
                                  with_reducible rfl
                                rotate_left
                                · simp only [Act.put, List.setIfInBounds_toArray, List.set_cons_zero, List.set_cons_succ, i64_w, i32_w]
                                  rfl
                                refine pure_ (i := 5) (N := some 108) (v := ?_) (a' := ?_) #[true, true, true, true, true, true, false, false, false, false] rfl rfl (any_of HT_.out (by kernel_rfl)) (fun _ _ _ h => h) (Or.inl ⟨by rfl, ?_⟩) ?_ ?_
                                rotate_left
                                · intro w'
                                  go_simp
                                  with_reducible rfl
                                rotate_left
                                · simp only [Act.put, List.setIfInBounds_toArray, List.set_cons_zero, List.set_cons_succ, i64_w, i32_w]
                                  rfl
                                refine pure_ (i := 6) (N := some 109) (v := ?_) (a' := ?_) #[true, true, true, true, true, true, true, false, false, false] rfl rfl (any_of HT_.out (by kernel_rfl)) (fun _ _ _ h => h) (Or.inl ⟨by rfl, ?_⟩) ?_ ?_
                                rotate_left
                                · intro w'
                                  go_simp
                                  with_reducible rfl
                                rotate_left
                                · simp only [Act.put, List.setIfInBounds_toArray, List.set_cons_zero, List.set_cons_succ, i64_w, i32_w]
                                  rfl
                                refine one_ (i := 7) (N := some 22) #[true, true, true, true, true, true, true, true, false, false] rfl rfl (one_of HT_.out (by kernel_rfl)) (by decide) (fun K hK => ?_)
                                refine box_step ?hg (N := 22) ?hd (cs := #[.int .u64 0, .int .u64 0]) (t := 24) ?hr ?_; (case hd => rfl); (case hg => rfl); (case hr => first | (go_simp; done) | (go_simp; rfl))
                                intro gb2604 hg w108 hbox hb
                                have n0_ := Aside0.mk (blk_below (g := gb1831) (o := .cells #[.int .u64 a0_0, .int .u64 a0_1] 24 (0, 0)) (by (with_reducible repeat (first | refine blk_drewN ?_ _ | refine blk_drew ?_ | refine blk_alloc ?_ _)); exact BK1831.out) hb)
                                have n1_ := Aside0.mk (blk_below (g := gb1832) (o := .cells #[.int .u64 a1_0, .int .u64 a1_1] 24 (0, 0)) (by (with_reducible repeat (first | refine blk_drewN ?_ _ | refine blk_drew ?_ | refine blk_alloc ?_ _)); exact BK1832.out) hb)
                                have n2_ := Aside0.mk (blk_below (g := gb1837) (o := .cells #[.int .u64 t1834, .int .u64 t1835] 24 (0, 0)) (by (with_reducible repeat (first | refine blk_drewN ?_ _ | refine blk_drew ?_ | refine blk_alloc ?_ _)); exact BK1837.out) hb)
                                have n3_ := Aside0.mk (blk_below (g := gb2354) (o := .cells #[.int .u64 t2351, .int .u64 t2352] 24 (0, 0)) (by (with_reducible repeat (first | refine blk_drewN ?_ _ | refine blk_drew ?_ | refine blk_alloc ?_ _)); exact BK2354.out) hb)
                                have n4_ := Aside0.mk (blk_below (g := gb2594) (o := .cells #[.int .u64 t2590, .int .u64 t2591] 24 (0, 0)) (by (with_reducible repeat (first | refine blk_drewN ?_ _ | refine blk_drew ?_ | refine blk_alloc ?_ _)); exact BK2594.out) hb)
                                have n5_ := Aside0.mk (blk_below (g := gb2598) (o := .cells #[.int .u64 t2595, .int .u64 t2596] 24 (0, 0)) (by (with_reducible repeat (first | refine blk_drewN ?_ _ | refine blk_drew ?_ | refine blk_alloc ?_ _)); exact BK2598.out) hb)
                                have n6_ := Aside0.mk (below_step (by repeat (first | (with_reducible first | exact HB.out | apply below_alloc | apply pw_below_drewN | apply below_drew1 | refine below_set ?_ GE1831.out | refine below_set ?_ GE1832.out | refine below_set ?_ GE1837.out | refine below_set ?_ GE2354.out | refine below_set ?_ GE2594.out | refine below_set ?_ GE2598.out) | exact HB.out)) hb)
                                have n7_ := Aside0.mk (hbox)
                                have n8_ := Aside0.mk ((by rw [hg]; exact (below_size (by repeat (first | (with_reducible first | exact HB.out | apply below_alloc | apply pw_below_drewN | apply below_drew1 | refine below_set ?_ GE1831.out | refine below_set ?_ GE1832.out | refine below_set ?_ GE1837.out | refine below_set ?_ GE2354.out | refine below_set ?_ GE2594.out | refine below_set ?_ GE2598.out) | exact HB.out))) : w.heap.size ≤ gb2604))
                                have n9_ := Aside0.mk ((by rw [hg]; exact (below_size (by repeat (first | (with_reducible first | exact HB.out | apply below_alloc | apply pw_below_drewN | apply below_drew1 | refine below_set ?_ GE1831.out | refine below_set ?_ GE1832.out | refine below_set ?_ GE1837.out | refine below_set ?_ GE2354.out | refine below_set ?_ GE2594.out | refine below_set ?_ GE2598.out) | exact HB.out))) : w.heap.size ≤ gb2604))
                                have n10_ := Aside0.mk ((by rw [hg]; exact Nat.ne_of_lt (blk_lt (g := gb1831) (o := .cells #[.int .u64 a0_0, .int .u64 a0_1] 24 (0, 0)) (by (with_reducible repeat (first | refine blk_drewN ?_ _ | refine blk_drew ?_ | refine blk_alloc ?_ _)); exact BK1831.out)) : gb1831 ≠ gb2604))
                                have n11_ := Aside0.mk ((by rw [hg]; exact Nat.ne_of_gt (blk_lt (g := gb1831) (o := .cells #[.int .u64 a0_0, .int .u64 a0_1] 24 (0, 0)) (by (with_reducible repeat (first | refine blk_drewN ?_ _ | refine blk_drew ?_ | refine blk_alloc ?_ _)); exact BK1831.out)) : gb2604 ≠ gb1831))
                                have n12_ := Aside0.mk ((by rw [hg]; exact Nat.ne_of_lt (blk_lt (g := gb1832) (o := .cells #[.int .u64 a1_0, .int .u64 a1_1] 24 (0, 0)) (by (with_reducible repeat (first | refine blk_drewN ?_ _ | refine blk_drew ?_ | refine blk_alloc ?_ _)); exact BK1832.out)) : gb1832 ≠ gb2604))
                                have n13_ := Aside0.mk ((by rw [hg]; exact Nat.ne_of_gt (blk_lt (g := gb1832) (o := .cells #[.int .u64 a1_0, .int .u64 a1_1] 24 (0, 0)) (by (with_reducible repeat (first | refine blk_drewN ?_ _ | refine blk_drew ?_ | refine blk_alloc ?_ _)); exact BK1832.out)) : gb2604 ≠ gb1832))
                                have n14_ := Aside0.mk ((by rw [hg]; exact Nat.ne_of_lt (blk_lt (g := gb1837) (o := .cells #[.int .u64 t1834, .int .u64 t1835] 24 (0, 0)) (by (with_reducible repeat (first | refine blk_drewN ?_ _ | refine blk_drew ?_ | refine blk_alloc ?_ _)); exact BK1837.out)) : gb1837 ≠ gb2604))
                                have n15_ := Aside0.mk ((by rw [hg]; exact Nat.ne_of_gt (blk_lt (g := gb1837) (o := .cells #[.int .u64 t1834, .int .u64 t1835] 24 (0, 0)) (by (with_reducible repeat (first | refine blk_drewN ?_ _ | refine blk_drew ?_ | refine blk_alloc ?_ _)); exact BK1837.out)) : gb2604 ≠ gb1837))
                                have n16_ := Aside0.mk ((by rw [hg]; exact Nat.ne_of_lt (blk_lt (g := gb2354) (o := .cells #[.int .u64 t2351, .int .u64 t2352] 24 (0, 0)) (by (with_reducible repeat (first | refine blk_drewN ?_ _ | refine blk_drew ?_ | refine blk_alloc ?_ _)); exact BK2354.out)) : gb2354 ≠ gb2604))
                                have n17_ := Aside0.mk ((by rw [hg]; exact Nat.ne_of_gt (blk_lt (g := gb2354) (o := .cells #[.int .u64 t2351, .int .u64 t2352] 24 (0, 0)) (by (with_reducible repeat (first | refine blk_drewN ?_ _ | refine blk_drew ?_ | refine blk_alloc ?_ _)); exact BK2354.out)) : gb2604 ≠ gb2354))
                                have n18_ := Aside0.mk ((by rw [hg]; exact Nat.ne_of_lt (blk_lt (g := gb2594) (o := .cells #[.int .u64 t2590, .int .u64 t2591] 24 (0, 0)) (by (with_reducible repeat (first | refine blk_drewN ?_ _ | refine blk_drew ?_ | refine blk_alloc ?_ _)); exact BK2594.out)) : gb2594 ≠ gb2604))
                                have n19_ := Aside0.mk ((by rw [hg]; exact Nat.ne_of_gt (blk_lt (g := gb2594) (o := .cells #[.int .u64 t2590, .int .u64 t2591] 24 (0, 0)) (by (with_reducible repeat (first | refine blk_drewN ?_ _ | refine blk_drew ?_ | refine blk_alloc ?_ _)); exact BK2594.out)) : gb2604 ≠ gb2594))
                                have n20_ := Aside0.mk ((by rw [hg]; exact Nat.ne_of_lt (blk_lt (g := gb2598) (o := .cells #[.int .u64 t2595, .int .u64 t2596] 24 (0, 0)) (by (with_reducible repeat (first | refine blk_drewN ?_ _ | refine blk_drew ?_ | refine blk_alloc ?_ _)); exact BK2598.out)) : gb2598 ≠ gb2604))
                                have n21_ := Aside0.mk ((by rw [hg]; exact Nat.ne_of_gt (blk_lt (g := gb2598) (o := .cells #[.int .u64 t2595, .int .u64 t2596] 24 (0, 0)) (by (with_reducible repeat (first | refine blk_drewN ?_ _ | refine blk_drew ?_ | refine blk_alloc ?_ _)); exact BK2598.out)) : gb2604 ≠ gb2598))
                                clear BK1831
                                clear BK1832
                                clear BK1837
                                clear BK2354
                                clear BK2594
                                clear BK2598
                                clear HB
                                have BK1831 := n0_
                                have BK1832 := n1_
                                have BK1837 := n2_
                                have BK2354 := n3_
                                have BK2594 := n4_
                                have BK2598 := n5_
                                have HB := n6_
                                have BK2604 := n7_
                                have GW2604 := n8_
                                have GE2604 := n9_
                                have NB1831_2604 := n10_
                                have NB2604_1831 := n11_
                                have NB1832_2604 := n12_
                                have NB2604_1832 := n13_
                                have NB1837_2604 := n14_
                                have NB2604_1837 := n15_
                                have NB2354_2604 := n16_
                                have NB2604_2354 := n17_
                                have NB2594_2604 := n18_
                                have NB2604_2594 := n19_
                                have NB2598_2604 := n20_
                                have NB2604_2598 := n21_
                                clear n0_ n1_ n2_ n3_ n4_ n5_ n6_ n7_ n8_ n9_ n10_ n11_ n12_ n13_ n14_ n15_ n16_ n17_ n18_ n19_ n20_ n21_
                                clear hb hbox hg
                                refine hK.out _ _ ⟨(blk_cell BK2598.out 0).trans rfl, (blk_cell BK2598.out 1).trans rfl⟩ (fun hHeld => ?_)
                                clear hK K
                                refine norm_ (a' := ?_) ?_ ?_
                                rotate_left
                                · show Act.put _ (some 22) _ = _
                                  simp only [Act.put, List.setIfInBounds_toArray, List.set_cons_zero, List.set_cons_succ, i64_w, i32_w]
                                  rfl
                                exact norm_ (by simp only [putAll, Act.put, List.setIfInBounds_toArray, List.set_cons_zero, List.set_cons_succ]) (hCont (gb2604) _ ⟨hHeld, (by (with_reducible repeat (first | refine blk_drewN ?_ _ | refine blk_drew ?_ | refine blk_alloc ?_ _)); exact BK1831.out), (by (with_reducible repeat (first | refine blk_drewN ?_ _ | refine blk_drew ?_ | refine blk_alloc ?_ _)); exact BK1832.out), (by (with_reducible repeat (first | refine blk_drewN ?_ _ | refine blk_drew ?_ | refine blk_alloc ?_ _)); exact BK1837.out), (by (with_reducible repeat (first | refine blk_drewN ?_ _ | refine blk_drew ?_ | refine blk_alloc ?_ _)); exact BK2354.out), (by (with_reducible repeat (first | refine blk_drewN ?_ _ | refine blk_drew ?_ | refine blk_alloc ?_ _)); exact BK2594.out), (by (with_reducible repeat (first | refine blk_drewN ?_ _ | refine blk_drew ?_ | refine blk_alloc ?_ _)); exact BK2598.out), (by (with_reducible repeat (first | refine blk_drewN ?_ _ | refine blk_drew ?_ | refine blk_alloc ?_ _)); exact BK2604.out), GW2604.out, GE2604.out, NB1831_2604.out, NB2604_1831.out, NB1832_2604.out, NB2604_1832.out, NB1837_2604.out, NB2604_1837.out, NB2354_2604.out, NB2604_2354.out, NB2594_2604.out, NB2604_2594.out, NB2598_2604.out, NB2604_2598.out, (by repeat (first | (with_reducible first | exact HB.out | apply below_alloc | apply pw_below_drewN | apply below_drew1 | refine below_set ?_ GE1831.out | refine below_set ?_ GE1832.out | refine below_set ?_ GE1837.out | refine below_set ?_ GE2354.out | refine below_set ?_ GE2594.out | refine below_set ?_ GE2598.out | refine below_set ?_ GE2604.out) | exact HB.out))⟩)
                              · skip
                                refine box_step ?hg (N := 22) ?hd (cs := #[.int .u64 0, .int .u64 0]) (t := 24) ?hr ?_; (case hd => rfl); (case hg => rfl); (case hr => first | (go_simp; done) | (go_simp; rfl))
                                intro gb2604 hg w107 hbox hb
                                have n0_ := Aside0.mk (blk_below (g := gb1831) (o := .cells #[.int .u64 a0_0, .int .u64 a0_1] 24 (0, 0)) (by (with_reducible repeat (first | refine blk_drewN ?_ _ | refine blk_drew ?_ | refine blk_alloc ?_ _)); exact BK1831.out) hb)
                                have n1_ := Aside0.mk (blk_below (g := gb1832) (o := .cells #[.int .u64 a1_0, .int .u64 a1_1] 24 (0, 0)) (by (with_reducible repeat (first | refine blk_drewN ?_ _ | refine blk_drew ?_ | refine blk_alloc ?_ _)); exact BK1832.out) hb)
                                have n2_ := Aside0.mk (blk_below (g := gb1837) (o := .cells #[.int .u64 t1834, .int .u64 t1835] 24 (0, 0)) (by (with_reducible repeat (first | refine blk_drewN ?_ _ | refine blk_drew ?_ | refine blk_alloc ?_ _)); exact BK1837.out) hb)
                                have n3_ := Aside0.mk (blk_below (g := gb2354) (o := .cells #[.int .u64 t2351, .int .u64 t2352] 24 (0, 0)) (by (with_reducible repeat (first | refine blk_drewN ?_ _ | refine blk_drew ?_ | refine blk_alloc ?_ _)); exact BK2354.out) hb)
                                have n4_ := Aside0.mk (blk_below (g := gb2594) (o := .cells #[.int .u64 t2590, .int .u64 t2591] 24 (0, 0)) (by (with_reducible repeat (first | refine blk_drewN ?_ _ | refine blk_drew ?_ | refine blk_alloc ?_ _)); exact BK2594.out) hb)
                                have n5_ := Aside0.mk (blk_below (g := gb2598) (o := .cells #[.int .u64 t2595, .int .u64 t2596] 24 (0, 0)) (by (with_reducible repeat (first | refine blk_drewN ?_ _ | refine blk_drew ?_ | refine blk_alloc ?_ _)); exact BK2598.out) hb)
                                have n6_ := Aside0.mk (below_step (by repeat (first | (with_reducible first | exact HB.out | apply below_alloc | apply pw_below_drewN | apply below_drew1 | refine below_set ?_ GE1831.out | refine below_set ?_ GE1832.out | refine below_set ?_ GE1837.out | refine below_set ?_ GE2354.out | refine below_set ?_ GE2594.out | refine below_set ?_ GE2598.out) | exact HB.out)) hb)
                                have n7_ := Aside0.mk (hbox)
                                have n8_ := Aside0.mk ((by rw [hg]; exact (below_size (by repeat (first | (with_reducible first | exact HB.out | apply below_alloc | apply pw_below_drewN | apply below_drew1 | refine below_set ?_ GE1831.out | refine below_set ?_ GE1832.out | refine below_set ?_ GE1837.out | refine below_set ?_ GE2354.out | refine below_set ?_ GE2594.out | refine below_set ?_ GE2598.out) | exact HB.out))) : w.heap.size ≤ gb2604))
                                have n9_ := Aside0.mk ((by rw [hg]; exact (below_size (by repeat (first | (with_reducible first | exact HB.out | apply below_alloc | apply pw_below_drewN | apply below_drew1 | refine below_set ?_ GE1831.out | refine below_set ?_ GE1832.out | refine below_set ?_ GE1837.out | refine below_set ?_ GE2354.out | refine below_set ?_ GE2594.out | refine below_set ?_ GE2598.out) | exact HB.out))) : w.heap.size ≤ gb2604))
                                have n10_ := Aside0.mk ((by rw [hg]; exact Nat.ne_of_lt (blk_lt (g := gb1831) (o := .cells #[.int .u64 a0_0, .int .u64 a0_1] 24 (0, 0)) (by (with_reducible repeat (first | refine blk_drewN ?_ _ | refine blk_drew ?_ | refine blk_alloc ?_ _)); exact BK1831.out)) : gb1831 ≠ gb2604))
                                have n11_ := Aside0.mk ((by rw [hg]; exact Nat.ne_of_gt (blk_lt (g := gb1831) (o := .cells #[.int .u64 a0_0, .int .u64 a0_1] 24 (0, 0)) (by (with_reducible repeat (first | refine blk_drewN ?_ _ | refine blk_drew ?_ | refine blk_alloc ?_ _)); exact BK1831.out)) : gb2604 ≠ gb1831))
                                have n12_ := Aside0.mk ((by rw [hg]; exact Nat.ne_of_lt (blk_lt (g := gb1832) (o := .cells #[.int .u64 a1_0, .int .u64 a1_1] 24 (0, 0)) (by (with_reducible repeat (first | refine blk_drewN ?_ _ | refine blk_drew ?_ | refine blk_alloc ?_ _)); exact BK1832.out)) : gb1832 ≠ gb2604))
                                have n13_ := Aside0.mk ((by rw [hg]; exact Nat.ne_of_gt (blk_lt (g := gb1832) (o := .cells #[.int .u64 a1_0, .int .u64 a1_1] 24 (0, 0)) (by (with_reducible repeat (first | refine blk_drewN ?_ _ | refine blk_drew ?_ | refine blk_alloc ?_ _)); exact BK1832.out)) : gb2604 ≠ gb1832))
                                have n14_ := Aside0.mk ((by rw [hg]; exact Nat.ne_of_lt (blk_lt (g := gb1837) (o := .cells #[.int .u64 t1834, .int .u64 t1835] 24 (0, 0)) (by (with_reducible repeat (first | refine blk_drewN ?_ _ | refine blk_drew ?_ | refine blk_alloc ?_ _)); exact BK1837.out)) : gb1837 ≠ gb2604))
                                have n15_ := Aside0.mk ((by rw [hg]; exact Nat.ne_of_gt (blk_lt (g := gb1837) (o := .cells #[.int .u64 t1834, .int .u64 t1835] 24 (0, 0)) (by (with_reducible repeat (first | refine blk_drewN ?_ _ | refine blk_drew ?_ | refine blk_alloc ?_ _)); exact BK1837.out)) : gb2604 ≠ gb1837))
                                have n16_ := Aside0.mk ((by rw [hg]; exact Nat.ne_of_lt (blk_lt (g := gb2354) (o := .cells #[.int .u64 t2351, .int .u64 t2352] 24 (0, 0)) (by (with_reducible repeat (first | refine blk_drewN ?_ _ | refine blk_drew ?_ | refine blk_alloc ?_ _)); exact BK2354.out)) : gb2354 ≠ gb2604))
                                have n17_ := Aside0.mk ((by rw [hg]; exact Nat.ne_of_gt (blk_lt (g := gb2354) (o := .cells #[.int .u64 t2351, .int .u64 t2352] 24 (0, 0)) (by (with_reducible repeat (first | refine blk_drewN ?_ _ | refine blk_drew ?_ | refine blk_alloc ?_ _)); exact BK2354.out)) : gb2604 ≠ gb2354))
                                have n18_ := Aside0.mk ((by rw [hg]; exact Nat.ne_of_lt (blk_lt (g := gb2594) (o := .cells #[.int .u64 t2590, .int .u64 t2591] 24 (0, 0)) (by (with_reducible repeat (first | refine blk_drewN ?_ _ | refine blk_drew ?_ | refine blk_alloc ?_ _)); exact BK2594.out)) : gb2594 ≠ gb2604))
                                have n19_ := Aside0.mk ((by rw [hg]; exact Nat.ne_of_gt (blk_lt (g := gb2594) (o := .cells #[.int .u64 t2590, .int .u64 t2591] 24 (0, 0)) (by (with_reducible repeat (first | refine blk_drewN ?_ _ | refine blk_drew ?_ | refine blk_alloc ?_ _)); exact BK2594.out)) : gb2604 ≠ gb2594))
                                have n20_ := Aside0.mk ((by rw [hg]; exact Nat.ne_of_lt (blk_lt (g := gb2598) (o := .cells #[.int .u64 t2595, .int .u64 t2596] 24 (0, 0)) (by (with_reducible repeat (first | refine blk_drewN ?_ _ | refine blk_drew ?_ | refine blk_alloc ?_ _)); exact BK2598.out)) : gb2598 ≠ gb2604))
                                have n21_ := Aside0.mk ((by rw [hg]; exact Nat.ne_of_gt (blk_lt (g := gb2598) (o := .cells #[.int .u64 t2595, .int .u64 t2596] 24 (0, 0)) (by (with_reducible repeat (first | refine blk_drewN ?_ _ | refine blk_drew ?_ | refine blk_alloc ?_ _)); exact BK2598.out)) : gb2604 ≠ gb2598))
                                clear BK1831
                                clear BK1832
                                clear BK1837
                                clear BK2354
                                clear BK2594
                                clear BK2598
                                clear HB
                                have BK1831 := n0_
                                have BK1832 := n1_
                                have BK1837 := n2_
                                have BK2354 := n3_
                                have BK2594 := n4_
                                have BK2598 := n5_
                                have HB := n6_
                                have BK2604 := n7_
                                have GW2604 := n8_
                                have GE2604 := n9_
                                have NB1831_2604 := n10_
                                have NB2604_1831 := n11_
                                have NB1832_2604 := n12_
                                have NB2604_1832 := n13_
                                have NB1837_2604 := n14_
                                have NB2604_1837 := n15_
                                have NB2354_2604 := n16_
                                have NB2604_2354 := n17_
                                have NB2594_2604 := n18_
                                have NB2604_2594 := n19_
                                have NB2598_2604 := n20_
                                have NB2604_2598 := n21_
                                clear n0_ n1_ n2_ n3_ n4_ n5_ n6_ n7_ n8_ n9_ n10_ n11_ n12_ n13_ n14_ n15_ n16_ n17_ n18_ n19_ n20_ n21_
                                clear hb hbox hg
                                refine hK.out _ _ ⟨(blk_cell BK2598.out 0).trans rfl, (blk_cell BK2598.out 1).trans rfl⟩ (fun hHeld => ?_)
                                clear hK K
                                refine norm_ (a' := ?_) ?_ ?_
                                rotate_left
                                · show Act.put _ (some 22) _ = _
                                  simp only [Act.put, List.setIfInBounds_toArray, List.set_cons_zero, List.set_cons_succ, i64_w, i32_w]
                                  rfl
                                refine one_ (i := 3) (N := some 107) #[true, true, true, true, false, false, false, true, false, false] rfl rfl (one_of HT_.out (by kernel_rfl)) (by decide) (fun K hK => ?_)
                                refine goes_ Try.func27 (by kernel_rfl) rfl #[.agg #[.int .u64 t2595, .int .u64 t2596], .agg #[.int .u64 t2599, .int .u64 t2600]] (by rfl) rfl rfl (by (try simp only [List.map_toArray, List.map_cons, List.map_nil]); first | done | rfl | (simp only [List.length_drop, List.length_take]; rfl)) ?_
                                with_reducible refine (wide_Add.calls t2595 t2596 t2599 t2600 t2601 t2602 t2603 _ A79.out).mono ?_
                                rintro e w108 ⟨rfl, hb⟩
                                refine ⟨_, rfl, ?_⟩
                                have n0_ := Aside0.mk (blk_below (g := gb1831) (o := .cells #[.int .u64 a0_0, .int .u64 a0_1] 24 (0, 0)) (by (with_reducible repeat (first | refine blk_drewN ?_ _ | refine blk_drew ?_ | refine blk_alloc ?_ _)); exact BK1831.out) hb)
                                have n1_ := Aside0.mk (blk_below (g := gb1832) (o := .cells #[.int .u64 a1_0, .int .u64 a1_1] 24 (0, 0)) (by (with_reducible repeat (first | refine blk_drewN ?_ _ | refine blk_drew ?_ | refine blk_alloc ?_ _)); exact BK1832.out) hb)
                                have n2_ := Aside0.mk (blk_below (g := gb1837) (o := .cells #[.int .u64 t1834, .int .u64 t1835] 24 (0, 0)) (by (with_reducible repeat (first | refine blk_drewN ?_ _ | refine blk_drew ?_ | refine blk_alloc ?_ _)); exact BK1837.out) hb)
                                have n3_ := Aside0.mk (blk_below (g := gb2354) (o := .cells #[.int .u64 t2351, .int .u64 t2352] 24 (0, 0)) (by (with_reducible repeat (first | refine blk_drewN ?_ _ | refine blk_drew ?_ | refine blk_alloc ?_ _)); exact BK2354.out) hb)
                                have n4_ := Aside0.mk (blk_below (g := gb2594) (o := .cells #[.int .u64 t2590, .int .u64 t2591] 24 (0, 0)) (by (with_reducible repeat (first | refine blk_drewN ?_ _ | refine blk_drew ?_ | refine blk_alloc ?_ _)); exact BK2594.out) hb)
                                have n5_ := Aside0.mk (blk_below (g := gb2598) (o := .cells #[.int .u64 t2595, .int .u64 t2596] 24 (0, 0)) (by (with_reducible repeat (first | refine blk_drewN ?_ _ | refine blk_drew ?_ | refine blk_alloc ?_ _)); exact BK2598.out) hb)
                                have n6_ := Aside0.mk (blk_below (g := gb2604) (o := .cells #[.int .u64 0, .int .u64 0] 24 (0, 0)) (by (with_reducible repeat (first | refine blk_drewN ?_ _ | refine blk_drew ?_ | refine blk_alloc ?_ _)); exact BK2604.out) hb)
                                have n7_ := Aside0.mk (below_step (by repeat (first | (with_reducible first | exact HB.out | apply below_alloc | apply pw_below_drewN | apply below_drew1 | refine below_set ?_ GE1831.out | refine below_set ?_ GE1832.out | refine below_set ?_ GE1837.out | refine below_set ?_ GE2354.out | refine below_set ?_ GE2594.out | refine below_set ?_ GE2598.out | refine below_set ?_ GE2604.out) | exact HB.out)) hb)
                                clear BK1831
                                clear BK1832
                                clear BK1837
                                clear BK2354
                                clear BK2594
                                clear BK2598
                                clear BK2604
                                clear HB
                                have BK1831 := n0_
                                have BK1832 := n1_
                                have BK1837 := n2_
                                have BK2354 := n3_
                                have BK2594 := n4_
                                have BK2598 := n5_
                                have BK2604 := n6_
                                have HB := n7_
                                clear n0_ n1_ n2_ n3_ n4_ n5_ n6_ n7_
                                (try clear hb)
                                (try clear hb2)
                                (try clear hk)
                                (try clear hi)
                                refine hK.out _ _ ⟨(blk_cell BK2598.out 0).trans rfl, (blk_cell BK2598.out 1).trans rfl⟩ (fun hHeld => ?_)
                                clear hK K
                                refine norm_ (a' := ?_) ?_ ?_
                                rotate_left
                                · show Act.put _ (some 107) _ = _
                                  simp only [Act.put, List.setIfInBounds_toArray, List.set_cons_zero, List.set_cons_succ, i64_w, i32_w]
                                  rfl
                                refine pure_ (i := 4) (N := some 103) (v := ?_) (a' := ?_) #[true, true, true, true, true, false, false, true, false, false] rfl rfl (any_of HT_.out (by kernel_rfl)) (fun _ _ _ h => h) (Or.inl ⟨by rfl, ?_⟩) ?_ ?_
                                rotate_left
                                · intro w'
                                  go_simp
                                  with_reducible rfl
                                rotate_left
                                · simp only [Act.put, List.setIfInBounds_toArray, List.set_cons_zero, List.set_cons_succ, i64_w, i32_w]
                                  rfl
                                refine pure_ (i := 5) (N := some 108) (v := ?_) (a' := ?_) #[true, true, true, true, true, true, false, true, false, false] rfl rfl (any_of HT_.out (by kernel_rfl)) (fun _ _ _ h => h) (Or.inl ⟨by rfl, ?_⟩) ?_ ?_
                                rotate_left
                                · intro w'
                                  go_simp
                                  with_reducible rfl
                                rotate_left
                                · simp only [Act.put, List.setIfInBounds_toArray, List.set_cons_zero, List.set_cons_succ, i64_w, i32_w]
                                  rfl
                                refine pure_ (i := 6) (N := some 109) (v := ?_) (a' := ?_) #[true, true, true, true, true, true, true, true, false, false] rfl rfl (any_of HT_.out (by kernel_rfl)) (fun _ _ _ h => h) (Or.inl ⟨by rfl, ?_⟩) ?_ ?_
                                rotate_left
                                · intro w'
                                  go_simp
                                  with_reducible rfl
                                rotate_left
                                · simp only [Act.put, List.setIfInBounds_toArray, List.set_cons_zero, List.set_cons_succ, i64_w, i32_w]
                                  rfl
                                exact norm_ (by simp only [putAll, Act.put, List.setIfInBounds_toArray, List.set_cons_zero, List.set_cons_succ]) (hCont (gb2604) _ ⟨hHeld, (by (with_reducible repeat (first | refine blk_drewN ?_ _ | refine blk_drew ?_ | refine blk_alloc ?_ _)); exact BK1831.out), (by (with_reducible repeat (first | refine blk_drewN ?_ _ | refine blk_drew ?_ | refine blk_alloc ?_ _)); exact BK1832.out), (by (with_reducible repeat (first | refine blk_drewN ?_ _ | refine blk_drew ?_ | refine blk_alloc ?_ _)); exact BK1837.out), (by (with_reducible repeat (first | refine blk_drewN ?_ _ | refine blk_drew ?_ | refine blk_alloc ?_ _)); exact BK2354.out), (by (with_reducible repeat (first | refine blk_drewN ?_ _ | refine blk_drew ?_ | refine blk_alloc ?_ _)); exact BK2594.out), (by (with_reducible repeat (first | refine blk_drewN ?_ _ | refine blk_drew ?_ | refine blk_alloc ?_ _)); exact BK2598.out), (by (with_reducible repeat (first | refine blk_drewN ?_ _ | refine blk_drew ?_ | refine blk_alloc ?_ _)); exact BK2604.out), GW2604.out, GE2604.out, NB1831_2604.out, NB2604_1831.out, NB1832_2604.out, NB2604_1832.out, NB1837_2604.out, NB2604_1837.out, NB2354_2604.out, NB2604_2354.out, NB2594_2604.out, NB2604_2594.out, NB2598_2604.out, NB2604_2598.out, (by repeat (first | (with_reducible first | exact HB.out | apply below_alloc | apply pw_below_drewN | apply below_drew1 | refine below_set ?_ GE1831.out | refine below_set ?_ GE1832.out | refine below_set ?_ GE1837.out | refine below_set ?_ GE2354.out | refine below_set ?_ GE2594.out | refine below_set ?_ GE2598.out | refine below_set ?_ GE2604.out) | exact HB.out))⟩)
                            · skip
                              refine box_step ?hg (N := 22) ?hd (cs := #[.int .u64 0, .int .u64 0]) (t := 24) ?hr ?_; (case hd => rfl); (case hg => rfl); (case hr => first | (go_simp; done) | (go_simp; rfl))
                              intro gb2604 hg w106 hbox hb
                              have n0_ := Aside0.mk (blk_below (g := gb1831) (o := .cells #[.int .u64 a0_0, .int .u64 a0_1] 24 (0, 0)) (by (with_reducible repeat (first | refine blk_drewN ?_ _ | refine blk_drew ?_ | refine blk_alloc ?_ _)); exact BK1831.out) hb)
                              have n1_ := Aside0.mk (blk_below (g := gb1832) (o := .cells #[.int .u64 a1_0, .int .u64 a1_1] 24 (0, 0)) (by (with_reducible repeat (first | refine blk_drewN ?_ _ | refine blk_drew ?_ | refine blk_alloc ?_ _)); exact BK1832.out) hb)
                              have n2_ := Aside0.mk (blk_below (g := gb1837) (o := .cells #[.int .u64 t1834, .int .u64 t1835] 24 (0, 0)) (by (with_reducible repeat (first | refine blk_drewN ?_ _ | refine blk_drew ?_ | refine blk_alloc ?_ _)); exact BK1837.out) hb)
                              have n3_ := Aside0.mk (blk_below (g := gb2354) (o := .cells #[.int .u64 t2351, .int .u64 t2352] 24 (0, 0)) (by (with_reducible repeat (first | refine blk_drewN ?_ _ | refine blk_drew ?_ | refine blk_alloc ?_ _)); exact BK2354.out) hb)
                              have n4_ := Aside0.mk (blk_below (g := gb2594) (o := .cells #[.int .u64 t2590, .int .u64 t2591] 24 (0, 0)) (by (with_reducible repeat (first | refine blk_drewN ?_ _ | refine blk_drew ?_ | refine blk_alloc ?_ _)); exact BK2594.out) hb)
                              have n5_ := Aside0.mk (blk_below (g := gb2598) (o := .cells #[.int .u64 t2595, .int .u64 t2596] 24 (0, 0)) (by (with_reducible repeat (first | refine blk_drewN ?_ _ | refine blk_drew ?_ | refine blk_alloc ?_ _)); exact BK2598.out) hb)
                              have n6_ := Aside0.mk (below_step (by repeat (first | (with_reducible first | exact HB.out | apply below_alloc | apply pw_below_drewN | apply below_drew1 | refine below_set ?_ GE1831.out | refine below_set ?_ GE1832.out | refine below_set ?_ GE1837.out | refine below_set ?_ GE2354.out | refine below_set ?_ GE2594.out | refine below_set ?_ GE2598.out) | exact HB.out)) hb)
                              have n7_ := Aside0.mk (hbox)
                              have n8_ := Aside0.mk ((by rw [hg]; exact (below_size (by repeat (first | (with_reducible first | exact HB.out | apply below_alloc | apply pw_below_drewN | apply below_drew1 | refine below_set ?_ GE1831.out | refine below_set ?_ GE1832.out | refine below_set ?_ GE1837.out | refine below_set ?_ GE2354.out | refine below_set ?_ GE2594.out | refine below_set ?_ GE2598.out) | exact HB.out))) : w.heap.size ≤ gb2604))
                              have n9_ := Aside0.mk ((by rw [hg]; exact (below_size (by repeat (first | (with_reducible first | exact HB.out | apply below_alloc | apply pw_below_drewN | apply below_drew1 | refine below_set ?_ GE1831.out | refine below_set ?_ GE1832.out | refine below_set ?_ GE1837.out | refine below_set ?_ GE2354.out | refine below_set ?_ GE2594.out | refine below_set ?_ GE2598.out) | exact HB.out))) : w.heap.size ≤ gb2604))
                              have n10_ := Aside0.mk ((by rw [hg]; exact Nat.ne_of_lt (blk_lt (g := gb1831) (o := .cells #[.int .u64 a0_0, .int .u64 a0_1] 24 (0, 0)) (by (with_reducible repeat (first | refine blk_drewN ?_ _ | refine blk_drew ?_ | refine blk_alloc ?_ _)); exact BK1831.out)) : gb1831 ≠ gb2604))
                              have n11_ := Aside0.mk ((by rw [hg]; exact Nat.ne_of_gt (blk_lt (g := gb1831) (o := .cells #[.int .u64 a0_0, .int .u64 a0_1] 24 (0, 0)) (by (with_reducible repeat (first | refine blk_drewN ?_ _ | refine blk_drew ?_ | refine blk_alloc ?_ _)); exact BK1831.out)) : gb2604 ≠ gb1831))
                              have n12_ := Aside0.mk ((by rw [hg]; exact Nat.ne_of_lt (blk_lt (g := gb1832) (o := .cells #[.int .u64 a1_0, .int .u64 a1_1] 24 (0, 0)) (by (with_reducible repeat (first | refine blk_drewN ?_ _ | refine blk_drew ?_ | refine blk_alloc ?_ _)); exact BK1832.out)) : gb1832 ≠ gb2604))
                              have n13_ := Aside0.mk ((by rw [hg]; exact Nat.ne_of_gt (blk_lt (g := gb1832) (o := .cells #[.int .u64 a1_0, .int .u64 a1_1] 24 (0, 0)) (by (with_reducible repeat (first | refine blk_drewN ?_ _ | refine blk_drew ?_ | refine blk_alloc ?_ _)); exact BK1832.out)) : gb2604 ≠ gb1832))
                              have n14_ := Aside0.mk ((by rw [hg]; exact Nat.ne_of_lt (blk_lt (g := gb1837) (o := .cells #[.int .u64 t1834, .int .u64 t1835] 24 (0, 0)) (by (with_reducible repeat (first | refine blk_drewN ?_ _ | refine blk_drew ?_ | refine blk_alloc ?_ _)); exact BK1837.out)) : gb1837 ≠ gb2604))
                              have n15_ := Aside0.mk ((by rw [hg]; exact Nat.ne_of_gt (blk_lt (g := gb1837) (o := .cells #[.int .u64 t1834, .int .u64 t1835] 24 (0, 0)) (by (with_reducible repeat (first | refine blk_drewN ?_ _ | refine blk_drew ?_ | refine blk_alloc ?_ _)); exact BK1837.out)) : gb2604 ≠ gb1837))
                              have n16_ := Aside0.mk ((by rw [hg]; exact Nat.ne_of_lt (blk_lt (g := gb2354) (o := .cells #[.int .u64 t2351, .int .u64 t2352] 24 (0, 0)) (by (with_reducible repeat (first | refine blk_drewN ?_ _ | refine blk_drew ?_ | refine blk_alloc ?_ _)); exact BK2354.out)) : gb2354 ≠ gb2604))
                              have n17_ := Aside0.mk ((by rw [hg]; exact Nat.ne_of_gt (blk_lt (g := gb2354) (o := .cells #[.int .u64 t2351, .int .u64 t2352] 24 (0, 0)) (by (with_reducible repeat (first | refine blk_drewN ?_ _ | refine blk_drew ?_ | refine blk_alloc ?_ _)); exact BK2354.out)) : gb2604 ≠ gb2354))
                              have n18_ := Aside0.mk ((by rw [hg]; exact Nat.ne_of_lt (blk_lt (g := gb2594) (o := .cells #[.int .u64 t2590, .int .u64 t2591] 24 (0, 0)) (by (with_reducible repeat (first | refine blk_drewN ?_ _ | refine blk_drew ?_ | refine blk_alloc ?_ _)); exact BK2594.out)) : gb2594 ≠ gb2604))
                              have n19_ := Aside0.mk ((by rw [hg]; exact Nat.ne_of_gt (blk_lt (g := gb2594) (o := .cells #[.int .u64 t2590, .int .u64 t2591] 24 (0, 0)) (by (with_reducible repeat (first | refine blk_drewN ?_ _ | refine blk_drew ?_ | refine blk_alloc ?_ _)); exact BK2594.out)) : gb2604 ≠ gb2594))
                              have n20_ := Aside0.mk ((by rw [hg]; exact Nat.ne_of_lt (blk_lt (g := gb2598) (o := .cells #[.int .u64 t2595, .int .u64 t2596] 24 (0, 0)) (by (with_reducible repeat (first | refine blk_drewN ?_ _ | refine blk_drew ?_ | refine blk_alloc ?_ _)); exact BK2598.out)) : gb2598 ≠ gb2604))
                              have n21_ := Aside0.mk ((by rw [hg]; exact Nat.ne_of_gt (blk_lt (g := gb2598) (o := .cells #[.int .u64 t2595, .int .u64 t2596] 24 (0, 0)) (by (with_reducible repeat (first | refine blk_drewN ?_ _ | refine blk_drew ?_ | refine blk_alloc ?_ _)); exact BK2598.out)) : gb2604 ≠ gb2598))
                              clear BK1831
                              clear BK1832
                              clear BK1837
                              clear BK2354
                              clear BK2594
                              clear BK2598
                              clear HB
                              have BK1831 := n0_
                              have BK1832 := n1_
                              have BK1837 := n2_
                              have BK2354 := n3_
                              have BK2594 := n4_
                              have BK2598 := n5_
                              have HB := n6_
                              have BK2604 := n7_
                              have GW2604 := n8_
                              have GE2604 := n9_
                              have NB1831_2604 := n10_
                              have NB2604_1831 := n11_
                              have NB1832_2604 := n12_
                              have NB2604_1832 := n13_
                              have NB1837_2604 := n14_
                              have NB2604_1837 := n15_
                              have NB2354_2604 := n16_
                              have NB2604_2354 := n17_
                              have NB2594_2604 := n18_
                              have NB2604_2594 := n19_
                              have NB2598_2604 := n20_
                              have NB2604_2598 := n21_
                              clear n0_ n1_ n2_ n3_ n4_ n5_ n6_ n7_ n8_ n9_ n10_ n11_ n12_ n13_ n14_ n15_ n16_ n17_ n18_ n19_ n20_ n21_
                              clear hb hbox hg
                              refine hK.out _ _ ⟨(blk_cell BK2598.out 0).trans rfl, (blk_cell BK2598.out 1).trans rfl⟩ (fun hHeld => ?_)
                              clear hK K
                              refine norm_ (a' := ?_) ?_ ?_
                              rotate_left
                              · show Act.put _ (some 22) _ = _
                                simp only [Act.put, List.setIfInBounds_toArray, List.set_cons_zero, List.set_cons_succ, i64_w, i32_w]
                                rfl
                              refine one_ (i := 2) (N := some 106) #[true, true, true, false, false, false, false, true, false, false] rfl rfl (one_of HT_.out (by kernel_rfl)) (by decide) (fun K hK => ?_)
                              refine goes_ Try.func33 (by kernel_rfl) rfl #[.int .u64 t2592] (by rfl) rfl rfl (by (try simp only [List.map_toArray, List.map_cons, List.map_nil]); first | done | rfl | (simp only [List.length_drop, List.length_take]; rfl)) ?_
                              with_reducible refine (wide_Of.calls t2592 t2599 t2600 _ A78.out).mono ?_
                              rintro e w107 ⟨rfl, hb⟩
                              refine ⟨_, rfl, ?_⟩
                              have n0_ := Aside0.mk (blk_below (g := gb1831) (o := .cells #[.int .u64 a0_0, .int .u64 a0_1] 24 (0, 0)) (by (with_reducible repeat (first | refine blk_drewN ?_ _ | refine blk_drew ?_ | refine blk_alloc ?_ _)); exact BK1831.out) hb)
                              have n1_ := Aside0.mk (blk_below (g := gb1832) (o := .cells #[.int .u64 a1_0, .int .u64 a1_1] 24 (0, 0)) (by (with_reducible repeat (first | refine blk_drewN ?_ _ | refine blk_drew ?_ | refine blk_alloc ?_ _)); exact BK1832.out) hb)
                              have n2_ := Aside0.mk (blk_below (g := gb1837) (o := .cells #[.int .u64 t1834, .int .u64 t1835] 24 (0, 0)) (by (with_reducible repeat (first | refine blk_drewN ?_ _ | refine blk_drew ?_ | refine blk_alloc ?_ _)); exact BK1837.out) hb)
                              have n3_ := Aside0.mk (blk_below (g := gb2354) (o := .cells #[.int .u64 t2351, .int .u64 t2352] 24 (0, 0)) (by (with_reducible repeat (first | refine blk_drewN ?_ _ | refine blk_drew ?_ | refine blk_alloc ?_ _)); exact BK2354.out) hb)
                              have n4_ := Aside0.mk (blk_below (g := gb2594) (o := .cells #[.int .u64 t2590, .int .u64 t2591] 24 (0, 0)) (by (with_reducible repeat (first | refine blk_drewN ?_ _ | refine blk_drew ?_ | refine blk_alloc ?_ _)); exact BK2594.out) hb)
                              have n5_ := Aside0.mk (blk_below (g := gb2598) (o := .cells #[.int .u64 t2595, .int .u64 t2596] 24 (0, 0)) (by (with_reducible repeat (first | refine blk_drewN ?_ _ | refine blk_drew ?_ | refine blk_alloc ?_ _)); exact BK2598.out) hb)
                              have n6_ := Aside0.mk (blk_below (g := gb2604) (o := .cells #[.int .u64 0, .int .u64 0] 24 (0, 0)) (by (with_reducible repeat (first | refine blk_drewN ?_ _ | refine blk_drew ?_ | refine blk_alloc ?_ _)); exact BK2604.out) hb)
                              have n7_ := Aside0.mk (below_step (by repeat (first | (with_reducible first | exact HB.out | apply below_alloc | apply pw_below_drewN | apply below_drew1 | refine below_set ?_ GE1831.out | refine below_set ?_ GE1832.out | refine below_set ?_ GE1837.out | refine below_set ?_ GE2354.out | refine below_set ?_ GE2594.out | refine below_set ?_ GE2598.out | refine below_set ?_ GE2604.out) | exact HB.out)) hb)
                              clear BK1831
                              clear BK1832
                              clear BK1837
                              clear BK2354
                              clear BK2594
                              clear BK2598
                              clear BK2604
                              clear HB
                              have BK1831 := n0_
                              have BK1832 := n1_
                              have BK1837 := n2_
                              have BK2354 := n3_
                              have BK2594 := n4_
                              have BK2598 := n5_
                              have BK2604 := n6_
                              have HB := n7_
                              clear n0_ n1_ n2_ n3_ n4_ n5_ n6_ n7_
                              (try clear hb)
                              (try clear hb2)
                              (try clear hk)
                              (try clear hi)
                              refine hK.out _ _ ⟨(blk_cell BK2598.out 0).trans rfl, (blk_cell BK2598.out 1).trans rfl⟩ (fun hHeld => ?_)
                              clear hK K
                              refine norm_ (a' := ?_) ?_ ?_
                              rotate_left
                              · show Act.put _ (some 106) _ = _
                                simp only [Act.put, List.setIfInBounds_toArray, List.set_cons_zero, List.set_cons_succ, i64_w, i32_w]
                                rfl
                              refine one_ (i := 3) (N := some 107) #[true, true, true, true, false, false, false, true, false, false] rfl rfl (one_of HT_.out (by kernel_rfl)) (by decide) (fun K hK => ?_)
                              refine goes_ Try.func27 (by kernel_rfl) rfl #[.agg #[.int .u64 t2595, .int .u64 t2596], .agg #[.int .u64 t2599, .int .u64 t2600]] (by rfl) rfl rfl (by (try simp only [List.map_toArray, List.map_cons, List.map_nil]); first | done | rfl | (simp only [List.length_drop, List.length_take]; rfl)) ?_
                              with_reducible refine (wide_Add.calls t2595 t2596 t2599 t2600 t2601 t2602 t2603 _ A79.out).mono ?_
                              rintro e w108 ⟨rfl, hb⟩
                              refine ⟨_, rfl, ?_⟩
                              have n0_ := Aside0.mk (blk_below (g := gb1831) (o := .cells #[.int .u64 a0_0, .int .u64 a0_1] 24 (0, 0)) (by (with_reducible repeat (first | refine blk_drewN ?_ _ | refine blk_drew ?_ | refine blk_alloc ?_ _)); exact BK1831.out) hb)
                              have n1_ := Aside0.mk (blk_below (g := gb1832) (o := .cells #[.int .u64 a1_0, .int .u64 a1_1] 24 (0, 0)) (by (with_reducible repeat (first | refine blk_drewN ?_ _ | refine blk_drew ?_ | refine blk_alloc ?_ _)); exact BK1832.out) hb)
                              have n2_ := Aside0.mk (blk_below (g := gb1837) (o := .cells #[.int .u64 t1834, .int .u64 t1835] 24 (0, 0)) (by (with_reducible repeat (first | refine blk_drewN ?_ _ | refine blk_drew ?_ | refine blk_alloc ?_ _)); exact BK1837.out) hb)
                              have n3_ := Aside0.mk (blk_below (g := gb2354) (o := .cells #[.int .u64 t2351, .int .u64 t2352] 24 (0, 0)) (by (with_reducible repeat (first | refine blk_drewN ?_ _ | refine blk_drew ?_ | refine blk_alloc ?_ _)); exact BK2354.out) hb)
                              have n4_ := Aside0.mk (blk_below (g := gb2594) (o := .cells #[.int .u64 t2590, .int .u64 t2591] 24 (0, 0)) (by (with_reducible repeat (first | refine blk_drewN ?_ _ | refine blk_drew ?_ | refine blk_alloc ?_ _)); exact BK2594.out) hb)
                              have n5_ := Aside0.mk (blk_below (g := gb2598) (o := .cells #[.int .u64 t2595, .int .u64 t2596] 24 (0, 0)) (by (with_reducible repeat (first | refine blk_drewN ?_ _ | refine blk_drew ?_ | refine blk_alloc ?_ _)); exact BK2598.out) hb)
                              have n6_ := Aside0.mk (blk_below (g := gb2604) (o := .cells #[.int .u64 0, .int .u64 0] 24 (0, 0)) (by (with_reducible repeat (first | refine blk_drewN ?_ _ | refine blk_drew ?_ | refine blk_alloc ?_ _)); exact BK2604.out) hb)
                              have n7_ := Aside0.mk (below_step (by repeat (first | (with_reducible first | exact HB.out | apply below_alloc | apply pw_below_drewN | apply below_drew1 | refine below_set ?_ GE1831.out | refine below_set ?_ GE1832.out | refine below_set ?_ GE1837.out | refine below_set ?_ GE2354.out | refine below_set ?_ GE2594.out | refine below_set ?_ GE2598.out | refine below_set ?_ GE2604.out) | exact HB.out)) hb)
                              clear BK1831
                              clear BK1832
                              clear BK1837
                              clear BK2354
                              clear BK2594
                              clear BK2598
                              clear BK2604
                              clear HB
                              have BK1831 := n0_
                              have BK1832 := n1_
                              have BK1837 := n2_
                              have BK2354 := n3_
                              have BK2594 := n4_
                              have BK2598 := n5_
                              have BK2604 := n6_
                              have HB := n7_
                              clear n0_ n1_ n2_ n3_ n4_ n5_ n6_ n7_
                              (try clear hb)
                              (try clear hb2)
                              (try clear hk)
                              (try clear hi)
                              refine hK.out _ _ ⟨(blk_cell BK2598.out 0).trans rfl, (blk_cell BK2598.out 1).trans rfl⟩ (fun hHeld => ?_)
                              clear hK K
                              refine norm_ (a' := ?_) ?_ ?_
                              rotate_left
                              · show Act.put _ (some 107) _ = _
                                simp only [Act.put, List.setIfInBounds_toArray, List.set_cons_zero, List.set_cons_succ, i64_w, i32_w]
                                rfl
                              refine pure_ (i := 4) (N := some 103) (v := ?_) (a' := ?_) #[true, true, true, true, true, false, false, true, false, false] rfl rfl (any_of HT_.out (by kernel_rfl)) (fun _ _ _ h => h) (Or.inl ⟨by rfl, ?_⟩) ?_ ?_
                              rotate_left
                              · intro w'
                                go_simp
                                with_reducible rfl
                              rotate_left
                              · simp only [Act.put, List.setIfInBounds_toArray, List.set_cons_zero, List.set_cons_succ, i64_w, i32_w]
                                rfl
                              refine pure_ (i := 5) (N := some 108) (v := ?_) (a' := ?_) #[true, true, true, true, true, true, false, true, false, false] rfl rfl (any_of HT_.out (by kernel_rfl)) (fun _ _ _ h => h) (Or.inl ⟨by rfl, ?_⟩) ?_ ?_
                              rotate_left
                              · intro w'
                                go_simp
                                with_reducible rfl
                              rotate_left
                              · simp only [Act.put, List.setIfInBounds_toArray, List.set_cons_zero, List.set_cons_succ, i64_w, i32_w]
                                rfl
                              refine pure_ (i := 6) (N := some 109) (v := ?_) (a' := ?_) #[true, true, true, true, true, true, true, true, false, false] rfl rfl (any_of HT_.out (by kernel_rfl)) (fun _ _ _ h => h) (Or.inl ⟨by rfl, ?_⟩) ?_ ?_
                              rotate_left
                              · intro w'
                                go_simp
                                with_reducible rfl
                              rotate_left
                              · simp only [Act.put, List.setIfInBounds_toArray, List.set_cons_zero, List.set_cons_succ, i64_w, i32_w]
                                rfl
                              exact norm_ (by simp only [putAll, Act.put, List.setIfInBounds_toArray, List.set_cons_zero, List.set_cons_succ]) (hCont (gb2604) _ ⟨hHeld, (by (with_reducible repeat (first | refine blk_drewN ?_ _ | refine blk_drew ?_ | refine blk_alloc ?_ _)); exact BK1831.out), (by (with_reducible repeat (first | refine blk_drewN ?_ _ | refine blk_drew ?_ | refine blk_alloc ?_ _)); exact BK1832.out), (by (with_reducible repeat (first | refine blk_drewN ?_ _ | refine blk_drew ?_ | refine blk_alloc ?_ _)); exact BK1837.out), (by (with_reducible repeat (first | refine blk_drewN ?_ _ | refine blk_drew ?_ | refine blk_alloc ?_ _)); exact BK2354.out), (by (with_reducible repeat (first | refine blk_drewN ?_ _ | refine blk_drew ?_ | refine blk_alloc ?_ _)); exact BK2594.out), (by (with_reducible repeat (first | refine blk_drewN ?_ _ | refine blk_drew ?_ | refine blk_alloc ?_ _)); exact BK2598.out), (by (with_reducible repeat (first | refine blk_drewN ?_ _ | refine blk_drew ?_ | refine blk_alloc ?_ _)); exact BK2604.out), GW2604.out, GE2604.out, NB1831_2604.out, NB2604_1831.out, NB1832_2604.out, NB2604_1832.out, NB1837_2604.out, NB2604_1837.out, NB2354_2604.out, NB2604_2354.out, NB2594_2604.out, NB2604_2594.out, NB2598_2604.out, NB2604_2598.out, (by repeat (first | (with_reducible first | exact HB.out | apply below_alloc | apply pw_below_drewN | apply below_drew1 | refine below_set ?_ GE1831.out | refine below_set ?_ GE1832.out | refine below_set ?_ GE1837.out | refine below_set ?_ GE2354.out | refine below_set ?_ GE2594.out | refine below_set ?_ GE2598.out | refine below_set ?_ GE2604.out) | exact HB.out))⟩)
                          rintro gb2604 w109 ⟨hS_, h0_, h1_, h2_, h3_, h4_, h5_, h6_, h7_, h8_, h9_, h10_, h11_, h12_, h13_, h14_, h15_, h16_, h17_, h18_, h19_, h20_, h21_⟩
                          have n0_ : Aside0 (w109.heap[gb1831]? = some (.cells #[.int .u64 a0_0, .int .u64 a0_1] 24 (0, 0))) := ⟨h0_⟩
                          have n1_ : Aside0 (w109.heap[gb1832]? = some (.cells #[.int .u64 a1_0, .int .u64 a1_1] 24 (0, 0))) := ⟨h1_⟩
                          have n2_ : Aside0 (w109.heap[gb1837]? = some (.cells #[.int .u64 t1834, .int .u64 t1835] 24 (0, 0))) := ⟨h2_⟩
                          have n3_ : Aside0 (w109.heap[gb2354]? = some (.cells #[.int .u64 t2351, .int .u64 t2352] 24 (0, 0))) := ⟨h3_⟩
                          have n4_ : Aside0 (w109.heap[gb2594]? = some (.cells #[.int .u64 t2590, .int .u64 t2591] 24 (0, 0))) := ⟨h4_⟩
                          have n5_ : Aside0 (w109.heap[gb2598]? = some (.cells #[.int .u64 t2595, .int .u64 t2596] 24 (0, 0))) := ⟨h5_⟩
                          have n6_ : Aside0 (w109.heap[gb2604]? = some (.cells #[.int .u64 0, .int .u64 0] 24 (0, 0))) := ⟨h6_⟩
                          have n7_ : Aside0 (w.heap.size ≤ gb2604) := ⟨h7_⟩
                          have n8_ : Aside0 (w.heap.size ≤ gb2604) := ⟨h8_⟩
                          have n9_ : Aside0 (gb1831 ≠ gb2604) := ⟨h9_⟩
                          have n10_ : Aside0 (gb2604 ≠ gb1831) := ⟨h10_⟩
                          have n11_ : Aside0 (gb1832 ≠ gb2604) := ⟨h11_⟩
                          have n12_ : Aside0 (gb2604 ≠ gb1832) := ⟨h12_⟩
                          have n13_ : Aside0 (gb1837 ≠ gb2604) := ⟨h13_⟩
                          have n14_ : Aside0 (gb2604 ≠ gb1837) := ⟨h14_⟩
                          have n15_ : Aside0 (gb2354 ≠ gb2604) := ⟨h15_⟩
                          have n16_ : Aside0 (gb2604 ≠ gb2354) := ⟨h16_⟩
                          have n17_ : Aside0 (gb2594 ≠ gb2604) := ⟨h17_⟩
                          have n18_ : Aside0 (gb2604 ≠ gb2594) := ⟨h18_⟩
                          have n19_ : Aside0 (gb2598 ≠ gb2604) := ⟨h19_⟩
                          have n20_ : Aside0 (gb2604 ≠ gb2598) := ⟨h20_⟩
                          have n21_ : Aside0 (Below w.heap.size w w109) := ⟨h21_⟩
                          clear BK1831
                          clear BK1832
                          clear BK1837
                          clear BK2354
                          clear BK2594
                          clear BK2598
                          clear HB
                          clear h0_ h1_ h2_ h3_ h4_ h5_ h6_ h7_ h8_ h9_ h10_ h11_ h12_ h13_ h14_ h15_ h16_ h17_ h18_ h19_ h20_ h21_
                          have BK1831 := n0_
                          have BK1832 := n1_
                          have BK1837 := n2_
                          have BK2354 := n3_
                          have BK2594 := n4_
                          have BK2598 := n5_
                          have BK2604 := n6_
                          have GW2604 := n7_
                          have GE2604 := n8_
                          have NB1831_2604 := n9_
                          have NB2604_1831 := n10_
                          have NB1832_2604 := n11_
                          have NB2604_1832 := n12_
                          have NB1837_2604 := n13_
                          have NB2604_1837 := n14_
                          have NB2354_2604 := n15_
                          have NB2604_2354 := n16_
                          have NB2594_2604 := n17_
                          have NB2604_2594 := n18_
                          have NB2598_2604 := n19_
                          have NB2604_2598 := n20_
                          have HB := n21_
                          clear n0_ n1_ n2_ n3_ n4_ n5_ n6_ n7_ n8_ n9_ n10_ n11_ n12_ n13_ n14_ n15_ n16_ n17_ n18_ n19_ n20_ n21_
                          have hHeld : w109.cell? ⟨gb2598, 0, none⟩ = some (.int .u64 t2595) ∧ w109.cell? ⟨gb2598, 1, none⟩ = some (.int .u64 t2596) := hS_
                          refine norm_ (a' := ?_) ?_ ?_
                          rotate_left
                          · simp only [putAll, Act.put, List.setIfInBounds_toArray, List.set_cons_zero, List.set_cons_succ]
                            rfl
                          refine one_ (i := 8) (N := none) #[true, true, true, true, true, true, true, true, true, false] rfl rfl (one_of HT_.out (by kernel_rfl)) (by decide) (fun K hK => ?_)
                          have hs110 : w109.cell? ⟨gb2604, 0, none⟩ = some (.int .u64 0) := (blk_cell BK2604.out 0).trans rfl
                          have hfs110 := blk_frozen BK2604.out 0
                          have hns110_0 := NB1831_2604.out
                          have hns110_1 := NB1832_2604.out
                          have hns110_2 := NB1837_2604.out
                          have hns110_3 := NB2354_2604.out
                          have hns110_4 := NB2594_2604.out
                          have hns110_5 := NB2598_2604.out
                          have hms110_0 := NB2604_1831.out
                          have hms110_1 := NB2604_1832.out
                          have hms110_2 := NB2604_1837.out
                          have hms110_3 := NB2604_2354.out
                          have hms110_4 := NB2604_2594.out
                          have hms110_5 := NB2604_2598.out
                          have hs111 : w109.cell? ⟨gb2604, 1, none⟩ = some (.int .u64 0) := (blk_cell BK2604.out 1).trans rfl
                          have hfs111 := blk_frozen BK2604.out 1
                          have hns111_0 := NB1831_2604.out
                          have hns111_1 := NB1832_2604.out
                          have hns111_2 := NB1837_2604.out
                          have hns111_3 := NB2354_2604.out
                          have hns111_4 := NB2594_2604.out
                          have hns111_5 := NB2598_2604.out
                          have hms111_0 := NB2604_1831.out
                          have hms111_1 := NB2604_1832.out
                          have hms111_2 := NB2604_1837.out
                          have hms111_3 := NB2604_2354.out
                          have hms111_4 := NB2604_2594.out
                          have hms111_5 := NB2604_2598.out
                          refine skip_ (w1 := ?_) (by rfl) rfl ?_ ?_
                          rotate_left
                          · go_simp
                            rfl
                          refine hK.out _ _ ⟨((cell_far (p := ⟨gb2604, _, none⟩) NB2598_2604.out _).trans (((cell_far (p := ⟨gb2604, _, none⟩) NB2598_2604.out _).trans (hHeld.1)))), ((cell_far (p := ⟨gb2604, _, none⟩) NB2598_2604.out _).trans (((cell_far (p := ⟨gb2604, _, none⟩) NB2598_2604.out _).trans (hHeld.2))))⟩ (fun hHeld => ?_)
                          clear hK K
                          refine pure_ (i := 9) (N := some 23) (v := ?_) (a' := ?_) #[true, true, true, true, true, true, true, true, true, true] rfl rfl (any_of HT_.out (by kernel_rfl)) (fun _ _ _ h => h) (Or.inl ⟨by rfl, ?_⟩) ?_ ?_
                          rotate_left
                          · intro w'
                            go_simp
                            with_reducible rfl
                          rotate_left
                          · simp only [Act.put, List.setIfInBounds_toArray, List.set_cons_zero, List.set_cons_succ, i64_w, i32_w]
                            rfl
                          refine done_ (done_of HT_.out (by kernel_rfl)) ?_
                          have hnb112 := NB2604_1831.out
                          have hnc112 := NB1831_2604.out
                          have hnb113 := NB2604_1832.out
                          have hnc113 := NB1832_2604.out
                          have hnb114 := NB2604_1837.out
                          have hnc114 := NB1837_2604.out
                          have hnb115 := NB2604_2354.out
                          have hnc115 := NB2354_2604.out
                          have hnb116 := NB2604_2594.out
                          have hnc116 := NB2594_2604.out
                          have hnb117 := NB2604_2598.out
                          have hnc117 := NB2598_2604.out
                          have hcz118_0 : w109.cell? ⟨gb2604, 0, none⟩ = some (.int .u64 0) := (blk_cell BK2604.out 0).trans rfl
                          have hcz118_1 : w109.cell? ⟨gb2604, 1, none⟩ = some (.int .u64 0) := (blk_cell BK2604.out 1).trans rfl
                          have hfz118_0 := blk_frozen BK2604.out 0
                          have hfz118_1 := blk_frozen BK2604.out 1
                          have hcz119_0 : w109.cell? ⟨gb1831, 0, none⟩ = some (.int .u64 a0_0) := (blk_cell BK1831.out 0).trans rfl
                          have hcz119_1 : w109.cell? ⟨gb1831, 1, none⟩ = some (.int .u64 a0_1) := (blk_cell BK1831.out 1).trans rfl
                          have hfz119_0 := blk_frozen BK1831.out 0
                          have hfz119_1 := blk_frozen BK1831.out 1
                          try go_wp2
                          go_ret
                          exact ⟨by first | rfl | (simp [errW_none, errW_some] <;> rfl) | (simp [*, errW_none, errW_some] <;> rfl), by repeat (first | (with_reducible first | exact HB.out | apply below_alloc | apply pw_below_drewN | apply below_drew1 | refine below_set ?_ GE1831.out | refine below_set ?_ GE1832.out | refine below_set ?_ GE1837.out | refine below_set ?_ GE2354.out | refine below_set ?_ GE2594.out | refine below_set ?_ GE2598.out | refine below_set ?_ GE2604.out) | exact HB.out)⟩
                        · rw [if_neg c84] at H
                          exact absurd H (by simp)
                      · rw [if_neg c83] at H
                        exact absurd H (by simp)
                    · rw [if_neg c82] at H
                      exact absurd H (by simp)
                  · rw [if_neg c81] at H
                    exact absurd H (by simp)
                · replace c80 := Bool.eq_false_iff.mpr c80
                  subst c80
                  have H1 : (none) = some r := by rw [if_neg (show ¬ (false = true) by decide)] at H; exact H
                  clear H
                  have H := H1
                  clear H1
                  exact absurd H (by simp)

end Go.Proofs.Ytcdbmmlnmefoeaa.X
