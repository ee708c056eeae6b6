-- WRITTEN BY printx.py, a program of this session, with the kit's printer
import Derived.Test.YtcdbmmlnmefoeaaX0
import Derived.Test.YtcdbmmlnmefoeaaXEq
import Derived.Test.YtcdbmmlnmefoeaaXBig
import Derived.Test.YtcdbmmlnmefoeaaXQuot
import Derived.Test.YtcdbmmlnmefoeaaXSOne
import Derived.Test.YtcdbmmlnmefoeaaHDiv
namespace Go.Proofs.Ytcdbmmlnmefoeaa.X
open Go.RowKit Go.Proofs.YtcdbmmlnmefoeaaW.PrintWords Go.Proofs.YtcdbmmlnmefoeaaW.PrintLast Go.Proofs.YtcdbmmlnmefoeaaW.PrintMore
attribute [local go_sem] max2_int min2_int max_two min_two max_three min_three max_four min_four   -- for this text's walks alone
set_option linter.unusedVariables false
set_option linter.unusedSimpArgs false

attribute [local go_sem high] eqA24
/-! ### demurragelaw01_WideDivides: function 4 -/
def demurragelaw01_WideDivides.f (k : Nat) (a0_0 : Int) (a0_1 : Int) (a1 : Int) : Option (Bool) := (demurragelaw01_shown.f).bind fun t1787 => ((wide_Div.f a0_0 a0_1 a1).bind fun bt1788 => (if a1 = 0 then (if t1787 = true then (if bt1788.2.2.2 = 7 then (if (bt1788.1 == 0 && (bt1788.2.1 == 0)) = true then (some (bt1788.2.2.1 == 0)) else (none)) else (none)) else (none)) else ((demurrageref01_FromW.f k a0_0 a0_1).bind fun t1812 => ((demurrageref01_FromU.f k a1).bind fun t1815 => ((demurrageref01_Quot.f k t1812 t1815).bind fun bt1818 => (if t1787 = true then (if bt1788.2.2.2 = 0 then (if bt1788.2.2.1 < a1 then ((demurrageref01_Is.f k bt1788.1 bt1788.2.1 bt1818.1).bind fun t1826 => (if t1826 = true then ((demurrageref01_FromU.f k bt1788.2.2.1).bind fun t1827 => ((demurrageref01_Cmp.f k t1827 bt1818.2).bind fun t1830 => (some (t1830 == 0)))) else (none))) else (none)) else (none)) else (none)))))))
theorem demurragelaw01_WideDivides.mono : ∀ a0 a1 a2 k, LeO (demurragelaw01_WideDivides.f k a0 a1 a2) (demurragelaw01_WideDivides.f (k + 1) a0 a1 a2) := by
  intro a0 a1 a2 k
  unfold demurragelaw01_WideDivides.f
  repeat' first
      | (with_reducible exact demurrageref01_Cmp.mono _ _ _)
      | (with_reducible exact demurrageref01_FromU.mono _ _)
      | (with_reducible exact demurrageref01_FromW.mono _ _ _)
      | (with_reducible exact demurrageref01_Is.mono _ _ _ _)
      | (with_reducible exact demurrageref01_Quot.mono _ _ _)
      | (with_reducible exact LeO.refl _)
      | (with_reducible exact LeO.none _)
      | (with_reducible refine LeO.ite ?_ ?_)
      | (with_reducible refine LeO.bind ?_ (fun _ => ?_))
      | exact demurrageref01_Cmp.mono _ _ _
      | exact demurrageref01_FromU.mono _ _
      | exact demurrageref01_FromW.mono _ _ _
      | exact demurrageref01_Is.mono _ _ _ _
      | exact demurrageref01_Quot.mono _ _ _
      | exact LeO.none _
      | refine LeO.ite ?_ ?_
      | refine LeO.bind ?_ (fun _ => ?_)
def demurragelaw01_WideDivides.T6 : Bool × List (List Nat × List Nat) := (true, [([], []), ([0], [0]), ([1], [1]), ([2, 1], [1, 2]), ([1, 3], [1, 3]), ([4, 1], [4]), ([5], [5]), ([5], [5]), ([6, 7, 5], [5, 6, 7]), ([5, 8], [5, 8]), ([9, 5], [9]), ([10], [10]), ([10], [10]), ([11, 12, 10, 10], [10, 11, 12]), ([10, 13], [10, 13]), ([14, 13], [14]), ([15], [15]), ([16, 15, 15], [15, 16]), ([15], [15]), ([17, 18, 17, 15], [15, 17, 18]), ([19, 15], [15, 19]), ([15, 20], [15, 20]), ([21, 19, 0, 1, 2, 3, 4, 5, 6, 7, 8, 9, 10, 11, 12, 13, 14, 15, 16, 17, 18, 19, 20, 21], [21])])
def demurragelaw01_WideDivides.B6 : List Nat := [0, 1, 3, 7, 15, 31, 63, 63, 255, 511, 1023, 2047, 2047, 8191, 16383, 32767, 65535, 131071, 65535, 524287, 1048575, 2097151, 4194303]
theorem demurragelaw01_WideDivides.tab6 : rtab .any (opsOf Try.f4 6) = demurragelaw01_WideDivides.T6 := by kernel_rfl
theorem demurragelaw01_WideDivides.bits6 : waitsOk demurragelaw01_WideDivides.T6.2 demurragelaw01_WideDivides.B6 = true := by kernel_rfl
set_option maxHeartbeats 8000000 in
set_option maxRecDepth 100000 in
theorem demurragelaw01_WideDivides.calls (k : Nat) (a0_0 : Int) (a0_1 : Int) (a1 : Int) (r : Bool) (w : World) (h : demurragelaw01_WideDivides.f k a0_0 a0_1 a1 = some r) :
    Calls Try.prog 4 #[.agg #[.int .u64 a0_0, .int .u64 a0_1], .int .u64 a1] w fun e w' => e = .returned (.bool r) ∧ Below w.heap.size w w' := by
  have hu24 := Try.underlying24
  have hu28 := Try.underlying28
  have HB := Aside0.mk (Below.refl w.heap.size w)
  have H : ((demurragelaw01_shown.f).bind fun t1787 => ((wide_Div.f a0_0 a0_1 a1).bind fun bt1788 => (if a1 = 0 then (if t1787 = true then (if bt1788.2.2.2 = 7 then (if (bt1788.1 == 0 && (bt1788.2.1 == 0)) = true then (some (bt1788.2.2.1 == 0)) else (none)) else (none)) else (none)) else ((demurrageref01_FromW.f k a0_0 a0_1).bind fun t1812 => ((demurrageref01_FromU.f k a1).bind fun t1815 => ((demurrageref01_Quot.f k t1812 t1815).bind fun bt1818 => (if t1787 = true then (if bt1788.2.2.2 = 0 then (if bt1788.2.2.1 < a1 then ((demurrageref01_Is.f k bt1788.1 bt1788.2.1 bt1818.1).bind fun t1826 => (if t1826 = true then ((demurrageref01_FromU.f k bt1788.2.2.1).bind fun t1827 => ((demurrageref01_Cmp.f k t1827 bt1818.2).bind fun t1830 => (some (t1830 == 0)))) else (none))) else (none)) else (none)) else (none)))))))) = some r := h
  clear h
  replace H := Option.bind_eq_some_iff.mp H
  obtain ⟨t1787, A30, H⟩ := H
  replace H : ((wide_Div.f a0_0 a0_1 a1).bind fun bt1788 => (if a1 = 0 then (if t1787 = true then (if bt1788.2.2.2 = 7 then (if (bt1788.1 == 0 && (bt1788.2.1 == 0)) = true then (some (bt1788.2.2.1 == 0)) else (none)) else (none)) else (none)) else ((demurrageref01_FromW.f k a0_0 a0_1).bind fun t1812 => ((demurrageref01_FromU.f k a1).bind fun t1815 => ((demurrageref01_Quot.f k t1812 t1815).bind fun bt1818 => (if t1787 = true then (if bt1788.2.2.2 = 0 then (if bt1788.2.2.1 < a1 then ((demurrageref01_Is.f k bt1788.1 bt1788.2.1 bt1818.1).bind fun t1826 => (if t1826 = true then ((demurrageref01_FromU.f k bt1788.2.2.1).bind fun t1827 => ((demurrageref01_Cmp.f k t1827 bt1818.2).bind fun t1830 => (some (t1830 == 0)))) else (none))) else (none)) else (none)) else (none))))))) = some r := H
  have A3 := Aside0.mk A30
  clear A30
  replace H := Option.bind_eq_some_iff.mp H
  obtain ⟨⟨t1788, t1789, t1790, t1791⟩, A40, H⟩ := H
  replace H : (if a1 = 0 then (if t1787 = true then (if t1791 = 7 then (if (t1788 == 0 && (t1789 == 0)) = true then (some (t1790 == 0)) else (none)) else (none)) else (none)) else ((demurrageref01_FromW.f k a0_0 a0_1).bind fun t1812 => ((demurrageref01_FromU.f k a1).bind fun t1815 => ((demurrageref01_Quot.f k t1812 t1815).bind fun bt1818 => (if t1787 = true then (if t1791 = 0 then (if t1790 < a1 then ((demurrageref01_Is.f k t1788 t1789 bt1818.1).bind fun t1826 => (if t1826 = true then ((demurrageref01_FromU.f k t1790).bind fun t1827 => ((demurrageref01_Cmp.f k t1827 bt1818.2).bind fun t1830 => (some (t1830 == 0)))) else (none))) else (none)) else (none)) else (none)))))) = some r := H
  have A4 := Aside0.mk A40
  clear A40
  by_cases c5 : a1 = 0
  · rw [if_pos c5] at H
    have c5b0 : (a1 == 0) = true := beq_iff_eq.mpr c5
    have c5b1 : (a1 != 0) = false := bne_eq_false_iff_eq.mpr c5
    clear c5
    by_cases c6 : t1787 = true
    · subst c6
      have H1 : (if t1791 = 7 then (if (t1788 == 0 && (t1789 == 0)) = true then (some (t1790 == 0)) else (none)) else (none)) = some r := by rw [if_pos rfl] at H; exact H
      clear H
      have H := H1
      clear H1
      by_cases c7 : t1791 = 7
      · rw [if_pos c7] at H
        have c7b0 : (t1791 == 7) = true := beq_iff_eq.mpr c7
        have c7b1 : (t1791 != 7) = false := bne_eq_false_iff_eq.mpr c7
        clear c7
        by_cases c8 : (t1788 == 0 && (t1789 == 0)) = true
        · rw [if_pos c8] at H
          have c8b0 : (t1788 == 0 && (t1789 == 0)) = true := c8
          (try (have c8b1 : decide (t1788 = 0 && (t1789 == 0)) = true := by simpa using c8))
          (try (have c8b2 : (t1788 == 0 && (t1789 == 0)) = true := by simpa using c8))
          clear c8
          obtain rfl := Option.some.inj H
          go_enter Try.func4, Try.ntmps4
          go_wp2_with (first | ((with_reducible refine gate_dst (N := 2) rfl ?_); refine box_event ?hg (N := 2) ?hd (cs := #[.int .u64 a0_0, .int .u64 a0_1]) (t := 24) ?hr ?_; (case hd => rfl); (case hg => rfl); (case hr => go_simp); intro gb1786 hg w9 hbox hb; have n0_ := Aside0.mk (below_step (by repeat (first | (with_reducible first | exact HB.out | apply below_alloc | apply pw_below_drewN | apply below_drew1) | exact HB.out)) hb); have n1_ := Aside0.mk (hbox); have n2_ := Aside0.mk ((by rw [hg]; exact (below_size (by repeat (first | (with_reducible first | exact HB.out | apply below_alloc | apply pw_below_drewN | apply below_drew1) | exact HB.out))) : w.heap.size ≤ gb1786)); have n3_ := Aside0.mk ((by rw [hg]; exact (below_size (by repeat (first | (with_reducible first | exact HB.out | apply below_alloc | apply pw_below_drewN | apply below_drew1) | exact HB.out))) : w.heap.size ≤ gb1786)); clear HB; have HB := n0_; have BK1786 := n1_; have GW1786 := n2_; have GE1786 := n3_; clear n0_ n1_ n2_ n3_; clear hb hbox hg) | ((with_reducible refine gate_callee (f := 22) rfl ?_); refine goesL_ (some 11) rfl rfl Try.func22 (by kernel_rfl) rfl #[] rfl (by (try simp only [List.map_toArray, List.map_cons, List.map_nil]); first | done | rfl | (simp only [List.length_drop, List.length_take]; rfl)) ?_; (with_reducible refine (demurragelaw01_shown.calls  true _ A3.out).mono ?_); rintro e w10 ⟨rfl, hb⟩; refine ⟨_, rfl, ?_⟩; have n0_ := Aside0.mk (blk_below BK1786.out hb); have n1_ := Aside0.mk (below_step (by repeat (first | (with_reducible first | exact HB.out | apply below_alloc | apply pw_below_drewN | apply below_drew1 | refine below_set ?_ GE1786.out) | exact HB.out)) hb); clear BK1786 HB; have BK1786 := n0_; have HB := n1_; clear n0_ n1_; (try clear hb); have hcz11_0 : w10.cell? ⟨gb1786, 0, none⟩ = some (.int .u64 a0_0) := (blk_cell BK1786.out 0).trans rfl; have hcz11_1 : w10.cell? ⟨gb1786, 1, none⟩ = some (.int .u64 a0_1) := (blk_cell BK1786.out 1).trans rfl; have hfz11_0 := blk_frozen BK1786.out 0; have hfz11_1 := blk_frozen BK1786.out 1) | ((with_reducible refine gate_callee (f := 37) rfl ?_); refine goesL_ (some 15) rfl rfl Try.func37 (by kernel_rfl) rfl #[.agg #[.int .u64 a0_0, .int .u64 a0_1], .int .u64 a1] rfl (by (try simp only [List.map_toArray, List.map_cons, List.map_nil]); first | done | rfl | (simp only [List.length_drop, List.length_take]; rfl)) ?_; (with_reducible refine (wide_Div.calls a0_0 a0_1 a1 t1788 t1789 t1790 t1791 _ A4.out).mono ?_); rintro e w12 ⟨rfl, hb⟩; refine ⟨_, rfl, ?_⟩; have n0_ := Aside0.mk (blk_below BK1786.out hb); have n1_ := Aside0.mk (below_step (by repeat (first | (with_reducible first | exact HB.out | apply below_alloc | apply pw_below_drewN | apply below_drew1 | refine below_set ?_ GE1786.out) | exact HB.out)) hb); clear BK1786 HB; have BK1786 := n0_; have HB := n1_; clear n0_ n1_; (try clear hb)) | ((with_reducible refine gate_dst (N := 6) rfl ?_); refine box_event ?hg (N := 6) ?hd (cs := #[.int .u64 0, .int .u64 0]) (t := 24) ?hr ?_; (case hd => rfl); (case hg => rfl); (case hr => go_simp); intro gb1792 hg w13 hbox hb; have n0_ := Aside0.mk (blk_below BK1786.out hb); have n1_ := Aside0.mk (below_step (by repeat (first | (with_reducible first | exact HB.out | apply below_alloc | apply pw_below_drewN | apply below_drew1 | refine below_set ?_ GE1786.out) | exact HB.out)) hb); have n2_ := Aside0.mk (hbox); have n3_ := Aside0.mk ((by rw [hg]; exact (below_size (by repeat (first | (with_reducible first | exact HB.out | apply below_alloc | apply pw_below_drewN | apply below_drew1 | refine below_set ?_ GE1786.out) | exact HB.out))) : w.heap.size ≤ gb1792)); have n4_ := Aside0.mk ((by rw [hg]; exact (below_size (by repeat (first | (with_reducible first | exact HB.out | apply below_alloc | apply pw_below_drewN | apply below_drew1 | refine below_set ?_ GE1786.out) | exact HB.out))) : w.heap.size ≤ gb1792)); have n5_ := Aside0.mk ((by rw [hg]; exact Nat.ne_of_lt (blk_lt (g := gb1786) (o := .cells #[.int .u64 a0_0, .int .u64 a0_1] 24 (0, 0)) BK1786.out) : gb1786 ≠ gb1792)); have n6_ := Aside0.mk ((by rw [hg]; exact Nat.ne_of_gt (blk_lt (g := gb1786) (o := .cells #[.int .u64 a0_0, .int .u64 a0_1] 24 (0, 0)) BK1786.out) : gb1792 ≠ gb1786)); clear BK1786 HB; have BK1786 := n0_; have HB := n1_; have BK1792 := n2_; have GW1792 := n3_; have GE1792 := n4_; have NB1786_1792 := n5_; have NB1792_1786 := n6_; clear n0_ n1_ n2_ n3_ n4_ n5_ n6_; clear hb hbox hg; have hnb14 := NB1792_1786.out; have hnc14 := NB1786_1792.out; have hcz15_0 : w13.cell? ⟨gb1792, 0, none⟩ = some (.int .u64 0) := (blk_cell BK1792.out 0).trans rfl; have hcz15_1 : w13.cell? ⟨gb1792, 1, none⟩ = some (.int .u64 0) := (blk_cell BK1792.out 1).trans rfl; have hfz15_0 := blk_frozen BK1792.out 0; have hfz15_1 := blk_frozen BK1792.out 1))
          go_ret
          exact ⟨by rfl, by repeat (first | (with_reducible first | exact HB.out | apply below_alloc | apply pw_below_drewN | apply below_drew1 | refine below_set ?_ GE1786.out | refine below_set ?_ GE1792.out) | exact HB.out)⟩
        · rw [if_neg c8] at H
          exact absurd H (by simp)
      · rw [if_neg c7] at H
        exact absurd H (by simp)
    · replace c6 := Bool.eq_false_iff.mpr c6
      subst c6
      have H1 : (none) = some r := by rw [if_neg (show ¬ (false = true) by decide)] at H; exact H
      clear H
      have H := H1
      clear H1
      exact absurd H (by simp)
  · rw [if_neg c5] at H
    have c5b0 : (a1 == 0) = false := beq_eq_false_iff_ne.mpr c5
    have c5b1 : (a1 != 0) = true := bne_iff_ne.mpr c5
    replace H := Option.bind_eq_some_iff.mp H
    obtain ⟨t1812, A160, H⟩ := H
    replace H : ((demurrageref01_FromU.f k a1).bind fun t1815 => ((demurrageref01_Quot.f k t1812 t1815).bind fun bt1818 => (if t1787 = true then (if t1791 = 0 then (if t1790 < a1 then ((demurrageref01_Is.f k t1788 t1789 bt1818.1).bind fun t1826 => (if t1826 = true then ((demurrageref01_FromU.f k t1790).bind fun t1827 => ((demurrageref01_Cmp.f k t1827 bt1818.2).bind fun t1830 => (some (t1830 == 0)))) else (none))) else (none)) else (none)) else (none)))) = some r := H
    have A16 := Aside0.mk A160
    clear A160
    replace H := Option.bind_eq_some_iff.mp H
    obtain ⟨t1815, A170, H⟩ := H
    replace H : ((demurrageref01_Quot.f k t1812 t1815).bind fun bt1818 => (if t1787 = true then (if t1791 = 0 then (if t1790 < a1 then ((demurrageref01_Is.f k t1788 t1789 bt1818.1).bind fun t1826 => (if t1826 = true then ((demurrageref01_FromU.f k t1790).bind fun t1827 => ((demurrageref01_Cmp.f k t1827 bt1818.2).bind fun t1830 => (some (t1830 == 0)))) else (none))) else (none)) else (none)) else (none))) = some r := H
    have A17 := Aside0.mk A170
    clear A170
    replace H := Option.bind_eq_some_iff.mp H
    obtain ⟨⟨t1818, t1821⟩, A180, H⟩ := H
    replace H : (if t1787 = true then (if t1791 = 0 then (if t1790 < a1 then ((demurrageref01_Is.f k t1788 t1789 t1818).bind fun t1826 => (if t1826 = true then ((demurrageref01_FromU.f k t1790).bind fun t1827 => ((demurrageref01_Cmp.f k t1827 t1821).bind fun t1830 => (some (t1830 == 0)))) else (none))) else (none)) else (none)) else (none)) = some r := H
    have A18 := Aside0.mk A180
    clear A180
    by_cases c19 : t1787 = true
    · subst c19
      have H1 : (if t1791 = 0 then (if t1790 < a1 then ((demurrageref01_Is.f k t1788 t1789 t1818).bind fun t1826 => (if t1826 = true then ((demurrageref01_FromU.f k t1790).bind fun t1827 => ((demurrageref01_Cmp.f k t1827 t1821).bind fun t1830 => (some (t1830 == 0)))) else (none))) else (none)) else (none)) = some r := by rw [if_pos rfl] at H; exact H
      clear H
      have H := H1
      clear H1
      by_cases c20 : t1791 = 0
      · rw [if_pos c20] at H
        have c20b0 : (t1791 == 0) = true := beq_iff_eq.mpr c20
        have c20b1 : (t1791 != 0) = false := bne_eq_false_iff_eq.mpr c20
        clear c20
        by_cases c21 : t1790 < a1
        · rw [if_pos c21] at H
          have c21b0 : decide (t1790 < a1) = true := decide_eq_true c21
          clear c21
          replace H := Option.bind_eq_some_iff.mp H
          obtain ⟨t1826, A220, H⟩ := H
          replace H : (if t1826 = true then ((demurrageref01_FromU.f k t1790).bind fun t1827 => ((demurrageref01_Cmp.f k t1827 t1821).bind fun t1830 => (some (t1830 == 0)))) else (none)) = some r := H
          have A22 := Aside0.mk A220
          clear A220
          by_cases c23 : t1826 = true
          · subst c23
            have H1 : ((demurrageref01_FromU.f k t1790).bind fun t1827 => ((demurrageref01_Cmp.f k t1827 t1821).bind fun t1830 => (some (t1830 == 0)))) = some r := by rw [if_pos rfl] at H; exact H
            clear H
            have H := H1
            clear H1
            replace H := Option.bind_eq_some_iff.mp H
            obtain ⟨t1827, A240, H⟩ := H
            replace H : ((demurrageref01_Cmp.f k t1827 t1821).bind fun t1830 => (some (t1830 == 0))) = some r := H
            have A24 := Aside0.mk A240
            clear A240
            replace H := Option.bind_eq_some_iff.mp H
            obtain ⟨t1830, A250, H⟩ := H
            replace H : (some (t1830 == 0)) = some r := H
            have A25 := Aside0.mk A250
            clear A250
            obtain rfl := Option.some.inj H
            go_enter Try.func4, Try.ntmps4
            try go_wp2_with (first | ((with_reducible refine gate_dst (N := 2) rfl ?_); refine box_event ?hg (N := 2) ?hd (cs := #[.int .u64 a0_0, .int .u64 a0_1]) (t := 24) ?hr ?_; (case hd => rfl); (case hg => rfl); (case hr => go_simp); intro gb1786 hg w26 hbox hb; have n0_ := Aside0.mk (below_step (by repeat (first | (with_reducible first | exact HB.out | apply below_alloc | apply pw_below_drewN | apply below_drew1) | exact HB.out)) hb); have n1_ := Aside0.mk (hbox); have n2_ := Aside0.mk ((by rw [hg]; exact (below_size (by repeat (first | (with_reducible first | exact HB.out | apply below_alloc | apply pw_below_drewN | apply below_drew1) | exact HB.out))) : w.heap.size ≤ gb1786)); have n3_ := Aside0.mk ((by rw [hg]; exact (below_size (by repeat (first | (with_reducible first | exact HB.out | apply below_alloc | apply pw_below_drewN | apply below_drew1) | exact HB.out))) : w.heap.size ≤ gb1786)); clear HB; have HB := n0_; have BK1786 := n1_; have GW1786 := n2_; have GE1786 := n3_; clear n0_ n1_ n2_ n3_; clear hb hbox hg) | ((with_reducible refine gate_callee (f := 22) rfl ?_); refine goesL_ (some 11) rfl rfl Try.func22 (by kernel_rfl) rfl #[] rfl (by (try simp only [List.map_toArray, List.map_cons, List.map_nil]); first | done | rfl | (simp only [List.length_drop, List.length_take]; rfl)) ?_; (with_reducible refine (demurragelaw01_shown.calls  true _ A3.out).mono ?_); rintro e w27 ⟨rfl, hb⟩; refine ⟨_, rfl, ?_⟩; have n0_ := Aside0.mk (blk_below BK1786.out hb); have n1_ := Aside0.mk (below_step (by repeat (first | (with_reducible first | exact HB.out | apply below_alloc | apply pw_below_drewN | apply below_drew1 | refine below_set ?_ GE1786.out) | exact HB.out)) hb); clear BK1786 HB; have BK1786 := n0_; have HB := n1_; clear n0_ n1_; (try clear hb); have hcz28_0 : w27.cell? ⟨gb1786, 0, none⟩ = some (.int .u64 a0_0) := (blk_cell BK1786.out 0).trans rfl; have hcz28_1 : w27.cell? ⟨gb1786, 1, none⟩ = some (.int .u64 a0_1) := (blk_cell BK1786.out 1).trans rfl; have hfz28_0 := blk_frozen BK1786.out 0; have hfz28_1 := blk_frozen BK1786.out 1) | ((with_reducible refine gate_callee (f := 37) rfl ?_); refine goesL_ (some 15) rfl rfl Try.func37 (by kernel_rfl) rfl #[.agg #[.int .u64 a0_0, .int .u64 a0_1], .int .u64 a1] rfl (by (try simp only [List.map_toArray, List.map_cons, List.map_nil]); first | done | rfl | (simp only [List.length_drop, List.length_take]; rfl)) ?_; (with_reducible refine (wide_Div.calls a0_0 a0_1 a1 t1788 t1789 t1790 t1791 _ A4.out).mono ?_); rintro e w29 ⟨rfl, hb⟩; refine ⟨_, rfl, ?_⟩; have n0_ := Aside0.mk (blk_below BK1786.out hb); have n1_ := Aside0.mk (below_step (by repeat (first | (with_reducible first | exact HB.out | apply below_alloc | apply pw_below_drewN | apply below_drew1 | refine below_set ?_ GE1786.out) | exact HB.out)) hb); clear BK1786 HB; have BK1786 := n0_; have HB := n1_; clear n0_ n1_; (try clear hb)) | ((with_reducible refine gate_dst (N := 6) rfl ?_); refine box_event ?hg (N := 6) ?hd (cs := #[.int .u64 0, .int .u64 0]) (t := 24) ?hr ?_; (case hd => rfl); (case hg => rfl); (case hr => go_simp); intro gb1792 hg w30 hbox hb; have n0_ := Aside0.mk (blk_below BK1786.out hb); have n1_ := Aside0.mk (below_step (by repeat (first | (with_reducible first | exact HB.out | apply below_alloc | apply pw_below_drewN | apply below_drew1 | refine below_set ?_ GE1786.out) | exact HB.out)) hb); have n2_ := Aside0.mk (hbox); have n3_ := Aside0.mk ((by rw [hg]; exact (below_size (by repeat (first | (with_reducible first | exact HB.out | apply below_alloc | apply pw_below_drewN | apply below_drew1 | refine below_set ?_ GE1786.out) | exact HB.out))) : w.heap.size ≤ gb1792)); have n4_ := Aside0.mk ((by rw [hg]; exact (below_size (by repeat (first | (with_reducible first | exact HB.out | apply below_alloc | apply pw_below_drewN | apply below_drew1 | refine below_set ?_ GE1786.out) | exact HB.out))) : w.heap.size ≤ gb1792)); have n5_ := Aside0.mk ((by rw [hg]; exact Nat.ne_of_lt (blk_lt (g := gb1786) (o := .cells #[.int .u64 a0_0, .int .u64 a0_1] 24 (0, 0)) BK1786.out) : gb1786 ≠ gb1792)); have n6_ := Aside0.mk ((by rw [hg]; exact Nat.ne_of_gt (blk_lt (g := gb1786) (o := .cells #[.int .u64 a0_0, .int .u64 a0_1] 24 (0, 0)) BK1786.out) : gb1792 ≠ gb1786)); clear BK1786 HB; have BK1786 := n0_; have HB := n1_; have BK1792 := n2_; have GW1792 := n3_; have GE1792 := n4_; have NB1786_1792 := n5_; have NB1792_1786 := n6_; clear n0_ n1_ n2_ n3_ n4_ n5_ n6_; clear hb hbox hg; have hnb31 := NB1792_1786.out; have hnc31 := NB1786_1792.out; have hcz32_0 : w30.cell? ⟨gb1792, 0, none⟩ = some (.int .u64 0) := (blk_cell BK1792.out 0).trans rfl; have hcz32_1 : w30.cell? ⟨gb1792, 1, none⟩ = some (.int .u64 0) := (blk_cell BK1792.out 1).trans rfl; have hfz32_0 := blk_frozen BK1792.out 0; have hfz32_1 := blk_frozen BK1792.out 1; have hcz33_0 : w30.cell? ⟨gb1786, 0, none⟩ = some (.int .u64 a0_0) := (blk_cell BK1786.out 0).trans rfl; have hcz33_1 : w30.cell? ⟨gb1786, 1, none⟩ = some (.int .u64 a0_1) := (blk_cell BK1786.out 1).trans rfl; have hfz33_0 := blk_frozen BK1786.out 0; have hfz33_1 := blk_frozen BK1786.out 1) | ((with_reducible refine gate_callee (f := 23) rfl ?_); refine goesL_ (some 37) rfl rfl Try.func23 (by kernel_rfl) rfl #[.agg #[.int .u64 a0_0, .int .u64 a0_1]] rfl (by (try simp only [List.map_toArray, List.map_cons, List.map_nil]); first | done | rfl | (simp only [List.length_drop, List.length_take]; rfl)) ?_; (with_reducible refine (demurrageref01_FromW.calls k a0_0 a0_1 t1812 _ A16.out).mono ?_); rintro e w34 ⟨v1813, rfl, ho0, hb⟩; refine ⟨_, rfl, ?_⟩; have n0_ := Aside0.mk (Kd.R_lower ho0 (below_size (by repeat (first | (with_reducible first | exact HB.out | apply below_alloc | apply pw_below_drewN | apply below_drew1 | refine below_set ?_ GE1786.out | refine below_set ?_ GE1792.out) | exact HB.out)))); have n1_ := Aside0.mk (blk_below (g := gb1786) (o := .cells #[.int .u64 a0_0, .int .u64 a0_1] 24 (0, 0)) (by (with_reducible repeat (first | refine blk_drewN ?_ _ | refine blk_drew ?_ | refine blk_alloc ?_ _)); refine blk_far ?_ NB1786_1792.out _; (with_reducible repeat (first | refine blk_drewN ?_ _ | refine blk_drew ?_ | refine blk_alloc ?_ _)); refine blk_far ?_ NB1786_1792.out _; (with_reducible repeat (first | refine blk_drewN ?_ _ | refine blk_drew ?_ | refine blk_alloc ?_ _)); exact BK1786.out) hb); have n2_ := Aside0.mk (blk_below (g := gb1792) (o := .cells #[.int .u64 t1788, .int .u64 t1789] 24 (0, 0)) (by (with_reducible repeat (first | refine blk_drewN ?_ _ | refine blk_drew ?_ | refine blk_alloc ?_ _)); refine blk_put (cs := #[.int .u64 t1788, .int .u64 0]) ?_ 1 _ rfl; (with_reducible repeat (first | refine blk_drewN ?_ _ | refine blk_drew ?_ | refine blk_alloc ?_ _)); refine blk_put (cs := #[.int .u64 0, .int .u64 0]) ?_ 0 _ rfl; (with_reducible repeat (first | refine blk_drewN ?_ _ | refine blk_drew ?_ | refine blk_alloc ?_ _)); exact BK1792.out) hb); have n3_ := Aside0.mk (below_step (by repeat (first | (with_reducible first | exact HB.out | apply below_alloc | apply pw_below_drewN | apply below_drew1 | refine below_set ?_ GE1786.out | refine below_set ?_ GE1792.out) | exact HB.out)) hb); clear BK1786 BK1792; clear HB; have HO1814 := n0_; have BK1786 := n1_; have BK1792 := n2_; have HB := n3_; clear n0_ n1_ n2_ n3_; (try clear hb); (try clear ho0)) | ((with_reducible refine gate_callee (f := 24) rfl ?_); refine goesL_ (some 39) rfl rfl Try.func24 (by kernel_rfl) rfl #[.int .u64 a1] rfl (by (try simp only [List.map_toArray, List.map_cons, List.map_nil]); first | done | rfl | (simp only [List.length_drop, List.length_take]; rfl)) ?_; (with_reducible refine (demurrageref01_FromU.calls k a1 t1815 _ A17.out).mono ?_); rintro e w35 ⟨v1816, rfl, ho0, hb⟩; refine ⟨_, rfl, ?_⟩; have n0_ := Aside0.mk (Kd.R_elder' HO1814.out (Kd.R_base ho0) hb); have n1_ := Aside0.mk (Kd.R_lower (Kd.R_new' ho0 (Kd.R_lt HO1814.out)) (below_size (by repeat (first | (with_reducible first | exact HB.out | apply below_alloc | apply pw_below_drewN | apply below_drew1 | refine below_set ?_ GE1786.out | refine below_set ?_ GE1792.out) | exact HB.out)))); have n2_ := Aside0.mk (blk_below BK1786.out hb); have n3_ := Aside0.mk (blk_below BK1792.out hb); have n4_ := Aside0.mk (below_step (by repeat (first | (with_reducible first | exact HB.out | apply below_alloc | apply pw_below_drewN | apply below_drew1 | refine below_set ?_ GE1786.out | refine below_set ?_ GE1792.out) | exact HB.out)) hb); clear HO1814 BK1786 BK1792 HB; have HO1814 := n0_; have HO1817 := n1_; have BK1786 := n2_; have BK1792 := n3_; have HB := n4_; clear n0_ n1_ n2_ n3_ n4_; (try clear hb); (try clear ho0); obtain ⟨Ao36, co36, eo36⟩ := Kd.R_slice HO1814.out; subst eo36; obtain ⟨Ao37, co37, eo37⟩ := Kd.R_slice HO1817.out; subst eo37) | ((with_reducible refine gate_callee (f := 38) rfl ?_); refine goesL_ (some 40) rfl rfl Try.func38 (by kernel_rfl) rfl #[.agg #[.slice Ao36 t1812.length co36], .agg #[.slice Ao37 t1815.length co37]] rfl (by (try simp only [List.map_toArray, List.map_cons, List.map_nil]); first | done | rfl | (simp only [List.length_drop, List.length_take]; rfl)) ?_; (with_reducible refine (demurrageref01_Quot.calls k _ _ t1812 _ _ t1815 t1818 t1821 _ ?side1 ?side2 ?side3 ?side4 A18.out).mono ?_); (case side1 => repeat (first | exact (Kd.R_reads' HO1814.out).2.2 | (with_reducible refine Kd.C_alloc ?_ _) | (with_reducible refine Kd.C_drewN ?_ _) | (with_reducible refine Kd.C_drew ?_))); (case side2 => exact (Kd.R_reads' HO1814.out).2.1); (case side3 => repeat (first | exact (Kd.R_reads' HO1817.out).2.2 | (with_reducible refine Kd.C_alloc ?_ _) | (with_reducible refine Kd.C_drewN ?_ _) | (with_reducible refine Kd.C_drew ?_))); (case side4 => exact (Kd.R_reads' HO1817.out).2.1); rintro e w38 ⟨v1819, v1822, rfl, ho0, ho1, hb⟩; refine ⟨_, rfl, ?_⟩; have n0_ := Aside0.mk (Kd.R_mono (Kd.R_told (Kd.R_told (Kd.R_old HO1814.out hb) (Kd.R_base ho0)) (Kd.R_base ho1)) (fun _ h_ => h_.1)); have n1_ := Aside0.mk (Kd.R_mono (Kd.R_told (Kd.R_told (Kd.R_old HO1817.out hb) (Kd.R_base ho0)) (Kd.R_base ho1)) (fun _ h_ => h_.1)); have n2_ := Aside0.mk (Kd.R_lower (Kd.R_new' (Kd.R_new' ho0 (Kd.R_lt HO1814.out)) (Kd.R_lt HO1817.out)) (below_size (by repeat (first | (with_reducible first | exact HB.out | apply below_alloc | apply pw_below_drewN | apply below_drew1 | refine below_set ?_ GE1786.out | refine below_set ?_ GE1792.out) | exact HB.out)))); have n3_ := Aside0.mk (Kd.R_lower (Kd.R_new' (Kd.R_new' ho1 (Kd.R_lt HO1814.out)) (Kd.R_lt HO1817.out)) (below_size (by repeat (first | (with_reducible first | exact HB.out | apply below_alloc | apply pw_below_drewN | apply below_drew1 | refine below_set ?_ GE1786.out | refine below_set ?_ GE1792.out) | exact HB.out)))); have n4_ := Aside0.mk (blk_below BK1786.out hb); have n5_ := Aside0.mk (blk_below BK1792.out hb); have n6_ := Aside0.mk (below_step (by repeat (first | (with_reducible first | exact HB.out | apply below_alloc | apply pw_below_drewN | apply below_drew1 | refine below_set ?_ GE1786.out | refine below_set ?_ GE1792.out) | exact HB.out)) hb); clear HO1814 HO1817 BK1786 BK1792; clear HB; have HO1814 := n0_; have HO1817 := n1_; have HO1820 := n2_; have HO1823 := n3_; have BK1786 := n4_; have BK1792 := n5_; have HB := n6_; clear n0_ n1_ n2_ n3_ n4_ n5_ n6_; (try clear hb); (try clear ho0); (try clear ho1)) | ((with_reducible refine gate_dst (N := 9) rfl ?_); refine box_event ?hg (N := 9) ?hd (cs := #[.slice none 0 0]) (t := 28) ?hr ?_; (case hd => rfl); (case hg => rfl); (case hr => go_simp); intro gb1824 hg w39 hbox hb; have n0_ := Aside0.mk (Kd.R_below HO1814.out hb); have n1_ := Aside0.mk (Kd.R_below HO1817.out hb); have n2_ := Aside0.mk (Kd.R_below HO1820.out hb); have n3_ := Aside0.mk (Kd.R_below HO1823.out hb); have n4_ := Aside0.mk (blk_below BK1786.out hb); have n5_ := Aside0.mk (blk_below BK1792.out hb); have n6_ := Aside0.mk (below_step (by repeat (first | (with_reducible first | exact HB.out | apply below_alloc | apply pw_below_drewN | apply below_drew1 | refine below_set ?_ GE1786.out | refine below_set ?_ GE1792.out) | exact HB.out)) hb); have n7_ := Aside0.mk (hbox); have n8_ := Aside0.mk ((by rw [hg]; exact (below_size (by repeat (first | (with_reducible first | exact HB.out | apply below_alloc | apply pw_below_drewN | apply below_drew1 | refine below_set ?_ GE1786.out | refine below_set ?_ GE1792.out) | exact HB.out))) : w.heap.size ≤ gb1824)); have n9_ := Aside0.mk ((by rw [hg]; exact (below_size (by repeat (first | (with_reducible first | exact HB.out | apply below_alloc | apply pw_below_drewN | apply below_drew1 | refine below_set ?_ GE1786.out | refine below_set ?_ GE1792.out) | exact HB.out))) : w.heap.size ≤ gb1824)); have n10_ := Aside0.mk ((by rw [hg]; exact Nat.ne_of_lt (blk_lt (g := gb1786) (o := .cells #[.int .u64 a0_0, .int .u64 a0_1] 24 (0, 0)) BK1786.out) : gb1786 ≠ gb1824)); have n11_ := Aside0.mk ((by rw [hg]; exact Nat.ne_of_gt (blk_lt (g := gb1786) (o := .cells #[.int .u64 a0_0, .int .u64 a0_1] 24 (0, 0)) BK1786.out) : gb1824 ≠ gb1786)); have n12_ := Aside0.mk ((by rw [hg]; exact Nat.ne_of_lt (blk_lt (g := gb1792) (o := .cells #[.int .u64 t1788, .int .u64 t1789] 24 (0, 0)) BK1792.out) : gb1792 ≠ gb1824)); have n13_ := Aside0.mk ((by rw [hg]; exact Nat.ne_of_gt (blk_lt (g := gb1792) (o := .cells #[.int .u64 t1788, .int .u64 t1789] 24 (0, 0)) BK1792.out) : gb1824 ≠ gb1792)); clear HO1814 HO1817 HO1820 HO1823; clear BK1786 BK1792; clear HB; have HO1814 := n0_; have HO1817 := n1_; have HO1820 := n2_; have HO1823 := n3_; have BK1786 := n4_; have BK1792 := n5_; have HB := n6_; have BK1824 := n7_; have GW1824 := n8_; have GE1824 := n9_; have NB1786_1824 := n10_; have NB1824_1786 := n11_; have NB1792_1824 := n12_; have NB1824_1792 := n13_; clear n0_ n1_ n2_ n3_ n4_ n5_ n6_ n7_ n8_ n9_ n10_ n11_ n12_ n13_; clear hb hbox hg) | ((with_reducible refine gate_dst (N := 10) rfl ?_); refine box_event ?hg (N := 10) ?hd (cs := #[.slice none 0 0]) (t := 28) ?hr ?_; (case hd => rfl); (case hg => rfl); (case hr => go_simp); intro gb1825 hg w40 hbox hb; have n0_ := Aside0.mk (Kd.R_below HO1814.out hb); have n1_ := Aside0.mk (Kd.R_below HO1817.out hb); have n2_ := Aside0.mk (Kd.R_below HO1820.out hb); have n3_ := Aside0.mk (Kd.R_below HO1823.out hb); have n4_ := Aside0.mk (blk_below BK1786.out hb); have n5_ := Aside0.mk (blk_below BK1792.out hb); have n6_ := Aside0.mk (blk_below BK1824.out hb); have n7_ := Aside0.mk (below_step (by repeat (first | (with_reducible first | exact HB.out | apply below_alloc | apply pw_below_drewN | apply below_drew1 | refine below_set ?_ GE1786.out | refine below_set ?_ GE1792.out | refine below_set ?_ GE1824.out) | exact HB.out)) hb); have n8_ := Aside0.mk (hbox); have n9_ := Aside0.mk ((by rw [hg]; exact (below_size (by repeat (first | (with_reducible first | exact HB.out | apply below_alloc | apply pw_below_drewN | apply below_drew1 | refine below_set ?_ GE1786.out | refine below_set ?_ GE1792.out | refine below_set ?_ GE1824.out) | exact HB.out))) : w.heap.size ≤ gb1825)); have n10_ := Aside0.mk ((by rw [hg]; exact (below_size (by repeat (first | (with_reducible first | exact HB.out | apply below_alloc | apply pw_below_drewN | apply below_drew1 | refine below_set ?_ GE1786.out | refine below_set ?_ GE1792.out | refine below_set ?_ GE1824.out) | exact HB.out))) : w.heap.size ≤ gb1825)); have n11_ := Aside0.mk ((by rw [hg]; exact Nat.ne_of_lt (blk_lt (g := gb1786) (o := .cells #[.int .u64 a0_0, .int .u64 a0_1] 24 (0, 0)) BK1786.out) : gb1786 ≠ gb1825)); have n12_ := Aside0.mk ((by rw [hg]; exact Nat.ne_of_gt (blk_lt (g := gb1786) (o := .cells #[.int .u64 a0_0, .int .u64 a0_1] 24 (0, 0)) BK1786.out) : gb1825 ≠ gb1786)); have n13_ := Aside0.mk ((by rw [hg]; exact Nat.ne_of_lt (blk_lt (g := gb1792) (o := .cells #[.int .u64 t1788, .int .u64 t1789] 24 (0, 0)) BK1792.out) : gb1792 ≠ gb1825)); have n14_ := Aside0.mk ((by rw [hg]; exact Nat.ne_of_gt (blk_lt (g := gb1792) (o := .cells #[.int .u64 t1788, .int .u64 t1789] 24 (0, 0)) BK1792.out) : gb1825 ≠ gb1792)); have n15_ := Aside0.mk ((by rw [hg]; exact Nat.ne_of_lt (blk_lt (g := gb1824) (o := .cells #[.slice none 0 0] 28 (0, 0)) BK1824.out) : gb1824 ≠ gb1825)); have n16_ := Aside0.mk ((by rw [hg]; exact Nat.ne_of_gt (blk_lt (g := gb1824) (o := .cells #[.slice none 0 0] 28 (0, 0)) BK1824.out) : gb1825 ≠ gb1824)); clear HO1814 HO1817 HO1820 HO1823; clear BK1786 BK1792 BK1824 HB; have HO1814 := n0_; have HO1817 := n1_; have HO1820 := n2_; have HO1823 := n3_; have BK1786 := n4_; have BK1792 := n5_; have BK1824 := n6_; have HB := n7_; have BK1825 := n8_; have GW1825 := n9_; have GE1825 := n10_; have NB1786_1825 := n11_; have NB1825_1786 := n12_; have NB1792_1825 := n13_; have NB1825_1792 := n14_; have NB1824_1825 := n15_; have NB1825_1824 := n16_; clear n0_ n1_ n2_ n3_ n4_ n5_ n6_ n7_ n8_ n9_ n10_ n11_ n12_ n13_ n14_ n15_ n16_; clear hb hbox hg; obtain ⟨Ao41, co41, eo41⟩ := Kd.R_slice HO1820.out; subst eo41; have hnb42 := NB1824_1786.out; have hnc42 := NB1786_1824.out; have hnb43 := NB1824_1792.out; have hnc43 := NB1792_1824.out; have hnb44 := NB1824_1825.out; have hnc44 := NB1825_1824.out; have hcz45_0 : w40.cell? ⟨gb1824, 0, none⟩ = some (.slice none 0 0) := (blk_cell BK1824.out 0).trans rfl; have hfz45_0 := blk_frozen BK1824.out 0; obtain ⟨Ao46, co46, eo46⟩ := Kd.R_slice HO1823.out; subst eo46; have hnb47 := NB1825_1786.out; have hnc47 := NB1786_1825.out; have hnb48 := NB1825_1792.out; have hnc48 := NB1792_1825.out; have hcz49_0 : w40.cell? ⟨gb1825, 0, none⟩ = some (.slice none 0 0) := (blk_cell BK1825.out 0).trans rfl; have hfz49_0 := blk_frozen BK1825.out 0))
            have n0_ : Aside0 (Kd.R (Kd.int .i64) 3 ((w40.setCell ⟨gb1824, 0, none⟩ (.slice Ao41 t1818.length co41)).setCell ⟨gb1825, 0, none⟩ (.slice Ao46 t1821.length co46)) w.heap.size (fun k_ => some k_ ≠ (.slice Ao37 t1815.length co37 : Value).ownBlock ∧ some k_ ≠ (.slice Ao41 t1818.length co41 : Value).ownBlock ∧ some k_ ≠ (.slice Ao46 t1821.length co46 : Value).ownBlock) (.slice Ao36 t1812.length co36) t1812) := ⟨by (with_reducible repeat (first | apply Kd.R_alloc | apply Kd.R_drewN | apply Kd.R_drew)); exact Kd.R_mono (Kd.R_far (p := ⟨gb1825, 0, none⟩) (Kd.R_far (p := ⟨gb1824, 0, none⟩) (Kd.R_types (Kd.R_types HO1814.out BK1824.out (by decide)) BK1825.out (by decide)) (fun _ hk => hk.1.2) (.slice Ao41 t1818.length co41)) (fun _ hk => hk.2) (.slice Ao46 t1821.length co46)) (fun _ hk => (And.intro (hk.1.1.1.1.2) ((And.intro (hk.1.1.1.2) (hk.1.1.2)))))⟩
            have n1_ : Aside0 (Kd.R (Kd.int .i64) 3 ((w40.setCell ⟨gb1824, 0, none⟩ (.slice Ao41 t1818.length co41)).setCell ⟨gb1825, 0, none⟩ (.slice Ao46 t1821.length co46)) w.heap.size (fun k_ => some k_ ≠ (.slice Ao36 t1812.length co36 : Value).ownBlock ∧ some k_ ≠ (.slice Ao41 t1818.length co41 : Value).ownBlock ∧ some k_ ≠ (.slice Ao46 t1821.length co46 : Value).ownBlock) (.slice Ao37 t1815.length co37) t1815) := ⟨by (with_reducible repeat (first | apply Kd.R_alloc | apply Kd.R_drewN | apply Kd.R_drew)); exact Kd.R_mono (Kd.R_far (p := ⟨gb1825, 0, none⟩) (Kd.R_far (p := ⟨gb1824, 0, none⟩) (Kd.R_types (Kd.R_types HO1817.out BK1824.out (by decide)) BK1825.out (by decide)) (fun _ hk => hk.1.2) (.slice Ao41 t1818.length co41)) (fun _ hk => hk.2) (.slice Ao46 t1821.length co46)) (fun _ hk => (And.intro (hk.1.1.1.1.2) ((And.intro (hk.1.1.1.2) (hk.1.1.2)))))⟩
            have n2_ : Aside0 (Kd.R (Kd.int .i64) 3 ((w40.setCell ⟨gb1824, 0, none⟩ (.slice Ao41 t1818.length co41)).setCell ⟨gb1825, 0, none⟩ (.slice Ao46 t1821.length co46)) w.heap.size (fun k_ => some k_ ≠ (.slice Ao36 t1812.length co36 : Value).ownBlock ∧ some k_ ≠ (.slice Ao37 t1815.length co37 : Value).ownBlock ∧ some k_ ≠ (.slice Ao46 t1821.length co46 : Value).ownBlock) (.slice Ao41 t1818.length co41) t1818) := ⟨by (with_reducible repeat (first | apply Kd.R_alloc | apply Kd.R_drewN | apply Kd.R_drew)); exact Kd.R_mono (Kd.R_far (p := ⟨gb1825, 0, none⟩) (Kd.R_far (p := ⟨gb1824, 0, none⟩) (Kd.R_types (Kd.R_types HO1820.out BK1824.out (by decide)) BK1825.out (by decide)) (fun _ hk => hk.1.2) (.slice Ao41 t1818.length co41)) (fun _ hk => hk.2) (.slice Ao46 t1821.length co46)) (fun _ hk => (And.intro (hk.1.1.1.2) ((And.intro (hk.1.1.2) (hk.1.1.1.1)))))⟩
            have n3_ : Aside0 (Kd.R (Kd.int .i64) 3 ((w40.setCell ⟨gb1824, 0, none⟩ (.slice Ao41 t1818.length co41)).setCell ⟨gb1825, 0, none⟩ (.slice Ao46 t1821.length co46)) w.heap.size (fun k_ => some k_ ≠ (.slice Ao36 t1812.length co36 : Value).ownBlock ∧ some k_ ≠ (.slice Ao37 t1815.length co37 : Value).ownBlock ∧ some k_ ≠ (.slice Ao41 t1818.length co41 : Value).ownBlock) (.slice Ao46 t1821.length co46) t1821) := ⟨by (with_reducible repeat (first | apply Kd.R_alloc | apply Kd.R_drewN | apply Kd.R_drew)); exact Kd.R_mono (Kd.R_far (p := ⟨gb1825, 0, none⟩) (Kd.R_far (p := ⟨gb1824, 0, none⟩) (Kd.R_types (Kd.R_types HO1823.out BK1824.out (by decide)) BK1825.out (by decide)) (fun _ hk => hk.1.2) (.slice Ao41 t1818.length co41)) (fun _ hk => hk.2) (.slice Ao46 t1821.length co46)) (fun _ hk => (And.intro (hk.1.1.1.2) ((And.intro (hk.1.1.2) (hk.1.1.1.1)))))⟩
            have n4_ : Aside0 (((w40.setCell ⟨gb1824, 0, none⟩ (.slice Ao41 t1818.length co41)).setCell ⟨gb1825, 0, none⟩ (.slice Ao46 t1821.length co46)).heap[gb1786]? = some (.cells #[.int .u64 a0_0, .int .u64 a0_1] 24 (0, 0))) := ⟨by (with_reducible repeat (first | refine blk_drewN ?_ _ | refine blk_drew ?_ | refine blk_alloc ?_ _)); refine blk_far ?_ NB1786_1825.out _; (with_reducible repeat (first | refine blk_drewN ?_ _ | refine blk_drew ?_ | refine blk_alloc ?_ _)); refine blk_far ?_ NB1786_1824.out _; (with_reducible repeat (first | refine blk_drewN ?_ _ | refine blk_drew ?_ | refine blk_alloc ?_ _)); exact BK1786.out⟩
            have n5_ : Aside0 (((w40.setCell ⟨gb1824, 0, none⟩ (.slice Ao41 t1818.length co41)).setCell ⟨gb1825, 0, none⟩ (.slice Ao46 t1821.length co46)).heap[gb1792]? = some (.cells #[.int .u64 t1788, .int .u64 t1789] 24 (0, 0))) := ⟨by (with_reducible repeat (first | refine blk_drewN ?_ _ | refine blk_drew ?_ | refine blk_alloc ?_ _)); refine blk_far ?_ NB1792_1825.out _; (with_reducible repeat (first | refine blk_drewN ?_ _ | refine blk_drew ?_ | refine blk_alloc ?_ _)); refine blk_far ?_ NB1792_1824.out _; (with_reducible repeat (first | refine blk_drewN ?_ _ | refine blk_drew ?_ | refine blk_alloc ?_ _)); exact BK1792.out⟩
            have n6_ : Aside0 (((w40.setCell ⟨gb1824, 0, none⟩ (.slice Ao41 t1818.length co41)).setCell ⟨gb1825, 0, none⟩ (.slice Ao46 t1821.length co46)).heap[gb1824]? = some (.cells #[.slice Ao41 t1818.length co41] 28 (0, 0))) := ⟨by (with_reducible repeat (first | refine blk_drewN ?_ _ | refine blk_drew ?_ | refine blk_alloc ?_ _)); refine blk_far ?_ NB1824_1825.out _; (with_reducible repeat (first | refine blk_drewN ?_ _ | refine blk_drew ?_ | refine blk_alloc ?_ _)); refine blk_put (cs := #[.slice none 0 0]) ?_ 0 _ rfl; (with_reducible repeat (first | refine blk_drewN ?_ _ | refine blk_drew ?_ | refine blk_alloc ?_ _)); exact BK1824.out⟩
            have n7_ : Aside0 (((w40.setCell ⟨gb1824, 0, none⟩ (.slice Ao41 t1818.length co41)).setCell ⟨gb1825, 0, none⟩ (.slice Ao46 t1821.length co46)).heap[gb1825]? = some (.cells #[.slice Ao46 t1821.length co46] 28 (0, 0))) := ⟨by (with_reducible repeat (first | refine blk_drewN ?_ _ | refine blk_drew ?_ | refine blk_alloc ?_ _)); refine blk_put (cs := #[.slice none 0 0]) ?_ 0 _ rfl; (with_reducible repeat (first | refine blk_drewN ?_ _ | refine blk_drew ?_ | refine blk_alloc ?_ _)); refine blk_far ?_ NB1825_1824.out _; (with_reducible repeat (first | refine blk_drewN ?_ _ | refine blk_drew ?_ | refine blk_alloc ?_ _)); exact BK1825.out⟩
            have n8_ : Aside0 (Below w.heap.size w ((w40.setCell ⟨gb1824, 0, none⟩ (.slice Ao41 t1818.length co41)).setCell ⟨gb1825, 0, none⟩ (.slice Ao46 t1821.length co46))) := ⟨by repeat (first | (with_reducible first | exact HB.out | apply below_alloc | apply pw_below_drewN | apply below_drew1 | refine below_set ?_ GE1786.out | refine below_set ?_ GE1792.out | refine below_set ?_ GE1824.out | refine below_set ?_ GE1825.out) | exact HB.out)⟩
            (try clear HO1814)
            (try clear HO1817)
            (try clear HO1820)
            (try clear HO1823)
            (try clear BK1786)
            (try clear BK1792)
            (try clear BK1824)
            (try clear BK1825)
            (try clear HB)
            generalize ((w40.setCell ⟨gb1824, 0, none⟩ (.slice Ao41 t1818.length co41)).setCell ⟨gb1825, 0, none⟩ (.slice Ao46 t1821.length co46)) = w50 at n0_ n1_ n2_ n3_ n4_ n5_ n6_ n7_ n8_ ⊢
            have HO1814 := n0_
            have HO1817 := n1_
            have HO1820 := n2_
            have HO1823 := n3_
            have BK1786 := n4_
            have BK1792 := n5_
            have BK1824 := n6_
            have BK1825 := n7_
            have HB := n8_
            clear n0_ n1_ n2_ n3_ n4_ n5_ n6_ n7_ n8_
            have n0_ := Aside0.mk (Kd.R_drew HO1814.out)
            have n1_ := Aside0.mk (Kd.R_drew HO1817.out)
            have n2_ := Aside0.mk (Kd.R_drew HO1820.out)
            have n3_ := Aside0.mk (Kd.R_drew HO1823.out)
            have n4_ := Aside0.mk (blk_drew BK1786.out)
            have n5_ := Aside0.mk (blk_drew BK1792.out)
            have n6_ := Aside0.mk (blk_drew BK1824.out)
            have n7_ := Aside0.mk (blk_drew BK1825.out)
            have n8_ := Aside0.mk (below_drew1 HB.out)
            clear HO1814
            clear HO1817
            clear HO1820
            clear HO1823
            clear BK1786
            clear BK1792
            clear BK1824
            clear BK1825
            clear HB
            have HO1814 := n0_
            have HO1817 := n1_
            have HO1820 := n2_
            have HO1823 := n3_
            have BK1786 := n4_
            have BK1792 := n5_
            have BK1824 := n6_
            have BK1825 := n7_
            have HB := n8_
            clear n0_ n1_ n2_ n3_ n4_ n5_ n6_ n7_ n8_
            refine start_ (n := 23) (S := fun w' => w'.cell? ⟨gb1792, 0, none⟩ = some (.int .u64 t1788) ∧ w'.cell? ⟨gb1792, 1, none⟩ = some (.int .u64 t1789) ∧ w'.cell? ⟨gb1824, 0, none⟩ = some (.slice Ao41 t1818.length co41) ∧ w'.cell? ⟨gb1825, 0, none⟩ = some (.slice Ao46 t1821.length co46)) (ds := []) #[false, false, false, false, false, false, false, false, false, false, false, false, false, false, false, false, false, false, false, false, false, false, false] (by kernel_rfl) rfl rfl ⟨(blk_cell BK1792.out 0).trans rfl, (blk_cell BK1792.out 1).trans rfl, (blk_cell BK1824.out 0).trans rfl, (blk_cell BK1825.out 0).trans rfl⟩ (fun hHeld => ?_); refine with_tabW demurragelaw01_WideDivides.tab6 demurragelaw01_WideDivides.bits6 (fun HT_ HW_ => ?_)
            generalize w50.drew = w51 at HO1814 HO1817 HO1820 HO1823 BK1786 BK1792 BK1824 BK1825 HB hHeld ⊢
            refine pure_ (i := 0) (N := some 43) (v := ?_) (a' := ?_) #[true, false, false, false, false, false, false, false, false, false, false, false, false, false, false, false, false, false, false, false, false, false, false] rfl rfl (any_of HT_.out (by kernel_rfl)) (fun _ _ _ h => h) (Or.inl ⟨by rfl, ?_⟩) ?_ ?_
            rotate_left
            · intro w'
              go_simp
              with_reducible rfl
            rotate_left
            · simp only [Act.put, List.setIfInBounds_toArray, List.set_cons_zero, List.set_cons_succ, i64_w, i32_w]
              rfl
            refine pure_ (i := 1) (N := some 44) (v := ?_) (a' := ?_) #[true, true, false, false, false, false, false, false, false, false, false, false, false, false, false, false, false, false, false, false, false, false, false] rfl rfl (any_of HT_.out (by kernel_rfl)) (fun _ _ _ h => h) (Or.inl ⟨by rfl, ?_⟩) ?_ ?_
            rotate_left
            · intro w'
              go_simp
              with_reducible rfl
            rotate_left
            · simp only [Act.put, List.setIfInBounds_toArray, List.set_cons_zero, List.set_cons_succ, i64_w, i32_w]
              rfl
            refine pure_ (i := 2) (N := some 45) (v := ?_) (a' := ?_) #[true, true, true, false, false, false, false, false, false, false, false, false, false, false, false, false, false, false, false, false, false, false, false] rfl rfl (any_of HT_.out (by kernel_rfl)) (fun _ _ _ h => h) (Or.inl ⟨by rfl, ?_⟩) ?_ ?_
            rotate_left
            · intro w'
              go_simp
              with_reducible rfl
            rotate_left
            · simp only [Act.put, List.setIfInBounds_toArray, List.set_cons_zero, List.set_cons_succ, i64_w, i32_w]
              rfl
            refine pure_ (i := 3) (N := some 46) (v := ?_) (a' := ?_) #[true, true, true, true, false, false, false, false, false, false, false, false, false, false, false, false, false, false, false, false, false, false, false] rfl rfl (any_of HT_.out (by kernel_rfl)) (fun _ _ _ h => h) (Or.inl ⟨by rfl, ?_⟩) ?_ ?_
            rotate_left
            · intro w'
              go_simp
              with_reducible rfl
            rotate_left
            · simp only [Act.put, List.setIfInBounds_toArray, List.set_cons_zero, List.set_cons_succ, i64_w, i32_w]
              rfl
            refine pure_ (i := 4) (N := some 47) (v := ?_) (a' := ?_) #[true, true, true, true, true, false, false, false, false, false, false, false, false, false, false, false, false, false, false, false, false, false, false] rfl rfl (any_of HT_.out (by kernel_rfl)) (fun _ _ _ h => h) (Or.inl ⟨by rfl, ?_⟩) ?_ ?_
            rotate_left
            · intro w'
              go_simp
              with_reducible rfl
            rotate_left
            · simp only [Act.put, List.setIfInBounds_toArray, List.set_cons_zero, List.set_cons_succ, i64_w, i32_w]
              rfl
            refine pure_ (i := 5) (N := some 48) (v := ?_) (a' := ?_) #[true, true, true, true, true, true, false, false, false, false, false, false, false, false, false, false, false, false, false, false, false, false, false] rfl rfl (any_of HT_.out (by kernel_rfl)) (fun _ _ _ h => h) (Or.inl ⟨by rfl, ?_⟩) ?_ ?_
            rotate_left
            · intro w'
              go_simp
              with_reducible rfl
            rotate_left
            · simp only [Act.put, List.setIfInBounds_toArray, List.set_cons_zero, List.set_cons_succ, i64_w, i32_w]
              rfl
            refine pure_ (i := 6) (N := some 49) (v := ?_) (a' := ?_) #[true, true, true, true, true, true, true, false, false, false, false, false, false, false, false, false, false, false, false, false, false, false, false] rfl rfl (any_of HT_.out (by kernel_rfl)) (fun _ _ _ h => h) (Or.inl ⟨by rfl, ?_⟩) ?_ ?_
            rotate_left
            · intro w'
              go_simp
              with_reducible rfl
            rotate_left
            · simp only [Act.put, List.setIfInBounds_toArray, List.set_cons_zero, List.set_cons_succ, i64_w, i32_w]
              rfl
            refine pure_ (i := 7) (N := some 50) (v := ?_) (a' := ?_) #[true, true, true, true, true, true, true, true, false, false, false, false, false, false, false, false, false, false, false, false, false, false, false] rfl rfl (any_of HT_.out (by kernel_rfl)) (fun _ _ _ h => h) (Or.inl ⟨by rfl, ?_⟩) ?_ ?_
            rotate_left
            · intro w'
              go_simp
              with_reducible rfl
            rotate_left
            · simp only [Act.put, List.setIfInBounds_toArray, List.set_cons_zero, List.set_cons_succ, i64_w, i32_w]
              rfl
            refine pure_ (i := 8) (N := some 51) (v := ?_) (a' := ?_) #[true, true, true, true, true, true, true, true, true, false, false, false, false, false, false, false, false, false, false, false, false, false, false] rfl rfl (any_of HT_.out (by kernel_rfl)) (fun _ _ _ h => h) (Or.inl ⟨by rfl, ?_⟩) ?_ ?_
            rotate_left
            · intro w'
              go_simp
              with_reducible rfl
            rotate_left
            · simp only [Act.put, List.setIfInBounds_toArray, List.set_cons_zero, List.set_cons_succ, i64_w, i32_w]
              rfl
            refine pure_ (i := 9) (N := some 52) (v := ?_) (a' := ?_) #[true, true, true, true, true, true, true, true, true, true, false, false, false, false, false, false, false, false, false, false, false, false, false] rfl rfl (any_of HT_.out (by kernel_rfl)) (fun _ _ _ h => h) (Or.inl ⟨by rfl, ?_⟩) ?_ ?_
            rotate_left
            · intro w'
              go_simp
              with_reducible rfl
            rotate_left
            · simp only [Act.put, List.setIfInBounds_toArray, List.set_cons_zero, List.set_cons_succ, i64_w, i32_w]
              rfl
            refine pure_ (i := 10) (N := some 53) (v := ?_) (a' := ?_) #[true, true, true, true, true, true, true, true, true, true, true, false, false, false, false, false, false, false, false, false, false, false, false] rfl rfl (any_of HT_.out (by kernel_rfl)) (fun _ _ _ h => h) (Or.inl ⟨by rfl, ?_⟩) ?_ ?_
            rotate_left
            · intro w'
              go_simp
              with_reducible rfl
            rotate_left
            · simp only [Act.put, List.setIfInBounds_toArray, List.set_cons_zero, List.set_cons_succ, i64_w, i32_w]
              rfl
            refine take_ (i := 11) (N := some 54) (v := ?_) (a' := ?_) #[true, true, true, true, true, true, true, true, true, true, true, true, false, false, false, false, false, false, false, false, false, false, false] rfl rfl (take_ofW HT_.out HW_.out (by kernel_rfl)) (fun _ _ _ h => h) (Or.inl ⟨by rfl, ?_⟩) hHeld ?_ ?_
            rotate_left
            · rintro w' ⟨s0, s1, s2, s3⟩
              go_simp
              with_reducible rfl
            rotate_left
            · simp only [Act.put, List.setIfInBounds_toArray, List.set_cons_zero, List.set_cons_succ, i64_w, i32_w]
              rfl
            refine take_ (i := 12) (N := some 55) (v := ?_) (a' := ?_) #[true, true, true, true, true, true, true, true, true, true, true, true, true, false, false, false, false, false, false, false, false, false, false] rfl rfl (take_ofW HT_.out HW_.out (by kernel_rfl)) (fun _ _ _ h => h) (Or.inl ⟨by rfl, ?_⟩) hHeld ?_ ?_
            rotate_left
            · rintro w' ⟨s0, s1, s2, s3⟩
              go_simp
              with_reducible rfl
            rotate_left
            · simp only [Act.put, List.setIfInBounds_toArray, List.set_cons_zero, List.set_cons_succ, i64_w, i32_w]
              rfl
            refine one_ (i := 13) (N := some 56) #[true, true, true, true, true, true, true, true, true, true, true, true, true, true, false, false, false, false, false, false, false, false, false] rfl rfl (one_of HT_.out (by kernel_rfl)) (by decide) (fun K hK => ?_)
            refine goes_ Try.func32 (by kernel_rfl) rfl #[.agg #[.int .u64 t1788, .int .u64 t1789], .agg #[.slice Ao41 t1818.length co41]] (by rfl) rfl rfl (by (try simp only [List.map_toArray, List.map_cons, List.map_nil]); first | done | rfl | (simp only [List.length_drop, List.length_take]; rfl)) ?_
            with_reducible refine (demurrageref01_Is.calls k t1788 t1789 _ _ t1818 true _ ?side1 ?side2 A22.out).mono ?_
            (case side1 => repeat (first | exact (Kd.R_reads' HO1820.out).2.2 | (with_reducible refine Kd.C_alloc ?_ _) | (with_reducible refine Kd.C_drewN ?_ _) | (with_reducible refine Kd.C_drew ?_)))
            (case side2 => exact (Kd.R_reads' HO1820.out).2.1)
            rintro e w52 ⟨rfl, hb⟩
            refine ⟨_, rfl, ?_⟩
            have n0_ := Aside0.mk (Kd.R_below HO1814.out hb)
            have n1_ := Aside0.mk (Kd.R_below HO1817.out hb)
            have n2_ := Aside0.mk (Kd.R_below HO1820.out hb)
            have n3_ := Aside0.mk (Kd.R_below HO1823.out hb)
            have n4_ := Aside0.mk (blk_below BK1786.out hb)
            have n5_ := Aside0.mk (blk_below BK1792.out hb)
            have n6_ := Aside0.mk (blk_below BK1824.out hb)
            have n7_ := Aside0.mk (blk_below BK1825.out hb)
            have n8_ := Aside0.mk (below_step (by repeat (first | (with_reducible first | exact HB.out | apply below_alloc | apply pw_below_drewN | apply below_drew1 | refine below_set ?_ GE1786.out | refine below_set ?_ GE1792.out | refine below_set ?_ GE1824.out | refine below_set ?_ GE1825.out) | exact HB.out)) hb)
            clear HO1814
            clear HO1817
            clear HO1820
            clear HO1823
            clear BK1786
            clear BK1792
            clear BK1824
            clear BK1825
            clear HB
            have HO1814 := n0_
            have HO1817 := n1_
            have HO1820 := n2_
            have HO1823 := n3_
            have BK1786 := n4_
            have BK1792 := n5_
            have BK1824 := n6_
            have BK1825 := n7_
            have HB := n8_
            clear n0_ n1_ n2_ n3_ n4_ n5_ n6_ n7_ n8_
            (try clear hb)
            (try clear hb2)
            (try clear hk)
            (try clear hi)
            refine hK.out _ _ ⟨(blk_cell BK1792.out 0).trans rfl, (blk_cell BK1792.out 1).trans rfl, (blk_cell BK1824.out 0).trans rfl, (blk_cell BK1825.out 0).trans rfl⟩ (fun hHeld => ?_)
            clear hK K
            refine norm_ (a' := ?_) ?_ ?_
            rotate_left
            · show Act.put _ (some 56) _ = _
              simp only [Act.put, List.setIfInBounds_toArray, List.set_cons_zero, List.set_cons_succ, i64_w, i32_w]
              rfl
            refine pure_ (i := 14) (N := some 57) (v := ?_) (a' := ?_) #[true, true, true, true, true, true, true, true, true, true, true, true, true, true, true, false, false, false, false, false, false, false, false] rfl rfl (any_of HT_.out (by kernel_rfl)) (fun _ _ _ h => h) (Or.inl ⟨by rfl, ?_⟩) ?_ ?_
            rotate_left
            · intro w'
              go_simp
              with_reducible rfl
            rotate_left
            · simp only [Act.put, List.setIfInBounds_toArray, List.set_cons_zero, List.set_cons_succ, i64_w, i32_w]
              rfl
            refine pure_ (i := 15) (N := some 58) (v := ?_) (a' := ?_) #[true, true, true, true, true, true, true, true, true, true, true, true, true, true, true, true, false, false, false, false, false, false, false] rfl rfl (any_of HT_.out (by kernel_rfl)) (fun _ _ _ h => h) (Or.inl ⟨by rfl, ?_⟩) ?_ ?_
            rotate_left
            · intro w'
              go_simp
              with_reducible rfl
            rotate_left
            · simp only [Act.put, List.setIfInBounds_toArray, List.set_cons_zero, List.set_cons_succ, i64_w, i32_w]
              rfl
            refine pure_ (i := 16) (N := some 59) (v := ?_) (a' := ?_) #[true, true, true, true, true, true, true, true, true, true, true, true, true, true, true, true, true, false, false, false, false, false, false] rfl rfl (any_of HT_.out (by kernel_rfl)) (fun _ _ _ h => h) (Or.inl ⟨by rfl, ?_⟩) ?_ ?_
            rotate_left
            · intro w'
              go_simp
              with_reducible rfl
            rotate_left
            · simp only [Act.put, List.setIfInBounds_toArray, List.set_cons_zero, List.set_cons_succ, i64_w, i32_w]
              rfl
            refine take_ (i := 18) (N := some 61) (v := ?_) (a' := ?_) #[true, true, true, true, true, true, true, true, true, true, true, true, true, true, true, true, true, false, true, false, false, false, false] rfl rfl (take_ofW HT_.out HW_.out (by kernel_rfl)) (fun _ _ _ h => h) (Or.inl ⟨by rfl, ?_⟩) hHeld ?_ ?_
            rotate_left
            · rintro w' ⟨s0, s1, s2, s3⟩
              go_simp
              with_reducible rfl
            rotate_left
            · simp only [Act.put, List.setIfInBounds_toArray, List.set_cons_zero, List.set_cons_succ, i64_w, i32_w]
              rfl
            refine one_ (i := 17) (N := some 60) #[true, true, true, true, true, true, true, true, true, true, true, true, true, true, true, true, true, true, true, false, false, false, false] rfl rfl (one_of HT_.out (by kernel_rfl)) (by decide) (fun K hK => ?_)
            refine goes_ Try.func24 (by kernel_rfl) rfl #[.int .u64 t1790] (by rfl) rfl rfl (by (try simp only [List.map_toArray, List.map_cons, List.map_nil]); first | done | rfl | (simp only [List.length_drop, List.length_take]; rfl)) ?_
            with_reducible refine (demurrageref01_FromU.calls k t1790 t1827 _ A24.out).mono ?_
            rintro e w53 ⟨v1828, rfl, ho0, hb⟩
            refine ⟨_, rfl, ?_⟩
            have n0_ := Aside0.mk (Kd.R_elder' HO1814.out (Kd.R_base ho0) hb)
            have n1_ := Aside0.mk (Kd.R_elder' HO1817.out (Kd.R_base ho0) hb)
            have n2_ := Aside0.mk (Kd.R_elder' HO1820.out (Kd.R_base ho0) hb)
            have n3_ := Aside0.mk (Kd.R_elder' HO1823.out (Kd.R_base ho0) hb)
            have n4_ := Aside0.mk (Kd.R_lower (Kd.R_new' (Kd.R_new' (Kd.R_new' (Kd.R_new' ho0 (Kd.R_lt HO1814.out)) (Kd.R_lt HO1817.out)) (Kd.R_lt HO1820.out)) (Kd.R_lt HO1823.out)) (below_size (by repeat (first | (with_reducible first | exact HB.out | apply below_alloc | apply pw_below_drewN | apply below_drew1 | refine below_set ?_ GE1786.out | refine below_set ?_ GE1792.out | refine below_set ?_ GE1824.out | refine below_set ?_ GE1825.out) | exact HB.out))))
            have n5_ := Aside0.mk (blk_below BK1786.out hb)
            have n6_ := Aside0.mk (blk_below BK1792.out hb)
            have n7_ := Aside0.mk (blk_below BK1824.out hb)
            have n8_ := Aside0.mk (blk_below BK1825.out hb)
            have n9_ := Aside0.mk (below_step (by repeat (first | (with_reducible first | exact HB.out | apply below_alloc | apply pw_below_drewN | apply below_drew1 | refine below_set ?_ GE1786.out | refine below_set ?_ GE1792.out | refine below_set ?_ GE1824.out | refine below_set ?_ GE1825.out) | exact HB.out)) hb)
            clear HO1814
            clear HO1817
            clear HO1820
            clear HO1823
            clear BK1786
            clear BK1792
            clear BK1824
            clear BK1825
            clear HB
            have HO1814 := n0_
            have HO1817 := n1_
            have HO1820 := n2_
            have HO1823 := n3_
            have HO1829 := n4_
            have BK1786 := n5_
            have BK1792 := n6_
            have BK1824 := n7_
            have BK1825 := n8_
            have HB := n9_
            clear n0_ n1_ n2_ n3_ n4_ n5_ n6_ n7_ n8_ n9_
            (try clear hb)
            (try clear hb2)
            (try clear hk)
            (try clear hi)
            (try clear ho0)
            obtain ⟨Ao54, co54, eo54⟩ := Kd.R_slice HO1829.out
            (first | subst eo54 | (injection eo54 with f1_ f2_ f3_; have f4_ := f1_.symm; have f5_ := f3_.symm; clear f1_ f2_ f3_; subst f4_; subst f5_))
            refine hK.out _ _ ⟨(blk_cell BK1792.out 0).trans rfl, (blk_cell BK1792.out 1).trans rfl, (blk_cell BK1824.out 0).trans rfl, (blk_cell BK1825.out 0).trans rfl⟩ (fun hHeld => ?_)
            clear hK K
            refine norm_ (a' := ?_) ?_ ?_
            rotate_left
            · show Act.put _ (some 60) _ = _
              simp only [Act.put, List.setIfInBounds_toArray, List.set_cons_zero, List.set_cons_succ, i64_w, i32_w]
              rfl
            refine one_ (i := 19) (N := some 62) #[true, true, true, true, true, true, true, true, true, true, true, true, true, true, true, true, true, true, true, true, false, false, false] rfl rfl (one_of HT_.out (by kernel_rfl)) (by decide) (fun K hK => ?_)
            refine goes_ Try.func31 (by kernel_rfl) rfl #[.agg #[.slice Ao54 t1827.length co54], .agg #[.slice Ao46 t1821.length co46]] (by rfl) rfl rfl (by (try simp only [List.map_toArray, List.map_cons, List.map_nil]); first | done | rfl | (simp only [List.length_drop, List.length_take]; rfl)) ?_
            with_reducible refine (demurrageref01_Cmp.calls k _ _ t1827 _ _ t1821 t1830 _ ?side1 ?side2 ?side3 ?side4 A25.out).mono ?_
            (case side1 => repeat (first | exact (Kd.R_reads' HO1829.out).2.2 | (with_reducible refine Kd.C_alloc ?_ _) | (with_reducible refine Kd.C_drewN ?_ _) | (with_reducible refine Kd.C_drew ?_)))
            (case side2 => exact (Kd.R_reads' HO1829.out).2.1)
            (case side3 => repeat (first | exact (Kd.R_reads' HO1823.out).2.2 | (with_reducible refine Kd.C_alloc ?_ _) | (with_reducible refine Kd.C_drewN ?_ _) | (with_reducible refine Kd.C_drew ?_)))
            (case side4 => exact (Kd.R_reads' HO1823.out).2.1)
            rintro e w55 ⟨rfl, hb⟩
            refine ⟨_, rfl, ?_⟩
            have n0_ := Aside0.mk (Kd.R_below HO1814.out hb)
            have n1_ := Aside0.mk (Kd.R_below HO1817.out hb)
            have n2_ := Aside0.mk (Kd.R_below HO1820.out hb)
            have n3_ := Aside0.mk (Kd.R_below HO1823.out hb)
            have n4_ := Aside0.mk (Kd.R_below HO1829.out hb)
            have n5_ := Aside0.mk (blk_below BK1786.out hb)
            have n6_ := Aside0.mk (blk_below BK1792.out hb)
            have n7_ := Aside0.mk (blk_below BK1824.out hb)
            have n8_ := Aside0.mk (blk_below BK1825.out hb)
            have n9_ := Aside0.mk (below_step (by repeat (first | (with_reducible first | exact HB.out | apply below_alloc | apply pw_below_drewN | apply below_drew1 | refine below_set ?_ GE1786.out | refine below_set ?_ GE1792.out | refine below_set ?_ GE1824.out | refine below_set ?_ GE1825.out) | exact HB.out)) hb)
            clear HO1814
            clear HO1817
            clear HO1820
            clear HO1823
            clear HO1829
            clear BK1786
            clear BK1792
            clear BK1824
            clear BK1825
            clear HB
            have HO1814 := n0_
            have HO1817 := n1_
            have HO1820 := n2_
            have HO1823 := n3_
            have HO1829 := n4_
            have BK1786 := n5_
            have BK1792 := n6_
            have BK1824 := n7_
            have BK1825 := n8_
            have HB := n9_
            clear n0_ n1_ n2_ n3_ n4_ n5_ n6_ n7_ n8_ n9_
            (try clear hb)
            (try clear hb2)
            (try clear hk)
            (try clear hi)
            refine hK.out _ _ ⟨(blk_cell BK1792.out 0).trans rfl, (blk_cell BK1792.out 1).trans rfl, (blk_cell BK1824.out 0).trans rfl, (blk_cell BK1825.out 0).trans rfl⟩ (fun hHeld => ?_)
            clear hK K
            refine norm_ (a' := ?_) ?_ ?_
            rotate_left
            · show Act.put _ (some 62) _ = _
              simp only [Act.put, List.setIfInBounds_toArray, List.set_cons_zero, List.set_cons_succ, i64_w, i32_w]
              rfl
            refine pure_ (i := 20) (N := some 63) (v := ?_) (a' := ?_) #[true, true, true, true, true, true, true, true, true, true, true, true, true, true, true, true, true, true, true, true, true, false, false] rfl rfl (any_of HT_.out (by kernel_rfl)) (fun _ _ _ h => h) (Or.inl ⟨by rfl, ?_⟩) ?_ ?_
            rotate_left
            · intro w'
              go_simp
              with_reducible rfl
            rotate_left
            · simp only [Act.put, List.setIfInBounds_toArray, List.set_cons_zero, List.set_cons_succ, i64_w, i32_w]
              rfl
            refine pure_ (i := 21) (N := some 64) (v := ?_) (a' := ?_) #[true, true, true, true, true, true, true, true, true, true, true, true, true, true, true, true, true, true, true, true, true, true, false] rfl rfl (any_of HT_.out (by kernel_rfl)) (fun _ _ _ h => h) (Or.inl ⟨by rfl, ?_⟩) ?_ ?_
            rotate_left
            · intro w'
              go_simp
              with_reducible rfl
            rotate_left
            · simp only [Act.put, List.setIfInBounds_toArray, List.set_cons_zero, List.set_cons_succ, i64_w, i32_w]
              rfl
            refine pure_ (i := 22) (N := some 4) (v := ?_) (a' := ?_) #[true, true, true, true, true, true, true, true, true, true, true, true, true, true, true, true, true, true, true, true, true, true, true] rfl rfl (any_of HT_.out (by kernel_rfl)) (fun _ _ _ h => h) (Or.inl ⟨by rfl, ?_⟩) ?_ ?_
            rotate_left
            · intro w'
              go_simp
              with_reducible rfl
            rotate_left
            · simp only [Act.put, List.setIfInBounds_toArray, List.set_cons_zero, List.set_cons_succ, i64_w, i32_w]
              rfl
            refine done_ (done_of HT_.out (by kernel_rfl)) ?_
            try go_wp2
            go_ret
            exact ⟨by rfl, by repeat (first | (with_reducible first | exact HB.out | apply below_alloc | apply pw_below_drewN | apply below_drew1 | refine below_set ?_ GE1786.out | refine below_set ?_ GE1792.out | refine below_set ?_ GE1824.out | refine below_set ?_ GE1825.out) | exact HB.out)⟩
          · replace c23 := Bool.eq_false_iff.mpr c23
            subst c23
            have H1 : (none) = some r := by rw [if_neg (show ¬ (false = true) by decide)] at H; exact H
            clear H
            have H := H1
            clear H1
            exact absurd H (by simp)
        · rw [if_neg c21] at H
          exact absurd H (by simp)
      · rw [if_neg c20] at H
        exact absurd H (by simp)
    · replace c19 := Bool.eq_false_iff.mpr c19
      subst c19
      have H1 : (none) = some r := by rw [if_neg (show ¬ (false = true) by decide)] at H; exact H
      clear H
      have H := H1
      clear H1
      exact absurd H (by simp)

end Go.Proofs.Ytcdbmmlnmefoeaa.X
