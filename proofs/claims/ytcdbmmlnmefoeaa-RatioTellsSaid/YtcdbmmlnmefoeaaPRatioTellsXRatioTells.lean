-- CUT by prune.py, a program of this session, to what the claim reaches (out of a text that the kit's printer, the session's programs or the session wrote)
import Derived.Test.YtcdbmmlnmefoeaaPRatioTellsX0
import Derived.Test.YtcdbmmlnmefoeaaPRatioTellsXEq
import Derived.Test.YtcdbmmlnmefoeaaPRatioTellsXBig
import Derived.Test.YtcdbmmlnmefoeaaPRatioTellsXRatio
import Derived.Test.YtcdbmmlnmefoeaaPRatioTellsXRefRight
import Derived.Test.YtcdbmmlnmefoeaaPRatioTellsXRefTwo
import Derived.Test.YtcdbmmlnmefoeaaPRatioTellsXSTwo
import Derived.Test.YtcdbmmlnmefoeaaPRatioTellsHGcd
namespace Go.Proofs.Ytcdbmmlnmefoeaa.X
open Go.RowKit Go.Proofs.YtcdbmmlnmefoeaaW.PrintWords Go.Proofs.YtcdbmmlnmefoeaaW.PrintLast Go.Proofs.YtcdbmmlnmefoeaaW.PrintMore
set_option linter.unusedVariables false
set_option linter.unusedSimpArgs false

attribute [local go_sem high] eqA57
def demurragelaw02_RatioTells.f (k : Nat) (a0_0 : Int) (a0_1 : Int) (a0_2 : Int) (a0_3 : Int) (a0_4 : Int) (a0_5 : Int) : Option (Bool) := (demurragelaw02_shown.f k).bind fun t4607 => ((ratio_New.f k a0_2 a0_3).bind fun bt4608 => ((demurrageref02_New.f k a0_2 a0_3).bind fun bt4612 => ((demurrageref01_FromU.f k a0_4).bind fun t4616 => ((demurrageref01_FromU.f k a0_5).bind fun t4619 => ((demurrageref02_Gcd.f k t4616 t4619).bind fun t4622 => (if t4607 = true then ((ratio_Right.f a0_0 a0_1).bind fun t4626 => ((demurrageref02_Right.f k a0_0 a0_1).bind fun t4627 => (if (t4626 == t4627) = true then (if (bt4608.1 == bt4612.1 && (bt4608.2.1 == bt4612.2.1)) = true then (if bt4608.2.2 = bt4612.2.2 then ((ratio_Gcd.f a0_4 a0_5).bind fun t4628 => ((demurrageref01_FromU.f k t4628).bind fun t4629 => ((demurrageref01_Cmp.f k t4629 t4622).bind fun t4632 => (some (t4632 == 0))))) else (none)) else (none)) else (none)))) else (none)))))))
def demurragelaw02_RatioTells.T10 : Bool × List (List Nat × List Nat) := (true, [([], []), ([0], [0]), ([1], [1]), ([2, 1, 1], [1, 2]), ([1], [1]), ([4, 3, 1], [1, 4]), ([3, 5, 1], [1, 3, 5]), ([1, 6], [1, 6]), ([7, 5], [7]), ([8], [8]), ([8], [8]), ([9, 10, 8], [8, 9, 10]), ([8, 11], [8, 11]), ([12, 8], [12]), ([13], [13]), ([13], [13]), ([14, 15, 13], [13, 14, 15]), ([13, 16], [13, 16]), ([17, 13], [17]), ([18], [18]), ([18], [18]), ([19, 20, 18, 18], [18, 19, 20]), ([21, 21, 18], [18, 21]), ([18], [18]), ([22, 23, 22, 18], [18, 22, 23]), ([24, 18], [18, 24]), ([18, 25], [18, 25]), ([26, 24, 0, 1, 2, 3, 4, 5, 6, 7, 8, 9, 10, 11, 12, 13, 14, 15, 16, 17, 18, 19, 20, 21, 22, 23, 24, 25, 26], [26])])
def demurragelaw02_RatioTells.B10 : List Nat := [0, 1, 3, 7, 3, 31, 63, 127, 255, 511, 511, 2047, 4095, 8191, 16383, 16383, 65535, 131071, 262143, 524287, 524287, 2097151, 4194303, 524287, 16777215, 33554431, 67108863, 134217727]
theorem demurragelaw02_RatioTells.tab10 : rtab .any (opsOf Try.f10 10) = demurragelaw02_RatioTells.T10 := by kernel_rfl
theorem demurragelaw02_RatioTells.bits10 : waitsOk demurragelaw02_RatioTells.T10.2 demurragelaw02_RatioTells.B10 = true := by kernel_rfl
set_option maxHeartbeats 8000000 in
set_option maxRecDepth 100000 in
theorem demurragelaw02_RatioTells.calls (k : Nat) (a0_0 : Int) (a0_1 : Int) (a0_2 : Int) (a0_3 : Int) (a0_4 : Int) (a0_5 : Int) (r : Bool) (w : World) (h : demurragelaw02_RatioTells.f k a0_0 a0_1 a0_2 a0_3 a0_4 a0_5 = some r) :
    Calls Try.prog 10 #[.agg #[.int .i64 a0_0, .int .i64 a0_1, .int .i64 a0_2, .int .i64 a0_3, .int .u64 a0_4, .int .u64 a0_5]] w fun e w' => e = .returned (.bool r) ∧ Below w.heap.size w w' := by
  have hu59 := Try.underlying59
  have hu57 := Try.underlying57
  have hu28 := Try.underlying28
  have HB := Aside0.mk (Below.refl w.heap.size w)
  have H : ((demurragelaw02_shown.f k).bind fun t4607 => ((ratio_New.f k a0_2 a0_3).bind fun bt4608 => ((demurrageref02_New.f k a0_2 a0_3).bind fun bt4612 => ((demurrageref01_FromU.f k a0_4).bind fun t4616 => ((demurrageref01_FromU.f k a0_5).bind fun t4619 => ((demurrageref02_Gcd.f k t4616 t4619).bind fun t4622 => (if t4607 = true then ((ratio_Right.f a0_0 a0_1).bind fun t4626 => ((demurrageref02_Right.f k a0_0 a0_1).bind fun t4627 => (if (t4626 == t4627) = true then (if (bt4608.1 == bt4612.1 && (bt4608.2.1 == bt4612.2.1)) = true then (if bt4608.2.2 = bt4612.2.2 then ((ratio_Gcd.f a0_4 a0_5).bind fun t4628 => ((demurrageref01_FromU.f k t4628).bind fun t4629 => ((demurrageref01_Cmp.f k t4629 t4622).bind fun t4632 => (some (t4632 == 0))))) else (none)) else (none)) else (none)))) else (none)))))))) = some r := h
  clear h
  replace H := Option.bind_eq_some_iff.mp H
  obtain ⟨t4607, A20, H⟩ := H
  replace H : ((ratio_New.f k a0_2 a0_3).bind fun bt4608 => ((demurrageref02_New.f k a0_2 a0_3).bind fun bt4612 => ((demurrageref01_FromU.f k a0_4).bind fun t4616 => ((demurrageref01_FromU.f k a0_5).bind fun t4619 => ((demurrageref02_Gcd.f k t4616 t4619).bind fun t4622 => (if t4607 = true then ((ratio_Right.f a0_0 a0_1).bind fun t4626 => ((demurrageref02_Right.f k a0_0 a0_1).bind fun t4627 => (if (t4626 == t4627) = true then (if (bt4608.1 == bt4612.1 && (bt4608.2.1 == bt4612.2.1)) = true then (if bt4608.2.2 = bt4612.2.2 then ((ratio_Gcd.f a0_4 a0_5).bind fun t4628 => ((demurrageref01_FromU.f k t4628).bind fun t4629 => ((demurrageref01_Cmp.f k t4629 t4622).bind fun t4632 => (some (t4632 == 0))))) else (none)) else (none)) else (none)))) else (none))))))) = some r := H
  have A2 := Aside0.mk A20
  clear A20
  replace H := Option.bind_eq_some_iff.mp H
  obtain ⟨⟨t4608, t4609, t4610⟩, A30, H⟩ := H
  replace H : ((demurrageref02_New.f k a0_2 a0_3).bind fun bt4612 => ((demurrageref01_FromU.f k a0_4).bind fun t4616 => ((demurrageref01_FromU.f k a0_5).bind fun t4619 => ((demurrageref02_Gcd.f k t4616 t4619).bind fun t4622 => (if t4607 = true then ((ratio_Right.f a0_0 a0_1).bind fun t4626 => ((demurrageref02_Right.f k a0_0 a0_1).bind fun t4627 => (if (t4626 == t4627) = true then (if (t4608 == bt4612.1 && (t4609 == bt4612.2.1)) = true then (if t4610 = bt4612.2.2 then ((ratio_Gcd.f a0_4 a0_5).bind fun t4628 => ((demurrageref01_FromU.f k t4628).bind fun t4629 => ((demurrageref01_Cmp.f k t4629 t4622).bind fun t4632 => (some (t4632 == 0))))) else (none)) else (none)) else (none)))) else (none)))))) = some r := H
  have A3 := Aside0.mk A30
  clear A30
  replace H := Option.bind_eq_some_iff.mp H
  obtain ⟨⟨t4612, t4613, t4614⟩, A40, H⟩ := H
  replace H : ((demurrageref01_FromU.f k a0_4).bind fun t4616 => ((demurrageref01_FromU.f k a0_5).bind fun t4619 => ((demurrageref02_Gcd.f k t4616 t4619).bind fun t4622 => (if t4607 = true then ((ratio_Right.f a0_0 a0_1).bind fun t4626 => ((demurrageref02_Right.f k a0_0 a0_1).bind fun t4627 => (if (t4626 == t4627) = true then (if (t4608 == t4612 && (t4609 == t4613)) = true then (if t4610 = t4614 then ((ratio_Gcd.f a0_4 a0_5).bind fun t4628 => ((demurrageref01_FromU.f k t4628).bind fun t4629 => ((demurrageref01_Cmp.f k t4629 t4622).bind fun t4632 => (some (t4632 == 0))))) else (none)) else (none)) else (none)))) else (none))))) = some r := H
  have A4 := Aside0.mk A40
  clear A40
  replace H := Option.bind_eq_some_iff.mp H
  obtain ⟨t4616, A50, H⟩ := H
  replace H : ((demurrageref01_FromU.f k a0_5).bind fun t4619 => ((demurrageref02_Gcd.f k t4616 t4619).bind fun t4622 => (if t4607 = true then ((ratio_Right.f a0_0 a0_1).bind fun t4626 => ((demurrageref02_Right.f k a0_0 a0_1).bind fun t4627 => (if (t4626 == t4627) = true then (if (t4608 == t4612 && (t4609 == t4613)) = true then (if t4610 = t4614 then ((ratio_Gcd.f a0_4 a0_5).bind fun t4628 => ((demurrageref01_FromU.f k t4628).bind fun t4629 => ((demurrageref01_Cmp.f k t4629 t4622).bind fun t4632 => (some (t4632 == 0))))) else (none)) else (none)) else (none)))) else (none)))) = some r := H
  have A5 := Aside0.mk A50
  clear A50
  replace H := Option.bind_eq_some_iff.mp H
  obtain ⟨t4619, A60, H⟩ := H
  replace H : ((demurrageref02_Gcd.f k t4616 t4619).bind fun t4622 => (if t4607 = true then ((ratio_Right.f a0_0 a0_1).bind fun t4626 => ((demurrageref02_Right.f k a0_0 a0_1).bind fun t4627 => (if (t4626 == t4627) = true then (if (t4608 == t4612 && (t4609 == t4613)) = true then (if t4610 = t4614 then ((ratio_Gcd.f a0_4 a0_5).bind fun t4628 => ((demurrageref01_FromU.f k t4628).bind fun t4629 => ((demurrageref01_Cmp.f k t4629 t4622).bind fun t4632 => (some (t4632 == 0))))) else (none)) else (none)) else (none)))) else (none))) = some r := H
  have A6 := Aside0.mk A60
  clear A60
  replace H := Option.bind_eq_some_iff.mp H
  obtain ⟨t4622, A70, H⟩ := H
  replace H : (if t4607 = true then ((ratio_Right.f a0_0 a0_1).bind fun t4626 => ((demurrageref02_Right.f k a0_0 a0_1).bind fun t4627 => (if (t4626 == t4627) = true then (if (t4608 == t4612 && (t4609 == t4613)) = true then (if t4610 = t4614 then ((ratio_Gcd.f a0_4 a0_5).bind fun t4628 => ((demurrageref01_FromU.f k t4628).bind fun t4629 => ((demurrageref01_Cmp.f k t4629 t4622).bind fun t4632 => (some (t4632 == 0))))) else (none)) else (none)) else (none)))) else (none)) = some r := H
  have A7 := Aside0.mk A70
  clear A70
  by_cases c8 : t4607 = true
  · subst c8
    have H1 : ((ratio_Right.f a0_0 a0_1).bind fun t4626 => ((demurrageref02_Right.f k a0_0 a0_1).bind fun t4627 => (if (t4626 == t4627) = true then (if (t4608 == t4612 && (t4609 == t4613)) = true then (if t4610 = t4614 then ((ratio_Gcd.f a0_4 a0_5).bind fun t4628 => ((demurrageref01_FromU.f k t4628).bind fun t4629 => ((demurrageref01_Cmp.f k t4629 t4622).bind fun t4632 => (some (t4632 == 0))))) else (none)) else (none)) else (none)))) = some r := by rw [if_pos rfl] at H; exact H
    clear H
    have H := H1
    clear H1
    replace H := Option.bind_eq_some_iff.mp H
    obtain ⟨t4626, A90, H⟩ := H
    replace H : ((demurrageref02_Right.f k a0_0 a0_1).bind fun t4627 => (if (t4626 == t4627) = true then (if (t4608 == t4612 && (t4609 == t4613)) = true then (if t4610 = t4614 then ((ratio_Gcd.f a0_4 a0_5).bind fun t4628 => ((demurrageref01_FromU.f k t4628).bind fun t4629 => ((demurrageref01_Cmp.f k t4629 t4622).bind fun t4632 => (some (t4632 == 0))))) else (none)) else (none)) else (none))) = some r := H
    have A9 := Aside0.mk A90
    clear A90
    replace H := Option.bind_eq_some_iff.mp H
    obtain ⟨t4627, A100, H⟩ := H
    replace H : (if (t4626 == t4627) = true then (if (t4608 == t4612 && (t4609 == t4613)) = true then (if t4610 = t4614 then ((ratio_Gcd.f a0_4 a0_5).bind fun t4628 => ((demurrageref01_FromU.f k t4628).bind fun t4629 => ((demurrageref01_Cmp.f k t4629 t4622).bind fun t4632 => (some (t4632 == 0))))) else (none)) else (none)) else (none)) = some r := H
    have A10 := Aside0.mk A100
    clear A100
    by_cases c11 : (t4626 == t4627) = true
    · rw [if_pos c11] at H
      have c11b0 : (t4626 == t4627) = true := c11
      (try (have c11b1 : decide (t4626 = t4627) = true := by simpa using c11))
      (try (have c11b2 : (t4626 == t4627) = true := by simpa using c11))
      clear c11
      by_cases c12 : (t4608 == t4612 && (t4609 == t4613)) = true
      · rw [if_pos c12] at H
        have c12b0 : (t4608 == t4612 && (t4609 == t4613)) = true := c12
        (try (have c12b1 : decide (t4608 = t4612 && (t4609 == t4613)) = true := by simpa using c12))
        (try (have c12b2 : (t4608 == t4612 && (t4609 == t4613)) = true := by simpa using c12))
        clear c12
        by_cases c13 : t4610 = t4614
        · rw [if_pos c13] at H
          have c13b0 : (t4610 == t4614) = true := beq_iff_eq.mpr c13
          have c13b1 : (t4610 != t4614) = false := bne_eq_false_iff_eq.mpr c13
          clear c13
          replace H := Option.bind_eq_some_iff.mp H
          obtain ⟨t4628, A140, H⟩ := H
          replace H : ((demurrageref01_FromU.f k t4628).bind fun t4629 => ((demurrageref01_Cmp.f k t4629 t4622).bind fun t4632 => (some (t4632 == 0)))) = some r := H
          have A14 := Aside0.mk A140
          clear A140
          replace H := Option.bind_eq_some_iff.mp H
          obtain ⟨t4629, A150, H⟩ := H
          replace H : ((demurrageref01_Cmp.f k t4629 t4622).bind fun t4632 => (some (t4632 == 0))) = some r := H
          have A15 := Aside0.mk A150
          clear A150
          replace H := Option.bind_eq_some_iff.mp H
          obtain ⟨t4632, A160, H⟩ := H
          replace H : (some (t4632 == 0)) = some r := H
          have A16 := Aside0.mk A160
          clear A160
          obtain rfl := Option.some.inj H
          go_enter Try.func10, Try.ntmps10
          try go_wp2_with (first | ((with_reducible refine gate_dst (N := 1) rfl ?_); refine box_event ?hg (N := 1) ?hd (cs := #[.int .i64 a0_0, .int .i64 a0_1, .int .i64 a0_2, .int .i64 a0_3, .int .u64 a0_4, .int .u64 a0_5]) (t := 59) ?hr ?_; (case hd => rfl); (case hg => rfl); (case hr => go_simp); intro gb4605 hg w17 hbox hb; have n0_ := Aside0.mk (below_step (by repeat (first | (with_reducible first | exact HB.out | apply below_alloc | apply pw_below_drewN | apply below_drew1) | exact HB.out)) hb); have n1_ := Aside0.mk (hbox); have n2_ := Aside0.mk ((by rw [hg]; exact (below_size (by repeat (first | (with_reducible first | exact HB.out | apply below_alloc | apply pw_below_drewN | apply below_drew1) | exact HB.out))) : w.heap.size ≤ gb4605)); have n3_ := Aside0.mk ((by rw [hg]; exact (below_size (by repeat (first | (with_reducible first | exact HB.out | apply below_alloc | apply pw_below_drewN | apply below_drew1) | exact HB.out))) : w.heap.size ≤ gb4605)); clear HB; have HB := n0_; have BK4605 := n1_; have GW4605 := n2_; have GE4605 := n3_; clear n0_ n1_ n2_ n3_; clear hb hbox hg; have hcz18_0 : w17.cell? ⟨gb4605, 0, none⟩ = some (.int .i64 a0_0) := (blk_cell BK4605.out 0).trans rfl; have hcz18_1 : w17.cell? ⟨gb4605, 1, none⟩ = some (.int .i64 a0_1) := (blk_cell BK4605.out 1).trans rfl; have hcz18_2 : w17.cell? ⟨gb4605, 2, none⟩ = some (.int .i64 a0_2) := (blk_cell BK4605.out 2).trans rfl; have hcz18_3 : w17.cell? ⟨gb4605, 3, none⟩ = some (.int .i64 a0_3) := (blk_cell BK4605.out 3).trans rfl; have hcz18_4 : w17.cell? ⟨gb4605, 4, none⟩ = some (.int .u64 a0_4) := (blk_cell BK4605.out 4).trans rfl; have hcz18_5 : w17.cell? ⟨gb4605, 5, none⟩ = some (.int .u64 a0_5) := (blk_cell BK4605.out 5).trans rfl; have hfz18_0 := blk_frozen BK4605.out 0; have hfz18_1 := blk_frozen BK4605.out 1; have hfz18_2 := blk_frozen BK4605.out 2; have hfz18_3 := blk_frozen BK4605.out 3; have hfz18_4 := blk_frozen BK4605.out 4; have hfz18_5 := blk_frozen BK4605.out 5) | ((with_reducible refine gate_dst (N := 3) rfl ?_); refine box_event ?hg (N := 3) ?hd (cs := #[.int .i64 0, .int .i64 0]) (t := 57) ?hr ?_; (case hd => rfl); (case hg => rfl); (case hr => go_simp); intro gb4606 hg w19 hbox hb; have n0_ := Aside0.mk (blk_below BK4605.out hb); have n1_ := Aside0.mk (below_step (by repeat (first | (with_reducible first | exact HB.out | apply below_alloc | apply pw_below_drewN | apply below_drew1 | refine below_set ?_ GE4605.out) | exact HB.out)) hb); have n2_ := Aside0.mk (hbox); have n3_ := Aside0.mk ((by rw [hg]; exact (below_size (by repeat (first | (with_reducible first | exact HB.out | apply below_alloc | apply pw_below_drewN | apply below_drew1 | refine below_set ?_ GE4605.out) | exact HB.out))) : w.heap.size ≤ gb4606)); have n4_ := Aside0.mk ((by rw [hg]; exact (below_size (by repeat (first | (with_reducible first | exact HB.out | apply below_alloc | apply pw_below_drewN | apply below_drew1 | refine below_set ?_ GE4605.out) | exact HB.out))) : w.heap.size ≤ gb4606)); have n5_ := Aside0.mk ((by rw [hg]; exact Nat.ne_of_lt (blk_lt (g := gb4605) (o := .cells #[.int .i64 a0_0, .int .i64 a0_1, .int .i64 a0_2, .int .i64 a0_3, .int .u64 a0_4, .int .u64 a0_5] 59 (0, 0)) BK4605.out) : gb4605 ≠ gb4606)); have n6_ := Aside0.mk ((by rw [hg]; exact Nat.ne_of_gt (blk_lt (g := gb4605) (o := .cells #[.int .i64 a0_0, .int .i64 a0_1, .int .i64 a0_2, .int .i64 a0_3, .int .u64 a0_4, .int .u64 a0_5] 59 (0, 0)) BK4605.out) : gb4606 ≠ gb4605)); clear BK4605 HB; have BK4605 := n0_; have HB := n1_; have BK4606 := n2_; have GW4606 := n3_; have GE4606 := n4_; have NB4605_4606 := n5_; have NB4606_4605 := n6_; clear n0_ n1_ n2_ n3_ n4_ n5_ n6_; clear hb hbox hg; have hnb20 := NB4606_4605.out; have hnc20 := NB4605_4606.out; have hcz21_0 : w19.cell? ⟨gb4606, 0, none⟩ = some (.int .i64 0) := (blk_cell BK4606.out 0).trans rfl; have hcz21_1 : w19.cell? ⟨gb4606, 1, none⟩ = some (.int .i64 0) := (blk_cell BK4606.out 1).trans rfl; have hfz21_0 := blk_frozen BK4606.out 0; have hfz21_1 := blk_frozen BK4606.out 1; have hcz22_0 : w19.cell? ⟨gb4605, 0, none⟩ = some (.int .i64 a0_0) := (blk_cell BK4605.out 0).trans rfl; have hcz22_1 : w19.cell? ⟨gb4605, 1, none⟩ = some (.int .i64 a0_1) := (blk_cell BK4605.out 1).trans rfl; have hcz22_2 : w19.cell? ⟨gb4605, 2, none⟩ = some (.int .i64 a0_2) := (blk_cell BK4605.out 2).trans rfl; have hcz22_3 : w19.cell? ⟨gb4605, 3, none⟩ = some (.int .i64 a0_3) := (blk_cell BK4605.out 3).trans rfl; have hcz22_4 : w19.cell? ⟨gb4605, 4, none⟩ = some (.int .u64 a0_4) := (blk_cell BK4605.out 4).trans rfl; have hcz22_5 : w19.cell? ⟨gb4605, 5, none⟩ = some (.int .u64 a0_5) := (blk_cell BK4605.out 5).trans rfl; have hfz22_0 := blk_frozen BK4605.out 0; have hfz22_1 := blk_frozen BK4605.out 1; have hfz22_2 := blk_frozen BK4605.out 2; have hfz22_3 := blk_frozen BK4605.out 3; have hfz22_4 := blk_frozen BK4605.out 4; have hfz22_5 := blk_frozen BK4605.out 5) | ((with_reducible refine gate_callee (f := 39) rfl ?_); refine goesL_ (some 24) rfl rfl Try.func39 (by kernel_rfl) rfl #[] rfl (by (try simp only [List.map_toArray, List.map_cons, List.map_nil]); first | done | rfl | (simp only [List.length_drop, List.length_take]; rfl)) ?_; (with_reducible refine (demurragelaw02_shown.calls k  true _ A2.out).mono ?_); rintro e w23 ⟨rfl, hb⟩; refine ⟨_, rfl, ?_⟩; have n0_ := Aside0.mk (blk_below (g := gb4605) (o := .cells #[.int .i64 a0_0, .int .i64 a0_1, .int .i64 a0_2, .int .i64 a0_3, .int .u64 a0_4, .int .u64 a0_5] 59 (0, 0)) (by (with_reducible repeat (first | refine blk_drewN ?_ _ | refine blk_drew ?_ | refine blk_alloc ?_ _)); refine blk_far ?_ NB4605_4606.out _; (with_reducible repeat (first | refine blk_drewN ?_ _ | refine blk_drew ?_ | refine blk_alloc ?_ _)); refine blk_far ?_ NB4605_4606.out _; (with_reducible repeat (first | refine blk_drewN ?_ _ | refine blk_drew ?_ | refine blk_alloc ?_ _)); exact BK4605.out) hb); have n1_ := Aside0.mk (blk_below (g := gb4606) (o := .cells #[.int .i64 a0_0, .int .i64 a0_1] 57 (0, 0)) (by (with_reducible repeat (first | refine blk_drewN ?_ _ | refine blk_drew ?_ | refine blk_alloc ?_ _)); refine blk_put (cs := #[.int .i64 a0_0, .int .i64 0]) ?_ 1 _ rfl; (with_reducible repeat (first | refine blk_drewN ?_ _ | refine blk_drew ?_ | refine blk_alloc ?_ _)); refine blk_put (cs := #[.int .i64 0, .int .i64 0]) ?_ 0 _ rfl; (with_reducible repeat (first | refine blk_drewN ?_ _ | refine blk_drew ?_ | refine blk_alloc ?_ _)); exact BK4606.out) hb); have n2_ := Aside0.mk (below_step (by repeat (first | (with_reducible first | exact HB.out | apply below_alloc | apply pw_below_drewN | apply below_drew1 | refine below_set ?_ GE4605.out | refine below_set ?_ GE4606.out) | exact HB.out)) hb); clear BK4605 BK4606; clear HB; have BK4605 := n0_; have BK4606 := n1_; have HB := n2_; clear n0_ n1_ n2_; (try clear hb)) | ((with_reducible refine gate_callee (f := 40) rfl ?_); refine goesL_ (some 28) rfl rfl Try.func40 (by kernel_rfl) rfl #[.int .i64 a0_2, .int .i64 a0_3] rfl (by (try simp only [List.map_toArray, List.map_cons, List.map_nil]); first | done | rfl | (simp only [List.length_drop, List.length_take]; rfl)) ?_; (with_reducible refine (ratio_New.calls k a0_2 a0_3 t4608 t4609 t4610 _ A3.out).mono ?_); rintro e w24 ⟨rfl, hb⟩; refine ⟨_, rfl, ?_⟩; have n0_ := Aside0.mk (blk_below BK4605.out hb); have n1_ := Aside0.mk (blk_below BK4606.out hb); have n2_ := Aside0.mk (below_step (by repeat (first | (with_reducible first | exact HB.out | apply below_alloc | apply pw_below_drewN | apply below_drew1 | refine below_set ?_ GE4605.out | refine below_set ?_ GE4606.out) | exact HB.out)) hb); clear BK4605 BK4606; clear HB; have BK4605 := n0_; have BK4606 := n1_; have HB := n2_; clear n0_ n1_ n2_; (try clear hb)) | ((with_reducible refine gate_dst (N := 9) rfl ?_); refine box_event ?hg (N := 9) ?hd (cs := #[.int .i64 0, .int .i64 0]) (t := 57) ?hr ?_; (case hd => rfl); (case hg => rfl); (case hr => go_simp); intro gb4611 hg w25 hbox hb; have n0_ := Aside0.mk (blk_below BK4605.out hb); have n1_ := Aside0.mk (blk_below BK4606.out hb); have n2_ := Aside0.mk (below_step (by repeat (first | (with_reducible first | exact HB.out | apply below_alloc | apply pw_below_drewN | apply below_drew1 | refine below_set ?_ GE4605.out | refine below_set ?_ GE4606.out) | exact HB.out)) hb); have n3_ := Aside0.mk (hbox); have n4_ := Aside0.mk ((by rw [hg]; exact (below_size (by repeat (first | (with_reducible first | exact HB.out | apply below_alloc | apply pw_below_drewN | apply below_drew1 | refine below_set ?_ GE4605.out | refine below_set ?_ GE4606.out) | exact HB.out))) : w.heap.size ≤ gb4611)); have n5_ := Aside0.mk ((by rw [hg]; exact (below_size (by repeat (first | (with_reducible first | exact HB.out | apply below_alloc | apply pw_below_drewN | apply below_drew1 | refine below_set ?_ GE4605.out | refine below_set ?_ GE4606.out) | exact HB.out))) : w.heap.size ≤ gb4611)); have n6_ := Aside0.mk ((by rw [hg]; exact Nat.ne_of_lt (blk_lt (g := gb4605) (o := .cells #[.int .i64 a0_0, .int .i64 a0_1, .int .i64 a0_2, .int .i64 a0_3, .int .u64 a0_4, .int .u64 a0_5] 59 (0, 0)) BK4605.out) : gb4605 ≠ gb4611)); have n7_ := Aside0.mk ((by rw [hg]; exact Nat.ne_of_gt (blk_lt (g := gb4605) (o := .cells #[.int .i64 a0_0, .int .i64 a0_1, .int .i64 a0_2, .int .i64 a0_3, .int .u64 a0_4, .int .u64 a0_5] 59 (0, 0)) BK4605.out) : gb4611 ≠ gb4605)); have n8_ := Aside0.mk ((by rw [hg]; exact Nat.ne_of_lt (blk_lt (g := gb4606) (o := .cells #[.int .i64 a0_0, .int .i64 a0_1] 57 (0, 0)) BK4606.out) : gb4606 ≠ gb4611)); have n9_ := Aside0.mk ((by rw [hg]; exact Nat.ne_of_gt (blk_lt (g := gb4606) (o := .cells #[.int .i64 a0_0, .int .i64 a0_1] 57 (0, 0)) BK4606.out) : gb4611 ≠ gb4606)); clear BK4605 BK4606; clear HB; have BK4605 := n0_; have BK4606 := n1_; have HB := n2_; have BK4611 := n3_; have GW4611 := n4_; have GE4611 := n5_; have NB4605_4611 := n6_; have NB4611_4605 := n7_; have NB4606_4611 := n8_; have NB4611_4606 := n9_; clear n0_ n1_ n2_ n3_ n4_ n5_ n6_ n7_ n8_ n9_; clear hb hbox hg; have hnb26 := NB4611_4605.out; have hnc26 := NB4605_4611.out; have hnb27 := NB4611_4606.out; have hnc27 := NB4606_4611.out; have hcz28_0 : w25.cell? ⟨gb4611, 0, none⟩ = some (.int .i64 0) := (blk_cell BK4611.out 0).trans rfl; have hcz28_1 : w25.cell? ⟨gb4611, 1, none⟩ = some (.int .i64 0) := (blk_cell BK4611.out 1).trans rfl; have hfz28_0 := blk_frozen BK4611.out 0; have hfz28_1 := blk_frozen BK4611.out 1) | ((with_reducible refine gate_callee (f := 41) rfl ?_); refine goesL_ (some 34) rfl rfl Try.func41 (by kernel_rfl) rfl #[.int .i64 a0_2, .int .i64 a0_3] rfl (by (try simp only [List.map_toArray, List.map_cons, List.map_nil]); first | done | rfl | (simp only [List.length_drop, List.length_take]; rfl)) ?_; (with_reducible refine (demurrageref02_New.calls k a0_2 a0_3 t4612 t4613 t4614 _ A4.out).mono ?_); rintro e w29 ⟨rfl, hb⟩; refine ⟨_, rfl, ?_⟩; have n0_ := Aside0.mk (blk_below (g := gb4605) (o := .cells #[.int .i64 a0_0, .int .i64 a0_1, .int .i64 a0_2, .int .i64 a0_3, .int .u64 a0_4, .int .u64 a0_5] 59 (0, 0)) (by (with_reducible repeat (first | refine blk_drewN ?_ _ | refine blk_drew ?_ | refine blk_alloc ?_ _)); refine blk_far ?_ NB4605_4611.out _; (with_reducible repeat (first | refine blk_drewN ?_ _ | refine blk_drew ?_ | refine blk_alloc ?_ _)); refine blk_far ?_ NB4605_4611.out _; (with_reducible repeat (first | refine blk_drewN ?_ _ | refine blk_drew ?_ | refine blk_alloc ?_ _)); exact BK4605.out) hb); have n1_ := Aside0.mk (blk_below (g := gb4606) (o := .cells #[.int .i64 a0_0, .int .i64 a0_1] 57 (0, 0)) (by (with_reducible repeat (first | refine blk_drewN ?_ _ | refine blk_drew ?_ | refine blk_alloc ?_ _)); refine blk_far ?_ NB4606_4611.out _; (with_reducible repeat (first | refine blk_drewN ?_ _ | refine blk_drew ?_ | refine blk_alloc ?_ _)); refine blk_far ?_ NB4606_4611.out _; (with_reducible repeat (first | refine blk_drewN ?_ _ | refine blk_drew ?_ | refine blk_alloc ?_ _)); exact BK4606.out) hb); have n2_ := Aside0.mk (blk_below (g := gb4611) (o := .cells #[.int .i64 t4608, .int .i64 t4609] 57 (0, 0)) (by (with_reducible repeat (first | refine blk_drewN ?_ _ | refine blk_drew ?_ | refine blk_alloc ?_ _)); refine blk_put (cs := #[.int .i64 t4608, .int .i64 0]) ?_ 1 _ rfl; (with_reducible repeat (first | refine blk_drewN ?_ _ | refine blk_drew ?_ | refine blk_alloc ?_ _)); refine blk_put (cs := #[.int .i64 0, .int .i64 0]) ?_ 0 _ rfl; (with_reducible repeat (first | refine blk_drewN ?_ _ | refine blk_drew ?_ | refine blk_alloc ?_ _)); exact BK4611.out) hb); have n3_ := Aside0.mk (below_step (by repeat (first | (with_reducible first | exact HB.out | apply below_alloc | apply pw_below_drewN | apply below_drew1 | refine below_set ?_ GE4605.out | refine below_set ?_ GE4606.out | refine below_set ?_ GE4611.out) | exact HB.out)) hb); clear BK4605 BK4606 BK4611 HB; have BK4605 := n0_; have BK4606 := n1_; have BK4611 := n2_; have HB := n3_; clear n0_ n1_ n2_ n3_; (try clear hb)) | ((with_reducible refine gate_dst (N := 11) rfl ?_); refine box_event ?hg (N := 11) ?hd (cs := #[.int .i64 0, .int .i64 0]) (t := 57) ?hr ?_; (case hd => rfl); (case hg => rfl); (case hr => go_simp); intro gb4615 hg w30 hbox hb; have n0_ := Aside0.mk (blk_below BK4605.out hb); have n1_ := Aside0.mk (blk_below BK4606.out hb); have n2_ := Aside0.mk (blk_below BK4611.out hb); have n3_ := Aside0.mk (below_step (by repeat (first | (with_reducible first | exact HB.out | apply below_alloc | apply pw_below_drewN | apply below_drew1 | refine below_set ?_ GE4605.out | refine below_set ?_ GE4606.out | refine below_set ?_ GE4611.out) | exact HB.out)) hb); have n4_ := Aside0.mk (hbox); have n5_ := Aside0.mk ((by rw [hg]; exact (below_size (by repeat (first | (with_reducible first | exact HB.out | apply below_alloc | apply pw_below_drewN | apply below_drew1 | refine below_set ?_ GE4605.out | refine below_set ?_ GE4606.out | refine below_set ?_ GE4611.out) | exact HB.out))) : w.heap.size ≤ gb4615)); have n6_ := Aside0.mk ((by rw [hg]; exact (below_size (by repeat (first | (with_reducible first | exact HB.out | apply below_alloc | apply pw_below_drewN | apply below_drew1 | refine below_set ?_ GE4605.out | refine below_set ?_ GE4606.out | refine below_set ?_ GE4611.out) | exact HB.out))) : w.heap.size ≤ gb4615)); have n7_ := Aside0.mk ((by rw [hg]; exact Nat.ne_of_lt (blk_lt (g := gb4605) (o := .cells #[.int .i64 a0_0, .int .i64 a0_1, .int .i64 a0_2, .int .i64 a0_3, .int .u64 a0_4, .int .u64 a0_5] 59 (0, 0)) BK4605.out) : gb4605 ≠ gb4615)); have n8_ := Aside0.mk ((by rw [hg]; exact Nat.ne_of_gt (blk_lt (g := gb4605) (o := .cells #[.int .i64 a0_0, .int .i64 a0_1, .int .i64 a0_2, .int .i64 a0_3, .int .u64 a0_4, .int .u64 a0_5] 59 (0, 0)) BK4605.out) : gb4615 ≠ gb4605)); have n9_ := Aside0.mk ((by rw [hg]; exact Nat.ne_of_lt (blk_lt (g := gb4606) (o := .cells #[.int .i64 a0_0, .int .i64 a0_1] 57 (0, 0)) BK4606.out) : gb4606 ≠ gb4615)); have n10_ := Aside0.mk ((by rw [hg]; exact Nat.ne_of_gt (blk_lt (g := gb4606) (o := .cells #[.int .i64 a0_0, .int .i64 a0_1] 57 (0, 0)) BK4606.out) : gb4615 ≠ gb4606)); have n11_ := Aside0.mk ((by rw [hg]; exact Nat.ne_of_lt (blk_lt (g := gb4611) (o := .cells #[.int .i64 t4608, .int .i64 t4609] 57 (0, 0)) BK4611.out) : gb4611 ≠ gb4615)); have n12_ := Aside0.mk ((by rw [hg]; exact Nat.ne_of_gt (blk_lt (g := gb4611) (o := .cells #[.int .i64 t4608, .int .i64 t4609] 57 (0, 0)) BK4611.out) : gb4615 ≠ gb4611)); clear BK4605 BK4606 BK4611 HB; have BK4605 := n0_; have BK4606 := n1_; have BK4611 := n2_; have HB := n3_; have BK4615 := n4_; have GW4615 := n5_; have GE4615 := n6_; have NB4605_4615 := n7_; have NB4615_4605 := n8_; have NB4606_4615 := n9_; have NB4615_4606 := n10_; have NB4611_4615 := n11_; have NB4615_4611 := n12_; clear n0_ n1_ n2_ n3_ n4_ n5_ n6_ n7_ n8_ n9_ n10_ n11_ n12_; clear hb hbox hg; have hnb31 := NB4615_4605.out; have hnc31 := NB4605_4615.out; have hnb32 := NB4615_4606.out; have hnc32 := NB4606_4615.out; have hnb33 := NB4615_4611.out; have hnc33 := NB4611_4615.out; have hcz34_0 : w30.cell? ⟨gb4615, 0, none⟩ = some (.int .i64 0) := (blk_cell BK4615.out 0).trans rfl; have hcz34_1 : w30.cell? ⟨gb4615, 1, none⟩ = some (.int .i64 0) := (blk_cell BK4615.out 1).trans rfl; have hfz34_0 := blk_frozen BK4615.out 0; have hfz34_1 := blk_frozen BK4615.out 1) | ((with_reducible refine gate_callee (f := 24) rfl ?_); refine goesL_ (some 38) rfl rfl Try.func24 (by kernel_rfl) rfl #[.int .u64 a0_4] rfl (by (try simp only [List.map_toArray, List.map_cons, List.map_nil]); first | done | rfl | (simp only [List.length_drop, List.length_take]; rfl)) ?_; (with_reducible refine (demurrageref01_FromU.calls k a0_4 t4616 _ A5.out).mono ?_); rintro e w35 ⟨v4617, rfl, ho0, hb⟩; refine ⟨_, rfl, ?_⟩; have n0_ := Aside0.mk (Kd.R_lower ho0 (below_size (by repeat (first | (with_reducible first | exact HB.out | apply below_alloc | apply pw_below_drewN | apply below_drew1 | refine below_set ?_ GE4605.out | refine below_set ?_ GE4606.out | refine below_set ?_ GE4611.out | refine below_set ?_ GE4615.out) | exact HB.out)))); have n1_ := Aside0.mk (blk_below (g := gb4605) (o := .cells #[.int .i64 a0_0, .int .i64 a0_1, .int .i64 a0_2, .int .i64 a0_3, .int .u64 a0_4, .int .u64 a0_5] 59 (0, 0)) (by (with_reducible repeat (first | refine blk_drewN ?_ _ | refine blk_drew ?_ | refine blk_alloc ?_ _)); refine blk_far ?_ NB4605_4615.out _; (with_reducible repeat (first | refine blk_drewN ?_ _ | refine blk_drew ?_ | refine blk_alloc ?_ _)); refine blk_far ?_ NB4605_4615.out _; (with_reducible repeat (first | refine blk_drewN ?_ _ | refine blk_drew ?_ | refine blk_alloc ?_ _)); exact BK4605.out) hb); have n2_ := Aside0.mk (blk_below (g := gb4606) (o := .cells #[.int .i64 a0_0, .int .i64 a0_1] 57 (0, 0)) (by (with_reducible repeat (first | refine blk_drewN ?_ _ | refine blk_drew ?_ | refine blk_alloc ?_ _)); refine blk_far ?_ NB4606_4615.out _; (with_reducible repeat (first | refine blk_drewN ?_ _ | refine blk_drew ?_ | refine blk_alloc ?_ _)); refine blk_far ?_ NB4606_4615.out _; (with_reducible repeat (first | refine blk_drewN ?_ _ | refine blk_drew ?_ | refine blk_alloc ?_ _)); exact BK4606.out) hb); have n3_ := Aside0.mk (blk_below (g := gb4611) (o := .cells #[.int .i64 t4608, .int .i64 t4609] 57 (0, 0)) (by (with_reducible repeat (first | refine blk_drewN ?_ _ | refine blk_drew ?_ | refine blk_alloc ?_ _)); refine blk_far ?_ NB4611_4615.out _; (with_reducible repeat (first | refine blk_drewN ?_ _ | refine blk_drew ?_ | refine blk_alloc ?_ _)); refine blk_far ?_ NB4611_4615.out _; (with_reducible repeat (first | refine blk_drewN ?_ _ | refine blk_drew ?_ | refine blk_alloc ?_ _)); exact BK4611.out) hb); have n4_ := Aside0.mk (blk_below (g := gb4615) (o := .cells #[.int .i64 t4612, .int .i64 t4613] 57 (0, 0)) (by (with_reducible repeat (first | refine blk_drewN ?_ _ | refine blk_drew ?_ | refine blk_alloc ?_ _)); refine blk_put (cs := #[.int .i64 t4612, .int .i64 0]) ?_ 1 _ rfl; (with_reducible repeat (first | refine blk_drewN ?_ _ | refine blk_drew ?_ | refine blk_alloc ?_ _)); refine blk_put (cs := #[.int .i64 0, .int .i64 0]) ?_ 0 _ rfl; (with_reducible repeat (first | refine blk_drewN ?_ _ | refine blk_drew ?_ | refine blk_alloc ?_ _)); exact BK4615.out) hb); have n5_ := Aside0.mk (below_step (by repeat (first | (with_reducible first | exact HB.out | apply below_alloc | apply pw_below_drewN | apply below_drew1 | refine below_set ?_ GE4605.out | refine below_set ?_ GE4606.out | refine below_set ?_ GE4611.out | refine below_set ?_ GE4615.out) | exact HB.out)) hb); clear BK4605 BK4606 BK4611 BK4615; clear HB; have HO4618 := n0_; have BK4605 := n1_; have BK4606 := n2_; have BK4611 := n3_; have BK4615 := n4_; have HB := n5_; clear n0_ n1_ n2_ n3_ n4_ n5_; (try clear hb); (try clear ho0)) | ((with_reducible refine gate_callee (f := 24) rfl ?_); refine goesL_ (some 40) rfl rfl Try.func24 (by kernel_rfl) rfl #[.int .u64 a0_5] rfl (by (try simp only [List.map_toArray, List.map_cons, List.map_nil]); first | done | rfl | (simp only [List.length_drop, List.length_take]; rfl)) ?_; (with_reducible refine (demurrageref01_FromU.calls k a0_5 t4619 _ A6.out).mono ?_); rintro e w36 ⟨v4620, rfl, ho0, hb⟩; refine ⟨_, rfl, ?_⟩; have n0_ := Aside0.mk (Kd.R_elder' HO4618.out (Kd.R_base ho0) hb); have n1_ := Aside0.mk (Kd.R_lower (Kd.R_new' ho0 (Kd.R_lt HO4618.out)) (below_size (by repeat (first | (with_reducible first | exact HB.out | apply below_alloc | apply pw_below_drewN | apply below_drew1 | refine below_set ?_ GE4605.out | refine below_set ?_ GE4606.out | refine below_set ?_ GE4611.out | refine below_set ?_ GE4615.out) | exact HB.out)))); have n2_ := Aside0.mk (blk_below BK4605.out hb); have n3_ := Aside0.mk (blk_below BK4606.out hb); have n4_ := Aside0.mk (blk_below BK4611.out hb); have n5_ := Aside0.mk (blk_below BK4615.out hb); have n6_ := Aside0.mk (below_step (by repeat (first | (with_reducible first | exact HB.out | apply below_alloc | apply pw_below_drewN | apply below_drew1 | refine below_set ?_ GE4605.out | refine below_set ?_ GE4606.out | refine below_set ?_ GE4611.out | refine below_set ?_ GE4615.out) | exact HB.out)) hb); clear HO4618 BK4605 BK4606 BK4611; clear BK4615 HB; have HO4618 := n0_; have HO4621 := n1_; have BK4605 := n2_; have BK4606 := n3_; have BK4611 := n4_; have BK4615 := n5_; have HB := n6_; clear n0_ n1_ n2_ n3_ n4_ n5_ n6_; (try clear hb); (try clear ho0); obtain ⟨Ao37, co37, eo37⟩ := Kd.R_slice HO4618.out; subst eo37; obtain ⟨Ao38, co38, eo38⟩ := Kd.R_slice HO4621.out; subst eo38) | ((with_reducible refine gate_callee (f := 42) rfl ?_); refine goesL_ (some 41) rfl rfl Try.func42 (by kernel_rfl) rfl #[.agg #[.slice Ao37 t4616.length co37], .agg #[.slice Ao38 t4619.length co38]] rfl (by (try simp only [List.map_toArray, List.map_cons, List.map_nil]); first | done | rfl | (simp only [List.length_drop, List.length_take]; rfl)) ?_; (with_reducible refine (demurrageref02_Gcd.calls k (fun k_ => some k_ = (.slice Ao37 t4616.length co37 : Value).ownBlock) _ _ t4616 (fun k_ => some k_ = (.slice Ao38 t4619.length co38 : Value).ownBlock) _ _ t4619 t4622 _ ?side1 ?side2 A7.out).mono ?_); (case side1 => exact Kd.R_V (Kd.R_tight rfl (Kd.R_types (Kd.R_types (Kd.R_types (Kd.R_types (HO4618.out) BK4605.out (by decide)) BK4606.out (by decide)) BK4611.out (by decide)) BK4615.out (by decide)))); (case side2 => exact Kd.R_V (Kd.R_tight rfl (Kd.R_types (Kd.R_types (Kd.R_types (Kd.R_types (HO4621.out) BK4605.out (by decide)) BK4606.out (by decide)) BK4611.out (by decide)) BK4615.out (by decide)))); rintro e w39 ⟨v4623, rfl, ho0, hb⟩; refine ⟨_, rfl, ?_⟩; have n0_ := Aside0.mk (Kd.R_below HO4618.out hb); have n1_ := Aside0.mk (Kd.R_below HO4621.out hb); have n2_ := Aside0.mk (Kd.V_lower (Kd.V_mono (ok' := fun k_ => k_ ≠ gb4605 ∧ k_ ≠ gb4606 ∧ k_ ≠ gb4611 ∧ k_ ≠ gb4615) ho0 (fun k_ hk_ => ⟨Or.elim hk_ (fun hs_ => Or.elim hs_ (fun hs_ => ((Kd.R_types (Kd.R_types (Kd.R_types (Kd.R_types (HO4618.out) BK4605.out (by decide)) BK4606.out (by decide)) BK4611.out (by decide)) BK4615.out (by decide)).1 k_ hs_.symm).1.1.1.2) (fun hs_ => ((Kd.R_types (Kd.R_types (Kd.R_types (Kd.R_types (HO4621.out) BK4605.out (by decide)) BK4606.out (by decide)) BK4611.out (by decide)) BK4615.out (by decide)).1 k_ hs_.symm).1.1.1.2)) (fun hn_ => (Kd.freshB BK4605.out k_ hn_)), Or.elim hk_ (fun hs_ => Or.elim hs_ (fun hs_ => ((Kd.R_types (Kd.R_types (Kd.R_types (Kd.R_types (HO4618.out) BK4605.out (by decide)) BK4606.out (by decide)) BK4611.out (by decide)) BK4615.out (by decide)).1 k_ hs_.symm).1.1.2) (fun hs_ => ((Kd.R_types (Kd.R_types (Kd.R_types (Kd.R_types (HO4621.out) BK4605.out (by decide)) BK4606.out (by decide)) BK4611.out (by decide)) BK4615.out (by decide)).1 k_ hs_.symm).1.1.2)) (fun hn_ => (Kd.freshB BK4606.out k_ hn_)), Or.elim hk_ (fun hs_ => Or.elim hs_ (fun hs_ => ((Kd.R_types (Kd.R_types (Kd.R_types (Kd.R_types (HO4618.out) BK4605.out (by decide)) BK4606.out (by decide)) BK4611.out (by decide)) BK4615.out (by decide)).1 k_ hs_.symm).1.2) (fun hs_ => ((Kd.R_types (Kd.R_types (Kd.R_types (Kd.R_types (HO4621.out) BK4605.out (by decide)) BK4606.out (by decide)) BK4611.out (by decide)) BK4615.out (by decide)).1 k_ hs_.symm).1.2)) (fun hn_ => (Kd.freshB BK4611.out k_ hn_)), Or.elim hk_ (fun hs_ => Or.elim hs_ (fun hs_ => ((Kd.R_types (Kd.R_types (Kd.R_types (Kd.R_types (HO4618.out) BK4605.out (by decide)) BK4606.out (by decide)) BK4611.out (by decide)) BK4615.out (by decide)).1 k_ hs_.symm).2) (fun hs_ => ((Kd.R_types (Kd.R_types (Kd.R_types (Kd.R_types (HO4621.out) BK4605.out (by decide)) BK4606.out (by decide)) BK4611.out (by decide)) BK4615.out (by decide)).1 k_ hs_.symm).2)) (fun hn_ => (Kd.freshB BK4615.out k_ hn_))⟩)) (below_size (by repeat (first | (with_reducible first | exact HB.out | apply below_alloc | apply pw_below_drewN | apply below_drew1 | refine below_set ?_ GE4605.out | refine below_set ?_ GE4606.out | refine below_set ?_ GE4611.out | refine below_set ?_ GE4615.out) | exact HB.out)))); have n3_ := Aside0.mk (blk_below BK4605.out hb); have n4_ := Aside0.mk (blk_below BK4606.out hb); have n5_ := Aside0.mk (blk_below BK4611.out hb); have n6_ := Aside0.mk (blk_below BK4615.out hb); have n7_ := Aside0.mk (below_step (by repeat (first | (with_reducible first | exact HB.out | apply below_alloc | apply pw_below_drewN | apply below_drew1 | refine below_set ?_ GE4605.out | refine below_set ?_ GE4606.out | refine below_set ?_ GE4611.out | refine below_set ?_ GE4615.out) | exact HB.out)) hb); clear HO4618 HO4621 BK4605 BK4606; clear BK4611 BK4615; clear HB; have HO4618 := n0_; have HO4621 := n1_; have HO4624 := n2_; have BK4605 := n3_; have BK4606 := n4_; have BK4611 := n5_; have BK4615 := n6_; have HB := n7_; clear n0_ n1_ n2_ n3_ n4_ n5_ n6_ n7_; (try clear hb); (try clear ho0)) | ((with_reducible refine gate_dst (N := 13) rfl ?_); refine box_event ?hg (N := 13) ?hd (cs := #[.slice none 0 0]) (t := 28) ?hr ?_; (case hd => rfl); (case hg => rfl); (case hr => go_simp); intro gb4625 hg w40 hbox hb; have n0_ := Aside0.mk (Kd.R_below HO4618.out hb); have n1_ := Aside0.mk (Kd.R_below HO4621.out hb); have n2_ := Aside0.mk (Kd.V_below (Kd.V_elderB HO4624.out gb4625 (Nat.le_of_eq hg.symm)) hb); have n3_ := Aside0.mk (blk_below BK4605.out hb); have n4_ := Aside0.mk (blk_below BK4606.out hb); have n5_ := Aside0.mk (blk_below BK4611.out hb); have n6_ := Aside0.mk (blk_below BK4615.out hb); have n7_ := Aside0.mk (below_step (by repeat (first | (with_reducible first | exact HB.out | apply below_alloc | apply pw_below_drewN | apply below_drew1 | refine below_set ?_ GE4605.out | refine below_set ?_ GE4606.out | refine below_set ?_ GE4611.out | refine below_set ?_ GE4615.out) | exact HB.out)) hb); have n8_ := Aside0.mk (hbox); have n9_ := Aside0.mk ((by rw [hg]; exact (below_size (by repeat (first | (with_reducible first | exact HB.out | apply below_alloc | apply pw_below_drewN | apply below_drew1 | refine below_set ?_ GE4605.out | refine below_set ?_ GE4606.out | refine below_set ?_ GE4611.out | refine below_set ?_ GE4615.out) | exact HB.out))) : w.heap.size ≤ gb4625)); have n10_ := Aside0.mk ((by rw [hg]; exact (below_size (by repeat (first | (with_reducible first | exact HB.out | apply below_alloc | apply pw_below_drewN | apply below_drew1 | refine below_set ?_ GE4605.out | refine below_set ?_ GE4606.out | refine below_set ?_ GE4611.out | refine below_set ?_ GE4615.out) | exact HB.out))) : w.heap.size ≤ gb4625)); have n11_ := Aside0.mk ((by rw [hg]; exact Nat.ne_of_lt (blk_lt (g := gb4605) (o := .cells #[.int .i64 a0_0, .int .i64 a0_1, .int .i64 a0_2, .int .i64 a0_3, .int .u64 a0_4, .int .u64 a0_5] 59 (0, 0)) BK4605.out) : gb4605 ≠ gb4625)); have n12_ := Aside0.mk ((by rw [hg]; exact Nat.ne_of_gt (blk_lt (g := gb4605) (o := .cells #[.int .i64 a0_0, .int .i64 a0_1, .int .i64 a0_2, .int .i64 a0_3, .int .u64 a0_4, .int .u64 a0_5] 59 (0, 0)) BK4605.out) : gb4625 ≠ gb4605)); have n13_ := Aside0.mk ((by rw [hg]; exact Nat.ne_of_lt (blk_lt (g := gb4606) (o := .cells #[.int .i64 a0_0, .int .i64 a0_1] 57 (0, 0)) BK4606.out) : gb4606 ≠ gb4625)); have n14_ := Aside0.mk ((by rw [hg]; exact Nat.ne_of_gt (blk_lt (g := gb4606) (o := .cells #[.int .i64 a0_0, .int .i64 a0_1] 57 (0, 0)) BK4606.out) : gb4625 ≠ gb4606)); have n15_ := Aside0.mk ((by rw [hg]; exact Nat.ne_of_lt (blk_lt (g := gb4611) (o := .cells #[.int .i64 t4608, .int .i64 t4609] 57 (0, 0)) BK4611.out) : gb4611 ≠ gb4625)); have n16_ := Aside0.mk ((by rw [hg]; exact Nat.ne_of_gt (blk_lt (g := gb4611) (o := .cells #[.int .i64 t4608, .int .i64 t4609] 57 (0, 0)) BK4611.out) : gb4625 ≠ gb4611)); have n17_ := Aside0.mk ((by rw [hg]; exact Nat.ne_of_lt (blk_lt (g := gb4615) (o := .cells #[.int .i64 t4612, .int .i64 t4613] 57 (0, 0)) BK4615.out) : gb4615 ≠ gb4625)); have n18_ := Aside0.mk ((by rw [hg]; exact Nat.ne_of_gt (blk_lt (g := gb4615) (o := .cells #[.int .i64 t4612, .int .i64 t4613] 57 (0, 0)) BK4615.out) : gb4625 ≠ gb4615)); clear HO4618 HO4621 HO4624 BK4605; clear BK4606 BK4611 BK4615 HB; have HO4618 := n0_; have HO4621 := n1_; have HO4624 := n2_; have BK4605 := n3_; have BK4606 := n4_; have BK4611 := n5_; have BK4615 := n6_; have HB := n7_; have BK4625 := n8_; have GW4625 := n9_; have GE4625 := n10_; have NB4605_4625 := n11_; have NB4625_4605 := n12_; have NB4606_4625 := n13_; have NB4625_4606 := n14_; have NB4611_4625 := n15_; have NB4625_4611 := n16_; have NB4615_4625 := n17_; have NB4625_4615 := n18_; clear n0_ n1_ n2_ n3_ n4_ n5_ n6_ n7_ n8_ n9_ n10_ n11_ n12_ n13_ n14_ n15_ n16_ n17_ n18_; clear hb hbox hg; obtain ⟨Ao41, co41, eo41⟩ := Kd.V_slice HO4624.out; subst eo41; have hnb42 := NB4625_4605.out; have hnc42 := NB4605_4625.out; have hnb43 := NB4625_4606.out; have hnc43 := NB4606_4625.out; have hnb44 := NB4625_4611.out; have hnc44 := NB4611_4625.out; have hnb45 := NB4625_4615.out; have hnc45 := NB4615_4625.out; have hcz46_0 : w40.cell? ⟨gb4625, 0, none⟩ = some (.slice none 0 0) := (blk_cell BK4625.out 0).trans rfl; have hfz46_0 := blk_frozen BK4625.out 0))
          have n0_ : Aside0 (Kd.R (Kd.int .i64) 3 (w40.setCell ⟨gb4625, 0, none⟩ (.slice Ao41 t4622.length co41)) w.heap.size (fun k_ => some k_ ≠ (.slice Ao38 t4619.length co38 : Value).ownBlock) (.slice Ao37 t4616.length co37) t4616) := ⟨by (with_reducible repeat (first | apply Kd.R_alloc | apply Kd.R_drewN | apply Kd.R_drew)); exact Kd.R_mono (Kd.R_far (p := ⟨gb4625, 0, none⟩) (Kd.R_types HO4618.out BK4625.out (by decide)) (fun _ hk => hk.2) (.slice Ao41 t4622.length co41)) (fun _ hk => hk.1.2)⟩
          have n1_ : Aside0 (Kd.R (Kd.int .i64) 3 (w40.setCell ⟨gb4625, 0, none⟩ (.slice Ao41 t4622.length co41)) w.heap.size (fun k_ => some k_ ≠ (.slice Ao37 t4616.length co37 : Value).ownBlock) (.slice Ao38 t4619.length co38) t4619) := ⟨by (with_reducible repeat (first | apply Kd.R_alloc | apply Kd.R_drewN | apply Kd.R_drew)); exact Kd.R_mono (Kd.R_far (p := ⟨gb4625, 0, none⟩) (Kd.R_types HO4621.out BK4625.out (by decide)) (fun _ hk => hk.2) (.slice Ao41 t4622.length co41)) (fun _ hk => hk.1.2)⟩
          have n2_ : Aside0 (Kd.V (Kd.int .i64) 3 (w40.setCell ⟨gb4625, 0, none⟩ (.slice Ao41 t4622.length co41)) w.heap.size (fun k_ => k_ ≠ gb4605 ∧ k_ ≠ gb4606 ∧ k_ ≠ gb4611 ∧ k_ ≠ gb4615 ∧ k_ ≠ gb4625) (.slice Ao41 t4622.length co41) t4622) := ⟨by (with_reducible repeat (first | apply Kd.V_alloc | apply Kd.V_drewN | apply Kd.V_drew)); exact Kd.V_mono (Kd.V_far (p := ⟨gb4625, 0, none⟩) (Kd.V_mono HO4624.out (fun k_ hk => (⟨hk, hk.2⟩ : _ ∧ k_ ≠ gb4625))) (fun _ hk => hk.2) (.slice Ao41 t4622.length co41)) (fun _ hk => (And.intro (hk.1.1.1) ((And.intro (hk.1.1.2.1) ((And.intro (hk.1.1.2.2.1) ((And.intro (hk.1.1.2.2.2) (hk.1.2)))))))))⟩
          have n3_ : Aside0 ((w40.setCell ⟨gb4625, 0, none⟩ (.slice Ao41 t4622.length co41)).heap[gb4605]? = some (.cells #[.int .i64 a0_0, .int .i64 a0_1, .int .i64 a0_2, .int .i64 a0_3, .int .u64 a0_4, .int .u64 a0_5] 59 (0, 0))) := ⟨by (with_reducible repeat (first | refine blk_drewN ?_ _ | refine blk_drew ?_ | refine blk_alloc ?_ _)); refine blk_far ?_ NB4605_4625.out _; (with_reducible repeat (first | refine blk_drewN ?_ _ | refine blk_drew ?_ | refine blk_alloc ?_ _)); exact BK4605.out⟩
          have n4_ : Aside0 ((w40.setCell ⟨gb4625, 0, none⟩ (.slice Ao41 t4622.length co41)).heap[gb4606]? = some (.cells #[.int .i64 a0_0, .int .i64 a0_1] 57 (0, 0))) := ⟨by (with_reducible repeat (first | refine blk_drewN ?_ _ | refine blk_drew ?_ | refine blk_alloc ?_ _)); refine blk_far ?_ NB4606_4625.out _; (with_reducible repeat (first | refine blk_drewN ?_ _ | refine blk_drew ?_ | refine blk_alloc ?_ _)); exact BK4606.out⟩
          have n5_ : Aside0 ((w40.setCell ⟨gb4625, 0, none⟩ (.slice Ao41 t4622.length co41)).heap[gb4611]? = some (.cells #[.int .i64 t4608, .int .i64 t4609] 57 (0, 0))) := ⟨by (with_reducible repeat (first | refine blk_drewN ?_ _ | refine blk_drew ?_ | refine blk_alloc ?_ _)); refine blk_far ?_ NB4611_4625.out _; (with_reducible repeat (first | refine blk_drewN ?_ _ | refine blk_drew ?_ | refine blk_alloc ?_ _)); exact BK4611.out⟩
          have n6_ : Aside0 ((w40.setCell ⟨gb4625, 0, none⟩ (.slice Ao41 t4622.length co41)).heap[gb4615]? = some (.cells #[.int .i64 t4612, .int .i64 t4613] 57 (0, 0))) := ⟨by (with_reducible repeat (first | refine blk_drewN ?_ _ | refine blk_drew ?_ | refine blk_alloc ?_ _)); refine blk_far ?_ NB4615_4625.out _; (with_reducible repeat (first | refine blk_drewN ?_ _ | refine blk_drew ?_ | refine blk_alloc ?_ _)); exact BK4615.out⟩
          have n7_ : Aside0 ((w40.setCell ⟨gb4625, 0, none⟩ (.slice Ao41 t4622.length co41)).heap[gb4625]? = some (.cells #[.slice Ao41 t4622.length co41] 28 (0, 0))) := ⟨by (with_reducible repeat (first | refine blk_drewN ?_ _ | refine blk_drew ?_ | refine blk_alloc ?_ _)); refine blk_put (cs := #[.slice none 0 0]) ?_ 0 _ rfl; (with_reducible repeat (first | refine blk_drewN ?_ _ | refine blk_drew ?_ | refine blk_alloc ?_ _)); exact BK4625.out⟩
          have n8_ : Aside0 (Below w.heap.size w (w40.setCell ⟨gb4625, 0, none⟩ (.slice Ao41 t4622.length co41))) := ⟨by repeat (first | (with_reducible first | exact HB.out | apply below_alloc | apply pw_below_drewN | apply below_drew1 | refine below_set ?_ GE4605.out | refine below_set ?_ GE4606.out | refine below_set ?_ GE4611.out | refine below_set ?_ GE4615.out | refine below_set ?_ GE4625.out) | exact HB.out)⟩
          (try clear HO4618)
          (try clear HO4621)
          (try clear HO4624)
          (try clear BK4605)
          (try clear BK4606)
          (try clear BK4611)
          (try clear BK4615)
          (try clear BK4625)
          (try clear HB)
          generalize (w40.setCell ⟨gb4625, 0, none⟩ (.slice Ao41 t4622.length co41)) = w47 at n0_ n1_ n2_ n3_ n4_ n5_ n6_ n7_ n8_ ⊢
          have HO4618 := n0_
          have HO4621 := n1_
          have HO4624 := n2_
          have BK4605 := n3_
          have BK4606 := n4_
          have BK4611 := n5_
          have BK4615 := n6_
          have BK4625 := n7_
          have HB := n8_
          clear n0_ n1_ n2_ n3_ n4_ n5_ n6_ n7_ n8_
          have n0_ := Aside0.mk (Kd.R_drew HO4618.out)
          have n1_ := Aside0.mk (Kd.R_drew HO4621.out)
          have n2_ := Aside0.mk (Kd.V_drew HO4624.out)
          have n3_ := Aside0.mk (blk_drew BK4605.out)
          have n4_ := Aside0.mk (blk_drew BK4606.out)
          have n5_ := Aside0.mk (blk_drew BK4611.out)
          have n6_ := Aside0.mk (blk_drew BK4615.out)
          have n7_ := Aside0.mk (blk_drew BK4625.out)
          have n8_ := Aside0.mk (below_drew1 HB.out)
          clear HO4618
          clear HO4621
          clear HO4624
          clear BK4605
          clear BK4606
          clear BK4611
          clear BK4615
          clear BK4625
          clear HB
          have HO4618 := n0_
          have HO4621 := n1_
          have HO4624 := n2_
          have BK4605 := n3_
          have BK4606 := n4_
          have BK4611 := n5_
          have BK4615 := n6_
          have BK4625 := n7_
          have HB := n8_
          clear n0_ n1_ n2_ n3_ n4_ n5_ n6_ n7_ n8_
          refine start_ (n := 28) (S := fun w' => w'.cell? ⟨gb4606, 0, none⟩ = some (.int .i64 a0_0) ∧ w'.cell? ⟨gb4606, 1, none⟩ = some (.int .i64 a0_1) ∧ w'.cell? ⟨gb4611, 0, none⟩ = some (.int .i64 t4608) ∧ w'.cell? ⟨gb4611, 1, none⟩ = some (.int .i64 t4609) ∧ w'.cell? ⟨gb4615, 0, none⟩ = some (.int .i64 t4612) ∧ w'.cell? ⟨gb4615, 1, none⟩ = some (.int .i64 t4613) ∧ w'.cell? ⟨gb4625, 0, none⟩ = some (.slice Ao41 t4622.length co41)) (ds := []) #[false, false, false, false, false, false, false, false, false, false, false, false, false, false, false, false, false, false, false, false, false, false, false, false, false, false, false, false] (by kernel_rfl) rfl rfl ⟨(blk_cell BK4606.out 0).trans rfl, (blk_cell BK4606.out 1).trans rfl, (blk_cell BK4611.out 0).trans rfl, (blk_cell BK4611.out 1).trans rfl, (blk_cell BK4615.out 0).trans rfl, (blk_cell BK4615.out 1).trans rfl, (blk_cell BK4625.out 0).trans rfl⟩ (fun hHeld => ?_); refine with_tabW demurragelaw02_RatioTells.tab10 demurragelaw02_RatioTells.bits10 (fun HT_ HW_ => ?_)
          generalize w47.drew = w48 at HO4618 HO4621 HO4624 BK4605 BK4606 BK4611 BK4615 BK4625 HB hHeld ⊢
          refine pure_ (i := 0) (N := some 42) (v := ?_) (a' := ?_) #[true, false, false, false, false, false, false, false, false, false, false, false, false, false, false, false, false, false, false, false, false, false, false, false, false, false, false, false] rfl rfl (any_of HT_.out (by kernel_rfl)) (fun _ _ _ h => h) (Or.inl ⟨by rfl, ?_⟩) ?_ ?_
          rotate_left
          · intro w'
            go_simp
            with_reducible rfl
          rotate_left
          · simp only [Act.put, List.setIfInBounds_toArray, List.set_cons_zero, List.set_cons_succ, i64_w, i32_w]
            rfl
          refine pure_ (i := 1) (N := some 43) (v := ?_) (a' := ?_) #[true, true, false, false, false, false, false, false, false, false, false, false, false, false, false, false, false, false, false, false, false, false, false, false, false, false, false, false] rfl rfl (any_of HT_.out (by kernel_rfl)) (fun _ _ _ h => h) (Or.inl ⟨by rfl, ?_⟩) ?_ ?_
          rotate_left
          · intro w'
            go_simp
            with_reducible rfl
          rotate_left
          · simp only [Act.put, List.setIfInBounds_toArray, List.set_cons_zero, List.set_cons_succ, i64_w, i32_w]
            rfl
          refine take_ (i := 2) (N := some 44) (v := ?_) (a' := ?_) #[true, true, true, false, false, false, false, false, false, false, false, false, false, false, false, false, false, false, false, false, false, false, false, false, false, false, false, false] rfl rfl (take_ofW HT_.out HW_.out (by kernel_rfl)) (fun _ _ _ h => h) (Or.inl ⟨by rfl, ?_⟩) hHeld ?_ ?_
          rotate_left
          · rintro w' ⟨s0, s1, s2, s3, s4, s5, s6⟩
            go_simp
            with_reducible rfl
          rotate_left
          · simp only [Act.put, List.setIfInBounds_toArray, List.set_cons_zero, List.set_cons_succ, i64_w, i32_w]
            rfl
          refine take_ (i := 4) (N := some 46) (v := ?_) (a' := ?_) #[true, true, true, false, true, false, false, false, false, false, false, false, false, false, false, false, false, false, false, false, false, false, false, false, false, false, false, false] rfl rfl (take_ofW HT_.out HW_.out (by kernel_rfl)) (fun _ _ _ h => h) (Or.inl ⟨by rfl, ?_⟩) hHeld ?_ ?_
          rotate_left
          · rintro w' ⟨s0, s1, s2, s3, s4, s5, s6⟩
            go_simp
            with_reducible rfl
          rotate_left
          · simp only [Act.put, List.setIfInBounds_toArray, List.set_cons_zero, List.set_cons_succ, i64_w, i32_w]
            rfl
          refine one_ (i := 3) (N := some 45) #[true, true, true, true, true, false, false, false, false, false, false, false, false, false, false, false, false, false, false, false, false, false, false, false, false, false, false, false] rfl rfl (one_of HT_.out (by kernel_rfl)) (by decide) (fun K hK => ?_)
          refine goes_ Try.func43 (by kernel_rfl) rfl #[.agg #[.int .i64 a0_0, .int .i64 a0_1]] (by rfl) rfl rfl (by (try simp only [List.map_toArray, List.map_cons, List.map_nil]); first | done | rfl | (simp only [List.length_drop, List.length_take]; rfl)) ?_
          with_reducible refine (ratio_Right.calls a0_0 a0_1 t4626 _ A9.out).mono ?_
          rintro e w49 ⟨rfl, hb⟩
          refine ⟨_, rfl, ?_⟩
          have n0_ := Aside0.mk (Kd.R_below HO4618.out hb)
          have n1_ := Aside0.mk (Kd.R_below HO4621.out hb)
          have n2_ := Aside0.mk (Kd.V_below HO4624.out hb)
          have n3_ := Aside0.mk (blk_below BK4605.out hb)
          have n4_ := Aside0.mk (blk_below BK4606.out hb)
          have n5_ := Aside0.mk (blk_below BK4611.out hb)
          have n6_ := Aside0.mk (blk_below BK4615.out hb)
          have n7_ := Aside0.mk (blk_below BK4625.out hb)
          have n8_ := Aside0.mk (below_step (by repeat (first | (with_reducible first | exact HB.out | apply below_alloc | apply pw_below_drewN | apply below_drew1 | refine below_set ?_ GE4605.out | refine below_set ?_ GE4606.out | refine below_set ?_ GE4611.out | refine below_set ?_ GE4615.out | refine below_set ?_ GE4625.out) | exact HB.out)) hb)
          clear HO4618
          clear HO4621
          clear HO4624
          clear BK4605
          clear BK4606
          clear BK4611
          clear BK4615
          clear BK4625
          clear HB
          have HO4618 := n0_
          have HO4621 := n1_
          have HO4624 := n2_
          have BK4605 := n3_
          have BK4606 := n4_
          have BK4611 := n5_
          have BK4615 := n6_
          have BK4625 := n7_
          have HB := n8_
          clear n0_ n1_ n2_ n3_ n4_ n5_ n6_ n7_ n8_
          (try clear hb)
          (try clear hb2)
          (try clear hk)
          (try clear hi)
          refine hK.out _ _ ⟨(blk_cell BK4606.out 0).trans rfl, (blk_cell BK4606.out 1).trans rfl, (blk_cell BK4611.out 0).trans rfl, (blk_cell BK4611.out 1).trans rfl, (blk_cell BK4615.out 0).trans rfl, (blk_cell BK4615.out 1).trans rfl, (blk_cell BK4625.out 0).trans rfl⟩ (fun hHeld => ?_)
          clear hK K
          refine norm_ (a' := ?_) ?_ ?_
          rotate_left
          · show Act.put _ (some 45) _ = _
            simp only [Act.put, List.setIfInBounds_toArray, List.set_cons_zero, List.set_cons_succ, i64_w, i32_w]
            rfl
          refine one_ (i := 5) (N := some 47) #[true, true, true, true, true, true, false, false, false, false, false, false, false, false, false, false, false, false, false, false, false, false, false, false, false, false, false, false] rfl rfl (one_of HT_.out (by kernel_rfl)) (by decide) (fun K hK => ?_)
          refine goes_ Try.func44 (by kernel_rfl) rfl #[.agg #[.int .i64 a0_0, .int .i64 a0_1]] (by rfl) rfl rfl (by (try simp only [List.map_toArray, List.map_cons, List.map_nil]); first | done | rfl | (simp only [List.length_drop, List.length_take]; rfl)) ?_
          with_reducible refine (demurrageref02_Right.calls k a0_0 a0_1 t4627 _ A10.out).mono ?_
          rintro e w50 ⟨rfl, hb⟩
          refine ⟨_, rfl, ?_⟩
          have n0_ := Aside0.mk (Kd.R_below HO4618.out hb)
          have n1_ := Aside0.mk (Kd.R_below HO4621.out hb)
          have n2_ := Aside0.mk (Kd.V_below HO4624.out hb)
          have n3_ := Aside0.mk (blk_below BK4605.out hb)
          have n4_ := Aside0.mk (blk_below BK4606.out hb)
          have n5_ := Aside0.mk (blk_below BK4611.out hb)
          have n6_ := Aside0.mk (blk_below BK4615.out hb)
          have n7_ := Aside0.mk (blk_below BK4625.out hb)
          have n8_ := Aside0.mk (below_step (by repeat (first | (with_reducible first | exact HB.out | apply below_alloc | apply pw_below_drewN | apply below_drew1 | refine below_set ?_ GE4605.out | refine below_set ?_ GE4606.out | refine below_set ?_ GE4611.out | refine below_set ?_ GE4615.out | refine below_set ?_ GE4625.out) | exact HB.out)) hb)
          clear HO4618
          clear HO4621
          clear HO4624
          clear BK4605
          clear BK4606
          clear BK4611
          clear BK4615
          clear BK4625
          clear HB
          have HO4618 := n0_
          have HO4621 := n1_
          have HO4624 := n2_
          have BK4605 := n3_
          have BK4606 := n4_
          have BK4611 := n5_
          have BK4615 := n6_
          have BK4625 := n7_
          have HB := n8_
          clear n0_ n1_ n2_ n3_ n4_ n5_ n6_ n7_ n8_
          (try clear hb)
          (try clear hb2)
          (try clear hk)
          (try clear hi)
          refine hK.out _ _ ⟨(blk_cell BK4606.out 0).trans rfl, (blk_cell BK4606.out 1).trans rfl, (blk_cell BK4611.out 0).trans rfl, (blk_cell BK4611.out 1).trans rfl, (blk_cell BK4615.out 0).trans rfl, (blk_cell BK4615.out 1).trans rfl, (blk_cell BK4625.out 0).trans rfl⟩ (fun hHeld => ?_)
          clear hK K
          refine norm_ (a' := ?_) ?_ ?_
          rotate_left
          · show Act.put _ (some 47) _ = _
            simp only [Act.put, List.setIfInBounds_toArray, List.set_cons_zero, List.set_cons_succ, i64_w, i32_w]
            rfl
          refine pure_ (i := 6) (N := some 48) (v := ?_) (a' := ?_) #[true, true, true, true, true, true, true, false, false, false, false, false, false, false, false, false, false, false, false, false, false, false, false, false, false, false, false, false] rfl rfl (any_of HT_.out (by kernel_rfl)) (fun _ _ _ h => h) (Or.inl ⟨by rfl, ?_⟩) ?_ ?_
          rotate_left
          · intro w'
            go_simp
            with_reducible rfl
          rotate_left
          · simp only [Act.put, List.setIfInBounds_toArray, List.set_cons_zero, List.set_cons_succ, i64_w, i32_w]
            rfl
          refine pure_ (i := 7) (N := some 49) (v := ?_) (a' := ?_) #[true, true, true, true, true, true, true, true, false, false, false, false, false, false, false, false, false, false, false, false, false, false, false, false, false, false, false, false] rfl rfl (any_of HT_.out (by kernel_rfl)) (fun _ _ _ h => h) (Or.inl ⟨by rfl, ?_⟩) ?_ ?_
          rotate_left
          · intro w'
            go_simp
            with_reducible rfl
          rotate_left
          · simp only [Act.put, List.setIfInBounds_toArray, List.set_cons_zero, List.set_cons_succ, i64_w, i32_w]
            rfl
          refine pure_ (i := 8) (N := some 50) (v := ?_) (a' := ?_) #[true, true, true, true, true, true, true, true, true, false, false, false, false, false, false, false, false, false, false, false, false, false, false, false, false, false, false, false] rfl rfl (any_of HT_.out (by kernel_rfl)) (fun _ _ _ h => h) (Or.inl ⟨by rfl, ?_⟩) ?_ ?_
          rotate_left
          · intro w'
            go_simp
            with_reducible rfl
          rotate_left
          · simp only [Act.put, List.setIfInBounds_toArray, List.set_cons_zero, List.set_cons_succ, i64_w, i32_w]
            rfl
          refine take_ (i := 9) (N := some 51) (v := ?_) (a' := ?_) #[true, true, true, true, true, true, true, true, true, true, false, false, false, false, false, false, false, false, false, false, false, false, false, false, false, false, false, false] rfl rfl (take_ofW HT_.out HW_.out (by kernel_rfl)) (fun _ _ _ h => h) (Or.inl ⟨by rfl, ?_⟩) hHeld ?_ ?_
          rotate_left
          · rintro w' ⟨s0, s1, s2, s3, s4, s5, s6⟩
            go_simp
            with_reducible rfl
          rotate_left
          · simp only [Act.put, List.setIfInBounds_toArray, List.set_cons_zero, List.set_cons_succ, i64_w, i32_w]
            rfl
          refine take_ (i := 10) (N := some 52) (v := ?_) (a' := ?_) #[true, true, true, true, true, true, true, true, true, true, true, false, false, false, false, false, false, false, false, false, false, false, false, false, false, false, false, false] rfl rfl (take_ofW HT_.out HW_.out (by kernel_rfl)) (fun _ _ _ h => h) (Or.inl ⟨by rfl, ?_⟩) hHeld ?_ ?_
          rotate_left
          · rintro w' ⟨s0, s1, s2, s3, s4, s5, s6⟩
            go_simp
            with_reducible rfl
          rotate_left
          · simp only [Act.put, List.setIfInBounds_toArray, List.set_cons_zero, List.set_cons_succ, i64_w, i32_w]
            rfl
          refine pure_ (i := 11) (N := some 53) (v := ?_) (a' := ?_) #[true, true, true, true, true, true, true, true, true, true, true, true, false, false, false, false, false, false, false, false, false, false, false, false, false, false, false, false] rfl rfl (any_of HT_.out (by kernel_rfl)) (fun _ _ _ h => h) (Or.inl ⟨by rfl, ?_⟩) ?_ ?_
          rotate_left
          · intro w'
            go_simp
            with_reducible rfl
          rotate_left
          · simp only [Act.put, List.setIfInBounds_toArray, List.set_cons_zero, List.set_cons_succ, i64_w, i32_w]
            rfl
          refine pure_ (i := 12) (N := some 54) (v := ?_) (a' := ?_) #[true, true, true, true, true, true, true, true, true, true, true, true, true, false, false, false, false, false, false, false, false, false, false, false, false, false, false, false] rfl rfl (any_of HT_.out (by kernel_rfl)) (fun _ _ _ h => h) (Or.inl ⟨by rfl, ?_⟩) ?_ ?_
          rotate_left
          · intro w'
            go_simp
            with_reducible rfl
          rotate_left
          · simp only [Act.put, List.setIfInBounds_toArray, List.set_cons_zero, List.set_cons_succ, i64_w, i32_w]
            rfl
          refine pure_ (i := 13) (N := some 55) (v := ?_) (a' := ?_) #[true, true, true, true, true, true, true, true, true, true, true, true, true, true, false, false, false, false, false, false, false, false, false, false, false, false, false, false] rfl rfl (any_of HT_.out (by kernel_rfl)) (fun _ _ _ h => h) (Or.inl ⟨by rfl, ?_⟩) ?_ ?_
          rotate_left
          · intro w'
            go_simp
            with_reducible rfl
          rotate_left
          · simp only [Act.put, List.setIfInBounds_toArray, List.set_cons_zero, List.set_cons_succ, i64_w, i32_w]
            rfl
          refine pure_ (i := 14) (N := some 56) (v := ?_) (a' := ?_) #[true, true, true, true, true, true, true, true, true, true, true, true, true, true, true, false, false, false, false, false, false, false, false, false, false, false, false, false] rfl rfl (any_of HT_.out (by kernel_rfl)) (fun _ _ _ h => h) (Or.inl ⟨by rfl, ?_⟩) ?_ ?_
          rotate_left
          · intro w'
            go_simp
            with_reducible rfl
          rotate_left
          · simp only [Act.put, List.setIfInBounds_toArray, List.set_cons_zero, List.set_cons_succ, i64_w, i32_w]
            rfl
          refine pure_ (i := 15) (N := some 57) (v := ?_) (a' := ?_) #[true, true, true, true, true, true, true, true, true, true, true, true, true, true, true, true, false, false, false, false, false, false, false, false, false, false, false, false] rfl rfl (any_of HT_.out (by kernel_rfl)) (fun _ _ _ h => h) (Or.inl ⟨by rfl, ?_⟩) ?_ ?_
          rotate_left
          · intro w'
            go_simp
            with_reducible rfl
          rotate_left
          · simp only [Act.put, List.setIfInBounds_toArray, List.set_cons_zero, List.set_cons_succ, i64_w, i32_w]
            rfl
          refine pure_ (i := 16) (N := some 58) (v := ?_) (a' := ?_) #[true, true, true, true, true, true, true, true, true, true, true, true, true, true, true, true, true, false, false, false, false, false, false, false, false, false, false, false] rfl rfl (any_of HT_.out (by kernel_rfl)) (fun _ _ _ h => h) (Or.inl ⟨by rfl, ?_⟩) ?_ ?_
          rotate_left
          · intro w'
            go_simp
            with_reducible rfl
          rotate_left
          · simp only [Act.put, List.setIfInBounds_toArray, List.set_cons_zero, List.set_cons_succ, i64_w, i32_w]
            rfl
          refine pure_ (i := 17) (N := some 59) (v := ?_) (a' := ?_) #[true, true, true, true, true, true, true, true, true, true, true, true, true, true, true, true, true, true, false, false, false, false, false, false, false, false, false, false] rfl rfl (any_of HT_.out (by kernel_rfl)) (fun _ _ _ h => h) (Or.inl ⟨by rfl, ?_⟩) ?_ ?_
          rotate_left
          · intro w'
            go_simp
            with_reducible rfl
          rotate_left
          · simp only [Act.put, List.setIfInBounds_toArray, List.set_cons_zero, List.set_cons_succ, i64_w, i32_w]
            rfl
          refine pure_ (i := 18) (N := some 60) (v := ?_) (a' := ?_) #[true, true, true, true, true, true, true, true, true, true, true, true, true, true, true, true, true, true, true, false, false, false, false, false, false, false, false, false] rfl rfl (any_of HT_.out (by kernel_rfl)) (fun _ _ _ h => h) (Or.inl ⟨by rfl, ?_⟩) ?_ ?_
          rotate_left
          · intro w'
            go_simp
            with_reducible rfl
          rotate_left
          · simp only [Act.put, List.setIfInBounds_toArray, List.set_cons_zero, List.set_cons_succ, i64_w, i32_w]
            rfl
          refine pure_ (i := 19) (N := some 61) (v := ?_) (a' := ?_) #[true, true, true, true, true, true, true, true, true, true, true, true, true, true, true, true, true, true, true, true, false, false, false, false, false, false, false, false] rfl rfl (any_of HT_.out (by kernel_rfl)) (fun _ _ _ h => h) (Or.inl ⟨by rfl, ?_⟩) ?_ ?_
          rotate_left
          · intro w'
            go_simp
            with_reducible rfl
          rotate_left
          · simp only [Act.put, List.setIfInBounds_toArray, List.set_cons_zero, List.set_cons_succ, i64_w, i32_w]
            rfl
          refine pure_ (i := 20) (N := some 62) (v := ?_) (a' := ?_) #[true, true, true, true, true, true, true, true, true, true, true, true, true, true, true, true, true, true, true, true, true, false, false, false, false, false, false, false] rfl rfl (any_of HT_.out (by kernel_rfl)) (fun _ _ _ h => h) (Or.inl ⟨by rfl, ?_⟩) ?_ ?_
          rotate_left
          · intro w'
            go_simp
            with_reducible rfl
          rotate_left
          · simp only [Act.put, List.setIfInBounds_toArray, List.set_cons_zero, List.set_cons_succ, i64_w, i32_w]
            rfl
          refine take_ (i := 23) (N := some 65) (v := ?_) (a' := ?_) #[true, true, true, true, true, true, true, true, true, true, true, true, true, true, true, true, true, true, true, true, true, false, false, true, false, false, false, false] rfl rfl (take_ofW HT_.out HW_.out (by kernel_rfl)) (fun _ _ _ h => h) (Or.inl ⟨by rfl, ?_⟩) hHeld ?_ ?_
          rotate_left
          · rintro w' ⟨s0, s1, s2, s3, s4, s5, s6⟩
            go_simp
            with_reducible rfl
          rotate_left
          · simp only [Act.put, List.setIfInBounds_toArray, List.set_cons_zero, List.set_cons_succ, i64_w, i32_w]
            rfl
          refine one_ (i := 21) (N := some 63) #[true, true, true, true, true, true, true, true, true, true, true, true, true, true, true, true, true, true, true, true, true, true, false, true, false, false, false, false] rfl rfl (one_of HT_.out (by kernel_rfl)) (by decide) (fun K hK => ?_)
          refine goes_ Try.func45 (by kernel_rfl) rfl #[.int .u64 a0_4, .int .u64 a0_5] (by rfl) rfl rfl (by (try simp only [List.map_toArray, List.map_cons, List.map_nil]); first | done | rfl | (simp only [List.length_drop, List.length_take]; rfl)) ?_
          with_reducible refine (ratio_Gcd.calls a0_4 a0_5 t4628 _ A14.out).mono ?_
          rintro e w51 ⟨rfl, hb⟩
          refine ⟨_, rfl, ?_⟩
          have n0_ := Aside0.mk (Kd.R_below HO4618.out hb)
          have n1_ := Aside0.mk (Kd.R_below HO4621.out hb)
          have n2_ := Aside0.mk (Kd.V_below HO4624.out hb)
          have n3_ := Aside0.mk (blk_below BK4605.out hb)
          have n4_ := Aside0.mk (blk_below BK4606.out hb)
          have n5_ := Aside0.mk (blk_below BK4611.out hb)
          have n6_ := Aside0.mk (blk_below BK4615.out hb)
          have n7_ := Aside0.mk (blk_below BK4625.out hb)
          have n8_ := Aside0.mk (below_step (by repeat (first | (with_reducible first | exact HB.out | apply below_alloc | apply pw_below_drewN | apply below_drew1 | refine below_set ?_ GE4605.out | refine below_set ?_ GE4606.out | refine below_set ?_ GE4611.out | refine below_set ?_ GE4615.out | refine below_set ?_ GE4625.out) | exact HB.out)) hb)
          clear HO4618
          clear HO4621
          clear HO4624
          clear BK4605
          clear BK4606
          clear BK4611
          clear BK4615
          clear BK4625
          clear HB
          have HO4618 := n0_
          have HO4621 := n1_
          have HO4624 := n2_
          have BK4605 := n3_
          have BK4606 := n4_
          have BK4611 := n5_
          have BK4615 := n6_
          have BK4625 := n7_
          have HB := n8_
          clear n0_ n1_ n2_ n3_ n4_ n5_ n6_ n7_ n8_
          (try clear hb)
          (try clear hb2)
          (try clear hk)
          (try clear hi)
          refine hK.out _ _ ⟨(blk_cell BK4606.out 0).trans rfl, (blk_cell BK4606.out 1).trans rfl, (blk_cell BK4611.out 0).trans rfl, (blk_cell BK4611.out 1).trans rfl, (blk_cell BK4615.out 0).trans rfl, (blk_cell BK4615.out 1).trans rfl, (blk_cell BK4625.out 0).trans rfl⟩ (fun hHeld => ?_)
          clear hK K
          refine norm_ (a' := ?_) ?_ ?_
          rotate_left
          · show Act.put _ (some 63) _ = _
            simp only [Act.put, List.setIfInBounds_toArray, List.set_cons_zero, List.set_cons_succ, i64_w, i32_w]
            rfl
          refine one_ (i := 22) (N := some 64) #[true, true, true, true, true, true, true, true, true, true, true, true, true, true, true, true, true, true, true, true, true, true, true, true, false, false, false, false] rfl rfl (one_of HT_.out (by kernel_rfl)) (by decide) (fun K hK => ?_)
          refine goes_ Try.func24 (by kernel_rfl) rfl #[.int .u64 t4628] (by rfl) rfl rfl (by (try simp only [List.map_toArray, List.map_cons, List.map_nil]); first | done | rfl | (simp only [List.length_drop, List.length_take]; rfl)) ?_
          with_reducible refine (demurrageref01_FromU.calls k t4628 t4629 _ A15.out).mono ?_
          rintro e w52 ⟨v4630, rfl, ho0, hb⟩
          refine ⟨_, rfl, ?_⟩
          have n0_ := Aside0.mk (Kd.R_elder' HO4618.out (Kd.R_base ho0) hb)
          have n1_ := Aside0.mk (Kd.R_elder' HO4621.out (Kd.R_base ho0) hb)
          have n2_ := Aside0.mk (Kd.V_elder' HO4624.out (Kd.R_base ho0) hb)
          have n3_ := Aside0.mk (Kd.R_lower (Kd.R_new' (Kd.R_new' ho0 (Kd.R_lt HO4618.out)) (Kd.R_lt HO4621.out)) (below_size (by repeat (first | (with_reducible first | exact HB.out | apply below_alloc | apply pw_below_drewN | apply below_drew1 | refine below_set ?_ GE4605.out | refine below_set ?_ GE4606.out | refine below_set ?_ GE4611.out | refine below_set ?_ GE4615.out | refine below_set ?_ GE4625.out) | exact HB.out))))
          have n4_ := Aside0.mk (blk_below BK4605.out hb)
          have n5_ := Aside0.mk (blk_below BK4606.out hb)
          have n6_ := Aside0.mk (blk_below BK4611.out hb)
          have n7_ := Aside0.mk (blk_below BK4615.out hb)
          have n8_ := Aside0.mk (blk_below BK4625.out hb)
          have n9_ := Aside0.mk (below_step (by repeat (first | (with_reducible first | exact HB.out | apply below_alloc | apply pw_below_drewN | apply below_drew1 | refine below_set ?_ GE4605.out | refine below_set ?_ GE4606.out | refine below_set ?_ GE4611.out | refine below_set ?_ GE4615.out | refine below_set ?_ GE4625.out) | exact HB.out)) hb)
          clear HO4618
          clear HO4621
          clear HO4624
          clear BK4605
          clear BK4606
          clear BK4611
          clear BK4615
          clear BK4625
          clear HB
          have HO4618 := n0_
          have HO4621 := n1_
          have HO4624 := n2_
          have HO4631 := n3_
          have BK4605 := n4_
          have BK4606 := n5_
          have BK4611 := n6_
          have BK4615 := n7_
          have BK4625 := n8_
          have HB := n9_
          clear n0_ n1_ n2_ n3_ n4_ n5_ n6_ n7_ n8_ n9_
          (try clear hb)
          (try clear hb2)
          (try clear hk)
          (try clear hi)
          (try clear ho0)
          obtain ⟨Ao53, co53, eo53⟩ := Kd.R_slice HO4631.out
          (first | subst eo53 | (injection eo53 with f1_ f2_ f3_; have f4_ := f1_.symm; have f5_ := f3_.symm; clear f1_ f2_ f3_; subst f4_; subst f5_))
          refine hK.out _ _ ⟨(blk_cell BK4606.out 0).trans rfl, (blk_cell BK4606.out 1).trans rfl, (blk_cell BK4611.out 0).trans rfl, (blk_cell BK4611.out 1).trans rfl, (blk_cell BK4615.out 0).trans rfl, (blk_cell BK4615.out 1).trans rfl, (blk_cell BK4625.out 0).trans rfl⟩ (fun hHeld => ?_)
          clear hK K
          refine norm_ (a' := ?_) ?_ ?_
          rotate_left
          · show Act.put _ (some 64) _ = _
            simp only [Act.put, List.setIfInBounds_toArray, List.set_cons_zero, List.set_cons_succ, i64_w, i32_w]
            rfl
          refine one_ (i := 24) (N := some 66) #[true, true, true, true, true, true, true, true, true, true, true, true, true, true, true, true, true, true, true, true, true, true, true, true, true, false, false, false] rfl rfl (one_of HT_.out (by kernel_rfl)) (by decide) (fun K hK => ?_)
          refine goes_ Try.func31 (by kernel_rfl) rfl #[.agg #[.slice Ao53 t4629.length co53], .agg #[.slice Ao41 t4622.length co41]] (by rfl) rfl rfl (by (try simp only [List.map_toArray, List.map_cons, List.map_nil]); first | done | rfl | (simp only [List.length_drop, List.length_take]; rfl)) ?_
          with_reducible refine (demurrageref01_Cmp.calls k _ _ t4629 _ _ t4622 t4632 _ ?side1 ?side2 ?side3 ?side4 A16.out).mono ?_
          (case side1 => repeat (first | exact (Kd.R_reads' HO4631.out).2.2 | (with_reducible refine Kd.C_alloc ?_ _) | (with_reducible refine Kd.C_drewN ?_ _) | (with_reducible refine Kd.C_drew ?_)))
          (case side2 => exact (Kd.R_reads' HO4631.out).2.1)
          (case side3 => repeat (first | exact (Kd.V_reads' HO4624.out).2.2 | (with_reducible refine Kd.C_alloc ?_ _) | (with_reducible refine Kd.C_drewN ?_ _) | (with_reducible refine Kd.C_drew ?_)))
          (case side4 => exact (Kd.V_reads' HO4624.out).2.1)
          rintro e w54 ⟨rfl, hb⟩
          refine ⟨_, rfl, ?_⟩
          have n0_ := Aside0.mk (Kd.R_below HO4618.out hb)
          have n1_ := Aside0.mk (Kd.R_below HO4621.out hb)
          have n2_ := Aside0.mk (Kd.V_below HO4624.out hb)
          have n3_ := Aside0.mk (Kd.R_below HO4631.out hb)
          have n4_ := Aside0.mk (blk_below BK4605.out hb)
          have n5_ := Aside0.mk (blk_below BK4606.out hb)
          have n6_ := Aside0.mk (blk_below BK4611.out hb)
          have n7_ := Aside0.mk (blk_below BK4615.out hb)
          have n8_ := Aside0.mk (blk_below BK4625.out hb)
          have n9_ := Aside0.mk (below_step (by repeat (first | (with_reducible first | exact HB.out | apply below_alloc | apply pw_below_drewN | apply below_drew1 | refine below_set ?_ GE4605.out | refine below_set ?_ GE4606.out | refine below_set ?_ GE4611.out | refine below_set ?_ GE4615.out | refine below_set ?_ GE4625.out) | exact HB.out)) hb)
          clear HO4618
          clear HO4621
          clear HO4624
          clear HO4631
          clear BK4605
          clear BK4606
          clear BK4611
          clear BK4615
          clear BK4625
          clear HB
          have HO4618 := n0_
          have HO4621 := n1_
          have HO4624 := n2_
          have HO4631 := n3_
          have BK4605 := n4_
          have BK4606 := n5_
          have BK4611 := n6_
          have BK4615 := n7_
          have BK4625 := n8_
          have HB := n9_
          clear n0_ n1_ n2_ n3_ n4_ n5_ n6_ n7_ n8_ n9_
          (try clear hb)
          (try clear hb2)
          (try clear hk)
          (try clear hi)
          refine hK.out _ _ ⟨(blk_cell BK4606.out 0).trans rfl, (blk_cell BK4606.out 1).trans rfl, (blk_cell BK4611.out 0).trans rfl, (blk_cell BK4611.out 1).trans rfl, (blk_cell BK4615.out 0).trans rfl, (blk_cell BK4615.out 1).trans rfl, (blk_cell BK4625.out 0).trans rfl⟩ (fun hHeld => ?_)
          clear hK K
          refine norm_ (a' := ?_) ?_ ?_
          rotate_left
          · show Act.put _ (some 66) _ = _
            simp only [Act.put, List.setIfInBounds_toArray, List.set_cons_zero, List.set_cons_succ, i64_w, i32_w]
            rfl
          refine pure_ (i := 25) (N := some 67) (v := ?_) (a' := ?_) #[true, true, true, true, true, true, true, true, true, true, true, true, true, true, true, true, true, true, true, true, true, true, true, true, true, true, false, false] rfl rfl (any_of HT_.out (by kernel_rfl)) (fun _ _ _ h => h) (Or.inl ⟨by rfl, ?_⟩) ?_ ?_
          rotate_left
          · intro w'
            go_simp
            with_reducible rfl
          rotate_left
          · simp only [Act.put, List.setIfInBounds_toArray, List.set_cons_zero, List.set_cons_succ, i64_w, i32_w]
            rfl
          refine pure_ (i := 26) (N := some 68) (v := ?_) (a' := ?_) #[true, true, true, true, true, true, true, true, true, true, true, true, true, true, true, true, true, true, true, true, true, true, true, true, true, true, true, false] rfl rfl (any_of HT_.out (by kernel_rfl)) (fun _ _ _ h => h) (Or.inl ⟨by rfl, ?_⟩) ?_ ?_
          rotate_left
          · intro w'
            go_simp
            with_reducible rfl
          rotate_left
          · simp only [Act.put, List.setIfInBounds_toArray, List.set_cons_zero, List.set_cons_succ, i64_w, i32_w]
            rfl
          refine pure_ (i := 27) (N := some 2) (v := ?_) (a' := ?_) #[true, true, true, true, true, true, true, true, true, true, true, true, true, true, true, true, true, true, true, true, true, true, true, true, true, true, true, true] rfl rfl (any_of HT_.out (by kernel_rfl)) (fun _ _ _ h => h) (Or.inl ⟨by rfl, ?_⟩) ?_ ?_
          rotate_left
          · intro w'
            go_simp
            with_reducible rfl
          rotate_left
          · simp only [Act.put, List.setIfInBounds_toArray, List.set_cons_zero, List.set_cons_succ, i64_w, i32_w]
            rfl
          refine done_ (done_of HT_.out (by kernel_rfl)) ?_
          try go_wp2
          go_ret
          exact ⟨by rfl, by repeat (first | (with_reducible first | exact HB.out | apply below_alloc | apply pw_below_drewN | apply below_drew1 | refine below_set ?_ GE4605.out | refine below_set ?_ GE4606.out | refine below_set ?_ GE4611.out | refine below_set ?_ GE4615.out | refine below_set ?_ GE4625.out) | exact HB.out)⟩
        · rw [if_neg c13] at H
          exact absurd H (by simp)
      · rw [if_neg c12] at H
        exact absurd H (by simp)
    · rw [if_neg c11] at H
      exact absurd H (by simp)
  · replace c8 := Bool.eq_false_iff.mpr c8
    subst c8
    have H1 : (none) = some r := by rw [if_neg (show ¬ (false = true) by decide)] at H; exact H
    clear H
    have H := H1
    clear H1
    exact absurd H (by simp)

end Go.Proofs.Ytcdbmmlnmefoeaa.X
