-- cut by prune.py, a program of this session
import Derived.Test.YtbapgkopilmdfaaDoorPActualTellsX0
import Derived.Test.YtbapgkopilmdfaaDoorPActualTellsXEq
import Derived.Test.YtbapgkopilmdfaaDoorPActualTellsXRefEight
import Derived.Test.YtbapgkopilmdfaaDoorPActualTellsXRefYears
import Derived.Test.YtbapgkopilmdfaaDoorPActualTellsXShown
import Derived.Test.YtbapgkopilmdfaaDoorPActualTellsHActual
import Derived.Test.YtbapgkopilmdfaaDoorPActualTellsHYears
namespace Go.Proofs.YtbapgkopilmdfaaDoor.X
open Go.RowKit Go.Proofs.YtbapgkopilmdfaaDoorW.PrintWords Go.Proofs.YtbapgkopilmdfaaDoorW.PrintLast Go.Proofs.YtbapgkopilmdfaaDoorW.PrintMore
attribute [local go_sem] max2_int min2_int max_two min_two
set_option linter.unusedVariables false
set_option linter.unusedSimpArgs false

attribute [local go_sem high] eqA24
def demurragelaw08_ActualTells.f (k : Nat) (a0 : Int) (a1 : Int) : Option (Bool) := (demurragelaw08_shown.f k).bind fun t365 => ((actual_By360.f k a0 a1).bind fun bt366 => ((demurrageref08_By360.f k a0 a1).bind fun bt370 => ((actual_By365.f k a0 a1).bind fun bt374 => ((demurrageref08_By365.f k a0 a1).bind fun bt378 => ((actual_ByYears.f k a0 a1).bind fun bt382 => ((demurrageref08_ByYears.f k a0 a1).bind fun bt386 => (if t365 = true then (if (bt366.1 == bt370.1 && (bt366.2.1 == bt370.2.1)) = true then (if bt366.2.2 = bt370.2.2 then (if (bt374.1 == bt378.1 && (bt374.2.1 == bt378.2.1)) = true then (if bt374.2.2 = bt378.2.2 then (if (bt382.1 == bt386.1 && (bt382.2.1 == bt386.2.1)) = true then (some (bt382.2.2 == bt386.2.2)) else (none)) else (none)) else (none)) else (none)) else (none)) else (none))))))))
set_option maxHeartbeats 8000000 in
set_option maxRecDepth 100000 in
theorem demurragelaw08_ActualTells.calls (k : Nat) (a0 : Int) (a1 : Int) (r : Bool) (w : World) (hv : Vars w) (h : demurragelaw08_ActualTells.f k a0 a1 = some r) :
  Calls Tryd.prog 3 #[.int .i64 a0, .int .i64 a1] w fun e w' => e = .returned (.bool r) ∧ Below w.heap.size w w' := by
 have HV := aA_ hv
 clear hv
 have hu24 := Tryd.underlying24
 have HB := aA_ (Below.refl w.heap.size w)
 have H : ((demurragelaw08_shown.f k).bind fun t365 => ((actual_By360.f k a0 a1).bind fun bt366 => ((demurrageref08_By360.f k a0 a1).bind fun bt370 => ((actual_By365.f k a0 a1).bind fun bt374 => ((demurrageref08_By365.f k a0 a1).bind fun bt378 => ((actual_ByYears.f k a0 a1).bind fun bt382 => ((demurrageref08_ByYears.f k a0 a1).bind fun bt386 => (if t365 = true then (if (bt366.1 == bt370.1 && (bt366.2.1 == bt370.2.1)) = true then (if bt366.2.2 = bt370.2.2 then (if (bt374.1 == bt378.1 && (bt374.2.1 == bt378.2.1)) = true then (if bt374.2.2 = bt378.2.2 then (if (bt382.1 == bt386.1 && (bt382.2.1 == bt386.2.1)) = true then (some (bt382.2.2 == bt386.2.2)) else (none)) else (none)) else (none)) else (none)) else (none)) else (none))))))))) = some r := h
 clear h
 replace H := bI_ H
 obtain ⟨t365, A30, H⟩ := H
 (try dsimp only at H)
 have A3 := aA_ A30
 clear A30
 replace H := bI_ H
 obtain ⟨⟨t366, t367, t368⟩, A40, H⟩ := H
 (try dsimp only at H)
 have A4 := aA_ A40
 clear A40
 replace H := bI_ H
 obtain ⟨⟨t370, t371, t372⟩, A50, H⟩ := H
 (try dsimp only at H)
 have A5 := aA_ A50
 clear A50
 replace H := bI_ H
 obtain ⟨⟨t374, t375, t376⟩, A60, H⟩ := H
 (try dsimp only at H)
 have A6 := aA_ A60
 clear A60
 replace H := bI_ H
 obtain ⟨⟨t378, t379, t380⟩, A70, H⟩ := H
 (try dsimp only at H)
 have A7 := aA_ A70
 clear A70
 replace H := bI_ H
 obtain ⟨⟨t382, t383, t384⟩, A80, H⟩ := H
 (try dsimp only at H)
 have A8 := aA_ A80
 clear A80
 replace H := bI_ H
 obtain ⟨⟨t386, t387, t388⟩, A90, H⟩ := H
 (try dsimp only at H)
 have A9 := aA_ A90
 clear A90
 by_cases c10 : t365 = true
 ·subst c10
  rw [if_pos rfl] at H
  by_cases c11 : (t366 == t370 && (t367 == t371)) = true
  ·rw [if_pos c11] at H
   have c11b0 : (t366 == t370 && (t367 == t371)) = true := c11
   (try (have c11b1 : decide (t366 = t370 && (t367 == t371)) = true := by simpa using c11))
   (try (have c11b2 : (t366 == t370 && (t367 == t371)) = true := by simpa using c11))
   clear c11
   by_cases c12 : t368 = t372
   ·rw [if_pos c12] at H
    have c12b0 : (t368 == t372) = true := beq_iff_eq.mpr c12
    have c12b1 : (t368 != t372) = false := bne_eq_false_iff_eq.mpr c12
    clear c12
    by_cases c13 : (t374 == t378 && (t375 == t379)) = true
    ·rw [if_pos c13] at H
     have c13b0 : (t374 == t378 && (t375 == t379)) = true := c13
     (try (have c13b1 : decide (t374 = t378 && (t375 == t379)) = true := by simpa using c13))
     (try (have c13b2 : (t374 == t378 && (t375 == t379)) = true := by simpa using c13))
     clear c13
     by_cases c14 : t376 = t380
     ·rw [if_pos c14] at H
      have c14b0 : (t376 == t380) = true := beq_iff_eq.mpr c14
      have c14b1 : (t376 != t380) = false := bne_eq_false_iff_eq.mpr c14
      clear c14
      by_cases c15 : (t382 == t386 && (t383 == t387)) = true
      ·rw [if_pos c15] at H
       have c15b0 : (t382 == t386 && (t383 == t387)) = true := c15
       (try (have c15b1 : decide (t382 = t386 && (t383 == t387)) = true := by simpa using c15))
       (try (have c15b2 : (t382 == t386 && (t383 == t387)) = true := by simpa using c15))
       clear c15
       obtain rfl := Option.some.inj H
       go_enter Tryd.func3, Tryd.ntmps3
       go_wp2_with (first | (refine goesL_ (some 18) rfl rfl Tryd.func8 (by kernel_rfl) rfl #[] rfl (by (try simp only [mT_, mC_, mN_]); first | done | rfl) ?_; (with_reducible refine (demurragelaw08_shown.calls k  true _ ?sv A3.out).mono ?_); (case sv => exact (Vars.below HV.out (by repeat (with_reducible first | exact HB.out | apply bA_ | apply bN_ | apply bD_)))); rintro e w16 ⟨rfl, hb⟩; refine ⟨_, rfl, ?_⟩; replace HB := bB_ (by repeat (with_reducible first | exact HB.out | apply bA_ | apply bN_ | apply bD_)) hb; (try clear hb)) | (refine goesL_ (some 22) rfl rfl Tryd.func9 (by kernel_rfl) rfl #[.int .i64 a0, .int .i64 a1] rfl (by (try simp only [mT_, mC_, mN_]); first | done | rfl) ?_; (with_reducible refine (actual_By360.calls k a0 a1 t366 t367 t368 _ ?sv A4.out).mono ?_); (case sv => exact (Vars.below HV.out (by repeat (with_reducible first | exact HB.out | apply bA_ | apply bN_ | apply bD_)))); rintro e w17 ⟨rfl, hb⟩; refine ⟨_, rfl, ?_⟩; replace HB := bB_ (by repeat (with_reducible first | exact HB.out | apply bA_ | apply bN_ | apply bD_)) hb; (try clear hb)) | (refine box_event rfl (N := 6) rfl (cs := #[.int .i64 0, .int .i64 0]) (t := 24) ?hr ?_; (case hr => go_simp <;> rfl); intro gb369 hg w18 hbox hb; have BK369 := aA_ (hbox); have GW369 := gW_ hg (by repeat (with_reducible first | exact HB.out | apply bA_ | apply bN_ | apply bD_)); have GE369 := GW369; replace HB := bB_ (by repeat (with_reducible first | exact HB.out | apply bA_ | apply bN_ | apply bD_)) hb; clear hb hbox hg; have hcz19_0 : w18.cell? ⟨gb369, 0, none⟩ = some (.int .i64 0) := (blk_cell BK369.out 0).trans rfl; have hcz19_1 : w18.cell? ⟨gb369, 1, none⟩ = some (.int .i64 0) := (blk_cell BK369.out 1).trans rfl; have hfz19_0 := blk_frozen BK369.out 0; have hfz19_1 := blk_frozen BK369.out 1) | (refine goesL_ (some 28) rfl rfl Tryd.func10 (by kernel_rfl) rfl #[.int .i64 a0, .int .i64 a1] rfl (by (try simp only [mT_, mC_, mN_]); first | done | rfl) ?_; (with_reducible refine (demurrageref08_By360.calls k a0 a1 t370 t371 t372 _ A5.out).mono ?_); rintro e w20 ⟨rfl, hb⟩; refine ⟨_, rfl, ?_⟩; replace BK369 := aA_ (blk_below (g := gb369) (o := .cells #[.int .i64 t366, .int .i64 t367] 24 (0, 0)) (by refine blk_put (cs := #[.int .i64 t366, .int .i64 0]) ?_ 1 _ rfl; refine blk_put (cs := #[.int .i64 0, .int .i64 0]) ?_ 0 _ rfl; exact BK369.out) hb); replace HB := bB_ (by repeat (with_reducible first | exact HB.out | apply bA_ | apply bN_ | apply bD_ | refine bS_ ?_ GE369.out)) hb; (try clear hb)) | (refine box_event rfl (N := 8) rfl (cs := #[.int .i64 0, .int .i64 0]) (t := 24) ?hr ?_; (case hr => go_simp <;> rfl); intro gb373 hg w21 hbox hb; have BK373 := aA_ (hbox); have GW373 := gW_ hg (by repeat (with_reducible first | exact HB.out | apply bA_ | apply bN_ | apply bD_ | refine bS_ ?_ GE369.out)); have GE373 := GW373; replace HB := bB_ (by repeat (with_reducible first | exact HB.out | apply bA_ | apply bN_ | apply bD_ | refine bS_ ?_ GE369.out)) hb; have NB369_373 := nE_ hg BK369; have NB373_369 := aA_ NB369_373.out.symm; replace BK369 := bK_ BK369 hb; clear hb hbox hg; have hnb22 := NB373_369.out; have hnc22 := NB369_373.out; have hcz23_0 : w21.cell? ⟨gb373, 0, none⟩ = some (.int .i64 0) := (blk_cell BK373.out 0).trans rfl; have hcz23_1 : w21.cell? ⟨gb373, 1, none⟩ = some (.int .i64 0) := (blk_cell BK373.out 1).trans rfl; have hfz23_0 := blk_frozen BK373.out 0; have hfz23_1 := blk_frozen BK373.out 1) | (refine goesL_ (some 34) rfl rfl Tryd.func11 (by kernel_rfl) rfl #[.int .i64 a0, .int .i64 a1] rfl (by (try simp only [mT_, mC_, mN_]); first | done | rfl) ?_; (with_reducible refine (actual_By365.calls k a0 a1 t374 t375 t376 _ ?sv A6.out).mono ?_); (case sv => exact (Vars.below HV.out (by repeat (with_reducible first | exact HB.out | apply bA_ | apply bN_ | apply bD_ | refine bS_ ?_ GE369.out | refine bS_ ?_ GE373.out)))); rintro e w24 ⟨rfl, hb⟩; refine ⟨_, rfl, ?_⟩; replace BK369 := aA_ (blk_below (g := gb369) (o := .cells #[.int .i64 t366, .int .i64 t367] 24 (0, 0)) (by refine blk_far ?_ NB369_373.out _; refine blk_far ?_ NB369_373.out _; exact BK369.out) hb); replace BK373 := aA_ (blk_below (g := gb373) (o := .cells #[.int .i64 t370, .int .i64 t371] 24 (0, 0)) (by refine blk_put (cs := #[.int .i64 t370, .int .i64 0]) ?_ 1 _ rfl; refine blk_put (cs := #[.int .i64 0, .int .i64 0]) ?_ 0 _ rfl; exact BK373.out) hb); replace HB := bB_ (by repeat (with_reducible first | exact HB.out | apply bA_ | apply bN_ | apply bD_ | refine bS_ ?_ GE369.out | refine bS_ ?_ GE373.out)) hb; (try clear hb)) | (refine box_event rfl (N := 10) rfl (cs := #[.int .i64 0, .int .i64 0]) (t := 24) ?hr ?_; (case hr => go_simp <;> rfl); intro gb377 hg w25 hbox hb; have BK377 := aA_ (hbox); have GW377 := gW_ hg (by repeat (with_reducible first | exact HB.out | apply bA_ | apply bN_ | apply bD_ | refine bS_ ?_ GE369.out | refine bS_ ?_ GE373.out)); have GE377 := GW377; replace HB := bB_ (by repeat (with_reducible first | exact HB.out | apply bA_ | apply bN_ | apply bD_ | refine bS_ ?_ GE369.out | refine bS_ ?_ GE373.out)) hb; have NB369_377 := nE_ hg BK369; have NB377_369 := aA_ NB369_377.out.symm; replace BK369 := bK_ BK369 hb; have NB373_377 := nE_ hg BK373; have NB377_373 := aA_ NB373_377.out.symm; replace BK373 := bK_ BK373 hb; clear hb hbox hg; have hnb26 := NB377_369.out; have hnc26 := NB369_377.out; have hnb27 := NB377_373.out; have hnc27 := NB373_377.out; have hcz28_0 : w25.cell? ⟨gb377, 0, none⟩ = some (.int .i64 0) := (blk_cell BK377.out 0).trans rfl; have hcz28_1 : w25.cell? ⟨gb377, 1, none⟩ = some (.int .i64 0) := (blk_cell BK377.out 1).trans rfl; have hfz28_0 := blk_frozen BK377.out 0; have hfz28_1 := blk_frozen BK377.out 1) | (refine goesL_ (some 40) rfl rfl Tryd.func12 (by kernel_rfl) rfl #[.int .i64 a0, .int .i64 a1] rfl (by (try simp only [mT_, mC_, mN_]); first | done | rfl) ?_; (with_reducible refine (demurrageref08_By365.calls k a0 a1 t378 t379 t380 _ A7.out).mono ?_); rintro e w29 ⟨rfl, hb⟩; refine ⟨_, rfl, ?_⟩; replace BK369 := aA_ (blk_below (g := gb369) (o := .cells #[.int .i64 t366, .int .i64 t367] 24 (0, 0)) (by refine blk_far ?_ NB369_377.out _; refine blk_far ?_ NB369_377.out _; exact BK369.out) hb); replace BK373 := aA_ (blk_below (g := gb373) (o := .cells #[.int .i64 t370, .int .i64 t371] 24 (0, 0)) (by refine blk_far ?_ NB373_377.out _; refine blk_far ?_ NB373_377.out _; exact BK373.out) hb); replace BK377 := aA_ (blk_below (g := gb377) (o := .cells #[.int .i64 t374, .int .i64 t375] 24 (0, 0)) (by refine blk_put (cs := #[.int .i64 t374, .int .i64 0]) ?_ 1 _ rfl; refine blk_put (cs := #[.int .i64 0, .int .i64 0]) ?_ 0 _ rfl; exact BK377.out) hb); replace HB := bB_ (by repeat (with_reducible first | exact HB.out | apply bA_ | apply bN_ | apply bD_ | refine bS_ ?_ GE369.out | refine bS_ ?_ GE373.out | refine bS_ ?_ GE377.out)) hb; (try clear hb)) | (refine box_event rfl (N := 12) rfl (cs := #[.int .i64 0, .int .i64 0]) (t := 24) ?hr ?_; (case hr => go_simp <;> rfl); intro gb381 hg w30 hbox hb; have BK381 := aA_ (hbox); have GW381 := gW_ hg (by repeat (with_reducible first | exact HB.out | apply bA_ | apply bN_ | apply bD_ | refine bS_ ?_ GE369.out | refine bS_ ?_ GE373.out | refine bS_ ?_ GE377.out)); have GE381 := GW381; replace HB := bB_ (by repeat (with_reducible first | exact HB.out | apply bA_ | apply bN_ | apply bD_ | refine bS_ ?_ GE369.out | refine bS_ ?_ GE373.out | refine bS_ ?_ GE377.out)) hb; have NB369_381 := nE_ hg BK369; have NB381_369 := aA_ NB369_381.out.symm; replace BK369 := bK_ BK369 hb; have NB373_381 := nE_ hg BK373; have NB381_373 := aA_ NB373_381.out.symm; replace BK373 := bK_ BK373 hb; have NB377_381 := nE_ hg BK377; have NB381_377 := aA_ NB377_381.out.symm; replace BK377 := bK_ BK377 hb; clear hb hbox hg; have hnb31 := NB381_369.out; have hnc31 := NB369_381.out; have hnb32 := NB381_373.out; have hnc32 := NB373_381.out; have hnb33 := NB381_377.out; have hnc33 := NB377_381.out; have hcz34_0 : w30.cell? ⟨gb381, 0, none⟩ = some (.int .i64 0) := (blk_cell BK381.out 0).trans rfl; have hcz34_1 : w30.cell? ⟨gb381, 1, none⟩ = some (.int .i64 0) := (blk_cell BK381.out 1).trans rfl; have hfz34_0 := blk_frozen BK381.out 0; have hfz34_1 := blk_frozen BK381.out 1) | (refine goesL_ (some 46) rfl rfl Tryd.func13 (by kernel_rfl) rfl #[.int .i64 a0, .int .i64 a1] rfl (by (try simp only [mT_, mC_, mN_]); first | done | rfl) ?_; (with_reducible refine (actual_ByYears.calls k a0 a1 t382 t383 t384 _ ?sv A8.out).mono ?_); (case sv => exact (Vars.below HV.out (by repeat (with_reducible first | exact HB.out | apply bA_ | apply bN_ | apply bD_ | refine bS_ ?_ GE369.out | refine bS_ ?_ GE373.out | refine bS_ ?_ GE377.out | refine bS_ ?_ GE381.out)))); rintro e w35 ⟨rfl, hb⟩; refine ⟨_, rfl, ?_⟩; replace BK369 := aA_ (blk_below (g := gb369) (o := .cells #[.int .i64 t366, .int .i64 t367] 24 (0, 0)) (by refine blk_far ?_ NB369_381.out _; refine blk_far ?_ NB369_381.out _; exact BK369.out) hb); replace BK373 := aA_ (blk_below (g := gb373) (o := .cells #[.int .i64 t370, .int .i64 t371] 24 (0, 0)) (by refine blk_far ?_ NB373_381.out _; refine blk_far ?_ NB373_381.out _; exact BK373.out) hb); replace BK377 := aA_ (blk_below (g := gb377) (o := .cells #[.int .i64 t374, .int .i64 t375] 24 (0, 0)) (by refine blk_far ?_ NB377_381.out _; refine blk_far ?_ NB377_381.out _; exact BK377.out) hb); replace BK381 := aA_ (blk_below (g := gb381) (o := .cells #[.int .i64 t378, .int .i64 t379] 24 (0, 0)) (by refine blk_put (cs := #[.int .i64 t378, .int .i64 0]) ?_ 1 _ rfl; refine blk_put (cs := #[.int .i64 0, .int .i64 0]) ?_ 0 _ rfl; exact BK381.out) hb); replace HB := bB_ (by repeat (with_reducible first | exact HB.out | apply bA_ | apply bN_ | apply bD_ | refine bS_ ?_ GE369.out | refine bS_ ?_ GE373.out | refine bS_ ?_ GE377.out | refine bS_ ?_ GE381.out)) hb; (try clear hb)) | (refine box_event rfl (N := 14) rfl (cs := #[.int .i64 0, .int .i64 0]) (t := 24) ?hr ?_; (case hr => go_simp <;> rfl); intro gb385 hg w36 hbox hb; have BK385 := aA_ (hbox); have GW385 := gW_ hg (by repeat (with_reducible first | exact HB.out | apply bA_ | apply bN_ | apply bD_ | refine bS_ ?_ GE369.out | refine bS_ ?_ GE373.out | refine bS_ ?_ GE377.out | refine bS_ ?_ GE381.out)); have GE385 := GW385; replace HB := bB_ (by repeat (with_reducible first | exact HB.out | apply bA_ | apply bN_ | apply bD_ | refine bS_ ?_ GE369.out | refine bS_ ?_ GE373.out | refine bS_ ?_ GE377.out | refine bS_ ?_ GE381.out)) hb; have NB369_385 := nE_ hg BK369; have NB385_369 := aA_ NB369_385.out.symm; replace BK369 := bK_ BK369 hb; have NB373_385 := nE_ hg BK373; have NB385_373 := aA_ NB373_385.out.symm; replace BK373 := bK_ BK373 hb; have NB377_385 := nE_ hg BK377; have NB385_377 := aA_ NB377_385.out.symm; replace BK377 := bK_ BK377 hb; have NB381_385 := nE_ hg BK381; have NB385_381 := aA_ NB381_385.out.symm; replace BK381 := bK_ BK381 hb; clear hb hbox hg; have hnb37 := NB385_369.out; have hnc37 := NB369_385.out; have hnb38 := NB385_373.out; have hnc38 := NB373_385.out; have hnb39 := NB385_377.out; have hnc39 := NB377_385.out; have hnb40 := NB385_381.out; have hnc40 := NB381_385.out; have hcz41_0 : w36.cell? ⟨gb385, 0, none⟩ = some (.int .i64 0) := (blk_cell BK385.out 0).trans rfl; have hcz41_1 : w36.cell? ⟨gb385, 1, none⟩ = some (.int .i64 0) := (blk_cell BK385.out 1).trans rfl; have hfz41_0 := blk_frozen BK385.out 0; have hfz41_1 := blk_frozen BK385.out 1) | (refine goesL_ (some 52) rfl rfl Tryd.func14 (by kernel_rfl) rfl #[.int .i64 a0, .int .i64 a1] rfl (by (try simp only [mT_, mC_, mN_]); first | done | rfl) ?_; (with_reducible refine (demurrageref08_ByYears.calls k a0 a1 t386 t387 t388 _ A9.out).mono ?_); rintro e w42 ⟨rfl, hb⟩; refine ⟨_, rfl, ?_⟩; replace BK369 := aA_ (blk_below (g := gb369) (o := .cells #[.int .i64 t366, .int .i64 t367] 24 (0, 0)) (by refine blk_far ?_ NB369_385.out _; refine blk_far ?_ NB369_385.out _; exact BK369.out) hb); replace BK373 := aA_ (blk_below (g := gb373) (o := .cells #[.int .i64 t370, .int .i64 t371] 24 (0, 0)) (by refine blk_far ?_ NB373_385.out _; refine blk_far ?_ NB373_385.out _; exact BK373.out) hb); replace BK377 := aA_ (blk_below (g := gb377) (o := .cells #[.int .i64 t374, .int .i64 t375] 24 (0, 0)) (by refine blk_far ?_ NB377_385.out _; refine blk_far ?_ NB377_385.out _; exact BK377.out) hb); replace BK381 := aA_ (blk_below (g := gb381) (o := .cells #[.int .i64 t378, .int .i64 t379] 24 (0, 0)) (by refine blk_far ?_ NB381_385.out _; refine blk_far ?_ NB381_385.out _; exact BK381.out) hb); replace BK385 := aA_ (blk_below (g := gb385) (o := .cells #[.int .i64 t382, .int .i64 t383] 24 (0, 0)) (by refine blk_put (cs := #[.int .i64 t382, .int .i64 0]) ?_ 1 _ rfl; refine blk_put (cs := #[.int .i64 0, .int .i64 0]) ?_ 0 _ rfl; exact BK385.out) hb); replace HB := bB_ (by repeat (with_reducible first | exact HB.out | apply bA_ | apply bN_ | apply bD_ | refine bS_ ?_ GE369.out | refine bS_ ?_ GE373.out | refine bS_ ?_ GE377.out | refine bS_ ?_ GE381.out | refine bS_ ?_ GE385.out)) hb; (try clear hb)) | (refine box_event rfl (N := 16) rfl (cs := #[.int .i64 0, .int .i64 0]) (t := 24) ?hr ?_; (case hr => go_simp <;> rfl); intro gb389 hg w43 hbox hb; have BK389 := aA_ (hbox); have GW389 := gW_ hg (by repeat (with_reducible first | exact HB.out | apply bA_ | apply bN_ | apply bD_ | refine bS_ ?_ GE369.out | refine bS_ ?_ GE373.out | refine bS_ ?_ GE377.out | refine bS_ ?_ GE381.out | refine bS_ ?_ GE385.out)); have GE389 := GW389; replace HB := bB_ (by repeat (with_reducible first | exact HB.out | apply bA_ | apply bN_ | apply bD_ | refine bS_ ?_ GE369.out | refine bS_ ?_ GE373.out | refine bS_ ?_ GE377.out | refine bS_ ?_ GE381.out | refine bS_ ?_ GE385.out)) hb; have NB369_389 := nE_ hg BK369; have NB389_369 := aA_ NB369_389.out.symm; replace BK369 := bK_ BK369 hb; have NB373_389 := nE_ hg BK373; have NB389_373 := aA_ NB373_389.out.symm; replace BK373 := bK_ BK373 hb; have NB377_389 := nE_ hg BK377; have NB389_377 := aA_ NB377_389.out.symm; replace BK377 := bK_ BK377 hb; have NB381_389 := nE_ hg BK381; have NB389_381 := aA_ NB381_389.out.symm; replace BK381 := bK_ BK381 hb; have NB385_389 := nE_ hg BK385; have NB389_385 := aA_ NB385_389.out.symm; replace BK385 := bK_ BK385 hb; clear hb hbox hg; have hnb44 := NB389_369.out; have hnc44 := NB369_389.out; have hnb45 := NB389_373.out; have hnc45 := NB373_389.out; have hnb46 := NB389_377.out; have hnc46 := NB377_389.out; have hnb47 := NB389_381.out; have hnc47 := NB381_389.out; have hnb48 := NB389_385.out; have hnc48 := NB385_389.out; have hcz49_0 : w43.cell? ⟨gb389, 0, none⟩ = some (.int .i64 0) := (blk_cell BK389.out 0).trans rfl; have hcz49_1 : w43.cell? ⟨gb389, 1, none⟩ = some (.int .i64 0) := (blk_cell BK389.out 1).trans rfl; have hfz49_0 := blk_frozen BK389.out 0; have hfz49_1 := blk_frozen BK389.out 1; have hcz50_0 : w43.cell? ⟨gb369, 0, none⟩ = some (.int .i64 t366) := (blk_cell BK369.out 0).trans rfl; have hcz50_1 : w43.cell? ⟨gb369, 1, none⟩ = some (.int .i64 t367) := (blk_cell BK369.out 1).trans rfl; have hfz50_0 := blk_frozen BK369.out 0; have hfz50_1 := blk_frozen BK369.out 1; have hcz51_0 : w43.cell? ⟨gb373, 0, none⟩ = some (.int .i64 t370) := (blk_cell BK373.out 0).trans rfl; have hcz51_1 : w43.cell? ⟨gb373, 1, none⟩ = some (.int .i64 t371) := (blk_cell BK373.out 1).trans rfl; have hfz51_0 := blk_frozen BK373.out 0; have hfz51_1 := blk_frozen BK373.out 1; have hcz52_0 : w43.cell? ⟨gb377, 0, none⟩ = some (.int .i64 t374) := (blk_cell BK377.out 0).trans rfl; have hcz52_1 : w43.cell? ⟨gb377, 1, none⟩ = some (.int .i64 t375) := (blk_cell BK377.out 1).trans rfl; have hfz52_0 := blk_frozen BK377.out 0; have hfz52_1 := blk_frozen BK377.out 1; have hcz53_0 : w43.cell? ⟨gb381, 0, none⟩ = some (.int .i64 t378) := (blk_cell BK381.out 0).trans rfl; have hcz53_1 : w43.cell? ⟨gb381, 1, none⟩ = some (.int .i64 t379) := (blk_cell BK381.out 1).trans rfl; have hfz53_0 := blk_frozen BK381.out 0; have hfz53_1 := blk_frozen BK381.out 1; have hcz54_0 : w43.cell? ⟨gb385, 0, none⟩ = some (.int .i64 t382) := (blk_cell BK385.out 0).trans rfl; have hcz54_1 : w43.cell? ⟨gb385, 1, none⟩ = some (.int .i64 t383) := (blk_cell BK385.out 1).trans rfl; have hfz54_0 := blk_frozen BK385.out 0; have hfz54_1 := blk_frozen BK385.out 1))
       go_ret
       exact ⟨by rfl, by repeat (with_reducible first | exact HB.out | apply bA_ | apply bN_ | apply bD_ | refine bS_ ?_ GE369.out | refine bS_ ?_ GE373.out | refine bS_ ?_ GE377.out | refine bS_ ?_ GE381.out | refine bS_ ?_ GE385.out | refine bS_ ?_ GE389.out)⟩
      ·rw [if_neg c15] at H
       exact absurd H (by simp)
     ·rw [if_neg c14] at H
      exact absurd H (by simp)
    ·rw [if_neg c13] at H
     exact absurd H (by simp)
   ·rw [if_neg c12] at H
    exact absurd H (by simp)
  ·rw [if_neg c11] at H
   exact absurd H (by simp)
 ·replace c10 := Bool.eq_false_iff.mpr c10
  subst c10
  rw [if_neg (show ¬ (false = true) by decide)] at H
  exact absurd H (by simp)

end Go.Proofs.YtbapgkopilmdfaaDoor.X
