-- cut by prune.py, a program of this session
import Derived.Test.YtbapgkopilmdfaaDoorPActualBetweenX0
import Derived.Test.YtbapgkopilmdfaaDoorPActualBetweenXRefTwo
import Derived.Test.YtbapgkopilmdfaaDoorPActualBetweenXRefAdd
import Derived.Test.YtbapgkopilmdfaaDoorPActualBetweenXRefFour
import Derived.Test.YtbapgkopilmdfaaDoorPActualBetweenXShown
import Derived.Test.YtbapgkopilmdfaaDoorPActualBetweenHActual
import Derived.Test.YtbapgkopilmdfaaDoorPActualBetweenHYears
namespace Go.Proofs.YtbapgkopilmdfaaDoor.X
open Go.RowKit Go.Proofs.YtbapgkopilmdfaaDoorW.PrintWords Go.Proofs.YtbapgkopilmdfaaDoorW.PrintLast Go.Proofs.YtbapgkopilmdfaaDoorW.PrintMore
attribute [local go_sem] max2_int min2_int max_two min_two
set_option linter.unusedVariables false
set_option linter.unusedSimpArgs false

def demurragelaw08_ActualBetween.j0 : Nat → Int → Int → Bool → Bool → Option (Bool)
 | 0, _, _, _, _ => none
 | k + 1, x0, x1, x5, x27 => if x27 = true then (some x5) else ((actual_By360.f k x0 x1).bind fun bt804 => ((actual_By365.f k x0 x1).bind fun bt808 => ((actual_ByYears.f k x0 x1).bind fun bt812 => ((demurrageref02_New.f k (wrap64 (x1 - x0)) 366).bind fun bt816 => (if bt804.2.2 = 0 then (if bt808.2.2 = 0 then (if bt812.2.2 = 0 then (if x5 = true then ((demurrageref02_Cmp.f k bt804.1 bt804.2.1 bt808.1 bt808.2.1).bind fun t823 => (if t823 ≥ 0 then ((demurrageref02_Cmp.f k bt808.1 bt808.2.1 bt812.1 bt812.2.1).bind fun t824 => (if t824 ≥ 0 then ((demurrageref02_Cmp.f k bt812.1 bt812.2.1 bt816.1 bt816.2.1).bind fun t825 => (if t825 ≥ 0 then (if ((bt812.1 == 0) == (x0 == x1)) = true then (if ((bt804.1 == 0) == (x0 == x1)) = true then (if (wrap64 (bt804.1 * 360)) = (wrap64 ((wrap64 (x1 - x0)) * bt804.2.1)) then (some ((wrap64 (bt808.1 * 365)) == (wrap64 ((wrap64 (x1 - x0)) * bt808.2.1)))) else (none)) else (none)) else (none)) else (none))) else (none))) else (none))) else (none)) else (none)) else (none)) else (none))))))
def demurragelaw08_ActualBetween.f (k : Nat) (a0 : Int) (a1 : Int) : Option (Bool) := (demurragelaw08_shown.f k).bind fun t735 => ((demurrageref04_Day.f a0).bind fun t736 => (if t736 = true then ((demurrageref04_Day.f a1).bind fun t737 => (if t737 = true then (demurragelaw08_ActualBetween.j0 k a0 a1 t735 (decide (a0 > a1))) else (demurragelaw08_ActualBetween.j0 k a0 a1 t735 true))) else (demurragelaw08_ActualBetween.j0 k a0 a1 t735 true)))
set_option maxHeartbeats 8000000 in
set_option maxRecDepth 100000 in
theorem demurragelaw08_ActualBetween.calls (k : Nat) (a0 : Int) (a1 : Int) (r : Bool) (w : World) (hv : Vars w) (h : demurragelaw08_ActualBetween.f k a0 a1 = some r) :
  Calls Tryd.prog 6 #[.int .i64 a0, .int .i64 a1] w fun e w' => e = .returned (.bool r) ∧ Below w.heap.size w w' := by
 have HV := aA_ hv
 clear hv
 have hu24 := Tryd.underlying24
 have HB := aA_ (Below.refl w.heap.size w)
 have H : ((demurragelaw08_shown.f k).bind fun t735 => ((demurrageref04_Day.f a0).bind fun t736 => (if t736 = true then ((demurrageref04_Day.f a1).bind fun t737 => (if t737 = true then (demurragelaw08_ActualBetween.j0 k a0 a1 t735 (decide (a0 > a1))) else (demurragelaw08_ActualBetween.j0 k a0 a1 t735 true))) else (demurragelaw08_ActualBetween.j0 k a0 a1 t735 true)))) = some r := h
 clear h
 replace H := bI_ H
 obtain ⟨t735, A30, H⟩ := H
 (try dsimp only at H)
 have A3 := aA_ A30
 clear A30
 have HC4 := aA_ H
 clear H
 go_enter Tryd.func6, Tryd.ntmps6
 go_upto_region 2 with (first | (refine goesL_ (some 14) rfl rfl Tryd.func8 (by kernel_rfl) rfl #[] rfl (by (try simp only [mT_, mC_, mN_]); first | done | rfl) ?_; (with_reducible refine (demurragelaw08_shown.calls k  t735 _ ?sv A3.out).mono ?_); (case sv => exact (Vars.below HV.out (by repeat (with_reducible first | exact HB.out | apply bA_ | apply bN_ | apply bD_)))); rintro e w5 ⟨rfl, hb⟩; refine ⟨_, rfl, ?_⟩; replace HB := bB_ (by repeat (with_reducible first | exact HB.out | apply bA_ | apply bN_ | apply bD_)) hb; (try clear hb)))
 (try simp only [Act.put, sT_, sZ_, sS_])
 go_cut [27] (fun v27 wc => ∃ (kq : Nat) (x27_3 : Bool), v27 = .bool x27_3 ∧ Aside0 (demurragelaw08_ActualBetween.j0 kq a0 a1 t735 x27_3 = some r) ∧ Aside0 (kq ≤ k) ∧ Aside0 (Below w.heap.size w wc))
 case first =>
  have H := HC4.out
  clear HC4
  replace H := bI_ H
  obtain ⟨t736, A60, H⟩ := H
  (try dsimp only at H)
  have A6 := aA_ A60
  clear A60
  by_cases c7 : t736 = true
  ·subst c7
   rw [if_pos rfl] at H
   replace H := bI_ H
   obtain ⟨t737, A80, H⟩ := H
   (try dsimp only at H)
   have A8 := aA_ A80
   clear A80
   by_cases c9 : t737 = true
   ·subst c9
    rw [if_pos rfl] at H
    have H' := aA_ H
    clear H
    go_wp2_with (first | (refine goesL_ (some 16) rfl rfl Tryd.func15 (by kernel_rfl) rfl #[.int .i64 a0] rfl (by (try simp only [mT_, mC_, mN_]); first | done | rfl) ?_; (with_reducible refine (demurrageref04_Day.calls a0 true _ A6.out).mono ?_); rintro e w' ⟨rfl, ⟨nd, rfl⟩⟩; refine ⟨_, rfl, ?_⟩) | (go_at_call 15; (with_reducible refine (demurrageref04_Day.calls a1 true _ A8.out).mono ?_); rintro e w' ⟨rfl, ⟨nd, rfl⟩⟩))
    go_meet
    case rel => exact ⟨_, (decide (a0 > a1)), (by first | rfl | (simp; done) | (simp [*]; done)), H', ⟨by first | omega | exact Nat.le_refl _⟩, ⟨by repeat (with_reducible first | exact HB.out | apply bA_ | apply bN_ | apply bD_)⟩⟩
   ·replace c9 := Bool.eq_false_iff.mpr c9
    subst c9
    rw [if_neg (show ¬ (false = true) by decide)] at H
    have H' := aA_ H
    clear H
    go_wp2_with (first | (refine goesL_ (some 16) rfl rfl Tryd.func15 (by kernel_rfl) rfl #[.int .i64 a0] rfl (by (try simp only [mT_, mC_, mN_]); first | done | rfl) ?_; (with_reducible refine (demurrageref04_Day.calls a0 true _ A6.out).mono ?_); rintro e w' ⟨rfl, ⟨nd, rfl⟩⟩; refine ⟨_, rfl, ?_⟩) | (go_at_call 15; (with_reducible refine (demurrageref04_Day.calls a1 false _ A8.out).mono ?_); rintro e w' ⟨rfl, ⟨nd, rfl⟩⟩))
    go_meet
    case rel => exact ⟨_, _, (by first | rfl | (simp; done) | (simp [*]; done)), H', ⟨by first | omega | exact Nat.le_refl _⟩, ⟨by repeat (with_reducible first | exact HB.out | apply bA_ | apply bN_ | apply bD_)⟩⟩
  ·replace c7 := Bool.eq_false_iff.mpr c7
   subst c7
   rw [if_neg (show ¬ (false = true) by decide)] at H
   have H' := aA_ H
   clear H
   go_wp2_with (first | (refine goesL_ (some 16) rfl rfl Tryd.func15 (by kernel_rfl) rfl #[.int .i64 a0] rfl (by (try simp only [mT_, mC_, mN_]); first | done | rfl) ?_; (with_reducible refine (demurrageref04_Day.calls a0 false _ A6.out).mono ?_); rintro e w' ⟨rfl, ⟨nd, rfl⟩⟩; refine ⟨_, rfl, ?_⟩))
   go_meet
   case rel => exact ⟨_, _, (by first | rfl | (simp; done) | (simp [*]; done)), H', ⟨by first | omega | exact Nat.le_refl _⟩, ⟨by repeat (with_reducible first | exact HB.out | apply bA_ | apply bN_ | apply bD_)⟩⟩
 case rest =>
  clear HC4
  try clear c1
  try clear p2
  try clear c6
  try clear c7
  try clear c8
  try clear c9
  obtain ⟨kq, x27_3, rfl, HA, HJ3, HB⟩ := hcut
  cases kq with
  | zero => exact absurd HA.out (by simp [demurragelaw08_ActualBetween.j0])
  | succ kj3 =>
   have H := HA.out
   clear HA
   simp only [demurragelaw08_ActualBetween.j0] at H
   by_cases c10 : x27_3 = true
   ·subst c10
    rw [if_pos rfl] at H
    obtain rfl := Option.some.inj H
    go_wp2
    go_ret
    exact ⟨by rfl, by repeat (with_reducible first | exact HB.out | apply bA_ | apply bN_ | apply bD_)⟩
   ·replace c10 := Bool.eq_false_iff.mpr c10
    subst c10
    rw [if_neg (show ¬ (false = true) by decide)] at H
    replace H := bI_ H
    obtain ⟨⟨t804, t805, t806⟩, A110, H⟩ := H
    (try dsimp only at H)
    have A11 := aA_ A110
    clear A110
    replace H := bI_ H
    obtain ⟨⟨t808, t809, t810⟩, A120, H⟩ := H
    (try dsimp only at H)
    have A12 := aA_ A120
    clear A120
    replace H := bI_ H
    obtain ⟨⟨t812, t813, t814⟩, A130, H⟩ := H
    (try dsimp only at H)
    have A13 := aA_ A130
    clear A130
    replace H := bI_ H
    obtain ⟨⟨t816, t817, t818⟩, A140, H⟩ := H
    (try dsimp only at H)
    have A14 := aA_ A140
    clear A140
    by_cases c15 : t806 = 0
    ·rw [if_pos c15] at H
     have c15b0 : (t806 == 0) = true := beq_iff_eq.mpr c15
     have c15b1 : (t806 != 0) = false := bne_eq_false_iff_eq.mpr c15
     clear c15
     by_cases c16 : t810 = 0
     ·rw [if_pos c16] at H
      have c16b0 : (t810 == 0) = true := beq_iff_eq.mpr c16
      have c16b1 : (t810 != 0) = false := bne_eq_false_iff_eq.mpr c16
      clear c16
      by_cases c17 : t814 = 0
      ·rw [if_pos c17] at H
       have c17b0 : (t814 == 0) = true := beq_iff_eq.mpr c17
       have c17b1 : (t814 != 0) = false := bne_eq_false_iff_eq.mpr c17
       clear c17
       by_cases c18 : t735 = true
       ·subst c18
        rw [if_pos rfl] at H
        replace H := bI_ H
        obtain ⟨t823, A190, H⟩ := H
        (try dsimp only at H)
        have A19 := aA_ A190
        clear A190
        by_cases c20 : t823 ≥ 0
        ·rw [if_pos c20] at H
         have c20b0 : decide (0 ≤ t823) = true := decide_eq_true c20
         clear c20
         replace H := bI_ H
         obtain ⟨t824, A210, H⟩ := H
         (try dsimp only at H)
         have A21 := aA_ A210
         clear A210
         by_cases c22 : t824 ≥ 0
         ·rw [if_pos c22] at H
          have c22b0 : decide (0 ≤ t824) = true := decide_eq_true c22
          clear c22
          replace H := bI_ H
          obtain ⟨t825, A230, H⟩ := H
          (try dsimp only at H)
          have A23 := aA_ A230
          clear A230
          by_cases c24 : t825 ≥ 0
          ·rw [if_pos c24] at H
           have c24b0 : decide (0 ≤ t825) = true := decide_eq_true c24
           clear c24
           by_cases c25 : ((t812 == 0) == (a0 == a1)) = true
           ·rw [if_pos c25] at H
            have c25b0 : ((t812 == 0) == (a0 == a1)) = true := c25
            (try (have c25b1 : decide ((t812 == 0) = (a0 == a1)) = true := by simpa using c25))
            (try (have c25b2 : ((t812 == 0) == (a0 == a1)) = true := by simpa using c25))
            clear c25
            by_cases c26 : ((t804 == 0) == (a0 == a1)) = true
            ·rw [if_pos c26] at H
             have c26b0 : ((t804 == 0) == (a0 == a1)) = true := c26
             (try (have c26b1 : decide ((t804 == 0) = (a0 == a1)) = true := by simpa using c26))
             (try (have c26b2 : ((t804 == 0) == (a0 == a1)) = true := by simpa using c26))
             clear c26
             by_cases c27 : (wrap64 (t804 * 360)) = (wrap64 ((wrap64 (a1 - a0)) * t805))
             ·rw [if_pos c27] at H
              have c27b0 : ((wrap64 (t804 * 360)) == (wrap64 ((wrap64 (a1 - a0)) * t805))) = true := beq_iff_eq.mpr c27
              have c27b1 : ((wrap64 (t804 * 360)) != (wrap64 ((wrap64 (a1 - a0)) * t805))) = false := bne_eq_false_iff_eq.mpr c27
              clear c27
              obtain rfl := Option.some.inj H
              go_wp2_with (first | (refine goesL_ (some 32) rfl rfl Tryd.func9 (by kernel_rfl) rfl #[.int .i64 a0, .int .i64 a1] rfl (by (try simp only [mT_, mC_, mN_]); first | done | rfl) ?_; (with_reducible refine (actual_By360.calls kj3 a0 a1 t804 t805 t806 _ ?sv A11.out).mono ?_); (case sv => exact (Vars.below HV.out (by repeat (with_reducible first | exact HB.out | apply bA_ | apply bN_ | apply bD_)))); rintro e w28 ⟨rfl, hb⟩; refine ⟨_, rfl, ?_⟩; replace HB := bB_ (by repeat (with_reducible first | exact HB.out | apply bA_ | apply bN_ | apply bD_)) hb; (try clear hb)) | (refine box_event rfl (N := 6) rfl (cs := #[.int .i64 0, .int .i64 0]) (t := 24) ?hr ?_; (case hr => go_simp <;> rfl); intro gb807 hg w29 hbox hb; have BK807 := aA_ (hbox); have GW807 := gW_ hg (by repeat (with_reducible first | exact HB.out | apply bA_ | apply bN_ | apply bD_)); have GE807 := GW807; replace HB := bB_ (by repeat (with_reducible first | exact HB.out | apply bA_ | apply bN_ | apply bD_)) hb; clear hb hbox hg; have hcz30_0 : w29.cell? ⟨gb807, 0, none⟩ = some (.int .i64 0) := (blk_cell BK807.out 0).trans rfl; have hcz30_1 : w29.cell? ⟨gb807, 1, none⟩ = some (.int .i64 0) := (blk_cell BK807.out 1).trans rfl; have hfz30_0 := blk_frozen BK807.out 0; have hfz30_1 := blk_frozen BK807.out 1) | (refine goesL_ (some 38) rfl rfl Tryd.func11 (by kernel_rfl) rfl #[.int .i64 a0, .int .i64 a1] rfl (by (try simp only [mT_, mC_, mN_]); first | done | rfl) ?_; (with_reducible refine (actual_By365.calls kj3 a0 a1 t808 t809 t810 _ ?sv A12.out).mono ?_); (case sv => exact (Vars.below HV.out (by repeat (with_reducible first | exact HB.out | apply bA_ | apply bN_ | apply bD_ | refine bS_ ?_ GE807.out)))); rintro e w31 ⟨rfl, hb⟩; refine ⟨_, rfl, ?_⟩; replace BK807 := aA_ (blk_below (g := gb807) (o := .cells #[.int .i64 t804, .int .i64 t805] 24 (0, 0)) (by refine blk_put (cs := #[.int .i64 t804, .int .i64 0]) ?_ 1 _ rfl; refine blk_put (cs := #[.int .i64 0, .int .i64 0]) ?_ 0 _ rfl; exact BK807.out) hb); replace HB := bB_ (by repeat (with_reducible first | exact HB.out | apply bA_ | apply bN_ | apply bD_ | refine bS_ ?_ GE807.out)) hb; (try clear hb)) | (refine box_event rfl (N := 8) rfl (cs := #[.int .i64 0, .int .i64 0]) (t := 24) ?hr ?_; (case hr => go_simp <;> rfl); intro gb811 hg w32 hbox hb; have BK811 := aA_ (hbox); have GW811 := gW_ hg (by repeat (with_reducible first | exact HB.out | apply bA_ | apply bN_ | apply bD_ | refine bS_ ?_ GE807.out)); have GE811 := GW811; replace HB := bB_ (by repeat (with_reducible first | exact HB.out | apply bA_ | apply bN_ | apply bD_ | refine bS_ ?_ GE807.out)) hb; have NB807_811 := nE_ hg BK807; have NB811_807 := aA_ NB807_811.out.symm; replace BK807 := bK_ BK807 hb; clear hb hbox hg; have hnb33 := NB811_807.out; have hnc33 := NB807_811.out; have hcz34_0 : w32.cell? ⟨gb811, 0, none⟩ = some (.int .i64 0) := (blk_cell BK811.out 0).trans rfl; have hcz34_1 : w32.cell? ⟨gb811, 1, none⟩ = some (.int .i64 0) := (blk_cell BK811.out 1).trans rfl; have hfz34_0 := blk_frozen BK811.out 0; have hfz34_1 := blk_frozen BK811.out 1) | (refine goesL_ (some 44) rfl rfl Tryd.func13 (by kernel_rfl) rfl #[.int .i64 a0, .int .i64 a1] rfl (by (try simp only [mT_, mC_, mN_]); first | done | rfl) ?_; (with_reducible refine (actual_ByYears.calls kj3 a0 a1 t812 t813 t814 _ ?sv A13.out).mono ?_); (case sv => exact (Vars.below HV.out (by repeat (with_reducible first | exact HB.out | apply bA_ | apply bN_ | apply bD_ | refine bS_ ?_ GE807.out | refine bS_ ?_ GE811.out)))); rintro e w35 ⟨rfl, hb⟩; refine ⟨_, rfl, ?_⟩; replace BK807 := aA_ (blk_below (g := gb807) (o := .cells #[.int .i64 t804, .int .i64 t805] 24 (0, 0)) (by refine blk_far ?_ NB807_811.out _; refine blk_far ?_ NB807_811.out _; exact BK807.out) hb); replace BK811 := aA_ (blk_below (g := gb811) (o := .cells #[.int .i64 t808, .int .i64 t809] 24 (0, 0)) (by refine blk_put (cs := #[.int .i64 t808, .int .i64 0]) ?_ 1 _ rfl; refine blk_put (cs := #[.int .i64 0, .int .i64 0]) ?_ 0 _ rfl; exact BK811.out) hb); replace HB := bB_ (by repeat (with_reducible first | exact HB.out | apply bA_ | apply bN_ | apply bD_ | refine bS_ ?_ GE807.out | refine bS_ ?_ GE811.out)) hb; (try clear hb)) | (refine box_event rfl (N := 10) rfl (cs := #[.int .i64 0, .int .i64 0]) (t := 24) ?hr ?_; (case hr => go_simp <;> rfl); intro gb815 hg w36 hbox hb; have BK815 := aA_ (hbox); have GW815 := gW_ hg (by repeat (with_reducible first | exact HB.out | apply bA_ | apply bN_ | apply bD_ | refine bS_ ?_ GE807.out | refine bS_ ?_ GE811.out)); have GE815 := GW815; replace HB := bB_ (by repeat (with_reducible first | exact HB.out | apply bA_ | apply bN_ | apply bD_ | refine bS_ ?_ GE807.out | refine bS_ ?_ GE811.out)) hb; have NB807_815 := nE_ hg BK807; have NB815_807 := aA_ NB807_815.out.symm; replace BK807 := bK_ BK807 hb; have NB811_815 := nE_ hg BK811; have NB815_811 := aA_ NB811_815.out.symm; replace BK811 := bK_ BK811 hb; clear hb hbox hg; have hnb37 := NB815_807.out; have hnc37 := NB807_815.out; have hnb38 := NB815_811.out; have hnc38 := NB811_815.out; have hcz39_0 : w36.cell? ⟨gb815, 0, none⟩ = some (.int .i64 0) := (blk_cell BK815.out 0).trans rfl; have hcz39_1 : w36.cell? ⟨gb815, 1, none⟩ = some (.int .i64 0) := (blk_cell BK815.out 1).trans rfl; have hfz39_0 := blk_frozen BK815.out 0; have hfz39_1 := blk_frozen BK815.out 1) | (refine goesL_ (some 51) rfl rfl Tryd.func19 (by kernel_rfl) rfl #[.int .i64 (wrap64 (a1 - a0)), .int .i64 366] rfl (by (try simp only [mT_, mC_, mN_]); first | done | rfl) ?_; (with_reducible refine (demurrageref02_New.calls kj3 (wrap64 (a1 - a0)) 366 t816 t817 t818 _ A14.out).mono ?_); rintro e w40 ⟨rfl, hb⟩; refine ⟨_, rfl, ?_⟩; replace BK807 := aA_ (blk_below (g := gb807) (o := .cells #[.int .i64 t804, .int .i64 t805] 24 (0, 0)) (by refine blk_far ?_ NB807_815.out _; refine blk_far ?_ NB807_815.out _; exact BK807.out) hb); replace BK811 := aA_ (blk_below (g := gb811) (o := .cells #[.int .i64 t808, .int .i64 t809] 24 (0, 0)) (by refine blk_far ?_ NB811_815.out _; refine blk_far ?_ NB811_815.out _; exact BK811.out) hb); replace BK815 := aA_ (blk_below (g := gb815) (o := .cells #[.int .i64 t812, .int .i64 t813] 24 (0, 0)) (by refine blk_put (cs := #[.int .i64 t812, .int .i64 0]) ?_ 1 _ rfl; refine blk_put (cs := #[.int .i64 0, .int .i64 0]) ?_ 0 _ rfl; exact BK815.out) hb); replace HB := bB_ (by repeat (with_reducible first | exact HB.out | apply bA_ | apply bN_ | apply bD_ | refine bS_ ?_ GE807.out | refine bS_ ?_ GE811.out | refine bS_ ?_ GE815.out)) hb; (try clear hb)) | (refine box_event rfl (N := 12) rfl (cs := #[.int .i64 0, .int .i64 0]) (t := 24) ?hr ?_; (case hr => go_simp <;> rfl); intro gb819 hg w41 hbox hb; have BK819 := aA_ (hbox); have GW819 := gW_ hg (by repeat (with_reducible first | exact HB.out | apply bA_ | apply bN_ | apply bD_ | refine bS_ ?_ GE807.out | refine bS_ ?_ GE811.out | refine bS_ ?_ GE815.out)); have GE819 := GW819; replace HB := bB_ (by repeat (with_reducible first | exact HB.out | apply bA_ | apply bN_ | apply bD_ | refine bS_ ?_ GE807.out | refine bS_ ?_ GE811.out | refine bS_ ?_ GE815.out)) hb; have NB807_819 := nE_ hg BK807; have NB819_807 := aA_ NB807_819.out.symm; replace BK807 := bK_ BK807 hb; have NB811_819 := nE_ hg BK811; have NB819_811 := aA_ NB811_819.out.symm; replace BK811 := bK_ BK811 hb; have NB815_819 := nE_ hg BK815; have NB819_815 := aA_ NB815_819.out.symm; replace BK815 := bK_ BK815 hb; clear hb hbox hg; have hnb42 := NB819_807.out; have hnc42 := NB807_819.out; have hnb43 := NB819_811.out; have hnc43 := NB811_819.out; have hnb44 := NB819_815.out; have hnc44 := NB815_819.out; have hcz45_0 : w41.cell? ⟨gb819, 0, none⟩ = some (.int .i64 0) := (blk_cell BK819.out 0).trans rfl; have hcz45_1 : w41.cell? ⟨gb819, 1, none⟩ = some (.int .i64 0) := (blk_cell BK819.out 1).trans rfl; have hfz45_0 := blk_frozen BK819.out 0; have hfz45_1 := blk_frozen BK819.out 1; have hcz46_0 : w41.cell? ⟨gb807, 0, none⟩ = some (.int .i64 t804) := (blk_cell BK807.out 0).trans rfl; have hcz46_1 : w41.cell? ⟨gb807, 1, none⟩ = some (.int .i64 t805) := (blk_cell BK807.out 1).trans rfl; have hfz46_0 := blk_frozen BK807.out 0; have hfz46_1 := blk_frozen BK807.out 1; have hcz47_0 : w41.cell? ⟨gb811, 0, none⟩ = some (.int .i64 t808) := (blk_cell BK811.out 0).trans rfl; have hcz47_1 : w41.cell? ⟨gb811, 1, none⟩ = some (.int .i64 t809) := (blk_cell BK811.out 1).trans rfl; have hfz47_0 := blk_frozen BK811.out 0; have hfz47_1 := blk_frozen BK811.out 1) | (go_at_call 20; (with_reducible refine (demurrageref02_Cmp.calls kj3 t804 t805 t808 t809 t823 _ A19.out).mono ?_); rintro e w48 ⟨rfl, hb⟩; replace BK807 := aA_ (blk_below (g := gb807) (o := .cells #[.int .i64 t804, .int .i64 t805] 24 (0, 0)) (by refine blk_far ?_ NB807_819.out _; refine blk_far ?_ NB807_819.out _; exact BK807.out) hb); replace BK811 := aA_ (blk_below (g := gb811) (o := .cells #[.int .i64 t808, .int .i64 t809] 24 (0, 0)) (by refine blk_far ?_ NB811_819.out _; refine blk_far ?_ NB811_819.out _; exact BK811.out) hb); replace BK815 := aA_ (blk_below (g := gb815) (o := .cells #[.int .i64 t812, .int .i64 t813] 24 (0, 0)) (by refine blk_far ?_ NB815_819.out _; refine blk_far ?_ NB815_819.out _; exact BK815.out) hb); replace BK819 := aA_ (blk_below (g := gb819) (o := .cells #[.int .i64 t816, .int .i64 t817] 24 (0, 0)) (by refine blk_put (cs := #[.int .i64 t816, .int .i64 0]) ?_ 1 _ rfl; refine blk_put (cs := #[.int .i64 0, .int .i64 0]) ?_ 0 _ rfl; exact BK819.out) hb); replace HB := bB_ (by repeat (with_reducible first | exact HB.out | apply bA_ | apply bN_ | apply bD_ | refine bS_ ?_ GE807.out | refine bS_ ?_ GE811.out | refine bS_ ?_ GE815.out | refine bS_ ?_ GE819.out)) hb; (try clear hb); have hcz49_0 : w48.cell? ⟨gb811, 0, none⟩ = some (.int .i64 t808) := (blk_cell BK811.out 0).trans rfl; have hcz49_1 : w48.cell? ⟨gb811, 1, none⟩ = some (.int .i64 t809) := (blk_cell BK811.out 1).trans rfl; have hfz49_0 := blk_frozen BK811.out 0; have hfz49_1 := blk_frozen BK811.out 1; have hcz50_0 : w48.cell? ⟨gb815, 0, none⟩ = some (.int .i64 t812) := (blk_cell BK815.out 0).trans rfl; have hcz50_1 : w48.cell? ⟨gb815, 1, none⟩ = some (.int .i64 t813) := (blk_cell BK815.out 1).trans rfl; have hfz50_0 := blk_frozen BK815.out 0; have hfz50_1 := blk_frozen BK815.out 1) | (go_at_call 20; (with_reducible refine (demurrageref02_Cmp.calls kj3 t808 t809 t812 t813 t824 _ A21.out).mono ?_); rintro e w51 ⟨rfl, hb⟩; replace BK807 := bK_ BK807 hb; replace BK811 := bK_ BK811 hb; replace BK815 := bK_ BK815 hb; replace BK819 := bK_ BK819 hb; replace HB := bB_ (by repeat (with_reducible first | exact HB.out | apply bA_ | apply bN_ | apply bD_ | refine bS_ ?_ GE807.out | refine bS_ ?_ GE811.out | refine bS_ ?_ GE815.out | refine bS_ ?_ GE819.out)) hb; (try clear hb); have hcz52_0 : w51.cell? ⟨gb815, 0, none⟩ = some (.int .i64 t812) := (blk_cell BK815.out 0).trans rfl; have hcz52_1 : w51.cell? ⟨gb815, 1, none⟩ = some (.int .i64 t813) := (blk_cell BK815.out 1).trans rfl; have hfz52_0 := blk_frozen BK815.out 0; have hfz52_1 := blk_frozen BK815.out 1; have hcz53_0 : w51.cell? ⟨gb819, 0, none⟩ = some (.int .i64 t816) := (blk_cell BK819.out 0).trans rfl; have hcz53_1 : w51.cell? ⟨gb819, 1, none⟩ = some (.int .i64 t817) := (blk_cell BK819.out 1).trans rfl; have hfz53_0 := blk_frozen BK819.out 0; have hfz53_1 := blk_frozen BK819.out 1) | (go_at_call 20; (with_reducible refine (demurrageref02_Cmp.calls kj3 t812 t813 t816 t817 t825 _ A23.out).mono ?_); rintro e w54 ⟨rfl, hb⟩; replace BK807 := bK_ BK807 hb; replace BK811 := bK_ BK811 hb; replace BK815 := bK_ BK815 hb; replace BK819 := bK_ BK819 hb; replace HB := bB_ (by repeat (with_reducible first | exact HB.out | apply bA_ | apply bN_ | apply bD_ | refine bS_ ?_ GE807.out | refine bS_ ?_ GE811.out | refine bS_ ?_ GE815.out | refine bS_ ?_ GE819.out)) hb; (try clear hb); have hcz55_0 : w54.cell? ⟨gb815, 0, none⟩ = some (.int .i64 t812) := (blk_cell BK815.out 0).trans rfl; have hcz55_1 : w54.cell? ⟨gb815, 1, none⟩ = some (.int .i64 t813) := (blk_cell BK815.out 1).trans rfl; have hfz55_0 := blk_frozen BK815.out 0; have hfz55_1 := blk_frozen BK815.out 1; have hcz56_0 : w54.cell? ⟨gb807, 0, none⟩ = some (.int .i64 t804) := (blk_cell BK807.out 0).trans rfl; have hcz56_1 : w54.cell? ⟨gb807, 1, none⟩ = some (.int .i64 t805) := (blk_cell BK807.out 1).trans rfl; have hfz56_0 := blk_frozen BK807.out 0; have hfz56_1 := blk_frozen BK807.out 1; have hcz57_0 : w54.cell? ⟨gb811, 0, none⟩ = some (.int .i64 t808) := (blk_cell BK811.out 0).trans rfl; have hcz57_1 : w54.cell? ⟨gb811, 1, none⟩ = some (.int .i64 t809) := (blk_cell BK811.out 1).trans rfl; have hfz57_0 := blk_frozen BK811.out 0; have hfz57_1 := blk_frozen BK811.out 1))
              go_ret
              exact ⟨by rfl, by repeat (with_reducible first | exact HB.out | apply bA_ | apply bN_ | apply bD_ | refine bS_ ?_ GE807.out | refine bS_ ?_ GE811.out | refine bS_ ?_ GE815.out | refine bS_ ?_ GE819.out)⟩
             ·rw [if_neg c27] at H
              exact absurd H (by simp)
            ·rw [if_neg c26] at H
             exact absurd H (by simp)
           ·rw [if_neg c25] at H
            exact absurd H (by simp)
          ·rw [if_neg c24] at H
           exact absurd H (by simp)
         ·rw [if_neg c22] at H
          exact absurd H (by simp)
        ·rw [if_neg c20] at H
         exact absurd H (by simp)
       ·replace c18 := Bool.eq_false_iff.mpr c18
        subst c18
        rw [if_neg (show ¬ (false = true) by decide)] at H
        exact absurd H (by simp)
      ·rw [if_neg c17] at H
       exact absurd H (by simp)
     ·rw [if_neg c16] at H
      exact absurd H (by simp)
    ·rw [if_neg c15] at H
     exact absurd H (by simp)

end Go.Proofs.YtbapgkopilmdfaaDoor.X
