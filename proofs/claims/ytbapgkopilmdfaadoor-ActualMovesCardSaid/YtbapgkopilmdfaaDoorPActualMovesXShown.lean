-- cut by prune.py, a program of this session
import Derived.Test.YtbapgkopilmdfaaDoorPActualMovesX0
import Derived.Test.YtbapgkopilmdfaaDoorPActualMovesXEq
import Derived.Test.YtbapgkopilmdfaaDoorPActualMovesXDay
import Derived.Test.YtbapgkopilmdfaaDoorPActualMovesHActual
import Derived.Test.YtbapgkopilmdfaaDoorPActualMovesHYears
namespace Go.Proofs.YtbapgkopilmdfaaDoor.X
open Go.RowKit Go.Proofs.YtbapgkopilmdfaaDoorW.PrintWords Go.Proofs.YtbapgkopilmdfaaDoorW.PrintLast Go.Proofs.YtbapgkopilmdfaaDoorW.PrintMore
attribute [local go_sem] max2_int min2_int max_two min_two
set_option linter.unusedVariables false
set_option linter.unusedSimpArgs false

attribute [local go_sem high] eqA24
def demurragelaw08_shown.f (k : Nat)  : Option (Bool) := (demurragelaw08_day.f k 2023 12 31).bind fun t114 => ((demurragelaw08_day.f k 2024 1 2).bind fun t115 => ((actual_By360.f k t114 t115).bind fun bt116 => ((actual_By365.f k t114 t115).bind fun bt120 => ((actual_ByYears.f k t114 t115).bind fun bt124 => ((actual_ByYears.f k t115 t114).bind fun bt128 => ((actual_By360.f k 0 t114).bind fun bt132 => (if (bt116.1 == 1 && (bt116.2.1 == 180)) = true then (if bt116.2.2 = 0 then (if (bt120.1 == 2 && (bt120.2.1 == 365)) = true then (if bt120.2.2 = 0 then (if (bt124.1 == 731 && (bt124.2.1 == 133590)) = true then (if bt124.2.2 = 0 then (if bt128.2.2 = 4 then (some (bt132.2.2 == 3)) else (none)) else (none)) else (none)) else (none)) else (none)) else (none)) else (none))))))))
theorem demurragelaw08_shown.mono : ∀ k, LeO (demurragelaw08_shown.f k ) (demurragelaw08_shown.f (k + 1) ) := by
 intro  k
 unfold demurragelaw08_shown.f
 repeat' first
   | (with_reducible exact actual_By360.mono _ _ _)
   | (with_reducible exact actual_By365.mono _ _ _)
   | (with_reducible exact actual_ByYears.mono _ _ _)
   | (with_reducible exact demurragelaw08_day.mono _ _ _ _)
   | (with_reducible exact LeO.refl _)
   | (with_reducible exact LeO.none _)
   | (with_reducible refine LeO.ite ?_ ?_)
   | (with_reducible refine LeO.bind ?_ (fun _ => ?_))
   | exact actual_By360.mono _ _ _
   | exact actual_By365.mono _ _ _
   | exact actual_ByYears.mono _ _ _
   | exact demurragelaw08_day.mono _ _ _ _
   | exact LeO.none _
   | refine LeO.ite ?_ ?_
   | refine LeO.bind ?_ (fun _ => ?_)
set_option maxHeartbeats 8000000 in
set_option maxRecDepth 100000 in
theorem demurragelaw08_shown.calls (k : Nat)  (r : Bool) (w : World) (hv : Vars w) (h : demurragelaw08_shown.f k  = some r) :
  Calls Tryd.prog 8 #[] w fun e w' => e = .returned (.bool r) ∧ Below w.heap.size w w' := by
 have HV := aA_ hv
 clear hv
 have hu24 := Tryd.underlying24
 have HB := aA_ (Below.refl w.heap.size w)
 have H : ((demurragelaw08_day.f k 2023 12 31).bind fun t114 => ((demurragelaw08_day.f k 2024 1 2).bind fun t115 => ((actual_By360.f k t114 t115).bind fun bt116 => ((actual_By365.f k t114 t115).bind fun bt120 => ((actual_ByYears.f k t114 t115).bind fun bt124 => ((actual_ByYears.f k t115 t114).bind fun bt128 => ((actual_By360.f k 0 t114).bind fun bt132 => (if (bt116.1 == 1 && (bt116.2.1 == 180)) = true then (if bt116.2.2 = 0 then (if (bt120.1 == 2 && (bt120.2.1 == 365)) = true then (if bt120.2.2 = 0 then (if (bt124.1 == 731 && (bt124.2.1 == 133590)) = true then (if bt124.2.2 = 0 then (if bt128.2.2 = 4 then (some (bt132.2.2 == 3)) else (none)) else (none)) else (none)) else (none)) else (none)) else (none)) else (none))))))))) = some r := h
 clear h
 replace H := bI_ H
 obtain ⟨t114, A10, H⟩ := H
 (try dsimp only at H)
 have A1 := aA_ A10
 clear A10
 replace H := bI_ H
 obtain ⟨t115, A20, H⟩ := H
 (try dsimp only at H)
 have A2 := aA_ A20
 clear A20
 replace H := bI_ H
 obtain ⟨⟨t116, t117, t118⟩, A30, H⟩ := H
 (try dsimp only at H)
 have A3 := aA_ A30
 clear A30
 replace H := bI_ H
 obtain ⟨⟨t120, t121, t122⟩, A40, H⟩ := H
 (try dsimp only at H)
 have A4 := aA_ A40
 clear A40
 replace H := bI_ H
 obtain ⟨⟨t124, t125, t126⟩, A50, H⟩ := H
 (try dsimp only at H)
 have A5 := aA_ A50
 clear A50
 replace H := bI_ H
 obtain ⟨⟨t128, t129, t130⟩, A60, H⟩ := H
 (try dsimp only at H)
 have A6 := aA_ A60
 clear A60
 replace H := bI_ H
 obtain ⟨⟨t132, t133, t134⟩, A70, H⟩ := H
 (try dsimp only at H)
 have A7 := aA_ A70
 clear A70
 by_cases c8 : (t116 == 1 && (t117 == 180)) = true
 ·rw [if_pos c8] at H
  have c8b0 : (t116 == 1 && (t117 == 180)) = true := c8
  (try (have c8b1 : decide (t116 = 1 && (t117 == 180)) = true := by simpa using c8))
  (try (have c8b2 : (t116 == 1 && (t117 == 180)) = true := by simpa using c8))
  clear c8
  by_cases c9 : t118 = 0
  ·rw [if_pos c9] at H
   have c9b0 : (t118 == 0) = true := beq_iff_eq.mpr c9
   have c9b1 : (t118 != 0) = false := bne_eq_false_iff_eq.mpr c9
   clear c9
   by_cases c10 : (t120 == 2 && (t121 == 365)) = true
   ·rw [if_pos c10] at H
    have c10b0 : (t120 == 2 && (t121 == 365)) = true := c10
    (try (have c10b1 : decide (t120 = 2 && (t121 == 365)) = true := by simpa using c10))
    (try (have c10b2 : (t120 == 2 && (t121 == 365)) = true := by simpa using c10))
    clear c10
    by_cases c11 : t122 = 0
    ·rw [if_pos c11] at H
     have c11b0 : (t122 == 0) = true := beq_iff_eq.mpr c11
     have c11b1 : (t122 != 0) = false := bne_eq_false_iff_eq.mpr c11
     clear c11
     by_cases c12 : (t124 == 731 && (t125 == 133590)) = true
     ·rw [if_pos c12] at H
      have c12b0 : (t124 == 731 && (t125 == 133590)) = true := c12
      (try (have c12b1 : decide (t124 = 731 && (t125 == 133590)) = true := by simpa using c12))
      (try (have c12b2 : (t124 == 731 && (t125 == 133590)) = true := by simpa using c12))
      clear c12
      by_cases c13 : t126 = 0
      ·rw [if_pos c13] at H
       have c13b0 : (t126 == 0) = true := beq_iff_eq.mpr c13
       have c13b1 : (t126 != 0) = false := bne_eq_false_iff_eq.mpr c13
       clear c13
       by_cases c14 : t130 = 4
       ·rw [if_pos c14] at H
        have c14b0 : (t130 == 4) = true := beq_iff_eq.mpr c14
        have c14b1 : (t130 != 4) = false := bne_eq_false_iff_eq.mpr c14
        clear c14
        obtain rfl := Option.some.inj H
        go_enter Tryd.func8, Tryd.ntmps8
        go_wp2_with (first | (refine goesL_ (some 13) rfl rfl Tryd.func17 (by kernel_rfl) rfl #[.int .i64 2023, .int .i64 12, .int .i64 31] rfl (by (try simp only [mT_, mC_, mN_]); first | done | rfl) ?_; (with_reducible refine (demurragelaw08_day.calls k 2023 12 31 t114 _ A1.out).mono ?_); rintro e w15 ⟨rfl, hb⟩; refine ⟨_, rfl, ?_⟩; replace HB := bB_ (by repeat (with_reducible first | exact HB.out | apply bA_ | apply bN_ | apply bD_)) hb; (try clear hb)) | (refine goesL_ (some 14) rfl rfl Tryd.func17 (by kernel_rfl) rfl #[.int .i64 2024, .int .i64 1, .int .i64 2] rfl (by (try simp only [mT_, mC_, mN_]); first | done | rfl) ?_; (with_reducible refine (demurragelaw08_day.calls k 2024 1 2 t115 _ A2.out).mono ?_); rintro e w16 ⟨rfl, hb⟩; refine ⟨_, rfl, ?_⟩; replace HB := bB_ (by repeat (with_reducible first | exact HB.out | apply bA_ | apply bN_ | apply bD_)) hb; (try clear hb)) | (refine goesL_ (some 18) rfl rfl Tryd.func9 (by kernel_rfl) rfl #[.int .i64 t114, .int .i64 t115] rfl (by (try simp only [mT_, mC_, mN_]); first | done | rfl) ?_; (with_reducible refine (actual_By360.calls k t114 t115 t116 t117 t118 _ ?sv A3.out).mono ?_); (case sv => exact (Vars.below HV.out (by repeat (with_reducible first | exact HB.out | apply bA_ | apply bN_ | apply bD_)))); rintro e w17 ⟨rfl, hb⟩; refine ⟨_, rfl, ?_⟩; replace HB := bB_ (by repeat (with_reducible first | exact HB.out | apply bA_ | apply bN_ | apply bD_)) hb; (try clear hb)) | (refine box_event rfl (N := 3) rfl (cs := #[.int .i64 0, .int .i64 0]) (t := 24) ?hr ?_; (case hr => go_simp <;> rfl); intro gb119 hg w18 hbox hb; have BK119 := aA_ (hbox); have GW119 := gW_ hg (by repeat (with_reducible first | exact HB.out | apply bA_ | apply bN_ | apply bD_)); have GE119 := GW119; replace HB := bB_ (by repeat (with_reducible first | exact HB.out | apply bA_ | apply bN_ | apply bD_)) hb; clear hb hbox hg; have hcz19_0 : w18.cell? ⟨gb119, 0, none⟩ = some (.int .i64 0) := (blk_cell BK119.out 0).trans rfl; have hcz19_1 : w18.cell? ⟨gb119, 1, none⟩ = some (.int .i64 0) := (blk_cell BK119.out 1).trans rfl; have hfz19_0 := blk_frozen BK119.out 0; have hfz19_1 := blk_frozen BK119.out 1) | (refine goesL_ (some 24) rfl rfl Tryd.func11 (by kernel_rfl) rfl #[.int .i64 t114, .int .i64 t115] rfl (by (try simp only [mT_, mC_, mN_]); first | done | rfl) ?_; (with_reducible refine (actual_By365.calls k t114 t115 t120 t121 t122 _ ?sv A4.out).mono ?_); (case sv => exact (Vars.below HV.out (by repeat (with_reducible first | exact HB.out | apply bA_ | apply bN_ | apply bD_ | refine bS_ ?_ GE119.out)))); rintro e w20 ⟨rfl, hb⟩; refine ⟨_, rfl, ?_⟩; replace BK119 := aA_ (blk_below (g := gb119) (o := .cells #[.int .i64 t116, .int .i64 t117] 24 (0, 0)) (by refine blk_put (cs := #[.int .i64 t116, .int .i64 0]) ?_ 1 _ rfl; refine blk_put (cs := #[.int .i64 0, .int .i64 0]) ?_ 0 _ rfl; exact BK119.out) hb); replace HB := bB_ (by repeat (with_reducible first | exact HB.out | apply bA_ | apply bN_ | apply bD_ | refine bS_ ?_ GE119.out)) hb; (try clear hb)) | (refine box_event rfl (N := 5) rfl (cs := #[.int .i64 0, .int .i64 0]) (t := 24) ?hr ?_; (case hr => go_simp <;> rfl); intro gb123 hg w21 hbox hb; have BK123 := aA_ (hbox); have GW123 := gW_ hg (by repeat (with_reducible first | exact HB.out | apply bA_ | apply bN_ | apply bD_ | refine bS_ ?_ GE119.out)); have GE123 := GW123; replace HB := bB_ (by repeat (with_reducible first | exact HB.out | apply bA_ | apply bN_ | apply bD_ | refine bS_ ?_ GE119.out)) hb; have NB119_123 := nE_ hg BK119; have NB123_119 := aA_ NB119_123.out.symm; replace BK119 := bK_ BK119 hb; clear hb hbox hg; have hnb22 := NB123_119.out; have hnc22 := NB119_123.out; have hcz23_0 : w21.cell? ⟨gb123, 0, none⟩ = some (.int .i64 0) := (blk_cell BK123.out 0).trans rfl; have hcz23_1 : w21.cell? ⟨gb123, 1, none⟩ = some (.int .i64 0) := (blk_cell BK123.out 1).trans rfl; have hfz23_0 := blk_frozen BK123.out 0; have hfz23_1 := blk_frozen BK123.out 1) | (refine goesL_ (some 30) rfl rfl Tryd.func13 (by kernel_rfl) rfl #[.int .i64 t114, .int .i64 t115] rfl (by (try simp only [mT_, mC_, mN_]); first | done | rfl) ?_; (with_reducible refine (actual_ByYears.calls k t114 t115 t124 t125 t126 _ ?sv A5.out).mono ?_); (case sv => exact (Vars.below HV.out (by repeat (with_reducible first | exact HB.out | apply bA_ | apply bN_ | apply bD_ | refine bS_ ?_ GE119.out | refine bS_ ?_ GE123.out)))); rintro e w24 ⟨rfl, hb⟩; refine ⟨_, rfl, ?_⟩; replace BK119 := aA_ (blk_below (g := gb119) (o := .cells #[.int .i64 t116, .int .i64 t117] 24 (0, 0)) (by refine blk_far ?_ NB119_123.out _; refine blk_far ?_ NB119_123.out _; exact BK119.out) hb); replace BK123 := aA_ (blk_below (g := gb123) (o := .cells #[.int .i64 t120, .int .i64 t121] 24 (0, 0)) (by refine blk_put (cs := #[.int .i64 t120, .int .i64 0]) ?_ 1 _ rfl; refine blk_put (cs := #[.int .i64 0, .int .i64 0]) ?_ 0 _ rfl; exact BK123.out) hb); replace HB := bB_ (by repeat (with_reducible first | exact HB.out | apply bA_ | apply bN_ | apply bD_ | refine bS_ ?_ GE119.out | refine bS_ ?_ GE123.out)) hb; (try clear hb)) | (refine box_event rfl (N := 7) rfl (cs := #[.int .i64 0, .int .i64 0]) (t := 24) ?hr ?_; (case hr => go_simp <;> rfl); intro gb127 hg w25 hbox hb; have BK127 := aA_ (hbox); have GW127 := gW_ hg (by repeat (with_reducible first | exact HB.out | apply bA_ | apply bN_ | apply bD_ | refine bS_ ?_ GE119.out | refine bS_ ?_ GE123.out)); have GE127 := GW127; replace HB := bB_ (by repeat (with_reducible first | exact HB.out | apply bA_ | apply bN_ | apply bD_ | refine bS_ ?_ GE119.out | refine bS_ ?_ GE123.out)) hb; have NB119_127 := nE_ hg BK119; have NB127_119 := aA_ NB119_127.out.symm; replace BK119 := bK_ BK119 hb; have NB123_127 := nE_ hg BK123; have NB127_123 := aA_ NB123_127.out.symm; replace BK123 := bK_ BK123 hb; clear hb hbox hg; have hnb26 := NB127_119.out; have hnc26 := NB119_127.out; have hnb27 := NB127_123.out; have hnc27 := NB123_127.out; have hcz28_0 : w25.cell? ⟨gb127, 0, none⟩ = some (.int .i64 0) := (blk_cell BK127.out 0).trans rfl; have hcz28_1 : w25.cell? ⟨gb127, 1, none⟩ = some (.int .i64 0) := (blk_cell BK127.out 1).trans rfl; have hfz28_0 := blk_frozen BK127.out 0; have hfz28_1 := blk_frozen BK127.out 1) | (refine goesL_ (some 36) rfl rfl Tryd.func13 (by kernel_rfl) rfl #[.int .i64 t115, .int .i64 t114] rfl (by (try simp only [mT_, mC_, mN_]); first | done | rfl) ?_; (with_reducible refine (actual_ByYears.calls k t115 t114 t128 t129 t130 _ ?sv A6.out).mono ?_); (case sv => exact (Vars.below HV.out (by repeat (with_reducible first | exact HB.out | apply bA_ | apply bN_ | apply bD_ | refine bS_ ?_ GE119.out | refine bS_ ?_ GE123.out | refine bS_ ?_ GE127.out)))); rintro e w29 ⟨rfl, hb⟩; refine ⟨_, rfl, ?_⟩; replace BK119 := aA_ (blk_below (g := gb119) (o := .cells #[.int .i64 t116, .int .i64 t117] 24 (0, 0)) (by refine blk_far ?_ NB119_127.out _; refine blk_far ?_ NB119_127.out _; exact BK119.out) hb); replace BK123 := aA_ (blk_below (g := gb123) (o := .cells #[.int .i64 t120, .int .i64 t121] 24 (0, 0)) (by refine blk_far ?_ NB123_127.out _; refine blk_far ?_ NB123_127.out _; exact BK123.out) hb); replace BK127 := aA_ (blk_below (g := gb127) (o := .cells #[.int .i64 t124, .int .i64 t125] 24 (0, 0)) (by refine blk_put (cs := #[.int .i64 t124, .int .i64 0]) ?_ 1 _ rfl; refine blk_put (cs := #[.int .i64 0, .int .i64 0]) ?_ 0 _ rfl; exact BK127.out) hb); replace HB := bB_ (by repeat (with_reducible first | exact HB.out | apply bA_ | apply bN_ | apply bD_ | refine bS_ ?_ GE119.out | refine bS_ ?_ GE123.out | refine bS_ ?_ GE127.out)) hb; (try clear hb)) | (refine box_event rfl (N := 9) rfl (cs := #[.int .i64 0, .int .i64 0]) (t := 24) ?hr ?_; (case hr => go_simp <;> rfl); intro gb131 hg w30 hbox hb; have BK131 := aA_ (hbox); have GW131 := gW_ hg (by repeat (with_reducible first | exact HB.out | apply bA_ | apply bN_ | apply bD_ | refine bS_ ?_ GE119.out | refine bS_ ?_ GE123.out | refine bS_ ?_ GE127.out)); have GE131 := GW131; replace HB := bB_ (by repeat (with_reducible first | exact HB.out | apply bA_ | apply bN_ | apply bD_ | refine bS_ ?_ GE119.out | refine bS_ ?_ GE123.out | refine bS_ ?_ GE127.out)) hb; have NB119_131 := nE_ hg BK119; have NB131_119 := aA_ NB119_131.out.symm; replace BK119 := bK_ BK119 hb; have NB123_131 := nE_ hg BK123; have NB131_123 := aA_ NB123_131.out.symm; replace BK123 := bK_ BK123 hb; have NB127_131 := nE_ hg BK127; have NB131_127 := aA_ NB127_131.out.symm; replace BK127 := bK_ BK127 hb; clear hb hbox hg; have hnb31 := NB131_119.out; have hnc31 := NB119_131.out; have hnb32 := NB131_123.out; have hnc32 := NB123_131.out; have hnb33 := NB131_127.out; have hnc33 := NB127_131.out; have hcz34_0 : w30.cell? ⟨gb131, 0, none⟩ = some (.int .i64 0) := (blk_cell BK131.out 0).trans rfl; have hcz34_1 : w30.cell? ⟨gb131, 1, none⟩ = some (.int .i64 0) := (blk_cell BK131.out 1).trans rfl; have hfz34_0 := blk_frozen BK131.out 0; have hfz34_1 := blk_frozen BK131.out 1) | (refine goesL_ (some 41) rfl rfl Tryd.func9 (by kernel_rfl) rfl #[.int .i64 0, .int .i64 t114] rfl (by (try simp only [mT_, mC_, mN_]); first | done | rfl) ?_; (with_reducible refine (actual_By360.calls k 0 t114 t132 t133 t134 _ ?sv A7.out).mono ?_); (case sv => exact (Vars.below HV.out (by repeat (with_reducible first | exact HB.out | apply bA_ | apply bN_ | apply bD_ | refine bS_ ?_ GE119.out | refine bS_ ?_ GE123.out | refine bS_ ?_ GE127.out | refine bS_ ?_ GE131.out)))); rintro e w35 ⟨rfl, hb⟩; refine ⟨_, rfl, ?_⟩; replace BK119 := aA_ (blk_below (g := gb119) (o := .cells #[.int .i64 t116, .int .i64 t117] 24 (0, 0)) (by refine blk_far ?_ NB119_131.out _; refine blk_far ?_ NB119_131.out _; exact BK119.out) hb); replace BK123 := aA_ (blk_below (g := gb123) (o := .cells #[.int .i64 t120, .int .i64 t121] 24 (0, 0)) (by refine blk_far ?_ NB123_131.out _; refine blk_far ?_ NB123_131.out _; exact BK123.out) hb); replace BK127 := aA_ (blk_below (g := gb127) (o := .cells #[.int .i64 t124, .int .i64 t125] 24 (0, 0)) (by refine blk_far ?_ NB127_131.out _; refine blk_far ?_ NB127_131.out _; exact BK127.out) hb); replace BK131 := aA_ (blk_below (g := gb131) (o := .cells #[.int .i64 t128, .int .i64 t129] 24 (0, 0)) (by refine blk_put (cs := #[.int .i64 t128, .int .i64 0]) ?_ 1 _ rfl; refine blk_put (cs := #[.int .i64 0, .int .i64 0]) ?_ 0 _ rfl; exact BK131.out) hb); replace HB := bB_ (by repeat (with_reducible first | exact HB.out | apply bA_ | apply bN_ | apply bD_ | refine bS_ ?_ GE119.out | refine bS_ ?_ GE123.out | refine bS_ ?_ GE127.out | refine bS_ ?_ GE131.out)) hb; (try clear hb)) | (refine box_event rfl (N := 11) rfl (cs := #[.int .i64 0, .int .i64 0]) (t := 24) ?hr ?_; (case hr => go_simp <;> rfl); intro gb135 hg w36 hbox hb; have BK135 := aA_ (hbox); have GW135 := gW_ hg (by repeat (with_reducible first | exact HB.out | apply bA_ | apply bN_ | apply bD_ | refine bS_ ?_ GE119.out | refine bS_ ?_ GE123.out | refine bS_ ?_ GE127.out | refine bS_ ?_ GE131.out)); have GE135 := GW135; replace HB := bB_ (by repeat (with_reducible first | exact HB.out | apply bA_ | apply bN_ | apply bD_ | refine bS_ ?_ GE119.out | refine bS_ ?_ GE123.out | refine bS_ ?_ GE127.out | refine bS_ ?_ GE131.out)) hb; have NB119_135 := nE_ hg BK119; have NB135_119 := aA_ NB119_135.out.symm; replace BK119 := bK_ BK119 hb; have NB123_135 := nE_ hg BK123; have NB135_123 := aA_ NB123_135.out.symm; replace BK123 := bK_ BK123 hb; have NB127_135 := nE_ hg BK127; have NB135_127 := aA_ NB127_135.out.symm; replace BK127 := bK_ BK127 hb; have NB131_135 := nE_ hg BK131; have NB135_131 := aA_ NB131_135.out.symm; replace BK131 := bK_ BK131 hb; clear hb hbox hg; have hnb37 := NB135_119.out; have hnc37 := NB119_135.out; have hnb38 := NB135_123.out; have hnc38 := NB123_135.out; have hnb39 := NB135_127.out; have hnc39 := NB127_135.out; have hnb40 := NB135_131.out; have hnc40 := NB131_135.out; have hcz41_0 : w36.cell? ⟨gb135, 0, none⟩ = some (.int .i64 0) := (blk_cell BK135.out 0).trans rfl; have hcz41_1 : w36.cell? ⟨gb135, 1, none⟩ = some (.int .i64 0) := (blk_cell BK135.out 1).trans rfl; have hfz41_0 := blk_frozen BK135.out 0; have hfz41_1 := blk_frozen BK135.out 1; have hcz42_0 : w36.cell? ⟨gb119, 0, none⟩ = some (.int .i64 t116) := (blk_cell BK119.out 0).trans rfl; have hcz42_1 : w36.cell? ⟨gb119, 1, none⟩ = some (.int .i64 t117) := (blk_cell BK119.out 1).trans rfl; have hfz42_0 := blk_frozen BK119.out 0; have hfz42_1 := blk_frozen BK119.out 1; have hcz43_0 : w36.cell? ⟨gb123, 0, none⟩ = some (.int .i64 t120) := (blk_cell BK123.out 0).trans rfl; have hcz43_1 : w36.cell? ⟨gb123, 1, none⟩ = some (.int .i64 t121) := (blk_cell BK123.out 1).trans rfl; have hfz43_0 := blk_frozen BK123.out 0; have hfz43_1 := blk_frozen BK123.out 1; have hcz44_0 : w36.cell? ⟨gb127, 0, none⟩ = some (.int .i64 t124) := (blk_cell BK127.out 0).trans rfl; have hcz44_1 : w36.cell? ⟨gb127, 1, none⟩ = some (.int .i64 t125) := (blk_cell BK127.out 1).trans rfl; have hfz44_0 := blk_frozen BK127.out 0; have hfz44_1 := blk_frozen BK127.out 1))
        go_ret
        exact ⟨by rfl, by repeat (with_reducible first | exact HB.out | apply bA_ | apply bN_ | apply bD_ | refine bS_ ?_ GE119.out | refine bS_ ?_ GE123.out | refine bS_ ?_ GE127.out | refine bS_ ?_ GE131.out | refine bS_ ?_ GE135.out)⟩
       ·rw [if_neg c14] at H
        exact absurd H (by simp)
      ·rw [if_neg c13] at H
       exact absurd H (by simp)
     ·rw [if_neg c12] at H
      exact absurd H (by simp)
    ·rw [if_neg c11] at H
     exact absurd H (by simp)
   ·rw [if_neg c10] at H
    exact absurd H (by simp)
  ·rw [if_neg c9] at H
   exact absurd H (by simp)
 ·rw [if_neg c8] at H
  exact absurd H (by simp)

end Go.Proofs.YtbapgkopilmdfaaDoor.X
