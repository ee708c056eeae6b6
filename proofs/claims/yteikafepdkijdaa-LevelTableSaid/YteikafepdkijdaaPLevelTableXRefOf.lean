-- cut by prune.py, a program of this session
import Derived.Test.YteikafepdkijdaaPLevelTableX0
import Derived.Test.YteikafepdkijdaaPLevelTableXRefRight
import Derived.Test.YteikafepdkijdaaPLevelTableXRefPart
namespace Go.Proofs.Yteikafepdkijdaa.X
open Go.RowKit Go.Proofs.YteikafepdkijdaaW.PrintWords Go.Proofs.YteikafepdkijdaaW.PrintLast Go.Proofs.YteikafepdkijdaaW.PrintMore
attribute [local go_sem] max2_int min2_int max_two min_two
set_option linter.unusedVariables false
set_option linter.unusedSimpArgs false

def demurrageref18_Of.f (k : Nat) (a0 : Int) (a1 : Int) (a2_0 : Int) (a2_1 : Int) : Option (Int × Int) := (demurrageref02_Right.f k a2_0 a2_1).bind fun t369 => (if a0 < 0 then (some (0, 1)) else (if a1 < 0 then (some (0, 1)) else (if t369 = true then ((demurrageref03_Part.f k a0 a1 a2_0 a2_1 10000).bind fun bt370 => (some (bt370.1, bt370.2))) else (some (0, 1)))))
set_option maxHeartbeats 8000000 in
set_option maxRecDepth 100000 in
theorem demurrageref18_Of.calls (k : Nat) (a0 : Int) (a1 : Int) (a2_0 : Int) (a2_1 : Int) (r1 : Int) (r2 : Int) (w : World) (h : demurrageref18_Of.f k a0 a1 a2_0 a2_1 = some (r1, r2)) :
  Calls Try.prog 26 #[.int .i64 a0, .int .i64 a1, .agg #[.int .i64 a2_0, .int .i64 a2_1]] w fun e w' => e = .returned (.tuple #[.int .i64 r1, .int .i64 r2]) ∧ Below w.heap.size w w' := by
 have hu56 := Try.underlying56
 have HB := aA_ (Below.refl w.heap.size w)
 have H : ((demurrageref02_Right.f k a2_0 a2_1).bind fun t369 => (if a0 < 0 then (some (0, 1)) else (if a1 < 0 then (some (0, 1)) else (if t369 = true then ((demurrageref03_Part.f k a0 a1 a2_0 a2_1 10000).bind fun bt370 => (some (bt370.1, bt370.2))) else (some (0, 1)))))) = some (r1, r2) := h
 clear h
 replace H := bI_ H
 obtain ⟨t369, A40, H⟩ := H
 (try dsimp only at H)
 have A4 := aA_ A40
 clear A40
 by_cases c5 : a0 < 0
 ·rw [if_pos c5] at H
  have c5b0 : decide (a0 < 0) = true := decide_eq_true c5
  clear c5
  simp only [Option.some.injEq, Prod.mk.injEq] at H
  obtain ⟨rfl, rfl⟩ := H
  go_enter Try.func26, Try.ntmps26
  go_wp2_with (first | (refine box_event rfl (N := 5) rfl (cs := #[.int .i64 a2_0, .int .i64 a2_1]) (t := 56) ?hr ?_; (case hr => go_simp <;> rfl); intro gb368 hg w6 hbox hb; have BK368 := aA_ (hbox); have GW368 := gW_ hg (by repeat (with_reducible first | exact HB.out | apply bA_ | apply bN_ | apply bD_)); have GE368 := GW368; replace HB := bB_ (by repeat (with_reducible first | exact HB.out | apply bA_ | apply bN_ | apply bD_)) hb; clear hb hbox hg; have hcz7_0 : w6.cell? ⟨gb368, 0, none⟩ = some (.int .i64 a2_0) := (blk_cell BK368.out 0).trans rfl; have hcz7_1 : w6.cell? ⟨gb368, 1, none⟩ = some (.int .i64 a2_1) := (blk_cell BK368.out 1).trans rfl; have hfz7_0 := blk_frozen BK368.out 0; have hfz7_1 := blk_frozen BK368.out 1) | (refine goesL_ (some 10) rfl rfl Try.func40 (by kernel_rfl) rfl #[.agg #[.int .i64 a2_0, .int .i64 a2_1]] rfl (by (try simp only [mT_, mC_, mN_]); first | done | rfl) ?_; (with_reducible refine (demurrageref02_Right.calls k a2_0 a2_1 t369 _ A4.out).mono ?_); rintro e w8 ⟨rfl, hb⟩; refine ⟨_, rfl, ?_⟩; replace BK368 := bK_ BK368 hb; replace HB := bB_ (by repeat (with_reducible first | exact HB.out | apply bA_ | apply bN_ | apply bD_ | refine bS_ ?_ GE368.out)) hb; (try clear hb)))
  go_ret2
  exact ⟨by rfl, by repeat (with_reducible first | exact HB.out | apply bA_ | apply bN_ | apply bD_ | refine bS_ ?_ GE368.out)⟩
 ·rw [if_neg c5] at H
  have c5b0 : decide (a0 < 0) = false := decide_eq_false c5
  clear c5
  by_cases c9 : a1 < 0
  ·rw [if_pos c9] at H
   have c9b0 : decide (a1 < 0) = true := decide_eq_true c9
   clear c9
   simp only [Option.some.injEq, Prod.mk.injEq] at H
   obtain ⟨rfl, rfl⟩ := H
   go_enter Try.func26, Try.ntmps26
   go_wp2_with (first | (refine box_event rfl (N := 5) rfl (cs := #[.int .i64 a2_0, .int .i64 a2_1]) (t := 56) ?hr ?_; (case hr => go_simp <;> rfl); intro gb368 hg w10 hbox hb; have BK368 := aA_ (hbox); have GW368 := gW_ hg (by repeat (with_reducible first | exact HB.out | apply bA_ | apply bN_ | apply bD_)); have GE368 := GW368; replace HB := bB_ (by repeat (with_reducible first | exact HB.out | apply bA_ | apply bN_ | apply bD_)) hb; clear hb hbox hg; have hcz11_0 : w10.cell? ⟨gb368, 0, none⟩ = some (.int .i64 a2_0) := (blk_cell BK368.out 0).trans rfl; have hcz11_1 : w10.cell? ⟨gb368, 1, none⟩ = some (.int .i64 a2_1) := (blk_cell BK368.out 1).trans rfl; have hfz11_0 := blk_frozen BK368.out 0; have hfz11_1 := blk_frozen BK368.out 1) | (refine goesL_ (some 10) rfl rfl Try.func40 (by kernel_rfl) rfl #[.agg #[.int .i64 a2_0, .int .i64 a2_1]] rfl (by (try simp only [mT_, mC_, mN_]); first | done | rfl) ?_; (with_reducible refine (demurrageref02_Right.calls k a2_0 a2_1 t369 _ A4.out).mono ?_); rintro e w12 ⟨rfl, hb⟩; refine ⟨_, rfl, ?_⟩; replace BK368 := bK_ BK368 hb; replace HB := bB_ (by repeat (with_reducible first | exact HB.out | apply bA_ | apply bN_ | apply bD_ | refine bS_ ?_ GE368.out)) hb; (try clear hb)))
   go_ret2
   exact ⟨by rfl, by repeat (with_reducible first | exact HB.out | apply bA_ | apply bN_ | apply bD_ | refine bS_ ?_ GE368.out)⟩
  ·rw [if_neg c9] at H
   have c9b0 : decide (a1 < 0) = false := decide_eq_false c9
   clear c9
   by_cases c13 : t369 = true
   ·subst c13
    rw [if_pos rfl] at H
    replace H := bI_ H
    obtain ⟨⟨t370, t371⟩, A140, H⟩ := H
    (try dsimp only at H)
    have A14 := aA_ A140
    clear A140
    simp only [Option.some.injEq, Prod.mk.injEq] at H
    obtain ⟨rfl, rfl⟩ := H
    go_enter Try.func26, Try.ntmps26
    go_wp2_with (first | (refine box_event rfl (N := 5) rfl (cs := #[.int .i64 a2_0, .int .i64 a2_1]) (t := 56) ?hr ?_; (case hr => go_simp <;> rfl); intro gb368 hg w15 hbox hb; have BK368 := aA_ (hbox); have GW368 := gW_ hg (by repeat (with_reducible first | exact HB.out | apply bA_ | apply bN_ | apply bD_)); have GE368 := GW368; replace HB := bB_ (by repeat (with_reducible first | exact HB.out | apply bA_ | apply bN_ | apply bD_)) hb; clear hb hbox hg; have hcz16_0 : w15.cell? ⟨gb368, 0, none⟩ = some (.int .i64 a2_0) := (blk_cell BK368.out 0).trans rfl; have hcz16_1 : w15.cell? ⟨gb368, 1, none⟩ = some (.int .i64 a2_1) := (blk_cell BK368.out 1).trans rfl; have hfz16_0 := blk_frozen BK368.out 0; have hfz16_1 := blk_frozen BK368.out 1) | (refine goesL_ (some 10) rfl rfl Try.func40 (by kernel_rfl) rfl #[.agg #[.int .i64 a2_0, .int .i64 a2_1]] rfl (by (try simp only [mT_, mC_, mN_]); first | done | rfl) ?_; (with_reducible refine (demurrageref02_Right.calls k a2_0 a2_1 true _ A4.out).mono ?_); rintro e w17 ⟨rfl, hb⟩; refine ⟨_, rfl, ?_⟩; replace BK368 := bK_ BK368 hb; replace HB := bB_ (by repeat (with_reducible first | exact HB.out | apply bA_ | apply bN_ | apply bD_ | refine bS_ ?_ GE368.out)) hb; (try clear hb); have hcz18_0 : w17.cell? ⟨gb368, 0, none⟩ = some (.int .i64 a2_0) := (blk_cell BK368.out 0).trans rfl; have hcz18_1 : w17.cell? ⟨gb368, 1, none⟩ = some (.int .i64 a2_1) := (blk_cell BK368.out 1).trans rfl; have hfz18_0 := blk_frozen BK368.out 0; have hfz18_1 := blk_frozen BK368.out 1) | (refine goesL_ (some 24) rfl rfl Try.func41 (by kernel_rfl) rfl #[.int .i64 a0, .int .i64 a1, .agg #[.int .i64 a2_0, .int .i64 a2_1], .int .i64 10000] rfl (by (try simp only [mT_, mC_, mN_]); first | done | rfl) ?_; (with_reducible refine (demurrageref03_Part.calls k a0 a1 a2_0 a2_1 10000 t370 t371 _ A14.out).mono ?_); rintro e w19 ⟨rfl, hb⟩; refine ⟨_, rfl, ?_⟩; replace BK368 := bK_ BK368 hb; replace HB := bB_ (by repeat (with_reducible first | exact HB.out | apply bA_ | apply bN_ | apply bD_ | refine bS_ ?_ GE368.out)) hb; (try clear hb)))
    go_ret2
    exact ⟨by rfl, by repeat (with_reducible first | exact HB.out | apply bA_ | apply bN_ | apply bD_ | refine bS_ ?_ GE368.out)⟩
   ·replace c13 := Bool.eq_false_iff.mpr c13
    subst c13
    rw [if_neg (show ¬ (false = true) by decide)] at H
    simp only [Option.some.injEq, Prod.mk.injEq] at H
    obtain ⟨rfl, rfl⟩ := H
    go_enter Try.func26, Try.ntmps26
    go_wp2_with (first | (refine box_event rfl (N := 5) rfl (cs := #[.int .i64 a2_0, .int .i64 a2_1]) (t := 56) ?hr ?_; (case hr => go_simp <;> rfl); intro gb368 hg w20 hbox hb; have BK368 := aA_ (hbox); have GW368 := gW_ hg (by repeat (with_reducible first | exact HB.out | apply bA_ | apply bN_ | apply bD_)); have GE368 := GW368; replace HB := bB_ (by repeat (with_reducible first | exact HB.out | apply bA_ | apply bN_ | apply bD_)) hb; clear hb hbox hg; have hcz21_0 : w20.cell? ⟨gb368, 0, none⟩ = some (.int .i64 a2_0) := (blk_cell BK368.out 0).trans rfl; have hcz21_1 : w20.cell? ⟨gb368, 1, none⟩ = some (.int .i64 a2_1) := (blk_cell BK368.out 1).trans rfl; have hfz21_0 := blk_frozen BK368.out 0; have hfz21_1 := blk_frozen BK368.out 1) | (refine goesL_ (some 10) rfl rfl Try.func40 (by kernel_rfl) rfl #[.agg #[.int .i64 a2_0, .int .i64 a2_1]] rfl (by (try simp only [mT_, mC_, mN_]); first | done | rfl) ?_; (with_reducible refine (demurrageref02_Right.calls k a2_0 a2_1 false _ A4.out).mono ?_); rintro e w22 ⟨rfl, hb⟩; refine ⟨_, rfl, ?_⟩; replace BK368 := bK_ BK368 hb; replace HB := bB_ (by repeat (with_reducible first | exact HB.out | apply bA_ | apply bN_ | apply bD_ | refine bS_ ?_ GE368.out)) hb; (try clear hb)))
    go_ret2
    exact ⟨by rfl, by repeat (with_reducible first | exact HB.out | apply bA_ | apply bN_ | apply bD_ | refine bS_ ?_ GE368.out)⟩

end Go.Proofs.Yteikafepdkijdaa.X
