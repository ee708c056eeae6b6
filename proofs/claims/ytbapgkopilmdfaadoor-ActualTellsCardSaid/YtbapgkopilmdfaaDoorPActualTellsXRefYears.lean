-- cut by prune.py, a program of this session
import Derived.Test.YtbapgkopilmdfaaDoorPActualTellsX0
import Derived.Test.YtbapgkopilmdfaaDoorPActualTellsXRefTwo
import Derived.Test.YtbapgkopilmdfaaDoorPActualTellsXRefAdd
import Derived.Test.YtbapgkopilmdfaaDoorPActualTellsXRefEight
import Derived.Test.YtbapgkopilmdfaaDoorPActualTellsXRefLeaps
namespace Go.Proofs.YtbapgkopilmdfaaDoor.X
open Go.RowKit Go.Proofs.YtbapgkopilmdfaaDoorW.PrintWords Go.Proofs.YtbapgkopilmdfaaDoorW.PrintLast Go.Proofs.YtbapgkopilmdfaaDoorW.PrintMore
attribute [local go_sem] max2_int min2_int max_two min_two
set_option linter.unusedVariables false
set_option linter.unusedSimpArgs false

def demurrageref08_ByYears.f (k : Nat) (a0 : Int) (a1 : Int) : Option (Int × Int × Int) := (demurrageref08_why.f k a0 a1).bind fun t351 => (if t351 = 0 then ((demurrageref08_leaps.f k a1).bind fun t352 => ((demurrageref08_leaps.f k a0).bind fun t353 => ((demurrageref02_New.f k (wrap64 (t352 - t353)) 366).bind fun bt354 => ((demurrageref02_New.f k (wrap64 ((wrap64 (a1 - a0)) - (wrap64 (t352 - t353)))) 365).bind fun bt358 => ((demurrageref02_Add.f k bt354.1 bt354.2.1 bt358.1 bt358.2.1).bind fun bt362 => (some (bt362.1, bt362.2.1, bt362.2.2))))))) else (some (0, 0, t351)))
set_option maxHeartbeats 8000000 in
set_option maxRecDepth 100000 in
theorem demurrageref08_ByYears.calls (k : Nat) (a0 : Int) (a1 : Int) (r1 : Int) (r2 : Int) (r3 : Int) (w : World) (h : demurrageref08_ByYears.f k a0 a1 = some (r1, r2, r3)) :
  Calls Tryd.prog 14 #[.int .i64 a0, .int .i64 a1] w fun e w' => e = .returned (.tuple #[.agg #[.int .i64 r1, .int .i64 r2], .int .i64 r3]) ∧ Below w.heap.size w w' := by
 have hu24 := Tryd.underlying24
 have HB := aA_ (Below.refl w.heap.size w)
 have H : ((demurrageref08_why.f k a0 a1).bind fun t351 => (if t351 = 0 then ((demurrageref08_leaps.f k a1).bind fun t352 => ((demurrageref08_leaps.f k a0).bind fun t353 => ((demurrageref02_New.f k (wrap64 (t352 - t353)) 366).bind fun bt354 => ((demurrageref02_New.f k (wrap64 ((wrap64 (a1 - a0)) - (wrap64 (t352 - t353)))) 365).bind fun bt358 => ((demurrageref02_Add.f k bt354.1 bt354.2.1 bt358.1 bt358.2.1).bind fun bt362 => (some (bt362.1, bt362.2.1, bt362.2.2))))))) else (some (0, 0, t351)))) = some (r1, r2, r3) := h
 clear h
 replace H := bI_ H
 obtain ⟨t351, A30, H⟩ := H
 (try dsimp only at H)
 have A3 := aA_ A30
 clear A30
 by_cases c4 : t351 = 0
 ·rw [if_pos c4] at H
  have c4b0 : (t351 == 0) = true := beq_iff_eq.mpr c4
  have c4b1 : (t351 != 0) = false := bne_eq_false_iff_eq.mpr c4
  clear c4
  replace H := bI_ H
  obtain ⟨t352, A50, H⟩ := H
  (try dsimp only at H)
  have A5 := aA_ A50
  clear A50
  replace H := bI_ H
  obtain ⟨t353, A60, H⟩ := H
  (try dsimp only at H)
  have A6 := aA_ A60
  clear A60
  replace H := bI_ H
  obtain ⟨⟨t354, t355, t356⟩, A70, H⟩ := H
  (try dsimp only at H)
  have A7 := aA_ A70
  clear A70
  replace H := bI_ H
  obtain ⟨⟨t358, t359, t360⟩, A80, H⟩ := H
  (try dsimp only at H)
  have A8 := aA_ A80
  clear A80
  replace H := bI_ H
  obtain ⟨⟨t362, t363, t364⟩, A90, H⟩ := H
  (try dsimp only at H)
  have A9 := aA_ A90
  clear A90
  simp only [Option.some.injEq, Prod.mk.injEq] at H
  obtain ⟨rfl, rfl, rfl⟩ := H
  go_enter Tryd.func14, Tryd.ntmps14
  go_wp2_with (first | (refine box_event rfl (N := 4) rfl (cs := #[.int .i64 0, .int .i64 0]) (t := 24) ?hr ?_; (case hr => go_simp <;> rfl); intro gb350 hg w10 hbox hb; have BK350 := aA_ (hbox); have GW350 := gW_ hg (by repeat (with_reducible first | exact HB.out | apply bA_ | apply bN_ | apply bD_)); have GE350 := GW350; replace HB := bB_ (by repeat (with_reducible first | exact HB.out | apply bA_ | apply bN_ | apply bD_)) hb; clear hb hbox hg) | (refine goesL_ (some 14) rfl rfl Tryd.func25 (by kernel_rfl) rfl #[.int .i64 a0, .int .i64 a1] rfl (by (try simp only [mT_, mC_, mN_]); first | done | rfl) ?_; (with_reducible refine (demurrageref08_why.calls k a0 a1 t351 _ A3.out).mono ?_); rintro e w' ⟨rfl, ⟨nd, rfl⟩⟩; refine ⟨_, rfl, ?_⟩; (try (rw [drewN_self w10]; generalize hq_ : World.drewN w10 _ = w10; have n0_ : Aside0 (w10.heap[gb350]? = some (.cells #[.int .i64 0, .int .i64 0] 24 (0, 0))) := ⟨by rw [← hq_]; exact BK350.out⟩; have n1_ : Aside0 (Below w.heap.size w w10) := ⟨by rw [← hq_]; exact (by repeat (with_reducible first | exact HB.out | apply bA_ | apply bN_ | apply bD_ | refine bS_ ?_ GE350.out))⟩; clear BK350 HB hq_; have BK350 := n0_; have HB := n1_; clear n0_ n1_))) | (refine goesL_ (some 20) rfl rfl Tryd.func31 (by kernel_rfl) rfl #[.int .i64 a1] rfl (by (try simp only [mT_, mC_, mN_]); first | done | rfl) ?_; (with_reducible refine (demurrageref08_leaps.calls k a1 t352 _ A5.out).mono ?_); rintro e w11 ⟨rfl, hb⟩; refine ⟨_, rfl, ?_⟩; replace BK350 := bK_ BK350 hb; replace HB := bB_ (by repeat (with_reducible first | exact HB.out | apply bA_ | apply bN_ | apply bD_ | refine bS_ ?_ GE350.out)) hb; (try clear hb)) | (refine goesL_ (some 22) rfl rfl Tryd.func31 (by kernel_rfl) rfl #[.int .i64 a0] rfl (by (try simp only [mT_, mC_, mN_]); first | done | rfl) ?_; (with_reducible refine (demurrageref08_leaps.calls k a0 t353 _ A6.out).mono ?_); rintro e w12 ⟨rfl, hb⟩; refine ⟨_, rfl, ?_⟩; replace BK350 := bK_ BK350 hb; replace HB := bB_ (by repeat (with_reducible first | exact HB.out | apply bA_ | apply bN_ | apply bD_ | refine bS_ ?_ GE350.out)) hb; (try clear hb)) | (refine goesL_ (some 26) rfl rfl Tryd.func19 (by kernel_rfl) rfl #[.int .i64 (wrap64 (t352 - t353)), .int .i64 366] rfl (by (try simp only [mT_, mC_, mN_]); first | done | rfl) ?_; (with_reducible refine (demurrageref02_New.calls k (wrap64 (t352 - t353)) 366 t354 t355 t356 _ A7.out).mono ?_); rintro e w13 ⟨rfl, hb⟩; refine ⟨_, rfl, ?_⟩; replace BK350 := bK_ BK350 hb; replace HB := bB_ (by repeat (with_reducible first | exact HB.out | apply bA_ | apply bN_ | apply bD_ | refine bS_ ?_ GE350.out)) hb; (try clear hb)) | (refine box_event rfl (N := 8) rfl (cs := #[.int .i64 0, .int .i64 0]) (t := 24) ?hr ?_; (case hr => go_simp <;> rfl); intro gb357 hg w14 hbox hb; have BK357 := aA_ (hbox); have GW357 := gW_ hg (by repeat (with_reducible first | exact HB.out | apply bA_ | apply bN_ | apply bD_ | refine bS_ ?_ GE350.out)); have GE357 := GW357; replace HB := bB_ (by repeat (with_reducible first | exact HB.out | apply bA_ | apply bN_ | apply bD_ | refine bS_ ?_ GE350.out)) hb; have NB350_357 := nE_ hg BK350; have NB357_350 := aA_ NB350_357.out.symm; replace BK350 := bK_ BK350 hb; clear hb hbox hg; have hnb15 := NB357_350.out; have hnc15 := NB350_357.out; have hcz16_0 : w14.cell? ⟨gb357, 0, none⟩ = some (.int .i64 0) := (blk_cell BK357.out 0).trans rfl; have hcz16_1 : w14.cell? ⟨gb357, 1, none⟩ = some (.int .i64 0) := (blk_cell BK357.out 1).trans rfl; have hfz16_0 := blk_frozen BK357.out 0; have hfz16_1 := blk_frozen BK357.out 1) | (refine goesL_ (some 35) rfl rfl Tryd.func19 (by kernel_rfl) rfl #[.int .i64 (wrap64 ((wrap64 (a1 - a0)) - (wrap64 (t352 - t353)))), .int .i64 365] rfl (by (try simp only [mT_, mC_, mN_]); first | done | rfl) ?_; (with_reducible refine (demurrageref02_New.calls k (wrap64 ((wrap64 (a1 - a0)) - (wrap64 (t352 - t353)))) 365 t358 t359 t360 _ A8.out).mono ?_); rintro e w17 ⟨rfl, hb⟩; refine ⟨_, rfl, ?_⟩; replace BK350 := aA_ (blk_below (g := gb350) (o := .cells #[.int .i64 0, .int .i64 0] 24 (0, 0)) (by refine blk_far ?_ NB350_357.out _; refine blk_far ?_ NB350_357.out _; exact BK350.out) hb); replace BK357 := aA_ (blk_below (g := gb357) (o := .cells #[.int .i64 t354, .int .i64 t355] 24 (0, 0)) (by refine blk_put (cs := #[.int .i64 t354, .int .i64 0]) ?_ 1 _ rfl; refine blk_put (cs := #[.int .i64 0, .int .i64 0]) ?_ 0 _ rfl; exact BK357.out) hb); replace HB := bB_ (by repeat (with_reducible first | exact HB.out | apply bA_ | apply bN_ | apply bD_ | refine bS_ ?_ GE350.out | refine bS_ ?_ GE357.out)) hb; (try clear hb)) | (refine box_event rfl (N := 10) rfl (cs := #[.int .i64 0, .int .i64 0]) (t := 24) ?hr ?_; (case hr => go_simp <;> rfl); intro gb361 hg w18 hbox hb; have BK361 := aA_ (hbox); have GW361 := gW_ hg (by repeat (with_reducible first | exact HB.out | apply bA_ | apply bN_ | apply bD_ | refine bS_ ?_ GE350.out | refine bS_ ?_ GE357.out)); have GE361 := GW361; replace HB := bB_ (by repeat (with_reducible first | exact HB.out | apply bA_ | apply bN_ | apply bD_ | refine bS_ ?_ GE350.out | refine bS_ ?_ GE357.out)) hb; have NB350_361 := nE_ hg BK350; have NB361_350 := aA_ NB350_361.out.symm; replace BK350 := bK_ BK350 hb; have NB357_361 := nE_ hg BK357; have NB361_357 := aA_ NB357_361.out.symm; replace BK357 := bK_ BK357 hb; clear hb hbox hg; have hnb19 := NB361_350.out; have hnc19 := NB350_361.out; have hnb20 := NB361_357.out; have hnc20 := NB357_361.out; have hcz21_0 : w18.cell? ⟨gb361, 0, none⟩ = some (.int .i64 0) := (blk_cell BK361.out 0).trans rfl; have hcz21_1 : w18.cell? ⟨gb361, 1, none⟩ = some (.int .i64 0) := (blk_cell BK361.out 1).trans rfl; have hfz21_0 := blk_frozen BK361.out 0; have hfz21_1 := blk_frozen BK361.out 1; have hcz22_0 : w18.cell? ⟨gb357, 0, none⟩ = some (.int .i64 t354) := (blk_cell BK357.out 0).trans rfl; have hcz22_1 : w18.cell? ⟨gb357, 1, none⟩ = some (.int .i64 t355) := (blk_cell BK357.out 1).trans rfl; have hfz22_0 := blk_frozen BK357.out 0; have hfz22_1 := blk_frozen BK357.out 1) | (refine goesL_ (some 40) rfl rfl Tryd.func16 (by kernel_rfl) rfl #[.agg #[.int .i64 t354, .int .i64 t355], .agg #[.int .i64 t358, .int .i64 t359]] rfl (by (try simp only [mT_, mC_, mN_]); first | done | rfl) ?_; (with_reducible refine (demurrageref02_Add.calls k t354 t355 t358 t359 t362 t363 t364 _ A9.out).mono ?_); rintro e w23 ⟨rfl, hb⟩; refine ⟨_, rfl, ?_⟩; replace BK350 := aA_ (blk_below (g := gb350) (o := .cells #[.int .i64 0, .int .i64 0] 24 (0, 0)) (by refine blk_far ?_ NB350_361.out _; refine blk_far ?_ NB350_361.out _; exact BK350.out) hb); replace BK357 := aA_ (blk_below (g := gb357) (o := .cells #[.int .i64 t354, .int .i64 t355] 24 (0, 0)) (by refine blk_far ?_ NB357_361.out _; refine blk_far ?_ NB357_361.out _; exact BK357.out) hb); replace BK361 := aA_ (blk_below (g := gb361) (o := .cells #[.int .i64 t358, .int .i64 t359] 24 (0, 0)) (by refine blk_put (cs := #[.int .i64 t358, .int .i64 0]) ?_ 1 _ rfl; refine blk_put (cs := #[.int .i64 0, .int .i64 0]) ?_ 0 _ rfl; exact BK361.out) hb); replace HB := bB_ (by repeat (with_reducible first | exact HB.out | apply bA_ | apply bN_ | apply bD_ | refine bS_ ?_ GE350.out | refine bS_ ?_ GE357.out | refine bS_ ?_ GE361.out)) hb; (try clear hb); have hcz24_0 : w23.cell? ⟨gb350, 0, none⟩ = some (.int .i64 0) := (blk_cell BK350.out 0).trans rfl; have hcz24_1 : w23.cell? ⟨gb350, 1, none⟩ = some (.int .i64 0) := (blk_cell BK350.out 1).trans rfl; have hfz24_0 := blk_frozen BK350.out 0; have hfz24_1 := blk_frozen BK350.out 1))
  refine bodyPost_ret (results_ct rfl _ _ gb350 24 #[.int .i64 t362, .int .i64 t363] (0, 0) _ rfl (by refine blk_put (cs := #[.int .i64 t362, .int .i64 0]) ?_ 1 _ rfl; refine blk_put (cs := #[.int .i64 0, .int .i64 0]) ?_ 0 _ rfl; exact BK350.out) Tryd.underlying24 rfl (by kernel_rfl)) rfl ?_
  exact ⟨by rfl, by repeat (with_reducible first | exact HB.out | apply bA_ | apply bN_ | apply bD_ | refine bS_ ?_ GE350.out | refine bS_ ?_ GE357.out | refine bS_ ?_ GE361.out)⟩
 ·rw [if_neg c4] at H
  have c4b0 : (t351 == 0) = false := beq_eq_false_iff_ne.mpr c4
  have c4b1 : (t351 != 0) = true := bne_iff_ne.mpr c4
  simp only [Option.some.injEq, Prod.mk.injEq] at H
  obtain ⟨rfl, rfl, rfl⟩ := H
  go_enter Tryd.func14, Tryd.ntmps14
  go_wp2_with (first | (refine box_event rfl (N := 4) rfl (cs := #[.int .i64 0, .int .i64 0]) (t := 24) ?hr ?_; (case hr => go_simp <;> rfl); intro gb350 hg w25 hbox hb; have BK350 := aA_ (hbox); have GW350 := gW_ hg (by repeat (with_reducible first | exact HB.out | apply bA_ | apply bN_ | apply bD_)); have GE350 := GW350; replace HB := bB_ (by repeat (with_reducible first | exact HB.out | apply bA_ | apply bN_ | apply bD_)) hb; clear hb hbox hg) | (refine goesL_ (some 14) rfl rfl Tryd.func25 (by kernel_rfl) rfl #[.int .i64 a0, .int .i64 a1] rfl (by (try simp only [mT_, mC_, mN_]); first | done | rfl) ?_; (with_reducible refine (demurrageref08_why.calls k a0 a1 t351 _ A3.out).mono ?_); rintro e w' ⟨rfl, ⟨nd, rfl⟩⟩; refine ⟨_, rfl, ?_⟩; (try (rw [drewN_self w25]; generalize hq_ : World.drewN w25 _ = w25; have n0_ : Aside0 (w25.heap[gb350]? = some (.cells #[.int .i64 0, .int .i64 0] 24 (0, 0))) := ⟨by rw [← hq_]; exact BK350.out⟩; have n1_ : Aside0 (Below w.heap.size w w25) := ⟨by rw [← hq_]; exact (by repeat (with_reducible first | exact HB.out | apply bA_ | apply bN_ | apply bD_ | refine bS_ ?_ GE350.out))⟩; clear BK350 HB hq_; have BK350 := n0_; have HB := n1_; clear n0_ n1_)); have hcz26_0 : w25.cell? ⟨gb350, 0, none⟩ = some (.int .i64 0) := (blk_cell BK350.out 0).trans rfl; have hcz26_1 : w25.cell? ⟨gb350, 1, none⟩ = some (.int .i64 0) := (blk_cell BK350.out 1).trans rfl; have hfz26_0 := blk_frozen BK350.out 0; have hfz26_1 := blk_frozen BK350.out 1))
  refine bodyPost_ret (results_ct rfl _ _ gb350 24 #[.int .i64 0, .int .i64 0] (0, 0) _ rfl (by refine blk_put (cs := #[.int .i64 0, .int .i64 0]) ?_ 1 _ rfl; refine blk_put (cs := #[.int .i64 0, .int .i64 0]) ?_ 0 _ rfl; exact BK350.out) Tryd.underlying24 rfl (by kernel_rfl)) rfl ?_
  exact ⟨by rfl, by repeat (with_reducible first | exact HB.out | apply bA_ | apply bN_ | apply bD_ | refine bS_ ?_ GE350.out)⟩

end Go.Proofs.YtbapgkopilmdfaaDoor.X
