-- cut by prune.py, a program of this session
import Derived.Test.YtbapgkopilmdfaaDoorPActualTellsX0
import Derived.Test.YtbapgkopilmdfaaDoorPActualTellsXRefTwo
import Derived.Test.YtbapgkopilmdfaaDoorPActualTellsXRefFour
namespace Go.Proofs.YtbapgkopilmdfaaDoor.X
open Go.RowKit Go.Proofs.YtbapgkopilmdfaaDoorW.PrintWords Go.Proofs.YtbapgkopilmdfaaDoorW.PrintLast Go.Proofs.YtbapgkopilmdfaaDoorW.PrintMore
attribute [local go_sem] max2_int min2_int max_two min_two
set_option linter.unusedVariables false
set_option linter.unusedSimpArgs false

def demurrageref08_why.j0 : Nat → Int → Int → Bool → Option (Int)
 | 0, _, _, _ => none
 | k + 1, x0, x1, x16 => if x16 = true then (some 3) else (if x0 > x1 then (some 4) else (some 0))
def demurrageref08_why.f (k : Nat) (a0 : Int) (a1 : Int) : Option (Int) := (demurrageref04_Day.f a0).bind fun t273 => ((demurrageref04_Day.f a1).bind fun t274 => (if t273 = true then (demurrageref08_why.j0 k a0 a1 (!t274)) else (demurrageref08_why.j0 k a0 a1 true)))
set_option maxHeartbeats 8000000 in
set_option maxRecDepth 100000 in
theorem demurrageref08_why.calls (k : Nat) (a0 : Int) (a1 : Int) (r : Int) (w : World) (h : demurrageref08_why.f k a0 a1 = some r) :
  Calls Tryd.prog 25 #[.int .i64 a0, .int .i64 a1] w fun e w' => e = .returned (.int .i64 r) ∧ Drawn0 w w' := by
 have H : ((demurrageref04_Day.f a0).bind fun t273 => ((demurrageref04_Day.f a1).bind fun t274 => (if t273 = true then (demurrageref08_why.j0 k a0 a1 (!t274)) else (demurrageref08_why.j0 k a0 a1 true)))) = some r := h
 clear h
 replace H := bI_ H
 obtain ⟨t273, A30, H⟩ := H
 (try dsimp only at H)
 have A3 := aA_ A30
 clear A30
 replace H := bI_ H
 obtain ⟨t274, A40, H⟩ := H
 (try dsimp only at H)
 have A4 := aA_ A40
 clear A40
 have HC5 := aA_ H
 clear H
 go_enter Tryd.func25, Tryd.ntmps25
 go_upto_region 3 with (first | (refine goesL_ (some 8) rfl rfl Tryd.func15 (by kernel_rfl) rfl #[.int .i64 a0] rfl (by (try simp only [mT_, mC_, mN_]); first | done | rfl) ?_; (with_reducible refine (demurrageref04_Day.calls a0 t273 _ A3.out).mono ?_); rintro e w' ⟨rfl, ⟨nd, rfl⟩⟩; refine ⟨_, rfl, ?_⟩) | (refine goesL_ (some 10) rfl rfl Tryd.func15 (by kernel_rfl) rfl #[.int .i64 a1] rfl (by (try simp only [mT_, mC_, mN_]); first | done | rfl) ?_; (with_reducible refine (demurrageref04_Day.calls a1 t274 _ A4.out).mono ?_); rintro e w' ⟨rfl, ⟨nd, rfl⟩⟩; refine ⟨_, rfl, ?_⟩))
 (try simp only [Act.put, sT_, sZ_, sS_])
 go_cut [16] (fun v16 wc => ∃ (kq : Nat) (x16_4 : Bool), v16 = .bool x16_4 ∧ Aside0 (demurrageref08_why.j0 kq a0 a1 x16_4 = some r) ∧ Aside0 (kq ≤ k) ∧ Drawn0 w wc)
 case first =>
  have H := HC5.out
  clear HC5
  by_cases c6 : t273 = true
  ·subst c6
   rw [if_pos rfl] at H
   have H' := aA_ H
   clear H
   go_wp2
   go_meet
   case rel => exact ⟨_, _, (by first | rfl | (simp; done) | (simp [*]; done)), H', ⟨by first | omega | exact Nat.le_refl _⟩, by repeat (first | exact Drawn0.refl _ | apply Drawn0.step)⟩
  ·replace c6 := Bool.eq_false_iff.mpr c6
   subst c6
   rw [if_neg (show ¬ (false = true) by decide)] at H
   have H' := aA_ H
   clear H
   go_wp2
   go_meet
   case rel => exact ⟨_, _, (by first | rfl | (simp; done) | (simp [*]; done)), H', ⟨by first | omega | exact Nat.le_refl _⟩, by repeat (first | exact Drawn0.refl _ | apply Drawn0.step)⟩
 case rest =>
  clear HC5
  try clear c1
  try clear c2
  try clear p2
  try clear c6
  obtain ⟨kq, x16_4, rfl, HA, HJ4, ⟨mc4, rfl⟩⟩ := hcut
  cases kq with
  | zero => exact absurd HA.out (by simp [demurrageref08_why.j0])
  | succ kj4 =>
   have H := HA.out
   clear HA
   simp only [demurrageref08_why.j0] at H
   by_cases c7 : x16_4 = true
   ·subst c7
    rw [if_pos rfl] at H
    obtain rfl := Option.some.inj H
    go_wp2
    go_ret
    exact ⟨by first | rfl | (simp; done) | (simp [*]; done), by repeat (first | exact Drawn0.refl _ | apply Drawn0.step)⟩
   ·replace c7 := Bool.eq_false_iff.mpr c7
    subst c7
    rw [if_neg (show ¬ (false = true) by decide)] at H
    by_cases c8 : a0 > a1
    ·rw [if_pos c8] at H
     have c8b0 : decide (a1 < a0) = true := decide_eq_true c8
     clear c8
     obtain rfl := Option.some.inj H
     go_wp2
     go_ret
     exact ⟨by first | rfl | (simp; done) | (simp [*]; done), by repeat (first | exact Drawn0.refl _ | apply Drawn0.step)⟩
    ·rw [if_neg c8] at H
     have c8b0 : decide (a1 < a0) = false := decide_eq_false c8
     clear c8
     obtain rfl := Option.some.inj H
     go_wp2
     go_ret
     exact ⟨by first | rfl | (simp; done) | (simp [*]; done), by repeat (first | exact Drawn0.refl _ | apply Drawn0.step)⟩

def demurrageref08_By360.f (k : Nat) (a0 : Int) (a1 : Int) : Option (Int × Int × Int) := (demurrageref08_why.f k a0 a1).bind fun t276 => (if t276 = 0 then ((demurrageref02_New.f k (wrap64 (a1 - a0)) 360).bind fun bt277 => (some (bt277.1, bt277.2.1, bt277.2.2))) else (some (0, 0, t276)))
set_option maxHeartbeats 8000000 in
set_option maxRecDepth 100000 in
theorem demurrageref08_By360.calls (k : Nat) (a0 : Int) (a1 : Int) (r1 : Int) (r2 : Int) (r3 : Int) (w : World) (h : demurrageref08_By360.f k a0 a1 = some (r1, r2, r3)) :
  Calls Tryd.prog 10 #[.int .i64 a0, .int .i64 a1] w fun e w' => e = .returned (.tuple #[.agg #[.int .i64 r1, .int .i64 r2], .int .i64 r3]) ∧ Below w.heap.size w w' := by
 have hu24 := Tryd.underlying24
 have HB := aA_ (Below.refl w.heap.size w)
 have H : ((demurrageref08_why.f k a0 a1).bind fun t276 => (if t276 = 0 then ((demurrageref02_New.f k (wrap64 (a1 - a0)) 360).bind fun bt277 => (some (bt277.1, bt277.2.1, bt277.2.2))) else (some (0, 0, t276)))) = some (r1, r2, r3) := h
 clear h
 replace H := bI_ H
 obtain ⟨t276, A30, H⟩ := H
 (try dsimp only at H)
 have A3 := aA_ A30
 clear A30
 by_cases c4 : t276 = 0
 ·rw [if_pos c4] at H
  have c4b0 : (t276 == 0) = true := beq_iff_eq.mpr c4
  have c4b1 : (t276 != 0) = false := bne_eq_false_iff_eq.mpr c4
  clear c4
  replace H := bI_ H
  obtain ⟨⟨t277, t278, t279⟩, A50, H⟩ := H
  (try dsimp only at H)
  have A5 := aA_ A50
  clear A50
  simp only [Option.some.injEq, Prod.mk.injEq] at H
  obtain ⟨rfl, rfl, rfl⟩ := H
  go_enter Tryd.func10, Tryd.ntmps10
  go_wp2_with (first | (refine box_event rfl (N := 4) rfl (cs := #[.int .i64 0, .int .i64 0]) (t := 24) ?hr ?_; (case hr => go_simp <;> rfl); intro gb275 hg w6 hbox hb; have BK275 := aA_ (hbox); have GW275 := gW_ hg (by repeat (with_reducible first | exact HB.out | apply bA_ | apply bN_ | apply bD_)); have GE275 := GW275; replace HB := bB_ (by repeat (with_reducible first | exact HB.out | apply bA_ | apply bN_ | apply bD_)) hb; clear hb hbox hg) | (refine goesL_ (some 9) rfl rfl Tryd.func25 (by kernel_rfl) rfl #[.int .i64 a0, .int .i64 a1] rfl (by (try simp only [mT_, mC_, mN_]); first | done | rfl) ?_; (with_reducible refine (demurrageref08_why.calls k a0 a1 t276 _ A3.out).mono ?_); rintro e w' ⟨rfl, ⟨nd, rfl⟩⟩; refine ⟨_, rfl, ?_⟩; (try (rw [drewN_self w6]; generalize hq_ : World.drewN w6 _ = w6; have n0_ : Aside0 (w6.heap[gb275]? = some (.cells #[.int .i64 0, .int .i64 0] 24 (0, 0))) := ⟨by rw [← hq_]; exact BK275.out⟩; have n1_ : Aside0 (Below w.heap.size w w6) := ⟨by rw [← hq_]; exact (by repeat (with_reducible first | exact HB.out | apply bA_ | apply bN_ | apply bD_ | refine bS_ ?_ GE275.out))⟩; clear BK275 HB hq_; have BK275 := n0_; have HB := n1_; clear n0_ n1_))) | (refine goesL_ (some 17) rfl rfl Tryd.func19 (by kernel_rfl) rfl #[.int .i64 (wrap64 (a1 - a0)), .int .i64 360] rfl (by (try simp only [mT_, mC_, mN_]); first | done | rfl) ?_; (with_reducible refine (demurrageref02_New.calls k (wrap64 (a1 - a0)) 360 t277 t278 t279 _ A5.out).mono ?_); rintro e w7 ⟨rfl, hb⟩; refine ⟨_, rfl, ?_⟩; replace BK275 := bK_ BK275 hb; replace HB := bB_ (by repeat (with_reducible first | exact HB.out | apply bA_ | apply bN_ | apply bD_ | refine bS_ ?_ GE275.out)) hb; (try clear hb); have hcz8_0 : w7.cell? ⟨gb275, 0, none⟩ = some (.int .i64 0) := (blk_cell BK275.out 0).trans rfl; have hcz8_1 : w7.cell? ⟨gb275, 1, none⟩ = some (.int .i64 0) := (blk_cell BK275.out 1).trans rfl; have hfz8_0 := blk_frozen BK275.out 0; have hfz8_1 := blk_frozen BK275.out 1))
  refine bodyPost_ret (results_ct rfl _ _ gb275 24 #[.int .i64 t277, .int .i64 t278] (0, 0) _ rfl (by refine blk_put (cs := #[.int .i64 t277, .int .i64 0]) ?_ 1 _ rfl; refine blk_put (cs := #[.int .i64 0, .int .i64 0]) ?_ 0 _ rfl; exact BK275.out) Tryd.underlying24 rfl (by kernel_rfl)) rfl ?_
  exact ⟨by rfl, by repeat (with_reducible first | exact HB.out | apply bA_ | apply bN_ | apply bD_ | refine bS_ ?_ GE275.out)⟩
 ·rw [if_neg c4] at H
  have c4b0 : (t276 == 0) = false := beq_eq_false_iff_ne.mpr c4
  have c4b1 : (t276 != 0) = true := bne_iff_ne.mpr c4
  simp only [Option.some.injEq, Prod.mk.injEq] at H
  obtain ⟨rfl, rfl, rfl⟩ := H
  go_enter Tryd.func10, Tryd.ntmps10
  go_wp2_with (first | (refine box_event rfl (N := 4) rfl (cs := #[.int .i64 0, .int .i64 0]) (t := 24) ?hr ?_; (case hr => go_simp <;> rfl); intro gb275 hg w9 hbox hb; have BK275 := aA_ (hbox); have GW275 := gW_ hg (by repeat (with_reducible first | exact HB.out | apply bA_ | apply bN_ | apply bD_)); have GE275 := GW275; replace HB := bB_ (by repeat (with_reducible first | exact HB.out | apply bA_ | apply bN_ | apply bD_)) hb; clear hb hbox hg) | (refine goesL_ (some 9) rfl rfl Tryd.func25 (by kernel_rfl) rfl #[.int .i64 a0, .int .i64 a1] rfl (by (try simp only [mT_, mC_, mN_]); first | done | rfl) ?_; (with_reducible refine (demurrageref08_why.calls k a0 a1 t276 _ A3.out).mono ?_); rintro e w' ⟨rfl, ⟨nd, rfl⟩⟩; refine ⟨_, rfl, ?_⟩; (try (rw [drewN_self w9]; generalize hq_ : World.drewN w9 _ = w9; have n0_ : Aside0 (w9.heap[gb275]? = some (.cells #[.int .i64 0, .int .i64 0] 24 (0, 0))) := ⟨by rw [← hq_]; exact BK275.out⟩; have n1_ : Aside0 (Below w.heap.size w w9) := ⟨by rw [← hq_]; exact (by repeat (with_reducible first | exact HB.out | apply bA_ | apply bN_ | apply bD_ | refine bS_ ?_ GE275.out))⟩; clear BK275 HB hq_; have BK275 := n0_; have HB := n1_; clear n0_ n1_)); have hcz10_0 : w9.cell? ⟨gb275, 0, none⟩ = some (.int .i64 0) := (blk_cell BK275.out 0).trans rfl; have hcz10_1 : w9.cell? ⟨gb275, 1, none⟩ = some (.int .i64 0) := (blk_cell BK275.out 1).trans rfl; have hfz10_0 := blk_frozen BK275.out 0; have hfz10_1 := blk_frozen BK275.out 1))
  refine bodyPost_ret (results_ct rfl _ _ gb275 24 #[.int .i64 0, .int .i64 0] (0, 0) _ rfl (by refine blk_put (cs := #[.int .i64 0, .int .i64 0]) ?_ 1 _ rfl; refine blk_put (cs := #[.int .i64 0, .int .i64 0]) ?_ 0 _ rfl; exact BK275.out) Tryd.underlying24 rfl (by kernel_rfl)) rfl ?_
  exact ⟨by rfl, by repeat (with_reducible first | exact HB.out | apply bA_ | apply bN_ | apply bD_ | refine bS_ ?_ GE275.out)⟩

def demurrageref08_By365.f (k : Nat) (a0 : Int) (a1 : Int) : Option (Int × Int × Int) := (demurrageref08_why.f k a0 a1).bind fun t281 => (if t281 = 0 then ((demurrageref02_New.f k (wrap64 (a1 - a0)) 365).bind fun bt282 => (some (bt282.1, bt282.2.1, bt282.2.2))) else (some (0, 0, t281)))
set_option maxHeartbeats 8000000 in
set_option maxRecDepth 100000 in
theorem demurrageref08_By365.calls (k : Nat) (a0 : Int) (a1 : Int) (r1 : Int) (r2 : Int) (r3 : Int) (w : World) (h : demurrageref08_By365.f k a0 a1 = some (r1, r2, r3)) :
  Calls Tryd.prog 12 #[.int .i64 a0, .int .i64 a1] w fun e w' => e = .returned (.tuple #[.agg #[.int .i64 r1, .int .i64 r2], .int .i64 r3]) ∧ Below w.heap.size w w' := by
 have hu24 := Tryd.underlying24
 have HB := aA_ (Below.refl w.heap.size w)
 have H : ((demurrageref08_why.f k a0 a1).bind fun t281 => (if t281 = 0 then ((demurrageref02_New.f k (wrap64 (a1 - a0)) 365).bind fun bt282 => (some (bt282.1, bt282.2.1, bt282.2.2))) else (some (0, 0, t281)))) = some (r1, r2, r3) := h
 clear h
 replace H := bI_ H
 obtain ⟨t281, A30, H⟩ := H
 (try dsimp only at H)
 have A3 := aA_ A30
 clear A30
 by_cases c4 : t281 = 0
 ·rw [if_pos c4] at H
  have c4b0 : (t281 == 0) = true := beq_iff_eq.mpr c4
  have c4b1 : (t281 != 0) = false := bne_eq_false_iff_eq.mpr c4
  clear c4
  replace H := bI_ H
  obtain ⟨⟨t282, t283, t284⟩, A50, H⟩ := H
  (try dsimp only at H)
  have A5 := aA_ A50
  clear A50
  simp only [Option.some.injEq, Prod.mk.injEq] at H
  obtain ⟨rfl, rfl, rfl⟩ := H
  go_enter Tryd.func12, Tryd.ntmps12
  go_wp2_with (first | (refine box_event rfl (N := 4) rfl (cs := #[.int .i64 0, .int .i64 0]) (t := 24) ?hr ?_; (case hr => go_simp <;> rfl); intro gb280 hg w6 hbox hb; have BK280 := aA_ (hbox); have GW280 := gW_ hg (by repeat (with_reducible first | exact HB.out | apply bA_ | apply bN_ | apply bD_)); have GE280 := GW280; replace HB := bB_ (by repeat (with_reducible first | exact HB.out | apply bA_ | apply bN_ | apply bD_)) hb; clear hb hbox hg) | (refine goesL_ (some 9) rfl rfl Tryd.func25 (by kernel_rfl) rfl #[.int .i64 a0, .int .i64 a1] rfl (by (try simp only [mT_, mC_, mN_]); first | done | rfl) ?_; (with_reducible refine (demurrageref08_why.calls k a0 a1 t281 _ A3.out).mono ?_); rintro e w' ⟨rfl, ⟨nd, rfl⟩⟩; refine ⟨_, rfl, ?_⟩; (try (rw [drewN_self w6]; generalize hq_ : World.drewN w6 _ = w6; have n0_ : Aside0 (w6.heap[gb280]? = some (.cells #[.int .i64 0, .int .i64 0] 24 (0, 0))) := ⟨by rw [← hq_]; exact BK280.out⟩; have n1_ : Aside0 (Below w.heap.size w w6) := ⟨by rw [← hq_]; exact (by repeat (with_reducible first | exact HB.out | apply bA_ | apply bN_ | apply bD_ | refine bS_ ?_ GE280.out))⟩; clear BK280 HB hq_; have BK280 := n0_; have HB := n1_; clear n0_ n1_))) | (refine goesL_ (some 17) rfl rfl Tryd.func19 (by kernel_rfl) rfl #[.int .i64 (wrap64 (a1 - a0)), .int .i64 365] rfl (by (try simp only [mT_, mC_, mN_]); first | done | rfl) ?_; (with_reducible refine (demurrageref02_New.calls k (wrap64 (a1 - a0)) 365 t282 t283 t284 _ A5.out).mono ?_); rintro e w7 ⟨rfl, hb⟩; refine ⟨_, rfl, ?_⟩; replace BK280 := bK_ BK280 hb; replace HB := bB_ (by repeat (with_reducible first | exact HB.out | apply bA_ | apply bN_ | apply bD_ | refine bS_ ?_ GE280.out)) hb; (try clear hb); have hcz8_0 : w7.cell? ⟨gb280, 0, none⟩ = some (.int .i64 0) := (blk_cell BK280.out 0).trans rfl; have hcz8_1 : w7.cell? ⟨gb280, 1, none⟩ = some (.int .i64 0) := (blk_cell BK280.out 1).trans rfl; have hfz8_0 := blk_frozen BK280.out 0; have hfz8_1 := blk_frozen BK280.out 1))
  refine bodyPost_ret (results_ct rfl _ _ gb280 24 #[.int .i64 t282, .int .i64 t283] (0, 0) _ rfl (by refine blk_put (cs := #[.int .i64 t282, .int .i64 0]) ?_ 1 _ rfl; refine blk_put (cs := #[.int .i64 0, .int .i64 0]) ?_ 0 _ rfl; exact BK280.out) Tryd.underlying24 rfl (by kernel_rfl)) rfl ?_
  exact ⟨by rfl, by repeat (with_reducible first | exact HB.out | apply bA_ | apply bN_ | apply bD_ | refine bS_ ?_ GE280.out)⟩
 ·rw [if_neg c4] at H
  have c4b0 : (t281 == 0) = false := beq_eq_false_iff_ne.mpr c4
  have c4b1 : (t281 != 0) = true := bne_iff_ne.mpr c4
  simp only [Option.some.injEq, Prod.mk.injEq] at H
  obtain ⟨rfl, rfl, rfl⟩ := H
  go_enter Tryd.func12, Tryd.ntmps12
  go_wp2_with (first | (refine box_event rfl (N := 4) rfl (cs := #[.int .i64 0, .int .i64 0]) (t := 24) ?hr ?_; (case hr => go_simp <;> rfl); intro gb280 hg w9 hbox hb; have BK280 := aA_ (hbox); have GW280 := gW_ hg (by repeat (with_reducible first | exact HB.out | apply bA_ | apply bN_ | apply bD_)); have GE280 := GW280; replace HB := bB_ (by repeat (with_reducible first | exact HB.out | apply bA_ | apply bN_ | apply bD_)) hb; clear hb hbox hg) | (refine goesL_ (some 9) rfl rfl Tryd.func25 (by kernel_rfl) rfl #[.int .i64 a0, .int .i64 a1] rfl (by (try simp only [mT_, mC_, mN_]); first | done | rfl) ?_; (with_reducible refine (demurrageref08_why.calls k a0 a1 t281 _ A3.out).mono ?_); rintro e w' ⟨rfl, ⟨nd, rfl⟩⟩; refine ⟨_, rfl, ?_⟩; (try (rw [drewN_self w9]; generalize hq_ : World.drewN w9 _ = w9; have n0_ : Aside0 (w9.heap[gb280]? = some (.cells #[.int .i64 0, .int .i64 0] 24 (0, 0))) := ⟨by rw [← hq_]; exact BK280.out⟩; have n1_ : Aside0 (Below w.heap.size w w9) := ⟨by rw [← hq_]; exact (by repeat (with_reducible first | exact HB.out | apply bA_ | apply bN_ | apply bD_ | refine bS_ ?_ GE280.out))⟩; clear BK280 HB hq_; have BK280 := n0_; have HB := n1_; clear n0_ n1_)); have hcz10_0 : w9.cell? ⟨gb280, 0, none⟩ = some (.int .i64 0) := (blk_cell BK280.out 0).trans rfl; have hcz10_1 : w9.cell? ⟨gb280, 1, none⟩ = some (.int .i64 0) := (blk_cell BK280.out 1).trans rfl; have hfz10_0 := blk_frozen BK280.out 0; have hfz10_1 := blk_frozen BK280.out 1))
  refine bodyPost_ret (results_ct rfl _ _ gb280 24 #[.int .i64 0, .int .i64 0] (0, 0) _ rfl (by refine blk_put (cs := #[.int .i64 0, .int .i64 0]) ?_ 1 _ rfl; refine blk_put (cs := #[.int .i64 0, .int .i64 0]) ?_ 0 _ rfl; exact BK280.out) Tryd.underlying24 rfl (by kernel_rfl)) rfl ?_
  exact ⟨by rfl, by repeat (with_reducible first | exact HB.out | apply bA_ | apply bN_ | apply bD_ | refine bS_ ?_ GE280.out)⟩

end Go.Proofs.YtbapgkopilmdfaaDoor.X
