-- cut by prune.py, a program of this session
import Derived.Test.YtbapgkopilmdfaaDoorPActualMovesX0
namespace Go.Proofs.YtbapgkopilmdfaaDoor.X
open Go.RowKit Go.Proofs.YtbapgkopilmdfaaDoorW.PrintWords Go.Proofs.YtbapgkopilmdfaaDoorW.PrintLast Go.Proofs.YtbapgkopilmdfaaDoorW.PrintMore
attribute [local go_sem] max2_int min2_int max_two min_two
set_option linter.unusedVariables false
set_option linter.unusedSimpArgs false

def wide_Of.f (a0 : Int) : Option (Int × Int) := some (0, a0)
set_option maxHeartbeats 8000000 in
set_option maxRecDepth 100000 in
theorem wide_Of.calls (a0 : Int) (r1 : Int) (r2 : Int) (w : World) (h : wide_Of.f a0 = some (r1, r2)) :
  Calls Tryd.prog 45 #[.int .u64 a0] w fun e w' => e = .returned (.agg #[.int .u64 r1, .int .u64 r2]) ∧ Below w.heap.size w w' := by
 have hu72 := Tryd.underlying72
 have HB := aA_ (Below.refl w.heap.size w)
 have H : (some (0, a0)) = some (r1, r2) := h
 clear h
 simp only [Option.some.injEq, Prod.mk.injEq] at H
 obtain ⟨rfl, rfl⟩ := H
 go_enter Tryd.func45, Tryd.ntmps45
 go_wp2_with (first | (refine box_event rfl (N := 2) rfl (cs := #[.int .u64 0, .int .u64 0]) (t := 72) ?hr ?_; (case hr => go_simp <;> rfl); intro gb1797 hg w2 hbox hb; have BK1797 := aA_ (hbox); have GW1797 := gW_ hg (by repeat (with_reducible first | exact HB.out | apply bA_ | apply bN_ | apply bD_)); have GE1797 := GW1797; replace HB := bB_ (by repeat (with_reducible first | exact HB.out | apply bA_ | apply bN_ | apply bD_)) hb; clear hb hbox hg; have hcz3_0 : w2.cell? ⟨gb1797, 0, none⟩ = some (.int .u64 0) := (blk_cell BK1797.out 0).trans rfl; have hcz3_1 : w2.cell? ⟨gb1797, 1, none⟩ = some (.int .u64 0) := (blk_cell BK1797.out 1).trans rfl; have hfz3_0 := blk_frozen BK1797.out 0; have hfz3_1 := blk_frozen BK1797.out 1))
 refine bodyPost_ret (results_cell_row rfl _ _ gb1797 72 #[.int .u64 0, .int .u64 a0] (0, 0) _ rfl (by refine blk_put (cs := #[.int .u64 0, .int .u64 0]) ?_ 1 _ rfl; refine blk_put (cs := #[.int .u64 0, .int .u64 0]) ?_ 0 _ rfl; exact BK1797.out) Tryd.underlying72 rfl (by kernel_rfl)) rfl ?_
 exact ⟨by rfl, by repeat (with_reducible first | exact HB.out | apply bA_ | apply bN_ | apply bD_ | refine bS_ ?_ GE1797.out)⟩

def cmp_isNaN_uint64.f (a0 : Int) : Option (Bool) := some (a0 != a0)
set_option maxHeartbeats 8000000 in
set_option maxRecDepth 100000 in
theorem cmp_isNaN_uint64.calls (a0 : Int) (r : Bool) (w : World) (h : cmp_isNaN_uint64.f a0 = some r) :
  Calls Tryd.prog 74 #[.int .u64 a0] w fun e w' => e = .returned (.bool r) ∧ Drawn0 w w' := by
 have H : (some (a0 != a0)) = some r := h
 clear h
 obtain rfl := Option.some.inj H
 go_enter Tryd.func74, Tryd.ntmps74
 go_wp2
 go_ret
 exact ⟨by first | rfl | (simp; done) | (simp [*]; done), by repeat (first | exact Drawn0.refl _ | apply Drawn0.step)⟩

def cmp_Compare_uint64.f (a0 : Int) (a1 : Int) : Option (Int) := (cmp_isNaN_uint64.f a0).bind fun t1798 => ((cmp_isNaN_uint64.f a1).bind fun t1799 => (if t1798 = true then (if t1799 = true then (some 0) else (some (-1))) else (if t1799 = true then (some 1) else (if a0 < a1 then (some (-1)) else (if a0 > a1 then (some 1) else (some 0))))))
set_option maxHeartbeats 8000000 in
set_option maxRecDepth 100000 in
theorem cmp_Compare_uint64.calls (a0 : Int) (a1 : Int) (r : Int) (w : World) (h : cmp_Compare_uint64.f a0 a1 = some r) :
  Calls Tryd.prog 71 #[.int .u64 a0, .int .u64 a1] w fun e w' => e = .returned (.int .i64 r) ∧ Drawn0 w w' := by
 have H : ((cmp_isNaN_uint64.f a0).bind fun t1798 => ((cmp_isNaN_uint64.f a1).bind fun t1799 => (if t1798 = true then (if t1799 = true then (some 0) else (some (-1))) else (if t1799 = true then (some 1) else (if a0 < a1 then (some (-1)) else (if a0 > a1 then (some 1) else (some 0))))))) = some r := h
 clear h
 replace H := bI_ H
 obtain ⟨t1798, A30, H⟩ := H
 (try dsimp only at H)
 have A3 := aA_ A30
 clear A30
 replace H := bI_ H
 obtain ⟨t1799, A40, H⟩ := H
 (try dsimp only at H)
 have A4 := aA_ A40
 clear A40
 by_cases c5 : t1798 = true
 ·subst c5
  rw [if_pos rfl] at H
  by_cases c6 : t1799 = true
  ·subst c6
   rw [if_pos rfl] at H
   obtain rfl := Option.some.inj H
   go_enter Tryd.func71, Tryd.ntmps71
   go_wp2_with (first | (refine goesL_ (some 8) rfl rfl Tryd.func74 (by kernel_rfl) rfl #[.int .u64 a0] rfl (by (try simp only [mT_, mC_, mN_]); first | done | rfl) ?_; (with_reducible refine (cmp_isNaN_uint64.calls a0 true _ A3.out).mono ?_); rintro e w' ⟨rfl, ⟨nd, rfl⟩⟩; refine ⟨_, rfl, ?_⟩) | (refine goesL_ (some 10) rfl rfl Tryd.func74 (by kernel_rfl) rfl #[.int .u64 a1] rfl (by (try simp only [mT_, mC_, mN_]); first | done | rfl) ?_; (with_reducible refine (cmp_isNaN_uint64.calls a1 true _ A4.out).mono ?_); rintro e w' ⟨rfl, ⟨nd, rfl⟩⟩; refine ⟨_, rfl, ?_⟩))
   go_ret
   exact ⟨by first | rfl | (simp; done) | (simp [*]; done), by repeat (first | exact Drawn0.refl _ | apply Drawn0.step)⟩
  ·replace c6 := Bool.eq_false_iff.mpr c6
   subst c6
   rw [if_neg (show ¬ (false = true) by decide)] at H
   obtain rfl := Option.some.inj H
   go_enter Tryd.func71, Tryd.ntmps71
   go_wp2_with (first | (refine goesL_ (some 8) rfl rfl Tryd.func74 (by kernel_rfl) rfl #[.int .u64 a0] rfl (by (try simp only [mT_, mC_, mN_]); first | done | rfl) ?_; (with_reducible refine (cmp_isNaN_uint64.calls a0 true _ A3.out).mono ?_); rintro e w' ⟨rfl, ⟨nd, rfl⟩⟩; refine ⟨_, rfl, ?_⟩) | (refine goesL_ (some 10) rfl rfl Tryd.func74 (by kernel_rfl) rfl #[.int .u64 a1] rfl (by (try simp only [mT_, mC_, mN_]); first | done | rfl) ?_; (with_reducible refine (cmp_isNaN_uint64.calls a1 false _ A4.out).mono ?_); rintro e w' ⟨rfl, ⟨nd, rfl⟩⟩; refine ⟨_, rfl, ?_⟩))
   go_ret
   exact ⟨by first | rfl | (simp; done) | (simp [*]; done), by repeat (first | exact Drawn0.refl _ | apply Drawn0.step)⟩
 ·replace c5 := Bool.eq_false_iff.mpr c5
  subst c5
  rw [if_neg (show ¬ (false = true) by decide)] at H
  by_cases c7 : t1799 = true
  ·subst c7
   rw [if_pos rfl] at H
   obtain rfl := Option.some.inj H
   go_enter Tryd.func71, Tryd.ntmps71
   go_wp2_with (first | (refine goesL_ (some 8) rfl rfl Tryd.func74 (by kernel_rfl) rfl #[.int .u64 a0] rfl (by (try simp only [mT_, mC_, mN_]); first | done | rfl) ?_; (with_reducible refine (cmp_isNaN_uint64.calls a0 false _ A3.out).mono ?_); rintro e w' ⟨rfl, ⟨nd, rfl⟩⟩; refine ⟨_, rfl, ?_⟩) | (refine goesL_ (some 10) rfl rfl Tryd.func74 (by kernel_rfl) rfl #[.int .u64 a1] rfl (by (try simp only [mT_, mC_, mN_]); first | done | rfl) ?_; (with_reducible refine (cmp_isNaN_uint64.calls a1 true _ A4.out).mono ?_); rintro e w' ⟨rfl, ⟨nd, rfl⟩⟩; refine ⟨_, rfl, ?_⟩))
   go_ret
   exact ⟨by first | rfl | (simp; done) | (simp [*]; done), by repeat (first | exact Drawn0.refl _ | apply Drawn0.step)⟩
  ·replace c7 := Bool.eq_false_iff.mpr c7
   subst c7
   rw [if_neg (show ¬ (false = true) by decide)] at H
   by_cases c8 : a0 < a1
   ·rw [if_pos c8] at H
    have c8b0 : decide (a0 < a1) = true := decide_eq_true c8
    clear c8
    obtain rfl := Option.some.inj H
    go_enter Tryd.func71, Tryd.ntmps71
    go_wp2_with (first | (refine goesL_ (some 8) rfl rfl Tryd.func74 (by kernel_rfl) rfl #[.int .u64 a0] rfl (by (try simp only [mT_, mC_, mN_]); first | done | rfl) ?_; (with_reducible refine (cmp_isNaN_uint64.calls a0 false _ A3.out).mono ?_); rintro e w' ⟨rfl, ⟨nd, rfl⟩⟩; refine ⟨_, rfl, ?_⟩) | (refine goesL_ (some 10) rfl rfl Tryd.func74 (by kernel_rfl) rfl #[.int .u64 a1] rfl (by (try simp only [mT_, mC_, mN_]); first | done | rfl) ?_; (with_reducible refine (cmp_isNaN_uint64.calls a1 false _ A4.out).mono ?_); rintro e w' ⟨rfl, ⟨nd, rfl⟩⟩; refine ⟨_, rfl, ?_⟩))
    go_ret
    exact ⟨by first | rfl | (simp; done) | (simp [*]; done), by repeat (first | exact Drawn0.refl _ | apply Drawn0.step)⟩
   ·rw [if_neg c8] at H
    have c8b0 : decide (a0 < a1) = false := decide_eq_false c8
    clear c8
    by_cases c9 : a0 > a1
    ·rw [if_pos c9] at H
     have c9b0 : decide (a1 < a0) = true := decide_eq_true c9
     clear c9
     obtain rfl := Option.some.inj H
     go_enter Tryd.func71, Tryd.ntmps71
     go_wp2_with (first | (refine goesL_ (some 8) rfl rfl Tryd.func74 (by kernel_rfl) rfl #[.int .u64 a0] rfl (by (try simp only [mT_, mC_, mN_]); first | done | rfl) ?_; (with_reducible refine (cmp_isNaN_uint64.calls a0 false _ A3.out).mono ?_); rintro e w' ⟨rfl, ⟨nd, rfl⟩⟩; refine ⟨_, rfl, ?_⟩) | (refine goesL_ (some 10) rfl rfl Tryd.func74 (by kernel_rfl) rfl #[.int .u64 a1] rfl (by (try simp only [mT_, mC_, mN_]); first | done | rfl) ?_; (with_reducible refine (cmp_isNaN_uint64.calls a1 false _ A4.out).mono ?_); rintro e w' ⟨rfl, ⟨nd, rfl⟩⟩; refine ⟨_, rfl, ?_⟩))
     go_ret
     exact ⟨by first | rfl | (simp; done) | (simp [*]; done), by repeat (first | exact Drawn0.refl _ | apply Drawn0.step)⟩
    ·rw [if_neg c9] at H
     have c9b0 : decide (a1 < a0) = false := decide_eq_false c9
     clear c9
     obtain rfl := Option.some.inj H
     go_enter Tryd.func71, Tryd.ntmps71
     go_wp2_with (first | (refine goesL_ (some 8) rfl rfl Tryd.func74 (by kernel_rfl) rfl #[.int .u64 a0] rfl (by (try simp only [mT_, mC_, mN_]); first | done | rfl) ?_; (with_reducible refine (cmp_isNaN_uint64.calls a0 false _ A3.out).mono ?_); rintro e w' ⟨rfl, ⟨nd, rfl⟩⟩; refine ⟨_, rfl, ?_⟩) | (refine goesL_ (some 10) rfl rfl Tryd.func74 (by kernel_rfl) rfl #[.int .u64 a1] rfl (by (try simp only [mT_, mC_, mN_]); first | done | rfl) ?_; (with_reducible refine (cmp_isNaN_uint64.calls a1 false _ A4.out).mono ?_); rintro e w' ⟨rfl, ⟨nd, rfl⟩⟩; refine ⟨_, rfl, ?_⟩))
     go_ret
     exact ⟨by first | rfl | (simp; done) | (simp [*]; done), by repeat (first | exact Drawn0.refl _ | apply Drawn0.step)⟩

def wide_Cmp.f (a0_0 : Int) (a0_1 : Int) (a1_0 : Int) (a1_1 : Int) : Option (Int) := if a0_0 = a1_0 then ((cmp_Compare_uint64.f a0_1 a1_1).bind fun t1802 => (some t1802)) else ((cmp_Compare_uint64.f a0_0 a1_0).bind fun t1803 => (some t1803))
set_option maxHeartbeats 8000000 in
set_option maxRecDepth 100000 in
theorem wide_Cmp.calls (a0_0 : Int) (a0_1 : Int) (a1_0 : Int) (a1_1 : Int) (r : Int) (w : World) (h : wide_Cmp.f a0_0 a0_1 a1_0 a1_1 = some r) :
  Calls Tryd.prog 60 #[.agg #[.int .u64 a0_0, .int .u64 a0_1], .agg #[.int .u64 a1_0, .int .u64 a1_1]] w fun e w' => e = .returned (.int .i64 r) ∧ Below w.heap.size w w' := by
 have hu72 := Tryd.underlying72
 have HB := aA_ (Below.refl w.heap.size w)
 have H : (if a0_0 = a1_0 then ((cmp_Compare_uint64.f a0_1 a1_1).bind fun t1802 => (some t1802)) else ((cmp_Compare_uint64.f a0_0 a1_0).bind fun t1803 => (some t1803))) = some r := h
 clear h
 by_cases c3 : a0_0 = a1_0
 ·rw [if_pos c3] at H
  have c3b0 : (a0_0 == a1_0) = true := beq_iff_eq.mpr c3
  have c3b1 : (a0_0 != a1_0) = false := bne_eq_false_iff_eq.mpr c3
  clear c3
  replace H := bI_ H
  obtain ⟨t1802, A40, H⟩ := H
  (try dsimp only at H)
  have A4 := aA_ A40
  clear A40
  obtain rfl := Option.some.inj H
  go_enter Tryd.func60, Tryd.ntmps60
  go_wp2_with (first | (refine box_event rfl (N := 2) rfl (cs := #[.int .u64 a0_0, .int .u64 a0_1]) (t := 72) ?hr ?_; (case hr => go_simp <;> rfl); intro gb1800 hg w5 hbox hb; have BK1800 := aA_ (hbox); have GW1800 := gW_ hg (by repeat (with_reducible first | exact HB.out | apply bA_ | apply bN_ | apply bD_)); have GE1800 := GW1800; replace HB := bB_ (by repeat (with_reducible first | exact HB.out | apply bA_ | apply bN_ | apply bD_)) hb; clear hb hbox hg) | (refine box_event rfl (N := 3) rfl (cs := #[.int .u64 a1_0, .int .u64 a1_1]) (t := 72) ?hr ?_; (case hr => go_simp <;> rfl); intro gb1801 hg w6 hbox hb; have BK1801 := aA_ (hbox); have GW1801 := gW_ hg (by repeat (with_reducible first | exact HB.out | apply bA_ | apply bN_ | apply bD_ | refine bS_ ?_ GE1800.out)); have GE1801 := GW1801; replace HB := bB_ (by repeat (with_reducible first | exact HB.out | apply bA_ | apply bN_ | apply bD_ | refine bS_ ?_ GE1800.out)) hb; have NB1800_1801 := nE_ hg BK1800; have NB1801_1800 := aA_ NB1800_1801.out.symm; replace BK1800 := bK_ BK1800 hb; clear hb hbox hg; have hnb7 := NB1800_1801.out; have hnc7 := NB1801_1800.out; have hcz8_0 : w6.cell? ⟨gb1800, 0, none⟩ = some (.int .u64 a0_0) := (blk_cell BK1800.out 0).trans rfl; have hcz8_1 : w6.cell? ⟨gb1800, 1, none⟩ = some (.int .u64 a0_1) := (blk_cell BK1800.out 1).trans rfl; have hfz8_0 := blk_frozen BK1800.out 0; have hfz8_1 := blk_frozen BK1800.out 1; have hcz9_0 : w6.cell? ⟨gb1801, 0, none⟩ = some (.int .u64 a1_0) := (blk_cell BK1801.out 0).trans rfl; have hcz9_1 : w6.cell? ⟨gb1801, 1, none⟩ = some (.int .u64 a1_1) := (blk_cell BK1801.out 1).trans rfl; have hfz9_0 := blk_frozen BK1801.out 0; have hfz9_1 := blk_frozen BK1801.out 1) | (refine goesL_ (some 19) rfl rfl Tryd.func71 (by kernel_rfl) rfl #[.int .u64 a0_1, .int .u64 a1_1] rfl (by (try simp only [mT_, mC_, mN_]); first | done | rfl) ?_; (with_reducible refine (cmp_Compare_uint64.calls a0_1 a1_1 t1802 _ A4.out).mono ?_); rintro e w' ⟨rfl, ⟨nd, rfl⟩⟩; refine ⟨_, rfl, ?_⟩))
  go_ret
  exact ⟨by rfl, by repeat (with_reducible first | exact HB.out | apply bA_ | apply bN_ | apply bD_ | refine bS_ ?_ GE1800.out | refine bS_ ?_ GE1801.out)⟩
 ·rw [if_neg c3] at H
  have c3b0 : (a0_0 == a1_0) = false := beq_eq_false_iff_ne.mpr c3
  have c3b1 : (a0_0 != a1_0) = true := bne_iff_ne.mpr c3
  replace H := bI_ H
  obtain ⟨t1803, A100, H⟩ := H
  (try dsimp only at H)
  have A10 := aA_ A100
  clear A100
  obtain rfl := Option.some.inj H
  go_enter Tryd.func60, Tryd.ntmps60
  go_wp2_with (first | (refine box_event rfl (N := 2) rfl (cs := #[.int .u64 a0_0, .int .u64 a0_1]) (t := 72) ?hr ?_; (case hr => go_simp <;> rfl); intro gb1800 hg w11 hbox hb; have BK1800 := aA_ (hbox); have GW1800 := gW_ hg (by repeat (with_reducible first | exact HB.out | apply bA_ | apply bN_ | apply bD_)); have GE1800 := GW1800; replace HB := bB_ (by repeat (with_reducible first | exact HB.out | apply bA_ | apply bN_ | apply bD_)) hb; clear hb hbox hg) | (refine box_event rfl (N := 3) rfl (cs := #[.int .u64 a1_0, .int .u64 a1_1]) (t := 72) ?hr ?_; (case hr => go_simp <;> rfl); intro gb1801 hg w12 hbox hb; have BK1801 := aA_ (hbox); have GW1801 := gW_ hg (by repeat (with_reducible first | exact HB.out | apply bA_ | apply bN_ | apply bD_ | refine bS_ ?_ GE1800.out)); have GE1801 := GW1801; replace HB := bB_ (by repeat (with_reducible first | exact HB.out | apply bA_ | apply bN_ | apply bD_ | refine bS_ ?_ GE1800.out)) hb; have NB1800_1801 := nE_ hg BK1800; have NB1801_1800 := aA_ NB1800_1801.out.symm; replace BK1800 := bK_ BK1800 hb; clear hb hbox hg; have hnb13 := NB1800_1801.out; have hnc13 := NB1801_1800.out; have hcz14_0 : w12.cell? ⟨gb1800, 0, none⟩ = some (.int .u64 a0_0) := (blk_cell BK1800.out 0).trans rfl; have hcz14_1 : w12.cell? ⟨gb1800, 1, none⟩ = some (.int .u64 a0_1) := (blk_cell BK1800.out 1).trans rfl; have hfz14_0 := blk_frozen BK1800.out 0; have hfz14_1 := blk_frozen BK1800.out 1; have hcz15_0 : w12.cell? ⟨gb1801, 0, none⟩ = some (.int .u64 a1_0) := (blk_cell BK1801.out 0).trans rfl; have hcz15_1 : w12.cell? ⟨gb1801, 1, none⟩ = some (.int .u64 a1_1) := (blk_cell BK1801.out 1).trans rfl; have hfz15_0 := blk_frozen BK1801.out 0; have hfz15_1 := blk_frozen BK1801.out 1) | (refine goesL_ (some 14) rfl rfl Tryd.func71 (by kernel_rfl) rfl #[.int .u64 a0_0, .int .u64 a1_0] rfl (by (try simp only [mT_, mC_, mN_]); first | done | rfl) ?_; (with_reducible refine (cmp_Compare_uint64.calls a0_0 a1_0 t1803 _ A10.out).mono ?_); rintro e w' ⟨rfl, ⟨nd, rfl⟩⟩; refine ⟨_, rfl, ?_⟩))
  go_ret
  exact ⟨by rfl, by repeat (with_reducible first | exact HB.out | apply bA_ | apply bN_ | apply bD_ | refine bS_ ?_ GE1800.out | refine bS_ ?_ GE1801.out)⟩

end Go.Proofs.YtbapgkopilmdfaaDoor.X
