-- cut by prune.py, a program of this session
import Derived.Test.YtbapgkopilmdfaaDoorPActualMovesX0
import Derived.Test.YtbapgkopilmdfaaDoorPActualMovesHCiv
namespace Go.Proofs.YtbapgkopilmdfaaDoor.X
open Go.RowKit Go.Proofs.YtbapgkopilmdfaaDoorW.PrintWords Go.Proofs.YtbapgkopilmdfaaDoorW.PrintLast Go.Proofs.YtbapgkopilmdfaaDoorW.PrintMore
attribute [local go_sem] max2_int min2_int max_two min_two
set_option linter.unusedVariables false
set_option linter.unusedSimpArgs false

def civil_May.f (a0_0 : Int) (a0_1 : Int) (a0_2 : Int) : Option (Bool) := if a0_0 ≥ 1 then (if a0_0 ≤ 9999 then (if a0_2 ≥ 1 then ((civil_Length.f a0_0 a0_1).bind fun t1790 => (some (decide (a0_2 ≤ t1790)))) else (some false)) else (some false)) else (some false)
set_option maxHeartbeats 8000000 in
set_option maxRecDepth 100000 in
theorem civil_May.calls (a0_0 : Int) (a0_1 : Int) (a0_2 : Int) (r : Bool) (w : World) (hv : Vars w) (h : civil_May.f a0_0 a0_1 a0_2 = some r) :
  Calls Tryd.prog 61 #[.agg #[.int .i64 a0_0, .int .i64 a0_1, .int .i64 a0_2]] w fun e w' => e = .returned (.bool r) ∧ Below w.heap.size w w' := by
 have HV := aA_ hv
 clear hv
 have hu41 := Tryd.underlying41
 have HB := aA_ (Below.refl w.heap.size w)
 have H : (if a0_0 ≥ 1 then (if a0_0 ≤ 9999 then (if a0_2 ≥ 1 then ((civil_Length.f a0_0 a0_1).bind fun t1790 => (some (decide (a0_2 ≤ t1790)))) else (some false)) else (some false)) else (some false)) = some r := h
 clear h
 by_cases c2 : a0_0 ≥ 1
 ·rw [if_pos c2] at H
  have c2b0 : decide (1 ≤ a0_0) = true := decide_eq_true c2
  clear c2
  by_cases c3 : a0_0 ≤ 9999
  ·rw [if_pos c3] at H
   have c3b0 : decide (a0_0 ≤ 9999) = true := decide_eq_true c3
   clear c3
   by_cases c4 : a0_2 ≥ 1
   ·rw [if_pos c4] at H
    have c4b0 : decide (1 ≤ a0_2) = true := decide_eq_true c4
    clear c4
    replace H := bI_ H
    obtain ⟨t1790, A50, H⟩ := H
    (try dsimp only at H)
    have A5 := aA_ A50
    clear A50
    obtain rfl := Option.some.inj H
    go_enter Tryd.func61, Tryd.ntmps61
    go_wp2_with (first | (refine box_event rfl (N := 1) rfl (cs := #[.int .i64 a0_0, .int .i64 a0_1, .int .i64 a0_2]) (t := 41) ?hr ?_; (case hr => go_simp <;> rfl); intro gb1789 hg w6 hbox hb; have BK1789 := aA_ (hbox); have GW1789 := gW_ hg (by repeat (with_reducible first | exact HB.out | apply bA_ | apply bN_ | apply bD_)); have GE1789 := GW1789; replace HB := bB_ (by repeat (with_reducible first | exact HB.out | apply bA_ | apply bN_ | apply bD_)) hb; clear hb hbox hg; have hcz7_0 : w6.cell? ⟨gb1789, 0, none⟩ = some (.int .i64 a0_0) := (blk_cell BK1789.out 0).trans rfl; have hcz7_1 : w6.cell? ⟨gb1789, 1, none⟩ = some (.int .i64 a0_1) := (blk_cell BK1789.out 1).trans rfl; have hcz7_2 : w6.cell? ⟨gb1789, 2, none⟩ = some (.int .i64 a0_2) := (blk_cell BK1789.out 2).trans rfl; have hfz7_0 := blk_frozen BK1789.out 0; have hfz7_1 := blk_frozen BK1789.out 1; have hfz7_2 := blk_frozen BK1789.out 2) | (go_at_call 46; (with_reducible refine (civil_Length.calls a0_0 a0_1 t1790 _ ?sv A5.out).mono ?_); (case sv => exact (Vars.below HV.out (by repeat (with_reducible first | exact HB.out | apply bA_ | apply bN_ | apply bD_)))); rintro e w' ⟨rfl, ⟨nd, rfl⟩⟩; (try first | exact ⟨rfl, _, World.drewN_drewN _ _ _⟩ | exact ⟨rfl, _, Eq.trans (World.drewN_drewN _ _ _) (congrArg (World.drewN _) (Nat.add_assoc _ _ _))⟩)))
    repeat (go_quiet (first | (refine box_event rfl (N := 1) rfl (cs := #[.int .i64 a0_0, .int .i64 a0_1, .int .i64 a0_2]) (t := 41) ?hr ?_; (case hr => go_simp <;> rfl); intro gb1789 hg w6 hbox hb; have BK1789 := aA_ (hbox); have GW1789 := gW_ hg (by repeat (with_reducible first | exact HB.out | apply bA_ | apply bN_ | apply bD_)); have GE1789 := GW1789; replace HB := bB_ (by repeat (with_reducible first | exact HB.out | apply bA_ | apply bN_ | apply bD_)) hb; clear hb hbox hg; have hcz7_0 : w6.cell? ⟨gb1789, 0, none⟩ = some (.int .i64 a0_0) := (blk_cell BK1789.out 0).trans rfl; have hcz7_1 : w6.cell? ⟨gb1789, 1, none⟩ = some (.int .i64 a0_1) := (blk_cell BK1789.out 1).trans rfl; have hcz7_2 : w6.cell? ⟨gb1789, 2, none⟩ = some (.int .i64 a0_2) := (blk_cell BK1789.out 2).trans rfl; have hfz7_0 := blk_frozen BK1789.out 0; have hfz7_1 := blk_frozen BK1789.out 1; have hfz7_2 := blk_frozen BK1789.out 2) | (go_at_call 46; (with_reducible refine (civil_Length.calls a0_0 a0_1 t1790 _ ?sv A5.out).mono ?_); (case sv => exact (Vars.below HV.out (by repeat (with_reducible first | exact HB.out | apply bA_ | apply bN_ | apply bD_)))); rintro e w' ⟨rfl, ⟨nd, rfl⟩⟩; (try first | exact ⟨rfl, _, World.drewN_drewN _ _ _⟩ | exact ⟨rfl, _, Eq.trans (World.drewN_drewN _ _ _) (congrArg (World.drewN _) (Nat.add_assoc _ _ _))⟩))); try go_wp2_with (first | (refine box_event rfl (N := 1) rfl (cs := #[.int .i64 a0_0, .int .i64 a0_1, .int .i64 a0_2]) (t := 41) ?hr ?_; (case hr => go_simp <;> rfl); intro gb1789 hg w6 hbox hb; have BK1789 := aA_ (hbox); have GW1789 := gW_ hg (by repeat (with_reducible first | exact HB.out | apply bA_ | apply bN_ | apply bD_)); have GE1789 := GW1789; replace HB := bB_ (by repeat (with_reducible first | exact HB.out | apply bA_ | apply bN_ | apply bD_)) hb; clear hb hbox hg; have hcz7_0 : w6.cell? ⟨gb1789, 0, none⟩ = some (.int .i64 a0_0) := (blk_cell BK1789.out 0).trans rfl; have hcz7_1 : w6.cell? ⟨gb1789, 1, none⟩ = some (.int .i64 a0_1) := (blk_cell BK1789.out 1).trans rfl; have hcz7_2 : w6.cell? ⟨gb1789, 2, none⟩ = some (.int .i64 a0_2) := (blk_cell BK1789.out 2).trans rfl; have hfz7_0 := blk_frozen BK1789.out 0; have hfz7_1 := blk_frozen BK1789.out 1; have hfz7_2 := blk_frozen BK1789.out 2) | (go_at_call 46; (with_reducible refine (civil_Length.calls a0_0 a0_1 t1790 _ ?sv A5.out).mono ?_); (case sv => exact (Vars.below HV.out (by repeat (with_reducible first | exact HB.out | apply bA_ | apply bN_ | apply bD_)))); rintro e w' ⟨rfl, ⟨nd, rfl⟩⟩; (try first | exact ⟨rfl, _, World.drewN_drewN _ _ _⟩ | exact ⟨rfl, _, Eq.trans (World.drewN_drewN _ _ _) (congrArg (World.drewN _) (Nat.add_assoc _ _ _))⟩))))
    go_ret
    exact ⟨by rfl, by repeat (with_reducible first | exact HB.out | apply bA_ | apply bN_ | apply bD_ | refine bS_ ?_ GE1789.out)⟩
   ·rw [if_neg c4] at H
    have c4b0 : decide (1 ≤ a0_2) = false := decide_eq_false c4
    clear c4
    obtain rfl := Option.some.inj H
    go_enter Tryd.func61, Tryd.ntmps61
    go_wp2_with (first | (refine box_event rfl (N := 1) rfl (cs := #[.int .i64 a0_0, .int .i64 a0_1, .int .i64 a0_2]) (t := 41) ?hr ?_; (case hr => go_simp <;> rfl); intro gb1789 hg w8 hbox hb; have BK1789 := aA_ (hbox); have GW1789 := gW_ hg (by repeat (with_reducible first | exact HB.out | apply bA_ | apply bN_ | apply bD_)); have GE1789 := GW1789; replace HB := bB_ (by repeat (with_reducible first | exact HB.out | apply bA_ | apply bN_ | apply bD_)) hb; clear hb hbox hg; have hcz9_0 : w8.cell? ⟨gb1789, 0, none⟩ = some (.int .i64 a0_0) := (blk_cell BK1789.out 0).trans rfl; have hcz9_1 : w8.cell? ⟨gb1789, 1, none⟩ = some (.int .i64 a0_1) := (blk_cell BK1789.out 1).trans rfl; have hcz9_2 : w8.cell? ⟨gb1789, 2, none⟩ = some (.int .i64 a0_2) := (blk_cell BK1789.out 2).trans rfl; have hfz9_0 := blk_frozen BK1789.out 0; have hfz9_1 := blk_frozen BK1789.out 1; have hfz9_2 := blk_frozen BK1789.out 2))
    repeat (go_quiet (first | (refine box_event rfl (N := 1) rfl (cs := #[.int .i64 a0_0, .int .i64 a0_1, .int .i64 a0_2]) (t := 41) ?hr ?_; (case hr => go_simp <;> rfl); intro gb1789 hg w8 hbox hb; have BK1789 := aA_ (hbox); have GW1789 := gW_ hg (by repeat (with_reducible first | exact HB.out | apply bA_ | apply bN_ | apply bD_)); have GE1789 := GW1789; replace HB := bB_ (by repeat (with_reducible first | exact HB.out | apply bA_ | apply bN_ | apply bD_)) hb; clear hb hbox hg; have hcz9_0 : w8.cell? ⟨gb1789, 0, none⟩ = some (.int .i64 a0_0) := (blk_cell BK1789.out 0).trans rfl; have hcz9_1 : w8.cell? ⟨gb1789, 1, none⟩ = some (.int .i64 a0_1) := (blk_cell BK1789.out 1).trans rfl; have hcz9_2 : w8.cell? ⟨gb1789, 2, none⟩ = some (.int .i64 a0_2) := (blk_cell BK1789.out 2).trans rfl; have hfz9_0 := blk_frozen BK1789.out 0; have hfz9_1 := blk_frozen BK1789.out 1; have hfz9_2 := blk_frozen BK1789.out 2)); try go_wp2_with (first | (refine box_event rfl (N := 1) rfl (cs := #[.int .i64 a0_0, .int .i64 a0_1, .int .i64 a0_2]) (t := 41) ?hr ?_; (case hr => go_simp <;> rfl); intro gb1789 hg w8 hbox hb; have BK1789 := aA_ (hbox); have GW1789 := gW_ hg (by repeat (with_reducible first | exact HB.out | apply bA_ | apply bN_ | apply bD_)); have GE1789 := GW1789; replace HB := bB_ (by repeat (with_reducible first | exact HB.out | apply bA_ | apply bN_ | apply bD_)) hb; clear hb hbox hg; have hcz9_0 : w8.cell? ⟨gb1789, 0, none⟩ = some (.int .i64 a0_0) := (blk_cell BK1789.out 0).trans rfl; have hcz9_1 : w8.cell? ⟨gb1789, 1, none⟩ = some (.int .i64 a0_1) := (blk_cell BK1789.out 1).trans rfl; have hcz9_2 : w8.cell? ⟨gb1789, 2, none⟩ = some (.int .i64 a0_2) := (blk_cell BK1789.out 2).trans rfl; have hfz9_0 := blk_frozen BK1789.out 0; have hfz9_1 := blk_frozen BK1789.out 1; have hfz9_2 := blk_frozen BK1789.out 2)))
    go_ret
    exact ⟨by rfl, by repeat (with_reducible first | exact HB.out | apply bA_ | apply bN_ | apply bD_ | refine bS_ ?_ GE1789.out)⟩
  ·rw [if_neg c3] at H
   have c3b0 : decide (a0_0 ≤ 9999) = false := decide_eq_false c3
   clear c3
   obtain rfl := Option.some.inj H
   go_enter Tryd.func61, Tryd.ntmps61
   go_wp2_with (first | (refine box_event rfl (N := 1) rfl (cs := #[.int .i64 a0_0, .int .i64 a0_1, .int .i64 a0_2]) (t := 41) ?hr ?_; (case hr => go_simp <;> rfl); intro gb1789 hg w10 hbox hb; have BK1789 := aA_ (hbox); have GW1789 := gW_ hg (by repeat (with_reducible first | exact HB.out | apply bA_ | apply bN_ | apply bD_)); have GE1789 := GW1789; replace HB := bB_ (by repeat (with_reducible first | exact HB.out | apply bA_ | apply bN_ | apply bD_)) hb; clear hb hbox hg; have hcz11_0 : w10.cell? ⟨gb1789, 0, none⟩ = some (.int .i64 a0_0) := (blk_cell BK1789.out 0).trans rfl; have hcz11_1 : w10.cell? ⟨gb1789, 1, none⟩ = some (.int .i64 a0_1) := (blk_cell BK1789.out 1).trans rfl; have hcz11_2 : w10.cell? ⟨gb1789, 2, none⟩ = some (.int .i64 a0_2) := (blk_cell BK1789.out 2).trans rfl; have hfz11_0 := blk_frozen BK1789.out 0; have hfz11_1 := blk_frozen BK1789.out 1; have hfz11_2 := blk_frozen BK1789.out 2))
   repeat (go_quiet (first | (refine box_event rfl (N := 1) rfl (cs := #[.int .i64 a0_0, .int .i64 a0_1, .int .i64 a0_2]) (t := 41) ?hr ?_; (case hr => go_simp <;> rfl); intro gb1789 hg w10 hbox hb; have BK1789 := aA_ (hbox); have GW1789 := gW_ hg (by repeat (with_reducible first | exact HB.out | apply bA_ | apply bN_ | apply bD_)); have GE1789 := GW1789; replace HB := bB_ (by repeat (with_reducible first | exact HB.out | apply bA_ | apply bN_ | apply bD_)) hb; clear hb hbox hg; have hcz11_0 : w10.cell? ⟨gb1789, 0, none⟩ = some (.int .i64 a0_0) := (blk_cell BK1789.out 0).trans rfl; have hcz11_1 : w10.cell? ⟨gb1789, 1, none⟩ = some (.int .i64 a0_1) := (blk_cell BK1789.out 1).trans rfl; have hcz11_2 : w10.cell? ⟨gb1789, 2, none⟩ = some (.int .i64 a0_2) := (blk_cell BK1789.out 2).trans rfl; have hfz11_0 := blk_frozen BK1789.out 0; have hfz11_1 := blk_frozen BK1789.out 1; have hfz11_2 := blk_frozen BK1789.out 2)); try go_wp2_with (first | (refine box_event rfl (N := 1) rfl (cs := #[.int .i64 a0_0, .int .i64 a0_1, .int .i64 a0_2]) (t := 41) ?hr ?_; (case hr => go_simp <;> rfl); intro gb1789 hg w10 hbox hb; have BK1789 := aA_ (hbox); have GW1789 := gW_ hg (by repeat (with_reducible first | exact HB.out | apply bA_ | apply bN_ | apply bD_)); have GE1789 := GW1789; replace HB := bB_ (by repeat (with_reducible first | exact HB.out | apply bA_ | apply bN_ | apply bD_)) hb; clear hb hbox hg; have hcz11_0 : w10.cell? ⟨gb1789, 0, none⟩ = some (.int .i64 a0_0) := (blk_cell BK1789.out 0).trans rfl; have hcz11_1 : w10.cell? ⟨gb1789, 1, none⟩ = some (.int .i64 a0_1) := (blk_cell BK1789.out 1).trans rfl; have hcz11_2 : w10.cell? ⟨gb1789, 2, none⟩ = some (.int .i64 a0_2) := (blk_cell BK1789.out 2).trans rfl; have hfz11_0 := blk_frozen BK1789.out 0; have hfz11_1 := blk_frozen BK1789.out 1; have hfz11_2 := blk_frozen BK1789.out 2)))
   go_ret
   exact ⟨by rfl, by repeat (with_reducible first | exact HB.out | apply bA_ | apply bN_ | apply bD_ | refine bS_ ?_ GE1789.out)⟩
 ·rw [if_neg c2] at H
  have c2b0 : decide (1 ≤ a0_0) = false := decide_eq_false c2
  clear c2
  obtain rfl := Option.some.inj H
  go_enter Tryd.func61, Tryd.ntmps61
  go_wp2_with (first | (refine box_event rfl (N := 1) rfl (cs := #[.int .i64 a0_0, .int .i64 a0_1, .int .i64 a0_2]) (t := 41) ?hr ?_; (case hr => go_simp <;> rfl); intro gb1789 hg w12 hbox hb; have BK1789 := aA_ (hbox); have GW1789 := gW_ hg (by repeat (with_reducible first | exact HB.out | apply bA_ | apply bN_ | apply bD_)); have GE1789 := GW1789; replace HB := bB_ (by repeat (with_reducible first | exact HB.out | apply bA_ | apply bN_ | apply bD_)) hb; clear hb hbox hg; have hcz13_0 : w12.cell? ⟨gb1789, 0, none⟩ = some (.int .i64 a0_0) := (blk_cell BK1789.out 0).trans rfl; have hcz13_1 : w12.cell? ⟨gb1789, 1, none⟩ = some (.int .i64 a0_1) := (blk_cell BK1789.out 1).trans rfl; have hcz13_2 : w12.cell? ⟨gb1789, 2, none⟩ = some (.int .i64 a0_2) := (blk_cell BK1789.out 2).trans rfl; have hfz13_0 := blk_frozen BK1789.out 0; have hfz13_1 := blk_frozen BK1789.out 1; have hfz13_2 := blk_frozen BK1789.out 2))
  repeat (go_quiet (first | (refine box_event rfl (N := 1) rfl (cs := #[.int .i64 a0_0, .int .i64 a0_1, .int .i64 a0_2]) (t := 41) ?hr ?_; (case hr => go_simp <;> rfl); intro gb1789 hg w12 hbox hb; have BK1789 := aA_ (hbox); have GW1789 := gW_ hg (by repeat (with_reducible first | exact HB.out | apply bA_ | apply bN_ | apply bD_)); have GE1789 := GW1789; replace HB := bB_ (by repeat (with_reducible first | exact HB.out | apply bA_ | apply bN_ | apply bD_)) hb; clear hb hbox hg; have hcz13_0 : w12.cell? ⟨gb1789, 0, none⟩ = some (.int .i64 a0_0) := (blk_cell BK1789.out 0).trans rfl; have hcz13_1 : w12.cell? ⟨gb1789, 1, none⟩ = some (.int .i64 a0_1) := (blk_cell BK1789.out 1).trans rfl; have hcz13_2 : w12.cell? ⟨gb1789, 2, none⟩ = some (.int .i64 a0_2) := (blk_cell BK1789.out 2).trans rfl; have hfz13_0 := blk_frozen BK1789.out 0; have hfz13_1 := blk_frozen BK1789.out 1; have hfz13_2 := blk_frozen BK1789.out 2)); try go_wp2_with (first | (refine box_event rfl (N := 1) rfl (cs := #[.int .i64 a0_0, .int .i64 a0_1, .int .i64 a0_2]) (t := 41) ?hr ?_; (case hr => go_simp <;> rfl); intro gb1789 hg w12 hbox hb; have BK1789 := aA_ (hbox); have GW1789 := gW_ hg (by repeat (with_reducible first | exact HB.out | apply bA_ | apply bN_ | apply bD_)); have GE1789 := GW1789; replace HB := bB_ (by repeat (with_reducible first | exact HB.out | apply bA_ | apply bN_ | apply bD_)) hb; clear hb hbox hg; have hcz13_0 : w12.cell? ⟨gb1789, 0, none⟩ = some (.int .i64 a0_0) := (blk_cell BK1789.out 0).trans rfl; have hcz13_1 : w12.cell? ⟨gb1789, 1, none⟩ = some (.int .i64 a0_1) := (blk_cell BK1789.out 1).trans rfl; have hcz13_2 : w12.cell? ⟨gb1789, 2, none⟩ = some (.int .i64 a0_2) := (blk_cell BK1789.out 2).trans rfl; have hfz13_0 := blk_frozen BK1789.out 0; have hfz13_1 := blk_frozen BK1789.out 1; have hfz13_2 := blk_frozen BK1789.out 2)))
  go_ret
  exact ⟨by rfl, by repeat (with_reducible first | exact HB.out | apply bA_ | apply bN_ | apply bD_ | refine bS_ ?_ GE1789.out)⟩

def civil_Number.l0 : Nat → Int → Int → Int → Int → Int → Option (Int × Int)
 | 0, _, _, _, _, _ => none
 | k + 1, x5, x6, x1792000, x1792001, x1792002 => if x6 < x1792001 then ((civil_Length.f x1792000 x6).bind fun t1793 => (civil_Number.l0 k (wrap64 (x5 + t1793)) (wrap64 (x6 + 1)) x1792000 x1792001 x1792002)) else (some (x5, 0))
def civil_Number.f (k : Nat) (a0_0 : Int) (a0_1 : Int) (a0_2 : Int) : Option (Int × Int) := (civil_May.f a0_0 a0_1 a0_2).bind fun t1792 => (if t1792 = true then (civil_Number.l0 k (wrap64 ((wrap64 ((wrap64 ((wrap64 ((wrap64 ((wrap64 (a0_0 - 1)) * 365)) + (wrap64 (Int.tdiv (wrap64 (a0_0 - 1)) 4)))) - (wrap64 (Int.tdiv (wrap64 (a0_0 - 1)) 100)))) + (wrap64 (Int.tdiv (wrap64 (a0_0 - 1)) 400)))) + a0_2)) 1 a0_0 a0_1 a0_2) else (some (0, 3)))
theorem civil_Number.mono_l : ∀ k, (∀ y0 y1 y2 y3 y4, LeO (civil_Number.l0 k y0 y1 y2 y3 y4) (civil_Number.l0 (k + 1) y0 y1 y2 y3 y4))
 | 0 => fun _ _ _ _ _ r h => by simp [civil_Number.l0] at h
 | k + 1 => by
  have ih0 := civil_Number.mono_l k
  ·intro y0 y1 y2 y3 y4
   unfold civil_Number.l0
   repeat' first
   | (with_reducible exact ih0 _ _ _ _ _)
   | (with_reducible exact LeO.refl _)
   | (with_reducible exact LeO.none _)
   | (with_reducible refine LeO.ite ?_ ?_)
   | (with_reducible refine LeO.bind ?_ (fun _ => ?_))
   | exact ih0 _ _ _ _ _
   | exact LeO.none _
   | refine LeO.ite ?_ ?_
   | refine LeO.bind ?_ (fun _ => ?_)
theorem civil_Number.mono : ∀ a0 a1 a2 k, LeO (civil_Number.f k a0 a1 a2) (civil_Number.f (k + 1) a0 a1 a2) := by
 intro a0 a1 a2 k
 have ih0 := civil_Number.mono_l k
 unfold civil_Number.f
 repeat' first
   | (with_reducible exact ih0 _ _ _ _ _)
   | (with_reducible exact LeO.refl _)
   | (with_reducible exact LeO.none _)
   | (with_reducible refine LeO.ite ?_ ?_)
   | (with_reducible refine LeO.bind ?_ (fun _ => ?_))
   | exact ih0 _ _ _ _ _
   | exact LeO.none _
   | refine LeO.ite ?_ ?_
   | refine LeO.bind ?_ (fun _ => ?_)
set_option maxHeartbeats 8000000 in
set_option maxRecDepth 100000 in
theorem civil_Number.calls (k : Nat) (a0_0 : Int) (a0_1 : Int) (a0_2 : Int) (r1 : Int) (r2 : Int) (w : World) (hv : Vars w) (h : civil_Number.f k a0_0 a0_1 a0_2 = some (r1, r2)) :
  Calls Tryd.prog 47 #[.agg #[.int .i64 a0_0, .int .i64 a0_1, .int .i64 a0_2]] w fun e w' => e = .returned (.tuple #[.int .i64 r1, .int .i64 r2]) ∧ Below w.heap.size w w' := by
 have HV := aA_ hv
 clear hv
 have hu41 := Tryd.underlying41
 have HB := aA_ (Below.refl w.heap.size w)
 have H : ((civil_May.f a0_0 a0_1 a0_2).bind fun t1792 => (if t1792 = true then (civil_Number.l0 k (wrap64 ((wrap64 ((wrap64 ((wrap64 ((wrap64 ((wrap64 (a0_0 - 1)) * 365)) + (wrap64 (Int.tdiv (wrap64 (a0_0 - 1)) 4)))) - (wrap64 (Int.tdiv (wrap64 (a0_0 - 1)) 100)))) + (wrap64 (Int.tdiv (wrap64 (a0_0 - 1)) 400)))) + a0_2)) 1 a0_0 a0_1 a0_2) else (some (0, 3)))) = some (r1, r2) := h
 clear h
 replace H := bI_ H
 obtain ⟨t1792, A20, H⟩ := H
 (try dsimp only at H)
 have A2 := aA_ A20
 clear A20
 by_cases c3 : t1792 = true
 ·subst c3
  rw [if_pos rfl] at H
  have H' := aA_ H
  clear H
  go_enter Tryd.func47, Tryd.ntmps47
  go_wp2_with (first | (refine box_event rfl (N := 1) rfl (cs := #[.int .i64 a0_0, .int .i64 a0_1, .int .i64 a0_2]) (t := 41) ?hr ?_; (case hr => go_simp <;> rfl); intro gb1791 hg w4 hbox hb; have BK1791 := aA_ (hbox); have GW1791 := gW_ hg (by repeat (with_reducible first | exact HB.out | apply bA_ | apply bN_ | apply bD_)); have GE1791 := GW1791; replace HB := bB_ (by repeat (with_reducible first | exact HB.out | apply bA_ | apply bN_ | apply bD_)) hb; clear hb hbox hg; have hcz5_0 : w4.cell? ⟨gb1791, 0, none⟩ = some (.int .i64 a0_0) := (blk_cell BK1791.out 0).trans rfl; have hcz5_1 : w4.cell? ⟨gb1791, 1, none⟩ = some (.int .i64 a0_1) := (blk_cell BK1791.out 1).trans rfl; have hcz5_2 : w4.cell? ⟨gb1791, 2, none⟩ = some (.int .i64 a0_2) := (blk_cell BK1791.out 2).trans rfl; have hfz5_0 := blk_frozen BK1791.out 0; have hfz5_1 := blk_frozen BK1791.out 1; have hfz5_2 := blk_frozen BK1791.out 2) | (refine goesL_ (some 8) rfl rfl Tryd.func61 (by kernel_rfl) rfl #[.agg #[.int .i64 a0_0, .int .i64 a0_1, .int .i64 a0_2]] rfl (by (try simp only [mT_, mC_, mN_]); first | done | rfl) ?_; (with_reducible refine (civil_May.calls a0_0 a0_1 a0_2 true _ ?sv A2.out).mono ?_); (case sv => exact (Vars.below HV.out (by repeat (with_reducible first | exact HB.out | apply bA_ | apply bN_ | apply bD_ | refine bS_ ?_ GE1791.out)))); rintro e w6 ⟨rfl, hb⟩; refine ⟨_, rfl, ?_⟩; replace BK1791 := bK_ BK1791 hb; replace HB := bB_ (by repeat (with_reducible first | exact HB.out | apply bA_ | apply bN_ | apply bD_ | refine bS_ ?_ GE1791.out)) hb; (try clear hb); have hcz7_0 : w6.cell? ⟨gb1791, 0, none⟩ = some (.int .i64 a0_0) := (blk_cell BK1791.out 0).trans rfl; have hcz7_1 : w6.cell? ⟨gb1791, 1, none⟩ = some (.int .i64 a0_1) := (blk_cell BK1791.out 1).trans rfl; have hcz7_2 : w6.cell? ⟨gb1791, 2, none⟩ = some (.int .i64 a0_2) := (blk_cell BK1791.out 2).trans rfl; have hfz7_0 := blk_frozen BK1791.out 0; have hfz7_1 := blk_frozen BK1791.out 1; have hfz7_2 := blk_frozen BK1791.out 2))
  (try simp only [Act.put, sT_, sZ_, sS_])
  go_loopg [5, 6] k (fun kq v5 v6 w' => ∃ (x5_1 : Int) (x6_1 : Int), v5 = .int .i64 x5_1 ∧ v6 = .int .i64 x6_1 ∧ Aside0 (civil_Number.l0 kq x5_1 x6_1 a0_0 a0_1 a0_2 = some (r1, r2)) ∧ Aside0 (kq ≤ k) ∧ Aside0 (w'.heap[gb1791]? = some (.cells #[.int .i64 a0_0, .int .i64 a0_1, .int .i64 a0_2] 41 (0, 0))) ∧ Aside0 (Below w.heap.size w w'))
  case atStart => exact ⟨(wrap64 ((wrap64 ((wrap64 ((wrap64 ((wrap64 ((wrap64 (a0_0 - 1)) * 365)) + (wrap64 (Int.tdiv (wrap64 (a0_0 - 1)) 4)))) - (wrap64 (Int.tdiv (wrap64 (a0_0 - 1)) 100)))) + (wrap64 (Int.tdiv (wrap64 (a0_0 - 1)) 400)))) + a0_2)), (1), (by first | rfl | (simp; done) | (simp [*]; done)), (by first | rfl | (simp; done) | (simp [*]; done)), H', ⟨Nat.le_refl _⟩, ⟨by exact BK1791.out⟩, ⟨by repeat (with_reducible first | exact HB.out | apply bA_ | apply bN_ | apply bD_ | refine bS_ ?_ GE1791.out)⟩⟩
  case round =>
   clear H'
   try clear p2
   try clear c3
   try clear c4
   try clear c6
   try clear p6
   try clear hcz5_0
   try clear hcz5_1
   try clear hcz5_2
   try clear hcz7_0
   try clear hcz7_1
   try clear hcz7_2
   try clear hfz5_0
   try clear hfz5_1
   try clear hfz5_2
   try clear hfz7_0
   try clear hfz7_1
   try clear hfz7_2
   obtain ⟨x5_1, x6_1, rfl, rfl, HA, HK1, BK1791, HB⟩ := hrel
   cases gk with
   | zero => exact absurd HA.out (by simp [civil_Number.l0])
   | succ k1 =>
    have H := HA.out
    clear HA
    simp only [civil_Number.l0] at H
    by_cases c8 : x6_1 < a0_1
    ·rw [if_pos c8] at H
     have c8b0 : decide (x6_1 < a0_1) = true := decide_eq_true c8
     clear c8
     replace H := bI_ H
     obtain ⟨t1793, A90, H⟩ := H
     (try dsimp only at H)
     have A9 := aA_ A90
     clear A90
     have H' := aA_ H
     clear H
     have hcz10_0 : wr.cell? ⟨gb1791, 0, none⟩ = some (.int .i64 a0_0) := (blk_cell BK1791.out 0).trans rfl
     have hcz10_1 : wr.cell? ⟨gb1791, 1, none⟩ = some (.int .i64 a0_1) := (blk_cell BK1791.out 1).trans rfl
     have hcz10_2 : wr.cell? ⟨gb1791, 2, none⟩ = some (.int .i64 a0_2) := (blk_cell BK1791.out 2).trans rfl
     have hfz10_0 := blk_frozen BK1791.out 0
     have hfz10_1 := blk_frozen BK1791.out 1
     have hfz10_2 := blk_frozen BK1791.out 2
     go_wp2_with (first | (refine goesL_ (some 37) rfl rfl Tryd.func46 (by kernel_rfl) rfl #[.int .i64 a0_0, .int .i64 x6_1] rfl (by (try simp only [mT_, mC_, mN_]); first | done | rfl) ?_; (with_reducible refine (civil_Length.calls a0_0 x6_1 t1793 _ ?sv A9.out).mono ?_); (case sv => exact (Vars.below HV.out (by repeat (with_reducible first | exact HB.out | apply bA_ | apply bN_ | apply bD_)))); rintro e w' ⟨rfl, ⟨nd, rfl⟩⟩; refine ⟨_, rfl, ?_⟩))
     go_roundg k1
     case measure => have := HK1.out; omega
     case rel => exact ⟨(wrap64 (x5_1 + t1793)), (wrap64 (x6_1 + 1)), (by first | rfl | (simp; done) | (simp [*]; done)), (by first | rfl | (simp; done) | (simp [*]; done)), H', ⟨by have := HK1.out; omega⟩, ⟨by exact BK1791.out⟩, ⟨by repeat (with_reducible first | exact HB.out | apply bA_ | apply bN_ | apply bD_ | refine bS_ ?_ GE1791.out)⟩⟩
    ·rw [if_neg c8] at H
     have c8b0 : decide (x6_1 < a0_1) = false := decide_eq_false c8
     clear c8
     simp only [Option.some.injEq, Prod.mk.injEq] at H
     obtain ⟨rfl, rfl⟩ := H
     have hcz11_0 : wr.cell? ⟨gb1791, 0, none⟩ = some (.int .i64 a0_0) := (blk_cell BK1791.out 0).trans rfl
     have hcz11_1 : wr.cell? ⟨gb1791, 1, none⟩ = some (.int .i64 a0_1) := (blk_cell BK1791.out 1).trans rfl
     have hcz11_2 : wr.cell? ⟨gb1791, 2, none⟩ = some (.int .i64 a0_2) := (blk_cell BK1791.out 2).trans rfl
     have hfz11_0 := blk_frozen BK1791.out 0
     have hfz11_1 := blk_frozen BK1791.out 1
     have hfz11_2 := blk_frozen BK1791.out 2
     go_wp2
     go_ret2
     exact ⟨by rfl, by repeat (with_reducible first | exact HB.out | apply bA_ | apply bN_ | apply bD_ | refine bS_ ?_ GE1791.out)⟩
 ·replace c3 := Bool.eq_false_iff.mpr c3
  subst c3
  rw [if_neg (show ¬ (false = true) by decide)] at H
  simp only [Option.some.injEq, Prod.mk.injEq] at H
  obtain ⟨rfl, rfl⟩ := H
  go_enter Tryd.func47, Tryd.ntmps47
  go_wp2_with (first | (refine box_event rfl (N := 1) rfl (cs := #[.int .i64 a0_0, .int .i64 a0_1, .int .i64 a0_2]) (t := 41) ?hr ?_; (case hr => go_simp <;> rfl); intro gb1791 hg w12 hbox hb; have BK1791 := aA_ (hbox); have GW1791 := gW_ hg (by repeat (with_reducible first | exact HB.out | apply bA_ | apply bN_ | apply bD_)); have GE1791 := GW1791; replace HB := bB_ (by repeat (with_reducible first | exact HB.out | apply bA_ | apply bN_ | apply bD_)) hb; clear hb hbox hg; have hcz13_0 : w12.cell? ⟨gb1791, 0, none⟩ = some (.int .i64 a0_0) := (blk_cell BK1791.out 0).trans rfl; have hcz13_1 : w12.cell? ⟨gb1791, 1, none⟩ = some (.int .i64 a0_1) := (blk_cell BK1791.out 1).trans rfl; have hcz13_2 : w12.cell? ⟨gb1791, 2, none⟩ = some (.int .i64 a0_2) := (blk_cell BK1791.out 2).trans rfl; have hfz13_0 := blk_frozen BK1791.out 0; have hfz13_1 := blk_frozen BK1791.out 1; have hfz13_2 := blk_frozen BK1791.out 2) | (refine goesL_ (some 8) rfl rfl Tryd.func61 (by kernel_rfl) rfl #[.agg #[.int .i64 a0_0, .int .i64 a0_1, .int .i64 a0_2]] rfl (by (try simp only [mT_, mC_, mN_]); first | done | rfl) ?_; (with_reducible refine (civil_May.calls a0_0 a0_1 a0_2 false _ ?sv A2.out).mono ?_); (case sv => exact (Vars.below HV.out (by repeat (with_reducible first | exact HB.out | apply bA_ | apply bN_ | apply bD_ | refine bS_ ?_ GE1791.out)))); rintro e w14 ⟨rfl, hb⟩; refine ⟨_, rfl, ?_⟩; replace BK1791 := bK_ BK1791 hb; replace HB := bB_ (by repeat (with_reducible first | exact HB.out | apply bA_ | apply bN_ | apply bD_ | refine bS_ ?_ GE1791.out)) hb; (try clear hb)))
  go_ret2
  exact ⟨by rfl, by repeat (with_reducible first | exact HB.out | apply bA_ | apply bN_ | apply bD_ | refine bS_ ?_ GE1791.out)⟩

end Go.Proofs.YtbapgkopilmdfaaDoor.X
