-- cut by prune.py, a program of this session
import Derived.Test.YteikafepdkijdaaPTableSumsX0
import Derived.Test.YteikafepdkijdaaPTableSumsXEq
import Derived.Test.YteikafepdkijdaaPTableSumsXRefSums
import Derived.Test.YteikafepdkijdaaPTableSumsXShownT
import Derived.Test.YteikafepdkijdaaPTableSumsHSums
namespace Go.Proofs.Yteikafepdkijdaa.X
open Go.RowKit Go.Proofs.YteikafepdkijdaaW.PrintWords Go.Proofs.YteikafepdkijdaaW.PrintLast Go.Proofs.YteikafepdkijdaaW.PrintMore
attribute [local go_sem] max2_int min2_int max_two min_two
set_option linter.unusedVariables false
set_option linter.unusedSimpArgs false

attribute [local go_sem high] eqA48
def demurragelaw21_TableSums.f (k : Nat) (l0 : List (S48)) : Option (Bool) := (demurragelaw21_shown.f k).bind fun t1575 => (if (l0.length : Int) > 60 then (some t1575) else ((table_Sums.f k l0).bind fun bt1576 => ((demurrageref21_Sums.f k l0).bind fun bt1583 => (if t1575 = true then (if (bt1576.1 == bt1583.1 && (bt1576.2.1 == bt1583.2.1 && (bt1576.2.2.1 == bt1583.2.2.1 && (bt1576.2.2.2.1 == bt1583.2.2.2.1 && (bt1576.2.2.2.2.1 == bt1583.2.2.2.2.1))))) = true then (some (bt1576.2.2.2.2.2 == bt1583.2.2.2.2.2)) else (none)) else (none)))))
set_option maxHeartbeats 8000000 in
set_option maxRecDepth 100000 in
theorem demurragelaw21_TableSums.calls (k : Nat) (A0 : Option Addr) (c0 : Nat) (l0 : List (S48)) (r : Bool) (w : World) (hr0 : Kd.C k48 w A0 l0.length l0) (hc0 : l0.length ≤ c0) (h : demurragelaw21_TableSums.f k l0 = some r) :
  Calls Try.prog 10 #[.slice A0 l0.length c0] w fun e w' => e = .returned (.bool r) ∧ Below w.heap.size w w' := by
 have hu48 := Try.underlying48
 have HR0 := aA_ hr0
 have HC0 := aA_ hc0
 clear hr0 hc0
 have HB := aA_ (Below.refl w.heap.size w)
 have H : ((demurragelaw21_shown.f k).bind fun t1575 => (if (l0.length : Int) > 60 then (some t1575) else ((table_Sums.f k l0).bind fun bt1576 => ((demurrageref21_Sums.f k l0).bind fun bt1583 => (if t1575 = true then (if (bt1576.1 == bt1583.1 && (bt1576.2.1 == bt1583.2.1 && (bt1576.2.2.1 == bt1583.2.2.1 && (bt1576.2.2.2.1 == bt1583.2.2.2.1 && (bt1576.2.2.2.2.1 == bt1583.2.2.2.2.1))))) = true then (some (bt1576.2.2.2.2.2 == bt1583.2.2.2.2.2)) else (none)) else (none)))))) = some r := h
 clear h
 replace H := bI_ H
 obtain ⟨t1575, A20, H⟩ := H
 (try dsimp only at H)
 have A2 := aA_ A20
 clear A20
 by_cases c3 : (l0.length : Int) > 60
 ·rw [if_pos c3] at H
  have c3b0 : decide (60 < (l0.length : Int)) = true := decide_eq_true c3
  have c3b1 : decide (60 < l0.length) = true := decide_eq_true (by omega)
  clear c3
  obtain rfl := Option.some.inj H
  go_enter Try.func10, Try.ntmps10
  go_wp2_with (first | (refine goesL_ (some 8) rfl rfl Try.func27 (by kernel_rfl) rfl #[] rfl (by (try simp only [mT_, mC_, mN_]); first | done | rfl) ?_; (with_reducible refine (demurragelaw21_shown.calls k  t1575 _ A2.out).mono ?_); rintro e w4 ⟨rfl, hb⟩; refine ⟨_, rfl, ?_⟩; replace HB := bB_ (by repeat (with_reducible first | exact HB.out | apply bA_ | apply bN_ | apply bD_)) hb; (try clear hb)))
  go_ret
  exact ⟨by rfl, by repeat (with_reducible first | exact HB.out | apply bA_ | apply bN_ | apply bD_)⟩
 ·rw [if_neg c3] at H
  have c3b0 : decide (60 < (l0.length : Int)) = false := decide_eq_false c3
  have c3b1 : decide (60 < l0.length) = false := decide_eq_false (by omega)
  clear c3
  replace H := bI_ H
  obtain ⟨⟨t1576, t1577, t1578, t1579, t1580, t1581⟩, A50, H⟩ := H
  (try dsimp only at H)
  have A5 := aA_ A50
  clear A50
  replace H := bI_ H
  obtain ⟨⟨t1583, t1584, t1585, t1586, t1587, t1588⟩, A60, H⟩ := H
  (try dsimp only at H)
  have A6 := aA_ A60
  clear A60
  by_cases c7 : t1575 = true
  ·subst c7
   rw [if_pos rfl] at H
   by_cases c8 : (t1576 == t1583 && (t1577 == t1584 && (t1578 == t1585 && (t1579 == t1586 && (t1580 == t1587))))) = true
   ·rw [if_pos c8] at H
    have c8b0 : (t1576 == t1583 && (t1577 == t1584 && (t1578 == t1585 && (t1579 == t1586 && (t1580 == t1587))))) = true := c8
    (try (have c8b1 : decide (t1576 = t1583 && (t1577 == t1584 && (t1578 == t1585 && (t1579 == t1586 && (t1580 == t1587))))) = true := by simpa using c8))
    (try (have c8b2 : (t1576 == t1583 && (t1577 == t1584 && (t1578 == t1585 && (t1579 == t1586 && (t1580 == t1587))))) = true := by simpa using c8))
    clear c8
    obtain rfl := Option.some.inj H
    go_enter Try.func10, Try.ntmps10
    go_wp2_with (first | (refine goesL_ (some 8) rfl rfl Try.func27 (by kernel_rfl) rfl #[] rfl (by (try simp only [mT_, mC_, mN_]); first | done | rfl) ?_; (with_reducible refine (demurragelaw21_shown.calls k  true _ A2.out).mono ?_); rintro e w9 ⟨rfl, hb⟩; refine ⟨_, rfl, ?_⟩; replace HB := bB_ (by repeat (with_reducible first | exact HB.out | apply bA_ | apply bN_ | apply bD_)) hb; (try clear hb)) | (refine goesL_ (some 15) rfl rfl Try.func30 (by kernel_rfl) rfl #[.slice A0 l0.length c0] rfl (by (try simp only [mT_, mC_, mN_]); first | done | rfl) ?_; (with_reducible refine (table_Sums.calls k _ _ l0 t1576 t1577 t1578 t1579 t1580 t1581 _ ?side1 ?side2 A5.out).mono ?_); (case side1 => repeat (first | exact (Kd.C_below HR0.out HB.out) | (with_reducible first | refine Kd.C_alloc ?_ _ | refine Kd.C_drewN ?_ _ | refine Kd.C_drew ?_))); (case side2 => exact HC0.out); rintro e w10 ⟨rfl, hb⟩; refine ⟨_, rfl, ?_⟩; replace HB := bB_ (by repeat (with_reducible first | exact HB.out | apply bA_ | apply bN_ | apply bD_)) hb; (try clear hb)) | (refine box_event rfl (N := 4) rfl (cs := #[.int .i64 0, .int .i64 0, .int .i64 0, .int .i64 0, .int .i64 0]) (t := 48) ?hr ?_; (case hr => go_simp <;> rfl); intro gb1582 hg w11 hbox hb; have BK1582 := aA_ (hbox); have GW1582 := gW_ hg (by repeat (with_reducible first | exact HB.out | apply bA_ | apply bN_ | apply bD_)); have GE1582 := GW1582; replace HB := bB_ (by repeat (with_reducible first | exact HB.out | apply bA_ | apply bN_ | apply bD_)) hb; clear hb hbox hg; have hcz12_0 : w11.cell? ⟨gb1582, 0, none⟩ = some (.int .i64 0) := (blk_cell BK1582.out 0).trans rfl; have hcz12_1 : w11.cell? ⟨gb1582, 1, none⟩ = some (.int .i64 0) := (blk_cell BK1582.out 1).trans rfl; have hcz12_2 : w11.cell? ⟨gb1582, 2, none⟩ = some (.int .i64 0) := (blk_cell BK1582.out 2).trans rfl; have hcz12_3 : w11.cell? ⟨gb1582, 3, none⟩ = some (.int .i64 0) := (blk_cell BK1582.out 3).trans rfl; have hcz12_4 : w11.cell? ⟨gb1582, 4, none⟩ = some (.int .i64 0) := (blk_cell BK1582.out 4).trans rfl; have hfz12_0 := blk_frozen BK1582.out 0; have hfz12_1 := blk_frozen BK1582.out 1; have hfz12_2 := blk_frozen BK1582.out 2; have hfz12_3 := blk_frozen BK1582.out 3; have hfz12_4 := blk_frozen BK1582.out 4) | (refine goesL_ (some 20) rfl rfl Try.func31 (by kernel_rfl) rfl #[.slice A0 l0.length c0] rfl (by (try simp only [mT_, mC_, mN_]); first | done | rfl) ?_; (with_reducible refine (demurrageref21_Sums.calls k _ _ l0 t1583 t1584 t1585 t1586 t1587 t1588 _ ?side1 ?side2 A6.out).mono ?_); (case side1 => exact Kd.C_below HR0.out (by repeat (with_reducible first | exact HB.out | apply bA_ | apply bN_ | apply bD_ | refine bS_ ?_ GE1582.out))); (case side2 => exact HC0.out); rintro e w13 ⟨rfl, hb⟩; refine ⟨_, rfl, ?_⟩; replace BK1582 := aA_ (blk_below (g := gb1582) (o := .cells #[.int .i64 t1576, .int .i64 t1577, .int .i64 t1578, .int .i64 t1579, .int .i64 t1580] 48 (0, 0)) (by refine blk_put (cs := #[.int .i64 t1576, .int .i64 t1577, .int .i64 t1578, .int .i64 t1579, .int .i64 0]) ?_ 4 _ rfl; refine blk_put (cs := #[.int .i64 t1576, .int .i64 t1577, .int .i64 t1578, .int .i64 0, .int .i64 0]) ?_ 3 _ rfl; refine blk_put (cs := #[.int .i64 t1576, .int .i64 t1577, .int .i64 0, .int .i64 0, .int .i64 0]) ?_ 2 _ rfl; refine blk_put (cs := #[.int .i64 t1576, .int .i64 0, .int .i64 0, .int .i64 0, .int .i64 0]) ?_ 1 _ rfl; refine blk_put (cs := #[.int .i64 0, .int .i64 0, .int .i64 0, .int .i64 0, .int .i64 0]) ?_ 0 _ rfl; exact BK1582.out) hb); replace HB := bB_ (by repeat (with_reducible first | exact HB.out | apply bA_ | apply bN_ | apply bD_ | refine bS_ ?_ GE1582.out)) hb; (try clear hb)) | (refine box_event rfl (N := 6) rfl (cs := #[.int .i64 0, .int .i64 0, .int .i64 0, .int .i64 0, .int .i64 0]) (t := 48) ?hr ?_; (case hr => go_simp <;> rfl); intro gb1589 hg w14 hbox hb; have BK1589 := aA_ (hbox); have GW1589 := gW_ hg (by repeat (with_reducible first | exact HB.out | apply bA_ | apply bN_ | apply bD_ | refine bS_ ?_ GE1582.out)); have GE1589 := GW1589; replace HB := bB_ (by repeat (with_reducible first | exact HB.out | apply bA_ | apply bN_ | apply bD_ | refine bS_ ?_ GE1582.out)) hb; have NB1582_1589 := nE_ hg BK1582; have NB1589_1582 := aA_ NB1582_1589.out.symm; replace BK1582 := bK_ BK1582 hb; clear hb hbox hg; have hnb15 := NB1589_1582.out; have hnc15 := NB1582_1589.out; have hcz16_0 : w14.cell? ⟨gb1589, 0, none⟩ = some (.int .i64 0) := (blk_cell BK1589.out 0).trans rfl; have hcz16_1 : w14.cell? ⟨gb1589, 1, none⟩ = some (.int .i64 0) := (blk_cell BK1589.out 1).trans rfl; have hcz16_2 : w14.cell? ⟨gb1589, 2, none⟩ = some (.int .i64 0) := (blk_cell BK1589.out 2).trans rfl; have hcz16_3 : w14.cell? ⟨gb1589, 3, none⟩ = some (.int .i64 0) := (blk_cell BK1589.out 3).trans rfl; have hcz16_4 : w14.cell? ⟨gb1589, 4, none⟩ = some (.int .i64 0) := (blk_cell BK1589.out 4).trans rfl; have hfz16_0 := blk_frozen BK1589.out 0; have hfz16_1 := blk_frozen BK1589.out 1; have hfz16_2 := blk_frozen BK1589.out 2; have hfz16_3 := blk_frozen BK1589.out 3; have hfz16_4 := blk_frozen BK1589.out 4; have hcz17_0 : w14.cell? ⟨gb1582, 0, none⟩ = some (.int .i64 t1576) := (blk_cell BK1582.out 0).trans rfl; have hcz17_1 : w14.cell? ⟨gb1582, 1, none⟩ = some (.int .i64 t1577) := (blk_cell BK1582.out 1).trans rfl; have hcz17_2 : w14.cell? ⟨gb1582, 2, none⟩ = some (.int .i64 t1578) := (blk_cell BK1582.out 2).trans rfl; have hcz17_3 : w14.cell? ⟨gb1582, 3, none⟩ = some (.int .i64 t1579) := (blk_cell BK1582.out 3).trans rfl; have hcz17_4 : w14.cell? ⟨gb1582, 4, none⟩ = some (.int .i64 t1580) := (blk_cell BK1582.out 4).trans rfl; have hfz17_0 := blk_frozen BK1582.out 0; have hfz17_1 := blk_frozen BK1582.out 1; have hfz17_2 := blk_frozen BK1582.out 2; have hfz17_3 := blk_frozen BK1582.out 3; have hfz17_4 := blk_frozen BK1582.out 4))
    go_ret
    exact ⟨by rfl, by repeat (with_reducible first | exact HB.out | apply bA_ | apply bN_ | apply bD_ | refine bS_ ?_ GE1582.out | refine bS_ ?_ GE1589.out)⟩
   ·rw [if_neg c8] at H
    exact absurd H (by simp)
  ·replace c7 := Bool.eq_false_iff.mpr c7
   subst c7
   rw [if_neg (show ¬ (false = true) by decide)] at H
   exact absurd H (by simp)

end Go.Proofs.Yteikafepdkijdaa.X
