-- cut by prune.py, a program of this session
import Derived.Test.YteikafepdkijdaaPTableTellsX0
import Derived.Test.YteikafepdkijdaaPTableTellsXSame
import Derived.Test.YteikafepdkijdaaPTableTellsXRefTable
import Derived.Test.YteikafepdkijdaaPTableTellsXShownT
import Derived.Test.YteikafepdkijdaaPTableTellsHLeast
import Derived.Test.YteikafepdkijdaaPTableTellsHTable
namespace Go.Proofs.Yteikafepdkijdaa.X
open Go.RowKit Go.Proofs.YteikafepdkijdaaW.PrintWords Go.Proofs.YteikafepdkijdaaW.PrintLast Go.Proofs.YteikafepdkijdaaW.PrintMore
attribute [local go_sem] max2_int min2_int max_two min_two
set_option linter.unusedVariables false
set_option linter.unusedSimpArgs false

def demurragelaw21_TableTells.f (k : Nat) (a0_0 : Int) (a0_1 : Int) (a0_2 : Int) (l0_3 : List (S56)) : Option (Bool) := (demurragelaw21_shown.f k).bind fun t1511 => (if (l0_3.length : Int) > 20 then (some t1511) else ((level_Least.f k a0_1 a0_2 l0_3).bind fun bt1523 => ((table_Of.f k a0_0 a0_1 a0_2 l0_3).bind fun bt1525 => ((demurrageref21_Of.f k a0_0 a0_1 a0_2 l0_3 bt1523.1).bind fun bt1529 => (if t1511 = true then ((demurrageref19_Same.f k bt1525.1 bt1529.1).bind fun t1533 => (if t1533 = true then (some (bt1525.2 == bt1529.2)) else (none))) else (none))))))
set_option maxHeartbeats 8000000 in
set_option maxRecDepth 100000 in
theorem demurragelaw21_TableTells.calls (k : Nat) (a0_0 : Int) (a0_1 : Int) (a0_2 : Int) (A0_3 : Option Addr) (c0_3 : Nat) (l0_3 : List (S56)) (r : Bool) (w : World) (hr0_3 : Kd.C k56 w A0_3 l0_3.length l0_3) (hc0_3 : l0_3.length ≤ c0_3) (h : demurragelaw21_TableTells.f k a0_0 a0_1 a0_2 l0_3 = some r) :
  Calls Try.prog 9 #[.agg #[.int .i64 a0_0, .int .i64 a0_1, .int .i64 a0_2, .slice A0_3 l0_3.length c0_3]] w fun e w' => e = .returned (.bool r) ∧ Below w.heap.size w w' := by
 have hu62 := Try.underlying62
 have HR0_3 := aA_ hr0_3
 have HC0_3 := aA_ hc0_3
 clear hr0_3 hc0_3
 have HB := aA_ (Below.refl w.heap.size w)
 have H : ((demurragelaw21_shown.f k).bind fun t1511 => (if (l0_3.length : Int) > 20 then (some t1511) else ((level_Least.f k a0_1 a0_2 l0_3).bind fun bt1523 => ((table_Of.f k a0_0 a0_1 a0_2 l0_3).bind fun bt1525 => ((demurrageref21_Of.f k a0_0 a0_1 a0_2 l0_3 bt1523.1).bind fun bt1529 => (if t1511 = true then ((demurrageref19_Same.f k bt1525.1 bt1529.1).bind fun t1533 => (if t1533 = true then (some (bt1525.2 == bt1529.2)) else (none))) else (none))))))) = some r := h
 clear h
 replace H := bI_ H
 obtain ⟨t1511, A20, H⟩ := H
 (try dsimp only at H)
 have A2 := aA_ A20
 clear A20
 by_cases c3 : (l0_3.length : Int) > 20
 ·rw [if_pos c3] at H
  have c3b0 : decide (20 < (l0_3.length : Int)) = true := decide_eq_true c3
  have c3b1 : decide (20 < l0_3.length) = true := decide_eq_true (by omega)
  clear c3
  obtain rfl := Option.some.inj H
  go_enter Try.func9, Try.ntmps9
  go_wp2_with (first | (refine box_event rfl (N := 1) rfl (cs := #[.int .i64 a0_0, .int .i64 a0_1, .int .i64 a0_2, .slice A0_3 l0_3.length c0_3]) (t := 62) ?hr ?_; (case hr => go_simp <;> rfl); intro gb1510 hg w4 hbox hb; have BK1510 := aA_ (hbox); have GW1510 := gW_ hg (by repeat (with_reducible first | exact HB.out | apply bA_ | apply bN_ | apply bD_)); have GE1510 := GW1510; replace HB := bB_ (by repeat (with_reducible first | exact HB.out | apply bA_ | apply bN_ | apply bD_)) hb; clear hb hbox hg; have hcz5_0 : w4.cell? ⟨gb1510, 0, none⟩ = some (.int .i64 a0_0) := (blk_cell BK1510.out 0).trans rfl; have hcz5_1 : w4.cell? ⟨gb1510, 1, none⟩ = some (.int .i64 a0_1) := (blk_cell BK1510.out 1).trans rfl; have hcz5_2 : w4.cell? ⟨gb1510, 2, none⟩ = some (.int .i64 a0_2) := (blk_cell BK1510.out 2).trans rfl; have hcz5_3 : w4.cell? ⟨gb1510, 3, none⟩ = some (.slice A0_3 l0_3.length c0_3) := (blk_cell BK1510.out 3).trans rfl; have hfz5_0 := blk_frozen BK1510.out 0; have hfz5_1 := blk_frozen BK1510.out 1; have hfz5_2 := blk_frozen BK1510.out 2; have hfz5_3 := blk_frozen BK1510.out 3) | (refine goesL_ (some 22) rfl rfl Try.func27 (by kernel_rfl) rfl #[] rfl (by (try simp only [mT_, mC_, mN_]); first | done | rfl) ?_; (with_reducible refine (demurragelaw21_shown.calls k  t1511 _ A2.out).mono ?_); rintro e w6 ⟨rfl, hb⟩; refine ⟨_, rfl, ?_⟩; replace BK1510 := bK_ BK1510 hb; replace HB := bB_ (by repeat (with_reducible first | exact HB.out | apply bA_ | apply bN_ | apply bD_ | refine bS_ ?_ GE1510.out)) hb; (try clear hb)))
  go_ret
  exact ⟨by rfl, by repeat (with_reducible first | exact HB.out | apply bA_ | apply bN_ | apply bD_ | refine bS_ ?_ GE1510.out)⟩
 ·rw [if_neg c3] at H
  have c3b0 : decide (20 < (l0_3.length : Int)) = false := decide_eq_false c3
  have c3b1 : decide (20 < l0_3.length) = false := decide_eq_false (by omega)
  clear c3
  replace H := bI_ H
  obtain ⟨⟨t1523, t1524⟩, A70, H⟩ := H
  (try dsimp only at H)
  have A7 := aA_ A70
  clear A70
  replace H := bI_ H
  obtain ⟨⟨t1525, t1526⟩, A80, H⟩ := H
  (try dsimp only at H)
  have A8 := aA_ A80
  clear A80
  replace H := bI_ H
  obtain ⟨⟨t1529, t1530⟩, A90, H⟩ := H
  (try dsimp only at H)
  have A9 := aA_ A90
  clear A90
  by_cases c10 : t1511 = true
  ·subst c10
   rw [if_pos rfl] at H
   replace H := bI_ H
   obtain ⟨t1533, A110, H⟩ := H
   (try dsimp only at H)
   have A11 := aA_ A110
   clear A110
   by_cases c12 : t1533 = true
   ·subst c12
    rw [if_pos rfl] at H
    obtain rfl := Option.some.inj H
    go_enter Try.func9, Try.ntmps9
    go_wp2_with (first | (refine box_event rfl (N := 1) rfl (cs := #[.int .i64 a0_0, .int .i64 a0_1, .int .i64 a0_2, .slice A0_3 l0_3.length c0_3]) (t := 62) ?hr ?_; (case hr => go_simp <;> rfl); intro gb1510 hg w13 hbox hb; have BK1510 := aA_ (hbox); have GW1510 := gW_ hg (by repeat (with_reducible first | exact HB.out | apply bA_ | apply bN_ | apply bD_)); have GE1510 := GW1510; replace HB := bB_ (by repeat (with_reducible first | exact HB.out | apply bA_ | apply bN_ | apply bD_)) hb; clear hb hbox hg; have hcz14_0 : w13.cell? ⟨gb1510, 0, none⟩ = some (.int .i64 a0_0) := (blk_cell BK1510.out 0).trans rfl; have hcz14_1 : w13.cell? ⟨gb1510, 1, none⟩ = some (.int .i64 a0_1) := (blk_cell BK1510.out 1).trans rfl; have hcz14_2 : w13.cell? ⟨gb1510, 2, none⟩ = some (.int .i64 a0_2) := (blk_cell BK1510.out 2).trans rfl; have hcz14_3 : w13.cell? ⟨gb1510, 3, none⟩ = some (.slice A0_3 l0_3.length c0_3) := (blk_cell BK1510.out 3).trans rfl; have hfz14_0 := blk_frozen BK1510.out 0; have hfz14_1 := blk_frozen BK1510.out 1; have hfz14_2 := blk_frozen BK1510.out 2; have hfz14_3 := blk_frozen BK1510.out 3) | (refine goesL_ (some 22) rfl rfl Try.func27 (by kernel_rfl) rfl #[] rfl (by (try simp only [mT_, mC_, mN_]); first | done | rfl) ?_; (with_reducible refine (demurragelaw21_shown.calls k  true _ A2.out).mono ?_); rintro e w15 ⟨rfl, hb⟩; refine ⟨_, rfl, ?_⟩; replace BK1510 := bK_ BK1510 hb; replace HB := bB_ (by repeat (with_reducible first | exact HB.out | apply bA_ | apply bN_ | apply bD_ | refine bS_ ?_ GE1510.out)) hb; (try clear hb)) | (refine goesL_ (some 31) rfl rfl Try.func18 (by kernel_rfl) rfl #[.int .i64 a0_1, .int .i64 a0_2, .slice A0_3 l0_3.length c0_3] rfl (by (try simp only [mT_, mC_, mN_]); first | done | rfl) ?_; (with_reducible refine (level_Least.calls k a0_1 a0_2 _ _ l0_3 t1523 t1524 _ ?side1 ?side2 A7.out).mono ?_); (case side1 => repeat (first | exact (Kd.C_below HR0_3.out HB.out) | (with_reducible first | refine Kd.C_alloc ?_ _ | refine Kd.C_drewN ?_ _ | refine Kd.C_drew ?_))); (case side2 => exact HC0_3.out); rintro e w16 ⟨rfl, hb⟩; refine ⟨_, rfl, ?_⟩; replace BK1510 := bK_ BK1510 hb; replace HB := bB_ (by repeat (with_reducible first | exact HB.out | apply bA_ | apply bN_ | apply bD_ | refine bS_ ?_ GE1510.out)) hb; (try clear hb)) | (refine goesL_ (some 39) rfl rfl Try.func28 (by kernel_rfl) rfl #[.int .i64 a0_0, .int .i64 a0_1, .int .i64 a0_2, .slice A0_3 l0_3.length c0_3] rfl (by (try simp only [mT_, mC_, mN_]); first | done | rfl) ?_; (with_reducible refine (table_Of.calls k a0_0 a0_1 a0_2 _ _ l0_3 t1525 t1526 _ ?side1 ?side2 A8.out).mono ?_); (case side1 => repeat (first | exact (Kd.C_below HR0_3.out HB.out) | (with_reducible first | refine Kd.C_alloc ?_ _ | refine Kd.C_drewN ?_ _ | refine Kd.C_drew ?_))); (case side2 => exact HC0_3.out); rintro e w17 ⟨v1527, rfl, ho0, hb⟩; refine ⟨_, rfl, ?_⟩; have HO1528 := aA_ (Kd.R_lower ho0 (below_size (by repeat (with_reducible first | exact HB.out | apply bA_ | apply bN_ | apply bD_ | refine bS_ ?_ GE1510.out)))); replace BK1510 := bK_ BK1510 hb; replace HB := bB_ (by repeat (with_reducible first | exact HB.out | apply bA_ | apply bN_ | apply bD_ | refine bS_ ?_ GE1510.out)) hb; (try clear hb); (try clear ho0)) | (refine goesL_ (some 48) rfl rfl Try.func29 (by kernel_rfl) rfl #[.int .i64 a0_0, .int .i64 a0_1, .int .i64 a0_2, .slice A0_3 l0_3.length c0_3, .int .i64 t1523] rfl (by (try simp only [mT_, mC_, mN_]); first | done | rfl) ?_; (with_reducible refine (demurrageref21_Of.calls k a0_0 a0_1 a0_2 _ _ l0_3 t1523 t1529 t1530 _ ?side1 ?side2 A9.out).mono ?_); (case side1 => repeat (first | exact (Kd.C_below HR0_3.out HB.out) | (with_reducible first | refine Kd.C_alloc ?_ _ | refine Kd.C_drewN ?_ _ | refine Kd.C_drew ?_))); (case side2 => exact HC0_3.out); rintro e w18 ⟨v1531, rfl, ho0, hb⟩; refine ⟨_, rfl, ?_⟩; have HO1532 := aA_ (Kd.R_lower (Kd.R_new' ho0 (Kd.R_lt HO1528.out)) (below_size (by repeat (with_reducible first | exact HB.out | apply bA_ | apply bN_ | apply bD_ | refine bS_ ?_ GE1510.out)))); replace HO1528 := aA_ (Kd.R_elder' HO1528.out (Kd.R_base ho0) hb); replace BK1510 := bK_ BK1510 hb; replace HB := bB_ (by repeat (with_reducible first | exact HB.out | apply bA_ | apply bN_ | apply bD_ | refine bS_ ?_ GE1510.out)) hb; (try clear hb); (try clear ho0); obtain ⟨Ao19, co19, eo19⟩ := Kd.R_slice HO1528.out; subst eo19; obtain ⟨Ao20, co20, eo20⟩ := Kd.R_slice HO1532.out; subst eo20) | (go_at_call 22; (with_reducible refine (demurrageref19_Same.calls k _ _ t1525 _ _ t1529 true _ ?side1 ?side2 ?side3 ?side4 A11.out).mono ?_); (case side1 => repeat (first | exact (Kd.R_reads' HO1528.out).2.2 | (with_reducible first | refine Kd.C_alloc ?_ _ | refine Kd.C_drewN ?_ _ | refine Kd.C_drew ?_))); (case side2 => exact (Kd.R_reads' HO1528.out).2.1); (case side3 => repeat (first | exact (Kd.R_reads' HO1532.out).2.2 | (with_reducible first | refine Kd.C_alloc ?_ _ | refine Kd.C_drewN ?_ _ | refine Kd.C_drew ?_))); (case side4 => exact (Kd.R_reads' HO1532.out).2.1); rintro e w' ⟨rfl, ⟨nd, rfl⟩⟩))
    go_ret
    exact ⟨by rfl, by repeat (with_reducible first | exact HB.out | apply bA_ | apply bN_ | apply bD_ | refine bS_ ?_ GE1510.out)⟩
   ·replace c12 := Bool.eq_false_iff.mpr c12
    subst c12
    rw [if_neg (show ¬ (false = true) by decide)] at H
    exact absurd H (by simp)
  ·replace c10 := Bool.eq_false_iff.mpr c10
   subst c10
   rw [if_neg (show ¬ (false = true) by decide)] at H
   exact absurd H (by simp)

end Go.Proofs.Yteikafepdkijdaa.X
