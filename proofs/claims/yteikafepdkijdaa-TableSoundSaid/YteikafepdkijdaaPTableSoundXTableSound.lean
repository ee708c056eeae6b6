-- cut by prune.py, a program of this session
import Derived.Test.YteikafepdkijdaaPTableSoundX0
import Derived.Test.YteikafepdkijdaaPTableSoundXEq
import Derived.Test.YteikafepdkijdaaPTableSoundXUsual
import Derived.Test.YteikafepdkijdaaPTableSoundXSound
import Derived.Test.YteikafepdkijdaaPTableSoundXShownT
import Derived.Test.YteikafepdkijdaaPTableSoundHSums
import Derived.Test.YteikafepdkijdaaPTableSoundHTable
namespace Go.Proofs.Yteikafepdkijdaa.X
open Go.RowKit Go.Proofs.YteikafepdkijdaaW.PrintWords Go.Proofs.YteikafepdkijdaaW.PrintLast Go.Proofs.YteikafepdkijdaaW.PrintMore
attribute [local go_sem] max2_int min2_int max_two min_two
set_option linter.unusedVariables false
set_option linter.unusedSimpArgs false

attribute [local go_sem high] eqA48
mutual
def demurragelaw21_TableSound.j0 : Nat → Int → Int → Int → List (S56) → Bool → Bool → Option (Bool)
 | 0, _, _, _, _, _, _ => none
 | k + 1, x3, x4, x5, x6, x7, x37 => if x37 = true then (some x7) else ((table_Of.f k (Int.tmod (wrap64 (x3)) 3) (wrap64 (Int.tmod x4 1000000000000001)) (Int.tmod (wrap64 (x5)) 9001) x6).bind fun bt1653 => ((table_Sums.f k bt1653.1).bind fun bt1657 => (if bt1653.2 = 0 then (if bt1657.2.2.2.2.2 = 0 then ((demurrageref19_Sound.f k bt1653.1 (wrap64 (Int.tmod x4 1000000000000001)) (Int.tmod (wrap64 (x5)) 9001) x6).bind fun t1664 => (if t1664 = true then (demurragelaw21_TableSound.l0 k x7 (wrap64 (Int.tmod x4 1000000000000001)) bt1653.1 0 0 bt1657.1 bt1657.2.1 bt1657.2.2.1 bt1657.2.2.2.1 bt1657.2.2.2.2.1) else (none))) else (none)) else (none))))
def demurragelaw21_TableSound.l0 : Nat → Bool → Int → List (S48) → Int → Int → Int → Int → Int → Int → Int → Option (Bool)
 | 0, _, _, _, _, _, _, _, _, _, _ => none
 | k + 1, x7, x8, x10, x14, x15, x1664000, x1664001, x1664002, x1664003, x1664004 => if x15 < (x10.length : Int) then (if 0 ≤ x15 then (if ((rd_T48 x10 x15).f4) > x8 then (none) else (demurragelaw21_TableSound.l0 k x7 x8 x10 (wrap64 (x14 + ((rd_T48 x10 x15).f1))) (wrap64 (x15 + 1)) x1664000 x1664001 x1664002 x1664003 x1664004)) else (none)) else (if x7 = true then (some (x1664000 == x8 && (x1664001 == x14 && (x1664002 == x8 && (x1664003 == (wrap64 (x8 + x14)) && (x1664004 == 0)))))) else (none))
end
def demurragelaw21_TableSound.f (k : Nat) (a0_0 : Int) (a0_1 : Int) (a0_2 : Int) (l0_3 : List (S56)) : Option (Bool) := (demurragelaw21_shown.f k).bind fun t1591 => (if (l0_3.length : Int) < 1 then (demurragelaw21_TableSound.j0 k a0_0 a0_1 a0_2 l0_3 t1591 true) else (if (l0_3.length : Int) > 30 then (demurragelaw21_TableSound.j0 k a0_0 a0_1 a0_2 l0_3 t1591 true) else ((demurrageref18_Usual.f k l0_3).bind fun t1592 => (demurragelaw21_TableSound.j0 k a0_0 a0_1 a0_2 l0_3 t1591 (!t1592)))))
set_option maxHeartbeats 8000000 in
set_option maxRecDepth 100000 in
theorem demurragelaw21_TableSound.calls (k : Nat) (a0_0 : Int) (a0_1 : Int) (a0_2 : Int) (A0_3 : Option Addr) (c0_3 : Nat) (l0_3 : List (S56)) (r : Bool) (w : World) (hr0_3 : Kd.C k56 w A0_3 l0_3.length l0_3) (hc0_3 : l0_3.length ≤ c0_3) (h : demurragelaw21_TableSound.f k a0_0 a0_1 a0_2 l0_3 = some r) :
  Calls Try.prog 11 #[.agg #[.int .u8 a0_0, .int .u64 a0_1, .int .u16 a0_2, .slice A0_3 l0_3.length c0_3]] w fun e w' => e = .returned (.bool r) ∧ Below w.heap.size w w' := by
 have hu73 := Try.underlying73
 have hu48 := Try.underlying48
 have HR0_3 := aA_ hr0_3
 have HC0_3 := aA_ hc0_3
 clear hr0_3 hc0_3
 have HB := aA_ (Below.refl w.heap.size w)
 have H : ((demurragelaw21_shown.f k).bind fun t1591 => (if (l0_3.length : Int) < 1 then (demurragelaw21_TableSound.j0 k a0_0 a0_1 a0_2 l0_3 t1591 true) else (if (l0_3.length : Int) > 30 then (demurragelaw21_TableSound.j0 k a0_0 a0_1 a0_2 l0_3 t1591 true) else ((demurrageref18_Usual.f k l0_3).bind fun t1592 => (demurragelaw21_TableSound.j0 k a0_0 a0_1 a0_2 l0_3 t1591 (!t1592)))))) = some r := h
 clear h
 replace H := bI_ H
 obtain ⟨t1591, A20, H⟩ := H
 (try dsimp only at H)
 have A2 := aA_ A20
 clear A20
 have HC3 := aA_ H
 clear H
 go_enter Try.func11, Try.ntmps11
 go_upto_region 6 with (first | ((with_reducible refine gate_dst (N := 1) rfl ?_); (try (refine gate_guard (by rfl) ?_; dsimp only)); refine box_event rfl (N := 1) rfl (cs := #[.int .u8 a0_0, .int .u64 a0_1, .int .u16 a0_2, .slice A0_3 l0_3.length c0_3]) (t := 73) ?hr ?_; (case hr => go_simp <;> rfl); intro gb1590 hg w4 hbox hb; have BK1590 := aA_ (hbox); have GW1590 := gW_ hg (by repeat (with_reducible first | exact HB.out | apply bA_ | apply bN_ | apply bD_)); have GE1590 := GW1590; replace HB := bB_ (by repeat (with_reducible first | exact HB.out | apply bA_ | apply bN_ | apply bD_)) hb; clear hb hbox hg; have hcz5_0 : w4.cell? ⟨gb1590, 0, none⟩ = some (.int .u8 a0_0) := (blk_cell BK1590.out 0).trans rfl; have hcz5_1 : w4.cell? ⟨gb1590, 1, none⟩ = some (.int .u64 a0_1) := (blk_cell BK1590.out 1).trans rfl; have hcz5_2 : w4.cell? ⟨gb1590, 2, none⟩ = some (.int .u16 a0_2) := (blk_cell BK1590.out 2).trans rfl; have hcz5_3 : w4.cell? ⟨gb1590, 3, none⟩ = some (.slice A0_3 l0_3.length c0_3) := (blk_cell BK1590.out 3).trans rfl; have hfz5_0 := blk_frozen BK1590.out 0; have hfz5_1 := blk_frozen BK1590.out 1; have hfz5_2 := blk_frozen BK1590.out 2; have hfz5_3 := blk_frozen BK1590.out 3) | (refine goesL_ (some 24) rfl rfl Try.func27 (by kernel_rfl) rfl #[] rfl (by (try simp only [mT_, mC_, mN_]); first | done | rfl) ?_; (with_reducible refine (demurragelaw21_shown.calls k  t1591 _ A2.out).mono ?_); rintro e w6 ⟨rfl, hb⟩; refine ⟨_, rfl, ?_⟩; replace BK1590 := bK_ BK1590 hb; replace HB := bB_ (by repeat (with_reducible first | exact HB.out | apply bA_ | apply bN_ | apply bD_ | refine bS_ ?_ GE1590.out)) hb; (try clear hb)))
 (try simp only [Act.put, sT_, sZ_, sS_])
 go_cut [37] (fun v37 wc => ∃ (kq : Nat) (x37_2 : Bool), v37 = .bool x37_2 ∧ Aside0 (demurragelaw21_TableSound.j0 kq a0_0 a0_1 a0_2 l0_3 t1591 x37_2 = some r) ∧ Aside0 (kq ≤ k) ∧ Aside0 (wc.heap[gb1590]? = some (.cells #[.int .u8 a0_0, .int .u64 a0_1, .int .u16 a0_2, (.slice A0_3 l0_3.length c0_3)] 73 (0, 0))) ∧ Aside0 (Below w.heap.size w wc))
 case first =>
  have H := HC3.out
  clear HC3
  by_cases c7 : (l0_3.length : Int) < 1
  ·rw [if_pos c7] at H
   have c7b0 : decide ((l0_3.length : Int) < 1) = true := decide_eq_true c7
   have c7b1 : decide (l0_3.length < 1) = true := decide_eq_true (by omega)
   clear c7
   (first | rw [c7b0] | (simp only [i64_w, i32_w]; rw [c7b0]) | rw [c7b1] | skip)
   have H' := aA_ H
   clear H
   go_wp2
   go_meet
   case rel => exact ⟨_, _, (by first | rfl | simp | simp [*]), H', ⟨by first | omega | exact Nat.le_refl _⟩, ⟨by exact BK1590.out⟩, ⟨by repeat (with_reducible first | exact HB.out | apply bA_ | apply bN_ | apply bD_ | refine bS_ ?_ GE1590.out)⟩⟩
  ·rw [if_neg c7] at H
   have c7b0 : decide ((l0_3.length : Int) < 1) = false := decide_eq_false c7
   have c7b1 : decide (l0_3.length < 1) = false := decide_eq_false (by omega)
   clear c7
   (first | rw [c7b0] | (simp only [i64_w, i32_w]; rw [c7b0]) | rw [c7b1] | skip)
   by_cases c8 : (l0_3.length : Int) > 30
   ·rw [if_pos c8] at H
    have c8b0 : decide (30 < (l0_3.length : Int)) = true := decide_eq_true c8
    have c8b1 : decide (30 < l0_3.length) = true := decide_eq_true (by omega)
    clear c8
    have H' := aA_ H
    clear H
    go_wp2
    go_meet
    case rel => exact ⟨_, _, (by first | rfl | simp | simp [*]), H', ⟨by first | omega | exact Nat.le_refl _⟩, ⟨by exact BK1590.out⟩, ⟨by repeat (with_reducible first | exact HB.out | apply bA_ | apply bN_ | apply bD_ | refine bS_ ?_ GE1590.out)⟩⟩
   ·rw [if_neg c8] at H
    have c8b0 : decide (30 < (l0_3.length : Int)) = false := decide_eq_false c8
    have c8b1 : decide (30 < l0_3.length) = false := decide_eq_false (by omega)
    clear c8
    replace H := bI_ H
    obtain ⟨t1592, A90, H⟩ := H
    (try dsimp only at H)
    have A9 := aA_ A90
    clear A90
    have H' := aA_ H
    clear H
    go_wp2_with (first | (go_at_call 21; (with_reducible refine (demurrageref18_Usual.calls k _ _ l0_3 t1592 _ ?side1 ?side2 A9.out).mono ?_); (case side1 => repeat (first | exact (Kd.C_below HR0_3.out HB.out) | (with_reducible first | refine Kd.C_alloc ?_ _ | refine Kd.C_drewN ?_ _ | refine Kd.C_drew ?_))); (case side2 => exact HC0_3.out); rintro e w10 ⟨rfl, hb⟩; replace BK1590 := bK_ BK1590 hb; replace HB := bB_ (by repeat (with_reducible first | exact HB.out | apply bA_ | apply bN_ | apply bD_ | refine bS_ ?_ GE1590.out)) hb; (try clear hb)))
    go_meet
    case rel => exact ⟨_, _, (by first | rfl | simp | simp [*]), H', ⟨by first | omega | exact Nat.le_refl _⟩, ⟨by exact BK1590.out⟩, ⟨by repeat (with_reducible first | exact HB.out | apply bA_ | apply bN_ | apply bD_ | refine bS_ ?_ GE1590.out)⟩⟩
 case rest =>
  clear HC3
  try clear c1
  try clear c2
  try clear p2
  try clear c7
  try clear c7b0
  try clear c7b1
  try clear c8
  try clear c8b0
  try clear c8b1
  try clear hcz5_0
  try clear hcz5_1
  try clear hcz5_2
  try clear hcz5_3
  try clear hfz5_0
  try clear hfz5_1
  try clear hfz5_2
  try clear hfz5_3
  obtain ⟨kq, x37_2, rfl, HA, HJ2, BK1590, HB⟩ := hcut
  cases kq with
  | zero => exact absurd HA.out (by simp [demurragelaw21_TableSound.j0])
  | succ kj2 =>
   have H := HA.out
   clear HA
   simp only [demurragelaw21_TableSound.j0] at H
   by_cases c11 : x37_2 = true
   ·subst c11
    rw [if_pos rfl] at H
    obtain rfl := Option.some.inj H
    go_wp2
    go_ret
    exact ⟨by rfl, by repeat (with_reducible first | exact HB.out | apply bA_ | apply bN_ | apply bD_ | refine bS_ ?_ GE1590.out)⟩
   ·replace c11 := Bool.eq_false_iff.mpr c11
    subst c11
    rw [if_neg (show ¬ (false = true) by decide)] at H
    replace H := bI_ H
    obtain ⟨⟨t1653, t1654⟩, A120, H⟩ := H
    (try dsimp only at H)
    have A12 := aA_ A120
    clear A120
    replace H := bI_ H
    obtain ⟨⟨t1657, t1658, t1659, t1660, t1661, t1662⟩, A130, H⟩ := H
    (try dsimp only at H)
    have A13 := aA_ A130
    clear A130
    by_cases c14 : t1654 = 0
    ·rw [if_pos c14] at H
     have c14b0 : (t1654 == 0) = true := beq_iff_eq.mpr c14
     have c14b1 : (t1654 != 0) = false := bne_eq_false_iff_eq.mpr c14
     clear c14
     by_cases c15 : t1662 = 0
     ·rw [if_pos c15] at H
      have c15b0 : (t1662 == 0) = true := beq_iff_eq.mpr c15
      have c15b1 : (t1662 != 0) = false := bne_eq_false_iff_eq.mpr c15
      clear c15
      replace H := bI_ H
      obtain ⟨t1664, A160, H⟩ := H
      (try dsimp only at H)
      have A16 := aA_ A160
      clear A160
      by_cases c17 : t1664 = true
      ·subst c17
       rw [if_pos rfl] at H
       have H' := aA_ H
       clear H
       go_wp2_with (first | (refine goesL_ (some 52) rfl rfl Try.func28 (by kernel_rfl) rfl #[.int .i64 (Int.tmod (wrap64 (a0_0)) 3), .int .i64 (wrap64 (Int.tmod a0_1 1000000000000001)), .int .i64 (Int.tmod (wrap64 (a0_2)) 9001), .slice A0_3 l0_3.length c0_3] rfl (by (try simp only [mT_, mC_, mN_]); first | done | rfl) ?_; (with_reducible refine (table_Of.calls kj2 (Int.tmod (wrap64 (a0_0)) 3) (wrap64 (Int.tmod a0_1 1000000000000001)) (Int.tmod (wrap64 (a0_2)) 9001) _ _ l0_3 t1653 t1654 _ ?side1 ?side2 A12.out).mono ?_); (case side1 => repeat (first | exact (Kd.C_below HR0_3.out HB.out) | (with_reducible first | refine Kd.C_alloc ?_ _ | refine Kd.C_drewN ?_ _ | refine Kd.C_drew ?_))); (case side2 => exact HC0_3.out); rintro e w18 ⟨v1655, rfl, ho0, hb⟩; refine ⟨_, rfl, ?_⟩; have HO1656 := aA_ (Kd.R_lower ho0 (below_size (by repeat (with_reducible first | exact HB.out | apply bA_ | apply bN_ | apply bD_ | refine bS_ ?_ GE1590.out)))); replace BK1590 := bK_ BK1590 hb; replace HB := bB_ (by repeat (with_reducible first | exact HB.out | apply bA_ | apply bN_ | apply bD_ | refine bS_ ?_ GE1590.out)) hb; (try clear hb); (try clear ho0); obtain ⟨Ao19, co19, eo19⟩ := Kd.R_slice HO1656.out; subst eo19) | (refine goesL_ (some 57) rfl rfl Try.func30 (by kernel_rfl) rfl #[.slice Ao19 t1653.length co19] rfl (by (try simp only [mT_, mC_, mN_]); first | done | rfl) ?_; (with_reducible refine (table_Sums.calls kj2 _ _ t1653 t1657 t1658 t1659 t1660 t1661 t1662 _ ?side1 ?side2 A13.out).mono ?_); (case side1 => repeat (first | exact (Kd.R_reads' HO1656.out).2.2 | (with_reducible first | refine Kd.C_alloc ?_ _ | refine Kd.C_drewN ?_ _ | refine Kd.C_drew ?_))); (case side2 => exact (Kd.R_reads' HO1656.out).2.1); rintro e w20 ⟨rfl, hb⟩; refine ⟨_, rfl, ?_⟩; replace HO1656 := aA_ (Kd.R_below HO1656.out hb); replace BK1590 := bK_ BK1590 hb; replace HB := bB_ (by repeat (with_reducible first | exact HB.out | apply bA_ | apply bN_ | apply bD_ | refine bS_ ?_ GE1590.out)) hb; (try clear hb)) | ((with_reducible refine gate_dst (N := 12) rfl ?_); (try (refine gate_guard (by rfl) ?_; dsimp only)); refine box_event rfl (N := 12) rfl (cs := #[.int .i64 0, .int .i64 0, .int .i64 0, .int .i64 0, .int .i64 0]) (t := 48) ?hr ?_; (case hr => go_simp <;> rfl); intro gb1663 hg w21 hbox hb; replace HO1656 := aA_ (Kd.R_below (Kd.R_elderB HO1656.out gb1663 (Nat.le_of_eq hg.symm)) hb); have BK1663 := aA_ (hbox); have GW1663 := gW_ hg (by repeat (with_reducible first | exact HB.out | apply bA_ | apply bN_ | apply bD_ | refine bS_ ?_ GE1590.out)); have GE1663 := GW1663; replace HB := bB_ (by repeat (with_reducible first | exact HB.out | apply bA_ | apply bN_ | apply bD_ | refine bS_ ?_ GE1590.out)) hb; have NB1590_1663 := nE_ hg BK1590; have NB1663_1590 := aA_ NB1590_1663.out.symm; replace BK1590 := bK_ BK1590 hb; clear hb hbox hg; have hnb22 := NB1663_1590.out; have hnc22 := NB1590_1663.out; have hcz23_0 : w21.cell? ⟨gb1663, 0, none⟩ = some (.int .i64 0) := (blk_cell BK1663.out 0).trans rfl; have hcz23_1 : w21.cell? ⟨gb1663, 1, none⟩ = some (.int .i64 0) := (blk_cell BK1663.out 1).trans rfl; have hcz23_2 : w21.cell? ⟨gb1663, 2, none⟩ = some (.int .i64 0) := (blk_cell BK1663.out 2).trans rfl; have hcz23_3 : w21.cell? ⟨gb1663, 3, none⟩ = some (.int .i64 0) := (blk_cell BK1663.out 3).trans rfl; have hcz23_4 : w21.cell? ⟨gb1663, 4, none⟩ = some (.int .i64 0) := (blk_cell BK1663.out 4).trans rfl; have hfz23_0 := blk_frozen BK1663.out 0; have hfz23_1 := blk_frozen BK1663.out 1; have hfz23_2 := blk_frozen BK1663.out 2; have hfz23_3 := blk_frozen BK1663.out 3; have hfz23_4 := blk_frozen BK1663.out 4) | (go_at_call 24; (with_reducible refine (demurrageref19_Sound.calls kj2 _ _ t1653 (wrap64 (Int.tmod a0_1 1000000000000001)) (Int.tmod (wrap64 (a0_2)) 9001) _ _ l0_3 true _ ?side1 ?side2 ?side3 ?side4 A16.out).mono ?_); (case side1 => refine (Kd.R_reads' (e := 48) (base := w.heap.size) (ok := fun k_ => (True ∧ k_ ≠ gb1663)) (n := t1653.length) (c := co19) ?_).2.2; exact (by (with_reducible repeat (first | apply Kd.R_alloc | apply Kd.R_drewN | apply Kd.R_drew)); exact (Kd.R_mono (Kd.R_far (p := ⟨gb1663, 4, none⟩) (Kd.R_far (p := ⟨gb1663, 3, none⟩) (Kd.R_far (p := ⟨gb1663, 2, none⟩) (Kd.R_far (p := ⟨gb1663, 1, none⟩) (Kd.R_far (p := ⟨gb1663, 0, none⟩) (Kd.R_mono HO1656.out (fun k_ hk => (⟨hk, hk.2⟩ : _ ∧ k_ ≠ gb1663))) (fun _ hk => hk.2) (.int .i64 t1657)) (fun _ hk => hk.2) (.int .i64 t1658)) (fun _ hk => hk.2) (.int .i64 t1659)) (fun _ hk => hk.2) (.int .i64 t1660)) (fun _ hk => hk.2) (.int .i64 t1661)) (fun _ h_ => h_.1)))); (case side2 => exact (Kd.R_reads' HO1656.out).2.1); (case side3 => exact Kd.C_below HR0_3.out (by repeat (with_reducible first | exact HB.out | apply bA_ | apply bN_ | apply bD_ | refine bS_ ?_ GE1590.out | refine bS_ ?_ GE1663.out))); (case side4 => exact HC0_3.out); rintro e w24 ⟨rfl, hb⟩; replace HO1656 := aA_ (Kd.R_below (by (with_reducible repeat (first | apply Kd.R_alloc | apply Kd.R_drewN | apply Kd.R_drew)); exact (Kd.R_mono (Kd.R_far (p := ⟨gb1663, 4, none⟩) (Kd.R_far (p := ⟨gb1663, 3, none⟩) (Kd.R_far (p := ⟨gb1663, 2, none⟩) (Kd.R_far (p := ⟨gb1663, 1, none⟩) (Kd.R_far (p := ⟨gb1663, 0, none⟩) (Kd.R_mono HO1656.out (fun k_ hk => (⟨hk, hk.2⟩ : _ ∧ k_ ≠ gb1663))) (fun _ hk => hk.2) (.int .i64 t1657)) (fun _ hk => hk.2) (.int .i64 t1658)) (fun _ hk => hk.2) (.int .i64 t1659)) (fun _ hk => hk.2) (.int .i64 t1660)) (fun _ hk => hk.2) (.int .i64 t1661)) (fun _ h_ => h_.1))) hb); replace BK1590 := aA_ (blk_below (g := gb1590) (o := .cells #[.int .u8 a0_0, .int .u64 a0_1, .int .u16 a0_2, .slice A0_3 l0_3.length c0_3] 73 (0, 0)) (by refine blk_far ?_ NB1590_1663.out _; refine blk_far ?_ NB1590_1663.out _; refine blk_far ?_ NB1590_1663.out _; refine blk_far ?_ NB1590_1663.out _; refine blk_far ?_ NB1590_1663.out _; exact BK1590.out) hb); replace BK1663 := aA_ (blk_below (g := gb1663) (o := .cells #[.int .i64 t1657, .int .i64 t1658, .int .i64 t1659, .int .i64 t1660, .int .i64 t1661] 48 (0, 0)) (by refine blk_put (cs := #[.int .i64 t1657, .int .i64 t1658, .int .i64 t1659, .int .i64 t1660, .int .i64 0]) ?_ 4 _ rfl; refine blk_put (cs := #[.int .i64 t1657, .int .i64 t1658, .int .i64 t1659, .int .i64 0, .int .i64 0]) ?_ 3 _ rfl; refine blk_put (cs := #[.int .i64 t1657, .int .i64 t1658, .int .i64 0, .int .i64 0, .int .i64 0]) ?_ 2 _ rfl; refine blk_put (cs := #[.int .i64 t1657, .int .i64 0, .int .i64 0, .int .i64 0, .int .i64 0]) ?_ 1 _ rfl; refine blk_put (cs := #[.int .i64 0, .int .i64 0, .int .i64 0, .int .i64 0, .int .i64 0]) ?_ 0 _ rfl; exact BK1663.out) hb); replace HB := bB_ (by repeat (with_reducible first | exact HB.out | apply bA_ | apply bN_ | apply bD_ | refine bS_ ?_ GE1590.out | refine bS_ ?_ GE1663.out)) hb; (try clear hb)))
       (try simp only [Act.put, sT_, sZ_, sS_])
       go_loopg [14, 15] kj2 (fun kq v14 v15 w' => ∃ (x14_2 : Int) (x15_2 : Int), v14 = .int .i64 x14_2 ∧ v15 = .int .i64 x15_2 ∧ Aside0 (demurragelaw21_TableSound.l0 kq t1591 (wrap64 (Int.tmod a0_1 1000000000000001)) t1653 x14_2 x15_2 t1657 t1658 t1659 t1660 t1661 = some r) ∧ Aside0 (kq ≤ kj2) ∧ Aside0 (Kd.R k48 48 w' w.heap.size (fun k_ => k_ ≠ gb1663) (.slice Ao19 t1653.length co19) t1653) ∧ Aside0 (w'.heap[gb1590]? = some (.cells #[.int .u8 a0_0, .int .u64 a0_1, .int .u16 a0_2, (.slice A0_3 l0_3.length c0_3)] 73 (0, 0))) ∧ Aside0 (w'.heap[gb1663]? = some (.cells #[.int .i64 t1657, .int .i64 t1658, .int .i64 t1659, .int .i64 t1660, .int .i64 t1661] 48 (0, 0))) ∧ Aside0 (Below w.heap.size w w'))
       case atStart => exact ⟨(0), (0), (by first | rfl | simp | simp [*]), (by first | rfl | simp | simp [*]), H', ⟨Nat.le_refl _⟩, ⟨by (with_reducible repeat (first | apply Kd.R_alloc | apply Kd.R_drewN | apply Kd.R_drew)); exact Kd.R_mono HO1656.out (fun _ hk => hk.2)⟩, ⟨by exact BK1590.out⟩, ⟨by exact BK1663.out⟩, ⟨by repeat (with_reducible first | exact HB.out | apply bA_ | apply bN_ | apply bD_ | refine bS_ ?_ GE1590.out | refine bS_ ?_ GE1663.out)⟩⟩
       case round =>
        clear H'
        try clear c1
        try clear c2
        try clear p2
        try clear c3
        try clear p6
        try clear c7
        try clear c7b0
        try clear c7b1
        try clear c8
        try clear c8b0
        try clear c8b1
        try clear c11
        try clear c14
        try clear c14b0
        try clear c14b1
        try clear c15
        try clear c15b0
        try clear c15b1
        try clear c17
        try clear c22
        try clear hcz23_0
        try clear hcz23_1
        try clear hcz23_2
        try clear hcz23_3
        try clear hcz23_4
        try clear hcz5_0
        try clear hcz5_1
        try clear hcz5_2
        try clear hcz5_3
        try clear hfz23_0
        try clear hfz23_1
        try clear hfz23_2
        try clear hfz23_3
        try clear hfz23_4
        try clear hfz5_0
        try clear hfz5_1
        try clear hfz5_2
        try clear hfz5_3
        try clear p2
        obtain ⟨x14_2, x15_2, rfl, rfl, HA, HK2, HO_10, BK1590, BK1663, HB⟩ := hrel
        cases gk with
        | zero => exact absurd HA.out (by simp [demurragelaw21_TableSound.l0])
        | succ k2 =>
         have H := HA.out
         clear HA
         simp only [demurragelaw21_TableSound.l0] at H
         by_cases c25 : x15_2 < (t1653.length : Int)
         ·rw [if_pos c25] at H
          have c25b0 : decide (x15_2 < (t1653.length : Int)) = true := decide_eq_true c25
          clear c25
          by_cases c26 : 0 ≤ x15_2
          ·rw [if_pos c26] at H
           have c26b0 : decide (0 ≤ x15_2) = true := decide_eq_true c26
           clear c26
           by_cases c27 : ((rd_T48 t1653 x15_2).f4) > (wrap64 (Int.tmod a0_1 1000000000000001))
           ·rw [if_pos c27] at H
            exact absurd H (by simp)
           ·rw [if_neg c27] at H
            have c27b0 : decide ((wrap64 (Int.tmod a0_1 1000000000000001)) < ((rd_T48 t1653 x15_2).f4)) = false := decide_eq_false c27
            clear c27
            have H' := aA_ H
            clear H
            have p1671 : 0 ≤ (x15_2 : Int) := of_decide_eq_true (by first | (with_reducible assumption) | assumption)
            have q1671 : x15_2 < (t1653.length : Int) := of_decide_eq_true (by first | (with_reducible assumption) | assumption)
            obtain ⟨ad1671, e1671, hx1671_0, hx1671_1, hx1671_2, hx1671_3, hx1671_4⟩ := at_T48 (Kd.R_reads' HO_10.out).2.2 x15_2 p1671 q1671
            cases e1671
            replace p1671 := eq_true p1671
            replace q1671 := eq_true q1671
            have p1672 : 0 ≤ (x15_2 : Int) := of_decide_eq_true (by first | (with_reducible assumption) | assumption)
            have q1672 : x15_2 < (t1653.length : Int) := of_decide_eq_true (by first | (with_reducible assumption) | assumption)
            obtain ⟨ad1672, e1672, hx1672_0, hx1672_1, hx1672_2, hx1672_3, hx1672_4⟩ := at_T48 (Kd.R_reads' HO_10.out).2.2 x15_2 p1672 q1672
            obtain rfl : ad1671 = ad1672 := (by injection e1672)
            replace p1672 := eq_true p1672
            replace q1672 := eq_true q1672
            go_wp2
            go_roundg k2
            case measure => have := HJ2.out; have := HK2.out; omega
            case rel => exact ⟨(wrap64 (x14_2 + ((rd_T48 t1653 x15_2).f1))), (wrap64 (x15_2 + 1)), (by first | rfl | simp | simp [*]), (by first | rfl | simp | simp [*]), H', ⟨by have := HJ2.out; have := HK2.out; omega⟩, ⟨by (with_reducible repeat (first | apply Kd.R_alloc | apply Kd.R_drewN | apply Kd.R_drew)); exact HO_10.out⟩, ⟨by exact BK1590.out⟩, ⟨by exact BK1663.out⟩, ⟨by repeat (with_reducible first | exact HB.out | apply bA_ | apply bN_ | apply bD_ | refine bS_ ?_ GE1590.out | refine bS_ ?_ GE1663.out)⟩⟩
          ·rw [if_neg c26] at H
           exact absurd H (by simp)
         ·rw [if_neg c25] at H
          have c25b0 : decide (x15_2 < (t1653.length : Int)) = false := decide_eq_false c25
          clear c25
          by_cases c28 : t1591 = true
          ·subst c28
           rw [if_pos rfl] at H
           obtain rfl := Option.some.inj H
           have hnb29 := NB1663_1590.out
           have hnc29 := NB1590_1663.out
           have hcz30_0 : wr.cell? ⟨gb1663, 0, none⟩ = some (.int .i64 t1657) := (blk_cell BK1663.out 0).trans rfl
           have hcz30_1 : wr.cell? ⟨gb1663, 1, none⟩ = some (.int .i64 t1658) := (blk_cell BK1663.out 1).trans rfl
           have hcz30_2 : wr.cell? ⟨gb1663, 2, none⟩ = some (.int .i64 t1659) := (blk_cell BK1663.out 2).trans rfl
           have hcz30_3 : wr.cell? ⟨gb1663, 3, none⟩ = some (.int .i64 t1660) := (blk_cell BK1663.out 3).trans rfl
           have hcz30_4 : wr.cell? ⟨gb1663, 4, none⟩ = some (.int .i64 t1661) := (blk_cell BK1663.out 4).trans rfl
           have hfz30_0 := blk_frozen BK1663.out 0
           have hfz30_1 := blk_frozen BK1663.out 1
           have hfz30_2 := blk_frozen BK1663.out 2
           have hfz30_3 := blk_frozen BK1663.out 3
           have hfz30_4 := blk_frozen BK1663.out 4
           go_wp2
           go_ret
           exact ⟨by rfl, by repeat (with_reducible first | exact HB.out | apply bA_ | apply bN_ | apply bD_ | refine bS_ ?_ GE1590.out | refine bS_ ?_ GE1663.out)⟩
          ·replace c28 := Bool.eq_false_iff.mpr c28
           subst c28
           rw [if_neg (show ¬ (false = true) by decide)] at H
           exact absurd H (by simp)
      ·replace c17 := Bool.eq_false_iff.mpr c17
       subst c17
       rw [if_neg (show ¬ (false = true) by decide)] at H
       exact absurd H (by simp)
     ·rw [if_neg c15] at H
      exact absurd H (by simp)
    ·rw [if_neg c14] at H
     exact absurd H (by simp)

end Go.Proofs.Yteikafepdkijdaa.X
