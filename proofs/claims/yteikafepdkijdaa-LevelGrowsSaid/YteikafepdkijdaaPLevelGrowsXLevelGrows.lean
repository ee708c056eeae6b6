-- cut by prune.py, a program of this session
import Derived.Test.YteikafepdkijdaaPLevelGrowsX0
import Derived.Test.YteikafepdkijdaaPLevelGrowsXRefOf
import Derived.Test.YteikafepdkijdaaPLevelGrowsXUsual
import Derived.Test.YteikafepdkijdaaPLevelGrowsXShownL
import Derived.Test.YteikafepdkijdaaPLevelGrowsHLeast
namespace Go.Proofs.Yteikafepdkijdaa.X
open Go.RowKit Go.Proofs.YteikafepdkijdaaW.PrintWords Go.Proofs.YteikafepdkijdaaW.PrintLast Go.Proofs.YteikafepdkijdaaW.PrintMore
attribute [local go_sem] max2_int min2_int max_two min_two
set_option linter.unusedVariables false
set_option linter.unusedSimpArgs false

mutual
def demurragelaw20_LevelGrows.j0 : Nat → Int → Int → Int → Int → List (S56) → Bool → Int → Bool → Option (Bool)
 | 0, _, _, _, _, _, _, _, _ => none
 | k + 1, x3, x4, x5, x6, x7, x8, x9, x45 => if x45 = true then (some x8) else ((level_Least.f k (wrap64 (Int.tmod x3 900000000000000)) (Int.tmod (wrap64 (x5)) 4501) x7).bind fun bt1410 => ((level_Least.f k (wrap64 ((wrap64 (Int.tmod x3 900000000000000)) + (wrap64 (x4)))) (Int.tmod (wrap64 (x5)) 4501) x7).bind fun bt1412 => ((level_Least.f k (wrap64 (Int.tmod x3 900000000000000)) (wrap64 ((Int.tmod (wrap64 (x5)) 4501) + (Int.tmod (wrap64 (x6)) 4500))) x7).bind fun bt1414 => (if bt1410.2 = 0 then (if bt1412.2 = 0 then (if bt1414.2 = 0 then (if bt1412.1 < bt1410.1 then (none) else (if bt1414.1 < bt1410.1 then (none) else (if (wrap64 (bt1410.1 * x9)) < (wrap64 (Int.tmod x3 900000000000000)) then (none) else (demurragelaw20_LevelGrows.l0 k x7 x8 x9 (wrap64 (Int.tmod x3 900000000000000)) (Int.tmod (wrap64 (x5)) 4501) bt1410.1 0 0)))) else (none)) else (none)) else (none)))))
def demurragelaw20_LevelGrows.l0 : Nat → List (S56) → Bool → Int → Int → Int → Int → Int → Int → Option (Bool)
 | 0, _, _, _, _, _, _, _, _ => none
 | k + 1, x7, x8, x9, x10, x11, x12, x18, x19 => if x19 < x9 then (if 0 ≤ x19 then (if x19 < (x7.length : Int) then ((demurrageref18_Of.f k x10 x11 ((rd_T56 x7 x19).f0) ((rd_T56 x7 x19).f1)).bind fun bt1426 => (if bt1426.1 > x18 then (demurragelaw20_LevelGrows.l0 k x7 x8 x9 x10 x11 x12 bt1426.1 (wrap64 (x19 + 1))) else (demurragelaw20_LevelGrows.l0 k x7 x8 x9 x10 x11 x12 x18 (wrap64 (x19 + 1))))) else (none)) else (none)) else (if x8 = true then (some (decide (x12 ≤ (wrap64 (x10 + x18))))) else (none))
end
def demurragelaw20_LevelGrows.f (k : Nat) (a0_0 : Int) (a0_1 : Int) (a0_2 : Int) (a0_3 : Int) (l0_4 : List (S56)) : Option (Bool) := (demurragelaw20_shown.f k).bind fun t1354 => (if (l0_4.length : Int) < 1 then (demurragelaw20_LevelGrows.j0 k a0_0 a0_1 a0_2 a0_3 l0_4 t1354 (l0_4.length : Int) true) else (if (l0_4.length : Int) > 20 then (demurragelaw20_LevelGrows.j0 k a0_0 a0_1 a0_2 a0_3 l0_4 t1354 (l0_4.length : Int) true) else ((demurrageref18_Usual.f k l0_4).bind fun t1355 => (demurragelaw20_LevelGrows.j0 k a0_0 a0_1 a0_2 a0_3 l0_4 t1354 (l0_4.length : Int) (!t1355)))))
set_option maxHeartbeats 8000000 in
set_option maxRecDepth 100000 in
theorem demurragelaw20_LevelGrows.calls (k : Nat) (a0_0 : Int) (a0_1 : Int) (a0_2 : Int) (a0_3 : Int) (A0_4 : Option Addr) (c0_4 : Nat) (l0_4 : List (S56)) (r : Bool) (w : World) (hr0_4 : Kd.C k56 w A0_4 l0_4.length l0_4) (hc0_4 : l0_4.length ≤ c0_4) (h : demurragelaw20_LevelGrows.f k a0_0 a0_1 a0_2 a0_3 l0_4 = some r) :
  Calls Try.prog 8 #[.agg #[.int .u64 a0_0, .int .u32 a0_1, .int .u16 a0_2, .int .u16 a0_3, .slice A0_4 l0_4.length c0_4]] w fun e w' => e = .returned (.bool r) ∧ Below w.heap.size w w' := by
 have hu59 := Try.underlying59
 have hu56 := Try.underlying56
 have HR0_4 := aA_ hr0_4
 have HC0_4 := aA_ hc0_4
 clear hr0_4 hc0_4
 have HB := aA_ (Below.refl w.heap.size w)
 have H : ((demurragelaw20_shown.f k).bind fun t1354 => (if (l0_4.length : Int) < 1 then (demurragelaw20_LevelGrows.j0 k a0_0 a0_1 a0_2 a0_3 l0_4 t1354 (l0_4.length : Int) true) else (if (l0_4.length : Int) > 20 then (demurragelaw20_LevelGrows.j0 k a0_0 a0_1 a0_2 a0_3 l0_4 t1354 (l0_4.length : Int) true) else ((demurrageref18_Usual.f k l0_4).bind fun t1355 => (demurragelaw20_LevelGrows.j0 k a0_0 a0_1 a0_2 a0_3 l0_4 t1354 (l0_4.length : Int) (!t1355)))))) = some r := h
 clear h
 replace H := bI_ H
 obtain ⟨t1354, A20, H⟩ := H
 (try dsimp only at H)
 have A2 := aA_ A20
 clear A20
 have HC3 := aA_ H
 clear H
 go_enter Try.func8, Try.ntmps8
 go_upto_region 8 with (first | (refine box_event rfl (N := 1) rfl (cs := #[.int .u64 a0_0, .int .u32 a0_1, .int .u16 a0_2, .int .u16 a0_3, .slice A0_4 l0_4.length c0_4]) (t := 59) ?hr ?_; (case hr => go_simp <;> rfl); intro gb1353 hg w4 hbox hb; have BK1353 := aA_ (hbox); have GW1353 := gW_ hg (by repeat (with_reducible first | exact HB.out | apply bA_ | apply bN_ | apply bD_)); have GE1353 := GW1353; replace HB := bB_ (by repeat (with_reducible first | exact HB.out | apply bA_ | apply bN_ | apply bD_)) hb; clear hb hbox hg; have hcz5_0 : w4.cell? ⟨gb1353, 0, none⟩ = some (.int .u64 a0_0) := (blk_cell BK1353.out 0).trans rfl; have hcz5_1 : w4.cell? ⟨gb1353, 1, none⟩ = some (.int .u32 a0_1) := (blk_cell BK1353.out 1).trans rfl; have hcz5_2 : w4.cell? ⟨gb1353, 2, none⟩ = some (.int .u16 a0_2) := (blk_cell BK1353.out 2).trans rfl; have hcz5_3 : w4.cell? ⟨gb1353, 3, none⟩ = some (.int .u16 a0_3) := (blk_cell BK1353.out 3).trans rfl; have hcz5_4 : w4.cell? ⟨gb1353, 4, none⟩ = some (.slice A0_4 l0_4.length c0_4) := (blk_cell BK1353.out 4).trans rfl; have hfz5_0 := blk_frozen BK1353.out 0; have hfz5_1 := blk_frozen BK1353.out 1; have hfz5_2 := blk_frozen BK1353.out 2; have hfz5_3 := blk_frozen BK1353.out 3; have hfz5_4 := blk_frozen BK1353.out 4) | (refine goesL_ (some 32) rfl rfl Try.func15 (by kernel_rfl) rfl #[] rfl (by (try simp only [mT_, mC_, mN_]); first | done | rfl) ?_; (with_reducible refine (demurragelaw20_shown.calls k  t1354 _ A2.out).mono ?_); rintro e w6 ⟨rfl, hb⟩; refine ⟨_, rfl, ?_⟩; replace BK1353 := bK_ BK1353 hb; replace HB := bB_ (by repeat (with_reducible first | exact HB.out | apply bA_ | apply bN_ | apply bD_ | refine bS_ ?_ GE1353.out)) hb; (try clear hb)))
 (try simp only [Act.put, sT_, sZ_, sS_])
 go_cut [45] (fun v45 wc => ∃ (kq : Nat) (x45_2 : Bool), v45 = .bool x45_2 ∧ Aside0 (demurragelaw20_LevelGrows.j0 kq a0_0 a0_1 a0_2 a0_3 l0_4 t1354 (l0_4.length : Int) x45_2 = some r) ∧ Aside0 (kq ≤ k) ∧ Aside0 (wc.heap[gb1353]? = some (.cells #[.int .u64 a0_0, .int .u32 a0_1, .int .u16 a0_2, .int .u16 a0_3, (.slice A0_4 l0_4.length c0_4)] 59 (0, 0))) ∧ Aside0 (Below w.heap.size w wc))
 case first =>
  have H := HC3.out
  clear HC3
  by_cases c7 : (l0_4.length : Int) < 1
  ·rw [if_pos c7] at H
   have c7b0 : decide ((l0_4.length : Int) < 1) = true := decide_eq_true c7
   have c7b1 : decide (l0_4.length < 1) = true := decide_eq_true (by omega)
   clear c7
   (first | rw [c7b0] | (simp only [i64_w, i32_w]; rw [c7b0]) | rw [c7b1] | skip)
   have H' := aA_ H
   clear H
   go_wp2
   go_meet
   case rel => exact ⟨_, _, (by first | rfl | simp | simp [*]), H', ⟨by first | omega | exact Nat.le_refl _⟩, ⟨by exact BK1353.out⟩, ⟨by repeat (with_reducible first | exact HB.out | apply bA_ | apply bN_ | apply bD_ | refine bS_ ?_ GE1353.out)⟩⟩
  ·rw [if_neg c7] at H
   have c7b0 : decide ((l0_4.length : Int) < 1) = false := decide_eq_false c7
   have c7b1 : decide (l0_4.length < 1) = false := decide_eq_false (by omega)
   clear c7
   (first | rw [c7b0] | (simp only [i64_w, i32_w]; rw [c7b0]) | rw [c7b1] | skip)
   by_cases c8 : (l0_4.length : Int) > 20
   ·rw [if_pos c8] at H
    have c8b0 : decide (20 < (l0_4.length : Int)) = true := decide_eq_true c8
    have c8b1 : decide (20 < l0_4.length) = true := decide_eq_true (by omega)
    clear c8
    have H' := aA_ H
    clear H
    go_wp2
    go_meet
    case rel => exact ⟨_, _, (by first | rfl | simp | simp [*]), H', ⟨by first | omega | exact Nat.le_refl _⟩, ⟨by exact BK1353.out⟩, ⟨by repeat (with_reducible first | exact HB.out | apply bA_ | apply bN_ | apply bD_ | refine bS_ ?_ GE1353.out)⟩⟩
   ·rw [if_neg c8] at H
    have c8b0 : decide (20 < (l0_4.length : Int)) = false := decide_eq_false c8
    have c8b1 : decide (20 < l0_4.length) = false := decide_eq_false (by omega)
    clear c8
    replace H := bI_ H
    obtain ⟨t1355, A90, H⟩ := H
    (try dsimp only at H)
    have A9 := aA_ A90
    clear A90
    have H' := aA_ H
    clear H
    go_wp2_with (first | (go_at_call 21; (with_reducible refine (demurrageref18_Usual.calls k _ _ l0_4 t1355 _ ?side1 ?side2 A9.out).mono ?_); (case side1 => repeat (first | exact (Kd.C_below HR0_4.out HB.out) | (with_reducible first | refine Kd.C_alloc ?_ _ | refine Kd.C_drewN ?_ _ | refine Kd.C_drew ?_))); (case side2 => exact HC0_4.out); rintro e w10 ⟨rfl, hb⟩; replace BK1353 := bK_ BK1353 hb; replace HB := bB_ (by repeat (with_reducible first | exact HB.out | apply bA_ | apply bN_ | apply bD_ | refine bS_ ?_ GE1353.out)) hb; (try clear hb)))
    go_meet
    case rel => exact ⟨_, _, (by first | rfl | simp | simp [*]), H', ⟨by first | omega | exact Nat.le_refl _⟩, ⟨by exact BK1353.out⟩, ⟨by repeat (with_reducible first | exact HB.out | apply bA_ | apply bN_ | apply bD_ | refine bS_ ?_ GE1353.out)⟩⟩
 case rest =>
  clear HC3
  try clear c1
  try clear p2
  try clear c7
  try clear c7b0
  try clear c7b1
  try clear c8
  try clear c8b0
  try clear c8b1
  try clear hcz5_0
  try clear hcz5_1
  try clear hcz5_2
  try clear hcz5_3
  try clear hcz5_4
  try clear hfz5_0
  try clear hfz5_1
  try clear hfz5_2
  try clear hfz5_3
  try clear hfz5_4
  obtain ⟨kq, x45_2, rfl, HA, HJ2, BK1353, HB⟩ := hcut
  cases kq with
  | zero => exact absurd HA.out (by simp [demurragelaw20_LevelGrows.j0])
  | succ kj2 =>
   have H := HA.out
   clear HA
   simp only [demurragelaw20_LevelGrows.j0] at H
   by_cases c11 : x45_2 = true
   ·subst c11
    rw [if_pos rfl] at H
    obtain rfl := Option.some.inj H
    go_wp2
    go_ret
    exact ⟨by rfl, by repeat (with_reducible first | exact HB.out | apply bA_ | apply bN_ | apply bD_ | refine bS_ ?_ GE1353.out)⟩
   ·replace c11 := Bool.eq_false_iff.mpr c11
    subst c11
    rw [if_neg (show ¬ (false = true) by decide)] at H
    replace H := bI_ H
    obtain ⟨⟨t1410, t1411⟩, A120, H⟩ := H
    (try dsimp only at H)
    have A12 := aA_ A120
    clear A120
    replace H := bI_ H
    obtain ⟨⟨t1412, t1413⟩, A130, H⟩ := H
    (try dsimp only at H)
    have A13 := aA_ A130
    clear A130
    replace H := bI_ H
    obtain ⟨⟨t1414, t1415⟩, A140, H⟩ := H
    (try dsimp only at H)
    have A14 := aA_ A140
    clear A140
    by_cases c15 : t1411 = 0
    ·rw [if_pos c15] at H
     have c15b0 : (t1411 == 0) = true := beq_iff_eq.mpr c15
     have c15b1 : (t1411 != 0) = false := bne_eq_false_iff_eq.mpr c15
     clear c15
     by_cases c16 : t1413 = 0
     ·rw [if_pos c16] at H
      have c16b0 : (t1413 == 0) = true := beq_iff_eq.mpr c16
      have c16b1 : (t1413 != 0) = false := bne_eq_false_iff_eq.mpr c16
      clear c16
      by_cases c17 : t1415 = 0
      ·rw [if_pos c17] at H
       have c17b0 : (t1415 == 0) = true := beq_iff_eq.mpr c17
       have c17b1 : (t1415 != 0) = false := bne_eq_false_iff_eq.mpr c17
       clear c17
       by_cases c18 : t1412 < t1410
       ·rw [if_pos c18] at H
        exact absurd H (by simp)
       ·rw [if_neg c18] at H
        have c18b0 : decide (t1412 < t1410) = false := decide_eq_false c18
        clear c18
        by_cases c19 : t1414 < t1410
        ·rw [if_pos c19] at H
         exact absurd H (by simp)
        ·rw [if_neg c19] at H
         have c19b0 : decide (t1414 < t1410) = false := decide_eq_false c19
         clear c19
         by_cases c20 : (wrap64 (t1410 * (l0_4.length : Int))) < (wrap64 (Int.tmod a0_0 900000000000000))
         ·rw [if_pos c20] at H
          exact absurd H (by simp)
         ·rw [if_neg c20] at H
          have c20b0 : decide ((wrap64 (t1410 * (l0_4.length : Int))) < (wrap64 (Int.tmod a0_0 900000000000000))) = false := decide_eq_false c20
          clear c20
          have H' := aA_ H
          clear H
          go_wp2_with (first | (refine goesL_ (some 57) rfl rfl Try.func18 (by kernel_rfl) rfl #[.int .i64 (wrap64 (Int.tmod a0_0 900000000000000)), .int .i64 (Int.tmod (wrap64 (a0_2)) 4501), .slice A0_4 l0_4.length c0_4] rfl (by (try simp only [mT_, mC_, mN_]); first | done | rfl) ?_; (with_reducible refine (level_Least.calls kj2 (wrap64 (Int.tmod a0_0 900000000000000)) (Int.tmod (wrap64 (a0_2)) 4501) _ _ l0_4 t1410 t1411 _ ?side1 ?side2 A12.out).mono ?_); (case side1 => repeat (first | exact (Kd.C_below HR0_4.out HB.out) | (with_reducible first | refine Kd.C_alloc ?_ _ | refine Kd.C_drewN ?_ _ | refine Kd.C_drew ?_))); (case side2 => exact HC0_4.out); rintro e w21 ⟨rfl, hb⟩; refine ⟨_, rfl, ?_⟩; replace BK1353 := bK_ BK1353 hb; replace HB := bB_ (by repeat (with_reducible first | exact HB.out | apply bA_ | apply bN_ | apply bD_ | refine bS_ ?_ GE1353.out)) hb; (try clear hb)) | (refine goesL_ (some 67) rfl rfl Try.func18 (by kernel_rfl) rfl #[.int .i64 (wrap64 ((wrap64 (Int.tmod a0_0 900000000000000)) + (wrap64 (a0_1)))), .int .i64 (Int.tmod (wrap64 (a0_2)) 4501), .slice A0_4 l0_4.length c0_4] rfl (by (try simp only [mT_, mC_, mN_]); first | done | rfl) ?_; (with_reducible refine (level_Least.calls kj2 (wrap64 ((wrap64 (Int.tmod a0_0 900000000000000)) + (wrap64 (a0_1)))) (Int.tmod (wrap64 (a0_2)) 4501) _ _ l0_4 t1412 t1413 _ ?side1 ?side2 A13.out).mono ?_); (case side1 => repeat (first | exact (Kd.C_below HR0_4.out HB.out) | (with_reducible first | refine Kd.C_alloc ?_ _ | refine Kd.C_drewN ?_ _ | refine Kd.C_drew ?_))); (case side2 => exact HC0_4.out); rintro e w22 ⟨rfl, hb⟩; refine ⟨_, rfl, ?_⟩; replace BK1353 := bK_ BK1353 hb; replace HB := bB_ (by repeat (with_reducible first | exact HB.out | apply bA_ | apply bN_ | apply bD_ | refine bS_ ?_ GE1353.out)) hb; (try clear hb)) | (refine goesL_ (some 78) rfl rfl Try.func18 (by kernel_rfl) rfl #[.int .i64 (wrap64 (Int.tmod a0_0 900000000000000)), .int .i64 (wrap64 ((Int.tmod (wrap64 (a0_2)) 4501) + (Int.tmod (wrap64 (a0_3)) 4500))), .slice A0_4 l0_4.length c0_4] rfl (by (try simp only [mT_, mC_, mN_]); first | done | rfl) ?_; (with_reducible refine (level_Least.calls kj2 (wrap64 (Int.tmod a0_0 900000000000000)) (wrap64 ((Int.tmod (wrap64 (a0_2)) 4501) + (Int.tmod (wrap64 (a0_3)) 4500))) _ _ l0_4 t1414 t1415 _ ?side1 ?side2 A14.out).mono ?_); (case side1 => repeat (first | exact (Kd.C_below HR0_4.out HB.out) | (with_reducible first | refine Kd.C_alloc ?_ _ | refine Kd.C_drewN ?_ _ | refine Kd.C_drew ?_))); (case side2 => exact HC0_4.out); rintro e w23 ⟨rfl, hb⟩; refine ⟨_, rfl, ?_⟩; replace BK1353 := bK_ BK1353 hb; replace HB := bB_ (by repeat (with_reducible first | exact HB.out | apply bA_ | apply bN_ | apply bD_ | refine bS_ ?_ GE1353.out)) hb; (try clear hb)))
          (try simp only [Act.put, sT_, sZ_, sS_])
          go_loopg [18, 19] kj2 (fun kq v18 v19 w' => ∃ (x18_2 : Int) (x19_2 : Int), v18 = .int .i64 x18_2 ∧ v19 = .int .i64 x19_2 ∧ Aside0 (demurragelaw20_LevelGrows.l0 kq l0_4 t1354 (l0_4.length : Int) (wrap64 (Int.tmod a0_0 900000000000000)) (Int.tmod (wrap64 (a0_2)) 4501) t1410 x18_2 x19_2 = some r) ∧ Aside0 (kq ≤ kj2) ∧ Aside0 (w'.heap[gb1353]? = some (.cells #[.int .u64 a0_0, .int .u32 a0_1, .int .u16 a0_2, .int .u16 a0_3, (.slice A0_4 l0_4.length c0_4)] 59 (0, 0))) ∧ Aside0 (Below w.heap.size w w'))
          case atStart => exact ⟨(0), (0), (by first | rfl | simp | simp [*]), (by first | rfl | simp | simp [*]), H', ⟨Nat.le_refl _⟩, ⟨by exact BK1353.out⟩, ⟨by repeat (with_reducible first | exact HB.out | apply bA_ | apply bN_ | apply bD_ | refine bS_ ?_ GE1353.out)⟩⟩
          case round =>
           clear H'
           try clear c1
           try clear c2
           try clear p2
           try clear p6
           try clear c7
           try clear c7b0
           try clear c7b1
           try clear c8
           try clear c8b0
           try clear c8b1
           try clear c11
           try clear c15
           try clear c15b0
           try clear c15b1
           try clear c16
           try clear c16b0
           try clear c16b1
           try clear c17
           try clear c17b0
           try clear c17b1
           try clear c18
           try clear c18b0
           try clear c19
           try clear c19b0
           try clear c20
           try clear c20b0
           try clear hcz5_0
           try clear hcz5_1
           try clear hcz5_2
           try clear hcz5_3
           try clear hcz5_4
           try clear hfz5_0
           try clear hfz5_1
           try clear hfz5_2
           try clear hfz5_3
           try clear hfz5_4
           try clear p2
           obtain ⟨x18_2, x19_2, rfl, rfl, HA, HK2, BK1353, HB⟩ := hrel
           cases gk with
           | zero => exact absurd HA.out (by simp [demurragelaw20_LevelGrows.l0])
           | succ k2 =>
            have H := HA.out
            clear HA
            simp only [demurragelaw20_LevelGrows.l0] at H
            by_cases c24 : x19_2 < (l0_4.length : Int)
            ·rw [if_pos c24] at H
             have c24b0 : decide (x19_2 < (l0_4.length : Int)) = true := decide_eq_true c24
             clear c24
             by_cases c25 : 0 ≤ x19_2
             ·rw [if_pos c25] at H
              have c25b0 : decide (0 ≤ x19_2) = true := decide_eq_true c25
              clear c25
              by_cases c26 : x19_2 < (l0_4.length : Int)
              ·rw [if_pos c26] at H
               have c26b0 : decide (x19_2 < (l0_4.length : Int)) = true := decide_eq_true c26
               clear c26
               replace H := bI_ H
               obtain ⟨⟨t1426, t1427⟩, A270, H⟩ := H
               (try dsimp only at H)
               have A27 := aA_ A270
               clear A270
               by_cases c28 : t1426 > x18_2
               ·rw [if_pos c28] at H
                have c28b0 : decide (x18_2 < t1426) = true := decide_eq_true c28
                clear c28
                have H' := aA_ H
                clear H
                have p1425 : 0 ≤ (x19_2 : Int) := of_decide_eq_true (by first | (with_reducible assumption) | assumption)
                have q1425 : x19_2 < (l0_4.length : Int) := of_decide_eq_true (by first | (with_reducible assumption) | assumption)
                obtain ⟨ad1425, e1425, hx1425_0, hx1425_1⟩ := at_T56 HR0_4.out x19_2 p1425 q1425
                cases e1425
                replace hx1425_0 := cC_ HB hx1425_0
                replace hx1425_1 := cC_ HB hx1425_1
                replace p1425 := eq_true p1425
                replace q1425 := eq_true q1425
                go_wp2_with (first | (refine goesL_ (some 120) rfl rfl Try.func26 (by kernel_rfl) rfl #[.int .i64 (wrap64 (Int.tmod a0_0 900000000000000)), .int .i64 (Int.tmod (wrap64 (a0_2)) 4501), .agg #[.int .i64 ((rd_T56 l0_4 x19_2).f0), .int .i64 ((rd_T56 l0_4 x19_2).f1)]] rfl (by (try simp only [mT_, mC_, mN_]); first | done | rfl) ?_; (with_reducible refine (demurrageref18_Of.calls k2 (wrap64 (Int.tmod a0_0 900000000000000)) (Int.tmod (wrap64 (a0_2)) 4501) ((rd_T56 l0_4 x19_2).f0) ((rd_T56 l0_4 x19_2).f1) t1426 t1427 _ A27.out).mono ?_); rintro e w29 ⟨rfl, hb⟩; refine ⟨_, rfl, ?_⟩; replace BK1353 := bK_ BK1353 hb; replace HB := bB_ (by repeat (with_reducible first | exact HB.out | apply bA_ | apply bN_ | apply bD_ | refine bS_ ?_ GE1353.out)) hb; (try clear hb)))
                go_roundg k2
                case measure => have := HJ2.out; have := HK2.out; omega
                case rel => exact ⟨(t1426), (wrap64 (x19_2 + 1)), (by first | rfl | simp | simp [*]), (by first | rfl | simp | simp [*]), H', ⟨by have := HJ2.out; have := HK2.out; omega⟩, ⟨by exact BK1353.out⟩, ⟨by repeat (with_reducible first | exact HB.out | apply bA_ | apply bN_ | apply bD_ | refine bS_ ?_ GE1353.out)⟩⟩
               ·rw [if_neg c28] at H
                have c28b0 : decide (x18_2 < t1426) = false := decide_eq_false c28
                clear c28
                have H' := aA_ H
                clear H
                have p1425 : 0 ≤ (x19_2 : Int) := of_decide_eq_true (by first | (with_reducible assumption) | assumption)
                have q1425 : x19_2 < (l0_4.length : Int) := of_decide_eq_true (by first | (with_reducible assumption) | assumption)
                obtain ⟨ad1425, e1425, hx1425_0, hx1425_1⟩ := at_T56 HR0_4.out x19_2 p1425 q1425
                cases e1425
                replace hx1425_0 := cC_ HB hx1425_0
                replace hx1425_1 := cC_ HB hx1425_1
                replace p1425 := eq_true p1425
                replace q1425 := eq_true q1425
                go_wp2_with (first | (refine goesL_ (some 120) rfl rfl Try.func26 (by kernel_rfl) rfl #[.int .i64 (wrap64 (Int.tmod a0_0 900000000000000)), .int .i64 (Int.tmod (wrap64 (a0_2)) 4501), .agg #[.int .i64 ((rd_T56 l0_4 x19_2).f0), .int .i64 ((rd_T56 l0_4 x19_2).f1)]] rfl (by (try simp only [mT_, mC_, mN_]); first | done | rfl) ?_; (with_reducible refine (demurrageref18_Of.calls k2 (wrap64 (Int.tmod a0_0 900000000000000)) (Int.tmod (wrap64 (a0_2)) 4501) ((rd_T56 l0_4 x19_2).f0) ((rd_T56 l0_4 x19_2).f1) t1426 t1427 _ A27.out).mono ?_); rintro e w30 ⟨rfl, hb⟩; refine ⟨_, rfl, ?_⟩; replace BK1353 := bK_ BK1353 hb; replace HB := bB_ (by repeat (with_reducible first | exact HB.out | apply bA_ | apply bN_ | apply bD_ | refine bS_ ?_ GE1353.out)) hb; (try clear hb)))
                go_roundg k2
                case measure => have := HJ2.out; have := HK2.out; omega
                case rel => exact ⟨(x18_2), (wrap64 (x19_2 + 1)), (by first | rfl | simp | simp [*]), (by first | rfl | simp | simp [*]), H', ⟨by have := HJ2.out; have := HK2.out; omega⟩, ⟨by exact BK1353.out⟩, ⟨by repeat (with_reducible first | exact HB.out | apply bA_ | apply bN_ | apply bD_ | refine bS_ ?_ GE1353.out)⟩⟩
              ·rw [if_neg c26] at H
               exact absurd H (by simp)
             ·rw [if_neg c25] at H
              exact absurd H (by simp)
            ·rw [if_neg c24] at H
             have c24b0 : decide (x19_2 < (l0_4.length : Int)) = false := decide_eq_false c24
             clear c24
             by_cases c31 : t1354 = true
             ·subst c31
              rw [if_pos rfl] at H
              obtain rfl := Option.some.inj H
              go_wp2
              go_ret
              exact ⟨by rfl, by repeat (with_reducible first | exact HB.out | apply bA_ | apply bN_ | apply bD_ | refine bS_ ?_ GE1353.out)⟩
             ·replace c31 := Bool.eq_false_iff.mpr c31
              subst c31
              rw [if_neg (show ¬ (false = true) by decide)] at H
              exact absurd H (by simp)
      ·rw [if_neg c17] at H
       exact absurd H (by simp)
     ·rw [if_neg c16] at H
      exact absurd H (by simp)
    ·rw [if_neg c15] at H
     exact absurd H (by simp)

end Go.Proofs.Yteikafepdkijdaa.X
