-- cut by prune.py, a program of this session
import Derived.Test.YteikafepdkijdaaPLevelLeastX0
import Derived.Test.YteikafepdkijdaaPLevelLeastXUsual
import Derived.Test.YteikafepdkijdaaPLevelLeastXEnds
import Derived.Test.YteikafepdkijdaaPLevelLeastXRefLevel
import Derived.Test.YteikafepdkijdaaPLevelLeastXShownL
import Derived.Test.YteikafepdkijdaaPLevelLeastHLeast
namespace Go.Proofs.Yteikafepdkijdaa.X
open Go.RowKit Go.Proofs.YteikafepdkijdaaW.PrintWords Go.Proofs.YteikafepdkijdaaW.PrintLast Go.Proofs.YteikafepdkijdaaW.PrintMore
attribute [local go_sem] max2_int min2_int max_two min_two
set_option linter.unusedVariables false
set_option linter.unusedSimpArgs false

def demurragelaw20_LevelLeast.j0 : Nat → Int → Int → List (S56) → Int → Bool → Bool → Option (Bool)
 | 0, _, _, _, _, _, _ => none
 | k + 1, x3, x4, x5, x6, x7, x42 => if x42 = true then (some x7) else ((level_Least.f k (wrap64 (Int.tmod x3 1000000000000001)) (Int.tmod (wrap64 (x4)) 9001) x5).bind fun bt952 => (if bt952.2 = 0 then (if bt952.1 < 0 then (none) else ((demurrageref20_Ends.f k (wrap64 (Int.tmod x3 1000000000000001)) (Int.tmod (wrap64 (x4)) 9001) x5 bt952.1).bind fun bt1080 => (if bt1080.2 = 0 then (if bt1080.1 = true then (if bt952.1 > 0 then ((demurrageref20_Ends.f k (wrap64 (Int.tmod x3 1000000000000001)) (Int.tmod (wrap64 (x4)) 9001) x5 (wrap64 (bt952.1 - 1))).bind fun bt1112 => (if bt1112.1 = true then (none) else ((demurrageref20_Ends.f k (wrap64 (Int.tmod x3 1000000000000001)) (Int.tmod (wrap64 (x4)) 9001) x5 (wrap64 (Int.tmod x6 2000000000000000))).bind fun bt1114 => ((level_Ends.f k (wrap64 (Int.tmod x3 1000000000000001)) (Int.tmod (wrap64 (x4)) 9001) x5 (wrap64 (Int.tmod x6 2000000000000000))).bind fun bt1116 => (if x7 = true then (if (bt1114.1 == (decide ((wrap64 (Int.tmod x6 2000000000000000)) ≥ bt952.1))) = true then (if (bt1116.1 == bt1114.1) = true then (some (bt1116.2 == 0)) else (none)) else (none)) else (none)))))) else ((demurrageref20_Ends.f k (wrap64 (Int.tmod x3 1000000000000001)) (Int.tmod (wrap64 (x4)) 9001) x5 (wrap64 (Int.tmod x6 2000000000000000))).bind fun bt1118 => ((level_Ends.f k (wrap64 (Int.tmod x3 1000000000000001)) (Int.tmod (wrap64 (x4)) 9001) x5 (wrap64 (Int.tmod x6 2000000000000000))).bind fun bt1120 => (if x7 = true then (if (bt1118.1 == (decide ((wrap64 (Int.tmod x6 2000000000000000)) ≥ bt952.1))) = true then (if (bt1120.1 == bt1118.1) = true then (some (bt1120.2 == 0)) else (none)) else (none)) else (none))))) else (none)) else (none)))) else (none)))
def demurragelaw20_LevelLeast.f (k : Nat) (a0_0 : Int) (a0_1 : Int) (l0_2 : List (S56)) (a0_3 : Int) : Option (Bool) := (demurragelaw20_shown.f k).bind fun t440 => (if (l0_2.length : Int) < 1 then (demurragelaw20_LevelLeast.j0 k a0_0 a0_1 l0_2 a0_3 t440 true) else (if (l0_2.length : Int) > 30 then (demurragelaw20_LevelLeast.j0 k a0_0 a0_1 l0_2 a0_3 t440 true) else ((demurrageref18_Usual.f k l0_2).bind fun t441 => (demurragelaw20_LevelLeast.j0 k a0_0 a0_1 l0_2 a0_3 t440 (!t441)))))
set_option maxHeartbeats 8000000 in
set_option maxRecDepth 100000 in
theorem demurragelaw20_LevelLeast.calls (k : Nat) (a0_0 : Int) (a0_1 : Int) (A0_2 : Option Addr) (c0_2 : Nat) (l0_2 : List (S56)) (a0_3 : Int) (r : Bool) (w : World) (hr0_2 : Kd.C k56 w A0_2 l0_2.length l0_2) (hc0_2 : l0_2.length ≤ c0_2) (h : demurragelaw20_LevelLeast.f k a0_0 a0_1 l0_2 a0_3 = some r) :
  Calls Try.prog 4 #[.agg #[.int .u64 a0_0, .int .u16 a0_1, .slice A0_2 l0_2.length c0_2, .int .u64 a0_3]] w fun e w' => e = .returned (.bool r) ∧ Below w.heap.size w w' := by
 have hu41 := Try.underlying41
 have HR0_2 := aA_ hr0_2
 have HC0_2 := aA_ hc0_2
 clear hr0_2 hc0_2
 have HB := aA_ (Below.refl w.heap.size w)
 have H : ((demurragelaw20_shown.f k).bind fun t440 => (if (l0_2.length : Int) < 1 then (demurragelaw20_LevelLeast.j0 k a0_0 a0_1 l0_2 a0_3 t440 true) else (if (l0_2.length : Int) > 30 then (demurragelaw20_LevelLeast.j0 k a0_0 a0_1 l0_2 a0_3 t440 true) else ((demurrageref18_Usual.f k l0_2).bind fun t441 => (demurragelaw20_LevelLeast.j0 k a0_0 a0_1 l0_2 a0_3 t440 (!t441)))))) = some r := h
 clear h
 replace H := bI_ H
 obtain ⟨t440, A20, H⟩ := H
 (try dsimp only at H)
 have A2 := aA_ A20
 clear A20
 have HC3 := aA_ H
 clear H
 go_enter Try.func4, Try.ntmps4
 go_upto_region 6 with (first | ((with_reducible refine gate_dst (N := 1) rfl ?_); (try (refine gate_guard (by rfl) ?_; dsimp only)); refine box_event rfl (N := 1) rfl (cs := #[.int .u64 a0_0, .int .u16 a0_1, .slice A0_2 l0_2.length c0_2, .int .u64 a0_3]) (t := 41) ?hr ?_; (case hr => go_simp <;> rfl); intro gb439 hg w4 hbox hb; have BK439 := aA_ (hbox); have GW439 := gW_ hg (by repeat (with_reducible first | exact HB.out | apply bA_ | apply bN_ | apply bD_)); have GE439 := GW439; replace HB := bB_ (by repeat (with_reducible first | exact HB.out | apply bA_ | apply bN_ | apply bD_)) hb; clear hb hbox hg; have hcz5_0 : w4.cell? ⟨gb439, 0, none⟩ = some (.int .u64 a0_0) := (blk_cell BK439.out 0).trans rfl; have hcz5_1 : w4.cell? ⟨gb439, 1, none⟩ = some (.int .u16 a0_1) := (blk_cell BK439.out 1).trans rfl; have hcz5_2 : w4.cell? ⟨gb439, 2, none⟩ = some (.slice A0_2 l0_2.length c0_2) := (blk_cell BK439.out 2).trans rfl; have hcz5_3 : w4.cell? ⟨gb439, 3, none⟩ = some (.int .u64 a0_3) := (blk_cell BK439.out 3).trans rfl; have hfz5_0 := blk_frozen BK439.out 0; have hfz5_1 := blk_frozen BK439.out 1; have hfz5_2 := blk_frozen BK439.out 2; have hfz5_3 := blk_frozen BK439.out 3) | (refine goesL_ (some 29) rfl rfl Try.func15 (by kernel_rfl) rfl #[] rfl (by (try simp only [mT_, mC_, mN_]); first | done | rfl) ?_; (with_reducible refine (demurragelaw20_shown.calls k  t440 _ A2.out).mono ?_); rintro e w6 ⟨rfl, hb⟩; refine ⟨_, rfl, ?_⟩; replace BK439 := bK_ BK439 hb; replace HB := bB_ (by repeat (with_reducible first | exact HB.out | apply bA_ | apply bN_ | apply bD_ | refine bS_ ?_ GE439.out)) hb; (try clear hb)))
 (try simp only [Act.put, sT_, sZ_, sS_])
 go_cut [42] (fun v42 wc => ∃ (kq : Nat) (x42_2 : Bool), v42 = .bool x42_2 ∧ Aside0 (demurragelaw20_LevelLeast.j0 kq a0_0 a0_1 l0_2 a0_3 t440 x42_2 = some r) ∧ Aside0 (kq ≤ k) ∧ Aside0 (wc.heap[gb439]? = some (.cells #[.int .u64 a0_0, .int .u16 a0_1, (.slice A0_2 l0_2.length c0_2), .int .u64 a0_3] 41 (0, 0))) ∧ Aside0 (Below w.heap.size w wc))
 case first =>
  have H := HC3.out
  clear HC3
  by_cases c7 : (l0_2.length : Int) < 1
  ·rw [if_pos c7] at H
   have c7b0 : decide ((l0_2.length : Int) < 1) = true := decide_eq_true c7
   have c7b1 : decide (l0_2.length < 1) = true := decide_eq_true (by omega)
   clear c7
   (first | rw [c7b0] | (simp only [i64_w, i32_w]; rw [c7b0]) | rw [c7b1] | skip)
   have H' := aA_ H
   clear H
   go_wp2
   go_meet
   case rel => exact ⟨_, _, (by first | rfl | simp | simp [*]), H', ⟨by first | omega | exact Nat.le_refl _⟩, ⟨by exact BK439.out⟩, ⟨by repeat (with_reducible first | exact HB.out | apply bA_ | apply bN_ | apply bD_ | refine bS_ ?_ GE439.out)⟩⟩
  ·rw [if_neg c7] at H
   have c7b0 : decide ((l0_2.length : Int) < 1) = false := decide_eq_false c7
   have c7b1 : decide (l0_2.length < 1) = false := decide_eq_false (by omega)
   clear c7
   (first | rw [c7b0] | (simp only [i64_w, i32_w]; rw [c7b0]) | rw [c7b1] | skip)
   by_cases c8 : (l0_2.length : Int) > 30
   ·rw [if_pos c8] at H
    have c8b0 : decide (30 < (l0_2.length : Int)) = true := decide_eq_true c8
    have c8b1 : decide (30 < l0_2.length) = true := decide_eq_true (by omega)
    clear c8
    have H' := aA_ H
    clear H
    go_wp2
    go_meet
    case rel => exact ⟨_, _, (by first | rfl | simp | simp [*]), H', ⟨by first | omega | exact Nat.le_refl _⟩, ⟨by exact BK439.out⟩, ⟨by repeat (with_reducible first | exact HB.out | apply bA_ | apply bN_ | apply bD_ | refine bS_ ?_ GE439.out)⟩⟩
   ·rw [if_neg c8] at H
    have c8b0 : decide (30 < (l0_2.length : Int)) = false := decide_eq_false c8
    have c8b1 : decide (30 < l0_2.length) = false := decide_eq_false (by omega)
    clear c8
    replace H := bI_ H
    obtain ⟨t441, A90, H⟩ := H
    (try dsimp only at H)
    have A9 := aA_ A90
    clear A90
    have H' := aA_ H
    clear H
    go_wp2_with (first | (go_at_call 21; (with_reducible refine (demurrageref18_Usual.calls k _ _ l0_2 t441 _ ?side1 ?side2 A9.out).mono ?_); (case side1 => repeat (first | exact (Kd.C_below HR0_2.out HB.out) | (with_reducible first | refine Kd.C_alloc ?_ _ | refine Kd.C_drewN ?_ _ | refine Kd.C_drew ?_))); (case side2 => exact HC0_2.out); rintro e w10 ⟨rfl, hb⟩; replace BK439 := bK_ BK439 hb; replace HB := bB_ (by repeat (with_reducible first | exact HB.out | apply bA_ | apply bN_ | apply bD_ | refine bS_ ?_ GE439.out)) hb; (try clear hb)))
    go_meet
    case rel => exact ⟨_, _, (by first | rfl | simp | simp [*]), H', ⟨by first | omega | exact Nat.le_refl _⟩, ⟨by exact BK439.out⟩, ⟨by repeat (with_reducible first | exact HB.out | apply bA_ | apply bN_ | apply bD_ | refine bS_ ?_ GE439.out)⟩⟩
 case rest =>
  clear HC3
  try clear c1
  try clear p2
  try clear c4
  try clear c7
  try clear c7b0
  try clear c7b1
  try clear c8
  try clear c8b0
  try clear c8b1
  try clear hcz5_0
  try clear hcz5_1
  try clear hcz5_2
  try clear hcz5_3
  try clear hfz5_0
  try clear hfz5_1
  try clear hfz5_2
  try clear hfz5_3
  obtain ⟨kq, x42_2, rfl, HA, HJ2, BK439, HB⟩ := hcut
  cases kq with
  | zero => exact absurd HA.out (by simp [demurragelaw20_LevelLeast.j0])
  | succ kj2 =>
   have H := HA.out
   clear HA
   simp only [demurragelaw20_LevelLeast.j0] at H
   by_cases c11 : x42_2 = true
   ·subst c11
    rw [if_pos rfl] at H
    obtain rfl := Option.some.inj H
    go_wp2
    go_ret
    exact ⟨by rfl, by repeat (with_reducible first | exact HB.out | apply bA_ | apply bN_ | apply bD_ | refine bS_ ?_ GE439.out)⟩
   ·replace c11 := Bool.eq_false_iff.mpr c11
    subst c11
    rw [if_neg (show ¬ (false = true) by decide)] at H
    replace H := bI_ H
    obtain ⟨⟨t952, t953⟩, A120, H⟩ := H
    (try dsimp only at H)
    have A12 := aA_ A120
    clear A120
    by_cases c13 : t953 = 0
    ·rw [if_pos c13] at H
     have c13b0 : (t953 == 0) = true := beq_iff_eq.mpr c13
     have c13b1 : (t953 != 0) = false := bne_eq_false_iff_eq.mpr c13
     clear c13
     by_cases c14 : t952 < 0
     ·rw [if_pos c14] at H
      exact absurd H (by simp)
     ·rw [if_neg c14] at H
      have c14b0 : decide (t952 < 0) = false := decide_eq_false c14
      clear c14
      replace H := bI_ H
      obtain ⟨⟨t1080, t1081⟩, A150, H⟩ := H
      (try dsimp only at H)
      have A15 := aA_ A150
      clear A150
      by_cases c16 : t1081 = 0
      ·rw [if_pos c16] at H
       have c16b0 : (t1081 == 0) = true := beq_iff_eq.mpr c16
       have c16b1 : (t1081 != 0) = false := bne_eq_false_iff_eq.mpr c16
       clear c16
       by_cases c17 : t1080 = true
       ·subst c17
        rw [if_pos rfl] at H
        by_cases c18 : t952 > 0
        ·rw [if_pos c18] at H
         have c18b0 : decide (0 < t952) = true := decide_eq_true c18
         clear c18
         replace H := bI_ H
         obtain ⟨⟨t1112, t1113⟩, A190, H⟩ := H
         (try dsimp only at H)
         have A19 := aA_ A190
         clear A190
         by_cases c20 : t1112 = true
         ·subst c20
          rw [if_pos rfl] at H
          exact absurd H (by simp)
         ·replace c20 := Bool.eq_false_iff.mpr c20
          subst c20
          rw [if_neg (show ¬ (false = true) by decide)] at H
          replace H := bI_ H
          obtain ⟨⟨t1114, t1115⟩, A210, H⟩ := H
          (try dsimp only at H)
          have A21 := aA_ A210
          clear A210
          replace H := bI_ H
          obtain ⟨⟨t1116, t1117⟩, A220, H⟩ := H
          (try dsimp only at H)
          have A22 := aA_ A220
          clear A220
          by_cases c23 : t440 = true
          ·subst c23
           rw [if_pos rfl] at H
           by_cases c24 : (t1114 == (decide ((wrap64 (Int.tmod a0_3 2000000000000000)) ≥ t952))) = true
           ·rw [if_pos c24] at H
            have c24b0 : (t1114 == (decide ((wrap64 (Int.tmod a0_3 2000000000000000)) ≥ t952))) = true := c24
            (try (have c24b1 : decide (t1114 = (decide ((wrap64 (Int.tmod a0_3 2000000000000000)) ≥ t952))) = true := by simpa using c24))
            (try (have c24b2 : (t1114 == (decide ((wrap64 (Int.tmod a0_3 2000000000000000)) ≥ t952))) = true := by simpa using c24))
            clear c24
            by_cases c25 : (t1116 == t1114) = true
            ·rw [if_pos c25] at H
             have c25b0 : (t1116 == t1114) = true := c25
             (try (have c25b1 : decide (t1116 = t1114) = true := by simpa using c25))
             (try (have c25b2 : (t1116 == t1114) = true := by simpa using c25))
             clear c25
             obtain rfl := Option.some.inj H
             go_wp2_with (first | (refine goesL_ (some 54) rfl rfl Try.func18 (by kernel_rfl) rfl #[.int .i64 (wrap64 (Int.tmod a0_0 1000000000000001)), .int .i64 (Int.tmod (wrap64 (a0_1)) 9001), .slice A0_2 l0_2.length c0_2] rfl (by (try simp only [mT_, mC_, mN_]); first | done | rfl) ?_; (with_reducible refine (level_Least.calls kj2 (wrap64 (Int.tmod a0_0 1000000000000001)) (Int.tmod (wrap64 (a0_1)) 9001) _ _ l0_2 t952 t953 _ ?side1 ?side2 A12.out).mono ?_); (case side1 => repeat (first | exact (Kd.C_below HR0_2.out HB.out) | (with_reducible first | refine Kd.C_alloc ?_ _ | refine Kd.C_drewN ?_ _ | refine Kd.C_drew ?_))); (case side2 => exact HC0_2.out); rintro e w26 ⟨rfl, hb⟩; refine ⟨_, rfl, ?_⟩; replace BK439 := bK_ BK439 hb; replace HB := bB_ (by repeat (with_reducible first | exact HB.out | apply bA_ | apply bN_ | apply bD_ | refine bS_ ?_ GE439.out)) hb; (try clear hb)) | (refine goesL_ (some 68) rfl rfl Try.func17 (by kernel_rfl) rfl #[.int .i64 (wrap64 (Int.tmod a0_0 1000000000000001)), .int .i64 (Int.tmod (wrap64 (a0_1)) 9001), .slice A0_2 l0_2.length c0_2, .int .i64 t952] rfl (by (try simp only [mT_, mC_, mN_]); first | done | rfl) ?_; (with_reducible refine (demurrageref20_Ends.calls kj2 (wrap64 (Int.tmod a0_0 1000000000000001)) (Int.tmod (wrap64 (a0_1)) 9001) _ _ l0_2 t952 true t1081 _ ?side1 ?side2 A15.out).mono ?_); (case side1 => repeat (first | exact (Kd.C_below HR0_2.out HB.out) | (with_reducible first | refine Kd.C_alloc ?_ _ | refine Kd.C_drewN ?_ _ | refine Kd.C_drew ?_))); (case side2 => exact HC0_2.out); rintro e w27 ⟨rfl, hb⟩; refine ⟨_, rfl, ?_⟩; replace BK439 := bK_ BK439 hb; replace HB := bB_ (by repeat (with_reducible first | exact HB.out | apply bA_ | apply bN_ | apply bD_ | refine bS_ ?_ GE439.out)) hb; (try clear hb)) | (refine goesL_ (some 85) rfl rfl Try.func17 (by kernel_rfl) rfl #[.int .i64 (wrap64 (Int.tmod a0_0 1000000000000001)), .int .i64 (Int.tmod (wrap64 (a0_1)) 9001), .slice A0_2 l0_2.length c0_2, .int .i64 (wrap64 (t952 - 1))] rfl (by (try simp only [mT_, mC_, mN_]); first | done | rfl) ?_; (with_reducible refine (demurrageref20_Ends.calls kj2 (wrap64 (Int.tmod a0_0 1000000000000001)) (Int.tmod (wrap64 (a0_1)) 9001) _ _ l0_2 (wrap64 (t952 - 1)) false t1113 _ ?side1 ?side2 A19.out).mono ?_); (case side1 => repeat (first | exact (Kd.C_below HR0_2.out HB.out) | (with_reducible first | refine Kd.C_alloc ?_ _ | refine Kd.C_drewN ?_ _ | refine Kd.C_drew ?_))); (case side2 => exact HC0_2.out); rintro e w28 ⟨rfl, hb⟩; refine ⟨_, rfl, ?_⟩; replace BK439 := bK_ BK439 hb; replace HB := bB_ (by repeat (with_reducible first | exact HB.out | apply bA_ | apply bN_ | apply bD_ | refine bS_ ?_ GE439.out)) hb; (try clear hb)) | (refine goesL_ (some 97) rfl rfl Try.func17 (by kernel_rfl) rfl #[.int .i64 (wrap64 (Int.tmod a0_0 1000000000000001)), .int .i64 (Int.tmod (wrap64 (a0_1)) 9001), .slice A0_2 l0_2.length c0_2, .int .i64 (wrap64 (Int.tmod a0_3 2000000000000000))] rfl (by (try simp only [mT_, mC_, mN_]); first | done | rfl) ?_; (with_reducible refine (demurrageref20_Ends.calls kj2 (wrap64 (Int.tmod a0_0 1000000000000001)) (Int.tmod (wrap64 (a0_1)) 9001) _ _ l0_2 (wrap64 (Int.tmod a0_3 2000000000000000)) t1114 t1115 _ ?side1 ?side2 A21.out).mono ?_); (case side1 => repeat (first | exact (Kd.C_below HR0_2.out HB.out) | (with_reducible first | refine Kd.C_alloc ?_ _ | refine Kd.C_drewN ?_ _ | refine Kd.C_drew ?_))); (case side2 => exact HC0_2.out); rintro e w29 ⟨rfl, hb⟩; refine ⟨_, rfl, ?_⟩; replace BK439 := bK_ BK439 hb; replace HB := bB_ (by repeat (with_reducible first | exact HB.out | apply bA_ | apply bN_ | apply bD_ | refine bS_ ?_ GE439.out)) hb; (try clear hb)) | (refine goesL_ (some 105) rfl rfl Try.func16 (by kernel_rfl) rfl #[.int .i64 (wrap64 (Int.tmod a0_0 1000000000000001)), .int .i64 (Int.tmod (wrap64 (a0_1)) 9001), .slice A0_2 l0_2.length c0_2, .int .i64 (wrap64 (Int.tmod a0_3 2000000000000000))] rfl (by (try simp only [mT_, mC_, mN_]); first | done | rfl) ?_; (with_reducible refine (level_Ends.calls kj2 (wrap64 (Int.tmod a0_0 1000000000000001)) (Int.tmod (wrap64 (a0_1)) 9001) _ _ l0_2 (wrap64 (Int.tmod a0_3 2000000000000000)) t1116 t1117 _ ?side1 ?side2 A22.out).mono ?_); (case side1 => repeat (first | exact (Kd.C_below HR0_2.out HB.out) | (with_reducible first | refine Kd.C_alloc ?_ _ | refine Kd.C_drewN ?_ _ | refine Kd.C_drew ?_))); (case side2 => exact HC0_2.out); rintro e w30 ⟨rfl, hb⟩; refine ⟨_, rfl, ?_⟩; replace BK439 := bK_ BK439 hb; replace HB := bB_ (by repeat (with_reducible first | exact HB.out | apply bA_ | apply bN_ | apply bD_ | refine bS_ ?_ GE439.out)) hb; (try clear hb)))
             go_ret
             exact ⟨by rfl, by repeat (with_reducible first | exact HB.out | apply bA_ | apply bN_ | apply bD_ | refine bS_ ?_ GE439.out)⟩
            ·rw [if_neg c25] at H
             exact absurd H (by simp)
           ·rw [if_neg c24] at H
            exact absurd H (by simp)
          ·replace c23 := Bool.eq_false_iff.mpr c23
           subst c23
           rw [if_neg (show ¬ (false = true) by decide)] at H
           exact absurd H (by simp)
        ·rw [if_neg c18] at H
         have c18b0 : decide (0 < t952) = false := decide_eq_false c18
         clear c18
         replace H := bI_ H
         obtain ⟨⟨t1118, t1119⟩, A310, H⟩ := H
         (try dsimp only at H)
         have A31 := aA_ A310
         clear A310
         replace H := bI_ H
         obtain ⟨⟨t1120, t1121⟩, A320, H⟩ := H
         (try dsimp only at H)
         have A32 := aA_ A320
         clear A320
         by_cases c33 : t440 = true
         ·subst c33
          rw [if_pos rfl] at H
          by_cases c34 : (t1118 == (decide ((wrap64 (Int.tmod a0_3 2000000000000000)) ≥ t952))) = true
          ·rw [if_pos c34] at H
           have c34b0 : (t1118 == (decide ((wrap64 (Int.tmod a0_3 2000000000000000)) ≥ t952))) = true := c34
           (try (have c34b1 : decide (t1118 = (decide ((wrap64 (Int.tmod a0_3 2000000000000000)) ≥ t952))) = true := by simpa using c34))
           (try (have c34b2 : (t1118 == (decide ((wrap64 (Int.tmod a0_3 2000000000000000)) ≥ t952))) = true := by simpa using c34))
           clear c34
           by_cases c35 : (t1120 == t1118) = true
           ·rw [if_pos c35] at H
            have c35b0 : (t1120 == t1118) = true := c35
            (try (have c35b1 : decide (t1120 = t1118) = true := by simpa using c35))
            (try (have c35b2 : (t1120 == t1118) = true := by simpa using c35))
            clear c35
            obtain rfl := Option.some.inj H
            go_wp2_with (first | (refine goesL_ (some 54) rfl rfl Try.func18 (by kernel_rfl) rfl #[.int .i64 (wrap64 (Int.tmod a0_0 1000000000000001)), .int .i64 (Int.tmod (wrap64 (a0_1)) 9001), .slice A0_2 l0_2.length c0_2] rfl (by (try simp only [mT_, mC_, mN_]); first | done | rfl) ?_; (with_reducible refine (level_Least.calls kj2 (wrap64 (Int.tmod a0_0 1000000000000001)) (Int.tmod (wrap64 (a0_1)) 9001) _ _ l0_2 t952 t953 _ ?side1 ?side2 A12.out).mono ?_); (case side1 => repeat (first | exact (Kd.C_below HR0_2.out HB.out) | (with_reducible first | refine Kd.C_alloc ?_ _ | refine Kd.C_drewN ?_ _ | refine Kd.C_drew ?_))); (case side2 => exact HC0_2.out); rintro e w36 ⟨rfl, hb⟩; refine ⟨_, rfl, ?_⟩; replace BK439 := bK_ BK439 hb; replace HB := bB_ (by repeat (with_reducible first | exact HB.out | apply bA_ | apply bN_ | apply bD_ | refine bS_ ?_ GE439.out)) hb; (try clear hb)) | (refine goesL_ (some 68) rfl rfl Try.func17 (by kernel_rfl) rfl #[.int .i64 (wrap64 (Int.tmod a0_0 1000000000000001)), .int .i64 (Int.tmod (wrap64 (a0_1)) 9001), .slice A0_2 l0_2.length c0_2, .int .i64 t952] rfl (by (try simp only [mT_, mC_, mN_]); first | done | rfl) ?_; (with_reducible refine (demurrageref20_Ends.calls kj2 (wrap64 (Int.tmod a0_0 1000000000000001)) (Int.tmod (wrap64 (a0_1)) 9001) _ _ l0_2 t952 true t1081 _ ?side1 ?side2 A15.out).mono ?_); (case side1 => repeat (first | exact (Kd.C_below HR0_2.out HB.out) | (with_reducible first | refine Kd.C_alloc ?_ _ | refine Kd.C_drewN ?_ _ | refine Kd.C_drew ?_))); (case side2 => exact HC0_2.out); rintro e w37 ⟨rfl, hb⟩; refine ⟨_, rfl, ?_⟩; replace BK439 := bK_ BK439 hb; replace HB := bB_ (by repeat (with_reducible first | exact HB.out | apply bA_ | apply bN_ | apply bD_ | refine bS_ ?_ GE439.out)) hb; (try clear hb)) | (refine goesL_ (some 97) rfl rfl Try.func17 (by kernel_rfl) rfl #[.int .i64 (wrap64 (Int.tmod a0_0 1000000000000001)), .int .i64 (Int.tmod (wrap64 (a0_1)) 9001), .slice A0_2 l0_2.length c0_2, .int .i64 (wrap64 (Int.tmod a0_3 2000000000000000))] rfl (by (try simp only [mT_, mC_, mN_]); first | done | rfl) ?_; (with_reducible refine (demurrageref20_Ends.calls kj2 (wrap64 (Int.tmod a0_0 1000000000000001)) (Int.tmod (wrap64 (a0_1)) 9001) _ _ l0_2 (wrap64 (Int.tmod a0_3 2000000000000000)) t1118 t1119 _ ?side1 ?side2 A31.out).mono ?_); (case side1 => repeat (first | exact (Kd.C_below HR0_2.out HB.out) | (with_reducible first | refine Kd.C_alloc ?_ _ | refine Kd.C_drewN ?_ _ | refine Kd.C_drew ?_))); (case side2 => exact HC0_2.out); rintro e w38 ⟨rfl, hb⟩; refine ⟨_, rfl, ?_⟩; replace BK439 := bK_ BK439 hb; replace HB := bB_ (by repeat (with_reducible first | exact HB.out | apply bA_ | apply bN_ | apply bD_ | refine bS_ ?_ GE439.out)) hb; (try clear hb)) | (refine goesL_ (some 105) rfl rfl Try.func16 (by kernel_rfl) rfl #[.int .i64 (wrap64 (Int.tmod a0_0 1000000000000001)), .int .i64 (Int.tmod (wrap64 (a0_1)) 9001), .slice A0_2 l0_2.length c0_2, .int .i64 (wrap64 (Int.tmod a0_3 2000000000000000))] rfl (by (try simp only [mT_, mC_, mN_]); first | done | rfl) ?_; (with_reducible refine (level_Ends.calls kj2 (wrap64 (Int.tmod a0_0 1000000000000001)) (Int.tmod (wrap64 (a0_1)) 9001) _ _ l0_2 (wrap64 (Int.tmod a0_3 2000000000000000)) t1120 t1121 _ ?side1 ?side2 A32.out).mono ?_); (case side1 => repeat (first | exact (Kd.C_below HR0_2.out HB.out) | (with_reducible first | refine Kd.C_alloc ?_ _ | refine Kd.C_drewN ?_ _ | refine Kd.C_drew ?_))); (case side2 => exact HC0_2.out); rintro e w39 ⟨rfl, hb⟩; refine ⟨_, rfl, ?_⟩; replace BK439 := bK_ BK439 hb; replace HB := bB_ (by repeat (with_reducible first | exact HB.out | apply bA_ | apply bN_ | apply bD_ | refine bS_ ?_ GE439.out)) hb; (try clear hb)))
            go_ret
            exact ⟨by rfl, by repeat (with_reducible first | exact HB.out | apply bA_ | apply bN_ | apply bD_ | refine bS_ ?_ GE439.out)⟩
           ·rw [if_neg c35] at H
            exact absurd H (by simp)
          ·rw [if_neg c34] at H
           exact absurd H (by simp)
         ·replace c33 := Bool.eq_false_iff.mpr c33
          subst c33
          rw [if_neg (show ¬ (false = true) by decide)] at H
          exact absurd H (by simp)
       ·replace c17 := Bool.eq_false_iff.mpr c17
        subst c17
        rw [if_neg (show ¬ (false = true) by decide)] at H
        exact absurd H (by simp)
      ·rw [if_neg c16] at H
       exact absurd H (by simp)
    ·rw [if_neg c13] at H
     exact absurd H (by simp)

end Go.Proofs.Yteikafepdkijdaa.X
