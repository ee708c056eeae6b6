-- cut by prune.py, a program of this session
import Derived.Test.YteikafepdkijdaaPLevelFreeX0
import Derived.Test.YteikafepdkijdaaPLevelFreeXRefOf
import Derived.Test.YteikafepdkijdaaPLevelFreeXUsual
import Derived.Test.YteikafepdkijdaaPLevelFreeXShownL
import Derived.Test.YteikafepdkijdaaPLevelFreeHLeast
namespace Go.Proofs.Yteikafepdkijdaa.X
open Go.RowKit Go.Proofs.YteikafepdkijdaaW.PrintWords Go.Proofs.YteikafepdkijdaaW.PrintLast Go.Proofs.YteikafepdkijdaaW.PrintMore
attribute [local go_sem] max2_int min2_int max_two min_two
set_option linter.unusedVariables false
set_option linter.unusedSimpArgs false

def demurragelaw20_LevelFree.j0 : Nat → Int → Int → List (S56) → Bool → Int → Bool → Option (Bool)
 | 0, _, _, _, _, _, _ => none
 | k + 1, x0, x1, x2, x7, x8, x32 => if x32 = true then (some x7) else ((level_Least.f k (wrap64 (Int.tmod x0 1000000000000001)) 0 x2).bind fun bt1340 => (if 1 ≤ (x2.length : Int) then ((level_Least.f k (wrap64 (Int.tmod x0 1000000000000001)) (Int.tmod (wrap64 (x1)) 9001) (x2.take 1)).bind fun bt1346 => ((level_Least.f k 0 (Int.tmod (wrap64 (x1)) 9001) x2).bind fun bt1348 => (if 0 < (x2.length : Int) then ((demurrageref18_Of.f k (wrap64 (Int.tmod x0 1000000000000001)) (Int.tmod (wrap64 (x1)) 9001) ((rd_T56 x2 0).f0) ((rd_T56 x2 0).f1)).bind fun bt1351 => (if x7 = true then (if bt1340.2 = 0 then (if bt1346.2 = 0 then (if bt1348.2 = 0 then (if bt1351.2 = 0 then (if x8 = 0 then (none) else (if bt1340.1 = (wrap64 (Int.tdiv (wrap64 ((wrap64 ((wrap64 (Int.tmod x0 1000000000000001)) + x8)) - 1)) x8)) then (if bt1346.1 = (wrap64 ((wrap64 (Int.tmod x0 1000000000000001)) + bt1351.1)) then (some (bt1348.1 == 0)) else (none)) else (none))) else (none)) else (none)) else (none)) else (none)) else (none))) else (none)))) else (none)))
def demurragelaw20_LevelFree.f (k : Nat) (a0 : Int) (a1 : Int) (l2 : List (S56)) : Option (Bool) := (demurragelaw20_shown.f k).bind fun t1299 => (if (l2.length : Int) < 1 then (demurragelaw20_LevelFree.j0 k a0 a1 l2 t1299 (l2.length : Int) true) else (if (l2.length : Int) > 30 then (demurragelaw20_LevelFree.j0 k a0 a1 l2 t1299 (l2.length : Int) true) else ((demurrageref18_Usual.f k l2).bind fun t1300 => (demurragelaw20_LevelFree.j0 k a0 a1 l2 t1299 (l2.length : Int) (!t1300)))))
set_option maxHeartbeats 8000000 in
set_option maxRecDepth 100000 in
theorem demurragelaw20_LevelFree.calls (k : Nat) (a0 : Int) (a1 : Int) (A2 : Option Addr) (c2 : Nat) (l2 : List (S56)) (r : Bool) (w : World) (hr2 : Kd.C k56 w A2 l2.length l2) (hc2 : l2.length ≤ c2) (h : demurragelaw20_LevelFree.f k a0 a1 l2 = some r) :
  Calls Try.prog 7 #[.int .u64 a0, .int .u16 a1, .slice A2 l2.length c2] w fun e w' => e = .returned (.bool r) ∧ Below w.heap.size w w' := by
 have hu56 := Try.underlying56
 have HR2 := aA_ hr2
 have HC2 := aA_ hc2
 clear hr2 hc2
 have HB := aA_ (Below.refl w.heap.size w)
 have H : ((demurragelaw20_shown.f k).bind fun t1299 => (if (l2.length : Int) < 1 then (demurragelaw20_LevelFree.j0 k a0 a1 l2 t1299 (l2.length : Int) true) else (if (l2.length : Int) > 30 then (demurragelaw20_LevelFree.j0 k a0 a1 l2 t1299 (l2.length : Int) true) else ((demurrageref18_Usual.f k l2).bind fun t1300 => (demurragelaw20_LevelFree.j0 k a0 a1 l2 t1299 (l2.length : Int) (!t1300)))))) = some r := h
 clear h
 replace H := bI_ H
 obtain ⟨t1299, A40, H⟩ := H
 (try dsimp only at H)
 have A4 := aA_ A40
 clear A40
 have HC5 := aA_ H
 clear H
 go_enter Try.func7, Try.ntmps7
 go_upto_region 3 with (first | (refine goesL_ (some 19) rfl rfl Try.func15 (by kernel_rfl) rfl #[] rfl (by (try simp only [mT_, mC_, mN_]); first | done | rfl) ?_; (with_reducible refine (demurragelaw20_shown.calls k  t1299 _ A4.out).mono ?_); rintro e w6 ⟨rfl, hb⟩; refine ⟨_, rfl, ?_⟩; replace HB := bB_ (by repeat (with_reducible first | exact HB.out | apply bA_ | apply bN_ | apply bD_)) hb; (try clear hb)))
 (try simp only [Act.put, sT_, sZ_, sS_])
 go_cut [32] (fun v32 wc => ∃ (kq : Nat) (x32_4 : Bool), v32 = .bool x32_4 ∧ Aside0 (demurragelaw20_LevelFree.j0 kq a0 a1 l2 t1299 (l2.length : Int) x32_4 = some r) ∧ Aside0 (kq ≤ k) ∧ Aside0 (Below w.heap.size w wc))
 case first =>
  have H := HC5.out
  clear HC5
  by_cases c7 : (l2.length : Int) < 1
  ·rw [if_pos c7] at H
   have c7b0 : decide ((l2.length : Int) < 1) = true := decide_eq_true c7
   have c7b1 : decide (l2.length < 1) = true := decide_eq_true (by omega)
   clear c7
   (first | rw [c7b0] | (simp only [i64_w, i32_w]; rw [c7b0]) | rw [c7b1] | skip)
   have H' := aA_ H
   clear H
   go_wp2
   go_meet
   case rel => exact ⟨_, _, (by first | rfl | simp | simp [*]), H', ⟨by first | omega | exact Nat.le_refl _⟩, ⟨by repeat (with_reducible first | exact HB.out | apply bA_ | apply bN_ | apply bD_)⟩⟩
  ·rw [if_neg c7] at H
   have c7b0 : decide ((l2.length : Int) < 1) = false := decide_eq_false c7
   have c7b1 : decide (l2.length < 1) = false := decide_eq_false (by omega)
   clear c7
   (first | rw [c7b0] | (simp only [i64_w, i32_w]; rw [c7b0]) | rw [c7b1] | skip)
   by_cases c8 : (l2.length : Int) > 30
   ·rw [if_pos c8] at H
    have c8b0 : decide (30 < (l2.length : Int)) = true := decide_eq_true c8
    have c8b1 : decide (30 < l2.length) = true := decide_eq_true (by omega)
    clear c8
    have H' := aA_ H
    clear H
    go_wp2
    go_meet
    case rel => exact ⟨_, _, (by first | rfl | simp | simp [*]), H', ⟨by first | omega | exact Nat.le_refl _⟩, ⟨by repeat (with_reducible first | exact HB.out | apply bA_ | apply bN_ | apply bD_)⟩⟩
   ·rw [if_neg c8] at H
    have c8b0 : decide (30 < (l2.length : Int)) = false := decide_eq_false c8
    have c8b1 : decide (30 < l2.length) = false := decide_eq_false (by omega)
    clear c8
    replace H := bI_ H
    obtain ⟨t1300, A90, H⟩ := H
    (try dsimp only at H)
    have A9 := aA_ A90
    clear A90
    have H' := aA_ H
    clear H
    go_wp2_with (first | (go_at_call 21; (with_reducible refine (demurrageref18_Usual.calls k _ _ l2 t1300 _ ?side1 ?side2 A9.out).mono ?_); (case side1 => repeat (first | exact (Kd.C_below HR2.out HB.out) | (with_reducible first | refine Kd.C_alloc ?_ _ | refine Kd.C_drewN ?_ _ | refine Kd.C_drew ?_))); (case side2 => exact HC2.out); rintro e w10 ⟨rfl, hb⟩; replace HB := bB_ (by repeat (with_reducible first | exact HB.out | apply bA_ | apply bN_ | apply bD_)) hb; (try clear hb)))
    go_meet
    case rel => exact ⟨_, _, (by first | rfl | simp | simp [*]), H', ⟨by first | omega | exact Nat.le_refl _⟩, ⟨by repeat (with_reducible first | exact HB.out | apply bA_ | apply bN_ | apply bD_)⟩⟩
 case rest =>
  clear HC5
  try clear c1
  try clear c2
  try clear p2
  try clear c7
  try clear c7b0
  try clear c7b1
  try clear c8
  try clear c8b0
  try clear c8b1
  obtain ⟨kq, x32_4, rfl, HA, HJ4, HB⟩ := hcut
  cases kq with
  | zero => exact absurd HA.out (by simp [demurragelaw20_LevelFree.j0])
  | succ kj4 =>
   have H := HA.out
   clear HA
   simp only [demurragelaw20_LevelFree.j0] at H
   by_cases c11 : x32_4 = true
   ·subst c11
    rw [if_pos rfl] at H
    obtain rfl := Option.some.inj H
    go_wp2
    go_ret
    exact ⟨by rfl, by repeat (with_reducible first | exact HB.out | apply bA_ | apply bN_ | apply bD_)⟩
   ·replace c11 := Bool.eq_false_iff.mpr c11
    subst c11
    rw [if_neg (show ¬ (false = true) by decide)] at H
    replace H := bI_ H
    obtain ⟨⟨t1340, t1341⟩, A120, H⟩ := H
    (try dsimp only at H)
    have A12 := aA_ A120
    clear A120
    by_cases c13 : 1 ≤ (l2.length : Int)
    ·rw [if_pos c13] at H
     have c13b0 := eq_true c13
     have c13b1 : decide (1 ≤ (l2.length : Int)) = true := decide_eq_true c13
     clear c13
     obtain ⟨y1342, hy1342⟩ : ∃ y_ : List (S56), y_ = (l2.take 1) := ⟨_, rfl⟩
     replace H : ((level_Least.f kj4 (wrap64 (Int.tmod a0 1000000000000001)) (Int.tmod (wrap64 (a1)) 9001) y1342).bind fun bt1346 => ((level_Least.f kj4 0 (Int.tmod (wrap64 (a1)) 9001) l2).bind fun bt1348 => (if 0 < (l2.length : Int) then ((demurrageref18_Of.f kj4 (wrap64 (Int.tmod a0 1000000000000001)) (Int.tmod (wrap64 (a1)) 9001) ((rd_T56 l2 0).f0) ((rd_T56 l2 0).f1)).bind fun bt1351 => (if t1299 = true then (if t1341 = 0 then (if bt1346.2 = 0 then (if bt1348.2 = 0 then (if bt1351.2 = 0 then (if (l2.length : Int) = 0 then (none) else (if t1340 = (wrap64 (Int.tdiv (wrap64 ((wrap64 ((wrap64 (Int.tmod a0 1000000000000001)) + (l2.length : Int))) - 1)) (l2.length : Int))) then (if bt1346.1 = (wrap64 ((wrap64 (Int.tmod a0 1000000000000001)) + bt1351.1)) then (some (bt1348.1 == 0)) else (none)) else (none))) else (none)) else (none)) else (none)) else (none)) else (none))) else (none)))) = some r := by first | (rw [hy1342]; with_reducible exact H) | (have H2_ := (Option.bind_some _ _).symm.trans H; rw [hy1342]; with_reducible exact H2_) | (have H2_ := (Option.bind_some _ _).symm.trans H; with_reducible exact H2_) | with_reducible exact H | (rw [hy1342]; exact H) | exact H
     have Ny1342 := aA_ hy1342
     clear hy1342
     replace H := bI_ H
     obtain ⟨⟨t1346, t1347⟩, A140, H⟩ := H
     (try dsimp only at H)
     have A14 := aA_ A140
     clear A140
     replace H := bI_ H
     obtain ⟨⟨t1348, t1349⟩, A150, H⟩ := H
     (try dsimp only at H)
     have A15 := aA_ A150
     clear A150
     by_cases c16 : 0 < (l2.length : Int)
     ·rw [if_pos c16] at H
      have c16b0 : decide (0 < (l2.length : Int)) = true := decide_eq_true c16
      have c16b1 : decide (0 < l2.length) = true := decide_eq_true (by omega)
      clear c16
      replace H := bI_ H
      obtain ⟨⟨t1351, t1352⟩, A170, H⟩ := H
      (try dsimp only at H)
      have A17 := aA_ A170
      clear A170
      by_cases c18 : t1299 = true
      ·subst c18
       rw [if_pos rfl] at H
       by_cases c19 : t1341 = 0
       ·rw [if_pos c19] at H
        have c19b0 : (t1341 == 0) = true := beq_iff_eq.mpr c19
        have c19b1 : (t1341 != 0) = false := bne_eq_false_iff_eq.mpr c19
        clear c19
        by_cases c20 : t1347 = 0
        ·rw [if_pos c20] at H
         have c20b0 : (t1347 == 0) = true := beq_iff_eq.mpr c20
         have c20b1 : (t1347 != 0) = false := bne_eq_false_iff_eq.mpr c20
         clear c20
         by_cases c21 : t1349 = 0
         ·rw [if_pos c21] at H
          have c21b0 : (t1349 == 0) = true := beq_iff_eq.mpr c21
          have c21b1 : (t1349 != 0) = false := bne_eq_false_iff_eq.mpr c21
          clear c21
          by_cases c22 : t1352 = 0
          ·rw [if_pos c22] at H
           have c22b0 : (t1352 == 0) = true := beq_iff_eq.mpr c22
           have c22b1 : (t1352 != 0) = false := bne_eq_false_iff_eq.mpr c22
           clear c22
           by_cases c23 : (l2.length : Int) = 0
           ·rw [if_pos c23] at H
            exact absurd H (by simp)
           ·rw [if_neg c23] at H
            have c23b0 : ((l2.length : Int) == 0) = false := beq_eq_false_iff_ne.mpr c23
            have c23b1 : ((l2.length : Int) != 0) = true := bne_iff_ne.mpr c23
            have c23b2 : ¬ (l2 = []) := fun h_ => c23 (by rw [h_]; rfl)
            by_cases c24 : t1340 = (wrap64 (Int.tdiv (wrap64 ((wrap64 ((wrap64 (Int.tmod a0 1000000000000001)) + (l2.length : Int))) - 1)) (l2.length : Int)))
            ·rw [if_pos c24] at H
             have c24b0 : (t1340 == (wrap64 (Int.tdiv (wrap64 ((wrap64 ((wrap64 (Int.tmod a0 1000000000000001)) + (l2.length : Int))) - 1)) (l2.length : Int)))) = true := beq_iff_eq.mpr c24
             have c24b1 : (t1340 != (wrap64 (Int.tdiv (wrap64 ((wrap64 ((wrap64 (Int.tmod a0 1000000000000001)) + (l2.length : Int))) - 1)) (l2.length : Int)))) = false := bne_eq_false_iff_eq.mpr c24
             clear c24
             by_cases c25 : t1346 = (wrap64 ((wrap64 (Int.tmod a0 1000000000000001)) + t1351))
             ·rw [if_pos c25] at H
              have c25b0 : (t1346 == (wrap64 ((wrap64 (Int.tmod a0 1000000000000001)) + t1351))) = true := beq_iff_eq.mpr c25
              have c25b1 : (t1346 != (wrap64 ((wrap64 (Int.tmod a0 1000000000000001)) + t1351))) = false := bne_eq_false_iff_eq.mpr c25
              clear c25
              obtain rfl := Option.some.inj H
              go_wp2_with (first | (refine goesL_ (some 43) rfl rfl Try.func18 (by kernel_rfl) rfl #[.int .i64 (wrap64 (Int.tmod a0 1000000000000001)), .int .i64 0, .slice A2 l2.length c2] rfl (by (try simp only [mT_, mC_, mN_]); first | done | rfl) ?_; (with_reducible refine (level_Least.calls kj4 (wrap64 (Int.tmod a0 1000000000000001)) 0 _ _ l2 t1340 t1341 _ ?side1 ?side2 A12.out).mono ?_); (case side1 => repeat (first | exact (Kd.C_below HR2.out HB.out) | (with_reducible first | refine Kd.C_alloc ?_ _ | refine Kd.C_drewN ?_ _ | refine Kd.C_drew ?_))); (case side2 => exact HC2.out); rintro e w26 ⟨rfl, hb⟩; refine ⟨_, rfl, ?_⟩; replace HB := bB_ (by repeat (with_reducible first | exact HB.out | apply bA_ | apply bN_ | apply bD_)) hb; (try clear hb); have q27 : (1 : Int) ≤ ((l2.length : Int) : Int) := of_decide_eq_true (by first | (with_reducible assumption) | assumption); obtain ⟨i027, hi027, _, hsz27, _⟩ := info_parts info56; have hroom27 : l2.length ≤ c2 := HC2.out; have hC27 : Kd.C k56 _ A2 l2.length l2 := HR2.out; have hcut27 := cut_to (P := Try.prog) 22 56 .i64 Try.underlying22 hi027 A2 l2.length c2 1 (by omega) q27 hroom27; have hr27 := Kd.C_take (m := 1) hC27 (by omega); have hy27 : y1342.length = (1 : Int).toNat := (by rw [Ny1342.out, List.length_take]; omega); rw [← Ny1342.out] at hr27; rw [← hy27] at hcut27; have HR1345 := aA_ hr27; have HC1345 := aA_ (show y1342.length ≤ c2 from by omega); clear hr27 hC27 hroom27 hi027 hsz27; have KY27 := aA_ hy27; clear hy27; replace q27 := eq_true q27) | (refine goesL_ (some 51) rfl rfl Try.func18 (by kernel_rfl) rfl #[.int .i64 (wrap64 (Int.tmod a0 1000000000000001)), .int .i64 (Int.tmod (wrap64 (a1)) 9001), .slice A2 y1342.length c2] rfl (by (try simp only [mT_, mC_, mN_]); first | done | rfl) ?_; (with_reducible refine (level_Least.calls kj4 (wrap64 (Int.tmod a0 1000000000000001)) (Int.tmod (wrap64 (a1)) 9001) _ _ y1342 t1346 t1347 _ ?side1 ?side2 A14.out).mono ?_); (case side1 => repeat (first | exact (Kd.C_below HR1345.out HB.out) | (with_reducible first | refine Kd.C_alloc ?_ _ | refine Kd.C_drewN ?_ _ | refine Kd.C_drew ?_))); (case side2 => exact HC1345.out); rintro e w28 ⟨rfl, hb⟩; refine ⟨_, rfl, ?_⟩; replace HB := bB_ (by repeat (with_reducible first | exact HB.out | apply bA_ | apply bN_ | apply bD_)) hb; (try clear hb)) | (refine goesL_ (some 57) rfl rfl Try.func18 (by kernel_rfl) rfl #[.int .i64 0, .int .i64 (Int.tmod (wrap64 (a1)) 9001), .slice A2 l2.length c2] rfl (by (try simp only [mT_, mC_, mN_]); first | done | rfl) ?_; (with_reducible refine (level_Least.calls kj4 0 (Int.tmod (wrap64 (a1)) 9001) _ _ l2 t1348 t1349 _ ?side1 ?side2 A15.out).mono ?_); (case side1 => repeat (first | exact (Kd.C_below HR2.out HB.out) | (with_reducible first | refine Kd.C_alloc ?_ _ | refine Kd.C_drewN ?_ _ | refine Kd.C_drew ?_))); (case side2 => exact HC2.out); rintro e w29 ⟨rfl, hb⟩; refine ⟨_, rfl, ?_⟩; replace HB := bB_ (by repeat (with_reducible first | exact HB.out | apply bA_ | apply bN_ | apply bD_)) hb; (try clear hb); have p1350 : 0 ≤ (0 : Int) := (by omega); have q1350 : 0 < (l2.length : Int) := of_decide_eq_true (by first | (with_reducible assumption) | assumption); obtain ⟨ad1350, e1350, hx1350_0, hx1350_1⟩ := at_T56 HR2.out 0 p1350 q1350; cases e1350; have qi1350 : (0 < l2.length) = True := eq_true (by omega); (try rw [show ((0 : Int)).toNat = 0 from rfl] at hx1350_0); (try rw [show 0 * 2 = 0 from rfl] at hx1350_0); (try rw [Addr.add_zero'] at hx1350_0); (try rw [show ((0 : Int)).toNat = 0 from rfl] at hx1350_1); (try rw [show 0 * 2 = 0 from rfl] at hx1350_1); (try rw [Addr.add_zero'] at hx1350_1); replace hx1350_0 := cC_ HB hx1350_0; replace hx1350_1 := cC_ HB hx1350_1; replace p1350 := eq_true p1350; replace q1350 := eq_true q1350) | (refine goesL_ (some 66) rfl rfl Try.func26 (by kernel_rfl) rfl #[.int .i64 (wrap64 (Int.tmod a0 1000000000000001)), .int .i64 (Int.tmod (wrap64 (a1)) 9001), .agg #[.int .i64 ((rd_T56 l2 0).f0), .int .i64 ((rd_T56 l2 0).f1)]] rfl (by (try simp only [mT_, mC_, mN_]); first | done | rfl) ?_; (with_reducible refine (demurrageref18_Of.calls kj4 (wrap64 (Int.tmod a0 1000000000000001)) (Int.tmod (wrap64 (a1)) 9001) ((rd_T56 l2 0).f0) ((rd_T56 l2 0).f1) t1351 t1352 _ A17.out).mono ?_); rintro e w30 ⟨rfl, hb⟩; refine ⟨_, rfl, ?_⟩; replace HB := bB_ (by repeat (with_reducible first | exact HB.out | apply bA_ | apply bN_ | apply bD_)) hb; (try clear hb)))
              go_ret
              exact ⟨by rfl, by repeat (with_reducible first | exact HB.out | apply bA_ | apply bN_ | apply bD_)⟩
             ·rw [if_neg c25] at H
              exact absurd H (by simp)
            ·rw [if_neg c24] at H
             exact absurd H (by simp)
          ·rw [if_neg c22] at H
           exact absurd H (by simp)
         ·rw [if_neg c21] at H
          exact absurd H (by simp)
        ·rw [if_neg c20] at H
         exact absurd H (by simp)
       ·rw [if_neg c19] at H
        exact absurd H (by simp)
      ·replace c18 := Bool.eq_false_iff.mpr c18
       subst c18
       rw [if_neg (show ¬ (false = true) by decide)] at H
       exact absurd H (by simp)
     ·rw [if_neg c16] at H
      exact absurd H (by simp)
    ·rw [if_neg c13] at H
     exact absurd H (by simp)

end Go.Proofs.Yteikafepdkijdaa.X
