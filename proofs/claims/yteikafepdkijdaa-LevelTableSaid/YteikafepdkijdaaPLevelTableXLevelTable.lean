-- cut by prune.py, a program of this session
import Derived.Test.YteikafepdkijdaaPLevelTableX0
import Derived.Test.YteikafepdkijdaaPLevelTableXUsual
import Derived.Test.YteikafepdkijdaaPLevelTableXSame
import Derived.Test.YteikafepdkijdaaPLevelTableXSound
import Derived.Test.YteikafepdkijdaaPLevelTableXRefLevel
import Derived.Test.YteikafepdkijdaaPLevelTableXShownL
import Derived.Test.YteikafepdkijdaaPLevelTableHLeast
import Derived.Test.YteikafepdkijdaaPLevelTableHLevel
namespace Go.Proofs.Yteikafepdkijdaa.X
open Go.RowKit Go.Proofs.YteikafepdkijdaaW.PrintWords Go.Proofs.YteikafepdkijdaaW.PrintLast Go.Proofs.YteikafepdkijdaaW.PrintMore
attribute [local go_sem] max2_int min2_int max_two min_two
set_option linter.unusedVariables false
set_option linter.unusedSimpArgs false

mutual
def demurragelaw20_LevelTable.j0 : Nat → Int → Int → List (S56) → Bool → Int → Bool → Option (Bool)
 | 0, _, _, _, _, _, _ => none
 | k + 1, x0, x1, x2, x7, x8, x30 => if x30 = true then (some x7) else ((level_Least.f k (wrap64 (Int.tmod x0 1000000000000001)) (Int.tmod (wrap64 (x1)) 9001) x2).bind fun bt1248 => ((level_Table.f k (wrap64 (Int.tmod x0 1000000000000001)) (Int.tmod (wrap64 (x1)) 9001) x2).bind fun bt1250 => (if bt1248.2 = 0 then (if bt1250.2 = 0 then ((demurrageref20_With.f k (wrap64 (Int.tmod x0 1000000000000001)) (Int.tmod (wrap64 (x1)) 9001) x2 bt1248.1).bind fun t1254 => ((demurrageref19_Same.f k bt1250.1 t1254).bind fun t1257 => (if t1257 = true then ((demurrageref19_Sound.f k bt1250.1 (wrap64 (Int.tmod x0 1000000000000001)) (Int.tmod (wrap64 (x1)) 9001) x2).bind fun t1258 => (if t1258 = true then (demurragelaw20_LevelTable.l0 k x7 x8 (wrap64 (Int.tmod x0 1000000000000001)) bt1248.1 bt1250.1 0 0) else (none))) else (none)))) else (none)) else (none))))
def demurragelaw20_LevelTable.l0 : Nat → Bool → Int → Int → Int → List (S48) → Int → Int → Option (Bool)
 | 0, _, _, _, _, _, _, _ => none
 | k + 1, x7, x8, x9, x11, x13, x15, x16 => if x16 < x8 then (if 0 ≤ x16 then (if x16 < (x13.length : Int) then (if ((rd_T48 x13 x16).f4) > x9 then (none) else (if x16 < (wrap64 (x8 - 1)) then (if ((rd_T48 x13 x16).f3) = x11 then (demurragelaw20_LevelTable.l0 k x7 x8 x9 x11 x13 (wrap64 (x15 + ((rd_T48 x13 x16).f2))) (wrap64 (x16 + 1))) else (if ((rd_T48 x13 x16).f3) = ((rd_T48 x13 x16).f1) then (demurragelaw20_LevelTable.l0 k x7 x8 x9 x11 x13 (wrap64 (x15 + ((rd_T48 x13 x16).f2))) (wrap64 (x16 + 1))) else (if ((rd_T48 x13 x16).f4) = 0 then (demurragelaw20_LevelTable.l0 k x7 x8 x9 x11 x13 (wrap64 (x15 + ((rd_T48 x13 x16).f2))) (wrap64 (x16 + 1))) else (none)))) else (demurragelaw20_LevelTable.l0 k x7 x8 x9 x11 x13 (wrap64 (x15 + ((rd_T48 x13 x16).f2))) (wrap64 (x16 + 1))))) else (none)) else (none)) else (if x7 = true then (if x15 = x9 then (if 0 ≤ (wrap64 (x8 - 1)) then (if (wrap64 (x8 - 1)) < (x13.length : Int) then (some (decide (((rd_T48 x13 (wrap64 (x8 - 1))).f3) ≤ x11))) else (none)) else (none)) else (none)) else (none))
end
def demurragelaw20_LevelTable.f (k : Nat) (a0 : Int) (a1 : Int) (l2 : List (S56)) : Option (Bool) := (demurragelaw20_shown.f k).bind fun t1129 => (if (l2.length : Int) < 1 then (demurragelaw20_LevelTable.j0 k a0 a1 l2 t1129 (l2.length : Int) true) else (if (l2.length : Int) > 30 then (demurragelaw20_LevelTable.j0 k a0 a1 l2 t1129 (l2.length : Int) true) else ((demurrageref18_Usual.f k l2).bind fun t1130 => (demurragelaw20_LevelTable.j0 k a0 a1 l2 t1129 (l2.length : Int) (!t1130)))))
set_option maxHeartbeats 8000000 in
set_option maxRecDepth 100000 in
theorem demurragelaw20_LevelTable.calls (k : Nat) (a0 : Int) (a1 : Int) (A2 : Option Addr) (c2 : Nat) (l2 : List (S56)) (r : Bool) (w : World) (hr2 : Kd.C k56 w A2 l2.length l2) (hc2 : l2.length ≤ c2) (h : demurragelaw20_LevelTable.f k a0 a1 l2 = some r) :
  Calls Try.prog 5 #[.int .u64 a0, .int .u16 a1, .slice A2 l2.length c2] w fun e w' => e = .returned (.bool r) ∧ Below w.heap.size w w' := by
 have HR2 := aA_ hr2
 have HC2 := aA_ hc2
 clear hr2 hc2
 have HB := aA_ (Below.refl w.heap.size w)
 have H : ((demurragelaw20_shown.f k).bind fun t1129 => (if (l2.length : Int) < 1 then (demurragelaw20_LevelTable.j0 k a0 a1 l2 t1129 (l2.length : Int) true) else (if (l2.length : Int) > 30 then (demurragelaw20_LevelTable.j0 k a0 a1 l2 t1129 (l2.length : Int) true) else ((demurrageref18_Usual.f k l2).bind fun t1130 => (demurragelaw20_LevelTable.j0 k a0 a1 l2 t1129 (l2.length : Int) (!t1130)))))) = some r := h
 clear h
 replace H := bI_ H
 obtain ⟨t1129, A40, H⟩ := H
 (try dsimp only at H)
 have A4 := aA_ A40
 clear A40
 have HC5 := aA_ H
 clear H
 go_enter Try.func5, Try.ntmps5
 go_upto_region 3 with (first | (go_at_call 15; (with_reducible refine (demurragelaw20_shown.calls k  t1129 _ A4.out).mono ?_); rintro e w6 ⟨rfl, hb⟩; replace HB := bB_ (by repeat (with_reducible first | exact HB.out | apply bA_ | apply bN_ | apply bD_)) hb; (try clear hb)))
 repeat (go_quiet (first | (go_at_call 15; (with_reducible refine (demurragelaw20_shown.calls k  t1129 _ A4.out).mono ?_); rintro e w6 ⟨rfl, hb⟩; replace HB := bB_ (by repeat (with_reducible first | exact HB.out | apply bA_ | apply bN_ | apply bD_)) hb; (try clear hb))); go_upto_region 3 with (first | (go_at_call 15; (with_reducible refine (demurragelaw20_shown.calls k  t1129 _ A4.out).mono ?_); rintro e w6 ⟨rfl, hb⟩; replace HB := bB_ (by repeat (with_reducible first | exact HB.out | apply bA_ | apply bN_ | apply bD_)) hb; (try clear hb))))
 (try simp only [Act.put, sT_, sZ_, sS_])
 go_cut [30] (fun v30 wc => ∃ (kq : Nat) (x30_4 : Bool), v30 = .bool x30_4 ∧ Aside0 (demurragelaw20_LevelTable.j0 kq a0 a1 l2 t1129 (l2.length : Int) x30_4 = some r) ∧ Aside0 (kq ≤ k) ∧ Aside0 (Below w.heap.size w wc))
 case first =>
  have H := HC5.out
  clear HC5
  by_cases c7 : (l2.length : Int) < 1
  ·rw [if_pos c7] at H
   have c7b0 : decide ((l2.length : Int) < 1) = true := decide_eq_true c7
   have c7b1 : decide (l2.length < 1) = true := decide_eq_true (by omega)
   clear c7
   (first | rw [c7b0] | (simp only [i64_w, i32_w]; rw [c7b0]) | rw [c7b1] | skip)
   have H' := aA_ H
   clear H
   go_wp2
   repeat (go_quiet (fail); try go_wp2)
   go_meet
   case rel => exact ⟨_, _, (by first | rfl | simp | simp [*]), H', ⟨by first | omega | exact Nat.le_refl _⟩, ⟨by repeat (with_reducible first | exact HB.out | apply bA_ | apply bN_ | apply bD_)⟩⟩
  ·rw [if_neg c7] at H
   have c7b0 : decide ((l2.length : Int) < 1) = false := decide_eq_false c7
   have c7b1 : decide (l2.length < 1) = false := decide_eq_false (by omega)
   clear c7
   (first | rw [c7b0] | (simp only [i64_w, i32_w]; rw [c7b0]) | rw [c7b1] | skip)
   by_cases c8 : (l2.length : Int) > 30
   ·rw [if_pos c8] at H
    have c8b0 : decide (30 < (l2.length : Int)) = true := decide_eq_true c8
    have c8b1 : decide (30 < l2.length) = true := decide_eq_true (by omega)
    clear c8
    have H' := aA_ H
    clear H
    go_wp2
    repeat (go_quiet (fail); try go_wp2)
    go_meet
    case rel => exact ⟨_, _, (by first | rfl | simp | simp [*]), H', ⟨by first | omega | exact Nat.le_refl _⟩, ⟨by repeat (with_reducible first | exact HB.out | apply bA_ | apply bN_ | apply bD_)⟩⟩
   ·rw [if_neg c8] at H
    have c8b0 : decide (30 < (l2.length : Int)) = false := decide_eq_false c8
    have c8b1 : decide (30 < l2.length) = false := decide_eq_false (by omega)
    clear c8
    replace H := bI_ H
    obtain ⟨t1130, A90, H⟩ := H
    (try dsimp only at H)
    have A9 := aA_ A90
    clear A90
    have H' := aA_ H
    clear H
    go_wp2_with (first | (go_at_call 21; (with_reducible refine (demurrageref18_Usual.calls k _ _ l2 t1130 _ ?side1 ?side2 A9.out).mono ?_); (case side1 => repeat (first | exact (Kd.C_below HR2.out HB.out) | (with_reducible first | refine Kd.C_alloc ?_ _ | refine Kd.C_drewN ?_ _ | refine Kd.C_drew ?_))); (case side2 => exact HC2.out); rintro e w10 ⟨rfl, hb⟩; replace HB := bB_ (by repeat (with_reducible first | exact HB.out | apply bA_ | apply bN_ | apply bD_)) hb; (try clear hb)))
    repeat (go_quiet (first | (go_at_call 21; (with_reducible refine (demurrageref18_Usual.calls k _ _ l2 t1130 _ ?side1 ?side2 A9.out).mono ?_); (case side1 => repeat (first | exact (Kd.C_below HR2.out HB.out) | (with_reducible first | refine Kd.C_alloc ?_ _ | refine Kd.C_drewN ?_ _ | refine Kd.C_drew ?_))); (case side2 => exact HC2.out); rintro e w10 ⟨rfl, hb⟩; replace HB := bB_ (by repeat (with_reducible first | exact HB.out | apply bA_ | apply bN_ | apply bD_)) hb; (try clear hb))); try go_wp2_with (first | (go_at_call 21; (with_reducible refine (demurrageref18_Usual.calls k _ _ l2 t1130 _ ?side1 ?side2 A9.out).mono ?_); (case side1 => repeat (first | exact (Kd.C_below HR2.out HB.out) | (with_reducible first | refine Kd.C_alloc ?_ _ | refine Kd.C_drewN ?_ _ | refine Kd.C_drew ?_))); (case side2 => exact HC2.out); rintro e w10 ⟨rfl, hb⟩; replace HB := bB_ (by repeat (with_reducible first | exact HB.out | apply bA_ | apply bN_ | apply bD_)) hb; (try clear hb))))
    go_meet
    case rel => exact ⟨_, _, (by first | rfl | simp | simp [*]), H', ⟨by first | omega | exact Nat.le_refl _⟩, ⟨by repeat (with_reducible first | exact HB.out | apply bA_ | apply bN_ | apply bD_)⟩⟩
 case rest =>
  clear HC5
  try clear c2
  try clear p2
  try clear c5
  try clear c7
  try clear c7b0
  try clear c7b1
  try clear c8
  try clear c8b0
  try clear c8b1
  obtain ⟨kq, x30_4, rfl, HA, HJ4, HB⟩ := hcut
  cases kq with
  | zero => exact absurd HA.out (by simp [demurragelaw20_LevelTable.j0])
  | succ kj4 =>
   have H := HA.out
   clear HA
   simp only [demurragelaw20_LevelTable.j0] at H
   by_cases c11 : x30_4 = true
   ·subst c11
    rw [if_pos rfl] at H
    obtain rfl := Option.some.inj H
    go_wp2
    repeat (go_quiet (fail); try go_wp2)
    go_ret
    exact ⟨by rfl, by repeat (with_reducible first | exact HB.out | apply bA_ | apply bN_ | apply bD_)⟩
   ·replace c11 := Bool.eq_false_iff.mpr c11
    subst c11
    rw [if_neg (show ¬ (false = true) by decide)] at H
    replace H := bI_ H
    obtain ⟨⟨t1248, t1249⟩, A120, H⟩ := H
    (try dsimp only at H)
    have A12 := aA_ A120
    clear A120
    replace H := bI_ H
    obtain ⟨⟨t1250, t1251⟩, A130, H⟩ := H
    (try dsimp only at H)
    have A13 := aA_ A130
    clear A130
    by_cases c14 : t1249 = 0
    ·rw [if_pos c14] at H
     have c14b0 : (t1249 == 0) = true := beq_iff_eq.mpr c14
     have c14b1 : (t1249 != 0) = false := bne_eq_false_iff_eq.mpr c14
     clear c14
     by_cases c15 : t1251 = 0
     ·rw [if_pos c15] at H
      have c15b0 : (t1251 == 0) = true := beq_iff_eq.mpr c15
      have c15b1 : (t1251 != 0) = false := bne_eq_false_iff_eq.mpr c15
      clear c15
      replace H := bI_ H
      obtain ⟨t1254, A160, H⟩ := H
      (try dsimp only at H)
      have A16 := aA_ A160
      clear A160
      replace H := bI_ H
      obtain ⟨t1257, A170, H⟩ := H
      (try dsimp only at H)
      have A17 := aA_ A170
      clear A170
      by_cases c18 : t1257 = true
      ·subst c18
       rw [if_pos rfl] at H
       replace H := bI_ H
       obtain ⟨t1258, A190, H⟩ := H
       (try dsimp only at H)
       have A19 := aA_ A190
       clear A190
       by_cases c20 : t1258 = true
       ·subst c20
        rw [if_pos rfl] at H
        have H' := aA_ H
        clear H
        go_wp2_with (first | (go_at_call 18; (with_reducible refine (level_Least.calls kj4 (wrap64 (Int.tmod a0 1000000000000001)) (Int.tmod (wrap64 (a1)) 9001) _ _ l2 t1248 t1249 _ ?side1 ?side2 A12.out).mono ?_); (case side1 => repeat (first | exact (Kd.C_below HR2.out HB.out) | (with_reducible first | refine Kd.C_alloc ?_ _ | refine Kd.C_drewN ?_ _ | refine Kd.C_drew ?_))); (case side2 => exact HC2.out); rintro e w21 ⟨rfl, hb⟩; replace HB := bB_ (by repeat (with_reducible first | exact HB.out | apply bA_ | apply bN_ | apply bD_)) hb; (try clear hb)) | (go_at_call 19; (with_reducible refine (level_Table.calls kj4 (wrap64 (Int.tmod a0 1000000000000001)) (Int.tmod (wrap64 (a1)) 9001) _ _ l2 t1250 t1251 _ ?side1 ?side2 A13.out).mono ?_); (case side1 => repeat (first | exact (Kd.C_below HR2.out HB.out) | (with_reducible first | refine Kd.C_alloc ?_ _ | refine Kd.C_drewN ?_ _ | refine Kd.C_drew ?_))); (case side2 => exact HC2.out); rintro e w22 ⟨v1252, rfl, ho0, hb⟩; have HO1253 := aA_ (Kd.R_lower ho0 (below_size (by repeat (with_reducible first | exact HB.out | apply bA_ | apply bN_ | apply bD_)))); replace HB := bB_ (by repeat (with_reducible first | exact HB.out | apply bA_ | apply bN_ | apply bD_)) hb; (try clear hb); (try clear ho0)) | (go_at_call 23; (with_reducible refine (demurrageref20_With.calls kj4 (wrap64 (Int.tmod a0 1000000000000001)) (Int.tmod (wrap64 (a1)) 9001) _ _ l2 t1248 t1254 _ ?side1 ?side2 A16.out).mono ?_); (case side1 => repeat (first | exact (Kd.C_below HR2.out HB.out) | (with_reducible first | refine Kd.C_alloc ?_ _ | refine Kd.C_drewN ?_ _ | refine Kd.C_drew ?_))); (case side2 => exact HC2.out); rintro e w23 ⟨v1255, rfl, ho0, hb⟩; have HO1256 := aA_ (Kd.R_lower (Kd.R_new' ho0 (Kd.R_lt HO1253.out)) (below_size (by repeat (with_reducible first | exact HB.out | apply bA_ | apply bN_ | apply bD_)))); replace HO1253 := aA_ (Kd.R_elder' HO1253.out (Kd.R_base ho0) hb); replace HB := bB_ (by repeat (with_reducible first | exact HB.out | apply bA_ | apply bN_ | apply bD_)) hb; (try clear hb); (try clear ho0); obtain ⟨Ao24, co24, eo24⟩ := Kd.R_slice HO1253.out; subst eo24; obtain ⟨Ao25, co25, eo25⟩ := Kd.R_slice HO1256.out; subst eo25) | (go_at_call 22; (with_reducible refine (demurrageref19_Same.calls kj4 _ _ t1250 _ _ t1254 true _ ?side1 ?side2 ?side3 ?side4 A17.out).mono ?_); (case side1 => repeat (first | exact (Kd.R_reads' HO1253.out).2.2 | (with_reducible first | refine Kd.C_alloc ?_ _ | refine Kd.C_drewN ?_ _ | refine Kd.C_drew ?_))); (case side2 => exact (Kd.R_reads' HO1253.out).2.1); (case side3 => repeat (first | exact (Kd.R_reads' HO1256.out).2.2 | (with_reducible first | refine Kd.C_alloc ?_ _ | refine Kd.C_drewN ?_ _ | refine Kd.C_drew ?_))); (case side4 => exact (Kd.R_reads' HO1256.out).2.1); rintro e w' ⟨rfl, ⟨nd, rfl⟩⟩; (try first | exact ⟨rfl, _, World.drewN_drewN _ _ _⟩ | exact ⟨rfl, _, Eq.trans (World.drewN_drewN _ _ _) (congrArg (World.drewN _) (Nat.add_assoc _ _ _))⟩)) | (go_at_call 24; (with_reducible refine (demurrageref19_Sound.calls kj4 _ _ t1250 (wrap64 (Int.tmod a0 1000000000000001)) (Int.tmod (wrap64 (a1)) 9001) _ _ l2 true _ ?side1 ?side2 ?side3 ?side4 A19.out).mono ?_); (case side1 => repeat (first | exact (Kd.R_reads' HO1253.out).2.2 | (with_reducible first | refine Kd.C_alloc ?_ _ | refine Kd.C_drewN ?_ _ | refine Kd.C_drew ?_))); (case side2 => exact (Kd.R_reads' HO1253.out).2.1); (case side3 => repeat (first | exact (Kd.C_below HR2.out (by repeat (with_reducible first | exact HB.out | apply bA_ | apply bN_ | apply bD_))) | (with_reducible first | refine Kd.C_alloc ?_ _ | refine Kd.C_drewN ?_ _ | refine Kd.C_drew ?_))); (case side4 => exact HC2.out); rintro e w26 ⟨rfl, hb⟩; replace HO1253 := aA_ (Kd.R_below (by (with_reducible repeat (first | apply Kd.R_alloc | apply Kd.R_drewN | apply Kd.R_drew)); exact HO1253.out) hb); replace HO1256 := aA_ (Kd.R_below (by (with_reducible repeat (first | apply Kd.R_alloc | apply Kd.R_drewN | apply Kd.R_drew)); exact HO1256.out) hb); replace HB := bB_ (by repeat (with_reducible first | exact HB.out | apply bA_ | apply bN_ | apply bD_)) hb; (try clear hb)))
        repeat (go_quiet (first | (go_at_call 18; (with_reducible refine (level_Least.calls kj4 (wrap64 (Int.tmod a0 1000000000000001)) (Int.tmod (wrap64 (a1)) 9001) _ _ l2 t1248 t1249 _ ?side1 ?side2 A12.out).mono ?_); (case side1 => repeat (first | exact (Kd.C_below HR2.out HB.out) | (with_reducible first | refine Kd.C_alloc ?_ _ | refine Kd.C_drewN ?_ _ | refine Kd.C_drew ?_))); (case side2 => exact HC2.out); rintro e w21 ⟨rfl, hb⟩; replace HB := bB_ (by repeat (with_reducible first | exact HB.out | apply bA_ | apply bN_ | apply bD_)) hb; (try clear hb)) | (go_at_call 19; (with_reducible refine (level_Table.calls kj4 (wrap64 (Int.tmod a0 1000000000000001)) (Int.tmod (wrap64 (a1)) 9001) _ _ l2 t1250 t1251 _ ?side1 ?side2 A13.out).mono ?_); (case side1 => repeat (first | exact (Kd.C_below HR2.out HB.out) | (with_reducible first | refine Kd.C_alloc ?_ _ | refine Kd.C_drewN ?_ _ | refine Kd.C_drew ?_))); (case side2 => exact HC2.out); rintro e w22 ⟨v1252, rfl, ho0, hb⟩; have HO1253 := aA_ (Kd.R_lower ho0 (below_size (by repeat (with_reducible first | exact HB.out | apply bA_ | apply bN_ | apply bD_)))); replace HB := bB_ (by repeat (with_reducible first | exact HB.out | apply bA_ | apply bN_ | apply bD_)) hb; (try clear hb); (try clear ho0)) | (go_at_call 23; (with_reducible refine (demurrageref20_With.calls kj4 (wrap64 (Int.tmod a0 1000000000000001)) (Int.tmod (wrap64 (a1)) 9001) _ _ l2 t1248 t1254 _ ?side1 ?side2 A16.out).mono ?_); (case side1 => repeat (first | exact (Kd.C_below HR2.out HB.out) | (with_reducible first | refine Kd.C_alloc ?_ _ | refine Kd.C_drewN ?_ _ | refine Kd.C_drew ?_))); (case side2 => exact HC2.out); rintro e w23 ⟨v1255, rfl, ho0, hb⟩; have HO1256 := aA_ (Kd.R_lower (Kd.R_new' ho0 (Kd.R_lt HO1253.out)) (below_size (by repeat (with_reducible first | exact HB.out | apply bA_ | apply bN_ | apply bD_)))); replace HO1253 := aA_ (Kd.R_elder' HO1253.out (Kd.R_base ho0) hb); replace HB := bB_ (by repeat (with_reducible first | exact HB.out | apply bA_ | apply bN_ | apply bD_)) hb; (try clear hb); (try clear ho0); obtain ⟨Ao24, co24, eo24⟩ := Kd.R_slice HO1253.out; subst eo24; obtain ⟨Ao25, co25, eo25⟩ := Kd.R_slice HO1256.out; subst eo25) | (go_at_call 22; (with_reducible refine (demurrageref19_Same.calls kj4 _ _ t1250 _ _ t1254 true _ ?side1 ?side2 ?side3 ?side4 A17.out).mono ?_); (case side1 => repeat (first | exact (Kd.R_reads' HO1253.out).2.2 | (with_reducible first | refine Kd.C_alloc ?_ _ | refine Kd.C_drewN ?_ _ | refine Kd.C_drew ?_))); (case side2 => exact (Kd.R_reads' HO1253.out).2.1); (case side3 => repeat (first | exact (Kd.R_reads' HO1256.out).2.2 | (with_reducible first | refine Kd.C_alloc ?_ _ | refine Kd.C_drewN ?_ _ | refine Kd.C_drew ?_))); (case side4 => exact (Kd.R_reads' HO1256.out).2.1); rintro e w' ⟨rfl, ⟨nd, rfl⟩⟩; (try first | exact ⟨rfl, _, World.drewN_drewN _ _ _⟩ | exact ⟨rfl, _, Eq.trans (World.drewN_drewN _ _ _) (congrArg (World.drewN _) (Nat.add_assoc _ _ _))⟩)) | (go_at_call 24; (with_reducible refine (demurrageref19_Sound.calls kj4 _ _ t1250 (wrap64 (Int.tmod a0 1000000000000001)) (Int.tmod (wrap64 (a1)) 9001) _ _ l2 true _ ?side1 ?side2 ?side3 ?side4 A19.out).mono ?_); (case side1 => repeat (first | exact (Kd.R_reads' HO1253.out).2.2 | (with_reducible first | refine Kd.C_alloc ?_ _ | refine Kd.C_drewN ?_ _ | refine Kd.C_drew ?_))); (case side2 => exact (Kd.R_reads' HO1253.out).2.1); (case side3 => repeat (first | exact (Kd.C_below HR2.out (by repeat (with_reducible first | exact HB.out | apply bA_ | apply bN_ | apply bD_))) | (with_reducible first | refine Kd.C_alloc ?_ _ | refine Kd.C_drewN ?_ _ | refine Kd.C_drew ?_))); (case side4 => exact HC2.out); rintro e w26 ⟨rfl, hb⟩; replace HO1253 := aA_ (Kd.R_below (by (with_reducible repeat (first | apply Kd.R_alloc | apply Kd.R_drewN | apply Kd.R_drew)); exact HO1253.out) hb); replace HO1256 := aA_ (Kd.R_below (by (with_reducible repeat (first | apply Kd.R_alloc | apply Kd.R_drewN | apply Kd.R_drew)); exact HO1256.out) hb); replace HB := bB_ (by repeat (with_reducible first | exact HB.out | apply bA_ | apply bN_ | apply bD_)) hb; (try clear hb))); try go_wp2_with (first | (go_at_call 18; (with_reducible refine (level_Least.calls kj4 (wrap64 (Int.tmod a0 1000000000000001)) (Int.tmod (wrap64 (a1)) 9001) _ _ l2 t1248 t1249 _ ?side1 ?side2 A12.out).mono ?_); (case side1 => repeat (first | exact (Kd.C_below HR2.out HB.out) | (with_reducible first | refine Kd.C_alloc ?_ _ | refine Kd.C_drewN ?_ _ | refine Kd.C_drew ?_))); (case side2 => exact HC2.out); rintro e w21 ⟨rfl, hb⟩; replace HB := bB_ (by repeat (with_reducible first | exact HB.out | apply bA_ | apply bN_ | apply bD_)) hb; (try clear hb)) | (go_at_call 19; (with_reducible refine (level_Table.calls kj4 (wrap64 (Int.tmod a0 1000000000000001)) (Int.tmod (wrap64 (a1)) 9001) _ _ l2 t1250 t1251 _ ?side1 ?side2 A13.out).mono ?_); (case side1 => repeat (first | exact (Kd.C_below HR2.out HB.out) | (with_reducible first | refine Kd.C_alloc ?_ _ | refine Kd.C_drewN ?_ _ | refine Kd.C_drew ?_))); (case side2 => exact HC2.out); rintro e w22 ⟨v1252, rfl, ho0, hb⟩; have HO1253 := aA_ (Kd.R_lower ho0 (below_size (by repeat (with_reducible first | exact HB.out | apply bA_ | apply bN_ | apply bD_)))); replace HB := bB_ (by repeat (with_reducible first | exact HB.out | apply bA_ | apply bN_ | apply bD_)) hb; (try clear hb); (try clear ho0)) | (go_at_call 23; (with_reducible refine (demurrageref20_With.calls kj4 (wrap64 (Int.tmod a0 1000000000000001)) (Int.tmod (wrap64 (a1)) 9001) _ _ l2 t1248 t1254 _ ?side1 ?side2 A16.out).mono ?_); (case side1 => repeat (first | exact (Kd.C_below HR2.out HB.out) | (with_reducible first | refine Kd.C_alloc ?_ _ | refine Kd.C_drewN ?_ _ | refine Kd.C_drew ?_))); (case side2 => exact HC2.out); rintro e w23 ⟨v1255, rfl, ho0, hb⟩; have HO1256 := aA_ (Kd.R_lower (Kd.R_new' ho0 (Kd.R_lt HO1253.out)) (below_size (by repeat (with_reducible first | exact HB.out | apply bA_ | apply bN_ | apply bD_)))); replace HO1253 := aA_ (Kd.R_elder' HO1253.out (Kd.R_base ho0) hb); replace HB := bB_ (by repeat (with_reducible first | exact HB.out | apply bA_ | apply bN_ | apply bD_)) hb; (try clear hb); (try clear ho0); obtain ⟨Ao24, co24, eo24⟩ := Kd.R_slice HO1253.out; subst eo24; obtain ⟨Ao25, co25, eo25⟩ := Kd.R_slice HO1256.out; subst eo25) | (go_at_call 22; (with_reducible refine (demurrageref19_Same.calls kj4 _ _ t1250 _ _ t1254 true _ ?side1 ?side2 ?side3 ?side4 A17.out).mono ?_); (case side1 => repeat (first | exact (Kd.R_reads' HO1253.out).2.2 | (with_reducible first | refine Kd.C_alloc ?_ _ | refine Kd.C_drewN ?_ _ | refine Kd.C_drew ?_))); (case side2 => exact (Kd.R_reads' HO1253.out).2.1); (case side3 => repeat (first | exact (Kd.R_reads' HO1256.out).2.2 | (with_reducible first | refine Kd.C_alloc ?_ _ | refine Kd.C_drewN ?_ _ | refine Kd.C_drew ?_))); (case side4 => exact (Kd.R_reads' HO1256.out).2.1); rintro e w' ⟨rfl, ⟨nd, rfl⟩⟩; (try first | exact ⟨rfl, _, World.drewN_drewN _ _ _⟩ | exact ⟨rfl, _, Eq.trans (World.drewN_drewN _ _ _) (congrArg (World.drewN _) (Nat.add_assoc _ _ _))⟩)) | (go_at_call 24; (with_reducible refine (demurrageref19_Sound.calls kj4 _ _ t1250 (wrap64 (Int.tmod a0 1000000000000001)) (Int.tmod (wrap64 (a1)) 9001) _ _ l2 true _ ?side1 ?side2 ?side3 ?side4 A19.out).mono ?_); (case side1 => repeat (first | exact (Kd.R_reads' HO1253.out).2.2 | (with_reducible first | refine Kd.C_alloc ?_ _ | refine Kd.C_drewN ?_ _ | refine Kd.C_drew ?_))); (case side2 => exact (Kd.R_reads' HO1253.out).2.1); (case side3 => repeat (first | exact (Kd.C_below HR2.out (by repeat (with_reducible first | exact HB.out | apply bA_ | apply bN_ | apply bD_))) | (with_reducible first | refine Kd.C_alloc ?_ _ | refine Kd.C_drewN ?_ _ | refine Kd.C_drew ?_))); (case side4 => exact HC2.out); rintro e w26 ⟨rfl, hb⟩; replace HO1253 := aA_ (Kd.R_below (by (with_reducible repeat (first | apply Kd.R_alloc | apply Kd.R_drewN | apply Kd.R_drew)); exact HO1253.out) hb); replace HO1256 := aA_ (Kd.R_below (by (with_reducible repeat (first | apply Kd.R_alloc | apply Kd.R_drewN | apply Kd.R_drew)); exact HO1256.out) hb); replace HB := bB_ (by repeat (with_reducible first | exact HB.out | apply bA_ | apply bN_ | apply bD_)) hb; (try clear hb))))
        (try simp only [Act.put, sT_, sZ_, sS_])
        go_loopg [15, 16] kj4 (fun kq v15 v16 w' => ∃ (x15_2 : Int) (x16_2 : Int), v15 = .int .i64 x15_2 ∧ v16 = .int .i64 x16_2 ∧ Aside0 (demurragelaw20_LevelTable.l0 kq t1129 (l2.length : Int) (wrap64 (Int.tmod a0 1000000000000001)) t1248 t1250 x15_2 x16_2 = some r) ∧ Aside0 (kq ≤ kj4) ∧ Aside0 (Kd.R k48 48 w' w.heap.size (fun _ => True) (.slice Ao24 t1250.length co24) t1250) ∧ Aside0 (Below w.heap.size w w'))
        case atStart => exact ⟨(0), (0), (by first | rfl | simp | simp [*]), (by first | rfl | simp | simp [*]), H', ⟨Nat.le_refl _⟩, ⟨by (with_reducible repeat (first | apply Kd.R_alloc | apply Kd.R_drewN | apply Kd.R_drew)); exact Kd.R_mono HO1253.out (fun _ hk => trivial)⟩, ⟨by repeat (with_reducible first | exact HB.out | apply bA_ | apply bN_ | apply bD_)⟩⟩
        case round =>
         clear H'
         try clear c1
         try clear c2
         try clear p2
         try clear c5
         try clear p6
         try clear c7
         try clear c7b0
         try clear c7b1
         try clear c8
         try clear c8b0
         try clear c8b1
         try clear c11
         try clear c14
         try clear c14b0
         try clear c14b1
         try clear c15
         try clear c15b0
         try clear c15b1
         try clear c18
         try clear c20
         try clear p2
         obtain ⟨x15_2, x16_2, rfl, rfl, HA, HK2, HO_13, HB⟩ := hrel
         cases gk with
         | zero => exact absurd HA.out (by simp [demurragelaw20_LevelTable.l0])
         | succ k2 =>
          have H := HA.out
          clear HA
          simp only [demurragelaw20_LevelTable.l0] at H
          by_cases c27 : x16_2 < (l2.length : Int)
          ·rw [if_pos c27] at H
           have c27b0 : decide (x16_2 < (l2.length : Int)) = true := decide_eq_true c27
           clear c27
           by_cases c28 : 0 ≤ x16_2
           ·rw [if_pos c28] at H
            have c28b0 : decide (0 ≤ x16_2) = true := decide_eq_true c28
            clear c28
            by_cases c29 : x16_2 < (t1250.length : Int)
            ·rw [if_pos c29] at H
             have c29b0 : decide (x16_2 < (t1250.length : Int)) = true := decide_eq_true c29
             clear c29
             by_cases c30 : ((rd_T48 t1250 x16_2).f4) > (wrap64 (Int.tmod a0 1000000000000001))
             ·rw [if_pos c30] at H
              exact absurd H (by simp)
             ·rw [if_neg c30] at H
              have c30b0 : decide ((wrap64 (Int.tmod a0 1000000000000001)) < ((rd_T48 t1250 x16_2).f4)) = false := decide_eq_false c30
              clear c30
              by_cases c31 : x16_2 < (wrap64 ((l2.length : Int) - 1))
              ·rw [if_pos c31] at H
               have c31b0 : decide (x16_2 < (wrap64 ((l2.length : Int) - 1))) = true := decide_eq_true c31
               clear c31
               by_cases c32 : ((rd_T48 t1250 x16_2).f3) = t1248
               focus
                rw [if_pos c32] at H
                have c32b0 : (((rd_T48 t1250 x16_2).f3) == t1248) = true := beq_iff_eq.mpr c32
                have c32b1 : (((rd_T48 t1250 x16_2).f3) != t1248) = false := bne_eq_false_iff_eq.mpr c32
                clear c32
                have H' := aA_ H
                clear H
                have p1280 : 0 ≤ (x16_2 : Int) := of_decide_eq_true (by first | (with_reducible assumption) | assumption)
                have q1280 : x16_2 < (t1250.length : Int) := of_decide_eq_true (by first | (with_reducible assumption) | assumption)
                obtain ⟨ad1280, e1280, hx1280_0, hx1280_1, hx1280_2, hx1280_3, hx1280_4⟩ := at_T48 (Kd.R_reads' HO_13.out).2.2 x16_2 p1280 q1280
                cases e1280
               rotate_left
               focus
                rw [if_neg c32] at H
                have c32b0 : (((rd_T48 t1250 x16_2).f3) == t1248) = false := beq_eq_false_iff_ne.mpr c32
                have c32b1 : (((rd_T48 t1250 x16_2).f3) != t1248) = true := bne_iff_ne.mpr c32
                by_cases c33 : ((rd_T48 t1250 x16_2).f3) = ((rd_T48 t1250 x16_2).f1)
                focus
                 rw [if_pos c33] at H
                 have c33b0 : (((rd_T48 t1250 x16_2).f3) == ((rd_T48 t1250 x16_2).f1)) = true := beq_iff_eq.mpr c33
                 have c33b1 : (((rd_T48 t1250 x16_2).f3) != ((rd_T48 t1250 x16_2).f1)) = false := bne_eq_false_iff_eq.mpr c33
                 clear c33
                 have H' := aA_ H
                 clear H
                 have p90162 : 0 ≤ (x16_2 : Int) := of_decide_eq_true (by first | (with_reducible assumption) | assumption)
                 have q90148 : x16_2 < (t1250.length : Int) := of_decide_eq_true (by first | (with_reducible assumption) | assumption)
                 obtain ⟨ad1280, e1280, hx1280_0, hx1280_1, hx1280_2, hx1280_3, hx1280_4⟩ := at_T48 (Kd.R_reads' HO_13.out).2.2 x16_2 p90162 q90148
                 cases e1280
                rotate_left
                focus
                 rw [if_neg c33] at H
                 have c33b0 : (((rd_T48 t1250 x16_2).f3) == ((rd_T48 t1250 x16_2).f1)) = false := beq_eq_false_iff_ne.mpr c33
                 have c33b1 : (((rd_T48 t1250 x16_2).f3) != ((rd_T48 t1250 x16_2).f1)) = true := bne_iff_ne.mpr c33
                 by_cases c34 : ((rd_T48 t1250 x16_2).f4) = 0
                 rotate_left
                 ·rw [if_neg c34] at H
                  exact absurd H (by simp)
                 rw [if_pos c34] at H
                 have c34b0 : (((rd_T48 t1250 x16_2).f4) == 0) = true := beq_iff_eq.mpr c34
                 have c34b1 : (((rd_T48 t1250 x16_2).f4) != 0) = false := bne_eq_false_iff_eq.mpr c34
                 clear c34
                 have H' := aA_ H
                 clear H
                 have p90144 : 0 ≤ (x16_2 : Int) := of_decide_eq_true (by first | (with_reducible assumption) | assumption)
                 have q90136 : x16_2 < (t1250.length : Int) := of_decide_eq_true (by first | (with_reducible assumption) | assumption)
                 obtain ⟨ad1280, e1280, hx1280_0, hx1280_1, hx1280_2, hx1280_3, hx1280_4⟩ := at_T48 (Kd.R_reads' HO_13.out).2.2 x16_2 p90144 q90136
                 cases e1280
                 replace p90144 := eq_true p90144
                 replace q90136 := eq_true q90136
                 have p90162 : 0 ≤ (x16_2 : Int) := of_decide_eq_true (by first | (with_reducible assumption) | assumption)
                 have q90148 : x16_2 < (t1250.length : Int) := of_decide_eq_true (by first | (with_reducible assumption) | assumption)
                 obtain ⟨ad90140, e90138, hx90142, hx90137, hx90141, hx90143, hx90139⟩ := at_T48 (Kd.R_reads' HO_13.out).2.2 x16_2 p90162 q90148
                 obtain rfl : ad1280 = ad90140 := (by injection e90138)
                all_goals
                 replace p90162 := eq_true p90162
                 replace q90148 := eq_true q90148
                 have p90152 : 0 ≤ (x16_2 : Int) := of_decide_eq_true (by first | (with_reducible assumption) | assumption)
                 have q90155 : x16_2 < (t1250.length : Int) := of_decide_eq_true (by first | (with_reducible assumption) | assumption)
                 obtain ⟨ad90156, e90151, hx90160, hx90149, hx90157, hx90161, hx90154⟩ := at_T48 (Kd.R_reads' HO_13.out).2.2 x16_2 p90152 q90155
                 obtain rfl : ad1280 = ad90156 := (by injection e90151)
                 replace p90152 := eq_true p90152
                 replace q90155 := eq_true q90155
                 have p1280 : 0 ≤ (x16_2 : Int) := of_decide_eq_true (by first | (with_reducible assumption) | assumption)
                 have q1280 : x16_2 < (t1250.length : Int) := of_decide_eq_true (by first | (with_reducible assumption) | assumption)
                 obtain ⟨ad90153, e90158, hx90159, hx90150, hx90147, hx90146, hx90145⟩ := at_T48 (Kd.R_reads' HO_13.out).2.2 x16_2 p1280 q1280
                 obtain rfl : ad1280 = ad90153 := (by injection e90158)
               all_goals
                replace p1280 := eq_true p1280
                replace q1280 := eq_true q1280
                have p1281 : 0 ≤ (x16_2 : Int) := of_decide_eq_true (by first | (with_reducible assumption) | assumption)
                have q1281 : x16_2 < (t1250.length : Int) := of_decide_eq_true (by first | (with_reducible assumption) | assumption)
                obtain ⟨ad1281, e1281, hx1281_0, hx1281_1, hx1281_2, hx1281_3, hx1281_4⟩ := at_T48 (Kd.R_reads' HO_13.out).2.2 x16_2 p1281 q1281
                obtain rfl : ad1280 = ad1281 := (by injection e1281)
                replace p1281 := eq_true p1281
                replace q1281 := eq_true q1281
                have p1282 : 0 ≤ (x16_2 : Int) := of_decide_eq_true (by first | (with_reducible assumption) | assumption)
                have q1282 : x16_2 < (t1250.length : Int) := of_decide_eq_true (by first | (with_reducible assumption) | assumption)
                obtain ⟨ad1282, e1282, hx1282_0, hx1282_1, hx1282_2, hx1282_3, hx1282_4⟩ := at_T48 (Kd.R_reads' HO_13.out).2.2 x16_2 p1282 q1282
                obtain rfl : ad1280 = ad1282 := (by injection e1282)
                replace p1282 := eq_true p1282
                replace q1282 := eq_true q1282
                go_wp2
                repeat (go_quiet (fail); try go_wp2)
                go_roundg k2
                case measure => have := HJ4.out; have := HK2.out; omega
                case rel => exact ⟨(wrap64 (x15_2 + ((rd_T48 t1250 x16_2).f2))), (wrap64 (x16_2 + 1)), (by first | rfl | simp | simp [*]), (by first | rfl | simp | simp [*]), H', ⟨by have := HJ4.out; have := HK2.out; omega⟩, ⟨by (with_reducible repeat (first | apply Kd.R_alloc | apply Kd.R_drewN | apply Kd.R_drew)); exact HO_13.out⟩, ⟨by repeat (with_reducible first | exact HB.out | apply bA_ | apply bN_ | apply bD_)⟩⟩
              ·rw [if_neg c31] at H
               have c31b0 : decide (x16_2 < (wrap64 ((l2.length : Int) - 1))) = false := decide_eq_false c31
               clear c31
               have H' := aA_ H
               clear H
               have p1280 : 0 ≤ (x16_2 : Int) := of_decide_eq_true (by first | (with_reducible assumption) | assumption)
               have q1280 : x16_2 < (t1250.length : Int) := of_decide_eq_true (by first | (with_reducible assumption) | assumption)
               obtain ⟨ad1280, e1280, hx1280_0, hx1280_1, hx1280_2, hx1280_3, hx1280_4⟩ := at_T48 (Kd.R_reads' HO_13.out).2.2 x16_2 p1280 q1280
               cases e1280
               replace p1280 := eq_true p1280
               replace q1280 := eq_true q1280
               have p1281 : 0 ≤ (x16_2 : Int) := of_decide_eq_true (by first | (with_reducible assumption) | assumption)
               have q1281 : x16_2 < (t1250.length : Int) := of_decide_eq_true (by first | (with_reducible assumption) | assumption)
               obtain ⟨ad1281, e1281, hx1281_0, hx1281_1, hx1281_2, hx1281_3, hx1281_4⟩ := at_T48 (Kd.R_reads' HO_13.out).2.2 x16_2 p1281 q1281
               obtain rfl : ad1280 = ad1281 := (by injection e1281)
               replace p1281 := eq_true p1281
               replace q1281 := eq_true q1281
               go_wp2
               repeat (go_quiet (fail); try go_wp2)
               go_roundg k2
               case measure => have := HJ4.out; have := HK2.out; omega
               case rel => exact ⟨(wrap64 (x15_2 + ((rd_T48 t1250 x16_2).f2))), (wrap64 (x16_2 + 1)), (by first | rfl | simp | simp [*]), (by first | rfl | simp | simp [*]), H', ⟨by have := HJ4.out; have := HK2.out; omega⟩, ⟨by (with_reducible repeat (first | apply Kd.R_alloc | apply Kd.R_drewN | apply Kd.R_drew)); exact HO_13.out⟩, ⟨by repeat (with_reducible first | exact HB.out | apply bA_ | apply bN_ | apply bD_)⟩⟩
            ·rw [if_neg c29] at H
             exact absurd H (by simp)
           ·rw [if_neg c28] at H
            exact absurd H (by simp)
          ·rw [if_neg c27] at H
           have c27b0 : decide (x16_2 < (l2.length : Int)) = false := decide_eq_false c27
           clear c27
           by_cases c35 : t1129 = true
           ·subst c35
            rw [if_pos rfl] at H
            by_cases c36 : x15_2 = (wrap64 (Int.tmod a0 1000000000000001))
            ·rw [if_pos c36] at H
             have c36b0 : (x15_2 == (wrap64 (Int.tmod a0 1000000000000001))) = true := beq_iff_eq.mpr c36
             have c36b1 : (x15_2 != (wrap64 (Int.tmod a0 1000000000000001))) = false := bne_eq_false_iff_eq.mpr c36
             clear c36
             obtain ⟨ji37, hji37⟩ : ∃ j_ : Int, (wrap64 ((l2.length : Int) - 1)) = j_ := ⟨_, rfl⟩
             replace H : (if 0 ≤ (ji37) then (if (ji37) < (t1250.length : Int) then (some (decide (((rd_T48 t1250 (ji37)).f3) ≤ t1248))) else (none)) else (none)) = some r := by first | (rw [hji37] at H; exact H) | (simp only [hji37] at H ⊢; exact H)
             have hji37w : (IntKind.i64.wrap ((l2.length : Int) - 1)) = ji37 := (i64_w _).trans hji37
             by_cases c38 : 0 ≤ (ji37)
             ·rw [if_pos c38] at H
              have c38b0 : decide (0 ≤ (ji37)) = true := decide_eq_true c38
              clear c38
              by_cases c39 : (ji37) < (t1250.length : Int)
              ·rw [if_pos c39] at H
               have c39b0 : decide ((ji37) < (t1250.length : Int)) = true := decide_eq_true c39
               clear c39
               obtain rfl := Option.some.inj H
               have p1286 : 0 ≤ ((ji37) : Int) := of_decide_eq_true (by first | (with_reducible assumption) | assumption)
               have q1286 : (ji37) < (t1250.length : Int) := of_decide_eq_true (by first | (with_reducible assumption) | assumption)
               obtain ⟨ad1286, e1286, hx1286_0, hx1286_1, hx1286_2, hx1286_3, hx1286_4⟩ := at_T48 (Kd.R_reads' HO_13.out).2.2 (ji37) p1286 q1286
               cases e1286
               replace p1286 := eq_true p1286
               replace q1286 := eq_true q1286
               go_wp2
               repeat (go_quiet (fail); try go_wp2)
               go_ret
               exact ⟨by first | rfl | (simp [errW_none, errW_some] <;> rfl) | (simp only [← hji37]; first | rfl | (simp [errW_none, errW_some] <;> rfl)) | (simp [*, errW_none, errW_some] <;> rfl), by repeat (with_reducible first | exact HB.out | apply bA_ | apply bN_ | apply bD_)⟩
              ·rw [if_neg c39] at H
               exact absurd H (by simp)
             ·rw [if_neg c38] at H
              exact absurd H (by simp)
            ·rw [if_neg c36] at H
             exact absurd H (by simp)
           ·replace c35 := Bool.eq_false_iff.mpr c35
            subst c35
            rw [if_neg (show ¬ (false = true) by decide)] at H
            exact absurd H (by simp)
       ·replace c20 := Bool.eq_false_iff.mpr c20
        subst c20
        rw [if_neg (show ¬ (false = true) by decide)] at H
        exact absurd H (by simp)
      ·replace c18 := Bool.eq_false_iff.mpr c18
       subst c18
       rw [if_neg (show ¬ (false = true) by decide)] at H
       exact absurd H (by simp)
     ·rw [if_neg c15] at H
      exact absurd H (by simp)
    ·rw [if_neg c14] at H
     exact absurd H (by simp)

end Go.Proofs.Yteikafepdkijdaa.X
