-- cut by prune.py, a program of this session
import Derived.Test.YteikafepdkijdaaPLevelTableX0
import Derived.Test.YteikafepdkijdaaPLevelTableXRefOf
namespace Go.Proofs.Yteikafepdkijdaa.X
open Go.RowKit Go.Proofs.YteikafepdkijdaaW.PrintWords Go.Proofs.YteikafepdkijdaaW.PrintLast Go.Proofs.YteikafepdkijdaaW.PrintMore
attribute [local go_sem] max2_int min2_int max_two min_two
set_option linter.unusedVariables false
set_option linter.unusedSimpArgs false

mutual
def demurrageref19_Sound.j0 : Nat → List (S48) → Int → Int → List (S56) → Bool → Option (Bool)
 | 0, _, _, _, _, _ => none
 | k + 1, x0, x1, x2, x3, x23 => if x23 = true then (some false) else (demurrageref19_Sound.l0 k x0 x2 x3 x1 0)
def demurrageref19_Sound.l0 : Nat → List (S48) → Int → List (S56) → Int → Int → Option (Bool)
 | 0, _, _, _, _, _ => none
 | k + 1, x0, x2, x3, x9, x10 => if x10 < (x0.length : Int) then (if 0 ≤ x10 then (if x10 < (x3.length : Int) then ((demurrageref18_Of.f k x9 x2 ((rd_T56 x3 x10).f0) ((rd_T56 x3 x10).f1)).bind fun bt1125 => (if bt1125.2 = 0 then (if ((rd_T48 x0 x10).f0) = x9 then (if ((rd_T48 x0 x10).f1) = bt1125.1 then (if ((rd_T48 x0 x10).f2) < 0 then (some false) else (if ((rd_T48 x0 x10).f4) = (wrap64 (x9 - ((rd_T48 x0 x10).f2))) then (if ((rd_T48 x0 x10).f4) < 0 then (some false) else (if ((rd_T48 x0 x10).f3) = (wrap64 (bt1125.1 + ((rd_T48 x0 x10).f2))) then (demurrageref19_Sound.l0 k x0 x2 x3 ((rd_T48 x0 x10).f4) (wrap64 (x10 + 1))) else (some false))) else (some false))) else (some false)) else (some false)) else (some false))) else (none)) else (none)) else (some (x9 == 0))
end
def demurrageref19_Sound.f (k : Nat) (l0 : List (S48)) (a1 : Int) (a2 : Int) (l3 : List (S56)) : Option (Bool) := if (l0.length : Int) = (l3.length : Int) then (demurrageref19_Sound.j0 k l0 a1 a2 l3 ((l0.length : Int) == 0)) else (demurrageref19_Sound.j0 k l0 a1 a2 l3 true)
set_option maxHeartbeats 8000000 in
set_option maxRecDepth 100000 in
theorem demurrageref19_Sound.calls (k : Nat) (A0 : Option Addr) (c0 : Nat) (l0 : List (S48)) (a1 : Int) (a2 : Int) (A3 : Option Addr) (c3 : Nat) (l3 : List (S56)) (r : Bool) (w : World) (hr0 : Kd.C k48 w A0 l0.length l0) (hc0 : l0.length ≤ c0) (hr3 : Kd.C k56 w A3 l3.length l3) (hc3 : l3.length ≤ c3) (h : demurrageref19_Sound.f k l0 a1 a2 l3 = some r) :
  Calls Try.prog 24 #[.slice A0 l0.length c0, .int .i64 a1, .int .i64 a2, .slice A3 l3.length c3] w fun e w' => e = .returned (.bool r) ∧ Below w.heap.size w w' := by
 have hu56 := Try.underlying56
 have hu48 := Try.underlying48
 have HR0 := aA_ hr0
 have HC0 := aA_ hc0
 clear hr0 hc0
 have HR3 := aA_ hr3
 have HC3 := aA_ hc3
 clear hr3 hc3
 have HB := aA_ (Below.refl w.heap.size w)
 have H : (if (l0.length : Int) = (l3.length : Int) then (demurrageref19_Sound.j0 k l0 a1 a2 l3 ((l0.length : Int) == 0)) else (demurrageref19_Sound.j0 k l0 a1 a2 l3 true)) = some r := h
 clear h
 have HC5 := aA_ H
 clear H
 go_enter Try.func24, Try.ntmps24
 go_upto_region 1 with (fail)
 go_cut [23] (fun v23 wc => ∃ (kq : Nat) (x23_4 : Bool), v23 = .bool x23_4 ∧ Aside0 (demurrageref19_Sound.j0 kq l0 a1 a2 l3 x23_4 = some r) ∧ Aside0 (kq ≤ k) ∧ Aside0 (Below w.heap.size w wc))
 case first =>
  have H := HC5.out
  clear HC5
  by_cases c6 : (l0.length : Int) = (l3.length : Int)
  ·rw [if_pos c6] at H
   have c6b0 : ((l0.length : Int) == (l3.length : Int)) = true := beq_iff_eq.mpr c6
   have c6b1 : ((l0.length : Int) != (l3.length : Int)) = false := bne_eq_false_iff_eq.mpr c6
   have c6b2 : (l0.length == l3.length) = true := by first | simpa using c6 | (simp at c6 ⊢; omega)
   clear c6
   (first | rw [c6b0] | (simp only [i64_w, i32_w]; rw [c6b0]) | rw [c6b1] | skip)
   have H' := aA_ H
   clear H
   go_wp2
   go_meet
   case rel => exact ⟨_, _, (by first | rfl | simp | simp [*]), H', ⟨by first | omega | exact Nat.le_refl _⟩, ⟨by repeat (with_reducible first | exact HB.out | apply bA_ | apply bN_ | apply bD_)⟩⟩
  ·rw [if_neg c6] at H
   have c6b0 : ((l0.length : Int) == (l3.length : Int)) = false := beq_eq_false_iff_ne.mpr c6
   have c6b1 : ((l0.length : Int) != (l3.length : Int)) = true := bne_iff_ne.mpr c6
   have c6b2 : (l0.length == l3.length) = false := by first | simpa using c6 | (simp at c6 ⊢; omega)
   (first | rw [c6b0] | (simp only [i64_w, i32_w]; rw [c6b0]) | rw [c6b1] | skip)
   have H' := aA_ H
   clear H
   go_wp2
   go_meet
   case rel => exact ⟨_, _, (by first | rfl | simp | simp [*]), H', ⟨by first | omega | exact Nat.le_refl _⟩, ⟨by repeat (with_reducible first | exact HB.out | apply bA_ | apply bN_ | apply bD_)⟩⟩
 case rest =>
  clear HC5
  try clear c2
  try clear p2
  try clear c3
  try clear c6
  try clear c6b0
  try clear c6b1
  try clear c6b2
  obtain ⟨kq, x23_4, rfl, HA, HJ4, HB⟩ := hcut
  cases kq with
  | zero => exact absurd HA.out (by simp [demurrageref19_Sound.j0])
  | succ kj4 =>
   have H := HA.out
   clear HA
   simp only [demurrageref19_Sound.j0] at H
   by_cases c7 : x23_4 = true
   ·subst c7
    rw [if_pos rfl] at H
    obtain rfl := Option.some.inj H
    go_wp2
    go_ret
    exact ⟨by rfl, by repeat (with_reducible first | exact HB.out | apply bA_ | apply bN_ | apply bD_)⟩
   ·replace c7 := Bool.eq_false_iff.mpr c7
    subst c7
    rw [if_neg (show ¬ (false = true) by decide)] at H
    have H' := aA_ H
    clear H
    go_wp2
    (try simp only [Act.put, sT_, sZ_, sS_])
    go_loopg [9, 10] kj4 (fun kq v9 v10 w' => ∃ (x9_2 : Int) (x10_2 : Int), v9 = .int .i64 x9_2 ∧ v10 = .int .i64 x10_2 ∧ Aside0 (demurrageref19_Sound.l0 kq l0 a2 l3 x9_2 x10_2 = some r) ∧ Aside0 (kq ≤ kj4) ∧ Aside0 (Below w.heap.size w w'))
    case atStart => exact ⟨(a1), (0), (by first | rfl | simp | simp [*]), (by first | rfl | simp | simp [*]), H', ⟨Nat.le_refl _⟩, ⟨by repeat (with_reducible first | exact HB.out | apply bA_ | apply bN_ | apply bD_)⟩⟩
    case round =>
     clear H'
     try clear c2
     try clear p2
     try clear c3
     try clear c6
     try clear c6b0
     try clear c6b1
     try clear c6b2
     try clear c7
     try clear p2
     obtain ⟨x9_2, x10_2, rfl, rfl, HA, HK2, HB⟩ := hrel
     cases gk with
     | zero => exact absurd HA.out (by simp [demurrageref19_Sound.l0])
     | succ k2 =>
      have H := HA.out
      clear HA
      simp only [demurrageref19_Sound.l0] at H
      by_cases c8 : x10_2 < (l0.length : Int)
      rotate_left
      ·rw [if_neg c8] at H
       have c8b0 : decide (x10_2 < (l0.length : Int)) = false := decide_eq_false c8
       clear c8
       obtain rfl := Option.some.inj H
       go_wp2
       go_ret
       exact ⟨by rfl, by repeat (with_reducible first | exact HB.out | apply bA_ | apply bN_ | apply bD_)⟩
      rw [if_pos c8] at H
      have c8b0 : decide (x10_2 < (l0.length : Int)) = true := decide_eq_true c8
      clear c8
      by_cases c9 : 0 ≤ x10_2
      rotate_left
      ·rw [if_neg c9] at H
       exact absurd H (by simp)
      rw [if_pos c9] at H
      have c9b0 : decide (0 ≤ x10_2) = true := decide_eq_true c9
      clear c9
      by_cases c10 : x10_2 < (l3.length : Int)
      rotate_left
      ·rw [if_neg c10] at H
       exact absurd H (by simp)
      rw [if_pos c10] at H
      have c10b0 : decide (x10_2 < (l3.length : Int)) = true := decide_eq_true c10
      clear c10
      replace H := bI_ H
      obtain ⟨⟨t1125, t1126⟩, A110, H⟩ := H
      (try dsimp only at H)
      have A11 := aA_ A110
      clear A110
      by_cases c12 : t1126 = 0
      focus
       rw [if_pos c12] at H
       have c12b0 : (t1126 == 0) = true := beq_iff_eq.mpr c12
       have c12b1 : (t1126 != 0) = false := bne_eq_false_iff_eq.mpr c12
       clear c12
       by_cases c13 : ((rd_T48 l0 x10_2).f0) = x9_2
       focus
        rw [if_pos c13] at H
        have c13b0 : (((rd_T48 l0 x10_2).f0) == x9_2) = true := beq_iff_eq.mpr c13
        have c13b1 : (((rd_T48 l0 x10_2).f0) != x9_2) = false := bne_eq_false_iff_eq.mpr c13
        clear c13
        by_cases c14 : ((rd_T48 l0 x10_2).f1) = t1125
        focus
         rw [if_pos c14] at H
         have c14b0 : (((rd_T48 l0 x10_2).f1) == t1125) = true := beq_iff_eq.mpr c14
         have c14b1 : (((rd_T48 l0 x10_2).f1) != t1125) = false := bne_eq_false_iff_eq.mpr c14
         clear c14
         by_cases c15 : ((rd_T48 l0 x10_2).f2) < 0
         focus
          rw [if_pos c15] at H
          have c15b0 : decide (((rd_T48 l0 x10_2).f2) < 0) = true := decide_eq_true c15
          clear c15
          obtain rfl := Option.some.inj H
         rotate_left
         focus
          rw [if_neg c15] at H
          have c15b0 : decide (((rd_T48 l0 x10_2).f2) < 0) = false := decide_eq_false c15
          clear c15
          by_cases c19 : ((rd_T48 l0 x10_2).f4) = (wrap64 (x9_2 - ((rd_T48 l0 x10_2).f2)))
          focus
           rw [if_pos c19] at H
           have c19b0 : (((rd_T48 l0 x10_2).f4) == (wrap64 (x9_2 - ((rd_T48 l0 x10_2).f2)))) = true := beq_iff_eq.mpr c19
           have c19b1 : (((rd_T48 l0 x10_2).f4) != (wrap64 (x9_2 - ((rd_T48 l0 x10_2).f2)))) = false := bne_eq_false_iff_eq.mpr c19
           clear c19
           by_cases c20 : ((rd_T48 l0 x10_2).f4) < 0
           focus
            rw [if_pos c20] at H
            have c20b0 : decide (((rd_T48 l0 x10_2).f4) < 0) = true := decide_eq_true c20
            clear c20
            obtain rfl := Option.some.inj H
           rotate_left
           focus
            rw [if_neg c20] at H
            have c20b0 : decide (((rd_T48 l0 x10_2).f4) < 0) = false := decide_eq_false c20
            clear c20
            by_cases c24 : ((rd_T48 l0 x10_2).f3) = (wrap64 (t1125 + ((rd_T48 l0 x10_2).f2)))
            focus
             rw [if_pos c24] at H
             have c24b0 : (((rd_T48 l0 x10_2).f3) == (wrap64 (t1125 + ((rd_T48 l0 x10_2).f2)))) = true := beq_iff_eq.mpr c24
             have c24b1 : (((rd_T48 l0 x10_2).f3) != (wrap64 (t1125 + ((rd_T48 l0 x10_2).f2)))) = false := bne_eq_false_iff_eq.mpr c24
             clear c24
             have H' := aA_ H
             clear H
            rotate_left
            focus
             rw [if_neg c24] at H
             have c24b0 : (((rd_T48 l0 x10_2).f3) == (wrap64 (t1125 + ((rd_T48 l0 x10_2).f2)))) = false := beq_eq_false_iff_ne.mpr c24
             have c24b1 : (((rd_T48 l0 x10_2).f3) != (wrap64 (t1125 + ((rd_T48 l0 x10_2).f2)))) = true := bne_iff_ne.mpr c24
             obtain rfl := Option.some.inj H
          rotate_left 3
          focus
           rw [if_neg c19] at H
           have c19b0 : (((rd_T48 l0 x10_2).f4) == (wrap64 (x9_2 - ((rd_T48 l0 x10_2).f2)))) = false := beq_eq_false_iff_ne.mpr c19
           have c19b1 : (((rd_T48 l0 x10_2).f4) != (wrap64 (x9_2 - ((rd_T48 l0 x10_2).f2)))) = true := bne_iff_ne.mpr c19
           obtain rfl := Option.some.inj H
        rotate_left 5
        focus
         rw [if_neg c14] at H
         have c14b0 : (((rd_T48 l0 x10_2).f1) == t1125) = false := beq_eq_false_iff_ne.mpr c14
         have c14b1 : (((rd_T48 l0 x10_2).f1) != t1125) = true := bne_iff_ne.mpr c14
         obtain rfl := Option.some.inj H
       rotate_left 6
       focus
        rw [if_neg c13] at H
        have c13b0 : (((rd_T48 l0 x10_2).f0) == x9_2) = false := beq_eq_false_iff_ne.mpr c13
        have c13b1 : (((rd_T48 l0 x10_2).f0) != x9_2) = true := bne_iff_ne.mpr c13
        obtain rfl := Option.some.inj H
      rotate_left 7
      focus
       rw [if_neg c12] at H
       have c12b0 : (t1126 == 0) = false := beq_eq_false_iff_ne.mpr c12
       have c12b1 : (t1126 != 0) = true := bne_iff_ne.mpr c12
       obtain rfl := Option.some.inj H
      all_goals
       have p1124 : 0 ≤ (x10_2 : Int) := of_decide_eq_true (by first | (with_reducible assumption) | assumption)
       have q1124 : x10_2 < (l3.length : Int) := of_decide_eq_true (by first | (with_reducible assumption) | assumption)
       obtain ⟨ad1124, e1124, hx1124_0, hx1124_1⟩ := at_T56 HR3.out x10_2 p1124 q1124
       cases e1124
       replace hx1124_0 := cC_ HB hx1124_0
       replace hx1124_1 := cC_ HB hx1124_1
       replace p1124 := eq_true p1124
       replace q1124 := eq_true q1124
       go_wp2_with (first | ((with_reducible refine gate_callee (f := 26) rfl ?_); refine goesL_ (some 38) rfl rfl Try.func26 (by kernel_rfl) rfl #[.int .i64 x9_2, .int .i64 a2, .agg #[.int .i64 ((rd_T56 l3 x10_2).f0), .int .i64 ((rd_T56 l3 x10_2).f1)]] rfl (by (try simp only [mT_, mC_, mN_]); first | done | rfl) ?_; (with_reducible refine (demurrageref18_Of.calls k2 x9_2 a2 ((rd_T56 l3 x10_2).f0) ((rd_T56 l3 x10_2).f1) t1125 t1126 _ A11.out).mono ?_); rintro e w16 ⟨rfl, hb⟩; refine ⟨_, rfl, ?_⟩; replace HB := bB_ (by repeat (with_reducible first | exact HB.out | apply bA_ | apply bN_ | apply bD_)) hb; (try clear hb); have p1127 : 0 ≤ (x10_2 : Int) := of_decide_eq_true (by first | (with_reducible assumption) | assumption); have q1127 : x10_2 < (l0.length : Int) := of_decide_eq_true (by first | (with_reducible assumption) | assumption); obtain ⟨ad1127, e1127, hx1127_0, hx1127_1, hx1127_2, hx1127_3, hx1127_4⟩ := at_T48 HR0.out x10_2 p1127 q1127; cases e1127; replace hx1127_0 := cC_ HB hx1127_0; replace hx1127_1 := cC_ HB hx1127_1; replace hx1127_2 := cC_ HB hx1127_2; replace hx1127_3 := cC_ HB hx1127_3; replace hx1127_4 := cC_ HB hx1127_4; replace p1127 := eq_true p1127; replace q1127 := eq_true q1127) | ((with_reducible refine gate_dst (N := 13) rfl ?_); (try (refine gate_guard (by rfl) ?_; dsimp only)); refine box_event rfl (N := 13) rfl (cs := #[.int .i64 0, .int .i64 0, .int .i64 0, .int .i64 0, .int .i64 0]) (t := 48) ?hr ?_; (case hr => go_simp <;> rfl); intro gb1128 hg w17 hbox hb; have BK1128 := aA_ (hbox); have GW1128 := gW_ hg (by repeat (with_reducible first | exact HB.out | apply bA_ | apply bN_ | apply bD_)); have GE1128 := GW1128; replace HB := bB_ (by repeat (with_reducible first | exact HB.out | apply bA_ | apply bN_ | apply bD_)) hb; clear hb hbox hg; have hcz18_0 : w17.cell? ⟨gb1128, 0, none⟩ = some (.int .i64 0) := (blk_cell BK1128.out 0).trans rfl; have hcz18_1 : w17.cell? ⟨gb1128, 1, none⟩ = some (.int .i64 0) := (blk_cell BK1128.out 1).trans rfl; have hcz18_2 : w17.cell? ⟨gb1128, 2, none⟩ = some (.int .i64 0) := (blk_cell BK1128.out 2).trans rfl; have hcz18_3 : w17.cell? ⟨gb1128, 3, none⟩ = some (.int .i64 0) := (blk_cell BK1128.out 3).trans rfl; have hcz18_4 : w17.cell? ⟨gb1128, 4, none⟩ = some (.int .i64 0) := (blk_cell BK1128.out 4).trans rfl; have hfz18_0 := blk_frozen BK1128.out 0; have hfz18_1 := blk_frozen BK1128.out 1; have hfz18_2 := blk_frozen BK1128.out 2; have hfz18_3 := blk_frozen BK1128.out 3; have hfz18_4 := blk_frozen BK1128.out 4))
      ·go_ret
       exact ⟨by rfl, by repeat (with_reducible first | exact HB.out | apply bA_ | apply bN_ | apply bD_ | refine bS_ ?_ GE1128.out)⟩
      ·go_ret
       exact ⟨by rfl, by repeat (with_reducible first | exact HB.out | apply bA_ | apply bN_ | apply bD_ | refine bS_ ?_ GE1128.out)⟩
      ·go_ret
       exact ⟨by rfl, by repeat (with_reducible first | exact HB.out | apply bA_ | apply bN_ | apply bD_ | refine bS_ ?_ GE1128.out)⟩
      ·go_ret
       exact ⟨by rfl, by repeat (with_reducible first | exact HB.out | apply bA_ | apply bN_ | apply bD_ | refine bS_ ?_ GE1128.out)⟩
      ·go_ret
       exact ⟨by rfl, by repeat (with_reducible first | exact HB.out | apply bA_ | apply bN_ | apply bD_ | refine bS_ ?_ GE1128.out)⟩
      ·go_roundg k2
       case measure => have := HJ4.out; have := HK2.out; omega
       case rel => exact ⟨((rd_T48 l0 x10_2).f4), (wrap64 (x10_2 + 1)), (by first | rfl | simp | simp [*]), (by first | rfl | simp | simp [*]), H', ⟨by have := HJ4.out; have := HK2.out; omega⟩, ⟨by repeat (with_reducible first | exact HB.out | apply bA_ | apply bN_ | apply bD_ | refine bS_ ?_ GE1128.out)⟩⟩
      ·go_ret
       exact ⟨by rfl, by repeat (with_reducible first | exact HB.out | apply bA_ | apply bN_ | apply bD_ | refine bS_ ?_ GE1128.out)⟩
      ·go_ret
       exact ⟨by rfl, by repeat (with_reducible first | exact HB.out | apply bA_ | apply bN_ | apply bD_ | refine bS_ ?_ GE1128.out)⟩

end Go.Proofs.Yteikafepdkijdaa.X
