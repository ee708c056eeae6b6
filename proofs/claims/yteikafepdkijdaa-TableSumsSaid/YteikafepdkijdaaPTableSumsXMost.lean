-- cut by prune.py, a program of this session
import Derived.Test.YteikafepdkijdaaPTableSumsX0
import Derived.Test.YteikafepdkijdaaPTableSumsHAll
import Derived.Test.YteikafepdkijdaaPTableSumsHMax
namespace Go.Proofs.Yteikafepdkijdaa.X
open Go.RowKit Go.Proofs.YteikafepdkijdaaW.PrintWords Go.Proofs.YteikafepdkijdaaW.PrintLast Go.Proofs.YteikafepdkijdaaW.PrintMore
attribute [local go_sem] max2_int min2_int max_two min_two
set_option linter.unusedVariables false
set_option linter.unusedSimpArgs false

def level_most.j0 : Nat → Int → Int → List (S56) → Bool → Option (Int × Int)
 | 0, _, _, _, _ => none
 | k + 1, x0, x1, x2, x14 => if x14 = true then (some (0, 1)) else (if x0 < 0 then (some (0, 2)) else (if x0 > 1000000000000000 then (some (0, 2)) else ((accrue_All.f k x0 x1 x2).bind fun bt101 => (if bt101.2 = 0 then ((slices_Max_int_int.f k bt101.1).bind fun t105 => (if (wrap64 (x0 + t105)) > 4611686018427387904 then (some (0, 6)) else (some (wrap64 (x0 + t105), 0)))) else (some (0, bt101.2))))))
def level_most.f (k : Nat) (a0 : Int) (a1 : Int) (l2 : List (S56)) : Option (Int × Int) := if (l2.length : Int) < 1 then (level_most.j0 k a0 a1 l2 true) else (level_most.j0 k a0 a1 l2 (decide ((l2.length : Int) > 1200)))
theorem level_most.mono_l : ∀ k, (∀ y0 y1 y2 y3, LeO (level_most.j0 k y0 y1 y2 y3) (level_most.j0 (k + 1) y0 y1 y2 y3))
 | 0 => fun _ _ _ _ r h => by simp [level_most.j0] at h
 | k + 1 => by
  have ih0 := level_most.mono_l k
  ·intro y0 y1 y2 y3
   unfold level_most.j0
   repeat' first
   | (with_reducible exact ih0 _ _ _ _)
   | (with_reducible exact accrue_All.mono _ _ _ _)
   | (with_reducible exact slices_Max_int_int.mono _ _)
   | (with_reducible exact LeO.refl _)
   | (with_reducible exact LeO.none _)
   | (with_reducible refine LeO.ite ?_ ?_)
   | (with_reducible refine LeO.bind ?_ (fun _ => ?_))
   | exact ih0 _ _ _ _
   | exact accrue_All.mono _ _ _ _
   | exact slices_Max_int_int.mono _ _
   | exact LeO.none _
   | refine LeO.ite ?_ ?_
   | refine LeO.bind ?_ (fun _ => ?_)
theorem level_most.mono : ∀ a0 a1 a2 k, LeO (level_most.f k a0 a1 a2) (level_most.f (k + 1) a0 a1 a2) := by
 intro a0 a1 a2 k
 have ih0 := level_most.mono_l k
 unfold level_most.f
 repeat' first
   | (with_reducible exact ih0 _ _ _ _)
   | (with_reducible exact accrue_All.mono _ _ _ _)
   | (with_reducible exact slices_Max_int_int.mono _ _)
   | (with_reducible exact LeO.refl _)
   | (with_reducible exact LeO.none _)
   | (with_reducible refine LeO.ite ?_ ?_)
   | (with_reducible refine LeO.bind ?_ (fun _ => ?_))
   | exact ih0 _ _ _ _
   | exact accrue_All.mono _ _ _ _
   | exact slices_Max_int_int.mono _ _
   | exact LeO.none _
   | refine LeO.ite ?_ ?_
   | refine LeO.bind ?_ (fun _ => ?_)
set_option maxHeartbeats 8000000 in
set_option maxRecDepth 100000 in
theorem level_most.calls (k : Nat) (a0 : Int) (a1 : Int) (A2 : Option Addr) (c2 : Nat) (l2 : List (S56)) (r1 : Int) (r2 : Int) (w : World) (hr2 : Kd.C k56 w A2 l2.length l2) (hc2 : l2.length ≤ c2) (h : level_most.f k a0 a1 l2 = some (r1, r2)) :
  Calls Try.prog 35 #[.int .i64 a0, .int .i64 a1, .slice A2 l2.length c2] w fun e w' => e = .returned (.tuple #[.int .i64 r1, .int .i64 r2]) ∧ Below w.heap.size w w' := by
 have HR2 := aA_ hr2
 have HC2 := aA_ hc2
 clear hr2 hc2
 have HB := aA_ (Below.refl w.heap.size w)
 have H : (if (l2.length : Int) < 1 then (level_most.j0 k a0 a1 l2 true) else (level_most.j0 k a0 a1 l2 (decide ((l2.length : Int) > 1200)))) = some (r1, r2) := h
 clear h
 have HC4 := aA_ H
 clear H
 go_enter Try.func35, Try.ntmps35
 go_upto_region 2 with (fail)
 go_cut [14] (fun v14 wc => ∃ (kq : Nat) (x14_3 : Bool), v14 = .bool x14_3 ∧ Aside0 (level_most.j0 kq a0 a1 l2 x14_3 = some (r1, r2)) ∧ Aside0 (kq ≤ k) ∧ Aside0 (Below w.heap.size w wc))
 case first =>
  have H := HC4.out
  clear HC4
  by_cases c5 : (l2.length : Int) < 1
  ·rw [if_pos c5] at H
   have c5b0 : decide ((l2.length : Int) < 1) = true := decide_eq_true c5
   have c5b1 : decide (l2.length < 1) = true := decide_eq_true (by omega)
   clear c5
   (first | rw [c5b0] | (simp only [i64_w, i32_w]; rw [c5b0]) | rw [c5b1] | skip)
   have H' := aA_ H
   clear H
   go_wp2
   go_meet
   case rel => exact ⟨_, _, (by first | rfl | simp | simp [*]), H', ⟨by first | omega | exact Nat.le_refl _⟩, ⟨by repeat (with_reducible first | exact HB.out | apply bA_ | apply bN_ | apply bD_)⟩⟩
  ·rw [if_neg c5] at H
   have c5b0 : decide ((l2.length : Int) < 1) = false := decide_eq_false c5
   have c5b1 : decide (l2.length < 1) = false := decide_eq_false (by omega)
   clear c5
   (first | rw [c5b0] | (simp only [i64_w, i32_w]; rw [c5b0]) | rw [c5b1] | skip)
   have H' := aA_ H
   clear H
   go_wp2
   go_meet
   case rel => exact ⟨_, (decide ((l2.length : Int) > 1200)), (by first | rfl | simp | simp [*]), H', ⟨by first | omega | exact Nat.le_refl _⟩, ⟨by repeat (with_reducible first | exact HB.out | apply bA_ | apply bN_ | apply bD_)⟩⟩
 case rest =>
  clear HC4
  try clear c2
  try clear p2
  try clear c3
  try clear c5
  try clear c5b0
  try clear c5b1
  obtain ⟨kq, x14_3, rfl, HA, HJ3, HB⟩ := hcut
  cases kq with
  | zero => exact absurd HA.out (by simp [level_most.j0])
  | succ kj3 =>
   have H := HA.out
   clear HA
   simp only [level_most.j0] at H
   by_cases c6 : x14_3 = true
   ·subst c6
    rw [if_pos rfl] at H
    simp only [Option.some.injEq, Prod.mk.injEq] at H
    obtain ⟨rfl, rfl⟩ := H
    go_wp2
    go_ret2
    exact ⟨by rfl, by repeat (with_reducible first | exact HB.out | apply bA_ | apply bN_ | apply bD_)⟩
   ·replace c6 := Bool.eq_false_iff.mpr c6
    subst c6
    rw [if_neg (show ¬ (false = true) by decide)] at H
    by_cases c7 : a0 < 0
    ·rw [if_pos c7] at H
     have c7b0 : decide (a0 < 0) = true := decide_eq_true c7
     clear c7
     simp only [Option.some.injEq, Prod.mk.injEq] at H
     obtain ⟨rfl, rfl⟩ := H
     go_wp2
     go_ret2
     exact ⟨by rfl, by repeat (with_reducible first | exact HB.out | apply bA_ | apply bN_ | apply bD_)⟩
    ·rw [if_neg c7] at H
     have c7b0 : decide (a0 < 0) = false := decide_eq_false c7
     clear c7
     by_cases c8 : a0 > 1000000000000000
     ·rw [if_pos c8] at H
      have c8b0 : decide (1000000000000000 < a0) = true := decide_eq_true c8
      clear c8
      simp only [Option.some.injEq, Prod.mk.injEq] at H
      obtain ⟨rfl, rfl⟩ := H
      go_wp2
      go_ret2
      exact ⟨by rfl, by repeat (with_reducible first | exact HB.out | apply bA_ | apply bN_ | apply bD_)⟩
     ·rw [if_neg c8] at H
      have c8b0 : decide (1000000000000000 < a0) = false := decide_eq_false c8
      clear c8
      replace H := bI_ H
      obtain ⟨⟨t101, t102⟩, A90, H⟩ := H
      (try dsimp only at H)
      have A9 := aA_ A90
      clear A90
      by_cases c10 : t102 = 0
      ·rw [if_pos c10] at H
       have c10b0 : (t102 == 0) = true := beq_iff_eq.mpr c10
       have c10b1 : (t102 != 0) = false := bne_eq_false_iff_eq.mpr c10
       clear c10
       replace H := bI_ H
       obtain ⟨t105, A110, H⟩ := H
       (try dsimp only at H)
       have A11 := aA_ A110
       clear A110
       by_cases c12 : (wrap64 (a0 + t105)) > 4611686018427387904
       focus
        rw [if_pos c12] at H
        have c12b0 : decide (4611686018427387904 < (wrap64 (a0 + t105))) = true := decide_eq_true c12
       rotate_left
       focus
        rw [if_neg c12] at H
        have c12b0 : decide (4611686018427387904 < (wrap64 (a0 + t105))) = false := decide_eq_false c12
       all_goals
        clear c12
        simp only [Option.some.injEq, Prod.mk.injEq] at H
        obtain ⟨rfl, rfl⟩ := H
        go_wp2_with (first | (refine goesL_ (some 32) rfl rfl Try.func54 (by kernel_rfl) rfl #[.int .i64 a0, .int .i64 a1, .slice A2 l2.length c2] rfl (by (try simp only [mT_, mC_, mN_]); first | done | rfl) ?_; (with_reducible refine (accrue_All.calls kj3 a0 a1 _ _ l2 t101 t102 _ ?side1 ?side2 A9.out).mono ?_); (case side1 => repeat (first | exact (Kd.C_below HR2.out HB.out) | (with_reducible first | refine Kd.C_alloc ?_ _ | refine Kd.C_drewN ?_ _ | refine Kd.C_drew ?_))); (case side2 => exact HC2.out); rintro e w13 ⟨v103, rfl, ho0, hb⟩; refine ⟨_, rfl, ?_⟩; have HO104 := aA_ (Kd.R_lower ho0 (below_size (by repeat (with_reducible first | exact HB.out | apply bA_ | apply bN_ | apply bD_)))); replace HB := bB_ (by repeat (with_reducible first | exact HB.out | apply bA_ | apply bN_ | apply bD_)) hb; (try clear hb); (try clear ho0); obtain ⟨Ao14, co14, eo14⟩ := Kd.R_slice HO104.out; subst eo14) | (refine goesL_ (some 40) rfl rfl Try.func55 (by kernel_rfl) rfl #[.slice Ao14 t101.length co14] rfl (by (try simp only [mT_, mC_, mN_]); first | done | rfl) ?_; (with_reducible refine (slices_Max_int_int.calls kj3 _ _ t101 t105 _ ?side1 ?side2 A11.out).mono ?_); (case side1 => repeat (first | exact (Kd.R_reads' HO104.out).2.2 | (with_reducible first | refine Kd.C_alloc ?_ _ | refine Kd.C_drewN ?_ _ | refine Kd.C_drew ?_))); (case side2 => exact (Kd.R_reads' HO104.out).2.1); rintro e w15 ⟨rfl, hb⟩; refine ⟨_, rfl, ?_⟩; replace HO104 := aA_ (Kd.R_below HO104.out hb); replace HB := bB_ (by repeat (with_reducible first | exact HB.out | apply bA_ | apply bN_ | apply bD_)) hb; (try clear hb)))
        go_ret2
        exact ⟨by rfl, by repeat (with_reducible first | exact HB.out | apply bA_ | apply bN_ | apply bD_)⟩
      ·rw [if_neg c10] at H
       have c10b0 : (t102 == 0) = false := beq_eq_false_iff_ne.mpr c10
       have c10b1 : (t102 != 0) = true := bne_iff_ne.mpr c10
       simp only [Option.some.injEq, Prod.mk.injEq] at H
       obtain ⟨rfl, rfl⟩ := H
       go_wp2_with (first | (refine goesL_ (some 32) rfl rfl Try.func54 (by kernel_rfl) rfl #[.int .i64 a0, .int .i64 a1, .slice A2 l2.length c2] rfl (by (try simp only [mT_, mC_, mN_]); first | done | rfl) ?_; (with_reducible refine (accrue_All.calls kj3 a0 a1 _ _ l2 t101 t102 _ ?side1 ?side2 A9.out).mono ?_); (case side1 => repeat (first | exact (Kd.C_below HR2.out HB.out) | (with_reducible first | refine Kd.C_alloc ?_ _ | refine Kd.C_drewN ?_ _ | refine Kd.C_drew ?_))); (case side2 => exact HC2.out); rintro e w19 ⟨v103, rfl, ho0, hb⟩; refine ⟨_, rfl, ?_⟩; have HO104 := aA_ (Kd.R_lower ho0 (below_size (by repeat (with_reducible first | exact HB.out | apply bA_ | apply bN_ | apply bD_)))); replace HB := bB_ (by repeat (with_reducible first | exact HB.out | apply bA_ | apply bN_ | apply bD_)) hb; (try clear hb); (try clear ho0)))
       go_ret2
       exact ⟨by rfl, by repeat (with_reducible first | exact HB.out | apply bA_ | apply bN_ | apply bD_)⟩

end Go.Proofs.Yteikafepdkijdaa.X
