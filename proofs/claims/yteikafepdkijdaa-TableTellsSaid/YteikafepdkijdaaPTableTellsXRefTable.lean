-- cut by prune.py, a program of this session
import Derived.Test.YteikafepdkijdaaPTableTellsX0
import Derived.Test.YteikafepdkijdaaPTableTellsXRefPlain
import Derived.Test.YteikafepdkijdaaPTableTellsXRefLevel
namespace Go.Proofs.Yteikafepdkijdaa.X
open Go.RowKit Go.Proofs.YteikafepdkijdaaW.PrintWords Go.Proofs.YteikafepdkijdaaW.PrintLast Go.Proofs.YteikafepdkijdaaW.PrintMore
attribute [local go_sem] max2_int min2_int max_two min_two
set_option linter.unusedVariables false
set_option linter.unusedSimpArgs false

def demurrageref21_Of.f (k : Nat) (a0 : Int) (a1 : Int) (a2 : Int) (l3 : List (S56)) (a4 : Int) : Option ((List (S48)) × Int) := if a0 = 0 then ((demurrageref19_Bullet.f k a1 a2 l3).bind fun bt1498 => (some (bt1498.1, bt1498.2))) else (if a0 = 1 then ((demurrageref19_Equal.f k a1 a2 l3).bind fun bt1502 => (some (bt1502.1, bt1502.2))) else (if a0 = 2 then ((demurrageref20_Why.f k a1 a2 l3).bind fun t1506 => (if t1506 = 0 then ((demurrageref20_With.f k a1 a2 l3 a4).bind fun t1507 => (some (t1507, 0))) else (some (([] : List (S48)), t1506)))) else (some (([] : List (S48)), 1))))
set_option maxHeartbeats 8000000 in
set_option maxRecDepth 100000 in
theorem demurrageref21_Of.calls (k : Nat) (a0 : Int) (a1 : Int) (a2 : Int) (A3 : Option Addr) (c3 : Nat) (l3 : List (S56)) (a4 : Int) (r1 : List (S48)) (r2 : Int) (w : World) (hr3 : Kd.C k56 w A3 l3.length l3) (hc3 : l3.length ≤ c3) (h : demurrageref21_Of.f k a0 a1 a2 l3 a4 = some (r1, r2)) :
  Calls Try.prog 29 #[.int .i64 a0, .int .i64 a1, .int .i64 a2, .slice A3 l3.length c3, .int .i64 a4] w fun e w' => ∃ v0_ : Value, e = .returned (.tuple #[v0_, .int .i64 r2]) ∧ Kd.R k48 48 w' w.heap.size (fun _ => True) v0_ r1 ∧ Below w.heap.size w w' := by
 have HR3 := aA_ hr3
 have HC3 := aA_ hc3
 clear hr3 hc3
 have HB := aA_ (Below.refl w.heap.size w)
 have H : (if a0 = 0 then ((demurrageref19_Bullet.f k a1 a2 l3).bind fun bt1498 => (some (bt1498.1, bt1498.2))) else (if a0 = 1 then ((demurrageref19_Equal.f k a1 a2 l3).bind fun bt1502 => (some (bt1502.1, bt1502.2))) else (if a0 = 2 then ((demurrageref20_Why.f k a1 a2 l3).bind fun t1506 => (if t1506 = 0 then ((demurrageref20_With.f k a1 a2 l3 a4).bind fun t1507 => (some (t1507, 0))) else (some (([] : List (S48)), t1506)))) else (some (([] : List (S48)), 1))))) = some (r1, r2) := h
 clear h
 by_cases c6 : a0 = 0
 ·rw [if_pos c6] at H
  have c6b0 : (a0 == 0) = true := beq_iff_eq.mpr c6
  have c6b1 : (a0 != 0) = false := bne_eq_false_iff_eq.mpr c6
  clear c6
  replace H := bI_ H
  obtain ⟨⟨t1498, t1499⟩, A70, H⟩ := H
  (try dsimp only at H)
  have A7 := aA_ A70
  clear A70
  simp only [Option.some.injEq, Prod.mk.injEq] at H
  obtain ⟨rfl, rfl⟩ := H
  go_enter Try.func29, Try.ntmps29
  go_wp2_with (first | (refine goesL_ (some 19) rfl rfl Try.func43 (by kernel_rfl) rfl #[.int .i64 a1, .int .i64 a2, .slice A3 l3.length c3] rfl (by (try simp only [mT_, mC_, mN_]); first | done | rfl) ?_; (with_reducible refine (demurrageref19_Bullet.calls k a1 a2 _ _ l3 t1498 t1499 _ ?side1 ?side2 A7.out).mono ?_); (case side1 => repeat (first | exact HR3.out | (with_reducible first | refine Kd.C_alloc ?_ _ | refine Kd.C_drewN ?_ _ | refine Kd.C_drew ?_))); (case side2 => exact HC3.out); rintro e w8 ⟨v1500, rfl, ho0, hb⟩; refine ⟨_, rfl, ?_⟩; have HO1501 := aA_ (Kd.R_lower ho0 (below_size (by repeat (with_reducible first | exact HB.out | apply bA_ | apply bN_ | apply bD_)))); replace HB := bB_ (by repeat (with_reducible first | exact HB.out | apply bA_ | apply bN_ | apply bD_)) hb; (try clear hb); (try clear ho0)))
  go_ret2
  exact ⟨_, by rfl, by (with_reducible repeat (first | apply Kd.R_alloc | apply Kd.R_drewN | apply Kd.R_drew)); exact HO1501.out, by repeat (with_reducible first | exact HB.out | apply bA_ | apply bN_ | apply bD_)⟩
 ·rw [if_neg c6] at H
  have c6b0 : (a0 == 0) = false := beq_eq_false_iff_ne.mpr c6
  have c6b1 : (a0 != 0) = true := bne_iff_ne.mpr c6
  by_cases c9 : a0 = 1
  ·rw [if_pos c9] at H
   have c9b0 : (a0 == 1) = true := beq_iff_eq.mpr c9
   have c9b1 : (a0 != 1) = false := bne_eq_false_iff_eq.mpr c9
   clear c9
   replace H := bI_ H
   obtain ⟨⟨t1502, t1503⟩, A100, H⟩ := H
   (try dsimp only at H)
   have A10 := aA_ A100
   clear A100
   simp only [Option.some.injEq, Prod.mk.injEq] at H
   obtain ⟨rfl, rfl⟩ := H
   go_enter Try.func29, Try.ntmps29
   go_wp2_with (first | (refine goesL_ (some 27) rfl rfl Try.func44 (by kernel_rfl) rfl #[.int .i64 a1, .int .i64 a2, .slice A3 l3.length c3] rfl (by (try simp only [mT_, mC_, mN_]); first | done | rfl) ?_; (with_reducible refine (demurrageref19_Equal.calls k a1 a2 _ _ l3 t1502 t1503 _ ?side1 ?side2 A10.out).mono ?_); (case side1 => repeat (first | exact HR3.out | (with_reducible first | refine Kd.C_alloc ?_ _ | refine Kd.C_drewN ?_ _ | refine Kd.C_drew ?_))); (case side2 => exact HC3.out); rintro e w11 ⟨v1504, rfl, ho0, hb⟩; refine ⟨_, rfl, ?_⟩; have HO1505 := aA_ (Kd.R_lower ho0 (below_size (by repeat (with_reducible first | exact HB.out | apply bA_ | apply bN_ | apply bD_)))); replace HB := bB_ (by repeat (with_reducible first | exact HB.out | apply bA_ | apply bN_ | apply bD_)) hb; (try clear hb); (try clear ho0)))
   go_ret2
   exact ⟨_, by rfl, by (with_reducible repeat (first | apply Kd.R_alloc | apply Kd.R_drewN | apply Kd.R_drew)); exact HO1505.out, by repeat (with_reducible first | exact HB.out | apply bA_ | apply bN_ | apply bD_)⟩
  ·rw [if_neg c9] at H
   have c9b0 : (a0 == 1) = false := beq_eq_false_iff_ne.mpr c9
   have c9b1 : (a0 != 1) = true := bne_iff_ne.mpr c9
   by_cases c12 : a0 = 2
   ·rw [if_pos c12] at H
    have c12b0 : (a0 == 2) = true := beq_iff_eq.mpr c12
    have c12b1 : (a0 != 2) = false := bne_eq_false_iff_eq.mpr c12
    clear c12
    replace H := bI_ H
    obtain ⟨t1506, A130, H⟩ := H
    (try dsimp only at H)
    have A13 := aA_ A130
    clear A130
    by_cases c14 : t1506 = 0
    ·rw [if_pos c14] at H
     have c14b0 : (t1506 == 0) = true := beq_iff_eq.mpr c14
     have c14b1 : (t1506 != 0) = false := bne_eq_false_iff_eq.mpr c14
     clear c14
     replace H := bI_ H
     obtain ⟨t1507, A150, H⟩ := H
     (try dsimp only at H)
     have A15 := aA_ A150
     clear A150
     simp only [Option.some.injEq, Prod.mk.injEq] at H
     obtain ⟨rfl, rfl⟩ := H
     go_enter Try.func29, Try.ntmps29
     go_wp2_with (first | (refine goesL_ (some 35) rfl rfl Try.func20 (by kernel_rfl) rfl #[.int .i64 a1, .int .i64 a2, .slice A3 l3.length c3] rfl (by (try simp only [mT_, mC_, mN_]); first | done | rfl) ?_; (with_reducible refine (demurrageref20_Why.calls k a1 a2 _ _ l3 t1506 _ ?side1 ?side2 A13.out).mono ?_); (case side1 => repeat (first | exact HR3.out | (with_reducible first | refine Kd.C_alloc ?_ _ | refine Kd.C_drewN ?_ _ | refine Kd.C_drew ?_))); (case side2 => exact HC3.out); rintro e w16 ⟨rfl, hb⟩; refine ⟨_, rfl, ?_⟩; replace HB := bB_ (by repeat (with_reducible first | exact HB.out | apply bA_ | apply bN_ | apply bD_)) hb; (try clear hb)) | (refine goesL_ (some 43) rfl rfl Try.func23 (by kernel_rfl) rfl #[.int .i64 a1, .int .i64 a2, .slice A3 l3.length c3, .int .i64 a4] rfl (by (try simp only [mT_, mC_, mN_]); first | done | rfl) ?_; (with_reducible refine (demurrageref20_With.calls k a1 a2 _ _ l3 a4 t1507 _ ?side1 ?side2 A15.out).mono ?_); (case side1 => repeat (first | exact (Kd.C_below HR3.out HB.out) | (with_reducible first | refine Kd.C_alloc ?_ _ | refine Kd.C_drewN ?_ _ | refine Kd.C_drew ?_))); (case side2 => exact HC3.out); rintro e w17 ⟨v1508, rfl, ho0, hb⟩; refine ⟨_, rfl, ?_⟩; have HO1509 := aA_ (Kd.R_lower ho0 (below_size (by repeat (with_reducible first | exact HB.out | apply bA_ | apply bN_ | apply bD_)))); replace HB := bB_ (by repeat (with_reducible first | exact HB.out | apply bA_ | apply bN_ | apply bD_)) hb; (try clear hb); (try clear ho0)))
     go_ret2
     exact ⟨_, by rfl, by (with_reducible repeat (first | apply Kd.R_alloc | apply Kd.R_drewN | apply Kd.R_drew)); exact HO1509.out, by repeat (with_reducible first | exact HB.out | apply bA_ | apply bN_ | apply bD_)⟩
    ·rw [if_neg c14] at H
     have c14b0 : (t1506 == 0) = false := beq_eq_false_iff_ne.mpr c14
     have c14b1 : (t1506 != 0) = true := bne_iff_ne.mpr c14
     simp only [Option.some.injEq, Prod.mk.injEq] at H
     obtain ⟨rfl, rfl⟩ := H
     go_enter Try.func29, Try.ntmps29
     go_wp2_with (first | (refine goesL_ (some 35) rfl rfl Try.func20 (by kernel_rfl) rfl #[.int .i64 a1, .int .i64 a2, .slice A3 l3.length c3] rfl (by (try simp only [mT_, mC_, mN_]); first | done | rfl) ?_; (with_reducible refine (demurrageref20_Why.calls k a1 a2 _ _ l3 t1506 _ ?side1 ?side2 A13.out).mono ?_); (case side1 => repeat (first | exact HR3.out | (with_reducible first | refine Kd.C_alloc ?_ _ | refine Kd.C_drewN ?_ _ | refine Kd.C_drew ?_))); (case side2 => exact HC3.out); rintro e w18 ⟨rfl, hb⟩; refine ⟨_, rfl, ?_⟩; replace HB := bB_ (by repeat (with_reducible first | exact HB.out | apply bA_ | apply bN_ | apply bD_)) hb; (try clear hb)))
     go_ret2
     exact ⟨_, by rfl, by first | exact Kd.R_nil _ _ _ _ _ | exact Kd.N_nil _ _ _ _ _ | exact Kd.V_nil _ _ _ _ _ | exact Kd.Q_nil _ _ _ _ _ | exact Kd.S_nil _ _ _ _ _, by repeat (with_reducible first | exact HB.out | apply bA_ | apply bN_ | apply bD_)⟩
   ·rw [if_neg c12] at H
    have c12b0 : (a0 == 2) = false := beq_eq_false_iff_ne.mpr c12
    have c12b1 : (a0 != 2) = true := bne_iff_ne.mpr c12
    simp only [Option.some.injEq, Prod.mk.injEq] at H
    obtain ⟨rfl, rfl⟩ := H
    go_enter Try.func29, Try.ntmps29
    go_wp2
    go_ret2
    exact ⟨_, by rfl, by first | exact Kd.R_nil _ _ _ _ _ | exact Kd.N_nil _ _ _ _ _ | exact Kd.V_nil _ _ _ _ _ | exact Kd.Q_nil _ _ _ _ _ | exact Kd.S_nil _ _ _ _ _, by repeat (with_reducible first | exact HB.out | apply bA_ | apply bN_ | apply bD_)⟩

end Go.Proofs.Yteikafepdkijdaa.X
