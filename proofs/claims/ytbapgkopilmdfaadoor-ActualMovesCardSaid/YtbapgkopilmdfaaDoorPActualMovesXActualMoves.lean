-- cut by prune.py, a program of this session
import Derived.Test.YtbapgkopilmdfaaDoorPActualMovesX0
import Derived.Test.YtbapgkopilmdfaaDoorPActualMovesXEq
import Derived.Test.YtbapgkopilmdfaaDoorPActualMovesXRefAdd
import Derived.Test.YtbapgkopilmdfaaDoorPActualMovesXRefFour
import Derived.Test.YtbapgkopilmdfaaDoorPActualMovesXRefOf
import Derived.Test.YtbapgkopilmdfaaDoorPActualMovesXShown
import Derived.Test.YtbapgkopilmdfaaDoorPActualMovesHActual
import Derived.Test.YtbapgkopilmdfaaDoorPActualMovesHYears
namespace Go.Proofs.YtbapgkopilmdfaaDoor.X
open Go.RowKit Go.Proofs.YtbapgkopilmdfaaDoorW.PrintWords Go.Proofs.YtbapgkopilmdfaaDoorW.PrintLast Go.Proofs.YtbapgkopilmdfaaDoorW.PrintMore
attribute [local go_sem] max2_int min2_int max_two min_two
set_option linter.unusedVariables false
set_option linter.unusedSimpArgs false

attribute [local go_sem high] eqA24
mutual
def demurragelaw08_ActualMoves.j0 : Nat → Int → Int → Bool → Bool → Option (Bool)
 | 0, _, _, _, _ => none
 | k + 1, x0, x1, x5, x47 => if x47 = true then (some x5) else ((actual_By360.f k x0 x1).bind fun bt1549 => ((actual_By365.f k x0 x1).bind fun bt1553 => ((actual_ByYears.f k x0 x1).bind fun bt1557 => ((actual_By360.f k (wrap64 (x0 + 146097)) (wrap64 (x1 + 146097))).bind fun bt1561 => ((actual_By365.f k (wrap64 (x0 + 146097)) (wrap64 (x1 + 146097))).bind fun bt1565 => ((actual_ByYears.f k (wrap64 (x0 + 146097)) (wrap64 (x1 + 146097))).bind fun bt1569 => (if bt1549.2.2 = 0 then (if bt1553.2.2 = 0 then (if bt1557.2.2 = 0 then (if bt1561.2.2 = 0 then (if bt1565.2.2 = 0 then (if bt1569.2.2 = 0 then (if (!(bt1549.1 == bt1561.1) || (!(bt1549.2.1 == bt1561.2.1))) = true then (none) else (if (!(bt1553.1 == bt1565.1) || (!(bt1553.2.1 == bt1565.2.1))) = true then (none) else (if (!(bt1557.1 == bt1569.1) || (!(bt1557.2.1 == bt1569.2.1))) = true then (none) else ((demurrageref04_Of.f k x1).bind fun bt1735 => ((demurrageref04_Leap.f bt1735.1).bind fun t1740 => (if t1740 = true then (demurragelaw08_ActualMoves.j1 k x0 x1 x5 366 bt1549.1 bt1549.2.1 bt1557.1 bt1557.2.1) else (demurragelaw08_ActualMoves.j1 k x0 x1 x5 365 bt1549.1 bt1549.2.1 bt1557.1 bt1557.2.1))))))) else (none)) else (none)) else (none)) else (none)) else (none)) else (none))))))))
def demurragelaw08_ActualMoves.j1 : Nat → Int → Int → Bool → Int → Int → Int → Int → Int → Option (Bool)
 | 0, _, _, _, _, _, _, _, _ => none
 | k + 1, x0, x1, x5, x20, x1553000, x1553001, x1561000, x1561001 => (actual_ByYears.f k x0 (wrap64 (x1 + 1))).bind fun bt1773 => ((actual_By360.f k x0 (wrap64 (x1 + 1))).bind fun bt1777 => ((demurrageref02_Add.f k x1561000 x1561001 1 x20).bind fun bt1781 => ((demurrageref02_Add.f k x1553000 x1553001 1 360).bind fun bt1785 => (if x5 = true then (if (bt1773.1 == bt1781.1 && (bt1773.2.1 == bt1781.2.1)) = true then (some (bt1777.1 == bt1785.1 && (bt1777.2.1 == bt1785.2.1))) else (none)) else (none)))))
end
def demurragelaw08_ActualMoves.f (k : Nat) (a0 : Int) (a1 : Int) : Option (Bool) := (demurragelaw08_shown.f k).bind fun t826 => ((demurrageref04_Day.f a0).bind fun t827 => (if t827 = true then ((demurrageref04_Day.f a1).bind fun t828 => (if t828 = true then (if a0 > a1 then (demurragelaw08_ActualMoves.j0 k a0 a1 t826 true) else (demurragelaw08_ActualMoves.j0 k a0 a1 t826 (decide ((wrap64 (a1 + 146097)) > 3652059)))) else (demurragelaw08_ActualMoves.j0 k a0 a1 t826 true))) else (demurragelaw08_ActualMoves.j0 k a0 a1 t826 true)))
set_option maxHeartbeats 8000000 in
set_option maxRecDepth 100000 in
theorem demurragelaw08_ActualMoves.calls (k : Nat) (a0 : Int) (a1 : Int) (r : Bool) (w : World) (hv : Vars w) (h : demurragelaw08_ActualMoves.f k a0 a1 = some r) :
  Calls Tryd.prog 7 #[.int .i64 a0, .int .i64 a1] w fun e w' => e = .returned (.bool r) ∧ Below w.heap.size w w' := by
 have HV := aA_ hv
 clear hv
 have hu24 := Tryd.underlying24
 have hu41 := Tryd.underlying41
 have HB := aA_ (Below.refl w.heap.size w)
 have H : ((demurragelaw08_shown.f k).bind fun t826 => ((demurrageref04_Day.f a0).bind fun t827 => (if t827 = true then ((demurrageref04_Day.f a1).bind fun t828 => (if t828 = true then (if a0 > a1 then (demurragelaw08_ActualMoves.j0 k a0 a1 t826 true) else (demurragelaw08_ActualMoves.j0 k a0 a1 t826 (decide ((wrap64 (a1 + 146097)) > 3652059)))) else (demurragelaw08_ActualMoves.j0 k a0 a1 t826 true))) else (demurragelaw08_ActualMoves.j0 k a0 a1 t826 true)))) = some r := h
 clear h
 replace H := bI_ H
 obtain ⟨t826, A30, H⟩ := H
 (try dsimp only at H)
 have A3 := aA_ A30
 clear A30
 have HC4 := aA_ H
 clear H
 go_enter Tryd.func7, Tryd.ntmps7
 go_upto_region 2 with (first | ((with_reducible refine gate_callee (f := 8) rfl ?_); refine goesL_ (some 29) rfl rfl Tryd.func8 (by kernel_rfl) rfl #[] rfl (by (try simp only [mT_, mC_, mN_]); first | done | rfl) ?_; (with_reducible refine (demurragelaw08_shown.calls k  t826 _ ?sv A3.out).mono ?_); (case sv => exact (Vars.below HV.out (by repeat (with_reducible first | exact HB.out | apply bA_ | apply bN_ | apply bD_)))); rintro e w5 ⟨rfl, hb⟩; refine ⟨_, rfl, ?_⟩; replace HB := bB_ (by repeat (with_reducible first | exact HB.out | apply bA_ | apply bN_ | apply bD_)) hb; (try clear hb)))
 (try simp only [Act.put, sT_, sZ_, sS_])
 go_cut [47] (fun v47 wc => ∃ (kq : Nat) (x47_3 : Bool), v47 = .bool x47_3 ∧ Aside0 (demurragelaw08_ActualMoves.j0 kq a0 a1 t826 x47_3 = some r) ∧ Aside0 (kq ≤ k) ∧ Aside0 (Below w.heap.size w wc))
 case first =>
  have H := HC4.out
  clear HC4
  replace H := bI_ H
  obtain ⟨t827, A60, H⟩ := H
  (try dsimp only at H)
  have A6 := aA_ A60
  clear A60
  by_cases c7 : t827 = true
  ·subst c7
   rw [if_pos rfl] at H
   replace H := bI_ H
   obtain ⟨t828, A80, H⟩ := H
   (try dsimp only at H)
   have A8 := aA_ A80
   clear A80
   by_cases c9 : t828 = true
   ·subst c9
    rw [if_pos rfl] at H
    by_cases c10 : a0 > a1
    ·rw [if_pos c10] at H
     have c10b0 : decide (a1 < a0) = true := decide_eq_true c10
     clear c10
     (first | rw [c10b0] | (simp only [i64_w, i32_w]; rw [c10b0]) | rw [c10b1] | skip)
     have H' := aA_ H
     clear H
     go_wp2_with (first | ((with_reducible refine gate_callee (f := 15) rfl ?_); refine goesL_ (some 31) rfl rfl Tryd.func15 (by kernel_rfl) rfl #[.int .i64 a0] rfl (by (try simp only [mT_, mC_, mN_]); first | done | rfl) ?_; (with_reducible refine (demurrageref04_Day.calls a0 true _ A6.out).mono ?_); rintro e w' ⟨rfl, ⟨nd, rfl⟩⟩; refine ⟨_, rfl, ?_⟩) | (go_at_call 15; (with_reducible refine (demurrageref04_Day.calls a1 true _ A8.out).mono ?_); rintro e w' ⟨rfl, ⟨nd, rfl⟩⟩))
     go_meet
     case rel => exact ⟨_, _, (by first | rfl | (simp; done) | (simp [*]; done)), H', ⟨by first | omega | exact Nat.le_refl _⟩, ⟨by repeat (with_reducible first | exact HB.out | apply bA_ | apply bN_ | apply bD_)⟩⟩
    ·rw [if_neg c10] at H
     have c10b0 : decide (a1 < a0) = false := decide_eq_false c10
     clear c10
     (first | rw [c10b0] | (simp only [i64_w, i32_w]; rw [c10b0]) | rw [c10b1] | skip)
     have H' := aA_ H
     clear H
     go_wp2_with (first | ((with_reducible refine gate_callee (f := 15) rfl ?_); refine goesL_ (some 31) rfl rfl Tryd.func15 (by kernel_rfl) rfl #[.int .i64 a0] rfl (by (try simp only [mT_, mC_, mN_]); first | done | rfl) ?_; (with_reducible refine (demurrageref04_Day.calls a0 true _ A6.out).mono ?_); rintro e w' ⟨rfl, ⟨nd, rfl⟩⟩; refine ⟨_, rfl, ?_⟩) | (go_at_call 15; (with_reducible refine (demurrageref04_Day.calls a1 true _ A8.out).mono ?_); rintro e w' ⟨rfl, ⟨nd, rfl⟩⟩))
     go_meet
     case rel => exact ⟨_, (decide ((wrap64 (a1 + 146097)) > 3652059)), (by first | rfl | (simp; done) | (simp [*]; done)), H', ⟨by first | omega | exact Nat.le_refl _⟩, ⟨by repeat (with_reducible first | exact HB.out | apply bA_ | apply bN_ | apply bD_)⟩⟩
   ·replace c9 := Bool.eq_false_iff.mpr c9
    subst c9
    rw [if_neg (show ¬ (false = true) by decide)] at H
    have H' := aA_ H
    clear H
    go_wp2_with (first | ((with_reducible refine gate_callee (f := 15) rfl ?_); refine goesL_ (some 31) rfl rfl Tryd.func15 (by kernel_rfl) rfl #[.int .i64 a0] rfl (by (try simp only [mT_, mC_, mN_]); first | done | rfl) ?_; (with_reducible refine (demurrageref04_Day.calls a0 true _ A6.out).mono ?_); rintro e w' ⟨rfl, ⟨nd, rfl⟩⟩; refine ⟨_, rfl, ?_⟩) | (go_at_call 15; (with_reducible refine (demurrageref04_Day.calls a1 false _ A8.out).mono ?_); rintro e w' ⟨rfl, ⟨nd, rfl⟩⟩))
    go_meet
    case rel => exact ⟨_, _, (by first | rfl | (simp; done) | (simp [*]; done)), H', ⟨by first | omega | exact Nat.le_refl _⟩, ⟨by repeat (with_reducible first | exact HB.out | apply bA_ | apply bN_ | apply bD_)⟩⟩
  ·replace c7 := Bool.eq_false_iff.mpr c7
   subst c7
   rw [if_neg (show ¬ (false = true) by decide)] at H
   have H' := aA_ H
   clear H
   go_wp2_with (first | ((with_reducible refine gate_callee (f := 15) rfl ?_); refine goesL_ (some 31) rfl rfl Tryd.func15 (by kernel_rfl) rfl #[.int .i64 a0] rfl (by (try simp only [mT_, mC_, mN_]); first | done | rfl) ?_; (with_reducible refine (demurrageref04_Day.calls a0 false _ A6.out).mono ?_); rintro e w' ⟨rfl, ⟨nd, rfl⟩⟩; refine ⟨_, rfl, ?_⟩))
   go_meet
   case rel => exact ⟨_, _, (by first | rfl | (simp; done) | (simp [*]; done)), H', ⟨by first | omega | exact Nat.le_refl _⟩, ⟨by repeat (with_reducible first | exact HB.out | apply bA_ | apply bN_ | apply bD_)⟩⟩
 case rest =>
  clear HC4
  try clear c1
  try clear p2
  try clear p6
  try clear c7
  try clear c8
  try clear c9
  try clear c10
  try clear c10b0
  try clear c10b1
  obtain ⟨kq, x47_3, rfl, HA, HJ3, HB⟩ := hcut
  cases kq with
  | zero => exact absurd HA.out (by simp [demurragelaw08_ActualMoves.j0])
  | succ kj3 =>
   have H := HA.out
   clear HA
   simp only [demurragelaw08_ActualMoves.j0] at H
   by_cases c11 : x47_3 = true
   ·subst c11
    rw [if_pos rfl] at H
    obtain rfl := Option.some.inj H
    go_wp2
    go_ret
    exact ⟨by rfl, by repeat (with_reducible first | exact HB.out | apply bA_ | apply bN_ | apply bD_)⟩
   ·replace c11 := Bool.eq_false_iff.mpr c11
    subst c11
    rw [if_neg (show ¬ (false = true) by decide)] at H
    replace H := bI_ H
    obtain ⟨⟨t1549, t1550, t1551⟩, A120, H⟩ := H
    (try dsimp only at H)
    have A12 := aA_ A120
    clear A120
    replace H := bI_ H
    obtain ⟨⟨t1553, t1554, t1555⟩, A130, H⟩ := H
    (try dsimp only at H)
    have A13 := aA_ A130
    clear A130
    replace H := bI_ H
    obtain ⟨⟨t1557, t1558, t1559⟩, A140, H⟩ := H
    (try dsimp only at H)
    have A14 := aA_ A140
    clear A140
    replace H := bI_ H
    obtain ⟨⟨t1561, t1562, t1563⟩, A150, H⟩ := H
    (try dsimp only at H)
    have A15 := aA_ A150
    clear A150
    replace H := bI_ H
    obtain ⟨⟨t1565, t1566, t1567⟩, A160, H⟩ := H
    (try dsimp only at H)
    have A16 := aA_ A160
    clear A160
    replace H := bI_ H
    obtain ⟨⟨t1569, t1570, t1571⟩, A170, H⟩ := H
    (try dsimp only at H)
    have A17 := aA_ A170
    clear A170
    by_cases c18 : t1551 = 0
    ·rw [if_pos c18] at H
     have c18b0 : (t1551 == 0) = true := beq_iff_eq.mpr c18
     have c18b1 : (t1551 != 0) = false := bne_eq_false_iff_eq.mpr c18
     clear c18
     by_cases c19 : t1555 = 0
     ·rw [if_pos c19] at H
      have c19b0 : (t1555 == 0) = true := beq_iff_eq.mpr c19
      have c19b1 : (t1555 != 0) = false := bne_eq_false_iff_eq.mpr c19
      clear c19
      by_cases c20 : t1559 = 0
      ·rw [if_pos c20] at H
       have c20b0 : (t1559 == 0) = true := beq_iff_eq.mpr c20
       have c20b1 : (t1559 != 0) = false := bne_eq_false_iff_eq.mpr c20
       clear c20
       by_cases c21 : t1563 = 0
       ·rw [if_pos c21] at H
        have c21b0 : (t1563 == 0) = true := beq_iff_eq.mpr c21
        have c21b1 : (t1563 != 0) = false := bne_eq_false_iff_eq.mpr c21
        clear c21
        by_cases c22 : t1567 = 0
        ·rw [if_pos c22] at H
         have c22b0 : (t1567 == 0) = true := beq_iff_eq.mpr c22
         have c22b1 : (t1567 != 0) = false := bne_eq_false_iff_eq.mpr c22
         clear c22
         by_cases c23 : t1571 = 0
         ·rw [if_pos c23] at H
          have c23b0 : (t1571 == 0) = true := beq_iff_eq.mpr c23
          have c23b1 : (t1571 != 0) = false := bne_eq_false_iff_eq.mpr c23
          clear c23
          by_cases c24 : (!(t1549 == t1561) || (!(t1550 == t1562))) = true
          ·rw [if_pos c24] at H
           exact absurd H (by simp)
          ·rw [if_neg c24] at H
           have c24b0 : (!(t1549 == t1561) || (!(t1550 == t1562))) = false := by simpa using c24
           clear c24
           by_cases c25 : (!(t1553 == t1565) || (!(t1554 == t1566))) = true
           ·rw [if_pos c25] at H
            exact absurd H (by simp)
           ·rw [if_neg c25] at H
            have c25b0 : (!(t1553 == t1565) || (!(t1554 == t1566))) = false := by simpa using c25
            clear c25
            by_cases c26 : (!(t1557 == t1569) || (!(t1558 == t1570))) = true
            ·rw [if_pos c26] at H
             exact absurd H (by simp)
            ·rw [if_neg c26] at H
             have c26b0 : (!(t1557 == t1569) || (!(t1558 == t1570))) = false := by simpa using c26
             clear c26
             replace H := bI_ H
             obtain ⟨⟨t1735, t1736, t1737, t1738⟩, A270, H⟩ := H
             (try dsimp only at H)
             have A27 := aA_ A270
             clear A270
             replace H := bI_ H
             obtain ⟨t1740, A280, H⟩ := H
             (try dsimp only at H)
             have A28 := aA_ A280
             clear A280
             have HC29 := aA_ H
             clear H
             go_upto_if 135 with (first | ((with_reducible refine gate_callee (f := 9) rfl ?_); refine goesL_ (some 52) rfl rfl Tryd.func9 (by kernel_rfl) rfl #[.int .i64 a0, .int .i64 a1] rfl (by (try simp only [mT_, mC_, mN_]); first | done | rfl) ?_; (with_reducible refine (actual_By360.calls kj3 a0 a1 t1549 t1550 t1551 _ ?sv A12.out).mono ?_); (case sv => exact (Vars.below HV.out (by repeat (with_reducible first | exact HB.out | apply bA_ | apply bN_ | apply bD_)))); rintro e w30 ⟨rfl, hb⟩; refine ⟨_, rfl, ?_⟩; replace HB := bB_ (by repeat (with_reducible first | exact HB.out | apply bA_ | apply bN_ | apply bD_)) hb; (try clear hb)) | ((with_reducible refine gate_dst (N := 6) rfl ?_); refine box_event rfl (N := 6) rfl (cs := #[.int .i64 0, .int .i64 0]) (t := 24) ?hr ?_; (case hr => go_simp <;> rfl); intro gb1552 hg w31 hbox hb; have BK1552 := aA_ (hbox); have GW1552 := gW_ hg (by repeat (with_reducible first | exact HB.out | apply bA_ | apply bN_ | apply bD_)); have GE1552 := GW1552; replace HB := bB_ (by repeat (with_reducible first | exact HB.out | apply bA_ | apply bN_ | apply bD_)) hb; clear hb hbox hg; have hcz32_0 : w31.cell? ⟨gb1552, 0, none⟩ = some (.int .i64 0) := (blk_cell BK1552.out 0).trans rfl; have hcz32_1 : w31.cell? ⟨gb1552, 1, none⟩ = some (.int .i64 0) := (blk_cell BK1552.out 1).trans rfl; have hfz32_0 := blk_frozen BK1552.out 0; have hfz32_1 := blk_frozen BK1552.out 1) | ((with_reducible refine gate_callee (f := 11) rfl ?_); refine goesL_ (some 58) rfl rfl Tryd.func11 (by kernel_rfl) rfl #[.int .i64 a0, .int .i64 a1] rfl (by (try simp only [mT_, mC_, mN_]); first | done | rfl) ?_; (with_reducible refine (actual_By365.calls kj3 a0 a1 t1553 t1554 t1555 _ ?sv A13.out).mono ?_); (case sv => exact (Vars.below HV.out (by repeat (with_reducible first | exact HB.out | apply bA_ | apply bN_ | apply bD_ | refine bS_ ?_ GE1552.out)))); rintro e w33 ⟨rfl, hb⟩; refine ⟨_, rfl, ?_⟩; replace BK1552 := aA_ (blk_below (g := gb1552) (o := .cells #[.int .i64 t1549, .int .i64 t1550] 24 (0, 0)) (by refine blk_put (cs := #[.int .i64 t1549, .int .i64 0]) ?_ 1 _ rfl; refine blk_put (cs := #[.int .i64 0, .int .i64 0]) ?_ 0 _ rfl; exact BK1552.out) hb); replace HB := bB_ (by repeat (with_reducible first | exact HB.out | apply bA_ | apply bN_ | apply bD_ | refine bS_ ?_ GE1552.out)) hb; (try clear hb)) | ((with_reducible refine gate_dst (N := 8) rfl ?_); refine box_event rfl (N := 8) rfl (cs := #[.int .i64 0, .int .i64 0]) (t := 24) ?hr ?_; (case hr => go_simp <;> rfl); intro gb1556 hg w34 hbox hb; have BK1556 := aA_ (hbox); have GW1556 := gW_ hg (by repeat (with_reducible first | exact HB.out | apply bA_ | apply bN_ | apply bD_ | refine bS_ ?_ GE1552.out)); have GE1556 := GW1556; replace HB := bB_ (by repeat (with_reducible first | exact HB.out | apply bA_ | apply bN_ | apply bD_ | refine bS_ ?_ GE1552.out)) hb; have NB1552_1556 := nE_ hg BK1552; have NB1556_1552 := aA_ NB1552_1556.out.symm; replace BK1552 := bK_ BK1552 hb; clear hb hbox hg; have hnb35 := NB1556_1552.out; have hnc35 := NB1552_1556.out; have hcz36_0 : w34.cell? ⟨gb1556, 0, none⟩ = some (.int .i64 0) := (blk_cell BK1556.out 0).trans rfl; have hcz36_1 : w34.cell? ⟨gb1556, 1, none⟩ = some (.int .i64 0) := (blk_cell BK1556.out 1).trans rfl; have hfz36_0 := blk_frozen BK1556.out 0; have hfz36_1 := blk_frozen BK1556.out 1) | ((with_reducible refine gate_callee (f := 13) rfl ?_); refine goesL_ (some 64) rfl rfl Tryd.func13 (by kernel_rfl) rfl #[.int .i64 a0, .int .i64 a1] rfl (by (try simp only [mT_, mC_, mN_]); first | done | rfl) ?_; (with_reducible refine (actual_ByYears.calls kj3 a0 a1 t1557 t1558 t1559 _ ?sv A14.out).mono ?_); (case sv => exact (Vars.below HV.out (by repeat (with_reducible first | exact HB.out | apply bA_ | apply bN_ | apply bD_ | refine bS_ ?_ GE1552.out | refine bS_ ?_ GE1556.out)))); rintro e w37 ⟨rfl, hb⟩; refine ⟨_, rfl, ?_⟩; replace BK1552 := aA_ (blk_below (g := gb1552) (o := .cells #[.int .i64 t1549, .int .i64 t1550] 24 (0, 0)) (by refine blk_far ?_ NB1552_1556.out _; refine blk_far ?_ NB1552_1556.out _; exact BK1552.out) hb); replace BK1556 := aA_ (blk_below (g := gb1556) (o := .cells #[.int .i64 t1553, .int .i64 t1554] 24 (0, 0)) (by refine blk_put (cs := #[.int .i64 t1553, .int .i64 0]) ?_ 1 _ rfl; refine blk_put (cs := #[.int .i64 0, .int .i64 0]) ?_ 0 _ rfl; exact BK1556.out) hb); replace HB := bB_ (by repeat (with_reducible first | exact HB.out | apply bA_ | apply bN_ | apply bD_ | refine bS_ ?_ GE1552.out | refine bS_ ?_ GE1556.out)) hb; (try clear hb)) | ((with_reducible refine gate_dst (N := 10) rfl ?_); refine box_event rfl (N := 10) rfl (cs := #[.int .i64 0, .int .i64 0]) (t := 24) ?hr ?_; (case hr => go_simp <;> rfl); intro gb1560 hg w38 hbox hb; have BK1560 := aA_ (hbox); have GW1560 := gW_ hg (by repeat (with_reducible first | exact HB.out | apply bA_ | apply bN_ | apply bD_ | refine bS_ ?_ GE1552.out | refine bS_ ?_ GE1556.out)); have GE1560 := GW1560; replace HB := bB_ (by repeat (with_reducible first | exact HB.out | apply bA_ | apply bN_ | apply bD_ | refine bS_ ?_ GE1552.out | refine bS_ ?_ GE1556.out)) hb; have NB1552_1560 := nE_ hg BK1552; have NB1560_1552 := aA_ NB1552_1560.out.symm; replace BK1552 := bK_ BK1552 hb; have NB1556_1560 := nE_ hg BK1556; have NB1560_1556 := aA_ NB1556_1560.out.symm; replace BK1556 := bK_ BK1556 hb; clear hb hbox hg; have hnb39 := NB1560_1552.out; have hnc39 := NB1552_1560.out; have hnb40 := NB1560_1556.out; have hnc40 := NB1556_1560.out; have hcz41_0 : w38.cell? ⟨gb1560, 0, none⟩ = some (.int .i64 0) := (blk_cell BK1560.out 0).trans rfl; have hcz41_1 : w38.cell? ⟨gb1560, 1, none⟩ = some (.int .i64 0) := (blk_cell BK1560.out 1).trans rfl; have hfz41_0 := blk_frozen BK1560.out 0; have hfz41_1 := blk_frozen BK1560.out 1) | ((with_reducible refine gate_callee (f := 9) rfl ?_); refine goesL_ (some 72) rfl rfl Tryd.func9 (by kernel_rfl) rfl #[.int .i64 (wrap64 (a0 + 146097)), .int .i64 (wrap64 (a1 + 146097))] rfl (by (try simp only [mT_, mC_, mN_]); first | done | rfl) ?_; (with_reducible refine (actual_By360.calls kj3 (wrap64 (a0 + 146097)) (wrap64 (a1 + 146097)) t1561 t1562 t1563 _ ?sv A15.out).mono ?_); (case sv => exact (Vars.below HV.out (by repeat (with_reducible first | exact HB.out | apply bA_ | apply bN_ | apply bD_ | refine bS_ ?_ GE1552.out | refine bS_ ?_ GE1556.out | refine bS_ ?_ GE1560.out)))); rintro e w42 ⟨rfl, hb⟩; refine ⟨_, rfl, ?_⟩; replace BK1552 := aA_ (blk_below (g := gb1552) (o := .cells #[.int .i64 t1549, .int .i64 t1550] 24 (0, 0)) (by refine blk_far ?_ NB1552_1560.out _; refine blk_far ?_ NB1552_1560.out _; exact BK1552.out) hb); replace BK1556 := aA_ (blk_below (g := gb1556) (o := .cells #[.int .i64 t1553, .int .i64 t1554] 24 (0, 0)) (by refine blk_far ?_ NB1556_1560.out _; refine blk_far ?_ NB1556_1560.out _; exact BK1556.out) hb); replace BK1560 := aA_ (blk_below (g := gb1560) (o := .cells #[.int .i64 t1557, .int .i64 t1558] 24 (0, 0)) (by refine blk_put (cs := #[.int .i64 t1557, .int .i64 0]) ?_ 1 _ rfl; refine blk_put (cs := #[.int .i64 0, .int .i64 0]) ?_ 0 _ rfl; exact BK1560.out) hb); replace HB := bB_ (by repeat (with_reducible first | exact HB.out | apply bA_ | apply bN_ | apply bD_ | refine bS_ ?_ GE1552.out | refine bS_ ?_ GE1556.out | refine bS_ ?_ GE1560.out)) hb; (try clear hb)) | ((with_reducible refine gate_dst (N := 12) rfl ?_); refine box_event rfl (N := 12) rfl (cs := #[.int .i64 0, .int .i64 0]) (t := 24) ?hr ?_; (case hr => go_simp <;> rfl); intro gb1564 hg w43 hbox hb; have BK1564 := aA_ (hbox); have GW1564 := gW_ hg (by repeat (with_reducible first | exact HB.out | apply bA_ | apply bN_ | apply bD_ | refine bS_ ?_ GE1552.out | refine bS_ ?_ GE1556.out | refine bS_ ?_ GE1560.out)); have GE1564 := GW1564; replace HB := bB_ (by repeat (with_reducible first | exact HB.out | apply bA_ | apply bN_ | apply bD_ | refine bS_ ?_ GE1552.out | refine bS_ ?_ GE1556.out | refine bS_ ?_ GE1560.out)) hb; have NB1552_1564 := nE_ hg BK1552; have NB1564_1552 := aA_ NB1552_1564.out.symm; replace BK1552 := bK_ BK1552 hb; have NB1556_1564 := nE_ hg BK1556; have NB1564_1556 := aA_ NB1556_1564.out.symm; replace BK1556 := bK_ BK1556 hb; have NB1560_1564 := nE_ hg BK1560; have NB1564_1560 := aA_ NB1560_1564.out.symm; replace BK1560 := bK_ BK1560 hb; clear hb hbox hg; have hnb44 := NB1564_1552.out; have hnc44 := NB1552_1564.out; have hnb45 := NB1564_1556.out; have hnc45 := NB1556_1564.out; have hnb46 := NB1564_1560.out; have hnc46 := NB1560_1564.out; have hcz47_0 : w43.cell? ⟨gb1564, 0, none⟩ = some (.int .i64 0) := (blk_cell BK1564.out 0).trans rfl; have hcz47_1 : w43.cell? ⟨gb1564, 1, none⟩ = some (.int .i64 0) := (blk_cell BK1564.out 1).trans rfl; have hfz47_0 := blk_frozen BK1564.out 0; have hfz47_1 := blk_frozen BK1564.out 1) | ((with_reducible refine gate_callee (f := 11) rfl ?_); refine goesL_ (some 80) rfl rfl Tryd.func11 (by kernel_rfl) rfl #[.int .i64 (wrap64 (a0 + 146097)), .int .i64 (wrap64 (a1 + 146097))] rfl (by (try simp only [mT_, mC_, mN_]); first | done | rfl) ?_; (with_reducible refine (actual_By365.calls kj3 (wrap64 (a0 + 146097)) (wrap64 (a1 + 146097)) t1565 t1566 t1567 _ ?sv A16.out).mono ?_); (case sv => exact (Vars.below HV.out (by repeat (with_reducible first | exact HB.out | apply bA_ | apply bN_ | apply bD_ | refine bS_ ?_ GE1552.out | refine bS_ ?_ GE1556.out | refine bS_ ?_ GE1560.out | refine bS_ ?_ GE1564.out)))); rintro e w48 ⟨rfl, hb⟩; refine ⟨_, rfl, ?_⟩; replace BK1552 := aA_ (blk_below (g := gb1552) (o := .cells #[.int .i64 t1549, .int .i64 t1550] 24 (0, 0)) (by refine blk_far ?_ NB1552_1564.out _; refine blk_far ?_ NB1552_1564.out _; exact BK1552.out) hb); replace BK1556 := aA_ (blk_below (g := gb1556) (o := .cells #[.int .i64 t1553, .int .i64 t1554] 24 (0, 0)) (by refine blk_far ?_ NB1556_1564.out _; refine blk_far ?_ NB1556_1564.out _; exact BK1556.out) hb); replace BK1560 := aA_ (blk_below (g := gb1560) (o := .cells #[.int .i64 t1557, .int .i64 t1558] 24 (0, 0)) (by refine blk_far ?_ NB1560_1564.out _; refine blk_far ?_ NB1560_1564.out _; exact BK1560.out) hb); replace BK1564 := aA_ (blk_below (g := gb1564) (o := .cells #[.int .i64 t1561, .int .i64 t1562] 24 (0, 0)) (by refine blk_put (cs := #[.int .i64 t1561, .int .i64 0]) ?_ 1 _ rfl; refine blk_put (cs := #[.int .i64 0, .int .i64 0]) ?_ 0 _ rfl; exact BK1564.out) hb); replace HB := bB_ (by repeat (with_reducible first | exact HB.out | apply bA_ | apply bN_ | apply bD_ | refine bS_ ?_ GE1552.out | refine bS_ ?_ GE1556.out | refine bS_ ?_ GE1560.out | refine bS_ ?_ GE1564.out)) hb; (try clear hb)) | ((with_reducible refine gate_dst (N := 14) rfl ?_); refine box_event rfl (N := 14) rfl (cs := #[.int .i64 0, .int .i64 0]) (t := 24) ?hr ?_; (case hr => go_simp <;> rfl); intro gb1568 hg w49 hbox hb; have BK1568 := aA_ (hbox); have GW1568 := gW_ hg (by repeat (with_reducible first | exact HB.out | apply bA_ | apply bN_ | apply bD_ | refine bS_ ?_ GE1552.out | refine bS_ ?_ GE1556.out | refine bS_ ?_ GE1560.out | refine bS_ ?_ GE1564.out)); have GE1568 := GW1568; replace HB := bB_ (by repeat (with_reducible first | exact HB.out | apply bA_ | apply bN_ | apply bD_ | refine bS_ ?_ GE1552.out | refine bS_ ?_ GE1556.out | refine bS_ ?_ GE1560.out | refine bS_ ?_ GE1564.out)) hb; have NB1552_1568 := nE_ hg BK1552; have NB1568_1552 := aA_ NB1552_1568.out.symm; replace BK1552 := bK_ BK1552 hb; have NB1556_1568 := nE_ hg BK1556; have NB1568_1556 := aA_ NB1556_1568.out.symm; replace BK1556 := bK_ BK1556 hb; have NB1560_1568 := nE_ hg BK1560; have NB1568_1560 := aA_ NB1560_1568.out.symm; replace BK1560 := bK_ BK1560 hb; have NB1564_1568 := nE_ hg BK1564; have NB1568_1564 := aA_ NB1564_1568.out.symm; replace BK1564 := bK_ BK1564 hb; clear hb hbox hg; have hnb50 := NB1568_1552.out; have hnc50 := NB1552_1568.out; have hnb51 := NB1568_1556.out; have hnc51 := NB1556_1568.out; have hnb52 := NB1568_1560.out; have hnc52 := NB1560_1568.out; have hnb53 := NB1568_1564.out; have hnc53 := NB1564_1568.out; have hcz54_0 : w49.cell? ⟨gb1568, 0, none⟩ = some (.int .i64 0) := (blk_cell BK1568.out 0).trans rfl; have hcz54_1 : w49.cell? ⟨gb1568, 1, none⟩ = some (.int .i64 0) := (blk_cell BK1568.out 1).trans rfl; have hfz54_0 := blk_frozen BK1568.out 0; have hfz54_1 := blk_frozen BK1568.out 1) | ((with_reducible refine gate_callee (f := 13) rfl ?_); refine goesL_ (some 88) rfl rfl Tryd.func13 (by kernel_rfl) rfl #[.int .i64 (wrap64 (a0 + 146097)), .int .i64 (wrap64 (a1 + 146097))] rfl (by (try simp only [mT_, mC_, mN_]); first | done | rfl) ?_; (with_reducible refine (actual_ByYears.calls kj3 (wrap64 (a0 + 146097)) (wrap64 (a1 + 146097)) t1569 t1570 t1571 _ ?sv A17.out).mono ?_); (case sv => exact (Vars.below HV.out (by repeat (with_reducible first | exact HB.out | apply bA_ | apply bN_ | apply bD_ | refine bS_ ?_ GE1552.out | refine bS_ ?_ GE1556.out | refine bS_ ?_ GE1560.out | refine bS_ ?_ GE1564.out | refine bS_ ?_ GE1568.out)))); rintro e w55 ⟨rfl, hb⟩; refine ⟨_, rfl, ?_⟩; replace BK1552 := aA_ (blk_below (g := gb1552) (o := .cells #[.int .i64 t1549, .int .i64 t1550] 24 (0, 0)) (by refine blk_far ?_ NB1552_1568.out _; refine blk_far ?_ NB1552_1568.out _; exact BK1552.out) hb); replace BK1556 := aA_ (blk_below (g := gb1556) (o := .cells #[.int .i64 t1553, .int .i64 t1554] 24 (0, 0)) (by refine blk_far ?_ NB1556_1568.out _; refine blk_far ?_ NB1556_1568.out _; exact BK1556.out) hb); replace BK1560 := aA_ (blk_below (g := gb1560) (o := .cells #[.int .i64 t1557, .int .i64 t1558] 24 (0, 0)) (by refine blk_far ?_ NB1560_1568.out _; refine blk_far ?_ NB1560_1568.out _; exact BK1560.out) hb); replace BK1564 := aA_ (blk_below (g := gb1564) (o := .cells #[.int .i64 t1561, .int .i64 t1562] 24 (0, 0)) (by refine blk_far ?_ NB1564_1568.out _; refine blk_far ?_ NB1564_1568.out _; exact BK1564.out) hb); replace BK1568 := aA_ (blk_below (g := gb1568) (o := .cells #[.int .i64 t1565, .int .i64 t1566] 24 (0, 0)) (by refine blk_put (cs := #[.int .i64 t1565, .int .i64 0]) ?_ 1 _ rfl; refine blk_put (cs := #[.int .i64 0, .int .i64 0]) ?_ 0 _ rfl; exact BK1568.out) hb); replace HB := bB_ (by repeat (with_reducible first | exact HB.out | apply bA_ | apply bN_ | apply bD_ | refine bS_ ?_ GE1552.out | refine bS_ ?_ GE1556.out | refine bS_ ?_ GE1560.out | refine bS_ ?_ GE1564.out | refine bS_ ?_ GE1568.out)) hb; (try clear hb)) | ((with_reducible refine gate_dst (N := 16) rfl ?_); refine box_event rfl (N := 16) rfl (cs := #[.int .i64 0, .int .i64 0]) (t := 24) ?hr ?_; (case hr => go_simp <;> rfl); intro gb1572 hg w56 hbox hb; have BK1572 := aA_ (hbox); have GW1572 := gW_ hg (by repeat (with_reducible first | exact HB.out | apply bA_ | apply bN_ | apply bD_ | refine bS_ ?_ GE1552.out | refine bS_ ?_ GE1556.out | refine bS_ ?_ GE1560.out | refine bS_ ?_ GE1564.out | refine bS_ ?_ GE1568.out)); have GE1572 := GW1572; replace HB := bB_ (by repeat (with_reducible first | exact HB.out | apply bA_ | apply bN_ | apply bD_ | refine bS_ ?_ GE1552.out | refine bS_ ?_ GE1556.out | refine bS_ ?_ GE1560.out | refine bS_ ?_ GE1564.out | refine bS_ ?_ GE1568.out)) hb; have NB1552_1572 := nE_ hg BK1552; have NB1572_1552 := aA_ NB1552_1572.out.symm; replace BK1552 := bK_ BK1552 hb; have NB1556_1572 := nE_ hg BK1556; have NB1572_1556 := aA_ NB1556_1572.out.symm; replace BK1556 := bK_ BK1556 hb; have NB1560_1572 := nE_ hg BK1560; have NB1572_1560 := aA_ NB1560_1572.out.symm; replace BK1560 := bK_ BK1560 hb; have NB1564_1572 := nE_ hg BK1564; have NB1572_1564 := aA_ NB1564_1572.out.symm; replace BK1564 := bK_ BK1564 hb; have NB1568_1572 := nE_ hg BK1568; have NB1572_1568 := aA_ NB1568_1572.out.symm; replace BK1568 := bK_ BK1568 hb; clear hb hbox hg; have hnb57 := NB1572_1552.out; have hnc57 := NB1552_1572.out; have hnb58 := NB1572_1556.out; have hnc58 := NB1556_1572.out; have hnb59 := NB1572_1560.out; have hnc59 := NB1560_1572.out; have hnb60 := NB1572_1564.out; have hnc60 := NB1564_1572.out; have hnb61 := NB1572_1568.out; have hnc61 := NB1568_1572.out; have hcz62_0 : w56.cell? ⟨gb1572, 0, none⟩ = some (.int .i64 0) := (blk_cell BK1572.out 0).trans rfl; have hcz62_1 : w56.cell? ⟨gb1572, 1, none⟩ = some (.int .i64 0) := (blk_cell BK1572.out 1).trans rfl; have hfz62_0 := blk_frozen BK1572.out 0; have hfz62_1 := blk_frozen BK1572.out 1; have hcz63_0 : w56.cell? ⟨gb1552, 0, none⟩ = some (.int .i64 t1549) := (blk_cell BK1552.out 0).trans rfl; have hcz63_1 : w56.cell? ⟨gb1552, 1, none⟩ = some (.int .i64 t1550) := (blk_cell BK1552.out 1).trans rfl; have hfz63_0 := blk_frozen BK1552.out 0; have hfz63_1 := blk_frozen BK1552.out 1; have hcz64_0 : w56.cell? ⟨gb1564, 0, none⟩ = some (.int .i64 t1561) := (blk_cell BK1564.out 0).trans rfl; have hcz64_1 : w56.cell? ⟨gb1564, 1, none⟩ = some (.int .i64 t1562) := (blk_cell BK1564.out 1).trans rfl; have hfz64_0 := blk_frozen BK1564.out 0; have hfz64_1 := blk_frozen BK1564.out 1; have hcz65_0 : w56.cell? ⟨gb1556, 0, none⟩ = some (.int .i64 t1553) := (blk_cell BK1556.out 0).trans rfl; have hcz65_1 : w56.cell? ⟨gb1556, 1, none⟩ = some (.int .i64 t1554) := (blk_cell BK1556.out 1).trans rfl; have hfz65_0 := blk_frozen BK1556.out 0; have hfz65_1 := blk_frozen BK1556.out 1; have hcz66_0 : w56.cell? ⟨gb1568, 0, none⟩ = some (.int .i64 t1565) := (blk_cell BK1568.out 0).trans rfl; have hcz66_1 : w56.cell? ⟨gb1568, 1, none⟩ = some (.int .i64 t1566) := (blk_cell BK1568.out 1).trans rfl; have hfz66_0 := blk_frozen BK1568.out 0; have hfz66_1 := blk_frozen BK1568.out 1; have hcz67_0 : w56.cell? ⟨gb1560, 0, none⟩ = some (.int .i64 t1557) := (blk_cell BK1560.out 0).trans rfl; have hcz67_1 : w56.cell? ⟨gb1560, 1, none⟩ = some (.int .i64 t1558) := (blk_cell BK1560.out 1).trans rfl; have hfz67_0 := blk_frozen BK1560.out 0; have hfz67_1 := blk_frozen BK1560.out 1) | ((with_reducible refine gate_callee (f := 21) rfl ?_); refine goesL_ (some 130) rfl rfl Tryd.func21 (by kernel_rfl) rfl #[.int .i64 a1] rfl (by (try simp only [mT_, mC_, mN_]); first | done | rfl) ?_; (with_reducible refine (demurrageref04_Of.calls kj3 a1 t1735 t1736 t1737 t1738 _ A27.out).mono ?_); rintro e w68 ⟨rfl, hb⟩; refine ⟨_, rfl, ?_⟩; replace BK1552 := aA_ (blk_below (g := gb1552) (o := .cells #[.int .i64 t1549, .int .i64 t1550] 24 (0, 0)) (by refine blk_far ?_ NB1552_1572.out _; refine blk_far ?_ NB1552_1572.out _; exact BK1552.out) hb); replace BK1556 := aA_ (blk_below (g := gb1556) (o := .cells #[.int .i64 t1553, .int .i64 t1554] 24 (0, 0)) (by refine blk_far ?_ NB1556_1572.out _; refine blk_far ?_ NB1556_1572.out _; exact BK1556.out) hb); replace BK1560 := aA_ (blk_below (g := gb1560) (o := .cells #[.int .i64 t1557, .int .i64 t1558] 24 (0, 0)) (by refine blk_far ?_ NB1560_1572.out _; refine blk_far ?_ NB1560_1572.out _; exact BK1560.out) hb); replace BK1564 := aA_ (blk_below (g := gb1564) (o := .cells #[.int .i64 t1561, .int .i64 t1562] 24 (0, 0)) (by refine blk_far ?_ NB1564_1572.out _; refine blk_far ?_ NB1564_1572.out _; exact BK1564.out) hb); replace BK1568 := aA_ (blk_below (g := gb1568) (o := .cells #[.int .i64 t1565, .int .i64 t1566] 24 (0, 0)) (by refine blk_far ?_ NB1568_1572.out _; refine blk_far ?_ NB1568_1572.out _; exact BK1568.out) hb); replace BK1572 := aA_ (blk_below (g := gb1572) (o := .cells #[.int .i64 t1569, .int .i64 t1570] 24 (0, 0)) (by refine blk_put (cs := #[.int .i64 t1569, .int .i64 0]) ?_ 1 _ rfl; refine blk_put (cs := #[.int .i64 0, .int .i64 0]) ?_ 0 _ rfl; exact BK1572.out) hb); replace HB := bB_ (by repeat (with_reducible first | exact HB.out | apply bA_ | apply bN_ | apply bD_ | refine bS_ ?_ GE1552.out | refine bS_ ?_ GE1556.out | refine bS_ ?_ GE1560.out | refine bS_ ?_ GE1564.out | refine bS_ ?_ GE1568.out | refine bS_ ?_ GE1572.out)) hb; (try clear hb)) | ((with_reducible refine gate_dst (N := 18) rfl ?_); refine box_event rfl (N := 18) rfl (cs := #[.int .i64 0, .int .i64 0, .int .i64 0]) (t := 41) ?hr ?_; (case hr => go_simp <;> rfl); intro gb1739 hg w69 hbox hb; have BK1739 := aA_ (hbox); have GW1739 := gW_ hg (by repeat (with_reducible first | exact HB.out | apply bA_ | apply bN_ | apply bD_ | refine bS_ ?_ GE1552.out | refine bS_ ?_ GE1556.out | refine bS_ ?_ GE1560.out | refine bS_ ?_ GE1564.out | refine bS_ ?_ GE1568.out | refine bS_ ?_ GE1572.out)); have GE1739 := GW1739; replace HB := bB_ (by repeat (with_reducible first | exact HB.out | apply bA_ | apply bN_ | apply bD_ | refine bS_ ?_ GE1552.out | refine bS_ ?_ GE1556.out | refine bS_ ?_ GE1560.out | refine bS_ ?_ GE1564.out | refine bS_ ?_ GE1568.out | refine bS_ ?_ GE1572.out)) hb; have NB1552_1739 := nE_ hg BK1552; have NB1739_1552 := aA_ NB1552_1739.out.symm; replace BK1552 := bK_ BK1552 hb; have NB1556_1739 := nE_ hg BK1556; have NB1739_1556 := aA_ NB1556_1739.out.symm; replace BK1556 := bK_ BK1556 hb; have NB1560_1739 := nE_ hg BK1560; have NB1739_1560 := aA_ NB1560_1739.out.symm; replace BK1560 := bK_ BK1560 hb; have NB1564_1739 := nE_ hg BK1564; have NB1739_1564 := aA_ NB1564_1739.out.symm; replace BK1564 := bK_ BK1564 hb; have NB1568_1739 := nE_ hg BK1568; have NB1739_1568 := aA_ NB1568_1739.out.symm; replace BK1568 := bK_ BK1568 hb; have NB1572_1739 := nE_ hg BK1572; have NB1739_1572 := aA_ NB1572_1739.out.symm; replace BK1572 := bK_ BK1572 hb; clear hb hbox hg; have hnb70 := NB1739_1552.out; have hnc70 := NB1552_1739.out; have hnb71 := NB1739_1556.out; have hnc71 := NB1556_1739.out; have hnb72 := NB1739_1560.out; have hnc72 := NB1560_1739.out; have hnb73 := NB1739_1564.out; have hnc73 := NB1564_1739.out; have hnb74 := NB1739_1568.out; have hnc74 := NB1568_1739.out; have hnb75 := NB1739_1572.out; have hnc75 := NB1572_1739.out; have hcz76_0 : w69.cell? ⟨gb1739, 0, none⟩ = some (.int .i64 0) := (blk_cell BK1739.out 0).trans rfl; have hcz76_1 : w69.cell? ⟨gb1739, 1, none⟩ = some (.int .i64 0) := (blk_cell BK1739.out 1).trans rfl; have hcz76_2 : w69.cell? ⟨gb1739, 2, none⟩ = some (.int .i64 0) := (blk_cell BK1739.out 2).trans rfl; have hfz76_0 := blk_frozen BK1739.out 0; have hfz76_1 := blk_frozen BK1739.out 1; have hfz76_2 := blk_frozen BK1739.out 2) | ((with_reducible refine gate_callee (f := 18) rfl ?_); refine goesL_ (some 135) rfl rfl Tryd.func18 (by kernel_rfl) rfl #[.int .i64 t1735] rfl (by (try simp only [mT_, mC_, mN_]); first | done | rfl) ?_; (with_reducible refine (demurrageref04_Leap.calls t1735 t1740 _ A28.out).mono ?_); rintro e w' ⟨rfl, ⟨nd, rfl⟩⟩; refine ⟨_, rfl, ?_⟩))
             (try simp only [Act.put, sT_, sZ_, sS_])
             go_cut [20] (fun v20 wc => ∃ (kq : Nat) (x20_28 : Int), v20 = .int .i64 x20_28 ∧ Aside0 (demurragelaw08_ActualMoves.j1 kq a0 a1 t826 x20_28 t1549 t1550 t1557 t1558 = some r) ∧ Aside0 (kq ≤ kj3) ∧ Aside0 (wc.heap[gb1552]? = some (.cells #[.int .i64 t1549, .int .i64 t1550] 24 (0, 0))) ∧ Aside0 (wc.heap[gb1556]? = some (.cells #[.int .i64 t1553, .int .i64 t1554] 24 (0, 0))) ∧ Aside0 (wc.heap[gb1560]? = some (.cells #[.int .i64 t1557, .int .i64 t1558] 24 (0, 0))) ∧ Aside0 (wc.heap[gb1564]? = some (.cells #[.int .i64 t1561, .int .i64 t1562] 24 (0, 0))) ∧ Aside0 (wc.heap[gb1568]? = some (.cells #[.int .i64 t1565, .int .i64 t1566] 24 (0, 0))) ∧ Aside0 (wc.heap[gb1572]? = some (.cells #[.int .i64 t1569, .int .i64 t1570] 24 (0, 0))) ∧ Aside0 (wc.heap[gb1739]? = some (.cells #[.int .i64 t1735, .int .i64 t1736, .int .i64 t1737] 41 (0, 0))) ∧ Aside0 (Below w.heap.size w wc))
             case first =>
              have H := HC29.out
              clear HC29
              by_cases c77 : t1740 = true
              focus
               subst c77
               rw [if_pos rfl] at H
              rotate_left
              focus
               replace c77 := Bool.eq_false_iff.mpr c77
               subst c77
               rw [if_neg (show ¬ (false = true) by decide)] at H
              all_goals
               have H' := aA_ H
               clear H
               go_wp2
               go_meet
               case rel => exact ⟨_, _, (by first | rfl | (simp; done) | (simp [*]; done)), H', ⟨by have := HJ3.out; first | omega | exact Nat.le_refl _⟩, ⟨by refine blk_far ?_ NB1552_1739.out _; refine blk_far ?_ NB1552_1739.out _; refine blk_far ?_ NB1552_1739.out _; exact BK1552.out⟩, ⟨by refine blk_far ?_ NB1556_1739.out _; refine blk_far ?_ NB1556_1739.out _; refine blk_far ?_ NB1556_1739.out _; exact BK1556.out⟩, ⟨by refine blk_far ?_ NB1560_1739.out _; refine blk_far ?_ NB1560_1739.out _; refine blk_far ?_ NB1560_1739.out _; exact BK1560.out⟩, ⟨by refine blk_far ?_ NB1564_1739.out _; refine blk_far ?_ NB1564_1739.out _; refine blk_far ?_ NB1564_1739.out _; exact BK1564.out⟩, ⟨by refine blk_far ?_ NB1568_1739.out _; refine blk_far ?_ NB1568_1739.out _; refine blk_far ?_ NB1568_1739.out _; exact BK1568.out⟩, ⟨by refine blk_far ?_ NB1572_1739.out _; refine blk_far ?_ NB1572_1739.out _; refine blk_far ?_ NB1572_1739.out _; exact BK1572.out⟩, ⟨by refine blk_put (cs := #[.int .i64 t1735, .int .i64 t1736, .int .i64 0]) ?_ 2 _ rfl; refine blk_put (cs := #[.int .i64 t1735, .int .i64 0, .int .i64 0]) ?_ 1 _ rfl; refine blk_put (cs := #[.int .i64 0, .int .i64 0, .int .i64 0]) ?_ 0 _ rfl; exact BK1739.out⟩, ⟨by repeat (with_reducible first | exact HB.out | apply bA_ | apply bN_ | apply bD_ | refine bS_ ?_ GE1552.out | refine bS_ ?_ GE1556.out | refine bS_ ?_ GE1560.out | refine bS_ ?_ GE1564.out | refine bS_ ?_ GE1568.out | refine bS_ ?_ GE1572.out | refine bS_ ?_ GE1739.out)⟩⟩
             case rest =>
              clear HC29
              try clear c1
              try clear c2
              try clear p2
              try clear c3
              try clear c4
              try clear c5
              try clear c6
              try clear p6
              try clear c7
              try clear c8
              try clear c9
              try clear c10
              try clear c10b0
              try clear c10b1
              try clear c11
              try clear c13
              try clear c15
              try clear c18
              try clear c18b0
              try clear c18b1
              try clear c19
              try clear c19b0
              try clear c19b1
              try clear c20
              try clear c20b0
              try clear c20b1
              try clear c21
              try clear c21b0
              try clear c21b1
              try clear c22
              try clear c22b0
              try clear c22b1
              try clear c23
              try clear c23b0
              try clear c23b1
              try clear c24
              try clear c24b0
              try clear c25
              try clear c25b0
              try clear c26
              try clear c26b0
              try clear c35
              try clear c39
              try clear c40
              try clear c44
              try clear c45
              try clear c46
              try clear c50
              try clear c51
              try clear c52
              try clear c53
              try clear c57
              try clear c58
              try clear c59
              try clear c60
              try clear c61
              try clear p64
              try clear c70
              try clear c71
              try clear c72
              try clear c73
              try clear c74
              try clear c75
              try clear c77
              try clear hcz32_0
              try clear hcz32_1
              try clear hcz36_0
              try clear hcz36_1
              try clear hcz41_0
              try clear hcz41_1
              try clear hcz47_0
              try clear hcz47_1
              try clear hcz54_0
              try clear hcz54_1
              try clear hcz62_0
              try clear hcz62_1
              try clear hcz63_0
              try clear hcz63_1
              try clear hcz64_0
              try clear hcz64_1
              try clear hcz65_0
              try clear hcz65_1
              try clear hcz66_0
              try clear hcz66_1
              try clear hcz67_0
              try clear hcz67_1
              try clear hcz76_0
              try clear hcz76_1
              try clear hcz76_2
              try clear hfz32_0
              try clear hfz32_1
              try clear hfz36_0
              try clear hfz36_1
              try clear hfz41_0
              try clear hfz41_1
              try clear hfz47_0
              try clear hfz47_1
              try clear hfz54_0
              try clear hfz54_1
              try clear hfz62_0
              try clear hfz62_1
              try clear hfz63_0
              try clear hfz63_1
              try clear hfz64_0
              try clear hfz64_1
              try clear hfz65_0
              try clear hfz65_1
              try clear hfz66_0
              try clear hfz66_1
              try clear hfz67_0
              try clear hfz67_1
              try clear hfz76_0
              try clear hfz76_1
              try clear hfz76_2
              try clear p2
              try clear p6
              obtain ⟨kq, x20_28, rfl, HA, HJ28, BK1552, BK1556, BK1560, BK1564, BK1568, BK1572, BK1739, HB⟩ := hcut
              cases kq with
              | zero => exact absurd HA.out (by simp [demurragelaw08_ActualMoves.j1])
              | succ kj28 =>
               have H := HA.out
               clear HA
               simp only [demurragelaw08_ActualMoves.j1] at H
               replace H := bI_ H
               obtain ⟨⟨t1773, t1774, t1775⟩, A780, H⟩ := H
               (try dsimp only at H)
               have A78 := aA_ A780
               clear A780
               replace H := bI_ H
               obtain ⟨⟨t1777, t1778, t1779⟩, A790, H⟩ := H
               (try dsimp only at H)
               have A79 := aA_ A790
               clear A790
               replace H := bI_ H
               obtain ⟨⟨t1781, t1782, t1783⟩, A800, H⟩ := H
               (try dsimp only at H)
               have A80 := aA_ A800
               clear A800
               replace H := bI_ H
               obtain ⟨⟨t1785, t1786, t1787⟩, A810, H⟩ := H
               (try dsimp only at H)
               have A81 := aA_ A810
               clear A810
               by_cases c82 : t826 = true
               ·subst c82
                rw [if_pos rfl] at H
                by_cases c83 : (t1773 == t1781 && (t1774 == t1782)) = true
                ·rw [if_pos c83] at H
                 have c83b0 : (t1773 == t1781 && (t1774 == t1782)) = true := c83
                 (try (have c83b1 : decide (t1773 = t1781 && (t1774 == t1782)) = true := by simpa using c83))
                 (try (have c83b2 : (t1773 == t1781 && (t1774 == t1782)) = true := by simpa using c83))
                 clear c83
                 obtain rfl := Option.some.inj H
                 go_wp2_with (first | ((with_reducible refine gate_callee (f := 13) rfl ?_); refine goesL_ (some 140) rfl rfl Tryd.func13 (by kernel_rfl) rfl #[.int .i64 a0, .int .i64 (wrap64 (a1 + 1))] rfl (by (try simp only [mT_, mC_, mN_]); first | done | rfl) ?_; (with_reducible refine (actual_ByYears.calls kj28 a0 (wrap64 (a1 + 1)) t1773 t1774 t1775 _ ?sv A78.out).mono ?_); (case sv => exact (Vars.below HV.out (by repeat (with_reducible first | exact HB.out | apply bA_ | apply bN_ | apply bD_ | refine bS_ ?_ GE1552.out | refine bS_ ?_ GE1556.out | refine bS_ ?_ GE1560.out | refine bS_ ?_ GE1564.out | refine bS_ ?_ GE1568.out | refine bS_ ?_ GE1572.out | refine bS_ ?_ GE1739.out)))); rintro e w84 ⟨rfl, hb⟩; refine ⟨_, rfl, ?_⟩; replace BK1552 := bK_ BK1552 hb; replace BK1556 := bK_ BK1556 hb; replace BK1560 := bK_ BK1560 hb; replace BK1564 := bK_ BK1564 hb; replace BK1568 := bK_ BK1568 hb; replace BK1572 := bK_ BK1572 hb; replace BK1739 := bK_ BK1739 hb; replace HB := bB_ (by repeat (with_reducible first | exact HB.out | apply bA_ | apply bN_ | apply bD_ | refine bS_ ?_ GE1552.out | refine bS_ ?_ GE1556.out | refine bS_ ?_ GE1560.out | refine bS_ ?_ GE1564.out | refine bS_ ?_ GE1568.out | refine bS_ ?_ GE1572.out | refine bS_ ?_ GE1739.out)) hb; (try clear hb)) | ((with_reducible refine gate_dst (N := 21) rfl ?_); refine box_event rfl (N := 21) rfl (cs := #[.int .i64 0, .int .i64 0]) (t := 24) ?hr ?_; (case hr => go_simp <;> rfl); intro gb1776 hg w85 hbox hb; have BK1776 := aA_ (hbox); have GW1776 := gW_ hg (by repeat (with_reducible first | exact HB.out | apply bA_ | apply bN_ | apply bD_ | refine bS_ ?_ GE1552.out | refine bS_ ?_ GE1556.out | refine bS_ ?_ GE1560.out | refine bS_ ?_ GE1564.out | refine bS_ ?_ GE1568.out | refine bS_ ?_ GE1572.out | refine bS_ ?_ GE1739.out)); have GE1776 := GW1776; replace HB := bB_ (by repeat (with_reducible first | exact HB.out | apply bA_ | apply bN_ | apply bD_ | refine bS_ ?_ GE1552.out | refine bS_ ?_ GE1556.out | refine bS_ ?_ GE1560.out | refine bS_ ?_ GE1564.out | refine bS_ ?_ GE1568.out | refine bS_ ?_ GE1572.out | refine bS_ ?_ GE1739.out)) hb; have NB1552_1776 := nE_ hg BK1552; have NB1776_1552 := aA_ NB1552_1776.out.symm; replace BK1552 := bK_ BK1552 hb; have NB1556_1776 := nE_ hg BK1556; have NB1776_1556 := aA_ NB1556_1776.out.symm; replace BK1556 := bK_ BK1556 hb; have NB1560_1776 := nE_ hg BK1560; have NB1776_1560 := aA_ NB1560_1776.out.symm; replace BK1560 := bK_ BK1560 hb; have NB1564_1776 := nE_ hg BK1564; have NB1776_1564 := aA_ NB1564_1776.out.symm; replace BK1564 := bK_ BK1564 hb; have NB1568_1776 := nE_ hg BK1568; have NB1776_1568 := aA_ NB1568_1776.out.symm; replace BK1568 := bK_ BK1568 hb; have NB1572_1776 := nE_ hg BK1572; have NB1776_1572 := aA_ NB1572_1776.out.symm; replace BK1572 := bK_ BK1572 hb; have NB1739_1776 := nE_ hg BK1739; have NB1776_1739 := aA_ NB1739_1776.out.symm; replace BK1739 := bK_ BK1739 hb; clear hb hbox hg; have hnb86 := NB1776_1552.out; have hnc86 := NB1552_1776.out; have hnb87 := NB1776_1556.out; have hnc87 := NB1556_1776.out; have hnb88 := NB1776_1560.out; have hnc88 := NB1560_1776.out; have hnb89 := NB1776_1564.out; have hnc89 := NB1564_1776.out; have hnb90 := NB1776_1568.out; have hnc90 := NB1568_1776.out; have hnb91 := NB1776_1572.out; have hnc91 := NB1572_1776.out; have hnb92 := NB1776_1739.out; have hnc92 := NB1739_1776.out; have hcz93_0 : w85.cell? ⟨gb1776, 0, none⟩ = some (.int .i64 0) := (blk_cell BK1776.out 0).trans rfl; have hcz93_1 : w85.cell? ⟨gb1776, 1, none⟩ = some (.int .i64 0) := (blk_cell BK1776.out 1).trans rfl; have hfz93_0 := blk_frozen BK1776.out 0; have hfz93_1 := blk_frozen BK1776.out 1) | ((with_reducible refine gate_callee (f := 9) rfl ?_); refine goesL_ (some 147) rfl rfl Tryd.func9 (by kernel_rfl) rfl #[.int .i64 a0, .int .i64 (wrap64 (a1 + 1))] rfl (by (try simp only [mT_, mC_, mN_]); first | done | rfl) ?_; (with_reducible refine (actual_By360.calls kj28 a0 (wrap64 (a1 + 1)) t1777 t1778 t1779 _ ?sv A79.out).mono ?_); (case sv => exact (Vars.below HV.out (by repeat (with_reducible first | exact HB.out | apply bA_ | apply bN_ | apply bD_ | refine bS_ ?_ GE1552.out | refine bS_ ?_ GE1556.out | refine bS_ ?_ GE1560.out | refine bS_ ?_ GE1564.out | refine bS_ ?_ GE1568.out | refine bS_ ?_ GE1572.out | refine bS_ ?_ GE1739.out | refine bS_ ?_ GE1776.out)))); rintro e w94 ⟨rfl, hb⟩; refine ⟨_, rfl, ?_⟩; replace BK1552 := aA_ (blk_below (g := gb1552) (o := .cells #[.int .i64 t1549, .int .i64 t1550] 24 (0, 0)) (by refine blk_far ?_ NB1552_1776.out _; refine blk_far ?_ NB1552_1776.out _; exact BK1552.out) hb); replace BK1556 := aA_ (blk_below (g := gb1556) (o := .cells #[.int .i64 t1553, .int .i64 t1554] 24 (0, 0)) (by refine blk_far ?_ NB1556_1776.out _; refine blk_far ?_ NB1556_1776.out _; exact BK1556.out) hb); replace BK1560 := aA_ (blk_below (g := gb1560) (o := .cells #[.int .i64 t1557, .int .i64 t1558] 24 (0, 0)) (by refine blk_far ?_ NB1560_1776.out _; refine blk_far ?_ NB1560_1776.out _; exact BK1560.out) hb); replace BK1564 := aA_ (blk_below (g := gb1564) (o := .cells #[.int .i64 t1561, .int .i64 t1562] 24 (0, 0)) (by refine blk_far ?_ NB1564_1776.out _; refine blk_far ?_ NB1564_1776.out _; exact BK1564.out) hb); replace BK1568 := aA_ (blk_below (g := gb1568) (o := .cells #[.int .i64 t1565, .int .i64 t1566] 24 (0, 0)) (by refine blk_far ?_ NB1568_1776.out _; refine blk_far ?_ NB1568_1776.out _; exact BK1568.out) hb); replace BK1572 := aA_ (blk_below (g := gb1572) (o := .cells #[.int .i64 t1569, .int .i64 t1570] 24 (0, 0)) (by refine blk_far ?_ NB1572_1776.out _; refine blk_far ?_ NB1572_1776.out _; exact BK1572.out) hb); replace BK1739 := aA_ (blk_below (g := gb1739) (o := .cells #[.int .i64 t1735, .int .i64 t1736, .int .i64 t1737] 41 (0, 0)) (by refine blk_far ?_ NB1739_1776.out _; refine blk_far ?_ NB1739_1776.out _; exact BK1739.out) hb); replace BK1776 := aA_ (blk_below (g := gb1776) (o := .cells #[.int .i64 t1773, .int .i64 t1774] 24 (0, 0)) (by refine blk_put (cs := #[.int .i64 t1773, .int .i64 0]) ?_ 1 _ rfl; refine blk_put (cs := #[.int .i64 0, .int .i64 0]) ?_ 0 _ rfl; exact BK1776.out) hb); replace HB := bB_ (by repeat (with_reducible first | exact HB.out | apply bA_ | apply bN_ | apply bD_ | refine bS_ ?_ GE1552.out | refine bS_ ?_ GE1556.out | refine bS_ ?_ GE1560.out | refine bS_ ?_ GE1564.out | refine bS_ ?_ GE1568.out | refine bS_ ?_ GE1572.out | refine bS_ ?_ GE1739.out | refine bS_ ?_ GE1776.out)) hb; (try clear hb)) | ((with_reducible refine gate_dst (N := 23) rfl ?_); refine box_event rfl (N := 23) rfl (cs := #[.int .i64 0, .int .i64 0]) (t := 24) ?hr ?_; (case hr => go_simp <;> rfl); intro gb1780 hg w95 hbox hb; have BK1780 := aA_ (hbox); have GW1780 := gW_ hg (by repeat (with_reducible first | exact HB.out | apply bA_ | apply bN_ | apply bD_ | refine bS_ ?_ GE1552.out | refine bS_ ?_ GE1556.out | refine bS_ ?_ GE1560.out | refine bS_ ?_ GE1564.out | refine bS_ ?_ GE1568.out | refine bS_ ?_ GE1572.out | refine bS_ ?_ GE1739.out | refine bS_ ?_ GE1776.out)); have GE1780 := GW1780; replace HB := bB_ (by repeat (with_reducible first | exact HB.out | apply bA_ | apply bN_ | apply bD_ | refine bS_ ?_ GE1552.out | refine bS_ ?_ GE1556.out | refine bS_ ?_ GE1560.out | refine bS_ ?_ GE1564.out | refine bS_ ?_ GE1568.out | refine bS_ ?_ GE1572.out | refine bS_ ?_ GE1739.out | refine bS_ ?_ GE1776.out)) hb; have NB1552_1780 := nE_ hg BK1552; have NB1780_1552 := aA_ NB1552_1780.out.symm; replace BK1552 := bK_ BK1552 hb; have NB1556_1780 := nE_ hg BK1556; have NB1780_1556 := aA_ NB1556_1780.out.symm; replace BK1556 := bK_ BK1556 hb; have NB1560_1780 := nE_ hg BK1560; have NB1780_1560 := aA_ NB1560_1780.out.symm; replace BK1560 := bK_ BK1560 hb; have NB1564_1780 := nE_ hg BK1564; have NB1780_1564 := aA_ NB1564_1780.out.symm; replace BK1564 := bK_ BK1564 hb; have NB1568_1780 := nE_ hg BK1568; have NB1780_1568 := aA_ NB1568_1780.out.symm; replace BK1568 := bK_ BK1568 hb; have NB1572_1780 := nE_ hg BK1572; have NB1780_1572 := aA_ NB1572_1780.out.symm; replace BK1572 := bK_ BK1572 hb; have NB1739_1780 := nE_ hg BK1739; have NB1780_1739 := aA_ NB1739_1780.out.symm; replace BK1739 := bK_ BK1739 hb; have NB1776_1780 := nE_ hg BK1776; have NB1780_1776 := aA_ NB1776_1780.out.symm; replace BK1776 := bK_ BK1776 hb; clear hb hbox hg; have hnb96 := NB1780_1552.out; have hnc96 := NB1552_1780.out; have hnb97 := NB1780_1556.out; have hnc97 := NB1556_1780.out; have hnb98 := NB1780_1560.out; have hnc98 := NB1560_1780.out; have hnb99 := NB1780_1564.out; have hnc99 := NB1564_1780.out; have hnb100 := NB1780_1568.out; have hnc100 := NB1568_1780.out; have hnb101 := NB1780_1572.out; have hnc101 := NB1572_1780.out; have hnb102 := NB1780_1739.out; have hnc102 := NB1739_1780.out; have hnb103 := NB1780_1776.out; have hnc103 := NB1776_1780.out; have hcz104_0 : w95.cell? ⟨gb1780, 0, none⟩ = some (.int .i64 0) := (blk_cell BK1780.out 0).trans rfl; have hcz104_1 : w95.cell? ⟨gb1780, 1, none⟩ = some (.int .i64 0) := (blk_cell BK1780.out 1).trans rfl; have hfz104_0 := blk_frozen BK1780.out 0; have hfz104_1 := blk_frozen BK1780.out 1; have hnb105 := NB1560_1552.out; have hnc105 := NB1552_1560.out; have hnb106 := NB1560_1556.out; have hnc106 := NB1556_1560.out; have hnb107 := NB1560_1564.out; have hnc107 := NB1564_1560.out; have hnb108 := NB1560_1568.out; have hnc108 := NB1568_1560.out; have hnb109 := NB1560_1572.out; have hnc109 := NB1572_1560.out; have hnb110 := NB1560_1739.out; have hnc110 := NB1739_1560.out; have hcz111_0 : w95.cell? ⟨gb1560, 0, none⟩ = some (.int .i64 t1557) := (blk_cell BK1560.out 0).trans rfl; have hcz111_1 : w95.cell? ⟨gb1560, 1, none⟩ = some (.int .i64 t1558) := (blk_cell BK1560.out 1).trans rfl; have hfz111_0 := blk_frozen BK1560.out 0; have hfz111_1 := blk_frozen BK1560.out 1) | ((with_reducible refine gate_callee (f := 16) rfl ?_); refine goesL_ (some 154) rfl rfl Tryd.func16 (by kernel_rfl) rfl #[.agg #[.int .i64 t1557, .int .i64 t1558], .agg #[.int .i64 1, .int .i64 x20_28]] rfl (by (try simp only [mT_, mC_, mN_]); first | done | rfl) ?_; (with_reducible refine (demurrageref02_Add.calls kj28 t1557 t1558 1 x20_28 t1781 t1782 t1783 _ A80.out).mono ?_); rintro e w112 ⟨rfl, hb⟩; refine ⟨_, rfl, ?_⟩; replace BK1552 := aA_ (blk_below (g := gb1552) (o := .cells #[.int .i64 t1549, .int .i64 t1550] 24 (0, 0)) (by refine blk_far ?_ NB1552_1780.out _; refine blk_far ?_ NB1552_1780.out _; exact BK1552.out) hb); replace BK1556 := aA_ (blk_below (g := gb1556) (o := .cells #[.int .i64 t1553, .int .i64 t1554] 24 (0, 0)) (by refine blk_far ?_ NB1556_1780.out _; refine blk_far ?_ NB1556_1780.out _; exact BK1556.out) hb); replace BK1560 := aA_ (blk_below (g := gb1560) (o := .cells #[.int .i64 t1557, .int .i64 t1558] 24 (0, 0)) (by refine blk_far ?_ NB1560_1780.out _; refine blk_far ?_ NB1560_1780.out _; exact BK1560.out) hb); replace BK1564 := aA_ (blk_below (g := gb1564) (o := .cells #[.int .i64 t1561, .int .i64 t1562] 24 (0, 0)) (by refine blk_far ?_ NB1564_1780.out _; refine blk_far ?_ NB1564_1780.out _; exact BK1564.out) hb); replace BK1568 := aA_ (blk_below (g := gb1568) (o := .cells #[.int .i64 t1565, .int .i64 t1566] 24 (0, 0)) (by refine blk_far ?_ NB1568_1780.out _; refine blk_far ?_ NB1568_1780.out _; exact BK1568.out) hb); replace BK1572 := aA_ (blk_below (g := gb1572) (o := .cells #[.int .i64 t1569, .int .i64 t1570] 24 (0, 0)) (by refine blk_far ?_ NB1572_1780.out _; refine blk_far ?_ NB1572_1780.out _; exact BK1572.out) hb); replace BK1739 := aA_ (blk_below (g := gb1739) (o := .cells #[.int .i64 t1735, .int .i64 t1736, .int .i64 t1737] 41 (0, 0)) (by refine blk_far ?_ NB1739_1780.out _; refine blk_far ?_ NB1739_1780.out _; exact BK1739.out) hb); replace BK1776 := aA_ (blk_below (g := gb1776) (o := .cells #[.int .i64 t1773, .int .i64 t1774] 24 (0, 0)) (by refine blk_far ?_ NB1776_1780.out _; refine blk_far ?_ NB1776_1780.out _; exact BK1776.out) hb); replace BK1780 := aA_ (blk_below (g := gb1780) (o := .cells #[.int .i64 t1777, .int .i64 t1778] 24 (0, 0)) (by refine blk_put (cs := #[.int .i64 t1777, .int .i64 0]) ?_ 1 _ rfl; refine blk_put (cs := #[.int .i64 0, .int .i64 0]) ?_ 0 _ rfl; exact BK1780.out) hb); replace HB := bB_ (by repeat (with_reducible first | exact HB.out | apply bA_ | apply bN_ | apply bD_ | refine bS_ ?_ GE1552.out | refine bS_ ?_ GE1556.out | refine bS_ ?_ GE1560.out | refine bS_ ?_ GE1564.out | refine bS_ ?_ GE1568.out | refine bS_ ?_ GE1572.out | refine bS_ ?_ GE1739.out | refine bS_ ?_ GE1776.out | refine bS_ ?_ GE1780.out)) hb; (try clear hb)) | ((with_reducible refine gate_dst (N := 25) rfl ?_); refine box_event rfl (N := 25) rfl (cs := #[.int .i64 0, .int .i64 0]) (t := 24) ?hr ?_; (case hr => go_simp <;> rfl); intro gb1784 hg w113 hbox hb; have BK1784 := aA_ (hbox); have GW1784 := gW_ hg (by repeat (with_reducible first | exact HB.out | apply bA_ | apply bN_ | apply bD_ | refine bS_ ?_ GE1552.out | refine bS_ ?_ GE1556.out | refine bS_ ?_ GE1560.out | refine bS_ ?_ GE1564.out | refine bS_ ?_ GE1568.out | refine bS_ ?_ GE1572.out | refine bS_ ?_ GE1739.out | refine bS_ ?_ GE1776.out | refine bS_ ?_ GE1780.out)); have GE1784 := GW1784; replace HB := bB_ (by repeat (with_reducible first | exact HB.out | apply bA_ | apply bN_ | apply bD_ | refine bS_ ?_ GE1552.out | refine bS_ ?_ GE1556.out | refine bS_ ?_ GE1560.out | refine bS_ ?_ GE1564.out | refine bS_ ?_ GE1568.out | refine bS_ ?_ GE1572.out | refine bS_ ?_ GE1739.out | refine bS_ ?_ GE1776.out | refine bS_ ?_ GE1780.out)) hb; have NB1552_1784 := nE_ hg BK1552; have NB1784_1552 := aA_ NB1552_1784.out.symm; replace BK1552 := bK_ BK1552 hb; have NB1556_1784 := nE_ hg BK1556; have NB1784_1556 := aA_ NB1556_1784.out.symm; replace BK1556 := bK_ BK1556 hb; have NB1560_1784 := nE_ hg BK1560; have NB1784_1560 := aA_ NB1560_1784.out.symm; replace BK1560 := bK_ BK1560 hb; have NB1564_1784 := nE_ hg BK1564; have NB1784_1564 := aA_ NB1564_1784.out.symm; replace BK1564 := bK_ BK1564 hb; have NB1568_1784 := nE_ hg BK1568; have NB1784_1568 := aA_ NB1568_1784.out.symm; replace BK1568 := bK_ BK1568 hb; have NB1572_1784 := nE_ hg BK1572; have NB1784_1572 := aA_ NB1572_1784.out.symm; replace BK1572 := bK_ BK1572 hb; have NB1739_1784 := nE_ hg BK1739; have NB1784_1739 := aA_ NB1739_1784.out.symm; replace BK1739 := bK_ BK1739 hb; have NB1776_1784 := nE_ hg BK1776; have NB1784_1776 := aA_ NB1776_1784.out.symm; replace BK1776 := bK_ BK1776 hb; have NB1780_1784 := nE_ hg BK1780; have NB1784_1780 := aA_ NB1780_1784.out.symm; replace BK1780 := bK_ BK1780 hb; clear hb hbox hg; have hnb114 := NB1784_1552.out; have hnc114 := NB1552_1784.out; have hnb115 := NB1784_1556.out; have hnc115 := NB1556_1784.out; have hnb116 := NB1784_1560.out; have hnc116 := NB1560_1784.out; have hnb117 := NB1784_1564.out; have hnc117 := NB1564_1784.out; have hnb118 := NB1784_1568.out; have hnc118 := NB1568_1784.out; have hnb119 := NB1784_1572.out; have hnc119 := NB1572_1784.out; have hnb120 := NB1784_1739.out; have hnc120 := NB1739_1784.out; have hnb121 := NB1784_1776.out; have hnc121 := NB1776_1784.out; have hnb122 := NB1784_1780.out; have hnc122 := NB1780_1784.out; have hcz123_0 : w113.cell? ⟨gb1784, 0, none⟩ = some (.int .i64 0) := (blk_cell BK1784.out 0).trans rfl; have hcz123_1 : w113.cell? ⟨gb1784, 1, none⟩ = some (.int .i64 0) := (blk_cell BK1784.out 1).trans rfl; have hfz123_0 := blk_frozen BK1784.out 0; have hfz123_1 := blk_frozen BK1784.out 1; have hnb124 := NB1552_1556.out; have hnc124 := NB1556_1552.out; have hnb125 := NB1552_1564.out; have hnc125 := NB1564_1552.out; have hnb126 := NB1552_1568.out; have hnc126 := NB1568_1552.out; have hnb127 := NB1552_1572.out; have hnc127 := NB1572_1552.out; have hnb128 := NB1552_1739.out; have hnc128 := NB1739_1552.out; have hcz129_0 : w113.cell? ⟨gb1552, 0, none⟩ = some (.int .i64 t1549) := (blk_cell BK1552.out 0).trans rfl; have hcz129_1 : w113.cell? ⟨gb1552, 1, none⟩ = some (.int .i64 t1550) := (blk_cell BK1552.out 1).trans rfl; have hfz129_0 := blk_frozen BK1552.out 0; have hfz129_1 := blk_frozen BK1552.out 1) | ((with_reducible refine gate_callee (f := 16) rfl ?_); refine goesL_ (some 160) rfl rfl Tryd.func16 (by kernel_rfl) rfl #[.agg #[.int .i64 t1549, .int .i64 t1550], .agg #[.int .i64 1, .int .i64 360]] rfl (by (try simp only [mT_, mC_, mN_]); first | done | rfl) ?_; (with_reducible refine (demurrageref02_Add.calls kj28 t1549 t1550 1 360 t1785 t1786 t1787 _ A81.out).mono ?_); rintro e w130 ⟨rfl, hb⟩; refine ⟨_, rfl, ?_⟩; replace BK1552 := aA_ (blk_below (g := gb1552) (o := .cells #[.int .i64 t1549, .int .i64 t1550] 24 (0, 0)) (by refine blk_far ?_ NB1552_1784.out _; refine blk_far ?_ NB1552_1784.out _; exact BK1552.out) hb); replace BK1556 := aA_ (blk_below (g := gb1556) (o := .cells #[.int .i64 t1553, .int .i64 t1554] 24 (0, 0)) (by refine blk_far ?_ NB1556_1784.out _; refine blk_far ?_ NB1556_1784.out _; exact BK1556.out) hb); replace BK1560 := aA_ (blk_below (g := gb1560) (o := .cells #[.int .i64 t1557, .int .i64 t1558] 24 (0, 0)) (by refine blk_far ?_ NB1560_1784.out _; refine blk_far ?_ NB1560_1784.out _; exact BK1560.out) hb); replace BK1564 := aA_ (blk_below (g := gb1564) (o := .cells #[.int .i64 t1561, .int .i64 t1562] 24 (0, 0)) (by refine blk_far ?_ NB1564_1784.out _; refine blk_far ?_ NB1564_1784.out _; exact BK1564.out) hb); replace BK1568 := aA_ (blk_below (g := gb1568) (o := .cells #[.int .i64 t1565, .int .i64 t1566] 24 (0, 0)) (by refine blk_far ?_ NB1568_1784.out _; refine blk_far ?_ NB1568_1784.out _; exact BK1568.out) hb); replace BK1572 := aA_ (blk_below (g := gb1572) (o := .cells #[.int .i64 t1569, .int .i64 t1570] 24 (0, 0)) (by refine blk_far ?_ NB1572_1784.out _; refine blk_far ?_ NB1572_1784.out _; exact BK1572.out) hb); replace BK1739 := aA_ (blk_below (g := gb1739) (o := .cells #[.int .i64 t1735, .int .i64 t1736, .int .i64 t1737] 41 (0, 0)) (by refine blk_far ?_ NB1739_1784.out _; refine blk_far ?_ NB1739_1784.out _; exact BK1739.out) hb); replace BK1776 := aA_ (blk_below (g := gb1776) (o := .cells #[.int .i64 t1773, .int .i64 t1774] 24 (0, 0)) (by refine blk_far ?_ NB1776_1784.out _; refine blk_far ?_ NB1776_1784.out _; exact BK1776.out) hb); replace BK1780 := aA_ (blk_below (g := gb1780) (o := .cells #[.int .i64 t1777, .int .i64 t1778] 24 (0, 0)) (by refine blk_far ?_ NB1780_1784.out _; refine blk_far ?_ NB1780_1784.out _; exact BK1780.out) hb); replace BK1784 := aA_ (blk_below (g := gb1784) (o := .cells #[.int .i64 t1781, .int .i64 t1782] 24 (0, 0)) (by refine blk_put (cs := #[.int .i64 t1781, .int .i64 0]) ?_ 1 _ rfl; refine blk_put (cs := #[.int .i64 0, .int .i64 0]) ?_ 0 _ rfl; exact BK1784.out) hb); replace HB := bB_ (by repeat (with_reducible first | exact HB.out | apply bA_ | apply bN_ | apply bD_ | refine bS_ ?_ GE1552.out | refine bS_ ?_ GE1556.out | refine bS_ ?_ GE1560.out | refine bS_ ?_ GE1564.out | refine bS_ ?_ GE1568.out | refine bS_ ?_ GE1572.out | refine bS_ ?_ GE1739.out | refine bS_ ?_ GE1776.out | refine bS_ ?_ GE1780.out | refine bS_ ?_ GE1784.out)) hb; (try clear hb)) | ((with_reducible refine gate_dst (N := 27) rfl ?_); refine box_event rfl (N := 27) rfl (cs := #[.int .i64 0, .int .i64 0]) (t := 24) ?hr ?_; (case hr => go_simp <;> rfl); intro gb1788 hg w131 hbox hb; have BK1788 := aA_ (hbox); have GW1788 := gW_ hg (by repeat (with_reducible first | exact HB.out | apply bA_ | apply bN_ | apply bD_ | refine bS_ ?_ GE1552.out | refine bS_ ?_ GE1556.out | refine bS_ ?_ GE1560.out | refine bS_ ?_ GE1564.out | refine bS_ ?_ GE1568.out | refine bS_ ?_ GE1572.out | refine bS_ ?_ GE1739.out | refine bS_ ?_ GE1776.out | refine bS_ ?_ GE1780.out | refine bS_ ?_ GE1784.out)); have GE1788 := GW1788; replace HB := bB_ (by repeat (with_reducible first | exact HB.out | apply bA_ | apply bN_ | apply bD_ | refine bS_ ?_ GE1552.out | refine bS_ ?_ GE1556.out | refine bS_ ?_ GE1560.out | refine bS_ ?_ GE1564.out | refine bS_ ?_ GE1568.out | refine bS_ ?_ GE1572.out | refine bS_ ?_ GE1739.out | refine bS_ ?_ GE1776.out | refine bS_ ?_ GE1780.out | refine bS_ ?_ GE1784.out)) hb; have NB1552_1788 := nE_ hg BK1552; have NB1788_1552 := aA_ NB1552_1788.out.symm; replace BK1552 := bK_ BK1552 hb; have NB1556_1788 := nE_ hg BK1556; have NB1788_1556 := aA_ NB1556_1788.out.symm; replace BK1556 := bK_ BK1556 hb; have NB1560_1788 := nE_ hg BK1560; have NB1788_1560 := aA_ NB1560_1788.out.symm; replace BK1560 := bK_ BK1560 hb; have NB1564_1788 := nE_ hg BK1564; have NB1788_1564 := aA_ NB1564_1788.out.symm; replace BK1564 := bK_ BK1564 hb; have NB1568_1788 := nE_ hg BK1568; have NB1788_1568 := aA_ NB1568_1788.out.symm; replace BK1568 := bK_ BK1568 hb; have NB1572_1788 := nE_ hg BK1572; have NB1788_1572 := aA_ NB1572_1788.out.symm; replace BK1572 := bK_ BK1572 hb; have NB1739_1788 := nE_ hg BK1739; have NB1788_1739 := aA_ NB1739_1788.out.symm; replace BK1739 := bK_ BK1739 hb; have NB1776_1788 := nE_ hg BK1776; have NB1788_1776 := aA_ NB1776_1788.out.symm; replace BK1776 := bK_ BK1776 hb; have NB1780_1788 := nE_ hg BK1780; have NB1788_1780 := aA_ NB1780_1788.out.symm; replace BK1780 := bK_ BK1780 hb; have NB1784_1788 := nE_ hg BK1784; have NB1788_1784 := aA_ NB1784_1788.out.symm; replace BK1784 := bK_ BK1784 hb; clear hb hbox hg; have hnb132 := NB1788_1552.out; have hnc132 := NB1552_1788.out; have hnb133 := NB1788_1556.out; have hnc133 := NB1556_1788.out; have hnb134 := NB1788_1560.out; have hnc134 := NB1560_1788.out; have hnb135 := NB1788_1564.out; have hnc135 := NB1564_1788.out; have hnb136 := NB1788_1568.out; have hnc136 := NB1568_1788.out; have hnb137 := NB1788_1572.out; have hnc137 := NB1572_1788.out; have hnb138 := NB1788_1739.out; have hnc138 := NB1739_1788.out; have hnb139 := NB1788_1776.out; have hnc139 := NB1776_1788.out; have hnb140 := NB1788_1780.out; have hnc140 := NB1780_1788.out; have hnb141 := NB1788_1784.out; have hnc141 := NB1784_1788.out; have hcz142_0 : w131.cell? ⟨gb1788, 0, none⟩ = some (.int .i64 0) := (blk_cell BK1788.out 0).trans rfl; have hcz142_1 : w131.cell? ⟨gb1788, 1, none⟩ = some (.int .i64 0) := (blk_cell BK1788.out 1).trans rfl; have hfz142_0 := blk_frozen BK1788.out 0; have hfz142_1 := blk_frozen BK1788.out 1; have hcz143_0 : w131.cell? ⟨gb1776, 0, none⟩ = some (.int .i64 t1773) := (blk_cell BK1776.out 0).trans rfl; have hcz143_1 : w131.cell? ⟨gb1776, 1, none⟩ = some (.int .i64 t1774) := (blk_cell BK1776.out 1).trans rfl; have hfz143_0 := blk_frozen BK1776.out 0; have hfz143_1 := blk_frozen BK1776.out 1; have hcz144_0 : w131.cell? ⟨gb1784, 0, none⟩ = some (.int .i64 t1781) := (blk_cell BK1784.out 0).trans rfl; have hcz144_1 : w131.cell? ⟨gb1784, 1, none⟩ = some (.int .i64 t1782) := (blk_cell BK1784.out 1).trans rfl; have hfz144_0 := blk_frozen BK1784.out 0; have hfz144_1 := blk_frozen BK1784.out 1; have hcz145_0 : w131.cell? ⟨gb1780, 0, none⟩ = some (.int .i64 t1777) := (blk_cell BK1780.out 0).trans rfl; have hcz145_1 : w131.cell? ⟨gb1780, 1, none⟩ = some (.int .i64 t1778) := (blk_cell BK1780.out 1).trans rfl; have hfz145_0 := blk_frozen BK1780.out 0; have hfz145_1 := blk_frozen BK1780.out 1))
                 go_ret
                 exact ⟨by rfl, by repeat (with_reducible first | exact HB.out | apply bA_ | apply bN_ | apply bD_ | refine bS_ ?_ GE1552.out | refine bS_ ?_ GE1556.out | refine bS_ ?_ GE1560.out | refine bS_ ?_ GE1564.out | refine bS_ ?_ GE1568.out | refine bS_ ?_ GE1572.out | refine bS_ ?_ GE1739.out | refine bS_ ?_ GE1776.out | refine bS_ ?_ GE1780.out | refine bS_ ?_ GE1784.out | refine bS_ ?_ GE1788.out)⟩
                ·rw [if_neg c83] at H
                 exact absurd H (by simp)
               ·replace c82 := Bool.eq_false_iff.mpr c82
                subst c82
                rw [if_neg (show ¬ (false = true) by decide)] at H
                exact absurd H (by simp)
         ·rw [if_neg c23] at H
          exact absurd H (by simp)
        ·rw [if_neg c22] at H
         exact absurd H (by simp)
       ·rw [if_neg c21] at H
        exact absurd H (by simp)
      ·rw [if_neg c20] at H
       exact absurd H (by simp)
     ·rw [if_neg c19] at H
      exact absurd H (by simp)
    ·rw [if_neg c18] at H
     exact absurd H (by simp)

end Go.Proofs.YtbapgkopilmdfaaDoor.X
