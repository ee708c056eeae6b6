-- cut by prune.py, a program of this session
import Derived.Test.YteikafepdkijdaaPTableLessX0
import Derived.Test.YteikafepdkijdaaPTableLessXEq
import Derived.Test.YteikafepdkijdaaPTableLessXUsual
import Derived.Test.YteikafepdkijdaaPTableLessXShownT
import Derived.Test.YteikafepdkijdaaPTableLessHTable
namespace Go.Proofs.Yteikafepdkijdaa.X
open Go.RowKit Go.Proofs.YteikafepdkijdaaW.PrintWords Go.Proofs.YteikafepdkijdaaW.PrintLast Go.Proofs.YteikafepdkijdaaW.PrintMore
attribute [local go_sem] max2_int min2_int max_two min_two
set_option linter.unusedVariables false
set_option linter.unusedSimpArgs false

attribute [local go_sem high] eqA48
mutual
def demurragelaw21_TableLess.j0 : Nat → Int → Int → List (S56) → Bool → Int → Bool → Option (Bool)
 | 0, _, _, _, _, _, _ => none
 | k + 1, x0, x1, x2, x7, x8, x31 => if x31 = true then (some x7) else ((table_Of.f k 0 (wrap64 (Int.tmod x0 1000000000000001)) (Int.tmod (wrap64 (x1)) 9001) x2).bind fun bt1807 => ((table_Of.f k 1 (wrap64 (Int.tmod x0 1000000000000001)) (Int.tmod (wrap64 (x1)) 9001) x2).bind fun bt1811 => ((table_Of.f k 2 (wrap64 (Int.tmod x0 1000000000000001)) (Int.tmod (wrap64 (x1)) 9001) x2).bind fun bt1815 => (if bt1807.2 = 0 then (if bt1811.2 = 0 then (if bt1815.2 = 0 then (if (bt1807.1.length : Int) = x8 then (if (bt1811.1.length : Int) = x8 then (if (bt1815.1.length : Int) = x8 then (demurragelaw21_TableLess.l0 k x7 x8 bt1807.1 bt1811.1 bt1815.1 0) else (none)) else (none)) else (none)) else (none)) else (none)) else (none)))))
def demurragelaw21_TableLess.l0 : Nat → Bool → Int → List (S48) → List (S48) → List (S48) → Int → Option (Bool)
 | 0, _, _, _, _, _, _ => none
 | k + 1, x7, x8, x11, x13, x15, x17 => if x17 < x8 then (if 0 ≤ x17 then (if x17 < (x11.length : Int) then (if x17 < (x13.length : Int) then (if ((rd_T48 x11 x17).f1) < ((rd_T48 x13 x17).f1) then (none) else (if x17 < (x15.length : Int) then (if ((rd_T48 x11 x17).f1) < ((rd_T48 x15 x17).f1) then (none) else (demurragelaw21_TableLess.l0 k x7 x8 x11 x13 x15 (wrap64 (x17 + 1)))) else (none))) else (none)) else (none)) else (none)) else (if x7 = true then (if x8 > 1 then (some true) else (if 0 < (x11.length : Int) then (if 0 < (x13.length : Int) then (if (((rd_T48 x11 0).f0) == ((rd_T48 x13 0).f0) && (((rd_T48 x11 0).f1) == ((rd_T48 x13 0).f1) && (((rd_T48 x11 0).f2) == ((rd_T48 x13 0).f2) && (((rd_T48 x11 0).f3) == ((rd_T48 x13 0).f3) && (((rd_T48 x11 0).f4) == ((rd_T48 x13 0).f4)))))) = true then (if 0 < (x15.length : Int) then (some (((rd_T48 x13 0).f0) == ((rd_T48 x15 0).f0) && (((rd_T48 x13 0).f1) == ((rd_T48 x15 0).f1) && (((rd_T48 x13 0).f2) == ((rd_T48 x15 0).f2) && (((rd_T48 x13 0).f3) == ((rd_T48 x15 0).f3) && (((rd_T48 x13 0).f4) == ((rd_T48 x15 0).f4))))))) else (none)) else (none)) else (none)) else (none))) else (none))
end
def demurragelaw21_TableLess.f (k : Nat) (a0 : Int) (a1 : Int) (l2 : List (S56)) : Option (Bool) := (demurragelaw21_shown.f k).bind fun t1673 => (if (l2.length : Int) < 1 then (demurragelaw21_TableLess.j0 k a0 a1 l2 t1673 (l2.length : Int) true) else (if (l2.length : Int) > 30 then (demurragelaw21_TableLess.j0 k a0 a1 l2 t1673 (l2.length : Int) true) else ((demurrageref18_Usual.f k l2).bind fun t1674 => (demurragelaw21_TableLess.j0 k a0 a1 l2 t1673 (l2.length : Int) (!t1674)))))
set_option maxHeartbeats 8000000 in
set_option maxRecDepth 100000 in
theorem demurragelaw21_TableLess.calls (k : Nat) (a0 : Int) (a1 : Int) (A2 : Option Addr) (c2 : Nat) (l2 : List (S56)) (r : Bool) (w : World) (hr2 : Kd.C k56 w A2 l2.length l2) (hc2 : l2.length ≤ c2) (h : demurragelaw21_TableLess.f k a0 a1 l2 = some r) :
  Calls Try.prog 12 #[.int .u64 a0, .int .u16 a1, .slice A2 l2.length c2] w fun e w' => e = .returned (.bool r) ∧ Below w.heap.size w w' := by
 have hu48 := Try.underlying48
 have HR2 := aA_ hr2
 have HC2 := aA_ hc2
 clear hr2 hc2
 have HB := aA_ (Below.refl w.heap.size w)
 have H : ((demurragelaw21_shown.f k).bind fun t1673 => (if (l2.length : Int) < 1 then (demurragelaw21_TableLess.j0 k a0 a1 l2 t1673 (l2.length : Int) true) else (if (l2.length : Int) > 30 then (demurragelaw21_TableLess.j0 k a0 a1 l2 t1673 (l2.length : Int) true) else ((demurrageref18_Usual.f k l2).bind fun t1674 => (demurragelaw21_TableLess.j0 k a0 a1 l2 t1673 (l2.length : Int) (!t1674)))))) = some r := h
 clear h
 replace H := bI_ H
 obtain ⟨t1673, A40, H⟩ := H
 (try dsimp only at H)
 have A4 := aA_ A40
 clear A40
 have HC5 := aA_ H
 clear H
 go_enter Try.func12, Try.ntmps12
 go_upto_region 3 with (first | (go_at_call 27; (with_reducible refine (demurragelaw21_shown.calls k  t1673 _ A4.out).mono ?_); rintro e w6 ⟨rfl, hb⟩; replace HB := bB_ (by repeat (with_reducible first | exact HB.out | apply bA_ | apply bN_ | apply bD_)) hb; (try clear hb)))
 repeat (go_quiet (first | (go_at_call 27; (with_reducible refine (demurragelaw21_shown.calls k  t1673 _ A4.out).mono ?_); rintro e w6 ⟨rfl, hb⟩; replace HB := bB_ (by repeat (with_reducible first | exact HB.out | apply bA_ | apply bN_ | apply bD_)) hb; (try clear hb))); go_upto_region 3 with (first | (go_at_call 27; (with_reducible refine (demurragelaw21_shown.calls k  t1673 _ A4.out).mono ?_); rintro e w6 ⟨rfl, hb⟩; replace HB := bB_ (by repeat (with_reducible first | exact HB.out | apply bA_ | apply bN_ | apply bD_)) hb; (try clear hb))))
 (try simp only [Act.put, sT_, sZ_, sS_])
 go_cut [31] (fun v31 wc => ∃ (kq : Nat) (x31_4 : Bool), v31 = .bool x31_4 ∧ Aside0 (demurragelaw21_TableLess.j0 kq a0 a1 l2 t1673 (l2.length : Int) x31_4 = some r) ∧ Aside0 (kq ≤ k) ∧ Aside0 (Below w.heap.size w wc))
 case first =>
  have H := HC5.out
  clear HC5
  by_cases c7 : (l2.length : Int) < 1
  ·rw [if_pos c7] at H
   have c7b0 : decide ((l2.length : Int) < 1) = true := decide_eq_true c7
   have c7b1 : decide (l2.length < 1) = true := decide_eq_true (by omega)
   clear c7
   (first | rw [c7b0] | (simp only [i64_w, i32_w]; rw [c7b0]) | rw [c7b1] | skip)
   have H' := aA_ H
   clear H
   go_wp2
   repeat (go_quiet (fail); try go_wp2)
   go_meet
   case rel => exact ⟨_, _, (by first | rfl | simp | simp [*]), H', ⟨by first | omega | exact Nat.le_refl _⟩, ⟨by repeat (with_reducible first | exact HB.out | apply bA_ | apply bN_ | apply bD_)⟩⟩
  ·rw [if_neg c7] at H
   have c7b0 : decide ((l2.length : Int) < 1) = false := decide_eq_false c7
   have c7b1 : decide (l2.length < 1) = false := decide_eq_false (by omega)
   clear c7
   (first | rw [c7b0] | (simp only [i64_w, i32_w]; rw [c7b0]) | rw [c7b1] | skip)
   by_cases c8 : (l2.length : Int) > 30
   ·rw [if_pos c8] at H
    have c8b0 : decide (30 < (l2.length : Int)) = true := decide_eq_true c8
    have c8b1 : decide (30 < l2.length) = true := decide_eq_true (by omega)
    clear c8
    have H' := aA_ H
    clear H
    go_wp2
    repeat (go_quiet (fail); try go_wp2)
    go_meet
    case rel => exact ⟨_, _, (by first | rfl | simp | simp [*]), H', ⟨by first | omega | exact Nat.le_refl _⟩, ⟨by repeat (with_reducible first | exact HB.out | apply bA_ | apply bN_ | apply bD_)⟩⟩
   ·rw [if_neg c8] at H
    have c8b0 : decide (30 < (l2.length : Int)) = false := decide_eq_false c8
    have c8b1 : decide (30 < l2.length) = false := decide_eq_false (by omega)
    clear c8
    replace H := bI_ H
    obtain ⟨t1674, A90, H⟩ := H
    (try dsimp only at H)
    have A9 := aA_ A90
    clear A90
    have H' := aA_ H
    clear H
    go_wp2_with (first | (go_at_call 21; (with_reducible refine (demurrageref18_Usual.calls k _ _ l2 t1674 _ ?side1 ?side2 A9.out).mono ?_); (case side1 => repeat (first | exact (Kd.C_below HR2.out HB.out) | (with_reducible first | refine Kd.C_alloc ?_ _ | refine Kd.C_drewN ?_ _ | refine Kd.C_drew ?_))); (case side2 => exact HC2.out); rintro e w10 ⟨rfl, hb⟩; replace HB := bB_ (by repeat (with_reducible first | exact HB.out | apply bA_ | apply bN_ | apply bD_)) hb; (try clear hb)))
    repeat (go_quiet (first | (go_at_call 21; (with_reducible refine (demurrageref18_Usual.calls k _ _ l2 t1674 _ ?side1 ?side2 A9.out).mono ?_); (case side1 => repeat (first | exact (Kd.C_below HR2.out HB.out) | (with_reducible first | refine Kd.C_alloc ?_ _ | refine Kd.C_drewN ?_ _ | refine Kd.C_drew ?_))); (case side2 => exact HC2.out); rintro e w10 ⟨rfl, hb⟩; replace HB := bB_ (by repeat (with_reducible first | exact HB.out | apply bA_ | apply bN_ | apply bD_)) hb; (try clear hb))); try go_wp2_with (first | (go_at_call 21; (with_reducible refine (demurrageref18_Usual.calls k _ _ l2 t1674 _ ?side1 ?side2 A9.out).mono ?_); (case side1 => repeat (first | exact (Kd.C_below HR2.out HB.out) | (with_reducible first | refine Kd.C_alloc ?_ _ | refine Kd.C_drewN ?_ _ | refine Kd.C_drew ?_))); (case side2 => exact HC2.out); rintro e w10 ⟨rfl, hb⟩; replace HB := bB_ (by repeat (with_reducible first | exact HB.out | apply bA_ | apply bN_ | apply bD_)) hb; (try clear hb))))
    go_meet
    case rel => exact ⟨_, _, (by first | rfl | simp | simp [*]), H', ⟨by first | omega | exact Nat.le_refl _⟩, ⟨by repeat (with_reducible first | exact HB.out | apply bA_ | apply bN_ | apply bD_)⟩⟩
 case rest =>
  clear HC5
  try clear c1
  try clear c2
  try clear p2
  try clear c7
  try clear c7b0
  try clear c7b1
  try clear c8
  try clear c8b0
  try clear c8b1
  obtain ⟨kq, x31_4, rfl, HA, HJ4, HB⟩ := hcut
  cases kq with
  | zero => exact absurd HA.out (by simp [demurragelaw21_TableLess.j0])
  | succ kj4 =>
   have H := HA.out
   clear HA
   simp only [demurragelaw21_TableLess.j0] at H
   by_cases c11 : x31_4 = true
   ·subst c11
    rw [if_pos rfl] at H
    obtain rfl := Option.some.inj H
    go_wp2
    repeat (go_quiet (fail); try go_wp2)
    go_ret
    exact ⟨by rfl, by repeat (with_reducible first | exact HB.out | apply bA_ | apply bN_ | apply bD_)⟩
   ·replace c11 := Bool.eq_false_iff.mpr c11
    subst c11
    rw [if_neg (show ¬ (false = true) by decide)] at H
    replace H := bI_ H
    obtain ⟨⟨t1807, t1808⟩, A120, H⟩ := H
    (try dsimp only at H)
    have A12 := aA_ A120
    clear A120
    replace H := bI_ H
    obtain ⟨⟨t1811, t1812⟩, A130, H⟩ := H
    (try dsimp only at H)
    have A13 := aA_ A130
    clear A130
    replace H := bI_ H
    obtain ⟨⟨t1815, t1816⟩, A140, H⟩ := H
    (try dsimp only at H)
    have A14 := aA_ A140
    clear A140
    by_cases c15 : t1808 = 0
    ·rw [if_pos c15] at H
     have c15b0 : (t1808 == 0) = true := beq_iff_eq.mpr c15
     have c15b1 : (t1808 != 0) = false := bne_eq_false_iff_eq.mpr c15
     clear c15
     by_cases c16 : t1812 = 0
     ·rw [if_pos c16] at H
      have c16b0 : (t1812 == 0) = true := beq_iff_eq.mpr c16
      have c16b1 : (t1812 != 0) = false := bne_eq_false_iff_eq.mpr c16
      clear c16
      by_cases c17 : t1816 = 0
      ·rw [if_pos c17] at H
       have c17b0 : (t1816 == 0) = true := beq_iff_eq.mpr c17
       have c17b1 : (t1816 != 0) = false := bne_eq_false_iff_eq.mpr c17
       clear c17
       by_cases c18 : (t1807.length : Int) = (l2.length : Int)
       ·rw [if_pos c18] at H
        have c18b0 : ((t1807.length : Int) == (l2.length : Int)) = true := beq_iff_eq.mpr c18
        have c18b1 : ((t1807.length : Int) != (l2.length : Int)) = false := bne_eq_false_iff_eq.mpr c18
        have c18b2 : (t1807.length == l2.length) = true := by first | simpa using c18 | (simp at c18 ⊢; omega)
        clear c18
        by_cases c19 : (t1811.length : Int) = (l2.length : Int)
        ·rw [if_pos c19] at H
         have c19b0 : ((t1811.length : Int) == (l2.length : Int)) = true := beq_iff_eq.mpr c19
         have c19b1 : ((t1811.length : Int) != (l2.length : Int)) = false := bne_eq_false_iff_eq.mpr c19
         have c19b2 : (t1811.length == l2.length) = true := by first | simpa using c19 | (simp at c19 ⊢; omega)
         clear c19
         by_cases c20 : (t1815.length : Int) = (l2.length : Int)
         ·rw [if_pos c20] at H
          have c20b0 : ((t1815.length : Int) == (l2.length : Int)) = true := beq_iff_eq.mpr c20
          have c20b1 : ((t1815.length : Int) != (l2.length : Int)) = false := bne_eq_false_iff_eq.mpr c20
          have c20b2 : (t1815.length == l2.length) = true := by first | simpa using c20 | (simp at c20 ⊢; omega)
          clear c20
          have H' := aA_ H
          clear H
          go_wp2_with (first | (go_at_call 28; (with_reducible refine (table_Of.calls kj4 0 (wrap64 (Int.tmod a0 1000000000000001)) (Int.tmod (wrap64 (a1)) 9001) _ _ l2 t1807 t1808 _ ?side1 ?side2 A12.out).mono ?_); (case side1 => repeat (first | exact (Kd.C_below HR2.out HB.out) | (with_reducible first | refine Kd.C_alloc ?_ _ | refine Kd.C_drewN ?_ _ | refine Kd.C_drew ?_))); (case side2 => exact HC2.out); rintro e w21 ⟨v1809, rfl, ho0, hb⟩; have HO1810 := aA_ (Kd.R_lower ho0 (below_size (by repeat (with_reducible first | exact HB.out | apply bA_ | apply bN_ | apply bD_)))); replace HB := bB_ (by repeat (with_reducible first | exact HB.out | apply bA_ | apply bN_ | apply bD_)) hb; (try clear hb); (try clear ho0)) | (go_at_call 28; (with_reducible refine (table_Of.calls kj4 1 (wrap64 (Int.tmod a0 1000000000000001)) (Int.tmod (wrap64 (a1)) 9001) _ _ l2 t1811 t1812 _ ?side1 ?side2 A13.out).mono ?_); (case side1 => repeat (first | exact (Kd.C_below HR2.out HB.out) | (with_reducible first | refine Kd.C_alloc ?_ _ | refine Kd.C_drewN ?_ _ | refine Kd.C_drew ?_))); (case side2 => exact HC2.out); rintro e w22 ⟨v1813, rfl, ho0, hb⟩; have HO1814 := aA_ (Kd.R_lower (Kd.R_new' ho0 (Kd.R_lt HO1810.out)) (below_size (by repeat (with_reducible first | exact HB.out | apply bA_ | apply bN_ | apply bD_)))); replace HO1810 := aA_ (Kd.R_elder' HO1810.out (Kd.R_base ho0) hb); replace HB := bB_ (by repeat (with_reducible first | exact HB.out | apply bA_ | apply bN_ | apply bD_)) hb; (try clear hb); (try clear ho0)) | (go_at_call 28; (with_reducible refine (table_Of.calls kj4 2 (wrap64 (Int.tmod a0 1000000000000001)) (Int.tmod (wrap64 (a1)) 9001) _ _ l2 t1815 t1816 _ ?side1 ?side2 A14.out).mono ?_); (case side1 => repeat (first | exact (Kd.C_below HR2.out HB.out) | (with_reducible first | refine Kd.C_alloc ?_ _ | refine Kd.C_drewN ?_ _ | refine Kd.C_drew ?_))); (case side2 => exact HC2.out); rintro e w23 ⟨v1817, rfl, ho0, hb⟩; have HO1818 := aA_ (Kd.R_lower (Kd.R_new' (Kd.R_new' ho0 (Kd.R_lt HO1810.out)) (Kd.R_lt HO1814.out)) (below_size (by repeat (with_reducible first | exact HB.out | apply bA_ | apply bN_ | apply bD_)))); replace HO1810 := aA_ (Kd.R_elder' HO1810.out (Kd.R_base ho0) hb); replace HO1814 := aA_ (Kd.R_elder' HO1814.out (Kd.R_base ho0) hb); replace HB := bB_ (by repeat (with_reducible first | exact HB.out | apply bA_ | apply bN_ | apply bD_)) hb; (try clear hb); (try clear ho0); obtain ⟨Ao24, co24, eo24⟩ := Kd.R_slice HO1810.out; subst eo24; obtain ⟨Ao25, co25, eo25⟩ := Kd.R_slice HO1814.out; subst eo25; obtain ⟨Ao26, co26, eo26⟩ := Kd.R_slice HO1818.out; subst eo26))
          repeat (go_quiet (first | (go_at_call 28; (with_reducible refine (table_Of.calls kj4 0 (wrap64 (Int.tmod a0 1000000000000001)) (Int.tmod (wrap64 (a1)) 9001) _ _ l2 t1807 t1808 _ ?side1 ?side2 A12.out).mono ?_); (case side1 => repeat (first | exact (Kd.C_below HR2.out HB.out) | (with_reducible first | refine Kd.C_alloc ?_ _ | refine Kd.C_drewN ?_ _ | refine Kd.C_drew ?_))); (case side2 => exact HC2.out); rintro e w21 ⟨v1809, rfl, ho0, hb⟩; have HO1810 := aA_ (Kd.R_lower ho0 (below_size (by repeat (with_reducible first | exact HB.out | apply bA_ | apply bN_ | apply bD_)))); replace HB := bB_ (by repeat (with_reducible first | exact HB.out | apply bA_ | apply bN_ | apply bD_)) hb; (try clear hb); (try clear ho0)) | (go_at_call 28; (with_reducible refine (table_Of.calls kj4 1 (wrap64 (Int.tmod a0 1000000000000001)) (Int.tmod (wrap64 (a1)) 9001) _ _ l2 t1811 t1812 _ ?side1 ?side2 A13.out).mono ?_); (case side1 => repeat (first | exact (Kd.C_below HR2.out HB.out) | (with_reducible first | refine Kd.C_alloc ?_ _ | refine Kd.C_drewN ?_ _ | refine Kd.C_drew ?_))); (case side2 => exact HC2.out); rintro e w22 ⟨v1813, rfl, ho0, hb⟩; have HO1814 := aA_ (Kd.R_lower (Kd.R_new' ho0 (Kd.R_lt HO1810.out)) (below_size (by repeat (with_reducible first | exact HB.out | apply bA_ | apply bN_ | apply bD_)))); replace HO1810 := aA_ (Kd.R_elder' HO1810.out (Kd.R_base ho0) hb); replace HB := bB_ (by repeat (with_reducible first | exact HB.out | apply bA_ | apply bN_ | apply bD_)) hb; (try clear hb); (try clear ho0)) | (go_at_call 28; (with_reducible refine (table_Of.calls kj4 2 (wrap64 (Int.tmod a0 1000000000000001)) (Int.tmod (wrap64 (a1)) 9001) _ _ l2 t1815 t1816 _ ?side1 ?side2 A14.out).mono ?_); (case side1 => repeat (first | exact (Kd.C_below HR2.out HB.out) | (with_reducible first | refine Kd.C_alloc ?_ _ | refine Kd.C_drewN ?_ _ | refine Kd.C_drew ?_))); (case side2 => exact HC2.out); rintro e w23 ⟨v1817, rfl, ho0, hb⟩; have HO1818 := aA_ (Kd.R_lower (Kd.R_new' (Kd.R_new' ho0 (Kd.R_lt HO1810.out)) (Kd.R_lt HO1814.out)) (below_size (by repeat (with_reducible first | exact HB.out | apply bA_ | apply bN_ | apply bD_)))); replace HO1810 := aA_ (Kd.R_elder' HO1810.out (Kd.R_base ho0) hb); replace HO1814 := aA_ (Kd.R_elder' HO1814.out (Kd.R_base ho0) hb); replace HB := bB_ (by repeat (with_reducible first | exact HB.out | apply bA_ | apply bN_ | apply bD_)) hb; (try clear hb); (try clear ho0); obtain ⟨Ao24, co24, eo24⟩ := Kd.R_slice HO1810.out; subst eo24; obtain ⟨Ao25, co25, eo25⟩ := Kd.R_slice HO1814.out; subst eo25; obtain ⟨Ao26, co26, eo26⟩ := Kd.R_slice HO1818.out; subst eo26)); try go_wp2_with (first | (go_at_call 28; (with_reducible refine (table_Of.calls kj4 0 (wrap64 (Int.tmod a0 1000000000000001)) (Int.tmod (wrap64 (a1)) 9001) _ _ l2 t1807 t1808 _ ?side1 ?side2 A12.out).mono ?_); (case side1 => repeat (first | exact (Kd.C_below HR2.out HB.out) | (with_reducible first | refine Kd.C_alloc ?_ _ | refine Kd.C_drewN ?_ _ | refine Kd.C_drew ?_))); (case side2 => exact HC2.out); rintro e w21 ⟨v1809, rfl, ho0, hb⟩; have HO1810 := aA_ (Kd.R_lower ho0 (below_size (by repeat (with_reducible first | exact HB.out | apply bA_ | apply bN_ | apply bD_)))); replace HB := bB_ (by repeat (with_reducible first | exact HB.out | apply bA_ | apply bN_ | apply bD_)) hb; (try clear hb); (try clear ho0)) | (go_at_call 28; (with_reducible refine (table_Of.calls kj4 1 (wrap64 (Int.tmod a0 1000000000000001)) (Int.tmod (wrap64 (a1)) 9001) _ _ l2 t1811 t1812 _ ?side1 ?side2 A13.out).mono ?_); (case side1 => repeat (first | exact (Kd.C_below HR2.out HB.out) | (with_reducible first | refine Kd.C_alloc ?_ _ | refine Kd.C_drewN ?_ _ | refine Kd.C_drew ?_))); (case side2 => exact HC2.out); rintro e w22 ⟨v1813, rfl, ho0, hb⟩; have HO1814 := aA_ (Kd.R_lower (Kd.R_new' ho0 (Kd.R_lt HO1810.out)) (below_size (by repeat (with_reducible first | exact HB.out | apply bA_ | apply bN_ | apply bD_)))); replace HO1810 := aA_ (Kd.R_elder' HO1810.out (Kd.R_base ho0) hb); replace HB := bB_ (by repeat (with_reducible first | exact HB.out | apply bA_ | apply bN_ | apply bD_)) hb; (try clear hb); (try clear ho0)) | (go_at_call 28; (with_reducible refine (table_Of.calls kj4 2 (wrap64 (Int.tmod a0 1000000000000001)) (Int.tmod (wrap64 (a1)) 9001) _ _ l2 t1815 t1816 _ ?side1 ?side2 A14.out).mono ?_); (case side1 => repeat (first | exact (Kd.C_below HR2.out HB.out) | (with_reducible first | refine Kd.C_alloc ?_ _ | refine Kd.C_drewN ?_ _ | refine Kd.C_drew ?_))); (case side2 => exact HC2.out); rintro e w23 ⟨v1817, rfl, ho0, hb⟩; have HO1818 := aA_ (Kd.R_lower (Kd.R_new' (Kd.R_new' ho0 (Kd.R_lt HO1810.out)) (Kd.R_lt HO1814.out)) (below_size (by repeat (with_reducible first | exact HB.out | apply bA_ | apply bN_ | apply bD_)))); replace HO1810 := aA_ (Kd.R_elder' HO1810.out (Kd.R_base ho0) hb); replace HO1814 := aA_ (Kd.R_elder' HO1814.out (Kd.R_base ho0) hb); replace HB := bB_ (by repeat (with_reducible first | exact HB.out | apply bA_ | apply bN_ | apply bD_)) hb; (try clear hb); (try clear ho0); obtain ⟨Ao24, co24, eo24⟩ := Kd.R_slice HO1810.out; subst eo24; obtain ⟨Ao25, co25, eo25⟩ := Kd.R_slice HO1814.out; subst eo25; obtain ⟨Ao26, co26, eo26⟩ := Kd.R_slice HO1818.out; subst eo26)))
          (try simp only [Act.put, sT_, sZ_, sS_])
          go_loopg [17] kj4 (fun kq v17 w' => ∃ (x17_2 : Int), v17 = .int .i64 x17_2 ∧ Aside0 (demurragelaw21_TableLess.l0 kq t1673 (l2.length : Int) t1807 t1811 t1815 x17_2 = some r) ∧ Aside0 (kq ≤ kj4) ∧ Aside0 (Kd.R k48 48 w' w.heap.size (fun k_ => some k_ ≠ ((.slice Ao25 t1811.length co25) : Value).ownBlock ∧ some k_ ≠ ((.slice Ao26 t1815.length co26) : Value).ownBlock) (.slice Ao24 t1807.length co24) t1807) ∧ Aside0 (Kd.R k48 48 w' w.heap.size (fun k_ => some k_ ≠ ((.slice Ao24 t1807.length co24) : Value).ownBlock ∧ some k_ ≠ ((.slice Ao26 t1815.length co26) : Value).ownBlock) (.slice Ao25 t1811.length co25) t1811) ∧ Aside0 (Kd.R k48 48 w' w.heap.size (fun k_ => some k_ ≠ ((.slice Ao24 t1807.length co24) : Value).ownBlock ∧ some k_ ≠ ((.slice Ao25 t1811.length co25) : Value).ownBlock) (.slice Ao26 t1815.length co26) t1815) ∧ Aside0 (Below w.heap.size w w'))
          case atStart => exact ⟨(0), (by first | rfl | simp | simp [*]), H', ⟨Nat.le_refl _⟩, ⟨by (with_reducible repeat (first | apply Kd.R_alloc | apply Kd.R_drewN | apply Kd.R_drew)); exact Kd.R_mono HO1810.out (fun _ hk => (And.intro (hk.1.2) (hk.2)))⟩, ⟨by (with_reducible repeat (first | apply Kd.R_alloc | apply Kd.R_drewN | apply Kd.R_drew)); exact Kd.R_mono HO1814.out (fun _ hk => (And.intro (hk.1.2) (hk.2)))⟩, ⟨by (with_reducible repeat (first | apply Kd.R_alloc | apply Kd.R_drewN | apply Kd.R_drew)); exact Kd.R_mono HO1818.out (fun _ hk => (And.intro (hk.1.2) (hk.2)))⟩, ⟨by repeat (with_reducible first | exact HB.out | apply bA_ | apply bN_ | apply bD_)⟩⟩
          case round =>
           clear H'
           try clear c1
           try clear c2
           try clear p2
           try clear p6
           try clear c7
           try clear c7b0
           try clear c7b1
           try clear c8
           try clear c8b0
           try clear c8b1
           try clear c11
           try clear c12
           try clear c15
           try clear c15b0
           try clear c15b1
           try clear c16
           try clear c16b0
           try clear c16b1
           try clear c17
           try clear c17b0
           try clear c17b1
           try clear c18
           try clear c18b0
           try clear c18b1
           try clear c18b2
           try clear c19
           try clear c19b0
           try clear c19b1
           try clear c19b2
           try clear c20
           try clear c20b0
           try clear c20b1
           try clear c20b2
           try clear p2
           obtain ⟨x17_2, rfl, HA, HK2, HO_11, HO_13, HO_15, HB⟩ := hrel
           cases gk with
           | zero => exact absurd HA.out (by simp [demurragelaw21_TableLess.l0])
           | succ k2 =>
            have H := HA.out
            clear HA
            simp only [demurragelaw21_TableLess.l0] at H
            by_cases c27 : x17_2 < (l2.length : Int)
            ·rw [if_pos c27] at H
             have c27b0 : decide (x17_2 < (l2.length : Int)) = true := decide_eq_true c27
             clear c27
             by_cases c28 : 0 ≤ x17_2
             ·rw [if_pos c28] at H
              have c28b0 : decide (0 ≤ x17_2) = true := decide_eq_true c28
              clear c28
              by_cases c29 : x17_2 < (t1807.length : Int)
              ·rw [if_pos c29] at H
               have c29b0 : decide (x17_2 < (t1807.length : Int)) = true := decide_eq_true c29
               clear c29
               by_cases c30 : x17_2 < (t1811.length : Int)
               ·rw [if_pos c30] at H
                have c30b0 : decide (x17_2 < (t1811.length : Int)) = true := decide_eq_true c30
                clear c30
                by_cases c31 : ((rd_T48 t1807 x17_2).f1) < ((rd_T48 t1811 x17_2).f1)
                ·rw [if_pos c31] at H
                 exact absurd H (by simp)
                ·rw [if_neg c31] at H
                 have c31b0 : decide (((rd_T48 t1807 x17_2).f1) < ((rd_T48 t1811 x17_2).f1)) = false := decide_eq_false c31
                 clear c31
                 by_cases c32 : x17_2 < (t1815.length : Int)
                 ·rw [if_pos c32] at H
                  have c32b0 : decide (x17_2 < (t1815.length : Int)) = true := decide_eq_true c32
                  clear c32
                  by_cases c33 : ((rd_T48 t1807 x17_2).f1) < ((rd_T48 t1815 x17_2).f1)
                  ·rw [if_pos c33] at H
                   exact absurd H (by simp)
                  ·rw [if_neg c33] at H
                   have c33b0 : decide (((rd_T48 t1807 x17_2).f1) < ((rd_T48 t1815 x17_2).f1)) = false := decide_eq_false c33
                   clear c33
                   have H' := aA_ H
                   clear H
                   have p1843 : 0 ≤ (x17_2 : Int) := of_decide_eq_true (by first | (with_reducible assumption) | assumption)
                   have q1843 : x17_2 < (t1807.length : Int) := of_decide_eq_true (by first | (with_reducible assumption) | assumption)
                   obtain ⟨ad1843, e1843, hx1843_0, hx1843_1, hx1843_2, hx1843_3, hx1843_4⟩ := at_T48 (Kd.R_reads' HO_11.out).2.2 x17_2 p1843 q1843
                   cases e1843
                   replace p1843 := eq_true p1843
                   replace q1843 := eq_true q1843
                   have p1844 : 0 ≤ (x17_2 : Int) := of_decide_eq_true (by first | (with_reducible assumption) | assumption)
                   have q1844 : x17_2 < (t1811.length : Int) := of_decide_eq_true (by first | (with_reducible assumption) | assumption)
                   obtain ⟨ad1844, e1844, hx1844_0, hx1844_1, hx1844_2, hx1844_3, hx1844_4⟩ := at_T48 (Kd.R_reads' HO_13.out).2.2 x17_2 p1844 q1844
                   cases e1844
                   replace p1844 := eq_true p1844
                   replace q1844 := eq_true q1844
                   have p1845 : 0 ≤ (x17_2 : Int) := of_decide_eq_true (by first | (with_reducible assumption) | assumption)
                   have q1845 : x17_2 < (t1807.length : Int) := of_decide_eq_true (by first | (with_reducible assumption) | assumption)
                   obtain ⟨ad1845, e1845, hx1845_0, hx1845_1, hx1845_2, hx1845_3, hx1845_4⟩ := at_T48 (Kd.R_reads' HO_11.out).2.2 x17_2 p1845 q1845
                   obtain rfl : ad1843 = ad1845 := (by injection e1845)
                   replace p1845 := eq_true p1845
                   replace q1845 := eq_true q1845
                   have p1846 : 0 ≤ (x17_2 : Int) := of_decide_eq_true (by first | (with_reducible assumption) | assumption)
                   have q1846 : x17_2 < (t1815.length : Int) := of_decide_eq_true (by first | (with_reducible assumption) | assumption)
                   obtain ⟨ad1846, e1846, hx1846_0, hx1846_1, hx1846_2, hx1846_3, hx1846_4⟩ := at_T48 (Kd.R_reads' HO_15.out).2.2 x17_2 p1846 q1846
                   cases e1846
                   replace p1846 := eq_true p1846
                   replace q1846 := eq_true q1846
                   go_wp2
                   repeat (go_quiet (fail); try go_wp2)
                   go_roundg k2
                   case measure => have := HJ4.out; have := HK2.out; omega
                   case rel => exact ⟨(wrap64 (x17_2 + 1)), (by first | rfl | simp | simp [*]), H', ⟨by have := HJ4.out; have := HK2.out; omega⟩, ⟨by (with_reducible repeat (first | apply Kd.R_alloc | apply Kd.R_drewN | apply Kd.R_drew)); exact HO_11.out⟩, ⟨by (with_reducible repeat (first | apply Kd.R_alloc | apply Kd.R_drewN | apply Kd.R_drew)); exact HO_13.out⟩, ⟨by (with_reducible repeat (first | apply Kd.R_alloc | apply Kd.R_drewN | apply Kd.R_drew)); exact HO_15.out⟩, ⟨by repeat (with_reducible first | exact HB.out | apply bA_ | apply bN_ | apply bD_)⟩⟩
                 ·rw [if_neg c32] at H
                  exact absurd H (by simp)
               ·rw [if_neg c30] at H
                exact absurd H (by simp)
              ·rw [if_neg c29] at H
               exact absurd H (by simp)
             ·rw [if_neg c28] at H
              exact absurd H (by simp)
            ·rw [if_neg c27] at H
             have c27b0 : decide (x17_2 < (l2.length : Int)) = false := decide_eq_false c27
             clear c27
             by_cases c34 : t1673 = true
             ·subst c34
              rw [if_pos rfl] at H
              by_cases c35 : (l2.length : Int) > 1
              ·rw [if_pos c35] at H
               have c35b0 : decide (1 < (l2.length : Int)) = true := decide_eq_true c35
               have c35b1 : decide (1 < l2.length) = true := decide_eq_true (by omega)
               clear c35
               obtain rfl := Option.some.inj H
               go_wp2
               repeat (go_quiet (fail); try go_wp2)
               go_ret
               exact ⟨by rfl, by repeat (with_reducible first | exact HB.out | apply bA_ | apply bN_ | apply bD_)⟩
              ·rw [if_neg c35] at H
               have c35b0 : decide (1 < (l2.length : Int)) = false := decide_eq_false c35
               have c35b1 : decide (1 < l2.length) = false := decide_eq_false (by omega)
               clear c35
               by_cases c36 : 0 < (t1807.length : Int)
               ·rw [if_pos c36] at H
                have c36b0 : decide (0 < (t1807.length : Int)) = true := decide_eq_true c36
                have c36b1 : decide (0 < t1807.length) = true := decide_eq_true (by omega)
                clear c36
                by_cases c37 : 0 < (t1811.length : Int)
                ·rw [if_pos c37] at H
                 have c37b0 : decide (0 < (t1811.length : Int)) = true := decide_eq_true c37
                 have c37b1 : decide (0 < t1811.length) = true := decide_eq_true (by omega)
                 clear c37
                 by_cases c38 : (((rd_T48 t1807 0).f0) == ((rd_T48 t1811 0).f0) && (((rd_T48 t1807 0).f1) == ((rd_T48 t1811 0).f1) && (((rd_T48 t1807 0).f2) == ((rd_T48 t1811 0).f2) && (((rd_T48 t1807 0).f3) == ((rd_T48 t1811 0).f3) && (((rd_T48 t1807 0).f4) == ((rd_T48 t1811 0).f4)))))) = true
                 ·rw [if_pos c38] at H
                  have c38b0 : (((rd_T48 t1807 0).f0) == ((rd_T48 t1811 0).f0) && (((rd_T48 t1807 0).f1) == ((rd_T48 t1811 0).f1) && (((rd_T48 t1807 0).f2) == ((rd_T48 t1811 0).f2) && (((rd_T48 t1807 0).f3) == ((rd_T48 t1811 0).f3) && (((rd_T48 t1807 0).f4) == ((rd_T48 t1811 0).f4)))))) = true := c38
                  (try (have c38b1 : decide (((rd_T48 t1807 0).f0) = ((rd_T48 t1811 0).f0) && (((rd_T48 t1807 0).f1) == ((rd_T48 t1811 0).f1) && (((rd_T48 t1807 0).f2) == ((rd_T48 t1811 0).f2) && (((rd_T48 t1807 0).f3) == ((rd_T48 t1811 0).f3) && (((rd_T48 t1807 0).f4) == ((rd_T48 t1811 0).f4)))))) = true := by simpa using c38))
                  (try (have c38b2 : (((rd_T48 t1807 0).f0) == ((rd_T48 t1811 0).f0) && (((rd_T48 t1807 0).f1) == ((rd_T48 t1811 0).f1) && (((rd_T48 t1807 0).f2) == ((rd_T48 t1811 0).f2) && (((rd_T48 t1807 0).f3) == ((rd_T48 t1811 0).f3) && (((rd_T48 t1807 0).f4) == ((rd_T48 t1811 0).f4)))))) = true := by simpa using c38))
                  clear c38
                  by_cases c39 : 0 < (t1815.length : Int)
                  ·rw [if_pos c39] at H
                   have c39b0 : decide (0 < (t1815.length : Int)) = true := decide_eq_true c39
                   have c39b1 : decide (0 < t1815.length) = true := decide_eq_true (by omega)
                   clear c39
                   obtain rfl := Option.some.inj H
                   have p1847 : 0 ≤ (0 : Int) := (by omega)
                   have q1847 : 0 < (t1807.length : Int) := of_decide_eq_true (by first | (with_reducible assumption) | assumption)
                   obtain ⟨ad1847, e1847, hx1847_0, hx1847_1, hx1847_2, hx1847_3, hx1847_4⟩ := at_T48 (Kd.R_reads' HO_11.out).2.2 0 p1847 q1847
                   cases e1847
                   have qi1847 : (0 < t1807.length) = True := eq_true (by omega)
                   (try rw [show ((0 : Int)).toNat = 0 from rfl] at hx1847_0)
                   (try rw [show 0 * 5 = 0 from rfl] at hx1847_0)
                   (try rw [Addr.add_zero'] at hx1847_0)
                   (try rw [show ((0 : Int)).toNat = 0 from rfl] at hx1847_1)
                   (try rw [show 0 * 5 = 0 from rfl] at hx1847_1)
                   (try rw [Addr.add_zero'] at hx1847_1)
                   (try rw [show ((0 : Int)).toNat = 0 from rfl] at hx1847_2)
                   (try rw [show 0 * 5 = 0 from rfl] at hx1847_2)
                   (try rw [Addr.add_zero'] at hx1847_2)
                   (try rw [show ((0 : Int)).toNat = 0 from rfl] at hx1847_3)
                   (try rw [show 0 * 5 = 0 from rfl] at hx1847_3)
                   (try rw [Addr.add_zero'] at hx1847_3)
                   (try rw [show ((0 : Int)).toNat = 0 from rfl] at hx1847_4)
                   (try rw [show 0 * 5 = 0 from rfl] at hx1847_4)
                   (try rw [Addr.add_zero'] at hx1847_4)
                   replace p1847 := eq_true p1847
                   replace q1847 := eq_true q1847
                   have p1848 : 0 ≤ (0 : Int) := (by omega)
                   have q1848 : 0 < (t1811.length : Int) := of_decide_eq_true (by first | (with_reducible assumption) | assumption)
                   obtain ⟨ad1848, e1848, hx1848_0, hx1848_1, hx1848_2, hx1848_3, hx1848_4⟩ := at_T48 (Kd.R_reads' HO_13.out).2.2 0 p1848 q1848
                   cases e1848
                   have qi1848 : (0 < t1811.length) = True := eq_true (by omega)
                   (try rw [show ((0 : Int)).toNat = 0 from rfl] at hx1848_0)
                   (try rw [show 0 * 5 = 0 from rfl] at hx1848_0)
                   (try rw [Addr.add_zero'] at hx1848_0)
                   (try rw [show ((0 : Int)).toNat = 0 from rfl] at hx1848_1)
                   (try rw [show 0 * 5 = 0 from rfl] at hx1848_1)
                   (try rw [Addr.add_zero'] at hx1848_1)
                   (try rw [show ((0 : Int)).toNat = 0 from rfl] at hx1848_2)
                   (try rw [show 0 * 5 = 0 from rfl] at hx1848_2)
                   (try rw [Addr.add_zero'] at hx1848_2)
                   (try rw [show ((0 : Int)).toNat = 0 from rfl] at hx1848_3)
                   (try rw [show 0 * 5 = 0 from rfl] at hx1848_3)
                   (try rw [Addr.add_zero'] at hx1848_3)
                   (try rw [show ((0 : Int)).toNat = 0 from rfl] at hx1848_4)
                   (try rw [show 0 * 5 = 0 from rfl] at hx1848_4)
                   (try rw [Addr.add_zero'] at hx1848_4)
                   replace p1848 := eq_true p1848
                   replace q1848 := eq_true q1848
                   have p1849 : 0 ≤ (0 : Int) := (by omega)
                   have q1849 : 0 < (t1811.length : Int) := of_decide_eq_true (by first | (with_reducible assumption) | assumption)
                   obtain ⟨ad1849, e1849, hx1849_0, hx1849_1, hx1849_2, hx1849_3, hx1849_4⟩ := at_T48 (Kd.R_reads' HO_13.out).2.2 0 p1849 q1849
                   obtain rfl : ad1848 = ad1849 := (by injection e1849)
                   have qi1849 : (0 < t1811.length) = True := eq_true (by omega)
                   (try rw [show ((0 : Int)).toNat = 0 from rfl] at hx1849_0)
                   (try rw [show 0 * 5 = 0 from rfl] at hx1849_0)
                   (try rw [Addr.add_zero'] at hx1849_0)
                   (try rw [show ((0 : Int)).toNat = 0 from rfl] at hx1849_1)
                   (try rw [show 0 * 5 = 0 from rfl] at hx1849_1)
                   (try rw [Addr.add_zero'] at hx1849_1)
                   (try rw [show ((0 : Int)).toNat = 0 from rfl] at hx1849_2)
                   (try rw [show 0 * 5 = 0 from rfl] at hx1849_2)
                   (try rw [Addr.add_zero'] at hx1849_2)
                   (try rw [show ((0 : Int)).toNat = 0 from rfl] at hx1849_3)
                   (try rw [show 0 * 5 = 0 from rfl] at hx1849_3)
                   (try rw [Addr.add_zero'] at hx1849_3)
                   (try rw [show ((0 : Int)).toNat = 0 from rfl] at hx1849_4)
                   (try rw [show 0 * 5 = 0 from rfl] at hx1849_4)
                   (try rw [Addr.add_zero'] at hx1849_4)
                   replace p1849 := eq_true p1849
                   replace q1849 := eq_true q1849
                   have p1850 : 0 ≤ (0 : Int) := (by omega)
                   have q1850 : 0 < (t1815.length : Int) := of_decide_eq_true (by first | (with_reducible assumption) | assumption)
                   obtain ⟨ad1850, e1850, hx1850_0, hx1850_1, hx1850_2, hx1850_3, hx1850_4⟩ := at_T48 (Kd.R_reads' HO_15.out).2.2 0 p1850 q1850
                   cases e1850
                   have qi1850 : (0 < t1815.length) = True := eq_true (by omega)
                   (try rw [show ((0 : Int)).toNat = 0 from rfl] at hx1850_0)
                   (try rw [show 0 * 5 = 0 from rfl] at hx1850_0)
                   (try rw [Addr.add_zero'] at hx1850_0)
                   (try rw [show ((0 : Int)).toNat = 0 from rfl] at hx1850_1)
                   (try rw [show 0 * 5 = 0 from rfl] at hx1850_1)
                   (try rw [Addr.add_zero'] at hx1850_1)
                   (try rw [show ((0 : Int)).toNat = 0 from rfl] at hx1850_2)
                   (try rw [show 0 * 5 = 0 from rfl] at hx1850_2)
                   (try rw [Addr.add_zero'] at hx1850_2)
                   (try rw [show ((0 : Int)).toNat = 0 from rfl] at hx1850_3)
                   (try rw [show 0 * 5 = 0 from rfl] at hx1850_3)
                   (try rw [Addr.add_zero'] at hx1850_3)
                   (try rw [show ((0 : Int)).toNat = 0 from rfl] at hx1850_4)
                   (try rw [show 0 * 5 = 0 from rfl] at hx1850_4)
                   (try rw [Addr.add_zero'] at hx1850_4)
                   replace p1850 := eq_true p1850
                   replace q1850 := eq_true q1850
                   go_wp2
                   repeat (go_quiet (fail); try go_wp2)
                   go_ret
                   exact ⟨by rfl, by repeat (with_reducible first | exact HB.out | apply bA_ | apply bN_ | apply bD_)⟩
                  ·rw [if_neg c39] at H
                   exact absurd H (by simp)
                 ·rw [if_neg c38] at H
                  exact absurd H (by simp)
                ·rw [if_neg c37] at H
                 exact absurd H (by simp)
               ·rw [if_neg c36] at H
                exact absurd H (by simp)
             ·replace c34 := Bool.eq_false_iff.mpr c34
              subst c34
              rw [if_neg (show ¬ (false = true) by decide)] at H
              exact absurd H (by simp)
         ·rw [if_neg c20] at H
          exact absurd H (by simp)
        ·rw [if_neg c19] at H
         exact absurd H (by simp)
       ·rw [if_neg c18] at H
        exact absurd H (by simp)
      ·rw [if_neg c17] at H
       exact absurd H (by simp)
     ·rw [if_neg c16] at H
      exact absurd H (by simp)
    ·rw [if_neg c15] at H
     exact absurd H (by simp)

end Go.Proofs.Yteikafepdkijdaa.X
