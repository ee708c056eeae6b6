-- cut by prune.py, a program of this session
import Derived.Test.YteikafepdkijdaaPTableAddsX0
import Derived.Test.YteikafepdkijdaaPTableAddsXEq
import Derived.Test.YteikafepdkijdaaPTableAddsXFew
import Derived.Test.YteikafepdkijdaaPTableAddsXShownT
import Derived.Test.YteikafepdkijdaaPTableAddsHSums
namespace Go.Proofs.Yteikafepdkijdaa.X
open Go.RowKit Go.Proofs.YteikafepdkijdaaW.PrintWords Go.Proofs.YteikafepdkijdaaW.PrintLast Go.Proofs.YteikafepdkijdaaW.PrintMore
attribute [local go_sem] max2_int min2_int max_two min_two
set_option linter.unusedVariables false
set_option linter.unusedSimpArgs false

attribute [local go_sem high] eqA48
def demurragelaw21_TableAdds.j0 : Nat → List (S48) → List (S48) → Bool → Bool → Option (Bool)
 | 0, _, _, _, _ => none
 | k + 1, x0, x1, x5, x42 => if x42 = true then (some x5) else ((table_Sums.f k x0).bind fun bt1998 => ((table_Sums.f k x1).bind fun bt2005 => ((some (([] : List (S48)) : List (S48))).bind fun y2012 => (if y2012.length + x0.length < 3518437208883 then ((some (y2012 ++ x0 : List (S48))).bind fun y2015 => (if y2015.length + x1.length < 3518437208883 then ((table_Sums.f k (y2015 ++ x1)).bind fun bt2021 => ((some (([] : List (S48)) : List (S48))).bind fun y2028 => (if y2028.length + x1.length < 3518437208883 then ((some (y2028 ++ x1 : List (S48))).bind fun y2031 => (if y2031.length + x0.length < 3518437208883 then ((table_Sums.f k (y2031 ++ x0)).bind fun bt2037 => (if bt1998.2.2.2.2.2 = 0 then (if bt2005.2.2.2.2.2 = 0 then (if bt2021.2.2.2.2.2 = 0 then (if bt2037.2.2.2.2.2 = 0 then (if x5 = true then (if (bt2021.1 == bt1998.1 && (bt2021.2.1 == (wrap64 (bt1998.2.1 + bt2005.2.1)) && (bt2021.2.2.1 == (wrap64 (bt1998.2.2.1 + bt2005.2.2.1)) && (bt2021.2.2.2.1 == (wrap64 (bt1998.2.2.2.1 + bt2005.2.2.2.1)) && (bt2021.2.2.2.2.1 == bt2005.2.2.2.2.1))))) = true then (some (bt2037.1 == bt2005.1 && (bt2037.2.1 == bt2021.2.1 && (bt2037.2.2.1 == bt2021.2.2.1 && (bt2037.2.2.2.1 == bt2021.2.2.2.1 && (bt2037.2.2.2.2.1 == bt1998.2.2.2.2.1)))))) else (none)) else (none)) else (none)) else (none)) else (none)) else (none))) else (none))) else (none)))) else (none))) else (none)))))
def demurragelaw21_TableAdds.f (k : Nat) (l0 : List (S48)) (l1 : List (S48)) : Option (Bool) := (demurragelaw21_shown.f k).bind fun t1857 => (if (l0.length : Int) < 1 then (demurragelaw21_TableAdds.j0 k l0 l1 t1857 true) else (if (l1.length : Int) < 1 then (demurragelaw21_TableAdds.j0 k l0 l1 t1857 true) else (if (l0.length : Int) > 20 then (demurragelaw21_TableAdds.j0 k l0 l1 t1857 true) else (if (l1.length : Int) > 20 then (demurragelaw21_TableAdds.j0 k l0 l1 t1857 true) else ((demurragelaw21_few.f k l0).bind fun t1858 => (if t1858 = true then ((demurragelaw21_few.f k l1).bind fun t1859 => (demurragelaw21_TableAdds.j0 k l0 l1 t1857 (!t1859))) else (demurragelaw21_TableAdds.j0 k l0 l1 t1857 true)))))))
set_option maxHeartbeats 8000000 in
set_option maxRecDepth 100000 in
theorem demurragelaw21_TableAdds.calls (k : Nat) (A0 : Option Addr) (c0 : Nat) (l0 : List (S48)) (A1 : Option Addr) (c1 : Nat) (l1 : List (S48)) (r : Bool) (w : World) (hr0 : Kd.C k48 w A0 l0.length l0) (hc0 : l0.length ≤ c0) (hr1 : Kd.C k48 w A1 l1.length l1) (hc1 : l1.length ≤ c1) (h : demurragelaw21_TableAdds.f k l0 l1 = some r) :
  Calls Try.prog 13 #[.slice A0 l0.length c0, .slice A1 l1.length c1] w fun e w' => e = .returned (.bool r) ∧ Below w.heap.size w w' := by
 have hu48 := Try.underlying48
 have HR0 := aA_ hr0
 have HC0 := aA_ hc0
 clear hr0 hc0
 have HR1 := aA_ hr1
 have HC1 := aA_ hc1
 clear hr1 hc1
 have HB := aA_ (Below.refl w.heap.size w)
 have H : ((demurragelaw21_shown.f k).bind fun t1857 => (if (l0.length : Int) < 1 then (demurragelaw21_TableAdds.j0 k l0 l1 t1857 true) else (if (l1.length : Int) < 1 then (demurragelaw21_TableAdds.j0 k l0 l1 t1857 true) else (if (l0.length : Int) > 20 then (demurragelaw21_TableAdds.j0 k l0 l1 t1857 true) else (if (l1.length : Int) > 20 then (demurragelaw21_TableAdds.j0 k l0 l1 t1857 true) else ((demurragelaw21_few.f k l0).bind fun t1858 => (if t1858 = true then ((demurragelaw21_few.f k l1).bind fun t1859 => (demurragelaw21_TableAdds.j0 k l0 l1 t1857 (!t1859))) else (demurragelaw21_TableAdds.j0 k l0 l1 t1857 true)))))))) = some r := h
 clear h
 replace H := bI_ H
 obtain ⟨t1857, A30, H⟩ := H
 (try dsimp only at H)
 have A3 := aA_ A30
 clear A30
 have HC4 := aA_ H
 clear H
 go_enter Try.func13, Try.ntmps13
 go_upto_region 2 with (first | (refine goesL_ (some 14) rfl rfl Try.func27 (by kernel_rfl) rfl #[] rfl (by (try simp only [mT_, mC_, mN_]); first | done | rfl) ?_; (with_reducible refine (demurragelaw21_shown.calls k  t1857 _ A3.out).mono ?_); rintro e w5 ⟨rfl, hb⟩; refine ⟨_, rfl, ?_⟩; replace HB := bB_ (by repeat (with_reducible first | exact HB.out | apply bA_ | apply bN_ | apply bD_)) hb; (try clear hb)))
 (try simp only [Act.put, sT_, sZ_, sS_])
 go_cut [42] (fun v42 wc => ∃ (kq : Nat) (x42_3 : Bool), v42 = .bool x42_3 ∧ Aside0 (demurragelaw21_TableAdds.j0 kq l0 l1 t1857 x42_3 = some r) ∧ Aside0 (kq ≤ k) ∧ Aside0 (Below w.heap.size w wc))
 case first =>
  have H := HC4.out
  clear HC4
  by_cases c6 : (l0.length : Int) < 1
  ·rw [if_pos c6] at H
   have c6b0 : decide ((l0.length : Int) < 1) = true := decide_eq_true c6
   have c6b1 : decide (l0.length < 1) = true := decide_eq_true (by omega)
   clear c6
   (first | rw [c6b0] | (simp only [i64_w, i32_w]; rw [c6b0]) | rw [c6b1] | skip)
   have H' := aA_ H
   clear H
   go_wp2
   go_meet
   case rel => exact ⟨_, _, (by first | rfl | simp | simp [*]), H', ⟨by first | omega | exact Nat.le_refl _⟩, ⟨by repeat (with_reducible first | exact HB.out | apply bA_ | apply bN_ | apply bD_)⟩⟩
  ·rw [if_neg c6] at H
   have c6b0 : decide ((l0.length : Int) < 1) = false := decide_eq_false c6
   have c6b1 : decide (l0.length < 1) = false := decide_eq_false (by omega)
   clear c6
   (first | rw [c6b0] | (simp only [i64_w, i32_w]; rw [c6b0]) | rw [c6b1] | skip)
   by_cases c7 : (l1.length : Int) < 1
   ·rw [if_pos c7] at H
    have c7b0 : decide ((l1.length : Int) < 1) = true := decide_eq_true c7
    have c7b1 : decide (l1.length < 1) = true := decide_eq_true (by omega)
    clear c7
    have H' := aA_ H
    clear H
    go_wp2
    go_meet
    case rel => exact ⟨_, _, (by first | rfl | simp | simp [*]), H', ⟨by first | omega | exact Nat.le_refl _⟩, ⟨by repeat (with_reducible first | exact HB.out | apply bA_ | apply bN_ | apply bD_)⟩⟩
   ·rw [if_neg c7] at H
    have c7b0 : decide ((l1.length : Int) < 1) = false := decide_eq_false c7
    have c7b1 : decide (l1.length < 1) = false := decide_eq_false (by omega)
    clear c7
    by_cases c8 : (l0.length : Int) > 20
    ·rw [if_pos c8] at H
     have c8b0 : decide (20 < (l0.length : Int)) = true := decide_eq_true c8
     have c8b1 : decide (20 < l0.length) = true := decide_eq_true (by omega)
     clear c8
     have H' := aA_ H
     clear H
     go_wp2
     go_meet
     case rel => exact ⟨_, _, (by first | rfl | simp | simp [*]), H', ⟨by first | omega | exact Nat.le_refl _⟩, ⟨by repeat (with_reducible first | exact HB.out | apply bA_ | apply bN_ | apply bD_)⟩⟩
    ·rw [if_neg c8] at H
     have c8b0 : decide (20 < (l0.length : Int)) = false := decide_eq_false c8
     have c8b1 : decide (20 < l0.length) = false := decide_eq_false (by omega)
     clear c8
     by_cases c9 : (l1.length : Int) > 20
     ·rw [if_pos c9] at H
      have c9b0 : decide (20 < (l1.length : Int)) = true := decide_eq_true c9
      have c9b1 : decide (20 < l1.length) = true := decide_eq_true (by omega)
      clear c9
      have H' := aA_ H
      clear H
      go_wp2
      go_meet
      case rel => exact ⟨_, _, (by first | rfl | simp | simp [*]), H', ⟨by first | omega | exact Nat.le_refl _⟩, ⟨by repeat (with_reducible first | exact HB.out | apply bA_ | apply bN_ | apply bD_)⟩⟩
     ·rw [if_neg c9] at H
      have c9b0 : decide (20 < (l1.length : Int)) = false := decide_eq_false c9
      have c9b1 : decide (20 < l1.length) = false := decide_eq_false (by omega)
      clear c9
      replace H := bI_ H
      obtain ⟨t1858, A100, H⟩ := H
      (try dsimp only at H)
      have A10 := aA_ A100
      clear A100
      by_cases c11 : t1858 = true
      ·subst c11
       rw [if_pos rfl] at H
       replace H := bI_ H
       obtain ⟨t1859, A120, H⟩ := H
       (try dsimp only at H)
       have A12 := aA_ A120
       clear A120
       have H' := aA_ H
       clear H
       go_wp2_with (first | (go_at_call 32; (with_reducible refine (demurragelaw21_few.calls k _ _ l0 true _ ?side1 ?side2 A10.out).mono ?_); (case side1 => repeat (first | exact (Kd.C_below HR0.out HB.out) | (with_reducible first | refine Kd.C_alloc ?_ _ | refine Kd.C_drewN ?_ _ | refine Kd.C_drew ?_))); (case side2 => exact HC0.out); rintro e w' ⟨rfl, ⟨nd, rfl⟩⟩) | (go_at_call 32; (with_reducible refine (demurragelaw21_few.calls k _ _ l1 t1859 _ ?side1 ?side2 A12.out).mono ?_); (case side1 => repeat (first | exact (Kd.C_below HR1.out (by repeat (with_reducible first | exact HB.out | apply bA_ | apply bN_ | apply bD_))) | (with_reducible first | refine Kd.C_alloc ?_ _ | refine Kd.C_drewN ?_ _ | refine Kd.C_drew ?_))); (case side2 => exact HC1.out); rintro e w' ⟨rfl, ⟨nd, rfl⟩⟩))
       go_meet
       case rel => exact ⟨_, _, (by first | rfl | simp | simp [*]), H', ⟨by first | omega | exact Nat.le_refl _⟩, ⟨by repeat (with_reducible first | exact HB.out | apply bA_ | apply bN_ | apply bD_)⟩⟩
      ·replace c11 := Bool.eq_false_iff.mpr c11
       subst c11
       rw [if_neg (show ¬ (false = true) by decide)] at H
       have H' := aA_ H
       clear H
       go_wp2_with (first | (go_at_call 32; (with_reducible refine (demurragelaw21_few.calls k _ _ l0 false _ ?side1 ?side2 A10.out).mono ?_); (case side1 => repeat (first | exact (Kd.C_below HR0.out HB.out) | (with_reducible first | refine Kd.C_alloc ?_ _ | refine Kd.C_drewN ?_ _ | refine Kd.C_drew ?_))); (case side2 => exact HC0.out); rintro e w' ⟨rfl, ⟨nd, rfl⟩⟩))
       go_meet
       case rel => exact ⟨_, _, (by first | rfl | simp | simp [*]), H', ⟨by first | omega | exact Nat.le_refl _⟩, ⟨by repeat (with_reducible first | exact HB.out | apply bA_ | apply bN_ | apply bD_)⟩⟩
 case rest =>
  clear HC4
  try clear c1
  try clear c2
  try clear p2
  try clear c6
  try clear c6b0
  try clear c6b1
  try clear c7
  try clear c7b0
  try clear c7b1
  try clear c8
  try clear c8b0
  try clear c8b1
  try clear c9
  try clear c9b0
  try clear c9b1
  try clear c11
  obtain ⟨kq, x42_3, rfl, HA, HJ3, HB⟩ := hcut
  cases kq with
  | zero => exact absurd HA.out (by simp [demurragelaw21_TableAdds.j0])
  | succ kj3 =>
   have H := HA.out
   clear HA
   simp only [demurragelaw21_TableAdds.j0] at H
   by_cases c13 : x42_3 = true
   ·subst c13
    rw [if_pos rfl] at H
    obtain rfl := Option.some.inj H
    go_wp2
    go_ret
    exact ⟨by rfl, by repeat (with_reducible first | exact HB.out | apply bA_ | apply bN_ | apply bD_)⟩
   ·replace c13 := Bool.eq_false_iff.mpr c13
    subst c13
    rw [if_neg (show ¬ (false = true) by decide)] at H
    replace H := bI_ H
    obtain ⟨⟨t1998, t1999, t2000, t2001, t2002, t2003⟩, A140, H⟩ := H
    (try dsimp only at H)
    have A14 := aA_ A140
    clear A140
    replace H := bI_ H
    obtain ⟨⟨t2005, t2006, t2007, t2008, t2009, t2010⟩, A150, H⟩ := H
    (try dsimp only at H)
    have A15 := aA_ A150
    clear A150
    obtain ⟨y2012, hy2012⟩ : ∃ y_ : List (S48), y_ = (([] : List (S48))) := ⟨_, rfl⟩
    replace H : (if y2012.length + l0.length < 3518437208883 then ((some (y2012 ++ l0 : List (S48))).bind fun y2015 => (if y2015.length + l1.length < 3518437208883 then ((table_Sums.f kj3 (y2015 ++ l1)).bind fun bt2021 => ((some (([] : List (S48)) : List (S48))).bind fun y2028 => (if y2028.length + l1.length < 3518437208883 then ((some (y2028 ++ l1 : List (S48))).bind fun y2031 => (if y2031.length + l0.length < 3518437208883 then ((table_Sums.f kj3 (y2031 ++ l0)).bind fun bt2037 => (if t2003 = 0 then (if t2010 = 0 then (if bt2021.2.2.2.2.2 = 0 then (if bt2037.2.2.2.2.2 = 0 then (if t1857 = true then (if (bt2021.1 == t1998 && (bt2021.2.1 == (wrap64 (t1999 + t2006)) && (bt2021.2.2.1 == (wrap64 (t2000 + t2007)) && (bt2021.2.2.2.1 == (wrap64 (t2001 + t2008)) && (bt2021.2.2.2.2.1 == t2009))))) = true then (some (bt2037.1 == t2005 && (bt2037.2.1 == bt2021.2.1 && (bt2037.2.2.1 == bt2021.2.2.1 && (bt2037.2.2.2.1 == bt2021.2.2.2.1 && (bt2037.2.2.2.2.1 == t2002)))))) else (none)) else (none)) else (none)) else (none)) else (none)) else (none))) else (none))) else (none)))) else (none))) else (none)) = some r := by first | (rw [hy2012]; with_reducible exact H) | (have H2_ := (Option.bind_some _ _).symm.trans H; rw [hy2012]; with_reducible exact H2_) | (have H2_ := (Option.bind_some _ _).symm.trans H; with_reducible exact H2_) | with_reducible exact H | (rw [hy2012]; exact H) | exact H
    have Ny2012 := aA_ hy2012
    clear hy2012
    by_cases c16 : y2012.length + l0.length < 3518437208883
    ·rw [if_pos c16] at H
     have LMc16 := aA_ c16
     clear c16
     obtain ⟨y2015, hy2015⟩ : ∃ y_ : List (S48), y_ = (y2012 ++ l0) := ⟨_, rfl⟩
     replace H : (if y2015.length + l1.length < 3518437208883 then ((table_Sums.f kj3 (y2015 ++ l1)).bind fun bt2021 => ((some (([] : List (S48)) : List (S48))).bind fun y2028 => (if y2028.length + l1.length < 3518437208883 then ((some (y2028 ++ l1 : List (S48))).bind fun y2031 => (if y2031.length + l0.length < 3518437208883 then ((table_Sums.f kj3 (y2031 ++ l0)).bind fun bt2037 => (if t2003 = 0 then (if t2010 = 0 then (if bt2021.2.2.2.2.2 = 0 then (if bt2037.2.2.2.2.2 = 0 then (if t1857 = true then (if (bt2021.1 == t1998 && (bt2021.2.1 == (wrap64 (t1999 + t2006)) && (bt2021.2.2.1 == (wrap64 (t2000 + t2007)) && (bt2021.2.2.2.1 == (wrap64 (t2001 + t2008)) && (bt2021.2.2.2.2.1 == t2009))))) = true then (some (bt2037.1 == t2005 && (bt2037.2.1 == bt2021.2.1 && (bt2037.2.2.1 == bt2021.2.2.1 && (bt2037.2.2.2.1 == bt2021.2.2.2.1 && (bt2037.2.2.2.2.1 == t2002)))))) else (none)) else (none)) else (none)) else (none)) else (none)) else (none))) else (none))) else (none)))) else (none)) = some r := by first | (rw [hy2015]; with_reducible exact H) | (have H2_ := (Option.bind_some _ _).symm.trans H; rw [hy2015]; with_reducible exact H2_) | (have H2_ := (Option.bind_some _ _).symm.trans H; with_reducible exact H2_) | with_reducible exact H | (rw [hy2015]; exact H) | exact H
     have Ny2015 := aA_ hy2015
     clear hy2015
     by_cases c17 : y2015.length + l1.length < 3518437208883
     ·rw [if_pos c17] at H
      have LMc17 := aA_ c17
      clear c17
      obtain ⟨y2018, hy2018⟩ : ∃ y_ : List (S48), y_ = (y2015 ++ l1) := ⟨_, rfl⟩
      replace H : ((table_Sums.f kj3 y2018).bind fun bt2021 => ((some (([] : List (S48)) : List (S48))).bind fun y2028 => (if y2028.length + l1.length < 3518437208883 then ((some (y2028 ++ l1 : List (S48))).bind fun y2031 => (if y2031.length + l0.length < 3518437208883 then ((table_Sums.f kj3 (y2031 ++ l0)).bind fun bt2037 => (if t2003 = 0 then (if t2010 = 0 then (if bt2021.2.2.2.2.2 = 0 then (if bt2037.2.2.2.2.2 = 0 then (if t1857 = true then (if (bt2021.1 == t1998 && (bt2021.2.1 == (wrap64 (t1999 + t2006)) && (bt2021.2.2.1 == (wrap64 (t2000 + t2007)) && (bt2021.2.2.2.1 == (wrap64 (t2001 + t2008)) && (bt2021.2.2.2.2.1 == t2009))))) = true then (some (bt2037.1 == t2005 && (bt2037.2.1 == bt2021.2.1 && (bt2037.2.2.1 == bt2021.2.2.1 && (bt2037.2.2.2.1 == bt2021.2.2.2.1 && (bt2037.2.2.2.2.1 == t2002)))))) else (none)) else (none)) else (none)) else (none)) else (none)) else (none))) else (none))) else (none)))) = some r := by first | (rw [hy2018]; with_reducible exact H) | (have H2_ := (Option.bind_some _ _).symm.trans H; rw [hy2018]; with_reducible exact H2_) | (have H2_ := (Option.bind_some _ _).symm.trans H; with_reducible exact H2_) | with_reducible exact H | (rw [hy2018]; exact H) | exact H
      have Ny2018 := aA_ hy2018
      clear hy2018
      replace H := bI_ H
      obtain ⟨⟨t2021, t2022, t2023, t2024, t2025, t2026⟩, A180, H⟩ := H
      (try dsimp only at H)
      have A18 := aA_ A180
      clear A180
      obtain ⟨y2028, hy2028⟩ : ∃ y_ : List (S48), y_ = (([] : List (S48))) := ⟨_, rfl⟩
      replace H : (if y2028.length + l1.length < 3518437208883 then ((some (y2028 ++ l1 : List (S48))).bind fun y2031 => (if y2031.length + l0.length < 3518437208883 then ((table_Sums.f kj3 (y2031 ++ l0)).bind fun bt2037 => (if t2003 = 0 then (if t2010 = 0 then (if t2026 = 0 then (if bt2037.2.2.2.2.2 = 0 then (if t1857 = true then (if (t2021 == t1998 && (t2022 == (wrap64 (t1999 + t2006)) && (t2023 == (wrap64 (t2000 + t2007)) && (t2024 == (wrap64 (t2001 + t2008)) && (t2025 == t2009))))) = true then (some (bt2037.1 == t2005 && (bt2037.2.1 == t2022 && (bt2037.2.2.1 == t2023 && (bt2037.2.2.2.1 == t2024 && (bt2037.2.2.2.2.1 == t2002)))))) else (none)) else (none)) else (none)) else (none)) else (none)) else (none))) else (none))) else (none)) = some r := by first | (rw [hy2028]; with_reducible exact H) | (have H2_ := (Option.bind_some _ _).symm.trans H; rw [hy2028]; with_reducible exact H2_) | (have H2_ := (Option.bind_some _ _).symm.trans H; with_reducible exact H2_) | with_reducible exact H | (rw [hy2028]; exact H) | exact H
      have Ny2028 := aA_ hy2028
      clear hy2028
      by_cases c19 : y2028.length + l1.length < 3518437208883
      ·rw [if_pos c19] at H
       have LMc19 := aA_ c19
       clear c19
       obtain ⟨y2031, hy2031⟩ : ∃ y_ : List (S48), y_ = (y2028 ++ l1) := ⟨_, rfl⟩
       replace H : (if y2031.length + l0.length < 3518437208883 then ((table_Sums.f kj3 (y2031 ++ l0)).bind fun bt2037 => (if t2003 = 0 then (if t2010 = 0 then (if t2026 = 0 then (if bt2037.2.2.2.2.2 = 0 then (if t1857 = true then (if (t2021 == t1998 && (t2022 == (wrap64 (t1999 + t2006)) && (t2023 == (wrap64 (t2000 + t2007)) && (t2024 == (wrap64 (t2001 + t2008)) && (t2025 == t2009))))) = true then (some (bt2037.1 == t2005 && (bt2037.2.1 == t2022 && (bt2037.2.2.1 == t2023 && (bt2037.2.2.2.1 == t2024 && (bt2037.2.2.2.2.1 == t2002)))))) else (none)) else (none)) else (none)) else (none)) else (none)) else (none))) else (none)) = some r := by first | (rw [hy2031]; with_reducible exact H) | (have H2_ := (Option.bind_some _ _).symm.trans H; rw [hy2031]; with_reducible exact H2_) | (have H2_ := (Option.bind_some _ _).symm.trans H; with_reducible exact H2_) | with_reducible exact H | (rw [hy2031]; exact H) | exact H
       have Ny2031 := aA_ hy2031
       clear hy2031
       by_cases c20 : y2031.length + l0.length < 3518437208883
       ·rw [if_pos c20] at H
        have LMc20 := aA_ c20
        clear c20
        obtain ⟨y2034, hy2034⟩ : ∃ y_ : List (S48), y_ = (y2031 ++ l0) := ⟨_, rfl⟩
        replace H : ((table_Sums.f kj3 y2034).bind fun bt2037 => (if t2003 = 0 then (if t2010 = 0 then (if t2026 = 0 then (if bt2037.2.2.2.2.2 = 0 then (if t1857 = true then (if (t2021 == t1998 && (t2022 == (wrap64 (t1999 + t2006)) && (t2023 == (wrap64 (t2000 + t2007)) && (t2024 == (wrap64 (t2001 + t2008)) && (t2025 == t2009))))) = true then (some (bt2037.1 == t2005 && (bt2037.2.1 == t2022 && (bt2037.2.2.1 == t2023 && (bt2037.2.2.2.1 == t2024 && (bt2037.2.2.2.2.1 == t2002)))))) else (none)) else (none)) else (none)) else (none)) else (none)) else (none))) = some r := by first | (rw [hy2034]; with_reducible exact H) | (have H2_ := (Option.bind_some _ _).symm.trans H; rw [hy2034]; with_reducible exact H2_) | (have H2_ := (Option.bind_some _ _).symm.trans H; with_reducible exact H2_) | with_reducible exact H | (rw [hy2034]; exact H) | exact H
        have Ny2034 := aA_ hy2034
        clear hy2034
        replace H := bI_ H
        obtain ⟨⟨t2037, t2038, t2039, t2040, t2041, t2042⟩, A210, H⟩ := H
        (try dsimp only at H)
        have A21 := aA_ A210
        clear A210
        by_cases c22 : t2003 = 0
        ·rw [if_pos c22] at H
         have c22b0 : (t2003 == 0) = true := beq_iff_eq.mpr c22
         have c22b1 : (t2003 != 0) = false := bne_eq_false_iff_eq.mpr c22
         clear c22
         by_cases c23 : t2010 = 0
         ·rw [if_pos c23] at H
          have c23b0 : (t2010 == 0) = true := beq_iff_eq.mpr c23
          have c23b1 : (t2010 != 0) = false := bne_eq_false_iff_eq.mpr c23
          clear c23
          by_cases c24 : t2026 = 0
          ·rw [if_pos c24] at H
           have c24b0 : (t2026 == 0) = true := beq_iff_eq.mpr c24
           have c24b1 : (t2026 != 0) = false := bne_eq_false_iff_eq.mpr c24
           clear c24
           by_cases c25 : t2042 = 0
           ·rw [if_pos c25] at H
            have c25b0 : (t2042 == 0) = true := beq_iff_eq.mpr c25
            have c25b1 : (t2042 != 0) = false := bne_eq_false_iff_eq.mpr c25
            clear c25
            by_cases c26 : t1857 = true
            ·subst c26
             rw [if_pos rfl] at H
             by_cases c27 : (t2021 == t1998 && (t2022 == (wrap64 (t1999 + t2006)) && (t2023 == (wrap64 (t2000 + t2007)) && (t2024 == (wrap64 (t2001 + t2008)) && (t2025 == t2009))))) = true
             ·rw [if_pos c27] at H
              have c27b0 : (t2021 == t1998 && (t2022 == (wrap64 (t1999 + t2006)) && (t2023 == (wrap64 (t2000 + t2007)) && (t2024 == (wrap64 (t2001 + t2008)) && (t2025 == t2009))))) = true := c27
              (try (have c27b1 : decide (t2021 = t1998 && (t2022 == (wrap64 (t1999 + t2006)) && (t2023 == (wrap64 (t2000 + t2007)) && (t2024 == (wrap64 (t2001 + t2008)) && (t2025 == t2009))))) = true := by simpa using c27))
              (try (have c27b2 : (t2021 == t1998 && (t2022 == (wrap64 (t1999 + t2006)) && (t2023 == (wrap64 (t2000 + t2007)) && (t2024 == (wrap64 (t2001 + t2008)) && (t2025 == t2009))))) = true := by simpa using c27))
              clear c27
              obtain rfl := Option.some.inj H
              go_wp2_with (first | (refine goesL_ (some 46) rfl rfl Try.func30 (by kernel_rfl) rfl #[.slice A0 l0.length c0] rfl (by (try simp only [mT_, mC_, mN_]); first | done | rfl) ?_; (with_reducible refine (table_Sums.calls kj3 _ _ l0 t1998 t1999 t2000 t2001 t2002 t2003 _ ?side1 ?side2 A14.out).mono ?_); (case side1 => repeat (first | exact (Kd.C_below HR0.out HB.out) | (with_reducible first | refine Kd.C_alloc ?_ _ | refine Kd.C_drewN ?_ _ | refine Kd.C_drew ?_))); (case side2 => exact HC0.out); rintro e w28 ⟨rfl, hb⟩; refine ⟨_, rfl, ?_⟩; replace HB := bB_ (by repeat (with_reducible first | exact HB.out | apply bA_ | apply bN_ | apply bD_)) hb; (try clear hb)) | ((with_reducible refine gate_dst (N := 6) rfl ?_); (try (refine gate_guard (by rfl) ?_; dsimp only)); refine box_event rfl (N := 6) rfl (cs := #[.int .i64 0, .int .i64 0, .int .i64 0, .int .i64 0, .int .i64 0]) (t := 48) ?hr ?_; (case hr => go_simp <;> rfl); intro gb2004 hg w29 hbox hb; have BK2004 := aA_ (hbox); have GW2004 := gW_ hg (by repeat (with_reducible first | exact HB.out | apply bA_ | apply bN_ | apply bD_)); have GE2004 := GW2004; replace HB := bB_ (by repeat (with_reducible first | exact HB.out | apply bA_ | apply bN_ | apply bD_)) hb; clear hb hbox hg; have hcz30_0 : w29.cell? ⟨gb2004, 0, none⟩ = some (.int .i64 0) := (blk_cell BK2004.out 0).trans rfl; have hcz30_1 : w29.cell? ⟨gb2004, 1, none⟩ = some (.int .i64 0) := (blk_cell BK2004.out 1).trans rfl; have hcz30_2 : w29.cell? ⟨gb2004, 2, none⟩ = some (.int .i64 0) := (blk_cell BK2004.out 2).trans rfl; have hcz30_3 : w29.cell? ⟨gb2004, 3, none⟩ = some (.int .i64 0) := (blk_cell BK2004.out 3).trans rfl; have hcz30_4 : w29.cell? ⟨gb2004, 4, none⟩ = some (.int .i64 0) := (blk_cell BK2004.out 4).trans rfl; have hfz30_0 := blk_frozen BK2004.out 0; have hfz30_1 := blk_frozen BK2004.out 1; have hfz30_2 := blk_frozen BK2004.out 2; have hfz30_3 := blk_frozen BK2004.out 3; have hfz30_4 := blk_frozen BK2004.out 4) | (refine goesL_ (some 51) rfl rfl Try.func30 (by kernel_rfl) rfl #[.slice A1 l1.length c1] rfl (by (try simp only [mT_, mC_, mN_]); first | done | rfl) ?_; (with_reducible refine (table_Sums.calls kj3 _ _ l1 t2005 t2006 t2007 t2008 t2009 t2010 _ ?side1 ?side2 A15.out).mono ?_); (case side1 => exact Kd.C_below HR1.out (by repeat (with_reducible first | exact HB.out | apply bA_ | apply bN_ | apply bD_ | refine bS_ ?_ GE2004.out))); (case side2 => exact HC1.out); rintro e w31 ⟨rfl, hb⟩; refine ⟨_, rfl, ?_⟩; replace BK2004 := aA_ (blk_below (g := gb2004) (o := .cells #[.int .i64 t1998, .int .i64 t1999, .int .i64 t2000, .int .i64 t2001, .int .i64 t2002] 48 (0, 0)) (by refine blk_put (cs := #[.int .i64 t1998, .int .i64 t1999, .int .i64 t2000, .int .i64 t2001, .int .i64 0]) ?_ 4 _ rfl; refine blk_put (cs := #[.int .i64 t1998, .int .i64 t1999, .int .i64 t2000, .int .i64 0, .int .i64 0]) ?_ 3 _ rfl; refine blk_put (cs := #[.int .i64 t1998, .int .i64 t1999, .int .i64 0, .int .i64 0, .int .i64 0]) ?_ 2 _ rfl; refine blk_put (cs := #[.int .i64 t1998, .int .i64 0, .int .i64 0, .int .i64 0, .int .i64 0]) ?_ 1 _ rfl; refine blk_put (cs := #[.int .i64 0, .int .i64 0, .int .i64 0, .int .i64 0, .int .i64 0]) ?_ 0 _ rfl; exact BK2004.out) hb); replace HB := bB_ (by repeat (with_reducible first | exact HB.out | apply bA_ | apply bN_ | apply bD_ | refine bS_ ?_ GE2004.out)) hb; (try clear hb)) | ((with_reducible refine gate_dst (N := 8) rfl ?_); (try (refine gate_guard (by rfl) ?_; dsimp only)); refine box_event rfl (N := 8) rfl (cs := #[.int .i64 0, .int .i64 0, .int .i64 0, .int .i64 0, .int .i64 0]) (t := 48) ?hr ?_; (case hr => go_simp <;> rfl); intro gb2011 hg w32 hbox hb; have BK2011 := aA_ (hbox); have GW2011 := gW_ hg (by repeat (with_reducible first | exact HB.out | apply bA_ | apply bN_ | apply bD_ | refine bS_ ?_ GE2004.out)); have GE2011 := GW2011; replace HB := bB_ (by repeat (with_reducible first | exact HB.out | apply bA_ | apply bN_ | apply bD_ | refine bS_ ?_ GE2004.out)) hb; have NB2004_2011 := nE_ hg BK2004; have NB2011_2004 := aA_ NB2004_2011.out.symm; replace BK2004 := bK_ BK2004 hb; clear hb hbox hg; have hnb33 := NB2011_2004.out; have hnc33 := NB2004_2011.out; have hcz34_0 : w32.cell? ⟨gb2011, 0, none⟩ = some (.int .i64 0) := (blk_cell BK2011.out 0).trans rfl; have hcz34_1 : w32.cell? ⟨gb2011, 1, none⟩ = some (.int .i64 0) := (blk_cell BK2011.out 1).trans rfl; have hcz34_2 : w32.cell? ⟨gb2011, 2, none⟩ = some (.int .i64 0) := (blk_cell BK2011.out 2).trans rfl; have hcz34_3 : w32.cell? ⟨gb2011, 3, none⟩ = some (.int .i64 0) := (blk_cell BK2011.out 3).trans rfl; have hcz34_4 : w32.cell? ⟨gb2011, 4, none⟩ = some (.int .i64 0) := (blk_cell BK2011.out 4).trans rfl; have hfz34_0 := blk_frozen BK2011.out 0; have hfz34_1 := blk_frozen BK2011.out 1; have hfz34_2 := blk_frozen BK2011.out 2; have hfz34_3 := blk_frozen BK2011.out 3; have hfz34_4 := blk_frozen BK2011.out 4) | ((with_reducible refine gate_dst (N := 55) rfl ?_); (try (refine gate_guard (by rfl) ?_; dsimp only)); refine Kd.R_lit k48 _ 48 ?hg (N := 55) ?hd (xs := ([] : List (S48))) (inner := []) (ok := fun _ => True) (okp := fun _ => True) ?hr ?hp (fun _ hk => hk) trivial (Below.refl _ _) (Nat.le_refl _) (by simp) ?_; (case hd => rfl); (case hg => rfl); (case hr => go_simp <;> rfl); (case hp => exact (Reps.none _ _)); intro v2013 w35 ho36 hb hg_ hnew_; clear hg_ hnew_; (first | rw [← Ny2012.out] at ho36 | (simp only [Int.reduceToNat] at ho36; rw [← Ny2012.out] at ho36)); have HO2014 := aA_ (Kd.R_lower (Kd.R_newB (Kd.R_newB ho36 (g := gb2004) (o := .cells #[.int .i64 t1998, .int .i64 t1999, .int .i64 t2000, .int .i64 t2001, .int .i64 t2002] 48 (0, 0)) (by refine blk_far ?_ NB2004_2011.out _; refine blk_far ?_ NB2004_2011.out _; refine blk_far ?_ NB2004_2011.out _; refine blk_far ?_ NB2004_2011.out _; refine blk_far ?_ NB2004_2011.out _; exact BK2004.out)) (g := gb2011) (o := .cells #[.int .i64 t2005, .int .i64 t2006, .int .i64 t2007, .int .i64 t2008, .int .i64 t2009] 48 (0, 0)) (by refine blk_put (cs := #[.int .i64 t2005, .int .i64 t2006, .int .i64 t2007, .int .i64 t2008, .int .i64 0]) ?_ 4 _ rfl; refine blk_put (cs := #[.int .i64 t2005, .int .i64 t2006, .int .i64 t2007, .int .i64 0, .int .i64 0]) ?_ 3 _ rfl; refine blk_put (cs := #[.int .i64 t2005, .int .i64 t2006, .int .i64 0, .int .i64 0, .int .i64 0]) ?_ 2 _ rfl; refine blk_put (cs := #[.int .i64 t2005, .int .i64 0, .int .i64 0, .int .i64 0, .int .i64 0]) ?_ 1 _ rfl; refine blk_put (cs := #[.int .i64 0, .int .i64 0, .int .i64 0, .int .i64 0, .int .i64 0]) ?_ 0 _ rfl; exact BK2011.out)) (below_size (by repeat (with_reducible first | exact HB.out | apply bA_ | apply bN_ | apply bD_ | refine bS_ ?_ GE2004.out | refine bS_ ?_ GE2011.out)))); replace BK2004 := aA_ (blk_below (g := gb2004) (o := .cells #[.int .i64 t1998, .int .i64 t1999, .int .i64 t2000, .int .i64 t2001, .int .i64 t2002] 48 (0, 0)) (by refine blk_far ?_ NB2004_2011.out _; refine blk_far ?_ NB2004_2011.out _; refine blk_far ?_ NB2004_2011.out _; refine blk_far ?_ NB2004_2011.out _; refine blk_far ?_ NB2004_2011.out _; exact BK2004.out) hb); replace BK2011 := aA_ (blk_below (g := gb2011) (o := .cells #[.int .i64 t2005, .int .i64 t2006, .int .i64 t2007, .int .i64 t2008, .int .i64 t2009] 48 (0, 0)) (by refine blk_put (cs := #[.int .i64 t2005, .int .i64 t2006, .int .i64 t2007, .int .i64 t2008, .int .i64 0]) ?_ 4 _ rfl; refine blk_put (cs := #[.int .i64 t2005, .int .i64 t2006, .int .i64 t2007, .int .i64 0, .int .i64 0]) ?_ 3 _ rfl; refine blk_put (cs := #[.int .i64 t2005, .int .i64 t2006, .int .i64 0, .int .i64 0, .int .i64 0]) ?_ 2 _ rfl; refine blk_put (cs := #[.int .i64 t2005, .int .i64 0, .int .i64 0, .int .i64 0, .int .i64 0]) ?_ 1 _ rfl; refine blk_put (cs := #[.int .i64 0, .int .i64 0, .int .i64 0, .int .i64 0, .int .i64 0]) ?_ 0 _ rfl; exact BK2011.out) hb); replace HB := bB_ (by repeat (with_reducible first | exact HB.out | apply bA_ | apply bN_ | apply bD_ | refine bS_ ?_ GE2004.out | refine bS_ ?_ GE2011.out)) hb; clear hb ho36) | ((with_reducible refine gate_builtin (b := .append) (xs := #[.tmp 55, .tmp 56]) rfl ?_); (try (refine gate_guard (by rfl) ?_; dsimp only)); at_builtin; refine Kd.R_append_rows k48 (w0 := w) w.heap.size rfl (.tmp 55) (.tmp 56) 33 48 (.agg #[(.int .i64 0), (.int .i64 0), (.int .i64 0), (.int .i64 0), (.int .i64 0)]) 40 rfl Try.underlying33 info48 rfl (by decide) (by omega) v2013 y2012 l0 _ _ _ (fun k_ => k_ ≠ gb2004 ∧ k_ ≠ gb2011) (fun _ => False) rfl rfl ?aO ?aR (fun _ _ h => h) (fun _ h => h.elim) ?aF ?aB ?aS ?aL ?_; (case aR => repeat (first | exact (Kd.C_below HR0.out HB.out) | (with_reducible first | refine Kd.C_alloc ?_ _ | refine Kd.C_drewN ?_ _ | refine Kd.C_drew ?_))); (case aB => exact (by repeat (with_reducible first | exact HB.out | apply bA_ | apply bN_ | apply bD_ | refine bS_ ?_ GE2004.out | refine bS_ ?_ GE2011.out))); (case aF => exact (fun k_ hk => ⟨Kd.freshB (g := gb2004) (o := .cells #[.int .i64 t1998, .int .i64 t1999, .int .i64 t2000, .int .i64 t2001, .int .i64 t2002] 48 (0, 0)) BK2004.out k_ hk, Kd.freshB (g := gb2011) (o := .cells #[.int .i64 t2005, .int .i64 t2006, .int .i64 t2007, .int .i64 t2008, .int .i64 t2009] 48 (0, 0)) BK2011.out k_ hk⟩)); (case aO => exact (by (with_reducible repeat (first | apply Kd.R_alloc | apply Kd.R_drewN | apply Kd.R_drew)); exact Kd.R_mono HO2014.out (fun _ hk => (And.intro (hk.1.2) (hk.2))))); (case aS => exact (below_size (by repeat (with_reducible first | exact HB.out | apply bA_ | apply bN_ | apply bD_ | refine bS_ ?_ GE2004.out | refine bS_ ?_ GE2011.out)))); (case aL => have := LMc16.out; omega); intro v2016 w37 ho hb hg hat; rw [← Ny2015.out] at ho; replace BK2004 := aA_ (blk_grown (g := gb2004) (o := .cells #[.int .i64 t1998, .int .i64 t1999, .int .i64 t2000, .int .i64 t2001, .int .i64 t2002] 48 (0, 0)) BK2004.out hg (Kd.R_away HO2014.out (fun _ hk => hk.1.2))); replace BK2011 := aA_ (blk_grown (g := gb2011) (o := .cells #[.int .i64 t2005, .int .i64 t2006, .int .i64 t2007, .int .i64 t2008, .int .i64 t2009] 48 (0, 0)) BK2011.out hg (Kd.R_away HO2014.out (fun _ hk => hk.2))); replace HB := aA_ (hb); have HO2017 := aA_ (ho); clear HO2014; clear ho hb hg hat) | ((with_reducible refine gate_builtin (b := .append) (xs := #[.tmp 57, .tmp 58]) rfl ?_); (try (refine gate_guard (by rfl) ?_; dsimp only)); at_builtin; refine Kd.R_append_rows k48 (w0 := w) w.heap.size rfl (.tmp 57) (.tmp 58) 33 48 (.agg #[(.int .i64 0), (.int .i64 0), (.int .i64 0), (.int .i64 0), (.int .i64 0)]) 40 rfl Try.underlying33 info48 rfl (by decide) (by omega) v2016 y2015 l1 _ _ _ (fun k_ => k_ ≠ gb2004 ∧ k_ ≠ gb2011) (fun _ => False) rfl rfl ?aO ?aR (fun _ _ h => h) (fun _ h => h.elim) ?aF ?aB ?aS ?aL ?_; (case aR => repeat (first | exact (Kd.C_below HR1.out HB.out) | (with_reducible first | refine Kd.C_alloc ?_ _ | refine Kd.C_drewN ?_ _ | refine Kd.C_drew ?_))); (case aB => exact (by repeat (with_reducible first | exact HB.out | apply bA_ | apply bN_ | apply bD_ | refine bS_ ?_ GE2004.out | refine bS_ ?_ GE2011.out))); (case aF => exact (fun k_ hk => ⟨Kd.freshB (g := gb2004) (o := .cells #[.int .i64 t1998, .int .i64 t1999, .int .i64 t2000, .int .i64 t2001, .int .i64 t2002] 48 (0, 0)) BK2004.out k_ hk, Kd.freshB (g := gb2011) (o := .cells #[.int .i64 t2005, .int .i64 t2006, .int .i64 t2007, .int .i64 t2008, .int .i64 t2009] 48 (0, 0)) BK2011.out k_ hk⟩)); (case aO => exact (by (with_reducible repeat (first | apply Kd.R_alloc | apply Kd.R_drewN | apply Kd.R_drew)); exact HO2017.out)); (case aS => exact (below_size (by repeat (with_reducible first | exact HB.out | apply bA_ | apply bN_ | apply bD_ | refine bS_ ?_ GE2004.out | refine bS_ ?_ GE2011.out)))); (case aL => have := LMc17.out; omega); intro v2019 w38 ho hb hg hat; rw [← Ny2018.out] at ho; replace BK2004 := aA_ (blk_grown (g := gb2004) (o := .cells #[.int .i64 t1998, .int .i64 t1999, .int .i64 t2000, .int .i64 t2001, .int .i64 t2002] 48 (0, 0)) BK2004.out hg (Kd.R_away HO2017.out (fun _ hk => hk.1))); replace BK2011 := aA_ (blk_grown (g := gb2011) (o := .cells #[.int .i64 t2005, .int .i64 t2006, .int .i64 t2007, .int .i64 t2008, .int .i64 t2009] 48 (0, 0)) BK2011.out hg (Kd.R_away HO2017.out (fun _ hk => hk.2))); replace HB := aA_ (hb); have HO2020 := aA_ (ho); clear HO2017; clear ho hb hg hat; obtain ⟨Ao39, co39, eo39⟩ := Kd.R_slice HO2020.out; subst eo39) | (refine goesL_ (some 60) rfl rfl Try.func30 (by kernel_rfl) rfl #[.slice Ao39 y2018.length co39] rfl (by (try simp only [mT_, mC_, mN_]); first | done | rfl) ?_; (with_reducible refine (table_Sums.calls kj3 _ _ y2018 t2021 t2022 t2023 t2024 t2025 t2026 _ ?side1 ?side2 A18.out).mono ?_); (case side1 => repeat (first | exact (Kd.R_reads' HO2020.out).2.2 | (with_reducible first | refine Kd.C_alloc ?_ _ | refine Kd.C_drewN ?_ _ | refine Kd.C_drew ?_))); (case side2 => exact (Kd.R_reads' HO2020.out).2.1); rintro e w40 ⟨rfl, hb⟩; refine ⟨_, rfl, ?_⟩; replace HO2020 := aA_ (Kd.R_below HO2020.out hb); replace BK2004 := bK_ BK2004 hb; replace BK2011 := bK_ BK2011 hb; replace HB := bB_ (by repeat (with_reducible first | exact HB.out | apply bA_ | apply bN_ | apply bD_ | refine bS_ ?_ GE2004.out | refine bS_ ?_ GE2011.out)) hb; (try clear hb)) | ((with_reducible refine gate_dst (N := 10) rfl ?_); (try (refine gate_guard (by rfl) ?_; dsimp only)); refine box_event rfl (N := 10) rfl (cs := #[.int .i64 0, .int .i64 0, .int .i64 0, .int .i64 0, .int .i64 0]) (t := 48) ?hr ?_; (case hr => go_simp <;> rfl); intro gb2027 hg w41 hbox hb; replace HO2020 := aA_ (Kd.R_below (Kd.R_elderB HO2020.out gb2027 (Nat.le_of_eq hg.symm)) hb); have BK2027 := aA_ (hbox); have GW2027 := gW_ hg (by repeat (with_reducible first | exact HB.out | apply bA_ | apply bN_ | apply bD_ | refine bS_ ?_ GE2004.out | refine bS_ ?_ GE2011.out)); have GE2027 := GW2027; replace HB := bB_ (by repeat (with_reducible first | exact HB.out | apply bA_ | apply bN_ | apply bD_ | refine bS_ ?_ GE2004.out | refine bS_ ?_ GE2011.out)) hb; have NB2004_2027 := nE_ hg BK2004; have NB2027_2004 := aA_ NB2004_2027.out.symm; replace BK2004 := bK_ BK2004 hb; have NB2011_2027 := nE_ hg BK2011; have NB2027_2011 := aA_ NB2011_2027.out.symm; replace BK2011 := bK_ BK2011 hb; clear hb hbox hg; have hnb42 := NB2027_2004.out; have hnc42 := NB2004_2027.out; have hnb43 := NB2027_2011.out; have hnc43 := NB2011_2027.out; have hcz44_0 : w41.cell? ⟨gb2027, 0, none⟩ = some (.int .i64 0) := (blk_cell BK2027.out 0).trans rfl; have hcz44_1 : w41.cell? ⟨gb2027, 1, none⟩ = some (.int .i64 0) := (blk_cell BK2027.out 1).trans rfl; have hcz44_2 : w41.cell? ⟨gb2027, 2, none⟩ = some (.int .i64 0) := (blk_cell BK2027.out 2).trans rfl; have hcz44_3 : w41.cell? ⟨gb2027, 3, none⟩ = some (.int .i64 0) := (blk_cell BK2027.out 3).trans rfl; have hcz44_4 : w41.cell? ⟨gb2027, 4, none⟩ = some (.int .i64 0) := (blk_cell BK2027.out 4).trans rfl; have hfz44_0 := blk_frozen BK2027.out 0; have hfz44_1 := blk_frozen BK2027.out 1; have hfz44_2 := blk_frozen BK2027.out 2; have hfz44_3 := blk_frozen BK2027.out 3; have hfz44_4 := blk_frozen BK2027.out 4) | ((with_reducible refine gate_dst (N := 64) rfl ?_); (try (refine gate_guard (by rfl) ?_; dsimp only)); refine Kd.R_lit k48 _ 48 ?hg (N := 64) ?hd (xs := ([] : List (S48))) (inner := []) (ok := fun _ => True) (okp := fun _ => True) ?hr ?hp (fun _ hk => hk) trivial (Below.refl _ _) (Nat.le_refl _) (by simp) ?_; (case hd => rfl); (case hg => rfl); (case hr => go_simp <;> rfl); (case hp => exact (Reps.none _ _)); intro v2029 w45 ho46 hb hg_ hnew_; clear hg_ hnew_; (first | rw [← Ny2028.out] at ho46 | (simp only [Int.reduceToNat] at ho46; rw [← Ny2028.out] at ho46)); have HO2030 := aA_ (Kd.R_lower (Kd.R_newB (Kd.R_newB (Kd.R_newB (Kd.R_new' ho46 (Kd.R_lt (by (with_reducible repeat (first | apply Kd.R_alloc | apply Kd.R_drewN | apply Kd.R_drew)); exact (Kd.R_mono (Kd.R_far (p := ⟨gb2027, 4, none⟩) (Kd.R_far (p := ⟨gb2027, 3, none⟩) (Kd.R_far (p := ⟨gb2027, 2, none⟩) (Kd.R_far (p := ⟨gb2027, 1, none⟩) (Kd.R_far (p := ⟨gb2027, 0, none⟩) (Kd.R_mono HO2020.out (fun k_ hk => (⟨hk, hk.2⟩ : _ ∧ k_ ≠ gb2027))) (fun _ hk => hk.2) (.int .i64 t2021)) (fun _ hk => hk.2) (.int .i64 t2022)) (fun _ hk => hk.2) (.int .i64 t2023)) (fun _ hk => hk.2) (.int .i64 t2024)) (fun _ hk => hk.2) (.int .i64 t2025)) (fun _ h_ => h_.1))))) (g := gb2004) (o := .cells #[.int .i64 t1998, .int .i64 t1999, .int .i64 t2000, .int .i64 t2001, .int .i64 t2002] 48 (0, 0)) (by refine blk_far ?_ NB2004_2027.out _; refine blk_far ?_ NB2004_2027.out _; refine blk_far ?_ NB2004_2027.out _; refine blk_far ?_ NB2004_2027.out _; refine blk_far ?_ NB2004_2027.out _; exact BK2004.out)) (g := gb2011) (o := .cells #[.int .i64 t2005, .int .i64 t2006, .int .i64 t2007, .int .i64 t2008, .int .i64 t2009] 48 (0, 0)) (by refine blk_far ?_ NB2011_2027.out _; refine blk_far ?_ NB2011_2027.out _; refine blk_far ?_ NB2011_2027.out _; refine blk_far ?_ NB2011_2027.out _; refine blk_far ?_ NB2011_2027.out _; exact BK2011.out)) (g := gb2027) (o := .cells #[.int .i64 t2021, .int .i64 t2022, .int .i64 t2023, .int .i64 t2024, .int .i64 t2025] 48 (0, 0)) (by refine blk_put (cs := #[.int .i64 t2021, .int .i64 t2022, .int .i64 t2023, .int .i64 t2024, .int .i64 0]) ?_ 4 _ rfl; refine blk_put (cs := #[.int .i64 t2021, .int .i64 t2022, .int .i64 t2023, .int .i64 0, .int .i64 0]) ?_ 3 _ rfl; refine blk_put (cs := #[.int .i64 t2021, .int .i64 t2022, .int .i64 0, .int .i64 0, .int .i64 0]) ?_ 2 _ rfl; refine blk_put (cs := #[.int .i64 t2021, .int .i64 0, .int .i64 0, .int .i64 0, .int .i64 0]) ?_ 1 _ rfl; refine blk_put (cs := #[.int .i64 0, .int .i64 0, .int .i64 0, .int .i64 0, .int .i64 0]) ?_ 0 _ rfl; exact BK2027.out)) (below_size (by repeat (with_reducible first | exact HB.out | apply bA_ | apply bN_ | apply bD_ | refine bS_ ?_ GE2004.out | refine bS_ ?_ GE2011.out | refine bS_ ?_ GE2027.out)))); replace HO2020 := aA_ (Kd.R_elder' (by (with_reducible repeat (first | apply Kd.R_alloc | apply Kd.R_drewN | apply Kd.R_drew)); exact (Kd.R_mono (Kd.R_far (p := ⟨gb2027, 4, none⟩) (Kd.R_far (p := ⟨gb2027, 3, none⟩) (Kd.R_far (p := ⟨gb2027, 2, none⟩) (Kd.R_far (p := ⟨gb2027, 1, none⟩) (Kd.R_far (p := ⟨gb2027, 0, none⟩) (Kd.R_mono HO2020.out (fun k_ hk => (⟨hk, hk.2⟩ : _ ∧ k_ ≠ gb2027))) (fun _ hk => hk.2) (.int .i64 t2021)) (fun _ hk => hk.2) (.int .i64 t2022)) (fun _ hk => hk.2) (.int .i64 t2023)) (fun _ hk => hk.2) (.int .i64 t2024)) (fun _ hk => hk.2) (.int .i64 t2025)) (fun _ h_ => h_.1))) (Kd.R_base ho46) hb); replace BK2004 := aA_ (blk_below (g := gb2004) (o := .cells #[.int .i64 t1998, .int .i64 t1999, .int .i64 t2000, .int .i64 t2001, .int .i64 t2002] 48 (0, 0)) (by refine blk_far ?_ NB2004_2027.out _; refine blk_far ?_ NB2004_2027.out _; refine blk_far ?_ NB2004_2027.out _; refine blk_far ?_ NB2004_2027.out _; refine blk_far ?_ NB2004_2027.out _; exact BK2004.out) hb); replace BK2011 := aA_ (blk_below (g := gb2011) (o := .cells #[.int .i64 t2005, .int .i64 t2006, .int .i64 t2007, .int .i64 t2008, .int .i64 t2009] 48 (0, 0)) (by refine blk_far ?_ NB2011_2027.out _; refine blk_far ?_ NB2011_2027.out _; refine blk_far ?_ NB2011_2027.out _; refine blk_far ?_ NB2011_2027.out _; refine blk_far ?_ NB2011_2027.out _; exact BK2011.out) hb); replace BK2027 := aA_ (blk_below (g := gb2027) (o := .cells #[.int .i64 t2021, .int .i64 t2022, .int .i64 t2023, .int .i64 t2024, .int .i64 t2025] 48 (0, 0)) (by refine blk_put (cs := #[.int .i64 t2021, .int .i64 t2022, .int .i64 t2023, .int .i64 t2024, .int .i64 0]) ?_ 4 _ rfl; refine blk_put (cs := #[.int .i64 t2021, .int .i64 t2022, .int .i64 t2023, .int .i64 0, .int .i64 0]) ?_ 3 _ rfl; refine blk_put (cs := #[.int .i64 t2021, .int .i64 t2022, .int .i64 0, .int .i64 0, .int .i64 0]) ?_ 2 _ rfl; refine blk_put (cs := #[.int .i64 t2021, .int .i64 0, .int .i64 0, .int .i64 0, .int .i64 0]) ?_ 1 _ rfl; refine blk_put (cs := #[.int .i64 0, .int .i64 0, .int .i64 0, .int .i64 0, .int .i64 0]) ?_ 0 _ rfl; exact BK2027.out) hb); replace HB := bB_ (by repeat (with_reducible first | exact HB.out | apply bA_ | apply bN_ | apply bD_ | refine bS_ ?_ GE2004.out | refine bS_ ?_ GE2011.out | refine bS_ ?_ GE2027.out)) hb; clear hb ho46) | ((with_reducible refine gate_builtin (b := .append) (xs := #[.tmp 64, .tmp 65]) rfl ?_); (try (refine gate_guard (by rfl) ?_; dsimp only)); at_builtin; refine Kd.R_append_rows k48 (w0 := w) w.heap.size rfl (.tmp 64) (.tmp 65) 33 48 (.agg #[(.int .i64 0), (.int .i64 0), (.int .i64 0), (.int .i64 0), (.int .i64 0)]) 40 rfl Try.underlying33 info48 rfl (by decide) (by omega) v2029 y2028 l1 _ _ _ (fun k_ => some k_ ≠ (.slice Ao39 y2018.length co39 : Value).ownBlock ∧ k_ ≠ gb2004 ∧ k_ ≠ gb2011 ∧ k_ ≠ gb2027) (fun _ => False) rfl rfl ?aO ?aR (fun _ _ h => h) (fun _ h => h.elim) ?aF ?aB ?aS ?aL ?_; (case aR => repeat (first | exact (Kd.C_below HR1.out HB.out) | (with_reducible first | refine Kd.C_alloc ?_ _ | refine Kd.C_drewN ?_ _ | refine Kd.C_drew ?_))); (case aB => exact (by repeat (with_reducible first | exact HB.out | apply bA_ | apply bN_ | apply bD_ | refine bS_ ?_ GE2004.out | refine bS_ ?_ GE2011.out | refine bS_ ?_ GE2027.out))); (case aF => exact (fun k_ hk => ⟨Kd.fresh' (Kd.R_lt (by (with_reducible repeat (first | apply Kd.R_alloc | apply Kd.R_drewN | apply Kd.R_drew)); exact HO2020.out)) k_ hk, Kd.freshB (g := gb2004) (o := .cells #[.int .i64 t1998, .int .i64 t1999, .int .i64 t2000, .int .i64 t2001, .int .i64 t2002] 48 (0, 0)) BK2004.out k_ hk, Kd.freshB (g := gb2011) (o := .cells #[.int .i64 t2005, .int .i64 t2006, .int .i64 t2007, .int .i64 t2008, .int .i64 t2009] 48 (0, 0)) BK2011.out k_ hk, Kd.freshB (g := gb2027) (o := .cells #[.int .i64 t2021, .int .i64 t2022, .int .i64 t2023, .int .i64 t2024, .int .i64 t2025] 48 (0, 0)) BK2027.out k_ hk⟩)); (case aO => exact (by (with_reducible repeat (first | apply Kd.R_alloc | apply Kd.R_drewN | apply Kd.R_drew)); exact Kd.R_mono HO2030.out (fun _ hk => (And.intro (hk.1.1.1.2) ((And.intro (hk.1.1.2) ((And.intro (hk.1.2) (hk.2))))))))); (case aS => exact (below_size (by repeat (with_reducible first | exact HB.out | apply bA_ | apply bN_ | apply bD_ | refine bS_ ?_ GE2004.out | refine bS_ ?_ GE2011.out | refine bS_ ?_ GE2027.out)))); (case aL => have := LMc19.out; omega); intro v2032 w47 ho hb hg hat; rw [← Ny2031.out] at ho; replace BK2004 := aA_ (blk_grown (g := gb2004) (o := .cells #[.int .i64 t1998, .int .i64 t1999, .int .i64 t2000, .int .i64 t2001, .int .i64 t2002] 48 (0, 0)) BK2004.out hg (Kd.R_away HO2030.out (fun _ hk => hk.1.1.2))); replace BK2011 := aA_ (blk_grown (g := gb2011) (o := .cells #[.int .i64 t2005, .int .i64 t2006, .int .i64 t2007, .int .i64 t2008, .int .i64 t2009] 48 (0, 0)) BK2011.out hg (Kd.R_away HO2030.out (fun _ hk => hk.1.2))); replace HO2020 := aA_ (Kd.R_after (ok := (fun k_ => k_ ≠ gb2004 ∧ k_ ≠ gb2011 ∧ k_ ≠ gb2027)) (by (with_reducible repeat (first | apply Kd.R_alloc | apply Kd.R_drewN | apply Kd.R_drew)); exact Kd.R_mono HO2020.out (fun _ hk => (And.intro ((And.intro (hk.1.1.1) ((And.intro (hk.1.1.2) (hk.1.2))))) (hk.2)))) hg hat); replace BK2027 := aA_ (blk_grown (g := gb2027) (o := .cells #[.int .i64 t2021, .int .i64 t2022, .int .i64 t2023, .int .i64 t2024, .int .i64 t2025] 48 (0, 0)) BK2027.out hg (Kd.R_away HO2030.out (fun _ hk => hk.2))); replace HB := aA_ (hb); have HO2033 := aA_ (ho); clear HO2030; clear ho hb hg hat) | ((with_reducible refine gate_builtin (b := .append) (xs := #[.tmp 66, .tmp 67]) rfl ?_); (try (refine gate_guard (by rfl) ?_; dsimp only)); at_builtin; refine Kd.R_append_rows k48 (w0 := w) w.heap.size rfl (.tmp 66) (.tmp 67) 33 48 (.agg #[(.int .i64 0), (.int .i64 0), (.int .i64 0), (.int .i64 0), (.int .i64 0)]) 40 rfl Try.underlying33 info48 rfl (by decide) (by omega) v2032 y2031 l0 _ _ _ (fun k_ => some k_ ≠ (.slice Ao39 y2018.length co39 : Value).ownBlock ∧ k_ ≠ gb2004 ∧ k_ ≠ gb2011 ∧ k_ ≠ gb2027) (fun _ => False) rfl rfl ?aO ?aR (fun _ _ h => h) (fun _ h => h.elim) ?aF ?aB ?aS ?aL ?_; (case aR => repeat (first | exact (Kd.C_below HR0.out HB.out) | (with_reducible first | refine Kd.C_alloc ?_ _ | refine Kd.C_drewN ?_ _ | refine Kd.C_drew ?_))); (case aB => exact (by repeat (with_reducible first | exact HB.out | apply bA_ | apply bN_ | apply bD_ | refine bS_ ?_ GE2004.out | refine bS_ ?_ GE2011.out | refine bS_ ?_ GE2027.out))); (case aF => exact (fun k_ hk => ⟨Kd.fresh' (Kd.R_lt (by (with_reducible repeat (first | apply Kd.R_alloc | apply Kd.R_drewN | apply Kd.R_drew)); exact HO2020.out)) k_ hk, Kd.freshB (g := gb2004) (o := .cells #[.int .i64 t1998, .int .i64 t1999, .int .i64 t2000, .int .i64 t2001, .int .i64 t2002] 48 (0, 0)) BK2004.out k_ hk, Kd.freshB (g := gb2011) (o := .cells #[.int .i64 t2005, .int .i64 t2006, .int .i64 t2007, .int .i64 t2008, .int .i64 t2009] 48 (0, 0)) BK2011.out k_ hk, Kd.freshB (g := gb2027) (o := .cells #[.int .i64 t2021, .int .i64 t2022, .int .i64 t2023, .int .i64 t2024, .int .i64 t2025] 48 (0, 0)) BK2027.out k_ hk⟩)); (case aO => exact (by (with_reducible repeat (first | apply Kd.R_alloc | apply Kd.R_drewN | apply Kd.R_drew)); exact HO2033.out)); (case aS => exact (below_size (by repeat (with_reducible first | exact HB.out | apply bA_ | apply bN_ | apply bD_ | refine bS_ ?_ GE2004.out | refine bS_ ?_ GE2011.out | refine bS_ ?_ GE2027.out)))); (case aL => have := LMc20.out; omega); intro v2035 w48 ho hb hg hat; rw [← Ny2034.out] at ho; replace BK2004 := aA_ (blk_grown (g := gb2004) (o := .cells #[.int .i64 t1998, .int .i64 t1999, .int .i64 t2000, .int .i64 t2001, .int .i64 t2002] 48 (0, 0)) BK2004.out hg (Kd.R_away HO2033.out (fun _ hk => hk.2.1))); replace BK2011 := aA_ (blk_grown (g := gb2011) (o := .cells #[.int .i64 t2005, .int .i64 t2006, .int .i64 t2007, .int .i64 t2008, .int .i64 t2009] 48 (0, 0)) BK2011.out hg (Kd.R_away HO2033.out (fun _ hk => hk.2.2.1))); replace HO2020 := aA_ (Kd.R_after (ok := (fun k_ => k_ ≠ gb2004 ∧ k_ ≠ gb2011 ∧ k_ ≠ gb2027)) HO2020.out hg hat); replace BK2027 := aA_ (blk_grown (g := gb2027) (o := .cells #[.int .i64 t2021, .int .i64 t2022, .int .i64 t2023, .int .i64 t2024, .int .i64 t2025] 48 (0, 0)) BK2027.out hg (Kd.R_away HO2033.out (fun _ hk => hk.2.2.2))); replace HB := aA_ (hb); have HO2036 := aA_ (ho); clear HO2033; clear ho hb hg hat; obtain ⟨Ao49, co49, eo49⟩ := Kd.R_slice HO2036.out; subst eo49) | (refine goesL_ (some 69) rfl rfl Try.func30 (by kernel_rfl) rfl #[.slice Ao49 y2034.length co49] rfl (by (try simp only [mT_, mC_, mN_]); first | done | rfl) ?_; (with_reducible refine (table_Sums.calls kj3 _ _ y2034 t2037 t2038 t2039 t2040 t2041 t2042 _ ?side1 ?side2 A21.out).mono ?_); (case side1 => repeat (first | exact (Kd.R_reads' HO2036.out).2.2 | (with_reducible first | refine Kd.C_alloc ?_ _ | refine Kd.C_drewN ?_ _ | refine Kd.C_drew ?_))); (case side2 => exact (Kd.R_reads' HO2036.out).2.1); rintro e w50 ⟨rfl, hb⟩; refine ⟨_, rfl, ?_⟩; replace HO2020 := aA_ (Kd.R_below HO2020.out hb); replace HO2036 := aA_ (Kd.R_below HO2036.out hb); replace BK2004 := bK_ BK2004 hb; replace BK2011 := bK_ BK2011 hb; replace BK2027 := bK_ BK2027 hb; replace HB := bB_ (by repeat (with_reducible first | exact HB.out | apply bA_ | apply bN_ | apply bD_ | refine bS_ ?_ GE2004.out | refine bS_ ?_ GE2011.out | refine bS_ ?_ GE2027.out)) hb; (try clear hb)) | ((with_reducible refine gate_dst (N := 12) rfl ?_); (try (refine gate_guard (by rfl) ?_; dsimp only)); refine box_event rfl (N := 12) rfl (cs := #[.int .i64 0, .int .i64 0, .int .i64 0, .int .i64 0, .int .i64 0]) (t := 48) ?hr ?_; (case hr => go_simp <;> rfl); intro gb2043 hg w51 hbox hb; replace HO2020 := aA_ (Kd.R_below (Kd.R_elderB HO2020.out gb2043 (Nat.le_of_eq hg.symm)) hb); replace HO2036 := aA_ (Kd.R_below (Kd.R_elderB HO2036.out gb2043 (Nat.le_of_eq hg.symm)) hb); have BK2043 := aA_ (hbox); have GW2043 := gW_ hg (by repeat (with_reducible first | exact HB.out | apply bA_ | apply bN_ | apply bD_ | refine bS_ ?_ GE2004.out | refine bS_ ?_ GE2011.out | refine bS_ ?_ GE2027.out)); have GE2043 := GW2043; replace HB := bB_ (by repeat (with_reducible first | exact HB.out | apply bA_ | apply bN_ | apply bD_ | refine bS_ ?_ GE2004.out | refine bS_ ?_ GE2011.out | refine bS_ ?_ GE2027.out)) hb; have NB2004_2043 := nE_ hg BK2004; have NB2043_2004 := aA_ NB2004_2043.out.symm; replace BK2004 := bK_ BK2004 hb; have NB2011_2043 := nE_ hg BK2011; have NB2043_2011 := aA_ NB2011_2043.out.symm; replace BK2011 := bK_ BK2011 hb; have NB2027_2043 := nE_ hg BK2027; have NB2043_2027 := aA_ NB2027_2043.out.symm; replace BK2027 := bK_ BK2027 hb; clear hb hbox hg; have hnb52 := NB2043_2004.out; have hnc52 := NB2004_2043.out; have hnb53 := NB2043_2011.out; have hnc53 := NB2011_2043.out; have hnb54 := NB2043_2027.out; have hnc54 := NB2027_2043.out; have hcz55_0 : w51.cell? ⟨gb2043, 0, none⟩ = some (.int .i64 0) := (blk_cell BK2043.out 0).trans rfl; have hcz55_1 : w51.cell? ⟨gb2043, 1, none⟩ = some (.int .i64 0) := (blk_cell BK2043.out 1).trans rfl; have hcz55_2 : w51.cell? ⟨gb2043, 2, none⟩ = some (.int .i64 0) := (blk_cell BK2043.out 2).trans rfl; have hcz55_3 : w51.cell? ⟨gb2043, 3, none⟩ = some (.int .i64 0) := (blk_cell BK2043.out 3).trans rfl; have hcz55_4 : w51.cell? ⟨gb2043, 4, none⟩ = some (.int .i64 0) := (blk_cell BK2043.out 4).trans rfl; have hfz55_0 := blk_frozen BK2043.out 0; have hfz55_1 := blk_frozen BK2043.out 1; have hfz55_2 := blk_frozen BK2043.out 2; have hfz55_3 := blk_frozen BK2043.out 3; have hfz55_4 := blk_frozen BK2043.out 4; have hcz56_0 : w51.cell? ⟨gb2027, 0, none⟩ = some (.int .i64 t2021) := (blk_cell BK2027.out 0).trans rfl; have hcz56_1 : w51.cell? ⟨gb2027, 1, none⟩ = some (.int .i64 t2022) := (blk_cell BK2027.out 1).trans rfl; have hcz56_2 : w51.cell? ⟨gb2027, 2, none⟩ = some (.int .i64 t2023) := (blk_cell BK2027.out 2).trans rfl; have hcz56_3 : w51.cell? ⟨gb2027, 3, none⟩ = some (.int .i64 t2024) := (blk_cell BK2027.out 3).trans rfl; have hcz56_4 : w51.cell? ⟨gb2027, 4, none⟩ = some (.int .i64 t2025) := (blk_cell BK2027.out 4).trans rfl; have hfz56_0 := blk_frozen BK2027.out 0; have hfz56_1 := blk_frozen BK2027.out 1; have hfz56_2 := blk_frozen BK2027.out 2; have hfz56_3 := blk_frozen BK2027.out 3; have hfz56_4 := blk_frozen BK2027.out 4; have hcz57_0 : w51.cell? ⟨gb2004, 0, none⟩ = some (.int .i64 t1998) := (blk_cell BK2004.out 0).trans rfl; have hcz57_1 : w51.cell? ⟨gb2004, 1, none⟩ = some (.int .i64 t1999) := (blk_cell BK2004.out 1).trans rfl; have hcz57_2 : w51.cell? ⟨gb2004, 2, none⟩ = some (.int .i64 t2000) := (blk_cell BK2004.out 2).trans rfl; have hcz57_3 : w51.cell? ⟨gb2004, 3, none⟩ = some (.int .i64 t2001) := (blk_cell BK2004.out 3).trans rfl; have hcz57_4 : w51.cell? ⟨gb2004, 4, none⟩ = some (.int .i64 t2002) := (blk_cell BK2004.out 4).trans rfl; have hfz57_0 := blk_frozen BK2004.out 0; have hfz57_1 := blk_frozen BK2004.out 1; have hfz57_2 := blk_frozen BK2004.out 2; have hfz57_3 := blk_frozen BK2004.out 3; have hfz57_4 := blk_frozen BK2004.out 4; have hcz58_0 : w51.cell? ⟨gb2011, 0, none⟩ = some (.int .i64 t2005) := (blk_cell BK2011.out 0).trans rfl; have hcz58_1 : w51.cell? ⟨gb2011, 1, none⟩ = some (.int .i64 t2006) := (blk_cell BK2011.out 1).trans rfl; have hcz58_2 : w51.cell? ⟨gb2011, 2, none⟩ = some (.int .i64 t2007) := (blk_cell BK2011.out 2).trans rfl; have hcz58_3 : w51.cell? ⟨gb2011, 3, none⟩ = some (.int .i64 t2008) := (blk_cell BK2011.out 3).trans rfl; have hcz58_4 : w51.cell? ⟨gb2011, 4, none⟩ = some (.int .i64 t2009) := (blk_cell BK2011.out 4).trans rfl; have hfz58_0 := blk_frozen BK2011.out 0; have hfz58_1 := blk_frozen BK2011.out 1; have hfz58_2 := blk_frozen BK2011.out 2; have hfz58_3 := blk_frozen BK2011.out 3; have hfz58_4 := blk_frozen BK2011.out 4))
              go_ret
              exact ⟨by rfl, by repeat (with_reducible first | exact HB.out | apply bA_ | apply bN_ | apply bD_ | refine bS_ ?_ GE2004.out | refine bS_ ?_ GE2011.out | refine bS_ ?_ GE2027.out | refine bS_ ?_ GE2043.out)⟩
             ·rw [if_neg c27] at H
              exact absurd H (by simp)
            ·replace c26 := Bool.eq_false_iff.mpr c26
             subst c26
             rw [if_neg (show ¬ (false = true) by decide)] at H
             exact absurd H (by simp)
           ·rw [if_neg c25] at H
            exact absurd H (by simp)
          ·rw [if_neg c24] at H
           exact absurd H (by simp)
         ·rw [if_neg c23] at H
          exact absurd H (by simp)
        ·rw [if_neg c22] at H
         exact absurd H (by simp)
       ·rw [if_neg c20] at H
        exact absurd H (by simp)
      ·rw [if_neg c19] at H
       exact absurd H (by simp)
     ·rw [if_neg c17] at H
      exact absurd H (by simp)
    ·rw [if_neg c16] at H
     exact absurd H (by simp)

end Go.Proofs.Yteikafepdkijdaa.X
