-- cut by prune.py, a program of this session
import Derived.Test.YteikafepdkijdaaPTableTellsX0
import Derived.Test.YteikafepdkijdaaPTableTellsXRefOf
namespace Go.Proofs.Yteikafepdkijdaa.X
open Go.RowKit Go.Proofs.YteikafepdkijdaaW.PrintWords Go.Proofs.YteikafepdkijdaaW.PrintLast Go.Proofs.YteikafepdkijdaaW.PrintMore
attribute [local go_sem] max2_int min2_int max_two min_two
set_option linter.unusedVariables false
set_option linter.unusedSimpArgs false

def demurrageref19_why.j0 : Nat → Int → Bool → Option (Int)
 | 0, _, _ => none
 | k + 1, x0, x12 => if x12 = true then (some 1) else (if x0 < 0 then (some 2) else (if x0 > 1000000000000000 then (some 2) else (some 0)))
def demurrageref19_why.f (k : Nat) (a0 : Int) (l1 : List (S56)) : Option (Int) := if (l1.length : Int) < 1 then (demurrageref19_why.j0 k a0 true) else (demurrageref19_why.j0 k a0 (decide ((l1.length : Int) > 1200)))
set_option maxHeartbeats 8000000 in
set_option maxRecDepth 100000 in
theorem demurrageref19_why.calls (k : Nat) (a0 : Int) (A1 : Option Addr) (c1 : Nat) (l1 : List (S56)) (r : Int) (w : World) (hr1 : Kd.C k56 w A1 l1.length l1) (hc1 : l1.length ≤ c1) (h : demurrageref19_why.f k a0 l1 = some r) :
  Calls Try.prog 64 #[.int .i64 a0, .slice A1 l1.length c1] w fun e w' => e = .returned (.int .i64 r) ∧ Drawn0 w w' := by
 have HR1 := aA_ hr1
 have HC1 := aA_ hc1
 clear hr1 hc1
 have H : (if (l1.length : Int) < 1 then (demurrageref19_why.j0 k a0 true) else (demurrageref19_why.j0 k a0 (decide ((l1.length : Int) > 1200)))) = some r := h
 clear h
 have HC3 := aA_ H
 clear H
 go_enter Try.func64, Try.ntmps64
 go_upto_region 1 with (fail)
 go_cut [12] (fun v12 wc => ∃ (kq : Nat) (x12_2 : Bool), v12 = .bool x12_2 ∧ Aside0 (demurrageref19_why.j0 kq a0 x12_2 = some r) ∧ Aside0 (kq ≤ k) ∧ Drawn0 w wc)
 case first =>
  have H := HC3.out
  clear HC3
  by_cases c4 : (l1.length : Int) < 1
  ·rw [if_pos c4] at H
   have c4b0 : decide ((l1.length : Int) < 1) = true := decide_eq_true c4
   have c4b1 : decide (l1.length < 1) = true := decide_eq_true (by omega)
   clear c4
   (first | rw [c4b0] | (simp only [i64_w, i32_w]; rw [c4b0]) | rw [c4b1] | skip)
   have H' := aA_ H
   clear H
   go_wp2
   go_meet
   case rel => exact ⟨_, (true), (by first | rfl | simp | simp [*]), H', ⟨by first | omega | exact Nat.le_refl _⟩, by repeat (first | exact Drawn0.refl _ | apply Drawn0.step)⟩
  ·rw [if_neg c4] at H
   have c4b0 : decide ((l1.length : Int) < 1) = false := decide_eq_false c4
   have c4b1 : decide (l1.length < 1) = false := decide_eq_false (by omega)
   clear c4
   (first | rw [c4b0] | (simp only [i64_w, i32_w]; rw [c4b0]) | rw [c4b1] | skip)
   have H' := aA_ H
   clear H
   go_wp2
   go_meet
   case rel => exact ⟨_, (decide ((l1.length : Int) > 1200)), (by first | rfl | simp | simp [*]), H', ⟨by first | omega | exact Nat.le_refl _⟩, by repeat (first | exact Drawn0.refl _ | apply Drawn0.step)⟩
 case rest =>
  clear HC3
  try clear c1
  try clear p2
  try clear c4
  try clear c4b0
  try clear c4b1
  obtain ⟨kq, x12_2, rfl, HA, HJ2, ⟨mc2, rfl⟩⟩ := hcut
  cases kq with
  | zero => exact absurd HA.out (by simp [demurrageref19_why.j0])
  | succ kj2 =>
   have H := HA.out
   clear HA
   simp only [demurrageref19_why.j0] at H
   by_cases c5 : x12_2 = true
   ·subst c5
    rw [if_pos rfl] at H
    obtain rfl := Option.some.inj H
    go_wp2
    go_ret
    exact ⟨by first | rfl | (simp; done) | (simp [*]; done), by repeat (first | exact Drawn0.refl _ | apply Drawn0.step)⟩
   ·replace c5 := Bool.eq_false_iff.mpr c5
    subst c5
    rw [if_neg (show ¬ (false = true) by decide)] at H
    by_cases c6 : a0 < 0
    ·rw [if_pos c6] at H
     have c6b0 : decide (a0 < 0) = true := decide_eq_true c6
     clear c6
     obtain rfl := Option.some.inj H
     go_wp2
     go_ret
     exact ⟨by first | rfl | (simp; done) | (simp [*]; done), by repeat (first | exact Drawn0.refl _ | apply Drawn0.step)⟩
    ·rw [if_neg c6] at H
     have c6b0 : decide (a0 < 0) = false := decide_eq_false c6
     clear c6
     by_cases c7 : a0 > 1000000000000000
     ·rw [if_pos c7] at H
      have c7b0 : decide (1000000000000000 < a0) = true := decide_eq_true c7
      clear c7
      obtain rfl := Option.some.inj H
      go_wp2
      go_ret
      exact ⟨by first | rfl | (simp; done) | (simp [*]; done), by repeat (first | exact Drawn0.refl _ | apply Drawn0.step)⟩
     ·rw [if_neg c7] at H
      have c7b0 : decide (1000000000000000 < a0) = false := decide_eq_false c7
      clear c7
      obtain rfl := Option.some.inj H
      go_wp2
      go_ret
      exact ⟨by first | rfl | (simp; done) | (simp [*]; done), by repeat (first | exact Drawn0.refl _ | apply Drawn0.step)⟩

def demurrageref19_table.l0 : Nat → Int → List (S56) → Int → List (S48) → Int → Int → Option ((List (S48)) × Int)
 | 0, _, _, _, _, _, _ => none
 | k + 1, x1, x2, x3, x10, x11, x12 => if x12 < (x2.length : Int) then (if 0 ≤ x12 then ((demurrageref18_Of.f k x11 x1 ((rd_T56 x2 x12).f0) ((rd_T56 x2 x12).f1)).bind fun bt1480 => (if bt1480.2 = 0 then (if x12 = (wrap64 ((x2.length : Int) - 1)) then (if x10.length < 3518437208883 then (demurrageref19_table.l0 k x1 x2 x3 (x10 ++ [(⟨x11, bt1480.1, x11, wrap64 (bt1480.1 + x11), 0⟩ : S48)]) (0) (wrap64 (x12 + 1))) else (none)) else (if x10.length < 3518437208883 then (demurrageref19_table.l0 k x1 x2 x3 (x10 ++ [(⟨x11, bt1480.1, x3, wrap64 (bt1480.1 + x3), wrap64 (x11 - x3)⟩ : S48)]) (wrap64 (x11 - x3)) (wrap64 (x12 + 1))) else (none))) else (some (([] : List (S48)), bt1480.2)))) else (none)) else (if 0 ≤ (wrap64 ((x10.length : Int) - 1)) then (if (wrap64 ((x10.length : Int) - 1)) < (x10.length : Int) then (if ((rd_T48 x10 (wrap64 ((x10.length : Int) - 1))).f3) > 4611686018427387904 then (some (([] : List (S48)), 6)) else (some (x10, 0))) else (none)) else (none))
def demurrageref19_table.f (k : Nat) (a0 : Int) (a1 : Int) (l2 : List (S56)) (a3 : Int) : Option ((List (S48)) × Int) := demurrageref19_table.l0 k a1 l2 a3 ([] : List (S48)) a0 0
set_option maxHeartbeats 8000000 in
set_option maxRecDepth 100000 in
theorem demurrageref19_table.calls (k : Nat) (a0 : Int) (a1 : Int) (A2 : Option Addr) (c2 : Nat) (l2 : List (S56)) (a3 : Int) (r1 : List (S48)) (r2 : Int) (w : World) (hr2 : Kd.C k56 w A2 l2.length l2) (hc2 : l2.length ≤ c2) (h : demurrageref19_table.f k a0 a1 l2 a3 = some (r1, r2)) :
  Calls Try.prog 65 #[.int .i64 a0, .int .i64 a1, .slice A2 l2.length c2, .int .i64 a3] w fun e w' => ∃ v0_ : Value, e = .returned (.tuple #[v0_, .int .i64 r2]) ∧ Kd.R k48 48 w' w.heap.size (fun _ => True) v0_ r1 ∧ Below w.heap.size w w' := by
 have hu56 := Try.underlying56
 have hu48 := Try.underlying48
 have HR2 := aA_ hr2
 have HC2 := aA_ hc2
 clear hr2 hc2
 have HB := aA_ (Below.refl w.heap.size w)
 have H : (demurrageref19_table.l0 k a1 l2 a3 ([] : List (S48)) a0 0) = some (r1, r2) := h
 clear h
 have H' := aA_ H
 clear H
 go_enter Try.func65, Try.ntmps65
 go_wp2
 (try simp only [Act.put, sT_, sZ_, sS_])
 go_loopg [10, 11, 12] k (fun kq v10 v11 v12 w' => ∃ (x10_1 : List (S48)) (x11_1 : Int) (x12_1 : Int), v11 = .int .i64 x11_1 ∧ v12 = .int .i64 x12_1 ∧ Aside0 (demurrageref19_table.l0 kq a1 l2 a3 x10_1 x11_1 x12_1 = some (r1, r2)) ∧ Aside0 (kq ≤ k) ∧ Aside0 (Kd.R k48 48 w' w.heap.size (fun _ => True) v10 x10_1) ∧ Aside0 (Below w.heap.size w w'))
 case atStart => exact ⟨(([] : List (S48))), (a0), (0), (by first | rfl | simp | simp [*]), (by first | rfl | simp | simp [*]), H', ⟨Nat.le_refl _⟩, ⟨by first | exact Kd.R_nil _ _ _ _ _ | exact Kd.N_nil _ _ _ _ _ | exact Kd.V_nil _ _ _ _ _ | exact Kd.Q_nil _ _ _ _ _ | exact Kd.S_nil _ _ _ _ _⟩, ⟨by repeat (with_reducible first | exact HB.out | apply bA_ | apply bN_ | apply bD_)⟩⟩
 case round =>
  clear H'
  try clear c2
  try clear p2
  obtain ⟨x10_1, x11_1, x12_1, rfl, rfl, HA, HK1, HO_10, HB⟩ := hrel
  cases gk with
  | zero => exact absurd HA.out (by simp [demurrageref19_table.l0])
  | succ k1 =>
   have H := HA.out
   clear HA
   simp only [demurrageref19_table.l0] at H
   by_cases c5 : x12_1 < (l2.length : Int)
   ·rw [if_pos c5] at H
    have c5b0 : decide (x12_1 < (l2.length : Int)) = true := decide_eq_true c5
    clear c5
    by_cases c6 : 0 ≤ x12_1
    ·rw [if_pos c6] at H
     have c6b0 : decide (0 ≤ x12_1) = true := decide_eq_true c6
     clear c6
     replace H := bI_ H
     obtain ⟨⟨t1480, t1481⟩, A70, H⟩ := H
     (try dsimp only at H)
     have A7 := aA_ A70
     clear A70
     by_cases c8 : t1481 = 0
     ·rw [if_pos c8] at H
      have c8b0 : (t1481 == 0) = true := beq_iff_eq.mpr c8
      have c8b1 : (t1481 != 0) = false := bne_eq_false_iff_eq.mpr c8
      clear c8
      by_cases c9 : x12_1 = (wrap64 ((l2.length : Int) - 1))
      ·rw [if_pos c9] at H
       have c9b0 : (x12_1 == (wrap64 ((l2.length : Int) - 1))) = true := beq_iff_eq.mpr c9
       have c9b1 : (x12_1 != (wrap64 ((l2.length : Int) - 1))) = false := bne_eq_false_iff_eq.mpr c9
       clear c9
       by_cases c10 : x10_1.length < 3518437208883
       ·rw [if_pos c10] at H
        have LMc10 := aA_ c10
        clear c10
        obtain ⟨y1482, hy1482⟩ : ∃ y_ : List (S48), y_ = (x10_1 ++ [(⟨x11_1, t1480, x11_1, wrap64 (t1480 + x11_1), 0⟩ : S48)]) := ⟨_, rfl⟩
        replace H : (demurrageref19_table.l0 k1 a1 l2 a3 y1482 (0) (wrap64 (x12_1 + 1))) = some (r1, r2) := by first | (rw [hy1482]; with_reducible exact H) | (have H2_ := (Option.bind_some _ _).symm.trans H; rw [hy1482]; with_reducible exact H2_) | (have H2_ := (Option.bind_some _ _).symm.trans H; with_reducible exact H2_) | with_reducible exact H | (rw [hy1482]; exact H) | exact H
        have Ny1482 := aA_ hy1482
        clear hy1482
        have H' := aA_ H
        clear H
        have p1479 : 0 ≤ (x12_1 : Int) := of_decide_eq_true (by first | (with_reducible assumption) | assumption)
        have q1479 : x12_1 < (l2.length : Int) := of_decide_eq_true (by first | (with_reducible assumption) | assumption)
        obtain ⟨ad1479, e1479, hx1479_0, hx1479_1⟩ := at_T56 HR2.out x12_1 p1479 q1479
        cases e1479
        replace hx1479_0 := cC_ HB hx1479_0
        replace hx1479_1 := cC_ HB hx1479_1
        replace p1479 := eq_true p1479
        replace q1479 := eq_true q1479
        go_wp2_with (first | (refine goesL_ (some 30) rfl rfl Try.func26 (by kernel_rfl) rfl #[.int .i64 x11_1, .int .i64 a1, .agg #[.int .i64 ((rd_T56 l2 x12_1).f0), .int .i64 ((rd_T56 l2 x12_1).f1)]] rfl (by (try simp only [mT_, mC_, mN_]); first | done | rfl) ?_; (with_reducible refine (demurrageref18_Of.calls k1 x11_1 a1 ((rd_T56 l2 x12_1).f0) ((rd_T56 l2 x12_1).f1) t1480 t1481 _ A7.out).mono ?_); rintro e w11 ⟨rfl, hb⟩; refine ⟨_, rfl, ?_⟩; replace HO_10 := aA_ (Kd.R_below HO_10.out hb); replace HB := bB_ (by repeat (with_reducible first | exact HB.out | apply bA_ | apply bN_ | apply bD_)) hb; (try clear hb)) | ((with_reducible refine gate_builtin (b := .append) (xs := #[.tmp 43, .tmp 54]) rfl ?_); at_builtin; refine Kd.R_append k48 (w0 := w) w.heap.size rfl (.tmp 43) (.tmp 54) 33 48 (.agg #[(.int .i64 0), (.int .i64 0), (.int .i64 0), (.int .i64 0), (.int .i64 0)]) 40 rfl Try.underlying33 info48 rfl (by decide) (by omega) u10 x10_1 (⟨x11_1, t1480, x11_1, wrap64 (t1480 + x11_1), 0⟩ : S48) [.int .i64 x11_1, .int .i64 t1480, .int .i64 x11_1, .int .i64 (wrap64 (t1480 + x11_1)), .int .i64 (0)] (fun _ => True) (fun _ => False) rfl rfl ?aP (fun _ hk => hk.elim) ?aF ?aO ?aB ?aS ?aL ?_; (case aP => exact k48_mkM _ _ _ (⟨x11_1, t1480, x11_1, wrap64 (t1480 + x11_1), 0⟩ : S48)); (case aB => exact (by repeat (with_reducible first | exact HB.out | apply bA_ | apply bN_ | apply bD_))); (case aF => exact (fun _ _ => trivial)); (case aO => exact (by (with_reducible repeat (first | apply Kd.R_alloc | apply Kd.R_drewN | apply Kd.R_drew)); exact HO_10.out)); (case aS => exact (below_size (by repeat (with_reducible first | exact HB.out | apply bA_ | apply bN_ | apply bD_)))); (case aL => have := LMc10.out; omega); intro v1483 w12 ho hb hg hat; rw [← Ny1482.out] at ho; replace HB := aA_ (hb); have HO1484 := aA_ (ho); clear HO_10; clear ho hb hg hat))
        go_roundg k1
        case measure => have := HK1.out; omega
        case rel => exact ⟨(y1482), (0), (wrap64 (x12_1 + 1)), (by first | rfl | simp | simp [*]), (by first | rfl | simp | simp [*]), H', ⟨by have := HK1.out; omega⟩, ⟨by (with_reducible repeat (first | apply Kd.R_alloc | apply Kd.R_drewN | apply Kd.R_drew)); exact HO1484.out⟩, ⟨by repeat (with_reducible first | exact HB.out | apply bA_ | apply bN_ | apply bD_)⟩⟩
       ·rw [if_neg c10] at H
        exact absurd H (by simp)
      ·rw [if_neg c9] at H
       have c9b0 : (x12_1 == (wrap64 ((l2.length : Int) - 1))) = false := beq_eq_false_iff_ne.mpr c9
       have c9b1 : (x12_1 != (wrap64 ((l2.length : Int) - 1))) = true := bne_iff_ne.mpr c9
       by_cases c13 : x10_1.length < 3518437208883
       ·rw [if_pos c13] at H
        have LMc13 := aA_ c13
        clear c13
        obtain ⟨y1485, hy1485⟩ : ∃ y_ : List (S48), y_ = (x10_1 ++ [(⟨x11_1, t1480, a3, wrap64 (t1480 + a3), wrap64 (x11_1 - a3)⟩ : S48)]) := ⟨_, rfl⟩
        replace H : (demurrageref19_table.l0 k1 a1 l2 a3 y1485 (wrap64 (x11_1 - a3)) (wrap64 (x12_1 + 1))) = some (r1, r2) := by first | (rw [hy1485]; with_reducible exact H) | (have H2_ := (Option.bind_some _ _).symm.trans H; rw [hy1485]; with_reducible exact H2_) | (have H2_ := (Option.bind_some _ _).symm.trans H; with_reducible exact H2_) | with_reducible exact H | (rw [hy1485]; exact H) | exact H
        have Ny1485 := aA_ hy1485
        clear hy1485
        have H' := aA_ H
        clear H
        have p1479 : 0 ≤ (x12_1 : Int) := of_decide_eq_true (by first | (with_reducible assumption) | assumption)
        have q1479 : x12_1 < (l2.length : Int) := of_decide_eq_true (by first | (with_reducible assumption) | assumption)
        obtain ⟨ad1479, e1479, hx1479_0, hx1479_1⟩ := at_T56 HR2.out x12_1 p1479 q1479
        cases e1479
        replace hx1479_0 := cC_ HB hx1479_0
        replace hx1479_1 := cC_ HB hx1479_1
        replace p1479 := eq_true p1479
        replace q1479 := eq_true q1479
        go_wp2_with (first | (refine goesL_ (some 30) rfl rfl Try.func26 (by kernel_rfl) rfl #[.int .i64 x11_1, .int .i64 a1, .agg #[.int .i64 ((rd_T56 l2 x12_1).f0), .int .i64 ((rd_T56 l2 x12_1).f1)]] rfl (by (try simp only [mT_, mC_, mN_]); first | done | rfl) ?_; (with_reducible refine (demurrageref18_Of.calls k1 x11_1 a1 ((rd_T56 l2 x12_1).f0) ((rd_T56 l2 x12_1).f1) t1480 t1481 _ A7.out).mono ?_); rintro e w14 ⟨rfl, hb⟩; refine ⟨_, rfl, ?_⟩; replace HO_10 := aA_ (Kd.R_below HO_10.out hb); replace HB := bB_ (by repeat (with_reducible first | exact HB.out | apply bA_ | apply bN_ | apply bD_)) hb; (try clear hb)) | ((with_reducible refine gate_builtin (b := .append) (xs := #[.tmp 43, .tmp 54]) rfl ?_); at_builtin; refine Kd.R_append k48 (w0 := w) w.heap.size rfl (.tmp 43) (.tmp 54) 33 48 (.agg #[(.int .i64 0), (.int .i64 0), (.int .i64 0), (.int .i64 0), (.int .i64 0)]) 40 rfl Try.underlying33 info48 rfl (by decide) (by omega) u10 x10_1 (⟨x11_1, t1480, a3, wrap64 (t1480 + a3), wrap64 (x11_1 - a3)⟩ : S48) [.int .i64 x11_1, .int .i64 t1480, .int .i64 a3, .int .i64 (wrap64 (t1480 + a3)), .int .i64 (wrap64 (x11_1 - a3))] (fun _ => True) (fun _ => False) rfl rfl ?aP (fun _ hk => hk.elim) ?aF ?aO ?aB ?aS ?aL ?_; (case aP => exact k48_mkM _ _ _ (⟨x11_1, t1480, a3, wrap64 (t1480 + a3), wrap64 (x11_1 - a3)⟩ : S48)); (case aB => exact (by repeat (with_reducible first | exact HB.out | apply bA_ | apply bN_ | apply bD_))); (case aF => exact (fun _ _ => trivial)); (case aO => exact (by (with_reducible repeat (first | apply Kd.R_alloc | apply Kd.R_drewN | apply Kd.R_drew)); exact HO_10.out)); (case aS => exact (below_size (by repeat (with_reducible first | exact HB.out | apply bA_ | apply bN_ | apply bD_)))); (case aL => have := LMc13.out; omega); intro v1486 w15 ho hb hg hat; rw [← Ny1485.out] at ho; replace HB := aA_ (hb); have HO1487 := aA_ (ho); clear HO_10; clear ho hb hg hat))
        go_roundg k1
        case measure => have := HK1.out; omega
        case rel => exact ⟨(y1485), (wrap64 (x11_1 - a3)), (wrap64 (x12_1 + 1)), (by first | rfl | simp | simp [*]), (by first | rfl | simp | simp [*]), H', ⟨by have := HK1.out; omega⟩, ⟨by (with_reducible repeat (first | apply Kd.R_alloc | apply Kd.R_drewN | apply Kd.R_drew)); exact HO1487.out⟩, ⟨by repeat (with_reducible first | exact HB.out | apply bA_ | apply bN_ | apply bD_)⟩⟩
       ·rw [if_neg c13] at H
        exact absurd H (by simp)
     ·rw [if_neg c8] at H
      have c8b0 : (t1481 == 0) = false := beq_eq_false_iff_ne.mpr c8
      have c8b1 : (t1481 != 0) = true := bne_iff_ne.mpr c8
      simp only [Option.some.injEq, Prod.mk.injEq] at H
      obtain ⟨rfl, rfl⟩ := H
      have p1479 : 0 ≤ (x12_1 : Int) := of_decide_eq_true (by first | (with_reducible assumption) | assumption)
      have q1479 : x12_1 < (l2.length : Int) := of_decide_eq_true (by first | (with_reducible assumption) | assumption)
      obtain ⟨ad1479, e1479, hx1479_0, hx1479_1⟩ := at_T56 HR2.out x12_1 p1479 q1479
      cases e1479
      replace hx1479_0 := cC_ HB hx1479_0
      replace hx1479_1 := cC_ HB hx1479_1
      replace p1479 := eq_true p1479
      replace q1479 := eq_true q1479
      go_wp2_with (first | (refine goesL_ (some 30) rfl rfl Try.func26 (by kernel_rfl) rfl #[.int .i64 x11_1, .int .i64 a1, .agg #[.int .i64 ((rd_T56 l2 x12_1).f0), .int .i64 ((rd_T56 l2 x12_1).f1)]] rfl (by (try simp only [mT_, mC_, mN_]); first | done | rfl) ?_; (with_reducible refine (demurrageref18_Of.calls k1 x11_1 a1 ((rd_T56 l2 x12_1).f0) ((rd_T56 l2 x12_1).f1) t1480 t1481 _ A7.out).mono ?_); rintro e w16 ⟨rfl, hb⟩; refine ⟨_, rfl, ?_⟩; replace HO_10 := aA_ (Kd.R_below HO_10.out hb); replace HB := bB_ (by repeat (with_reducible first | exact HB.out | apply bA_ | apply bN_ | apply bD_)) hb; (try clear hb)))
      go_ret2
      exact ⟨_, by rfl, by first | exact Kd.R_nil _ _ _ _ _ | exact Kd.N_nil _ _ _ _ _ | exact Kd.V_nil _ _ _ _ _ | exact Kd.Q_nil _ _ _ _ _ | exact Kd.S_nil _ _ _ _ _, by repeat (with_reducible first | exact HB.out | apply bA_ | apply bN_ | apply bD_)⟩
    ·rw [if_neg c6] at H
     exact absurd H (by simp)
   ·rw [if_neg c5] at H
    have c5b0 : decide (x12_1 < (l2.length : Int)) = false := decide_eq_false c5
    clear c5
    obtain ⟨ji17, hji17⟩ : ∃ j_ : Int, (wrap64 ((x10_1.length : Int) - 1)) = j_ := ⟨_, rfl⟩
    replace H : (if 0 ≤ (ji17) then (if (ji17) < (x10_1.length : Int) then (if ((rd_T48 x10_1 (ji17)).f3) > 4611686018427387904 then (some (([] : List (S48)), 6)) else (some (x10_1, 0))) else (none)) else (none)) = some (r1, r2) := by first | (rw [hji17] at H; exact H) | (simp only [hji17] at H ⊢; exact H)
    have hji17w : (IntKind.i64.wrap ((x10_1.length : Int) - 1)) = ji17 := (i64_w _).trans hji17
    by_cases c18 : 0 ≤ (ji17)
    ·rw [if_pos c18] at H
     have c18b0 : decide (0 ≤ (ji17)) = true := decide_eq_true c18
     clear c18
     by_cases c19 : (ji17) < (x10_1.length : Int)
     ·rw [if_pos c19] at H
      have c19b0 : decide ((ji17) < (x10_1.length : Int)) = true := decide_eq_true c19
      clear c19
      by_cases c20 : ((rd_T48 x10_1 (ji17)).f3) > 4611686018427387904
      ·rw [if_pos c20] at H
       have c20b0 : decide (4611686018427387904 < ((rd_T48 x10_1 (ji17)).f3)) = true := decide_eq_true c20
       clear c20
       simp only [Option.some.injEq, Prod.mk.injEq] at H
       obtain ⟨rfl, rfl⟩ := H
       obtain ⟨Ao21, co21, eo21⟩ := Kd.R_slice HO_10.out
       subst eo21
       have p1478 : 0 ≤ ((ji17) : Int) := of_decide_eq_true (by first | (with_reducible assumption) | assumption)
       have q1478 : (ji17) < (x10_1.length : Int) := of_decide_eq_true (by first | (with_reducible assumption) | assumption)
       obtain ⟨ad1478, e1478, hx1478_0, hx1478_1, hx1478_2, hx1478_3, hx1478_4⟩ := at_T48 (Kd.R_reads' HO_10.out).2.2 (ji17) p1478 q1478
       cases e1478
       replace p1478 := eq_true p1478
       replace q1478 := eq_true q1478
       go_wp2
       go_ret2
       exact ⟨_, by first | rfl | (simp [errW_none, errW_some] <;> rfl) | (simp only [← hji17]; first | rfl | (simp [errW_none, errW_some] <;> rfl)) | (simp [*, errW_none, errW_some] <;> rfl), by first | exact Kd.R_nil _ _ _ _ _ | exact Kd.N_nil _ _ _ _ _ | exact Kd.V_nil _ _ _ _ _ | exact Kd.Q_nil _ _ _ _ _ | exact Kd.S_nil _ _ _ _ _, by repeat (with_reducible first | exact HB.out | apply bA_ | apply bN_ | apply bD_)⟩
      ·rw [if_neg c20] at H
       have c20b0 : decide (4611686018427387904 < ((rd_T48 x10_1 (ji17)).f3)) = false := decide_eq_false c20
       clear c20
       simp only [Option.some.injEq, Prod.mk.injEq] at H
       obtain ⟨rfl, rfl⟩ := H
       obtain ⟨Ao22, co22, eo22⟩ := Kd.R_slice HO_10.out
       subst eo22
       have p1478 : 0 ≤ ((ji17) : Int) := of_decide_eq_true (by first | (with_reducible assumption) | assumption)
       have q1478 : (ji17) < (x10_1.length : Int) := of_decide_eq_true (by first | (with_reducible assumption) | assumption)
       obtain ⟨ad1478, e1478, hx1478_0, hx1478_1, hx1478_2, hx1478_3, hx1478_4⟩ := at_T48 (Kd.R_reads' HO_10.out).2.2 (ji17) p1478 q1478
       cases e1478
       replace p1478 := eq_true p1478
       replace q1478 := eq_true q1478
       go_wp2
       go_ret2
       exact ⟨_, by first | rfl | (simp [errW_none, errW_some] <;> rfl) | (simp only [← hji17]; first | rfl | (simp [errW_none, errW_some] <;> rfl)) | (simp [*, errW_none, errW_some] <;> rfl), by (with_reducible repeat (first | apply Kd.R_alloc | apply Kd.R_drewN | apply Kd.R_drew)); exact HO_10.out, by repeat (with_reducible first | exact HB.out | apply bA_ | apply bN_ | apply bD_)⟩
     ·rw [if_neg c19] at H
      exact absurd H (by simp)
    ·rw [if_neg c18] at H
     exact absurd H (by simp)

def demurrageref19_Bullet.f (k : Nat) (a0 : Int) (a1 : Int) (l2 : List (S56)) : Option ((List (S48)) × Int) := (demurrageref19_why.f k a0 l2).bind fun t1488 => (if t1488 = 0 then ((demurrageref19_table.f k a0 a1 l2 0).bind fun bt1489 => (some (bt1489.1, bt1489.2))) else (some (([] : List (S48)), t1488)))
set_option maxHeartbeats 8000000 in
set_option maxRecDepth 100000 in
theorem demurrageref19_Bullet.calls (k : Nat) (a0 : Int) (a1 : Int) (A2 : Option Addr) (c2 : Nat) (l2 : List (S56)) (r1 : List (S48)) (r2 : Int) (w : World) (hr2 : Kd.C k56 w A2 l2.length l2) (hc2 : l2.length ≤ c2) (h : demurrageref19_Bullet.f k a0 a1 l2 = some (r1, r2)) :
  Calls Try.prog 43 #[.int .i64 a0, .int .i64 a1, .slice A2 l2.length c2] w fun e w' => ∃ v0_ : Value, e = .returned (.tuple #[v0_, .int .i64 r2]) ∧ Kd.R k48 48 w' w.heap.size (fun _ => True) v0_ r1 ∧ Below w.heap.size w w' := by
 have HR2 := aA_ hr2
 have HC2 := aA_ hc2
 clear hr2 hc2
 have HB := aA_ (Below.refl w.heap.size w)
 have H : ((demurrageref19_why.f k a0 l2).bind fun t1488 => (if t1488 = 0 then ((demurrageref19_table.f k a0 a1 l2 0).bind fun bt1489 => (some (bt1489.1, bt1489.2))) else (some (([] : List (S48)), t1488)))) = some (r1, r2) := h
 clear h
 replace H := bI_ H
 obtain ⟨t1488, A40, H⟩ := H
 (try dsimp only at H)
 have A4 := aA_ A40
 clear A40
 by_cases c5 : t1488 = 0
 ·rw [if_pos c5] at H
  have c5b0 : (t1488 == 0) = true := beq_iff_eq.mpr c5
  have c5b1 : (t1488 != 0) = false := bne_eq_false_iff_eq.mpr c5
  clear c5
  replace H := bI_ H
  obtain ⟨⟨t1489, t1490⟩, A60, H⟩ := H
  (try dsimp only at H)
  have A6 := aA_ A60
  clear A60
  simp only [Option.some.injEq, Prod.mk.injEq] at H
  obtain ⟨rfl, rfl⟩ := H
  go_enter Try.func43, Try.ntmps43
  go_wp2_with (first | (refine goesL_ (some 11) rfl rfl Try.func64 (by kernel_rfl) rfl #[.int .i64 a0, .slice A2 l2.length c2] rfl (by (try simp only [mT_, mC_, mN_]); first | done | rfl) ?_; (with_reducible refine (demurrageref19_why.calls k a0 _ _ l2 t1488 _ ?side1 ?side2 A4.out).mono ?_); (case side1 => repeat (first | exact HR2.out | (with_reducible first | refine Kd.C_alloc ?_ _ | refine Kd.C_drewN ?_ _ | refine Kd.C_drew ?_))); (case side2 => exact HC2.out); rintro e w' ⟨rfl, ⟨nd, rfl⟩⟩; refine ⟨_, rfl, ?_⟩) | (refine goesL_ (some 18) rfl rfl Try.func65 (by kernel_rfl) rfl #[.int .i64 a0, .int .i64 a1, .slice A2 l2.length c2, .int .i64 0] rfl (by (try simp only [mT_, mC_, mN_]); first | done | rfl) ?_; (with_reducible refine (demurrageref19_table.calls k a0 a1 _ _ l2 0 t1489 t1490 _ ?side1 ?side2 A6.out).mono ?_); (case side1 => repeat (first | exact HR2.out | (with_reducible first | refine Kd.C_alloc ?_ _ | refine Kd.C_drewN ?_ _ | refine Kd.C_drew ?_))); (case side2 => exact HC2.out); rintro e w7 ⟨v1491, rfl, ho0, hb⟩; refine ⟨_, rfl, ?_⟩; have HO1492 := aA_ (Kd.R_lower ho0 (below_size (by repeat (with_reducible first | exact HB.out | apply bA_ | apply bN_ | apply bD_)))); replace HB := bB_ (by repeat (with_reducible first | exact HB.out | apply bA_ | apply bN_ | apply bD_)) hb; (try clear hb); (try clear ho0)))
  go_ret2
  exact ⟨_, by rfl, by (with_reducible repeat (first | apply Kd.R_alloc | apply Kd.R_drewN | apply Kd.R_drew)); exact HO1492.out, by repeat (with_reducible first | exact HB.out | apply bA_ | apply bN_ | apply bD_)⟩
 ·rw [if_neg c5] at H
  have c5b0 : (t1488 == 0) = false := beq_eq_false_iff_ne.mpr c5
  have c5b1 : (t1488 != 0) = true := bne_iff_ne.mpr c5
  simp only [Option.some.injEq, Prod.mk.injEq] at H
  obtain ⟨rfl, rfl⟩ := H
  go_enter Try.func43, Try.ntmps43
  go_wp2_with (first | (refine goesL_ (some 11) rfl rfl Try.func64 (by kernel_rfl) rfl #[.int .i64 a0, .slice A2 l2.length c2] rfl (by (try simp only [mT_, mC_, mN_]); first | done | rfl) ?_; (with_reducible refine (demurrageref19_why.calls k a0 _ _ l2 t1488 _ ?side1 ?side2 A4.out).mono ?_); (case side1 => repeat (first | exact HR2.out | (with_reducible first | refine Kd.C_alloc ?_ _ | refine Kd.C_drewN ?_ _ | refine Kd.C_drew ?_))); (case side2 => exact HC2.out); rintro e w' ⟨rfl, ⟨nd, rfl⟩⟩; refine ⟨_, rfl, ?_⟩))
  go_ret2
  exact ⟨_, by rfl, by first | exact Kd.R_nil _ _ _ _ _ | exact Kd.N_nil _ _ _ _ _ | exact Kd.V_nil _ _ _ _ _ | exact Kd.Q_nil _ _ _ _ _ | exact Kd.S_nil _ _ _ _ _, by repeat (with_reducible first | exact HB.out | apply bA_ | apply bN_ | apply bD_)⟩

def demurrageref19_Equal.f (k : Nat) (a0 : Int) (a1 : Int) (l2 : List (S56)) : Option ((List (S48)) × Int) := (demurrageref19_why.f k a0 l2).bind fun t1493 => (if t1493 = 0 then (if (l2.length : Int) = 0 then (none) else ((demurrageref19_table.f k a0 a1 l2 (wrap64 (Int.tdiv a0 (l2.length : Int)))).bind fun bt1494 => (some (bt1494.1, bt1494.2)))) else (some (([] : List (S48)), t1493)))
set_option maxHeartbeats 8000000 in
set_option maxRecDepth 100000 in
theorem demurrageref19_Equal.calls (k : Nat) (a0 : Int) (a1 : Int) (A2 : Option Addr) (c2 : Nat) (l2 : List (S56)) (r1 : List (S48)) (r2 : Int) (w : World) (hr2 : Kd.C k56 w A2 l2.length l2) (hc2 : l2.length ≤ c2) (h : demurrageref19_Equal.f k a0 a1 l2 = some (r1, r2)) :
  Calls Try.prog 44 #[.int .i64 a0, .int .i64 a1, .slice A2 l2.length c2] w fun e w' => ∃ v0_ : Value, e = .returned (.tuple #[v0_, .int .i64 r2]) ∧ Kd.R k48 48 w' w.heap.size (fun _ => True) v0_ r1 ∧ Below w.heap.size w w' := by
 have HR2 := aA_ hr2
 have HC2 := aA_ hc2
 clear hr2 hc2
 have HB := aA_ (Below.refl w.heap.size w)
 have H : ((demurrageref19_why.f k a0 l2).bind fun t1493 => (if t1493 = 0 then (if (l2.length : Int) = 0 then (none) else ((demurrageref19_table.f k a0 a1 l2 (wrap64 (Int.tdiv a0 (l2.length : Int)))).bind fun bt1494 => (some (bt1494.1, bt1494.2)))) else (some (([] : List (S48)), t1493)))) = some (r1, r2) := h
 clear h
 replace H := bI_ H
 obtain ⟨t1493, A40, H⟩ := H
 (try dsimp only at H)
 have A4 := aA_ A40
 clear A40
 by_cases c5 : t1493 = 0
 ·rw [if_pos c5] at H
  have c5b0 : (t1493 == 0) = true := beq_iff_eq.mpr c5
  have c5b1 : (t1493 != 0) = false := bne_eq_false_iff_eq.mpr c5
  clear c5
  by_cases c6 : (l2.length : Int) = 0
  ·rw [if_pos c6] at H
   exact absurd H (by simp)
  ·rw [if_neg c6] at H
   have c6b0 : ((l2.length : Int) == 0) = false := beq_eq_false_iff_ne.mpr c6
   have c6b1 : ((l2.length : Int) != 0) = true := bne_iff_ne.mpr c6
   have c6b2 : ¬ (l2 = []) := fun h_ => c6 (by rw [h_]; rfl)
   replace H := bI_ H
   obtain ⟨⟨t1494, t1495⟩, A70, H⟩ := H
   (try dsimp only at H)
   have A7 := aA_ A70
   clear A70
   simp only [Option.some.injEq, Prod.mk.injEq] at H
   obtain ⟨rfl, rfl⟩ := H
   go_enter Try.func44, Try.ntmps44
   go_wp2_with (first | (refine goesL_ (some 11) rfl rfl Try.func64 (by kernel_rfl) rfl #[.int .i64 a0, .slice A2 l2.length c2] rfl (by (try simp only [mT_, mC_, mN_]); first | done | rfl) ?_; (with_reducible refine (demurrageref19_why.calls k a0 _ _ l2 t1493 _ ?side1 ?side2 A4.out).mono ?_); (case side1 => repeat (first | exact HR2.out | (with_reducible first | refine Kd.C_alloc ?_ _ | refine Kd.C_drewN ?_ _ | refine Kd.C_drew ?_))); (case side2 => exact HC2.out); rintro e w' ⟨rfl, ⟨nd, rfl⟩⟩; refine ⟨_, rfl, ?_⟩) | (refine goesL_ (some 22) rfl rfl Try.func65 (by kernel_rfl) rfl #[.int .i64 a0, .int .i64 a1, .slice A2 l2.length c2, .int .i64 (wrap64 (Int.tdiv a0 (l2.length : Int)))] rfl (by (try simp only [mT_, mC_, mN_]); first | done | rfl) ?_; (with_reducible refine (demurrageref19_table.calls k a0 a1 _ _ l2 (wrap64 (Int.tdiv a0 (l2.length : Int))) t1494 t1495 _ ?side1 ?side2 A7.out).mono ?_); (case side1 => repeat (first | exact HR2.out | (with_reducible first | refine Kd.C_alloc ?_ _ | refine Kd.C_drewN ?_ _ | refine Kd.C_drew ?_))); (case side2 => exact HC2.out); rintro e w8 ⟨v1496, rfl, ho0, hb⟩; refine ⟨_, rfl, ?_⟩; have HO1497 := aA_ (Kd.R_lower ho0 (below_size (by repeat (with_reducible first | exact HB.out | apply bA_ | apply bN_ | apply bD_)))); replace HB := bB_ (by repeat (with_reducible first | exact HB.out | apply bA_ | apply bN_ | apply bD_)) hb; (try clear hb); (try clear ho0)))
   go_ret2
   exact ⟨_, by rfl, by (with_reducible repeat (first | apply Kd.R_alloc | apply Kd.R_drewN | apply Kd.R_drew)); exact HO1497.out, by repeat (with_reducible first | exact HB.out | apply bA_ | apply bN_ | apply bD_)⟩
 ·rw [if_neg c5] at H
  have c5b0 : (t1493 == 0) = false := beq_eq_false_iff_ne.mpr c5
  have c5b1 : (t1493 != 0) = true := bne_iff_ne.mpr c5
  simp only [Option.some.injEq, Prod.mk.injEq] at H
  obtain ⟨rfl, rfl⟩ := H
  go_enter Try.func44, Try.ntmps44
  go_wp2_with (first | (refine goesL_ (some 11) rfl rfl Try.func64 (by kernel_rfl) rfl #[.int .i64 a0, .slice A2 l2.length c2] rfl (by (try simp only [mT_, mC_, mN_]); first | done | rfl) ?_; (with_reducible refine (demurrageref19_why.calls k a0 _ _ l2 t1493 _ ?side1 ?side2 A4.out).mono ?_); (case side1 => repeat (first | exact HR2.out | (with_reducible first | refine Kd.C_alloc ?_ _ | refine Kd.C_drewN ?_ _ | refine Kd.C_drew ?_))); (case side2 => exact HC2.out); rintro e w' ⟨rfl, ⟨nd, rfl⟩⟩; refine ⟨_, rfl, ?_⟩))
  go_ret2
  exact ⟨_, by rfl, by first | exact Kd.R_nil _ _ _ _ _ | exact Kd.N_nil _ _ _ _ _ | exact Kd.V_nil _ _ _ _ _ | exact Kd.Q_nil _ _ _ _ _ | exact Kd.S_nil _ _ _ _ _, by repeat (with_reducible first | exact HB.out | apply bA_ | apply bN_ | apply bD_)⟩

end Go.Proofs.Yteikafepdkijdaa.X
