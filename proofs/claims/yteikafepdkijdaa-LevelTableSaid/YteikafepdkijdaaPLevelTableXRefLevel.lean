-- cut by prune.py, a program of this session
import Derived.Test.YteikafepdkijdaaPLevelTableX0
import Derived.Test.YteikafepdkijdaaPLevelTableXRefOf
import Derived.Test.YteikafepdkijdaaPLevelTableXRefAll
namespace Go.Proofs.Yteikafepdkijdaa.X
open Go.RowKit Go.Proofs.YteikafepdkijdaaW.PrintWords Go.Proofs.YteikafepdkijdaaW.PrintLast Go.Proofs.YteikafepdkijdaaW.PrintMore
attribute [local go_sem] max2_int min2_int max_two min_two
set_option linter.unusedVariables false
set_option linter.unusedSimpArgs false

mutual
def demurrageref20_Why.j0 : Nat → Int → Int → List (S56) → Bool → Option (Int)
 | 0, _, _, _, _ => none
 | k + 1, x0, x1, x2, x17 => if x17 = true then (some 1) else (if x0 < 0 then (demurrageref20_Why.j1 k x0 x1 x2 true) else (demurrageref20_Why.j1 k x0 x1 x2 (decide (x0 > 1000000000000000))))
def demurrageref20_Why.j1 : Nat → Int → Int → List (S56) → Bool → Option (Int)
 | 0, _, _, _, _ => none
 | k + 1, x0, x1, x2, x23 => if x23 = true then (some 2) else ((demurrageref18_All.f k x0 x1 x2).bind fun bt378 => (if bt378.2 = 0 then (demurrageref20_Why.l0 k x0 bt378.1 0) else (some bt378.2)))
def demurrageref20_Why.l0 : Nat → Int → List Int → Int → Option (Int)
 | 0, _, _, _ => none
 | k + 1, x0, x7, x9 => if x9 < (x7.length : Int) then (if 0 ≤ x9 then (if (rd x7 x9) > (wrap64 (4611686018427387904 - x0)) then (some 6) else (demurrageref20_Why.l0 k x0 x7 (wrap64 (x9 + 1)))) else (none)) else (some 0)
end
def demurrageref20_Why.f (k : Nat) (a0 : Int) (a1 : Int) (l2 : List (S56)) : Option (Int) := if (l2.length : Int) < 1 then (demurrageref20_Why.j0 k a0 a1 l2 true) else (demurrageref20_Why.j0 k a0 a1 l2 (decide ((l2.length : Int) > 1200)))

def demurrageref20_With.l0 : Nat → Int → List (S56) → Int → List (S48) → Int → Int → Option ((List (S48)))
 | 0, _, _, _, _, _, _ => none
 | k + 1, x1, x2, x3, x9, x10, x11 => if x11 < (x2.length : Int) then (if 0 ≤ x11 then ((demurrageref18_Of.f k x10 x1 ((rd_T56 x2 x11).f0) ((rd_T56 x2 x11).f1)).bind fun bt384 => (if (wrap64 (x3 - bt384.1)) < 0 then (if 0 > x10 then (if x9.length < 3518437208883 then (demurrageref20_With.l0 k x1 x2 x3 (x9 ++ [(⟨x10, bt384.1, x10, wrap64 (bt384.1 + x10), 0⟩ : S48)]) (0) (wrap64 (x11 + 1))) else (none)) else (if x11 = (wrap64 ((x2.length : Int) - 1)) then (if x9.length < 3518437208883 then (demurrageref20_With.l0 k x1 x2 x3 (x9 ++ [(⟨x10, bt384.1, x10, wrap64 (bt384.1 + x10), 0⟩ : S48)]) (0) (wrap64 (x11 + 1))) else (none)) else (if x9.length < 3518437208883 then (demurrageref20_With.l0 k x1 x2 x3 (x9 ++ [(⟨x10, bt384.1, 0, wrap64 (bt384.1), wrap64 (x10)⟩ : S48)]) (wrap64 (x10)) (wrap64 (x11 + 1))) else (none)))) else (if (wrap64 (x3 - bt384.1)) > x10 then (if x9.length < 3518437208883 then (demurrageref20_With.l0 k x1 x2 x3 (x9 ++ [(⟨x10, bt384.1, x10, wrap64 (bt384.1 + x10), 0⟩ : S48)]) (0) (wrap64 (x11 + 1))) else (none)) else (if x11 = (wrap64 ((x2.length : Int) - 1)) then (if x9.length < 3518437208883 then (demurrageref20_With.l0 k x1 x2 x3 (x9 ++ [(⟨x10, bt384.1, x10, wrap64 (bt384.1 + x10), 0⟩ : S48)]) (0) (wrap64 (x11 + 1))) else (none)) else (if x9.length < 3518437208883 then (demurrageref20_With.l0 k x1 x2 x3 (x9 ++ [(⟨x10, bt384.1, wrap64 (x3 - bt384.1), wrap64 (bt384.1 + (wrap64 (x3 - bt384.1))), wrap64 (x10 - (wrap64 (x3 - bt384.1)))⟩ : S48)]) (wrap64 (x10 - (wrap64 (x3 - bt384.1)))) (wrap64 (x11 + 1))) else (none)))))) else (none)) else (some x9)
def demurrageref20_With.f (k : Nat) (a0 : Int) (a1 : Int) (l2 : List (S56)) (a3 : Int) : Option ((List (S48))) := demurrageref20_With.l0 k a1 l2 a3 ([] : List (S48)) a0 0
set_option maxHeartbeats 8000000 in
set_option maxRecDepth 100000 in
theorem demurrageref20_With.calls (k : Nat) (a0 : Int) (a1 : Int) (A2 : Option Addr) (c2 : Nat) (l2 : List (S56)) (a3 : Int) (r : List (S48)) (w : World) (hr2 : Kd.C k56 w A2 l2.length l2) (hc2 : l2.length ≤ c2) (h : demurrageref20_With.f k a0 a1 l2 a3 = some r) :
  Calls Try.prog 23 #[.int .i64 a0, .int .i64 a1, .slice A2 l2.length c2, .int .i64 a3] w fun e w' => ∃ v0_ : Value, e = .returned (v0_) ∧ Kd.R k48 48 w' w.heap.size (fun _ => True) v0_ r ∧ Below w.heap.size w w' := by
 have hu56 := Try.underlying56
 have hu48 := Try.underlying48
 have HR2 := aA_ hr2
 have HC2 := aA_ hc2
 clear hr2 hc2
 have HB := aA_ (Below.refl w.heap.size w)
 have H : (demurrageref20_With.l0 k a1 l2 a3 ([] : List (S48)) a0 0) = some r := h
 clear h
 have H' := aA_ H
 clear H
 go_enter Try.func23, Try.ntmps23
 go_wp2
 (try simp only [Act.put, sT_, sZ_, sS_])
 go_loopg [9, 10, 11] k (fun kq v9 v10 v11 w' => ∃ (x9_1 : List (S48)) (x10_1 : Int) (x11_1 : Int), v10 = .int .i64 x10_1 ∧ v11 = .int .i64 x11_1 ∧ Aside0 (demurrageref20_With.l0 kq a1 l2 a3 x9_1 x10_1 x11_1 = some r) ∧ Aside0 (kq ≤ k) ∧ Aside0 (Kd.R k48 48 w' w.heap.size (fun _ => True) v9 x9_1) ∧ Aside0 (Below w.heap.size w w'))
 case atStart => exact ⟨(([] : List (S48))), (a0), (0), (by first | rfl | simp | simp [*]), (by first | rfl | simp | simp [*]), H', ⟨Nat.le_refl _⟩, ⟨by first | exact Kd.R_nil _ _ _ _ _ | exact Kd.N_nil _ _ _ _ _ | exact Kd.V_nil _ _ _ _ _ | exact Kd.Q_nil _ _ _ _ _ | exact Kd.S_nil _ _ _ _ _⟩, ⟨by repeat (with_reducible first | exact HB.out | apply bA_ | apply bN_ | apply bD_)⟩⟩
 case round =>
  clear H'
  try clear c2
  try clear p2
  obtain ⟨x9_1, x10_1, x11_1, rfl, rfl, HA, HK1, HO_9, HB⟩ := hrel
  cases gk with
  | zero => exact absurd HA.out (by simp [demurrageref20_With.l0])
  | succ k1 =>
   have H := HA.out
   clear HA
   simp only [demurrageref20_With.l0] at H
   by_cases c5 : x11_1 < (l2.length : Int)
   rotate_left
   ·rw [if_neg c5] at H
    have c5b0 : decide (x11_1 < (l2.length : Int)) = false := decide_eq_false c5
    clear c5
    obtain rfl := Option.some.inj H
    go_wp2
    go_ret
    exact ⟨_, by rfl, by (with_reducible repeat (first | apply Kd.R_alloc | apply Kd.R_drewN | apply Kd.R_drew)); exact HO_9.out, by repeat (with_reducible first | exact HB.out | apply bA_ | apply bN_ | apply bD_)⟩
   rw [if_pos c5] at H
   have c5b0 : decide (x11_1 < (l2.length : Int)) = true := decide_eq_true c5
   clear c5
   by_cases c6 : 0 ≤ x11_1
   rotate_left
   ·rw [if_neg c6] at H
    exact absurd H (by simp)
   rw [if_pos c6] at H
   have c6b0 : decide (0 ≤ x11_1) = true := decide_eq_true c6
   clear c6
   replace H := bI_ H
   obtain ⟨⟨t384, t385⟩, A70, H⟩ := H
   (try dsimp only at H)
   have A7 := aA_ A70
   clear A70
   by_cases c8 : (wrap64 (a3 - t384)) < 0
   focus
    rw [if_pos c8] at H
    have c8b0 : decide ((wrap64 (a3 - t384)) < 0) = true := decide_eq_true c8
    clear c8
    by_cases c9 : 0 > x10_1
    rotate_left
    ·rw [if_neg c9] at H
     have c9b0 : decide (x10_1 < 0) = false := decide_eq_false c9
     clear c9
     by_cases c13 : x11_1 = (wrap64 ((l2.length : Int) - 1))
     ·rw [if_pos c13] at H
      have c13b0 : (x11_1 == (wrap64 ((l2.length : Int) - 1))) = true := beq_iff_eq.mpr c13
      have c13b1 : (x11_1 != (wrap64 ((l2.length : Int) - 1))) = false := bne_eq_false_iff_eq.mpr c13
      clear c13
      by_cases c14 : x9_1.length < 3518437208883
      rotate_left
      ·rw [if_neg c14] at H
       exact absurd H (by simp)
      rw [if_pos c14] at H
      have LMc14 := aA_ c14
      clear c14
      obtain ⟨y389, hy389⟩ : ∃ y_ : List (S48), y_ = (x9_1 ++ [(⟨x10_1, t384, x10_1, wrap64 (t384 + x10_1), 0⟩ : S48)]) := ⟨_, rfl⟩
      replace H : (demurrageref20_With.l0 k1 a1 l2 a3 y389 (0) (wrap64 (x11_1 + 1))) = some r := by first | (rw [hy389]; with_reducible exact H) | (have H2_ := (Option.bind_some _ _).symm.trans H; rw [hy389]; with_reducible exact H2_) | (have H2_ := (Option.bind_some _ _).symm.trans H; with_reducible exact H2_) | with_reducible exact H | (rw [hy389]; exact H) | exact H
      have Ny389 := aA_ hy389
      clear hy389
      have H' := aA_ H
      clear H
      have p383 : 0 ≤ (x11_1 : Int) := of_decide_eq_true (by first | (with_reducible assumption) | assumption)
      have q383 : x11_1 < (l2.length : Int) := of_decide_eq_true (by first | (with_reducible assumption) | assumption)
      obtain ⟨ad383, e383, hx383_0, hx383_1⟩ := at_T56 HR2.out x11_1 p383 q383
      cases e383
      replace hx383_0 := cC_ HB hx383_0
      replace hx383_1 := cC_ HB hx383_1
      replace p383 := eq_true p383
      replace q383 := eq_true q383
      go_wp2_with (first | (refine goesL_ (some 29) rfl rfl Try.func26 (by kernel_rfl) rfl #[.int .i64 x10_1, .int .i64 a1, .agg #[.int .i64 ((rd_T56 l2 x11_1).f0), .int .i64 ((rd_T56 l2 x11_1).f1)]] rfl (by (try simp only [mT_, mC_, mN_]); first | done | rfl) ?_; (with_reducible refine (demurrageref18_Of.calls k1 x10_1 a1 ((rd_T56 l2 x11_1).f0) ((rd_T56 l2 x11_1).f1) t384 t385 _ A7.out).mono ?_); rintro e w15 ⟨rfl, hb⟩; refine ⟨_, rfl, ?_⟩; replace HO_9 := aA_ (Kd.R_below HO_9.out hb); replace HB := bB_ (by repeat (with_reducible first | exact HB.out | apply bA_ | apply bN_ | apply bD_)) hb; (try clear hb)) | ((with_reducible refine gate_builtin (b := .append) (xs := #[.tmp 48, .tmp 59]) rfl ?_); (try (refine gate_guard (by rfl) ?_; dsimp only)); at_builtin; refine Kd.R_append k48 (w0 := w) w.heap.size rfl (.tmp 48) (.tmp 59) 33 48 (.agg #[(.int .i64 0), (.int .i64 0), (.int .i64 0), (.int .i64 0), (.int .i64 0)]) 40 rfl Try.underlying33 info48 rfl (by decide) (by omega) u9 x9_1 (⟨x10_1, t384, x10_1, wrap64 (t384 + x10_1), 0⟩ : S48) [.int .i64 x10_1, .int .i64 t384, .int .i64 x10_1, .int .i64 (wrap64 (t384 + x10_1)), .int .i64 (0)] (fun _ => True) (fun _ => False) rfl rfl ?aP (fun _ hk => hk.elim) ?aF ?aO ?aB ?aS ?aL ?_; (case aP => exact k48_mkM _ _ _ (⟨x10_1, t384, x10_1, wrap64 (t384 + x10_1), 0⟩ : S48)); (case aB => exact (by repeat (with_reducible first | exact HB.out | apply bA_ | apply bN_ | apply bD_))); (case aF => exact (fun _ _ => trivial)); (case aO => exact (by (with_reducible repeat (first | apply Kd.R_alloc | apply Kd.R_drewN | apply Kd.R_drew)); exact HO_9.out)); (case aS => exact (below_size (by repeat (with_reducible first | exact HB.out | apply bA_ | apply bN_ | apply bD_)))); (case aL => have := LMc14.out; omega); intro v390 w16 ho hb hg hat; rw [← Ny389.out] at ho; replace HB := aA_ (hb); have HO391 := aA_ (ho); clear HO_9; clear ho hb hg hat))
      go_roundg k1
      case measure => have := HK1.out; omega
      case rel => exact ⟨(y389), (0), (wrap64 (x11_1 + 1)), (by first | rfl | simp | simp [*]), (by first | rfl | simp | simp [*]), H', ⟨by have := HK1.out; omega⟩, ⟨by (with_reducible repeat (first | apply Kd.R_alloc | apply Kd.R_drewN | apply Kd.R_drew)); exact HO391.out⟩, ⟨by repeat (with_reducible first | exact HB.out | apply bA_ | apply bN_ | apply bD_)⟩⟩
     ·rw [if_neg c13] at H
      have c13b0 : (x11_1 == (wrap64 ((l2.length : Int) - 1))) = false := beq_eq_false_iff_ne.mpr c13
      have c13b1 : (x11_1 != (wrap64 ((l2.length : Int) - 1))) = true := bne_iff_ne.mpr c13
      by_cases c17 : x9_1.length < 3518437208883
      rotate_left
      ·rw [if_neg c17] at H
       exact absurd H (by simp)
      rw [if_pos c17] at H
      have LMc17 := aA_ c17
      clear c17
      obtain ⟨y392, hy392⟩ : ∃ y_ : List (S48), y_ = (x9_1 ++ [(⟨x10_1, t384, 0, wrap64 (t384), wrap64 (x10_1)⟩ : S48)]) := ⟨_, rfl⟩
      replace H : (demurrageref20_With.l0 k1 a1 l2 a3 y392 (wrap64 (x10_1)) (wrap64 (x11_1 + 1))) = some r := by first | (rw [hy392]; with_reducible exact H) | (have H2_ := (Option.bind_some _ _).symm.trans H; rw [hy392]; with_reducible exact H2_) | (have H2_ := (Option.bind_some _ _).symm.trans H; with_reducible exact H2_) | with_reducible exact H | (rw [hy392]; exact H) | exact H
      have Ny392 := aA_ hy392
      clear hy392
      have H' := aA_ H
      clear H
      have p383 : 0 ≤ (x11_1 : Int) := of_decide_eq_true (by first | (with_reducible assumption) | assumption)
      have q383 : x11_1 < (l2.length : Int) := of_decide_eq_true (by first | (with_reducible assumption) | assumption)
      obtain ⟨ad383, e383, hx383_0, hx383_1⟩ := at_T56 HR2.out x11_1 p383 q383
      cases e383
      replace hx383_0 := cC_ HB hx383_0
      replace hx383_1 := cC_ HB hx383_1
      replace p383 := eq_true p383
      replace q383 := eq_true q383
      go_wp2_with (first | (refine goesL_ (some 29) rfl rfl Try.func26 (by kernel_rfl) rfl #[.int .i64 x10_1, .int .i64 a1, .agg #[.int .i64 ((rd_T56 l2 x11_1).f0), .int .i64 ((rd_T56 l2 x11_1).f1)]] rfl (by (try simp only [mT_, mC_, mN_]); first | done | rfl) ?_; (with_reducible refine (demurrageref18_Of.calls k1 x10_1 a1 ((rd_T56 l2 x11_1).f0) ((rd_T56 l2 x11_1).f1) t384 t385 _ A7.out).mono ?_); rintro e w18 ⟨rfl, hb⟩; refine ⟨_, rfl, ?_⟩; replace HO_9 := aA_ (Kd.R_below HO_9.out hb); replace HB := bB_ (by repeat (with_reducible first | exact HB.out | apply bA_ | apply bN_ | apply bD_)) hb; (try clear hb)) | ((with_reducible refine gate_builtin (b := .append) (xs := #[.tmp 48, .tmp 59]) rfl ?_); (try (refine gate_guard (by rfl) ?_; dsimp only)); at_builtin; refine Kd.R_append k48 (w0 := w) w.heap.size rfl (.tmp 48) (.tmp 59) 33 48 (.agg #[(.int .i64 0), (.int .i64 0), (.int .i64 0), (.int .i64 0), (.int .i64 0)]) 40 rfl Try.underlying33 info48 rfl (by decide) (by omega) u9 x9_1 (⟨x10_1, t384, 0, wrap64 (t384), wrap64 (x10_1)⟩ : S48) [.int .i64 x10_1, .int .i64 t384, .int .i64 0, .int .i64 (wrap64 (t384)), .int .i64 (wrap64 (x10_1))] (fun _ => True) (fun _ => False) rfl rfl ?aP (fun _ hk => hk.elim) ?aF ?aO ?aB ?aS ?aL ?_; (case aP => exact k48_mkM _ _ _ (⟨x10_1, t384, 0, wrap64 (t384), wrap64 (x10_1)⟩ : S48)); (case aB => exact (by repeat (with_reducible first | exact HB.out | apply bA_ | apply bN_ | apply bD_))); (case aF => exact (fun _ _ => trivial)); (case aO => exact (by (with_reducible repeat (first | apply Kd.R_alloc | apply Kd.R_drewN | apply Kd.R_drew)); exact HO_9.out)); (case aS => exact (below_size (by repeat (with_reducible first | exact HB.out | apply bA_ | apply bN_ | apply bD_)))); (case aL => have := LMc17.out; omega); intro v393 w19 ho hb hg hat; rw [← Ny392.out] at ho; replace HB := aA_ (hb); have HO394 := aA_ (ho); clear HO_9; clear ho hb hg hat))
      go_roundg k1
      case measure => have := HK1.out; omega
      case rel => exact ⟨(y392), (wrap64 (x10_1)), (wrap64 (x11_1 + 1)), (by first | rfl | simp | simp [*]), (by first | rfl | simp | simp [*]), H', ⟨by have := HK1.out; omega⟩, ⟨by (with_reducible repeat (first | apply Kd.R_alloc | apply Kd.R_drewN | apply Kd.R_drew)); exact HO394.out⟩, ⟨by repeat (with_reducible first | exact HB.out | apply bA_ | apply bN_ | apply bD_)⟩⟩
    rw [if_pos c9] at H
    have c9b0 : decide (x10_1 < 0) = true := decide_eq_true c9
    clear c9
    by_cases c10 : x9_1.length < 3518437208883
    rotate_left
    ·rw [if_neg c10] at H
     exact absurd H (by simp)
   rotate_left
   focus
    rw [if_neg c8] at H
    have c8b0 : decide ((wrap64 (a3 - t384)) < 0) = false := decide_eq_false c8
    clear c8
    by_cases c20 : (wrap64 (a3 - t384)) > x10_1
    rotate_left
    ·rw [if_neg c20] at H
     have c20b0 : decide (x10_1 < (wrap64 (a3 - t384))) = false := decide_eq_false c20
     clear c20
     by_cases c24 : x11_1 = (wrap64 ((l2.length : Int) - 1))
     ·rw [if_pos c24] at H
      have c24b0 : (x11_1 == (wrap64 ((l2.length : Int) - 1))) = true := beq_iff_eq.mpr c24
      have c24b1 : (x11_1 != (wrap64 ((l2.length : Int) - 1))) = false := bne_eq_false_iff_eq.mpr c24
      clear c24
      by_cases c25 : x9_1.length < 3518437208883
      rotate_left
      ·rw [if_neg c25] at H
       exact absurd H (by simp)
      rw [if_pos c25] at H
      have LMc25 := aA_ c25
      clear c25
      obtain ⟨y398, hy398⟩ : ∃ y_ : List (S48), y_ = (x9_1 ++ [(⟨x10_1, t384, x10_1, wrap64 (t384 + x10_1), 0⟩ : S48)]) := ⟨_, rfl⟩
      replace H : (demurrageref20_With.l0 k1 a1 l2 a3 y398 (0) (wrap64 (x11_1 + 1))) = some r := by first | (rw [hy398]; with_reducible exact H) | (have H2_ := (Option.bind_some _ _).symm.trans H; rw [hy398]; with_reducible exact H2_) | (have H2_ := (Option.bind_some _ _).symm.trans H; with_reducible exact H2_) | with_reducible exact H | (rw [hy398]; exact H) | exact H
      have Ny398 := aA_ hy398
      clear hy398
      have H' := aA_ H
      clear H
      have p383 : 0 ≤ (x11_1 : Int) := of_decide_eq_true (by first | (with_reducible assumption) | assumption)
      have q383 : x11_1 < (l2.length : Int) := of_decide_eq_true (by first | (with_reducible assumption) | assumption)
      obtain ⟨ad383, e383, hx383_0, hx383_1⟩ := at_T56 HR2.out x11_1 p383 q383
      cases e383
      replace hx383_0 := cC_ HB hx383_0
      replace hx383_1 := cC_ HB hx383_1
      replace p383 := eq_true p383
      replace q383 := eq_true q383
      go_wp2_with (first | (refine goesL_ (some 29) rfl rfl Try.func26 (by kernel_rfl) rfl #[.int .i64 x10_1, .int .i64 a1, .agg #[.int .i64 ((rd_T56 l2 x11_1).f0), .int .i64 ((rd_T56 l2 x11_1).f1)]] rfl (by (try simp only [mT_, mC_, mN_]); first | done | rfl) ?_; (with_reducible refine (demurrageref18_Of.calls k1 x10_1 a1 ((rd_T56 l2 x11_1).f0) ((rd_T56 l2 x11_1).f1) t384 t385 _ A7.out).mono ?_); rintro e w26 ⟨rfl, hb⟩; refine ⟨_, rfl, ?_⟩; replace HO_9 := aA_ (Kd.R_below HO_9.out hb); replace HB := bB_ (by repeat (with_reducible first | exact HB.out | apply bA_ | apply bN_ | apply bD_)) hb; (try clear hb)) | ((with_reducible refine gate_builtin (b := .append) (xs := #[.tmp 48, .tmp 59]) rfl ?_); (try (refine gate_guard (by rfl) ?_; dsimp only)); at_builtin; refine Kd.R_append k48 (w0 := w) w.heap.size rfl (.tmp 48) (.tmp 59) 33 48 (.agg #[(.int .i64 0), (.int .i64 0), (.int .i64 0), (.int .i64 0), (.int .i64 0)]) 40 rfl Try.underlying33 info48 rfl (by decide) (by omega) u9 x9_1 (⟨x10_1, t384, x10_1, wrap64 (t384 + x10_1), 0⟩ : S48) [.int .i64 x10_1, .int .i64 t384, .int .i64 x10_1, .int .i64 (wrap64 (t384 + x10_1)), .int .i64 (0)] (fun _ => True) (fun _ => False) rfl rfl ?aP (fun _ hk => hk.elim) ?aF ?aO ?aB ?aS ?aL ?_; (case aP => exact k48_mkM _ _ _ (⟨x10_1, t384, x10_1, wrap64 (t384 + x10_1), 0⟩ : S48)); (case aB => exact (by repeat (with_reducible first | exact HB.out | apply bA_ | apply bN_ | apply bD_))); (case aF => exact (fun _ _ => trivial)); (case aO => exact (by (with_reducible repeat (first | apply Kd.R_alloc | apply Kd.R_drewN | apply Kd.R_drew)); exact HO_9.out)); (case aS => exact (below_size (by repeat (with_reducible first | exact HB.out | apply bA_ | apply bN_ | apply bD_)))); (case aL => have := LMc25.out; omega); intro v399 w27 ho hb hg hat; rw [← Ny398.out] at ho; replace HB := aA_ (hb); have HO400 := aA_ (ho); clear HO_9; clear ho hb hg hat))
      go_roundg k1
      case measure => have := HK1.out; omega
      case rel => exact ⟨(y398), (0), (wrap64 (x11_1 + 1)), (by first | rfl | simp | simp [*]), (by first | rfl | simp | simp [*]), H', ⟨by have := HK1.out; omega⟩, ⟨by (with_reducible repeat (first | apply Kd.R_alloc | apply Kd.R_drewN | apply Kd.R_drew)); exact HO400.out⟩, ⟨by repeat (with_reducible first | exact HB.out | apply bA_ | apply bN_ | apply bD_)⟩⟩
     ·rw [if_neg c24] at H
      have c24b0 : (x11_1 == (wrap64 ((l2.length : Int) - 1))) = false := beq_eq_false_iff_ne.mpr c24
      have c24b1 : (x11_1 != (wrap64 ((l2.length : Int) - 1))) = true := bne_iff_ne.mpr c24
      by_cases c28 : x9_1.length < 3518437208883
      rotate_left
      ·rw [if_neg c28] at H
       exact absurd H (by simp)
      rw [if_pos c28] at H
      have LMc28 := aA_ c28
      clear c28
      obtain ⟨y401, hy401⟩ : ∃ y_ : List (S48), y_ = (x9_1 ++ [(⟨x10_1, t384, wrap64 (a3 - t384), wrap64 (t384 + (wrap64 (a3 - t384))), wrap64 (x10_1 - (wrap64 (a3 - t384)))⟩ : S48)]) := ⟨_, rfl⟩
      replace H : (demurrageref20_With.l0 k1 a1 l2 a3 y401 (wrap64 (x10_1 - (wrap64 (a3 - t384)))) (wrap64 (x11_1 + 1))) = some r := by first | (rw [hy401]; with_reducible exact H) | (have H2_ := (Option.bind_some _ _).symm.trans H; rw [hy401]; with_reducible exact H2_) | (have H2_ := (Option.bind_some _ _).symm.trans H; with_reducible exact H2_) | with_reducible exact H | (rw [hy401]; exact H) | exact H
      have Ny401 := aA_ hy401
      clear hy401
      have H' := aA_ H
      clear H
      have p383 : 0 ≤ (x11_1 : Int) := of_decide_eq_true (by first | (with_reducible assumption) | assumption)
      have q383 : x11_1 < (l2.length : Int) := of_decide_eq_true (by first | (with_reducible assumption) | assumption)
      obtain ⟨ad383, e383, hx383_0, hx383_1⟩ := at_T56 HR2.out x11_1 p383 q383
      cases e383
      replace hx383_0 := cC_ HB hx383_0
      replace hx383_1 := cC_ HB hx383_1
      replace p383 := eq_true p383
      replace q383 := eq_true q383
      go_wp2_with (first | (refine goesL_ (some 29) rfl rfl Try.func26 (by kernel_rfl) rfl #[.int .i64 x10_1, .int .i64 a1, .agg #[.int .i64 ((rd_T56 l2 x11_1).f0), .int .i64 ((rd_T56 l2 x11_1).f1)]] rfl (by (try simp only [mT_, mC_, mN_]); first | done | rfl) ?_; (with_reducible refine (demurrageref18_Of.calls k1 x10_1 a1 ((rd_T56 l2 x11_1).f0) ((rd_T56 l2 x11_1).f1) t384 t385 _ A7.out).mono ?_); rintro e w29 ⟨rfl, hb⟩; refine ⟨_, rfl, ?_⟩; replace HO_9 := aA_ (Kd.R_below HO_9.out hb); replace HB := bB_ (by repeat (with_reducible first | exact HB.out | apply bA_ | apply bN_ | apply bD_)) hb; (try clear hb)) | ((with_reducible refine gate_builtin (b := .append) (xs := #[.tmp 48, .tmp 59]) rfl ?_); (try (refine gate_guard (by rfl) ?_; dsimp only)); at_builtin; refine Kd.R_append k48 (w0 := w) w.heap.size rfl (.tmp 48) (.tmp 59) 33 48 (.agg #[(.int .i64 0), (.int .i64 0), (.int .i64 0), (.int .i64 0), (.int .i64 0)]) 40 rfl Try.underlying33 info48 rfl (by decide) (by omega) u9 x9_1 (⟨x10_1, t384, wrap64 (a3 - t384), wrap64 (t384 + (wrap64 (a3 - t384))), wrap64 (x10_1 - (wrap64 (a3 - t384)))⟩ : S48) [.int .i64 x10_1, .int .i64 t384, .int .i64 (wrap64 (a3 - t384)), .int .i64 (wrap64 (t384 + (wrap64 (a3 - t384)))), .int .i64 (wrap64 (x10_1 - (wrap64 (a3 - t384))))] (fun _ => True) (fun _ => False) rfl rfl ?aP (fun _ hk => hk.elim) ?aF ?aO ?aB ?aS ?aL ?_; (case aP => exact k48_mkM _ _ _ (⟨x10_1, t384, wrap64 (a3 - t384), wrap64 (t384 + (wrap64 (a3 - t384))), wrap64 (x10_1 - (wrap64 (a3 - t384)))⟩ : S48)); (case aB => exact (by repeat (with_reducible first | exact HB.out | apply bA_ | apply bN_ | apply bD_))); (case aF => exact (fun _ _ => trivial)); (case aO => exact (by (with_reducible repeat (first | apply Kd.R_alloc | apply Kd.R_drewN | apply Kd.R_drew)); exact HO_9.out)); (case aS => exact (below_size (by repeat (with_reducible first | exact HB.out | apply bA_ | apply bN_ | apply bD_)))); (case aL => have := LMc28.out; omega); intro v402 w30 ho hb hg hat; rw [← Ny401.out] at ho; replace HB := aA_ (hb); have HO403 := aA_ (ho); clear HO_9; clear ho hb hg hat))
      go_roundg k1
      case measure => have := HK1.out; omega
      case rel => exact ⟨(y401), (wrap64 (x10_1 - (wrap64 (a3 - t384)))), (wrap64 (x11_1 + 1)), (by first | rfl | simp | simp [*]), (by first | rfl | simp | simp [*]), H', ⟨by have := HK1.out; omega⟩, ⟨by (with_reducible repeat (first | apply Kd.R_alloc | apply Kd.R_drewN | apply Kd.R_drew)); exact HO403.out⟩, ⟨by repeat (with_reducible first | exact HB.out | apply bA_ | apply bN_ | apply bD_)⟩⟩
    rw [if_pos c20] at H
    have c20b0 : decide (x10_1 < (wrap64 (a3 - t384))) = true := decide_eq_true c20
    clear c20
    by_cases c10 : x9_1.length < 3518437208883
    rotate_left
    ·rw [if_neg c10] at H
     exact absurd H (by simp)
   all_goals
    rw [if_pos c10] at H
    have LMc10 := aA_ c10
    clear c10
    obtain ⟨y386, hy386⟩ : ∃ y_ : List (S48), y_ = (x9_1 ++ [(⟨x10_1, t384, x10_1, wrap64 (t384 + x10_1), 0⟩ : S48)]) := ⟨_, rfl⟩
    replace H : (demurrageref20_With.l0 k1 a1 l2 a3 y386 (0) (wrap64 (x11_1 + 1))) = some r := by first | (rw [hy386]; with_reducible exact H) | (have H2_ := (Option.bind_some _ _).symm.trans H; rw [hy386]; with_reducible exact H2_) | (have H2_ := (Option.bind_some _ _).symm.trans H; with_reducible exact H2_) | with_reducible exact H | (rw [hy386]; exact H) | exact H
    have Ny386 := aA_ hy386
    clear hy386
    have H' := aA_ H
    clear H
    have p383 : 0 ≤ (x11_1 : Int) := of_decide_eq_true (by first | (with_reducible assumption) | assumption)
    have q383 : x11_1 < (l2.length : Int) := of_decide_eq_true (by first | (with_reducible assumption) | assumption)
    obtain ⟨ad383, e383, hx383_0, hx383_1⟩ := at_T56 HR2.out x11_1 p383 q383
    cases e383
    replace hx383_0 := cC_ HB hx383_0
    replace hx383_1 := cC_ HB hx383_1
    replace p383 := eq_true p383
    replace q383 := eq_true q383
    go_wp2_with (first | (refine goesL_ (some 29) rfl rfl Try.func26 (by kernel_rfl) rfl #[.int .i64 x10_1, .int .i64 a1, .agg #[.int .i64 ((rd_T56 l2 x11_1).f0), .int .i64 ((rd_T56 l2 x11_1).f1)]] rfl (by (try simp only [mT_, mC_, mN_]); first | done | rfl) ?_; (with_reducible refine (demurrageref18_Of.calls k1 x10_1 a1 ((rd_T56 l2 x11_1).f0) ((rd_T56 l2 x11_1).f1) t384 t385 _ A7.out).mono ?_); rintro e w11 ⟨rfl, hb⟩; refine ⟨_, rfl, ?_⟩; replace HO_9 := aA_ (Kd.R_below HO_9.out hb); replace HB := bB_ (by repeat (with_reducible first | exact HB.out | apply bA_ | apply bN_ | apply bD_)) hb; (try clear hb)) | ((with_reducible refine gate_builtin (b := .append) (xs := #[.tmp 48, .tmp 59]) rfl ?_); (try (refine gate_guard (by rfl) ?_; dsimp only)); at_builtin; refine Kd.R_append k48 (w0 := w) w.heap.size rfl (.tmp 48) (.tmp 59) 33 48 (.agg #[(.int .i64 0), (.int .i64 0), (.int .i64 0), (.int .i64 0), (.int .i64 0)]) 40 rfl Try.underlying33 info48 rfl (by decide) (by omega) u9 x9_1 (⟨x10_1, t384, x10_1, wrap64 (t384 + x10_1), 0⟩ : S48) [.int .i64 x10_1, .int .i64 t384, .int .i64 x10_1, .int .i64 (wrap64 (t384 + x10_1)), .int .i64 (0)] (fun _ => True) (fun _ => False) rfl rfl ?aP (fun _ hk => hk.elim) ?aF ?aO ?aB ?aS ?aL ?_; (case aP => exact k48_mkM _ _ _ (⟨x10_1, t384, x10_1, wrap64 (t384 + x10_1), 0⟩ : S48)); (case aB => exact (by repeat (with_reducible first | exact HB.out | apply bA_ | apply bN_ | apply bD_))); (case aF => exact (fun _ _ => trivial)); (case aO => exact (by (with_reducible repeat (first | apply Kd.R_alloc | apply Kd.R_drewN | apply Kd.R_drew)); exact HO_9.out)); (case aS => exact (below_size (by repeat (with_reducible first | exact HB.out | apply bA_ | apply bN_ | apply bD_)))); (case aL => have := LMc10.out; omega); intro v387 w12 ho hb hg hat; rw [← Ny386.out] at ho; replace HB := aA_ (hb); have HO388 := aA_ (ho); clear HO_9; clear ho hb hg hat))
    go_roundg k1
    case measure => have := HK1.out; omega
    case rel => exact ⟨(y386), (0), (wrap64 (x11_1 + 1)), (by first | rfl | simp | simp [*]), (by first | rfl | simp | simp [*]), H', ⟨by have := HK1.out; omega⟩, ⟨by (with_reducible repeat (first | apply Kd.R_alloc | apply Kd.R_drewN | apply Kd.R_drew)); exact HO388.out⟩, ⟨by repeat (with_reducible first | exact HB.out | apply bA_ | apply bN_ | apply bD_)⟩⟩

end Go.Proofs.Yteikafepdkijdaa.X
