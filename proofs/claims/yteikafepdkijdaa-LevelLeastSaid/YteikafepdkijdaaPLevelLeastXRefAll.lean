-- cut by prune.py, a program of this session
import Derived.Test.YteikafepdkijdaaPLevelLeastX0
import Derived.Test.YteikafepdkijdaaPLevelLeastXRefOf
namespace Go.Proofs.Yteikafepdkijdaa.X
open Go.RowKit Go.Proofs.YteikafepdkijdaaW.PrintWords Go.Proofs.YteikafepdkijdaaW.PrintLast Go.Proofs.YteikafepdkijdaaW.PrintMore
attribute [local go_sem] max2_int min2_int max_two min_two
set_option linter.unusedVariables false
set_option linter.unusedSimpArgs false

def demurrageref18_All.l0 : Nat → Int → Int → List (S56) → List Int → Int → Option (List Int × Int)
 | 0, _, _, _, _, _ => none
 | k + 1, x0, x1, x2, x8, x9 => if x9 < (x2.length : Int) then (if 0 ≤ x9 then ((demurrageref18_Of.f k x0 x1 ((rd_T56 x2 x9).f0) ((rd_T56 x2 x9).f1)).bind fun bt373 => (if bt373.2 = 0 then (if x8.length < 17592186044416 then (demurrageref18_All.l0 k x0 x1 x2 (x8 ++ [bt373.1]) (wrap64 (x9 + 1))) else (none)) else (some (([] : List Int), bt373.2)))) else (none)) else (some (x8, 0))
def demurrageref18_All.f (k : Nat) (a0 : Int) (a1 : Int) (l2 : List (S56)) : Option (List Int × Int) := demurrageref18_All.l0 k a0 a1 l2 ([] : List Int) 0
set_option maxHeartbeats 8000000 in
set_option maxRecDepth 100000 in
theorem demurrageref18_All.calls (k : Nat) (a0 : Int) (a1 : Int) (A2 : Option Addr) (c2 : Nat) (l2 : List (S56)) (r1 : List Int) (r2 : Int) (w : World) (hr2 : Kd.C k56 w A2 l2.length l2) (hc2 : l2.length ≤ c2) (h : demurrageref18_All.f k a0 a1 l2 = some (r1, r2)) :
  Calls Try.prog 39 #[.int .i64 a0, .int .i64 a1, .slice A2 l2.length c2] w fun e w' => ∃ v0_ : Value, e = .returned (.tuple #[v0_, .int .i64 r2]) ∧ Kd.R (Kd.int .i64) 3 w' w.heap.size (fun _ => True) v0_ r1 ∧ Below w.heap.size w w' := by
 have hu56 := Try.underlying56
 have HR2 := aA_ hr2
 have HC2 := aA_ hc2
 clear hr2 hc2
 have HB := aA_ (Below.refl w.heap.size w)
 have H : (demurrageref18_All.l0 k a0 a1 l2 ([] : List Int) 0) = some (r1, r2) := h
 clear h
 have H' := aA_ H
 clear H
 go_enter Try.func39, Try.ntmps39
 go_wp2
 (try simp only [Act.put, sT_, sZ_, sS_])
 go_loopg [8, 9] k (fun kq v8 v9 w' => ∃ (x8_1 : List Int) (x9_1 : Int), v9 = .int .i64 x9_1 ∧ Aside0 (demurrageref18_All.l0 kq a0 a1 l2 x8_1 x9_1 = some (r1, r2)) ∧ Aside0 (kq ≤ k) ∧ Aside0 (Kd.R (Kd.int .i64) 3 w' w.heap.size (fun _ => True) v8 x8_1) ∧ Aside0 (Below w.heap.size w w'))
 case atStart => exact ⟨(([] : List Int)), (0), (by first | rfl | simp | simp [*]), H', ⟨Nat.le_refl _⟩, ⟨by first | exact Kd.R_nil _ _ _ _ _ | exact Kd.N_nil _ _ _ _ _ | exact Kd.V_nil _ _ _ _ _ | exact Kd.Q_nil _ _ _ _ _ | exact Kd.S_nil _ _ _ _ _⟩, ⟨by repeat (with_reducible first | exact HB.out | apply bA_ | apply bN_ | apply bD_)⟩⟩
 case round =>
  clear H'
  try clear c2
  try clear p2
  try clear c3
  obtain ⟨x8_1, x9_1, rfl, HA, HK1, HO_8, HB⟩ := hrel
  cases gk with
  | zero => exact absurd HA.out (by simp [demurrageref18_All.l0])
  | succ k1 =>
   have H := HA.out
   clear HA
   simp only [demurrageref18_All.l0] at H
   by_cases c4 : x9_1 < (l2.length : Int)
   ·rw [if_pos c4] at H
    have c4b0 : decide (x9_1 < (l2.length : Int)) = true := decide_eq_true c4
    clear c4
    by_cases c5 : 0 ≤ x9_1
    ·rw [if_pos c5] at H
     have c5b0 : decide (0 ≤ x9_1) = true := decide_eq_true c5
     clear c5
     replace H := bI_ H
     obtain ⟨⟨t373, t374⟩, A60, H⟩ := H
     (try dsimp only at H)
     have A6 := aA_ A60
     clear A60
     by_cases c7 : t374 = 0
     ·rw [if_pos c7] at H
      have c7b0 : (t374 == 0) = true := beq_iff_eq.mpr c7
      have c7b1 : (t374 != 0) = false := bne_eq_false_iff_eq.mpr c7
      clear c7
      by_cases c8 : x8_1.length < 17592186044416
      ·rw [if_pos c8] at H
       have LMc8 := aA_ c8
       clear c8
       obtain ⟨y375, hy375⟩ : ∃ y_ : List Int, y_ = (x8_1 ++ [t373]) := ⟨_, rfl⟩
       replace H : (demurrageref18_All.l0 k1 a0 a1 l2 y375 (wrap64 (x9_1 + 1))) = some (r1, r2) := by first | (rw [hy375]; with_reducible exact H) | (have H2_ := (Option.bind_some _ _).symm.trans H; rw [hy375]; with_reducible exact H2_) | (have H2_ := (Option.bind_some _ _).symm.trans H; with_reducible exact H2_) | with_reducible exact H | (rw [hy375]; exact H) | exact H
       have Ny375 := aA_ hy375
       clear hy375
       have H' := aA_ H
       clear H
       have p372 : 0 ≤ (x9_1 : Int) := of_decide_eq_true (by first | (with_reducible assumption) | assumption)
       have q372 : x9_1 < (l2.length : Int) := of_decide_eq_true (by first | (with_reducible assumption) | assumption)
       obtain ⟨ad372, e372, hx372_0, hx372_1⟩ := at_T56 HR2.out x9_1 p372 q372
       cases e372
       replace hx372_0 := cC_ HB hx372_0
       replace hx372_1 := cC_ HB hx372_1
       replace p372 := eq_true p372
       replace q372 := eq_true q372
       go_wp2_with (first | (refine goesL_ (some 25) rfl rfl Try.func26 (by kernel_rfl) rfl #[.int .i64 a0, .int .i64 a1, .agg #[.int .i64 ((rd_T56 l2 x9_1).f0), .int .i64 ((rd_T56 l2 x9_1).f1)]] rfl (by (try simp only [mT_, mC_, mN_]); first | done | rfl) ?_; (with_reducible refine (demurrageref18_Of.calls k1 a0 a1 ((rd_T56 l2 x9_1).f0) ((rd_T56 l2 x9_1).f1) t373 t374 _ A6.out).mono ?_); rintro e w9 ⟨rfl, hb⟩; refine ⟨_, rfl, ?_⟩; replace HO_8 := aA_ (Kd.R_below HO_8.out hb); replace HB := bB_ (by repeat (with_reducible first | exact HB.out | apply bA_ | apply bN_ | apply bD_)) hb; (try clear hb)) | ((with_reducible refine gate_builtin (b := .append) (xs := #[.tmp 31, .tmp 33]) rfl ?_); at_builtin; refine Kd.R_append (Kd.int .i64) (w0 := w) w.heap.size rfl (.tmp 31) (.tmp 33) 80 3 (.int .i64 0) 8 rfl Try.underlying80 info3 rfl (by decide) (by omega) u8 x8_1 t373 [.int .i64 t373] (fun _ => True) (fun _ => False) rfl rfl ?aP (fun _ hk => hk.elim) ?aF ?aO ?aB ?aS ?aL ?_; (case aP => exact rfl); (case aB => exact (by repeat (with_reducible first | exact HB.out | apply bA_ | apply bN_ | apply bD_))); (case aF => exact (fun _ _ => trivial)); (case aO => exact (by (with_reducible repeat (first | apply Kd.R_alloc | apply Kd.R_drewN | apply Kd.R_drew)); exact HO_8.out)); (case aS => exact (below_size (by repeat (with_reducible first | exact HB.out | apply bA_ | apply bN_ | apply bD_)))); (case aL => have := LMc8.out; omega); intro v376 w10 ho hb hg hat; rw [← Ny375.out] at ho; replace HB := aA_ (hb); have HO377 := aA_ (ho); clear HO_8; clear ho hb hg hat))
       go_roundg k1
       case measure => have := HK1.out; omega
       case rel => exact ⟨(y375), (wrap64 (x9_1 + 1)), (by first | rfl | simp | simp [*]), H', ⟨by have := HK1.out; omega⟩, ⟨by (with_reducible repeat (first | apply Kd.R_alloc | apply Kd.R_drewN | apply Kd.R_drew)); exact HO377.out⟩, ⟨by repeat (with_reducible first | exact HB.out | apply bA_ | apply bN_ | apply bD_)⟩⟩
      ·rw [if_neg c8] at H
       exact absurd H (by simp)
     ·rw [if_neg c7] at H
      have c7b0 : (t374 == 0) = false := beq_eq_false_iff_ne.mpr c7
      have c7b1 : (t374 != 0) = true := bne_iff_ne.mpr c7
      simp only [Option.some.injEq, Prod.mk.injEq] at H
      obtain ⟨rfl, rfl⟩ := H
      have p372 : 0 ≤ (x9_1 : Int) := of_decide_eq_true (by first | (with_reducible assumption) | assumption)
      have q372 : x9_1 < (l2.length : Int) := of_decide_eq_true (by first | (with_reducible assumption) | assumption)
      obtain ⟨ad372, e372, hx372_0, hx372_1⟩ := at_T56 HR2.out x9_1 p372 q372
      cases e372
      replace hx372_0 := cC_ HB hx372_0
      replace hx372_1 := cC_ HB hx372_1
      replace p372 := eq_true p372
      replace q372 := eq_true q372
      go_wp2_with (first | (refine goesL_ (some 25) rfl rfl Try.func26 (by kernel_rfl) rfl #[.int .i64 a0, .int .i64 a1, .agg #[.int .i64 ((rd_T56 l2 x9_1).f0), .int .i64 ((rd_T56 l2 x9_1).f1)]] rfl (by (try simp only [mT_, mC_, mN_]); first | done | rfl) ?_; (with_reducible refine (demurrageref18_Of.calls k1 a0 a1 ((rd_T56 l2 x9_1).f0) ((rd_T56 l2 x9_1).f1) t373 t374 _ A6.out).mono ?_); rintro e w11 ⟨rfl, hb⟩; refine ⟨_, rfl, ?_⟩; replace HO_8 := aA_ (Kd.R_below HO_8.out hb); replace HB := bB_ (by repeat (with_reducible first | exact HB.out | apply bA_ | apply bN_ | apply bD_)) hb; (try clear hb)))
      go_ret2
      exact ⟨_, by rfl, by first | exact Kd.R_nil _ _ _ _ _ | exact Kd.N_nil _ _ _ _ _ | exact Kd.V_nil _ _ _ _ _ | exact Kd.Q_nil _ _ _ _ _ | exact Kd.S_nil _ _ _ _ _, by repeat (with_reducible first | exact HB.out | apply bA_ | apply bN_ | apply bD_)⟩
    ·rw [if_neg c5] at H
     exact absurd H (by simp)
   ·rw [if_neg c4] at H
    have c4b0 : decide (x9_1 < (l2.length : Int)) = false := decide_eq_false c4
    clear c4
    simp only [Option.some.injEq, Prod.mk.injEq] at H
    obtain ⟨rfl, rfl⟩ := H
    go_wp2
    go_ret2
    exact ⟨_, by rfl, by (with_reducible repeat (first | apply Kd.R_alloc | apply Kd.R_drewN | apply Kd.R_drew)); exact HO_8.out, by repeat (with_reducible first | exact HB.out | apply bA_ | apply bN_ | apply bD_)⟩

end Go.Proofs.Yteikafepdkijdaa.X
