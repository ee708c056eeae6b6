-- CUT by prune.py, a program of this session, to what the claim reaches (out of a text that the kit's printer, the session's programs or the session wrote)
import Derived.Test.YtcdbmmlnmefoeaaPRatioExactX0
import Derived.Test.YtcdbmmlnmefoeaaPRatioExactXEq
import Derived.Test.YtcdbmmlnmefoeaaPRatioExactXRatio
import Derived.Test.YtcdbmmlnmefoeaaPRatioExactXRefRight
import Derived.Test.YtcdbmmlnmefoeaaPRatioExactXRefAdd
import Derived.Test.YtcdbmmlnmefoeaaPRatioExactXSTwo
namespace Go.Proofs.Ytcdbmmlnmefoeaa.X
open Go.RowKit Go.Proofs.YtcdbmmlnmefoeaaW.PrintWords Go.Proofs.YtcdbmmlnmefoeaaW.PrintLast Go.Proofs.YtcdbmmlnmefoeaaW.PrintMore
set_option linter.unusedVariables false
set_option linter.unusedSimpArgs false

attribute [local go_sem high] eqA57
def demurragelaw02_RatioExact.upsl : Nat → Nat → List Bool
  | 0, _ => []
  | n + 1, m => (m % 2 == 1) :: demurragelaw02_RatioExact.upsl n (m / 2)
def demurragelaw02_RatioExact.ups (n m : Nat) : Array Bool := ⟨demurragelaw02_RatioExact.upsl n m⟩
def demurragelaw02_RatioExact.j0 : Nat → Bool → Bool → Int → Int → Int → Int → Option (Bool)
  | 0, _, _, _, _, _, _ => none
  | k + 1, x5, x22, x4730000, x4730001, x4731000, x4731001 => if x22 = true then (some x5) else ((ratio_Add.f x4730000 x4730001 x4731000 x4731001).bind fun bt4788 => ((demurrageref02_Add.f k x4730000 x4730001 x4731000 x4731001).bind fun bt4792 => ((ratio_Mul.f x4730000 x4730001 x4731000 x4731001).bind fun bt4796 => ((demurrageref02_Mul.f k x4730000 x4730001 x4731000 x4731001).bind fun bt4800 => (if x5 = true then (if (bt4788.1 == bt4792.1 && (bt4788.2.1 == bt4792.2.1)) = true then (if bt4788.2.2 = bt4792.2.2 then (if (bt4796.1 == bt4800.1 && (bt4796.2.1 == bt4800.2.1)) = true then (if bt4796.2.2 = bt4800.2.2 then ((ratio_Cmp.f x4730000 x4730001 x4731000 x4731001).bind fun t4804 => ((demurrageref02_Cmp.f k x4730000 x4730001 x4731000 x4731001).bind fun t4805 => (some (t4804 == t4805)))) else (none)) else (none)) else (none)) else (none)) else (none))))))
def demurragelaw02_RatioExact.f (k : Nat) (a0_0 : Int) (a0_1 : Int) (a1_0 : Int) (a1_1 : Int) : Option (Bool) := (demurragelaw02_shown.f k).bind fun t4731 => ((demurrageref02_Right.f k a0_0 a0_1).bind fun t4732 => (if t4732 = true then ((demurrageref02_Right.f k a1_0 a1_1).bind fun t4733 => (demurragelaw02_RatioExact.j0 k t4731 (!t4733) a0_0 a0_1 a1_0 a1_1)) else (demurragelaw02_RatioExact.j0 k t4731 true a0_0 a0_1 a1_0 a1_1)))
def demurragelaw02_RatioExact.T8 : Bool × List (List Nat × List Nat) := (true, [([], []), ([0], [0]), ([1], [1]), ([1], [1]), ([2, 3, 1], [1, 2, 3]), ([1, 4], [1, 4]), ([5, 1], [5]), ([6], [6]), ([6], [6]), ([7, 8, 6], [6, 7, 8]), ([6, 9], [6, 9]), ([10, 6], [10]), ([11], [11]), ([11], [11]), ([12, 13, 11], [11, 12, 13]), ([11, 14], [11, 14]), ([15, 11], [15]), ([16], [16]), ([16], [16]), ([17, 18, 16], [16, 17, 18]), ([16, 19], [16, 19]), ([20, 16], [20]), ([21], [21]), ([21], [21]), ([22, 23, 21, 21], [21, 22, 23]), ([21], [21]), ([21], [21]), ([25, 26, 24, 21], [21, 25, 26]), ([24, 27, 21], [21, 24, 27]), ([21, 28], [21, 28]), ([29, 27, 0, 1, 2, 3, 4, 5, 6, 7, 8, 9, 10, 11, 12, 13, 14, 15, 16, 17, 18, 19, 20, 21, 22, 23, 24, 25, 26, 27, 28, 29], [29])])
def demurragelaw02_RatioExact.B8 : List Nat := [0, 1, 3, 3, 15, 31, 63, 127, 127, 511, 1023, 2047, 4095, 4095, 16383, 32767, 65535, 131071, 131071, 524287, 1048575, 2097151, 4194303, 4194303, 16777215, 4194303, 4194303, 134217727, 268435455, 536870911, 1073741823]
theorem demurragelaw02_RatioExact.tab8 : rtab .any (opsOf Try.f11 8) = demurragelaw02_RatioExact.T8 := by kernel_rfl
theorem demurragelaw02_RatioExact.bits8 : waitsOk demurragelaw02_RatioExact.T8.2 demurragelaw02_RatioExact.B8 = true := by kernel_rfl
set_option maxHeartbeats 8000000 in
set_option maxRecDepth 100000 in
theorem demurragelaw02_RatioExact.calls (k : Nat) (a0_0 : Int) (a0_1 : Int) (a1_0 : Int) (a1_1 : Int) (r : Bool) (w : World) (h : demurragelaw02_RatioExact.f k a0_0 a0_1 a1_0 a1_1 = some r) :
    Calls Try.prog 11 #[.agg #[.int .i64 a0_0, .int .i64 a0_1], .agg #[.int .i64 a1_0, .int .i64 a1_1]] w fun e w' => e = .returned (.bool r) ∧ Below w.heap.size w w' := by
  have hu57 := Try.underlying57
  have HB := Aside0.mk (Below.refl w.heap.size w)
  have H : ((demurragelaw02_shown.f k).bind fun t4731 => ((demurrageref02_Right.f k a0_0 a0_1).bind fun t4732 => (if t4732 = true then ((demurrageref02_Right.f k a1_0 a1_1).bind fun t4733 => (demurragelaw02_RatioExact.j0 k t4731 (!t4733) a0_0 a0_1 a1_0 a1_1)) else (demurragelaw02_RatioExact.j0 k t4731 true a0_0 a0_1 a1_0 a1_1)))) = some r := h
  clear h
  replace H := Option.bind_eq_some_iff.mp H
  obtain ⟨t4731, A30, H⟩ := H
  replace H : ((demurrageref02_Right.f k a0_0 a0_1).bind fun t4732 => (if t4732 = true then ((demurrageref02_Right.f k a1_0 a1_1).bind fun t4733 => (demurragelaw02_RatioExact.j0 k t4731 (!t4733) a0_0 a0_1 a1_0 a1_1)) else (demurragelaw02_RatioExact.j0 k t4731 true a0_0 a0_1 a1_0 a1_1))) = some r := H
  have A3 := Aside0.mk A30
  clear A30
  have HC4 := Aside0.mk H
  clear H
  go_enter Try.func11, Try.ntmps11
  go_upto_region 2 with (first | ((with_reducible refine gate_dst (N := 2) rfl ?_); refine box_event ?hg (N := 2) ?hd (cs := #[.int .i64 a0_0, .int .i64 a0_1]) (t := 57) ?hr ?_; (case hd => rfl); (case hg => rfl); (case hr => go_simp); intro gb4729 hg w5 hbox hb; have n0_ := Aside0.mk (below_step (by repeat (first | (with_reducible first | exact HB.out | apply below_alloc | apply pw_below_drewN | apply below_drew1) | exact HB.out)) hb); have n1_ := Aside0.mk (hbox); have n2_ := Aside0.mk ((by rw [hg]; exact (below_size (by repeat (first | (with_reducible first | exact HB.out | apply below_alloc | apply pw_below_drewN | apply below_drew1) | exact HB.out))) : w.heap.size ≤ gb4729)); have n3_ := Aside0.mk ((by rw [hg]; exact (below_size (by repeat (first | (with_reducible first | exact HB.out | apply below_alloc | apply pw_below_drewN | apply below_drew1) | exact HB.out))) : w.heap.size ≤ gb4729)); clear HB; have HB := n0_; have BK4729 := n1_; have GW4729 := n2_; have GE4729 := n3_; clear n0_ n1_ n2_ n3_; clear hb hbox hg) | ((with_reducible refine gate_dst (N := 3) rfl ?_); refine box_event ?hg (N := 3) ?hd (cs := #[.int .i64 a1_0, .int .i64 a1_1]) (t := 57) ?hr ?_; (case hd => rfl); (case hg => rfl); (case hr => go_simp); intro gb4730 hg w6 hbox hb; have n0_ := Aside0.mk (blk_below BK4729.out hb); have n1_ := Aside0.mk (below_step (by repeat (first | (with_reducible first | exact HB.out | apply below_alloc | apply pw_below_drewN | apply below_drew1 | refine below_set ?_ GE4729.out) | exact HB.out)) hb); have n2_ := Aside0.mk (hbox); have n3_ := Aside0.mk ((by rw [hg]; exact (below_size (by repeat (first | (with_reducible first | exact HB.out | apply below_alloc | apply pw_below_drewN | apply below_drew1 | refine below_set ?_ GE4729.out) | exact HB.out))) : w.heap.size ≤ gb4730)); have n4_ := Aside0.mk ((by rw [hg]; exact (below_size (by repeat (first | (with_reducible first | exact HB.out | apply below_alloc | apply pw_below_drewN | apply below_drew1 | refine below_set ?_ GE4729.out) | exact HB.out))) : w.heap.size ≤ gb4730)); have n5_ := Aside0.mk ((by rw [hg]; exact Nat.ne_of_lt (blk_lt (g := gb4729) (o := .cells #[.int .i64 a0_0, .int .i64 a0_1] 57 (0, 0)) BK4729.out) : gb4729 ≠ gb4730)); have n6_ := Aside0.mk ((by rw [hg]; exact Nat.ne_of_gt (blk_lt (g := gb4729) (o := .cells #[.int .i64 a0_0, .int .i64 a0_1] 57 (0, 0)) BK4729.out) : gb4730 ≠ gb4729)); clear BK4729 HB; have BK4729 := n0_; have HB := n1_; have BK4730 := n2_; have GW4730 := n3_; have GE4730 := n4_; have NB4729_4730 := n5_; have NB4730_4729 := n6_; clear n0_ n1_ n2_ n3_ n4_ n5_ n6_; clear hb hbox hg) | ((with_reducible refine gate_callee (f := 39) rfl ?_); refine goesL_ (some 14) rfl rfl Try.func39 (by kernel_rfl) rfl #[] rfl (by (try simp only [List.map_toArray, List.map_cons, List.map_nil]); first | done | rfl) ?_; (with_reducible refine (demurragelaw02_shown.calls k  t4731 _ A3.out).mono ?_); rintro e w7 ⟨rfl, hb⟩; refine ⟨_, rfl, ?_⟩; have n0_ := Aside0.mk (blk_below BK4729.out hb); have n1_ := Aside0.mk (blk_below BK4730.out hb); have n2_ := Aside0.mk (below_step (by repeat (first | (with_reducible first | exact HB.out | apply below_alloc | apply pw_below_drewN | apply below_drew1 | refine below_set ?_ GE4729.out | refine below_set ?_ GE4730.out) | exact HB.out)) hb); clear BK4729 BK4730; clear HB; have BK4729 := n0_; have BK4730 := n1_; have HB := n2_; clear n0_ n1_ n2_; (try clear hb)))
  (try simp only [Act.put, List.setIfInBounds_toArray, List.set_cons_zero, List.set_cons_succ])
  go_cut [22] (fun v22 wc => ∃ (kq : Nat) (x22_3 : Bool), v22 = .bool x22_3 ∧ Aside0 (demurragelaw02_RatioExact.j0 kq t4731 x22_3 a0_0 a0_1 a1_0 a1_1 = some r) ∧ Aside0 (kq ≤ k) ∧ Aside0 (wc.heap[gb4729]? = some (.cells #[.int .i64 a0_0, .int .i64 a0_1] 57 (0, 0))) ∧ Aside0 (wc.heap[gb4730]? = some (.cells #[.int .i64 a1_0, .int .i64 a1_1] 57 (0, 0))) ∧ Aside0 (Below w.heap.size w wc))
  case first =>
    have H := HC4.out
    clear HC4
    replace H := Option.bind_eq_some_iff.mp H
    obtain ⟨t4732, A80, H⟩ := H
    replace H : (if t4732 = true then ((demurrageref02_Right.f k a1_0 a1_1).bind fun t4733 => (demurragelaw02_RatioExact.j0 k t4731 (!t4733) a0_0 a0_1 a1_0 a1_1)) else (demurragelaw02_RatioExact.j0 k t4731 true a0_0 a0_1 a1_0 a1_1)) = some r := H
    have A8 := Aside0.mk A80
    clear A80
    by_cases c9 : t4732 = true
    · subst c9
      have H1 : ((demurrageref02_Right.f k a1_0 a1_1).bind fun t4733 => (demurragelaw02_RatioExact.j0 k t4731 (!t4733) a0_0 a0_1 a1_0 a1_1)) = some r := by rw [if_pos rfl] at H; exact H
      clear H
      have H := H1
      clear H1
      replace H := Option.bind_eq_some_iff.mp H
      obtain ⟨t4733, A100, H⟩ := H
      replace H : (demurragelaw02_RatioExact.j0 k t4731 (!t4733) a0_0 a0_1 a1_0 a1_1) = some r := H
      have A10 := Aside0.mk A100
      clear A100
      have H' := Aside0.mk H
      clear H
      have hnb11 := NB4729_4730.out
      have hnc11 := NB4730_4729.out
      have hcz12_0 : w7.cell? ⟨gb4729, 0, none⟩ = some (.int .i64 a0_0) := (blk_cell BK4729.out 0).trans rfl
      have hcz12_1 : w7.cell? ⟨gb4729, 1, none⟩ = some (.int .i64 a0_1) := (blk_cell BK4729.out 1).trans rfl
      have hfz12_0 := blk_frozen BK4729.out 0
      have hfz12_1 := blk_frozen BK4729.out 1
      go_wp2_with (first | ((with_reducible refine gate_callee (f := 44) rfl ?_); refine goesL_ (some 16) rfl rfl Try.func44 (by kernel_rfl) rfl #[.agg #[.int .i64 a0_0, .int .i64 a0_1]] rfl (by (try simp only [List.map_toArray, List.map_cons, List.map_nil]); first | done | rfl) ?_; (with_reducible refine (demurrageref02_Right.calls k a0_0 a0_1 true _ A8.out).mono ?_); rintro e w13 ⟨rfl, hb⟩; refine ⟨_, rfl, ?_⟩; have n0_ := Aside0.mk (blk_below BK4729.out hb); have n1_ := Aside0.mk (blk_below BK4730.out hb); have n2_ := Aside0.mk (below_step (by repeat (first | (with_reducible first | exact HB.out | apply below_alloc | apply pw_below_drewN | apply below_drew1 | refine below_set ?_ GE4729.out | refine below_set ?_ GE4730.out) | exact HB.out)) hb); clear BK4729 BK4730; clear HB; have BK4729 := n0_; have BK4730 := n1_; have HB := n2_; clear n0_ n1_ n2_; (try clear hb); have hcz14_0 : w13.cell? ⟨gb4730, 0, none⟩ = some (.int .i64 a1_0) := (blk_cell BK4730.out 0).trans rfl; have hcz14_1 : w13.cell? ⟨gb4730, 1, none⟩ = some (.int .i64 a1_1) := (blk_cell BK4730.out 1).trans rfl; have hfz14_0 := blk_frozen BK4730.out 0; have hfz14_1 := blk_frozen BK4730.out 1) | (go_at_call 44; (with_reducible refine (demurrageref02_Right.calls k a1_0 a1_1 t4733 _ A10.out).mono ?_); rintro e w15 ⟨rfl, hb⟩; have n0_ := Aside0.mk (blk_below BK4729.out hb); have n1_ := Aside0.mk (blk_below BK4730.out hb); have n2_ := Aside0.mk (below_step (by repeat (first | (with_reducible first | exact HB.out | apply below_alloc | apply pw_below_drewN | apply below_drew1 | refine below_set ?_ GE4729.out | refine below_set ?_ GE4730.out) | exact HB.out)) hb); clear BK4729 BK4730; clear HB; have BK4729 := n0_; have BK4730 := n1_; have HB := n2_; clear n0_ n1_ n2_; (try clear hb)))
      go_meet
      case rel => exact ⟨_, (!t4733), (by first | rfl | (simp; done) | (simp [*]; done)), H', ⟨by first | omega | exact Nat.le_refl _⟩, BK4729, BK4730, ⟨by repeat (first | (with_reducible first | exact HB.out | apply below_alloc | apply pw_below_drewN | apply below_drew1 | refine below_set ?_ GE4729.out | refine below_set ?_ GE4730.out) | exact HB.out)⟩⟩
    · replace c9 := Bool.eq_false_iff.mpr c9
      subst c9
      have H1 : (demurragelaw02_RatioExact.j0 k t4731 true a0_0 a0_1 a1_0 a1_1) = some r := by rw [if_neg (show ¬ (false = true) by decide)] at H; exact H
      clear H
      have H := H1
      clear H1
      have H' := Aside0.mk H
      clear H
      have hnb16 := NB4729_4730.out
      have hnc16 := NB4730_4729.out
      have hcz17_0 : w7.cell? ⟨gb4729, 0, none⟩ = some (.int .i64 a0_0) := (blk_cell BK4729.out 0).trans rfl
      have hcz17_1 : w7.cell? ⟨gb4729, 1, none⟩ = some (.int .i64 a0_1) := (blk_cell BK4729.out 1).trans rfl
      have hfz17_0 := blk_frozen BK4729.out 0
      have hfz17_1 := blk_frozen BK4729.out 1
      go_wp2_with (first | ((with_reducible refine gate_callee (f := 44) rfl ?_); refine goesL_ (some 16) rfl rfl Try.func44 (by kernel_rfl) rfl #[.agg #[.int .i64 a0_0, .int .i64 a0_1]] rfl (by (try simp only [List.map_toArray, List.map_cons, List.map_nil]); first | done | rfl) ?_; (with_reducible refine (demurrageref02_Right.calls k a0_0 a0_1 false _ A8.out).mono ?_); rintro e w18 ⟨rfl, hb⟩; refine ⟨_, rfl, ?_⟩; have n0_ := Aside0.mk (blk_below BK4729.out hb); have n1_ := Aside0.mk (blk_below BK4730.out hb); have n2_ := Aside0.mk (below_step (by repeat (first | (with_reducible first | exact HB.out | apply below_alloc | apply pw_below_drewN | apply below_drew1 | refine below_set ?_ GE4729.out | refine below_set ?_ GE4730.out) | exact HB.out)) hb); clear BK4729 BK4730; clear HB; have BK4729 := n0_; have BK4730 := n1_; have HB := n2_; clear n0_ n1_ n2_; (try clear hb)))
      go_meet
      case rel => exact ⟨_, (true), (by first | rfl | (simp; done) | (simp [*]; done)), H', ⟨by first | omega | exact Nat.le_refl _⟩, BK4729, BK4730, ⟨by repeat (first | (with_reducible first | exact HB.out | apply below_alloc | apply pw_below_drewN | apply below_drew1 | refine below_set ?_ GE4729.out | refine below_set ?_ GE4730.out) | exact HB.out)⟩⟩
  case rest =>
    clear HC4
    try clear c1
    try clear p2
    try clear c3
    try clear c4
    try clear c9
    try clear c11
    try clear c16
    try clear hcz12_0
    try clear hcz12_1
    try clear hcz14_0
    try clear hcz14_1
    try clear hcz17_0
    try clear hcz17_1
    try clear hfz12_0
    try clear hfz12_1
    try clear hfz14_0
    try clear hfz14_1
    try clear hfz17_0
    try clear hfz17_1
    obtain ⟨kq, x22_3, rfl, HA, HJ3, BK4729, BK4730, HB⟩ := hcut
    cases kq with
    | zero => exact absurd HA.out (by simp [demurragelaw02_RatioExact.j0])
    | succ kj3 =>
      have H := HA.out
      clear HA
      simp only [demurragelaw02_RatioExact.j0] at H
      by_cases c19 : x22_3 = true
      · subst c19
        have H1 : (some t4731) = some r := by rw [if_pos rfl] at H; exact H
        clear H
        have H := H1
        clear H1
        obtain rfl := Option.some.inj H
        go_wp2
        go_ret
        exact ⟨by rfl, by repeat (first | (with_reducible first | exact HB.out | apply below_alloc | apply pw_below_drewN | apply below_drew1 | refine below_set ?_ GE4729.out | refine below_set ?_ GE4730.out) | exact HB.out)⟩
      · replace c19 := Bool.eq_false_iff.mpr c19
        subst c19
        have H1 : ((ratio_Add.f a0_0 a0_1 a1_0 a1_1).bind fun bt4788 => ((demurrageref02_Add.f kj3 a0_0 a0_1 a1_0 a1_1).bind fun bt4792 => ((ratio_Mul.f a0_0 a0_1 a1_0 a1_1).bind fun bt4796 => ((demurrageref02_Mul.f kj3 a0_0 a0_1 a1_0 a1_1).bind fun bt4800 => (if t4731 = true then (if (bt4788.1 == bt4792.1 && (bt4788.2.1 == bt4792.2.1)) = true then (if bt4788.2.2 = bt4792.2.2 then (if (bt4796.1 == bt4800.1 && (bt4796.2.1 == bt4800.2.1)) = true then (if bt4796.2.2 = bt4800.2.2 then ((ratio_Cmp.f a0_0 a0_1 a1_0 a1_1).bind fun t4804 => ((demurrageref02_Cmp.f kj3 a0_0 a0_1 a1_0 a1_1).bind fun t4805 => (some (t4804 == t4805)))) else (none)) else (none)) else (none)) else (none)) else (none)))))) = some r := by rw [if_neg (show ¬ (false = true) by decide)] at H; exact H
        clear H
        have H := H1
        clear H1
        replace H := Option.bind_eq_some_iff.mp H
        obtain ⟨⟨t4788, t4789, t4790⟩, A200, H⟩ := H
        replace H : ((demurrageref02_Add.f kj3 a0_0 a0_1 a1_0 a1_1).bind fun bt4792 => ((ratio_Mul.f a0_0 a0_1 a1_0 a1_1).bind fun bt4796 => ((demurrageref02_Mul.f kj3 a0_0 a0_1 a1_0 a1_1).bind fun bt4800 => (if t4731 = true then (if (t4788 == bt4792.1 && (t4789 == bt4792.2.1)) = true then (if t4790 = bt4792.2.2 then (if (bt4796.1 == bt4800.1 && (bt4796.2.1 == bt4800.2.1)) = true then (if bt4796.2.2 = bt4800.2.2 then ((ratio_Cmp.f a0_0 a0_1 a1_0 a1_1).bind fun t4804 => ((demurrageref02_Cmp.f kj3 a0_0 a0_1 a1_0 a1_1).bind fun t4805 => (some (t4804 == t4805)))) else (none)) else (none)) else (none)) else (none)) else (none))))) = some r := H
        have A20 := Aside0.mk A200
        clear A200
        replace H := Option.bind_eq_some_iff.mp H
        obtain ⟨⟨t4792, t4793, t4794⟩, A210, H⟩ := H
        replace H : ((ratio_Mul.f a0_0 a0_1 a1_0 a1_1).bind fun bt4796 => ((demurrageref02_Mul.f kj3 a0_0 a0_1 a1_0 a1_1).bind fun bt4800 => (if t4731 = true then (if (t4788 == t4792 && (t4789 == t4793)) = true then (if t4790 = t4794 then (if (bt4796.1 == bt4800.1 && (bt4796.2.1 == bt4800.2.1)) = true then (if bt4796.2.2 = bt4800.2.2 then ((ratio_Cmp.f a0_0 a0_1 a1_0 a1_1).bind fun t4804 => ((demurrageref02_Cmp.f kj3 a0_0 a0_1 a1_0 a1_1).bind fun t4805 => (some (t4804 == t4805)))) else (none)) else (none)) else (none)) else (none)) else (none)))) = some r := H
        have A21 := Aside0.mk A210
        clear A210
        replace H := Option.bind_eq_some_iff.mp H
        obtain ⟨⟨t4796, t4797, t4798⟩, A220, H⟩ := H
        replace H : ((demurrageref02_Mul.f kj3 a0_0 a0_1 a1_0 a1_1).bind fun bt4800 => (if t4731 = true then (if (t4788 == t4792 && (t4789 == t4793)) = true then (if t4790 = t4794 then (if (t4796 == bt4800.1 && (t4797 == bt4800.2.1)) = true then (if t4798 = bt4800.2.2 then ((ratio_Cmp.f a0_0 a0_1 a1_0 a1_1).bind fun t4804 => ((demurrageref02_Cmp.f kj3 a0_0 a0_1 a1_0 a1_1).bind fun t4805 => (some (t4804 == t4805)))) else (none)) else (none)) else (none)) else (none)) else (none))) = some r := H
        have A22 := Aside0.mk A220
        clear A220
        replace H := Option.bind_eq_some_iff.mp H
        obtain ⟨⟨t4800, t4801, t4802⟩, A230, H⟩ := H
        replace H : (if t4731 = true then (if (t4788 == t4792 && (t4789 == t4793)) = true then (if t4790 = t4794 then (if (t4796 == t4800 && (t4797 == t4801)) = true then (if t4798 = t4802 then ((ratio_Cmp.f a0_0 a0_1 a1_0 a1_1).bind fun t4804 => ((demurrageref02_Cmp.f kj3 a0_0 a0_1 a1_0 a1_1).bind fun t4805 => (some (t4804 == t4805)))) else (none)) else (none)) else (none)) else (none)) else (none)) = some r := H
        have A23 := Aside0.mk A230
        clear A230
        by_cases c24 : t4731 = true
        · subst c24
          have H1 : (if (t4788 == t4792 && (t4789 == t4793)) = true then (if t4790 = t4794 then (if (t4796 == t4800 && (t4797 == t4801)) = true then (if t4798 = t4802 then ((ratio_Cmp.f a0_0 a0_1 a1_0 a1_1).bind fun t4804 => ((demurrageref02_Cmp.f kj3 a0_0 a0_1 a1_0 a1_1).bind fun t4805 => (some (t4804 == t4805)))) else (none)) else (none)) else (none)) else (none)) = some r := by rw [if_pos rfl] at H; exact H
          clear H
          have H := H1
          clear H1
          by_cases c25 : (t4788 == t4792 && (t4789 == t4793)) = true
          · rw [if_pos c25] at H
            have c25b0 : (t4788 == t4792 && (t4789 == t4793)) = true := c25
            (try (have c25b1 : decide (t4788 = t4792 && (t4789 == t4793)) = true := by simpa using c25))
            (try (have c25b2 : (t4788 == t4792 && (t4789 == t4793)) = true := by simpa using c25))
            clear c25
            by_cases c26 : t4790 = t4794
            · rw [if_pos c26] at H
              have c26b0 : (t4790 == t4794) = true := beq_iff_eq.mpr c26
              have c26b1 : (t4790 != t4794) = false := bne_eq_false_iff_eq.mpr c26
              clear c26
              by_cases c27 : (t4796 == t4800 && (t4797 == t4801)) = true
              · rw [if_pos c27] at H
                have c27b0 : (t4796 == t4800 && (t4797 == t4801)) = true := c27
                (try (have c27b1 : decide (t4796 = t4800 && (t4797 == t4801)) = true := by simpa using c27))
                (try (have c27b2 : (t4796 == t4800 && (t4797 == t4801)) = true := by simpa using c27))
                clear c27
                by_cases c28 : t4798 = t4802
                · rw [if_pos c28] at H
                  have c28b0 : (t4798 == t4802) = true := beq_iff_eq.mpr c28
                  have c28b1 : (t4798 != t4802) = false := bne_eq_false_iff_eq.mpr c28
                  clear c28
                  replace H := Option.bind_eq_some_iff.mp H
                  obtain ⟨t4804, A290, H⟩ := H
                  replace H : ((demurrageref02_Cmp.f kj3 a0_0 a0_1 a1_0 a1_1).bind fun t4805 => (some (t4804 == t4805))) = some r := H
                  have A29 := Aside0.mk A290
                  clear A290
                  replace H := Option.bind_eq_some_iff.mp H
                  obtain ⟨t4805, A300, H⟩ := H
                  replace H : (some (t4804 == t4805)) = some r := H
                  have A30 := Aside0.mk A300
                  clear A300
                  obtain rfl := Option.some.inj H
                  have hnb31 := NB4729_4730.out
                  have hnc31 := NB4730_4729.out
                  have hcz32_0 : wc.cell? ⟨gb4729, 0, none⟩ = some (.int .i64 a0_0) := (blk_cell BK4729.out 0).trans rfl
                  have hcz32_1 : wc.cell? ⟨gb4729, 1, none⟩ = some (.int .i64 a0_1) := (blk_cell BK4729.out 1).trans rfl
                  have hfz32_0 := blk_frozen BK4729.out 0
                  have hfz32_1 := blk_frozen BK4729.out 1
                  have hcz33_0 : wc.cell? ⟨gb4730, 0, none⟩ = some (.int .i64 a1_0) := (blk_cell BK4730.out 0).trans rfl
                  have hcz33_1 : wc.cell? ⟨gb4730, 1, none⟩ = some (.int .i64 a1_1) := (blk_cell BK4730.out 1).trans rfl
                  have hfz33_0 := blk_frozen BK4730.out 0
                  have hfz33_1 := blk_frozen BK4730.out 1
                  try go_wp2_with (first | ((with_reducible refine gate_callee (f := 46) rfl ?_); refine goesL_ (some 27) rfl rfl Try.func46 (by kernel_rfl) rfl #[.agg #[.int .i64 a0_0, .int .i64 a0_1], .agg #[.int .i64 a1_0, .int .i64 a1_1]] rfl (by (try simp only [List.map_toArray, List.map_cons, List.map_nil]); first | done | rfl) ?_; (with_reducible refine (ratio_Add.calls a0_0 a0_1 a1_0 a1_1 t4788 t4789 t4790 _ A20.out).mono ?_); rintro e w34 ⟨rfl, hb⟩; refine ⟨_, rfl, ?_⟩; have n0_ := Aside0.mk (blk_below BK4729.out hb); have n1_ := Aside0.mk (blk_below BK4730.out hb); have n2_ := Aside0.mk (below_step (by repeat (first | (with_reducible first | exact HB.out | apply below_alloc | apply pw_below_drewN | apply below_drew1 | refine below_set ?_ GE4729.out | refine below_set ?_ GE4730.out) | exact HB.out)) hb); clear BK4729 BK4730; clear HB; have BK4729 := n0_; have BK4730 := n1_; have HB := n2_; clear n0_ n1_ n2_; (try clear hb)) | ((with_reducible refine gate_dst (N := 6) rfl ?_); refine box_event ?hg (N := 6) ?hd (cs := #[.int .i64 0, .int .i64 0]) (t := 57) ?hr ?_; (case hd => rfl); (case hg => rfl); (case hr => go_simp); intro gb4791 hg w35 hbox hb; have n0_ := Aside0.mk (blk_below BK4729.out hb); have n1_ := Aside0.mk (blk_below BK4730.out hb); have n2_ := Aside0.mk (below_step (by repeat (first | (with_reducible first | exact HB.out | apply below_alloc | apply pw_below_drewN | apply below_drew1 | refine below_set ?_ GE4729.out | refine below_set ?_ GE4730.out) | exact HB.out)) hb); have n3_ := Aside0.mk (hbox); have n4_ := Aside0.mk ((by rw [hg]; exact (below_size (by repeat (first | (with_reducible first | exact HB.out | apply below_alloc | apply pw_below_drewN | apply below_drew1 | refine below_set ?_ GE4729.out | refine below_set ?_ GE4730.out) | exact HB.out))) : w.heap.size ≤ gb4791)); have n5_ := Aside0.mk ((by rw [hg]; exact (below_size (by repeat (first | (with_reducible first | exact HB.out | apply below_alloc | apply pw_below_drewN | apply below_drew1 | refine below_set ?_ GE4729.out | refine below_set ?_ GE4730.out) | exact HB.out))) : w.heap.size ≤ gb4791)); have n6_ := Aside0.mk ((by rw [hg]; exact Nat.ne_of_lt (blk_lt (g := gb4729) (o := .cells #[.int .i64 a0_0, .int .i64 a0_1] 57 (0, 0)) BK4729.out) : gb4729 ≠ gb4791)); have n7_ := Aside0.mk ((by rw [hg]; exact Nat.ne_of_gt (blk_lt (g := gb4729) (o := .cells #[.int .i64 a0_0, .int .i64 a0_1] 57 (0, 0)) BK4729.out) : gb4791 ≠ gb4729)); have n8_ := Aside0.mk ((by rw [hg]; exact Nat.ne_of_lt (blk_lt (g := gb4730) (o := .cells #[.int .i64 a1_0, .int .i64 a1_1] 57 (0, 0)) BK4730.out) : gb4730 ≠ gb4791)); have n9_ := Aside0.mk ((by rw [hg]; exact Nat.ne_of_gt (blk_lt (g := gb4730) (o := .cells #[.int .i64 a1_0, .int .i64 a1_1] 57 (0, 0)) BK4730.out) : gb4791 ≠ gb4730)); clear BK4729 BK4730; clear HB; have BK4729 := n0_; have BK4730 := n1_; have HB := n2_; have BK4791 := n3_; have GW4791 := n4_; have GE4791 := n5_; have NB4729_4791 := n6_; have NB4791_4729 := n7_; have NB4730_4791 := n8_; have NB4791_4730 := n9_; clear n0_ n1_ n2_ n3_ n4_ n5_ n6_ n7_ n8_ n9_; clear hb hbox hg; have hnb36 := NB4791_4729.out; have hnc36 := NB4729_4791.out; have hnb37 := NB4791_4730.out; have hnc37 := NB4730_4791.out; have hcz38_0 : w35.cell? ⟨gb4791, 0, none⟩ = some (.int .i64 0) := (blk_cell BK4791.out 0).trans rfl; have hcz38_1 : w35.cell? ⟨gb4791, 1, none⟩ = some (.int .i64 0) := (blk_cell BK4791.out 1).trans rfl; have hfz38_0 := blk_frozen BK4791.out 0; have hfz38_1 := blk_frozen BK4791.out 1; have hcz39_0 : w35.cell? ⟨gb4729, 0, none⟩ = some (.int .i64 a0_0) := (blk_cell BK4729.out 0).trans rfl; have hcz39_1 : w35.cell? ⟨gb4729, 1, none⟩ = some (.int .i64 a0_1) := (blk_cell BK4729.out 1).trans rfl; have hfz39_0 := blk_frozen BK4729.out 0; have hfz39_1 := blk_frozen BK4729.out 1; have hcz40_0 : w35.cell? ⟨gb4730, 0, none⟩ = some (.int .i64 a1_0) := (blk_cell BK4730.out 0).trans rfl; have hcz40_1 : w35.cell? ⟨gb4730, 1, none⟩ = some (.int .i64 a1_1) := (blk_cell BK4730.out 1).trans rfl; have hfz40_0 := blk_frozen BK4730.out 0; have hfz40_1 := blk_frozen BK4730.out 1) | ((with_reducible refine gate_callee (f := 47) rfl ?_); refine goesL_ (some 33) rfl rfl Try.func47 (by kernel_rfl) rfl #[.agg #[.int .i64 a0_0, .int .i64 a0_1], .agg #[.int .i64 a1_0, .int .i64 a1_1]] rfl (by (try simp only [List.map_toArray, List.map_cons, List.map_nil]); first | done | rfl) ?_; (with_reducible refine (demurrageref02_Add.calls kj3 a0_0 a0_1 a1_0 a1_1 t4792 t4793 t4794 _ A21.out).mono ?_); rintro e w41 ⟨rfl, hb⟩; refine ⟨_, rfl, ?_⟩; have n0_ := Aside0.mk (blk_below (g := gb4729) (o := .cells #[.int .i64 a0_0, .int .i64 a0_1] 57 (0, 0)) (by refine blk_far ?_ NB4729_4791.out _; refine blk_far ?_ NB4729_4791.out _; exact BK4729.out) hb); have n1_ := Aside0.mk (blk_below (g := gb4730) (o := .cells #[.int .i64 a1_0, .int .i64 a1_1] 57 (0, 0)) (by refine blk_far ?_ NB4730_4791.out _; refine blk_far ?_ NB4730_4791.out _; exact BK4730.out) hb); have n2_ := Aside0.mk (blk_below (g := gb4791) (o := .cells #[.int .i64 t4788, .int .i64 t4789] 57 (0, 0)) (by refine blk_put (cs := #[.int .i64 t4788, .int .i64 0]) ?_ 1 _ rfl; refine blk_put (cs := #[.int .i64 0, .int .i64 0]) ?_ 0 _ rfl; exact BK4791.out) hb); have n3_ := Aside0.mk (below_step (by repeat (first | (with_reducible first | exact HB.out | apply below_alloc | apply pw_below_drewN | apply below_drew1 | refine below_set ?_ GE4729.out | refine below_set ?_ GE4730.out | refine below_set ?_ GE4791.out) | exact HB.out)) hb); clear BK4729 BK4730 BK4791 HB; have BK4729 := n0_; have BK4730 := n1_; have BK4791 := n2_; have HB := n3_; clear n0_ n1_ n2_ n3_; (try clear hb)) | ((with_reducible refine gate_dst (N := 8) rfl ?_); refine box_event ?hg (N := 8) ?hd (cs := #[.int .i64 0, .int .i64 0]) (t := 57) ?hr ?_; (case hd => rfl); (case hg => rfl); (case hr => go_simp); intro gb4795 hg w42 hbox hb; have n0_ := Aside0.mk (blk_below BK4729.out hb); have n1_ := Aside0.mk (blk_below BK4730.out hb); have n2_ := Aside0.mk (blk_below BK4791.out hb); have n3_ := Aside0.mk (below_step (by repeat (first | (with_reducible first | exact HB.out | apply below_alloc | apply pw_below_drewN | apply below_drew1 | refine below_set ?_ GE4729.out | refine below_set ?_ GE4730.out | refine below_set ?_ GE4791.out) | exact HB.out)) hb); have n4_ := Aside0.mk (hbox); have n5_ := Aside0.mk ((by rw [hg]; exact (below_size (by repeat (first | (with_reducible first | exact HB.out | apply below_alloc | apply pw_below_drewN | apply below_drew1 | refine below_set ?_ GE4729.out | refine below_set ?_ GE4730.out | refine below_set ?_ GE4791.out) | exact HB.out))) : w.heap.size ≤ gb4795)); have n6_ := Aside0.mk ((by rw [hg]; exact (below_size (by repeat (first | (with_reducible first | exact HB.out | apply below_alloc | apply pw_below_drewN | apply below_drew1 | refine below_set ?_ GE4729.out | refine below_set ?_ GE4730.out | refine below_set ?_ GE4791.out) | exact HB.out))) : w.heap.size ≤ gb4795)); have n7_ := Aside0.mk ((by rw [hg]; exact Nat.ne_of_lt (blk_lt (g := gb4729) (o := .cells #[.int .i64 a0_0, .int .i64 a0_1] 57 (0, 0)) BK4729.out) : gb4729 ≠ gb4795)); have n8_ := Aside0.mk ((by rw [hg]; exact Nat.ne_of_gt (blk_lt (g := gb4729) (o := .cells #[.int .i64 a0_0, .int .i64 a0_1] 57 (0, 0)) BK4729.out) : gb4795 ≠ gb4729)); have n9_ := Aside0.mk ((by rw [hg]; exact Nat.ne_of_lt (blk_lt (g := gb4730) (o := .cells #[.int .i64 a1_0, .int .i64 a1_1] 57 (0, 0)) BK4730.out) : gb4730 ≠ gb4795)); have n10_ := Aside0.mk ((by rw [hg]; exact Nat.ne_of_gt (blk_lt (g := gb4730) (o := .cells #[.int .i64 a1_0, .int .i64 a1_1] 57 (0, 0)) BK4730.out) : gb4795 ≠ gb4730)); have n11_ := Aside0.mk ((by rw [hg]; exact Nat.ne_of_lt (blk_lt (g := gb4791) (o := .cells #[.int .i64 t4788, .int .i64 t4789] 57 (0, 0)) BK4791.out) : gb4791 ≠ gb4795)); have n12_ := Aside0.mk ((by rw [hg]; exact Nat.ne_of_gt (blk_lt (g := gb4791) (o := .cells #[.int .i64 t4788, .int .i64 t4789] 57 (0, 0)) BK4791.out) : gb4795 ≠ gb4791)); clear BK4729 BK4730 BK4791 HB; have BK4729 := n0_; have BK4730 := n1_; have BK4791 := n2_; have HB := n3_; have BK4795 := n4_; have GW4795 := n5_; have GE4795 := n6_; have NB4729_4795 := n7_; have NB4795_4729 := n8_; have NB4730_4795 := n9_; have NB4795_4730 := n10_; have NB4791_4795 := n11_; have NB4795_4791 := n12_; clear n0_ n1_ n2_ n3_ n4_ n5_ n6_ n7_ n8_ n9_ n10_ n11_ n12_; clear hb hbox hg; have hnb43 := NB4795_4729.out; have hnc43 := NB4729_4795.out; have hnb44 := NB4795_4730.out; have hnc44 := NB4730_4795.out; have hnb45 := NB4795_4791.out; have hnc45 := NB4791_4795.out; have hcz46_0 : w42.cell? ⟨gb4795, 0, none⟩ = some (.int .i64 0) := (blk_cell BK4795.out 0).trans rfl; have hcz46_1 : w42.cell? ⟨gb4795, 1, none⟩ = some (.int .i64 0) := (blk_cell BK4795.out 1).trans rfl; have hfz46_0 := blk_frozen BK4795.out 0; have hfz46_1 := blk_frozen BK4795.out 1; have hcz47_0 : w42.cell? ⟨gb4729, 0, none⟩ = some (.int .i64 a0_0) := (blk_cell BK4729.out 0).trans rfl; have hcz47_1 : w42.cell? ⟨gb4729, 1, none⟩ = some (.int .i64 a0_1) := (blk_cell BK4729.out 1).trans rfl; have hfz47_0 := blk_frozen BK4729.out 0; have hfz47_1 := blk_frozen BK4729.out 1; have hcz48_0 : w42.cell? ⟨gb4730, 0, none⟩ = some (.int .i64 a1_0) := (blk_cell BK4730.out 0).trans rfl; have hcz48_1 : w42.cell? ⟨gb4730, 1, none⟩ = some (.int .i64 a1_1) := (blk_cell BK4730.out 1).trans rfl; have hfz48_0 := blk_frozen BK4730.out 0; have hfz48_1 := blk_frozen BK4730.out 1) | ((with_reducible refine gate_callee (f := 48) rfl ?_); refine goesL_ (some 39) rfl rfl Try.func48 (by kernel_rfl) rfl #[.agg #[.int .i64 a0_0, .int .i64 a0_1], .agg #[.int .i64 a1_0, .int .i64 a1_1]] rfl (by (try simp only [List.map_toArray, List.map_cons, List.map_nil]); first | done | rfl) ?_; (with_reducible refine (ratio_Mul.calls a0_0 a0_1 a1_0 a1_1 t4796 t4797 t4798 _ A22.out).mono ?_); rintro e w49 ⟨rfl, hb⟩; refine ⟨_, rfl, ?_⟩; have n0_ := Aside0.mk (blk_below (g := gb4729) (o := .cells #[.int .i64 a0_0, .int .i64 a0_1] 57 (0, 0)) (by refine blk_far ?_ NB4729_4795.out _; refine blk_far ?_ NB4729_4795.out _; exact BK4729.out) hb); have n1_ := Aside0.mk (blk_below (g := gb4730) (o := .cells #[.int .i64 a1_0, .int .i64 a1_1] 57 (0, 0)) (by refine blk_far ?_ NB4730_4795.out _; refine blk_far ?_ NB4730_4795.out _; exact BK4730.out) hb); have n2_ := Aside0.mk (blk_below (g := gb4791) (o := .cells #[.int .i64 t4788, .int .i64 t4789] 57 (0, 0)) (by refine blk_far ?_ NB4791_4795.out _; refine blk_far ?_ NB4791_4795.out _; exact BK4791.out) hb); have n3_ := Aside0.mk (blk_below (g := gb4795) (o := .cells #[.int .i64 t4792, .int .i64 t4793] 57 (0, 0)) (by refine blk_put (cs := #[.int .i64 t4792, .int .i64 0]) ?_ 1 _ rfl; refine blk_put (cs := #[.int .i64 0, .int .i64 0]) ?_ 0 _ rfl; exact BK4795.out) hb); have n4_ := Aside0.mk (below_step (by repeat (first | (with_reducible first | exact HB.out | apply below_alloc | apply pw_below_drewN | apply below_drew1 | refine below_set ?_ GE4729.out | refine below_set ?_ GE4730.out | refine below_set ?_ GE4791.out | refine below_set ?_ GE4795.out) | exact HB.out)) hb); clear BK4729 BK4730 BK4791 BK4795; clear HB; have BK4729 := n0_; have BK4730 := n1_; have BK4791 := n2_; have BK4795 := n3_; have HB := n4_; clear n0_ n1_ n2_ n3_ n4_; (try clear hb)) | ((with_reducible refine gate_dst (N := 10) rfl ?_); refine box_event ?hg (N := 10) ?hd (cs := #[.int .i64 0, .int .i64 0]) (t := 57) ?hr ?_; (case hd => rfl); (case hg => rfl); (case hr => go_simp); intro gb4799 hg w50 hbox hb; have n0_ := Aside0.mk (blk_below BK4729.out hb); have n1_ := Aside0.mk (blk_below BK4730.out hb); have n2_ := Aside0.mk (blk_below BK4791.out hb); have n3_ := Aside0.mk (blk_below BK4795.out hb); have n4_ := Aside0.mk (below_step (by repeat (first | (with_reducible first | exact HB.out | apply below_alloc | apply pw_below_drewN | apply below_drew1 | refine below_set ?_ GE4729.out | refine below_set ?_ GE4730.out | refine below_set ?_ GE4791.out | refine below_set ?_ GE4795.out) | exact HB.out)) hb); have n5_ := Aside0.mk (hbox); have n6_ := Aside0.mk ((by rw [hg]; exact (below_size (by repeat (first | (with_reducible first | exact HB.out | apply below_alloc | apply pw_below_drewN | apply below_drew1 | refine below_set ?_ GE4729.out | refine below_set ?_ GE4730.out | refine below_set ?_ GE4791.out | refine below_set ?_ GE4795.out) | exact HB.out))) : w.heap.size ≤ gb4799)); have n7_ := Aside0.mk ((by rw [hg]; exact (below_size (by repeat (first | (with_reducible first | exact HB.out | apply below_alloc | apply pw_below_drewN | apply below_drew1 | refine below_set ?_ GE4729.out | refine below_set ?_ GE4730.out | refine below_set ?_ GE4791.out | refine below_set ?_ GE4795.out) | exact HB.out))) : w.heap.size ≤ gb4799)); have n8_ := Aside0.mk ((by rw [hg]; exact Nat.ne_of_lt (blk_lt (g := gb4729) (o := .cells #[.int .i64 a0_0, .int .i64 a0_1] 57 (0, 0)) BK4729.out) : gb4729 ≠ gb4799)); have n9_ := Aside0.mk ((by rw [hg]; exact Nat.ne_of_gt (blk_lt (g := gb4729) (o := .cells #[.int .i64 a0_0, .int .i64 a0_1] 57 (0, 0)) BK4729.out) : gb4799 ≠ gb4729)); have n10_ := Aside0.mk ((by rw [hg]; exact Nat.ne_of_lt (blk_lt (g := gb4730) (o := .cells #[.int .i64 a1_0, .int .i64 a1_1] 57 (0, 0)) BK4730.out) : gb4730 ≠ gb4799)); have n11_ := Aside0.mk ((by rw [hg]; exact Nat.ne_of_gt (blk_lt (g := gb4730) (o := .cells #[.int .i64 a1_0, .int .i64 a1_1] 57 (0, 0)) BK4730.out) : gb4799 ≠ gb4730)); have n12_ := Aside0.mk ((by rw [hg]; exact Nat.ne_of_lt (blk_lt (g := gb4791) (o := .cells #[.int .i64 t4788, .int .i64 t4789] 57 (0, 0)) BK4791.out) : gb4791 ≠ gb4799)); have n13_ := Aside0.mk ((by rw [hg]; exact Nat.ne_of_gt (blk_lt (g := gb4791) (o := .cells #[.int .i64 t4788, .int .i64 t4789] 57 (0, 0)) BK4791.out) : gb4799 ≠ gb4791)); have n14_ := Aside0.mk ((by rw [hg]; exact Nat.ne_of_lt (blk_lt (g := gb4795) (o := .cells #[.int .i64 t4792, .int .i64 t4793] 57 (0, 0)) BK4795.out) : gb4795 ≠ gb4799)); have n15_ := Aside0.mk ((by rw [hg]; exact Nat.ne_of_gt (blk_lt (g := gb4795) (o := .cells #[.int .i64 t4792, .int .i64 t4793] 57 (0, 0)) BK4795.out) : gb4799 ≠ gb4795)); clear BK4729 BK4730 BK4791 BK4795; clear HB; have BK4729 := n0_; have BK4730 := n1_; have BK4791 := n2_; have BK4795 := n3_; have HB := n4_; have BK4799 := n5_; have GW4799 := n6_; have GE4799 := n7_; have NB4729_4799 := n8_; have NB4799_4729 := n9_; have NB4730_4799 := n10_; have NB4799_4730 := n11_; have NB4791_4799 := n12_; have NB4799_4791 := n13_; have NB4795_4799 := n14_; have NB4799_4795 := n15_; clear n0_ n1_ n2_ n3_ n4_ n5_ n6_ n7_ n8_ n9_ n10_ n11_ n12_ n13_ n14_ n15_; clear hb hbox hg; have hnb51 := NB4799_4729.out; have hnc51 := NB4729_4799.out; have hnb52 := NB4799_4730.out; have hnc52 := NB4730_4799.out; have hnb53 := NB4799_4791.out; have hnc53 := NB4791_4799.out; have hnb54 := NB4799_4795.out; have hnc54 := NB4795_4799.out; have hcz55_0 : w50.cell? ⟨gb4799, 0, none⟩ = some (.int .i64 0) := (blk_cell BK4799.out 0).trans rfl; have hcz55_1 : w50.cell? ⟨gb4799, 1, none⟩ = some (.int .i64 0) := (blk_cell BK4799.out 1).trans rfl; have hfz55_0 := blk_frozen BK4799.out 0; have hfz55_1 := blk_frozen BK4799.out 1; have hcz56_0 : w50.cell? ⟨gb4729, 0, none⟩ = some (.int .i64 a0_0) := (blk_cell BK4729.out 0).trans rfl; have hcz56_1 : w50.cell? ⟨gb4729, 1, none⟩ = some (.int .i64 a0_1) := (blk_cell BK4729.out 1).trans rfl; have hfz56_0 := blk_frozen BK4729.out 0; have hfz56_1 := blk_frozen BK4729.out 1; have hcz57_0 : w50.cell? ⟨gb4730, 0, none⟩ = some (.int .i64 a1_0) := (blk_cell BK4730.out 0).trans rfl; have hcz57_1 : w50.cell? ⟨gb4730, 1, none⟩ = some (.int .i64 a1_1) := (blk_cell BK4730.out 1).trans rfl; have hfz57_0 := blk_frozen BK4730.out 0; have hfz57_1 := blk_frozen BK4730.out 1) | ((with_reducible refine gate_callee (f := 49) rfl ?_); refine goesL_ (some 45) rfl rfl Try.func49 (by kernel_rfl) rfl #[.agg #[.int .i64 a0_0, .int .i64 a0_1], .agg #[.int .i64 a1_0, .int .i64 a1_1]] rfl (by (try simp only [List.map_toArray, List.map_cons, List.map_nil]); first | done | rfl) ?_; (with_reducible refine (demurrageref02_Mul.calls kj3 a0_0 a0_1 a1_0 a1_1 t4800 t4801 t4802 _ A23.out).mono ?_); rintro e w58 ⟨rfl, hb⟩; refine ⟨_, rfl, ?_⟩; have n0_ := Aside0.mk (blk_below (g := gb4729) (o := .cells #[.int .i64 a0_0, .int .i64 a0_1] 57 (0, 0)) (by refine blk_far ?_ NB4729_4799.out _; refine blk_far ?_ NB4729_4799.out _; exact BK4729.out) hb); have n1_ := Aside0.mk (blk_below (g := gb4730) (o := .cells #[.int .i64 a1_0, .int .i64 a1_1] 57 (0, 0)) (by refine blk_far ?_ NB4730_4799.out _; refine blk_far ?_ NB4730_4799.out _; exact BK4730.out) hb); have n2_ := Aside0.mk (blk_below (g := gb4791) (o := .cells #[.int .i64 t4788, .int .i64 t4789] 57 (0, 0)) (by refine blk_far ?_ NB4791_4799.out _; refine blk_far ?_ NB4791_4799.out _; exact BK4791.out) hb); have n3_ := Aside0.mk (blk_below (g := gb4795) (o := .cells #[.int .i64 t4792, .int .i64 t4793] 57 (0, 0)) (by refine blk_far ?_ NB4795_4799.out _; refine blk_far ?_ NB4795_4799.out _; exact BK4795.out) hb); have n4_ := Aside0.mk (blk_below (g := gb4799) (o := .cells #[.int .i64 t4796, .int .i64 t4797] 57 (0, 0)) (by refine blk_put (cs := #[.int .i64 t4796, .int .i64 0]) ?_ 1 _ rfl; refine blk_put (cs := #[.int .i64 0, .int .i64 0]) ?_ 0 _ rfl; exact BK4799.out) hb); have n5_ := Aside0.mk (below_step (by repeat (first | (with_reducible first | exact HB.out | apply below_alloc | apply pw_below_drewN | apply below_drew1 | refine below_set ?_ GE4729.out | refine below_set ?_ GE4730.out | refine below_set ?_ GE4791.out | refine below_set ?_ GE4795.out | refine below_set ?_ GE4799.out) | exact HB.out)) hb); clear BK4729 BK4730 BK4791 BK4795; clear BK4799 HB; have BK4729 := n0_; have BK4730 := n1_; have BK4791 := n2_; have BK4795 := n3_; have BK4799 := n4_; have HB := n5_; clear n0_ n1_ n2_ n3_ n4_ n5_; (try clear hb)) | ((with_reducible refine gate_dst (N := 12) rfl ?_); refine box_event ?hg (N := 12) ?hd (cs := #[.int .i64 0, .int .i64 0]) (t := 57) ?hr ?_; (case hd => rfl); (case hg => rfl); (case hr => go_simp); intro gb4803 hg w59 hbox hb; have n0_ := Aside0.mk (blk_below BK4729.out hb); have n1_ := Aside0.mk (blk_below BK4730.out hb); have n2_ := Aside0.mk (blk_below BK4791.out hb); have n3_ := Aside0.mk (blk_below BK4795.out hb); have n4_ := Aside0.mk (blk_below BK4799.out hb); have n5_ := Aside0.mk (below_step (by repeat (first | (with_reducible first | exact HB.out | apply below_alloc | apply pw_below_drewN | apply below_drew1 | refine below_set ?_ GE4729.out | refine below_set ?_ GE4730.out | refine below_set ?_ GE4791.out | refine below_set ?_ GE4795.out | refine below_set ?_ GE4799.out) | exact HB.out)) hb); have n6_ := Aside0.mk (hbox); have n7_ := Aside0.mk ((by rw [hg]; exact (below_size (by repeat (first | (with_reducible first | exact HB.out | apply below_alloc | apply pw_below_drewN | apply below_drew1 | refine below_set ?_ GE4729.out | refine below_set ?_ GE4730.out | refine below_set ?_ GE4791.out | refine below_set ?_ GE4795.out | refine below_set ?_ GE4799.out) | exact HB.out))) : w.heap.size ≤ gb4803)); have n8_ := Aside0.mk ((by rw [hg]; exact (below_size (by repeat (first | (with_reducible first | exact HB.out | apply below_alloc | apply pw_below_drewN | apply below_drew1 | refine below_set ?_ GE4729.out | refine below_set ?_ GE4730.out | refine below_set ?_ GE4791.out | refine below_set ?_ GE4795.out | refine below_set ?_ GE4799.out) | exact HB.out))) : w.heap.size ≤ gb4803)); have n9_ := Aside0.mk ((by rw [hg]; exact Nat.ne_of_lt (blk_lt (g := gb4729) (o := .cells #[.int .i64 a0_0, .int .i64 a0_1] 57 (0, 0)) BK4729.out) : gb4729 ≠ gb4803)); have n10_ := Aside0.mk ((by rw [hg]; exact Nat.ne_of_gt (blk_lt (g := gb4729) (o := .cells #[.int .i64 a0_0, .int .i64 a0_1] 57 (0, 0)) BK4729.out) : gb4803 ≠ gb4729)); have n11_ := Aside0.mk ((by rw [hg]; exact Nat.ne_of_lt (blk_lt (g := gb4730) (o := .cells #[.int .i64 a1_0, .int .i64 a1_1] 57 (0, 0)) BK4730.out) : gb4730 ≠ gb4803)); have n12_ := Aside0.mk ((by rw [hg]; exact Nat.ne_of_gt (blk_lt (g := gb4730) (o := .cells #[.int .i64 a1_0, .int .i64 a1_1] 57 (0, 0)) BK4730.out) : gb4803 ≠ gb4730)); have n13_ := Aside0.mk ((by rw [hg]; exact Nat.ne_of_lt (blk_lt (g := gb4791) (o := .cells #[.int .i64 t4788, .int .i64 t4789] 57 (0, 0)) BK4791.out) : gb4791 ≠ gb4803)); have n14_ := Aside0.mk ((by rw [hg]; exact Nat.ne_of_gt (blk_lt (g := gb4791) (o := .cells #[.int .i64 t4788, .int .i64 t4789] 57 (0, 0)) BK4791.out) : gb4803 ≠ gb4791)); have n15_ := Aside0.mk ((by rw [hg]; exact Nat.ne_of_lt (blk_lt (g := gb4795) (o := .cells #[.int .i64 t4792, .int .i64 t4793] 57 (0, 0)) BK4795.out) : gb4795 ≠ gb4803)); have n16_ := Aside0.mk ((by rw [hg]; exact Nat.ne_of_gt (blk_lt (g := gb4795) (o := .cells #[.int .i64 t4792, .int .i64 t4793] 57 (0, 0)) BK4795.out) : gb4803 ≠ gb4795)); have n17_ := Aside0.mk ((by rw [hg]; exact Nat.ne_of_lt (blk_lt (g := gb4799) (o := .cells #[.int .i64 t4796, .int .i64 t4797] 57 (0, 0)) BK4799.out) : gb4799 ≠ gb4803)); have n18_ := Aside0.mk ((by rw [hg]; exact Nat.ne_of_gt (blk_lt (g := gb4799) (o := .cells #[.int .i64 t4796, .int .i64 t4797] 57 (0, 0)) BK4799.out) : gb4803 ≠ gb4799)); clear BK4729 BK4730 BK4791 BK4795; clear BK4799 HB; have BK4729 := n0_; have BK4730 := n1_; have BK4791 := n2_; have BK4795 := n3_; have BK4799 := n4_; have HB := n5_; have BK4803 := n6_; have GW4803 := n7_; have GE4803 := n8_; have NB4729_4803 := n9_; have NB4803_4729 := n10_; have NB4730_4803 := n11_; have NB4803_4730 := n12_; have NB4791_4803 := n13_; have NB4803_4791 := n14_; have NB4795_4803 := n15_; have NB4803_4795 := n16_; have NB4799_4803 := n17_; have NB4803_4799 := n18_; clear n0_ n1_ n2_ n3_ n4_ n5_ n6_ n7_ n8_ n9_ n10_ n11_ n12_ n13_ n14_ n15_ n16_ n17_ n18_; clear hb hbox hg; have hnb60 := NB4803_4729.out; have hnc60 := NB4729_4803.out; have hnb61 := NB4803_4730.out; have hnc61 := NB4730_4803.out; have hnb62 := NB4803_4791.out; have hnc62 := NB4791_4803.out; have hnb63 := NB4803_4795.out; have hnc63 := NB4795_4803.out; have hnb64 := NB4803_4799.out; have hnc64 := NB4799_4803.out; have hcz65_0 : w59.cell? ⟨gb4803, 0, none⟩ = some (.int .i64 0) := (blk_cell BK4803.out 0).trans rfl; have hcz65_1 : w59.cell? ⟨gb4803, 1, none⟩ = some (.int .i64 0) := (blk_cell BK4803.out 1).trans rfl; have hfz65_0 := blk_frozen BK4803.out 0; have hfz65_1 := blk_frozen BK4803.out 1))
                  have n0_ : Aside0 (((w59.setCell ⟨gb4803, 0, none⟩ (.int .i64 t4800)).setCell ⟨gb4803, 1, none⟩ (.int .i64 t4801)).heap[gb4729]? = some (.cells #[.int .i64 a0_0, .int .i64 a0_1] 57 (0, 0))) := ⟨by refine blk_far ?_ NB4729_4803.out _; refine blk_far ?_ NB4729_4803.out _; exact BK4729.out⟩
                  have n1_ : Aside0 (((w59.setCell ⟨gb4803, 0, none⟩ (.int .i64 t4800)).setCell ⟨gb4803, 1, none⟩ (.int .i64 t4801)).heap[gb4730]? = some (.cells #[.int .i64 a1_0, .int .i64 a1_1] 57 (0, 0))) := ⟨by refine blk_far ?_ NB4730_4803.out _; refine blk_far ?_ NB4730_4803.out _; exact BK4730.out⟩
                  have n2_ : Aside0 (((w59.setCell ⟨gb4803, 0, none⟩ (.int .i64 t4800)).setCell ⟨gb4803, 1, none⟩ (.int .i64 t4801)).heap[gb4791]? = some (.cells #[.int .i64 t4788, .int .i64 t4789] 57 (0, 0))) := ⟨by refine blk_far ?_ NB4791_4803.out _; refine blk_far ?_ NB4791_4803.out _; exact BK4791.out⟩
                  have n3_ : Aside0 (((w59.setCell ⟨gb4803, 0, none⟩ (.int .i64 t4800)).setCell ⟨gb4803, 1, none⟩ (.int .i64 t4801)).heap[gb4795]? = some (.cells #[.int .i64 t4792, .int .i64 t4793] 57 (0, 0))) := ⟨by refine blk_far ?_ NB4795_4803.out _; refine blk_far ?_ NB4795_4803.out _; exact BK4795.out⟩
                  have n4_ : Aside0 (((w59.setCell ⟨gb4803, 0, none⟩ (.int .i64 t4800)).setCell ⟨gb4803, 1, none⟩ (.int .i64 t4801)).heap[gb4799]? = some (.cells #[.int .i64 t4796, .int .i64 t4797] 57 (0, 0))) := ⟨by refine blk_far ?_ NB4799_4803.out _; refine blk_far ?_ NB4799_4803.out _; exact BK4799.out⟩
                  have n5_ : Aside0 (((w59.setCell ⟨gb4803, 0, none⟩ (.int .i64 t4800)).setCell ⟨gb4803, 1, none⟩ (.int .i64 t4801)).heap[gb4803]? = some (.cells #[.int .i64 t4800, .int .i64 t4801] 57 (0, 0))) := ⟨by refine blk_put (cs := #[.int .i64 t4800, .int .i64 0]) ?_ 1 _ rfl; refine blk_put (cs := #[.int .i64 0, .int .i64 0]) ?_ 0 _ rfl; exact BK4803.out⟩
                  have n6_ : Aside0 (Below w.heap.size w ((w59.setCell ⟨gb4803, 0, none⟩ (.int .i64 t4800)).setCell ⟨gb4803, 1, none⟩ (.int .i64 t4801))) := ⟨by repeat (first | (with_reducible first | exact HB.out | apply below_alloc | apply pw_below_drewN | apply below_drew1 | refine below_set ?_ GE4729.out | refine below_set ?_ GE4730.out | refine below_set ?_ GE4791.out | refine below_set ?_ GE4795.out | refine below_set ?_ GE4799.out | refine below_set ?_ GE4803.out) | exact HB.out)⟩
                  (try clear BK4729)
                  (try clear BK4730)
                  (try clear BK4791)
                  (try clear BK4795)
                  (try clear BK4799)
                  (try clear BK4803)
                  (try clear HB)
                  generalize ((w59.setCell ⟨gb4803, 0, none⟩ (.int .i64 t4800)).setCell ⟨gb4803, 1, none⟩ (.int .i64 t4801)) = w66 at n0_ n1_ n2_ n3_ n4_ n5_ n6_ ⊢
                  have BK4729 := n0_
                  have BK4730 := n1_
                  have BK4791 := n2_
                  have BK4795 := n3_
                  have BK4799 := n4_
                  have BK4803 := n5_
                  have HB := n6_
                  clear n0_ n1_ n2_ n3_ n4_ n5_ n6_
                  have n0_ := Aside0.mk (blk_drew BK4729.out)
                  have n1_ := Aside0.mk (blk_drew BK4730.out)
                  have n2_ := Aside0.mk (blk_drew BK4791.out)
                  have n3_ := Aside0.mk (blk_drew BK4795.out)
                  have n4_ := Aside0.mk (blk_drew BK4799.out)
                  have n5_ := Aside0.mk (blk_drew BK4803.out)
                  have n6_ := Aside0.mk (below_drew1 HB.out)
                  clear BK4729 BK4730 BK4791 BK4795 BK4799 BK4803 HB
                  have BK4729 := n0_
                  have BK4730 := n1_
                  have BK4791 := n2_
                  have BK4795 := n3_
                  have BK4799 := n4_
                  have BK4803 := n5_
                  have HB := n6_
                  clear n0_ n1_ n2_ n3_ n4_ n5_ n6_
                  refine start_ (n := 31) (S := fun w' => w'.cell? ⟨gb4791, 0, none⟩ = some (.int .i64 t4788) ∧ w'.cell? ⟨gb4791, 1, none⟩ = some (.int .i64 t4789) ∧ w'.cell? ⟨gb4795, 0, none⟩ = some (.int .i64 t4792) ∧ w'.cell? ⟨gb4795, 1, none⟩ = some (.int .i64 t4793) ∧ w'.cell? ⟨gb4799, 0, none⟩ = some (.int .i64 t4796) ∧ w'.cell? ⟨gb4799, 1, none⟩ = some (.int .i64 t4797) ∧ w'.cell? ⟨gb4803, 0, none⟩ = some (.int .i64 t4800) ∧ w'.cell? ⟨gb4803, 1, none⟩ = some (.int .i64 t4801) ∧ w'.cell? ⟨gb4729, 0, none⟩ = some (.int .i64 a0_0) ∧ w'.cell? ⟨gb4729, 1, none⟩ = some (.int .i64 a0_1) ∧ w'.cell? ⟨gb4730, 0, none⟩ = some (.int .i64 a1_0) ∧ w'.cell? ⟨gb4730, 1, none⟩ = some (.int .i64 a1_1)) (ds := []) (demurragelaw02_RatioExact.ups 31 0) (by kernel_rfl) rfl rfl ⟨(blk_cell BK4791.out 0).trans rfl, (blk_cell BK4791.out 1).trans rfl, (blk_cell BK4795.out 0).trans rfl, (blk_cell BK4795.out 1).trans rfl, (blk_cell BK4799.out 0).trans rfl, (blk_cell BK4799.out 1).trans rfl, (blk_cell BK4803.out 0).trans rfl, (blk_cell BK4803.out 1).trans rfl, (blk_cell BK4729.out 0).trans rfl, (blk_cell BK4729.out 1).trans rfl, (blk_cell BK4730.out 0).trans rfl, (blk_cell BK4730.out 1).trans rfl⟩ (fun hHeld => ?_); refine with_tabW demurragelaw02_RatioExact.tab8 demurragelaw02_RatioExact.bits8 (fun HT_ HW_ => ?_)
                  generalize w66.drew = w67 at BK4729 BK4730 BK4791 BK4795 BK4799 BK4803 HB hHeld ⊢
                  refine pure_ (i := 0) (N := some 48) (v := ?_) (a' := ?_) (demurragelaw02_RatioExact.ups 31 1) rfl rfl (any_of HT_.out (by kernel_rfl)) (fun _ _ _ h => h) (Or.inl ⟨by rfl, ?_⟩) ?_ ?_
                  rotate_left
                  · intro w'
                    go_simp
                    with_reducible rfl
                  rotate_left
                  · simp only [Act.put, List.setIfInBounds_toArray, List.set_cons_zero, List.set_cons_succ, i64_w, i32_w]
                    rfl
                  refine pure_ (i := 1) (N := some 49) (v := ?_) (a' := ?_) (demurragelaw02_RatioExact.ups 31 3) rfl rfl (any_of HT_.out (by kernel_rfl)) (fun _ _ _ h => h) (Or.inl ⟨by rfl, ?_⟩) ?_ ?_
                  rotate_left
                  · intro w'
                    go_simp
                    with_reducible rfl
                  rotate_left
                  · simp only [Act.put, List.setIfInBounds_toArray, List.set_cons_zero, List.set_cons_succ, i64_w, i32_w]
                    rfl
                  refine take_ (i := 2) (N := some 50) (v := ?_) (a' := ?_) (demurragelaw02_RatioExact.ups 31 7) rfl rfl (take_ofW HT_.out HW_.out (by kernel_rfl)) (fun _ _ _ h => h) (Or.inl ⟨by rfl, ?_⟩) hHeld ?_ ?_
                  rotate_left
                  · rintro w' ⟨s0, s1, s2, s3, s4, s5, s6, s7, s8, s9, s10, s11⟩
                    go_simp
                    with_reducible rfl
                  rotate_left
                  · simp only [Act.put, List.setIfInBounds_toArray, List.set_cons_zero, List.set_cons_succ, i64_w, i32_w]
                    rfl
                  refine take_ (i := 3) (N := some 51) (v := ?_) (a' := ?_) (demurragelaw02_RatioExact.ups 31 15) rfl rfl (take_ofW HT_.out HW_.out (by kernel_rfl)) (fun _ _ _ h => h) (Or.inl ⟨by rfl, ?_⟩) hHeld ?_ ?_
                  rotate_left
                  · rintro w' ⟨s0, s1, s2, s3, s4, s5, s6, s7, s8, s9, s10, s11⟩
                    go_simp
                    with_reducible rfl
                  rotate_left
                  · simp only [Act.put, List.setIfInBounds_toArray, List.set_cons_zero, List.set_cons_succ, i64_w, i32_w]
                    rfl
                  refine pure_ (i := 4) (N := some 52) (v := ?_) (a' := ?_) (demurragelaw02_RatioExact.ups 31 31) rfl rfl (any_of HT_.out (by kernel_rfl)) (fun _ _ _ h => h) (Or.inl ⟨by rfl, ?_⟩) ?_ ?_
                  rotate_left
                  · intro w'
                    go_simp
                    with_reducible rfl
                  rotate_left
                  · simp only [Act.put, List.setIfInBounds_toArray, List.set_cons_zero, List.set_cons_succ, i64_w, i32_w]
                    rfl
                  refine pure_ (i := 5) (N := some 53) (v := ?_) (a' := ?_) (demurragelaw02_RatioExact.ups 31 63) rfl rfl (any_of HT_.out (by kernel_rfl)) (fun _ _ _ h => h) (Or.inl ⟨by rfl, ?_⟩) ?_ ?_
                  rotate_left
                  · intro w'
                    go_simp
                    with_reducible rfl
                  rotate_left
                  · simp only [Act.put, List.setIfInBounds_toArray, List.set_cons_zero, List.set_cons_succ, i64_w, i32_w]
                    rfl
                  refine pure_ (i := 6) (N := some 54) (v := ?_) (a' := ?_) (demurragelaw02_RatioExact.ups 31 127) rfl rfl (any_of HT_.out (by kernel_rfl)) (fun _ _ _ h => h) (Or.inl ⟨by rfl, ?_⟩) ?_ ?_
                  rotate_left
                  · intro w'
                    go_simp
                    with_reducible rfl
                  rotate_left
                  · simp only [Act.put, List.setIfInBounds_toArray, List.set_cons_zero, List.set_cons_succ, i64_w, i32_w]
                    rfl
                  refine pure_ (i := 7) (N := some 55) (v := ?_) (a' := ?_) (demurragelaw02_RatioExact.ups 31 255) rfl rfl (any_of HT_.out (by kernel_rfl)) (fun _ _ _ h => h) (Or.inl ⟨by rfl, ?_⟩) ?_ ?_
                  rotate_left
                  · intro w'
                    go_simp
                    with_reducible rfl
                  rotate_left
                  · simp only [Act.put, List.setIfInBounds_toArray, List.set_cons_zero, List.set_cons_succ, i64_w, i32_w]
                    rfl
                  refine pure_ (i := 8) (N := some 56) (v := ?_) (a' := ?_) (demurragelaw02_RatioExact.ups 31 511) rfl rfl (any_of HT_.out (by kernel_rfl)) (fun _ _ _ h => h) (Or.inl ⟨by rfl, ?_⟩) ?_ ?_
                  rotate_left
                  · intro w'
                    go_simp
                    with_reducible rfl
                  rotate_left
                  · simp only [Act.put, List.setIfInBounds_toArray, List.set_cons_zero, List.set_cons_succ, i64_w, i32_w]
                    rfl
                  refine pure_ (i := 9) (N := some 57) (v := ?_) (a' := ?_) (demurragelaw02_RatioExact.ups 31 1023) rfl rfl (any_of HT_.out (by kernel_rfl)) (fun _ _ _ h => h) (Or.inl ⟨by rfl, ?_⟩) ?_ ?_
                  rotate_left
                  · intro w'
                    go_simp
                    with_reducible rfl
                  rotate_left
                  · simp only [Act.put, List.setIfInBounds_toArray, List.set_cons_zero, List.set_cons_succ, i64_w, i32_w]
                    rfl
                  refine pure_ (i := 10) (N := some 58) (v := ?_) (a' := ?_) (demurragelaw02_RatioExact.ups 31 2047) rfl rfl (any_of HT_.out (by kernel_rfl)) (fun _ _ _ h => h) (Or.inl ⟨by rfl, ?_⟩) ?_ ?_
                  rotate_left
                  · intro w'
                    go_simp
                    with_reducible rfl
                  rotate_left
                  · simp only [Act.put, List.setIfInBounds_toArray, List.set_cons_zero, List.set_cons_succ, i64_w, i32_w]
                    rfl
                  refine pure_ (i := 11) (N := some 59) (v := ?_) (a' := ?_) (demurragelaw02_RatioExact.ups 31 4095) rfl rfl (any_of HT_.out (by kernel_rfl)) (fun _ _ _ h => h) (Or.inl ⟨by rfl, ?_⟩) ?_ ?_
                  rotate_left
                  · intro w'
                    go_simp
                    with_reducible rfl
                  rotate_left
                  · simp only [Act.put, List.setIfInBounds_toArray, List.set_cons_zero, List.set_cons_succ, i64_w, i32_w]
                    rfl
                  refine take_ (i := 12) (N := some 60) (v := ?_) (a' := ?_) (demurragelaw02_RatioExact.ups 31 8191) rfl rfl (take_ofW HT_.out HW_.out (by kernel_rfl)) (fun _ _ _ h => h) (Or.inl ⟨by rfl, ?_⟩) hHeld ?_ ?_
                  rotate_left
                  · rintro w' ⟨s0, s1, s2, s3, s4, s5, s6, s7, s8, s9, s10, s11⟩
                    go_simp
                    with_reducible rfl
                  rotate_left
                  · simp only [Act.put, List.setIfInBounds_toArray, List.set_cons_zero, List.set_cons_succ, i64_w, i32_w]
                    rfl
                  refine take_ (i := 13) (N := some 61) (v := ?_) (a' := ?_) (demurragelaw02_RatioExact.ups 31 16383) rfl rfl (take_ofW HT_.out HW_.out (by kernel_rfl)) (fun _ _ _ h => h) (Or.inl ⟨by rfl, ?_⟩) hHeld ?_ ?_
                  rotate_left
                  · rintro w' ⟨s0, s1, s2, s3, s4, s5, s6, s7, s8, s9, s10, s11⟩
                    go_simp
                    with_reducible rfl
                  rotate_left
                  · simp only [Act.put, List.setIfInBounds_toArray, List.set_cons_zero, List.set_cons_succ, i64_w, i32_w]
                    rfl
                  refine pure_ (i := 14) (N := some 62) (v := ?_) (a' := ?_) (demurragelaw02_RatioExact.ups 31 32767) rfl rfl (any_of HT_.out (by kernel_rfl)) (fun _ _ _ h => h) (Or.inl ⟨by rfl, ?_⟩) ?_ ?_
                  rotate_left
                  · intro w'
                    go_simp
                    with_reducible rfl
                  rotate_left
                  · simp only [Act.put, List.setIfInBounds_toArray, List.set_cons_zero, List.set_cons_succ, i64_w, i32_w]
                    rfl
                  refine pure_ (i := 15) (N := some 63) (v := ?_) (a' := ?_) (demurragelaw02_RatioExact.ups 31 65535) rfl rfl (any_of HT_.out (by kernel_rfl)) (fun _ _ _ h => h) (Or.inl ⟨by rfl, ?_⟩) ?_ ?_
                  rotate_left
                  · intro w'
                    go_simp
                    with_reducible rfl
                  rotate_left
                  · simp only [Act.put, List.setIfInBounds_toArray, List.set_cons_zero, List.set_cons_succ, i64_w, i32_w]
                    rfl
                  refine pure_ (i := 16) (N := some 64) (v := ?_) (a' := ?_) (demurragelaw02_RatioExact.ups 31 131071) rfl rfl (any_of HT_.out (by kernel_rfl)) (fun _ _ _ h => h) (Or.inl ⟨by rfl, ?_⟩) ?_ ?_
                  rotate_left
                  · intro w'
                    go_simp
                    with_reducible rfl
                  rotate_left
                  · simp only [Act.put, List.setIfInBounds_toArray, List.set_cons_zero, List.set_cons_succ, i64_w, i32_w]
                    rfl
                  refine pure_ (i := 17) (N := some 65) (v := ?_) (a' := ?_) (demurragelaw02_RatioExact.ups 31 262143) rfl rfl (any_of HT_.out (by kernel_rfl)) (fun _ _ _ h => h) (Or.inl ⟨by rfl, ?_⟩) ?_ ?_
                  rotate_left
                  · intro w'
                    go_simp
                    with_reducible rfl
                  rotate_left
                  · simp only [Act.put, List.setIfInBounds_toArray, List.set_cons_zero, List.set_cons_succ, i64_w, i32_w]
                    rfl
                  refine pure_ (i := 18) (N := some 66) (v := ?_) (a' := ?_) (demurragelaw02_RatioExact.ups 31 524287) rfl rfl (any_of HT_.out (by kernel_rfl)) (fun _ _ _ h => h) (Or.inl ⟨by rfl, ?_⟩) ?_ ?_
                  rotate_left
                  · intro w'
                    go_simp
                    with_reducible rfl
                  rotate_left
                  · simp only [Act.put, List.setIfInBounds_toArray, List.set_cons_zero, List.set_cons_succ, i64_w, i32_w]
                    rfl
                  refine pure_ (i := 19) (N := some 67) (v := ?_) (a' := ?_) (demurragelaw02_RatioExact.ups 31 1048575) rfl rfl (any_of HT_.out (by kernel_rfl)) (fun _ _ _ h => h) (Or.inl ⟨by rfl, ?_⟩) ?_ ?_
                  rotate_left
                  · intro w'
                    go_simp
                    with_reducible rfl
                  rotate_left
                  · simp only [Act.put, List.setIfInBounds_toArray, List.set_cons_zero, List.set_cons_succ, i64_w, i32_w]
                    rfl
                  refine pure_ (i := 20) (N := some 68) (v := ?_) (a' := ?_) (demurragelaw02_RatioExact.ups 31 2097151) rfl rfl (any_of HT_.out (by kernel_rfl)) (fun _ _ _ h => h) (Or.inl ⟨by rfl, ?_⟩) ?_ ?_
                  rotate_left
                  · intro w'
                    go_simp
                    with_reducible rfl
                  rotate_left
                  · simp only [Act.put, List.setIfInBounds_toArray, List.set_cons_zero, List.set_cons_succ, i64_w, i32_w]
                    rfl
                  refine pure_ (i := 21) (N := some 69) (v := ?_) (a' := ?_) (demurragelaw02_RatioExact.ups 31 4194303) rfl rfl (any_of HT_.out (by kernel_rfl)) (fun _ _ _ h => h) (Or.inl ⟨by rfl, ?_⟩) ?_ ?_
                  rotate_left
                  · intro w'
                    go_simp
                    with_reducible rfl
                  rotate_left
                  · simp only [Act.put, List.setIfInBounds_toArray, List.set_cons_zero, List.set_cons_succ, i64_w, i32_w]
                    rfl
                  refine take_ (i := 22) (N := some 70) (v := ?_) (a' := ?_) (demurragelaw02_RatioExact.ups 31 8388607) rfl rfl (take_ofW HT_.out HW_.out (by kernel_rfl)) (fun _ _ _ h => h) (Or.inl ⟨by rfl, ?_⟩) hHeld ?_ ?_
                  rotate_left
                  · rintro w' ⟨s0, s1, s2, s3, s4, s5, s6, s7, s8, s9, s10, s11⟩
                    go_simp
                    with_reducible rfl
                  rotate_left
                  · simp only [Act.put, List.setIfInBounds_toArray, List.set_cons_zero, List.set_cons_succ, i64_w, i32_w]
                    rfl
                  refine take_ (i := 23) (N := some 71) (v := ?_) (a' := ?_) (demurragelaw02_RatioExact.ups 31 16777215) rfl rfl (take_ofW HT_.out HW_.out (by kernel_rfl)) (fun _ _ _ h => h) (Or.inl ⟨by rfl, ?_⟩) hHeld ?_ ?_
                  rotate_left
                  · rintro w' ⟨s0, s1, s2, s3, s4, s5, s6, s7, s8, s9, s10, s11⟩
                    go_simp
                    with_reducible rfl
                  rotate_left
                  · simp only [Act.put, List.setIfInBounds_toArray, List.set_cons_zero, List.set_cons_succ, i64_w, i32_w]
                    rfl
                  refine take_ (i := 25) (N := some 73) (v := ?_) (a' := ?_) (demurragelaw02_RatioExact.ups 31 50331647) rfl rfl (take_ofW HT_.out HW_.out (by kernel_rfl)) (fun _ _ _ h => h) (Or.inl ⟨by rfl, ?_⟩) hHeld ?_ ?_
                  rotate_left
                  · rintro w' ⟨s0, s1, s2, s3, s4, s5, s6, s7, s8, s9, s10, s11⟩
                    go_simp
                    with_reducible rfl
                  rotate_left
                  · simp only [Act.put, List.setIfInBounds_toArray, List.set_cons_zero, List.set_cons_succ, i64_w, i32_w]
                    rfl
                  refine take_ (i := 26) (N := some 74) (v := ?_) (a' := ?_) (demurragelaw02_RatioExact.ups 31 117440511) rfl rfl (take_ofW HT_.out HW_.out (by kernel_rfl)) (fun _ _ _ h => h) (Or.inl ⟨by rfl, ?_⟩) hHeld ?_ ?_
                  rotate_left
                  · rintro w' ⟨s0, s1, s2, s3, s4, s5, s6, s7, s8, s9, s10, s11⟩
                    go_simp
                    with_reducible rfl
                  rotate_left
                  · simp only [Act.put, List.setIfInBounds_toArray, List.set_cons_zero, List.set_cons_succ, i64_w, i32_w]
                    rfl
                  refine one_ (i := 24) (N := some 72) (demurragelaw02_RatioExact.ups 31 134217727) rfl rfl (one_of HT_.out (by kernel_rfl)) (by decide) (fun K hK => ?_)
                  refine goes_ Try.func50 (by kernel_rfl) rfl #[.agg #[.int .i64 a0_0, .int .i64 a0_1], .agg #[.int .i64 a1_0, .int .i64 a1_1]] (by rfl) rfl rfl (by (try simp only [List.map_toArray, List.map_cons, List.map_nil]); first | done | rfl) ?_
                  with_reducible refine (ratio_Cmp.calls a0_0 a0_1 a1_0 a1_1 t4804 _ A29.out).mono ?_
                  rintro e w68 ⟨rfl, hb⟩
                  refine ⟨_, rfl, ?_⟩
                  have n0_ := Aside0.mk (blk_below BK4729.out hb)
                  have n1_ := Aside0.mk (blk_below BK4730.out hb)
                  have n2_ := Aside0.mk (blk_below BK4791.out hb)
                  have n3_ := Aside0.mk (blk_below BK4795.out hb)
                  have n4_ := Aside0.mk (blk_below BK4799.out hb)
                  have n5_ := Aside0.mk (blk_below BK4803.out hb)
                  have n6_ := Aside0.mk (below_step (by repeat (first | (with_reducible first | exact HB.out | apply below_alloc | apply pw_below_drewN | apply below_drew1 | refine below_set ?_ GE4729.out | refine below_set ?_ GE4730.out | refine below_set ?_ GE4791.out | refine below_set ?_ GE4795.out | refine below_set ?_ GE4799.out | refine below_set ?_ GE4803.out) | exact HB.out)) hb)
                  clear BK4729 BK4730 BK4791 BK4795 BK4799 BK4803 HB
                  have BK4729 := n0_
                  have BK4730 := n1_
                  have BK4791 := n2_
                  have BK4795 := n3_
                  have BK4799 := n4_
                  have BK4803 := n5_
                  have HB := n6_
                  clear n0_ n1_ n2_ n3_ n4_ n5_ n6_
                  (try clear hb)
                  (try clear hb2)
                  (try clear hk)
                  (try clear hi)
                  refine hK.out _ _ ⟨(blk_cell BK4791.out 0).trans rfl, (blk_cell BK4791.out 1).trans rfl, (blk_cell BK4795.out 0).trans rfl, (blk_cell BK4795.out 1).trans rfl, (blk_cell BK4799.out 0).trans rfl, (blk_cell BK4799.out 1).trans rfl, (blk_cell BK4803.out 0).trans rfl, (blk_cell BK4803.out 1).trans rfl, (blk_cell BK4729.out 0).trans rfl, (blk_cell BK4729.out 1).trans rfl, (blk_cell BK4730.out 0).trans rfl, (blk_cell BK4730.out 1).trans rfl⟩ (fun hHeld => ?_)
                  clear hK K
                  refine norm_ (a' := ?_) ?_ ?_
                  rotate_left
                  · show Act.put _ (some 72) _ = _
                    simp only [Act.put, List.setIfInBounds_toArray, List.set_cons_zero, List.set_cons_succ, i64_w, i32_w]
                    rfl
                  refine one_ (i := 27) (N := some 75) (demurragelaw02_RatioExact.ups 31 268435455) rfl rfl (one_of HT_.out (by kernel_rfl)) (by decide) (fun K hK => ?_)
                  refine goes_ Try.func51 (by kernel_rfl) rfl #[.agg #[.int .i64 a0_0, .int .i64 a0_1], .agg #[.int .i64 a1_0, .int .i64 a1_1]] (by rfl) rfl rfl (by (try simp only [List.map_toArray, List.map_cons, List.map_nil]); first | done | rfl) ?_
                  with_reducible refine (demurrageref02_Cmp.calls kj3 a0_0 a0_1 a1_0 a1_1 t4805 _ A30.out).mono ?_
                  rintro e w69 ⟨rfl, hb⟩
                  refine ⟨_, rfl, ?_⟩
                  have n0_ := Aside0.mk (blk_below BK4729.out hb)
                  have n1_ := Aside0.mk (blk_below BK4730.out hb)
                  have n2_ := Aside0.mk (blk_below BK4791.out hb)
                  have n3_ := Aside0.mk (blk_below BK4795.out hb)
                  have n4_ := Aside0.mk (blk_below BK4799.out hb)
                  have n5_ := Aside0.mk (blk_below BK4803.out hb)
                  have n6_ := Aside0.mk (below_step (by repeat (first | (with_reducible first | exact HB.out | apply below_alloc | apply pw_below_drewN | apply below_drew1 | refine below_set ?_ GE4729.out | refine below_set ?_ GE4730.out | refine below_set ?_ GE4791.out | refine below_set ?_ GE4795.out | refine below_set ?_ GE4799.out | refine below_set ?_ GE4803.out) | exact HB.out)) hb)
                  clear BK4729 BK4730 BK4791 BK4795 BK4799 BK4803 HB
                  have BK4729 := n0_
                  have BK4730 := n1_
                  have BK4791 := n2_
                  have BK4795 := n3_
                  have BK4799 := n4_
                  have BK4803 := n5_
                  have HB := n6_
                  clear n0_ n1_ n2_ n3_ n4_ n5_ n6_
                  (try clear hb)
                  (try clear hb2)
                  (try clear hk)
                  (try clear hi)
                  refine hK.out _ _ ⟨(blk_cell BK4791.out 0).trans rfl, (blk_cell BK4791.out 1).trans rfl, (blk_cell BK4795.out 0).trans rfl, (blk_cell BK4795.out 1).trans rfl, (blk_cell BK4799.out 0).trans rfl, (blk_cell BK4799.out 1).trans rfl, (blk_cell BK4803.out 0).trans rfl, (blk_cell BK4803.out 1).trans rfl, (blk_cell BK4729.out 0).trans rfl, (blk_cell BK4729.out 1).trans rfl, (blk_cell BK4730.out 0).trans rfl, (blk_cell BK4730.out 1).trans rfl⟩ (fun hHeld => ?_)
                  clear hK K
                  refine norm_ (a' := ?_) ?_ ?_
                  rotate_left
                  · show Act.put _ (some 75) _ = _
                    simp only [Act.put, List.setIfInBounds_toArray, List.set_cons_zero, List.set_cons_succ, i64_w, i32_w]
                    rfl
                  refine pure_ (i := 28) (N := some 76) (v := ?_) (a' := ?_) (demurragelaw02_RatioExact.ups 31 536870911) rfl rfl (any_of HT_.out (by kernel_rfl)) (fun _ _ _ h => h) (Or.inl ⟨by rfl, ?_⟩) ?_ ?_
                  rotate_left
                  · intro w'
                    go_simp
                    with_reducible rfl
                  rotate_left
                  · simp only [Act.put, List.setIfInBounds_toArray, List.set_cons_zero, List.set_cons_succ, i64_w, i32_w]
                    rfl
                  refine pure_ (i := 29) (N := some 77) (v := ?_) (a' := ?_) (demurragelaw02_RatioExact.ups 31 1073741823) rfl rfl (any_of HT_.out (by kernel_rfl)) (fun _ _ _ h => h) (Or.inl ⟨by rfl, ?_⟩) ?_ ?_
                  rotate_left
                  · intro w'
                    go_simp
                    with_reducible rfl
                  rotate_left
                  · simp only [Act.put, List.setIfInBounds_toArray, List.set_cons_zero, List.set_cons_succ, i64_w, i32_w]
                    rfl
                  refine pure_ (i := 30) (N := some 4) (v := ?_) (a' := ?_) (demurragelaw02_RatioExact.ups 31 2147483647) rfl rfl (any_of HT_.out (by kernel_rfl)) (fun _ _ _ h => h) (Or.inl ⟨by rfl, ?_⟩) ?_ ?_
                  rotate_left
                  · intro w'
                    go_simp
                    with_reducible rfl
                  rotate_left
                  · simp only [Act.put, List.setIfInBounds_toArray, List.set_cons_zero, List.set_cons_succ, i64_w, i32_w]
                    rfl
                  refine done_ (done_of HT_.out (by kernel_rfl)) ?_
                  try go_wp2
                  go_ret
                  exact ⟨by rfl, by repeat (first | (with_reducible first | exact HB.out | apply below_alloc | apply pw_below_drewN | apply below_drew1 | refine below_set ?_ GE4729.out | refine below_set ?_ GE4730.out | refine below_set ?_ GE4791.out | refine below_set ?_ GE4795.out | refine below_set ?_ GE4799.out | refine below_set ?_ GE4803.out) | exact HB.out)⟩
                · rw [if_neg c28] at H
                  exact absurd H (by simp)
              · rw [if_neg c27] at H
                exact absurd H (by simp)
            · rw [if_neg c26] at H
              exact absurd H (by simp)
          · rw [if_neg c25] at H
            exact absurd H (by simp)
        · replace c24 := Bool.eq_false_iff.mpr c24
          subst c24
          have H1 : (none) = some r := by rw [if_neg (show ¬ (false = true) by decide)] at H; exact H
          clear H
          have H := H1
          clear H1
          exact absurd H (by simp)

end Go.Proofs.Ytcdbmmlnmefoeaa.X
