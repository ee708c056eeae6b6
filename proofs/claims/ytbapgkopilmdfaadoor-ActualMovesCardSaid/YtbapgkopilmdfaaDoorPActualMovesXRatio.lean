-- cut by prune.py, a program of this session
import Derived.Test.YtbapgkopilmdfaaDoorPActualMovesX0
import Derived.Test.YtbapgkopilmdfaaDoorPActualMovesXWCmp
import Derived.Test.YtbapgkopilmdfaaDoorPActualMovesXWMul
import Derived.Test.YtbapgkopilmdfaaDoorPActualMovesHAdd
import Derived.Test.YtbapgkopilmdfaaDoorPActualMovesHDiv
import Derived.Test.YtbapgkopilmdfaaDoorPActualMovesHGcd
namespace Go.Proofs.YtbapgkopilmdfaaDoor.X
open Go.RowKit Go.Proofs.YtbapgkopilmdfaaDoorW.PrintWords Go.Proofs.YtbapgkopilmdfaaDoorW.PrintLast Go.Proofs.YtbapgkopilmdfaaDoorW.PrintMore
attribute [local go_sem] max2_int min2_int max_two min_two
set_option linter.unusedVariables false
set_option linter.unusedSimpArgs false

def ratio_Add.upsl : Nat → Nat → List Bool
 | 0, _ => []
 | n + 1, m => (m % 2 == 1) :: ratio_Add.upsl n (m / 2)
def ratio_Add.ups (n m : Nat) : Array Bool := ⟨ratio_Add.upsl n m⟩

def ratio_told.f (a0_0 : Int) (a0_1 : Int) (a1_0 : Int) (a1_1 : Int) : Option (Int × Int × Int) := (wide_Of.f 4611686018427387904).bind fun bt1807 => ((wide_Cmp.f a0_0 a0_1 bt1807.1 bt1807.2).bind fun t1810 => (if t1810 > 0 then (some (0, 0, 6)) else ((wide_Cmp.f a1_0 a1_1 bt1807.1 bt1807.2).bind fun t1811 => (if t1811 > 0 then (some (0, 0, 6)) else (some (wrap64 (a0_1), wrap64 (a1_1), 0))))))
set_option maxHeartbeats 8000000 in
set_option maxRecDepth 100000 in
theorem ratio_told.calls (a0_0 : Int) (a0_1 : Int) (a1_0 : Int) (a1_1 : Int) (r1 : Int) (r2 : Int) (r3 : Int) (w : World) (h : ratio_told.f a0_0 a0_1 a1_0 a1_1 = some (r1, r2, r3)) :
  Calls Tryd.prog 44 #[.agg #[.int .u64 a0_0, .int .u64 a0_1], .agg #[.int .u64 a1_0, .int .u64 a1_1]] w fun e w' => e = .returned (.tuple #[.agg #[.int .i64 r1, .int .i64 r2], .int .i64 r3]) ∧ Below w.heap.size w w' := by
 have hu72 := Tryd.underlying72
 have hu24 := Tryd.underlying24
 have HB := aA_ (Below.refl w.heap.size w)
 have H : ((wide_Of.f 4611686018427387904).bind fun bt1807 => ((wide_Cmp.f a0_0 a0_1 bt1807.1 bt1807.2).bind fun t1810 => (if t1810 > 0 then (some (0, 0, 6)) else ((wide_Cmp.f a1_0 a1_1 bt1807.1 bt1807.2).bind fun t1811 => (if t1811 > 0 then (some (0, 0, 6)) else (some (wrap64 (a0_1), wrap64 (a1_1), 0))))))) = some (r1, r2, r3) := h
 clear h
 replace H := bI_ H
 obtain ⟨⟨t1807, t1808⟩, A30, H⟩ := H
 (try dsimp only at H)
 have A3 := aA_ A30
 clear A30
 replace H := bI_ H
 obtain ⟨t1810, A40, H⟩ := H
 (try dsimp only at H)
 have A4 := aA_ A40
 clear A40
 by_cases c5 : t1810 > 0
 ·rw [if_pos c5] at H
  have c5b0 : decide (0 < t1810) = true := decide_eq_true c5
  clear c5
  simp only [Option.some.injEq, Prod.mk.injEq] at H
  obtain ⟨rfl, rfl, rfl⟩ := H
  go_enter Tryd.func44, Tryd.ntmps44
  go_wp2_with (first | ((with_reducible refine gate_dst (N := 2) rfl ?_); refine box_event rfl (N := 2) rfl (cs := #[.int .u64 a0_0, .int .u64 a0_1]) (t := 72) ?hr ?_; (case hr => go_simp <;> rfl); intro gb1804 hg w6 hbox hb; have BK1804 := aA_ (hbox); have GW1804 := gW_ hg (by repeat (with_reducible first | exact HB.out | apply bA_ | apply bN_ | apply bD_)); have GE1804 := GW1804; replace HB := bB_ (by repeat (with_reducible first | exact HB.out | apply bA_ | apply bN_ | apply bD_)) hb; clear hb hbox hg) | ((with_reducible refine gate_dst (N := 3) rfl ?_); refine box_event rfl (N := 3) rfl (cs := #[.int .u64 a1_0, .int .u64 a1_1]) (t := 72) ?hr ?_; (case hr => go_simp <;> rfl); intro gb1805 hg w7 hbox hb; have BK1805 := aA_ (hbox); have GW1805 := gW_ hg (by repeat (with_reducible first | exact HB.out | apply bA_ | apply bN_ | apply bD_ | refine bS_ ?_ GE1804.out)); have GE1805 := GW1805; replace HB := bB_ (by repeat (with_reducible first | exact HB.out | apply bA_ | apply bN_ | apply bD_ | refine bS_ ?_ GE1804.out)) hb; have NB1804_1805 := nE_ hg BK1804; have NB1805_1804 := aA_ NB1804_1805.out.symm; replace BK1804 := bK_ BK1804 hb; clear hb hbox hg) | ((with_reducible refine gate_dst (N := 4) rfl ?_); refine box_event rfl (N := 4) rfl (cs := #[.int .i64 0, .int .i64 0]) (t := 24) ?hr ?_; (case hr => go_simp <;> rfl); intro gb1806 hg w8 hbox hb; have BK1806 := aA_ (hbox); have GW1806 := gW_ hg (by repeat (with_reducible first | exact HB.out | apply bA_ | apply bN_ | apply bD_ | refine bS_ ?_ GE1804.out | refine bS_ ?_ GE1805.out)); have GE1806 := GW1806; replace HB := bB_ (by repeat (with_reducible first | exact HB.out | apply bA_ | apply bN_ | apply bD_ | refine bS_ ?_ GE1804.out | refine bS_ ?_ GE1805.out)) hb; have NB1804_1806 := nE_ hg BK1804; have NB1806_1804 := aA_ NB1804_1806.out.symm; replace BK1804 := bK_ BK1804 hb; have NB1805_1806 := nE_ hg BK1805; have NB1806_1805 := aA_ NB1805_1806.out.symm; replace BK1805 := bK_ BK1805 hb; clear hb hbox hg) | ((with_reducible refine gate_callee (f := 45) rfl ?_); refine goesL_ (some 7) rfl rfl Tryd.func45 (by kernel_rfl) rfl #[.int .u64 4611686018427387904] rfl (by (try simp only [mT_, mC_, mN_]); first | done | rfl) ?_; (with_reducible refine (wide_Of.calls 4611686018427387904 t1807 t1808 _ A3.out).mono ?_); rintro e w9 ⟨rfl, hb⟩; refine ⟨_, rfl, ?_⟩; replace BK1804 := bK_ BK1804 hb; replace BK1805 := bK_ BK1805 hb; replace BK1806 := bK_ BK1806 hb; replace HB := bB_ (by repeat (with_reducible first | exact HB.out | apply bA_ | apply bN_ | apply bD_ | refine bS_ ?_ GE1804.out | refine bS_ ?_ GE1805.out | refine bS_ ?_ GE1806.out)) hb; (try clear hb)) | ((with_reducible refine gate_dst (N := 6) rfl ?_); refine box_event rfl (N := 6) rfl (cs := #[.int .u64 0, .int .u64 0]) (t := 72) ?hr ?_; (case hr => go_simp <;> rfl); intro gb1809 hg w10 hbox hb; have BK1809 := aA_ (hbox); have GW1809 := gW_ hg (by repeat (with_reducible first | exact HB.out | apply bA_ | apply bN_ | apply bD_ | refine bS_ ?_ GE1804.out | refine bS_ ?_ GE1805.out | refine bS_ ?_ GE1806.out)); have GE1809 := GW1809; replace HB := bB_ (by repeat (with_reducible first | exact HB.out | apply bA_ | apply bN_ | apply bD_ | refine bS_ ?_ GE1804.out | refine bS_ ?_ GE1805.out | refine bS_ ?_ GE1806.out)) hb; have NB1804_1809 := nE_ hg BK1804; have NB1809_1804 := aA_ NB1804_1809.out.symm; replace BK1804 := bK_ BK1804 hb; have NB1805_1809 := nE_ hg BK1805; have NB1809_1805 := aA_ NB1805_1809.out.symm; replace BK1805 := bK_ BK1805 hb; have NB1806_1809 := nE_ hg BK1806; have NB1809_1806 := aA_ NB1806_1809.out.symm; replace BK1806 := bK_ BK1806 hb; clear hb hbox hg; have hnb11 := NB1809_1804.out; have hnc11 := NB1804_1809.out; have hnb12 := NB1809_1805.out; have hnc12 := NB1805_1809.out; have hnb13 := NB1809_1806.out; have hnc13 := NB1806_1809.out; have hcz14_0 : w10.cell? ⟨gb1809, 0, none⟩ = some (.int .u64 0) := (blk_cell BK1809.out 0).trans rfl; have hcz14_1 : w10.cell? ⟨gb1809, 1, none⟩ = some (.int .u64 0) := (blk_cell BK1809.out 1).trans rfl; have hfz14_0 := blk_frozen BK1809.out 0; have hfz14_1 := blk_frozen BK1809.out 1; have hnb15 := NB1804_1805.out; have hnc15 := NB1805_1804.out; have hnb16 := NB1804_1806.out; have hnc16 := NB1806_1804.out; have hcz17_0 : w10.cell? ⟨gb1804, 0, none⟩ = some (.int .u64 a0_0) := (blk_cell BK1804.out 0).trans rfl; have hcz17_1 : w10.cell? ⟨gb1804, 1, none⟩ = some (.int .u64 a0_1) := (blk_cell BK1804.out 1).trans rfl; have hfz17_0 := blk_frozen BK1804.out 0; have hfz17_1 := blk_frozen BK1804.out 1) | ((with_reducible refine gate_callee (f := 60) rfl ?_); refine goesL_ (some 10) rfl rfl Tryd.func60 (by kernel_rfl) rfl #[.agg #[.int .u64 a0_0, .int .u64 a0_1], .agg #[.int .u64 t1807, .int .u64 t1808]] rfl (by (try simp only [mT_, mC_, mN_]); first | done | rfl) ?_; (with_reducible refine (wide_Cmp.calls a0_0 a0_1 t1807 t1808 t1810 _ A4.out).mono ?_); rintro e w18 ⟨rfl, hb⟩; refine ⟨_, rfl, ?_⟩; replace BK1804 := aA_ (blk_below (g := gb1804) (o := .cells #[.int .u64 a0_0, .int .u64 a0_1] 72 (0, 0)) (by refine blk_far ?_ NB1804_1809.out _; refine blk_far ?_ NB1804_1809.out _; exact BK1804.out) hb); replace BK1805 := aA_ (blk_below (g := gb1805) (o := .cells #[.int .u64 a1_0, .int .u64 a1_1] 72 (0, 0)) (by refine blk_far ?_ NB1805_1809.out _; refine blk_far ?_ NB1805_1809.out _; exact BK1805.out) hb); replace BK1806 := aA_ (blk_below (g := gb1806) (o := .cells #[.int .i64 0, .int .i64 0] 24 (0, 0)) (by refine blk_far ?_ NB1806_1809.out _; refine blk_far ?_ NB1806_1809.out _; exact BK1806.out) hb); replace BK1809 := aA_ (blk_below (g := gb1809) (o := .cells #[.int .u64 t1807, .int .u64 t1808] 72 (0, 0)) (by refine blk_put (cs := #[.int .u64 t1807, .int .u64 0]) ?_ 1 _ rfl; refine blk_put (cs := #[.int .u64 0, .int .u64 0]) ?_ 0 _ rfl; exact BK1809.out) hb); replace HB := bB_ (by repeat (with_reducible first | exact HB.out | apply bA_ | apply bN_ | apply bD_ | refine bS_ ?_ GE1804.out | refine bS_ ?_ GE1805.out | refine bS_ ?_ GE1806.out | refine bS_ ?_ GE1809.out)) hb; (try clear hb); have hnb19 := NB1806_1805.out; have hnc19 := NB1805_1806.out; have hcz20_0 : w18.cell? ⟨gb1806, 0, none⟩ = some (.int .i64 0) := (blk_cell BK1806.out 0).trans rfl; have hcz20_1 : w18.cell? ⟨gb1806, 1, none⟩ = some (.int .i64 0) := (blk_cell BK1806.out 1).trans rfl; have hfz20_0 := blk_frozen BK1806.out 0; have hfz20_1 := blk_frozen BK1806.out 1))
  refine bodyPost_ret (results_ct rfl _ _ gb1806 24 #[.int .i64 0, .int .i64 0] (0, 0) _ rfl (by refine blk_put (cs := #[.int .i64 0, .int .i64 0]) ?_ 1 _ rfl; refine blk_put (cs := #[.int .i64 0, .int .i64 0]) ?_ 0 _ rfl; exact BK1806.out) Tryd.underlying24 rfl (by kernel_rfl)) rfl ?_
  exact ⟨by rfl, by repeat (with_reducible first | exact HB.out | apply bA_ | apply bN_ | apply bD_ | refine bS_ ?_ GE1804.out | refine bS_ ?_ GE1805.out | refine bS_ ?_ GE1806.out | refine bS_ ?_ GE1809.out)⟩
 ·rw [if_neg c5] at H
  have c5b0 : decide (0 < t1810) = false := decide_eq_false c5
  clear c5
  replace H := bI_ H
  obtain ⟨t1811, A210, H⟩ := H
  (try dsimp only at H)
  have A21 := aA_ A210
  clear A210
  by_cases c22 : t1811 > 0
  ·rw [if_pos c22] at H
   have c22b0 : decide (0 < t1811) = true := decide_eq_true c22
   clear c22
   simp only [Option.some.injEq, Prod.mk.injEq] at H
   obtain ⟨rfl, rfl, rfl⟩ := H
   go_enter Tryd.func44, Tryd.ntmps44
   go_wp2_with (first | ((with_reducible refine gate_dst (N := 2) rfl ?_); refine box_event rfl (N := 2) rfl (cs := #[.int .u64 a0_0, .int .u64 a0_1]) (t := 72) ?hr ?_; (case hr => go_simp <;> rfl); intro gb1804 hg w23 hbox hb; have BK1804 := aA_ (hbox); have GW1804 := gW_ hg (by repeat (with_reducible first | exact HB.out | apply bA_ | apply bN_ | apply bD_)); have GE1804 := GW1804; replace HB := bB_ (by repeat (with_reducible first | exact HB.out | apply bA_ | apply bN_ | apply bD_)) hb; clear hb hbox hg) | ((with_reducible refine gate_dst (N := 3) rfl ?_); refine box_event rfl (N := 3) rfl (cs := #[.int .u64 a1_0, .int .u64 a1_1]) (t := 72) ?hr ?_; (case hr => go_simp <;> rfl); intro gb1805 hg w24 hbox hb; have BK1805 := aA_ (hbox); have GW1805 := gW_ hg (by repeat (with_reducible first | exact HB.out | apply bA_ | apply bN_ | apply bD_ | refine bS_ ?_ GE1804.out)); have GE1805 := GW1805; replace HB := bB_ (by repeat (with_reducible first | exact HB.out | apply bA_ | apply bN_ | apply bD_ | refine bS_ ?_ GE1804.out)) hb; have NB1804_1805 := nE_ hg BK1804; have NB1805_1804 := aA_ NB1804_1805.out.symm; replace BK1804 := bK_ BK1804 hb; clear hb hbox hg) | ((with_reducible refine gate_dst (N := 4) rfl ?_); refine box_event rfl (N := 4) rfl (cs := #[.int .i64 0, .int .i64 0]) (t := 24) ?hr ?_; (case hr => go_simp <;> rfl); intro gb1806 hg w25 hbox hb; have BK1806 := aA_ (hbox); have GW1806 := gW_ hg (by repeat (with_reducible first | exact HB.out | apply bA_ | apply bN_ | apply bD_ | refine bS_ ?_ GE1804.out | refine bS_ ?_ GE1805.out)); have GE1806 := GW1806; replace HB := bB_ (by repeat (with_reducible first | exact HB.out | apply bA_ | apply bN_ | apply bD_ | refine bS_ ?_ GE1804.out | refine bS_ ?_ GE1805.out)) hb; have NB1804_1806 := nE_ hg BK1804; have NB1806_1804 := aA_ NB1804_1806.out.symm; replace BK1804 := bK_ BK1804 hb; have NB1805_1806 := nE_ hg BK1805; have NB1806_1805 := aA_ NB1805_1806.out.symm; replace BK1805 := bK_ BK1805 hb; clear hb hbox hg) | ((with_reducible refine gate_callee (f := 45) rfl ?_); refine goesL_ (some 7) rfl rfl Tryd.func45 (by kernel_rfl) rfl #[.int .u64 4611686018427387904] rfl (by (try simp only [mT_, mC_, mN_]); first | done | rfl) ?_; (with_reducible refine (wide_Of.calls 4611686018427387904 t1807 t1808 _ A3.out).mono ?_); rintro e w26 ⟨rfl, hb⟩; refine ⟨_, rfl, ?_⟩; replace BK1804 := bK_ BK1804 hb; replace BK1805 := bK_ BK1805 hb; replace BK1806 := bK_ BK1806 hb; replace HB := bB_ (by repeat (with_reducible first | exact HB.out | apply bA_ | apply bN_ | apply bD_ | refine bS_ ?_ GE1804.out | refine bS_ ?_ GE1805.out | refine bS_ ?_ GE1806.out)) hb; (try clear hb)) | ((with_reducible refine gate_dst (N := 6) rfl ?_); refine box_event rfl (N := 6) rfl (cs := #[.int .u64 0, .int .u64 0]) (t := 72) ?hr ?_; (case hr => go_simp <;> rfl); intro gb1809 hg w27 hbox hb; have BK1809 := aA_ (hbox); have GW1809 := gW_ hg (by repeat (with_reducible first | exact HB.out | apply bA_ | apply bN_ | apply bD_ | refine bS_ ?_ GE1804.out | refine bS_ ?_ GE1805.out | refine bS_ ?_ GE1806.out)); have GE1809 := GW1809; replace HB := bB_ (by repeat (with_reducible first | exact HB.out | apply bA_ | apply bN_ | apply bD_ | refine bS_ ?_ GE1804.out | refine bS_ ?_ GE1805.out | refine bS_ ?_ GE1806.out)) hb; have NB1804_1809 := nE_ hg BK1804; have NB1809_1804 := aA_ NB1804_1809.out.symm; replace BK1804 := bK_ BK1804 hb; have NB1805_1809 := nE_ hg BK1805; have NB1809_1805 := aA_ NB1805_1809.out.symm; replace BK1805 := bK_ BK1805 hb; have NB1806_1809 := nE_ hg BK1806; have NB1809_1806 := aA_ NB1806_1809.out.symm; replace BK1806 := bK_ BK1806 hb; clear hb hbox hg; have hnb28 := NB1809_1804.out; have hnc28 := NB1804_1809.out; have hnb29 := NB1809_1805.out; have hnc29 := NB1805_1809.out; have hnb30 := NB1809_1806.out; have hnc30 := NB1806_1809.out; have hcz31_0 : w27.cell? ⟨gb1809, 0, none⟩ = some (.int .u64 0) := (blk_cell BK1809.out 0).trans rfl; have hcz31_1 : w27.cell? ⟨gb1809, 1, none⟩ = some (.int .u64 0) := (blk_cell BK1809.out 1).trans rfl; have hfz31_0 := blk_frozen BK1809.out 0; have hfz31_1 := blk_frozen BK1809.out 1; have hnb32 := NB1804_1805.out; have hnc32 := NB1805_1804.out; have hnb33 := NB1804_1806.out; have hnc33 := NB1806_1804.out; have hcz34_0 : w27.cell? ⟨gb1804, 0, none⟩ = some (.int .u64 a0_0) := (blk_cell BK1804.out 0).trans rfl; have hcz34_1 : w27.cell? ⟨gb1804, 1, none⟩ = some (.int .u64 a0_1) := (blk_cell BK1804.out 1).trans rfl; have hfz34_0 := blk_frozen BK1804.out 0; have hfz34_1 := blk_frozen BK1804.out 1) | ((with_reducible refine gate_callee (f := 60) rfl ?_); refine goesL_ (some 10) rfl rfl Tryd.func60 (by kernel_rfl) rfl #[.agg #[.int .u64 a0_0, .int .u64 a0_1], .agg #[.int .u64 t1807, .int .u64 t1808]] rfl (by (try simp only [mT_, mC_, mN_]); first | done | rfl) ?_; (with_reducible refine (wide_Cmp.calls a0_0 a0_1 t1807 t1808 t1810 _ A4.out).mono ?_); rintro e w35 ⟨rfl, hb⟩; refine ⟨_, rfl, ?_⟩; replace BK1804 := aA_ (blk_below (g := gb1804) (o := .cells #[.int .u64 a0_0, .int .u64 a0_1] 72 (0, 0)) (by refine blk_far ?_ NB1804_1809.out _; refine blk_far ?_ NB1804_1809.out _; exact BK1804.out) hb); replace BK1805 := aA_ (blk_below (g := gb1805) (o := .cells #[.int .u64 a1_0, .int .u64 a1_1] 72 (0, 0)) (by refine blk_far ?_ NB1805_1809.out _; refine blk_far ?_ NB1805_1809.out _; exact BK1805.out) hb); replace BK1806 := aA_ (blk_below (g := gb1806) (o := .cells #[.int .i64 0, .int .i64 0] 24 (0, 0)) (by refine blk_far ?_ NB1806_1809.out _; refine blk_far ?_ NB1806_1809.out _; exact BK1806.out) hb); replace BK1809 := aA_ (blk_below (g := gb1809) (o := .cells #[.int .u64 t1807, .int .u64 t1808] 72 (0, 0)) (by refine blk_put (cs := #[.int .u64 t1807, .int .u64 0]) ?_ 1 _ rfl; refine blk_put (cs := #[.int .u64 0, .int .u64 0]) ?_ 0 _ rfl; exact BK1809.out) hb); replace HB := bB_ (by repeat (with_reducible first | exact HB.out | apply bA_ | apply bN_ | apply bD_ | refine bS_ ?_ GE1804.out | refine bS_ ?_ GE1805.out | refine bS_ ?_ GE1806.out | refine bS_ ?_ GE1809.out)) hb; (try clear hb); have hnb36 := NB1805_1806.out; have hnc36 := NB1806_1805.out; have hcz37_0 : w35.cell? ⟨gb1805, 0, none⟩ = some (.int .u64 a1_0) := (blk_cell BK1805.out 0).trans rfl; have hcz37_1 : w35.cell? ⟨gb1805, 1, none⟩ = some (.int .u64 a1_1) := (blk_cell BK1805.out 1).trans rfl; have hfz37_0 := blk_frozen BK1805.out 0; have hfz37_1 := blk_frozen BK1805.out 1; have hcz38_0 : w35.cell? ⟨gb1809, 0, none⟩ = some (.int .u64 t1807) := (blk_cell BK1809.out 0).trans rfl; have hcz38_1 : w35.cell? ⟨gb1809, 1, none⟩ = some (.int .u64 t1808) := (blk_cell BK1809.out 1).trans rfl; have hfz38_0 := blk_frozen BK1809.out 0; have hfz38_1 := blk_frozen BK1809.out 1) | (go_at_call 60; (with_reducible refine (wide_Cmp.calls a1_0 a1_1 t1807 t1808 t1811 _ A21.out).mono ?_); rintro e w39 ⟨rfl, hb⟩; replace BK1804 := bK_ BK1804 hb; replace BK1805 := bK_ BK1805 hb; replace BK1806 := bK_ BK1806 hb; replace BK1809 := bK_ BK1809 hb; replace HB := bB_ (by repeat (with_reducible first | exact HB.out | apply bA_ | apply bN_ | apply bD_ | refine bS_ ?_ GE1804.out | refine bS_ ?_ GE1805.out | refine bS_ ?_ GE1806.out | refine bS_ ?_ GE1809.out)) hb; (try clear hb); have hcz40_0 : w39.cell? ⟨gb1806, 0, none⟩ = some (.int .i64 0) := (blk_cell BK1806.out 0).trans rfl; have hcz40_1 : w39.cell? ⟨gb1806, 1, none⟩ = some (.int .i64 0) := (blk_cell BK1806.out 1).trans rfl; have hfz40_0 := blk_frozen BK1806.out 0; have hfz40_1 := blk_frozen BK1806.out 1))
   refine bodyPost_ret (results_ct rfl _ _ gb1806 24 #[.int .i64 0, .int .i64 0] (0, 0) _ rfl (by refine blk_put (cs := #[.int .i64 0, .int .i64 0]) ?_ 1 _ rfl; refine blk_put (cs := #[.int .i64 0, .int .i64 0]) ?_ 0 _ rfl; exact BK1806.out) Tryd.underlying24 rfl (by kernel_rfl)) rfl ?_
   exact ⟨by rfl, by repeat (with_reducible first | exact HB.out | apply bA_ | apply bN_ | apply bD_ | refine bS_ ?_ GE1804.out | refine bS_ ?_ GE1805.out | refine bS_ ?_ GE1806.out | refine bS_ ?_ GE1809.out)⟩
  ·rw [if_neg c22] at H
   have c22b0 : decide (0 < t1811) = false := decide_eq_false c22
   clear c22
   simp only [Option.some.injEq, Prod.mk.injEq] at H
   obtain ⟨rfl, rfl, rfl⟩ := H
   go_enter Tryd.func44, Tryd.ntmps44
   go_wp2_with (first | ((with_reducible refine gate_dst (N := 2) rfl ?_); refine box_event rfl (N := 2) rfl (cs := #[.int .u64 a0_0, .int .u64 a0_1]) (t := 72) ?hr ?_; (case hr => go_simp <;> rfl); intro gb1804 hg w41 hbox hb; have BK1804 := aA_ (hbox); have GW1804 := gW_ hg (by repeat (with_reducible first | exact HB.out | apply bA_ | apply bN_ | apply bD_)); have GE1804 := GW1804; replace HB := bB_ (by repeat (with_reducible first | exact HB.out | apply bA_ | apply bN_ | apply bD_)) hb; clear hb hbox hg) | ((with_reducible refine gate_dst (N := 3) rfl ?_); refine box_event rfl (N := 3) rfl (cs := #[.int .u64 a1_0, .int .u64 a1_1]) (t := 72) ?hr ?_; (case hr => go_simp <;> rfl); intro gb1805 hg w42 hbox hb; have BK1805 := aA_ (hbox); have GW1805 := gW_ hg (by repeat (with_reducible first | exact HB.out | apply bA_ | apply bN_ | apply bD_ | refine bS_ ?_ GE1804.out)); have GE1805 := GW1805; replace HB := bB_ (by repeat (with_reducible first | exact HB.out | apply bA_ | apply bN_ | apply bD_ | refine bS_ ?_ GE1804.out)) hb; have NB1804_1805 := nE_ hg BK1804; have NB1805_1804 := aA_ NB1804_1805.out.symm; replace BK1804 := bK_ BK1804 hb; clear hb hbox hg) | ((with_reducible refine gate_dst (N := 4) rfl ?_); refine box_event rfl (N := 4) rfl (cs := #[.int .i64 0, .int .i64 0]) (t := 24) ?hr ?_; (case hr => go_simp <;> rfl); intro gb1806 hg w43 hbox hb; have BK1806 := aA_ (hbox); have GW1806 := gW_ hg (by repeat (with_reducible first | exact HB.out | apply bA_ | apply bN_ | apply bD_ | refine bS_ ?_ GE1804.out | refine bS_ ?_ GE1805.out)); have GE1806 := GW1806; replace HB := bB_ (by repeat (with_reducible first | exact HB.out | apply bA_ | apply bN_ | apply bD_ | refine bS_ ?_ GE1804.out | refine bS_ ?_ GE1805.out)) hb; have NB1804_1806 := nE_ hg BK1804; have NB1806_1804 := aA_ NB1804_1806.out.symm; replace BK1804 := bK_ BK1804 hb; have NB1805_1806 := nE_ hg BK1805; have NB1806_1805 := aA_ NB1805_1806.out.symm; replace BK1805 := bK_ BK1805 hb; clear hb hbox hg) | ((with_reducible refine gate_callee (f := 45) rfl ?_); refine goesL_ (some 7) rfl rfl Tryd.func45 (by kernel_rfl) rfl #[.int .u64 4611686018427387904] rfl (by (try simp only [mT_, mC_, mN_]); first | done | rfl) ?_; (with_reducible refine (wide_Of.calls 4611686018427387904 t1807 t1808 _ A3.out).mono ?_); rintro e w44 ⟨rfl, hb⟩; refine ⟨_, rfl, ?_⟩; replace BK1804 := bK_ BK1804 hb; replace BK1805 := bK_ BK1805 hb; replace BK1806 := bK_ BK1806 hb; replace HB := bB_ (by repeat (with_reducible first | exact HB.out | apply bA_ | apply bN_ | apply bD_ | refine bS_ ?_ GE1804.out | refine bS_ ?_ GE1805.out | refine bS_ ?_ GE1806.out)) hb; (try clear hb)) | ((with_reducible refine gate_dst (N := 6) rfl ?_); refine box_event rfl (N := 6) rfl (cs := #[.int .u64 0, .int .u64 0]) (t := 72) ?hr ?_; (case hr => go_simp <;> rfl); intro gb1809 hg w45 hbox hb; have BK1809 := aA_ (hbox); have GW1809 := gW_ hg (by repeat (with_reducible first | exact HB.out | apply bA_ | apply bN_ | apply bD_ | refine bS_ ?_ GE1804.out | refine bS_ ?_ GE1805.out | refine bS_ ?_ GE1806.out)); have GE1809 := GW1809; replace HB := bB_ (by repeat (with_reducible first | exact HB.out | apply bA_ | apply bN_ | apply bD_ | refine bS_ ?_ GE1804.out | refine bS_ ?_ GE1805.out | refine bS_ ?_ GE1806.out)) hb; have NB1804_1809 := nE_ hg BK1804; have NB1809_1804 := aA_ NB1804_1809.out.symm; replace BK1804 := bK_ BK1804 hb; have NB1805_1809 := nE_ hg BK1805; have NB1809_1805 := aA_ NB1805_1809.out.symm; replace BK1805 := bK_ BK1805 hb; have NB1806_1809 := nE_ hg BK1806; have NB1809_1806 := aA_ NB1806_1809.out.symm; replace BK1806 := bK_ BK1806 hb; clear hb hbox hg; have hnb46 := NB1809_1804.out; have hnc46 := NB1804_1809.out; have hnb47 := NB1809_1805.out; have hnc47 := NB1805_1809.out; have hnb48 := NB1809_1806.out; have hnc48 := NB1806_1809.out; have hcz49_0 : w45.cell? ⟨gb1809, 0, none⟩ = some (.int .u64 0) := (blk_cell BK1809.out 0).trans rfl; have hcz49_1 : w45.cell? ⟨gb1809, 1, none⟩ = some (.int .u64 0) := (blk_cell BK1809.out 1).trans rfl; have hfz49_0 := blk_frozen BK1809.out 0; have hfz49_1 := blk_frozen BK1809.out 1; have hnb50 := NB1804_1805.out; have hnc50 := NB1805_1804.out; have hnb51 := NB1804_1806.out; have hnc51 := NB1806_1804.out; have hcz52_0 : w45.cell? ⟨gb1804, 0, none⟩ = some (.int .u64 a0_0) := (blk_cell BK1804.out 0).trans rfl; have hcz52_1 : w45.cell? ⟨gb1804, 1, none⟩ = some (.int .u64 a0_1) := (blk_cell BK1804.out 1).trans rfl; have hfz52_0 := blk_frozen BK1804.out 0; have hfz52_1 := blk_frozen BK1804.out 1) | ((with_reducible refine gate_callee (f := 60) rfl ?_); refine goesL_ (some 10) rfl rfl Tryd.func60 (by kernel_rfl) rfl #[.agg #[.int .u64 a0_0, .int .u64 a0_1], .agg #[.int .u64 t1807, .int .u64 t1808]] rfl (by (try simp only [mT_, mC_, mN_]); first | done | rfl) ?_; (with_reducible refine (wide_Cmp.calls a0_0 a0_1 t1807 t1808 t1810 _ A4.out).mono ?_); rintro e w53 ⟨rfl, hb⟩; refine ⟨_, rfl, ?_⟩; replace BK1804 := aA_ (blk_below (g := gb1804) (o := .cells #[.int .u64 a0_0, .int .u64 a0_1] 72 (0, 0)) (by refine blk_far ?_ NB1804_1809.out _; refine blk_far ?_ NB1804_1809.out _; exact BK1804.out) hb); replace BK1805 := aA_ (blk_below (g := gb1805) (o := .cells #[.int .u64 a1_0, .int .u64 a1_1] 72 (0, 0)) (by refine blk_far ?_ NB1805_1809.out _; refine blk_far ?_ NB1805_1809.out _; exact BK1805.out) hb); replace BK1806 := aA_ (blk_below (g := gb1806) (o := .cells #[.int .i64 0, .int .i64 0] 24 (0, 0)) (by refine blk_far ?_ NB1806_1809.out _; refine blk_far ?_ NB1806_1809.out _; exact BK1806.out) hb); replace BK1809 := aA_ (blk_below (g := gb1809) (o := .cells #[.int .u64 t1807, .int .u64 t1808] 72 (0, 0)) (by refine blk_put (cs := #[.int .u64 t1807, .int .u64 0]) ?_ 1 _ rfl; refine blk_put (cs := #[.int .u64 0, .int .u64 0]) ?_ 0 _ rfl; exact BK1809.out) hb); replace HB := bB_ (by repeat (with_reducible first | exact HB.out | apply bA_ | apply bN_ | apply bD_ | refine bS_ ?_ GE1804.out | refine bS_ ?_ GE1805.out | refine bS_ ?_ GE1806.out | refine bS_ ?_ GE1809.out)) hb; (try clear hb); have hnb54 := NB1805_1806.out; have hnc54 := NB1806_1805.out; have hcz55_0 : w53.cell? ⟨gb1805, 0, none⟩ = some (.int .u64 a1_0) := (blk_cell BK1805.out 0).trans rfl; have hcz55_1 : w53.cell? ⟨gb1805, 1, none⟩ = some (.int .u64 a1_1) := (blk_cell BK1805.out 1).trans rfl; have hfz55_0 := blk_frozen BK1805.out 0; have hfz55_1 := blk_frozen BK1805.out 1; have hcz56_0 : w53.cell? ⟨gb1809, 0, none⟩ = some (.int .u64 t1807) := (blk_cell BK1809.out 0).trans rfl; have hcz56_1 : w53.cell? ⟨gb1809, 1, none⟩ = some (.int .u64 t1808) := (blk_cell BK1809.out 1).trans rfl; have hfz56_0 := blk_frozen BK1809.out 0; have hfz56_1 := blk_frozen BK1809.out 1) | (go_at_call 60; (with_reducible refine (wide_Cmp.calls a1_0 a1_1 t1807 t1808 t1811 _ A21.out).mono ?_); rintro e w57 ⟨rfl, hb⟩; replace BK1804 := bK_ BK1804 hb; replace BK1805 := bK_ BK1805 hb; replace BK1806 := bK_ BK1806 hb; replace BK1809 := bK_ BK1809 hb; replace HB := bB_ (by repeat (with_reducible first | exact HB.out | apply bA_ | apply bN_ | apply bD_ | refine bS_ ?_ GE1804.out | refine bS_ ?_ GE1805.out | refine bS_ ?_ GE1806.out | refine bS_ ?_ GE1809.out)) hb; (try clear hb); have hcz58_0 : w57.cell? ⟨gb1804, 0, none⟩ = some (.int .u64 a0_0) := (blk_cell BK1804.out 0).trans rfl; have hcz58_1 : w57.cell? ⟨gb1804, 1, none⟩ = some (.int .u64 a0_1) := (blk_cell BK1804.out 1).trans rfl; have hfz58_0 := blk_frozen BK1804.out 0; have hfz58_1 := blk_frozen BK1804.out 1; have hcz59_0 : w57.cell? ⟨gb1805, 0, none⟩ = some (.int .u64 a1_0) := (blk_cell BK1805.out 0).trans rfl; have hcz59_1 : w57.cell? ⟨gb1805, 1, none⟩ = some (.int .u64 a1_1) := (blk_cell BK1805.out 1).trans rfl; have hfz59_0 := blk_frozen BK1805.out 0; have hfz59_1 := blk_frozen BK1805.out 1; have hcz60_0 : w57.cell? ⟨gb1806, 0, none⟩ = some (.int .i64 0) := (blk_cell BK1806.out 0).trans rfl; have hcz60_1 : w57.cell? ⟨gb1806, 1, none⟩ = some (.int .i64 0) := (blk_cell BK1806.out 1).trans rfl; have hfz60_0 := blk_frozen BK1806.out 0; have hfz60_1 := blk_frozen BK1806.out 1))
   refine bodyPost_ret (results_ct rfl _ _ gb1806 24 #[.int .i64 (wrap64 (a0_1)), .int .i64 (wrap64 (a1_1))] (0, 0) _ rfl (by refine blk_put (cs := #[.int .i64 (wrap64 (a0_1)), .int .i64 0]) ?_ 1 _ rfl; refine blk_put (cs := #[.int .i64 0, .int .i64 0]) ?_ 0 _ rfl; exact BK1806.out) Tryd.underlying24 rfl (by kernel_rfl)) rfl ?_
   exact ⟨by rfl, by repeat (with_reducible first | exact HB.out | apply bA_ | apply bN_ | apply bD_ | refine bS_ ?_ GE1804.out | refine bS_ ?_ GE1805.out | refine bS_ ?_ GE1806.out | refine bS_ ?_ GE1809.out)⟩

def ratio_New.j0 : Nat → Int → Int → Bool → Option (Int × Int × Int)
 | 0, _, _, _ => none
 | k + 1, x0, x1, x7 => if x7 = true then (some (0, 0, 1)) else (if x1 = 0 then (some (0, 0, 7)) else ((ratio_Gcd.f (IntKind.u64.wrap (x0)) (IntKind.u64.wrap (x1))).bind fun t1813 => (if t1813 = 0 then (none) else ((wide_Of.f (IntKind.u64.wrap (Int.tdiv (IntKind.u64.wrap (x0)) t1813))).bind fun bt1814 => ((wide_Of.f (IntKind.u64.wrap (Int.tdiv (IntKind.u64.wrap (x1)) t1813))).bind fun bt1816 => ((ratio_told.f bt1814.1 bt1814.2 bt1816.1 bt1816.2).bind fun bt1818 => (some (bt1818.1, bt1818.2.1, bt1818.2.2))))))))
def ratio_New.f (k : Nat) (a0 : Int) (a1 : Int) : Option (Int × Int × Int) := if a0 < 0 then (ratio_New.j0 k a0 a1 true) else (ratio_New.j0 k a0 a1 (decide (a1 < 0)))
theorem ratio_New.mono_l : ∀ k, (∀ y0 y1 y2, LeO (ratio_New.j0 k y0 y1 y2) (ratio_New.j0 (k + 1) y0 y1 y2))
 | 0 => fun _ _ _ r h => by simp [ratio_New.j0] at h
 | k + 1 => by
  have ih0 := ratio_New.mono_l k
  ·intro y0 y1 y2
   unfold ratio_New.j0
   repeat' first
   | (with_reducible exact ih0 _ _ _)
   | (with_reducible exact LeO.refl _)
   | (with_reducible exact LeO.none _)
   | (with_reducible refine LeO.ite ?_ ?_)
   | (with_reducible refine LeO.bind ?_ (fun _ => ?_))
   | exact ih0 _ _ _
   | exact LeO.none _
   | refine LeO.ite ?_ ?_
   | refine LeO.bind ?_ (fun _ => ?_)
theorem ratio_New.mono : ∀ a0 a1 k, LeO (ratio_New.f k a0 a1) (ratio_New.f (k + 1) a0 a1) := by
 intro a0 a1 k
 have ih0 := ratio_New.mono_l k
 unfold ratio_New.f
 repeat' first
   | (with_reducible exact ih0 _ _ _)
   | (with_reducible exact LeO.refl _)
   | (with_reducible exact LeO.none _)
   | (with_reducible refine LeO.ite ?_ ?_)
   | (with_reducible refine LeO.bind ?_ (fun _ => ?_))
   | exact ih0 _ _ _
   | exact LeO.none _
   | refine LeO.ite ?_ ?_
   | refine LeO.bind ?_ (fun _ => ?_)
def ratio_New.T6 : Bool × List (List Nat × List Nat) := (true, [([], []), ([0], [0]), ([], []), ([1, 2], [1, 2]), ([3], [3]), ([], []), ([5], [5]), ([], []), ([6, 7], [6, 7]), ([8, 4], [8]), ([4, 9, 9], [4, 9]), ([10], [10]), ([10], [10]), ([11, 10, 0, 1, 2, 3, 4, 5, 6, 7, 8, 9, 10, 11, 12], [11]), ([12, 13, 0, 1, 2, 3, 4, 5, 6, 7, 8, 9, 10, 11, 12, 13], [12])])
def ratio_New.B6 : List Nat := [0, 1, 0, 7, 15, 0, 32, 0, 224, 511, 1023, 2047, 2047, 8191, 16383]
theorem ratio_New.tab6 : rtab .any (opsOf Tryd.f24 6) = ratio_New.T6 := by kernel_rfl
theorem ratio_New.bits6 : waitsOk ratio_New.T6.2 ratio_New.B6 = true := by kernel_rfl
set_option maxHeartbeats 8000000 in
set_option maxRecDepth 100000 in
theorem ratio_New.calls (k : Nat) (a0 : Int) (a1 : Int) (r1 : Int) (r2 : Int) (r3 : Int) (w : World) (h : ratio_New.f k a0 a1 = some (r1, r2, r3)) :
  Calls Tryd.prog 24 #[.int .i64 a0, .int .i64 a1] w fun e w' => e = .returned (.tuple #[.agg #[.int .i64 r1, .int .i64 r2], .int .i64 r3]) ∧ Below w.heap.size w w' := by
 have hu24 := Tryd.underlying24
 have HB := aA_ (Below.refl w.heap.size w)
 have H : (if a0 < 0 then (ratio_New.j0 k a0 a1 true) else (ratio_New.j0 k a0 a1 (decide (a1 < 0)))) = some (r1, r2, r3) := h
 clear h
 have HC3 := aA_ H
 clear H
 go_enter Tryd.func24, Tryd.ntmps24
 go_upto_region 1 with (first | ((with_reducible refine gate_dst (N := 4) rfl ?_); refine box_event rfl (N := 4) rfl (cs := #[.int .i64 0, .int .i64 0]) (t := 24) ?hr ?_; (case hr => go_simp <;> rfl); intro gb1812 hg w4 hbox hb; have BK1812 := aA_ (hbox); have GW1812 := gW_ hg (by repeat (with_reducible first | exact HB.out | apply bA_ | apply bN_ | apply bD_)); have GE1812 := GW1812; replace HB := bB_ (by repeat (with_reducible first | exact HB.out | apply bA_ | apply bN_ | apply bD_)) hb; clear hb hbox hg))
 (try simp only [Act.put, sT_, sZ_, sS_])
 go_cut [7] (fun v7 wc => ∃ (kq : Nat) (x7_2 : Bool), v7 = .bool x7_2 ∧ Aside0 (ratio_New.j0 kq a0 a1 x7_2 = some (r1, r2, r3)) ∧ Aside0 (kq ≤ k) ∧ Aside0 (wc.heap[gb1812]? = some (.cells #[.int .i64 0, .int .i64 0] 24 (0, 0))) ∧ Aside0 (Below w.heap.size w wc))
 case first =>
  have H := HC3.out
  clear HC3
  by_cases c5 : a0 < 0
  ·rw [if_pos c5] at H
   have c5b0 : decide (a0 < 0) = true := decide_eq_true c5
   clear c5
   (first | rw [c5b0] | (simp only [i64_w, i32_w]; rw [c5b0]) | rw [c5b1] | skip)
   have H' := aA_ H
   clear H
   go_wp2
   go_meet
   case rel => exact ⟨_, (true), (by first | rfl | (simp; done) | (simp [*]; done)), H', ⟨by first | omega | exact Nat.le_refl _⟩, ⟨by exact BK1812.out⟩, ⟨by repeat (with_reducible first | exact HB.out | apply bA_ | apply bN_ | apply bD_ | refine bS_ ?_ GE1812.out)⟩⟩
  ·rw [if_neg c5] at H
   have c5b0 : decide (a0 < 0) = false := decide_eq_false c5
   clear c5
   (first | rw [c5b0] | (simp only [i64_w, i32_w]; rw [c5b0]) | rw [c5b1] | skip)
   have H' := aA_ H
   clear H
   go_wp2
   go_meet
   case rel => exact ⟨_, (decide (a1 < 0)), (by first | rfl | (simp; done) | (simp [*]; done)), H', ⟨by first | omega | exact Nat.le_refl _⟩, ⟨by exact BK1812.out⟩, ⟨by repeat (with_reducible first | exact HB.out | apply bA_ | apply bN_ | apply bD_ | refine bS_ ?_ GE1812.out)⟩⟩
 case rest =>
  clear HC3
  try clear c2
  try clear p2
  try clear c5
  try clear c5b0
  try clear c5b1
  obtain ⟨kq, x7_2, rfl, HA, HJ2, BK1812, HB⟩ := hcut
  cases kq with
  | zero => exact absurd HA.out (by simp [ratio_New.j0])
  | succ kj2 =>
   have H := HA.out
   clear HA
   simp only [ratio_New.j0] at H
   by_cases c6 : x7_2 = true
   ·subst c6
    rw [if_pos rfl] at H
    simp only [Option.some.injEq, Prod.mk.injEq] at H
    obtain ⟨rfl, rfl, rfl⟩ := H
    have hcz7_0 : wc.cell? ⟨gb1812, 0, none⟩ = some (.int .i64 0) := (blk_cell BK1812.out 0).trans rfl
    have hcz7_1 : wc.cell? ⟨gb1812, 1, none⟩ = some (.int .i64 0) := (blk_cell BK1812.out 1).trans rfl
    have hfz7_0 := blk_frozen BK1812.out 0
    have hfz7_1 := blk_frozen BK1812.out 1
    go_wp2
    refine bodyPost_ret (results_ct rfl _ _ gb1812 24 #[.int .i64 0, .int .i64 0] (0, 0) _ rfl (by refine blk_put (cs := #[.int .i64 0, .int .i64 0]) ?_ 1 _ rfl; refine blk_put (cs := #[.int .i64 0, .int .i64 0]) ?_ 0 _ rfl; exact BK1812.out) Tryd.underlying24 rfl (by kernel_rfl)) rfl ?_
    exact ⟨by rfl, by repeat (with_reducible first | exact HB.out | apply bA_ | apply bN_ | apply bD_ | refine bS_ ?_ GE1812.out)⟩
   ·replace c6 := Bool.eq_false_iff.mpr c6
    subst c6
    rw [if_neg (show ¬ (false = true) by decide)] at H
    by_cases c8 : a1 = 0
    ·rw [if_pos c8] at H
     have c8b0 : (a1 == 0) = true := beq_iff_eq.mpr c8
     have c8b1 : (a1 != 0) = false := bne_eq_false_iff_eq.mpr c8
     clear c8
     simp only [Option.some.injEq, Prod.mk.injEq] at H
     obtain ⟨rfl, rfl, rfl⟩ := H
     have hcz9_0 : wc.cell? ⟨gb1812, 0, none⟩ = some (.int .i64 0) := (blk_cell BK1812.out 0).trans rfl
     have hcz9_1 : wc.cell? ⟨gb1812, 1, none⟩ = some (.int .i64 0) := (blk_cell BK1812.out 1).trans rfl
     have hfz9_0 := blk_frozen BK1812.out 0
     have hfz9_1 := blk_frozen BK1812.out 1
     go_wp2
     refine bodyPost_ret (results_ct rfl _ _ gb1812 24 #[.int .i64 0, .int .i64 0] (0, 0) _ rfl (by refine blk_put (cs := #[.int .i64 0, .int .i64 0]) ?_ 1 _ rfl; refine blk_put (cs := #[.int .i64 0, .int .i64 0]) ?_ 0 _ rfl; exact BK1812.out) Tryd.underlying24 rfl (by kernel_rfl)) rfl ?_
     exact ⟨by rfl, by repeat (with_reducible first | exact HB.out | apply bA_ | apply bN_ | apply bD_ | refine bS_ ?_ GE1812.out)⟩
    ·rw [if_neg c8] at H
     have c8b0 : (a1 == 0) = false := beq_eq_false_iff_ne.mpr c8
     have c8b1 : (a1 != 0) = true := bne_iff_ne.mpr c8
     replace H := bI_ H
     obtain ⟨t1813, A100, H⟩ := H
     (try dsimp only at H)
     have A10 := aA_ A100
     clear A100
     by_cases c11 : t1813 = 0
     ·rw [if_pos c11] at H
      exact absurd H (by simp)
     ·rw [if_neg c11] at H
      have c11b0 : (t1813 == 0) = false := beq_eq_false_iff_ne.mpr c11
      have c11b1 : (t1813 != 0) = true := bne_iff_ne.mpr c11
      replace H := bI_ H
      obtain ⟨⟨t1814, t1815⟩, A120, H⟩ := H
      (try dsimp only at H)
      have A12 := aA_ A120
      clear A120
      replace H := bI_ H
      obtain ⟨⟨t1816, t1817⟩, A130, H⟩ := H
      (try dsimp only at H)
      have A13 := aA_ A130
      clear A130
      replace H := bI_ H
      obtain ⟨⟨t1818, t1819, t1820⟩, A140, H⟩ := H
      (try dsimp only at H)
      have A14 := aA_ A140
      clear A140
      simp only [Option.some.injEq, Prod.mk.injEq] at H
      obtain ⟨rfl, rfl, rfl⟩ := H
      try go_wp2_with (first | ((with_reducible refine gate_callee (f := 43) rfl ?_); refine goesL_ (some 23) rfl rfl Tryd.func43 (by kernel_rfl) rfl #[.int .u64 (IntKind.u64.wrap (a0)), .int .u64 (IntKind.u64.wrap (a1))] rfl (by (try simp only [mT_, mC_, mN_]); first | done | rfl) ?_; (with_reducible refine (ratio_Gcd.calls (IntKind.u64.wrap (a0)) (IntKind.u64.wrap (a1)) t1813 _ A10.out).mono ?_); rintro e w15 ⟨rfl, hb⟩; refine ⟨_, rfl, ?_⟩; replace BK1812 := bK_ BK1812 hb; replace HB := bB_ (by repeat (with_reducible first | exact HB.out | apply bA_ | apply bN_ | apply bD_ | refine bS_ ?_ GE1812.out)) hb; (try clear hb)))
      replace BK1812 := aA_ (blk_drew BK1812.out)
      replace HB := aA_ (below_drew1 HB.out)
      refine start_ (n := 15) (S := fun w' => True) (ds := []) (ratio_Add.ups 15 0) (by kernel_rfl) rfl rfl trivial (fun hHeld => ?_); refine with_tabW ratio_New.tab6 ratio_New.bits6 (fun HT_ HW_ => ?_)
      generalize w15.drew = w16 at BK1812 HB hHeld ⊢
      refine pure_ (i := 0) (N := some 24) (v := ?_) (a' := ?_) (ratio_Add.ups 15 1) rfl rfl (any_of HT_.out (by kernel_rfl)) (fun _ _ _ h => h) (Or.inl ⟨by rfl, ?_⟩) ?_ ?_
      rotate_left
      ·intro w'
       go_simp
       with_reducible rfl
      rotate_left
      ·simp only [Act.put, sT_, sZ_, sS_, i64_w, i32_w]
       rfl
      refine pure_ (i := 1) (N := some 25) (v := ?_) (a' := ?_) (ratio_Add.ups 15 3) rfl rfl (any_of HT_.out (by kernel_rfl)) (fun _ _ _ h => h) (Or.inl ⟨by rfl, ?_⟩) ?_ ?_
      rotate_left
      ·intro w'
       go_simp
       with_reducible rfl
      rotate_left
      ·simp only [Act.put, sT_, sZ_, sS_, i64_w, i32_w]
       rfl
      refine pure_ (i := 2) (N := some 26) (v := ?_) (a' := ?_) (ratio_Add.ups 15 7) rfl rfl (any_of HT_.out (by kernel_rfl)) (fun _ _ _ h => h) (Or.inl ⟨by rfl, ?_⟩) ?_ ?_
      rotate_left
      ·intro w'
       go_simp
       with_reducible rfl
      rotate_left
      ·simp only [Act.put, sT_, sZ_, sS_, i64_w, i32_w]
       rfl
      refine pure_ (i := 3) (N := some 27) (v := ?_) (a' := ?_) (ratio_Add.ups 15 15) rfl rfl (any_of HT_.out (by kernel_rfl)) (fun _ _ _ h => h) (Or.inl ⟨by rfl, ?_⟩) ?_ ?_
      rotate_left
      ·intro w'
       go_simp
       with_reducible rfl
      rotate_left
      ·simp only [Act.put, sT_, sZ_, sS_, i64_w, i32_w]
       rfl
      refine pure_ (i := 5) (N := some 29) (v := ?_) (a' := ?_) (ratio_Add.ups 15 47) rfl rfl (any_of HT_.out (by kernel_rfl)) (fun _ _ _ h => h) (Or.inl ⟨by rfl, ?_⟩) ?_ ?_
      rotate_left
      ·intro w'
       go_simp
       with_reducible rfl
      rotate_left
      ·simp only [Act.put, sT_, sZ_, sS_, i64_w, i32_w]
       rfl
      refine pure_ (i := 6) (N := some 30) (v := ?_) (a' := ?_) (ratio_Add.ups 15 111) rfl rfl (any_of HT_.out (by kernel_rfl)) (fun _ _ _ h => h) (Or.inl ⟨by rfl, ?_⟩) ?_ ?_
      rotate_left
      ·intro w'
       go_simp
       with_reducible rfl
      rotate_left
      ·simp only [Act.put, sT_, sZ_, sS_, i64_w, i32_w]
       rfl
      refine pure_ (i := 7) (N := some 31) (v := ?_) (a' := ?_) (ratio_Add.ups 15 239) rfl rfl (any_of HT_.out (by kernel_rfl)) (fun _ _ _ h => h) (Or.inl ⟨by rfl, ?_⟩) ?_ ?_
      rotate_left
      ·intro w'
       go_simp
       with_reducible rfl
      rotate_left
      ·simp only [Act.put, sT_, sZ_, sS_, i64_w, i32_w]
       rfl
      refine pure_ (i := 8) (N := some 32) (v := ?_) (a' := ?_) (ratio_Add.ups 15 495) rfl rfl (any_of HT_.out (by kernel_rfl)) (fun _ _ _ h => h) (Or.inl ⟨by rfl, ?_⟩) ?_ ?_
      rotate_left
      ·intro w'
       go_simp
       with_reducible rfl
      rotate_left
      ·simp only [Act.put, sT_, sZ_, sS_, i64_w, i32_w]
       rfl
      refine one_ (i := 4) (N := some 28) (ratio_Add.ups 15 511) rfl rfl (one_of HT_.out (by kernel_rfl)) (by decide) (fun K hK => ?_)
      refine goes_ Tryd.func45 (by kernel_rfl) rfl #[.int .u64 (IntKind.u64.wrap (Int.tdiv (IntKind.u64.wrap (a0)) t1813))] (by rfl) rfl rfl (by (try simp only [mT_, mC_, mN_]); first | done | rfl) ?_
      with_reducible refine (wide_Of.calls (IntKind.u64.wrap (Int.tdiv (IntKind.u64.wrap (a0)) t1813)) t1814 t1815 _ A12.out).mono ?_
      rintro e w17 ⟨rfl, hb⟩
      refine ⟨_, rfl, ?_⟩
      replace BK1812 := bK_ BK1812 hb
      replace HB := bB_ (by repeat (with_reducible first | exact HB.out | apply bA_ | apply bN_ | apply bD_ | refine bS_ ?_ GE1812.out)) hb
      (try clear hb)
      (try clear hb2)
      (try clear hk)
      (try clear hi)
      refine hK.out _ _ trivial (fun hHeld => ?_)
      clear hK K
      refine norm_ (by show Act.put _ (some 28) _ = _; simp only [Act.put, sT_, sZ_, sS_, i64_w, i32_w] <;> rfl) ?_
      refine one_ (i := 9) (N := some 33) (ratio_Add.ups 15 1023) rfl rfl (one_of HT_.out (by kernel_rfl)) (by decide) (fun K hK => ?_)
      refine goes_ Tryd.func45 (by kernel_rfl) rfl #[.int .u64 (IntKind.u64.wrap (Int.tdiv (IntKind.u64.wrap (a1)) t1813))] (by rfl) rfl rfl (by (try simp only [mT_, mC_, mN_]); first | done | rfl) ?_
      with_reducible refine (wide_Of.calls (IntKind.u64.wrap (Int.tdiv (IntKind.u64.wrap (a1)) t1813)) t1816 t1817 _ A13.out).mono ?_
      rintro e w18 ⟨rfl, hb⟩
      refine ⟨_, rfl, ?_⟩
      replace BK1812 := bK_ BK1812 hb
      replace HB := bB_ (by repeat (with_reducible first | exact HB.out | apply bA_ | apply bN_ | apply bD_ | refine bS_ ?_ GE1812.out)) hb
      (try clear hb)
      (try clear hb2)
      (try clear hk)
      (try clear hi)
      refine hK.out _ _ trivial (fun hHeld => ?_)
      clear hK K
      refine norm_ (by show Act.put _ (some 33) _ = _; simp only [Act.put, sT_, sZ_, sS_, i64_w, i32_w] <;> rfl) ?_
      refine one_ (i := 10) (N := some 34) (ratio_Add.ups 15 2047) rfl rfl (one_of HT_.out (by kernel_rfl)) (by decide) (fun K hK => ?_)
      refine goes_ Tryd.func44 (by kernel_rfl) rfl #[.agg #[.int .u64 t1814, .int .u64 t1815], .agg #[.int .u64 t1816, .int .u64 t1817]] (by rfl) rfl rfl (by (try simp only [mT_, mC_, mN_]); first | done | rfl) ?_
      with_reducible refine (ratio_told.calls t1814 t1815 t1816 t1817 t1818 t1819 t1820 _ A14.out).mono ?_
      rintro e w19 ⟨rfl, hb⟩
      refine ⟨_, rfl, ?_⟩
      replace BK1812 := bK_ BK1812 hb
      replace HB := bB_ (by repeat (with_reducible first | exact HB.out | apply bA_ | apply bN_ | apply bD_ | refine bS_ ?_ GE1812.out)) hb
      (try clear hb)
      (try clear hb2)
      (try clear hk)
      (try clear hi)
      refine hK.out _ _ trivial (fun hHeld => ?_)
      clear hK K
      refine norm_ (by show Act.put _ (some 34) _ = _; simp only [Act.put, sT_, sZ_, sS_, i64_w, i32_w] <;> rfl) ?_
      refine pure_ (i := 11) (N := some 35) (v := ?_) (a' := ?_) (ratio_Add.ups 15 4095) rfl rfl (any_of HT_.out (by kernel_rfl)) (fun _ _ _ h => h) (Or.inl ⟨by rfl, ?_⟩) ?_ ?_
      rotate_left
      ·intro w'
       go_simp
       with_reducible rfl
      rotate_left
      ·simp only [Act.put, sT_, sZ_, sS_, i64_w, i32_w]
       rfl
      refine pure_ (i := 12) (N := some 36) (v := ?_) (a' := ?_) (ratio_Add.ups 15 8191) rfl rfl (any_of HT_.out (by kernel_rfl)) (fun _ _ _ h => h) (Or.inl ⟨by rfl, ?_⟩) ?_ ?_
      rotate_left
      ·intro w'
       go_simp
       with_reducible rfl
      rotate_left
      ·simp only [Act.put, sT_, sZ_, sS_, i64_w, i32_w]
       rfl
      refine one_ (i := 13) (N := none) (ratio_Add.ups 15 16383) rfl rfl (one_of HT_.out (by kernel_rfl)) (by decide) (fun K hK => ?_)
      have hs20 : w19.cell? ⟨gb1812, 0, none⟩ = some (.int .i64 0) := (blk_cell BK1812.out 0).trans rfl
      have hfs20 := blk_frozen BK1812.out 0
      have hs21 : w19.cell? ⟨gb1812, 1, none⟩ = some (.int .i64 0) := (blk_cell BK1812.out 1).trans rfl
      have hfs21 := blk_frozen BK1812.out 1
      refine skip_ (w1 := ?_) (by rfl) rfl ?_ ?_
      rotate_left
      ·go_simp
       rfl
      refine hK.out _ _ trivial (fun hHeld => ?_)
      clear hK K
      refine pure_ (i := 14) (N := some 5) (v := ?_) (a' := ?_) (ratio_Add.ups 15 32767) rfl rfl (any_of HT_.out (by kernel_rfl)) (fun _ _ _ h => h) (Or.inl ⟨by rfl, ?_⟩) ?_ ?_
      rotate_left
      ·intro w'
       go_simp
       with_reducible rfl
      rotate_left
      ·simp only [Act.put, sT_, sZ_, sS_, i64_w, i32_w]
       rfl
      refine done_ (done_of HT_.out (by kernel_rfl)) ?_
      try go_wp2
      refine bodyPost_ret (results_ct rfl _ _ gb1812 24 #[.int .i64 t1818, .int .i64 t1819] (0, 0) _ rfl (by refine blk_put (cs := #[.int .i64 t1818, .int .i64 0]) ?_ 1 _ rfl; refine blk_put (cs := #[.int .i64 0, .int .i64 0]) ?_ 0 _ rfl; exact BK1812.out) Tryd.underlying24 rfl (by kernel_rfl)) rfl ?_
      exact ⟨by rfl, by repeat (with_reducible first | exact HB.out | apply bA_ | apply bN_ | apply bD_ | refine bS_ ?_ GE1812.out)⟩

def ratio_Add.f (a0_0 : Int) (a0_1 : Int) (a1_0 : Int) (a1_1 : Int) : Option (Int × Int × Int) := (ratio_Gcd.f (IntKind.u64.wrap (a0_1)) (IntKind.u64.wrap (a1_1))).bind fun t1829 => (if t1829 = 0 then (none) else ((wide_Mul.f (IntKind.u64.wrap (a0_0)) (IntKind.u64.wrap (Int.tdiv (IntKind.u64.wrap (a1_1)) t1829))).bind fun bt1830 => ((wide_Mul.f (IntKind.u64.wrap (a1_0)) (IntKind.u64.wrap (Int.tdiv (IntKind.u64.wrap (a0_1)) t1829))).bind fun bt1832 => ((wide_Add.f bt1830.1 bt1830.2 bt1832.1 bt1832.2).bind fun bt1834 => ((wide_Div.f bt1834.1 bt1834.2.1 t1829).bind fun bt1838 => ((ratio_Gcd.f bt1838.2.2.1 t1829).bind fun t1843 => ((wide_Div.f bt1834.1 bt1834.2.1 t1843).bind fun bt1844 => (if t1843 = 0 then (none) else ((wide_Mul.f (IntKind.u64.wrap (Int.tdiv (IntKind.u64.wrap (a0_1)) t1829)) (IntKind.u64.wrap (Int.tdiv (IntKind.u64.wrap (a1_1)) t1843))).bind fun bt1848 => ((ratio_told.f bt1844.1 bt1844.2.1 bt1848.1 bt1848.2).bind fun bt1850 => (some (bt1850.1, bt1850.2.1, bt1850.2.2))))))))))))
def ratio_Add.T1 : Bool × List (List Nat × List Nat) := (true, [([], []), ([0], [0]), ([1], [1]), ([], []), ([3], [3]), ([4], [4]), ([2, 0, 1, 2], [2]), ([5, 6, 0, 1, 2, 3, 4, 5, 6], [5])])
def ratio_Add.B1 : List Nat := [0, 1, 3, 0, 8, 24, 7, 127]
theorem ratio_Add.tab1 : rtab .any (opsOf Tryd.f30 1) = ratio_Add.T1 := by kernel_rfl
theorem ratio_Add.bits1 : waitsOk ratio_Add.T1.2 ratio_Add.B1 = true := by kernel_rfl
def ratio_Add.T3 : Bool × List (List Nat × List Nat) := (true, [([], []), ([0], [0]), ([1], [1]), ([], []), ([], []), ([3, 4], [3, 4]), ([2, 5], [2, 5]), ([], []), ([7], [7]), ([8], [8]), ([], []), ([], []), ([10, 11], [10, 11]), ([9, 12, 6], [9, 12]), ([6, 13, 13], [6, 13]), ([14], [14]), ([15], [15]), ([15], [15]), ([], []), ([18, 16, 14, 0, 1, 2, 3, 4, 5, 6, 7, 8, 9, 10, 11, 12, 13, 14, 15, 16, 18], [16, 18]), ([17, 19, 0, 1, 2, 3, 4, 5, 6, 7, 8, 9, 10, 11, 12, 13, 14, 15, 16, 17, 18, 19], [17])])
def ratio_Add.B3 : List Nat := [0, 1, 3, 0, 0, 24, 63, 0, 128, 384, 0, 0, 3072, 8191, 16383, 32767, 65535, 65535, 0, 393215, 1048575]
theorem ratio_Add.tab3 : rtab .any (opsOf Tryd.f30 3) = ratio_Add.T3 := by kernel_rfl
theorem ratio_Add.bits3 : waitsOk ratio_Add.T3.2 ratio_Add.B3 = true := by kernel_rfl
def ratio_Add.T7 : Bool × List (List Nat × List Nat) := (true, [([], []), ([], []), ([], []), ([1, 2], [1, 2]), ([], []), ([], []), ([4, 5], [4, 5]), ([3, 6], [3, 6]), ([0, 7, 7], [0, 7]), ([8], [8]), ([8], [8]), ([9, 8, 0, 1, 2, 3, 4, 5, 6, 7, 8, 9, 10], [9]), ([10, 11, 0, 1, 2, 3, 4, 5, 6, 7, 8, 9, 10, 11], [10])])
def ratio_Add.B7 : List Nat := [0, 0, 0, 6, 0, 0, 48, 126, 255, 511, 511, 2047, 4095]
theorem ratio_Add.tab7 : rtab .any (opsOf Tryd.f30 7) = ratio_Add.T7 := by kernel_rfl
theorem ratio_Add.bits7 : waitsOk ratio_Add.T7.2 ratio_Add.B7 = true := by kernel_rfl
set_option maxHeartbeats 8000000 in
set_option maxRecDepth 100000 in
theorem ratio_Add.calls (a0_0 : Int) (a0_1 : Int) (a1_0 : Int) (a1_1 : Int) (r1 : Int) (r2 : Int) (r3 : Int) (w : World) (h : ratio_Add.f a0_0 a0_1 a1_0 a1_1 = some (r1, r2, r3)) :
  Calls Tryd.prog 30 #[.agg #[.int .i64 a0_0, .int .i64 a0_1], .agg #[.int .i64 a1_0, .int .i64 a1_1]] w fun e w' => e = .returned (.tuple #[.agg #[.int .i64 r1, .int .i64 r2], .int .i64 r3]) ∧ Below w.heap.size w w' := by
 have hu24 := Tryd.underlying24
 have hu72 := Tryd.underlying72
 have HB := aA_ (Below.refl w.heap.size w)
 have H : ((ratio_Gcd.f (IntKind.u64.wrap (a0_1)) (IntKind.u64.wrap (a1_1))).bind fun t1829 => (if t1829 = 0 then (none) else ((wide_Mul.f (IntKind.u64.wrap (a0_0)) (IntKind.u64.wrap (Int.tdiv (IntKind.u64.wrap (a1_1)) t1829))).bind fun bt1830 => ((wide_Mul.f (IntKind.u64.wrap (a1_0)) (IntKind.u64.wrap (Int.tdiv (IntKind.u64.wrap (a0_1)) t1829))).bind fun bt1832 => ((wide_Add.f bt1830.1 bt1830.2 bt1832.1 bt1832.2).bind fun bt1834 => ((wide_Div.f bt1834.1 bt1834.2.1 t1829).bind fun bt1838 => ((ratio_Gcd.f bt1838.2.2.1 t1829).bind fun t1843 => ((wide_Div.f bt1834.1 bt1834.2.1 t1843).bind fun bt1844 => (if t1843 = 0 then (none) else ((wide_Mul.f (IntKind.u64.wrap (Int.tdiv (IntKind.u64.wrap (a0_1)) t1829)) (IntKind.u64.wrap (Int.tdiv (IntKind.u64.wrap (a1_1)) t1843))).bind fun bt1848 => ((ratio_told.f bt1844.1 bt1844.2.1 bt1848.1 bt1848.2).bind fun bt1850 => (some (bt1850.1, bt1850.2.1, bt1850.2.2))))))))))))) = some (r1, r2, r3) := h
 clear h
 replace H := bI_ H
 obtain ⟨t1829, A30, H⟩ := H
 (try dsimp only at H)
 have A3 := aA_ A30
 clear A30
 by_cases c4 : t1829 = 0
 ·rw [if_pos c4] at H
  exact absurd H (by simp)
 ·rw [if_neg c4] at H
  have c4b0 : (t1829 == 0) = false := beq_eq_false_iff_ne.mpr c4
  have c4b1 : (t1829 != 0) = true := bne_iff_ne.mpr c4
  replace H := bI_ H
  obtain ⟨⟨t1830, t1831⟩, A50, H⟩ := H
  (try dsimp only at H)
  have A5 := aA_ A50
  clear A50
  replace H := bI_ H
  obtain ⟨⟨t1832, t1833⟩, A60, H⟩ := H
  (try dsimp only at H)
  have A6 := aA_ A60
  clear A60
  replace H := bI_ H
  obtain ⟨⟨t1834, t1835, t1836⟩, A70, H⟩ := H
  (try dsimp only at H)
  have A7 := aA_ A70
  clear A70
  replace H := bI_ H
  obtain ⟨⟨t1838, t1839, t1840, t1841⟩, A80, H⟩ := H
  (try dsimp only at H)
  have A8 := aA_ A80
  clear A80
  replace H := bI_ H
  obtain ⟨t1843, A90, H⟩ := H
  (try dsimp only at H)
  have A9 := aA_ A90
  clear A90
  replace H := bI_ H
  obtain ⟨⟨t1844, t1845, t1846, t1847⟩, A100, H⟩ := H
  (try dsimp only at H)
  have A10 := aA_ A100
  clear A100
  by_cases c11 : t1843 = 0
  ·rw [if_pos c11] at H
   exact absurd H (by simp)
  ·rw [if_neg c11] at H
   have c11b0 : (t1843 == 0) = false := beq_eq_false_iff_ne.mpr c11
   have c11b1 : (t1843 != 0) = true := bne_iff_ne.mpr c11
   replace H := bI_ H
   obtain ⟨⟨t1848, t1849⟩, A120, H⟩ := H
   (try dsimp only at H)
   have A12 := aA_ A120
   clear A120
   replace H := bI_ H
   obtain ⟨⟨t1850, t1851, t1852⟩, A130, H⟩ := H
   (try dsimp only at H)
   have A13 := aA_ A130
   clear A130
   simp only [Option.some.injEq, Prod.mk.injEq] at H
   obtain ⟨rfl, rfl, rfl⟩ := H
   go_enter Tryd.func30, Tryd.ntmps30
   try go_wp2_with (first | ((with_reducible refine gate_dst (N := 2) rfl ?_); refine box_event rfl (N := 2) rfl (cs := #[.int .i64 a0_0, .int .i64 a0_1]) (t := 24) ?hr ?_; (case hr => go_simp <;> rfl); intro gb1826 hg w14 hbox hb; have BK1826 := aA_ (hbox); have GW1826 := gW_ hg (by repeat (with_reducible first | exact HB.out | apply bA_ | apply bN_ | apply bD_)); have GE1826 := GW1826; replace HB := bB_ (by repeat (with_reducible first | exact HB.out | apply bA_ | apply bN_ | apply bD_)) hb; clear hb hbox hg) | ((with_reducible refine gate_dst (N := 3) rfl ?_); refine box_event rfl (N := 3) rfl (cs := #[.int .i64 a1_0, .int .i64 a1_1]) (t := 24) ?hr ?_; (case hr => go_simp <;> rfl); intro gb1827 hg w15 hbox hb; have BK1827 := aA_ (hbox); have GW1827 := gW_ hg (by repeat (with_reducible first | exact HB.out | apply bA_ | apply bN_ | apply bD_ | refine bS_ ?_ GE1826.out)); have GE1827 := GW1827; replace HB := bB_ (by repeat (with_reducible first | exact HB.out | apply bA_ | apply bN_ | apply bD_ | refine bS_ ?_ GE1826.out)) hb; have NB1826_1827 := nE_ hg BK1826; have NB1827_1826 := aA_ NB1826_1827.out.symm; replace BK1826 := bK_ BK1826 hb; clear hb hbox hg) | ((with_reducible refine gate_dst (N := 4) rfl ?_); refine box_event rfl (N := 4) rfl (cs := #[.int .i64 0, .int .i64 0]) (t := 24) ?hr ?_; (case hr => go_simp <;> rfl); intro gb1828 hg w16 hbox hb; have BK1828 := aA_ (hbox); have GW1828 := gW_ hg (by repeat (with_reducible first | exact HB.out | apply bA_ | apply bN_ | apply bD_ | refine bS_ ?_ GE1826.out | refine bS_ ?_ GE1827.out)); have GE1828 := GW1828; replace HB := bB_ (by repeat (with_reducible first | exact HB.out | apply bA_ | apply bN_ | apply bD_ | refine bS_ ?_ GE1826.out | refine bS_ ?_ GE1827.out)) hb; have NB1826_1828 := nE_ hg BK1826; have NB1828_1826 := aA_ NB1826_1828.out.symm; replace BK1826 := bK_ BK1826 hb; have NB1827_1828 := nE_ hg BK1827; have NB1828_1827 := aA_ NB1827_1828.out.symm; replace BK1827 := bK_ BK1827 hb; clear hb hbox hg))
   replace BK1826 := aA_ (blk_drew BK1826.out)
   replace BK1827 := aA_ (blk_drew BK1827.out)
   replace BK1828 := aA_ (blk_drew BK1828.out)
   replace HB := aA_ (below_drew1 HB.out)
   refine start_ (n := 8) (S := fun w' => w'.cell? ⟨gb1826, 0, none⟩ = some (.int .i64 a0_0) ∧ w'.cell? ⟨gb1826, 1, none⟩ = some (.int .i64 a0_1) ∧ w'.cell? ⟨gb1827, 0, none⟩ = some (.int .i64 a1_0) ∧ w'.cell? ⟨gb1827, 1, none⟩ = some (.int .i64 a1_1)) (ds := []) (ratio_Add.ups 8 0) (by kernel_rfl) rfl rfl ⟨(blk_cell BK1826.out 0).trans rfl, (blk_cell BK1826.out 1).trans rfl, (blk_cell BK1827.out 0).trans rfl, (blk_cell BK1827.out 1).trans rfl⟩ (fun hHeld => ?_); refine with_tabW ratio_Add.tab1 ratio_Add.bits1 (fun HT_ HW_ => ?_)
   generalize w16.drew = w17 at BK1826 BK1827 BK1828 HB hHeld ⊢
   refine pure_ (i := 0) (N := some 15) (v := ?_) (a' := ?_) (ratio_Add.ups 8 1) rfl rfl (any_of HT_.out (by kernel_rfl)) (fun _ _ _ h => h) (Or.inl ⟨by rfl, ?_⟩) ?_ ?_
   rotate_left
   ·intro w'
    go_simp
    with_reducible rfl
   rotate_left
   ·simp only [Act.put, sT_, sZ_, sS_, i64_w, i32_w]
    rfl
   refine pure_ (i := 3) (N := some 18) (v := ?_) (a' := ?_) (ratio_Add.ups 8 9) rfl rfl (any_of HT_.out (by kernel_rfl)) (fun _ _ _ h => h) (Or.inl ⟨by rfl, ?_⟩) ?_ ?_
   rotate_left
   ·intro w'
    go_simp
    with_reducible rfl
   rotate_left
   ·simp only [Act.put, sT_, sZ_, sS_, i64_w, i32_w]
    rfl
   refine take_ (i := 1) (N := some 16) (v := ?_) (a' := ?_) (ratio_Add.ups 8 11) rfl rfl (take_ofW HT_.out HW_.out (by kernel_rfl)) (fun _ _ _ h => h) (Or.inl ⟨by rfl, ?_⟩) hHeld ?_ ?_
   rotate_left
   ·rintro w' ⟨s0, s1, s2, s3⟩
    go_simp
    with_reducible rfl
   rotate_left
   ·simp only [Act.put, sT_, sZ_, sS_, i64_w, i32_w]
    rfl
   refine pure_ (i := 2) (N := some 17) (v := ?_) (a' := ?_) (ratio_Add.ups 8 15) rfl rfl (any_of HT_.out (by kernel_rfl)) (fun _ _ _ h => h) (Or.inl ⟨by rfl, ?_⟩) ?_ ?_
   rotate_left
   ·intro w'
    go_simp
    with_reducible rfl
   rotate_left
   ·simp only [Act.put, sT_, sZ_, sS_, i64_w, i32_w]
    rfl
   refine pure_ (i := 6) (N := some 6) (v := ?_) (a' := ?_) (ratio_Add.ups 8 79) rfl rfl (any_of HT_.out (by kernel_rfl)) (fun _ _ _ h => h) (Or.inl ⟨by rfl, ?_⟩) ?_ ?_
   rotate_left
   ·intro w'
    go_simp
    with_reducible rfl
   rotate_left
   ·simp only [Act.put, sT_, sZ_, sS_, i64_w, i32_w]
    rfl
   refine take_ (i := 4) (N := some 19) (v := ?_) (a' := ?_) (ratio_Add.ups 8 95) rfl rfl (take_ofW HT_.out HW_.out (by kernel_rfl)) (fun _ _ _ h => h) (Or.inl ⟨by rfl, ?_⟩) hHeld ?_ ?_
   rotate_left
   ·rintro w' ⟨s0, s1, s2, s3⟩
    go_simp
    with_reducible rfl
   rotate_left
   ·simp only [Act.put, sT_, sZ_, sS_, i64_w, i32_w]
    rfl
   refine pure_ (i := 5) (N := some 20) (v := ?_) (a' := ?_) (ratio_Add.ups 8 127) rfl rfl (any_of HT_.out (by kernel_rfl)) (fun _ _ _ h => h) (Or.inl ⟨by rfl, ?_⟩) ?_ ?_
   rotate_left
   ·intro w'
    go_simp
    with_reducible rfl
   rotate_left
   ·simp only [Act.put, sT_, sZ_, sS_, i64_w, i32_w]
    rfl
   refine pure_ (i := 7) (N := some 7) (v := ?_) (a' := ?_) (ratio_Add.ups 8 255) rfl rfl (any_of HT_.out (by kernel_rfl)) (fun _ _ _ h => h) (Or.inl ⟨by rfl, ?_⟩) ?_ ?_
   rotate_left
   ·intro w'
    go_simp
    with_reducible rfl
   rotate_left
   ·simp only [Act.put, sT_, sZ_, sS_, i64_w, i32_w]
    rfl
   refine done_ (done_of HT_.out (by kernel_rfl)) ?_
   try go_wp2_with (first | ((with_reducible refine gate_callee (f := 43) rfl ?_); refine goesL_ (some 23) rfl rfl Tryd.func43 (by kernel_rfl) rfl #[.int .u64 (IntKind.u64.wrap (a0_1)), .int .u64 (IntKind.u64.wrap (a1_1))] rfl (by (try simp only [mT_, mC_, mN_]); first | done | rfl) ?_; (with_reducible refine (ratio_Gcd.calls (IntKind.u64.wrap (a0_1)) (IntKind.u64.wrap (a1_1)) t1829 _ A3.out).mono ?_); rintro e w18 ⟨rfl, hb⟩; refine ⟨_, rfl, ?_⟩; replace BK1826 := bK_ BK1826 hb; replace BK1827 := bK_ BK1827 hb; replace BK1828 := bK_ BK1828 hb; replace HB := bB_ (by repeat (with_reducible first | exact HB.out | apply bA_ | apply bN_ | apply bD_ | refine bS_ ?_ GE1826.out | refine bS_ ?_ GE1827.out | refine bS_ ?_ GE1828.out)) hb; (try clear hb)))
   replace BK1826 := aA_ (blk_drew BK1826.out)
   replace BK1827 := aA_ (blk_drew BK1827.out)
   replace BK1828 := aA_ (blk_drew BK1828.out)
   replace HB := aA_ (below_drew1 HB.out)
   refine start_ (n := 21) (S := fun w' => w'.cell? ⟨gb1826, 0, none⟩ = some (.int .i64 a0_0) ∧ w'.cell? ⟨gb1826, 1, none⟩ = some (.int .i64 a0_1) ∧ w'.cell? ⟨gb1827, 0, none⟩ = some (.int .i64 a1_0) ∧ w'.cell? ⟨gb1827, 1, none⟩ = some (.int .i64 a1_1)) (ds := []) (ratio_Add.ups 21 0) (by kernel_rfl) rfl rfl ⟨(blk_cell BK1826.out 0).trans rfl, (blk_cell BK1826.out 1).trans rfl, (blk_cell BK1827.out 0).trans rfl, (blk_cell BK1827.out 1).trans rfl⟩ (fun hHeld => ?_); refine with_tabW ratio_Add.tab3 ratio_Add.bits3 (fun HT_ HW_ => ?_)
   generalize w18.drew = w19 at BK1826 BK1827 BK1828 HB hHeld ⊢
   refine pure_ (i := 0) (N := some 25) (v := ?_) (a' := ?_) (ratio_Add.ups 21 1) rfl rfl (any_of HT_.out (by kernel_rfl)) (fun _ _ _ h => h) (Or.inl ⟨by rfl, ?_⟩) ?_ ?_
   rotate_left
   ·intro w'
    go_simp
    with_reducible rfl
   rotate_left
   ·simp only [Act.put, sT_, sZ_, sS_, i64_w, i32_w]
    rfl
   refine pure_ (i := 3) (N := some 28) (v := ?_) (a' := ?_) (ratio_Add.ups 21 9) rfl rfl (any_of HT_.out (by kernel_rfl)) (fun _ _ _ h => h) (Or.inl ⟨by rfl, ?_⟩) ?_ ?_
   rotate_left
   ·intro w'
    go_simp
    with_reducible rfl
   rotate_left
   ·simp only [Act.put, sT_, sZ_, sS_, i64_w, i32_w]
    rfl
   refine pure_ (i := 4) (N := some 29) (v := ?_) (a' := ?_) (ratio_Add.ups 21 25) rfl rfl (any_of HT_.out (by kernel_rfl)) (fun _ _ _ h => h) (Or.inl ⟨by rfl, ?_⟩) ?_ ?_
   rotate_left
   ·intro w'
    go_simp
    with_reducible rfl
   rotate_left
   ·simp only [Act.put, sT_, sZ_, sS_, i64_w, i32_w]
    rfl
   refine pure_ (i := 5) (N := some 30) (v := ?_) (a' := ?_) (ratio_Add.ups 21 57) rfl rfl (any_of HT_.out (by kernel_rfl)) (fun _ _ _ h => h) (Or.inl ⟨by rfl, ?_⟩) ?_ ?_
   rotate_left
   ·intro w'
    go_simp
    with_reducible rfl
   rotate_left
   ·simp only [Act.put, sT_, sZ_, sS_, i64_w, i32_w]
    rfl
   refine pure_ (i := 7) (N := some 32) (v := ?_) (a' := ?_) (ratio_Add.ups 21 185) rfl rfl (any_of HT_.out (by kernel_rfl)) (fun _ _ _ h => h) (Or.inl ⟨by rfl, ?_⟩) ?_ ?_
   rotate_left
   ·intro w'
    go_simp
    with_reducible rfl
   rotate_left
   ·simp only [Act.put, sT_, sZ_, sS_, i64_w, i32_w]
    rfl
   refine pure_ (i := 10) (N := some 35) (v := ?_) (a' := ?_) (ratio_Add.ups 21 1209) rfl rfl (any_of HT_.out (by kernel_rfl)) (fun _ _ _ h => h) (Or.inl ⟨by rfl, ?_⟩) ?_ ?_
   rotate_left
   ·intro w'
    go_simp
    with_reducible rfl
   rotate_left
   ·simp only [Act.put, sT_, sZ_, sS_, i64_w, i32_w]
    rfl
   refine pure_ (i := 11) (N := some 36) (v := ?_) (a' := ?_) (ratio_Add.ups 21 3257) rfl rfl (any_of HT_.out (by kernel_rfl)) (fun _ _ _ h => h) (Or.inl ⟨by rfl, ?_⟩) ?_ ?_
   rotate_left
   ·intro w'
    go_simp
    with_reducible rfl
   rotate_left
   ·simp only [Act.put, sT_, sZ_, sS_, i64_w, i32_w]
    rfl
   refine pure_ (i := 12) (N := some 37) (v := ?_) (a' := ?_) (ratio_Add.ups 21 7353) rfl rfl (any_of HT_.out (by kernel_rfl)) (fun _ _ _ h => h) (Or.inl ⟨by rfl, ?_⟩) ?_ ?_
   rotate_left
   ·intro w'
    go_simp
    with_reducible rfl
   rotate_left
   ·simp only [Act.put, sT_, sZ_, sS_, i64_w, i32_w]
    rfl
   refine take_ (i := 1) (N := some 26) (v := ?_) (a' := ?_) (ratio_Add.ups 21 7355) rfl rfl (take_ofW HT_.out HW_.out (by kernel_rfl)) (fun _ _ _ h => h) (Or.inl ⟨by rfl, ?_⟩) hHeld ?_ ?_
   rotate_left
   ·rintro w' ⟨s0, s1, s2, s3⟩
    go_simp
    with_reducible rfl
   rotate_left
   ·simp only [Act.put, sT_, sZ_, sS_, i64_w, i32_w]
    rfl
   refine pure_ (i := 2) (N := some 27) (v := ?_) (a' := ?_) (ratio_Add.ups 21 7359) rfl rfl (any_of HT_.out (by kernel_rfl)) (fun _ _ _ h => h) (Or.inl ⟨by rfl, ?_⟩) ?_ ?_
   rotate_left
   ·intro w'
    go_simp
    with_reducible rfl
   rotate_left
   ·simp only [Act.put, sT_, sZ_, sS_, i64_w, i32_w]
    rfl
   refine take_ (i := 8) (N := some 33) (v := ?_) (a' := ?_) (ratio_Add.ups 21 7615) rfl rfl (take_ofW HT_.out HW_.out (by kernel_rfl)) (fun _ _ _ h => h) (Or.inl ⟨by rfl, ?_⟩) hHeld ?_ ?_
   rotate_left
   ·rintro w' ⟨s0, s1, s2, s3⟩
    go_simp
    with_reducible rfl
   rotate_left
   ·simp only [Act.put, sT_, sZ_, sS_, i64_w, i32_w]
    rfl
   refine pure_ (i := 9) (N := some 34) (v := ?_) (a' := ?_) (ratio_Add.ups 21 8127) rfl rfl (any_of HT_.out (by kernel_rfl)) (fun _ _ _ h => h) (Or.inl ⟨by rfl, ?_⟩) ?_ ?_
   rotate_left
   ·intro w'
    go_simp
    with_reducible rfl
   rotate_left
   ·simp only [Act.put, sT_, sZ_, sS_, i64_w, i32_w]
    rfl
   refine join_ (σ := Nat) 2 (ratio_Add.ups 21 524287) (fun s_ => [(31, .agg #[.int .u64 t1830, .int .u64 t1831]), (38, .agg #[.int .u64 t1832, .int .u64 t1833]), (39, .tuple #[.agg #[.int .u64 t1834, .int .u64 t1835], .int .i64 t1836]), (9, .pointer (some ⟨s_, 0, none⟩)), (24, .tuple #[.agg #[.int .u64 t1834, .int .u64 t1835], .int .i64 t1836]), (40, .agg #[.int .u64 t1834, .int .u64 t1835]), (41, .int .i64 t1836)]) (fun s_ w' => (w'.cell? ⟨gb1826, 0, none⟩ = some (.int .i64 a0_0) ∧ w'.cell? ⟨gb1826, 1, none⟩ = some (.int .i64 a0_1) ∧ w'.cell? ⟨gb1827, 0, none⟩ = some (.int .i64 a1_0) ∧ w'.cell? ⟨gb1827, 1, none⟩ = some (.int .i64 a1_1)) ∧ (w'.heap[gb1826]? = some (.cells #[.int .i64 a0_0, .int .i64 a0_1] 24 (0, 0))) ∧ (w'.heap[gb1827]? = some (.cells #[.int .i64 a1_0, .int .i64 a1_1] 24 (0, 0))) ∧ (w'.heap[gb1828]? = some (.cells #[.int .i64 0, .int .i64 0] 24 (0, 0))) ∧ (w'.heap[s_]? = some (.cells #[.int .u64 0, .int .u64 0] 72 (0, 0))) ∧ (w.heap.size ≤ s_) ∧ (w.heap.size ≤ s_) ∧ (gb1826 ≠ s_) ∧ (s_ ≠ gb1826) ∧ (gb1827 ≠ s_) ∧ (s_ ≠ gb1827) ∧ (gb1828 ≠ s_) ∧ (s_ ≠ gb1828) ∧ (Below w.heap.size w w')) ?_ ?_
   rotate_left
   ·intro hCont
    refine two_ (i := 6) (j := 18) (Ni := some 31) (Nj := some 9) (ratio_Add.ups 21 8191) (ratio_Add.ups 21 270271) rfl rfl rfl rfl (two_of HT_.out (by kernel_rfl)) (by decide) (by decide) (fun K hK => ?_) (fun K hK => ?_)
    ·skip
     refine goes_ Tryd.func50 (by kernel_rfl) rfl #[.int .u64 (IntKind.u64.wrap (a0_0)), .int .u64 (IntKind.u64.wrap (Int.tdiv (IntKind.u64.wrap (a1_1)) t1829))] (by rfl) rfl rfl (by (try simp only [mT_, mC_, mN_]); first | done | rfl) ?_
     with_reducible refine (wide_Mul.calls (IntKind.u64.wrap (a0_0)) (IntKind.u64.wrap (Int.tdiv (IntKind.u64.wrap (a1_1)) t1829)) t1830 t1831 _ A5.out).mono ?_
     rintro e w20 ⟨rfl, hb⟩
     refine ⟨_, rfl, ?_⟩
     replace BK1826 := bK_ BK1826 hb
     replace BK1827 := bK_ BK1827 hb
     replace BK1828 := bK_ BK1828 hb
     replace HB := bB_ (by repeat (with_reducible first | exact HB.out | apply bA_ | apply bN_ | apply bD_ | refine bS_ ?_ GE1826.out | refine bS_ ?_ GE1827.out | refine bS_ ?_ GE1828.out)) hb
     (try clear hb)
     (try clear hb2)
     (try clear hk)
     (try clear hi)
     refine hK.out _ _ ⟨(blk_cell BK1826.out 0).trans rfl, (blk_cell BK1826.out 1).trans rfl, (blk_cell BK1827.out 0).trans rfl, (blk_cell BK1827.out 1).trans rfl⟩ (fun hHeld => ?_)
     clear hK K
     refine norm_ (by show Act.put _ (some 31) _ = _; simp only [Act.put, sT_, sZ_, sS_, i64_w, i32_w] <;> rfl) ?_
     refine two_ (i := 13) (j := 18) (Ni := some 38) (Nj := some 9) (ratio_Add.ups 21 16383) (ratio_Add.ups 21 270335) rfl rfl rfl rfl (two_of HT_.out (by kernel_rfl)) (by decide) (by decide) (fun K hK => ?_) (fun K hK => ?_)
     ·skip
      refine goes_ Tryd.func50 (by kernel_rfl) rfl #[.int .u64 (IntKind.u64.wrap (a1_0)), .int .u64 (IntKind.u64.wrap (Int.tdiv (IntKind.u64.wrap (a0_1)) t1829))] (by rfl) rfl rfl (by (try simp only [mT_, mC_, mN_]); first | done | rfl) ?_
      with_reducible refine (wide_Mul.calls (IntKind.u64.wrap (a1_0)) (IntKind.u64.wrap (Int.tdiv (IntKind.u64.wrap (a0_1)) t1829)) t1832 t1833 _ A6.out).mono ?_
      rintro e w21 ⟨rfl, hb⟩
      refine ⟨_, rfl, ?_⟩
      replace BK1826 := bK_ BK1826 hb
      replace BK1827 := bK_ BK1827 hb
      replace BK1828 := bK_ BK1828 hb
      replace HB := bB_ (by repeat (with_reducible first | exact HB.out | apply bA_ | apply bN_ | apply bD_ | refine bS_ ?_ GE1826.out | refine bS_ ?_ GE1827.out | refine bS_ ?_ GE1828.out)) hb
      (try clear hb)
      (try clear hb2)
      (try clear hk)
      (try clear hi)
      refine hK.out _ _ ⟨(blk_cell BK1826.out 0).trans rfl, (blk_cell BK1826.out 1).trans rfl, (blk_cell BK1827.out 0).trans rfl, (blk_cell BK1827.out 1).trans rfl⟩ (fun hHeld => ?_)
      clear hK K
      refine norm_ (by show Act.put _ (some 38) _ = _; simp only [Act.put, sT_, sZ_, sS_, i64_w, i32_w] <;> rfl) ?_
      refine two_ (i := 14) (j := 18) (Ni := some 39) (Nj := some 9) (ratio_Add.ups 21 32767) (ratio_Add.ups 21 278527) rfl rfl rfl rfl (two_of HT_.out (by kernel_rfl)) (by decide) (by decide) (fun K hK => ?_) (fun K hK => ?_)
      ·skip
       refine goes_ Tryd.func49 (by kernel_rfl) rfl #[.agg #[.int .u64 t1830, .int .u64 t1831], .agg #[.int .u64 t1832, .int .u64 t1833]] (by rfl) rfl rfl (by (try simp only [mT_, mC_, mN_]); first | done | rfl) ?_
       with_reducible refine (wide_Add.calls t1830 t1831 t1832 t1833 t1834 t1835 t1836 _ A7.out).mono ?_
       rintro e w22 ⟨rfl, hb⟩
       refine ⟨_, rfl, ?_⟩
       replace BK1826 := bK_ BK1826 hb
       replace BK1827 := bK_ BK1827 hb
       replace BK1828 := bK_ BK1828 hb
       replace HB := bB_ (by repeat (with_reducible first | exact HB.out | apply bA_ | apply bN_ | apply bD_ | refine bS_ ?_ GE1826.out | refine bS_ ?_ GE1827.out | refine bS_ ?_ GE1828.out)) hb
       (try clear hb)
       (try clear hb2)
       (try clear hk)
       (try clear hi)
       refine hK.out _ _ ⟨(blk_cell BK1826.out 0).trans rfl, (blk_cell BK1826.out 1).trans rfl, (blk_cell BK1827.out 0).trans rfl, (blk_cell BK1827.out 1).trans rfl⟩ (fun hHeld => ?_)
       clear hK K
       refine norm_ (by show Act.put _ (some 39) _ = _; simp only [Act.put, sT_, sZ_, sS_, i64_w, i32_w] <;> rfl) ?_
       refine pure_ (i := 15) (N := some 24) (v := ?_) (a' := ?_) (ratio_Add.ups 21 65535) rfl rfl (any_of HT_.out (by kernel_rfl)) (fun _ _ _ h => h) (Or.inl ⟨by rfl, ?_⟩) ?_ ?_
       rotate_left
       ·intro w'
        go_simp
        with_reducible rfl
       rotate_left
       ·simp only [Act.put, sT_, sZ_, sS_, i64_w, i32_w]
        rfl
       refine pure_ (i := 16) (N := some 40) (v := ?_) (a' := ?_) (ratio_Add.ups 21 131071) rfl rfl (any_of HT_.out (by kernel_rfl)) (fun _ _ _ h => h) (Or.inl ⟨by rfl, ?_⟩) ?_ ?_
       rotate_left
       ·intro w'
        go_simp
        with_reducible rfl
       rotate_left
       ·simp only [Act.put, sT_, sZ_, sS_, i64_w, i32_w]
        rfl
       refine pure_ (i := 17) (N := some 41) (v := ?_) (a' := ?_) (ratio_Add.ups 21 262143) rfl rfl (any_of HT_.out (by kernel_rfl)) (fun _ _ _ h => h) (Or.inl ⟨by rfl, ?_⟩) ?_ ?_
       rotate_left
       ·intro w'
        go_simp
        with_reducible rfl
       rotate_left
       ·simp only [Act.put, sT_, sZ_, sS_, i64_w, i32_w]
        rfl
       refine one_ (i := 18) (N := some 9) (ratio_Add.ups 21 524287) rfl rfl (one_of HT_.out (by kernel_rfl)) (by decide) (fun K hK => ?_)
       refine box_step rfl (N := 9) rfl (cs := #[.int .u64 0, .int .u64 0]) (t := 72) ?hr ?_; (case hr => go_simp <;> rfl)
       intro gb1837 hg w23 hbox hb
       have BK1837 := aA_ (hbox)
       have GW1837 := gW_ hg (by repeat (with_reducible first | exact HB.out | apply bA_ | apply bN_ | apply bD_ | refine bS_ ?_ GE1826.out | refine bS_ ?_ GE1827.out | refine bS_ ?_ GE1828.out))
       have GE1837 := GW1837
       replace HB := bB_ (by repeat (with_reducible first | exact HB.out | apply bA_ | apply bN_ | apply bD_ | refine bS_ ?_ GE1826.out | refine bS_ ?_ GE1827.out | refine bS_ ?_ GE1828.out)) hb
       have NB1826_1837 := nE_ hg BK1826
       have NB1837_1826 := aA_ NB1826_1837.out.symm
       replace BK1826 := bK_ BK1826 hb
       have NB1827_1837 := nE_ hg BK1827
       have NB1837_1827 := aA_ NB1827_1837.out.symm
       replace BK1827 := bK_ BK1827 hb
       have NB1828_1837 := nE_ hg BK1828
       have NB1837_1828 := aA_ NB1828_1837.out.symm
       replace BK1828 := bK_ BK1828 hb
       clear hb hbox hg
       refine hK.out _ _ ⟨(blk_cell BK1826.out 0).trans rfl, (blk_cell BK1826.out 1).trans rfl, (blk_cell BK1827.out 0).trans rfl, (blk_cell BK1827.out 1).trans rfl⟩ (fun hHeld => ?_)
       clear hK K
       refine norm_ (by show Act.put _ (some 9) _ = _; simp only [Act.put, sT_, sZ_, sS_, i64_w, i32_w] <;> rfl) ?_
       exact norm_ (by simp only [putAll, Act.put, sT_, sZ_, sS_]) (hCont (gb1837) _ ⟨hHeld, BK1826.out, BK1827.out, BK1828.out, BK1837.out, GW1837.out, GE1837.out, NB1826_1837.out, NB1837_1826.out, NB1827_1837.out, NB1837_1827.out, NB1828_1837.out, NB1837_1828.out, (by repeat (with_reducible first | exact HB.out | apply bA_ | apply bN_ | apply bD_ | refine bS_ ?_ GE1826.out | refine bS_ ?_ GE1827.out | refine bS_ ?_ GE1828.out | refine bS_ ?_ GE1837.out))⟩)
      ·skip
       refine box_step rfl (N := 9) rfl (cs := #[.int .u64 0, .int .u64 0]) (t := 72) ?hr ?_; (case hr => go_simp <;> rfl)
       intro gb1837 hg w22 hbox hb
       have BK1837 := aA_ (hbox)
       have GW1837 := gW_ hg (by repeat (with_reducible first | exact HB.out | apply bA_ | apply bN_ | apply bD_ | refine bS_ ?_ GE1826.out | refine bS_ ?_ GE1827.out | refine bS_ ?_ GE1828.out))
       have GE1837 := GW1837
       replace HB := bB_ (by repeat (with_reducible first | exact HB.out | apply bA_ | apply bN_ | apply bD_ | refine bS_ ?_ GE1826.out | refine bS_ ?_ GE1827.out | refine bS_ ?_ GE1828.out)) hb
       have NB1826_1837 := nE_ hg BK1826
       have NB1837_1826 := aA_ NB1826_1837.out.symm
       replace BK1826 := bK_ BK1826 hb
       have NB1827_1837 := nE_ hg BK1827
       have NB1837_1827 := aA_ NB1827_1837.out.symm
       replace BK1827 := bK_ BK1827 hb
       have NB1828_1837 := nE_ hg BK1828
       have NB1837_1828 := aA_ NB1828_1837.out.symm
       replace BK1828 := bK_ BK1828 hb
       clear hb hbox hg
       refine hK.out _ _ ⟨(blk_cell BK1826.out 0).trans rfl, (blk_cell BK1826.out 1).trans rfl, (blk_cell BK1827.out 0).trans rfl, (blk_cell BK1827.out 1).trans rfl⟩ (fun hHeld => ?_)
       clear hK K
       refine norm_ (by show Act.put _ (some 9) _ = _; simp only [Act.put, sT_, sZ_, sS_, i64_w, i32_w] <;> rfl) ?_
       refine one_ (i := 14) (N := some 39) (ratio_Add.ups 21 294911) rfl rfl (one_of HT_.out (by kernel_rfl)) (by decide) (fun K hK => ?_)
       refine goes_ Tryd.func49 (by kernel_rfl) rfl #[.agg #[.int .u64 t1830, .int .u64 t1831], .agg #[.int .u64 t1832, .int .u64 t1833]] (by rfl) rfl rfl (by (try simp only [mT_, mC_, mN_]); first | done | rfl) ?_
       with_reducible refine (wide_Add.calls t1830 t1831 t1832 t1833 t1834 t1835 t1836 _ A7.out).mono ?_
       rintro e w23 ⟨rfl, hb⟩
       refine ⟨_, rfl, ?_⟩
       replace BK1826 := bK_ BK1826 hb
       replace BK1827 := bK_ BK1827 hb
       replace BK1828 := bK_ BK1828 hb
       replace BK1837 := bK_ BK1837 hb
       replace HB := bB_ (by repeat (with_reducible first | exact HB.out | apply bA_ | apply bN_ | apply bD_ | refine bS_ ?_ GE1826.out | refine bS_ ?_ GE1827.out | refine bS_ ?_ GE1828.out | refine bS_ ?_ GE1837.out)) hb
       (try clear hb)
       (try clear hb2)
       (try clear hk)
       (try clear hi)
       refine hK.out _ _ ⟨(blk_cell BK1826.out 0).trans rfl, (blk_cell BK1826.out 1).trans rfl, (blk_cell BK1827.out 0).trans rfl, (blk_cell BK1827.out 1).trans rfl⟩ (fun hHeld => ?_)
       clear hK K
       refine norm_ (by show Act.put _ (some 39) _ = _; simp only [Act.put, sT_, sZ_, sS_, i64_w, i32_w] <;> rfl) ?_
       refine pure_ (i := 15) (N := some 24) (v := ?_) (a' := ?_) (ratio_Add.ups 21 327679) rfl rfl (any_of HT_.out (by kernel_rfl)) (fun _ _ _ h => h) (Or.inl ⟨by rfl, ?_⟩) ?_ ?_
       rotate_left
       ·intro w'
        go_simp
        with_reducible rfl
       rotate_left
       ·simp only [Act.put, sT_, sZ_, sS_, i64_w, i32_w]
        rfl
       refine pure_ (i := 16) (N := some 40) (v := ?_) (a' := ?_) (ratio_Add.ups 21 393215) rfl rfl (any_of HT_.out (by kernel_rfl)) (fun _ _ _ h => h) (Or.inl ⟨by rfl, ?_⟩) ?_ ?_
       rotate_left
       ·intro w'
        go_simp
        with_reducible rfl
       rotate_left
       ·simp only [Act.put, sT_, sZ_, sS_, i64_w, i32_w]
        rfl
       refine pure_ (i := 17) (N := some 41) (v := ?_) (a' := ?_) (ratio_Add.ups 21 524287) rfl rfl (any_of HT_.out (by kernel_rfl)) (fun _ _ _ h => h) (Or.inl ⟨by rfl, ?_⟩) ?_ ?_
       rotate_left
       ·intro w'
        go_simp
        with_reducible rfl
       rotate_left
       ·simp only [Act.put, sT_, sZ_, sS_, i64_w, i32_w]
        rfl
       exact norm_ (by simp only [putAll, Act.put, sT_, sZ_, sS_]) (hCont (gb1837) _ ⟨hHeld, BK1826.out, BK1827.out, BK1828.out, BK1837.out, GW1837.out, GE1837.out, NB1826_1837.out, NB1837_1826.out, NB1827_1837.out, NB1837_1827.out, NB1828_1837.out, NB1837_1828.out, (by repeat (with_reducible first | exact HB.out | apply bA_ | apply bN_ | apply bD_ | refine bS_ ?_ GE1826.out | refine bS_ ?_ GE1827.out | refine bS_ ?_ GE1828.out | refine bS_ ?_ GE1837.out))⟩)
     ·skip
      refine box_step rfl (N := 9) rfl (cs := #[.int .u64 0, .int .u64 0]) (t := 72) ?hr ?_; (case hr => go_simp <;> rfl)
      intro gb1837 hg w21 hbox hb
      have BK1837 := aA_ (hbox)
      have GW1837 := gW_ hg (by repeat (with_reducible first | exact HB.out | apply bA_ | apply bN_ | apply bD_ | refine bS_ ?_ GE1826.out | refine bS_ ?_ GE1827.out | refine bS_ ?_ GE1828.out))
      have GE1837 := GW1837
      replace HB := bB_ (by repeat (with_reducible first | exact HB.out | apply bA_ | apply bN_ | apply bD_ | refine bS_ ?_ GE1826.out | refine bS_ ?_ GE1827.out | refine bS_ ?_ GE1828.out)) hb
      have NB1826_1837 := nE_ hg BK1826
      have NB1837_1826 := aA_ NB1826_1837.out.symm
      replace BK1826 := bK_ BK1826 hb
      have NB1827_1837 := nE_ hg BK1827
      have NB1837_1827 := aA_ NB1827_1837.out.symm
      replace BK1827 := bK_ BK1827 hb
      have NB1828_1837 := nE_ hg BK1828
      have NB1837_1828 := aA_ NB1828_1837.out.symm
      replace BK1828 := bK_ BK1828 hb
      clear hb hbox hg
      refine hK.out _ _ ⟨(blk_cell BK1826.out 0).trans rfl, (blk_cell BK1826.out 1).trans rfl, (blk_cell BK1827.out 0).trans rfl, (blk_cell BK1827.out 1).trans rfl⟩ (fun hHeld => ?_)
      clear hK K
      refine norm_ (by show Act.put _ (some 9) _ = _; simp only [Act.put, sT_, sZ_, sS_, i64_w, i32_w] <;> rfl) ?_
      refine one_ (i := 13) (N := some 38) (ratio_Add.ups 21 278527) rfl rfl (one_of HT_.out (by kernel_rfl)) (by decide) (fun K hK => ?_)
      refine goes_ Tryd.func50 (by kernel_rfl) rfl #[.int .u64 (IntKind.u64.wrap (a1_0)), .int .u64 (IntKind.u64.wrap (Int.tdiv (IntKind.u64.wrap (a0_1)) t1829))] (by rfl) rfl rfl (by (try simp only [mT_, mC_, mN_]); first | done | rfl) ?_
      with_reducible refine (wide_Mul.calls (IntKind.u64.wrap (a1_0)) (IntKind.u64.wrap (Int.tdiv (IntKind.u64.wrap (a0_1)) t1829)) t1832 t1833 _ A6.out).mono ?_
      rintro e w22 ⟨rfl, hb⟩
      refine ⟨_, rfl, ?_⟩
      replace BK1826 := bK_ BK1826 hb
      replace BK1827 := bK_ BK1827 hb
      replace BK1828 := bK_ BK1828 hb
      replace BK1837 := bK_ BK1837 hb
      replace HB := bB_ (by repeat (with_reducible first | exact HB.out | apply bA_ | apply bN_ | apply bD_ | refine bS_ ?_ GE1826.out | refine bS_ ?_ GE1827.out | refine bS_ ?_ GE1828.out | refine bS_ ?_ GE1837.out)) hb
      (try clear hb)
      (try clear hb2)
      (try clear hk)
      (try clear hi)
      refine hK.out _ _ ⟨(blk_cell BK1826.out 0).trans rfl, (blk_cell BK1826.out 1).trans rfl, (blk_cell BK1827.out 0).trans rfl, (blk_cell BK1827.out 1).trans rfl⟩ (fun hHeld => ?_)
      clear hK K
      refine norm_ (by show Act.put _ (some 38) _ = _; simp only [Act.put, sT_, sZ_, sS_, i64_w, i32_w] <;> rfl) ?_
      refine one_ (i := 14) (N := some 39) (ratio_Add.ups 21 294911) rfl rfl (one_of HT_.out (by kernel_rfl)) (by decide) (fun K hK => ?_)
      refine goes_ Tryd.func49 (by kernel_rfl) rfl #[.agg #[.int .u64 t1830, .int .u64 t1831], .agg #[.int .u64 t1832, .int .u64 t1833]] (by rfl) rfl rfl (by (try simp only [mT_, mC_, mN_]); first | done | rfl) ?_
      with_reducible refine (wide_Add.calls t1830 t1831 t1832 t1833 t1834 t1835 t1836 _ A7.out).mono ?_
      rintro e w23 ⟨rfl, hb⟩
      refine ⟨_, rfl, ?_⟩
      replace BK1826 := bK_ BK1826 hb
      replace BK1827 := bK_ BK1827 hb
      replace BK1828 := bK_ BK1828 hb
      replace BK1837 := bK_ BK1837 hb
      replace HB := bB_ (by repeat (with_reducible first | exact HB.out | apply bA_ | apply bN_ | apply bD_ | refine bS_ ?_ GE1826.out | refine bS_ ?_ GE1827.out | refine bS_ ?_ GE1828.out | refine bS_ ?_ GE1837.out)) hb
      (try clear hb)
      (try clear hb2)
      (try clear hk)
      (try clear hi)
      refine hK.out _ _ ⟨(blk_cell BK1826.out 0).trans rfl, (blk_cell BK1826.out 1).trans rfl, (blk_cell BK1827.out 0).trans rfl, (blk_cell BK1827.out 1).trans rfl⟩ (fun hHeld => ?_)
      clear hK K
      refine norm_ (by show Act.put _ (some 39) _ = _; simp only [Act.put, sT_, sZ_, sS_, i64_w, i32_w] <;> rfl) ?_
      refine pure_ (i := 15) (N := some 24) (v := ?_) (a' := ?_) (ratio_Add.ups 21 327679) rfl rfl (any_of HT_.out (by kernel_rfl)) (fun _ _ _ h => h) (Or.inl ⟨by rfl, ?_⟩) ?_ ?_
      rotate_left
      ·intro w'
       go_simp
       with_reducible rfl
      rotate_left
      ·simp only [Act.put, sT_, sZ_, sS_, i64_w, i32_w]
       rfl
      refine pure_ (i := 16) (N := some 40) (v := ?_) (a' := ?_) (ratio_Add.ups 21 393215) rfl rfl (any_of HT_.out (by kernel_rfl)) (fun _ _ _ h => h) (Or.inl ⟨by rfl, ?_⟩) ?_ ?_
      rotate_left
      ·intro w'
       go_simp
       with_reducible rfl
      rotate_left
      ·simp only [Act.put, sT_, sZ_, sS_, i64_w, i32_w]
       rfl
      refine pure_ (i := 17) (N := some 41) (v := ?_) (a' := ?_) (ratio_Add.ups 21 524287) rfl rfl (any_of HT_.out (by kernel_rfl)) (fun _ _ _ h => h) (Or.inl ⟨by rfl, ?_⟩) ?_ ?_
      rotate_left
      ·intro w'
       go_simp
       with_reducible rfl
      rotate_left
      ·simp only [Act.put, sT_, sZ_, sS_, i64_w, i32_w]
       rfl
      exact norm_ (by simp only [putAll, Act.put, sT_, sZ_, sS_]) (hCont (gb1837) _ ⟨hHeld, BK1826.out, BK1827.out, BK1828.out, BK1837.out, GW1837.out, GE1837.out, NB1826_1837.out, NB1837_1826.out, NB1827_1837.out, NB1837_1827.out, NB1828_1837.out, NB1837_1828.out, (by repeat (with_reducible first | exact HB.out | apply bA_ | apply bN_ | apply bD_ | refine bS_ ?_ GE1826.out | refine bS_ ?_ GE1827.out | refine bS_ ?_ GE1828.out | refine bS_ ?_ GE1837.out))⟩)
    ·skip
     refine box_step rfl (N := 9) rfl (cs := #[.int .u64 0, .int .u64 0]) (t := 72) ?hr ?_; (case hr => go_simp <;> rfl)
     intro gb1837 hg w20 hbox hb
     have BK1837 := aA_ (hbox)
     have GW1837 := gW_ hg (by repeat (with_reducible first | exact HB.out | apply bA_ | apply bN_ | apply bD_ | refine bS_ ?_ GE1826.out | refine bS_ ?_ GE1827.out | refine bS_ ?_ GE1828.out))
     have GE1837 := GW1837
     replace HB := bB_ (by repeat (with_reducible first | exact HB.out | apply bA_ | apply bN_ | apply bD_ | refine bS_ ?_ GE1826.out | refine bS_ ?_ GE1827.out | refine bS_ ?_ GE1828.out)) hb
     have NB1826_1837 := nE_ hg BK1826
     have NB1837_1826 := aA_ NB1826_1837.out.symm
     replace BK1826 := bK_ BK1826 hb
     have NB1827_1837 := nE_ hg BK1827
     have NB1837_1827 := aA_ NB1827_1837.out.symm
     replace BK1827 := bK_ BK1827 hb
     have NB1828_1837 := nE_ hg BK1828
     have NB1837_1828 := aA_ NB1828_1837.out.symm
     replace BK1828 := bK_ BK1828 hb
     clear hb hbox hg
     refine hK.out _ _ ⟨(blk_cell BK1826.out 0).trans rfl, (blk_cell BK1826.out 1).trans rfl, (blk_cell BK1827.out 0).trans rfl, (blk_cell BK1827.out 1).trans rfl⟩ (fun hHeld => ?_)
     clear hK K
     refine norm_ (by show Act.put _ (some 9) _ = _; simp only [Act.put, sT_, sZ_, sS_, i64_w, i32_w] <;> rfl) ?_
     refine one_ (i := 6) (N := some 31) (ratio_Add.ups 21 270335) rfl rfl (one_of HT_.out (by kernel_rfl)) (by decide) (fun K hK => ?_)
     refine goes_ Tryd.func50 (by kernel_rfl) rfl #[.int .u64 (IntKind.u64.wrap (a0_0)), .int .u64 (IntKind.u64.wrap (Int.tdiv (IntKind.u64.wrap (a1_1)) t1829))] (by rfl) rfl rfl (by (try simp only [mT_, mC_, mN_]); first | done | rfl) ?_
     with_reducible refine (wide_Mul.calls (IntKind.u64.wrap (a0_0)) (IntKind.u64.wrap (Int.tdiv (IntKind.u64.wrap (a1_1)) t1829)) t1830 t1831 _ A5.out).mono ?_
     rintro e w21 ⟨rfl, hb⟩
     refine ⟨_, rfl, ?_⟩
     replace BK1826 := bK_ BK1826 hb
     replace BK1827 := bK_ BK1827 hb
     replace BK1828 := bK_ BK1828 hb
     replace BK1837 := bK_ BK1837 hb
     replace HB := bB_ (by repeat (with_reducible first | exact HB.out | apply bA_ | apply bN_ | apply bD_ | refine bS_ ?_ GE1826.out | refine bS_ ?_ GE1827.out | refine bS_ ?_ GE1828.out | refine bS_ ?_ GE1837.out)) hb
     (try clear hb)
     (try clear hb2)
     (try clear hk)
     (try clear hi)
     refine hK.out _ _ ⟨(blk_cell BK1826.out 0).trans rfl, (blk_cell BK1826.out 1).trans rfl, (blk_cell BK1827.out 0).trans rfl, (blk_cell BK1827.out 1).trans rfl⟩ (fun hHeld => ?_)
     clear hK K
     refine norm_ (by show Act.put _ (some 31) _ = _; simp only [Act.put, sT_, sZ_, sS_, i64_w, i32_w] <;> rfl) ?_
     refine one_ (i := 13) (N := some 38) (ratio_Add.ups 21 278527) rfl rfl (one_of HT_.out (by kernel_rfl)) (by decide) (fun K hK => ?_)
     refine goes_ Tryd.func50 (by kernel_rfl) rfl #[.int .u64 (IntKind.u64.wrap (a1_0)), .int .u64 (IntKind.u64.wrap (Int.tdiv (IntKind.u64.wrap (a0_1)) t1829))] (by rfl) rfl rfl (by (try simp only [mT_, mC_, mN_]); first | done | rfl) ?_
     with_reducible refine (wide_Mul.calls (IntKind.u64.wrap (a1_0)) (IntKind.u64.wrap (Int.tdiv (IntKind.u64.wrap (a0_1)) t1829)) t1832 t1833 _ A6.out).mono ?_
     rintro e w22 ⟨rfl, hb⟩
     refine ⟨_, rfl, ?_⟩
     replace BK1826 := bK_ BK1826 hb
     replace BK1827 := bK_ BK1827 hb
     replace BK1828 := bK_ BK1828 hb
     replace BK1837 := bK_ BK1837 hb
     replace HB := bB_ (by repeat (with_reducible first | exact HB.out | apply bA_ | apply bN_ | apply bD_ | refine bS_ ?_ GE1826.out | refine bS_ ?_ GE1827.out | refine bS_ ?_ GE1828.out | refine bS_ ?_ GE1837.out)) hb
     (try clear hb)
     (try clear hb2)
     (try clear hk)
     (try clear hi)
     refine hK.out _ _ ⟨(blk_cell BK1826.out 0).trans rfl, (blk_cell BK1826.out 1).trans rfl, (blk_cell BK1827.out 0).trans rfl, (blk_cell BK1827.out 1).trans rfl⟩ (fun hHeld => ?_)
     clear hK K
     refine norm_ (by show Act.put _ (some 38) _ = _; simp only [Act.put, sT_, sZ_, sS_, i64_w, i32_w] <;> rfl) ?_
     refine one_ (i := 14) (N := some 39) (ratio_Add.ups 21 294911) rfl rfl (one_of HT_.out (by kernel_rfl)) (by decide) (fun K hK => ?_)
     refine goes_ Tryd.func49 (by kernel_rfl) rfl #[.agg #[.int .u64 t1830, .int .u64 t1831], .agg #[.int .u64 t1832, .int .u64 t1833]] (by rfl) rfl rfl (by (try simp only [mT_, mC_, mN_]); first | done | rfl) ?_
     with_reducible refine (wide_Add.calls t1830 t1831 t1832 t1833 t1834 t1835 t1836 _ A7.out).mono ?_
     rintro e w23 ⟨rfl, hb⟩
     refine ⟨_, rfl, ?_⟩
     replace BK1826 := bK_ BK1826 hb
     replace BK1827 := bK_ BK1827 hb
     replace BK1828 := bK_ BK1828 hb
     replace BK1837 := bK_ BK1837 hb
     replace HB := bB_ (by repeat (with_reducible first | exact HB.out | apply bA_ | apply bN_ | apply bD_ | refine bS_ ?_ GE1826.out | refine bS_ ?_ GE1827.out | refine bS_ ?_ GE1828.out | refine bS_ ?_ GE1837.out)) hb
     (try clear hb)
     (try clear hb2)
     (try clear hk)
     (try clear hi)
     refine hK.out _ _ ⟨(blk_cell BK1826.out 0).trans rfl, (blk_cell BK1826.out 1).trans rfl, (blk_cell BK1827.out 0).trans rfl, (blk_cell BK1827.out 1).trans rfl⟩ (fun hHeld => ?_)
     clear hK K
     refine norm_ (by show Act.put _ (some 39) _ = _; simp only [Act.put, sT_, sZ_, sS_, i64_w, i32_w] <;> rfl) ?_
     refine pure_ (i := 15) (N := some 24) (v := ?_) (a' := ?_) (ratio_Add.ups 21 327679) rfl rfl (any_of HT_.out (by kernel_rfl)) (fun _ _ _ h => h) (Or.inl ⟨by rfl, ?_⟩) ?_ ?_
     rotate_left
     ·intro w'
      go_simp
      with_reducible rfl
     rotate_left
     ·simp only [Act.put, sT_, sZ_, sS_, i64_w, i32_w]
      rfl
     refine pure_ (i := 16) (N := some 40) (v := ?_) (a' := ?_) (ratio_Add.ups 21 393215) rfl rfl (any_of HT_.out (by kernel_rfl)) (fun _ _ _ h => h) (Or.inl ⟨by rfl, ?_⟩) ?_ ?_
     rotate_left
     ·intro w'
      go_simp
      with_reducible rfl
     rotate_left
     ·simp only [Act.put, sT_, sZ_, sS_, i64_w, i32_w]
      rfl
     refine pure_ (i := 17) (N := some 41) (v := ?_) (a' := ?_) (ratio_Add.ups 21 524287) rfl rfl (any_of HT_.out (by kernel_rfl)) (fun _ _ _ h => h) (Or.inl ⟨by rfl, ?_⟩) ?_ ?_
     rotate_left
     ·intro w'
      go_simp
      with_reducible rfl
     rotate_left
     ·simp only [Act.put, sT_, sZ_, sS_, i64_w, i32_w]
      rfl
     exact norm_ (by simp only [putAll, Act.put, sT_, sZ_, sS_]) (hCont (gb1837) _ ⟨hHeld, BK1826.out, BK1827.out, BK1828.out, BK1837.out, GW1837.out, GE1837.out, NB1826_1837.out, NB1837_1826.out, NB1827_1837.out, NB1837_1827.out, NB1828_1837.out, NB1837_1828.out, (by repeat (with_reducible first | exact HB.out | apply bA_ | apply bN_ | apply bD_ | refine bS_ ?_ GE1826.out | refine bS_ ?_ GE1827.out | refine bS_ ?_ GE1828.out | refine bS_ ?_ GE1837.out))⟩)
   rintro gb1837 w24 ⟨hS_, h0_, h1_, h2_, h3_, h4_, h5_, h6_, h7_, h8_, h9_, h10_, h11_, h12_⟩
   (try dsimp only at h0_ h1_ h2_ h3_ h4_ h5_ h6_ h7_ h8_ h9_ h10_ h11_ h12_)
   clear BK1826 BK1827 BK1828 HB
   have BK1826 := aA_ h0_
   have BK1827 := aA_ h1_
   have BK1828 := aA_ h2_
   have BK1837 := aA_ h3_
   have GW1837 := aA_ h4_
   have GE1837 := aA_ h5_
   have NB1826_1837 := aA_ h6_
   have NB1837_1826 := aA_ h7_
   have NB1827_1837 := aA_ h8_
   have NB1837_1827 := aA_ h9_
   have NB1828_1837 := aA_ h10_
   have NB1837_1828 := aA_ h11_
   have HB := aA_ h12_
   clear h0_ h1_ h2_ h3_ h4_ h5_ h6_ h7_ h8_ h9_ h10_ h11_ h12_
   have hHeld : w24.cell? ⟨gb1826, 0, none⟩ = some (.int .i64 a0_0) ∧ w24.cell? ⟨gb1826, 1, none⟩ = some (.int .i64 a0_1) ∧ w24.cell? ⟨gb1827, 0, none⟩ = some (.int .i64 a1_0) ∧ w24.cell? ⟨gb1827, 1, none⟩ = some (.int .i64 a1_1) := hS_
   refine norm_ (a' := ?_) ?_ ?_
   rotate_left
   ·simp only [putAll, Act.put, sT_, sZ_, sS_]
    rfl
   refine one_ (i := 19) (N := none) (ratio_Add.ups 21 1048575) rfl rfl (one_of HT_.out (by kernel_rfl)) (by decide) (fun K hK => ?_)
   have hs25 : w24.cell? ⟨gb1837, 0, none⟩ = some (.int .u64 0) := (blk_cell BK1837.out 0).trans rfl
   have hfs25 := blk_frozen BK1837.out 0
   have hns25_0 := NB1826_1837.out
   have hns25_1 := NB1827_1837.out
   have hns25_2 := NB1828_1837.out
   have hms25_0 := NB1837_1826.out
   have hms25_1 := NB1837_1827.out
   have hms25_2 := NB1837_1828.out
   have hs26 : w24.cell? ⟨gb1837, 1, none⟩ = some (.int .u64 0) := (blk_cell BK1837.out 1).trans rfl
   have hfs26 := blk_frozen BK1837.out 1
   have hns26_0 := NB1826_1837.out
   have hns26_1 := NB1827_1837.out
   have hns26_2 := NB1828_1837.out
   have hms26_0 := NB1837_1826.out
   have hms26_1 := NB1837_1827.out
   have hms26_2 := NB1837_1828.out
   refine skip_ (w1 := ?_) (by rfl) rfl ?_ ?_
   rotate_left
   ·go_simp
    rfl
   refine hK.out _ _ ⟨((cell_far (p := ⟨gb1837, _, none⟩) NB1826_1837.out _).trans (((cell_far (p := ⟨gb1837, _, none⟩) NB1826_1837.out _).trans (hHeld.1)))), ((cell_far (p := ⟨gb1837, _, none⟩) NB1826_1837.out _).trans (((cell_far (p := ⟨gb1837, _, none⟩) NB1826_1837.out _).trans (hHeld.2.1)))), ((cell_far (p := ⟨gb1837, _, none⟩) NB1827_1837.out _).trans (((cell_far (p := ⟨gb1837, _, none⟩) NB1827_1837.out _).trans (hHeld.2.2.1)))), ((cell_far (p := ⟨gb1837, _, none⟩) NB1827_1837.out _).trans (((cell_far (p := ⟨gb1837, _, none⟩) NB1827_1837.out _).trans (hHeld.2.2.2))))⟩ (fun hHeld => ?_)
   clear hK K
   refine pure_ (i := 20) (N := some 10) (v := ?_) (a' := ?_) (ratio_Add.ups 21 2097151) rfl rfl (any_of HT_.out (by kernel_rfl)) (fun _ _ _ h => h) (Or.inl ⟨by rfl, ?_⟩) ?_ ?_
   rotate_left
   ·intro w'
    go_simp
    with_reducible rfl
   rotate_left
   ·simp only [Act.put, sT_, sZ_, sS_, i64_w, i32_w]
    rfl
   refine done_ (done_of HT_.out (by kernel_rfl)) ?_
   have hnb27 := NB1837_1826.out
   have hnc27 := NB1826_1837.out
   have hnb28 := NB1837_1827.out
   have hnc28 := NB1827_1837.out
   have hnb29 := NB1837_1828.out
   have hnc29 := NB1828_1837.out
   have hcz30_0 : w24.cell? ⟨gb1837, 0, none⟩ = some (.int .u64 0) := (blk_cell BK1837.out 0).trans rfl
   have hcz30_1 : w24.cell? ⟨gb1837, 1, none⟩ = some (.int .u64 0) := (blk_cell BK1837.out 1).trans rfl
   have hfz30_0 := blk_frozen BK1837.out 0
   have hfz30_1 := blk_frozen BK1837.out 1
   try go_wp2_with (first | ((with_reducible refine gate_callee (f := 51) rfl ?_); refine goesL_ (some 45) rfl rfl Tryd.func51 (by kernel_rfl) rfl #[.agg #[.int .u64 t1834, .int .u64 t1835], .int .u64 t1829] rfl (by (try simp only [mT_, mC_, mN_]); first | done | rfl) ?_; (with_reducible refine (wide_Div.calls t1834 t1835 t1829 t1838 t1839 t1840 t1841 _ A8.out).mono ?_); rintro e w31 ⟨rfl, hb⟩; refine ⟨_, rfl, ?_⟩; replace BK1826 := aA_ (blk_below (g := gb1826) (o := .cells #[.int .i64 a0_0, .int .i64 a0_1] 24 (0, 0)) (by refine blk_far ?_ NB1826_1837.out _; refine blk_far ?_ NB1826_1837.out _; exact BK1826.out) hb); replace BK1827 := aA_ (blk_below (g := gb1827) (o := .cells #[.int .i64 a1_0, .int .i64 a1_1] 24 (0, 0)) (by refine blk_far ?_ NB1827_1837.out _; refine blk_far ?_ NB1827_1837.out _; exact BK1827.out) hb); replace BK1828 := aA_ (blk_below (g := gb1828) (o := .cells #[.int .i64 0, .int .i64 0] 24 (0, 0)) (by refine blk_far ?_ NB1828_1837.out _; refine blk_far ?_ NB1828_1837.out _; exact BK1828.out) hb); replace BK1837 := aA_ (blk_below (g := gb1837) (o := .cells #[.int .u64 t1834, .int .u64 t1835] 72 (0, 0)) (by refine blk_put (cs := #[.int .u64 t1834, .int .u64 0]) ?_ 1 _ rfl; refine blk_put (cs := #[.int .u64 0, .int .u64 0]) ?_ 0 _ rfl; exact BK1837.out) hb); replace HB := bB_ (by repeat (with_reducible first | exact HB.out | apply bA_ | apply bN_ | apply bD_ | refine bS_ ?_ GE1826.out | refine bS_ ?_ GE1827.out | refine bS_ ?_ GE1828.out | refine bS_ ?_ GE1837.out)) hb; (try clear hb)) | ((with_reducible refine gate_dst (N := 11) rfl ?_); refine box_event rfl (N := 11) rfl (cs := #[.int .u64 0, .int .u64 0]) (t := 72) ?hr ?_; (case hr => go_simp <;> rfl); intro gb1842 hg w32 hbox hb; have BK1842 := aA_ (hbox); have GW1842 := gW_ hg (by repeat (with_reducible first | exact HB.out | apply bA_ | apply bN_ | apply bD_ | refine bS_ ?_ GE1826.out | refine bS_ ?_ GE1827.out | refine bS_ ?_ GE1828.out | refine bS_ ?_ GE1837.out)); have GE1842 := GW1842; replace HB := bB_ (by repeat (with_reducible first | exact HB.out | apply bA_ | apply bN_ | apply bD_ | refine bS_ ?_ GE1826.out | refine bS_ ?_ GE1827.out | refine bS_ ?_ GE1828.out | refine bS_ ?_ GE1837.out)) hb; have NB1826_1842 := nE_ hg BK1826; have NB1842_1826 := aA_ NB1826_1842.out.symm; replace BK1826 := bK_ BK1826 hb; have NB1827_1842 := nE_ hg BK1827; have NB1842_1827 := aA_ NB1827_1842.out.symm; replace BK1827 := bK_ BK1827 hb; have NB1828_1842 := nE_ hg BK1828; have NB1842_1828 := aA_ NB1828_1842.out.symm; replace BK1828 := bK_ BK1828 hb; have NB1837_1842 := nE_ hg BK1837; have NB1842_1837 := aA_ NB1837_1842.out.symm; replace BK1837 := bK_ BK1837 hb; clear hb hbox hg; have hnb33 := NB1842_1826.out; have hnc33 := NB1826_1842.out; have hnb34 := NB1842_1827.out; have hnc34 := NB1827_1842.out; have hnb35 := NB1842_1828.out; have hnc35 := NB1828_1842.out; have hnb36 := NB1842_1837.out; have hnc36 := NB1837_1842.out; have hcz37_0 : w32.cell? ⟨gb1842, 0, none⟩ = some (.int .u64 0) := (blk_cell BK1842.out 0).trans rfl; have hcz37_1 : w32.cell? ⟨gb1842, 1, none⟩ = some (.int .u64 0) := (blk_cell BK1842.out 1).trans rfl; have hfz37_0 := blk_frozen BK1842.out 0; have hfz37_1 := blk_frozen BK1842.out 1) | ((with_reducible refine gate_callee (f := 43) rfl ?_); refine goesL_ (some 51) rfl rfl Tryd.func43 (by kernel_rfl) rfl #[.int .u64 t1840, .int .u64 t1829] rfl (by (try simp only [mT_, mC_, mN_]); first | done | rfl) ?_; (with_reducible refine (ratio_Gcd.calls t1840 t1829 t1843 _ A9.out).mono ?_); rintro e w38 ⟨rfl, hb⟩; refine ⟨_, rfl, ?_⟩; replace BK1826 := aA_ (blk_below (g := gb1826) (o := .cells #[.int .i64 a0_0, .int .i64 a0_1] 24 (0, 0)) (by refine blk_far ?_ NB1826_1842.out _; refine blk_far ?_ NB1826_1842.out _; exact BK1826.out) hb); replace BK1827 := aA_ (blk_below (g := gb1827) (o := .cells #[.int .i64 a1_0, .int .i64 a1_1] 24 (0, 0)) (by refine blk_far ?_ NB1827_1842.out _; refine blk_far ?_ NB1827_1842.out _; exact BK1827.out) hb); replace BK1828 := aA_ (blk_below (g := gb1828) (o := .cells #[.int .i64 0, .int .i64 0] 24 (0, 0)) (by refine blk_far ?_ NB1828_1842.out _; refine blk_far ?_ NB1828_1842.out _; exact BK1828.out) hb); replace BK1837 := aA_ (blk_below (g := gb1837) (o := .cells #[.int .u64 t1834, .int .u64 t1835] 72 (0, 0)) (by refine blk_far ?_ NB1837_1842.out _; refine blk_far ?_ NB1837_1842.out _; exact BK1837.out) hb); replace BK1842 := aA_ (blk_below (g := gb1842) (o := .cells #[.int .u64 t1838, .int .u64 t1839] 72 (0, 0)) (by refine blk_put (cs := #[.int .u64 t1838, .int .u64 0]) ?_ 1 _ rfl; refine blk_put (cs := #[.int .u64 0, .int .u64 0]) ?_ 0 _ rfl; exact BK1842.out) hb); replace HB := bB_ (by repeat (with_reducible first | exact HB.out | apply bA_ | apply bN_ | apply bD_ | refine bS_ ?_ GE1826.out | refine bS_ ?_ GE1827.out | refine bS_ ?_ GE1828.out | refine bS_ ?_ GE1837.out | refine bS_ ?_ GE1842.out)) hb; (try clear hb); have hcz39_0 : w38.cell? ⟨gb1837, 0, none⟩ = some (.int .u64 t1834) := (blk_cell BK1837.out 0).trans rfl; have hcz39_1 : w38.cell? ⟨gb1837, 1, none⟩ = some (.int .u64 t1835) := (blk_cell BK1837.out 1).trans rfl; have hfz39_0 := blk_frozen BK1837.out 0; have hfz39_1 := blk_frozen BK1837.out 1) | ((with_reducible refine gate_callee (f := 51) rfl ?_); refine goesL_ (some 55) rfl rfl Tryd.func51 (by kernel_rfl) rfl #[.agg #[.int .u64 t1834, .int .u64 t1835], .int .u64 t1843] rfl (by (try simp only [mT_, mC_, mN_]); first | done | rfl) ?_; (with_reducible refine (wide_Div.calls t1834 t1835 t1843 t1844 t1845 t1846 t1847 _ A10.out).mono ?_); rintro e w40 ⟨rfl, hb⟩; refine ⟨_, rfl, ?_⟩; replace BK1826 := bK_ BK1826 hb; replace BK1827 := bK_ BK1827 hb; replace BK1828 := bK_ BK1828 hb; replace BK1837 := bK_ BK1837 hb; replace BK1842 := bK_ BK1842 hb; replace HB := bB_ (by repeat (with_reducible first | exact HB.out | apply bA_ | apply bN_ | apply bD_ | refine bS_ ?_ GE1826.out | refine bS_ ?_ GE1827.out | refine bS_ ?_ GE1828.out | refine bS_ ?_ GE1837.out | refine bS_ ?_ GE1842.out)) hb; (try clear hb); have hcz41_0 : w40.cell? ⟨gb1837, 0, none⟩ = some (.int .u64 t1834) := (blk_cell BK1837.out 0).trans rfl; have hcz41_1 : w40.cell? ⟨gb1837, 1, none⟩ = some (.int .u64 t1835) := (blk_cell BK1837.out 1).trans rfl; have hfz41_0 := blk_frozen BK1837.out 0; have hfz41_1 := blk_frozen BK1837.out 1))
   have n0_ : Aside0 (((w40.setCell ⟨gb1837, 0, none⟩ (.int .u64 t1844)).setCell ⟨gb1837, 1, none⟩ (.int .u64 t1845)).heap[gb1826]? = some (.cells #[.int .i64 a0_0, .int .i64 a0_1] 24 (0, 0))) := ⟨by refine blk_far ?_ NB1826_1837.out _; refine blk_far ?_ NB1826_1837.out _; exact BK1826.out⟩
   have n1_ : Aside0 (((w40.setCell ⟨gb1837, 0, none⟩ (.int .u64 t1844)).setCell ⟨gb1837, 1, none⟩ (.int .u64 t1845)).heap[gb1827]? = some (.cells #[.int .i64 a1_0, .int .i64 a1_1] 24 (0, 0))) := ⟨by refine blk_far ?_ NB1827_1837.out _; refine blk_far ?_ NB1827_1837.out _; exact BK1827.out⟩
   have n2_ : Aside0 (((w40.setCell ⟨gb1837, 0, none⟩ (.int .u64 t1844)).setCell ⟨gb1837, 1, none⟩ (.int .u64 t1845)).heap[gb1828]? = some (.cells #[.int .i64 0, .int .i64 0] 24 (0, 0))) := ⟨by refine blk_far ?_ NB1828_1837.out _; refine blk_far ?_ NB1828_1837.out _; exact BK1828.out⟩
   have n3_ : Aside0 (((w40.setCell ⟨gb1837, 0, none⟩ (.int .u64 t1844)).setCell ⟨gb1837, 1, none⟩ (.int .u64 t1845)).heap[gb1837]? = some (.cells #[.int .u64 t1844, .int .u64 t1845] 72 (0, 0))) := ⟨by refine blk_put (cs := #[.int .u64 t1844, .int .u64 t1835]) ?_ 1 _ rfl; refine blk_put (cs := #[.int .u64 t1834, .int .u64 t1835]) ?_ 0 _ rfl; exact BK1837.out⟩
   have n4_ : Aside0 (((w40.setCell ⟨gb1837, 0, none⟩ (.int .u64 t1844)).setCell ⟨gb1837, 1, none⟩ (.int .u64 t1845)).heap[gb1842]? = some (.cells #[.int .u64 t1838, .int .u64 t1839] 72 (0, 0))) := ⟨by refine blk_far ?_ NB1842_1837.out _; refine blk_far ?_ NB1842_1837.out _; exact BK1842.out⟩
   have n5_ : Aside0 (Below w.heap.size w ((w40.setCell ⟨gb1837, 0, none⟩ (.int .u64 t1844)).setCell ⟨gb1837, 1, none⟩ (.int .u64 t1845))) := ⟨by repeat (with_reducible first | exact HB.out | apply bA_ | apply bN_ | apply bD_ | refine bS_ ?_ GE1826.out | refine bS_ ?_ GE1827.out | refine bS_ ?_ GE1828.out | refine bS_ ?_ GE1837.out | refine bS_ ?_ GE1842.out)⟩
   (try clear BK1826)
   (try clear BK1827)
   (try clear BK1828)
   (try clear BK1837)
   (try clear BK1842)
   (try clear HB)
   generalize ((w40.setCell ⟨gb1837, 0, none⟩ (.int .u64 t1844)).setCell ⟨gb1837, 1, none⟩ (.int .u64 t1845)) = w42 at n0_ n1_ n2_ n3_ n4_ n5_ ⊢
   have BK1826 := n0_
   have BK1827 := n1_
   have BK1828 := n2_
   have BK1837 := n3_
   have BK1842 := n4_
   have HB := n5_
   clear n0_ n1_ n2_ n3_ n4_ n5_
   replace BK1826 := aA_ (blk_drew BK1826.out)
   replace BK1827 := aA_ (blk_drew BK1827.out)
   replace BK1828 := aA_ (blk_drew BK1828.out)
   replace BK1837 := aA_ (blk_drew BK1837.out)
   replace BK1842 := aA_ (blk_drew BK1842.out)
   replace HB := aA_ (below_drew1 HB.out)
   refine start_ (n := 13) (S := fun w' => w'.cell? ⟨gb1837, 0, none⟩ = some (.int .u64 t1844) ∧ w'.cell? ⟨gb1837, 1, none⟩ = some (.int .u64 t1845)) (ds := []) (ratio_Add.ups 13 0) (by kernel_rfl) rfl rfl ⟨(blk_cell BK1837.out 0).trans rfl, (blk_cell BK1837.out 1).trans rfl⟩ (fun hHeld => ?_); refine with_tabW ratio_Add.tab7 ratio_Add.bits7 (fun HT_ HW_ => ?_)
   generalize w42.drew = w43 at BK1826 BK1827 BK1828 BK1837 BK1842 HB hHeld ⊢
   refine pure_ (i := 1) (N := some 60) (v := ?_) (a' := ?_) (ratio_Add.ups 13 2) rfl rfl (any_of HT_.out (by kernel_rfl)) (fun _ _ _ h => h) (Or.inl ⟨by rfl, ?_⟩) ?_ ?_
   rotate_left
   ·intro w'
    go_simp
    with_reducible rfl
   rotate_left
   ·simp only [Act.put, sT_, sZ_, sS_, i64_w, i32_w]
    rfl
   refine pure_ (i := 2) (N := some 61) (v := ?_) (a' := ?_) (ratio_Add.ups 13 6) rfl rfl (any_of HT_.out (by kernel_rfl)) (fun _ _ _ h => h) (Or.inl ⟨by rfl, ?_⟩) ?_ ?_
   rotate_left
   ·intro w'
    go_simp
    with_reducible rfl
   rotate_left
   ·simp only [Act.put, sT_, sZ_, sS_, i64_w, i32_w]
    rfl
   refine pure_ (i := 3) (N := some 62) (v := ?_) (a' := ?_) (ratio_Add.ups 13 14) rfl rfl (any_of HT_.out (by kernel_rfl)) (fun _ _ _ h => h) (Or.inl ⟨by rfl, ?_⟩) ?_ ?_
   rotate_left
   ·intro w'
    go_simp
    with_reducible rfl
   rotate_left
   ·simp only [Act.put, sT_, sZ_, sS_, i64_w, i32_w]
    rfl
   refine pure_ (i := 4) (N := some 63) (v := ?_) (a' := ?_) (ratio_Add.ups 13 30) rfl rfl (any_of HT_.out (by kernel_rfl)) (fun _ _ _ h => h) (Or.inl ⟨by rfl, ?_⟩) ?_ ?_
   rotate_left
   ·intro w'
    go_simp
    with_reducible rfl
   rotate_left
   ·simp only [Act.put, sT_, sZ_, sS_, i64_w, i32_w]
    rfl
   refine pure_ (i := 5) (N := some 64) (v := ?_) (a' := ?_) (ratio_Add.ups 13 62) rfl rfl (any_of HT_.out (by kernel_rfl)) (fun _ _ _ h => h) (Or.inl ⟨by rfl, ?_⟩) ?_ ?_
   rotate_left
   ·intro w'
    go_simp
    with_reducible rfl
   rotate_left
   ·simp only [Act.put, sT_, sZ_, sS_, i64_w, i32_w]
    rfl
   refine pure_ (i := 6) (N := some 65) (v := ?_) (a' := ?_) (ratio_Add.ups 13 126) rfl rfl (any_of HT_.out (by kernel_rfl)) (fun _ _ _ h => h) (Or.inl ⟨by rfl, ?_⟩) ?_ ?_
   rotate_left
   ·intro w'
    go_simp
    with_reducible rfl
   rotate_left
   ·simp only [Act.put, sT_, sZ_, sS_, i64_w, i32_w]
    rfl
   refine take_ (i := 0) (N := some 59) (v := ?_) (a' := ?_) (ratio_Add.ups 13 127) rfl rfl (take_ofW HT_.out HW_.out (by kernel_rfl)) (fun _ _ _ h => h) (Or.inl ⟨by rfl, ?_⟩) hHeld ?_ ?_
   rotate_left
   ·rintro w' ⟨s0, s1⟩
    go_simp
    with_reducible rfl
   rotate_left
   ·simp only [Act.put, sT_, sZ_, sS_, i64_w, i32_w]
    rfl
   refine one_ (i := 7) (N := some 66) (ratio_Add.ups 13 255) rfl rfl (one_of HT_.out (by kernel_rfl)) (by decide) (fun K hK => ?_)
   refine goes_ Tryd.func50 (by kernel_rfl) rfl #[.int .u64 (IntKind.u64.wrap (Int.tdiv (IntKind.u64.wrap (a0_1)) t1829)), .int .u64 (IntKind.u64.wrap (Int.tdiv (IntKind.u64.wrap (a1_1)) t1843))] (by rfl) rfl rfl (by (try simp only [mT_, mC_, mN_]); first | done | rfl) ?_
   with_reducible refine (wide_Mul.calls (IntKind.u64.wrap (Int.tdiv (IntKind.u64.wrap (a0_1)) t1829)) (IntKind.u64.wrap (Int.tdiv (IntKind.u64.wrap (a1_1)) t1843)) t1848 t1849 _ A12.out).mono ?_
   rintro e w44 ⟨rfl, hb⟩
   refine ⟨_, rfl, ?_⟩
   replace BK1826 := bK_ BK1826 hb
   replace BK1827 := bK_ BK1827 hb
   replace BK1828 := bK_ BK1828 hb
   replace BK1837 := bK_ BK1837 hb
   replace BK1842 := bK_ BK1842 hb
   replace HB := bB_ (by repeat (with_reducible first | exact HB.out | apply bA_ | apply bN_ | apply bD_ | refine bS_ ?_ GE1826.out | refine bS_ ?_ GE1827.out | refine bS_ ?_ GE1828.out | refine bS_ ?_ GE1837.out | refine bS_ ?_ GE1842.out)) hb
   (try clear hb)
   (try clear hb2)
   (try clear hk)
   (try clear hi)
   refine hK.out _ _ ⟨(blk_cell BK1837.out 0).trans rfl, (blk_cell BK1837.out 1).trans rfl⟩ (fun hHeld => ?_)
   clear hK K
   refine norm_ (by show Act.put _ (some 66) _ = _; simp only [Act.put, sT_, sZ_, sS_, i64_w, i32_w] <;> rfl) ?_
   refine one_ (i := 8) (N := some 67) (ratio_Add.ups 13 511) rfl rfl (one_of HT_.out (by kernel_rfl)) (by decide) (fun K hK => ?_)
   refine goes_ Tryd.func44 (by kernel_rfl) rfl #[.agg #[.int .u64 t1844, .int .u64 t1845], .agg #[.int .u64 t1848, .int .u64 t1849]] (by rfl) rfl rfl (by (try simp only [mT_, mC_, mN_]); first | done | rfl) ?_
   with_reducible refine (ratio_told.calls t1844 t1845 t1848 t1849 t1850 t1851 t1852 _ A13.out).mono ?_
   rintro e w45 ⟨rfl, hb⟩
   refine ⟨_, rfl, ?_⟩
   replace BK1826 := bK_ BK1826 hb
   replace BK1827 := bK_ BK1827 hb
   replace BK1828 := bK_ BK1828 hb
   replace BK1837 := bK_ BK1837 hb
   replace BK1842 := bK_ BK1842 hb
   replace HB := bB_ (by repeat (with_reducible first | exact HB.out | apply bA_ | apply bN_ | apply bD_ | refine bS_ ?_ GE1826.out | refine bS_ ?_ GE1827.out | refine bS_ ?_ GE1828.out | refine bS_ ?_ GE1837.out | refine bS_ ?_ GE1842.out)) hb
   (try clear hb)
   (try clear hb2)
   (try clear hk)
   (try clear hi)
   refine hK.out _ _ ⟨(blk_cell BK1837.out 0).trans rfl, (blk_cell BK1837.out 1).trans rfl⟩ (fun hHeld => ?_)
   clear hK K
   refine norm_ (by show Act.put _ (some 67) _ = _; simp only [Act.put, sT_, sZ_, sS_, i64_w, i32_w] <;> rfl) ?_
   refine pure_ (i := 9) (N := some 68) (v := ?_) (a' := ?_) (ratio_Add.ups 13 1023) rfl rfl (any_of HT_.out (by kernel_rfl)) (fun _ _ _ h => h) (Or.inl ⟨by rfl, ?_⟩) ?_ ?_
   rotate_left
   ·intro w'
    go_simp
    with_reducible rfl
   rotate_left
   ·simp only [Act.put, sT_, sZ_, sS_, i64_w, i32_w]
    rfl
   refine pure_ (i := 10) (N := some 69) (v := ?_) (a' := ?_) (ratio_Add.ups 13 2047) rfl rfl (any_of HT_.out (by kernel_rfl)) (fun _ _ _ h => h) (Or.inl ⟨by rfl, ?_⟩) ?_ ?_
   rotate_left
   ·intro w'
    go_simp
    with_reducible rfl
   rotate_left
   ·simp only [Act.put, sT_, sZ_, sS_, i64_w, i32_w]
    rfl
   refine one_ (i := 11) (N := none) (ratio_Add.ups 13 4095) rfl rfl (one_of HT_.out (by kernel_rfl)) (by decide) (fun K hK => ?_)
   have hs46 : w45.cell? ⟨gb1828, 0, none⟩ = some (.int .i64 0) := (blk_cell BK1828.out 0).trans rfl
   have hfs46 := blk_frozen BK1828.out 0
   have hns46_0 := NB1826_1828.out
   have hns46_1 := NB1827_1828.out
   have hns46_3 := NB1837_1828.out
   have hns46_4 := NB1842_1828.out
   have hms46_0 := NB1828_1826.out
   have hms46_1 := NB1828_1827.out
   have hms46_3 := NB1828_1837.out
   have hms46_4 := NB1828_1842.out
   have hs47 : w45.cell? ⟨gb1828, 1, none⟩ = some (.int .i64 0) := (blk_cell BK1828.out 1).trans rfl
   have hfs47 := blk_frozen BK1828.out 1
   have hns47_0 := NB1826_1828.out
   have hns47_1 := NB1827_1828.out
   have hns47_3 := NB1837_1828.out
   have hns47_4 := NB1842_1828.out
   have hms47_0 := NB1828_1826.out
   have hms47_1 := NB1828_1827.out
   have hms47_3 := NB1828_1837.out
   have hms47_4 := NB1828_1842.out
   refine skip_ (w1 := ?_) (by rfl) rfl ?_ ?_
   rotate_left
   ·go_simp
    rfl
   refine hK.out _ _ ⟨((cell_far (p := ⟨gb1828, _, none⟩) NB1837_1828.out _).trans (((cell_far (p := ⟨gb1828, _, none⟩) NB1837_1828.out _).trans (hHeld.1)))), ((cell_far (p := ⟨gb1828, _, none⟩) NB1837_1828.out _).trans (((cell_far (p := ⟨gb1828, _, none⟩) NB1837_1828.out _).trans (hHeld.2))))⟩ (fun hHeld => ?_)
   clear hK K
   refine pure_ (i := 12) (N := some 5) (v := ?_) (a' := ?_) (ratio_Add.ups 13 8191) rfl rfl (any_of HT_.out (by kernel_rfl)) (fun _ _ _ h => h) (Or.inl ⟨by rfl, ?_⟩) ?_ ?_
   rotate_left
   ·intro w'
    go_simp
    with_reducible rfl
   rotate_left
   ·simp only [Act.put, sT_, sZ_, sS_, i64_w, i32_w]
    rfl
   refine done_ (done_of HT_.out (by kernel_rfl)) ?_
   try go_wp2
   refine bodyPost_ret (results_ct rfl _ _ gb1828 24 #[.int .i64 t1850, .int .i64 t1851] (0, 0) _ rfl (by refine blk_put (cs := #[.int .i64 t1850, .int .i64 0]) ?_ 1 _ rfl; refine blk_put (cs := #[.int .i64 0, .int .i64 0]) ?_ 0 _ rfl; exact BK1828.out) Tryd.underlying24 rfl (by kernel_rfl)) rfl ?_
   exact ⟨by rfl, by repeat (with_reducible first | exact HB.out | apply bA_ | apply bN_ | apply bD_ | refine bS_ ?_ GE1826.out | refine bS_ ?_ GE1827.out | refine bS_ ?_ GE1828.out | refine bS_ ?_ GE1837.out | refine bS_ ?_ GE1842.out)⟩

end Go.Proofs.YtbapgkopilmdfaaDoor.X
