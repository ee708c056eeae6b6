-- CUT by prune.py, a program of this session, to what the claim reaches (out of a text that the kit's printer, the session's programs or the session wrote)
import Derived.Test.YtcdbmmlnmefoeaaProg
import Derived.Below
import Derived.Deep.Draws
import Derived.Deep.AppendLies
import Derived.Maps.AppendAt
import Derived.OwnWalk
import Derived.Laws.BytesArg
import Derived.Laws.MakeOwn
import Derived.Laws.OwnMore
import Derived.Deep.OwnRows
import Derived.Tactics
import Derived.Lib.ConvBytes
import Derived.Laws.Slices
import Derived.WalkKit
import Derived.KernelRfl
import Derived.RowKit3
import Derived.Deep.LoopGhost
import Derived.Deep.QuietTactic
import Derived.BigQuiet
import Derived.WideLaws
import Derived.Deep.DeepCutAuto
import Derived.Deep.CutBlock
import Derived.Deep.RegionHeld3
import Derived.Laws.Rows
import Derived.Lib.AppendStr
import Derived.ArgAppend
import Derived.Laws.IdiomCopy
import Derived.OrdersHeld
import Derived.Laws.BitsLemmas
import Derived.RowKit
import Derived.Test.YtcdbmmlnmefoeaaPRatioLawsWWords
import Derived.Test.YtcdbmmlnmefoeaaPRatioLawsWLast
import Derived.Test.YtcdbmmlnmefoeaaPRatioLawsWTab
import Derived.Test.YtcdbmmlnmefoeaaPRatioLawsWEqStruct
import Derived.Test.YtcdbmmlnmefoeaaPRatioLawsWMore
import Derived.Test.YtcdbmmlnmefoeaaPRatioLawsXWCmp
import Derived.Test.YtcdbmmlnmefoeaaPRatioLawsXWMul
import Derived.Test.YtcdbmmlnmefoeaaPRatioLawsHDiv
import Derived.Test.YtcdbmmlnmefoeaaPRatioLawsHGcd
import Derived.Test.YtcdbmmlnmefoeaaPRatioLawsHWide
namespace Go.Proofs.Ytcdbmmlnmefoeaa.X
open Go.RowKit Go.Proofs.YtcdbmmlnmefoeaaW.PrintWords Go.Proofs.YtcdbmmlnmefoeaaW.PrintLast Go.Proofs.YtcdbmmlnmefoeaaW.PrintMore
set_option linter.unusedVariables false
set_option linter.unusedSimpArgs false

def ratio_Cmp.upsl : Nat → Nat → List Bool
  | 0, _ => []
  | n + 1, m => (m % 2 == 1) :: ratio_Cmp.upsl n (m / 2)
def ratio_Cmp.ups (n m : Nat) : Array Bool := ⟨ratio_Cmp.upsl n m⟩

def ratio_told.f (a0_0 : Int) (a0_1 : Int) (a1_0 : Int) (a1_1 : Int) : Option (Int × Int × Int) := (wide_Of.f 4611686018427387904).bind fun bt4456 => ((wide_Cmp.f a0_0 a0_1 bt4456.1 bt4456.2).bind fun t4459 => (if t4459 > 0 then (some (0, 0, 6)) else ((wide_Cmp.f a1_0 a1_1 bt4456.1 bt4456.2).bind fun t4460 => (if t4460 > 0 then (some (0, 0, 6)) else (some (wrap64 (a0_1), wrap64 (a1_1), 0))))))
set_option maxHeartbeats 8000000 in
set_option maxRecDepth 100000 in
theorem ratio_told.calls (a0_0 : Int) (a0_1 : Int) (a1_0 : Int) (a1_1 : Int) (r1 : Int) (r2 : Int) (r3 : Int) (w : World) (h : ratio_told.f a0_0 a0_1 a1_0 a1_1 = some (r1, r2, r3)) :
    Calls Try.prog 72 #[.agg #[.int .u64 a0_0, .int .u64 a0_1], .agg #[.int .u64 a1_0, .int .u64 a1_1]] w fun e w' => e = .returned (.tuple #[.agg #[.int .i64 r1, .int .i64 r2], .int .i64 r3]) ∧ Below w.heap.size w w' := by
  have hu24 := Try.underlying24
  have hu57 := Try.underlying57
  have HB := Aside0.mk (Below.refl w.heap.size w)
  have H : ((wide_Of.f 4611686018427387904).bind fun bt4456 => ((wide_Cmp.f a0_0 a0_1 bt4456.1 bt4456.2).bind fun t4459 => (if t4459 > 0 then (some (0, 0, 6)) else ((wide_Cmp.f a1_0 a1_1 bt4456.1 bt4456.2).bind fun t4460 => (if t4460 > 0 then (some (0, 0, 6)) else (some (wrap64 (a0_1), wrap64 (a1_1), 0))))))) = some (r1, r2, r3) := h
  clear h
  replace H := Option.bind_eq_some_iff.mp H
  obtain ⟨⟨t4456, t4457⟩, A30, H⟩ := H
  replace H : ((wide_Cmp.f a0_0 a0_1 t4456 t4457).bind fun t4459 => (if t4459 > 0 then (some (0, 0, 6)) else ((wide_Cmp.f a1_0 a1_1 t4456 t4457).bind fun t4460 => (if t4460 > 0 then (some (0, 0, 6)) else (some (wrap64 (a0_1), wrap64 (a1_1), 0)))))) = some (r1, r2, r3) := H
  have A3 := Aside0.mk A30
  clear A30
  replace H := Option.bind_eq_some_iff.mp H
  obtain ⟨t4459, A40, H⟩ := H
  replace H : (if t4459 > 0 then (some (0, 0, 6)) else ((wide_Cmp.f a1_0 a1_1 t4456 t4457).bind fun t4460 => (if t4460 > 0 then (some (0, 0, 6)) else (some (wrap64 (a0_1), wrap64 (a1_1), 0))))) = some (r1, r2, r3) := H
  have A4 := Aside0.mk A40
  clear A40
  by_cases c5 : t4459 > 0
  · rw [if_pos c5] at H
    have c5b0 : decide (0 < t4459) = true := decide_eq_true c5
    clear c5
    simp only [Option.some.injEq, Prod.mk.injEq] at H
    obtain ⟨rfl, rfl, rfl⟩ := H
    go_enter Try.func72, Try.ntmps72
    go_wp2_with (first | ((with_reducible refine gate_dst (N := 2) rfl ?_); refine box_event ?hg (N := 2) ?hd (cs := #[.int .u64 a0_0, .int .u64 a0_1]) (t := 24) ?hr ?_; (case hd => rfl); (case hg => rfl); (case hr => go_simp); intro gb4453 hg w6 hbox hb; have n0_ := Aside0.mk (below_step (by repeat (first | (with_reducible first | exact HB.out | apply below_alloc | apply pw_below_drewN | apply below_drew1) | exact HB.out)) hb); have n1_ := Aside0.mk (hbox); have n2_ := Aside0.mk ((by rw [hg]; exact (below_size (by repeat (first | (with_reducible first | exact HB.out | apply below_alloc | apply pw_below_drewN | apply below_drew1) | exact HB.out))) : w.heap.size ≤ gb4453)); have n3_ := Aside0.mk ((by rw [hg]; exact (below_size (by repeat (first | (with_reducible first | exact HB.out | apply below_alloc | apply pw_below_drewN | apply below_drew1) | exact HB.out))) : w.heap.size ≤ gb4453)); clear HB; have HB := n0_; have BK4453 := n1_; have GW4453 := n2_; have GE4453 := n3_; clear n0_ n1_ n2_ n3_; clear hb hbox hg) | ((with_reducible refine gate_dst (N := 3) rfl ?_); refine box_event ?hg (N := 3) ?hd (cs := #[.int .u64 a1_0, .int .u64 a1_1]) (t := 24) ?hr ?_; (case hd => rfl); (case hg => rfl); (case hr => go_simp); intro gb4454 hg w7 hbox hb; have n0_ := Aside0.mk (blk_below BK4453.out hb); have n1_ := Aside0.mk (below_step (by repeat (first | (with_reducible first | exact HB.out | apply below_alloc | apply pw_below_drewN | apply below_drew1 | refine below_set ?_ GE4453.out) | exact HB.out)) hb); have n2_ := Aside0.mk (hbox); have n3_ := Aside0.mk ((by rw [hg]; exact (below_size (by repeat (first | (with_reducible first | exact HB.out | apply below_alloc | apply pw_below_drewN | apply below_drew1 | refine below_set ?_ GE4453.out) | exact HB.out))) : w.heap.size ≤ gb4454)); have n4_ := Aside0.mk ((by rw [hg]; exact (below_size (by repeat (first | (with_reducible first | exact HB.out | apply below_alloc | apply pw_below_drewN | apply below_drew1 | refine below_set ?_ GE4453.out) | exact HB.out))) : w.heap.size ≤ gb4454)); have n5_ := Aside0.mk ((by rw [hg]; exact Nat.ne_of_lt (blk_lt (g := gb4453) (o := .cells #[.int .u64 a0_0, .int .u64 a0_1] 24 (0, 0)) BK4453.out) : gb4453 ≠ gb4454)); have n6_ := Aside0.mk ((by rw [hg]; exact Nat.ne_of_gt (blk_lt (g := gb4453) (o := .cells #[.int .u64 a0_0, .int .u64 a0_1] 24 (0, 0)) BK4453.out) : gb4454 ≠ gb4453)); clear BK4453 HB; have BK4453 := n0_; have HB := n1_; have BK4454 := n2_; have GW4454 := n3_; have GE4454 := n4_; have NB4453_4454 := n5_; have NB4454_4453 := n6_; clear n0_ n1_ n2_ n3_ n4_ n5_ n6_; clear hb hbox hg) | ((with_reducible refine gate_dst (N := 4) rfl ?_); refine box_event ?hg (N := 4) ?hd (cs := #[.int .i64 0, .int .i64 0]) (t := 57) ?hr ?_; (case hd => rfl); (case hg => rfl); (case hr => go_simp); intro gb4455 hg w8 hbox hb; have n0_ := Aside0.mk (blk_below BK4453.out hb); have n1_ := Aside0.mk (blk_below BK4454.out hb); have n2_ := Aside0.mk (below_step (by repeat (first | (with_reducible first | exact HB.out | apply below_alloc | apply pw_below_drewN | apply below_drew1 | refine below_set ?_ GE4453.out | refine below_set ?_ GE4454.out) | exact HB.out)) hb); have n3_ := Aside0.mk (hbox); have n4_ := Aside0.mk ((by rw [hg]; exact (below_size (by repeat (first | (with_reducible first | exact HB.out | apply below_alloc | apply pw_below_drewN | apply below_drew1 | refine below_set ?_ GE4453.out | refine below_set ?_ GE4454.out) | exact HB.out))) : w.heap.size ≤ gb4455)); have n5_ := Aside0.mk ((by rw [hg]; exact (below_size (by repeat (first | (with_reducible first | exact HB.out | apply below_alloc | apply pw_below_drewN | apply below_drew1 | refine below_set ?_ GE4453.out | refine below_set ?_ GE4454.out) | exact HB.out))) : w.heap.size ≤ gb4455)); have n6_ := Aside0.mk ((by rw [hg]; exact Nat.ne_of_lt (blk_lt (g := gb4453) (o := .cells #[.int .u64 a0_0, .int .u64 a0_1] 24 (0, 0)) BK4453.out) : gb4453 ≠ gb4455)); have n7_ := Aside0.mk ((by rw [hg]; exact Nat.ne_of_gt (blk_lt (g := gb4453) (o := .cells #[.int .u64 a0_0, .int .u64 a0_1] 24 (0, 0)) BK4453.out) : gb4455 ≠ gb4453)); have n8_ := Aside0.mk ((by rw [hg]; exact Nat.ne_of_lt (blk_lt (g := gb4454) (o := .cells #[.int .u64 a1_0, .int .u64 a1_1] 24 (0, 0)) BK4454.out) : gb4454 ≠ gb4455)); have n9_ := Aside0.mk ((by rw [hg]; exact Nat.ne_of_gt (blk_lt (g := gb4454) (o := .cells #[.int .u64 a1_0, .int .u64 a1_1] 24 (0, 0)) BK4454.out) : gb4455 ≠ gb4454)); clear BK4453 BK4454; clear HB; have BK4453 := n0_; have BK4454 := n1_; have HB := n2_; have BK4455 := n3_; have GW4455 := n4_; have GE4455 := n5_; have NB4453_4455 := n6_; have NB4455_4453 := n7_; have NB4454_4455 := n8_; have NB4455_4454 := n9_; clear n0_ n1_ n2_ n3_ n4_ n5_ n6_ n7_ n8_ n9_; clear hb hbox hg) | ((with_reducible refine gate_callee (f := 33) rfl ?_); refine goesL_ (some 7) rfl rfl Try.func33 (by kernel_rfl) rfl #[.int .u64 4611686018427387904] rfl (by (try simp only [List.map_toArray, List.map_cons, List.map_nil]); first | done | rfl) ?_; (with_reducible refine (wide_Of.calls 4611686018427387904 t4456 t4457 _ A3.out).mono ?_); rintro e w9 ⟨rfl, hb⟩; refine ⟨_, rfl, ?_⟩; have n0_ := Aside0.mk (blk_below BK4453.out hb); have n1_ := Aside0.mk (blk_below BK4454.out hb); have n2_ := Aside0.mk (blk_below BK4455.out hb); have n3_ := Aside0.mk (below_step (by repeat (first | (with_reducible first | exact HB.out | apply below_alloc | apply pw_below_drewN | apply below_drew1 | refine below_set ?_ GE4453.out | refine below_set ?_ GE4454.out | refine below_set ?_ GE4455.out) | exact HB.out)) hb); clear BK4453 BK4454 BK4455 HB; have BK4453 := n0_; have BK4454 := n1_; have BK4455 := n2_; have HB := n3_; clear n0_ n1_ n2_ n3_; (try clear hb)) | ((with_reducible refine gate_dst (N := 6) rfl ?_); refine box_event ?hg (N := 6) ?hd (cs := #[.int .u64 0, .int .u64 0]) (t := 24) ?hr ?_; (case hd => rfl); (case hg => rfl); (case hr => go_simp); intro gb4458 hg w10 hbox hb; have n0_ := Aside0.mk (blk_below BK4453.out hb); have n1_ := Aside0.mk (blk_below BK4454.out hb); have n2_ := Aside0.mk (blk_below BK4455.out hb); have n3_ := Aside0.mk (below_step (by repeat (first | (with_reducible first | exact HB.out | apply below_alloc | apply pw_below_drewN | apply below_drew1 | refine below_set ?_ GE4453.out | refine below_set ?_ GE4454.out | refine below_set ?_ GE4455.out) | exact HB.out)) hb); have n4_ := Aside0.mk (hbox); have n5_ := Aside0.mk ((by rw [hg]; exact (below_size (by repeat (first | (with_reducible first | exact HB.out | apply below_alloc | apply pw_below_drewN | apply below_drew1 | refine below_set ?_ GE4453.out | refine below_set ?_ GE4454.out | refine below_set ?_ GE4455.out) | exact HB.out))) : w.heap.size ≤ gb4458)); have n6_ := Aside0.mk ((by rw [hg]; exact (below_size (by repeat (first | (with_reducible first | exact HB.out | apply below_alloc | apply pw_below_drewN | apply below_drew1 | refine below_set ?_ GE4453.out | refine below_set ?_ GE4454.out | refine below_set ?_ GE4455.out) | exact HB.out))) : w.heap.size ≤ gb4458)); have n7_ := Aside0.mk ((by rw [hg]; exact Nat.ne_of_lt (blk_lt (g := gb4453) (o := .cells #[.int .u64 a0_0, .int .u64 a0_1] 24 (0, 0)) BK4453.out) : gb4453 ≠ gb4458)); have n8_ := Aside0.mk ((by rw [hg]; exact Nat.ne_of_gt (blk_lt (g := gb4453) (o := .cells #[.int .u64 a0_0, .int .u64 a0_1] 24 (0, 0)) BK4453.out) : gb4458 ≠ gb4453)); have n9_ := Aside0.mk ((by rw [hg]; exact Nat.ne_of_lt (blk_lt (g := gb4454) (o := .cells #[.int .u64 a1_0, .int .u64 a1_1] 24 (0, 0)) BK4454.out) : gb4454 ≠ gb4458)); have n10_ := Aside0.mk ((by rw [hg]; exact Nat.ne_of_gt (blk_lt (g := gb4454) (o := .cells #[.int .u64 a1_0, .int .u64 a1_1] 24 (0, 0)) BK4454.out) : gb4458 ≠ gb4454)); have n11_ := Aside0.mk ((by rw [hg]; exact Nat.ne_of_lt (blk_lt (g := gb4455) (o := .cells #[.int .i64 0, .int .i64 0] 57 (0, 0)) BK4455.out) : gb4455 ≠ gb4458)); have n12_ := Aside0.mk ((by rw [hg]; exact Nat.ne_of_gt (blk_lt (g := gb4455) (o := .cells #[.int .i64 0, .int .i64 0] 57 (0, 0)) BK4455.out) : gb4458 ≠ gb4455)); clear BK4453 BK4454 BK4455 HB; have BK4453 := n0_; have BK4454 := n1_; have BK4455 := n2_; have HB := n3_; have BK4458 := n4_; have GW4458 := n5_; have GE4458 := n6_; have NB4453_4458 := n7_; have NB4458_4453 := n8_; have NB4454_4458 := n9_; have NB4458_4454 := n10_; have NB4455_4458 := n11_; have NB4458_4455 := n12_; clear n0_ n1_ n2_ n3_ n4_ n5_ n6_ n7_ n8_ n9_ n10_ n11_ n12_; clear hb hbox hg; have hnb11 := NB4458_4453.out; have hnc11 := NB4453_4458.out; have hnb12 := NB4458_4454.out; have hnc12 := NB4454_4458.out; have hnb13 := NB4458_4455.out; have hnc13 := NB4455_4458.out; have hcz14_0 : w10.cell? ⟨gb4458, 0, none⟩ = some (.int .u64 0) := (blk_cell BK4458.out 0).trans rfl; have hcz14_1 : w10.cell? ⟨gb4458, 1, none⟩ = some (.int .u64 0) := (blk_cell BK4458.out 1).trans rfl; have hfz14_0 := blk_frozen BK4458.out 0; have hfz14_1 := blk_frozen BK4458.out 1; have hnb15 := NB4453_4454.out; have hnc15 := NB4454_4453.out; have hnb16 := NB4453_4455.out; have hnc16 := NB4455_4453.out; have hcz17_0 : w10.cell? ⟨gb4453, 0, none⟩ = some (.int .u64 a0_0) := (blk_cell BK4453.out 0).trans rfl; have hcz17_1 : w10.cell? ⟨gb4453, 1, none⟩ = some (.int .u64 a0_1) := (blk_cell BK4453.out 1).trans rfl; have hfz17_0 := blk_frozen BK4453.out 0; have hfz17_1 := blk_frozen BK4453.out 1) | ((with_reducible refine gate_callee (f := 35) rfl ?_); refine goesL_ (some 10) rfl rfl Try.func35 (by kernel_rfl) rfl #[.agg #[.int .u64 a0_0, .int .u64 a0_1], .agg #[.int .u64 t4456, .int .u64 t4457]] rfl (by (try simp only [List.map_toArray, List.map_cons, List.map_nil]); first | done | rfl) ?_; (with_reducible refine (wide_Cmp.calls a0_0 a0_1 t4456 t4457 t4459 _ A4.out).mono ?_); rintro e w18 ⟨rfl, hb⟩; refine ⟨_, rfl, ?_⟩; have n0_ := Aside0.mk (blk_below (g := gb4453) (o := .cells #[.int .u64 a0_0, .int .u64 a0_1] 24 (0, 0)) (by refine blk_far ?_ NB4453_4458.out _; refine blk_far ?_ NB4453_4458.out _; exact BK4453.out) hb); have n1_ := Aside0.mk (blk_below (g := gb4454) (o := .cells #[.int .u64 a1_0, .int .u64 a1_1] 24 (0, 0)) (by refine blk_far ?_ NB4454_4458.out _; refine blk_far ?_ NB4454_4458.out _; exact BK4454.out) hb); have n2_ := Aside0.mk (blk_below (g := gb4455) (o := .cells #[.int .i64 0, .int .i64 0] 57 (0, 0)) (by refine blk_far ?_ NB4455_4458.out _; refine blk_far ?_ NB4455_4458.out _; exact BK4455.out) hb); have n3_ := Aside0.mk (blk_below (g := gb4458) (o := .cells #[.int .u64 t4456, .int .u64 t4457] 24 (0, 0)) (by refine blk_put (cs := #[.int .u64 t4456, .int .u64 0]) ?_ 1 _ rfl; refine blk_put (cs := #[.int .u64 0, .int .u64 0]) ?_ 0 _ rfl; exact BK4458.out) hb); have n4_ := Aside0.mk (below_step (by repeat (first | (with_reducible first | exact HB.out | apply below_alloc | apply pw_below_drewN | apply below_drew1 | refine below_set ?_ GE4453.out | refine below_set ?_ GE4454.out | refine below_set ?_ GE4455.out | refine below_set ?_ GE4458.out) | exact HB.out)) hb); clear BK4453 BK4454 BK4455 BK4458; clear HB; have BK4453 := n0_; have BK4454 := n1_; have BK4455 := n2_; have BK4458 := n3_; have HB := n4_; clear n0_ n1_ n2_ n3_ n4_; (try clear hb); have hnb19 := NB4455_4454.out; have hnc19 := NB4454_4455.out; have hcz20_0 : w18.cell? ⟨gb4455, 0, none⟩ = some (.int .i64 0) := (blk_cell BK4455.out 0).trans rfl; have hcz20_1 : w18.cell? ⟨gb4455, 1, none⟩ = some (.int .i64 0) := (blk_cell BK4455.out 1).trans rfl; have hfz20_0 := blk_frozen BK4455.out 0; have hfz20_1 := blk_frozen BK4455.out 1))
    refine bodyPost_ret (results_ct rfl _ _ gb4455 57 #[.int .i64 0, .int .i64 0] (0, 0) _ rfl (by refine blk_put (cs := #[.int .i64 0, .int .i64 0]) ?_ 1 _ rfl; refine blk_put (cs := #[.int .i64 0, .int .i64 0]) ?_ 0 _ rfl; exact BK4455.out) Try.underlying57 rfl (by kernel_rfl)) rfl ?_
    exact ⟨by rfl, by repeat (first | (with_reducible first | exact HB.out | apply below_alloc | apply pw_below_drewN | apply below_drew1 | refine below_set ?_ GE4453.out | refine below_set ?_ GE4454.out | refine below_set ?_ GE4455.out | refine below_set ?_ GE4458.out) | exact HB.out)⟩
  · rw [if_neg c5] at H
    have c5b0 : decide (0 < t4459) = false := decide_eq_false c5
    clear c5
    replace H := Option.bind_eq_some_iff.mp H
    obtain ⟨t4460, A210, H⟩ := H
    replace H : (if t4460 > 0 then (some (0, 0, 6)) else (some (wrap64 (a0_1), wrap64 (a1_1), 0))) = some (r1, r2, r3) := H
    have A21 := Aside0.mk A210
    clear A210
    by_cases c22 : t4460 > 0
    · rw [if_pos c22] at H
      have c22b0 : decide (0 < t4460) = true := decide_eq_true c22
      clear c22
      simp only [Option.some.injEq, Prod.mk.injEq] at H
      obtain ⟨rfl, rfl, rfl⟩ := H
      go_enter Try.func72, Try.ntmps72
      go_wp2_with (first | ((with_reducible refine gate_dst (N := 2) rfl ?_); refine box_event ?hg (N := 2) ?hd (cs := #[.int .u64 a0_0, .int .u64 a0_1]) (t := 24) ?hr ?_; (case hd => rfl); (case hg => rfl); (case hr => go_simp); intro gb4453 hg w23 hbox hb; have n0_ := Aside0.mk (below_step (by repeat (first | (with_reducible first | exact HB.out | apply below_alloc | apply pw_below_drewN | apply below_drew1) | exact HB.out)) hb); have n1_ := Aside0.mk (hbox); have n2_ := Aside0.mk ((by rw [hg]; exact (below_size (by repeat (first | (with_reducible first | exact HB.out | apply below_alloc | apply pw_below_drewN | apply below_drew1) | exact HB.out))) : w.heap.size ≤ gb4453)); have n3_ := Aside0.mk ((by rw [hg]; exact (below_size (by repeat (first | (with_reducible first | exact HB.out | apply below_alloc | apply pw_below_drewN | apply below_drew1) | exact HB.out))) : w.heap.size ≤ gb4453)); clear HB; have HB := n0_; have BK4453 := n1_; have GW4453 := n2_; have GE4453 := n3_; clear n0_ n1_ n2_ n3_; clear hb hbox hg) | ((with_reducible refine gate_dst (N := 3) rfl ?_); refine box_event ?hg (N := 3) ?hd (cs := #[.int .u64 a1_0, .int .u64 a1_1]) (t := 24) ?hr ?_; (case hd => rfl); (case hg => rfl); (case hr => go_simp); intro gb4454 hg w24 hbox hb; have n0_ := Aside0.mk (blk_below BK4453.out hb); have n1_ := Aside0.mk (below_step (by repeat (first | (with_reducible first | exact HB.out | apply below_alloc | apply pw_below_drewN | apply below_drew1 | refine below_set ?_ GE4453.out) | exact HB.out)) hb); have n2_ := Aside0.mk (hbox); have n3_ := Aside0.mk ((by rw [hg]; exact (below_size (by repeat (first | (with_reducible first | exact HB.out | apply below_alloc | apply pw_below_drewN | apply below_drew1 | refine below_set ?_ GE4453.out) | exact HB.out))) : w.heap.size ≤ gb4454)); have n4_ := Aside0.mk ((by rw [hg]; exact (below_size (by repeat (first | (with_reducible first | exact HB.out | apply below_alloc | apply pw_below_drewN | apply below_drew1 | refine below_set ?_ GE4453.out) | exact HB.out))) : w.heap.size ≤ gb4454)); have n5_ := Aside0.mk ((by rw [hg]; exact Nat.ne_of_lt (blk_lt (g := gb4453) (o := .cells #[.int .u64 a0_0, .int .u64 a0_1] 24 (0, 0)) BK4453.out) : gb4453 ≠ gb4454)); have n6_ := Aside0.mk ((by rw [hg]; exact Nat.ne_of_gt (blk_lt (g := gb4453) (o := .cells #[.int .u64 a0_0, .int .u64 a0_1] 24 (0, 0)) BK4453.out) : gb4454 ≠ gb4453)); clear BK4453 HB; have BK4453 := n0_; have HB := n1_; have BK4454 := n2_; have GW4454 := n3_; have GE4454 := n4_; have NB4453_4454 := n5_; have NB4454_4453 := n6_; clear n0_ n1_ n2_ n3_ n4_ n5_ n6_; clear hb hbox hg) | ((with_reducible refine gate_dst (N := 4) rfl ?_); refine box_event ?hg (N := 4) ?hd (cs := #[.int .i64 0, .int .i64 0]) (t := 57) ?hr ?_; (case hd => rfl); (case hg => rfl); (case hr => go_simp); intro gb4455 hg w25 hbox hb; have n0_ := Aside0.mk (blk_below BK4453.out hb); have n1_ := Aside0.mk (blk_below BK4454.out hb); have n2_ := Aside0.mk (below_step (by repeat (first | (with_reducible first | exact HB.out | apply below_alloc | apply pw_below_drewN | apply below_drew1 | refine below_set ?_ GE4453.out | refine below_set ?_ GE4454.out) | exact HB.out)) hb); have n3_ := Aside0.mk (hbox); have n4_ := Aside0.mk ((by rw [hg]; exact (below_size (by repeat (first | (with_reducible first | exact HB.out | apply below_alloc | apply pw_below_drewN | apply below_drew1 | refine below_set ?_ GE4453.out | refine below_set ?_ GE4454.out) | exact HB.out))) : w.heap.size ≤ gb4455)); have n5_ := Aside0.mk ((by rw [hg]; exact (below_size (by repeat (first | (with_reducible first | exact HB.out | apply below_alloc | apply pw_below_drewN | apply below_drew1 | refine below_set ?_ GE4453.out | refine below_set ?_ GE4454.out) | exact HB.out))) : w.heap.size ≤ gb4455)); have n6_ := Aside0.mk ((by rw [hg]; exact Nat.ne_of_lt (blk_lt (g := gb4453) (o := .cells #[.int .u64 a0_0, .int .u64 a0_1] 24 (0, 0)) BK4453.out) : gb4453 ≠ gb4455)); have n7_ := Aside0.mk ((by rw [hg]; exact Nat.ne_of_gt (blk_lt (g := gb4453) (o := .cells #[.int .u64 a0_0, .int .u64 a0_1] 24 (0, 0)) BK4453.out) : gb4455 ≠ gb4453)); have n8_ := Aside0.mk ((by rw [hg]; exact Nat.ne_of_lt (blk_lt (g := gb4454) (o := .cells #[.int .u64 a1_0, .int .u64 a1_1] 24 (0, 0)) BK4454.out) : gb4454 ≠ gb4455)); have n9_ := Aside0.mk ((by rw [hg]; exact Nat.ne_of_gt (blk_lt (g := gb4454) (o := .cells #[.int .u64 a1_0, .int .u64 a1_1] 24 (0, 0)) BK4454.out) : gb4455 ≠ gb4454)); clear BK4453 BK4454; clear HB; have BK4453 := n0_; have BK4454 := n1_; have HB := n2_; have BK4455 := n3_; have GW4455 := n4_; have GE4455 := n5_; have NB4453_4455 := n6_; have NB4455_4453 := n7_; have NB4454_4455 := n8_; have NB4455_4454 := n9_; clear n0_ n1_ n2_ n3_ n4_ n5_ n6_ n7_ n8_ n9_; clear hb hbox hg) | ((with_reducible refine gate_callee (f := 33) rfl ?_); refine goesL_ (some 7) rfl rfl Try.func33 (by kernel_rfl) rfl #[.int .u64 4611686018427387904] rfl (by (try simp only [List.map_toArray, List.map_cons, List.map_nil]); first | done | rfl) ?_; (with_reducible refine (wide_Of.calls 4611686018427387904 t4456 t4457 _ A3.out).mono ?_); rintro e w26 ⟨rfl, hb⟩; refine ⟨_, rfl, ?_⟩; have n0_ := Aside0.mk (blk_below BK4453.out hb); have n1_ := Aside0.mk (blk_below BK4454.out hb); have n2_ := Aside0.mk (blk_below BK4455.out hb); have n3_ := Aside0.mk (below_step (by repeat (first | (with_reducible first | exact HB.out | apply below_alloc | apply pw_below_drewN | apply below_drew1 | refine below_set ?_ GE4453.out | refine below_set ?_ GE4454.out | refine below_set ?_ GE4455.out) | exact HB.out)) hb); clear BK4453 BK4454 BK4455 HB; have BK4453 := n0_; have BK4454 := n1_; have BK4455 := n2_; have HB := n3_; clear n0_ n1_ n2_ n3_; (try clear hb)) | ((with_reducible refine gate_dst (N := 6) rfl ?_); refine box_event ?hg (N := 6) ?hd (cs := #[.int .u64 0, .int .u64 0]) (t := 24) ?hr ?_; (case hd => rfl); (case hg => rfl); (case hr => go_simp); intro gb4458 hg w27 hbox hb; have n0_ := Aside0.mk (blk_below BK4453.out hb); have n1_ := Aside0.mk (blk_below BK4454.out hb); have n2_ := Aside0.mk (blk_below BK4455.out hb); have n3_ := Aside0.mk (below_step (by repeat (first | (with_reducible first | exact HB.out | apply below_alloc | apply pw_below_drewN | apply below_drew1 | refine below_set ?_ GE4453.out | refine below_set ?_ GE4454.out | refine below_set ?_ GE4455.out) | exact HB.out)) hb); have n4_ := Aside0.mk (hbox); have n5_ := Aside0.mk ((by rw [hg]; exact (below_size (by repeat (first | (with_reducible first | exact HB.out | apply below_alloc | apply pw_below_drewN | apply below_drew1 | refine below_set ?_ GE4453.out | refine below_set ?_ GE4454.out | refine below_set ?_ GE4455.out) | exact HB.out))) : w.heap.size ≤ gb4458)); have n6_ := Aside0.mk ((by rw [hg]; exact (below_size (by repeat (first | (with_reducible first | exact HB.out | apply below_alloc | apply pw_below_drewN | apply below_drew1 | refine below_set ?_ GE4453.out | refine below_set ?_ GE4454.out | refine below_set ?_ GE4455.out) | exact HB.out))) : w.heap.size ≤ gb4458)); have n7_ := Aside0.mk ((by rw [hg]; exact Nat.ne_of_lt (blk_lt (g := gb4453) (o := .cells #[.int .u64 a0_0, .int .u64 a0_1] 24 (0, 0)) BK4453.out) : gb4453 ≠ gb4458)); have n8_ := Aside0.mk ((by rw [hg]; exact Nat.ne_of_gt (blk_lt (g := gb4453) (o := .cells #[.int .u64 a0_0, .int .u64 a0_1] 24 (0, 0)) BK4453.out) : gb4458 ≠ gb4453)); have n9_ := Aside0.mk ((by rw [hg]; exact Nat.ne_of_lt (blk_lt (g := gb4454) (o := .cells #[.int .u64 a1_0, .int .u64 a1_1] 24 (0, 0)) BK4454.out) : gb4454 ≠ gb4458)); have n10_ := Aside0.mk ((by rw [hg]; exact Nat.ne_of_gt (blk_lt (g := gb4454) (o := .cells #[.int .u64 a1_0, .int .u64 a1_1] 24 (0, 0)) BK4454.out) : gb4458 ≠ gb4454)); have n11_ := Aside0.mk ((by rw [hg]; exact Nat.ne_of_lt (blk_lt (g := gb4455) (o := .cells #[.int .i64 0, .int .i64 0] 57 (0, 0)) BK4455.out) : gb4455 ≠ gb4458)); have n12_ := Aside0.mk ((by rw [hg]; exact Nat.ne_of_gt (blk_lt (g := gb4455) (o := .cells #[.int .i64 0, .int .i64 0] 57 (0, 0)) BK4455.out) : gb4458 ≠ gb4455)); clear BK4453 BK4454 BK4455 HB; have BK4453 := n0_; have BK4454 := n1_; have BK4455 := n2_; have HB := n3_; have BK4458 := n4_; have GW4458 := n5_; have GE4458 := n6_; have NB4453_4458 := n7_; have NB4458_4453 := n8_; have NB4454_4458 := n9_; have NB4458_4454 := n10_; have NB4455_4458 := n11_; have NB4458_4455 := n12_; clear n0_ n1_ n2_ n3_ n4_ n5_ n6_ n7_ n8_ n9_ n10_ n11_ n12_; clear hb hbox hg; have hnb28 := NB4458_4453.out; have hnc28 := NB4453_4458.out; have hnb29 := NB4458_4454.out; have hnc29 := NB4454_4458.out; have hnb30 := NB4458_4455.out; have hnc30 := NB4455_4458.out; have hcz31_0 : w27.cell? ⟨gb4458, 0, none⟩ = some (.int .u64 0) := (blk_cell BK4458.out 0).trans rfl; have hcz31_1 : w27.cell? ⟨gb4458, 1, none⟩ = some (.int .u64 0) := (blk_cell BK4458.out 1).trans rfl; have hfz31_0 := blk_frozen BK4458.out 0; have hfz31_1 := blk_frozen BK4458.out 1; have hnb32 := NB4453_4454.out; have hnc32 := NB4454_4453.out; have hnb33 := NB4453_4455.out; have hnc33 := NB4455_4453.out; have hcz34_0 : w27.cell? ⟨gb4453, 0, none⟩ = some (.int .u64 a0_0) := (blk_cell BK4453.out 0).trans rfl; have hcz34_1 : w27.cell? ⟨gb4453, 1, none⟩ = some (.int .u64 a0_1) := (blk_cell BK4453.out 1).trans rfl; have hfz34_0 := blk_frozen BK4453.out 0; have hfz34_1 := blk_frozen BK4453.out 1) | ((with_reducible refine gate_callee (f := 35) rfl ?_); refine goesL_ (some 10) rfl rfl Try.func35 (by kernel_rfl) rfl #[.agg #[.int .u64 a0_0, .int .u64 a0_1], .agg #[.int .u64 t4456, .int .u64 t4457]] rfl (by (try simp only [List.map_toArray, List.map_cons, List.map_nil]); first | done | rfl) ?_; (with_reducible refine (wide_Cmp.calls a0_0 a0_1 t4456 t4457 t4459 _ A4.out).mono ?_); rintro e w35 ⟨rfl, hb⟩; refine ⟨_, rfl, ?_⟩; have n0_ := Aside0.mk (blk_below (g := gb4453) (o := .cells #[.int .u64 a0_0, .int .u64 a0_1] 24 (0, 0)) (by refine blk_far ?_ NB4453_4458.out _; refine blk_far ?_ NB4453_4458.out _; exact BK4453.out) hb); have n1_ := Aside0.mk (blk_below (g := gb4454) (o := .cells #[.int .u64 a1_0, .int .u64 a1_1] 24 (0, 0)) (by refine blk_far ?_ NB4454_4458.out _; refine blk_far ?_ NB4454_4458.out _; exact BK4454.out) hb); have n2_ := Aside0.mk (blk_below (g := gb4455) (o := .cells #[.int .i64 0, .int .i64 0] 57 (0, 0)) (by refine blk_far ?_ NB4455_4458.out _; refine blk_far ?_ NB4455_4458.out _; exact BK4455.out) hb); have n3_ := Aside0.mk (blk_below (g := gb4458) (o := .cells #[.int .u64 t4456, .int .u64 t4457] 24 (0, 0)) (by refine blk_put (cs := #[.int .u64 t4456, .int .u64 0]) ?_ 1 _ rfl; refine blk_put (cs := #[.int .u64 0, .int .u64 0]) ?_ 0 _ rfl; exact BK4458.out) hb); have n4_ := Aside0.mk (below_step (by repeat (first | (with_reducible first | exact HB.out | apply below_alloc | apply pw_below_drewN | apply below_drew1 | refine below_set ?_ GE4453.out | refine below_set ?_ GE4454.out | refine below_set ?_ GE4455.out | refine below_set ?_ GE4458.out) | exact HB.out)) hb); clear BK4453 BK4454 BK4455 BK4458; clear HB; have BK4453 := n0_; have BK4454 := n1_; have BK4455 := n2_; have BK4458 := n3_; have HB := n4_; clear n0_ n1_ n2_ n3_ n4_; (try clear hb); have hnb36 := NB4454_4455.out; have hnc36 := NB4455_4454.out; have hcz37_0 : w35.cell? ⟨gb4454, 0, none⟩ = some (.int .u64 a1_0) := (blk_cell BK4454.out 0).trans rfl; have hcz37_1 : w35.cell? ⟨gb4454, 1, none⟩ = some (.int .u64 a1_1) := (blk_cell BK4454.out 1).trans rfl; have hfz37_0 := blk_frozen BK4454.out 0; have hfz37_1 := blk_frozen BK4454.out 1; have hcz38_0 : w35.cell? ⟨gb4458, 0, none⟩ = some (.int .u64 t4456) := (blk_cell BK4458.out 0).trans rfl; have hcz38_1 : w35.cell? ⟨gb4458, 1, none⟩ = some (.int .u64 t4457) := (blk_cell BK4458.out 1).trans rfl; have hfz38_0 := blk_frozen BK4458.out 0; have hfz38_1 := blk_frozen BK4458.out 1) | (go_at_call 35; (with_reducible refine (wide_Cmp.calls a1_0 a1_1 t4456 t4457 t4460 _ A21.out).mono ?_); rintro e w39 ⟨rfl, hb⟩; have n0_ := Aside0.mk (blk_below BK4453.out hb); have n1_ := Aside0.mk (blk_below BK4454.out hb); have n2_ := Aside0.mk (blk_below BK4455.out hb); have n3_ := Aside0.mk (blk_below BK4458.out hb); have n4_ := Aside0.mk (below_step (by repeat (first | (with_reducible first | exact HB.out | apply below_alloc | apply pw_below_drewN | apply below_drew1 | refine below_set ?_ GE4453.out | refine below_set ?_ GE4454.out | refine below_set ?_ GE4455.out | refine below_set ?_ GE4458.out) | exact HB.out)) hb); clear BK4453 BK4454 BK4455 BK4458; clear HB; have BK4453 := n0_; have BK4454 := n1_; have BK4455 := n2_; have BK4458 := n3_; have HB := n4_; clear n0_ n1_ n2_ n3_ n4_; (try clear hb); have hcz40_0 : w39.cell? ⟨gb4455, 0, none⟩ = some (.int .i64 0) := (blk_cell BK4455.out 0).trans rfl; have hcz40_1 : w39.cell? ⟨gb4455, 1, none⟩ = some (.int .i64 0) := (blk_cell BK4455.out 1).trans rfl; have hfz40_0 := blk_frozen BK4455.out 0; have hfz40_1 := blk_frozen BK4455.out 1))
      refine bodyPost_ret (results_ct rfl _ _ gb4455 57 #[.int .i64 0, .int .i64 0] (0, 0) _ rfl (by refine blk_put (cs := #[.int .i64 0, .int .i64 0]) ?_ 1 _ rfl; refine blk_put (cs := #[.int .i64 0, .int .i64 0]) ?_ 0 _ rfl; exact BK4455.out) Try.underlying57 rfl (by kernel_rfl)) rfl ?_
      exact ⟨by rfl, by repeat (first | (with_reducible first | exact HB.out | apply below_alloc | apply pw_below_drewN | apply below_drew1 | refine below_set ?_ GE4453.out | refine below_set ?_ GE4454.out | refine below_set ?_ GE4455.out | refine below_set ?_ GE4458.out) | exact HB.out)⟩
    · rw [if_neg c22] at H
      have c22b0 : decide (0 < t4460) = false := decide_eq_false c22
      clear c22
      simp only [Option.some.injEq, Prod.mk.injEq] at H
      obtain ⟨rfl, rfl, rfl⟩ := H
      go_enter Try.func72, Try.ntmps72
      go_wp2_with (first | ((with_reducible refine gate_dst (N := 2) rfl ?_); refine box_event ?hg (N := 2) ?hd (cs := #[.int .u64 a0_0, .int .u64 a0_1]) (t := 24) ?hr ?_; (case hd => rfl); (case hg => rfl); (case hr => go_simp); intro gb4453 hg w41 hbox hb; have n0_ := Aside0.mk (below_step (by repeat (first | (with_reducible first | exact HB.out | apply below_alloc | apply pw_below_drewN | apply below_drew1) | exact HB.out)) hb); have n1_ := Aside0.mk (hbox); have n2_ := Aside0.mk ((by rw [hg]; exact (below_size (by repeat (first | (with_reducible first | exact HB.out | apply below_alloc | apply pw_below_drewN | apply below_drew1) | exact HB.out))) : w.heap.size ≤ gb4453)); have n3_ := Aside0.mk ((by rw [hg]; exact (below_size (by repeat (first | (with_reducible first | exact HB.out | apply below_alloc | apply pw_below_drewN | apply below_drew1) | exact HB.out))) : w.heap.size ≤ gb4453)); clear HB; have HB := n0_; have BK4453 := n1_; have GW4453 := n2_; have GE4453 := n3_; clear n0_ n1_ n2_ n3_; clear hb hbox hg) | ((with_reducible refine gate_dst (N := 3) rfl ?_); refine box_event ?hg (N := 3) ?hd (cs := #[.int .u64 a1_0, .int .u64 a1_1]) (t := 24) ?hr ?_; (case hd => rfl); (case hg => rfl); (case hr => go_simp); intro gb4454 hg w42 hbox hb; have n0_ := Aside0.mk (blk_below BK4453.out hb); have n1_ := Aside0.mk (below_step (by repeat (first | (with_reducible first | exact HB.out | apply below_alloc | apply pw_below_drewN | apply below_drew1 | refine below_set ?_ GE4453.out) | exact HB.out)) hb); have n2_ := Aside0.mk (hbox); have n3_ := Aside0.mk ((by rw [hg]; exact (below_size (by repeat (first | (with_reducible first | exact HB.out | apply below_alloc | apply pw_below_drewN | apply below_drew1 | refine below_set ?_ GE4453.out) | exact HB.out))) : w.heap.size ≤ gb4454)); have n4_ := Aside0.mk ((by rw [hg]; exact (below_size (by repeat (first | (with_reducible first | exact HB.out | apply below_alloc | apply pw_below_drewN | apply below_drew1 | refine below_set ?_ GE4453.out) | exact HB.out))) : w.heap.size ≤ gb4454)); have n5_ := Aside0.mk ((by rw [hg]; exact Nat.ne_of_lt (blk_lt (g := gb4453) (o := .cells #[.int .u64 a0_0, .int .u64 a0_1] 24 (0, 0)) BK4453.out) : gb4453 ≠ gb4454)); have n6_ := Aside0.mk ((by rw [hg]; exact Nat.ne_of_gt (blk_lt (g := gb4453) (o := .cells #[.int .u64 a0_0, .int .u64 a0_1] 24 (0, 0)) BK4453.out) : gb4454 ≠ gb4453)); clear BK4453 HB; have BK4453 := n0_; have HB := n1_; have BK4454 := n2_; have GW4454 := n3_; have GE4454 := n4_; have NB4453_4454 := n5_; have NB4454_4453 := n6_; clear n0_ n1_ n2_ n3_ n4_ n5_ n6_; clear hb hbox hg) | ((with_reducible refine gate_dst (N := 4) rfl ?_); refine box_event ?hg (N := 4) ?hd (cs := #[.int .i64 0, .int .i64 0]) (t := 57) ?hr ?_; (case hd => rfl); (case hg => rfl); (case hr => go_simp); intro gb4455 hg w43 hbox hb; have n0_ := Aside0.mk (blk_below BK4453.out hb); have n1_ := Aside0.mk (blk_below BK4454.out hb); have n2_ := Aside0.mk (below_step (by repeat (first | (with_reducible first | exact HB.out | apply below_alloc | apply pw_below_drewN | apply below_drew1 | refine below_set ?_ GE4453.out | refine below_set ?_ GE4454.out) | exact HB.out)) hb); have n3_ := Aside0.mk (hbox); have n4_ := Aside0.mk ((by rw [hg]; exact (below_size (by repeat (first | (with_reducible first | exact HB.out | apply below_alloc | apply pw_below_drewN | apply below_drew1 | refine below_set ?_ GE4453.out | refine below_set ?_ GE4454.out) | exact HB.out))) : w.heap.size ≤ gb4455)); have n5_ := Aside0.mk ((by rw [hg]; exact (below_size (by repeat (first | (with_reducible first | exact HB.out | apply below_alloc | apply pw_below_drewN | apply below_drew1 | refine below_set ?_ GE4453.out | refine below_set ?_ GE4454.out) | exact HB.out))) : w.heap.size ≤ gb4455)); have n6_ := Aside0.mk ((by rw [hg]; exact Nat.ne_of_lt (blk_lt (g := gb4453) (o := .cells #[.int .u64 a0_0, .int .u64 a0_1] 24 (0, 0)) BK4453.out) : gb4453 ≠ gb4455)); have n7_ := Aside0.mk ((by rw [hg]; exact Nat.ne_of_gt (blk_lt (g := gb4453) (o := .cells #[.int .u64 a0_0, .int .u64 a0_1] 24 (0, 0)) BK4453.out) : gb4455 ≠ gb4453)); have n8_ := Aside0.mk ((by rw [hg]; exact Nat.ne_of_lt (blk_lt (g := gb4454) (o := .cells #[.int .u64 a1_0, .int .u64 a1_1] 24 (0, 0)) BK4454.out) : gb4454 ≠ gb4455)); have n9_ := Aside0.mk ((by rw [hg]; exact Nat.ne_of_gt (blk_lt (g := gb4454) (o := .cells #[.int .u64 a1_0, .int .u64 a1_1] 24 (0, 0)) BK4454.out) : gb4455 ≠ gb4454)); clear BK4453 BK4454; clear HB; have BK4453 := n0_; have BK4454 := n1_; have HB := n2_; have BK4455 := n3_; have GW4455 := n4_; have GE4455 := n5_; have NB4453_4455 := n6_; have NB4455_4453 := n7_; have NB4454_4455 := n8_; have NB4455_4454 := n9_; clear n0_ n1_ n2_ n3_ n4_ n5_ n6_ n7_ n8_ n9_; clear hb hbox hg) | ((with_reducible refine gate_callee (f := 33) rfl ?_); refine goesL_ (some 7) rfl rfl Try.func33 (by kernel_rfl) rfl #[.int .u64 4611686018427387904] rfl (by (try simp only [List.map_toArray, List.map_cons, List.map_nil]); first | done | rfl) ?_; (with_reducible refine (wide_Of.calls 4611686018427387904 t4456 t4457 _ A3.out).mono ?_); rintro e w44 ⟨rfl, hb⟩; refine ⟨_, rfl, ?_⟩; have n0_ := Aside0.mk (blk_below BK4453.out hb); have n1_ := Aside0.mk (blk_below BK4454.out hb); have n2_ := Aside0.mk (blk_below BK4455.out hb); have n3_ := Aside0.mk (below_step (by repeat (first | (with_reducible first | exact HB.out | apply below_alloc | apply pw_below_drewN | apply below_drew1 | refine below_set ?_ GE4453.out | refine below_set ?_ GE4454.out | refine below_set ?_ GE4455.out) | exact HB.out)) hb); clear BK4453 BK4454 BK4455 HB; have BK4453 := n0_; have BK4454 := n1_; have BK4455 := n2_; have HB := n3_; clear n0_ n1_ n2_ n3_; (try clear hb)) | ((with_reducible refine gate_dst (N := 6) rfl ?_); refine box_event ?hg (N := 6) ?hd (cs := #[.int .u64 0, .int .u64 0]) (t := 24) ?hr ?_; (case hd => rfl); (case hg => rfl); (case hr => go_simp); intro gb4458 hg w45 hbox hb; have n0_ := Aside0.mk (blk_below BK4453.out hb); have n1_ := Aside0.mk (blk_below BK4454.out hb); have n2_ := Aside0.mk (blk_below BK4455.out hb); have n3_ := Aside0.mk (below_step (by repeat (first | (with_reducible first | exact HB.out | apply below_alloc | apply pw_below_drewN | apply below_drew1 | refine below_set ?_ GE4453.out | refine below_set ?_ GE4454.out | refine below_set ?_ GE4455.out) | exact HB.out)) hb); have n4_ := Aside0.mk (hbox); have n5_ := Aside0.mk ((by rw [hg]; exact (below_size (by repeat (first | (with_reducible first | exact HB.out | apply below_alloc | apply pw_below_drewN | apply below_drew1 | refine below_set ?_ GE4453.out | refine below_set ?_ GE4454.out | refine below_set ?_ GE4455.out) | exact HB.out))) : w.heap.size ≤ gb4458)); have n6_ := Aside0.mk ((by rw [hg]; exact (below_size (by repeat (first | (with_reducible first | exact HB.out | apply below_alloc | apply pw_below_drewN | apply below_drew1 | refine below_set ?_ GE4453.out | refine below_set ?_ GE4454.out | refine below_set ?_ GE4455.out) | exact HB.out))) : w.heap.size ≤ gb4458)); have n7_ := Aside0.mk ((by rw [hg]; exact Nat.ne_of_lt (blk_lt (g := gb4453) (o := .cells #[.int .u64 a0_0, .int .u64 a0_1] 24 (0, 0)) BK4453.out) : gb4453 ≠ gb4458)); have n8_ := Aside0.mk ((by rw [hg]; exact Nat.ne_of_gt (blk_lt (g := gb4453) (o := .cells #[.int .u64 a0_0, .int .u64 a0_1] 24 (0, 0)) BK4453.out) : gb4458 ≠ gb4453)); have n9_ := Aside0.mk ((by rw [hg]; exact Nat.ne_of_lt (blk_lt (g := gb4454) (o := .cells #[.int .u64 a1_0, .int .u64 a1_1] 24 (0, 0)) BK4454.out) : gb4454 ≠ gb4458)); have n10_ := Aside0.mk ((by rw [hg]; exact Nat.ne_of_gt (blk_lt (g := gb4454) (o := .cells #[.int .u64 a1_0, .int .u64 a1_1] 24 (0, 0)) BK4454.out) : gb4458 ≠ gb4454)); have n11_ := Aside0.mk ((by rw [hg]; exact Nat.ne_of_lt (blk_lt (g := gb4455) (o := .cells #[.int .i64 0, .int .i64 0] 57 (0, 0)) BK4455.out) : gb4455 ≠ gb4458)); have n12_ := Aside0.mk ((by rw [hg]; exact Nat.ne_of_gt (blk_lt (g := gb4455) (o := .cells #[.int .i64 0, .int .i64 0] 57 (0, 0)) BK4455.out) : gb4458 ≠ gb4455)); clear BK4453 BK4454 BK4455 HB; have BK4453 := n0_; have BK4454 := n1_; have BK4455 := n2_; have HB := n3_; have BK4458 := n4_; have GW4458 := n5_; have GE4458 := n6_; have NB4453_4458 := n7_; have NB4458_4453 := n8_; have NB4454_4458 := n9_; have NB4458_4454 := n10_; have NB4455_4458 := n11_; have NB4458_4455 := n12_; clear n0_ n1_ n2_ n3_ n4_ n5_ n6_ n7_ n8_ n9_ n10_ n11_ n12_; clear hb hbox hg; have hnb46 := NB4458_4453.out; have hnc46 := NB4453_4458.out; have hnb47 := NB4458_4454.out; have hnc47 := NB4454_4458.out; have hnb48 := NB4458_4455.out; have hnc48 := NB4455_4458.out; have hcz49_0 : w45.cell? ⟨gb4458, 0, none⟩ = some (.int .u64 0) := (blk_cell BK4458.out 0).trans rfl; have hcz49_1 : w45.cell? ⟨gb4458, 1, none⟩ = some (.int .u64 0) := (blk_cell BK4458.out 1).trans rfl; have hfz49_0 := blk_frozen BK4458.out 0; have hfz49_1 := blk_frozen BK4458.out 1; have hnb50 := NB4453_4454.out; have hnc50 := NB4454_4453.out; have hnb51 := NB4453_4455.out; have hnc51 := NB4455_4453.out; have hcz52_0 : w45.cell? ⟨gb4453, 0, none⟩ = some (.int .u64 a0_0) := (blk_cell BK4453.out 0).trans rfl; have hcz52_1 : w45.cell? ⟨gb4453, 1, none⟩ = some (.int .u64 a0_1) := (blk_cell BK4453.out 1).trans rfl; have hfz52_0 := blk_frozen BK4453.out 0; have hfz52_1 := blk_frozen BK4453.out 1) | ((with_reducible refine gate_callee (f := 35) rfl ?_); refine goesL_ (some 10) rfl rfl Try.func35 (by kernel_rfl) rfl #[.agg #[.int .u64 a0_0, .int .u64 a0_1], .agg #[.int .u64 t4456, .int .u64 t4457]] rfl (by (try simp only [List.map_toArray, List.map_cons, List.map_nil]); first | done | rfl) ?_; (with_reducible refine (wide_Cmp.calls a0_0 a0_1 t4456 t4457 t4459 _ A4.out).mono ?_); rintro e w53 ⟨rfl, hb⟩; refine ⟨_, rfl, ?_⟩; have n0_ := Aside0.mk (blk_below (g := gb4453) (o := .cells #[.int .u64 a0_0, .int .u64 a0_1] 24 (0, 0)) (by refine blk_far ?_ NB4453_4458.out _; refine blk_far ?_ NB4453_4458.out _; exact BK4453.out) hb); have n1_ := Aside0.mk (blk_below (g := gb4454) (o := .cells #[.int .u64 a1_0, .int .u64 a1_1] 24 (0, 0)) (by refine blk_far ?_ NB4454_4458.out _; refine blk_far ?_ NB4454_4458.out _; exact BK4454.out) hb); have n2_ := Aside0.mk (blk_below (g := gb4455) (o := .cells #[.int .i64 0, .int .i64 0] 57 (0, 0)) (by refine blk_far ?_ NB4455_4458.out _; refine blk_far ?_ NB4455_4458.out _; exact BK4455.out) hb); have n3_ := Aside0.mk (blk_below (g := gb4458) (o := .cells #[.int .u64 t4456, .int .u64 t4457] 24 (0, 0)) (by refine blk_put (cs := #[.int .u64 t4456, .int .u64 0]) ?_ 1 _ rfl; refine blk_put (cs := #[.int .u64 0, .int .u64 0]) ?_ 0 _ rfl; exact BK4458.out) hb); have n4_ := Aside0.mk (below_step (by repeat (first | (with_reducible first | exact HB.out | apply below_alloc | apply pw_below_drewN | apply below_drew1 | refine below_set ?_ GE4453.out | refine below_set ?_ GE4454.out | refine below_set ?_ GE4455.out | refine below_set ?_ GE4458.out) | exact HB.out)) hb); clear BK4453 BK4454 BK4455 BK4458; clear HB; have BK4453 := n0_; have BK4454 := n1_; have BK4455 := n2_; have BK4458 := n3_; have HB := n4_; clear n0_ n1_ n2_ n3_ n4_; (try clear hb); have hnb54 := NB4454_4455.out; have hnc54 := NB4455_4454.out; have hcz55_0 : w53.cell? ⟨gb4454, 0, none⟩ = some (.int .u64 a1_0) := (blk_cell BK4454.out 0).trans rfl; have hcz55_1 : w53.cell? ⟨gb4454, 1, none⟩ = some (.int .u64 a1_1) := (blk_cell BK4454.out 1).trans rfl; have hfz55_0 := blk_frozen BK4454.out 0; have hfz55_1 := blk_frozen BK4454.out 1; have hcz56_0 : w53.cell? ⟨gb4458, 0, none⟩ = some (.int .u64 t4456) := (blk_cell BK4458.out 0).trans rfl; have hcz56_1 : w53.cell? ⟨gb4458, 1, none⟩ = some (.int .u64 t4457) := (blk_cell BK4458.out 1).trans rfl; have hfz56_0 := blk_frozen BK4458.out 0; have hfz56_1 := blk_frozen BK4458.out 1) | (go_at_call 35; (with_reducible refine (wide_Cmp.calls a1_0 a1_1 t4456 t4457 t4460 _ A21.out).mono ?_); rintro e w57 ⟨rfl, hb⟩; have n0_ := Aside0.mk (blk_below BK4453.out hb); have n1_ := Aside0.mk (blk_below BK4454.out hb); have n2_ := Aside0.mk (blk_below BK4455.out hb); have n3_ := Aside0.mk (blk_below BK4458.out hb); have n4_ := Aside0.mk (below_step (by repeat (first | (with_reducible first | exact HB.out | apply below_alloc | apply pw_below_drewN | apply below_drew1 | refine below_set ?_ GE4453.out | refine below_set ?_ GE4454.out | refine below_set ?_ GE4455.out | refine below_set ?_ GE4458.out) | exact HB.out)) hb); clear BK4453 BK4454 BK4455 BK4458; clear HB; have BK4453 := n0_; have BK4454 := n1_; have BK4455 := n2_; have BK4458 := n3_; have HB := n4_; clear n0_ n1_ n2_ n3_ n4_; (try clear hb); have hcz58_0 : w57.cell? ⟨gb4453, 0, none⟩ = some (.int .u64 a0_0) := (blk_cell BK4453.out 0).trans rfl; have hcz58_1 : w57.cell? ⟨gb4453, 1, none⟩ = some (.int .u64 a0_1) := (blk_cell BK4453.out 1).trans rfl; have hfz58_0 := blk_frozen BK4453.out 0; have hfz58_1 := blk_frozen BK4453.out 1; have hcz59_0 : w57.cell? ⟨gb4454, 0, none⟩ = some (.int .u64 a1_0) := (blk_cell BK4454.out 0).trans rfl; have hcz59_1 : w57.cell? ⟨gb4454, 1, none⟩ = some (.int .u64 a1_1) := (blk_cell BK4454.out 1).trans rfl; have hfz59_0 := blk_frozen BK4454.out 0; have hfz59_1 := blk_frozen BK4454.out 1; have hcz60_0 : w57.cell? ⟨gb4455, 0, none⟩ = some (.int .i64 0) := (blk_cell BK4455.out 0).trans rfl; have hcz60_1 : w57.cell? ⟨gb4455, 1, none⟩ = some (.int .i64 0) := (blk_cell BK4455.out 1).trans rfl; have hfz60_0 := blk_frozen BK4455.out 0; have hfz60_1 := blk_frozen BK4455.out 1))
      refine bodyPost_ret (results_ct rfl _ _ gb4455 57 #[.int .i64 (wrap64 (a0_1)), .int .i64 (wrap64 (a1_1))] (0, 0) _ rfl (by refine blk_put (cs := #[.int .i64 (wrap64 (a0_1)), .int .i64 0]) ?_ 1 _ rfl; refine blk_put (cs := #[.int .i64 0, .int .i64 0]) ?_ 0 _ rfl; exact BK4455.out) Try.underlying57 rfl (by kernel_rfl)) rfl ?_
      exact ⟨by rfl, by repeat (first | (with_reducible first | exact HB.out | apply below_alloc | apply pw_below_drewN | apply below_drew1 | refine below_set ?_ GE4453.out | refine below_set ?_ GE4454.out | refine below_set ?_ GE4455.out | refine below_set ?_ GE4458.out) | exact HB.out)⟩

def ratio_New.j0 : Nat → Int → Int → Bool → Option (Int × Int × Int)
  | 0, _, _, _ => none
  | k + 1, x0, x1, x7 => if x7 = true then (some (0, 0, 1)) else (if x1 = 0 then (some (0, 0, 7)) else ((ratio_Gcd.f (IntKind.u64.wrap (x0)) (IntKind.u64.wrap (x1))).bind fun t4462 => (if t4462 = 0 then (none) else ((wide_Of.f (IntKind.u64.wrap (Int.tdiv (IntKind.u64.wrap (x0)) t4462))).bind fun bt4463 => ((wide_Of.f (IntKind.u64.wrap (Int.tdiv (IntKind.u64.wrap (x1)) t4462))).bind fun bt4465 => ((ratio_told.f bt4463.1 bt4463.2 bt4465.1 bt4465.2).bind fun bt4467 => (some (bt4467.1, bt4467.2.1, bt4467.2.2))))))))
def ratio_New.f (k : Nat) (a0 : Int) (a1 : Int) : Option (Int × Int × Int) := if a0 < 0 then (ratio_New.j0 k a0 a1 true) else (ratio_New.j0 k a0 a1 (decide (a1 < 0)))
theorem ratio_New.mono_l : ∀ k, (∀ y0 y1 y2, LeO (ratio_New.j0 k y0 y1 y2) (ratio_New.j0 (k + 1) y0 y1 y2))
  | 0 => fun _ _ _ r h => by simp [ratio_New.j0] at h
  | k + 1 => by
    have ih0 := ratio_New.mono_l k
    · intro y0 y1 y2
      unfold ratio_New.j0
      repeat' first
      | (with_reducible exact ih0 _ _ _)
      | (with_reducible exact LeO.refl _)
      | (with_reducible exact LeO.none _)
      | (with_reducible refine LeO.ite ?_ ?_)
      | (with_reducible refine LeO.bind ?_ (fun _ => ?_))
      | exact ih0 _ _ _
      | exact LeO.none _
      | refine LeO.ite ?_ ?_
      | refine LeO.bind ?_ (fun _ => ?_)
theorem ratio_New.mono : ∀ a0 a1 k, LeO (ratio_New.f k a0 a1) (ratio_New.f (k + 1) a0 a1) := by
  intro a0 a1 k
  have ih0 := ratio_New.mono_l k
  unfold ratio_New.f
  repeat' first
      | (with_reducible exact ih0 _ _ _)
      | (with_reducible exact LeO.refl _)
      | (with_reducible exact LeO.none _)
      | (with_reducible refine LeO.ite ?_ ?_)
      | (with_reducible refine LeO.bind ?_ (fun _ => ?_))
      | exact ih0 _ _ _
      | exact LeO.none _
      | refine LeO.ite ?_ ?_
      | refine LeO.bind ?_ (fun _ => ?_)
def ratio_New.T6 : Bool × List (List Nat × List Nat) := (true, [([], []), ([0], [0]), ([], []), ([1, 2], [1, 2]), ([3], [3]), ([], []), ([5], [5]), ([], []), ([6, 7], [6, 7]), ([8, 4], [8]), ([4, 9, 9], [4, 9]), ([10], [10]), ([10], [10]), ([11, 10, 0, 1, 2, 3, 4, 5, 6, 7, 8, 9, 10, 11, 12], [11]), ([12, 13, 0, 1, 2, 3, 4, 5, 6, 7, 8, 9, 10, 11, 12, 13], [12])])
def ratio_New.B6 : List Nat := [0, 1, 0, 7, 15, 0, 32, 0, 224, 511, 1023, 2047, 2047, 8191, 16383]
theorem ratio_New.tab6 : rtab .any (opsOf Try.f40 6) = ratio_New.T6 := by kernel_rfl
theorem ratio_New.bits6 : waitsOk ratio_New.T6.2 ratio_New.B6 = true := by kernel_rfl
set_option maxHeartbeats 8000000 in
set_option maxRecDepth 100000 in
theorem ratio_New.calls (k : Nat) (a0 : Int) (a1 : Int) (r1 : Int) (r2 : Int) (r3 : Int) (w : World) (h : ratio_New.f k a0 a1 = some (r1, r2, r3)) :
    Calls Try.prog 40 #[.int .i64 a0, .int .i64 a1] w fun e w' => e = .returned (.tuple #[.agg #[.int .i64 r1, .int .i64 r2], .int .i64 r3]) ∧ Below w.heap.size w w' := by
  have hu57 := Try.underlying57
  have HB := Aside0.mk (Below.refl w.heap.size w)
  have H : (if a0 < 0 then (ratio_New.j0 k a0 a1 true) else (ratio_New.j0 k a0 a1 (decide (a1 < 0)))) = some (r1, r2, r3) := h
  clear h
  have HC3 := Aside0.mk H
  clear H
  go_enter Try.func40, Try.ntmps40
  go_upto_region 1 with (first | ((with_reducible refine gate_dst (N := 4) rfl ?_); refine box_event ?hg (N := 4) ?hd (cs := #[.int .i64 0, .int .i64 0]) (t := 57) ?hr ?_; (case hd => rfl); (case hg => rfl); (case hr => go_simp); intro gb4461 hg w4 hbox hb; have n0_ := Aside0.mk (below_step (by repeat (first | (with_reducible first | exact HB.out | apply below_alloc | apply pw_below_drewN | apply below_drew1) | exact HB.out)) hb); have n1_ := Aside0.mk (hbox); have n2_ := Aside0.mk ((by rw [hg]; exact (below_size (by repeat (first | (with_reducible first | exact HB.out | apply below_alloc | apply pw_below_drewN | apply below_drew1) | exact HB.out))) : w.heap.size ≤ gb4461)); have n3_ := Aside0.mk ((by rw [hg]; exact (below_size (by repeat (first | (with_reducible first | exact HB.out | apply below_alloc | apply pw_below_drewN | apply below_drew1) | exact HB.out))) : w.heap.size ≤ gb4461)); clear HB; have HB := n0_; have BK4461 := n1_; have GW4461 := n2_; have GE4461 := n3_; clear n0_ n1_ n2_ n3_; clear hb hbox hg))
  (try simp only [Act.put, List.setIfInBounds_toArray, List.set_cons_zero, List.set_cons_succ])
  go_cut [7] (fun v7 wc => ∃ (kq : Nat) (x7_2 : Bool), v7 = .bool x7_2 ∧ Aside0 (ratio_New.j0 kq a0 a1 x7_2 = some (r1, r2, r3)) ∧ Aside0 (kq ≤ k) ∧ Aside0 (wc.heap[gb4461]? = some (.cells #[.int .i64 0, .int .i64 0] 57 (0, 0))) ∧ Aside0 (Below w.heap.size w wc))
  case first =>
    have H := HC3.out
    clear HC3
    by_cases c5 : a0 < 0
    · rw [if_pos c5] at H
      have c5b0 : decide (a0 < 0) = true := decide_eq_true c5
      clear c5
      (first | rw [c5b0] | (simp only [i64_w, i32_w]; rw [c5b0]) | rw [c5b1] | skip)
      have H' := Aside0.mk H
      clear H
      go_wp2
      go_meet
      case rel => exact ⟨_, (true), (by first | rfl | (simp; done) | (simp [*]; done)), H', ⟨by first | omega | exact Nat.le_refl _⟩, BK4461, ⟨by repeat (first | (with_reducible first | exact HB.out | apply below_alloc | apply pw_below_drewN | apply below_drew1 | refine below_set ?_ GE4461.out) | exact HB.out)⟩⟩
    · rw [if_neg c5] at H
      have c5b0 : decide (a0 < 0) = false := decide_eq_false c5
      clear c5
      (first | rw [c5b0] | (simp only [i64_w, i32_w]; rw [c5b0]) | rw [c5b1] | skip)
      have H' := Aside0.mk H
      clear H
      go_wp2
      go_meet
      case rel => exact ⟨_, (decide (a1 < 0)), (by first | rfl | (simp; done) | (simp [*]; done)), H', ⟨by first | omega | exact Nat.le_refl _⟩, BK4461, ⟨by repeat (first | (with_reducible first | exact HB.out | apply below_alloc | apply pw_below_drewN | apply below_drew1 | refine below_set ?_ GE4461.out) | exact HB.out)⟩⟩
  case rest =>
    clear HC3
    try clear p2
    try clear c4
    try clear c5
    try clear c5b0
    try clear c5b1
    obtain ⟨kq, x7_2, rfl, HA, HJ2, BK4461, HB⟩ := hcut
    cases kq with
    | zero => exact absurd HA.out (by simp [ratio_New.j0])
    | succ kj2 =>
      have H := HA.out
      clear HA
      simp only [ratio_New.j0] at H
      by_cases c6 : x7_2 = true
      · subst c6
        have H1 : (some (0, 0, 1)) = some (r1, r2, r3) := by rw [if_pos rfl] at H; exact H
        clear H
        have H := H1
        clear H1
        simp only [Option.some.injEq, Prod.mk.injEq] at H
        obtain ⟨rfl, rfl, rfl⟩ := H
        have hcz7_0 : wc.cell? ⟨gb4461, 0, none⟩ = some (.int .i64 0) := (blk_cell BK4461.out 0).trans rfl
        have hcz7_1 : wc.cell? ⟨gb4461, 1, none⟩ = some (.int .i64 0) := (blk_cell BK4461.out 1).trans rfl
        have hfz7_0 := blk_frozen BK4461.out 0
        have hfz7_1 := blk_frozen BK4461.out 1
        go_wp2
        refine bodyPost_ret (results_ct rfl _ _ gb4461 57 #[.int .i64 0, .int .i64 0] (0, 0) _ rfl (by refine blk_put (cs := #[.int .i64 0, .int .i64 0]) ?_ 1 _ rfl; refine blk_put (cs := #[.int .i64 0, .int .i64 0]) ?_ 0 _ rfl; exact BK4461.out) Try.underlying57 rfl (by kernel_rfl)) rfl ?_
        exact ⟨by rfl, by repeat (first | (with_reducible first | exact HB.out | apply below_alloc | apply pw_below_drewN | apply below_drew1 | refine below_set ?_ GE4461.out) | exact HB.out)⟩
      · replace c6 := Bool.eq_false_iff.mpr c6
        subst c6
        have H1 : (if a1 = 0 then (some (0, 0, 7)) else ((ratio_Gcd.f (IntKind.u64.wrap (a0)) (IntKind.u64.wrap (a1))).bind fun t4462 => (if t4462 = 0 then (none) else ((wide_Of.f (IntKind.u64.wrap (Int.tdiv (IntKind.u64.wrap (a0)) t4462))).bind fun bt4463 => ((wide_Of.f (IntKind.u64.wrap (Int.tdiv (IntKind.u64.wrap (a1)) t4462))).bind fun bt4465 => ((ratio_told.f bt4463.1 bt4463.2 bt4465.1 bt4465.2).bind fun bt4467 => (some (bt4467.1, bt4467.2.1, bt4467.2.2)))))))) = some (r1, r2, r3) := by rw [if_neg (show ¬ (false = true) by decide)] at H; exact H
        clear H
        have H := H1
        clear H1
        by_cases c8 : a1 = 0
        · rw [if_pos c8] at H
          have c8b0 : (a1 == 0) = true := beq_iff_eq.mpr c8
          have c8b1 : (a1 != 0) = false := bne_eq_false_iff_eq.mpr c8
          clear c8
          simp only [Option.some.injEq, Prod.mk.injEq] at H
          obtain ⟨rfl, rfl, rfl⟩ := H
          have hcz9_0 : wc.cell? ⟨gb4461, 0, none⟩ = some (.int .i64 0) := (blk_cell BK4461.out 0).trans rfl
          have hcz9_1 : wc.cell? ⟨gb4461, 1, none⟩ = some (.int .i64 0) := (blk_cell BK4461.out 1).trans rfl
          have hfz9_0 := blk_frozen BK4461.out 0
          have hfz9_1 := blk_frozen BK4461.out 1
          go_wp2
          refine bodyPost_ret (results_ct rfl _ _ gb4461 57 #[.int .i64 0, .int .i64 0] (0, 0) _ rfl (by refine blk_put (cs := #[.int .i64 0, .int .i64 0]) ?_ 1 _ rfl; refine blk_put (cs := #[.int .i64 0, .int .i64 0]) ?_ 0 _ rfl; exact BK4461.out) Try.underlying57 rfl (by kernel_rfl)) rfl ?_
          exact ⟨by rfl, by repeat (first | (with_reducible first | exact HB.out | apply below_alloc | apply pw_below_drewN | apply below_drew1 | refine below_set ?_ GE4461.out) | exact HB.out)⟩
        · rw [if_neg c8] at H
          have c8b0 : (a1 == 0) = false := beq_eq_false_iff_ne.mpr c8
          have c8b1 : (a1 != 0) = true := bne_iff_ne.mpr c8
          replace H := Option.bind_eq_some_iff.mp H
          obtain ⟨t4462, A100, H⟩ := H
          replace H : (if t4462 = 0 then (none) else ((wide_Of.f (IntKind.u64.wrap (Int.tdiv (IntKind.u64.wrap (a0)) t4462))).bind fun bt4463 => ((wide_Of.f (IntKind.u64.wrap (Int.tdiv (IntKind.u64.wrap (a1)) t4462))).bind fun bt4465 => ((ratio_told.f bt4463.1 bt4463.2 bt4465.1 bt4465.2).bind fun bt4467 => (some (bt4467.1, bt4467.2.1, bt4467.2.2)))))) = some (r1, r2, r3) := H
          have A10 := Aside0.mk A100
          clear A100
          by_cases c11 : t4462 = 0
          · rw [if_pos c11] at H
            exact absurd H (by simp)
          · rw [if_neg c11] at H
            have c11b0 : (t4462 == 0) = false := beq_eq_false_iff_ne.mpr c11
            have c11b1 : (t4462 != 0) = true := bne_iff_ne.mpr c11
            replace H := Option.bind_eq_some_iff.mp H
            obtain ⟨⟨t4463, t4464⟩, A120, H⟩ := H
            replace H : ((wide_Of.f (IntKind.u64.wrap (Int.tdiv (IntKind.u64.wrap (a1)) t4462))).bind fun bt4465 => ((ratio_told.f t4463 t4464 bt4465.1 bt4465.2).bind fun bt4467 => (some (bt4467.1, bt4467.2.1, bt4467.2.2)))) = some (r1, r2, r3) := H
            have A12 := Aside0.mk A120
            clear A120
            replace H := Option.bind_eq_some_iff.mp H
            obtain ⟨⟨t4465, t4466⟩, A130, H⟩ := H
            replace H : ((ratio_told.f t4463 t4464 t4465 t4466).bind fun bt4467 => (some (bt4467.1, bt4467.2.1, bt4467.2.2))) = some (r1, r2, r3) := H
            have A13 := Aside0.mk A130
            clear A130
            replace H := Option.bind_eq_some_iff.mp H
            obtain ⟨⟨t4467, t4468, t4469⟩, A140, H⟩ := H
            replace H : (some (t4467, t4468, t4469)) = some (r1, r2, r3) := H
            have A14 := Aside0.mk A140
            clear A140
            simp only [Option.some.injEq, Prod.mk.injEq] at H
            obtain ⟨rfl, rfl, rfl⟩ := H
            try go_wp2_with (first | ((with_reducible refine gate_callee (f := 45) rfl ?_); refine goesL_ (some 23) rfl rfl Try.func45 (by kernel_rfl) rfl #[.int .u64 (IntKind.u64.wrap (a0)), .int .u64 (IntKind.u64.wrap (a1))] rfl (by (try simp only [List.map_toArray, List.map_cons, List.map_nil]); first | done | rfl) ?_; (with_reducible refine (ratio_Gcd.calls (IntKind.u64.wrap (a0)) (IntKind.u64.wrap (a1)) t4462 _ A10.out).mono ?_); rintro e w15 ⟨rfl, hb⟩; refine ⟨_, rfl, ?_⟩; have n0_ := Aside0.mk (blk_below BK4461.out hb); have n1_ := Aside0.mk (below_step (by repeat (first | (with_reducible first | exact HB.out | apply below_alloc | apply pw_below_drewN | apply below_drew1 | refine below_set ?_ GE4461.out) | exact HB.out)) hb); clear BK4461 HB; have BK4461 := n0_; have HB := n1_; clear n0_ n1_; (try clear hb)))
            have n0_ := Aside0.mk (blk_drew BK4461.out)
            have n1_ := Aside0.mk (below_drew1 HB.out)
            clear BK4461 HB
            have BK4461 := n0_
            have HB := n1_
            clear n0_ n1_
            refine start_ (n := 15) (S := fun w' => True) (ds := []) (ratio_Cmp.ups 15 0) (by kernel_rfl) rfl rfl trivial (fun hHeld => ?_); refine with_tabW ratio_New.tab6 ratio_New.bits6 (fun HT_ HW_ => ?_)
            generalize w15.drew = w16 at BK4461 HB hHeld ⊢
            refine pure_ (i := 0) (N := some 24) (v := ?_) (a' := ?_) (ratio_Cmp.ups 15 1) rfl rfl (any_of HT_.out (by kernel_rfl)) (fun _ _ _ h => h) (Or.inl ⟨by rfl, ?_⟩) ?_ ?_
            rotate_left
            · intro w'
              go_simp
              with_reducible rfl
            rotate_left
            · simp only [Act.put, List.setIfInBounds_toArray, List.set_cons_zero, List.set_cons_succ, i64_w, i32_w]
              rfl
            refine pure_ (i := 1) (N := some 25) (v := ?_) (a' := ?_) (ratio_Cmp.ups 15 3) rfl rfl (any_of HT_.out (by kernel_rfl)) (fun _ _ _ h => h) (Or.inl ⟨by rfl, ?_⟩) ?_ ?_
            rotate_left
            · intro w'
              go_simp
              with_reducible rfl
            rotate_left
            · simp only [Act.put, List.setIfInBounds_toArray, List.set_cons_zero, List.set_cons_succ, i64_w, i32_w]
              rfl
            refine pure_ (i := 2) (N := some 26) (v := ?_) (a' := ?_) (ratio_Cmp.ups 15 7) rfl rfl (any_of HT_.out (by kernel_rfl)) (fun _ _ _ h => h) (Or.inl ⟨by rfl, ?_⟩) ?_ ?_
            rotate_left
            · intro w'
              go_simp
              with_reducible rfl
            rotate_left
            · simp only [Act.put, List.setIfInBounds_toArray, List.set_cons_zero, List.set_cons_succ, i64_w, i32_w]
              rfl
            refine pure_ (i := 3) (N := some 27) (v := ?_) (a' := ?_) (ratio_Cmp.ups 15 15) rfl rfl (any_of HT_.out (by kernel_rfl)) (fun _ _ _ h => h) (Or.inl ⟨by rfl, ?_⟩) ?_ ?_
            rotate_left
            · intro w'
              go_simp
              with_reducible rfl
            rotate_left
            · simp only [Act.put, List.setIfInBounds_toArray, List.set_cons_zero, List.set_cons_succ, i64_w, i32_w]
              rfl
            refine pure_ (i := 5) (N := some 29) (v := ?_) (a' := ?_) (ratio_Cmp.ups 15 47) rfl rfl (any_of HT_.out (by kernel_rfl)) (fun _ _ _ h => h) (Or.inl ⟨by rfl, ?_⟩) ?_ ?_
            rotate_left
            · intro w'
              go_simp
              with_reducible rfl
            rotate_left
            · simp only [Act.put, List.setIfInBounds_toArray, List.set_cons_zero, List.set_cons_succ, i64_w, i32_w]
              rfl
            refine pure_ (i := 6) (N := some 30) (v := ?_) (a' := ?_) (ratio_Cmp.ups 15 111) rfl rfl (any_of HT_.out (by kernel_rfl)) (fun _ _ _ h => h) (Or.inl ⟨by rfl, ?_⟩) ?_ ?_
            rotate_left
            · intro w'
              go_simp
              with_reducible rfl
            rotate_left
            · simp only [Act.put, List.setIfInBounds_toArray, List.set_cons_zero, List.set_cons_succ, i64_w, i32_w]
              rfl
            refine pure_ (i := 7) (N := some 31) (v := ?_) (a' := ?_) (ratio_Cmp.ups 15 239) rfl rfl (any_of HT_.out (by kernel_rfl)) (fun _ _ _ h => h) (Or.inl ⟨by rfl, ?_⟩) ?_ ?_
            rotate_left
            · intro w'
              go_simp
              with_reducible rfl
            rotate_left
            · simp only [Act.put, List.setIfInBounds_toArray, List.set_cons_zero, List.set_cons_succ, i64_w, i32_w]
              rfl
            refine pure_ (i := 8) (N := some 32) (v := ?_) (a' := ?_) (ratio_Cmp.ups 15 495) rfl rfl (any_of HT_.out (by kernel_rfl)) (fun _ _ _ h => h) (Or.inl ⟨by rfl, ?_⟩) ?_ ?_
            rotate_left
            · intro w'
              go_simp
              with_reducible rfl
            rotate_left
            · simp only [Act.put, List.setIfInBounds_toArray, List.set_cons_zero, List.set_cons_succ, i64_w, i32_w]
              rfl
            refine one_ (i := 4) (N := some 28) (ratio_Cmp.ups 15 511) rfl rfl (one_of HT_.out (by kernel_rfl)) (by decide) (fun K hK => ?_)
            refine goes_ Try.func33 (by kernel_rfl) rfl #[.int .u64 (IntKind.u64.wrap (Int.tdiv (IntKind.u64.wrap (a0)) t4462))] (by rfl) rfl rfl (by (try simp only [List.map_toArray, List.map_cons, List.map_nil]); first | done | rfl) ?_
            with_reducible refine (wide_Of.calls (IntKind.u64.wrap (Int.tdiv (IntKind.u64.wrap (a0)) t4462)) t4463 t4464 _ A12.out).mono ?_
            rintro e w17 ⟨rfl, hb⟩
            refine ⟨_, rfl, ?_⟩
            have n0_ := Aside0.mk (blk_below BK4461.out hb)
            have n1_ := Aside0.mk (below_step (by repeat (first | (with_reducible first | exact HB.out | apply below_alloc | apply pw_below_drewN | apply below_drew1 | refine below_set ?_ GE4461.out) | exact HB.out)) hb)
            clear BK4461 HB
            have BK4461 := n0_
            have HB := n1_
            clear n0_ n1_
            (try clear hb)
            (try clear hb2)
            (try clear hk)
            (try clear hi)
            refine hK.out _ _ trivial (fun hHeld => ?_)
            clear hK K
            refine norm_ (a' := ?_) ?_ ?_
            rotate_left
            · show Act.put _ (some 28) _ = _
              simp only [Act.put, List.setIfInBounds_toArray, List.set_cons_zero, List.set_cons_succ, i64_w, i32_w]
              rfl
            refine one_ (i := 9) (N := some 33) (ratio_Cmp.ups 15 1023) rfl rfl (one_of HT_.out (by kernel_rfl)) (by decide) (fun K hK => ?_)
            refine goes_ Try.func33 (by kernel_rfl) rfl #[.int .u64 (IntKind.u64.wrap (Int.tdiv (IntKind.u64.wrap (a1)) t4462))] (by rfl) rfl rfl (by (try simp only [List.map_toArray, List.map_cons, List.map_nil]); first | done | rfl) ?_
            with_reducible refine (wide_Of.calls (IntKind.u64.wrap (Int.tdiv (IntKind.u64.wrap (a1)) t4462)) t4465 t4466 _ A13.out).mono ?_
            rintro e w18 ⟨rfl, hb⟩
            refine ⟨_, rfl, ?_⟩
            have n0_ := Aside0.mk (blk_below BK4461.out hb)
            have n1_ := Aside0.mk (below_step (by repeat (first | (with_reducible first | exact HB.out | apply below_alloc | apply pw_below_drewN | apply below_drew1 | refine below_set ?_ GE4461.out) | exact HB.out)) hb)
            clear BK4461 HB
            have BK4461 := n0_
            have HB := n1_
            clear n0_ n1_
            (try clear hb)
            (try clear hb2)
            (try clear hk)
            (try clear hi)
            refine hK.out _ _ trivial (fun hHeld => ?_)
            clear hK K
            refine norm_ (a' := ?_) ?_ ?_
            rotate_left
            · show Act.put _ (some 33) _ = _
              simp only [Act.put, List.setIfInBounds_toArray, List.set_cons_zero, List.set_cons_succ, i64_w, i32_w]
              rfl
            refine one_ (i := 10) (N := some 34) (ratio_Cmp.ups 15 2047) rfl rfl (one_of HT_.out (by kernel_rfl)) (by decide) (fun K hK => ?_)
            refine goes_ Try.func72 (by kernel_rfl) rfl #[.agg #[.int .u64 t4463, .int .u64 t4464], .agg #[.int .u64 t4465, .int .u64 t4466]] (by rfl) rfl rfl (by (try simp only [List.map_toArray, List.map_cons, List.map_nil]); first | done | rfl) ?_
            with_reducible refine (ratio_told.calls t4463 t4464 t4465 t4466 t4467 t4468 t4469 _ A14.out).mono ?_
            rintro e w19 ⟨rfl, hb⟩
            refine ⟨_, rfl, ?_⟩
            have n0_ := Aside0.mk (blk_below BK4461.out hb)
            have n1_ := Aside0.mk (below_step (by repeat (first | (with_reducible first | exact HB.out | apply below_alloc | apply pw_below_drewN | apply below_drew1 | refine below_set ?_ GE4461.out) | exact HB.out)) hb)
            clear BK4461 HB
            have BK4461 := n0_
            have HB := n1_
            clear n0_ n1_
            (try clear hb)
            (try clear hb2)
            (try clear hk)
            (try clear hi)
            refine hK.out _ _ trivial (fun hHeld => ?_)
            clear hK K
            refine norm_ (a' := ?_) ?_ ?_
            rotate_left
            · show Act.put _ (some 34) _ = _
              simp only [Act.put, List.setIfInBounds_toArray, List.set_cons_zero, List.set_cons_succ, i64_w, i32_w]
              rfl
            refine pure_ (i := 11) (N := some 35) (v := ?_) (a' := ?_) (ratio_Cmp.ups 15 4095) rfl rfl (any_of HT_.out (by kernel_rfl)) (fun _ _ _ h => h) (Or.inl ⟨by rfl, ?_⟩) ?_ ?_
            rotate_left
            · intro w'
              go_simp
              with_reducible rfl
            rotate_left
            · simp only [Act.put, List.setIfInBounds_toArray, List.set_cons_zero, List.set_cons_succ, i64_w, i32_w]
              rfl
            refine pure_ (i := 12) (N := some 36) (v := ?_) (a' := ?_) (ratio_Cmp.ups 15 8191) rfl rfl (any_of HT_.out (by kernel_rfl)) (fun _ _ _ h => h) (Or.inl ⟨by rfl, ?_⟩) ?_ ?_
            rotate_left
            · intro w'
              go_simp
              with_reducible rfl
            rotate_left
            · simp only [Act.put, List.setIfInBounds_toArray, List.set_cons_zero, List.set_cons_succ, i64_w, i32_w]
              rfl
            refine one_ (i := 13) (N := none) (ratio_Cmp.ups 15 16383) rfl rfl (one_of HT_.out (by kernel_rfl)) (by decide) (fun K hK => ?_)
            have hs20 : w19.cell? ⟨gb4461, 0, none⟩ = some (.int .i64 0) := (blk_cell BK4461.out 0).trans rfl
            have hfs20 := blk_frozen BK4461.out 0
            have hs21 : w19.cell? ⟨gb4461, 1, none⟩ = some (.int .i64 0) := (blk_cell BK4461.out 1).trans rfl
            have hfs21 := blk_frozen BK4461.out 1
            refine skip_ (w1 := ?_) (by rfl) rfl ?_ ?_
            rotate_left
            · go_simp
              rfl
            refine hK.out _ _ trivial (fun hHeld => ?_)
            clear hK K
            refine pure_ (i := 14) (N := some 5) (v := ?_) (a' := ?_) (ratio_Cmp.ups 15 32767) rfl rfl (any_of HT_.out (by kernel_rfl)) (fun _ _ _ h => h) (Or.inl ⟨by rfl, ?_⟩) ?_ ?_
            rotate_left
            · intro w'
              go_simp
              with_reducible rfl
            rotate_left
            · simp only [Act.put, List.setIfInBounds_toArray, List.set_cons_zero, List.set_cons_succ, i64_w, i32_w]
              rfl
            refine done_ (done_of HT_.out (by kernel_rfl)) ?_
            try go_wp2
            refine bodyPost_ret (results_ct rfl _ _ gb4461 57 #[.int .i64 t4467, .int .i64 t4468] (0, 0) _ rfl (by refine blk_put (cs := #[.int .i64 t4467, .int .i64 0]) ?_ 1 _ rfl; refine blk_put (cs := #[.int .i64 0, .int .i64 0]) ?_ 0 _ rfl; exact BK4461.out) Try.underlying57 rfl (by kernel_rfl)) rfl ?_
            exact ⟨by rfl, by repeat (first | (with_reducible first | exact HB.out | apply below_alloc | apply pw_below_drewN | apply below_drew1 | refine below_set ?_ GE4461.out) | exact HB.out)⟩

def ratio_Right.f (a0_0 : Int) (a0_1 : Int) : Option (Bool) := if a0_0 ≥ 0 then (if a0_0 ≤ 4611686018427387904 then (if a0_1 ≥ 1 then (if a0_1 ≤ 4611686018427387904 then ((ratio_Gcd.f (IntKind.u64.wrap (a0_0)) (IntKind.u64.wrap (a0_1))).bind fun t4471 => (some (t4471 == 1))) else (some false)) else (some false)) else (some false)) else (some false)
set_option maxHeartbeats 8000000 in
set_option maxRecDepth 100000 in
theorem ratio_Right.calls (a0_0 : Int) (a0_1 : Int) (r : Bool) (w : World) (h : ratio_Right.f a0_0 a0_1 = some r) :
    Calls Try.prog 43 #[.agg #[.int .i64 a0_0, .int .i64 a0_1]] w fun e w' => e = .returned (.bool r) ∧ Below w.heap.size w w' := by
  have hu57 := Try.underlying57
  have HB := Aside0.mk (Below.refl w.heap.size w)
  have H : (if a0_0 ≥ 0 then (if a0_0 ≤ 4611686018427387904 then (if a0_1 ≥ 1 then (if a0_1 ≤ 4611686018427387904 then ((ratio_Gcd.f (IntKind.u64.wrap (a0_0)) (IntKind.u64.wrap (a0_1))).bind fun t4471 => (some (t4471 == 1))) else (some false)) else (some false)) else (some false)) else (some false)) = some r := h
  clear h
  by_cases c2 : a0_0 ≥ 0
  · rw [if_pos c2] at H
    have c2b0 : decide (0 ≤ a0_0) = true := decide_eq_true c2
    clear c2
    by_cases c3 : a0_0 ≤ 4611686018427387904
    · rw [if_pos c3] at H
      have c3b0 : decide (a0_0 ≤ 4611686018427387904) = true := decide_eq_true c3
      clear c3
      by_cases c4 : a0_1 ≥ 1
      · rw [if_pos c4] at H
        have c4b0 : decide (1 ≤ a0_1) = true := decide_eq_true c4
        clear c4
        by_cases c5 : a0_1 ≤ 4611686018427387904
        · rw [if_pos c5] at H
          have c5b0 : decide (a0_1 ≤ 4611686018427387904) = true := decide_eq_true c5
          clear c5
          replace H := Option.bind_eq_some_iff.mp H
          obtain ⟨t4471, A60, H⟩ := H
          replace H : (some (t4471 == 1)) = some r := H
          have A6 := Aside0.mk A60
          clear A60
          obtain rfl := Option.some.inj H
          go_enter Try.func43, Try.ntmps43
          go_wp2_with (first | ((with_reducible refine gate_dst (N := 1) rfl ?_); refine box_event ?hg (N := 1) ?hd (cs := #[.int .i64 a0_0, .int .i64 a0_1]) (t := 57) ?hr ?_; (case hd => rfl); (case hg => rfl); (case hr => go_simp); intro gb4470 hg w7 hbox hb; have n0_ := Aside0.mk (below_step (by repeat (first | (with_reducible first | exact HB.out | apply below_alloc | apply pw_below_drewN | apply below_drew1) | exact HB.out)) hb); have n1_ := Aside0.mk (hbox); have n2_ := Aside0.mk ((by rw [hg]; exact (below_size (by repeat (first | (with_reducible first | exact HB.out | apply below_alloc | apply pw_below_drewN | apply below_drew1) | exact HB.out))) : w.heap.size ≤ gb4470)); have n3_ := Aside0.mk ((by rw [hg]; exact (below_size (by repeat (first | (with_reducible first | exact HB.out | apply below_alloc | apply pw_below_drewN | apply below_drew1) | exact HB.out))) : w.heap.size ≤ gb4470)); clear HB; have HB := n0_; have BK4470 := n1_; have GW4470 := n2_; have GE4470 := n3_; clear n0_ n1_ n2_ n3_; clear hb hbox hg; have hcz8_0 : w7.cell? ⟨gb4470, 0, none⟩ = some (.int .i64 a0_0) := (blk_cell BK4470.out 0).trans rfl; have hcz8_1 : w7.cell? ⟨gb4470, 1, none⟩ = some (.int .i64 a0_1) := (blk_cell BK4470.out 1).trans rfl; have hfz8_0 := blk_frozen BK4470.out 0; have hfz8_1 := blk_frozen BK4470.out 1) | (go_at_call 45; (with_reducible refine (ratio_Gcd.calls (IntKind.u64.wrap (a0_0)) (IntKind.u64.wrap (a0_1)) t4471 _ A6.out).mono ?_); rintro e w9 ⟨rfl, hb⟩; have n0_ := Aside0.mk (blk_below BK4470.out hb); have n1_ := Aside0.mk (below_step (by repeat (first | (with_reducible first | exact HB.out | apply below_alloc | apply pw_below_drewN | apply below_drew1 | refine below_set ?_ GE4470.out) | exact HB.out)) hb); clear BK4470 HB; have BK4470 := n0_; have HB := n1_; clear n0_ n1_; (try clear hb)))
          go_ret
          exact ⟨by rfl, by repeat (first | (with_reducible first | exact HB.out | apply below_alloc | apply pw_below_drewN | apply below_drew1 | refine below_set ?_ GE4470.out) | exact HB.out)⟩
        · rw [if_neg c5] at H
          have c5b0 : decide (a0_1 ≤ 4611686018427387904) = false := decide_eq_false c5
          clear c5
          obtain rfl := Option.some.inj H
          go_enter Try.func43, Try.ntmps43
          go_wp2_with (first | ((with_reducible refine gate_dst (N := 1) rfl ?_); refine box_event ?hg (N := 1) ?hd (cs := #[.int .i64 a0_0, .int .i64 a0_1]) (t := 57) ?hr ?_; (case hd => rfl); (case hg => rfl); (case hr => go_simp); intro gb4470 hg w10 hbox hb; have n0_ := Aside0.mk (below_step (by repeat (first | (with_reducible first | exact HB.out | apply below_alloc | apply pw_below_drewN | apply below_drew1) | exact HB.out)) hb); have n1_ := Aside0.mk (hbox); have n2_ := Aside0.mk ((by rw [hg]; exact (below_size (by repeat (first | (with_reducible first | exact HB.out | apply below_alloc | apply pw_below_drewN | apply below_drew1) | exact HB.out))) : w.heap.size ≤ gb4470)); have n3_ := Aside0.mk ((by rw [hg]; exact (below_size (by repeat (first | (with_reducible first | exact HB.out | apply below_alloc | apply pw_below_drewN | apply below_drew1) | exact HB.out))) : w.heap.size ≤ gb4470)); clear HB; have HB := n0_; have BK4470 := n1_; have GW4470 := n2_; have GE4470 := n3_; clear n0_ n1_ n2_ n3_; clear hb hbox hg; have hcz11_0 : w10.cell? ⟨gb4470, 0, none⟩ = some (.int .i64 a0_0) := (blk_cell BK4470.out 0).trans rfl; have hcz11_1 : w10.cell? ⟨gb4470, 1, none⟩ = some (.int .i64 a0_1) := (blk_cell BK4470.out 1).trans rfl; have hfz11_0 := blk_frozen BK4470.out 0; have hfz11_1 := blk_frozen BK4470.out 1))
          go_ret
          exact ⟨by rfl, by repeat (first | (with_reducible first | exact HB.out | apply below_alloc | apply pw_below_drewN | apply below_drew1 | refine below_set ?_ GE4470.out) | exact HB.out)⟩
      · rw [if_neg c4] at H
        have c4b0 : decide (1 ≤ a0_1) = false := decide_eq_false c4
        clear c4
        obtain rfl := Option.some.inj H
        go_enter Try.func43, Try.ntmps43
        go_wp2_with (first | ((with_reducible refine gate_dst (N := 1) rfl ?_); refine box_event ?hg (N := 1) ?hd (cs := #[.int .i64 a0_0, .int .i64 a0_1]) (t := 57) ?hr ?_; (case hd => rfl); (case hg => rfl); (case hr => go_simp); intro gb4470 hg w12 hbox hb; have n0_ := Aside0.mk (below_step (by repeat (first | (with_reducible first | exact HB.out | apply below_alloc | apply pw_below_drewN | apply below_drew1) | exact HB.out)) hb); have n1_ := Aside0.mk (hbox); have n2_ := Aside0.mk ((by rw [hg]; exact (below_size (by repeat (first | (with_reducible first | exact HB.out | apply below_alloc | apply pw_below_drewN | apply below_drew1) | exact HB.out))) : w.heap.size ≤ gb4470)); have n3_ := Aside0.mk ((by rw [hg]; exact (below_size (by repeat (first | (with_reducible first | exact HB.out | apply below_alloc | apply pw_below_drewN | apply below_drew1) | exact HB.out))) : w.heap.size ≤ gb4470)); clear HB; have HB := n0_; have BK4470 := n1_; have GW4470 := n2_; have GE4470 := n3_; clear n0_ n1_ n2_ n3_; clear hb hbox hg; have hcz13_0 : w12.cell? ⟨gb4470, 0, none⟩ = some (.int .i64 a0_0) := (blk_cell BK4470.out 0).trans rfl; have hcz13_1 : w12.cell? ⟨gb4470, 1, none⟩ = some (.int .i64 a0_1) := (blk_cell BK4470.out 1).trans rfl; have hfz13_0 := blk_frozen BK4470.out 0; have hfz13_1 := blk_frozen BK4470.out 1))
        go_ret
        exact ⟨by rfl, by repeat (first | (with_reducible first | exact HB.out | apply below_alloc | apply pw_below_drewN | apply below_drew1 | refine below_set ?_ GE4470.out) | exact HB.out)⟩
    · rw [if_neg c3] at H
      have c3b0 : decide (a0_0 ≤ 4611686018427387904) = false := decide_eq_false c3
      clear c3
      obtain rfl := Option.some.inj H
      go_enter Try.func43, Try.ntmps43
      go_wp2_with (first | ((with_reducible refine gate_dst (N := 1) rfl ?_); refine box_event ?hg (N := 1) ?hd (cs := #[.int .i64 a0_0, .int .i64 a0_1]) (t := 57) ?hr ?_; (case hd => rfl); (case hg => rfl); (case hr => go_simp); intro gb4470 hg w14 hbox hb; have n0_ := Aside0.mk (below_step (by repeat (first | (with_reducible first | exact HB.out | apply below_alloc | apply pw_below_drewN | apply below_drew1) | exact HB.out)) hb); have n1_ := Aside0.mk (hbox); have n2_ := Aside0.mk ((by rw [hg]; exact (below_size (by repeat (first | (with_reducible first | exact HB.out | apply below_alloc | apply pw_below_drewN | apply below_drew1) | exact HB.out))) : w.heap.size ≤ gb4470)); have n3_ := Aside0.mk ((by rw [hg]; exact (below_size (by repeat (first | (with_reducible first | exact HB.out | apply below_alloc | apply pw_below_drewN | apply below_drew1) | exact HB.out))) : w.heap.size ≤ gb4470)); clear HB; have HB := n0_; have BK4470 := n1_; have GW4470 := n2_; have GE4470 := n3_; clear n0_ n1_ n2_ n3_; clear hb hbox hg; have hcz15_0 : w14.cell? ⟨gb4470, 0, none⟩ = some (.int .i64 a0_0) := (blk_cell BK4470.out 0).trans rfl; have hcz15_1 : w14.cell? ⟨gb4470, 1, none⟩ = some (.int .i64 a0_1) := (blk_cell BK4470.out 1).trans rfl; have hfz15_0 := blk_frozen BK4470.out 0; have hfz15_1 := blk_frozen BK4470.out 1))
      go_ret
      exact ⟨by rfl, by repeat (first | (with_reducible first | exact HB.out | apply below_alloc | apply pw_below_drewN | apply below_drew1 | refine below_set ?_ GE4470.out) | exact HB.out)⟩
  · rw [if_neg c2] at H
    have c2b0 : decide (0 ≤ a0_0) = false := decide_eq_false c2
    clear c2
    obtain rfl := Option.some.inj H
    go_enter Try.func43, Try.ntmps43
    go_wp2_with (first | ((with_reducible refine gate_dst (N := 1) rfl ?_); refine box_event ?hg (N := 1) ?hd (cs := #[.int .i64 a0_0, .int .i64 a0_1]) (t := 57) ?hr ?_; (case hd => rfl); (case hg => rfl); (case hr => go_simp); intro gb4470 hg w16 hbox hb; have n0_ := Aside0.mk (below_step (by repeat (first | (with_reducible first | exact HB.out | apply below_alloc | apply pw_below_drewN | apply below_drew1) | exact HB.out)) hb); have n1_ := Aside0.mk (hbox); have n2_ := Aside0.mk ((by rw [hg]; exact (below_size (by repeat (first | (with_reducible first | exact HB.out | apply below_alloc | apply pw_below_drewN | apply below_drew1) | exact HB.out))) : w.heap.size ≤ gb4470)); have n3_ := Aside0.mk ((by rw [hg]; exact (below_size (by repeat (first | (with_reducible first | exact HB.out | apply below_alloc | apply pw_below_drewN | apply below_drew1) | exact HB.out))) : w.heap.size ≤ gb4470)); clear HB; have HB := n0_; have BK4470 := n1_; have GW4470 := n2_; have GE4470 := n3_; clear n0_ n1_ n2_ n3_; clear hb hbox hg; have hcz17_0 : w16.cell? ⟨gb4470, 0, none⟩ = some (.int .i64 a0_0) := (blk_cell BK4470.out 0).trans rfl; have hcz17_1 : w16.cell? ⟨gb4470, 1, none⟩ = some (.int .i64 a0_1) := (blk_cell BK4470.out 1).trans rfl; have hfz17_0 := blk_frozen BK4470.out 0; have hfz17_1 := blk_frozen BK4470.out 1))
    go_ret
    exact ⟨by rfl, by repeat (first | (with_reducible first | exact HB.out | apply below_alloc | apply pw_below_drewN | apply below_drew1 | refine below_set ?_ GE4470.out) | exact HB.out)⟩

def ratio_Add.f (a0_0 : Int) (a0_1 : Int) (a1_0 : Int) (a1_1 : Int) : Option (Int × Int × Int) := (ratio_Gcd.f (IntKind.u64.wrap (a0_1)) (IntKind.u64.wrap (a1_1))).bind fun t4475 => (if t4475 = 0 then (none) else ((wide_Mul.f (IntKind.u64.wrap (a0_0)) (IntKind.u64.wrap (Int.tdiv (IntKind.u64.wrap (a1_1)) t4475))).bind fun bt4476 => ((wide_Mul.f (IntKind.u64.wrap (a1_0)) (IntKind.u64.wrap (Int.tdiv (IntKind.u64.wrap (a0_1)) t4475))).bind fun bt4478 => ((wide_Add.f bt4476.1 bt4476.2 bt4478.1 bt4478.2).bind fun bt4480 => ((wide_Div.f bt4480.1 bt4480.2.1 t4475).bind fun bt4484 => ((ratio_Gcd.f bt4484.2.2.1 t4475).bind fun t4489 => ((wide_Div.f bt4480.1 bt4480.2.1 t4489).bind fun bt4490 => (if t4489 = 0 then (none) else ((wide_Mul.f (IntKind.u64.wrap (Int.tdiv (IntKind.u64.wrap (a0_1)) t4475)) (IntKind.u64.wrap (Int.tdiv (IntKind.u64.wrap (a1_1)) t4489))).bind fun bt4494 => ((ratio_told.f bt4490.1 bt4490.2.1 bt4494.1 bt4494.2).bind fun bt4496 => (some (bt4496.1, bt4496.2.1, bt4496.2.2))))))))))))
def ratio_Add.T1 : Bool × List (List Nat × List Nat) := (true, [([], []), ([0], [0]), ([1], [1]), ([], []), ([3], [3]), ([4], [4]), ([2, 0, 1, 2], [2]), ([5, 6, 0, 1, 2, 3, 4, 5, 6], [5])])
def ratio_Add.B1 : List Nat := [0, 1, 3, 0, 8, 24, 7, 127]
theorem ratio_Add.tab1 : rtab .any (opsOf Try.f46 1) = ratio_Add.T1 := by kernel_rfl
theorem ratio_Add.bits1 : waitsOk ratio_Add.T1.2 ratio_Add.B1 = true := by kernel_rfl
def ratio_Add.T3 : Bool × List (List Nat × List Nat) := (true, [([], []), ([0], [0]), ([1], [1]), ([], []), ([], []), ([3, 4], [3, 4]), ([2, 5], [2, 5]), ([], []), ([7], [7]), ([8], [8]), ([], []), ([], []), ([10, 11], [10, 11]), ([9, 12, 6], [9, 12]), ([6, 13, 13], [6, 13]), ([14], [14]), ([15], [15]), ([15], [15]), ([], []), ([18, 16, 14, 0, 1, 2, 3, 4, 5, 6, 7, 8, 9, 10, 11, 12, 13, 14, 15, 16, 18], [16, 18]), ([17, 19, 0, 1, 2, 3, 4, 5, 6, 7, 8, 9, 10, 11, 12, 13, 14, 15, 16, 17, 18, 19], [17])])
def ratio_Add.B3 : List Nat := [0, 1, 3, 0, 0, 24, 63, 0, 128, 384, 0, 0, 3072, 8191, 16383, 32767, 65535, 65535, 0, 393215, 1048575]
theorem ratio_Add.tab3 : rtab .any (opsOf Try.f46 3) = ratio_Add.T3 := by kernel_rfl
theorem ratio_Add.bits3 : waitsOk ratio_Add.T3.2 ratio_Add.B3 = true := by kernel_rfl
def ratio_Add.T7 : Bool × List (List Nat × List Nat) := (true, [([], []), ([], []), ([], []), ([1, 2], [1, 2]), ([], []), ([], []), ([4, 5], [4, 5]), ([3, 6], [3, 6]), ([0, 7, 7], [0, 7]), ([8], [8]), ([8], [8]), ([9, 8, 0, 1, 2, 3, 4, 5, 6, 7, 8, 9, 10], [9]), ([10, 11, 0, 1, 2, 3, 4, 5, 6, 7, 8, 9, 10, 11], [10])])
def ratio_Add.B7 : List Nat := [0, 0, 0, 6, 0, 0, 48, 126, 255, 511, 511, 2047, 4095]
theorem ratio_Add.tab7 : rtab .any (opsOf Try.f46 7) = ratio_Add.T7 := by kernel_rfl
theorem ratio_Add.bits7 : waitsOk ratio_Add.T7.2 ratio_Add.B7 = true := by kernel_rfl
set_option maxHeartbeats 8000000 in
set_option maxRecDepth 100000 in
theorem ratio_Add.calls (a0_0 : Int) (a0_1 : Int) (a1_0 : Int) (a1_1 : Int) (r1 : Int) (r2 : Int) (r3 : Int) (w : World) (h : ratio_Add.f a0_0 a0_1 a1_0 a1_1 = some (r1, r2, r3)) :
    Calls Try.prog 46 #[.agg #[.int .i64 a0_0, .int .i64 a0_1], .agg #[.int .i64 a1_0, .int .i64 a1_1]] w fun e w' => e = .returned (.tuple #[.agg #[.int .i64 r1, .int .i64 r2], .int .i64 r3]) ∧ Below w.heap.size w w' := by
  have hu57 := Try.underlying57
  have hu24 := Try.underlying24
  have HB := Aside0.mk (Below.refl w.heap.size w)
  have H : ((ratio_Gcd.f (IntKind.u64.wrap (a0_1)) (IntKind.u64.wrap (a1_1))).bind fun t4475 => (if t4475 = 0 then (none) else ((wide_Mul.f (IntKind.u64.wrap (a0_0)) (IntKind.u64.wrap (Int.tdiv (IntKind.u64.wrap (a1_1)) t4475))).bind fun bt4476 => ((wide_Mul.f (IntKind.u64.wrap (a1_0)) (IntKind.u64.wrap (Int.tdiv (IntKind.u64.wrap (a0_1)) t4475))).bind fun bt4478 => ((wide_Add.f bt4476.1 bt4476.2 bt4478.1 bt4478.2).bind fun bt4480 => ((wide_Div.f bt4480.1 bt4480.2.1 t4475).bind fun bt4484 => ((ratio_Gcd.f bt4484.2.2.1 t4475).bind fun t4489 => ((wide_Div.f bt4480.1 bt4480.2.1 t4489).bind fun bt4490 => (if t4489 = 0 then (none) else ((wide_Mul.f (IntKind.u64.wrap (Int.tdiv (IntKind.u64.wrap (a0_1)) t4475)) (IntKind.u64.wrap (Int.tdiv (IntKind.u64.wrap (a1_1)) t4489))).bind fun bt4494 => ((ratio_told.f bt4490.1 bt4490.2.1 bt4494.1 bt4494.2).bind fun bt4496 => (some (bt4496.1, bt4496.2.1, bt4496.2.2))))))))))))) = some (r1, r2, r3) := h
  clear h
  replace H := Option.bind_eq_some_iff.mp H
  obtain ⟨t4475, A30, H⟩ := H
  replace H : (if t4475 = 0 then (none) else ((wide_Mul.f (IntKind.u64.wrap (a0_0)) (IntKind.u64.wrap (Int.tdiv (IntKind.u64.wrap (a1_1)) t4475))).bind fun bt4476 => ((wide_Mul.f (IntKind.u64.wrap (a1_0)) (IntKind.u64.wrap (Int.tdiv (IntKind.u64.wrap (a0_1)) t4475))).bind fun bt4478 => ((wide_Add.f bt4476.1 bt4476.2 bt4478.1 bt4478.2).bind fun bt4480 => ((wide_Div.f bt4480.1 bt4480.2.1 t4475).bind fun bt4484 => ((ratio_Gcd.f bt4484.2.2.1 t4475).bind fun t4489 => ((wide_Div.f bt4480.1 bt4480.2.1 t4489).bind fun bt4490 => (if t4489 = 0 then (none) else ((wide_Mul.f (IntKind.u64.wrap (Int.tdiv (IntKind.u64.wrap (a0_1)) t4475)) (IntKind.u64.wrap (Int.tdiv (IntKind.u64.wrap (a1_1)) t4489))).bind fun bt4494 => ((ratio_told.f bt4490.1 bt4490.2.1 bt4494.1 bt4494.2).bind fun bt4496 => (some (bt4496.1, bt4496.2.1, bt4496.2.2)))))))))))) = some (r1, r2, r3) := H
  have A3 := Aside0.mk A30
  clear A30
  by_cases c4 : t4475 = 0
  · rw [if_pos c4] at H
    exact absurd H (by simp)
  · rw [if_neg c4] at H
    have c4b0 : (t4475 == 0) = false := beq_eq_false_iff_ne.mpr c4
    have c4b1 : (t4475 != 0) = true := bne_iff_ne.mpr c4
    replace H := Option.bind_eq_some_iff.mp H
    obtain ⟨⟨t4476, t4477⟩, A50, H⟩ := H
    replace H : ((wide_Mul.f (IntKind.u64.wrap (a1_0)) (IntKind.u64.wrap (Int.tdiv (IntKind.u64.wrap (a0_1)) t4475))).bind fun bt4478 => ((wide_Add.f t4476 t4477 bt4478.1 bt4478.2).bind fun bt4480 => ((wide_Div.f bt4480.1 bt4480.2.1 t4475).bind fun bt4484 => ((ratio_Gcd.f bt4484.2.2.1 t4475).bind fun t4489 => ((wide_Div.f bt4480.1 bt4480.2.1 t4489).bind fun bt4490 => (if t4489 = 0 then (none) else ((wide_Mul.f (IntKind.u64.wrap (Int.tdiv (IntKind.u64.wrap (a0_1)) t4475)) (IntKind.u64.wrap (Int.tdiv (IntKind.u64.wrap (a1_1)) t4489))).bind fun bt4494 => ((ratio_told.f bt4490.1 bt4490.2.1 bt4494.1 bt4494.2).bind fun bt4496 => (some (bt4496.1, bt4496.2.1, bt4496.2.2)))))))))) = some (r1, r2, r3) := H
    have A5 := Aside0.mk A50
    clear A50
    replace H := Option.bind_eq_some_iff.mp H
    obtain ⟨⟨t4478, t4479⟩, A60, H⟩ := H
    replace H : ((wide_Add.f t4476 t4477 t4478 t4479).bind fun bt4480 => ((wide_Div.f bt4480.1 bt4480.2.1 t4475).bind fun bt4484 => ((ratio_Gcd.f bt4484.2.2.1 t4475).bind fun t4489 => ((wide_Div.f bt4480.1 bt4480.2.1 t4489).bind fun bt4490 => (if t4489 = 0 then (none) else ((wide_Mul.f (IntKind.u64.wrap (Int.tdiv (IntKind.u64.wrap (a0_1)) t4475)) (IntKind.u64.wrap (Int.tdiv (IntKind.u64.wrap (a1_1)) t4489))).bind fun bt4494 => ((ratio_told.f bt4490.1 bt4490.2.1 bt4494.1 bt4494.2).bind fun bt4496 => (some (bt4496.1, bt4496.2.1, bt4496.2.2))))))))) = some (r1, r2, r3) := H
    have A6 := Aside0.mk A60
    clear A60
    replace H := Option.bind_eq_some_iff.mp H
    obtain ⟨⟨t4480, t4481, t4482⟩, A70, H⟩ := H
    replace H : ((wide_Div.f t4480 t4481 t4475).bind fun bt4484 => ((ratio_Gcd.f bt4484.2.2.1 t4475).bind fun t4489 => ((wide_Div.f t4480 t4481 t4489).bind fun bt4490 => (if t4489 = 0 then (none) else ((wide_Mul.f (IntKind.u64.wrap (Int.tdiv (IntKind.u64.wrap (a0_1)) t4475)) (IntKind.u64.wrap (Int.tdiv (IntKind.u64.wrap (a1_1)) t4489))).bind fun bt4494 => ((ratio_told.f bt4490.1 bt4490.2.1 bt4494.1 bt4494.2).bind fun bt4496 => (some (bt4496.1, bt4496.2.1, bt4496.2.2)))))))) = some (r1, r2, r3) := H
    have A7 := Aside0.mk A70
    clear A70
    replace H := Option.bind_eq_some_iff.mp H
    obtain ⟨⟨t4484, t4485, t4486, t4487⟩, A80, H⟩ := H
    replace H : ((ratio_Gcd.f t4486 t4475).bind fun t4489 => ((wide_Div.f t4480 t4481 t4489).bind fun bt4490 => (if t4489 = 0 then (none) else ((wide_Mul.f (IntKind.u64.wrap (Int.tdiv (IntKind.u64.wrap (a0_1)) t4475)) (IntKind.u64.wrap (Int.tdiv (IntKind.u64.wrap (a1_1)) t4489))).bind fun bt4494 => ((ratio_told.f bt4490.1 bt4490.2.1 bt4494.1 bt4494.2).bind fun bt4496 => (some (bt4496.1, bt4496.2.1, bt4496.2.2))))))) = some (r1, r2, r3) := H
    have A8 := Aside0.mk A80
    clear A80
    replace H := Option.bind_eq_some_iff.mp H
    obtain ⟨t4489, A90, H⟩ := H
    replace H : ((wide_Div.f t4480 t4481 t4489).bind fun bt4490 => (if t4489 = 0 then (none) else ((wide_Mul.f (IntKind.u64.wrap (Int.tdiv (IntKind.u64.wrap (a0_1)) t4475)) (IntKind.u64.wrap (Int.tdiv (IntKind.u64.wrap (a1_1)) t4489))).bind fun bt4494 => ((ratio_told.f bt4490.1 bt4490.2.1 bt4494.1 bt4494.2).bind fun bt4496 => (some (bt4496.1, bt4496.2.1, bt4496.2.2)))))) = some (r1, r2, r3) := H
    have A9 := Aside0.mk A90
    clear A90
    replace H := Option.bind_eq_some_iff.mp H
    obtain ⟨⟨t4490, t4491, t4492, t4493⟩, A100, H⟩ := H
    replace H : (if t4489 = 0 then (none) else ((wide_Mul.f (IntKind.u64.wrap (Int.tdiv (IntKind.u64.wrap (a0_1)) t4475)) (IntKind.u64.wrap (Int.tdiv (IntKind.u64.wrap (a1_1)) t4489))).bind fun bt4494 => ((ratio_told.f t4490 t4491 bt4494.1 bt4494.2).bind fun bt4496 => (some (bt4496.1, bt4496.2.1, bt4496.2.2))))) = some (r1, r2, r3) := H
    have A10 := Aside0.mk A100
    clear A100
    by_cases c11 : t4489 = 0
    · rw [if_pos c11] at H
      exact absurd H (by simp)
    · rw [if_neg c11] at H
      have c11b0 : (t4489 == 0) = false := beq_eq_false_iff_ne.mpr c11
      have c11b1 : (t4489 != 0) = true := bne_iff_ne.mpr c11
      replace H := Option.bind_eq_some_iff.mp H
      obtain ⟨⟨t4494, t4495⟩, A120, H⟩ := H
      replace H : ((ratio_told.f t4490 t4491 t4494 t4495).bind fun bt4496 => (some (bt4496.1, bt4496.2.1, bt4496.2.2))) = some (r1, r2, r3) := H
      have A12 := Aside0.mk A120
      clear A120
      replace H := Option.bind_eq_some_iff.mp H
      obtain ⟨⟨t4496, t4497, t4498⟩, A130, H⟩ := H
      replace H : (some (t4496, t4497, t4498)) = some (r1, r2, r3) := H
      have A13 := Aside0.mk A130
      clear A130
      simp only [Option.some.injEq, Prod.mk.injEq] at H
      obtain ⟨rfl, rfl, rfl⟩ := H
      go_enter Try.func46, Try.ntmps46
      try go_wp2_with (first | ((with_reducible refine gate_dst (N := 2) rfl ?_); refine box_event ?hg (N := 2) ?hd (cs := #[.int .i64 a0_0, .int .i64 a0_1]) (t := 57) ?hr ?_; (case hd => rfl); (case hg => rfl); (case hr => go_simp); intro gb4472 hg w14 hbox hb; have n0_ := Aside0.mk (below_step (by repeat (first | (with_reducible first | exact HB.out | apply below_alloc | apply pw_below_drewN | apply below_drew1) | exact HB.out)) hb); have n1_ := Aside0.mk (hbox); have n2_ := Aside0.mk ((by rw [hg]; exact (below_size (by repeat (first | (with_reducible first | exact HB.out | apply below_alloc | apply pw_below_drewN | apply below_drew1) | exact HB.out))) : w.heap.size ≤ gb4472)); have n3_ := Aside0.mk ((by rw [hg]; exact (below_size (by repeat (first | (with_reducible first | exact HB.out | apply below_alloc | apply pw_below_drewN | apply below_drew1) | exact HB.out))) : w.heap.size ≤ gb4472)); clear HB; have HB := n0_; have BK4472 := n1_; have GW4472 := n2_; have GE4472 := n3_; clear n0_ n1_ n2_ n3_; clear hb hbox hg) | ((with_reducible refine gate_dst (N := 3) rfl ?_); refine box_event ?hg (N := 3) ?hd (cs := #[.int .i64 a1_0, .int .i64 a1_1]) (t := 57) ?hr ?_; (case hd => rfl); (case hg => rfl); (case hr => go_simp); intro gb4473 hg w15 hbox hb; have n0_ := Aside0.mk (blk_below BK4472.out hb); have n1_ := Aside0.mk (below_step (by repeat (first | (with_reducible first | exact HB.out | apply below_alloc | apply pw_below_drewN | apply below_drew1 | refine below_set ?_ GE4472.out) | exact HB.out)) hb); have n2_ := Aside0.mk (hbox); have n3_ := Aside0.mk ((by rw [hg]; exact (below_size (by repeat (first | (with_reducible first | exact HB.out | apply below_alloc | apply pw_below_drewN | apply below_drew1 | refine below_set ?_ GE4472.out) | exact HB.out))) : w.heap.size ≤ gb4473)); have n4_ := Aside0.mk ((by rw [hg]; exact (below_size (by repeat (first | (with_reducible first | exact HB.out | apply below_alloc | apply pw_below_drewN | apply below_drew1 | refine below_set ?_ GE4472.out) | exact HB.out))) : w.heap.size ≤ gb4473)); have n5_ := Aside0.mk ((by rw [hg]; exact Nat.ne_of_lt (blk_lt (g := gb4472) (o := .cells #[.int .i64 a0_0, .int .i64 a0_1] 57 (0, 0)) BK4472.out) : gb4472 ≠ gb4473)); have n6_ := Aside0.mk ((by rw [hg]; exact Nat.ne_of_gt (blk_lt (g := gb4472) (o := .cells #[.int .i64 a0_0, .int .i64 a0_1] 57 (0, 0)) BK4472.out) : gb4473 ≠ gb4472)); clear BK4472 HB; have BK4472 := n0_; have HB := n1_; have BK4473 := n2_; have GW4473 := n3_; have GE4473 := n4_; have NB4472_4473 := n5_; have NB4473_4472 := n6_; clear n0_ n1_ n2_ n3_ n4_ n5_ n6_; clear hb hbox hg) | ((with_reducible refine gate_dst (N := 4) rfl ?_); refine box_event ?hg (N := 4) ?hd (cs := #[.int .i64 0, .int .i64 0]) (t := 57) ?hr ?_; (case hd => rfl); (case hg => rfl); (case hr => go_simp); intro gb4474 hg w16 hbox hb; have n0_ := Aside0.mk (blk_below BK4472.out hb); have n1_ := Aside0.mk (blk_below BK4473.out hb); have n2_ := Aside0.mk (below_step (by repeat (first | (with_reducible first | exact HB.out | apply below_alloc | apply pw_below_drewN | apply below_drew1 | refine below_set ?_ GE4472.out | refine below_set ?_ GE4473.out) | exact HB.out)) hb); have n3_ := Aside0.mk (hbox); have n4_ := Aside0.mk ((by rw [hg]; exact (below_size (by repeat (first | (with_reducible first | exact HB.out | apply below_alloc | apply pw_below_drewN | apply below_drew1 | refine below_set ?_ GE4472.out | refine below_set ?_ GE4473.out) | exact HB.out))) : w.heap.size ≤ gb4474)); have n5_ := Aside0.mk ((by rw [hg]; exact (below_size (by repeat (first | (with_reducible first | exact HB.out | apply below_alloc | apply pw_below_drewN | apply below_drew1 | refine below_set ?_ GE4472.out | refine below_set ?_ GE4473.out) | exact HB.out))) : w.heap.size ≤ gb4474)); have n6_ := Aside0.mk ((by rw [hg]; exact Nat.ne_of_lt (blk_lt (g := gb4472) (o := .cells #[.int .i64 a0_0, .int .i64 a0_1] 57 (0, 0)) BK4472.out) : gb4472 ≠ gb4474)); have n7_ := Aside0.mk ((by rw [hg]; exact Nat.ne_of_gt (blk_lt (g := gb4472) (o := .cells #[.int .i64 a0_0, .int .i64 a0_1] 57 (0, 0)) BK4472.out) : gb4474 ≠ gb4472)); have n8_ := Aside0.mk ((by rw [hg]; exact Nat.ne_of_lt (blk_lt (g := gb4473) (o := .cells #[.int .i64 a1_0, .int .i64 a1_1] 57 (0, 0)) BK4473.out) : gb4473 ≠ gb4474)); have n9_ := Aside0.mk ((by rw [hg]; exact Nat.ne_of_gt (blk_lt (g := gb4473) (o := .cells #[.int .i64 a1_0, .int .i64 a1_1] 57 (0, 0)) BK4473.out) : gb4474 ≠ gb4473)); clear BK4472 BK4473; clear HB; have BK4472 := n0_; have BK4473 := n1_; have HB := n2_; have BK4474 := n3_; have GW4474 := n4_; have GE4474 := n5_; have NB4472_4474 := n6_; have NB4474_4472 := n7_; have NB4473_4474 := n8_; have NB4474_4473 := n9_; clear n0_ n1_ n2_ n3_ n4_ n5_ n6_ n7_ n8_ n9_; clear hb hbox hg))
      have n0_ := Aside0.mk (blk_drew BK4472.out)
      have n1_ := Aside0.mk (blk_drew BK4473.out)
      have n2_ := Aside0.mk (blk_drew BK4474.out)
      have n3_ := Aside0.mk (below_drew1 HB.out)
      clear BK4472 BK4473 BK4474 HB
      have BK4472 := n0_
      have BK4473 := n1_
      have BK4474 := n2_
      have HB := n3_
      clear n0_ n1_ n2_ n3_
      refine start_ (n := 8) (S := fun w' => w'.cell? ⟨gb4472, 0, none⟩ = some (.int .i64 a0_0) ∧ w'.cell? ⟨gb4472, 1, none⟩ = some (.int .i64 a0_1) ∧ w'.cell? ⟨gb4473, 0, none⟩ = some (.int .i64 a1_0) ∧ w'.cell? ⟨gb4473, 1, none⟩ = some (.int .i64 a1_1)) (ds := []) (ratio_Cmp.ups 8 0) (by kernel_rfl) rfl rfl ⟨(blk_cell BK4472.out 0).trans rfl, (blk_cell BK4472.out 1).trans rfl, (blk_cell BK4473.out 0).trans rfl, (blk_cell BK4473.out 1).trans rfl⟩ (fun hHeld => ?_); refine with_tabW ratio_Add.tab1 ratio_Add.bits1 (fun HT_ HW_ => ?_)
      generalize w16.drew = w17 at BK4472 BK4473 BK4474 HB hHeld ⊢
      refine pure_ (i := 0) (N := some 15) (v := ?_) (a' := ?_) (ratio_Cmp.ups 8 1) rfl rfl (any_of HT_.out (by kernel_rfl)) (fun _ _ _ h => h) (Or.inl ⟨by rfl, ?_⟩) ?_ ?_
      rotate_left
      · intro w'
        go_simp
        with_reducible rfl
      rotate_left
      · simp only [Act.put, List.setIfInBounds_toArray, List.set_cons_zero, List.set_cons_succ, i64_w, i32_w]
        rfl
      refine pure_ (i := 3) (N := some 18) (v := ?_) (a' := ?_) (ratio_Cmp.ups 8 9) rfl rfl (any_of HT_.out (by kernel_rfl)) (fun _ _ _ h => h) (Or.inl ⟨by rfl, ?_⟩) ?_ ?_
      rotate_left
      · intro w'
        go_simp
        with_reducible rfl
      rotate_left
      · simp only [Act.put, List.setIfInBounds_toArray, List.set_cons_zero, List.set_cons_succ, i64_w, i32_w]
        rfl
      refine take_ (i := 1) (N := some 16) (v := ?_) (a' := ?_) (ratio_Cmp.ups 8 11) rfl rfl (take_ofW HT_.out HW_.out (by kernel_rfl)) (fun _ _ _ h => h) (Or.inl ⟨by rfl, ?_⟩) hHeld ?_ ?_
      rotate_left
      · rintro w' ⟨s0, s1, s2, s3⟩
        go_simp
        with_reducible rfl
      rotate_left
      · simp only [Act.put, List.setIfInBounds_toArray, List.set_cons_zero, List.set_cons_succ, i64_w, i32_w]
        rfl
      refine pure_ (i := 2) (N := some 17) (v := ?_) (a' := ?_) (ratio_Cmp.ups 8 15) rfl rfl (any_of HT_.out (by kernel_rfl)) (fun _ _ _ h => h) (Or.inl ⟨by rfl, ?_⟩) ?_ ?_
      rotate_left
      · intro w'
        go_simp
        with_reducible rfl
      rotate_left
      · simp only [Act.put, List.setIfInBounds_toArray, List.set_cons_zero, List.set_cons_succ, i64_w, i32_w]
        rfl
      refine pure_ (i := 6) (N := some 6) (v := ?_) (a' := ?_) (ratio_Cmp.ups 8 79) rfl rfl (any_of HT_.out (by kernel_rfl)) (fun _ _ _ h => h) (Or.inl ⟨by rfl, ?_⟩) ?_ ?_
      rotate_left
      · intro w'
        go_simp
        with_reducible rfl
      rotate_left
      · simp only [Act.put, List.setIfInBounds_toArray, List.set_cons_zero, List.set_cons_succ, i64_w, i32_w]
        rfl
      refine take_ (i := 4) (N := some 19) (v := ?_) (a' := ?_) (ratio_Cmp.ups 8 95) rfl rfl (take_ofW HT_.out HW_.out (by kernel_rfl)) (fun _ _ _ h => h) (Or.inl ⟨by rfl, ?_⟩) hHeld ?_ ?_
      rotate_left
      · rintro w' ⟨s0, s1, s2, s3⟩
        go_simp
        with_reducible rfl
      rotate_left
      · simp only [Act.put, List.setIfInBounds_toArray, List.set_cons_zero, List.set_cons_succ, i64_w, i32_w]
        rfl
      refine pure_ (i := 5) (N := some 20) (v := ?_) (a' := ?_) (ratio_Cmp.ups 8 127) rfl rfl (any_of HT_.out (by kernel_rfl)) (fun _ _ _ h => h) (Or.inl ⟨by rfl, ?_⟩) ?_ ?_
      rotate_left
      · intro w'
        go_simp
        with_reducible rfl
      rotate_left
      · simp only [Act.put, List.setIfInBounds_toArray, List.set_cons_zero, List.set_cons_succ, i64_w, i32_w]
        rfl
      refine pure_ (i := 7) (N := some 7) (v := ?_) (a' := ?_) (ratio_Cmp.ups 8 255) rfl rfl (any_of HT_.out (by kernel_rfl)) (fun _ _ _ h => h) (Or.inl ⟨by rfl, ?_⟩) ?_ ?_
      rotate_left
      · intro w'
        go_simp
        with_reducible rfl
      rotate_left
      · simp only [Act.put, List.setIfInBounds_toArray, List.set_cons_zero, List.set_cons_succ, i64_w, i32_w]
        rfl
      refine done_ (done_of HT_.out (by kernel_rfl)) ?_
      try go_wp2_with (first | ((with_reducible refine gate_callee (f := 45) rfl ?_); refine goesL_ (some 23) rfl rfl Try.func45 (by kernel_rfl) rfl #[.int .u64 (IntKind.u64.wrap (a0_1)), .int .u64 (IntKind.u64.wrap (a1_1))] rfl (by (try simp only [List.map_toArray, List.map_cons, List.map_nil]); first | done | rfl) ?_; (with_reducible refine (ratio_Gcd.calls (IntKind.u64.wrap (a0_1)) (IntKind.u64.wrap (a1_1)) t4475 _ A3.out).mono ?_); rintro e w18 ⟨rfl, hb⟩; refine ⟨_, rfl, ?_⟩; have n0_ := Aside0.mk (blk_below BK4472.out hb); have n1_ := Aside0.mk (blk_below BK4473.out hb); have n2_ := Aside0.mk (blk_below BK4474.out hb); have n3_ := Aside0.mk (below_step (by repeat (first | (with_reducible first | exact HB.out | apply below_alloc | apply pw_below_drewN | apply below_drew1 | refine below_set ?_ GE4472.out | refine below_set ?_ GE4473.out | refine below_set ?_ GE4474.out) | exact HB.out)) hb); clear BK4472 BK4473 BK4474 HB; have BK4472 := n0_; have BK4473 := n1_; have BK4474 := n2_; have HB := n3_; clear n0_ n1_ n2_ n3_; (try clear hb)))
      have n0_ := Aside0.mk (blk_drew BK4472.out)
      have n1_ := Aside0.mk (blk_drew BK4473.out)
      have n2_ := Aside0.mk (blk_drew BK4474.out)
      have n3_ := Aside0.mk (below_drew1 HB.out)
      clear BK4472 BK4473 BK4474 HB
      have BK4472 := n0_
      have BK4473 := n1_
      have BK4474 := n2_
      have HB := n3_
      clear n0_ n1_ n2_ n3_
      refine start_ (n := 21) (S := fun w' => w'.cell? ⟨gb4472, 0, none⟩ = some (.int .i64 a0_0) ∧ w'.cell? ⟨gb4472, 1, none⟩ = some (.int .i64 a0_1) ∧ w'.cell? ⟨gb4473, 0, none⟩ = some (.int .i64 a1_0) ∧ w'.cell? ⟨gb4473, 1, none⟩ = some (.int .i64 a1_1)) (ds := []) (ratio_Cmp.ups 21 0) (by kernel_rfl) rfl rfl ⟨(blk_cell BK4472.out 0).trans rfl, (blk_cell BK4472.out 1).trans rfl, (blk_cell BK4473.out 0).trans rfl, (blk_cell BK4473.out 1).trans rfl⟩ (fun hHeld => ?_); refine with_tabW ratio_Add.tab3 ratio_Add.bits3 (fun HT_ HW_ => ?_)
      generalize w18.drew = w19 at BK4472 BK4473 BK4474 HB hHeld ⊢
      refine pure_ (i := 0) (N := some 25) (v := ?_) (a' := ?_) (ratio_Cmp.ups 21 1) rfl rfl (any_of HT_.out (by kernel_rfl)) (fun _ _ _ h => h) (Or.inl ⟨by rfl, ?_⟩) ?_ ?_
      rotate_left
      · intro w'
        go_simp
        with_reducible rfl
      rotate_left
      · simp only [Act.put, List.setIfInBounds_toArray, List.set_cons_zero, List.set_cons_succ, i64_w, i32_w]
        rfl
      refine pure_ (i := 3) (N := some 28) (v := ?_) (a' := ?_) (ratio_Cmp.ups 21 9) rfl rfl (any_of HT_.out (by kernel_rfl)) (fun _ _ _ h => h) (Or.inl ⟨by rfl, ?_⟩) ?_ ?_
      rotate_left
      · intro w'
        go_simp
        with_reducible rfl
      rotate_left
      · simp only [Act.put, List.setIfInBounds_toArray, List.set_cons_zero, List.set_cons_succ, i64_w, i32_w]
        rfl
      refine pure_ (i := 4) (N := some 29) (v := ?_) (a' := ?_) (ratio_Cmp.ups 21 25) rfl rfl (any_of HT_.out (by kernel_rfl)) (fun _ _ _ h => h) (Or.inl ⟨by rfl, ?_⟩) ?_ ?_
      rotate_left
      · intro w'
        go_simp
        with_reducible rfl
      rotate_left
      · simp only [Act.put, List.setIfInBounds_toArray, List.set_cons_zero, List.set_cons_succ, i64_w, i32_w]
        rfl
      refine pure_ (i := 5) (N := some 30) (v := ?_) (a' := ?_) (ratio_Cmp.ups 21 57) rfl rfl (any_of HT_.out (by kernel_rfl)) (fun _ _ _ h => h) (Or.inl ⟨by rfl, ?_⟩) ?_ ?_
      rotate_left
      · intro w'
        go_simp
        with_reducible rfl
      rotate_left
      · simp only [Act.put, List.setIfInBounds_toArray, List.set_cons_zero, List.set_cons_succ, i64_w, i32_w]
        rfl
      refine pure_ (i := 7) (N := some 32) (v := ?_) (a' := ?_) (ratio_Cmp.ups 21 185) rfl rfl (any_of HT_.out (by kernel_rfl)) (fun _ _ _ h => h) (Or.inl ⟨by rfl, ?_⟩) ?_ ?_
      rotate_left
      · intro w'
        go_simp
        with_reducible rfl
      rotate_left
      · simp only [Act.put, List.setIfInBounds_toArray, List.set_cons_zero, List.set_cons_succ, i64_w, i32_w]
        rfl
      refine pure_ (i := 10) (N := some 35) (v := ?_) (a' := ?_) (ratio_Cmp.ups 21 1209) rfl rfl (any_of HT_.out (by kernel_rfl)) (fun _ _ _ h => h) (Or.inl ⟨by rfl, ?_⟩) ?_ ?_
      rotate_left
      · intro w'
        go_simp
        with_reducible rfl
      rotate_left
      · simp only [Act.put, List.setIfInBounds_toArray, List.set_cons_zero, List.set_cons_succ, i64_w, i32_w]
        rfl
      refine pure_ (i := 11) (N := some 36) (v := ?_) (a' := ?_) (ratio_Cmp.ups 21 3257) rfl rfl (any_of HT_.out (by kernel_rfl)) (fun _ _ _ h => h) (Or.inl ⟨by rfl, ?_⟩) ?_ ?_
      rotate_left
      · intro w'
        go_simp
        with_reducible rfl
      rotate_left
      · simp only [Act.put, List.setIfInBounds_toArray, List.set_cons_zero, List.set_cons_succ, i64_w, i32_w]
        rfl
      refine pure_ (i := 12) (N := some 37) (v := ?_) (a' := ?_) (ratio_Cmp.ups 21 7353) rfl rfl (any_of HT_.out (by kernel_rfl)) (fun _ _ _ h => h) (Or.inl ⟨by rfl, ?_⟩) ?_ ?_
      rotate_left
      · intro w'
        go_simp
        with_reducible rfl
      rotate_left
      · simp only [Act.put, List.setIfInBounds_toArray, List.set_cons_zero, List.set_cons_succ, i64_w, i32_w]
        rfl
      refine take_ (i := 1) (N := some 26) (v := ?_) (a' := ?_) (ratio_Cmp.ups 21 7355) rfl rfl (take_ofW HT_.out HW_.out (by kernel_rfl)) (fun _ _ _ h => h) (Or.inl ⟨by rfl, ?_⟩) hHeld ?_ ?_
      rotate_left
      · rintro w' ⟨s0, s1, s2, s3⟩
        go_simp
        with_reducible rfl
      rotate_left
      · simp only [Act.put, List.setIfInBounds_toArray, List.set_cons_zero, List.set_cons_succ, i64_w, i32_w]
        rfl
      refine pure_ (i := 2) (N := some 27) (v := ?_) (a' := ?_) (ratio_Cmp.ups 21 7359) rfl rfl (any_of HT_.out (by kernel_rfl)) (fun _ _ _ h => h) (Or.inl ⟨by rfl, ?_⟩) ?_ ?_
      rotate_left
      · intro w'
        go_simp
        with_reducible rfl
      rotate_left
      · simp only [Act.put, List.setIfInBounds_toArray, List.set_cons_zero, List.set_cons_succ, i64_w, i32_w]
        rfl
      refine take_ (i := 8) (N := some 33) (v := ?_) (a' := ?_) (ratio_Cmp.ups 21 7615) rfl rfl (take_ofW HT_.out HW_.out (by kernel_rfl)) (fun _ _ _ h => h) (Or.inl ⟨by rfl, ?_⟩) hHeld ?_ ?_
      rotate_left
      · rintro w' ⟨s0, s1, s2, s3⟩
        go_simp
        with_reducible rfl
      rotate_left
      · simp only [Act.put, List.setIfInBounds_toArray, List.set_cons_zero, List.set_cons_succ, i64_w, i32_w]
        rfl
      refine pure_ (i := 9) (N := some 34) (v := ?_) (a' := ?_) (ratio_Cmp.ups 21 8127) rfl rfl (any_of HT_.out (by kernel_rfl)) (fun _ _ _ h => h) (Or.inl ⟨by rfl, ?_⟩) ?_ ?_
      rotate_left
      · intro w'
        go_simp
        with_reducible rfl
      rotate_left
      · simp only [Act.put, List.setIfInBounds_toArray, List.set_cons_zero, List.set_cons_succ, i64_w, i32_w]
        rfl
      refine join_ (σ := Nat) 2 (ratio_Cmp.ups 21 524287) (fun s_ => [(31, .agg #[.int .u64 t4476, .int .u64 t4477]), (38, .agg #[.int .u64 t4478, .int .u64 t4479]), (39, .tuple #[.agg #[.int .u64 t4480, .int .u64 t4481], .int .i64 t4482]), (9, .pointer (some ⟨s_, 0, none⟩)), (24, .tuple #[.agg #[.int .u64 t4480, .int .u64 t4481], .int .i64 t4482]), (40, .agg #[.int .u64 t4480, .int .u64 t4481]), (41, .int .i64 t4482)]) (fun s_ w' => (w'.cell? ⟨gb4472, 0, none⟩ = some (.int .i64 a0_0) ∧ w'.cell? ⟨gb4472, 1, none⟩ = some (.int .i64 a0_1) ∧ w'.cell? ⟨gb4473, 0, none⟩ = some (.int .i64 a1_0) ∧ w'.cell? ⟨gb4473, 1, none⟩ = some (.int .i64 a1_1)) ∧ (w'.heap[gb4472]? = some (.cells #[.int .i64 a0_0, .int .i64 a0_1] 57 (0, 0))) ∧ (w'.heap[gb4473]? = some (.cells #[.int .i64 a1_0, .int .i64 a1_1] 57 (0, 0))) ∧ (w'.heap[gb4474]? = some (.cells #[.int .i64 0, .int .i64 0] 57 (0, 0))) ∧ (w'.heap[s_]? = some (.cells #[.int .u64 0, .int .u64 0] 24 (0, 0))) ∧ (w.heap.size ≤ s_) ∧ (w.heap.size ≤ s_) ∧ (gb4472 ≠ s_) ∧ (s_ ≠ gb4472) ∧ (gb4473 ≠ s_) ∧ (s_ ≠ gb4473) ∧ (gb4474 ≠ s_) ∧ (s_ ≠ gb4474) ∧ (Below w.heap.size w w')) ?_ ?_
      rotate_left
      · intro hCont
        refine two_ (i := 6) (j := 18) (Ni := some 31) (Nj := some 9) (ratio_Cmp.ups 21 8191) (ratio_Cmp.ups 21 270271) rfl rfl rfl rfl (two_of HT_.out (by kernel_rfl)) (by decide) (by decide) (fun K hK => ?_) (fun K hK => ?_)
        · skip
          refine goes_ Try.func34 (by kernel_rfl) rfl #[.int .u64 (IntKind.u64.wrap (a0_0)), .int .u64 (IntKind.u64.wrap (Int.tdiv (IntKind.u64.wrap (a1_1)) t4475))] (by rfl) rfl rfl (by (try simp only [List.map_toArray, List.map_cons, List.map_nil]); first | done | rfl) ?_
          with_reducible refine (wide_Mul.calls (IntKind.u64.wrap (a0_0)) (IntKind.u64.wrap (Int.tdiv (IntKind.u64.wrap (a1_1)) t4475)) t4476 t4477 _ A5.out).mono ?_
          rintro e w20 ⟨rfl, hb⟩
          refine ⟨_, rfl, ?_⟩
          have n0_ := Aside0.mk (blk_below BK4472.out hb)
          have n1_ := Aside0.mk (blk_below BK4473.out hb)
          have n2_ := Aside0.mk (blk_below BK4474.out hb)
          have n3_ := Aside0.mk (below_step (by repeat (first | (with_reducible first | exact HB.out | apply below_alloc | apply pw_below_drewN | apply below_drew1 | refine below_set ?_ GE4472.out | refine below_set ?_ GE4473.out | refine below_set ?_ GE4474.out) | exact HB.out)) hb)
          clear BK4472 BK4473 BK4474 HB
          have BK4472 := n0_
          have BK4473 := n1_
          have BK4474 := n2_
          have HB := n3_
          clear n0_ n1_ n2_ n3_
          (try clear hb)
          (try clear hb2)
          (try clear hk)
          (try clear hi)
          refine hK.out _ _ ⟨(blk_cell BK4472.out 0).trans rfl, (blk_cell BK4472.out 1).trans rfl, (blk_cell BK4473.out 0).trans rfl, (blk_cell BK4473.out 1).trans rfl⟩ (fun hHeld => ?_)
          clear hK K
          refine norm_ (a' := ?_) ?_ ?_
          rotate_left
          · show Act.put _ (some 31) _ = _
            simp only [Act.put, List.setIfInBounds_toArray, List.set_cons_zero, List.set_cons_succ, i64_w, i32_w]
            rfl
          refine two_ (i := 13) (j := 18) (Ni := some 38) (Nj := some 9) (ratio_Cmp.ups 21 16383) (ratio_Cmp.ups 21 270335) rfl rfl rfl rfl (two_of HT_.out (by kernel_rfl)) (by decide) (by decide) (fun K hK => ?_) (fun K hK => ?_)
          · skip
            refine goes_ Try.func34 (by kernel_rfl) rfl #[.int .u64 (IntKind.u64.wrap (a1_0)), .int .u64 (IntKind.u64.wrap (Int.tdiv (IntKind.u64.wrap (a0_1)) t4475))] (by rfl) rfl rfl (by (try simp only [List.map_toArray, List.map_cons, List.map_nil]); first | done | rfl) ?_
            with_reducible refine (wide_Mul.calls (IntKind.u64.wrap (a1_0)) (IntKind.u64.wrap (Int.tdiv (IntKind.u64.wrap (a0_1)) t4475)) t4478 t4479 _ A6.out).mono ?_
            rintro e w21 ⟨rfl, hb⟩
            refine ⟨_, rfl, ?_⟩
            have n0_ := Aside0.mk (blk_below BK4472.out hb)
            have n1_ := Aside0.mk (blk_below BK4473.out hb)
            have n2_ := Aside0.mk (blk_below BK4474.out hb)
            have n3_ := Aside0.mk (below_step (by repeat (first | (with_reducible first | exact HB.out | apply below_alloc | apply pw_below_drewN | apply below_drew1 | refine below_set ?_ GE4472.out | refine below_set ?_ GE4473.out | refine below_set ?_ GE4474.out) | exact HB.out)) hb)
            clear BK4472 BK4473 BK4474 HB
            have BK4472 := n0_
            have BK4473 := n1_
            have BK4474 := n2_
            have HB := n3_
            clear n0_ n1_ n2_ n3_
            (try clear hb)
            (try clear hb2)
            (try clear hk)
            (try clear hi)
            refine hK.out _ _ ⟨(blk_cell BK4472.out 0).trans rfl, (blk_cell BK4472.out 1).trans rfl, (blk_cell BK4473.out 0).trans rfl, (blk_cell BK4473.out 1).trans rfl⟩ (fun hHeld => ?_)
            clear hK K
            refine norm_ (a' := ?_) ?_ ?_
            rotate_left
            · show Act.put _ (some 38) _ = _
              simp only [Act.put, List.setIfInBounds_toArray, List.set_cons_zero, List.set_cons_succ, i64_w, i32_w]
              rfl
            refine two_ (i := 14) (j := 18) (Ni := some 39) (Nj := some 9) (ratio_Cmp.ups 21 32767) (ratio_Cmp.ups 21 278527) rfl rfl rfl rfl (two_of HT_.out (by kernel_rfl)) (by decide) (by decide) (fun K hK => ?_) (fun K hK => ?_)
            · skip
              refine goes_ Try.func27 (by kernel_rfl) rfl #[.agg #[.int .u64 t4476, .int .u64 t4477], .agg #[.int .u64 t4478, .int .u64 t4479]] (by rfl) rfl rfl (by (try simp only [List.map_toArray, List.map_cons, List.map_nil]); first | done | rfl) ?_
              with_reducible refine (wide_Add.calls t4476 t4477 t4478 t4479 t4480 t4481 t4482 _ A7.out).mono ?_
              rintro e w22 ⟨rfl, hb⟩
              refine ⟨_, rfl, ?_⟩
              have n0_ := Aside0.mk (blk_below BK4472.out hb)
              have n1_ := Aside0.mk (blk_below BK4473.out hb)
              have n2_ := Aside0.mk (blk_below BK4474.out hb)
              have n3_ := Aside0.mk (below_step (by repeat (first | (with_reducible first | exact HB.out | apply below_alloc | apply pw_below_drewN | apply below_drew1 | refine below_set ?_ GE4472.out | refine below_set ?_ GE4473.out | refine below_set ?_ GE4474.out) | exact HB.out)) hb)
              clear BK4472 BK4473 BK4474 HB
              have BK4472 := n0_
              have BK4473 := n1_
              have BK4474 := n2_
              have HB := n3_
              clear n0_ n1_ n2_ n3_
              (try clear hb)
              (try clear hb2)
              (try clear hk)
              (try clear hi)
              refine hK.out _ _ ⟨(blk_cell BK4472.out 0).trans rfl, (blk_cell BK4472.out 1).trans rfl, (blk_cell BK4473.out 0).trans rfl, (blk_cell BK4473.out 1).trans rfl⟩ (fun hHeld => ?_)
              clear hK K
              refine norm_ (a' := ?_) ?_ ?_
              rotate_left
              · show Act.put _ (some 39) _ = _
                simp only [Act.put, List.setIfInBounds_toArray, List.set_cons_zero, List.set_cons_succ, i64_w, i32_w]
                rfl
              refine pure_ (i := 15) (N := some 24) (v := ?_) (a' := ?_) (ratio_Cmp.ups 21 65535) rfl rfl (any_of HT_.out (by kernel_rfl)) (fun _ _ _ h => h) (Or.inl ⟨by rfl, ?_⟩) ?_ ?_
              rotate_left
              · intro w'
                go_simp
                with_reducible rfl
              rotate_left
              · simp only [Act.put, List.setIfInBounds_toArray, List.set_cons_zero, List.set_cons_succ, i64_w, i32_w]
                rfl
              refine pure_ (i := 16) (N := some 40) (v := ?_) (a' := ?_) (ratio_Cmp.ups 21 131071) rfl rfl (any_of HT_.out (by kernel_rfl)) (fun _ _ _ h => h) (Or.inl ⟨by rfl, ?_⟩) ?_ ?_
              rotate_left
              · intro w'
                go_simp
                with_reducible rfl
              rotate_left
              · simp only [Act.put, List.setIfInBounds_toArray, List.set_cons_zero, List.set_cons_succ, i64_w, i32_w]
                rfl
              refine pure_ (i := 17) (N := some 41) (v := ?_) (a' := ?_) (ratio_Cmp.ups 21 262143) rfl rfl (any_of HT_.out (by kernel_rfl)) (fun _ _ _ h => h) (Or.inl ⟨by rfl, ?_⟩) ?_ ?_
              rotate_left
              · intro w'
                go_simp
                with_reducible rfl
              rotate_left
              · simp only [Act.put, List.setIfInBounds_toArray, List.set_cons_zero, List.set_cons_succ, i64_w, i32_w]
                rfl
              refine one_ (i := 18) (N := some 9) (ratio_Cmp.ups 21 524287) rfl rfl (one_of HT_.out (by kernel_rfl)) (by decide) (fun K hK => ?_)
              refine box_step ?hg (N := 9) ?hd (cs := #[.int .u64 0, .int .u64 0]) (t := 24) ?hr ?_; (case hd => rfl); (case hg => rfl); (case hr => go_simp)
              intro gb4483 hg w23 hbox hb
              have n0_ := Aside0.mk (blk_below BK4472.out hb)
              have n1_ := Aside0.mk (blk_below BK4473.out hb)
              have n2_ := Aside0.mk (blk_below BK4474.out hb)
              have n3_ := Aside0.mk (below_step (by repeat (first | (with_reducible first | exact HB.out | apply below_alloc | apply pw_below_drewN | apply below_drew1 | refine below_set ?_ GE4472.out | refine below_set ?_ GE4473.out | refine below_set ?_ GE4474.out) | exact HB.out)) hb)
              have n4_ := Aside0.mk (hbox)
              have n5_ := Aside0.mk ((by rw [hg]; exact (below_size (by repeat (first | (with_reducible first | exact HB.out | apply below_alloc | apply pw_below_drewN | apply below_drew1 | refine below_set ?_ GE4472.out | refine below_set ?_ GE4473.out | refine below_set ?_ GE4474.out) | exact HB.out))) : w.heap.size ≤ gb4483))
              have n6_ := Aside0.mk ((by rw [hg]; exact (below_size (by repeat (first | (with_reducible first | exact HB.out | apply below_alloc | apply pw_below_drewN | apply below_drew1 | refine below_set ?_ GE4472.out | refine below_set ?_ GE4473.out | refine below_set ?_ GE4474.out) | exact HB.out))) : w.heap.size ≤ gb4483))
              have n7_ := Aside0.mk ((by rw [hg]; exact Nat.ne_of_lt (blk_lt (g := gb4472) (o := .cells #[.int .i64 a0_0, .int .i64 a0_1] 57 (0, 0)) BK4472.out) : gb4472 ≠ gb4483))
              have n8_ := Aside0.mk ((by rw [hg]; exact Nat.ne_of_gt (blk_lt (g := gb4472) (o := .cells #[.int .i64 a0_0, .int .i64 a0_1] 57 (0, 0)) BK4472.out) : gb4483 ≠ gb4472))
              have n9_ := Aside0.mk ((by rw [hg]; exact Nat.ne_of_lt (blk_lt (g := gb4473) (o := .cells #[.int .i64 a1_0, .int .i64 a1_1] 57 (0, 0)) BK4473.out) : gb4473 ≠ gb4483))
              have n10_ := Aside0.mk ((by rw [hg]; exact Nat.ne_of_gt (blk_lt (g := gb4473) (o := .cells #[.int .i64 a1_0, .int .i64 a1_1] 57 (0, 0)) BK4473.out) : gb4483 ≠ gb4473))
              have n11_ := Aside0.mk ((by rw [hg]; exact Nat.ne_of_lt (blk_lt (g := gb4474) (o := .cells #[.int .i64 0, .int .i64 0] 57 (0, 0)) BK4474.out) : gb4474 ≠ gb4483))
              have n12_ := Aside0.mk ((by rw [hg]; exact Nat.ne_of_gt (blk_lt (g := gb4474) (o := .cells #[.int .i64 0, .int .i64 0] 57 (0, 0)) BK4474.out) : gb4483 ≠ gb4474))
              clear BK4472 BK4473 BK4474 HB
              have BK4472 := n0_
              have BK4473 := n1_
              have BK4474 := n2_
              have HB := n3_
              have BK4483 := n4_
              have GW4483 := n5_
              have GE4483 := n6_
              have NB4472_4483 := n7_
              have NB4483_4472 := n8_
              have NB4473_4483 := n9_
              have NB4483_4473 := n10_
              have NB4474_4483 := n11_
              have NB4483_4474 := n12_
              clear n0_ n1_ n2_ n3_ n4_ n5_ n6_ n7_ n8_ n9_ n10_ n11_ n12_ hb hbox hg
              refine hK.out _ _ ⟨(blk_cell BK4472.out 0).trans rfl, (blk_cell BK4472.out 1).trans rfl, (blk_cell BK4473.out 0).trans rfl, (blk_cell BK4473.out 1).trans rfl⟩ (fun hHeld => ?_)
              clear hK K
              refine norm_ (a' := ?_) ?_ ?_
              rotate_left
              · show Act.put _ (some 9) _ = _
                simp only [Act.put, List.setIfInBounds_toArray, List.set_cons_zero, List.set_cons_succ, i64_w, i32_w]
                rfl
              exact norm_ (by simp only [putAll, Act.put, List.setIfInBounds_toArray, List.set_cons_zero, List.set_cons_succ]) (hCont (gb4483) _ ⟨hHeld, BK4472.out, BK4473.out, BK4474.out, BK4483.out, GW4483.out, GE4483.out, NB4472_4483.out, NB4483_4472.out, NB4473_4483.out, NB4483_4473.out, NB4474_4483.out, NB4483_4474.out, (by repeat (first | (with_reducible first | exact HB.out | apply below_alloc | apply pw_below_drewN | apply below_drew1 | refine below_set ?_ GE4472.out | refine below_set ?_ GE4473.out | refine below_set ?_ GE4474.out | refine below_set ?_ GE4483.out) | exact HB.out))⟩)
            · skip
              refine box_step ?hg (N := 9) ?hd (cs := #[.int .u64 0, .int .u64 0]) (t := 24) ?hr ?_; (case hd => rfl); (case hg => rfl); (case hr => go_simp)
              intro gb4483 hg w22 hbox hb
              have n0_ := Aside0.mk (blk_below BK4472.out hb)
              have n1_ := Aside0.mk (blk_below BK4473.out hb)
              have n2_ := Aside0.mk (blk_below BK4474.out hb)
              have n3_ := Aside0.mk (below_step (by repeat (first | (with_reducible first | exact HB.out | apply below_alloc | apply pw_below_drewN | apply below_drew1 | refine below_set ?_ GE4472.out | refine below_set ?_ GE4473.out | refine below_set ?_ GE4474.out) | exact HB.out)) hb)
              have n4_ := Aside0.mk (hbox)
              have n5_ := Aside0.mk ((by rw [hg]; exact (below_size (by repeat (first | (with_reducible first | exact HB.out | apply below_alloc | apply pw_below_drewN | apply below_drew1 | refine below_set ?_ GE4472.out | refine below_set ?_ GE4473.out | refine below_set ?_ GE4474.out) | exact HB.out))) : w.heap.size ≤ gb4483))
              have n6_ := Aside0.mk ((by rw [hg]; exact (below_size (by repeat (first | (with_reducible first | exact HB.out | apply below_alloc | apply pw_below_drewN | apply below_drew1 | refine below_set ?_ GE4472.out | refine below_set ?_ GE4473.out | refine below_set ?_ GE4474.out) | exact HB.out))) : w.heap.size ≤ gb4483))
              have n7_ := Aside0.mk ((by rw [hg]; exact Nat.ne_of_lt (blk_lt (g := gb4472) (o := .cells #[.int .i64 a0_0, .int .i64 a0_1] 57 (0, 0)) BK4472.out) : gb4472 ≠ gb4483))
              have n8_ := Aside0.mk ((by rw [hg]; exact Nat.ne_of_gt (blk_lt (g := gb4472) (o := .cells #[.int .i64 a0_0, .int .i64 a0_1] 57 (0, 0)) BK4472.out) : gb4483 ≠ gb4472))
              have n9_ := Aside0.mk ((by rw [hg]; exact Nat.ne_of_lt (blk_lt (g := gb4473) (o := .cells #[.int .i64 a1_0, .int .i64 a1_1] 57 (0, 0)) BK4473.out) : gb4473 ≠ gb4483))
              have n10_ := Aside0.mk ((by rw [hg]; exact Nat.ne_of_gt (blk_lt (g := gb4473) (o := .cells #[.int .i64 a1_0, .int .i64 a1_1] 57 (0, 0)) BK4473.out) : gb4483 ≠ gb4473))
              have n11_ := Aside0.mk ((by rw [hg]; exact Nat.ne_of_lt (blk_lt (g := gb4474) (o := .cells #[.int .i64 0, .int .i64 0] 57 (0, 0)) BK4474.out) : gb4474 ≠ gb4483))
              have n12_ := Aside0.mk ((by rw [hg]; exact Nat.ne_of_gt (blk_lt (g := gb4474) (o := .cells #[.int .i64 0, .int .i64 0] 57 (0, 0)) BK4474.out) : gb4483 ≠ gb4474))
              clear BK4472 BK4473 BK4474 HB
              have BK4472 := n0_
              have BK4473 := n1_
              have BK4474 := n2_
              have HB := n3_
              have BK4483 := n4_
              have GW4483 := n5_
              have GE4483 := n6_
              have NB4472_4483 := n7_
              have NB4483_4472 := n8_
              have NB4473_4483 := n9_
              have NB4483_4473 := n10_
              have NB4474_4483 := n11_
              have NB4483_4474 := n12_
              clear n0_ n1_ n2_ n3_ n4_ n5_ n6_ n7_ n8_ n9_ n10_ n11_ n12_ hb hbox hg
              refine hK.out _ _ ⟨(blk_cell BK4472.out 0).trans rfl, (blk_cell BK4472.out 1).trans rfl, (blk_cell BK4473.out 0).trans rfl, (blk_cell BK4473.out 1).trans rfl⟩ (fun hHeld => ?_)
              clear hK K
              refine norm_ (a' := ?_) ?_ ?_
              rotate_left
              · show Act.put _ (some 9) _ = _
                simp only [Act.put, List.setIfInBounds_toArray, List.set_cons_zero, List.set_cons_succ, i64_w, i32_w]
                rfl
              refine one_ (i := 14) (N := some 39) (ratio_Cmp.ups 21 294911) rfl rfl (one_of HT_.out (by kernel_rfl)) (by decide) (fun K hK => ?_)
              refine goes_ Try.func27 (by kernel_rfl) rfl #[.agg #[.int .u64 t4476, .int .u64 t4477], .agg #[.int .u64 t4478, .int .u64 t4479]] (by rfl) rfl rfl (by (try simp only [List.map_toArray, List.map_cons, List.map_nil]); first | done | rfl) ?_
              with_reducible refine (wide_Add.calls t4476 t4477 t4478 t4479 t4480 t4481 t4482 _ A7.out).mono ?_
              rintro e w23 ⟨rfl, hb⟩
              refine ⟨_, rfl, ?_⟩
              have n0_ := Aside0.mk (blk_below BK4472.out hb)
              have n1_ := Aside0.mk (blk_below BK4473.out hb)
              have n2_ := Aside0.mk (blk_below BK4474.out hb)
              have n3_ := Aside0.mk (blk_below BK4483.out hb)
              have n4_ := Aside0.mk (below_step (by repeat (first | (with_reducible first | exact HB.out | apply below_alloc | apply pw_below_drewN | apply below_drew1 | refine below_set ?_ GE4472.out | refine below_set ?_ GE4473.out | refine below_set ?_ GE4474.out | refine below_set ?_ GE4483.out) | exact HB.out)) hb)
              clear BK4472 BK4473 BK4474 BK4483 HB
              have BK4472 := n0_
              have BK4473 := n1_
              have BK4474 := n2_
              have BK4483 := n3_
              have HB := n4_
              clear n0_ n1_ n2_ n3_ n4_
              (try clear hb)
              (try clear hb2)
              (try clear hk)
              (try clear hi)
              refine hK.out _ _ ⟨(blk_cell BK4472.out 0).trans rfl, (blk_cell BK4472.out 1).trans rfl, (blk_cell BK4473.out 0).trans rfl, (blk_cell BK4473.out 1).trans rfl⟩ (fun hHeld => ?_)
              clear hK K
              refine norm_ (a' := ?_) ?_ ?_
              rotate_left
              · show Act.put _ (some 39) _ = _
                simp only [Act.put, List.setIfInBounds_toArray, List.set_cons_zero, List.set_cons_succ, i64_w, i32_w]
                rfl
              refine pure_ (i := 15) (N := some 24) (v := ?_) (a' := ?_) (ratio_Cmp.ups 21 327679) rfl rfl (any_of HT_.out (by kernel_rfl)) (fun _ _ _ h => h) (Or.inl ⟨by rfl, ?_⟩) ?_ ?_
              rotate_left
              · intro w'
                go_simp
                with_reducible rfl
              rotate_left
              · simp only [Act.put, List.setIfInBounds_toArray, List.set_cons_zero, List.set_cons_succ, i64_w, i32_w]
                rfl
              refine pure_ (i := 16) (N := some 40) (v := ?_) (a' := ?_) (ratio_Cmp.ups 21 393215) rfl rfl (any_of HT_.out (by kernel_rfl)) (fun _ _ _ h => h) (Or.inl ⟨by rfl, ?_⟩) ?_ ?_
              rotate_left
              · intro w'
                go_simp
                with_reducible rfl
              rotate_left
              · simp only [Act.put, List.setIfInBounds_toArray, List.set_cons_zero, List.set_cons_succ, i64_w, i32_w]
                rfl
              refine pure_ (i := 17) (N := some 41) (v := ?_) (a' := ?_) (ratio_Cmp.ups 21 524287) rfl rfl (any_of HT_.out (by kernel_rfl)) (fun _ _ _ h => h) (Or.inl ⟨by rfl, ?_⟩) ?_ ?_
              rotate_left
              · intro w'
                go_simp
                with_reducible rfl
              rotate_left
              · simp only [Act.put, List.setIfInBounds_toArray, List.set_cons_zero, List.set_cons_succ, i64_w, i32_w]
                rfl
              exact norm_ (by simp only [putAll, Act.put, List.setIfInBounds_toArray, List.set_cons_zero, List.set_cons_succ]) (hCont (gb4483) _ ⟨hHeld, BK4472.out, BK4473.out, BK4474.out, BK4483.out, GW4483.out, GE4483.out, NB4472_4483.out, NB4483_4472.out, NB4473_4483.out, NB4483_4473.out, NB4474_4483.out, NB4483_4474.out, (by repeat (first | (with_reducible first | exact HB.out | apply below_alloc | apply pw_below_drewN | apply below_drew1 | refine below_set ?_ GE4472.out | refine below_set ?_ GE4473.out | refine below_set ?_ GE4474.out | refine below_set ?_ GE4483.out) | exact HB.out))⟩)
          · skip
            refine box_step ?hg (N := 9) ?hd (cs := #[.int .u64 0, .int .u64 0]) (t := 24) ?hr ?_; (case hd => rfl); (case hg => rfl); (case hr => go_simp)
            intro gb4483 hg w21 hbox hb
            have n0_ := Aside0.mk (blk_below BK4472.out hb)
            have n1_ := Aside0.mk (blk_below BK4473.out hb)
            have n2_ := Aside0.mk (blk_below BK4474.out hb)
            have n3_ := Aside0.mk (below_step (by repeat (first | (with_reducible first | exact HB.out | apply below_alloc | apply pw_below_drewN | apply below_drew1 | refine below_set ?_ GE4472.out | refine below_set ?_ GE4473.out | refine below_set ?_ GE4474.out) | exact HB.out)) hb)
            have n4_ := Aside0.mk (hbox)
            have n5_ := Aside0.mk ((by rw [hg]; exact (below_size (by repeat (first | (with_reducible first | exact HB.out | apply below_alloc | apply pw_below_drewN | apply below_drew1 | refine below_set ?_ GE4472.out | refine below_set ?_ GE4473.out | refine below_set ?_ GE4474.out) | exact HB.out))) : w.heap.size ≤ gb4483))
            have n6_ := Aside0.mk ((by rw [hg]; exact (below_size (by repeat (first | (with_reducible first | exact HB.out | apply below_alloc | apply pw_below_drewN | apply below_drew1 | refine below_set ?_ GE4472.out | refine below_set ?_ GE4473.out | refine below_set ?_ GE4474.out) | exact HB.out))) : w.heap.size ≤ gb4483))
            have n7_ := Aside0.mk ((by rw [hg]; exact Nat.ne_of_lt (blk_lt (g := gb4472) (o := .cells #[.int .i64 a0_0, .int .i64 a0_1] 57 (0, 0)) BK4472.out) : gb4472 ≠ gb4483))
            have n8_ := Aside0.mk ((by rw [hg]; exact Nat.ne_of_gt (blk_lt (g := gb4472) (o := .cells #[.int .i64 a0_0, .int .i64 a0_1] 57 (0, 0)) BK4472.out) : gb4483 ≠ gb4472))
            have n9_ := Aside0.mk ((by rw [hg]; exact Nat.ne_of_lt (blk_lt (g := gb4473) (o := .cells #[.int .i64 a1_0, .int .i64 a1_1] 57 (0, 0)) BK4473.out) : gb4473 ≠ gb4483))
            have n10_ := Aside0.mk ((by rw [hg]; exact Nat.ne_of_gt (blk_lt (g := gb4473) (o := .cells #[.int .i64 a1_0, .int .i64 a1_1] 57 (0, 0)) BK4473.out) : gb4483 ≠ gb4473))
            have n11_ := Aside0.mk ((by rw [hg]; exact Nat.ne_of_lt (blk_lt (g := gb4474) (o := .cells #[.int .i64 0, .int .i64 0] 57 (0, 0)) BK4474.out) : gb4474 ≠ gb4483))
            have n12_ := Aside0.mk ((by rw [hg]; exact Nat.ne_of_gt (blk_lt (g := gb4474) (o := .cells #[.int .i64 0, .int .i64 0] 57 (0, 0)) BK4474.out) : gb4483 ≠ gb4474))
            clear BK4472 BK4473 BK4474 HB
            have BK4472 := n0_
            have BK4473 := n1_
            have BK4474 := n2_
            have HB := n3_
            have BK4483 := n4_
            have GW4483 := n5_
            have GE4483 := n6_
            have NB4472_4483 := n7_
            have NB4483_4472 := n8_
            have NB4473_4483 := n9_
            have NB4483_4473 := n10_
            have NB4474_4483 := n11_
            have NB4483_4474 := n12_
            clear n0_ n1_ n2_ n3_ n4_ n5_ n6_ n7_ n8_ n9_ n10_ n11_ n12_ hb hbox hg
            refine hK.out _ _ ⟨(blk_cell BK4472.out 0).trans rfl, (blk_cell BK4472.out 1).trans rfl, (blk_cell BK4473.out 0).trans rfl, (blk_cell BK4473.out 1).trans rfl⟩ (fun hHeld => ?_)
            clear hK K
            refine norm_ (a' := ?_) ?_ ?_
            rotate_left
            · show Act.put _ (some 9) _ = _
              simp only [Act.put, List.setIfInBounds_toArray, List.set_cons_zero, List.set_cons_succ, i64_w, i32_w]
              rfl
            refine one_ (i := 13) (N := some 38) (ratio_Cmp.ups 21 278527) rfl rfl (one_of HT_.out (by kernel_rfl)) (by decide) (fun K hK => ?_)
            refine goes_ Try.func34 (by kernel_rfl) rfl #[.int .u64 (IntKind.u64.wrap (a1_0)), .int .u64 (IntKind.u64.wrap (Int.tdiv (IntKind.u64.wrap (a0_1)) t4475))] (by rfl) rfl rfl (by (try simp only [List.map_toArray, List.map_cons, List.map_nil]); first | done | rfl) ?_
            with_reducible refine (wide_Mul.calls (IntKind.u64.wrap (a1_0)) (IntKind.u64.wrap (Int.tdiv (IntKind.u64.wrap (a0_1)) t4475)) t4478 t4479 _ A6.out).mono ?_
            rintro e w22 ⟨rfl, hb⟩
            refine ⟨_, rfl, ?_⟩
            have n0_ := Aside0.mk (blk_below BK4472.out hb)
            have n1_ := Aside0.mk (blk_below BK4473.out hb)
            have n2_ := Aside0.mk (blk_below BK4474.out hb)
            have n3_ := Aside0.mk (blk_below BK4483.out hb)
            have n4_ := Aside0.mk (below_step (by repeat (first | (with_reducible first | exact HB.out | apply below_alloc | apply pw_below_drewN | apply below_drew1 | refine below_set ?_ GE4472.out | refine below_set ?_ GE4473.out | refine below_set ?_ GE4474.out | refine below_set ?_ GE4483.out) | exact HB.out)) hb)
            clear BK4472 BK4473 BK4474 BK4483 HB
            have BK4472 := n0_
            have BK4473 := n1_
            have BK4474 := n2_
            have BK4483 := n3_
            have HB := n4_
            clear n0_ n1_ n2_ n3_ n4_
            (try clear hb)
            (try clear hb2)
            (try clear hk)
            (try clear hi)
            refine hK.out _ _ ⟨(blk_cell BK4472.out 0).trans rfl, (blk_cell BK4472.out 1).trans rfl, (blk_cell BK4473.out 0).trans rfl, (blk_cell BK4473.out 1).trans rfl⟩ (fun hHeld => ?_)
            clear hK K
            refine norm_ (a' := ?_) ?_ ?_
            rotate_left
            · show Act.put _ (some 38) _ = _
              simp only [Act.put, List.setIfInBounds_toArray, List.set_cons_zero, List.set_cons_succ, i64_w, i32_w]
              rfl
            refine one_ (i := 14) (N := some 39) (ratio_Cmp.ups 21 294911) rfl rfl (one_of HT_.out (by kernel_rfl)) (by decide) (fun K hK => ?_)
            refine goes_ Try.func27 (by kernel_rfl) rfl #[.agg #[.int .u64 t4476, .int .u64 t4477], .agg #[.int .u64 t4478, .int .u64 t4479]] (by rfl) rfl rfl (by (try simp only [List.map_toArray, List.map_cons, List.map_nil]); first | done | rfl) ?_
            with_reducible refine (wide_Add.calls t4476 t4477 t4478 t4479 t4480 t4481 t4482 _ A7.out).mono ?_
            rintro e w23 ⟨rfl, hb⟩
            refine ⟨_, rfl, ?_⟩
            have n0_ := Aside0.mk (blk_below BK4472.out hb)
            have n1_ := Aside0.mk (blk_below BK4473.out hb)
            have n2_ := Aside0.mk (blk_below BK4474.out hb)
            have n3_ := Aside0.mk (blk_below BK4483.out hb)
            have n4_ := Aside0.mk (below_step (by repeat (first | (with_reducible first | exact HB.out | apply below_alloc | apply pw_below_drewN | apply below_drew1 | refine below_set ?_ GE4472.out | refine below_set ?_ GE4473.out | refine below_set ?_ GE4474.out | refine below_set ?_ GE4483.out) | exact HB.out)) hb)
            clear BK4472 BK4473 BK4474 BK4483 HB
            have BK4472 := n0_
            have BK4473 := n1_
            have BK4474 := n2_
            have BK4483 := n3_
            have HB := n4_
            clear n0_ n1_ n2_ n3_ n4_
            (try clear hb)
            (try clear hb2)
            (try clear hk)
            (try clear hi)
            refine hK.out _ _ ⟨(blk_cell BK4472.out 0).trans rfl, (blk_cell BK4472.out 1).trans rfl, (blk_cell BK4473.out 0).trans rfl, (blk_cell BK4473.out 1).trans rfl⟩ (fun hHeld => ?_)
            clear hK K
            refine norm_ (a' := ?_) ?_ ?_
            rotate_left
            · show Act.put _ (some 39) _ = _
              simp only [Act.put, List.setIfInBounds_toArray, List.set_cons_zero, List.set_cons_succ, i64_w, i32_w]
              rfl
            refine pure_ (i := 15) (N := some 24) (v := ?_) (a' := ?_) (ratio_Cmp.ups 21 327679) rfl rfl (any_of HT_.out (by kernel_rfl)) (fun _ _ _ h => h) (Or.inl ⟨by rfl, ?_⟩) ?_ ?_
            rotate_left
            · intro w'
              go_simp
              with_reducible rfl
            rotate_left
            · simp only [Act.put, List.setIfInBounds_toArray, List.set_cons_zero, List.set_cons_succ, i64_w, i32_w]
              rfl
            refine pure_ (i := 16) (N := some 40) (v := ?_) (a' := ?_) (ratio_Cmp.ups 21 393215) rfl rfl (any_of HT_.out (by kernel_rfl)) (fun _ _ _ h => h) (Or.inl ⟨by rfl, ?_⟩) ?_ ?_
            rotate_left
            · intro w'
              go_simp
              with_reducible rfl
            rotate_left
            · simp only [Act.put, List.setIfInBounds_toArray, List.set_cons_zero, List.set_cons_succ, i64_w, i32_w]
              rfl
            refine pure_ (i := 17) (N := some 41) (v := ?_) (a' := ?_) (ratio_Cmp.ups 21 524287) rfl rfl (any_of HT_.out (by kernel_rfl)) (fun _ _ _ h => h) (Or.inl ⟨by rfl, ?_⟩) ?_ ?_
            rotate_left
            · intro w'
              go_simp
              with_reducible rfl
            rotate_left
            · simp only [Act.put, List.setIfInBounds_toArray, List.set_cons_zero, List.set_cons_succ, i64_w, i32_w]
              rfl
            exact norm_ (by simp only [putAll, Act.put, List.setIfInBounds_toArray, List.set_cons_zero, List.set_cons_succ]) (hCont (gb4483) _ ⟨hHeld, BK4472.out, BK4473.out, BK4474.out, BK4483.out, GW4483.out, GE4483.out, NB4472_4483.out, NB4483_4472.out, NB4473_4483.out, NB4483_4473.out, NB4474_4483.out, NB4483_4474.out, (by repeat (first | (with_reducible first | exact HB.out | apply below_alloc | apply pw_below_drewN | apply below_drew1 | refine below_set ?_ GE4472.out | refine below_set ?_ GE4473.out | refine below_set ?_ GE4474.out | refine below_set ?_ GE4483.out) | exact HB.out))⟩)
        · skip
          refine box_step ?hg (N := 9) ?hd (cs := #[.int .u64 0, .int .u64 0]) (t := 24) ?hr ?_; (case hd => rfl); (case hg => rfl); (case hr => go_simp)
          intro gb4483 hg w20 hbox hb
          have n0_ := Aside0.mk (blk_below BK4472.out hb)
          have n1_ := Aside0.mk (blk_below BK4473.out hb)
          have n2_ := Aside0.mk (blk_below BK4474.out hb)
          have n3_ := Aside0.mk (below_step (by repeat (first | (with_reducible first | exact HB.out | apply below_alloc | apply pw_below_drewN | apply below_drew1 | refine below_set ?_ GE4472.out | refine below_set ?_ GE4473.out | refine below_set ?_ GE4474.out) | exact HB.out)) hb)
          have n4_ := Aside0.mk (hbox)
          have n5_ := Aside0.mk ((by rw [hg]; exact (below_size (by repeat (first | (with_reducible first | exact HB.out | apply below_alloc | apply pw_below_drewN | apply below_drew1 | refine below_set ?_ GE4472.out | refine below_set ?_ GE4473.out | refine below_set ?_ GE4474.out) | exact HB.out))) : w.heap.size ≤ gb4483))
          have n6_ := Aside0.mk ((by rw [hg]; exact (below_size (by repeat (first | (with_reducible first | exact HB.out | apply below_alloc | apply pw_below_drewN | apply below_drew1 | refine below_set ?_ GE4472.out | refine below_set ?_ GE4473.out | refine below_set ?_ GE4474.out) | exact HB.out))) : w.heap.size ≤ gb4483))
          have n7_ := Aside0.mk ((by rw [hg]; exact Nat.ne_of_lt (blk_lt (g := gb4472) (o := .cells #[.int .i64 a0_0, .int .i64 a0_1] 57 (0, 0)) BK4472.out) : gb4472 ≠ gb4483))
          have n8_ := Aside0.mk ((by rw [hg]; exact Nat.ne_of_gt (blk_lt (g := gb4472) (o := .cells #[.int .i64 a0_0, .int .i64 a0_1] 57 (0, 0)) BK4472.out) : gb4483 ≠ gb4472))
          have n9_ := Aside0.mk ((by rw [hg]; exact Nat.ne_of_lt (blk_lt (g := gb4473) (o := .cells #[.int .i64 a1_0, .int .i64 a1_1] 57 (0, 0)) BK4473.out) : gb4473 ≠ gb4483))
          have n10_ := Aside0.mk ((by rw [hg]; exact Nat.ne_of_gt (blk_lt (g := gb4473) (o := .cells #[.int .i64 a1_0, .int .i64 a1_1] 57 (0, 0)) BK4473.out) : gb4483 ≠ gb4473))
          have n11_ := Aside0.mk ((by rw [hg]; exact Nat.ne_of_lt (blk_lt (g := gb4474) (o := .cells #[.int .i64 0, .int .i64 0] 57 (0, 0)) BK4474.out) : gb4474 ≠ gb4483))
          have n12_ := Aside0.mk ((by rw [hg]; exact Nat.ne_of_gt (blk_lt (g := gb4474) (o := .cells #[.int .i64 0, .int .i64 0] 57 (0, 0)) BK4474.out) : gb4483 ≠ gb4474))
          clear BK4472 BK4473 BK4474 HB
          have BK4472 := n0_
          have BK4473 := n1_
          have BK4474 := n2_
          have HB := n3_
          have BK4483 := n4_
          have GW4483 := n5_
          have GE4483 := n6_
          have NB4472_4483 := n7_
          have NB4483_4472 := n8_
          have NB4473_4483 := n9_
          have NB4483_4473 := n10_
          have NB4474_4483 := n11_
          have NB4483_4474 := n12_
          clear n0_ n1_ n2_ n3_ n4_ n5_ n6_ n7_ n8_ n9_ n10_ n11_ n12_ hb hbox hg
          refine hK.out _ _ ⟨(blk_cell BK4472.out 0).trans rfl, (blk_cell BK4472.out 1).trans rfl, (blk_cell BK4473.out 0).trans rfl, (blk_cell BK4473.out 1).trans rfl⟩ (fun hHeld => ?_)
          clear hK K
          refine norm_ (a' := ?_) ?_ ?_
          rotate_left
          · show Act.put _ (some 9) _ = _
            simp only [Act.put, List.setIfInBounds_toArray, List.set_cons_zero, List.set_cons_succ, i64_w, i32_w]
            rfl
          refine one_ (i := 6) (N := some 31) (ratio_Cmp.ups 21 270335) rfl rfl (one_of HT_.out (by kernel_rfl)) (by decide) (fun K hK => ?_)
          refine goes_ Try.func34 (by kernel_rfl) rfl #[.int .u64 (IntKind.u64.wrap (a0_0)), .int .u64 (IntKind.u64.wrap (Int.tdiv (IntKind.u64.wrap (a1_1)) t4475))] (by rfl) rfl rfl (by (try simp only [List.map_toArray, List.map_cons, List.map_nil]); first | done | rfl) ?_
          with_reducible refine (wide_Mul.calls (IntKind.u64.wrap (a0_0)) (IntKind.u64.wrap (Int.tdiv (IntKind.u64.wrap (a1_1)) t4475)) t4476 t4477 _ A5.out).mono ?_
          rintro e w21 ⟨rfl, hb⟩
          refine ⟨_, rfl, ?_⟩
          have n0_ := Aside0.mk (blk_below BK4472.out hb)
          have n1_ := Aside0.mk (blk_below BK4473.out hb)
          have n2_ := Aside0.mk (blk_below BK4474.out hb)
          have n3_ := Aside0.mk (blk_below BK4483.out hb)
          have n4_ := Aside0.mk (below_step (by repeat (first | (with_reducible first | exact HB.out | apply below_alloc | apply pw_below_drewN | apply below_drew1 | refine below_set ?_ GE4472.out | refine below_set ?_ GE4473.out | refine below_set ?_ GE4474.out | refine below_set ?_ GE4483.out) | exact HB.out)) hb)
          clear BK4472 BK4473 BK4474 BK4483 HB
          have BK4472 := n0_
          have BK4473 := n1_
          have BK4474 := n2_
          have BK4483 := n3_
          have HB := n4_
          clear n0_ n1_ n2_ n3_ n4_
          (try clear hb)
          (try clear hb2)
          (try clear hk)
          (try clear hi)
          refine hK.out _ _ ⟨(blk_cell BK4472.out 0).trans rfl, (blk_cell BK4472.out 1).trans rfl, (blk_cell BK4473.out 0).trans rfl, (blk_cell BK4473.out 1).trans rfl⟩ (fun hHeld => ?_)
          clear hK K
          refine norm_ (a' := ?_) ?_ ?_
          rotate_left
          · show Act.put _ (some 31) _ = _
            simp only [Act.put, List.setIfInBounds_toArray, List.set_cons_zero, List.set_cons_succ, i64_w, i32_w]
            rfl
          refine one_ (i := 13) (N := some 38) (ratio_Cmp.ups 21 278527) rfl rfl (one_of HT_.out (by kernel_rfl)) (by decide) (fun K hK => ?_)
          refine goes_ Try.func34 (by kernel_rfl) rfl #[.int .u64 (IntKind.u64.wrap (a1_0)), .int .u64 (IntKind.u64.wrap (Int.tdiv (IntKind.u64.wrap (a0_1)) t4475))] (by rfl) rfl rfl (by (try simp only [List.map_toArray, List.map_cons, List.map_nil]); first | done | rfl) ?_
          with_reducible refine (wide_Mul.calls (IntKind.u64.wrap (a1_0)) (IntKind.u64.wrap (Int.tdiv (IntKind.u64.wrap (a0_1)) t4475)) t4478 t4479 _ A6.out).mono ?_
          rintro e w22 ⟨rfl, hb⟩
          refine ⟨_, rfl, ?_⟩
          have n0_ := Aside0.mk (blk_below BK4472.out hb)
          have n1_ := Aside0.mk (blk_below BK4473.out hb)
          have n2_ := Aside0.mk (blk_below BK4474.out hb)
          have n3_ := Aside0.mk (blk_below BK4483.out hb)
          have n4_ := Aside0.mk (below_step (by repeat (first | (with_reducible first | exact HB.out | apply below_alloc | apply pw_below_drewN | apply below_drew1 | refine below_set ?_ GE4472.out | refine below_set ?_ GE4473.out | refine below_set ?_ GE4474.out | refine below_set ?_ GE4483.out) | exact HB.out)) hb)
          clear BK4472 BK4473 BK4474 BK4483 HB
          have BK4472 := n0_
          have BK4473 := n1_
          have BK4474 := n2_
          have BK4483 := n3_
          have HB := n4_
          clear n0_ n1_ n2_ n3_ n4_
          (try clear hb)
          (try clear hb2)
          (try clear hk)
          (try clear hi)
          refine hK.out _ _ ⟨(blk_cell BK4472.out 0).trans rfl, (blk_cell BK4472.out 1).trans rfl, (blk_cell BK4473.out 0).trans rfl, (blk_cell BK4473.out 1).trans rfl⟩ (fun hHeld => ?_)
          clear hK K
          refine norm_ (a' := ?_) ?_ ?_
          rotate_left
          · show Act.put _ (some 38) _ = _
            simp only [Act.put, List.setIfInBounds_toArray, List.set_cons_zero, List.set_cons_succ, i64_w, i32_w]
            rfl
          refine one_ (i := 14) (N := some 39) (ratio_Cmp.ups 21 294911) rfl rfl (one_of HT_.out (by kernel_rfl)) (by decide) (fun K hK => ?_)
          refine goes_ Try.func27 (by kernel_rfl) rfl #[.agg #[.int .u64 t4476, .int .u64 t4477], .agg #[.int .u64 t4478, .int .u64 t4479]] (by rfl) rfl rfl (by (try simp only [List.map_toArray, List.map_cons, List.map_nil]); first | done | rfl) ?_
          with_reducible refine (wide_Add.calls t4476 t4477 t4478 t4479 t4480 t4481 t4482 _ A7.out).mono ?_
          rintro e w23 ⟨rfl, hb⟩
          refine ⟨_, rfl, ?_⟩
          have n0_ := Aside0.mk (blk_below BK4472.out hb)
          have n1_ := Aside0.mk (blk_below BK4473.out hb)
          have n2_ := Aside0.mk (blk_below BK4474.out hb)
          have n3_ := Aside0.mk (blk_below BK4483.out hb)
          have n4_ := Aside0.mk (below_step (by repeat (first | (with_reducible first | exact HB.out | apply below_alloc | apply pw_below_drewN | apply below_drew1 | refine below_set ?_ GE4472.out | refine below_set ?_ GE4473.out | refine below_set ?_ GE4474.out | refine below_set ?_ GE4483.out) | exact HB.out)) hb)
          clear BK4472 BK4473 BK4474 BK4483 HB
          have BK4472 := n0_
          have BK4473 := n1_
          have BK4474 := n2_
          have BK4483 := n3_
          have HB := n4_
          clear n0_ n1_ n2_ n3_ n4_
          (try clear hb)
          (try clear hb2)
          (try clear hk)
          (try clear hi)
          refine hK.out _ _ ⟨(blk_cell BK4472.out 0).trans rfl, (blk_cell BK4472.out 1).trans rfl, (blk_cell BK4473.out 0).trans rfl, (blk_cell BK4473.out 1).trans rfl⟩ (fun hHeld => ?_)
          clear hK K
          refine norm_ (a' := ?_) ?_ ?_
          rotate_left
          · show Act.put _ (some 39) _ = _
            simp only [Act.put, List.setIfInBounds_toArray, List.set_cons_zero, List.set_cons_succ, i64_w, i32_w]
            rfl
          refine pure_ (i := 15) (N := some 24) (v := ?_) (a' := ?_) (ratio_Cmp.ups 21 327679) rfl rfl (any_of HT_.out (by kernel_rfl)) (fun _ _ _ h => h) (Or.inl ⟨by rfl, ?_⟩) ?_ ?_
          rotate_left
          · intro w'
            go_simp
            with_reducible rfl
          rotate_left
          · simp only [Act.put, List.setIfInBounds_toArray, List.set_cons_zero, List.set_cons_succ, i64_w, i32_w]
            rfl
          refine pure_ (i := 16) (N := some 40) (v := ?_) (a' := ?_) (ratio_Cmp.ups 21 393215) rfl rfl (any_of HT_.out (by kernel_rfl)) (fun _ _ _ h => h) (Or.inl ⟨by rfl, ?_⟩) ?_ ?_
          rotate_left
          · intro w'
            go_simp
            with_reducible rfl
          rotate_left
          · simp only [Act.put, List.setIfInBounds_toArray, List.set_cons_zero, List.set_cons_succ, i64_w, i32_w]
            rfl
          refine pure_ (i := 17) (N := some 41) (v := ?_) (a' := ?_) (ratio_Cmp.ups 21 524287) rfl rfl (any_of HT_.out (by kernel_rfl)) (fun _ _ _ h => h) (Or.inl ⟨by rfl, ?_⟩) ?_ ?_
          rotate_left
          · intro w'
            go_simp
            with_reducible rfl
          rotate_left
          · simp only [Act.put, List.setIfInBounds_toArray, List.set_cons_zero, List.set_cons_succ, i64_w, i32_w]
            rfl
          exact norm_ (by simp only [putAll, Act.put, List.setIfInBounds_toArray, List.set_cons_zero, List.set_cons_succ]) (hCont (gb4483) _ ⟨hHeld, BK4472.out, BK4473.out, BK4474.out, BK4483.out, GW4483.out, GE4483.out, NB4472_4483.out, NB4483_4472.out, NB4473_4483.out, NB4483_4473.out, NB4474_4483.out, NB4483_4474.out, (by repeat (first | (with_reducible first | exact HB.out | apply below_alloc | apply pw_below_drewN | apply below_drew1 | refine below_set ?_ GE4472.out | refine below_set ?_ GE4473.out | refine below_set ?_ GE4474.out | refine below_set ?_ GE4483.out) | exact HB.out))⟩)
      rintro gb4483 w24 ⟨hS_, h0_, h1_, h2_, h3_, h4_, h5_, h6_, h7_, h8_, h9_, h10_, h11_, h12_⟩
      have n0_ : Aside0 (w24.heap[gb4472]? = some (.cells #[.int .i64 a0_0, .int .i64 a0_1] 57 (0, 0))) := ⟨h0_⟩
      have n1_ : Aside0 (w24.heap[gb4473]? = some (.cells #[.int .i64 a1_0, .int .i64 a1_1] 57 (0, 0))) := ⟨h1_⟩
      have n2_ : Aside0 (w24.heap[gb4474]? = some (.cells #[.int .i64 0, .int .i64 0] 57 (0, 0))) := ⟨h2_⟩
      have n3_ : Aside0 (w24.heap[gb4483]? = some (.cells #[.int .u64 0, .int .u64 0] 24 (0, 0))) := ⟨h3_⟩
      have n4_ : Aside0 (w.heap.size ≤ gb4483) := ⟨h4_⟩
      have n5_ : Aside0 (w.heap.size ≤ gb4483) := ⟨h5_⟩
      have n6_ : Aside0 (gb4472 ≠ gb4483) := ⟨h6_⟩
      have n7_ : Aside0 (gb4483 ≠ gb4472) := ⟨h7_⟩
      have n8_ : Aside0 (gb4473 ≠ gb4483) := ⟨h8_⟩
      have n9_ : Aside0 (gb4483 ≠ gb4473) := ⟨h9_⟩
      have n10_ : Aside0 (gb4474 ≠ gb4483) := ⟨h10_⟩
      have n11_ : Aside0 (gb4483 ≠ gb4474) := ⟨h11_⟩
      have n12_ : Aside0 (Below w.heap.size w w24) := ⟨h12_⟩
      clear BK4472 BK4473 BK4474 HB h0_ h1_ h2_ h3_ h4_ h5_ h6_ h7_ h8_ h9_ h10_ h11_ h12_
      have BK4472 := n0_
      have BK4473 := n1_
      have BK4474 := n2_
      have BK4483 := n3_
      have GW4483 := n4_
      have GE4483 := n5_
      have NB4472_4483 := n6_
      have NB4483_4472 := n7_
      have NB4473_4483 := n8_
      have NB4483_4473 := n9_
      have NB4474_4483 := n10_
      have NB4483_4474 := n11_
      have HB := n12_
      clear n0_ n1_ n2_ n3_ n4_ n5_ n6_ n7_ n8_ n9_ n10_ n11_ n12_
      have hHeld : w24.cell? ⟨gb4472, 0, none⟩ = some (.int .i64 a0_0) ∧ w24.cell? ⟨gb4472, 1, none⟩ = some (.int .i64 a0_1) ∧ w24.cell? ⟨gb4473, 0, none⟩ = some (.int .i64 a1_0) ∧ w24.cell? ⟨gb4473, 1, none⟩ = some (.int .i64 a1_1) := hS_
      refine norm_ (a' := ?_) ?_ ?_
      rotate_left
      · simp only [putAll, Act.put, List.setIfInBounds_toArray, List.set_cons_zero, List.set_cons_succ]
        rfl
      refine one_ (i := 19) (N := none) (ratio_Cmp.ups 21 1048575) rfl rfl (one_of HT_.out (by kernel_rfl)) (by decide) (fun K hK => ?_)
      have hs25 : w24.cell? ⟨gb4483, 0, none⟩ = some (.int .u64 0) := (blk_cell BK4483.out 0).trans rfl
      have hfs25 := blk_frozen BK4483.out 0
      have hns25_0 := NB4472_4483.out
      have hns25_1 := NB4473_4483.out
      have hns25_2 := NB4474_4483.out
      have hms25_0 := NB4483_4472.out
      have hms25_1 := NB4483_4473.out
      have hms25_2 := NB4483_4474.out
      have hs26 : w24.cell? ⟨gb4483, 1, none⟩ = some (.int .u64 0) := (blk_cell BK4483.out 1).trans rfl
      have hfs26 := blk_frozen BK4483.out 1
      have hns26_0 := NB4472_4483.out
      have hns26_1 := NB4473_4483.out
      have hns26_2 := NB4474_4483.out
      have hms26_0 := NB4483_4472.out
      have hms26_1 := NB4483_4473.out
      have hms26_2 := NB4483_4474.out
      refine skip_ (w1 := ?_) (by rfl) rfl ?_ ?_
      rotate_left
      · go_simp
        rfl
      refine hK.out _ _ ⟨((cell_far (p := ⟨gb4483, _, none⟩) NB4472_4483.out _).trans (((cell_far (p := ⟨gb4483, _, none⟩) NB4472_4483.out _).trans (hHeld.1)))), ((cell_far (p := ⟨gb4483, _, none⟩) NB4472_4483.out _).trans (((cell_far (p := ⟨gb4483, _, none⟩) NB4472_4483.out _).trans (hHeld.2.1)))), ((cell_far (p := ⟨gb4483, _, none⟩) NB4473_4483.out _).trans (((cell_far (p := ⟨gb4483, _, none⟩) NB4473_4483.out _).trans (hHeld.2.2.1)))), ((cell_far (p := ⟨gb4483, _, none⟩) NB4473_4483.out _).trans (((cell_far (p := ⟨gb4483, _, none⟩) NB4473_4483.out _).trans (hHeld.2.2.2))))⟩ (fun hHeld => ?_)
      clear hK K
      refine pure_ (i := 20) (N := some 10) (v := ?_) (a' := ?_) (ratio_Cmp.ups 21 2097151) rfl rfl (any_of HT_.out (by kernel_rfl)) (fun _ _ _ h => h) (Or.inl ⟨by rfl, ?_⟩) ?_ ?_
      rotate_left
      · intro w'
        go_simp
        with_reducible rfl
      rotate_left
      · simp only [Act.put, List.setIfInBounds_toArray, List.set_cons_zero, List.set_cons_succ, i64_w, i32_w]
        rfl
      refine done_ (done_of HT_.out (by kernel_rfl)) ?_
      have hnb27 := NB4483_4472.out
      have hnc27 := NB4472_4483.out
      have hnb28 := NB4483_4473.out
      have hnc28 := NB4473_4483.out
      have hnb29 := NB4483_4474.out
      have hnc29 := NB4474_4483.out
      have hcz30_0 : w24.cell? ⟨gb4483, 0, none⟩ = some (.int .u64 0) := (blk_cell BK4483.out 0).trans rfl
      have hcz30_1 : w24.cell? ⟨gb4483, 1, none⟩ = some (.int .u64 0) := (blk_cell BK4483.out 1).trans rfl
      have hfz30_0 := blk_frozen BK4483.out 0
      have hfz30_1 := blk_frozen BK4483.out 1
      try go_wp2_with (first | ((with_reducible refine gate_callee (f := 37) rfl ?_); refine goesL_ (some 45) rfl rfl Try.func37 (by kernel_rfl) rfl #[.agg #[.int .u64 t4480, .int .u64 t4481], .int .u64 t4475] rfl (by (try simp only [List.map_toArray, List.map_cons, List.map_nil]); first | done | rfl) ?_; (with_reducible refine (wide_Div.calls t4480 t4481 t4475 t4484 t4485 t4486 t4487 _ A8.out).mono ?_); rintro e w31 ⟨rfl, hb⟩; refine ⟨_, rfl, ?_⟩; have n0_ := Aside0.mk (blk_below (g := gb4472) (o := .cells #[.int .i64 a0_0, .int .i64 a0_1] 57 (0, 0)) (by refine blk_far ?_ NB4472_4483.out _; refine blk_far ?_ NB4472_4483.out _; exact BK4472.out) hb); have n1_ := Aside0.mk (blk_below (g := gb4473) (o := .cells #[.int .i64 a1_0, .int .i64 a1_1] 57 (0, 0)) (by refine blk_far ?_ NB4473_4483.out _; refine blk_far ?_ NB4473_4483.out _; exact BK4473.out) hb); have n2_ := Aside0.mk (blk_below (g := gb4474) (o := .cells #[.int .i64 0, .int .i64 0] 57 (0, 0)) (by refine blk_far ?_ NB4474_4483.out _; refine blk_far ?_ NB4474_4483.out _; exact BK4474.out) hb); have n3_ := Aside0.mk (blk_below (g := gb4483) (o := .cells #[.int .u64 t4480, .int .u64 t4481] 24 (0, 0)) (by refine blk_put (cs := #[.int .u64 t4480, .int .u64 0]) ?_ 1 _ rfl; refine blk_put (cs := #[.int .u64 0, .int .u64 0]) ?_ 0 _ rfl; exact BK4483.out) hb); have n4_ := Aside0.mk (below_step (by repeat (first | (with_reducible first | exact HB.out | apply below_alloc | apply pw_below_drewN | apply below_drew1 | refine below_set ?_ GE4472.out | refine below_set ?_ GE4473.out | refine below_set ?_ GE4474.out | refine below_set ?_ GE4483.out) | exact HB.out)) hb); clear BK4472 BK4473 BK4474 BK4483; clear HB; have BK4472 := n0_; have BK4473 := n1_; have BK4474 := n2_; have BK4483 := n3_; have HB := n4_; clear n0_ n1_ n2_ n3_ n4_; (try clear hb)) | ((with_reducible refine gate_dst (N := 11) rfl ?_); refine box_event ?hg (N := 11) ?hd (cs := #[.int .u64 0, .int .u64 0]) (t := 24) ?hr ?_; (case hd => rfl); (case hg => rfl); (case hr => go_simp); intro gb4488 hg w32 hbox hb; have n0_ := Aside0.mk (blk_below BK4472.out hb); have n1_ := Aside0.mk (blk_below BK4473.out hb); have n2_ := Aside0.mk (blk_below BK4474.out hb); have n3_ := Aside0.mk (blk_below BK4483.out hb); have n4_ := Aside0.mk (below_step (by repeat (first | (with_reducible first | exact HB.out | apply below_alloc | apply pw_below_drewN | apply below_drew1 | refine below_set ?_ GE4472.out | refine below_set ?_ GE4473.out | refine below_set ?_ GE4474.out | refine below_set ?_ GE4483.out) | exact HB.out)) hb); have n5_ := Aside0.mk (hbox); have n6_ := Aside0.mk ((by rw [hg]; exact (below_size (by repeat (first | (with_reducible first | exact HB.out | apply below_alloc | apply pw_below_drewN | apply below_drew1 | refine below_set ?_ GE4472.out | refine below_set ?_ GE4473.out | refine below_set ?_ GE4474.out | refine below_set ?_ GE4483.out) | exact HB.out))) : w.heap.size ≤ gb4488)); have n7_ := Aside0.mk ((by rw [hg]; exact (below_size (by repeat (first | (with_reducible first | exact HB.out | apply below_alloc | apply pw_below_drewN | apply below_drew1 | refine below_set ?_ GE4472.out | refine below_set ?_ GE4473.out | refine below_set ?_ GE4474.out | refine below_set ?_ GE4483.out) | exact HB.out))) : w.heap.size ≤ gb4488)); have n8_ := Aside0.mk ((by rw [hg]; exact Nat.ne_of_lt (blk_lt (g := gb4472) (o := .cells #[.int .i64 a0_0, .int .i64 a0_1] 57 (0, 0)) BK4472.out) : gb4472 ≠ gb4488)); have n9_ := Aside0.mk ((by rw [hg]; exact Nat.ne_of_gt (blk_lt (g := gb4472) (o := .cells #[.int .i64 a0_0, .int .i64 a0_1] 57 (0, 0)) BK4472.out) : gb4488 ≠ gb4472)); have n10_ := Aside0.mk ((by rw [hg]; exact Nat.ne_of_lt (blk_lt (g := gb4473) (o := .cells #[.int .i64 a1_0, .int .i64 a1_1] 57 (0, 0)) BK4473.out) : gb4473 ≠ gb4488)); have n11_ := Aside0.mk ((by rw [hg]; exact Nat.ne_of_gt (blk_lt (g := gb4473) (o := .cells #[.int .i64 a1_0, .int .i64 a1_1] 57 (0, 0)) BK4473.out) : gb4488 ≠ gb4473)); have n12_ := Aside0.mk ((by rw [hg]; exact Nat.ne_of_lt (blk_lt (g := gb4474) (o := .cells #[.int .i64 0, .int .i64 0] 57 (0, 0)) BK4474.out) : gb4474 ≠ gb4488)); have n13_ := Aside0.mk ((by rw [hg]; exact Nat.ne_of_gt (blk_lt (g := gb4474) (o := .cells #[.int .i64 0, .int .i64 0] 57 (0, 0)) BK4474.out) : gb4488 ≠ gb4474)); have n14_ := Aside0.mk ((by rw [hg]; exact Nat.ne_of_lt (blk_lt (g := gb4483) (o := .cells #[.int .u64 t4480, .int .u64 t4481] 24 (0, 0)) BK4483.out) : gb4483 ≠ gb4488)); have n15_ := Aside0.mk ((by rw [hg]; exact Nat.ne_of_gt (blk_lt (g := gb4483) (o := .cells #[.int .u64 t4480, .int .u64 t4481] 24 (0, 0)) BK4483.out) : gb4488 ≠ gb4483)); clear BK4472 BK4473 BK4474 BK4483; clear HB; have BK4472 := n0_; have BK4473 := n1_; have BK4474 := n2_; have BK4483 := n3_; have HB := n4_; have BK4488 := n5_; have GW4488 := n6_; have GE4488 := n7_; have NB4472_4488 := n8_; have NB4488_4472 := n9_; have NB4473_4488 := n10_; have NB4488_4473 := n11_; have NB4474_4488 := n12_; have NB4488_4474 := n13_; have NB4483_4488 := n14_; have NB4488_4483 := n15_; clear n0_ n1_ n2_ n3_ n4_ n5_ n6_ n7_ n8_ n9_ n10_ n11_ n12_ n13_ n14_ n15_; clear hb hbox hg; have hnb33 := NB4488_4472.out; have hnc33 := NB4472_4488.out; have hnb34 := NB4488_4473.out; have hnc34 := NB4473_4488.out; have hnb35 := NB4488_4474.out; have hnc35 := NB4474_4488.out; have hnb36 := NB4488_4483.out; have hnc36 := NB4483_4488.out; have hcz37_0 : w32.cell? ⟨gb4488, 0, none⟩ = some (.int .u64 0) := (blk_cell BK4488.out 0).trans rfl; have hcz37_1 : w32.cell? ⟨gb4488, 1, none⟩ = some (.int .u64 0) := (blk_cell BK4488.out 1).trans rfl; have hfz37_0 := blk_frozen BK4488.out 0; have hfz37_1 := blk_frozen BK4488.out 1) | ((with_reducible refine gate_callee (f := 45) rfl ?_); refine goesL_ (some 51) rfl rfl Try.func45 (by kernel_rfl) rfl #[.int .u64 t4486, .int .u64 t4475] rfl (by (try simp only [List.map_toArray, List.map_cons, List.map_nil]); first | done | rfl) ?_; (with_reducible refine (ratio_Gcd.calls t4486 t4475 t4489 _ A9.out).mono ?_); rintro e w38 ⟨rfl, hb⟩; refine ⟨_, rfl, ?_⟩; have n0_ := Aside0.mk (blk_below (g := gb4472) (o := .cells #[.int .i64 a0_0, .int .i64 a0_1] 57 (0, 0)) (by refine blk_far ?_ NB4472_4488.out _; refine blk_far ?_ NB4472_4488.out _; exact BK4472.out) hb); have n1_ := Aside0.mk (blk_below (g := gb4473) (o := .cells #[.int .i64 a1_0, .int .i64 a1_1] 57 (0, 0)) (by refine blk_far ?_ NB4473_4488.out _; refine blk_far ?_ NB4473_4488.out _; exact BK4473.out) hb); have n2_ := Aside0.mk (blk_below (g := gb4474) (o := .cells #[.int .i64 0, .int .i64 0] 57 (0, 0)) (by refine blk_far ?_ NB4474_4488.out _; refine blk_far ?_ NB4474_4488.out _; exact BK4474.out) hb); have n3_ := Aside0.mk (blk_below (g := gb4483) (o := .cells #[.int .u64 t4480, .int .u64 t4481] 24 (0, 0)) (by refine blk_far ?_ NB4483_4488.out _; refine blk_far ?_ NB4483_4488.out _; exact BK4483.out) hb); have n4_ := Aside0.mk (blk_below (g := gb4488) (o := .cells #[.int .u64 t4484, .int .u64 t4485] 24 (0, 0)) (by refine blk_put (cs := #[.int .u64 t4484, .int .u64 0]) ?_ 1 _ rfl; refine blk_put (cs := #[.int .u64 0, .int .u64 0]) ?_ 0 _ rfl; exact BK4488.out) hb); have n5_ := Aside0.mk (below_step (by repeat (first | (with_reducible first | exact HB.out | apply below_alloc | apply pw_below_drewN | apply below_drew1 | refine below_set ?_ GE4472.out | refine below_set ?_ GE4473.out | refine below_set ?_ GE4474.out | refine below_set ?_ GE4483.out | refine below_set ?_ GE4488.out) | exact HB.out)) hb); clear BK4472 BK4473 BK4474 BK4483; clear BK4488 HB; have BK4472 := n0_; have BK4473 := n1_; have BK4474 := n2_; have BK4483 := n3_; have BK4488 := n4_; have HB := n5_; clear n0_ n1_ n2_ n3_ n4_ n5_; (try clear hb); have hcz39_0 : w38.cell? ⟨gb4483, 0, none⟩ = some (.int .u64 t4480) := (blk_cell BK4483.out 0).trans rfl; have hcz39_1 : w38.cell? ⟨gb4483, 1, none⟩ = some (.int .u64 t4481) := (blk_cell BK4483.out 1).trans rfl; have hfz39_0 := blk_frozen BK4483.out 0; have hfz39_1 := blk_frozen BK4483.out 1) | ((with_reducible refine gate_callee (f := 37) rfl ?_); refine goesL_ (some 55) rfl rfl Try.func37 (by kernel_rfl) rfl #[.agg #[.int .u64 t4480, .int .u64 t4481], .int .u64 t4489] rfl (by (try simp only [List.map_toArray, List.map_cons, List.map_nil]); first | done | rfl) ?_; (with_reducible refine (wide_Div.calls t4480 t4481 t4489 t4490 t4491 t4492 t4493 _ A10.out).mono ?_); rintro e w40 ⟨rfl, hb⟩; refine ⟨_, rfl, ?_⟩; have n0_ := Aside0.mk (blk_below BK4472.out hb); have n1_ := Aside0.mk (blk_below BK4473.out hb); have n2_ := Aside0.mk (blk_below BK4474.out hb); have n3_ := Aside0.mk (blk_below BK4483.out hb); have n4_ := Aside0.mk (blk_below BK4488.out hb); have n5_ := Aside0.mk (below_step (by repeat (first | (with_reducible first | exact HB.out | apply below_alloc | apply pw_below_drewN | apply below_drew1 | refine below_set ?_ GE4472.out | refine below_set ?_ GE4473.out | refine below_set ?_ GE4474.out | refine below_set ?_ GE4483.out | refine below_set ?_ GE4488.out) | exact HB.out)) hb); clear BK4472 BK4473 BK4474 BK4483; clear BK4488 HB; have BK4472 := n0_; have BK4473 := n1_; have BK4474 := n2_; have BK4483 := n3_; have BK4488 := n4_; have HB := n5_; clear n0_ n1_ n2_ n3_ n4_ n5_; (try clear hb); have hcz41_0 : w40.cell? ⟨gb4483, 0, none⟩ = some (.int .u64 t4480) := (blk_cell BK4483.out 0).trans rfl; have hcz41_1 : w40.cell? ⟨gb4483, 1, none⟩ = some (.int .u64 t4481) := (blk_cell BK4483.out 1).trans rfl; have hfz41_0 := blk_frozen BK4483.out 0; have hfz41_1 := blk_frozen BK4483.out 1))
      have n0_ : Aside0 (((w40.setCell ⟨gb4483, 0, none⟩ (.int .u64 t4490)).setCell ⟨gb4483, 1, none⟩ (.int .u64 t4491)).heap[gb4472]? = some (.cells #[.int .i64 a0_0, .int .i64 a0_1] 57 (0, 0))) := ⟨by refine blk_far ?_ NB4472_4483.out _; refine blk_far ?_ NB4472_4483.out _; exact BK4472.out⟩
      have n1_ : Aside0 (((w40.setCell ⟨gb4483, 0, none⟩ (.int .u64 t4490)).setCell ⟨gb4483, 1, none⟩ (.int .u64 t4491)).heap[gb4473]? = some (.cells #[.int .i64 a1_0, .int .i64 a1_1] 57 (0, 0))) := ⟨by refine blk_far ?_ NB4473_4483.out _; refine blk_far ?_ NB4473_4483.out _; exact BK4473.out⟩
      have n2_ : Aside0 (((w40.setCell ⟨gb4483, 0, none⟩ (.int .u64 t4490)).setCell ⟨gb4483, 1, none⟩ (.int .u64 t4491)).heap[gb4474]? = some (.cells #[.int .i64 0, .int .i64 0] 57 (0, 0))) := ⟨by refine blk_far ?_ NB4474_4483.out _; refine blk_far ?_ NB4474_4483.out _; exact BK4474.out⟩
      have n3_ : Aside0 (((w40.setCell ⟨gb4483, 0, none⟩ (.int .u64 t4490)).setCell ⟨gb4483, 1, none⟩ (.int .u64 t4491)).heap[gb4483]? = some (.cells #[.int .u64 t4490, .int .u64 t4491] 24 (0, 0))) := ⟨by refine blk_put (cs := #[.int .u64 t4490, .int .u64 t4481]) ?_ 1 _ rfl; refine blk_put (cs := #[.int .u64 t4480, .int .u64 t4481]) ?_ 0 _ rfl; exact BK4483.out⟩
      have n4_ : Aside0 (((w40.setCell ⟨gb4483, 0, none⟩ (.int .u64 t4490)).setCell ⟨gb4483, 1, none⟩ (.int .u64 t4491)).heap[gb4488]? = some (.cells #[.int .u64 t4484, .int .u64 t4485] 24 (0, 0))) := ⟨by refine blk_far ?_ NB4488_4483.out _; refine blk_far ?_ NB4488_4483.out _; exact BK4488.out⟩
      have n5_ : Aside0 (Below w.heap.size w ((w40.setCell ⟨gb4483, 0, none⟩ (.int .u64 t4490)).setCell ⟨gb4483, 1, none⟩ (.int .u64 t4491))) := ⟨by repeat (first | (with_reducible first | exact HB.out | apply below_alloc | apply pw_below_drewN | apply below_drew1 | refine below_set ?_ GE4472.out | refine below_set ?_ GE4473.out | refine below_set ?_ GE4474.out | refine below_set ?_ GE4483.out | refine below_set ?_ GE4488.out) | exact HB.out)⟩
      (try clear BK4472)
      (try clear BK4473)
      (try clear BK4474)
      (try clear BK4483)
      (try clear BK4488)
      (try clear HB)
      generalize ((w40.setCell ⟨gb4483, 0, none⟩ (.int .u64 t4490)).setCell ⟨gb4483, 1, none⟩ (.int .u64 t4491)) = w42 at n0_ n1_ n2_ n3_ n4_ n5_ ⊢
      have BK4472 := n0_
      have BK4473 := n1_
      have BK4474 := n2_
      have BK4483 := n3_
      have BK4488 := n4_
      have HB := n5_
      clear n0_ n1_ n2_ n3_ n4_ n5_
      have n0_ := Aside0.mk (blk_drew BK4472.out)
      have n1_ := Aside0.mk (blk_drew BK4473.out)
      have n2_ := Aside0.mk (blk_drew BK4474.out)
      have n3_ := Aside0.mk (blk_drew BK4483.out)
      have n4_ := Aside0.mk (blk_drew BK4488.out)
      have n5_ := Aside0.mk (below_drew1 HB.out)
      clear BK4472 BK4473 BK4474 BK4483 BK4488 HB
      have BK4472 := n0_
      have BK4473 := n1_
      have BK4474 := n2_
      have BK4483 := n3_
      have BK4488 := n4_
      have HB := n5_
      clear n0_ n1_ n2_ n3_ n4_ n5_
      refine start_ (n := 13) (S := fun w' => w'.cell? ⟨gb4483, 0, none⟩ = some (.int .u64 t4490) ∧ w'.cell? ⟨gb4483, 1, none⟩ = some (.int .u64 t4491)) (ds := []) (ratio_Cmp.ups 13 0) (by kernel_rfl) rfl rfl ⟨(blk_cell BK4483.out 0).trans rfl, (blk_cell BK4483.out 1).trans rfl⟩ (fun hHeld => ?_); refine with_tabW ratio_Add.tab7 ratio_Add.bits7 (fun HT_ HW_ => ?_)
      generalize w42.drew = w43 at BK4472 BK4473 BK4474 BK4483 BK4488 HB hHeld ⊢
      refine pure_ (i := 1) (N := some 60) (v := ?_) (a' := ?_) (ratio_Cmp.ups 13 2) rfl rfl (any_of HT_.out (by kernel_rfl)) (fun _ _ _ h => h) (Or.inl ⟨by rfl, ?_⟩) ?_ ?_
      rotate_left
      · intro w'
        go_simp
        with_reducible rfl
      rotate_left
      · simp only [Act.put, List.setIfInBounds_toArray, List.set_cons_zero, List.set_cons_succ, i64_w, i32_w]
        rfl
      refine pure_ (i := 2) (N := some 61) (v := ?_) (a' := ?_) (ratio_Cmp.ups 13 6) rfl rfl (any_of HT_.out (by kernel_rfl)) (fun _ _ _ h => h) (Or.inl ⟨by rfl, ?_⟩) ?_ ?_
      rotate_left
      · intro w'
        go_simp
        with_reducible rfl
      rotate_left
      · simp only [Act.put, List.setIfInBounds_toArray, List.set_cons_zero, List.set_cons_succ, i64_w, i32_w]
        rfl
      refine pure_ (i := 3) (N := some 62) (v := ?_) (a' := ?_) (ratio_Cmp.ups 13 14) rfl rfl (any_of HT_.out (by kernel_rfl)) (fun _ _ _ h => h) (Or.inl ⟨by rfl, ?_⟩) ?_ ?_
      rotate_left
      · intro w'
        go_simp
        with_reducible rfl
      rotate_left
      · simp only [Act.put, List.setIfInBounds_toArray, List.set_cons_zero, List.set_cons_succ, i64_w, i32_w]
        rfl
      refine pure_ (i := 4) (N := some 63) (v := ?_) (a' := ?_) (ratio_Cmp.ups 13 30) rfl rfl (any_of HT_.out (by kernel_rfl)) (fun _ _ _ h => h) (Or.inl ⟨by rfl, ?_⟩) ?_ ?_
      rotate_left
      · intro w'
        go_simp
        with_reducible rfl
      rotate_left
      · simp only [Act.put, List.setIfInBounds_toArray, List.set_cons_zero, List.set_cons_succ, i64_w, i32_w]
        rfl
      refine pure_ (i := 5) (N := some 64) (v := ?_) (a' := ?_) (ratio_Cmp.ups 13 62) rfl rfl (any_of HT_.out (by kernel_rfl)) (fun _ _ _ h => h) (Or.inl ⟨by rfl, ?_⟩) ?_ ?_
      rotate_left
      · intro w'
        go_simp
        with_reducible rfl
      rotate_left
      · simp only [Act.put, List.setIfInBounds_toArray, List.set_cons_zero, List.set_cons_succ, i64_w, i32_w]
        rfl
      refine pure_ (i := 6) (N := some 65) (v := ?_) (a' := ?_) (ratio_Cmp.ups 13 126) rfl rfl (any_of HT_.out (by kernel_rfl)) (fun _ _ _ h => h) (Or.inl ⟨by rfl, ?_⟩) ?_ ?_
      rotate_left
      · intro w'
        go_simp
        with_reducible rfl
      rotate_left
      · simp only [Act.put, List.setIfInBounds_toArray, List.set_cons_zero, List.set_cons_succ, i64_w, i32_w]
        rfl
      refine take_ (i := 0) (N := some 59) (v := ?_) (a' := ?_) (ratio_Cmp.ups 13 127) rfl rfl (take_ofW HT_.out HW_.out (by kernel_rfl)) (fun _ _ _ h => h) (Or.inl ⟨by rfl, ?_⟩) hHeld ?_ ?_
      rotate_left
      · rintro w' ⟨s0, s1⟩
        go_simp
        with_reducible rfl
      rotate_left
      · simp only [Act.put, List.setIfInBounds_toArray, List.set_cons_zero, List.set_cons_succ, i64_w, i32_w]
        rfl
      refine one_ (i := 7) (N := some 66) (ratio_Cmp.ups 13 255) rfl rfl (one_of HT_.out (by kernel_rfl)) (by decide) (fun K hK => ?_)
      refine goes_ Try.func34 (by kernel_rfl) rfl #[.int .u64 (IntKind.u64.wrap (Int.tdiv (IntKind.u64.wrap (a0_1)) t4475)), .int .u64 (IntKind.u64.wrap (Int.tdiv (IntKind.u64.wrap (a1_1)) t4489))] (by rfl) rfl rfl (by (try simp only [List.map_toArray, List.map_cons, List.map_nil]); first | done | rfl) ?_
      with_reducible refine (wide_Mul.calls (IntKind.u64.wrap (Int.tdiv (IntKind.u64.wrap (a0_1)) t4475)) (IntKind.u64.wrap (Int.tdiv (IntKind.u64.wrap (a1_1)) t4489)) t4494 t4495 _ A12.out).mono ?_
      rintro e w44 ⟨rfl, hb⟩
      refine ⟨_, rfl, ?_⟩
      have n0_ := Aside0.mk (blk_below BK4472.out hb)
      have n1_ := Aside0.mk (blk_below BK4473.out hb)
      have n2_ := Aside0.mk (blk_below BK4474.out hb)
      have n3_ := Aside0.mk (blk_below BK4483.out hb)
      have n4_ := Aside0.mk (blk_below BK4488.out hb)
      have n5_ := Aside0.mk (below_step (by repeat (first | (with_reducible first | exact HB.out | apply below_alloc | apply pw_below_drewN | apply below_drew1 | refine below_set ?_ GE4472.out | refine below_set ?_ GE4473.out | refine below_set ?_ GE4474.out | refine below_set ?_ GE4483.out | refine below_set ?_ GE4488.out) | exact HB.out)) hb)
      clear BK4472 BK4473 BK4474 BK4483 BK4488 HB
      have BK4472 := n0_
      have BK4473 := n1_
      have BK4474 := n2_
      have BK4483 := n3_
      have BK4488 := n4_
      have HB := n5_
      clear n0_ n1_ n2_ n3_ n4_ n5_
      (try clear hb)
      (try clear hb2)
      (try clear hk)
      (try clear hi)
      refine hK.out _ _ ⟨(blk_cell BK4483.out 0).trans rfl, (blk_cell BK4483.out 1).trans rfl⟩ (fun hHeld => ?_)
      clear hK K
      refine norm_ (a' := ?_) ?_ ?_
      rotate_left
      · show Act.put _ (some 66) _ = _
        simp only [Act.put, List.setIfInBounds_toArray, List.set_cons_zero, List.set_cons_succ, i64_w, i32_w]
        rfl
      refine one_ (i := 8) (N := some 67) (ratio_Cmp.ups 13 511) rfl rfl (one_of HT_.out (by kernel_rfl)) (by decide) (fun K hK => ?_)
      refine goes_ Try.func72 (by kernel_rfl) rfl #[.agg #[.int .u64 t4490, .int .u64 t4491], .agg #[.int .u64 t4494, .int .u64 t4495]] (by rfl) rfl rfl (by (try simp only [List.map_toArray, List.map_cons, List.map_nil]); first | done | rfl) ?_
      with_reducible refine (ratio_told.calls t4490 t4491 t4494 t4495 t4496 t4497 t4498 _ A13.out).mono ?_
      rintro e w45 ⟨rfl, hb⟩
      refine ⟨_, rfl, ?_⟩
      have n0_ := Aside0.mk (blk_below BK4472.out hb)
      have n1_ := Aside0.mk (blk_below BK4473.out hb)
      have n2_ := Aside0.mk (blk_below BK4474.out hb)
      have n3_ := Aside0.mk (blk_below BK4483.out hb)
      have n4_ := Aside0.mk (blk_below BK4488.out hb)
      have n5_ := Aside0.mk (below_step (by repeat (first | (with_reducible first | exact HB.out | apply below_alloc | apply pw_below_drewN | apply below_drew1 | refine below_set ?_ GE4472.out | refine below_set ?_ GE4473.out | refine below_set ?_ GE4474.out | refine below_set ?_ GE4483.out | refine below_set ?_ GE4488.out) | exact HB.out)) hb)
      clear BK4472 BK4473 BK4474 BK4483 BK4488 HB
      have BK4472 := n0_
      have BK4473 := n1_
      have BK4474 := n2_
      have BK4483 := n3_
      have BK4488 := n4_
      have HB := n5_
      clear n0_ n1_ n2_ n3_ n4_ n5_
      (try clear hb)
      (try clear hb2)
      (try clear hk)
      (try clear hi)
      refine hK.out _ _ ⟨(blk_cell BK4483.out 0).trans rfl, (blk_cell BK4483.out 1).trans rfl⟩ (fun hHeld => ?_)
      clear hK K
      refine norm_ (a' := ?_) ?_ ?_
      rotate_left
      · show Act.put _ (some 67) _ = _
        simp only [Act.put, List.setIfInBounds_toArray, List.set_cons_zero, List.set_cons_succ, i64_w, i32_w]
        rfl
      refine pure_ (i := 9) (N := some 68) (v := ?_) (a' := ?_) (ratio_Cmp.ups 13 1023) rfl rfl (any_of HT_.out (by kernel_rfl)) (fun _ _ _ h => h) (Or.inl ⟨by rfl, ?_⟩) ?_ ?_
      rotate_left
      · intro w'
        go_simp
        with_reducible rfl
      rotate_left
      · simp only [Act.put, List.setIfInBounds_toArray, List.set_cons_zero, List.set_cons_succ, i64_w, i32_w]
        rfl
      refine pure_ (i := 10) (N := some 69) (v := ?_) (a' := ?_) (ratio_Cmp.ups 13 2047) rfl rfl (any_of HT_.out (by kernel_rfl)) (fun _ _ _ h => h) (Or.inl ⟨by rfl, ?_⟩) ?_ ?_
      rotate_left
      · intro w'
        go_simp
        with_reducible rfl
      rotate_left
      · simp only [Act.put, List.setIfInBounds_toArray, List.set_cons_zero, List.set_cons_succ, i64_w, i32_w]
        rfl
      refine one_ (i := 11) (N := none) (ratio_Cmp.ups 13 4095) rfl rfl (one_of HT_.out (by kernel_rfl)) (by decide) (fun K hK => ?_)
      have hs46 : w45.cell? ⟨gb4474, 0, none⟩ = some (.int .i64 0) := (blk_cell BK4474.out 0).trans rfl
      have hfs46 := blk_frozen BK4474.out 0
      have hns46_0 := NB4472_4474.out
      have hns46_1 := NB4473_4474.out
      have hns46_3 := NB4483_4474.out
      have hns46_4 := NB4488_4474.out
      have hms46_0 := NB4474_4472.out
      have hms46_1 := NB4474_4473.out
      have hms46_3 := NB4474_4483.out
      have hms46_4 := NB4474_4488.out
      have hs47 : w45.cell? ⟨gb4474, 1, none⟩ = some (.int .i64 0) := (blk_cell BK4474.out 1).trans rfl
      have hfs47 := blk_frozen BK4474.out 1
      have hns47_0 := NB4472_4474.out
      have hns47_1 := NB4473_4474.out
      have hns47_3 := NB4483_4474.out
      have hns47_4 := NB4488_4474.out
      have hms47_0 := NB4474_4472.out
      have hms47_1 := NB4474_4473.out
      have hms47_3 := NB4474_4483.out
      have hms47_4 := NB4474_4488.out
      refine skip_ (w1 := ?_) (by rfl) rfl ?_ ?_
      rotate_left
      · go_simp
        rfl
      refine hK.out _ _ ⟨((cell_far (p := ⟨gb4474, _, none⟩) NB4483_4474.out _).trans (((cell_far (p := ⟨gb4474, _, none⟩) NB4483_4474.out _).trans (hHeld.1)))), ((cell_far (p := ⟨gb4474, _, none⟩) NB4483_4474.out _).trans (((cell_far (p := ⟨gb4474, _, none⟩) NB4483_4474.out _).trans (hHeld.2))))⟩ (fun hHeld => ?_)
      clear hK K
      refine pure_ (i := 12) (N := some 5) (v := ?_) (a' := ?_) (ratio_Cmp.ups 13 8191) rfl rfl (any_of HT_.out (by kernel_rfl)) (fun _ _ _ h => h) (Or.inl ⟨by rfl, ?_⟩) ?_ ?_
      rotate_left
      · intro w'
        go_simp
        with_reducible rfl
      rotate_left
      · simp only [Act.put, List.setIfInBounds_toArray, List.set_cons_zero, List.set_cons_succ, i64_w, i32_w]
        rfl
      refine done_ (done_of HT_.out (by kernel_rfl)) ?_
      try go_wp2
      refine bodyPost_ret (results_ct rfl _ _ gb4474 57 #[.int .i64 t4496, .int .i64 t4497] (0, 0) _ rfl (by refine blk_put (cs := #[.int .i64 t4496, .int .i64 0]) ?_ 1 _ rfl; refine blk_put (cs := #[.int .i64 0, .int .i64 0]) ?_ 0 _ rfl; exact BK4474.out) Try.underlying57 rfl (by kernel_rfl)) rfl ?_
      exact ⟨by rfl, by repeat (first | (with_reducible first | exact HB.out | apply below_alloc | apply pw_below_drewN | apply below_drew1 | refine below_set ?_ GE4472.out | refine below_set ?_ GE4473.out | refine below_set ?_ GE4474.out | refine below_set ?_ GE4483.out | refine below_set ?_ GE4488.out) | exact HB.out)⟩

def ratio_Mul.f (a0_0 : Int) (a0_1 : Int) (a1_0 : Int) (a1_1 : Int) : Option (Int × Int × Int) := (ratio_Gcd.f (IntKind.u64.wrap (a0_0)) (IntKind.u64.wrap (a1_1))).bind fun t4502 => ((ratio_Gcd.f (IntKind.u64.wrap (a1_0)) (IntKind.u64.wrap (a0_1))).bind fun t4503 => (if t4502 = 0 then (none) else (if t4503 = 0 then (none) else ((wide_Mul.f (IntKind.u64.wrap (Int.tdiv (IntKind.u64.wrap (a0_0)) t4502)) (IntKind.u64.wrap (Int.tdiv (IntKind.u64.wrap (a1_0)) t4503))).bind fun bt4504 => ((wide_Mul.f (IntKind.u64.wrap (Int.tdiv (IntKind.u64.wrap (a0_1)) t4503)) (IntKind.u64.wrap (Int.tdiv (IntKind.u64.wrap (a1_1)) t4502))).bind fun bt4506 => ((ratio_told.f bt4504.1 bt4504.2 bt4506.1 bt4506.2).bind fun bt4508 => (some (bt4508.1, bt4508.2.1, bt4508.2.2))))))))
def ratio_Mul.T1 : Bool × List (List Nat × List Nat) := (true, [([], []), ([0], [0]), ([1], [1]), ([], []), ([3], [3]), ([4], [4]), ([2, 5], [2, 5]), ([], []), ([7], [7]), ([8], [8]), ([], []), ([10], [10]), ([11], [11]), ([9, 12, 6], [9, 12]), ([6, 13, 0, 1, 2, 3, 4, 5, 6], [6]), ([13, 14, 0, 1, 2, 3, 4, 5, 6, 7, 8, 9, 10, 11, 12, 13, 14], [13])])
def ratio_Mul.B1 : List Nat := [0, 1, 3, 0, 8, 24, 63, 0, 128, 384, 0, 1024, 3072, 8191, 16383, 32767]
theorem ratio_Mul.tab1 : rtab .any (opsOf Try.f48 1) = ratio_Mul.T1 := by kernel_rfl
theorem ratio_Mul.bits1 : waitsOk ratio_Mul.T1.2 ratio_Mul.B1 = true := by kernel_rfl
def ratio_Mul.T2 : Bool × List (List Nat × List Nat) := (true, [([], []), ([0], [0]), ([1], [1]), ([], []), ([2, 3], [2, 3]), ([], []), ([5], [5]), ([6], [6]), ([], []), ([7, 8], [7, 8]), ([4, 9], [4, 9]), ([], []), ([11], [11]), ([12], [12]), ([], []), ([13, 14], [13, 14]), ([], []), ([16], [16]), ([17], [17]), ([], []), ([18, 19], [18, 19]), ([15, 20, 10], [15, 20]), ([10, 21, 21], [10, 21]), ([22], [22]), ([22], [22]), ([23, 22, 0, 1, 2, 3, 4, 5, 6, 7, 8, 9, 10, 11, 12, 13, 14, 15, 16, 17, 18, 19, 20, 21, 22, 23, 24], [23]), ([24, 25, 0, 1, 2, 3, 4, 5, 6, 7, 8, 9, 10, 11, 12, 13, 14, 15, 16, 17, 18, 19, 20, 21, 22, 23, 24, 25], [24])])
def ratio_Mul.B2 : List Nat := [0, 1, 3, 0, 15, 0, 32, 96, 0, 480, 1023, 0, 2048, 6144, 0, 30720, 0, 65536, 196608, 0, 983040, 2097151, 4194303, 8388607, 8388607, 33554431, 67108863]
theorem ratio_Mul.tab2 : rtab .any (opsOf Try.f48 2) = ratio_Mul.T2 := by kernel_rfl
theorem ratio_Mul.bits2 : waitsOk ratio_Mul.T2.2 ratio_Mul.B2 = true := by kernel_rfl
set_option maxHeartbeats 8000000 in
set_option maxRecDepth 100000 in
theorem ratio_Mul.calls (a0_0 : Int) (a0_1 : Int) (a1_0 : Int) (a1_1 : Int) (r1 : Int) (r2 : Int) (r3 : Int) (w : World) (h : ratio_Mul.f a0_0 a0_1 a1_0 a1_1 = some (r1, r2, r3)) :
    Calls Try.prog 48 #[.agg #[.int .i64 a0_0, .int .i64 a0_1], .agg #[.int .i64 a1_0, .int .i64 a1_1]] w fun e w' => e = .returned (.tuple #[.agg #[.int .i64 r1, .int .i64 r2], .int .i64 r3]) ∧ Below w.heap.size w w' := by
  have hu57 := Try.underlying57
  have HB := Aside0.mk (Below.refl w.heap.size w)
  have H : ((ratio_Gcd.f (IntKind.u64.wrap (a0_0)) (IntKind.u64.wrap (a1_1))).bind fun t4502 => ((ratio_Gcd.f (IntKind.u64.wrap (a1_0)) (IntKind.u64.wrap (a0_1))).bind fun t4503 => (if t4502 = 0 then (none) else (if t4503 = 0 then (none) else ((wide_Mul.f (IntKind.u64.wrap (Int.tdiv (IntKind.u64.wrap (a0_0)) t4502)) (IntKind.u64.wrap (Int.tdiv (IntKind.u64.wrap (a1_0)) t4503))).bind fun bt4504 => ((wide_Mul.f (IntKind.u64.wrap (Int.tdiv (IntKind.u64.wrap (a0_1)) t4503)) (IntKind.u64.wrap (Int.tdiv (IntKind.u64.wrap (a1_1)) t4502))).bind fun bt4506 => ((ratio_told.f bt4504.1 bt4504.2 bt4506.1 bt4506.2).bind fun bt4508 => (some (bt4508.1, bt4508.2.1, bt4508.2.2))))))))) = some (r1, r2, r3) := h
  clear h
  replace H := Option.bind_eq_some_iff.mp H
  obtain ⟨t4502, A30, H⟩ := H
  replace H : ((ratio_Gcd.f (IntKind.u64.wrap (a1_0)) (IntKind.u64.wrap (a0_1))).bind fun t4503 => (if t4502 = 0 then (none) else (if t4503 = 0 then (none) else ((wide_Mul.f (IntKind.u64.wrap (Int.tdiv (IntKind.u64.wrap (a0_0)) t4502)) (IntKind.u64.wrap (Int.tdiv (IntKind.u64.wrap (a1_0)) t4503))).bind fun bt4504 => ((wide_Mul.f (IntKind.u64.wrap (Int.tdiv (IntKind.u64.wrap (a0_1)) t4503)) (IntKind.u64.wrap (Int.tdiv (IntKind.u64.wrap (a1_1)) t4502))).bind fun bt4506 => ((ratio_told.f bt4504.1 bt4504.2 bt4506.1 bt4506.2).bind fun bt4508 => (some (bt4508.1, bt4508.2.1, bt4508.2.2)))))))) = some (r1, r2, r3) := H
  have A3 := Aside0.mk A30
  clear A30
  replace H := Option.bind_eq_some_iff.mp H
  obtain ⟨t4503, A40, H⟩ := H
  replace H : (if t4502 = 0 then (none) else (if t4503 = 0 then (none) else ((wide_Mul.f (IntKind.u64.wrap (Int.tdiv (IntKind.u64.wrap (a0_0)) t4502)) (IntKind.u64.wrap (Int.tdiv (IntKind.u64.wrap (a1_0)) t4503))).bind fun bt4504 => ((wide_Mul.f (IntKind.u64.wrap (Int.tdiv (IntKind.u64.wrap (a0_1)) t4503)) (IntKind.u64.wrap (Int.tdiv (IntKind.u64.wrap (a1_1)) t4502))).bind fun bt4506 => ((ratio_told.f bt4504.1 bt4504.2 bt4506.1 bt4506.2).bind fun bt4508 => (some (bt4508.1, bt4508.2.1, bt4508.2.2))))))) = some (r1, r2, r3) := H
  have A4 := Aside0.mk A40
  clear A40
  by_cases c5 : t4502 = 0
  · rw [if_pos c5] at H
    exact absurd H (by simp)
  · rw [if_neg c5] at H
    have c5b0 : (t4502 == 0) = false := beq_eq_false_iff_ne.mpr c5
    have c5b1 : (t4502 != 0) = true := bne_iff_ne.mpr c5
    by_cases c6 : t4503 = 0
    · rw [if_pos c6] at H
      exact absurd H (by simp)
    · rw [if_neg c6] at H
      have c6b0 : (t4503 == 0) = false := beq_eq_false_iff_ne.mpr c6
      have c6b1 : (t4503 != 0) = true := bne_iff_ne.mpr c6
      replace H := Option.bind_eq_some_iff.mp H
      obtain ⟨⟨t4504, t4505⟩, A70, H⟩ := H
      replace H : ((wide_Mul.f (IntKind.u64.wrap (Int.tdiv (IntKind.u64.wrap (a0_1)) t4503)) (IntKind.u64.wrap (Int.tdiv (IntKind.u64.wrap (a1_1)) t4502))).bind fun bt4506 => ((ratio_told.f t4504 t4505 bt4506.1 bt4506.2).bind fun bt4508 => (some (bt4508.1, bt4508.2.1, bt4508.2.2)))) = some (r1, r2, r3) := H
      have A7 := Aside0.mk A70
      clear A70
      replace H := Option.bind_eq_some_iff.mp H
      obtain ⟨⟨t4506, t4507⟩, A80, H⟩ := H
      replace H : ((ratio_told.f t4504 t4505 t4506 t4507).bind fun bt4508 => (some (bt4508.1, bt4508.2.1, bt4508.2.2))) = some (r1, r2, r3) := H
      have A8 := Aside0.mk A80
      clear A80
      replace H := Option.bind_eq_some_iff.mp H
      obtain ⟨⟨t4508, t4509, t4510⟩, A90, H⟩ := H
      replace H : (some (t4508, t4509, t4510)) = some (r1, r2, r3) := H
      have A9 := Aside0.mk A90
      clear A90
      simp only [Option.some.injEq, Prod.mk.injEq] at H
      obtain ⟨rfl, rfl, rfl⟩ := H
      go_enter Try.func48, Try.ntmps48
      try go_wp2_with (first | ((with_reducible refine gate_dst (N := 2) rfl ?_); refine box_event ?hg (N := 2) ?hd (cs := #[.int .i64 a0_0, .int .i64 a0_1]) (t := 57) ?hr ?_; (case hd => rfl); (case hg => rfl); (case hr => go_simp); intro gb4499 hg w10 hbox hb; have n0_ := Aside0.mk (below_step (by repeat (first | (with_reducible first | exact HB.out | apply below_alloc | apply pw_below_drewN | apply below_drew1) | exact HB.out)) hb); have n1_ := Aside0.mk (hbox); have n2_ := Aside0.mk ((by rw [hg]; exact (below_size (by repeat (first | (with_reducible first | exact HB.out | apply below_alloc | apply pw_below_drewN | apply below_drew1) | exact HB.out))) : w.heap.size ≤ gb4499)); have n3_ := Aside0.mk ((by rw [hg]; exact (below_size (by repeat (first | (with_reducible first | exact HB.out | apply below_alloc | apply pw_below_drewN | apply below_drew1) | exact HB.out))) : w.heap.size ≤ gb4499)); clear HB; have HB := n0_; have BK4499 := n1_; have GW4499 := n2_; have GE4499 := n3_; clear n0_ n1_ n2_ n3_; clear hb hbox hg) | ((with_reducible refine gate_dst (N := 3) rfl ?_); refine box_event ?hg (N := 3) ?hd (cs := #[.int .i64 a1_0, .int .i64 a1_1]) (t := 57) ?hr ?_; (case hd => rfl); (case hg => rfl); (case hr => go_simp); intro gb4500 hg w11 hbox hb; have n0_ := Aside0.mk (blk_below BK4499.out hb); have n1_ := Aside0.mk (below_step (by repeat (first | (with_reducible first | exact HB.out | apply below_alloc | apply pw_below_drewN | apply below_drew1 | refine below_set ?_ GE4499.out) | exact HB.out)) hb); have n2_ := Aside0.mk (hbox); have n3_ := Aside0.mk ((by rw [hg]; exact (below_size (by repeat (first | (with_reducible first | exact HB.out | apply below_alloc | apply pw_below_drewN | apply below_drew1 | refine below_set ?_ GE4499.out) | exact HB.out))) : w.heap.size ≤ gb4500)); have n4_ := Aside0.mk ((by rw [hg]; exact (below_size (by repeat (first | (with_reducible first | exact HB.out | apply below_alloc | apply pw_below_drewN | apply below_drew1 | refine below_set ?_ GE4499.out) | exact HB.out))) : w.heap.size ≤ gb4500)); have n5_ := Aside0.mk ((by rw [hg]; exact Nat.ne_of_lt (blk_lt (g := gb4499) (o := .cells #[.int .i64 a0_0, .int .i64 a0_1] 57 (0, 0)) BK4499.out) : gb4499 ≠ gb4500)); have n6_ := Aside0.mk ((by rw [hg]; exact Nat.ne_of_gt (blk_lt (g := gb4499) (o := .cells #[.int .i64 a0_0, .int .i64 a0_1] 57 (0, 0)) BK4499.out) : gb4500 ≠ gb4499)); clear BK4499 HB; have BK4499 := n0_; have HB := n1_; have BK4500 := n2_; have GW4500 := n3_; have GE4500 := n4_; have NB4499_4500 := n5_; have NB4500_4499 := n6_; clear n0_ n1_ n2_ n3_ n4_ n5_ n6_; clear hb hbox hg) | ((with_reducible refine gate_dst (N := 4) rfl ?_); refine box_event ?hg (N := 4) ?hd (cs := #[.int .i64 0, .int .i64 0]) (t := 57) ?hr ?_; (case hd => rfl); (case hg => rfl); (case hr => go_simp); intro gb4501 hg w12 hbox hb; have n0_ := Aside0.mk (blk_below BK4499.out hb); have n1_ := Aside0.mk (blk_below BK4500.out hb); have n2_ := Aside0.mk (below_step (by repeat (first | (with_reducible first | exact HB.out | apply below_alloc | apply pw_below_drewN | apply below_drew1 | refine below_set ?_ GE4499.out | refine below_set ?_ GE4500.out) | exact HB.out)) hb); have n3_ := Aside0.mk (hbox); have n4_ := Aside0.mk ((by rw [hg]; exact (below_size (by repeat (first | (with_reducible first | exact HB.out | apply below_alloc | apply pw_below_drewN | apply below_drew1 | refine below_set ?_ GE4499.out | refine below_set ?_ GE4500.out) | exact HB.out))) : w.heap.size ≤ gb4501)); have n5_ := Aside0.mk ((by rw [hg]; exact (below_size (by repeat (first | (with_reducible first | exact HB.out | apply below_alloc | apply pw_below_drewN | apply below_drew1 | refine below_set ?_ GE4499.out | refine below_set ?_ GE4500.out) | exact HB.out))) : w.heap.size ≤ gb4501)); have n6_ := Aside0.mk ((by rw [hg]; exact Nat.ne_of_lt (blk_lt (g := gb4499) (o := .cells #[.int .i64 a0_0, .int .i64 a0_1] 57 (0, 0)) BK4499.out) : gb4499 ≠ gb4501)); have n7_ := Aside0.mk ((by rw [hg]; exact Nat.ne_of_gt (blk_lt (g := gb4499) (o := .cells #[.int .i64 a0_0, .int .i64 a0_1] 57 (0, 0)) BK4499.out) : gb4501 ≠ gb4499)); have n8_ := Aside0.mk ((by rw [hg]; exact Nat.ne_of_lt (blk_lt (g := gb4500) (o := .cells #[.int .i64 a1_0, .int .i64 a1_1] 57 (0, 0)) BK4500.out) : gb4500 ≠ gb4501)); have n9_ := Aside0.mk ((by rw [hg]; exact Nat.ne_of_gt (blk_lt (g := gb4500) (o := .cells #[.int .i64 a1_0, .int .i64 a1_1] 57 (0, 0)) BK4500.out) : gb4501 ≠ gb4500)); clear BK4499 BK4500; clear HB; have BK4499 := n0_; have BK4500 := n1_; have HB := n2_; have BK4501 := n3_; have GW4501 := n4_; have GE4501 := n5_; have NB4499_4501 := n6_; have NB4501_4499 := n7_; have NB4500_4501 := n8_; have NB4501_4500 := n9_; clear n0_ n1_ n2_ n3_ n4_ n5_ n6_ n7_ n8_ n9_; clear hb hbox hg))
      have n0_ := Aside0.mk (blk_drew BK4499.out)
      have n1_ := Aside0.mk (blk_drew BK4500.out)
      have n2_ := Aside0.mk (blk_drew BK4501.out)
      have n3_ := Aside0.mk (below_drew1 HB.out)
      clear BK4499 BK4500 BK4501 HB
      have BK4499 := n0_
      have BK4500 := n1_
      have BK4501 := n2_
      have HB := n3_
      clear n0_ n1_ n2_ n3_
      refine start_ (n := 16) (S := fun w' => w'.cell? ⟨gb4499, 0, none⟩ = some (.int .i64 a0_0) ∧ w'.cell? ⟨gb4499, 1, none⟩ = some (.int .i64 a0_1) ∧ w'.cell? ⟨gb4500, 0, none⟩ = some (.int .i64 a1_0) ∧ w'.cell? ⟨gb4500, 1, none⟩ = some (.int .i64 a1_1)) (ds := []) (ratio_Cmp.ups 16 0) (by kernel_rfl) rfl rfl ⟨(blk_cell BK4499.out 0).trans rfl, (blk_cell BK4499.out 1).trans rfl, (blk_cell BK4500.out 0).trans rfl, (blk_cell BK4500.out 1).trans rfl⟩ (fun hHeld => ?_); refine with_tabW ratio_Mul.tab1 ratio_Mul.bits1 (fun HT_ HW_ => ?_)
      generalize w12.drew = w13 at BK4499 BK4500 BK4501 HB hHeld ⊢
      refine pure_ (i := 0) (N := some 8) (v := ?_) (a' := ?_) (ratio_Cmp.ups 16 1) rfl rfl (any_of HT_.out (by kernel_rfl)) (fun _ _ _ h => h) (Or.inl ⟨by rfl, ?_⟩) ?_ ?_
      rotate_left
      · intro w'
        go_simp
        with_reducible rfl
      rotate_left
      · simp only [Act.put, List.setIfInBounds_toArray, List.set_cons_zero, List.set_cons_succ, i64_w, i32_w]
        rfl
      refine pure_ (i := 3) (N := some 11) (v := ?_) (a' := ?_) (ratio_Cmp.ups 16 9) rfl rfl (any_of HT_.out (by kernel_rfl)) (fun _ _ _ h => h) (Or.inl ⟨by rfl, ?_⟩) ?_ ?_
      rotate_left
      · intro w'
        go_simp
        with_reducible rfl
      rotate_left
      · simp only [Act.put, List.setIfInBounds_toArray, List.set_cons_zero, List.set_cons_succ, i64_w, i32_w]
        rfl
      refine pure_ (i := 7) (N := some 15) (v := ?_) (a' := ?_) (ratio_Cmp.ups 16 137) rfl rfl (any_of HT_.out (by kernel_rfl)) (fun _ _ _ h => h) (Or.inl ⟨by rfl, ?_⟩) ?_ ?_
      rotate_left
      · intro w'
        go_simp
        with_reducible rfl
      rotate_left
      · simp only [Act.put, List.setIfInBounds_toArray, List.set_cons_zero, List.set_cons_succ, i64_w, i32_w]
        rfl
      refine pure_ (i := 10) (N := some 18) (v := ?_) (a' := ?_) (ratio_Cmp.ups 16 1161) rfl rfl (any_of HT_.out (by kernel_rfl)) (fun _ _ _ h => h) (Or.inl ⟨by rfl, ?_⟩) ?_ ?_
      rotate_left
      · intro w'
        go_simp
        with_reducible rfl
      rotate_left
      · simp only [Act.put, List.setIfInBounds_toArray, List.set_cons_zero, List.set_cons_succ, i64_w, i32_w]
        rfl
      refine take_ (i := 1) (N := some 9) (v := ?_) (a' := ?_) (ratio_Cmp.ups 16 1163) rfl rfl (take_ofW HT_.out HW_.out (by kernel_rfl)) (fun _ _ _ h => h) (Or.inl ⟨by rfl, ?_⟩) hHeld ?_ ?_
      rotate_left
      · rintro w' ⟨s0, s1, s2, s3⟩
        go_simp
        with_reducible rfl
      rotate_left
      · simp only [Act.put, List.setIfInBounds_toArray, List.set_cons_zero, List.set_cons_succ, i64_w, i32_w]
        rfl
      refine pure_ (i := 2) (N := some 10) (v := ?_) (a' := ?_) (ratio_Cmp.ups 16 1167) rfl rfl (any_of HT_.out (by kernel_rfl)) (fun _ _ _ h => h) (Or.inl ⟨by rfl, ?_⟩) ?_ ?_
      rotate_left
      · intro w'
        go_simp
        with_reducible rfl
      rotate_left
      · simp only [Act.put, List.setIfInBounds_toArray, List.set_cons_zero, List.set_cons_succ, i64_w, i32_w]
        rfl
      refine take_ (i := 4) (N := some 12) (v := ?_) (a' := ?_) (ratio_Cmp.ups 16 1183) rfl rfl (take_ofW HT_.out HW_.out (by kernel_rfl)) (fun _ _ _ h => h) (Or.inl ⟨by rfl, ?_⟩) hHeld ?_ ?_
      rotate_left
      · rintro w' ⟨s0, s1, s2, s3⟩
        go_simp
        with_reducible rfl
      rotate_left
      · simp only [Act.put, List.setIfInBounds_toArray, List.set_cons_zero, List.set_cons_succ, i64_w, i32_w]
        rfl
      refine pure_ (i := 5) (N := some 13) (v := ?_) (a' := ?_) (ratio_Cmp.ups 16 1215) rfl rfl (any_of HT_.out (by kernel_rfl)) (fun _ _ _ h => h) (Or.inl ⟨by rfl, ?_⟩) ?_ ?_
      rotate_left
      · intro w'
        go_simp
        with_reducible rfl
      rotate_left
      · simp only [Act.put, List.setIfInBounds_toArray, List.set_cons_zero, List.set_cons_succ, i64_w, i32_w]
        rfl
      refine take_ (i := 8) (N := some 16) (v := ?_) (a' := ?_) (ratio_Cmp.ups 16 1471) rfl rfl (take_ofW HT_.out HW_.out (by kernel_rfl)) (fun _ _ _ h => h) (Or.inl ⟨by rfl, ?_⟩) hHeld ?_ ?_
      rotate_left
      · rintro w' ⟨s0, s1, s2, s3⟩
        go_simp
        with_reducible rfl
      rotate_left
      · simp only [Act.put, List.setIfInBounds_toArray, List.set_cons_zero, List.set_cons_succ, i64_w, i32_w]
        rfl
      refine pure_ (i := 9) (N := some 17) (v := ?_) (a' := ?_) (ratio_Cmp.ups 16 1983) rfl rfl (any_of HT_.out (by kernel_rfl)) (fun _ _ _ h => h) (Or.inl ⟨by rfl, ?_⟩) ?_ ?_
      rotate_left
      · intro w'
        go_simp
        with_reducible rfl
      rotate_left
      · simp only [Act.put, List.setIfInBounds_toArray, List.set_cons_zero, List.set_cons_succ, i64_w, i32_w]
        rfl
      refine take_ (i := 11) (N := some 19) (v := ?_) (a' := ?_) (ratio_Cmp.ups 16 4031) rfl rfl (take_ofW HT_.out HW_.out (by kernel_rfl)) (fun _ _ _ h => h) (Or.inl ⟨by rfl, ?_⟩) hHeld ?_ ?_
      rotate_left
      · rintro w' ⟨s0, s1, s2, s3⟩
        go_simp
        with_reducible rfl
      rotate_left
      · simp only [Act.put, List.setIfInBounds_toArray, List.set_cons_zero, List.set_cons_succ, i64_w, i32_w]
        rfl
      refine pure_ (i := 12) (N := some 20) (v := ?_) (a' := ?_) (ratio_Cmp.ups 16 8127) rfl rfl (any_of HT_.out (by kernel_rfl)) (fun _ _ _ h => h) (Or.inl ⟨by rfl, ?_⟩) ?_ ?_
      rotate_left
      · intro w'
        go_simp
        with_reducible rfl
      rotate_left
      · simp only [Act.put, List.setIfInBounds_toArray, List.set_cons_zero, List.set_cons_succ, i64_w, i32_w]
        rfl
      refine one_ (i := 6) (N := some 14) (ratio_Cmp.ups 16 8191) rfl rfl (one_of HT_.out (by kernel_rfl)) (by decide) (fun K hK => ?_)
      refine goes_ Try.func45 (by kernel_rfl) rfl #[.int .u64 (IntKind.u64.wrap (a0_0)), .int .u64 (IntKind.u64.wrap (a1_1))] (by rfl) rfl rfl (by (try simp only [List.map_toArray, List.map_cons, List.map_nil]); first | done | rfl) ?_
      with_reducible refine (ratio_Gcd.calls (IntKind.u64.wrap (a0_0)) (IntKind.u64.wrap (a1_1)) t4502 _ A3.out).mono ?_
      rintro e w14 ⟨rfl, hb⟩
      refine ⟨_, rfl, ?_⟩
      have n0_ := Aside0.mk (blk_below BK4499.out hb)
      have n1_ := Aside0.mk (blk_below BK4500.out hb)
      have n2_ := Aside0.mk (blk_below BK4501.out hb)
      have n3_ := Aside0.mk (below_step (by repeat (first | (with_reducible first | exact HB.out | apply below_alloc | apply pw_below_drewN | apply below_drew1 | refine below_set ?_ GE4499.out | refine below_set ?_ GE4500.out | refine below_set ?_ GE4501.out) | exact HB.out)) hb)
      clear BK4499 BK4500 BK4501 HB
      have BK4499 := n0_
      have BK4500 := n1_
      have BK4501 := n2_
      have HB := n3_
      clear n0_ n1_ n2_ n3_
      (try clear hb)
      (try clear hb2)
      (try clear hk)
      (try clear hi)
      refine hK.out _ _ ⟨(blk_cell BK4499.out 0).trans rfl, (blk_cell BK4499.out 1).trans rfl, (blk_cell BK4500.out 0).trans rfl, (blk_cell BK4500.out 1).trans rfl⟩ (fun hHeld => ?_)
      clear hK K
      refine norm_ (a' := ?_) ?_ ?_
      rotate_left
      · show Act.put _ (some 14) _ = _
        simp only [Act.put, List.setIfInBounds_toArray, List.set_cons_zero, List.set_cons_succ, i64_w, i32_w]
        rfl
      refine one_ (i := 13) (N := some 21) (ratio_Cmp.ups 16 16383) rfl rfl (one_of HT_.out (by kernel_rfl)) (by decide) (fun K hK => ?_)
      refine goes_ Try.func45 (by kernel_rfl) rfl #[.int .u64 (IntKind.u64.wrap (a1_0)), .int .u64 (IntKind.u64.wrap (a0_1))] (by rfl) rfl rfl (by (try simp only [List.map_toArray, List.map_cons, List.map_nil]); first | done | rfl) ?_
      with_reducible refine (ratio_Gcd.calls (IntKind.u64.wrap (a1_0)) (IntKind.u64.wrap (a0_1)) t4503 _ A4.out).mono ?_
      rintro e w15 ⟨rfl, hb⟩
      refine ⟨_, rfl, ?_⟩
      have n0_ := Aside0.mk (blk_below BK4499.out hb)
      have n1_ := Aside0.mk (blk_below BK4500.out hb)
      have n2_ := Aside0.mk (blk_below BK4501.out hb)
      have n3_ := Aside0.mk (below_step (by repeat (first | (with_reducible first | exact HB.out | apply below_alloc | apply pw_below_drewN | apply below_drew1 | refine below_set ?_ GE4499.out | refine below_set ?_ GE4500.out | refine below_set ?_ GE4501.out) | exact HB.out)) hb)
      clear BK4499 BK4500 BK4501 HB
      have BK4499 := n0_
      have BK4500 := n1_
      have BK4501 := n2_
      have HB := n3_
      clear n0_ n1_ n2_ n3_
      (try clear hb)
      (try clear hb2)
      (try clear hk)
      (try clear hi)
      refine hK.out _ _ ⟨(blk_cell BK4499.out 0).trans rfl, (blk_cell BK4499.out 1).trans rfl, (blk_cell BK4500.out 0).trans rfl, (blk_cell BK4500.out 1).trans rfl⟩ (fun hHeld => ?_)
      clear hK K
      refine norm_ (a' := ?_) ?_ ?_
      rotate_left
      · show Act.put _ (some 21) _ = _
        simp only [Act.put, List.setIfInBounds_toArray, List.set_cons_zero, List.set_cons_succ, i64_w, i32_w]
        rfl
      refine pure_ (i := 14) (N := some 6) (v := ?_) (a' := ?_) (ratio_Cmp.ups 16 32767) rfl rfl (any_of HT_.out (by kernel_rfl)) (fun _ _ _ h => h) (Or.inl ⟨by rfl, ?_⟩) ?_ ?_
      rotate_left
      · intro w'
        go_simp
        with_reducible rfl
      rotate_left
      · simp only [Act.put, List.setIfInBounds_toArray, List.set_cons_zero, List.set_cons_succ, i64_w, i32_w]
        rfl
      refine pure_ (i := 15) (N := some 7) (v := ?_) (a' := ?_) (ratio_Cmp.ups 16 65535) rfl rfl (any_of HT_.out (by kernel_rfl)) (fun _ _ _ h => h) (Or.inl ⟨by rfl, ?_⟩) ?_ ?_
      rotate_left
      · intro w'
        go_simp
        with_reducible rfl
      rotate_left
      · simp only [Act.put, List.setIfInBounds_toArray, List.set_cons_zero, List.set_cons_succ, i64_w, i32_w]
        rfl
      refine done_ (done_of HT_.out (by kernel_rfl)) ?_
      try go_wp2
      have n0_ := Aside0.mk (blk_drew BK4499.out)
      have n1_ := Aside0.mk (blk_drew BK4500.out)
      have n2_ := Aside0.mk (blk_drew BK4501.out)
      have n3_ := Aside0.mk (below_drew1 HB.out)
      clear BK4499 BK4500 BK4501 HB
      have BK4499 := n0_
      have BK4500 := n1_
      have BK4501 := n2_
      have HB := n3_
      clear n0_ n1_ n2_ n3_
      refine start_ (n := 27) (S := fun w' => w'.cell? ⟨gb4499, 0, none⟩ = some (.int .i64 a0_0) ∧ w'.cell? ⟨gb4499, 1, none⟩ = some (.int .i64 a0_1) ∧ w'.cell? ⟨gb4500, 0, none⟩ = some (.int .i64 a1_0) ∧ w'.cell? ⟨gb4500, 1, none⟩ = some (.int .i64 a1_1)) (ds := []) (ratio_Cmp.ups 27 0) (by kernel_rfl) rfl rfl ⟨(blk_cell BK4499.out 0).trans rfl, (blk_cell BK4499.out 1).trans rfl, (blk_cell BK4500.out 0).trans rfl, (blk_cell BK4500.out 1).trans rfl⟩ (fun hHeld => ?_); refine with_tabW ratio_Mul.tab2 ratio_Mul.bits2 (fun HT_ HW_ => ?_)
      generalize w15.drew = w16 at BK4499 BK4500 BK4501 HB hHeld ⊢
      refine pure_ (i := 0) (N := some 22) (v := ?_) (a' := ?_) (ratio_Cmp.ups 27 1) rfl rfl (any_of HT_.out (by kernel_rfl)) (fun _ _ _ h => h) (Or.inl ⟨by rfl, ?_⟩) ?_ ?_
      rotate_left
      · intro w'
        go_simp
        with_reducible rfl
      rotate_left
      · simp only [Act.put, List.setIfInBounds_toArray, List.set_cons_zero, List.set_cons_succ, i64_w, i32_w]
        rfl
      refine pure_ (i := 3) (N := some 25) (v := ?_) (a' := ?_) (ratio_Cmp.ups 27 9) rfl rfl (any_of HT_.out (by kernel_rfl)) (fun _ _ _ h => h) (Or.inl ⟨by rfl, ?_⟩) ?_ ?_
      rotate_left
      · intro w'
        go_simp
        with_reducible rfl
      rotate_left
      · simp only [Act.put, List.setIfInBounds_toArray, List.set_cons_zero, List.set_cons_succ, i64_w, i32_w]
        rfl
      refine pure_ (i := 5) (N := some 27) (v := ?_) (a' := ?_) (ratio_Cmp.ups 27 41) rfl rfl (any_of HT_.out (by kernel_rfl)) (fun _ _ _ h => h) (Or.inl ⟨by rfl, ?_⟩) ?_ ?_
      rotate_left
      · intro w'
        go_simp
        with_reducible rfl
      rotate_left
      · simp only [Act.put, List.setIfInBounds_toArray, List.set_cons_zero, List.set_cons_succ, i64_w, i32_w]
        rfl
      refine pure_ (i := 8) (N := some 30) (v := ?_) (a' := ?_) (ratio_Cmp.ups 27 297) rfl rfl (any_of HT_.out (by kernel_rfl)) (fun _ _ _ h => h) (Or.inl ⟨by rfl, ?_⟩) ?_ ?_
      rotate_left
      · intro w'
        go_simp
        with_reducible rfl
      rotate_left
      · simp only [Act.put, List.setIfInBounds_toArray, List.set_cons_zero, List.set_cons_succ, i64_w, i32_w]
        rfl
      refine pure_ (i := 11) (N := some 33) (v := ?_) (a' := ?_) (ratio_Cmp.ups 27 2345) rfl rfl (any_of HT_.out (by kernel_rfl)) (fun _ _ _ h => h) (Or.inl ⟨by rfl, ?_⟩) ?_ ?_
      rotate_left
      · intro w'
        go_simp
        with_reducible rfl
      rotate_left
      · simp only [Act.put, List.setIfInBounds_toArray, List.set_cons_zero, List.set_cons_succ, i64_w, i32_w]
        rfl
      refine pure_ (i := 14) (N := some 36) (v := ?_) (a' := ?_) (ratio_Cmp.ups 27 18729) rfl rfl (any_of HT_.out (by kernel_rfl)) (fun _ _ _ h => h) (Or.inl ⟨by rfl, ?_⟩) ?_ ?_
      rotate_left
      · intro w'
        go_simp
        with_reducible rfl
      rotate_left
      · simp only [Act.put, List.setIfInBounds_toArray, List.set_cons_zero, List.set_cons_succ, i64_w, i32_w]
        rfl
      refine pure_ (i := 16) (N := some 38) (v := ?_) (a' := ?_) (ratio_Cmp.ups 27 84265) rfl rfl (any_of HT_.out (by kernel_rfl)) (fun _ _ _ h => h) (Or.inl ⟨by rfl, ?_⟩) ?_ ?_
      rotate_left
      · intro w'
        go_simp
        with_reducible rfl
      rotate_left
      · simp only [Act.put, List.setIfInBounds_toArray, List.set_cons_zero, List.set_cons_succ, i64_w, i32_w]
        rfl
      refine pure_ (i := 19) (N := some 41) (v := ?_) (a' := ?_) (ratio_Cmp.ups 27 608553) rfl rfl (any_of HT_.out (by kernel_rfl)) (fun _ _ _ h => h) (Or.inl ⟨by rfl, ?_⟩) ?_ ?_
      rotate_left
      · intro w'
        go_simp
        with_reducible rfl
      rotate_left
      · simp only [Act.put, List.setIfInBounds_toArray, List.set_cons_zero, List.set_cons_succ, i64_w, i32_w]
        rfl
      refine take_ (i := 1) (N := some 23) (v := ?_) (a' := ?_) (ratio_Cmp.ups 27 608555) rfl rfl (take_ofW HT_.out HW_.out (by kernel_rfl)) (fun _ _ _ h => h) (Or.inl ⟨by rfl, ?_⟩) hHeld ?_ ?_
      rotate_left
      · rintro w' ⟨s0, s1, s2, s3⟩
        go_simp
        with_reducible rfl
      rotate_left
      · simp only [Act.put, List.setIfInBounds_toArray, List.set_cons_zero, List.set_cons_succ, i64_w, i32_w]
        rfl
      refine pure_ (i := 2) (N := some 24) (v := ?_) (a' := ?_) (ratio_Cmp.ups 27 608559) rfl rfl (any_of HT_.out (by kernel_rfl)) (fun _ _ _ h => h) (Or.inl ⟨by rfl, ?_⟩) ?_ ?_
      rotate_left
      · intro w'
        go_simp
        with_reducible rfl
      rotate_left
      · simp only [Act.put, List.setIfInBounds_toArray, List.set_cons_zero, List.set_cons_succ, i64_w, i32_w]
        rfl
      refine pure_ (i := 4) (N := some 26) (v := ?_) (a' := ?_) (ratio_Cmp.ups 27 608575) rfl rfl (any_of HT_.out (by kernel_rfl)) (fun _ _ _ h => h) (Or.inl ⟨by rfl, ?_⟩) ?_ ?_
      rotate_left
      · intro w'
        go_simp
        with_reducible rfl
      rotate_left
      · simp only [Act.put, List.setIfInBounds_toArray, List.set_cons_zero, List.set_cons_succ, i64_w, i32_w]
        rfl
      refine take_ (i := 6) (N := some 28) (v := ?_) (a' := ?_) (ratio_Cmp.ups 27 608639) rfl rfl (take_ofW HT_.out HW_.out (by kernel_rfl)) (fun _ _ _ h => h) (Or.inl ⟨by rfl, ?_⟩) hHeld ?_ ?_
      rotate_left
      · rintro w' ⟨s0, s1, s2, s3⟩
        go_simp
        with_reducible rfl
      rotate_left
      · simp only [Act.put, List.setIfInBounds_toArray, List.set_cons_zero, List.set_cons_succ, i64_w, i32_w]
        rfl
      refine pure_ (i := 7) (N := some 29) (v := ?_) (a' := ?_) (ratio_Cmp.ups 27 608767) rfl rfl (any_of HT_.out (by kernel_rfl)) (fun _ _ _ h => h) (Or.inl ⟨by rfl, ?_⟩) ?_ ?_
      rotate_left
      · intro w'
        go_simp
        with_reducible rfl
      rotate_left
      · simp only [Act.put, List.setIfInBounds_toArray, List.set_cons_zero, List.set_cons_succ, i64_w, i32_w]
        rfl
      refine pure_ (i := 9) (N := some 31) (v := ?_) (a' := ?_) (ratio_Cmp.ups 27 609279) rfl rfl (any_of HT_.out (by kernel_rfl)) (fun _ _ _ h => h) (Or.inl ⟨by rfl, ?_⟩) ?_ ?_
      rotate_left
      · intro w'
        go_simp
        with_reducible rfl
      rotate_left
      · simp only [Act.put, List.setIfInBounds_toArray, List.set_cons_zero, List.set_cons_succ, i64_w, i32_w]
        rfl
      refine take_ (i := 12) (N := some 34) (v := ?_) (a' := ?_) (ratio_Cmp.ups 27 613375) rfl rfl (take_ofW HT_.out HW_.out (by kernel_rfl)) (fun _ _ _ h => h) (Or.inl ⟨by rfl, ?_⟩) hHeld ?_ ?_
      rotate_left
      · rintro w' ⟨s0, s1, s2, s3⟩
        go_simp
        with_reducible rfl
      rotate_left
      · simp only [Act.put, List.setIfInBounds_toArray, List.set_cons_zero, List.set_cons_succ, i64_w, i32_w]
        rfl
      refine pure_ (i := 13) (N := some 35) (v := ?_) (a' := ?_) (ratio_Cmp.ups 27 621567) rfl rfl (any_of HT_.out (by kernel_rfl)) (fun _ _ _ h => h) (Or.inl ⟨by rfl, ?_⟩) ?_ ?_
      rotate_left
      · intro w'
        go_simp
        with_reducible rfl
      rotate_left
      · simp only [Act.put, List.setIfInBounds_toArray, List.set_cons_zero, List.set_cons_succ, i64_w, i32_w]
        rfl
      refine pure_ (i := 15) (N := some 37) (v := ?_) (a' := ?_) (ratio_Cmp.ups 27 654335) rfl rfl (any_of HT_.out (by kernel_rfl)) (fun _ _ _ h => h) (Or.inl ⟨by rfl, ?_⟩) ?_ ?_
      rotate_left
      · intro w'
        go_simp
        with_reducible rfl
      rotate_left
      · simp only [Act.put, List.setIfInBounds_toArray, List.set_cons_zero, List.set_cons_succ, i64_w, i32_w]
        rfl
      refine take_ (i := 17) (N := some 39) (v := ?_) (a' := ?_) (ratio_Cmp.ups 27 785407) rfl rfl (take_ofW HT_.out HW_.out (by kernel_rfl)) (fun _ _ _ h => h) (Or.inl ⟨by rfl, ?_⟩) hHeld ?_ ?_
      rotate_left
      · rintro w' ⟨s0, s1, s2, s3⟩
        go_simp
        with_reducible rfl
      rotate_left
      · simp only [Act.put, List.setIfInBounds_toArray, List.set_cons_zero, List.set_cons_succ, i64_w, i32_w]
        rfl
      refine pure_ (i := 18) (N := some 40) (v := ?_) (a' := ?_) (ratio_Cmp.ups 27 1047551) rfl rfl (any_of HT_.out (by kernel_rfl)) (fun _ _ _ h => h) (Or.inl ⟨by rfl, ?_⟩) ?_ ?_
      rotate_left
      · intro w'
        go_simp
        with_reducible rfl
      rotate_left
      · simp only [Act.put, List.setIfInBounds_toArray, List.set_cons_zero, List.set_cons_succ, i64_w, i32_w]
        rfl
      refine pure_ (i := 20) (N := some 42) (v := ?_) (a' := ?_) (ratio_Cmp.ups 27 2096127) rfl rfl (any_of HT_.out (by kernel_rfl)) (fun _ _ _ h => h) (Or.inl ⟨by rfl, ?_⟩) ?_ ?_
      rotate_left
      · intro w'
        go_simp
        with_reducible rfl
      rotate_left
      · simp only [Act.put, List.setIfInBounds_toArray, List.set_cons_zero, List.set_cons_succ, i64_w, i32_w]
        rfl
      refine one_ (i := 10) (N := some 32) (ratio_Cmp.ups 27 2097151) rfl rfl (one_of HT_.out (by kernel_rfl)) (by decide) (fun K hK => ?_)
      refine goes_ Try.func34 (by kernel_rfl) rfl #[.int .u64 (IntKind.u64.wrap (Int.tdiv (IntKind.u64.wrap (a0_0)) t4502)), .int .u64 (IntKind.u64.wrap (Int.tdiv (IntKind.u64.wrap (a1_0)) t4503))] (by rfl) rfl rfl (by (try simp only [List.map_toArray, List.map_cons, List.map_nil]); first | done | rfl) ?_
      with_reducible refine (wide_Mul.calls (IntKind.u64.wrap (Int.tdiv (IntKind.u64.wrap (a0_0)) t4502)) (IntKind.u64.wrap (Int.tdiv (IntKind.u64.wrap (a1_0)) t4503)) t4504 t4505 _ A7.out).mono ?_
      rintro e w17 ⟨rfl, hb⟩
      refine ⟨_, rfl, ?_⟩
      have n0_ := Aside0.mk (blk_below BK4499.out hb)
      have n1_ := Aside0.mk (blk_below BK4500.out hb)
      have n2_ := Aside0.mk (blk_below BK4501.out hb)
      have n3_ := Aside0.mk (below_step (by repeat (first | (with_reducible first | exact HB.out | apply below_alloc | apply pw_below_drewN | apply below_drew1 | refine below_set ?_ GE4499.out | refine below_set ?_ GE4500.out | refine below_set ?_ GE4501.out) | exact HB.out)) hb)
      clear BK4499 BK4500 BK4501 HB
      have BK4499 := n0_
      have BK4500 := n1_
      have BK4501 := n2_
      have HB := n3_
      clear n0_ n1_ n2_ n3_
      (try clear hb)
      (try clear hb2)
      (try clear hk)
      (try clear hi)
      refine hK.out _ _ ⟨(blk_cell BK4499.out 0).trans rfl, (blk_cell BK4499.out 1).trans rfl, (blk_cell BK4500.out 0).trans rfl, (blk_cell BK4500.out 1).trans rfl⟩ (fun hHeld => ?_)
      clear hK K
      refine norm_ (a' := ?_) ?_ ?_
      rotate_left
      · show Act.put _ (some 32) _ = _
        simp only [Act.put, List.setIfInBounds_toArray, List.set_cons_zero, List.set_cons_succ, i64_w, i32_w]
        rfl
      refine one_ (i := 21) (N := some 43) (ratio_Cmp.ups 27 4194303) rfl rfl (one_of HT_.out (by kernel_rfl)) (by decide) (fun K hK => ?_)
      refine goes_ Try.func34 (by kernel_rfl) rfl #[.int .u64 (IntKind.u64.wrap (Int.tdiv (IntKind.u64.wrap (a0_1)) t4503)), .int .u64 (IntKind.u64.wrap (Int.tdiv (IntKind.u64.wrap (a1_1)) t4502))] (by rfl) rfl rfl (by (try simp only [List.map_toArray, List.map_cons, List.map_nil]); first | done | rfl) ?_
      with_reducible refine (wide_Mul.calls (IntKind.u64.wrap (Int.tdiv (IntKind.u64.wrap (a0_1)) t4503)) (IntKind.u64.wrap (Int.tdiv (IntKind.u64.wrap (a1_1)) t4502)) t4506 t4507 _ A8.out).mono ?_
      rintro e w18 ⟨rfl, hb⟩
      refine ⟨_, rfl, ?_⟩
      have n0_ := Aside0.mk (blk_below BK4499.out hb)
      have n1_ := Aside0.mk (blk_below BK4500.out hb)
      have n2_ := Aside0.mk (blk_below BK4501.out hb)
      have n3_ := Aside0.mk (below_step (by repeat (first | (with_reducible first | exact HB.out | apply below_alloc | apply pw_below_drewN | apply below_drew1 | refine below_set ?_ GE4499.out | refine below_set ?_ GE4500.out | refine below_set ?_ GE4501.out) | exact HB.out)) hb)
      clear BK4499 BK4500 BK4501 HB
      have BK4499 := n0_
      have BK4500 := n1_
      have BK4501 := n2_
      have HB := n3_
      clear n0_ n1_ n2_ n3_
      (try clear hb)
      (try clear hb2)
      (try clear hk)
      (try clear hi)
      refine hK.out _ _ ⟨(blk_cell BK4499.out 0).trans rfl, (blk_cell BK4499.out 1).trans rfl, (blk_cell BK4500.out 0).trans rfl, (blk_cell BK4500.out 1).trans rfl⟩ (fun hHeld => ?_)
      clear hK K
      refine norm_ (a' := ?_) ?_ ?_
      rotate_left
      · show Act.put _ (some 43) _ = _
        simp only [Act.put, List.setIfInBounds_toArray, List.set_cons_zero, List.set_cons_succ, i64_w, i32_w]
        rfl
      refine one_ (i := 22) (N := some 44) (ratio_Cmp.ups 27 8388607) rfl rfl (one_of HT_.out (by kernel_rfl)) (by decide) (fun K hK => ?_)
      refine goes_ Try.func72 (by kernel_rfl) rfl #[.agg #[.int .u64 t4504, .int .u64 t4505], .agg #[.int .u64 t4506, .int .u64 t4507]] (by rfl) rfl rfl (by (try simp only [List.map_toArray, List.map_cons, List.map_nil]); first | done | rfl) ?_
      with_reducible refine (ratio_told.calls t4504 t4505 t4506 t4507 t4508 t4509 t4510 _ A9.out).mono ?_
      rintro e w19 ⟨rfl, hb⟩
      refine ⟨_, rfl, ?_⟩
      have n0_ := Aside0.mk (blk_below BK4499.out hb)
      have n1_ := Aside0.mk (blk_below BK4500.out hb)
      have n2_ := Aside0.mk (blk_below BK4501.out hb)
      have n3_ := Aside0.mk (below_step (by repeat (first | (with_reducible first | exact HB.out | apply below_alloc | apply pw_below_drewN | apply below_drew1 | refine below_set ?_ GE4499.out | refine below_set ?_ GE4500.out | refine below_set ?_ GE4501.out) | exact HB.out)) hb)
      clear BK4499 BK4500 BK4501 HB
      have BK4499 := n0_
      have BK4500 := n1_
      have BK4501 := n2_
      have HB := n3_
      clear n0_ n1_ n2_ n3_
      (try clear hb)
      (try clear hb2)
      (try clear hk)
      (try clear hi)
      refine hK.out _ _ ⟨(blk_cell BK4499.out 0).trans rfl, (blk_cell BK4499.out 1).trans rfl, (blk_cell BK4500.out 0).trans rfl, (blk_cell BK4500.out 1).trans rfl⟩ (fun hHeld => ?_)
      clear hK K
      refine norm_ (a' := ?_) ?_ ?_
      rotate_left
      · show Act.put _ (some 44) _ = _
        simp only [Act.put, List.setIfInBounds_toArray, List.set_cons_zero, List.set_cons_succ, i64_w, i32_w]
        rfl
      refine pure_ (i := 23) (N := some 45) (v := ?_) (a' := ?_) (ratio_Cmp.ups 27 16777215) rfl rfl (any_of HT_.out (by kernel_rfl)) (fun _ _ _ h => h) (Or.inl ⟨by rfl, ?_⟩) ?_ ?_
      rotate_left
      · intro w'
        go_simp
        with_reducible rfl
      rotate_left
      · simp only [Act.put, List.setIfInBounds_toArray, List.set_cons_zero, List.set_cons_succ, i64_w, i32_w]
        rfl
      refine pure_ (i := 24) (N := some 46) (v := ?_) (a' := ?_) (ratio_Cmp.ups 27 33554431) rfl rfl (any_of HT_.out (by kernel_rfl)) (fun _ _ _ h => h) (Or.inl ⟨by rfl, ?_⟩) ?_ ?_
      rotate_left
      · intro w'
        go_simp
        with_reducible rfl
      rotate_left
      · simp only [Act.put, List.setIfInBounds_toArray, List.set_cons_zero, List.set_cons_succ, i64_w, i32_w]
        rfl
      refine one_ (i := 25) (N := none) (ratio_Cmp.ups 27 67108863) rfl rfl (one_of HT_.out (by kernel_rfl)) (by decide) (fun K hK => ?_)
      have hs20 : w19.cell? ⟨gb4501, 0, none⟩ = some (.int .i64 0) := (blk_cell BK4501.out 0).trans rfl
      have hfs20 := blk_frozen BK4501.out 0
      have hns20_0 := NB4499_4501.out
      have hns20_1 := NB4500_4501.out
      have hms20_0 := NB4501_4499.out
      have hms20_1 := NB4501_4500.out
      have hs21 : w19.cell? ⟨gb4501, 1, none⟩ = some (.int .i64 0) := (blk_cell BK4501.out 1).trans rfl
      have hfs21 := blk_frozen BK4501.out 1
      have hns21_0 := NB4499_4501.out
      have hns21_1 := NB4500_4501.out
      have hms21_0 := NB4501_4499.out
      have hms21_1 := NB4501_4500.out
      refine skip_ (w1 := ?_) (by rfl) rfl ?_ ?_
      rotate_left
      · go_simp
        rfl
      refine hK.out _ _ ⟨((cell_far (p := ⟨gb4501, _, none⟩) NB4499_4501.out _).trans (((cell_far (p := ⟨gb4501, _, none⟩) NB4499_4501.out _).trans (hHeld.1)))), ((cell_far (p := ⟨gb4501, _, none⟩) NB4499_4501.out _).trans (((cell_far (p := ⟨gb4501, _, none⟩) NB4499_4501.out _).trans (hHeld.2.1)))), ((cell_far (p := ⟨gb4501, _, none⟩) NB4500_4501.out _).trans (((cell_far (p := ⟨gb4501, _, none⟩) NB4500_4501.out _).trans (hHeld.2.2.1)))), ((cell_far (p := ⟨gb4501, _, none⟩) NB4500_4501.out _).trans (((cell_far (p := ⟨gb4501, _, none⟩) NB4500_4501.out _).trans (hHeld.2.2.2))))⟩ (fun hHeld => ?_)
      clear hK K
      refine pure_ (i := 26) (N := some 5) (v := ?_) (a' := ?_) (ratio_Cmp.ups 27 134217727) rfl rfl (any_of HT_.out (by kernel_rfl)) (fun _ _ _ h => h) (Or.inl ⟨by rfl, ?_⟩) ?_ ?_
      rotate_left
      · intro w'
        go_simp
        with_reducible rfl
      rotate_left
      · simp only [Act.put, List.setIfInBounds_toArray, List.set_cons_zero, List.set_cons_succ, i64_w, i32_w]
        rfl
      refine done_ (done_of HT_.out (by kernel_rfl)) ?_
      try go_wp2
      refine bodyPost_ret (results_ct rfl _ _ gb4501 57 #[.int .i64 t4508, .int .i64 t4509] (0, 0) _ rfl (by refine blk_put (cs := #[.int .i64 t4508, .int .i64 0]) ?_ 1 _ rfl; refine blk_put (cs := #[.int .i64 0, .int .i64 0]) ?_ 0 _ rfl; exact BK4501.out) Try.underlying57 rfl (by kernel_rfl)) rfl ?_
      exact ⟨by rfl, by repeat (first | (with_reducible first | exact HB.out | apply below_alloc | apply pw_below_drewN | apply below_drew1 | refine below_set ?_ GE4499.out | refine below_set ?_ GE4500.out | refine below_set ?_ GE4501.out) | exact HB.out)⟩

def ratio_Cmp.f (a0_0 : Int) (a0_1 : Int) (a1_0 : Int) (a1_1 : Int) : Option (Int) := (wide_Mul.f (IntKind.u64.wrap (a0_0)) (IntKind.u64.wrap (a1_1))).bind fun bt4513 => ((wide_Mul.f (IntKind.u64.wrap (a1_0)) (IntKind.u64.wrap (a0_1))).bind fun bt4515 => ((wide_Cmp.f bt4513.1 bt4513.2 bt4515.1 bt4515.2).bind fun t4517 => (some t4517)))
def ratio_Cmp.T1 : Bool × List (List Nat × List Nat) := (true, [([], []), ([0], [0]), ([1], [1]), ([], []), ([3], [3]), ([4], [4]), ([2, 5], [2, 5]), ([], []), ([7], [7]), ([8], [8]), ([], []), ([10], [10]), ([11], [11]), ([9, 12, 6], [9, 12]), ([6, 13, 13], [6, 13]), ([14, 14, 0, 1, 2, 3, 4, 5, 6, 7, 8, 9, 10, 11, 12, 13, 14], [14])])
def ratio_Cmp.B1 : List Nat := [0, 1, 3, 0, 8, 24, 63, 0, 128, 384, 0, 1024, 3072, 8191, 16383, 32767]
theorem ratio_Cmp.tab1 : rtab .any (opsOf Try.f50 1) = ratio_Cmp.T1 := by kernel_rfl
theorem ratio_Cmp.bits1 : waitsOk ratio_Cmp.T1.2 ratio_Cmp.B1 = true := by kernel_rfl
set_option maxHeartbeats 8000000 in
set_option maxRecDepth 100000 in
theorem ratio_Cmp.calls (a0_0 : Int) (a0_1 : Int) (a1_0 : Int) (a1_1 : Int) (r : Int) (w : World) (h : ratio_Cmp.f a0_0 a0_1 a1_0 a1_1 = some r) :
    Calls Try.prog 50 #[.agg #[.int .i64 a0_0, .int .i64 a0_1], .agg #[.int .i64 a1_0, .int .i64 a1_1]] w fun e w' => e = .returned (.int .i64 r) ∧ Below w.heap.size w w' := by
  have hu57 := Try.underlying57
  have HB := Aside0.mk (Below.refl w.heap.size w)
  have H : ((wide_Mul.f (IntKind.u64.wrap (a0_0)) (IntKind.u64.wrap (a1_1))).bind fun bt4513 => ((wide_Mul.f (IntKind.u64.wrap (a1_0)) (IntKind.u64.wrap (a0_1))).bind fun bt4515 => ((wide_Cmp.f bt4513.1 bt4513.2 bt4515.1 bt4515.2).bind fun t4517 => (some t4517)))) = some r := h
  clear h
  replace H := Option.bind_eq_some_iff.mp H
  obtain ⟨⟨t4513, t4514⟩, A30, H⟩ := H
  replace H : ((wide_Mul.f (IntKind.u64.wrap (a1_0)) (IntKind.u64.wrap (a0_1))).bind fun bt4515 => ((wide_Cmp.f t4513 t4514 bt4515.1 bt4515.2).bind fun t4517 => (some t4517))) = some r := H
  have A3 := Aside0.mk A30
  clear A30
  replace H := Option.bind_eq_some_iff.mp H
  obtain ⟨⟨t4515, t4516⟩, A40, H⟩ := H
  replace H : ((wide_Cmp.f t4513 t4514 t4515 t4516).bind fun t4517 => (some t4517)) = some r := H
  have A4 := Aside0.mk A40
  clear A40
  replace H := Option.bind_eq_some_iff.mp H
  obtain ⟨t4517, A50, H⟩ := H
  replace H : (some t4517) = some r := H
  have A5 := Aside0.mk A50
  clear A50
  obtain rfl := Option.some.inj H
  go_enter Try.func50, Try.ntmps50
  try go_wp2_with (first | ((with_reducible refine gate_dst (N := 2) rfl ?_); refine box_event ?hg (N := 2) ?hd (cs := #[.int .i64 a0_0, .int .i64 a0_1]) (t := 57) ?hr ?_; (case hd => rfl); (case hg => rfl); (case hr => go_simp); intro gb4511 hg w6 hbox hb; have n0_ := Aside0.mk (below_step (by repeat (first | (with_reducible first | exact HB.out | apply below_alloc | apply pw_below_drewN | apply below_drew1) | exact HB.out)) hb); have n1_ := Aside0.mk (hbox); have n2_ := Aside0.mk ((by rw [hg]; exact (below_size (by repeat (first | (with_reducible first | exact HB.out | apply below_alloc | apply pw_below_drewN | apply below_drew1) | exact HB.out))) : w.heap.size ≤ gb4511)); have n3_ := Aside0.mk ((by rw [hg]; exact (below_size (by repeat (first | (with_reducible first | exact HB.out | apply below_alloc | apply pw_below_drewN | apply below_drew1) | exact HB.out))) : w.heap.size ≤ gb4511)); clear HB; have HB := n0_; have BK4511 := n1_; have GW4511 := n2_; have GE4511 := n3_; clear n0_ n1_ n2_ n3_; clear hb hbox hg) | ((with_reducible refine gate_dst (N := 3) rfl ?_); refine box_event ?hg (N := 3) ?hd (cs := #[.int .i64 a1_0, .int .i64 a1_1]) (t := 57) ?hr ?_; (case hd => rfl); (case hg => rfl); (case hr => go_simp); intro gb4512 hg w7 hbox hb; have n0_ := Aside0.mk (blk_below BK4511.out hb); have n1_ := Aside0.mk (below_step (by repeat (first | (with_reducible first | exact HB.out | apply below_alloc | apply pw_below_drewN | apply below_drew1 | refine below_set ?_ GE4511.out) | exact HB.out)) hb); have n2_ := Aside0.mk (hbox); have n3_ := Aside0.mk ((by rw [hg]; exact (below_size (by repeat (first | (with_reducible first | exact HB.out | apply below_alloc | apply pw_below_drewN | apply below_drew1 | refine below_set ?_ GE4511.out) | exact HB.out))) : w.heap.size ≤ gb4512)); have n4_ := Aside0.mk ((by rw [hg]; exact (below_size (by repeat (first | (with_reducible first | exact HB.out | apply below_alloc | apply pw_below_drewN | apply below_drew1 | refine below_set ?_ GE4511.out) | exact HB.out))) : w.heap.size ≤ gb4512)); have n5_ := Aside0.mk ((by rw [hg]; exact Nat.ne_of_lt (blk_lt (g := gb4511) (o := .cells #[.int .i64 a0_0, .int .i64 a0_1] 57 (0, 0)) BK4511.out) : gb4511 ≠ gb4512)); have n6_ := Aside0.mk ((by rw [hg]; exact Nat.ne_of_gt (blk_lt (g := gb4511) (o := .cells #[.int .i64 a0_0, .int .i64 a0_1] 57 (0, 0)) BK4511.out) : gb4512 ≠ gb4511)); clear BK4511 HB; have BK4511 := n0_; have HB := n1_; have BK4512 := n2_; have GW4512 := n3_; have GE4512 := n4_; have NB4511_4512 := n5_; have NB4512_4511 := n6_; clear n0_ n1_ n2_ n3_ n4_ n5_ n6_; clear hb hbox hg))
  have n0_ := Aside0.mk (blk_drew BK4511.out)
  have n1_ := Aside0.mk (blk_drew BK4512.out)
  have n2_ := Aside0.mk (below_drew1 HB.out)
  clear BK4511 BK4512 HB
  have BK4511 := n0_
  have BK4512 := n1_
  have HB := n2_
  clear n0_ n1_ n2_
  refine start_ (n := 16) (S := fun w' => w'.cell? ⟨gb4511, 0, none⟩ = some (.int .i64 a0_0) ∧ w'.cell? ⟨gb4511, 1, none⟩ = some (.int .i64 a0_1) ∧ w'.cell? ⟨gb4512, 0, none⟩ = some (.int .i64 a1_0) ∧ w'.cell? ⟨gb4512, 1, none⟩ = some (.int .i64 a1_1)) (ds := []) (ratio_Cmp.ups 16 0) (by kernel_rfl) rfl rfl ⟨(blk_cell BK4511.out 0).trans rfl, (blk_cell BK4511.out 1).trans rfl, (blk_cell BK4512.out 0).trans rfl, (blk_cell BK4512.out 1).trans rfl⟩ (fun hHeld => ?_); refine with_tabW ratio_Cmp.tab1 ratio_Cmp.bits1 (fun HT_ HW_ => ?_)
  generalize w7.drew = w8 at BK4511 BK4512 HB hHeld ⊢
  refine pure_ (i := 0) (N := some 5) (v := ?_) (a' := ?_) (ratio_Cmp.ups 16 1) rfl rfl (any_of HT_.out (by kernel_rfl)) (fun _ _ _ h => h) (Or.inl ⟨by rfl, ?_⟩) ?_ ?_
  rotate_left
  · intro w'
    go_simp
    with_reducible rfl
  rotate_left
  · simp only [Act.put, List.setIfInBounds_toArray, List.set_cons_zero, List.set_cons_succ, i64_w, i32_w]
    rfl
  refine pure_ (i := 3) (N := some 8) (v := ?_) (a' := ?_) (ratio_Cmp.ups 16 9) rfl rfl (any_of HT_.out (by kernel_rfl)) (fun _ _ _ h => h) (Or.inl ⟨by rfl, ?_⟩) ?_ ?_
  rotate_left
  · intro w'
    go_simp
    with_reducible rfl
  rotate_left
  · simp only [Act.put, List.setIfInBounds_toArray, List.set_cons_zero, List.set_cons_succ, i64_w, i32_w]
    rfl
  refine pure_ (i := 7) (N := some 12) (v := ?_) (a' := ?_) (ratio_Cmp.ups 16 137) rfl rfl (any_of HT_.out (by kernel_rfl)) (fun _ _ _ h => h) (Or.inl ⟨by rfl, ?_⟩) ?_ ?_
  rotate_left
  · intro w'
    go_simp
    with_reducible rfl
  rotate_left
  · simp only [Act.put, List.setIfInBounds_toArray, List.set_cons_zero, List.set_cons_succ, i64_w, i32_w]
    rfl
  refine pure_ (i := 10) (N := some 15) (v := ?_) (a' := ?_) (ratio_Cmp.ups 16 1161) rfl rfl (any_of HT_.out (by kernel_rfl)) (fun _ _ _ h => h) (Or.inl ⟨by rfl, ?_⟩) ?_ ?_
  rotate_left
  · intro w'
    go_simp
    with_reducible rfl
  rotate_left
  · simp only [Act.put, List.setIfInBounds_toArray, List.set_cons_zero, List.set_cons_succ, i64_w, i32_w]
    rfl
  refine take_ (i := 1) (N := some 6) (v := ?_) (a' := ?_) (ratio_Cmp.ups 16 1163) rfl rfl (take_ofW HT_.out HW_.out (by kernel_rfl)) (fun _ _ _ h => h) (Or.inl ⟨by rfl, ?_⟩) hHeld ?_ ?_
  rotate_left
  · rintro w' ⟨s0, s1, s2, s3⟩
    go_simp
    with_reducible rfl
  rotate_left
  · simp only [Act.put, List.setIfInBounds_toArray, List.set_cons_zero, List.set_cons_succ, i64_w, i32_w]
    rfl
  refine pure_ (i := 2) (N := some 7) (v := ?_) (a' := ?_) (ratio_Cmp.ups 16 1167) rfl rfl (any_of HT_.out (by kernel_rfl)) (fun _ _ _ h => h) (Or.inl ⟨by rfl, ?_⟩) ?_ ?_
  rotate_left
  · intro w'
    go_simp
    with_reducible rfl
  rotate_left
  · simp only [Act.put, List.setIfInBounds_toArray, List.set_cons_zero, List.set_cons_succ, i64_w, i32_w]
    rfl
  refine take_ (i := 4) (N := some 9) (v := ?_) (a' := ?_) (ratio_Cmp.ups 16 1183) rfl rfl (take_ofW HT_.out HW_.out (by kernel_rfl)) (fun _ _ _ h => h) (Or.inl ⟨by rfl, ?_⟩) hHeld ?_ ?_
  rotate_left
  · rintro w' ⟨s0, s1, s2, s3⟩
    go_simp
    with_reducible rfl
  rotate_left
  · simp only [Act.put, List.setIfInBounds_toArray, List.set_cons_zero, List.set_cons_succ, i64_w, i32_w]
    rfl
  refine pure_ (i := 5) (N := some 10) (v := ?_) (a' := ?_) (ratio_Cmp.ups 16 1215) rfl rfl (any_of HT_.out (by kernel_rfl)) (fun _ _ _ h => h) (Or.inl ⟨by rfl, ?_⟩) ?_ ?_
  rotate_left
  · intro w'
    go_simp
    with_reducible rfl
  rotate_left
  · simp only [Act.put, List.setIfInBounds_toArray, List.set_cons_zero, List.set_cons_succ, i64_w, i32_w]
    rfl
  refine take_ (i := 8) (N := some 13) (v := ?_) (a' := ?_) (ratio_Cmp.ups 16 1471) rfl rfl (take_ofW HT_.out HW_.out (by kernel_rfl)) (fun _ _ _ h => h) (Or.inl ⟨by rfl, ?_⟩) hHeld ?_ ?_
  rotate_left
  · rintro w' ⟨s0, s1, s2, s3⟩
    go_simp
    with_reducible rfl
  rotate_left
  · simp only [Act.put, List.setIfInBounds_toArray, List.set_cons_zero, List.set_cons_succ, i64_w, i32_w]
    rfl
  refine pure_ (i := 9) (N := some 14) (v := ?_) (a' := ?_) (ratio_Cmp.ups 16 1983) rfl rfl (any_of HT_.out (by kernel_rfl)) (fun _ _ _ h => h) (Or.inl ⟨by rfl, ?_⟩) ?_ ?_
  rotate_left
  · intro w'
    go_simp
    with_reducible rfl
  rotate_left
  · simp only [Act.put, List.setIfInBounds_toArray, List.set_cons_zero, List.set_cons_succ, i64_w, i32_w]
    rfl
  refine take_ (i := 11) (N := some 16) (v := ?_) (a' := ?_) (ratio_Cmp.ups 16 4031) rfl rfl (take_ofW HT_.out HW_.out (by kernel_rfl)) (fun _ _ _ h => h) (Or.inl ⟨by rfl, ?_⟩) hHeld ?_ ?_
  rotate_left
  · rintro w' ⟨s0, s1, s2, s3⟩
    go_simp
    with_reducible rfl
  rotate_left
  · simp only [Act.put, List.setIfInBounds_toArray, List.set_cons_zero, List.set_cons_succ, i64_w, i32_w]
    rfl
  refine pure_ (i := 12) (N := some 17) (v := ?_) (a' := ?_) (ratio_Cmp.ups 16 8127) rfl rfl (any_of HT_.out (by kernel_rfl)) (fun _ _ _ h => h) (Or.inl ⟨by rfl, ?_⟩) ?_ ?_
  rotate_left
  · intro w'
    go_simp
    with_reducible rfl
  rotate_left
  · simp only [Act.put, List.setIfInBounds_toArray, List.set_cons_zero, List.set_cons_succ, i64_w, i32_w]
    rfl
  refine one_ (i := 6) (N := some 11) (ratio_Cmp.ups 16 8191) rfl rfl (one_of HT_.out (by kernel_rfl)) (by decide) (fun K hK => ?_)
  refine goes_ Try.func34 (by kernel_rfl) rfl #[.int .u64 (IntKind.u64.wrap (a0_0)), .int .u64 (IntKind.u64.wrap (a1_1))] (by rfl) rfl rfl (by (try simp only [List.map_toArray, List.map_cons, List.map_nil]); first | done | rfl) ?_
  with_reducible refine (wide_Mul.calls (IntKind.u64.wrap (a0_0)) (IntKind.u64.wrap (a1_1)) t4513 t4514 _ A3.out).mono ?_
  rintro e w9 ⟨rfl, hb⟩
  refine ⟨_, rfl, ?_⟩
  have n0_ := Aside0.mk (blk_below BK4511.out hb)
  have n1_ := Aside0.mk (blk_below BK4512.out hb)
  have n2_ := Aside0.mk (below_step (by repeat (first | (with_reducible first | exact HB.out | apply below_alloc | apply pw_below_drewN | apply below_drew1 | refine below_set ?_ GE4511.out | refine below_set ?_ GE4512.out) | exact HB.out)) hb)
  clear BK4511 BK4512 HB
  have BK4511 := n0_
  have BK4512 := n1_
  have HB := n2_
  clear n0_ n1_ n2_
  (try clear hb)
  (try clear hb2)
  (try clear hk)
  (try clear hi)
  refine hK.out _ _ ⟨(blk_cell BK4511.out 0).trans rfl, (blk_cell BK4511.out 1).trans rfl, (blk_cell BK4512.out 0).trans rfl, (blk_cell BK4512.out 1).trans rfl⟩ (fun hHeld => ?_)
  clear hK K
  refine norm_ (a' := ?_) ?_ ?_
  rotate_left
  · show Act.put _ (some 11) _ = _
    simp only [Act.put, List.setIfInBounds_toArray, List.set_cons_zero, List.set_cons_succ, i64_w, i32_w]
    rfl
  refine one_ (i := 13) (N := some 18) (ratio_Cmp.ups 16 16383) rfl rfl (one_of HT_.out (by kernel_rfl)) (by decide) (fun K hK => ?_)
  refine goes_ Try.func34 (by kernel_rfl) rfl #[.int .u64 (IntKind.u64.wrap (a1_0)), .int .u64 (IntKind.u64.wrap (a0_1))] (by rfl) rfl rfl (by (try simp only [List.map_toArray, List.map_cons, List.map_nil]); first | done | rfl) ?_
  with_reducible refine (wide_Mul.calls (IntKind.u64.wrap (a1_0)) (IntKind.u64.wrap (a0_1)) t4515 t4516 _ A4.out).mono ?_
  rintro e w10 ⟨rfl, hb⟩
  refine ⟨_, rfl, ?_⟩
  have n0_ := Aside0.mk (blk_below BK4511.out hb)
  have n1_ := Aside0.mk (blk_below BK4512.out hb)
  have n2_ := Aside0.mk (below_step (by repeat (first | (with_reducible first | exact HB.out | apply below_alloc | apply pw_below_drewN | apply below_drew1 | refine below_set ?_ GE4511.out | refine below_set ?_ GE4512.out) | exact HB.out)) hb)
  clear BK4511 BK4512 HB
  have BK4511 := n0_
  have BK4512 := n1_
  have HB := n2_
  clear n0_ n1_ n2_
  (try clear hb)
  (try clear hb2)
  (try clear hk)
  (try clear hi)
  refine hK.out _ _ ⟨(blk_cell BK4511.out 0).trans rfl, (blk_cell BK4511.out 1).trans rfl, (blk_cell BK4512.out 0).trans rfl, (blk_cell BK4512.out 1).trans rfl⟩ (fun hHeld => ?_)
  clear hK K
  refine norm_ (a' := ?_) ?_ ?_
  rotate_left
  · show Act.put _ (some 18) _ = _
    simp only [Act.put, List.setIfInBounds_toArray, List.set_cons_zero, List.set_cons_succ, i64_w, i32_w]
    rfl
  refine one_ (i := 14) (N := some 19) (ratio_Cmp.ups 16 32767) rfl rfl (one_of HT_.out (by kernel_rfl)) (by decide) (fun K hK => ?_)
  refine goes_ Try.func35 (by kernel_rfl) rfl #[.agg #[.int .u64 t4513, .int .u64 t4514], .agg #[.int .u64 t4515, .int .u64 t4516]] (by rfl) rfl rfl (by (try simp only [List.map_toArray, List.map_cons, List.map_nil]); first | done | rfl) ?_
  with_reducible refine (wide_Cmp.calls t4513 t4514 t4515 t4516 t4517 _ A5.out).mono ?_
  rintro e w11 ⟨rfl, hb⟩
  refine ⟨_, rfl, ?_⟩
  have n0_ := Aside0.mk (blk_below BK4511.out hb)
  have n1_ := Aside0.mk (blk_below BK4512.out hb)
  have n2_ := Aside0.mk (below_step (by repeat (first | (with_reducible first | exact HB.out | apply below_alloc | apply pw_below_drewN | apply below_drew1 | refine below_set ?_ GE4511.out | refine below_set ?_ GE4512.out) | exact HB.out)) hb)
  clear BK4511 BK4512 HB
  have BK4511 := n0_
  have BK4512 := n1_
  have HB := n2_
  clear n0_ n1_ n2_
  (try clear hb)
  (try clear hb2)
  (try clear hk)
  (try clear hi)
  refine hK.out _ _ ⟨(blk_cell BK4511.out 0).trans rfl, (blk_cell BK4511.out 1).trans rfl, (blk_cell BK4512.out 0).trans rfl, (blk_cell BK4512.out 1).trans rfl⟩ (fun hHeld => ?_)
  clear hK K
  refine norm_ (a' := ?_) ?_ ?_
  rotate_left
  · show Act.put _ (some 19) _ = _
    simp only [Act.put, List.setIfInBounds_toArray, List.set_cons_zero, List.set_cons_succ, i64_w, i32_w]
    rfl
  refine pure_ (i := 15) (N := some 4) (v := ?_) (a' := ?_) (ratio_Cmp.ups 16 65535) rfl rfl (any_of HT_.out (by kernel_rfl)) (fun _ _ _ h => h) (Or.inl ⟨by rfl, ?_⟩) ?_ ?_
  rotate_left
  · intro w'
    go_simp
    with_reducible rfl
  rotate_left
  · simp only [Act.put, List.setIfInBounds_toArray, List.set_cons_zero, List.set_cons_succ, i64_w, i32_w]
    rfl
  refine done_ (done_of HT_.out (by kernel_rfl)) ?_
  try go_wp2
  go_ret
  exact ⟨by rfl, by repeat (first | (with_reducible first | exact HB.out | apply below_alloc | apply pw_below_drewN | apply below_drew1 | refine below_set ?_ GE4511.out | refine below_set ?_ GE4512.out) | exact HB.out)⟩

end Go.Proofs.Ytcdbmmlnmefoeaa.X
