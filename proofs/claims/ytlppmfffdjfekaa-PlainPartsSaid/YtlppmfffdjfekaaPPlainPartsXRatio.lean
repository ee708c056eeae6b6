-- cut by prune.py, a program of this session
import Derived.Test.YtlppmfffdjfekaaPPlainPartsX0
import Derived.Test.YtlppmfffdjfekaaPPlainPartsHGcd
namespace Go.Proofs.Ytlppmfffdjfekaa.X
open Go.RowKit Go.Proofs.YtlppmfffdjfekaaW.PrintWords Go.Proofs.YtlppmfffdjfekaaW.PrintLast Go.Proofs.YtlppmfffdjfekaaW.PrintMore
set_option linter.unusedVariables false
set_option linter.unusedSimpArgs false

def ratio_Right.f (a0_0 : Int) (a0_1 : Int) : Option (Bool) := if a0_0 ≥ 0 then (if a0_0 ≤ 4611686018427387904 then (if a0_1 ≥ 1 then (if a0_1 ≤ 4611686018427387904 then ((ratio_Gcd.f (IntKind.u64.wrap (a0_0)) (IntKind.u64.wrap (a0_1))).bind fun t1167 => (some (t1167 == 1))) else (some false)) else (some false)) else (some false)) else (some false)
set_option maxHeartbeats 8000000 in
set_option maxRecDepth 100000 in
theorem ratio_Right.calls (a0_0 : Int) (a0_1 : Int) (r : Bool) (w : World) (h : ratio_Right.f a0_0 a0_1 = some r) :
  Calls Try.prog 27 #[.agg #[.int .i64 a0_0, .int .i64 a0_1]] w fun e w' => e = .returned (.bool r) ∧ Below w.heap.size w w' := by
 have hu42 := Try.underlying42
 have HB := Aside0.mk (Below.refl w.heap.size w)
 have H : (if a0_0 ≥ 0 then (if a0_0 ≤ 4611686018427387904 then (if a0_1 ≥ 1 then (if a0_1 ≤ 4611686018427387904 then ((ratio_Gcd.f (IntKind.u64.wrap (a0_0)) (IntKind.u64.wrap (a0_1))).bind fun t1167 => (some (t1167 == 1))) else (some false)) else (some false)) else (some false)) else (some false)) = some r := h
 clear h
 by_cases c2 : a0_0 ≥ 0
 ·rw [if_pos c2] at H
  have c2b0 : decide (0 ≤ a0_0) = true := decide_eq_true c2
  clear c2
  by_cases c3 : a0_0 ≤ 4611686018427387904
  ·rw [if_pos c3] at H
   have c3b0 : decide (a0_0 ≤ 4611686018427387904) = true := decide_eq_true c3
   clear c3
   by_cases c4 : a0_1 ≥ 1
   ·rw [if_pos c4] at H
    have c4b0 : decide (1 ≤ a0_1) = true := decide_eq_true c4
    clear c4
    by_cases c5 : a0_1 ≤ 4611686018427387904
    ·rw [if_pos c5] at H
     have c5b0 : decide (a0_1 ≤ 4611686018427387904) = true := decide_eq_true c5
     clear c5
     replace H := Option.bind_eq_some_iff.mp H
     obtain ⟨t1167, A60, H⟩ := H
     (try dsimp only at H)
     have A6 := Aside0.mk A60
     clear A60
     obtain rfl := Option.some.inj H
     go_enter Try.func27, Try.ntmps27
     go_wp2_with (first | ((with_reducible refine gate_dst (N := 1) rfl ?_); refine box_event ?hg (N := 1) ?hd (cs := #[.int .i64 a0_0, .int .i64 a0_1]) (t := 42) ?hr ?_; (case hd => rfl); (case hg => rfl); (case hr => first | (go_simp; done) | (go_simp; rfl)); intro gb1166 hg w7 hbox hb; have BK1166 := Aside0.mk (hbox); have GW1166 := Aside0.mk ((by rw [hg]; exact (below_size (by repeat (first | (with_reducible first | exact HB.out | apply bA_ | apply bN_ | apply bD_) | exact HB.out))) : w.heap.size ≤ gb1166)); have GE1166 := GW1166; replace HB := Aside0.mk (below_step (by repeat (first | (with_reducible first | exact HB.out | apply bA_ | apply bN_ | apply bD_) | exact HB.out)) hb); clear hb hbox hg; have hcz8_0 : w7.cell? ⟨gb1166, 0, none⟩ = some (.int .i64 a0_0) := (blk_cell BK1166.out 0).trans rfl; have hcz8_1 : w7.cell? ⟨gb1166, 1, none⟩ = some (.int .i64 a0_1) := (blk_cell BK1166.out 1).trans rfl; have hfz8_0 := blk_frozen BK1166.out 0; have hfz8_1 := blk_frozen BK1166.out 1) | (go_at_call 36; (with_reducible refine (ratio_Gcd.calls (IntKind.u64.wrap (a0_0)) (IntKind.u64.wrap (a0_1)) t1167 _ A6.out).mono ?_); rintro e w9 ⟨rfl, hb⟩; replace BK1166 := bK_ BK1166 hb; replace HB := Aside0.mk (below_step (by repeat (first | (with_reducible first | exact HB.out | apply bA_ | apply bN_ | apply bD_ | refine bS_ ?_ GE1166.out) | exact HB.out)) hb); (try clear hb)))
     go_ret
     exact ⟨by rfl, by repeat (first | (with_reducible first | exact HB.out | apply bA_ | apply bN_ | apply bD_ | refine bS_ ?_ GE1166.out) | exact HB.out)⟩
    ·rw [if_neg c5] at H
     have c5b0 : decide (a0_1 ≤ 4611686018427387904) = false := decide_eq_false c5
     clear c5
     obtain rfl := Option.some.inj H
     go_enter Try.func27, Try.ntmps27
     go_wp2_with (first | ((with_reducible refine gate_dst (N := 1) rfl ?_); refine box_event ?hg (N := 1) ?hd (cs := #[.int .i64 a0_0, .int .i64 a0_1]) (t := 42) ?hr ?_; (case hd => rfl); (case hg => rfl); (case hr => first | (go_simp; done) | (go_simp; rfl)); intro gb1166 hg w10 hbox hb; have BK1166 := Aside0.mk (hbox); have GW1166 := Aside0.mk ((by rw [hg]; exact (below_size (by repeat (first | (with_reducible first | exact HB.out | apply bA_ | apply bN_ | apply bD_) | exact HB.out))) : w.heap.size ≤ gb1166)); have GE1166 := GW1166; replace HB := Aside0.mk (below_step (by repeat (first | (with_reducible first | exact HB.out | apply bA_ | apply bN_ | apply bD_) | exact HB.out)) hb); clear hb hbox hg; have hcz11_0 : w10.cell? ⟨gb1166, 0, none⟩ = some (.int .i64 a0_0) := (blk_cell BK1166.out 0).trans rfl; have hcz11_1 : w10.cell? ⟨gb1166, 1, none⟩ = some (.int .i64 a0_1) := (blk_cell BK1166.out 1).trans rfl; have hfz11_0 := blk_frozen BK1166.out 0; have hfz11_1 := blk_frozen BK1166.out 1))
     go_ret
     exact ⟨by rfl, by repeat (first | (with_reducible first | exact HB.out | apply bA_ | apply bN_ | apply bD_ | refine bS_ ?_ GE1166.out) | exact HB.out)⟩
   ·rw [if_neg c4] at H
    have c4b0 : decide (1 ≤ a0_1) = false := decide_eq_false c4
    clear c4
    obtain rfl := Option.some.inj H
    go_enter Try.func27, Try.ntmps27
    go_wp2_with (first | ((with_reducible refine gate_dst (N := 1) rfl ?_); refine box_event ?hg (N := 1) ?hd (cs := #[.int .i64 a0_0, .int .i64 a0_1]) (t := 42) ?hr ?_; (case hd => rfl); (case hg => rfl); (case hr => first | (go_simp; done) | (go_simp; rfl)); intro gb1166 hg w12 hbox hb; have BK1166 := Aside0.mk (hbox); have GW1166 := Aside0.mk ((by rw [hg]; exact (below_size (by repeat (first | (with_reducible first | exact HB.out | apply bA_ | apply bN_ | apply bD_) | exact HB.out))) : w.heap.size ≤ gb1166)); have GE1166 := GW1166; replace HB := Aside0.mk (below_step (by repeat (first | (with_reducible first | exact HB.out | apply bA_ | apply bN_ | apply bD_) | exact HB.out)) hb); clear hb hbox hg; have hcz13_0 : w12.cell? ⟨gb1166, 0, none⟩ = some (.int .i64 a0_0) := (blk_cell BK1166.out 0).trans rfl; have hcz13_1 : w12.cell? ⟨gb1166, 1, none⟩ = some (.int .i64 a0_1) := (blk_cell BK1166.out 1).trans rfl; have hfz13_0 := blk_frozen BK1166.out 0; have hfz13_1 := blk_frozen BK1166.out 1))
    go_ret
    exact ⟨by rfl, by repeat (first | (with_reducible first | exact HB.out | apply bA_ | apply bN_ | apply bD_ | refine bS_ ?_ GE1166.out) | exact HB.out)⟩
  ·rw [if_neg c3] at H
   have c3b0 : decide (a0_0 ≤ 4611686018427387904) = false := decide_eq_false c3
   clear c3
   obtain rfl := Option.some.inj H
   go_enter Try.func27, Try.ntmps27
   go_wp2_with (first | ((with_reducible refine gate_dst (N := 1) rfl ?_); refine box_event ?hg (N := 1) ?hd (cs := #[.int .i64 a0_0, .int .i64 a0_1]) (t := 42) ?hr ?_; (case hd => rfl); (case hg => rfl); (case hr => first | (go_simp; done) | (go_simp; rfl)); intro gb1166 hg w14 hbox hb; have BK1166 := Aside0.mk (hbox); have GW1166 := Aside0.mk ((by rw [hg]; exact (below_size (by repeat (first | (with_reducible first | exact HB.out | apply bA_ | apply bN_ | apply bD_) | exact HB.out))) : w.heap.size ≤ gb1166)); have GE1166 := GW1166; replace HB := Aside0.mk (below_step (by repeat (first | (with_reducible first | exact HB.out | apply bA_ | apply bN_ | apply bD_) | exact HB.out)) hb); clear hb hbox hg; have hcz15_0 : w14.cell? ⟨gb1166, 0, none⟩ = some (.int .i64 a0_0) := (blk_cell BK1166.out 0).trans rfl; have hcz15_1 : w14.cell? ⟨gb1166, 1, none⟩ = some (.int .i64 a0_1) := (blk_cell BK1166.out 1).trans rfl; have hfz15_0 := blk_frozen BK1166.out 0; have hfz15_1 := blk_frozen BK1166.out 1))
   go_ret
   exact ⟨by rfl, by repeat (first | (with_reducible first | exact HB.out | apply bA_ | apply bN_ | apply bD_ | refine bS_ ?_ GE1166.out) | exact HB.out)⟩
 ·rw [if_neg c2] at H
  have c2b0 : decide (0 ≤ a0_0) = false := decide_eq_false c2
  clear c2
  obtain rfl := Option.some.inj H
  go_enter Try.func27, Try.ntmps27
  go_wp2_with (first | ((with_reducible refine gate_dst (N := 1) rfl ?_); refine box_event ?hg (N := 1) ?hd (cs := #[.int .i64 a0_0, .int .i64 a0_1]) (t := 42) ?hr ?_; (case hd => rfl); (case hg => rfl); (case hr => first | (go_simp; done) | (go_simp; rfl)); intro gb1166 hg w16 hbox hb; have BK1166 := Aside0.mk (hbox); have GW1166 := Aside0.mk ((by rw [hg]; exact (below_size (by repeat (first | (with_reducible first | exact HB.out | apply bA_ | apply bN_ | apply bD_) | exact HB.out))) : w.heap.size ≤ gb1166)); have GE1166 := GW1166; replace HB := Aside0.mk (below_step (by repeat (first | (with_reducible first | exact HB.out | apply bA_ | apply bN_ | apply bD_) | exact HB.out)) hb); clear hb hbox hg; have hcz17_0 : w16.cell? ⟨gb1166, 0, none⟩ = some (.int .i64 a0_0) := (blk_cell BK1166.out 0).trans rfl; have hcz17_1 : w16.cell? ⟨gb1166, 1, none⟩ = some (.int .i64 a0_1) := (blk_cell BK1166.out 1).trans rfl; have hfz17_0 := blk_frozen BK1166.out 0; have hfz17_1 := blk_frozen BK1166.out 1))
  go_ret
  exact ⟨by rfl, by repeat (first | (with_reducible first | exact HB.out | apply bA_ | apply bN_ | apply bD_ | refine bS_ ?_ GE1166.out) | exact HB.out)⟩

end Go.Proofs.Ytlppmfffdjfekaa.X
