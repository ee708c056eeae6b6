-- CUT by prune.py, a program of this session, to what the claim reaches (out of a text that the kit's printer, the session's programs or the session wrote)
import Derived.Test.YtcdbmmlnmefoeaaPRatioExactX0
import Derived.Test.YtcdbmmlnmefoeaaPRatioExactXBig
import Derived.Test.YtcdbmmlnmefoeaaPRatioExactXQuot
import Derived.Test.YtcdbmmlnmefoeaaPRatioExactXRefTwo
namespace Go.Proofs.Ytcdbmmlnmefoeaa.X
open Go.RowKit Go.Proofs.YtcdbmmlnmefoeaaW.PrintWords Go.Proofs.YtcdbmmlnmefoeaaW.PrintLast Go.Proofs.YtcdbmmlnmefoeaaW.PrintMore
set_option linter.unusedVariables false
set_option linter.unusedSimpArgs false

def demurrageref02_Cmp.upsl : Nat → Nat → List Bool
  | 0, _ => []
  | n + 1, m => (m % 2 == 1) :: demurrageref02_Cmp.upsl n (m / 2)
def demurrageref02_Cmp.ups (n m : Nat) : Array Bool := ⟨demurrageref02_Cmp.upsl n m⟩
def demurrageref02_big.f (k : Nat) (a0_0 : Int) (a0_1 : Int) : Option (List Int × List Int) := (demurrageref01_From.f k a0_0).bind fun t4636 => ((demurrageref01_From.f k a0_1).bind fun t4639 => (some (t4636, t4639)))
def demurrageref02_big.T1 : Bool × List (List Nat × List Nat) := (true, [([], []), ([0], [0]), ([1], [1]), ([], []), ([3], [3]), ([4, 2], [4]), ([2, 5, 0, 1, 2], [2]), ([5, 6, 0, 1, 2, 3, 4, 5, 6], [5])])
def demurrageref02_big.B1 : List Nat := [0, 1, 3, 0, 8, 31, 63, 127]
theorem demurrageref02_big.tab1 : rtab .any (opsOf Try.f75 1) = demurrageref02_big.T1 := by kernel_rfl
theorem demurrageref02_big.bits1 : waitsOk demurrageref02_big.T1.2 demurrageref02_big.B1 = true := by kernel_rfl
set_option maxHeartbeats 8000000 in
set_option maxRecDepth 100000 in
theorem demurrageref02_big.calls (k : Nat) (a0_0 : Int) (a0_1 : Int) (r1 : List Int) (r2 : List Int) (w : World) (h : demurrageref02_big.f k a0_0 a0_1 = some (r1, r2)) :
    Calls Try.prog 75 #[.agg #[.int .i64 a0_0, .int .i64 a0_1]] w fun e w' => ∃ v0_ v1_ : Value, e = .returned (.tuple #[.agg #[v0_], .agg #[v1_]]) ∧ Kd.R (Kd.int .i64) 3 w' w.heap.size (fun k_ => some k_ ≠ (v1_ : Value).ownBlock) v0_ r1 ∧ Kd.R (Kd.int .i64) 3 w' w.heap.size (fun k_ => some k_ ≠ (v0_ : Value).ownBlock) v1_ r2 ∧ Below w.heap.size w w' := by
  have hu57 := Try.underlying57
  have hu28 := Try.underlying28
  have HB := Aside0.mk (Below.refl w.heap.size w)
  have H : ((demurrageref01_From.f k a0_0).bind fun t4636 => ((demurrageref01_From.f k a0_1).bind fun t4639 => (some (t4636, t4639)))) = some (r1, r2) := h
  clear h
  replace H := Option.bind_eq_some_iff.mp H
  obtain ⟨t4636, A20, H⟩ := H
  replace H : ((demurrageref01_From.f k a0_1).bind fun t4639 => (some (t4636, t4639))) = some (r1, r2) := H
  have A2 := Aside0.mk A20
  clear A20
  replace H := Option.bind_eq_some_iff.mp H
  obtain ⟨t4639, A30, H⟩ := H
  replace H : (some (t4636, t4639)) = some (r1, r2) := H
  have A3 := Aside0.mk A30
  clear A30
  simp only [Option.some.injEq, Prod.mk.injEq] at H
  obtain ⟨rfl, rfl⟩ := H
  go_enter Try.func75, Try.ntmps75
  try go_wp2_with (first | ((with_reducible refine gate_dst (N := 1) rfl ?_); refine box_event ?hg (N := 1) ?hd (cs := #[.int .i64 a0_0, .int .i64 a0_1]) (t := 57) ?hr ?_; (case hd => rfl); (case hg => rfl); (case hr => go_simp); intro gb4633 hg w4 hbox hb; have n0_ := Aside0.mk (below_step (by repeat (first | (with_reducible first | exact HB.out | apply below_alloc | apply pw_below_drewN | apply below_drew1) | exact HB.out)) hb); have n1_ := Aside0.mk (hbox); have n2_ := Aside0.mk ((by rw [hg]; exact (below_size (by repeat (first | (with_reducible first | exact HB.out | apply below_alloc | apply pw_below_drewN | apply below_drew1) | exact HB.out))) : w.heap.size ≤ gb4633)); have n3_ := Aside0.mk ((by rw [hg]; exact (below_size (by repeat (first | (with_reducible first | exact HB.out | apply below_alloc | apply pw_below_drewN | apply below_drew1) | exact HB.out))) : w.heap.size ≤ gb4633)); clear HB; have HB := n0_; have BK4633 := n1_; have GW4633 := n2_; have GE4633 := n3_; clear n0_ n1_ n2_ n3_; clear hb hbox hg) | ((with_reducible refine gate_dst (N := 2) rfl ?_); refine box_event ?hg (N := 2) ?hd (cs := #[.slice none 0 0]) (t := 28) ?hr ?_; (case hd => rfl); (case hg => rfl); (case hr => go_simp); intro gb4634 hg w5 hbox hb; have n0_ := Aside0.mk (blk_below BK4633.out hb); have n1_ := Aside0.mk (below_step (by repeat (first | (with_reducible first | exact HB.out | apply below_alloc | apply pw_below_drewN | apply below_drew1 | refine below_set ?_ GE4633.out) | exact HB.out)) hb); have n2_ := Aside0.mk (hbox); have n3_ := Aside0.mk ((by rw [hg]; exact (below_size (by repeat (first | (with_reducible first | exact HB.out | apply below_alloc | apply pw_below_drewN | apply below_drew1 | refine below_set ?_ GE4633.out) | exact HB.out))) : w.heap.size ≤ gb4634)); have n4_ := Aside0.mk ((by rw [hg]; exact (below_size (by repeat (first | (with_reducible first | exact HB.out | apply below_alloc | apply pw_below_drewN | apply below_drew1 | refine below_set ?_ GE4633.out) | exact HB.out))) : w.heap.size ≤ gb4634)); have n5_ := Aside0.mk ((by rw [hg]; exact Nat.ne_of_lt (blk_lt (g := gb4633) (o := .cells #[.int .i64 a0_0, .int .i64 a0_1] 57 (0, 0)) BK4633.out) : gb4633 ≠ gb4634)); have n6_ := Aside0.mk ((by rw [hg]; exact Nat.ne_of_gt (blk_lt (g := gb4633) (o := .cells #[.int .i64 a0_0, .int .i64 a0_1] 57 (0, 0)) BK4633.out) : gb4634 ≠ gb4633)); clear BK4633 HB; have BK4633 := n0_; have HB := n1_; have BK4634 := n2_; have GW4634 := n3_; have GE4634 := n4_; have NB4633_4634 := n5_; have NB4634_4633 := n6_; clear n0_ n1_ n2_ n3_ n4_ n5_ n6_; clear hb hbox hg) | ((with_reducible refine gate_dst (N := 3) rfl ?_); refine box_event ?hg (N := 3) ?hd (cs := #[.slice none 0 0]) (t := 28) ?hr ?_; (case hd => rfl); (case hg => rfl); (case hr => go_simp); intro gb4635 hg w6 hbox hb; have n0_ := Aside0.mk (blk_below BK4633.out hb); have n1_ := Aside0.mk (blk_below BK4634.out hb); have n2_ := Aside0.mk (below_step (by repeat (first | (with_reducible first | exact HB.out | apply below_alloc | apply pw_below_drewN | apply below_drew1 | refine below_set ?_ GE4633.out | refine below_set ?_ GE4634.out) | exact HB.out)) hb); have n3_ := Aside0.mk (hbox); have n4_ := Aside0.mk ((by rw [hg]; exact (below_size (by repeat (first | (with_reducible first | exact HB.out | apply below_alloc | apply pw_below_drewN | apply below_drew1 | refine below_set ?_ GE4633.out | refine below_set ?_ GE4634.out) | exact HB.out))) : w.heap.size ≤ gb4635)); have n5_ := Aside0.mk ((by rw [hg]; exact (below_size (by repeat (first | (with_reducible first | exact HB.out | apply below_alloc | apply pw_below_drewN | apply below_drew1 | refine below_set ?_ GE4633.out | refine below_set ?_ GE4634.out) | exact HB.out))) : w.heap.size ≤ gb4635)); have n6_ := Aside0.mk ((by rw [hg]; exact Nat.ne_of_lt (blk_lt (g := gb4633) (o := .cells #[.int .i64 a0_0, .int .i64 a0_1] 57 (0, 0)) BK4633.out) : gb4633 ≠ gb4635)); have n7_ := Aside0.mk ((by rw [hg]; exact Nat.ne_of_gt (blk_lt (g := gb4633) (o := .cells #[.int .i64 a0_0, .int .i64 a0_1] 57 (0, 0)) BK4633.out) : gb4635 ≠ gb4633)); have n8_ := Aside0.mk ((by rw [hg]; exact Nat.ne_of_lt (blk_lt (g := gb4634) (o := .cells #[.slice none 0 0] 28 (0, 0)) BK4634.out) : gb4634 ≠ gb4635)); have n9_ := Aside0.mk ((by rw [hg]; exact Nat.ne_of_gt (blk_lt (g := gb4634) (o := .cells #[.slice none 0 0] 28 (0, 0)) BK4634.out) : gb4635 ≠ gb4634)); clear BK4633 BK4634; clear HB; have BK4633 := n0_; have BK4634 := n1_; have HB := n2_; have BK4635 := n3_; have GW4635 := n4_; have GE4635 := n5_; have NB4633_4635 := n6_; have NB4635_4633 := n7_; have NB4634_4635 := n8_; have NB4635_4634 := n9_; clear n0_ n1_ n2_ n3_ n4_ n5_ n6_ n7_ n8_ n9_; clear hb hbox hg))
  have n0_ := Aside0.mk (blk_drew BK4633.out)
  have n1_ := Aside0.mk (blk_drew BK4634.out)
  have n2_ := Aside0.mk (blk_drew BK4635.out)
  have n3_ := Aside0.mk (below_drew1 HB.out)
  clear BK4633 BK4634 BK4635 HB
  have BK4633 := n0_
  have BK4634 := n1_
  have BK4635 := n2_
  have HB := n3_
  clear n0_ n1_ n2_ n3_
  refine start_ (n := 8) (S := fun w' => w'.cell? ⟨gb4633, 0, none⟩ = some (.int .i64 a0_0) ∧ w'.cell? ⟨gb4633, 1, none⟩ = some (.int .i64 a0_1)) (ds := []) (demurrageref02_Cmp.ups 8 0) (by kernel_rfl) rfl rfl ⟨(blk_cell BK4633.out 0).trans rfl, (blk_cell BK4633.out 1).trans rfl⟩ (fun hHeld => ?_); refine with_tabW demurrageref02_big.tab1 demurrageref02_big.bits1 (fun HT_ HW_ => ?_)
  generalize w6.drew = w7 at BK4633 BK4634 BK4635 HB hHeld ⊢
  refine pure_ (i := 0) (N := some 4) (v := ?_) (a' := ?_) (demurrageref02_Cmp.ups 8 1) rfl rfl (any_of HT_.out (by kernel_rfl)) (fun _ _ _ h => h) (Or.inl ⟨by rfl, ?_⟩) ?_ ?_
  rotate_left
  · intro w'
    go_simp
    with_reducible rfl
  rotate_left
  · simp only [Act.put, List.setIfInBounds_toArray, List.set_cons_zero, List.set_cons_succ, i64_w, i32_w]
    rfl
  refine pure_ (i := 3) (N := some 7) (v := ?_) (a' := ?_) (demurrageref02_Cmp.ups 8 9) rfl rfl (any_of HT_.out (by kernel_rfl)) (fun _ _ _ h => h) (Or.inl ⟨by rfl, ?_⟩) ?_ ?_
  rotate_left
  · intro w'
    go_simp
    with_reducible rfl
  rotate_left
  · simp only [Act.put, List.setIfInBounds_toArray, List.set_cons_zero, List.set_cons_succ, i64_w, i32_w]
    rfl
  refine take_ (i := 1) (N := some 5) (v := ?_) (a' := ?_) (demurrageref02_Cmp.ups 8 11) rfl rfl (take_ofW HT_.out HW_.out (by kernel_rfl)) (fun _ _ _ h => h) (Or.inl ⟨by rfl, ?_⟩) hHeld ?_ ?_
  rotate_left
  · rintro w' ⟨s0, s1⟩
    go_simp
    with_reducible rfl
  rotate_left
  · simp only [Act.put, List.setIfInBounds_toArray, List.set_cons_zero, List.set_cons_succ, i64_w, i32_w]
    rfl
  refine take_ (i := 4) (N := some 8) (v := ?_) (a' := ?_) (demurrageref02_Cmp.ups 8 27) rfl rfl (take_ofW HT_.out HW_.out (by kernel_rfl)) (fun _ _ _ h => h) (Or.inl ⟨by rfl, ?_⟩) hHeld ?_ ?_
  rotate_left
  · rintro w' ⟨s0, s1⟩
    go_simp
    with_reducible rfl
  rotate_left
  · simp only [Act.put, List.setIfInBounds_toArray, List.set_cons_zero, List.set_cons_succ, i64_w, i32_w]
    rfl
  refine one_ (i := 2) (N := some 6) (demurrageref02_Cmp.ups 8 31) rfl rfl (one_of HT_.out (by kernel_rfl)) (by decide) (fun K hK => ?_)
  refine goes_ Try.func71 (by kernel_rfl) rfl #[.int .i64 a0_0] (by rfl) rfl rfl (by (try simp only [List.map_toArray, List.map_cons, List.map_nil]); first | done | rfl) ?_
  with_reducible refine (demurrageref01_From.calls k a0_0 t4636 _ A2.out).mono ?_
  rintro e w8 ⟨v4637, rfl, ho0, hb⟩
  refine ⟨_, rfl, ?_⟩
  have n0_ := Aside0.mk (Kd.R_lower ho0 (below_size (by repeat (first | (with_reducible first | exact HB.out | apply below_alloc | apply pw_below_drewN | apply below_drew1 | refine below_set ?_ GE4633.out | refine below_set ?_ GE4634.out | refine below_set ?_ GE4635.out) | exact HB.out))))
  have n1_ := Aside0.mk (blk_below BK4633.out hb)
  have n2_ := Aside0.mk (blk_below BK4634.out hb)
  have n3_ := Aside0.mk (blk_below BK4635.out hb)
  have n4_ := Aside0.mk (below_step (by repeat (first | (with_reducible first | exact HB.out | apply below_alloc | apply pw_below_drewN | apply below_drew1 | refine below_set ?_ GE4633.out | refine below_set ?_ GE4634.out | refine below_set ?_ GE4635.out) | exact HB.out)) hb)
  clear BK4633 BK4634 BK4635 HB
  have HO4638 := n0_
  have BK4633 := n1_
  have BK4634 := n2_
  have BK4635 := n3_
  have HB := n4_
  clear n0_ n1_ n2_ n3_ n4_
  (try clear hb)
  (try clear hb2)
  (try clear hk)
  (try clear hi)
  (try clear ho0)
  refine hK.out _ _ ⟨(blk_cell BK4633.out 0).trans rfl, (blk_cell BK4633.out 1).trans rfl⟩ (fun hHeld => ?_)
  clear hK K
  refine norm_ (a' := ?_) ?_ ?_
  rotate_left
  · show Act.put _ (some 6) _ = _
    simp only [Act.put, List.setIfInBounds_toArray, List.set_cons_zero, List.set_cons_succ, i64_w, i32_w]
    rfl
  refine one_ (i := 5) (N := some 9) (demurrageref02_Cmp.ups 8 63) rfl rfl (one_of HT_.out (by kernel_rfl)) (by decide) (fun K hK => ?_)
  refine goes_ Try.func71 (by kernel_rfl) rfl #[.int .i64 a0_1] (by rfl) rfl rfl (by (try simp only [List.map_toArray, List.map_cons, List.map_nil]); first | done | rfl) ?_
  with_reducible refine (demurrageref01_From.calls k a0_1 t4639 _ A3.out).mono ?_
  rintro e w9 ⟨v4640, rfl, ho0, hb⟩
  refine ⟨_, rfl, ?_⟩
  have n0_ := Aside0.mk (Kd.R_elder' HO4638.out (Kd.R_base ho0) hb)
  have n1_ := Aside0.mk (Kd.R_lower (Kd.R_new' ho0 (Kd.R_lt HO4638.out)) (below_size (by repeat (first | (with_reducible first | exact HB.out | apply below_alloc | apply pw_below_drewN | apply below_drew1 | refine below_set ?_ GE4633.out | refine below_set ?_ GE4634.out | refine below_set ?_ GE4635.out) | exact HB.out))))
  have n2_ := Aside0.mk (blk_below BK4633.out hb)
  have n3_ := Aside0.mk (blk_below BK4634.out hb)
  have n4_ := Aside0.mk (blk_below BK4635.out hb)
  have n5_ := Aside0.mk (below_step (by repeat (first | (with_reducible first | exact HB.out | apply below_alloc | apply pw_below_drewN | apply below_drew1 | refine below_set ?_ GE4633.out | refine below_set ?_ GE4634.out | refine below_set ?_ GE4635.out) | exact HB.out)) hb)
  clear HO4638 BK4633 BK4634 BK4635 HB
  have HO4638 := n0_
  have HO4641 := n1_
  have BK4633 := n2_
  have BK4634 := n3_
  have BK4635 := n4_
  have HB := n5_
  clear n0_ n1_ n2_ n3_ n4_ n5_
  (try clear hb)
  (try clear hb2)
  (try clear hk)
  (try clear hi)
  (try clear ho0)
  obtain ⟨Ao10, co10, eo10⟩ := Kd.R_slice HO4638.out
  (first | subst eo10 | (injection eo10 with f1_ f2_ f3_; have f4_ := f1_.symm; have f5_ := f3_.symm; clear f1_ f2_ f3_; subst f4_; subst f5_))
  obtain ⟨Ao12, co12, eo12⟩ := Kd.R_slice HO4641.out
  (first | subst eo12 | (injection eo12 with f1_ f2_ f3_; have f4_ := f1_.symm; have f5_ := f3_.symm; clear f1_ f2_ f3_; subst f4_; subst f5_))
  refine hK.out _ _ ⟨(blk_cell BK4633.out 0).trans rfl, (blk_cell BK4633.out 1).trans rfl⟩ (fun hHeld => ?_)
  clear hK K
  refine norm_ (a' := ?_) ?_ ?_
  rotate_left
  · show Act.put _ (some 9) _ = _
    simp only [Act.put, List.setIfInBounds_toArray, List.set_cons_zero, List.set_cons_succ, i64_w, i32_w]
    rfl
  refine one_ (i := 6) (N := none) (demurrageref02_Cmp.ups 8 127) rfl rfl (one_of HT_.out (by kernel_rfl)) (by decide) (fun K hK => ?_)
  have hs11 : w9.cell? ⟨gb4634, 0, none⟩ = some (.slice none 0 0) := (blk_cell BK4634.out 0).trans rfl
  have hfs11 := blk_frozen BK4634.out 0
  have hns11_0 := NB4633_4634.out
  have hns11_2 := NB4635_4634.out
  have hms11_0 := NB4634_4633.out
  have hms11_2 := NB4634_4635.out
  refine skip_ (w1 := ?_) (by rfl) rfl ?_ ?_
  rotate_left
  · go_simp
    rfl
  refine hK.out _ _ ⟨((cell_far (p := ⟨gb4634, _, none⟩) NB4633_4634.out _).trans (hHeld.1)), ((cell_far (p := ⟨gb4634, _, none⟩) NB4633_4634.out _).trans (hHeld.2))⟩ (fun hHeld => ?_)
  clear hK K
  refine one_ (i := 7) (N := none) (demurrageref02_Cmp.ups 8 255) rfl rfl (one_of HT_.out (by kernel_rfl)) (by decide) (fun K hK => ?_)
  have hs13 : w9.cell? ⟨gb4635, 0, none⟩ = some (.slice none 0 0) := (blk_cell BK4635.out 0).trans rfl
  have hfs13 := blk_frozen BK4635.out 0
  have hns13_0 := NB4633_4635.out
  have hns13_1 := NB4634_4635.out
  have hms13_0 := NB4635_4633.out
  have hms13_1 := NB4635_4634.out
  refine skip_ (w1 := ?_) (by rfl) rfl ?_ ?_
  rotate_left
  · go_simp
    rfl
  refine hK.out _ _ ⟨((cell_far (p := ⟨gb4635, _, none⟩) NB4633_4635.out _).trans (hHeld.1)), ((cell_far (p := ⟨gb4635, _, none⟩) NB4633_4635.out _).trans (hHeld.2))⟩ (fun hHeld => ?_)
  clear hK K
  refine done_ (done_of HT_.out (by kernel_rfl)) ?_
  try go_wp2
  refine bodyPost_ret (results_cc rfl _ _ gb4634 gb4635 28 28 #[.slice Ao10 t4636.length co10] #[.slice Ao12 t4639.length co12] (0, 0) (0, 0) _ _ rfl (by refine blk_far ?_ NB4634_4635.out _; refine blk_put (cs := #[.slice none 0 0]) ?_ 0 _ rfl; exact BK4634.out) Try.underlying28 rfl (by kernel_rfl) rfl (by refine blk_put (cs := #[.slice none 0 0]) ?_ 0 _ rfl; refine blk_far ?_ NB4635_4634.out _; exact BK4635.out) Try.underlying28 rfl (by kernel_rfl)) rfl ?_
  exact ⟨_, _, by rfl, by (with_reducible repeat (first | apply Kd.R_alloc | apply Kd.R_drewN | apply Kd.R_drew)); exact Kd.R_mono (Kd.R_far (p := ⟨gb4635, 0, none⟩) (Kd.R_far (p := ⟨gb4634, 0, none⟩) (Kd.R_types (Kd.R_types HO4638.out BK4634.out (by decide)) BK4635.out (by decide)) (fun _ hk => hk.1.2) (.slice Ao10 t4636.length co10)) (fun _ hk => hk.2) (.slice Ao12 t4639.length co12)) (fun _ hk => hk.1.1.2), by (with_reducible repeat (first | apply Kd.R_alloc | apply Kd.R_drewN | apply Kd.R_drew)); exact Kd.R_mono (Kd.R_far (p := ⟨gb4635, 0, none⟩) (Kd.R_far (p := ⟨gb4634, 0, none⟩) (Kd.R_types (Kd.R_types HO4641.out BK4634.out (by decide)) BK4635.out (by decide)) (fun _ hk => hk.1.2) (.slice Ao10 t4636.length co10)) (fun _ hk => hk.2) (.slice Ao12 t4639.length co12)) (fun _ hk => hk.1.1.2), by repeat (first | (with_reducible first | exact HB.out | apply below_alloc | apply pw_below_drewN | apply below_drew1 | refine below_set ?_ GE4633.out | refine below_set ?_ GE4634.out | refine below_set ?_ GE4635.out) | exact HB.out)⟩

def demurrageref02_Add.f (k : Nat) (a0_0 : Int) (a0_1 : Int) (a1_0 : Int) (a1_1 : Int) : Option (Int × Int × Int) := (demurrageref02_big.f k a0_0 a0_1).bind fun bt4645 => ((demurrageref02_big.f k a1_0 a1_1).bind fun bt4653 => ((demurrageref01_Prod.f k bt4645.1 bt4653.2).bind fun t4661 => ((demurrageref01_Prod.f k bt4653.1 bt4645.2).bind fun t4664 => ((demurrageref01_Plus.f k t4661 t4664).bind fun t4667 => ((demurrageref01_Prod.f k bt4645.2 bt4653.2).bind fun t4670 => ((demurrageref02_Made.f k t4667 t4670).bind fun bt4673 => (some (bt4673.1, bt4673.2.1, bt4673.2.2))))))))
def demurrageref02_Add.T3 : Bool × List (List Nat × List Nat) := (true, [([], []), ([], []), ([0, 1], [0, 1]), ([], []), ([], []), ([3, 4, 2], [3, 4]), ([2, 5, 5], [2, 5]), ([], []), ([], []), ([7, 8, 6], [7, 8]), ([6, 9, 9], [6, 9]), ([10], [10]), ([10], [10]), ([11, 10, 0, 1, 2, 3, 4, 5, 6, 7, 8, 9, 10, 11, 12], [11]), ([12, 13, 0, 1, 2, 3, 4, 5, 6, 7, 8, 9, 10, 11, 12, 13], [12])])
def demurrageref02_Add.B3 : List Nat := [0, 0, 3, 0, 0, 31, 63, 0, 0, 511, 1023, 2047, 2047, 8191, 16383]
theorem demurrageref02_Add.tab3 : rtab .any (opsOf Try.f47 3) = demurrageref02_Add.T3 := by kernel_rfl
theorem demurrageref02_Add.bits3 : waitsOk demurrageref02_Add.T3.2 demurrageref02_Add.B3 = true := by kernel_rfl
set_option maxHeartbeats 8000000 in
set_option maxRecDepth 100000 in
theorem demurrageref02_Add.calls (k : Nat) (a0_0 : Int) (a0_1 : Int) (a1_0 : Int) (a1_1 : Int) (r1 : Int) (r2 : Int) (r3 : Int) (w : World) (h : demurrageref02_Add.f k a0_0 a0_1 a1_0 a1_1 = some (r1, r2, r3)) :
    Calls Try.prog 47 #[.agg #[.int .i64 a0_0, .int .i64 a0_1], .agg #[.int .i64 a1_0, .int .i64 a1_1]] w fun e w' => e = .returned (.tuple #[.agg #[.int .i64 r1, .int .i64 r2], .int .i64 r3]) ∧ Below w.heap.size w w' := by
  have hu57 := Try.underlying57
  have hu28 := Try.underlying28
  have HB := Aside0.mk (Below.refl w.heap.size w)
  have H : ((demurrageref02_big.f k a0_0 a0_1).bind fun bt4645 => ((demurrageref02_big.f k a1_0 a1_1).bind fun bt4653 => ((demurrageref01_Prod.f k bt4645.1 bt4653.2).bind fun t4661 => ((demurrageref01_Prod.f k bt4653.1 bt4645.2).bind fun t4664 => ((demurrageref01_Plus.f k t4661 t4664).bind fun t4667 => ((demurrageref01_Prod.f k bt4645.2 bt4653.2).bind fun t4670 => ((demurrageref02_Made.f k t4667 t4670).bind fun bt4673 => (some (bt4673.1, bt4673.2.1, bt4673.2.2))))))))) = some (r1, r2, r3) := h
  clear h
  replace H := Option.bind_eq_some_iff.mp H
  obtain ⟨⟨t4645, t4648⟩, A30, H⟩ := H
  replace H : ((demurrageref02_big.f k a1_0 a1_1).bind fun bt4653 => ((demurrageref01_Prod.f k t4645 bt4653.2).bind fun t4661 => ((demurrageref01_Prod.f k bt4653.1 t4648).bind fun t4664 => ((demurrageref01_Plus.f k t4661 t4664).bind fun t4667 => ((demurrageref01_Prod.f k t4648 bt4653.2).bind fun t4670 => ((demurrageref02_Made.f k t4667 t4670).bind fun bt4673 => (some (bt4673.1, bt4673.2.1, bt4673.2.2)))))))) = some (r1, r2, r3) := H
  have A3 := Aside0.mk A30
  clear A30
  replace H := Option.bind_eq_some_iff.mp H
  obtain ⟨⟨t4653, t4656⟩, A40, H⟩ := H
  replace H : ((demurrageref01_Prod.f k t4645 t4656).bind fun t4661 => ((demurrageref01_Prod.f k t4653 t4648).bind fun t4664 => ((demurrageref01_Plus.f k t4661 t4664).bind fun t4667 => ((demurrageref01_Prod.f k t4648 t4656).bind fun t4670 => ((demurrageref02_Made.f k t4667 t4670).bind fun bt4673 => (some (bt4673.1, bt4673.2.1, bt4673.2.2))))))) = some (r1, r2, r3) := H
  have A4 := Aside0.mk A40
  clear A40
  replace H := Option.bind_eq_some_iff.mp H
  obtain ⟨t4661, A50, H⟩ := H
  replace H : ((demurrageref01_Prod.f k t4653 t4648).bind fun t4664 => ((demurrageref01_Plus.f k t4661 t4664).bind fun t4667 => ((demurrageref01_Prod.f k t4648 t4656).bind fun t4670 => ((demurrageref02_Made.f k t4667 t4670).bind fun bt4673 => (some (bt4673.1, bt4673.2.1, bt4673.2.2)))))) = some (r1, r2, r3) := H
  have A5 := Aside0.mk A50
  clear A50
  replace H := Option.bind_eq_some_iff.mp H
  obtain ⟨t4664, A60, H⟩ := H
  replace H : ((demurrageref01_Plus.f k t4661 t4664).bind fun t4667 => ((demurrageref01_Prod.f k t4648 t4656).bind fun t4670 => ((demurrageref02_Made.f k t4667 t4670).bind fun bt4673 => (some (bt4673.1, bt4673.2.1, bt4673.2.2))))) = some (r1, r2, r3) := H
  have A6 := Aside0.mk A60
  clear A60
  replace H := Option.bind_eq_some_iff.mp H
  obtain ⟨t4667, A70, H⟩ := H
  replace H : ((demurrageref01_Prod.f k t4648 t4656).bind fun t4670 => ((demurrageref02_Made.f k t4667 t4670).bind fun bt4673 => (some (bt4673.1, bt4673.2.1, bt4673.2.2)))) = some (r1, r2, r3) := H
  have A7 := Aside0.mk A70
  clear A70
  replace H := Option.bind_eq_some_iff.mp H
  obtain ⟨t4670, A80, H⟩ := H
  replace H : ((demurrageref02_Made.f k t4667 t4670).bind fun bt4673 => (some (bt4673.1, bt4673.2.1, bt4673.2.2))) = some (r1, r2, r3) := H
  have A8 := Aside0.mk A80
  clear A80
  replace H := Option.bind_eq_some_iff.mp H
  obtain ⟨⟨t4673, t4674, t4675⟩, A90, H⟩ := H
  replace H : (some (t4673, t4674, t4675)) = some (r1, r2, r3) := H
  have A9 := Aside0.mk A90
  clear A90
  simp only [Option.some.injEq, Prod.mk.injEq] at H
  obtain ⟨rfl, rfl, rfl⟩ := H
  go_enter Try.func47, Try.ntmps47
  try go_wp2_with (first | ((with_reducible refine gate_dst (N := 2) rfl ?_); refine box_event ?hg (N := 2) ?hd (cs := #[.int .i64 a0_0, .int .i64 a0_1]) (t := 57) ?hr ?_; (case hd => rfl); (case hg => rfl); (case hr => go_simp); intro gb4642 hg w10 hbox hb; have n0_ := Aside0.mk (below_step (by repeat (first | (with_reducible first | exact HB.out | apply below_alloc | apply pw_below_drewN | apply below_drew1) | exact HB.out)) hb); have n1_ := Aside0.mk (hbox); have n2_ := Aside0.mk ((by rw [hg]; exact (below_size (by repeat (first | (with_reducible first | exact HB.out | apply below_alloc | apply pw_below_drewN | apply below_drew1) | exact HB.out))) : w.heap.size ≤ gb4642)); have n3_ := Aside0.mk ((by rw [hg]; exact (below_size (by repeat (first | (with_reducible first | exact HB.out | apply below_alloc | apply pw_below_drewN | apply below_drew1) | exact HB.out))) : w.heap.size ≤ gb4642)); clear HB; have HB := n0_; have BK4642 := n1_; have GW4642 := n2_; have GE4642 := n3_; clear n0_ n1_ n2_ n3_; clear hb hbox hg) | ((with_reducible refine gate_dst (N := 3) rfl ?_); refine box_event ?hg (N := 3) ?hd (cs := #[.int .i64 a1_0, .int .i64 a1_1]) (t := 57) ?hr ?_; (case hd => rfl); (case hg => rfl); (case hr => go_simp); intro gb4643 hg w11 hbox hb; have n0_ := Aside0.mk (blk_below BK4642.out hb); have n1_ := Aside0.mk (below_step (by repeat (first | (with_reducible first | exact HB.out | apply below_alloc | apply pw_below_drewN | apply below_drew1 | refine below_set ?_ GE4642.out) | exact HB.out)) hb); have n2_ := Aside0.mk (hbox); have n3_ := Aside0.mk ((by rw [hg]; exact (below_size (by repeat (first | (with_reducible first | exact HB.out | apply below_alloc | apply pw_below_drewN | apply below_drew1 | refine below_set ?_ GE4642.out) | exact HB.out))) : w.heap.size ≤ gb4643)); have n4_ := Aside0.mk ((by rw [hg]; exact (below_size (by repeat (first | (with_reducible first | exact HB.out | apply below_alloc | apply pw_below_drewN | apply below_drew1 | refine below_set ?_ GE4642.out) | exact HB.out))) : w.heap.size ≤ gb4643)); have n5_ := Aside0.mk ((by rw [hg]; exact Nat.ne_of_lt (blk_lt (g := gb4642) (o := .cells #[.int .i64 a0_0, .int .i64 a0_1] 57 (0, 0)) BK4642.out) : gb4642 ≠ gb4643)); have n6_ := Aside0.mk ((by rw [hg]; exact Nat.ne_of_gt (blk_lt (g := gb4642) (o := .cells #[.int .i64 a0_0, .int .i64 a0_1] 57 (0, 0)) BK4642.out) : gb4643 ≠ gb4642)); clear BK4642 HB; have BK4642 := n0_; have HB := n1_; have BK4643 := n2_; have GW4643 := n3_; have GE4643 := n4_; have NB4642_4643 := n5_; have NB4643_4642 := n6_; clear n0_ n1_ n2_ n3_ n4_ n5_ n6_; clear hb hbox hg) | ((with_reducible refine gate_dst (N := 4) rfl ?_); refine box_event ?hg (N := 4) ?hd (cs := #[.int .i64 0, .int .i64 0]) (t := 57) ?hr ?_; (case hd => rfl); (case hg => rfl); (case hr => go_simp); intro gb4644 hg w12 hbox hb; have n0_ := Aside0.mk (blk_below BK4642.out hb); have n1_ := Aside0.mk (blk_below BK4643.out hb); have n2_ := Aside0.mk (below_step (by repeat (first | (with_reducible first | exact HB.out | apply below_alloc | apply pw_below_drewN | apply below_drew1 | refine below_set ?_ GE4642.out | refine below_set ?_ GE4643.out) | exact HB.out)) hb); have n3_ := Aside0.mk (hbox); have n4_ := Aside0.mk ((by rw [hg]; exact (below_size (by repeat (first | (with_reducible first | exact HB.out | apply below_alloc | apply pw_below_drewN | apply below_drew1 | refine below_set ?_ GE4642.out | refine below_set ?_ GE4643.out) | exact HB.out))) : w.heap.size ≤ gb4644)); have n5_ := Aside0.mk ((by rw [hg]; exact (below_size (by repeat (first | (with_reducible first | exact HB.out | apply below_alloc | apply pw_below_drewN | apply below_drew1 | refine below_set ?_ GE4642.out | refine below_set ?_ GE4643.out) | exact HB.out))) : w.heap.size ≤ gb4644)); have n6_ := Aside0.mk ((by rw [hg]; exact Nat.ne_of_lt (blk_lt (g := gb4642) (o := .cells #[.int .i64 a0_0, .int .i64 a0_1] 57 (0, 0)) BK4642.out) : gb4642 ≠ gb4644)); have n7_ := Aside0.mk ((by rw [hg]; exact Nat.ne_of_gt (blk_lt (g := gb4642) (o := .cells #[.int .i64 a0_0, .int .i64 a0_1] 57 (0, 0)) BK4642.out) : gb4644 ≠ gb4642)); have n8_ := Aside0.mk ((by rw [hg]; exact Nat.ne_of_lt (blk_lt (g := gb4643) (o := .cells #[.int .i64 a1_0, .int .i64 a1_1] 57 (0, 0)) BK4643.out) : gb4643 ≠ gb4644)); have n9_ := Aside0.mk ((by rw [hg]; exact Nat.ne_of_gt (blk_lt (g := gb4643) (o := .cells #[.int .i64 a1_0, .int .i64 a1_1] 57 (0, 0)) BK4643.out) : gb4644 ≠ gb4643)); clear BK4642 BK4643; clear HB; have BK4642 := n0_; have BK4643 := n1_; have HB := n2_; have BK4644 := n3_; have GW4644 := n4_; have GE4644 := n5_; have NB4642_4644 := n6_; have NB4644_4642 := n7_; have NB4643_4644 := n8_; have NB4644_4643 := n9_; clear n0_ n1_ n2_ n3_ n4_ n5_ n6_ n7_ n8_ n9_; clear hb hbox hg; have hnb13 := NB4642_4643.out; have hnc13 := NB4643_4642.out; have hnb14 := NB4642_4644.out; have hnc14 := NB4644_4642.out; have hcz15_0 : w12.cell? ⟨gb4642, 0, none⟩ = some (.int .i64 a0_0) := (blk_cell BK4642.out 0).trans rfl; have hcz15_1 : w12.cell? ⟨gb4642, 1, none⟩ = some (.int .i64 a0_1) := (blk_cell BK4642.out 1).trans rfl; have hfz15_0 := blk_frozen BK4642.out 0; have hfz15_1 := blk_frozen BK4642.out 1) | ((with_reducible refine gate_callee (f := 75) rfl ?_); refine goesL_ (some 12) rfl rfl Try.func75 (by kernel_rfl) rfl #[.agg #[.int .i64 a0_0, .int .i64 a0_1]] rfl (by (try simp only [List.map_toArray, List.map_cons, List.map_nil]); first | done | rfl) ?_; (with_reducible refine (demurrageref02_big.calls k a0_0 a0_1 t4645 t4648 _ A3.out).mono ?_); rintro e w16 ⟨v4646, v4649, rfl, ho0, ho1, hb⟩; refine ⟨_, rfl, ?_⟩; have n0_ := Aside0.mk (Kd.R_lower ho0 (below_size (by repeat (first | (with_reducible first | exact HB.out | apply below_alloc | apply pw_below_drewN | apply below_drew1 | refine below_set ?_ GE4642.out | refine below_set ?_ GE4643.out | refine below_set ?_ GE4644.out) | exact HB.out)))); have n1_ := Aside0.mk (Kd.R_lower ho1 (below_size (by repeat (first | (with_reducible first | exact HB.out | apply below_alloc | apply pw_below_drewN | apply below_drew1 | refine below_set ?_ GE4642.out | refine below_set ?_ GE4643.out | refine below_set ?_ GE4644.out) | exact HB.out)))); have n2_ := Aside0.mk (blk_below BK4642.out hb); have n3_ := Aside0.mk (blk_below BK4643.out hb); have n4_ := Aside0.mk (blk_below BK4644.out hb); have n5_ := Aside0.mk (below_step (by repeat (first | (with_reducible first | exact HB.out | apply below_alloc | apply pw_below_drewN | apply below_drew1 | refine below_set ?_ GE4642.out | refine below_set ?_ GE4643.out | refine below_set ?_ GE4644.out) | exact HB.out)) hb); clear BK4642 BK4643 BK4644 HB; have HO4647 := n0_; have HO4650 := n1_; have BK4642 := n2_; have BK4643 := n3_; have BK4644 := n4_; have HB := n5_; clear n0_ n1_ n2_ n3_ n4_ n5_; (try clear hb); (try clear ho0); (try clear ho1)) | ((with_reducible refine gate_dst (N := 6) rfl ?_); refine box_event ?hg (N := 6) ?hd (cs := #[.slice none 0 0]) (t := 28) ?hr ?_; (case hd => rfl); (case hg => rfl); (case hr => go_simp); intro gb4651 hg w17 hbox hb; have n0_ := Aside0.mk (Kd.R_below HO4647.out hb); have n1_ := Aside0.mk (Kd.R_below HO4650.out hb); have n2_ := Aside0.mk (blk_below BK4642.out hb); have n3_ := Aside0.mk (blk_below BK4643.out hb); have n4_ := Aside0.mk (blk_below BK4644.out hb); have n5_ := Aside0.mk (below_step (by repeat (first | (with_reducible first | exact HB.out | apply below_alloc | apply pw_below_drewN | apply below_drew1 | refine below_set ?_ GE4642.out | refine below_set ?_ GE4643.out | refine below_set ?_ GE4644.out) | exact HB.out)) hb); have n6_ := Aside0.mk (hbox); have n7_ := Aside0.mk ((by rw [hg]; exact (below_size (by repeat (first | (with_reducible first | exact HB.out | apply below_alloc | apply pw_below_drewN | apply below_drew1 | refine below_set ?_ GE4642.out | refine below_set ?_ GE4643.out | refine below_set ?_ GE4644.out) | exact HB.out))) : w.heap.size ≤ gb4651)); have n8_ := Aside0.mk ((by rw [hg]; exact (below_size (by repeat (first | (with_reducible first | exact HB.out | apply below_alloc | apply pw_below_drewN | apply below_drew1 | refine below_set ?_ GE4642.out | refine below_set ?_ GE4643.out | refine below_set ?_ GE4644.out) | exact HB.out))) : w.heap.size ≤ gb4651)); have n9_ := Aside0.mk ((by rw [hg]; exact Nat.ne_of_lt (blk_lt (g := gb4642) (o := .cells #[.int .i64 a0_0, .int .i64 a0_1] 57 (0, 0)) BK4642.out) : gb4642 ≠ gb4651)); have n10_ := Aside0.mk ((by rw [hg]; exact Nat.ne_of_gt (blk_lt (g := gb4642) (o := .cells #[.int .i64 a0_0, .int .i64 a0_1] 57 (0, 0)) BK4642.out) : gb4651 ≠ gb4642)); have n11_ := Aside0.mk ((by rw [hg]; exact Nat.ne_of_lt (blk_lt (g := gb4643) (o := .cells #[.int .i64 a1_0, .int .i64 a1_1] 57 (0, 0)) BK4643.out) : gb4643 ≠ gb4651)); have n12_ := Aside0.mk ((by rw [hg]; exact Nat.ne_of_gt (blk_lt (g := gb4643) (o := .cells #[.int .i64 a1_0, .int .i64 a1_1] 57 (0, 0)) BK4643.out) : gb4651 ≠ gb4643)); have n13_ := Aside0.mk ((by rw [hg]; exact Nat.ne_of_lt (blk_lt (g := gb4644) (o := .cells #[.int .i64 0, .int .i64 0] 57 (0, 0)) BK4644.out) : gb4644 ≠ gb4651)); have n14_ := Aside0.mk ((by rw [hg]; exact Nat.ne_of_gt (blk_lt (g := gb4644) (o := .cells #[.int .i64 0, .int .i64 0] 57 (0, 0)) BK4644.out) : gb4651 ≠ gb4644)); clear HO4647 HO4650 BK4642 BK4643; clear BK4644 HB; have HO4647 := n0_; have HO4650 := n1_; have BK4642 := n2_; have BK4643 := n3_; have BK4644 := n4_; have HB := n5_; have BK4651 := n6_; have GW4651 := n7_; have GE4651 := n8_; have NB4642_4651 := n9_; have NB4651_4642 := n10_; have NB4643_4651 := n11_; have NB4651_4643 := n12_; have NB4644_4651 := n13_; have NB4651_4644 := n14_; clear n0_ n1_ n2_ n3_ n4_ n5_ n6_ n7_ n8_ n9_ n10_ n11_ n12_ n13_ n14_; clear hb hbox hg) | ((with_reducible refine gate_dst (N := 7) rfl ?_); refine box_event ?hg (N := 7) ?hd (cs := #[.slice none 0 0]) (t := 28) ?hr ?_; (case hd => rfl); (case hg => rfl); (case hr => go_simp); intro gb4652 hg w18 hbox hb; have n0_ := Aside0.mk (Kd.R_below HO4647.out hb); have n1_ := Aside0.mk (Kd.R_below HO4650.out hb); have n2_ := Aside0.mk (blk_below BK4642.out hb); have n3_ := Aside0.mk (blk_below BK4643.out hb); have n4_ := Aside0.mk (blk_below BK4644.out hb); have n5_ := Aside0.mk (blk_below BK4651.out hb); have n6_ := Aside0.mk (below_step (by repeat (first | (with_reducible first | exact HB.out | apply below_alloc | apply pw_below_drewN | apply below_drew1 | refine below_set ?_ GE4642.out | refine below_set ?_ GE4643.out | refine below_set ?_ GE4644.out | refine below_set ?_ GE4651.out) | exact HB.out)) hb); have n7_ := Aside0.mk (hbox); have n8_ := Aside0.mk ((by rw [hg]; exact (below_size (by repeat (first | (with_reducible first | exact HB.out | apply below_alloc | apply pw_below_drewN | apply below_drew1 | refine below_set ?_ GE4642.out | refine below_set ?_ GE4643.out | refine below_set ?_ GE4644.out | refine below_set ?_ GE4651.out) | exact HB.out))) : w.heap.size ≤ gb4652)); have n9_ := Aside0.mk ((by rw [hg]; exact (below_size (by repeat (first | (with_reducible first | exact HB.out | apply below_alloc | apply pw_below_drewN | apply below_drew1 | refine below_set ?_ GE4642.out | refine below_set ?_ GE4643.out | refine below_set ?_ GE4644.out | refine below_set ?_ GE4651.out) | exact HB.out))) : w.heap.size ≤ gb4652)); have n10_ := Aside0.mk ((by rw [hg]; exact Nat.ne_of_lt (blk_lt (g := gb4642) (o := .cells #[.int .i64 a0_0, .int .i64 a0_1] 57 (0, 0)) BK4642.out) : gb4642 ≠ gb4652)); have n11_ := Aside0.mk ((by rw [hg]; exact Nat.ne_of_gt (blk_lt (g := gb4642) (o := .cells #[.int .i64 a0_0, .int .i64 a0_1] 57 (0, 0)) BK4642.out) : gb4652 ≠ gb4642)); have n12_ := Aside0.mk ((by rw [hg]; exact Nat.ne_of_lt (blk_lt (g := gb4643) (o := .cells #[.int .i64 a1_0, .int .i64 a1_1] 57 (0, 0)) BK4643.out) : gb4643 ≠ gb4652)); have n13_ := Aside0.mk ((by rw [hg]; exact Nat.ne_of_gt (blk_lt (g := gb4643) (o := .cells #[.int .i64 a1_0, .int .i64 a1_1] 57 (0, 0)) BK4643.out) : gb4652 ≠ gb4643)); have n14_ := Aside0.mk ((by rw [hg]; exact Nat.ne_of_lt (blk_lt (g := gb4644) (o := .cells #[.int .i64 0, .int .i64 0] 57 (0, 0)) BK4644.out) : gb4644 ≠ gb4652)); have n15_ := Aside0.mk ((by rw [hg]; exact Nat.ne_of_gt (blk_lt (g := gb4644) (o := .cells #[.int .i64 0, .int .i64 0] 57 (0, 0)) BK4644.out) : gb4652 ≠ gb4644)); have n16_ := Aside0.mk ((by rw [hg]; exact Nat.ne_of_lt (blk_lt (g := gb4651) (o := .cells #[.slice none 0 0] 28 (0, 0)) BK4651.out) : gb4651 ≠ gb4652)); have n17_ := Aside0.mk ((by rw [hg]; exact Nat.ne_of_gt (blk_lt (g := gb4651) (o := .cells #[.slice none 0 0] 28 (0, 0)) BK4651.out) : gb4652 ≠ gb4651)); clear HO4647 HO4650 BK4642 BK4643; clear BK4644 BK4651; clear HB; have HO4647 := n0_; have HO4650 := n1_; have BK4642 := n2_; have BK4643 := n3_; have BK4644 := n4_; have BK4651 := n5_; have HB := n6_; have BK4652 := n7_; have GW4652 := n8_; have GE4652 := n9_; have NB4642_4652 := n10_; have NB4652_4642 := n11_; have NB4643_4652 := n12_; have NB4652_4643 := n13_; have NB4644_4652 := n14_; have NB4652_4644 := n15_; have NB4651_4652 := n16_; have NB4652_4651 := n17_; clear n0_ n1_ n2_ n3_ n4_ n5_ n6_ n7_ n8_ n9_ n10_ n11_ n12_ n13_ n14_ n15_ n16_ n17_; clear hb hbox hg; obtain ⟨Ao19, co19, eo19⟩ := Kd.R_slice HO4647.out; subst eo19; have hnb20 := NB4651_4642.out; have hnc20 := NB4642_4651.out; have hnb21 := NB4651_4643.out; have hnc21 := NB4643_4651.out; have hnb22 := NB4651_4644.out; have hnc22 := NB4644_4651.out; have hnb23 := NB4651_4652.out; have hnc23 := NB4652_4651.out; have hcz24_0 : w18.cell? ⟨gb4651, 0, none⟩ = some (.slice none 0 0) := (blk_cell BK4651.out 0).trans rfl; have hfz24_0 := blk_frozen BK4651.out 0; obtain ⟨Ao25, co25, eo25⟩ := Kd.R_slice HO4650.out; subst eo25; have hnb26 := NB4652_4642.out; have hnc26 := NB4642_4652.out; have hnb27 := NB4652_4643.out; have hnc27 := NB4643_4652.out; have hnb28 := NB4652_4644.out; have hnc28 := NB4644_4652.out; have hcz29_0 : w18.cell? ⟨gb4652, 0, none⟩ = some (.slice none 0 0) := (blk_cell BK4652.out 0).trans rfl; have hfz29_0 := blk_frozen BK4652.out 0; have hnb30 := NB4643_4644.out; have hnc30 := NB4644_4643.out; have hcz31_0 : w18.cell? ⟨gb4643, 0, none⟩ = some (.int .i64 a1_0) := (blk_cell BK4643.out 0).trans rfl; have hcz31_1 : w18.cell? ⟨gb4643, 1, none⟩ = some (.int .i64 a1_1) := (blk_cell BK4643.out 1).trans rfl; have hfz31_0 := blk_frozen BK4643.out 0; have hfz31_1 := blk_frozen BK4643.out 1) | ((with_reducible refine gate_callee (f := 75) rfl ?_); refine goesL_ (some 17) rfl rfl Try.func75 (by kernel_rfl) rfl #[.agg #[.int .i64 a1_0, .int .i64 a1_1]] rfl (by (try simp only [List.map_toArray, List.map_cons, List.map_nil]); first | done | rfl) ?_; (with_reducible refine (demurrageref02_big.calls k a1_0 a1_1 t4653 t4656 _ A4.out).mono ?_); rintro e w32 ⟨v4654, v4657, rfl, ho0, ho1, hb⟩; refine ⟨_, rfl, ?_⟩; have n0_ := Aside0.mk (Kd.R_mono (Kd.R_told (Kd.R_told (Kd.R_old (by (with_reducible repeat (first | apply Kd.R_alloc | apply Kd.R_drewN | apply Kd.R_drew)); exact (Kd.R_mono (Kd.R_mono (Kd.R_far (p := ⟨gb4652, 0, none⟩) (Kd.R_far (p := ⟨gb4651, 0, none⟩) (Kd.R_types (Kd.R_types HO4647.out BK4651.out (by decide)) BK4652.out (by decide)) (fun _ hk => hk.1.2) (.slice Ao19 t4645.length co19)) (fun _ hk => hk.2) (.slice Ao25 t4648.length co25)) (fun _ h_ => h_.1)) (fun _ h_ => h_.1))) hb) (Kd.R_base ho0)) (Kd.R_base ho1)) (fun _ h_ => h_.1)); have n1_ := Aside0.mk (Kd.R_mono (Kd.R_told (Kd.R_told (Kd.R_old (by (with_reducible repeat (first | apply Kd.R_alloc | apply Kd.R_drewN | apply Kd.R_drew)); exact (Kd.R_mono (Kd.R_mono (Kd.R_far (p := ⟨gb4652, 0, none⟩) (Kd.R_far (p := ⟨gb4651, 0, none⟩) (Kd.R_types (Kd.R_types HO4650.out BK4651.out (by decide)) BK4652.out (by decide)) (fun _ hk => hk.1.2) (.slice Ao19 t4645.length co19)) (fun _ hk => hk.2) (.slice Ao25 t4648.length co25)) (fun _ h_ => h_.1)) (fun _ h_ => h_.1))) hb) (Kd.R_base ho0)) (Kd.R_base ho1)) (fun _ h_ => h_.1)); have n2_ := Aside0.mk (Kd.R_lower (Kd.R_new' (Kd.R_new' ho0 (Kd.R_lt (by (with_reducible repeat (first | apply Kd.R_alloc | apply Kd.R_drewN | apply Kd.R_drew)); exact (Kd.R_mono (Kd.R_mono (Kd.R_far (p := ⟨gb4652, 0, none⟩) (Kd.R_far (p := ⟨gb4651, 0, none⟩) (Kd.R_types (Kd.R_types HO4647.out BK4651.out (by decide)) BK4652.out (by decide)) (fun _ hk => hk.1.2) (.slice Ao19 t4645.length co19)) (fun _ hk => hk.2) (.slice Ao25 t4648.length co25)) (fun _ h_ => h_.1)) (fun _ h_ => h_.1))))) (Kd.R_lt (by (with_reducible repeat (first | apply Kd.R_alloc | apply Kd.R_drewN | apply Kd.R_drew)); exact (Kd.R_mono (Kd.R_mono (Kd.R_far (p := ⟨gb4652, 0, none⟩) (Kd.R_far (p := ⟨gb4651, 0, none⟩) (Kd.R_types (Kd.R_types HO4650.out BK4651.out (by decide)) BK4652.out (by decide)) (fun _ hk => hk.1.2) (.slice Ao19 t4645.length co19)) (fun _ hk => hk.2) (.slice Ao25 t4648.length co25)) (fun _ h_ => h_.1)) (fun _ h_ => h_.1))))) (below_size (by repeat (first | (with_reducible first | exact HB.out | apply below_alloc | apply pw_below_drewN | apply below_drew1 | refine below_set ?_ GE4642.out | refine below_set ?_ GE4643.out | refine below_set ?_ GE4644.out | refine below_set ?_ GE4651.out | refine below_set ?_ GE4652.out) | exact HB.out)))); have n3_ := Aside0.mk (Kd.R_lower (Kd.R_new' (Kd.R_new' ho1 (Kd.R_lt (by (with_reducible repeat (first | apply Kd.R_alloc | apply Kd.R_drewN | apply Kd.R_drew)); exact (Kd.R_mono (Kd.R_mono (Kd.R_far (p := ⟨gb4652, 0, none⟩) (Kd.R_far (p := ⟨gb4651, 0, none⟩) (Kd.R_types (Kd.R_types HO4647.out BK4651.out (by decide)) BK4652.out (by decide)) (fun _ hk => hk.1.2) (.slice Ao19 t4645.length co19)) (fun _ hk => hk.2) (.slice Ao25 t4648.length co25)) (fun _ h_ => h_.1)) (fun _ h_ => h_.1))))) (Kd.R_lt (by (with_reducible repeat (first | apply Kd.R_alloc | apply Kd.R_drewN | apply Kd.R_drew)); exact (Kd.R_mono (Kd.R_mono (Kd.R_far (p := ⟨gb4652, 0, none⟩) (Kd.R_far (p := ⟨gb4651, 0, none⟩) (Kd.R_types (Kd.R_types HO4650.out BK4651.out (by decide)) BK4652.out (by decide)) (fun _ hk => hk.1.2) (.slice Ao19 t4645.length co19)) (fun _ hk => hk.2) (.slice Ao25 t4648.length co25)) (fun _ h_ => h_.1)) (fun _ h_ => h_.1))))) (below_size (by repeat (first | (with_reducible first | exact HB.out | apply below_alloc | apply pw_below_drewN | apply below_drew1 | refine below_set ?_ GE4642.out | refine below_set ?_ GE4643.out | refine below_set ?_ GE4644.out | refine below_set ?_ GE4651.out | refine below_set ?_ GE4652.out) | exact HB.out)))); have n4_ := Aside0.mk (blk_below (g := gb4642) (o := .cells #[.int .i64 a0_0, .int .i64 a0_1] 57 (0, 0)) (by refine blk_far ?_ NB4642_4652.out _; refine blk_far ?_ NB4642_4651.out _; exact BK4642.out) hb); have n5_ := Aside0.mk (blk_below (g := gb4643) (o := .cells #[.int .i64 a1_0, .int .i64 a1_1] 57 (0, 0)) (by refine blk_far ?_ NB4643_4652.out _; refine blk_far ?_ NB4643_4651.out _; exact BK4643.out) hb); have n6_ := Aside0.mk (blk_below (g := gb4644) (o := .cells #[.int .i64 0, .int .i64 0] 57 (0, 0)) (by refine blk_far ?_ NB4644_4652.out _; refine blk_far ?_ NB4644_4651.out _; exact BK4644.out) hb); have n7_ := Aside0.mk (blk_below (g := gb4651) (o := .cells #[.slice Ao19 t4645.length co19] 28 (0, 0)) (by refine blk_far ?_ NB4651_4652.out _; refine blk_put (cs := #[.slice none 0 0]) ?_ 0 _ rfl; exact BK4651.out) hb); have n8_ := Aside0.mk (blk_below (g := gb4652) (o := .cells #[.slice Ao25 t4648.length co25] 28 (0, 0)) (by refine blk_put (cs := #[.slice none 0 0]) ?_ 0 _ rfl; refine blk_far ?_ NB4652_4651.out _; exact BK4652.out) hb); have n9_ := Aside0.mk (below_step (by repeat (first | (with_reducible first | exact HB.out | apply below_alloc | apply pw_below_drewN | apply below_drew1 | refine below_set ?_ GE4642.out | refine below_set ?_ GE4643.out | refine below_set ?_ GE4644.out | refine below_set ?_ GE4651.out | refine below_set ?_ GE4652.out) | exact HB.out)) hb); clear HO4647 HO4650 BK4642 BK4643; clear BK4644 BK4651 BK4652 HB; have HO4647 := n0_; have HO4650 := n1_; have HO4655 := n2_; have HO4658 := n3_; have BK4642 := n4_; have BK4643 := n5_; have BK4644 := n6_; have BK4651 := n7_; have BK4652 := n8_; have HB := n9_; clear n0_ n1_ n2_ n3_ n4_ n5_ n6_ n7_ n8_ n9_; (try clear hb); (try clear ho0); (try clear ho1)) | ((with_reducible refine gate_dst (N := 8) rfl ?_); refine box_event ?hg (N := 8) ?hd (cs := #[.slice none 0 0]) (t := 28) ?hr ?_; (case hd => rfl); (case hg => rfl); (case hr => go_simp); intro gb4659 hg w33 hbox hb; have n0_ := Aside0.mk (Kd.R_below HO4647.out hb); have n1_ := Aside0.mk (Kd.R_below HO4650.out hb); have n2_ := Aside0.mk (Kd.R_below HO4655.out hb); have n3_ := Aside0.mk (Kd.R_below HO4658.out hb); have n4_ := Aside0.mk (blk_below BK4642.out hb); have n5_ := Aside0.mk (blk_below BK4643.out hb); have n6_ := Aside0.mk (blk_below BK4644.out hb); have n7_ := Aside0.mk (blk_below BK4651.out hb); have n8_ := Aside0.mk (blk_below BK4652.out hb); have n9_ := Aside0.mk (below_step (by repeat (first | (with_reducible first | exact HB.out | apply below_alloc | apply pw_below_drewN | apply below_drew1 | refine below_set ?_ GE4642.out | refine below_set ?_ GE4643.out | refine below_set ?_ GE4644.out | refine below_set ?_ GE4651.out | refine below_set ?_ GE4652.out) | exact HB.out)) hb); have n10_ := Aside0.mk (hbox); have n11_ := Aside0.mk ((by rw [hg]; exact (below_size (by repeat (first | (with_reducible first | exact HB.out | apply below_alloc | apply pw_below_drewN | apply below_drew1 | refine below_set ?_ GE4642.out | refine below_set ?_ GE4643.out | refine below_set ?_ GE4644.out | refine below_set ?_ GE4651.out | refine below_set ?_ GE4652.out) | exact HB.out))) : w.heap.size ≤ gb4659)); have n12_ := Aside0.mk ((by rw [hg]; exact (below_size (by repeat (first | (with_reducible first | exact HB.out | apply below_alloc | apply pw_below_drewN | apply below_drew1 | refine below_set ?_ GE4642.out | refine below_set ?_ GE4643.out | refine below_set ?_ GE4644.out | refine below_set ?_ GE4651.out | refine below_set ?_ GE4652.out) | exact HB.out))) : w.heap.size ≤ gb4659)); have n13_ := Aside0.mk ((by rw [hg]; exact Nat.ne_of_lt (blk_lt (g := gb4642) (o := .cells #[.int .i64 a0_0, .int .i64 a0_1] 57 (0, 0)) BK4642.out) : gb4642 ≠ gb4659)); have n14_ := Aside0.mk ((by rw [hg]; exact Nat.ne_of_gt (blk_lt (g := gb4642) (o := .cells #[.int .i64 a0_0, .int .i64 a0_1] 57 (0, 0)) BK4642.out) : gb4659 ≠ gb4642)); have n15_ := Aside0.mk ((by rw [hg]; exact Nat.ne_of_lt (blk_lt (g := gb4643) (o := .cells #[.int .i64 a1_0, .int .i64 a1_1] 57 (0, 0)) BK4643.out) : gb4643 ≠ gb4659)); have n16_ := Aside0.mk ((by rw [hg]; exact Nat.ne_of_gt (blk_lt (g := gb4643) (o := .cells #[.int .i64 a1_0, .int .i64 a1_1] 57 (0, 0)) BK4643.out) : gb4659 ≠ gb4643)); have n17_ := Aside0.mk ((by rw [hg]; exact Nat.ne_of_lt (blk_lt (g := gb4644) (o := .cells #[.int .i64 0, .int .i64 0] 57 (0, 0)) BK4644.out) : gb4644 ≠ gb4659)); have n18_ := Aside0.mk ((by rw [hg]; exact Nat.ne_of_gt (blk_lt (g := gb4644) (o := .cells #[.int .i64 0, .int .i64 0] 57 (0, 0)) BK4644.out) : gb4659 ≠ gb4644)); have n19_ := Aside0.mk ((by rw [hg]; exact Nat.ne_of_lt (blk_lt (g := gb4651) (o := .cells #[.slice Ao19 t4645.length co19] 28 (0, 0)) BK4651.out) : gb4651 ≠ gb4659)); have n20_ := Aside0.mk ((by rw [hg]; exact Nat.ne_of_gt (blk_lt (g := gb4651) (o := .cells #[.slice Ao19 t4645.length co19] 28 (0, 0)) BK4651.out) : gb4659 ≠ gb4651)); have n21_ := Aside0.mk ((by rw [hg]; exact Nat.ne_of_lt (blk_lt (g := gb4652) (o := .cells #[.slice Ao25 t4648.length co25] 28 (0, 0)) BK4652.out) : gb4652 ≠ gb4659)); have n22_ := Aside0.mk ((by rw [hg]; exact Nat.ne_of_gt (blk_lt (g := gb4652) (o := .cells #[.slice Ao25 t4648.length co25] 28 (0, 0)) BK4652.out) : gb4659 ≠ gb4652)); clear HO4647 HO4650 HO4655 HO4658; clear BK4642 BK4643 BK4644 BK4651; clear BK4652 HB; have HO4647 := n0_; have HO4650 := n1_; have HO4655 := n2_; have HO4658 := n3_; have BK4642 := n4_; have BK4643 := n5_; have BK4644 := n6_; have BK4651 := n7_; have BK4652 := n8_; have HB := n9_; have BK4659 := n10_; have GW4659 := n11_; have GE4659 := n12_; have NB4642_4659 := n13_; have NB4659_4642 := n14_; have NB4643_4659 := n15_; have NB4659_4643 := n16_; have NB4644_4659 := n17_; have NB4659_4644 := n18_; have NB4651_4659 := n19_; have NB4659_4651 := n20_; have NB4652_4659 := n21_; have NB4659_4652 := n22_; clear n0_ n1_ n2_ n3_ n4_ n5_ n6_ n7_ n8_ n9_ n10_ n11_ n12_ n13_ n14_ n15_ n16_ n17_ n18_ n19_ n20_ n21_ n22_; clear hb hbox hg) | ((with_reducible refine gate_dst (N := 9) rfl ?_); refine box_event ?hg (N := 9) ?hd (cs := #[.slice none 0 0]) (t := 28) ?hr ?_; (case hd => rfl); (case hg => rfl); (case hr => go_simp); intro gb4660 hg w34 hbox hb; have n0_ := Aside0.mk (Kd.R_below HO4647.out hb); have n1_ := Aside0.mk (Kd.R_below HO4650.out hb); have n2_ := Aside0.mk (Kd.R_below HO4655.out hb); have n3_ := Aside0.mk (Kd.R_below HO4658.out hb); have n4_ := Aside0.mk (blk_below BK4642.out hb); have n5_ := Aside0.mk (blk_below BK4643.out hb); have n6_ := Aside0.mk (blk_below BK4644.out hb); have n7_ := Aside0.mk (blk_below BK4651.out hb); have n8_ := Aside0.mk (blk_below BK4652.out hb); have n9_ := Aside0.mk (blk_below BK4659.out hb); have n10_ := Aside0.mk (below_step (by repeat (first | (with_reducible first | exact HB.out | apply below_alloc | apply pw_below_drewN | apply below_drew1 | refine below_set ?_ GE4642.out | refine below_set ?_ GE4643.out | refine below_set ?_ GE4644.out | refine below_set ?_ GE4651.out | refine below_set ?_ GE4652.out | refine below_set ?_ GE4659.out) | exact HB.out)) hb); have n11_ := Aside0.mk (hbox); have n12_ := Aside0.mk ((by rw [hg]; exact (below_size (by repeat (first | (with_reducible first | exact HB.out | apply below_alloc | apply pw_below_drewN | apply below_drew1 | refine below_set ?_ GE4642.out | refine below_set ?_ GE4643.out | refine below_set ?_ GE4644.out | refine below_set ?_ GE4651.out | refine below_set ?_ GE4652.out | refine below_set ?_ GE4659.out) | exact HB.out))) : w.heap.size ≤ gb4660)); have n13_ := Aside0.mk ((by rw [hg]; exact (below_size (by repeat (first | (with_reducible first | exact HB.out | apply below_alloc | apply pw_below_drewN | apply below_drew1 | refine below_set ?_ GE4642.out | refine below_set ?_ GE4643.out | refine below_set ?_ GE4644.out | refine below_set ?_ GE4651.out | refine below_set ?_ GE4652.out | refine below_set ?_ GE4659.out) | exact HB.out))) : w.heap.size ≤ gb4660)); have n14_ := Aside0.mk ((by rw [hg]; exact Nat.ne_of_lt (blk_lt (g := gb4642) (o := .cells #[.int .i64 a0_0, .int .i64 a0_1] 57 (0, 0)) BK4642.out) : gb4642 ≠ gb4660)); have n15_ := Aside0.mk ((by rw [hg]; exact Nat.ne_of_gt (blk_lt (g := gb4642) (o := .cells #[.int .i64 a0_0, .int .i64 a0_1] 57 (0, 0)) BK4642.out) : gb4660 ≠ gb4642)); have n16_ := Aside0.mk ((by rw [hg]; exact Nat.ne_of_lt (blk_lt (g := gb4643) (o := .cells #[.int .i64 a1_0, .int .i64 a1_1] 57 (0, 0)) BK4643.out) : gb4643 ≠ gb4660)); have n17_ := Aside0.mk ((by rw [hg]; exact Nat.ne_of_gt (blk_lt (g := gb4643) (o := .cells #[.int .i64 a1_0, .int .i64 a1_1] 57 (0, 0)) BK4643.out) : gb4660 ≠ gb4643)); have n18_ := Aside0.mk ((by rw [hg]; exact Nat.ne_of_lt (blk_lt (g := gb4644) (o := .cells #[.int .i64 0, .int .i64 0] 57 (0, 0)) BK4644.out) : gb4644 ≠ gb4660)); have n19_ := Aside0.mk ((by rw [hg]; exact Nat.ne_of_gt (blk_lt (g := gb4644) (o := .cells #[.int .i64 0, .int .i64 0] 57 (0, 0)) BK4644.out) : gb4660 ≠ gb4644)); have n20_ := Aside0.mk ((by rw [hg]; exact Nat.ne_of_lt (blk_lt (g := gb4651) (o := .cells #[.slice Ao19 t4645.length co19] 28 (0, 0)) BK4651.out) : gb4651 ≠ gb4660)); have n21_ := Aside0.mk ((by rw [hg]; exact Nat.ne_of_gt (blk_lt (g := gb4651) (o := .cells #[.slice Ao19 t4645.length co19] 28 (0, 0)) BK4651.out) : gb4660 ≠ gb4651)); have n22_ := Aside0.mk ((by rw [hg]; exact Nat.ne_of_lt (blk_lt (g := gb4652) (o := .cells #[.slice Ao25 t4648.length co25] 28 (0, 0)) BK4652.out) : gb4652 ≠ gb4660)); have n23_ := Aside0.mk ((by rw [hg]; exact Nat.ne_of_gt (blk_lt (g := gb4652) (o := .cells #[.slice Ao25 t4648.length co25] 28 (0, 0)) BK4652.out) : gb4660 ≠ gb4652)); have n24_ := Aside0.mk ((by rw [hg]; exact Nat.ne_of_lt (blk_lt (g := gb4659) (o := .cells #[.slice none 0 0] 28 (0, 0)) BK4659.out) : gb4659 ≠ gb4660)); have n25_ := Aside0.mk ((by rw [hg]; exact Nat.ne_of_gt (blk_lt (g := gb4659) (o := .cells #[.slice none 0 0] 28 (0, 0)) BK4659.out) : gb4660 ≠ gb4659)); clear HO4647 HO4650 HO4655 HO4658; clear BK4642 BK4643 BK4644 BK4651; clear BK4652 BK4659; clear HB; have HO4647 := n0_; have HO4650 := n1_; have HO4655 := n2_; have HO4658 := n3_; have BK4642 := n4_; have BK4643 := n5_; have BK4644 := n6_; have BK4651 := n7_; have BK4652 := n8_; have BK4659 := n9_; have HB := n10_; have BK4660 := n11_; have GW4660 := n12_; have GE4660 := n13_; have NB4642_4660 := n14_; have NB4660_4642 := n15_; have NB4643_4660 := n16_; have NB4660_4643 := n17_; have NB4644_4660 := n18_; have NB4660_4644 := n19_; have NB4651_4660 := n20_; have NB4660_4651 := n21_; have NB4652_4660 := n22_; have NB4660_4652 := n23_; have NB4659_4660 := n24_; have NB4660_4659 := n25_; clear n0_ n1_ n2_ n3_ n4_ n5_ n6_ n7_ n8_ n9_ n10_ n11_ n12_ n13_ n14_ n15_ n16_ n17_ n18_ n19_ n20_ n21_ n22_ n23_ n24_ n25_; clear hb hbox hg; obtain ⟨Ao35, co35, eo35⟩ := Kd.R_slice HO4655.out; subst eo35; have hnb36 := NB4659_4642.out; have hnc36 := NB4642_4659.out; have hnb37 := NB4659_4643.out; have hnc37 := NB4643_4659.out; have hnb38 := NB4659_4644.out; have hnc38 := NB4644_4659.out; have hnb39 := NB4659_4651.out; have hnc39 := NB4651_4659.out; have hnb40 := NB4659_4652.out; have hnc40 := NB4652_4659.out; have hnb41 := NB4659_4660.out; have hnc41 := NB4660_4659.out; have hcz42_0 : w34.cell? ⟨gb4659, 0, none⟩ = some (.slice none 0 0) := (blk_cell BK4659.out 0).trans rfl; have hfz42_0 := blk_frozen BK4659.out 0; obtain ⟨Ao43, co43, eo43⟩ := Kd.R_slice HO4658.out; subst eo43; have hnb44 := NB4660_4642.out; have hnc44 := NB4642_4660.out; have hnb45 := NB4660_4643.out; have hnc45 := NB4643_4660.out; have hnb46 := NB4660_4644.out; have hnc46 := NB4644_4660.out; have hnb47 := NB4660_4651.out; have hnc47 := NB4651_4660.out; have hnb48 := NB4660_4652.out; have hnc48 := NB4652_4660.out; have hcz49_0 : w34.cell? ⟨gb4660, 0, none⟩ = some (.slice none 0 0) := (blk_cell BK4660.out 0).trans rfl; have hfz49_0 := blk_frozen BK4660.out 0))
  have n0_ : Aside0 (Kd.R (Kd.int .i64) 3 ((w34.setCell ⟨gb4659, 0, none⟩ (.slice Ao35 t4653.length co35)).setCell ⟨gb4660, 0, none⟩ (.slice Ao43 t4656.length co43)) w.heap.size (fun k_ => some k_ ≠ (.slice Ao25 t4648.length co25 : Value).ownBlock ∧ some k_ ≠ (.slice Ao35 t4653.length co35 : Value).ownBlock ∧ some k_ ≠ (.slice Ao43 t4656.length co43 : Value).ownBlock) (.slice Ao19 t4645.length co19) t4645) := ⟨by (with_reducible repeat (first | apply Kd.R_alloc | apply Kd.R_drewN | apply Kd.R_drew)); exact Kd.R_mono (Kd.R_far (p := ⟨gb4660, 0, none⟩) (Kd.R_far (p := ⟨gb4659, 0, none⟩) (Kd.R_types (Kd.R_types HO4647.out BK4659.out (by decide)) BK4660.out (by decide)) (fun _ hk => hk.1.2) (.slice Ao35 t4653.length co35)) (fun _ hk => hk.2) (.slice Ao43 t4656.length co43)) (fun _ hk => (And.intro (hk.1.1.1.1) ((And.intro (hk.1.1.1.2) (hk.1.1.2)))))⟩
  have n1_ : Aside0 (Kd.R (Kd.int .i64) 3 ((w34.setCell ⟨gb4659, 0, none⟩ (.slice Ao35 t4653.length co35)).setCell ⟨gb4660, 0, none⟩ (.slice Ao43 t4656.length co43)) w.heap.size (fun k_ => some k_ ≠ (.slice Ao19 t4645.length co19 : Value).ownBlock ∧ some k_ ≠ (.slice Ao35 t4653.length co35 : Value).ownBlock ∧ some k_ ≠ (.slice Ao43 t4656.length co43 : Value).ownBlock) (.slice Ao25 t4648.length co25) t4648) := ⟨by (with_reducible repeat (first | apply Kd.R_alloc | apply Kd.R_drewN | apply Kd.R_drew)); exact Kd.R_mono (Kd.R_far (p := ⟨gb4660, 0, none⟩) (Kd.R_far (p := ⟨gb4659, 0, none⟩) (Kd.R_types (Kd.R_types HO4650.out BK4659.out (by decide)) BK4660.out (by decide)) (fun _ hk => hk.1.2) (.slice Ao35 t4653.length co35)) (fun _ hk => hk.2) (.slice Ao43 t4656.length co43)) (fun _ hk => (And.intro (hk.1.1.1.1) ((And.intro (hk.1.1.1.2) (hk.1.1.2)))))⟩
  have n2_ : Aside0 (Kd.R (Kd.int .i64) 3 ((w34.setCell ⟨gb4659, 0, none⟩ (.slice Ao35 t4653.length co35)).setCell ⟨gb4660, 0, none⟩ (.slice Ao43 t4656.length co43)) w.heap.size (fun k_ => some k_ ≠ (.slice Ao19 t4645.length co19 : Value).ownBlock ∧ some k_ ≠ (.slice Ao25 t4648.length co25 : Value).ownBlock ∧ some k_ ≠ (.slice Ao43 t4656.length co43 : Value).ownBlock) (.slice Ao35 t4653.length co35) t4653) := ⟨by (with_reducible repeat (first | apply Kd.R_alloc | apply Kd.R_drewN | apply Kd.R_drew)); exact Kd.R_mono (Kd.R_far (p := ⟨gb4660, 0, none⟩) (Kd.R_far (p := ⟨gb4659, 0, none⟩) (Kd.R_types (Kd.R_types HO4655.out BK4659.out (by decide)) BK4660.out (by decide)) (fun _ hk => hk.1.2) (.slice Ao35 t4653.length co35)) (fun _ hk => hk.2) (.slice Ao43 t4656.length co43)) (fun _ hk => (And.intro (hk.1.1.1.2) ((And.intro (hk.1.1.2) (hk.1.1.1.1)))))⟩
  have n3_ : Aside0 (Kd.R (Kd.int .i64) 3 ((w34.setCell ⟨gb4659, 0, none⟩ (.slice Ao35 t4653.length co35)).setCell ⟨gb4660, 0, none⟩ (.slice Ao43 t4656.length co43)) w.heap.size (fun k_ => some k_ ≠ (.slice Ao19 t4645.length co19 : Value).ownBlock ∧ some k_ ≠ (.slice Ao25 t4648.length co25 : Value).ownBlock ∧ some k_ ≠ (.slice Ao35 t4653.length co35 : Value).ownBlock) (.slice Ao43 t4656.length co43) t4656) := ⟨by (with_reducible repeat (first | apply Kd.R_alloc | apply Kd.R_drewN | apply Kd.R_drew)); exact Kd.R_mono (Kd.R_far (p := ⟨gb4660, 0, none⟩) (Kd.R_far (p := ⟨gb4659, 0, none⟩) (Kd.R_types (Kd.R_types HO4658.out BK4659.out (by decide)) BK4660.out (by decide)) (fun _ hk => hk.1.2) (.slice Ao35 t4653.length co35)) (fun _ hk => hk.2) (.slice Ao43 t4656.length co43)) (fun _ hk => (And.intro (hk.1.1.1.2) ((And.intro (hk.1.1.2) (hk.1.1.1.1)))))⟩
  have n4_ : Aside0 (((w34.setCell ⟨gb4659, 0, none⟩ (.slice Ao35 t4653.length co35)).setCell ⟨gb4660, 0, none⟩ (.slice Ao43 t4656.length co43)).heap[gb4642]? = some (.cells #[.int .i64 a0_0, .int .i64 a0_1] 57 (0, 0))) := ⟨by refine blk_far ?_ NB4642_4660.out _; refine blk_far ?_ NB4642_4659.out _; exact BK4642.out⟩
  have n5_ : Aside0 (((w34.setCell ⟨gb4659, 0, none⟩ (.slice Ao35 t4653.length co35)).setCell ⟨gb4660, 0, none⟩ (.slice Ao43 t4656.length co43)).heap[gb4643]? = some (.cells #[.int .i64 a1_0, .int .i64 a1_1] 57 (0, 0))) := ⟨by refine blk_far ?_ NB4643_4660.out _; refine blk_far ?_ NB4643_4659.out _; exact BK4643.out⟩
  have n6_ : Aside0 (((w34.setCell ⟨gb4659, 0, none⟩ (.slice Ao35 t4653.length co35)).setCell ⟨gb4660, 0, none⟩ (.slice Ao43 t4656.length co43)).heap[gb4644]? = some (.cells #[.int .i64 0, .int .i64 0] 57 (0, 0))) := ⟨by refine blk_far ?_ NB4644_4660.out _; refine blk_far ?_ NB4644_4659.out _; exact BK4644.out⟩
  have n7_ : Aside0 (((w34.setCell ⟨gb4659, 0, none⟩ (.slice Ao35 t4653.length co35)).setCell ⟨gb4660, 0, none⟩ (.slice Ao43 t4656.length co43)).heap[gb4651]? = some (.cells #[.slice Ao19 t4645.length co19] 28 (0, 0))) := ⟨by refine blk_far ?_ NB4651_4660.out _; refine blk_far ?_ NB4651_4659.out _; exact BK4651.out⟩
  have n8_ : Aside0 (((w34.setCell ⟨gb4659, 0, none⟩ (.slice Ao35 t4653.length co35)).setCell ⟨gb4660, 0, none⟩ (.slice Ao43 t4656.length co43)).heap[gb4652]? = some (.cells #[.slice Ao25 t4648.length co25] 28 (0, 0))) := ⟨by refine blk_far ?_ NB4652_4660.out _; refine blk_far ?_ NB4652_4659.out _; exact BK4652.out⟩
  have n9_ : Aside0 (((w34.setCell ⟨gb4659, 0, none⟩ (.slice Ao35 t4653.length co35)).setCell ⟨gb4660, 0, none⟩ (.slice Ao43 t4656.length co43)).heap[gb4659]? = some (.cells #[.slice Ao35 t4653.length co35] 28 (0, 0))) := ⟨by refine blk_far ?_ NB4659_4660.out _; refine blk_put (cs := #[.slice none 0 0]) ?_ 0 _ rfl; exact BK4659.out⟩
  have n10_ : Aside0 (((w34.setCell ⟨gb4659, 0, none⟩ (.slice Ao35 t4653.length co35)).setCell ⟨gb4660, 0, none⟩ (.slice Ao43 t4656.length co43)).heap[gb4660]? = some (.cells #[.slice Ao43 t4656.length co43] 28 (0, 0))) := ⟨by refine blk_put (cs := #[.slice none 0 0]) ?_ 0 _ rfl; refine blk_far ?_ NB4660_4659.out _; exact BK4660.out⟩
  have n11_ : Aside0 (Below w.heap.size w ((w34.setCell ⟨gb4659, 0, none⟩ (.slice Ao35 t4653.length co35)).setCell ⟨gb4660, 0, none⟩ (.slice Ao43 t4656.length co43))) := ⟨by repeat (first | (with_reducible first | exact HB.out | apply below_alloc | apply pw_below_drewN | apply below_drew1 | refine below_set ?_ GE4642.out | refine below_set ?_ GE4643.out | refine below_set ?_ GE4644.out | refine below_set ?_ GE4651.out | refine below_set ?_ GE4652.out | refine below_set ?_ GE4659.out | refine below_set ?_ GE4660.out) | exact HB.out)⟩
  (try clear HO4647)
  (try clear HO4650)
  (try clear HO4655)
  (try clear HO4658)
  (try clear BK4642)
  (try clear BK4643)
  (try clear BK4644)
  (try clear BK4651)
  (try clear BK4652)
  (try clear BK4659)
  (try clear BK4660)
  (try clear HB)
  generalize ((w34.setCell ⟨gb4659, 0, none⟩ (.slice Ao35 t4653.length co35)).setCell ⟨gb4660, 0, none⟩ (.slice Ao43 t4656.length co43)) = w50 at n0_ n1_ n2_ n3_ n4_ n5_ n6_ n7_ n8_ n9_ n10_ n11_ ⊢
  have HO4647 := n0_
  have HO4650 := n1_
  have HO4655 := n2_
  have HO4658 := n3_
  have BK4642 := n4_
  have BK4643 := n5_
  have BK4644 := n6_
  have BK4651 := n7_
  have BK4652 := n8_
  have BK4659 := n9_
  have BK4660 := n10_
  have HB := n11_
  clear n0_ n1_ n2_ n3_ n4_ n5_ n6_ n7_ n8_ n9_ n10_ n11_
  have n0_ := Aside0.mk (Kd.R_drew HO4647.out)
  have n1_ := Aside0.mk (Kd.R_drew HO4650.out)
  have n2_ := Aside0.mk (Kd.R_drew HO4655.out)
  have n3_ := Aside0.mk (Kd.R_drew HO4658.out)
  have n4_ := Aside0.mk (blk_drew BK4642.out)
  have n5_ := Aside0.mk (blk_drew BK4643.out)
  have n6_ := Aside0.mk (blk_drew BK4644.out)
  have n7_ := Aside0.mk (blk_drew BK4651.out)
  have n8_ := Aside0.mk (blk_drew BK4652.out)
  have n9_ := Aside0.mk (blk_drew BK4659.out)
  have n10_ := Aside0.mk (blk_drew BK4660.out)
  have n11_ := Aside0.mk (below_drew1 HB.out)
  clear HO4647 HO4650 HO4655 HO4658 BK4642 BK4643 BK4644 BK4651 BK4652 BK4659 BK4660 HB
  have HO4647 := n0_
  have HO4650 := n1_
  have HO4655 := n2_
  have HO4658 := n3_
  have BK4642 := n4_
  have BK4643 := n5_
  have BK4644 := n6_
  have BK4651 := n7_
  have BK4652 := n8_
  have BK4659 := n9_
  have BK4660 := n10_
  have HB := n11_
  clear n0_ n1_ n2_ n3_ n4_ n5_ n6_ n7_ n8_ n9_ n10_ n11_
  refine start_ (n := 15) (S := fun w' => w'.cell? ⟨gb4651, 0, none⟩ = some (.slice Ao19 t4645.length co19) ∧ w'.cell? ⟨gb4660, 0, none⟩ = some (.slice Ao43 t4656.length co43) ∧ w'.cell? ⟨gb4659, 0, none⟩ = some (.slice Ao35 t4653.length co35) ∧ w'.cell? ⟨gb4652, 0, none⟩ = some (.slice Ao25 t4648.length co25)) (ds := []) (demurrageref02_Cmp.ups 15 0) (by kernel_rfl) rfl rfl ⟨(blk_cell BK4651.out 0).trans rfl, (blk_cell BK4660.out 0).trans rfl, (blk_cell BK4659.out 0).trans rfl, (blk_cell BK4652.out 0).trans rfl⟩ (fun hHeld => ?_); refine with_tabW demurrageref02_Add.tab3 demurrageref02_Add.bits3 (fun HT_ HW_ => ?_)
  generalize w50.drew = w51 at HO4647 HO4650 HO4655 HO4658 BK4642 BK4643 BK4644 BK4651 BK4652 BK4659 BK4660 HB hHeld ⊢
  refine take_ (i := 0) (N := some 20) (v := ?_) (a' := ?_) (demurrageref02_Cmp.ups 15 1) rfl rfl (take_ofW HT_.out HW_.out (by kernel_rfl)) (fun _ _ _ h => h) (Or.inl ⟨by rfl, ?_⟩) hHeld ?_ ?_
  rotate_left
  · rintro w' ⟨s0, s1, s2, s3⟩
    go_simp
    with_reducible rfl
  rotate_left
  · simp only [Act.put, List.setIfInBounds_toArray, List.set_cons_zero, List.set_cons_succ, i64_w, i32_w]
    rfl
  refine take_ (i := 1) (N := some 21) (v := ?_) (a' := ?_) (demurrageref02_Cmp.ups 15 3) rfl rfl (take_ofW HT_.out HW_.out (by kernel_rfl)) (fun _ _ _ h => h) (Or.inl ⟨by rfl, ?_⟩) hHeld ?_ ?_
  rotate_left
  · rintro w' ⟨s0, s1, s2, s3⟩
    go_simp
    with_reducible rfl
  rotate_left
  · simp only [Act.put, List.setIfInBounds_toArray, List.set_cons_zero, List.set_cons_succ, i64_w, i32_w]
    rfl
  refine take_ (i := 3) (N := some 23) (v := ?_) (a' := ?_) (demurrageref02_Cmp.ups 15 11) rfl rfl (take_ofW HT_.out HW_.out (by kernel_rfl)) (fun _ _ _ h => h) (Or.inl ⟨by rfl, ?_⟩) hHeld ?_ ?_
  rotate_left
  · rintro w' ⟨s0, s1, s2, s3⟩
    go_simp
    with_reducible rfl
  rotate_left
  · simp only [Act.put, List.setIfInBounds_toArray, List.set_cons_zero, List.set_cons_succ, i64_w, i32_w]
    rfl
  refine take_ (i := 4) (N := some 24) (v := ?_) (a' := ?_) (demurrageref02_Cmp.ups 15 27) rfl rfl (take_ofW HT_.out HW_.out (by kernel_rfl)) (fun _ _ _ h => h) (Or.inl ⟨by rfl, ?_⟩) hHeld ?_ ?_
  rotate_left
  · rintro w' ⟨s0, s1, s2, s3⟩
    go_simp
    with_reducible rfl
  rotate_left
  · simp only [Act.put, List.setIfInBounds_toArray, List.set_cons_zero, List.set_cons_succ, i64_w, i32_w]
    rfl
  refine take_ (i := 7) (N := some 27) (v := ?_) (a' := ?_) (demurrageref02_Cmp.ups 15 155) rfl rfl (take_ofW HT_.out HW_.out (by kernel_rfl)) (fun _ _ _ h => h) (Or.inl ⟨by rfl, ?_⟩) hHeld ?_ ?_
  rotate_left
  · rintro w' ⟨s0, s1, s2, s3⟩
    go_simp
    with_reducible rfl
  rotate_left
  · simp only [Act.put, List.setIfInBounds_toArray, List.set_cons_zero, List.set_cons_succ, i64_w, i32_w]
    rfl
  refine take_ (i := 8) (N := some 28) (v := ?_) (a' := ?_) (demurrageref02_Cmp.ups 15 411) rfl rfl (take_ofW HT_.out HW_.out (by kernel_rfl)) (fun _ _ _ h => h) (Or.inl ⟨by rfl, ?_⟩) hHeld ?_ ?_
  rotate_left
  · rintro w' ⟨s0, s1, s2, s3⟩
    go_simp
    with_reducible rfl
  rotate_left
  · simp only [Act.put, List.setIfInBounds_toArray, List.set_cons_zero, List.set_cons_succ, i64_w, i32_w]
    rfl
  refine one_ (i := 2) (N := some 22) (demurrageref02_Cmp.ups 15 415) rfl rfl (one_of HT_.out (by kernel_rfl)) (by decide) (fun K hK => ?_)
  refine goes_ Try.func29 (by kernel_rfl) rfl #[.agg #[.slice Ao19 t4645.length co19], .agg #[.slice Ao43 t4656.length co43]] (by rfl) rfl rfl (by (try simp only [List.map_toArray, List.map_cons, List.map_nil]); first | done | rfl) ?_
  with_reducible refine (demurrageref01_Prod.calls k _ _ t4645 _ _ t4656 t4661 _ ?side1 ?side2 ?side3 ?side4 A5.out).mono ?_
  (case side1 => repeat (first | exact (Kd.R_reads' HO4647.out).2.2 | (with_reducible refine Kd.C_alloc ?_ _) | (with_reducible refine Kd.C_drewN ?_ _) | (with_reducible refine Kd.C_drew ?_)))
  (case side2 => exact (Kd.R_reads' HO4647.out).2.1)
  (case side3 => repeat (first | exact (Kd.R_reads' HO4658.out).2.2 | (with_reducible refine Kd.C_alloc ?_ _) | (with_reducible refine Kd.C_drewN ?_ _) | (with_reducible refine Kd.C_drew ?_)))
  (case side4 => exact (Kd.R_reads' HO4658.out).2.1)
  rintro e w52 ⟨v4662, rfl, ho0, hb⟩
  refine ⟨_, rfl, ?_⟩
  have n0_ := Aside0.mk (Kd.R_elder' HO4647.out (Kd.R_base ho0) hb)
  have n1_ := Aside0.mk (Kd.R_elder' HO4650.out (Kd.R_base ho0) hb)
  have n2_ := Aside0.mk (Kd.R_elder' HO4655.out (Kd.R_base ho0) hb)
  have n3_ := Aside0.mk (Kd.R_elder' HO4658.out (Kd.R_base ho0) hb)
  have n4_ := Aside0.mk (Kd.R_lower (Kd.R_new' (Kd.R_new' (Kd.R_new' (Kd.R_new' ho0 (Kd.R_lt HO4647.out)) (Kd.R_lt HO4650.out)) (Kd.R_lt HO4655.out)) (Kd.R_lt HO4658.out)) (below_size (by repeat (first | (with_reducible first | exact HB.out | apply below_alloc | apply pw_below_drewN | apply below_drew1 | refine below_set ?_ GE4642.out | refine below_set ?_ GE4643.out | refine below_set ?_ GE4644.out | refine below_set ?_ GE4651.out | refine below_set ?_ GE4652.out | refine below_set ?_ GE4659.out | refine below_set ?_ GE4660.out) | exact HB.out))))
  have n5_ := Aside0.mk (blk_below BK4642.out hb)
  have n6_ := Aside0.mk (blk_below BK4643.out hb)
  have n7_ := Aside0.mk (blk_below BK4644.out hb)
  have n8_ := Aside0.mk (blk_below BK4651.out hb)
  have n9_ := Aside0.mk (blk_below BK4652.out hb)
  have n10_ := Aside0.mk (blk_below BK4659.out hb)
  have n11_ := Aside0.mk (blk_below BK4660.out hb)
  have n12_ := Aside0.mk (below_step (by repeat (first | (with_reducible first | exact HB.out | apply below_alloc | apply pw_below_drewN | apply below_drew1 | refine below_set ?_ GE4642.out | refine below_set ?_ GE4643.out | refine below_set ?_ GE4644.out | refine below_set ?_ GE4651.out | refine below_set ?_ GE4652.out | refine below_set ?_ GE4659.out | refine below_set ?_ GE4660.out) | exact HB.out)) hb)
  clear HO4647 HO4650 HO4655 HO4658 BK4642 BK4643 BK4644 BK4651 BK4652 BK4659 BK4660 HB
  have HO4647 := n0_
  have HO4650 := n1_
  have HO4655 := n2_
  have HO4658 := n3_
  have HO4663 := n4_
  have BK4642 := n5_
  have BK4643 := n6_
  have BK4644 := n7_
  have BK4651 := n8_
  have BK4652 := n9_
  have BK4659 := n10_
  have BK4660 := n11_
  have HB := n12_
  clear n0_ n1_ n2_ n3_ n4_ n5_ n6_ n7_ n8_ n9_ n10_ n11_ n12_
  (try clear hb)
  (try clear hb2)
  (try clear hk)
  (try clear hi)
  (try clear ho0)
  refine hK.out _ _ ⟨(blk_cell BK4651.out 0).trans rfl, (blk_cell BK4660.out 0).trans rfl, (blk_cell BK4659.out 0).trans rfl, (blk_cell BK4652.out 0).trans rfl⟩ (fun hHeld => ?_)
  clear hK K
  refine norm_ (a' := ?_) ?_ ?_
  rotate_left
  · show Act.put _ (some 22) _ = _
    simp only [Act.put, List.setIfInBounds_toArray, List.set_cons_zero, List.set_cons_succ, i64_w, i32_w]
    rfl
  refine one_ (i := 5) (N := some 25) (demurrageref02_Cmp.ups 15 447) rfl rfl (one_of HT_.out (by kernel_rfl)) (by decide) (fun K hK => ?_)
  refine goes_ Try.func29 (by kernel_rfl) rfl #[.agg #[.slice Ao35 t4653.length co35], .agg #[.slice Ao25 t4648.length co25]] (by rfl) rfl rfl (by (try simp only [List.map_toArray, List.map_cons, List.map_nil]); first | done | rfl) ?_
  with_reducible refine (demurrageref01_Prod.calls k _ _ t4653 _ _ t4648 t4664 _ ?side1 ?side2 ?side3 ?side4 A6.out).mono ?_
  (case side1 => repeat (first | exact (Kd.R_reads' HO4655.out).2.2 | (with_reducible refine Kd.C_alloc ?_ _) | (with_reducible refine Kd.C_drewN ?_ _) | (with_reducible refine Kd.C_drew ?_)))
  (case side2 => exact (Kd.R_reads' HO4655.out).2.1)
  (case side3 => repeat (first | exact (Kd.R_reads' HO4650.out).2.2 | (with_reducible refine Kd.C_alloc ?_ _) | (with_reducible refine Kd.C_drewN ?_ _) | (with_reducible refine Kd.C_drew ?_)))
  (case side4 => exact (Kd.R_reads' HO4650.out).2.1)
  rintro e w53 ⟨v4665, rfl, ho0, hb⟩
  refine ⟨_, rfl, ?_⟩
  have n0_ := Aside0.mk (Kd.R_elder' HO4647.out (Kd.R_base ho0) hb)
  have n1_ := Aside0.mk (Kd.R_elder' HO4650.out (Kd.R_base ho0) hb)
  have n2_ := Aside0.mk (Kd.R_elder' HO4655.out (Kd.R_base ho0) hb)
  have n3_ := Aside0.mk (Kd.R_elder' HO4658.out (Kd.R_base ho0) hb)
  have n4_ := Aside0.mk (Kd.R_elder' HO4663.out (Kd.R_base ho0) hb)
  have n5_ := Aside0.mk (Kd.R_lower (Kd.R_new' (Kd.R_new' (Kd.R_new' (Kd.R_new' (Kd.R_new' ho0 (Kd.R_lt HO4647.out)) (Kd.R_lt HO4650.out)) (Kd.R_lt HO4655.out)) (Kd.R_lt HO4658.out)) (Kd.R_lt HO4663.out)) (below_size (by repeat (first | (with_reducible first | exact HB.out | apply below_alloc | apply pw_below_drewN | apply below_drew1 | refine below_set ?_ GE4642.out | refine below_set ?_ GE4643.out | refine below_set ?_ GE4644.out | refine below_set ?_ GE4651.out | refine below_set ?_ GE4652.out | refine below_set ?_ GE4659.out | refine below_set ?_ GE4660.out) | exact HB.out))))
  have n6_ := Aside0.mk (blk_below BK4642.out hb)
  have n7_ := Aside0.mk (blk_below BK4643.out hb)
  have n8_ := Aside0.mk (blk_below BK4644.out hb)
  have n9_ := Aside0.mk (blk_below BK4651.out hb)
  have n10_ := Aside0.mk (blk_below BK4652.out hb)
  have n11_ := Aside0.mk (blk_below BK4659.out hb)
  have n12_ := Aside0.mk (blk_below BK4660.out hb)
  have n13_ := Aside0.mk (below_step (by repeat (first | (with_reducible first | exact HB.out | apply below_alloc | apply pw_below_drewN | apply below_drew1 | refine below_set ?_ GE4642.out | refine below_set ?_ GE4643.out | refine below_set ?_ GE4644.out | refine below_set ?_ GE4651.out | refine below_set ?_ GE4652.out | refine below_set ?_ GE4659.out | refine below_set ?_ GE4660.out) | exact HB.out)) hb)
  clear HO4647 HO4650 HO4655 HO4658 HO4663 BK4642 BK4643 BK4644 BK4651 BK4652 BK4659 BK4660 HB
  have HO4647 := n0_
  have HO4650 := n1_
  have HO4655 := n2_
  have HO4658 := n3_
  have HO4663 := n4_
  have HO4666 := n5_
  have BK4642 := n6_
  have BK4643 := n7_
  have BK4644 := n8_
  have BK4651 := n9_
  have BK4652 := n10_
  have BK4659 := n11_
  have BK4660 := n12_
  have HB := n13_
  clear n0_ n1_ n2_ n3_ n4_ n5_ n6_ n7_ n8_ n9_ n10_ n11_ n12_ n13_
  (try clear hb)
  (try clear hb2)
  (try clear hk)
  (try clear hi)
  (try clear ho0)
  obtain ⟨Ao54, co54, eo54⟩ := Kd.R_slice HO4663.out
  (first | subst eo54 | (injection eo54 with f1_ f2_ f3_; have f4_ := f1_.symm; have f5_ := f3_.symm; clear f1_ f2_ f3_; subst f4_; subst f5_))
  obtain ⟨Ao55, co55, eo55⟩ := Kd.R_slice HO4666.out
  (first | subst eo55 | (injection eo55 with f1_ f2_ f3_; have f4_ := f1_.symm; have f5_ := f3_.symm; clear f1_ f2_ f3_; subst f4_; subst f5_))
  refine hK.out _ _ ⟨(blk_cell BK4651.out 0).trans rfl, (blk_cell BK4660.out 0).trans rfl, (blk_cell BK4659.out 0).trans rfl, (blk_cell BK4652.out 0).trans rfl⟩ (fun hHeld => ?_)
  clear hK K
  refine norm_ (a' := ?_) ?_ ?_
  rotate_left
  · show Act.put _ (some 25) _ = _
    simp only [Act.put, List.setIfInBounds_toArray, List.set_cons_zero, List.set_cons_succ, i64_w, i32_w]
    rfl
  refine one_ (i := 6) (N := some 26) (demurrageref02_Cmp.ups 15 511) rfl rfl (one_of HT_.out (by kernel_rfl)) (by decide) (fun K hK => ?_)
  refine goes_ Try.func30 (by kernel_rfl) rfl #[.agg #[.slice Ao54 t4661.length co54], .agg #[.slice Ao55 t4664.length co55]] (by rfl) rfl rfl (by (try simp only [List.map_toArray, List.map_cons, List.map_nil]); first | done | rfl) ?_
  with_reducible refine (demurrageref01_Plus.calls k _ _ t4661 _ _ t4664 t4667 _ ?side1 ?side2 ?side3 ?side4 A7.out).mono ?_
  (case side1 => repeat (first | exact (Kd.R_reads' HO4663.out).2.2 | (with_reducible refine Kd.C_alloc ?_ _) | (with_reducible refine Kd.C_drewN ?_ _) | (with_reducible refine Kd.C_drew ?_)))
  (case side2 => exact (Kd.R_reads' HO4663.out).2.1)
  (case side3 => repeat (first | exact (Kd.R_reads' HO4666.out).2.2 | (with_reducible refine Kd.C_alloc ?_ _) | (with_reducible refine Kd.C_drewN ?_ _) | (with_reducible refine Kd.C_drew ?_)))
  (case side4 => exact (Kd.R_reads' HO4666.out).2.1)
  rintro e w56 ⟨v4668, rfl, ho0, hb⟩
  refine ⟨_, rfl, ?_⟩
  have n0_ := Aside0.mk (Kd.R_elder' HO4647.out (Kd.R_base ho0) hb)
  have n1_ := Aside0.mk (Kd.R_elder' HO4650.out (Kd.R_base ho0) hb)
  have n2_ := Aside0.mk (Kd.R_elder' HO4655.out (Kd.R_base ho0) hb)
  have n3_ := Aside0.mk (Kd.R_elder' HO4658.out (Kd.R_base ho0) hb)
  have n4_ := Aside0.mk (Kd.R_elder' HO4663.out (Kd.R_base ho0) hb)
  have n5_ := Aside0.mk (Kd.R_elder' HO4666.out (Kd.R_base ho0) hb)
  have n6_ := Aside0.mk (Kd.R_lower (Kd.R_new' (Kd.R_new' (Kd.R_new' (Kd.R_new' (Kd.R_new' (Kd.R_new' ho0 (Kd.R_lt HO4647.out)) (Kd.R_lt HO4650.out)) (Kd.R_lt HO4655.out)) (Kd.R_lt HO4658.out)) (Kd.R_lt HO4663.out)) (Kd.R_lt HO4666.out)) (below_size (by repeat (first | (with_reducible first | exact HB.out | apply below_alloc | apply pw_below_drewN | apply below_drew1 | refine below_set ?_ GE4642.out | refine below_set ?_ GE4643.out | refine below_set ?_ GE4644.out | refine below_set ?_ GE4651.out | refine below_set ?_ GE4652.out | refine below_set ?_ GE4659.out | refine below_set ?_ GE4660.out) | exact HB.out))))
  have n7_ := Aside0.mk (blk_below BK4642.out hb)
  have n8_ := Aside0.mk (blk_below BK4643.out hb)
  have n9_ := Aside0.mk (blk_below BK4644.out hb)
  have n10_ := Aside0.mk (blk_below BK4651.out hb)
  have n11_ := Aside0.mk (blk_below BK4652.out hb)
  have n12_ := Aside0.mk (blk_below BK4659.out hb)
  have n13_ := Aside0.mk (blk_below BK4660.out hb)
  have n14_ := Aside0.mk (below_step (by repeat (first | (with_reducible first | exact HB.out | apply below_alloc | apply pw_below_drewN | apply below_drew1 | refine below_set ?_ GE4642.out | refine below_set ?_ GE4643.out | refine below_set ?_ GE4644.out | refine below_set ?_ GE4651.out | refine below_set ?_ GE4652.out | refine below_set ?_ GE4659.out | refine below_set ?_ GE4660.out) | exact HB.out)) hb)
  clear HO4647 HO4650 HO4655 HO4658 HO4663 HO4666 BK4642 BK4643 BK4644 BK4651 BK4652 BK4659 BK4660 HB
  have HO4647 := n0_
  have HO4650 := n1_
  have HO4655 := n2_
  have HO4658 := n3_
  have HO4663 := n4_
  have HO4666 := n5_
  have HO4669 := n6_
  have BK4642 := n7_
  have BK4643 := n8_
  have BK4644 := n9_
  have BK4651 := n10_
  have BK4652 := n11_
  have BK4659 := n12_
  have BK4660 := n13_
  have HB := n14_
  clear n0_ n1_ n2_ n3_ n4_ n5_ n6_ n7_ n8_ n9_ n10_ n11_ n12_ n13_ n14_
  (try clear hb)
  (try clear hb2)
  (try clear hk)
  (try clear hi)
  (try clear ho0)
  refine hK.out _ _ ⟨(blk_cell BK4651.out 0).trans rfl, (blk_cell BK4660.out 0).trans rfl, (blk_cell BK4659.out 0).trans rfl, (blk_cell BK4652.out 0).trans rfl⟩ (fun hHeld => ?_)
  clear hK K
  refine norm_ (a' := ?_) ?_ ?_
  rotate_left
  · show Act.put _ (some 26) _ = _
    simp only [Act.put, List.setIfInBounds_toArray, List.set_cons_zero, List.set_cons_succ, i64_w, i32_w]
    rfl
  refine one_ (i := 9) (N := some 29) (demurrageref02_Cmp.ups 15 1023) rfl rfl (one_of HT_.out (by kernel_rfl)) (by decide) (fun K hK => ?_)
  refine goes_ Try.func29 (by kernel_rfl) rfl #[.agg #[.slice Ao25 t4648.length co25], .agg #[.slice Ao43 t4656.length co43]] (by rfl) rfl rfl (by (try simp only [List.map_toArray, List.map_cons, List.map_nil]); first | done | rfl) ?_
  with_reducible refine (demurrageref01_Prod.calls k _ _ t4648 _ _ t4656 t4670 _ ?side1 ?side2 ?side3 ?side4 A8.out).mono ?_
  (case side1 => repeat (first | exact (Kd.R_reads' HO4650.out).2.2 | (with_reducible refine Kd.C_alloc ?_ _) | (with_reducible refine Kd.C_drewN ?_ _) | (with_reducible refine Kd.C_drew ?_)))
  (case side2 => exact (Kd.R_reads' HO4650.out).2.1)
  (case side3 => repeat (first | exact (Kd.R_reads' HO4658.out).2.2 | (with_reducible refine Kd.C_alloc ?_ _) | (with_reducible refine Kd.C_drewN ?_ _) | (with_reducible refine Kd.C_drew ?_)))
  (case side4 => exact (Kd.R_reads' HO4658.out).2.1)
  rintro e w57 ⟨v4671, rfl, ho0, hb⟩
  refine ⟨_, rfl, ?_⟩
  have n0_ := Aside0.mk (Kd.R_elder' HO4647.out (Kd.R_base ho0) hb)
  have n1_ := Aside0.mk (Kd.R_elder' HO4650.out (Kd.R_base ho0) hb)
  have n2_ := Aside0.mk (Kd.R_elder' HO4655.out (Kd.R_base ho0) hb)
  have n3_ := Aside0.mk (Kd.R_elder' HO4658.out (Kd.R_base ho0) hb)
  have n4_ := Aside0.mk (Kd.R_elder' HO4663.out (Kd.R_base ho0) hb)
  have n5_ := Aside0.mk (Kd.R_elder' HO4666.out (Kd.R_base ho0) hb)
  have n6_ := Aside0.mk (Kd.R_elder' HO4669.out (Kd.R_base ho0) hb)
  have n7_ := Aside0.mk (Kd.R_lower (Kd.R_new' (Kd.R_new' (Kd.R_new' (Kd.R_new' (Kd.R_new' (Kd.R_new' (Kd.R_new' ho0 (Kd.R_lt HO4647.out)) (Kd.R_lt HO4650.out)) (Kd.R_lt HO4655.out)) (Kd.R_lt HO4658.out)) (Kd.R_lt HO4663.out)) (Kd.R_lt HO4666.out)) (Kd.R_lt HO4669.out)) (below_size (by repeat (first | (with_reducible first | exact HB.out | apply below_alloc | apply pw_below_drewN | apply below_drew1 | refine below_set ?_ GE4642.out | refine below_set ?_ GE4643.out | refine below_set ?_ GE4644.out | refine below_set ?_ GE4651.out | refine below_set ?_ GE4652.out | refine below_set ?_ GE4659.out | refine below_set ?_ GE4660.out) | exact HB.out))))
  have n8_ := Aside0.mk (blk_below BK4642.out hb)
  have n9_ := Aside0.mk (blk_below BK4643.out hb)
  have n10_ := Aside0.mk (blk_below BK4644.out hb)
  have n11_ := Aside0.mk (blk_below BK4651.out hb)
  have n12_ := Aside0.mk (blk_below BK4652.out hb)
  have n13_ := Aside0.mk (blk_below BK4659.out hb)
  have n14_ := Aside0.mk (blk_below BK4660.out hb)
  have n15_ := Aside0.mk (below_step (by repeat (first | (with_reducible first | exact HB.out | apply below_alloc | apply pw_below_drewN | apply below_drew1 | refine below_set ?_ GE4642.out | refine below_set ?_ GE4643.out | refine below_set ?_ GE4644.out | refine below_set ?_ GE4651.out | refine below_set ?_ GE4652.out | refine below_set ?_ GE4659.out | refine below_set ?_ GE4660.out) | exact HB.out)) hb)
  clear HO4647 HO4650 HO4655 HO4658 HO4663 HO4666 HO4669 BK4642 BK4643 BK4644 BK4651 BK4652 BK4659 BK4660 HB
  have HO4647 := n0_
  have HO4650 := n1_
  have HO4655 := n2_
  have HO4658 := n3_
  have HO4663 := n4_
  have HO4666 := n5_
  have HO4669 := n6_
  have HO4672 := n7_
  have BK4642 := n8_
  have BK4643 := n9_
  have BK4644 := n10_
  have BK4651 := n11_
  have BK4652 := n12_
  have BK4659 := n13_
  have BK4660 := n14_
  have HB := n15_
  clear n0_ n1_ n2_ n3_ n4_ n5_ n6_ n7_ n8_ n9_ n10_ n11_ n12_ n13_ n14_ n15_
  (try clear hb)
  (try clear hb2)
  (try clear hk)
  (try clear hi)
  (try clear ho0)
  obtain ⟨Ao58, co58, eo58⟩ := Kd.R_slice HO4669.out
  (first | subst eo58 | (injection eo58 with f1_ f2_ f3_; have f4_ := f1_.symm; have f5_ := f3_.symm; clear f1_ f2_ f3_; subst f4_; subst f5_))
  obtain ⟨Ao59, co59, eo59⟩ := Kd.R_slice HO4672.out
  (first | subst eo59 | (injection eo59 with f1_ f2_ f3_; have f4_ := f1_.symm; have f5_ := f3_.symm; clear f1_ f2_ f3_; subst f4_; subst f5_))
  refine hK.out _ _ ⟨(blk_cell BK4651.out 0).trans rfl, (blk_cell BK4660.out 0).trans rfl, (blk_cell BK4659.out 0).trans rfl, (blk_cell BK4652.out 0).trans rfl⟩ (fun hHeld => ?_)
  clear hK K
  refine norm_ (a' := ?_) ?_ ?_
  rotate_left
  · show Act.put _ (some 29) _ = _
    simp only [Act.put, List.setIfInBounds_toArray, List.set_cons_zero, List.set_cons_succ, i64_w, i32_w]
    rfl
  refine one_ (i := 10) (N := some 30) (demurrageref02_Cmp.ups 15 2047) rfl rfl (one_of HT_.out (by kernel_rfl)) (by decide) (fun K hK => ?_)
  refine goes_ Try.func73 (by kernel_rfl) rfl #[.agg #[.slice Ao58 t4667.length co58], .agg #[.slice Ao59 t4670.length co59]] (by rfl) rfl rfl (by (try simp only [List.map_toArray, List.map_cons, List.map_nil]); first | done | rfl) ?_
  with_reducible refine (demurrageref02_Made.calls k _ _ t4667 _ _ t4670 t4673 t4674 t4675 _ ?side1 ?side2 ?side3 ?side4 A9.out).mono ?_
  (case side1 => repeat (first | exact (Kd.R_reads' HO4669.out).2.2 | (with_reducible refine Kd.C_alloc ?_ _) | (with_reducible refine Kd.C_drewN ?_ _) | (with_reducible refine Kd.C_drew ?_)))
  (case side2 => exact (Kd.R_reads' HO4669.out).2.1)
  (case side3 => repeat (first | exact (Kd.R_reads' HO4672.out).2.2 | (with_reducible refine Kd.C_alloc ?_ _) | (with_reducible refine Kd.C_drewN ?_ _) | (with_reducible refine Kd.C_drew ?_)))
  (case side4 => exact (Kd.R_reads' HO4672.out).2.1)
  rintro e w60 ⟨rfl, hb⟩
  refine ⟨_, rfl, ?_⟩
  have n0_ := Aside0.mk (Kd.R_below HO4647.out hb)
  have n1_ := Aside0.mk (Kd.R_below HO4650.out hb)
  have n2_ := Aside0.mk (Kd.R_below HO4655.out hb)
  have n3_ := Aside0.mk (Kd.R_below HO4658.out hb)
  have n4_ := Aside0.mk (Kd.R_below HO4663.out hb)
  have n5_ := Aside0.mk (Kd.R_below HO4666.out hb)
  have n6_ := Aside0.mk (Kd.R_below HO4669.out hb)
  have n7_ := Aside0.mk (Kd.R_below HO4672.out hb)
  have n8_ := Aside0.mk (blk_below BK4642.out hb)
  have n9_ := Aside0.mk (blk_below BK4643.out hb)
  have n10_ := Aside0.mk (blk_below BK4644.out hb)
  have n11_ := Aside0.mk (blk_below BK4651.out hb)
  have n12_ := Aside0.mk (blk_below BK4652.out hb)
  have n13_ := Aside0.mk (blk_below BK4659.out hb)
  have n14_ := Aside0.mk (blk_below BK4660.out hb)
  have n15_ := Aside0.mk (below_step (by repeat (first | (with_reducible first | exact HB.out | apply below_alloc | apply pw_below_drewN | apply below_drew1 | refine below_set ?_ GE4642.out | refine below_set ?_ GE4643.out | refine below_set ?_ GE4644.out | refine below_set ?_ GE4651.out | refine below_set ?_ GE4652.out | refine below_set ?_ GE4659.out | refine below_set ?_ GE4660.out) | exact HB.out)) hb)
  clear HO4647 HO4650 HO4655 HO4658 HO4663 HO4666 HO4669 HO4672 BK4642 BK4643 BK4644 BK4651 BK4652 BK4659 BK4660 HB
  have HO4647 := n0_
  have HO4650 := n1_
  have HO4655 := n2_
  have HO4658 := n3_
  have HO4663 := n4_
  have HO4666 := n5_
  have HO4669 := n6_
  have HO4672 := n7_
  have BK4642 := n8_
  have BK4643 := n9_
  have BK4644 := n10_
  have BK4651 := n11_
  have BK4652 := n12_
  have BK4659 := n13_
  have BK4660 := n14_
  have HB := n15_
  clear n0_ n1_ n2_ n3_ n4_ n5_ n6_ n7_ n8_ n9_ n10_ n11_ n12_ n13_ n14_ n15_
  (try clear hb)
  (try clear hb2)
  (try clear hk)
  (try clear hi)
  refine hK.out _ _ ⟨(blk_cell BK4651.out 0).trans rfl, (blk_cell BK4660.out 0).trans rfl, (blk_cell BK4659.out 0).trans rfl, (blk_cell BK4652.out 0).trans rfl⟩ (fun hHeld => ?_)
  clear hK K
  refine norm_ (a' := ?_) ?_ ?_
  rotate_left
  · show Act.put _ (some 30) _ = _
    simp only [Act.put, List.setIfInBounds_toArray, List.set_cons_zero, List.set_cons_succ, i64_w, i32_w]
    rfl
  refine pure_ (i := 11) (N := some 31) (v := ?_) (a' := ?_) (demurrageref02_Cmp.ups 15 4095) rfl rfl (any_of HT_.out (by kernel_rfl)) (fun _ _ _ h => h) (Or.inl ⟨by rfl, ?_⟩) ?_ ?_
  rotate_left
  · intro w'
    go_simp
    with_reducible rfl
  rotate_left
  · simp only [Act.put, List.setIfInBounds_toArray, List.set_cons_zero, List.set_cons_succ, i64_w, i32_w]
    rfl
  refine pure_ (i := 12) (N := some 32) (v := ?_) (a' := ?_) (demurrageref02_Cmp.ups 15 8191) rfl rfl (any_of HT_.out (by kernel_rfl)) (fun _ _ _ h => h) (Or.inl ⟨by rfl, ?_⟩) ?_ ?_
  rotate_left
  · intro w'
    go_simp
    with_reducible rfl
  rotate_left
  · simp only [Act.put, List.setIfInBounds_toArray, List.set_cons_zero, List.set_cons_succ, i64_w, i32_w]
    rfl
  refine one_ (i := 13) (N := none) (demurrageref02_Cmp.ups 15 16383) rfl rfl (one_of HT_.out (by kernel_rfl)) (by decide) (fun K hK => ?_)
  have hs61 : w60.cell? ⟨gb4644, 0, none⟩ = some (.int .i64 0) := (blk_cell BK4644.out 0).trans rfl
  have hfs61 := blk_frozen BK4644.out 0
  have hns61_0 := NB4642_4644.out
  have hns61_1 := NB4643_4644.out
  have hns61_3 := NB4651_4644.out
  have hns61_4 := NB4652_4644.out
  have hns61_5 := NB4659_4644.out
  have hns61_6 := NB4660_4644.out
  have hms61_0 := NB4644_4642.out
  have hms61_1 := NB4644_4643.out
  have hms61_3 := NB4644_4651.out
  have hms61_4 := NB4644_4652.out
  have hms61_5 := NB4644_4659.out
  have hms61_6 := NB4644_4660.out
  have hs62 : w60.cell? ⟨gb4644, 1, none⟩ = some (.int .i64 0) := (blk_cell BK4644.out 1).trans rfl
  have hfs62 := blk_frozen BK4644.out 1
  have hns62_0 := NB4642_4644.out
  have hns62_1 := NB4643_4644.out
  have hns62_3 := NB4651_4644.out
  have hns62_4 := NB4652_4644.out
  have hns62_5 := NB4659_4644.out
  have hns62_6 := NB4660_4644.out
  have hms62_0 := NB4644_4642.out
  have hms62_1 := NB4644_4643.out
  have hms62_3 := NB4644_4651.out
  have hms62_4 := NB4644_4652.out
  have hms62_5 := NB4644_4659.out
  have hms62_6 := NB4644_4660.out
  refine skip_ (w1 := ?_) (by rfl) rfl ?_ ?_
  rotate_left
  · go_simp
    rfl
  refine hK.out _ _ ⟨((cell_far (p := ⟨gb4644, _, none⟩) NB4651_4644.out _).trans (((cell_far (p := ⟨gb4644, _, none⟩) NB4651_4644.out _).trans (hHeld.1)))), ((cell_far (p := ⟨gb4644, _, none⟩) NB4660_4644.out _).trans (((cell_far (p := ⟨gb4644, _, none⟩) NB4660_4644.out _).trans (hHeld.2.1)))), ((cell_far (p := ⟨gb4644, _, none⟩) NB4659_4644.out _).trans (((cell_far (p := ⟨gb4644, _, none⟩) NB4659_4644.out _).trans (hHeld.2.2.1)))), ((cell_far (p := ⟨gb4644, _, none⟩) NB4652_4644.out _).trans (((cell_far (p := ⟨gb4644, _, none⟩) NB4652_4644.out _).trans (hHeld.2.2.2))))⟩ (fun hHeld => ?_)
  clear hK K
  refine pure_ (i := 14) (N := some 5) (v := ?_) (a' := ?_) (demurrageref02_Cmp.ups 15 32767) rfl rfl (any_of HT_.out (by kernel_rfl)) (fun _ _ _ h => h) (Or.inl ⟨by rfl, ?_⟩) ?_ ?_
  rotate_left
  · intro w'
    go_simp
    with_reducible rfl
  rotate_left
  · simp only [Act.put, List.setIfInBounds_toArray, List.set_cons_zero, List.set_cons_succ, i64_w, i32_w]
    rfl
  refine done_ (done_of HT_.out (by kernel_rfl)) ?_
  try go_wp2
  refine bodyPost_ret (results_ct rfl _ _ gb4644 57 #[.int .i64 t4673, .int .i64 t4674] (0, 0) _ rfl (by refine blk_put (cs := #[.int .i64 t4673, .int .i64 0]) ?_ 1 _ rfl; refine blk_put (cs := #[.int .i64 0, .int .i64 0]) ?_ 0 _ rfl; exact BK4644.out) Try.underlying57 rfl (by kernel_rfl)) rfl ?_
  exact ⟨by rfl, by repeat (first | (with_reducible first | exact HB.out | apply below_alloc | apply pw_below_drewN | apply below_drew1 | refine below_set ?_ GE4642.out | refine below_set ?_ GE4643.out | refine below_set ?_ GE4644.out | refine below_set ?_ GE4651.out | refine below_set ?_ GE4652.out | refine below_set ?_ GE4659.out | refine below_set ?_ GE4660.out) | exact HB.out)⟩

def demurrageref02_Mul.f (k : Nat) (a0_0 : Int) (a0_1 : Int) (a1_0 : Int) (a1_1 : Int) : Option (Int × Int × Int) := (demurrageref02_big.f k a0_0 a0_1).bind fun bt4679 => ((demurrageref02_big.f k a1_0 a1_1).bind fun bt4687 => ((demurrageref01_Prod.f k bt4679.1 bt4687.1).bind fun t4695 => ((demurrageref01_Prod.f k bt4679.2 bt4687.2).bind fun t4698 => ((demurrageref02_Made.f k t4695 t4698).bind fun bt4701 => (some (bt4701.1, bt4701.2.1, bt4701.2.2))))))
def demurrageref02_Mul.T3 : Bool × List (List Nat × List Nat) := (true, [([], []), ([], []), ([0, 1], [0, 1]), ([], []), ([], []), ([3, 4, 2], [3, 4]), ([2, 5, 5], [2, 5]), ([6], [6]), ([6], [6]), ([7, 6, 0, 1, 2, 3, 4, 5, 6, 7, 8], [7]), ([8, 9, 0, 1, 2, 3, 4, 5, 6, 7, 8, 9], [8])])
def demurrageref02_Mul.B3 : List Nat := [0, 0, 3, 0, 0, 31, 63, 127, 127, 511, 1023]
theorem demurrageref02_Mul.tab3 : rtab .any (opsOf Try.f49 3) = demurrageref02_Mul.T3 := by kernel_rfl
theorem demurrageref02_Mul.bits3 : waitsOk demurrageref02_Mul.T3.2 demurrageref02_Mul.B3 = true := by kernel_rfl
set_option maxHeartbeats 8000000 in
set_option maxRecDepth 100000 in
theorem demurrageref02_Mul.calls (k : Nat) (a0_0 : Int) (a0_1 : Int) (a1_0 : Int) (a1_1 : Int) (r1 : Int) (r2 : Int) (r3 : Int) (w : World) (h : demurrageref02_Mul.f k a0_0 a0_1 a1_0 a1_1 = some (r1, r2, r3)) :
    Calls Try.prog 49 #[.agg #[.int .i64 a0_0, .int .i64 a0_1], .agg #[.int .i64 a1_0, .int .i64 a1_1]] w fun e w' => e = .returned (.tuple #[.agg #[.int .i64 r1, .int .i64 r2], .int .i64 r3]) ∧ Below w.heap.size w w' := by
  have hu57 := Try.underlying57
  have hu28 := Try.underlying28
  have HB := Aside0.mk (Below.refl w.heap.size w)
  have H : ((demurrageref02_big.f k a0_0 a0_1).bind fun bt4679 => ((demurrageref02_big.f k a1_0 a1_1).bind fun bt4687 => ((demurrageref01_Prod.f k bt4679.1 bt4687.1).bind fun t4695 => ((demurrageref01_Prod.f k bt4679.2 bt4687.2).bind fun t4698 => ((demurrageref02_Made.f k t4695 t4698).bind fun bt4701 => (some (bt4701.1, bt4701.2.1, bt4701.2.2))))))) = some (r1, r2, r3) := h
  clear h
  replace H := Option.bind_eq_some_iff.mp H
  obtain ⟨⟨t4679, t4682⟩, A30, H⟩ := H
  replace H : ((demurrageref02_big.f k a1_0 a1_1).bind fun bt4687 => ((demurrageref01_Prod.f k t4679 bt4687.1).bind fun t4695 => ((demurrageref01_Prod.f k t4682 bt4687.2).bind fun t4698 => ((demurrageref02_Made.f k t4695 t4698).bind fun bt4701 => (some (bt4701.1, bt4701.2.1, bt4701.2.2)))))) = some (r1, r2, r3) := H
  have A3 := Aside0.mk A30
  clear A30
  replace H := Option.bind_eq_some_iff.mp H
  obtain ⟨⟨t4687, t4690⟩, A40, H⟩ := H
  replace H : ((demurrageref01_Prod.f k t4679 t4687).bind fun t4695 => ((demurrageref01_Prod.f k t4682 t4690).bind fun t4698 => ((demurrageref02_Made.f k t4695 t4698).bind fun bt4701 => (some (bt4701.1, bt4701.2.1, bt4701.2.2))))) = some (r1, r2, r3) := H
  have A4 := Aside0.mk A40
  clear A40
  replace H := Option.bind_eq_some_iff.mp H
  obtain ⟨t4695, A50, H⟩ := H
  replace H : ((demurrageref01_Prod.f k t4682 t4690).bind fun t4698 => ((demurrageref02_Made.f k t4695 t4698).bind fun bt4701 => (some (bt4701.1, bt4701.2.1, bt4701.2.2)))) = some (r1, r2, r3) := H
  have A5 := Aside0.mk A50
  clear A50
  replace H := Option.bind_eq_some_iff.mp H
  obtain ⟨t4698, A60, H⟩ := H
  replace H : ((demurrageref02_Made.f k t4695 t4698).bind fun bt4701 => (some (bt4701.1, bt4701.2.1, bt4701.2.2))) = some (r1, r2, r3) := H
  have A6 := Aside0.mk A60
  clear A60
  replace H := Option.bind_eq_some_iff.mp H
  obtain ⟨⟨t4701, t4702, t4703⟩, A70, H⟩ := H
  replace H : (some (t4701, t4702, t4703)) = some (r1, r2, r3) := H
  have A7 := Aside0.mk A70
  clear A70
  simp only [Option.some.injEq, Prod.mk.injEq] at H
  obtain ⟨rfl, rfl, rfl⟩ := H
  go_enter Try.func49, Try.ntmps49
  try go_wp2_with (first | ((with_reducible refine gate_dst (N := 2) rfl ?_); refine box_event ?hg (N := 2) ?hd (cs := #[.int .i64 a0_0, .int .i64 a0_1]) (t := 57) ?hr ?_; (case hd => rfl); (case hg => rfl); (case hr => go_simp); intro gb4676 hg w8 hbox hb; have n0_ := Aside0.mk (below_step (by repeat (first | (with_reducible first | exact HB.out | apply below_alloc | apply pw_below_drewN | apply below_drew1) | exact HB.out)) hb); have n1_ := Aside0.mk (hbox); have n2_ := Aside0.mk ((by rw [hg]; exact (below_size (by repeat (first | (with_reducible first | exact HB.out | apply below_alloc | apply pw_below_drewN | apply below_drew1) | exact HB.out))) : w.heap.size ≤ gb4676)); have n3_ := Aside0.mk ((by rw [hg]; exact (below_size (by repeat (first | (with_reducible first | exact HB.out | apply below_alloc | apply pw_below_drewN | apply below_drew1) | exact HB.out))) : w.heap.size ≤ gb4676)); clear HB; have HB := n0_; have BK4676 := n1_; have GW4676 := n2_; have GE4676 := n3_; clear n0_ n1_ n2_ n3_; clear hb hbox hg) | ((with_reducible refine gate_dst (N := 3) rfl ?_); refine box_event ?hg (N := 3) ?hd (cs := #[.int .i64 a1_0, .int .i64 a1_1]) (t := 57) ?hr ?_; (case hd => rfl); (case hg => rfl); (case hr => go_simp); intro gb4677 hg w9 hbox hb; have n0_ := Aside0.mk (blk_below BK4676.out hb); have n1_ := Aside0.mk (below_step (by repeat (first | (with_reducible first | exact HB.out | apply below_alloc | apply pw_below_drewN | apply below_drew1 | refine below_set ?_ GE4676.out) | exact HB.out)) hb); have n2_ := Aside0.mk (hbox); have n3_ := Aside0.mk ((by rw [hg]; exact (below_size (by repeat (first | (with_reducible first | exact HB.out | apply below_alloc | apply pw_below_drewN | apply below_drew1 | refine below_set ?_ GE4676.out) | exact HB.out))) : w.heap.size ≤ gb4677)); have n4_ := Aside0.mk ((by rw [hg]; exact (below_size (by repeat (first | (with_reducible first | exact HB.out | apply below_alloc | apply pw_below_drewN | apply below_drew1 | refine below_set ?_ GE4676.out) | exact HB.out))) : w.heap.size ≤ gb4677)); have n5_ := Aside0.mk ((by rw [hg]; exact Nat.ne_of_lt (blk_lt (g := gb4676) (o := .cells #[.int .i64 a0_0, .int .i64 a0_1] 57 (0, 0)) BK4676.out) : gb4676 ≠ gb4677)); have n6_ := Aside0.mk ((by rw [hg]; exact Nat.ne_of_gt (blk_lt (g := gb4676) (o := .cells #[.int .i64 a0_0, .int .i64 a0_1] 57 (0, 0)) BK4676.out) : gb4677 ≠ gb4676)); clear BK4676 HB; have BK4676 := n0_; have HB := n1_; have BK4677 := n2_; have GW4677 := n3_; have GE4677 := n4_; have NB4676_4677 := n5_; have NB4677_4676 := n6_; clear n0_ n1_ n2_ n3_ n4_ n5_ n6_; clear hb hbox hg) | ((with_reducible refine gate_dst (N := 4) rfl ?_); refine box_event ?hg (N := 4) ?hd (cs := #[.int .i64 0, .int .i64 0]) (t := 57) ?hr ?_; (case hd => rfl); (case hg => rfl); (case hr => go_simp); intro gb4678 hg w10 hbox hb; have n0_ := Aside0.mk (blk_below BK4676.out hb); have n1_ := Aside0.mk (blk_below BK4677.out hb); have n2_ := Aside0.mk (below_step (by repeat (first | (with_reducible first | exact HB.out | apply below_alloc | apply pw_below_drewN | apply below_drew1 | refine below_set ?_ GE4676.out | refine below_set ?_ GE4677.out) | exact HB.out)) hb); have n3_ := Aside0.mk (hbox); have n4_ := Aside0.mk ((by rw [hg]; exact (below_size (by repeat (first | (with_reducible first | exact HB.out | apply below_alloc | apply pw_below_drewN | apply below_drew1 | refine below_set ?_ GE4676.out | refine below_set ?_ GE4677.out) | exact HB.out))) : w.heap.size ≤ gb4678)); have n5_ := Aside0.mk ((by rw [hg]; exact (below_size (by repeat (first | (with_reducible first | exact HB.out | apply below_alloc | apply pw_below_drewN | apply below_drew1 | refine below_set ?_ GE4676.out | refine below_set ?_ GE4677.out) | exact HB.out))) : w.heap.size ≤ gb4678)); have n6_ := Aside0.mk ((by rw [hg]; exact Nat.ne_of_lt (blk_lt (g := gb4676) (o := .cells #[.int .i64 a0_0, .int .i64 a0_1] 57 (0, 0)) BK4676.out) : gb4676 ≠ gb4678)); have n7_ := Aside0.mk ((by rw [hg]; exact Nat.ne_of_gt (blk_lt (g := gb4676) (o := .cells #[.int .i64 a0_0, .int .i64 a0_1] 57 (0, 0)) BK4676.out) : gb4678 ≠ gb4676)); have n8_ := Aside0.mk ((by rw [hg]; exact Nat.ne_of_lt (blk_lt (g := gb4677) (o := .cells #[.int .i64 a1_0, .int .i64 a1_1] 57 (0, 0)) BK4677.out) : gb4677 ≠ gb4678)); have n9_ := Aside0.mk ((by rw [hg]; exact Nat.ne_of_gt (blk_lt (g := gb4677) (o := .cells #[.int .i64 a1_0, .int .i64 a1_1] 57 (0, 0)) BK4677.out) : gb4678 ≠ gb4677)); clear BK4676 BK4677; clear HB; have BK4676 := n0_; have BK4677 := n1_; have HB := n2_; have BK4678 := n3_; have GW4678 := n4_; have GE4678 := n5_; have NB4676_4678 := n6_; have NB4678_4676 := n7_; have NB4677_4678 := n8_; have NB4678_4677 := n9_; clear n0_ n1_ n2_ n3_ n4_ n5_ n6_ n7_ n8_ n9_; clear hb hbox hg; have hnb11 := NB4676_4677.out; have hnc11 := NB4677_4676.out; have hnb12 := NB4676_4678.out; have hnc12 := NB4678_4676.out; have hcz13_0 : w10.cell? ⟨gb4676, 0, none⟩ = some (.int .i64 a0_0) := (blk_cell BK4676.out 0).trans rfl; have hcz13_1 : w10.cell? ⟨gb4676, 1, none⟩ = some (.int .i64 a0_1) := (blk_cell BK4676.out 1).trans rfl; have hfz13_0 := blk_frozen BK4676.out 0; have hfz13_1 := blk_frozen BK4676.out 1) | ((with_reducible refine gate_callee (f := 75) rfl ?_); refine goesL_ (some 12) rfl rfl Try.func75 (by kernel_rfl) rfl #[.agg #[.int .i64 a0_0, .int .i64 a0_1]] rfl (by (try simp only [List.map_toArray, List.map_cons, List.map_nil]); first | done | rfl) ?_; (with_reducible refine (demurrageref02_big.calls k a0_0 a0_1 t4679 t4682 _ A3.out).mono ?_); rintro e w14 ⟨v4680, v4683, rfl, ho0, ho1, hb⟩; refine ⟨_, rfl, ?_⟩; have n0_ := Aside0.mk (Kd.R_lower ho0 (below_size (by repeat (first | (with_reducible first | exact HB.out | apply below_alloc | apply pw_below_drewN | apply below_drew1 | refine below_set ?_ GE4676.out | refine below_set ?_ GE4677.out | refine below_set ?_ GE4678.out) | exact HB.out)))); have n1_ := Aside0.mk (Kd.R_lower ho1 (below_size (by repeat (first | (with_reducible first | exact HB.out | apply below_alloc | apply pw_below_drewN | apply below_drew1 | refine below_set ?_ GE4676.out | refine below_set ?_ GE4677.out | refine below_set ?_ GE4678.out) | exact HB.out)))); have n2_ := Aside0.mk (blk_below BK4676.out hb); have n3_ := Aside0.mk (blk_below BK4677.out hb); have n4_ := Aside0.mk (blk_below BK4678.out hb); have n5_ := Aside0.mk (below_step (by repeat (first | (with_reducible first | exact HB.out | apply below_alloc | apply pw_below_drewN | apply below_drew1 | refine below_set ?_ GE4676.out | refine below_set ?_ GE4677.out | refine below_set ?_ GE4678.out) | exact HB.out)) hb); clear BK4676 BK4677 BK4678 HB; have HO4681 := n0_; have HO4684 := n1_; have BK4676 := n2_; have BK4677 := n3_; have BK4678 := n4_; have HB := n5_; clear n0_ n1_ n2_ n3_ n4_ n5_; (try clear hb); (try clear ho0); (try clear ho1)) | ((with_reducible refine gate_dst (N := 6) rfl ?_); refine box_event ?hg (N := 6) ?hd (cs := #[.slice none 0 0]) (t := 28) ?hr ?_; (case hd => rfl); (case hg => rfl); (case hr => go_simp); intro gb4685 hg w15 hbox hb; have n0_ := Aside0.mk (Kd.R_below HO4681.out hb); have n1_ := Aside0.mk (Kd.R_below HO4684.out hb); have n2_ := Aside0.mk (blk_below BK4676.out hb); have n3_ := Aside0.mk (blk_below BK4677.out hb); have n4_ := Aside0.mk (blk_below BK4678.out hb); have n5_ := Aside0.mk (below_step (by repeat (first | (with_reducible first | exact HB.out | apply below_alloc | apply pw_below_drewN | apply below_drew1 | refine below_set ?_ GE4676.out | refine below_set ?_ GE4677.out | refine below_set ?_ GE4678.out) | exact HB.out)) hb); have n6_ := Aside0.mk (hbox); have n7_ := Aside0.mk ((by rw [hg]; exact (below_size (by repeat (first | (with_reducible first | exact HB.out | apply below_alloc | apply pw_below_drewN | apply below_drew1 | refine below_set ?_ GE4676.out | refine below_set ?_ GE4677.out | refine below_set ?_ GE4678.out) | exact HB.out))) : w.heap.size ≤ gb4685)); have n8_ := Aside0.mk ((by rw [hg]; exact (below_size (by repeat (first | (with_reducible first | exact HB.out | apply below_alloc | apply pw_below_drewN | apply below_drew1 | refine below_set ?_ GE4676.out | refine below_set ?_ GE4677.out | refine below_set ?_ GE4678.out) | exact HB.out))) : w.heap.size ≤ gb4685)); have n9_ := Aside0.mk ((by rw [hg]; exact Nat.ne_of_lt (blk_lt (g := gb4676) (o := .cells #[.int .i64 a0_0, .int .i64 a0_1] 57 (0, 0)) BK4676.out) : gb4676 ≠ gb4685)); have n10_ := Aside0.mk ((by rw [hg]; exact Nat.ne_of_gt (blk_lt (g := gb4676) (o := .cells #[.int .i64 a0_0, .int .i64 a0_1] 57 (0, 0)) BK4676.out) : gb4685 ≠ gb4676)); have n11_ := Aside0.mk ((by rw [hg]; exact Nat.ne_of_lt (blk_lt (g := gb4677) (o := .cells #[.int .i64 a1_0, .int .i64 a1_1] 57 (0, 0)) BK4677.out) : gb4677 ≠ gb4685)); have n12_ := Aside0.mk ((by rw [hg]; exact Nat.ne_of_gt (blk_lt (g := gb4677) (o := .cells #[.int .i64 a1_0, .int .i64 a1_1] 57 (0, 0)) BK4677.out) : gb4685 ≠ gb4677)); have n13_ := Aside0.mk ((by rw [hg]; exact Nat.ne_of_lt (blk_lt (g := gb4678) (o := .cells #[.int .i64 0, .int .i64 0] 57 (0, 0)) BK4678.out) : gb4678 ≠ gb4685)); have n14_ := Aside0.mk ((by rw [hg]; exact Nat.ne_of_gt (blk_lt (g := gb4678) (o := .cells #[.int .i64 0, .int .i64 0] 57 (0, 0)) BK4678.out) : gb4685 ≠ gb4678)); clear HO4681 HO4684 BK4676 BK4677; clear BK4678 HB; have HO4681 := n0_; have HO4684 := n1_; have BK4676 := n2_; have BK4677 := n3_; have BK4678 := n4_; have HB := n5_; have BK4685 := n6_; have GW4685 := n7_; have GE4685 := n8_; have NB4676_4685 := n9_; have NB4685_4676 := n10_; have NB4677_4685 := n11_; have NB4685_4677 := n12_; have NB4678_4685 := n13_; have NB4685_4678 := n14_; clear n0_ n1_ n2_ n3_ n4_ n5_ n6_ n7_ n8_ n9_ n10_ n11_ n12_ n13_ n14_; clear hb hbox hg) | ((with_reducible refine gate_dst (N := 7) rfl ?_); refine box_event ?hg (N := 7) ?hd (cs := #[.slice none 0 0]) (t := 28) ?hr ?_; (case hd => rfl); (case hg => rfl); (case hr => go_simp); intro gb4686 hg w16 hbox hb; have n0_ := Aside0.mk (Kd.R_below HO4681.out hb); have n1_ := Aside0.mk (Kd.R_below HO4684.out hb); have n2_ := Aside0.mk (blk_below BK4676.out hb); have n3_ := Aside0.mk (blk_below BK4677.out hb); have n4_ := Aside0.mk (blk_below BK4678.out hb); have n5_ := Aside0.mk (blk_below BK4685.out hb); have n6_ := Aside0.mk (below_step (by repeat (first | (with_reducible first | exact HB.out | apply below_alloc | apply pw_below_drewN | apply below_drew1 | refine below_set ?_ GE4676.out | refine below_set ?_ GE4677.out | refine below_set ?_ GE4678.out | refine below_set ?_ GE4685.out) | exact HB.out)) hb); have n7_ := Aside0.mk (hbox); have n8_ := Aside0.mk ((by rw [hg]; exact (below_size (by repeat (first | (with_reducible first | exact HB.out | apply below_alloc | apply pw_below_drewN | apply below_drew1 | refine below_set ?_ GE4676.out | refine below_set ?_ GE4677.out | refine below_set ?_ GE4678.out | refine below_set ?_ GE4685.out) | exact HB.out))) : w.heap.size ≤ gb4686)); have n9_ := Aside0.mk ((by rw [hg]; exact (below_size (by repeat (first | (with_reducible first | exact HB.out | apply below_alloc | apply pw_below_drewN | apply below_drew1 | refine below_set ?_ GE4676.out | refine below_set ?_ GE4677.out | refine below_set ?_ GE4678.out | refine below_set ?_ GE4685.out) | exact HB.out))) : w.heap.size ≤ gb4686)); have n10_ := Aside0.mk ((by rw [hg]; exact Nat.ne_of_lt (blk_lt (g := gb4676) (o := .cells #[.int .i64 a0_0, .int .i64 a0_1] 57 (0, 0)) BK4676.out) : gb4676 ≠ gb4686)); have n11_ := Aside0.mk ((by rw [hg]; exact Nat.ne_of_gt (blk_lt (g := gb4676) (o := .cells #[.int .i64 a0_0, .int .i64 a0_1] 57 (0, 0)) BK4676.out) : gb4686 ≠ gb4676)); have n12_ := Aside0.mk ((by rw [hg]; exact Nat.ne_of_lt (blk_lt (g := gb4677) (o := .cells #[.int .i64 a1_0, .int .i64 a1_1] 57 (0, 0)) BK4677.out) : gb4677 ≠ gb4686)); have n13_ := Aside0.mk ((by rw [hg]; exact Nat.ne_of_gt (blk_lt (g := gb4677) (o := .cells #[.int .i64 a1_0, .int .i64 a1_1] 57 (0, 0)) BK4677.out) : gb4686 ≠ gb4677)); have n14_ := Aside0.mk ((by rw [hg]; exact Nat.ne_of_lt (blk_lt (g := gb4678) (o := .cells #[.int .i64 0, .int .i64 0] 57 (0, 0)) BK4678.out) : gb4678 ≠ gb4686)); have n15_ := Aside0.mk ((by rw [hg]; exact Nat.ne_of_gt (blk_lt (g := gb4678) (o := .cells #[.int .i64 0, .int .i64 0] 57 (0, 0)) BK4678.out) : gb4686 ≠ gb4678)); have n16_ := Aside0.mk ((by rw [hg]; exact Nat.ne_of_lt (blk_lt (g := gb4685) (o := .cells #[.slice none 0 0] 28 (0, 0)) BK4685.out) : gb4685 ≠ gb4686)); have n17_ := Aside0.mk ((by rw [hg]; exact Nat.ne_of_gt (blk_lt (g := gb4685) (o := .cells #[.slice none 0 0] 28 (0, 0)) BK4685.out) : gb4686 ≠ gb4685)); clear HO4681 HO4684 BK4676 BK4677; clear BK4678 BK4685; clear HB; have HO4681 := n0_; have HO4684 := n1_; have BK4676 := n2_; have BK4677 := n3_; have BK4678 := n4_; have BK4685 := n5_; have HB := n6_; have BK4686 := n7_; have GW4686 := n8_; have GE4686 := n9_; have NB4676_4686 := n10_; have NB4686_4676 := n11_; have NB4677_4686 := n12_; have NB4686_4677 := n13_; have NB4678_4686 := n14_; have NB4686_4678 := n15_; have NB4685_4686 := n16_; have NB4686_4685 := n17_; clear n0_ n1_ n2_ n3_ n4_ n5_ n6_ n7_ n8_ n9_ n10_ n11_ n12_ n13_ n14_ n15_ n16_ n17_; clear hb hbox hg; obtain ⟨Ao17, co17, eo17⟩ := Kd.R_slice HO4681.out; subst eo17; have hnb18 := NB4685_4676.out; have hnc18 := NB4676_4685.out; have hnb19 := NB4685_4677.out; have hnc19 := NB4677_4685.out; have hnb20 := NB4685_4678.out; have hnc20 := NB4678_4685.out; have hnb21 := NB4685_4686.out; have hnc21 := NB4686_4685.out; have hcz22_0 : w16.cell? ⟨gb4685, 0, none⟩ = some (.slice none 0 0) := (blk_cell BK4685.out 0).trans rfl; have hfz22_0 := blk_frozen BK4685.out 0; obtain ⟨Ao23, co23, eo23⟩ := Kd.R_slice HO4684.out; subst eo23; have hnb24 := NB4686_4676.out; have hnc24 := NB4676_4686.out; have hnb25 := NB4686_4677.out; have hnc25 := NB4677_4686.out; have hnb26 := NB4686_4678.out; have hnc26 := NB4678_4686.out; have hcz27_0 : w16.cell? ⟨gb4686, 0, none⟩ = some (.slice none 0 0) := (blk_cell BK4686.out 0).trans rfl; have hfz27_0 := blk_frozen BK4686.out 0; have hnb28 := NB4677_4678.out; have hnc28 := NB4678_4677.out; have hcz29_0 : w16.cell? ⟨gb4677, 0, none⟩ = some (.int .i64 a1_0) := (blk_cell BK4677.out 0).trans rfl; have hcz29_1 : w16.cell? ⟨gb4677, 1, none⟩ = some (.int .i64 a1_1) := (blk_cell BK4677.out 1).trans rfl; have hfz29_0 := blk_frozen BK4677.out 0; have hfz29_1 := blk_frozen BK4677.out 1) | ((with_reducible refine gate_callee (f := 75) rfl ?_); refine goesL_ (some 17) rfl rfl Try.func75 (by kernel_rfl) rfl #[.agg #[.int .i64 a1_0, .int .i64 a1_1]] rfl (by (try simp only [List.map_toArray, List.map_cons, List.map_nil]); first | done | rfl) ?_; (with_reducible refine (demurrageref02_big.calls k a1_0 a1_1 t4687 t4690 _ A4.out).mono ?_); rintro e w30 ⟨v4688, v4691, rfl, ho0, ho1, hb⟩; refine ⟨_, rfl, ?_⟩; have n0_ := Aside0.mk (Kd.R_mono (Kd.R_told (Kd.R_told (Kd.R_old (by (with_reducible repeat (first | apply Kd.R_alloc | apply Kd.R_drewN | apply Kd.R_drew)); exact (Kd.R_mono (Kd.R_mono (Kd.R_far (p := ⟨gb4686, 0, none⟩) (Kd.R_far (p := ⟨gb4685, 0, none⟩) (Kd.R_types (Kd.R_types HO4681.out BK4685.out (by decide)) BK4686.out (by decide)) (fun _ hk => hk.1.2) (.slice Ao17 t4679.length co17)) (fun _ hk => hk.2) (.slice Ao23 t4682.length co23)) (fun _ h_ => h_.1)) (fun _ h_ => h_.1))) hb) (Kd.R_base ho0)) (Kd.R_base ho1)) (fun _ h_ => h_.1)); have n1_ := Aside0.mk (Kd.R_mono (Kd.R_told (Kd.R_told (Kd.R_old (by (with_reducible repeat (first | apply Kd.R_alloc | apply Kd.R_drewN | apply Kd.R_drew)); exact (Kd.R_mono (Kd.R_mono (Kd.R_far (p := ⟨gb4686, 0, none⟩) (Kd.R_far (p := ⟨gb4685, 0, none⟩) (Kd.R_types (Kd.R_types HO4684.out BK4685.out (by decide)) BK4686.out (by decide)) (fun _ hk => hk.1.2) (.slice Ao17 t4679.length co17)) (fun _ hk => hk.2) (.slice Ao23 t4682.length co23)) (fun _ h_ => h_.1)) (fun _ h_ => h_.1))) hb) (Kd.R_base ho0)) (Kd.R_base ho1)) (fun _ h_ => h_.1)); have n2_ := Aside0.mk (Kd.R_lower (Kd.R_new' (Kd.R_new' ho0 (Kd.R_lt (by (with_reducible repeat (first | apply Kd.R_alloc | apply Kd.R_drewN | apply Kd.R_drew)); exact (Kd.R_mono (Kd.R_mono (Kd.R_far (p := ⟨gb4686, 0, none⟩) (Kd.R_far (p := ⟨gb4685, 0, none⟩) (Kd.R_types (Kd.R_types HO4681.out BK4685.out (by decide)) BK4686.out (by decide)) (fun _ hk => hk.1.2) (.slice Ao17 t4679.length co17)) (fun _ hk => hk.2) (.slice Ao23 t4682.length co23)) (fun _ h_ => h_.1)) (fun _ h_ => h_.1))))) (Kd.R_lt (by (with_reducible repeat (first | apply Kd.R_alloc | apply Kd.R_drewN | apply Kd.R_drew)); exact (Kd.R_mono (Kd.R_mono (Kd.R_far (p := ⟨gb4686, 0, none⟩) (Kd.R_far (p := ⟨gb4685, 0, none⟩) (Kd.R_types (Kd.R_types HO4684.out BK4685.out (by decide)) BK4686.out (by decide)) (fun _ hk => hk.1.2) (.slice Ao17 t4679.length co17)) (fun _ hk => hk.2) (.slice Ao23 t4682.length co23)) (fun _ h_ => h_.1)) (fun _ h_ => h_.1))))) (below_size (by repeat (first | (with_reducible first | exact HB.out | apply below_alloc | apply pw_below_drewN | apply below_drew1 | refine below_set ?_ GE4676.out | refine below_set ?_ GE4677.out | refine below_set ?_ GE4678.out | refine below_set ?_ GE4685.out | refine below_set ?_ GE4686.out) | exact HB.out)))); have n3_ := Aside0.mk (Kd.R_lower (Kd.R_new' (Kd.R_new' ho1 (Kd.R_lt (by (with_reducible repeat (first | apply Kd.R_alloc | apply Kd.R_drewN | apply Kd.R_drew)); exact (Kd.R_mono (Kd.R_mono (Kd.R_far (p := ⟨gb4686, 0, none⟩) (Kd.R_far (p := ⟨gb4685, 0, none⟩) (Kd.R_types (Kd.R_types HO4681.out BK4685.out (by decide)) BK4686.out (by decide)) (fun _ hk => hk.1.2) (.slice Ao17 t4679.length co17)) (fun _ hk => hk.2) (.slice Ao23 t4682.length co23)) (fun _ h_ => h_.1)) (fun _ h_ => h_.1))))) (Kd.R_lt (by (with_reducible repeat (first | apply Kd.R_alloc | apply Kd.R_drewN | apply Kd.R_drew)); exact (Kd.R_mono (Kd.R_mono (Kd.R_far (p := ⟨gb4686, 0, none⟩) (Kd.R_far (p := ⟨gb4685, 0, none⟩) (Kd.R_types (Kd.R_types HO4684.out BK4685.out (by decide)) BK4686.out (by decide)) (fun _ hk => hk.1.2) (.slice Ao17 t4679.length co17)) (fun _ hk => hk.2) (.slice Ao23 t4682.length co23)) (fun _ h_ => h_.1)) (fun _ h_ => h_.1))))) (below_size (by repeat (first | (with_reducible first | exact HB.out | apply below_alloc | apply pw_below_drewN | apply below_drew1 | refine below_set ?_ GE4676.out | refine below_set ?_ GE4677.out | refine below_set ?_ GE4678.out | refine below_set ?_ GE4685.out | refine below_set ?_ GE4686.out) | exact HB.out)))); have n4_ := Aside0.mk (blk_below (g := gb4676) (o := .cells #[.int .i64 a0_0, .int .i64 a0_1] 57 (0, 0)) (by refine blk_far ?_ NB4676_4686.out _; refine blk_far ?_ NB4676_4685.out _; exact BK4676.out) hb); have n5_ := Aside0.mk (blk_below (g := gb4677) (o := .cells #[.int .i64 a1_0, .int .i64 a1_1] 57 (0, 0)) (by refine blk_far ?_ NB4677_4686.out _; refine blk_far ?_ NB4677_4685.out _; exact BK4677.out) hb); have n6_ := Aside0.mk (blk_below (g := gb4678) (o := .cells #[.int .i64 0, .int .i64 0] 57 (0, 0)) (by refine blk_far ?_ NB4678_4686.out _; refine blk_far ?_ NB4678_4685.out _; exact BK4678.out) hb); have n7_ := Aside0.mk (blk_below (g := gb4685) (o := .cells #[.slice Ao17 t4679.length co17] 28 (0, 0)) (by refine blk_far ?_ NB4685_4686.out _; refine blk_put (cs := #[.slice none 0 0]) ?_ 0 _ rfl; exact BK4685.out) hb); have n8_ := Aside0.mk (blk_below (g := gb4686) (o := .cells #[.slice Ao23 t4682.length co23] 28 (0, 0)) (by refine blk_put (cs := #[.slice none 0 0]) ?_ 0 _ rfl; refine blk_far ?_ NB4686_4685.out _; exact BK4686.out) hb); have n9_ := Aside0.mk (below_step (by repeat (first | (with_reducible first | exact HB.out | apply below_alloc | apply pw_below_drewN | apply below_drew1 | refine below_set ?_ GE4676.out | refine below_set ?_ GE4677.out | refine below_set ?_ GE4678.out | refine below_set ?_ GE4685.out | refine below_set ?_ GE4686.out) | exact HB.out)) hb); clear HO4681 HO4684 BK4676 BK4677; clear BK4678 BK4685 BK4686 HB; have HO4681 := n0_; have HO4684 := n1_; have HO4689 := n2_; have HO4692 := n3_; have BK4676 := n4_; have BK4677 := n5_; have BK4678 := n6_; have BK4685 := n7_; have BK4686 := n8_; have HB := n9_; clear n0_ n1_ n2_ n3_ n4_ n5_ n6_ n7_ n8_ n9_; (try clear hb); (try clear ho0); (try clear ho1)) | ((with_reducible refine gate_dst (N := 8) rfl ?_); refine box_event ?hg (N := 8) ?hd (cs := #[.slice none 0 0]) (t := 28) ?hr ?_; (case hd => rfl); (case hg => rfl); (case hr => go_simp); intro gb4693 hg w31 hbox hb; have n0_ := Aside0.mk (Kd.R_below HO4681.out hb); have n1_ := Aside0.mk (Kd.R_below HO4684.out hb); have n2_ := Aside0.mk (Kd.R_below HO4689.out hb); have n3_ := Aside0.mk (Kd.R_below HO4692.out hb); have n4_ := Aside0.mk (blk_below BK4676.out hb); have n5_ := Aside0.mk (blk_below BK4677.out hb); have n6_ := Aside0.mk (blk_below BK4678.out hb); have n7_ := Aside0.mk (blk_below BK4685.out hb); have n8_ := Aside0.mk (blk_below BK4686.out hb); have n9_ := Aside0.mk (below_step (by repeat (first | (with_reducible first | exact HB.out | apply below_alloc | apply pw_below_drewN | apply below_drew1 | refine below_set ?_ GE4676.out | refine below_set ?_ GE4677.out | refine below_set ?_ GE4678.out | refine below_set ?_ GE4685.out | refine below_set ?_ GE4686.out) | exact HB.out)) hb); have n10_ := Aside0.mk (hbox); have n11_ := Aside0.mk ((by rw [hg]; exact (below_size (by repeat (first | (with_reducible first | exact HB.out | apply below_alloc | apply pw_below_drewN | apply below_drew1 | refine below_set ?_ GE4676.out | refine below_set ?_ GE4677.out | refine below_set ?_ GE4678.out | refine below_set ?_ GE4685.out | refine below_set ?_ GE4686.out) | exact HB.out))) : w.heap.size ≤ gb4693)); have n12_ := Aside0.mk ((by rw [hg]; exact (below_size (by repeat (first | (with_reducible first | exact HB.out | apply below_alloc | apply pw_below_drewN | apply below_drew1 | refine below_set ?_ GE4676.out | refine below_set ?_ GE4677.out | refine below_set ?_ GE4678.out | refine below_set ?_ GE4685.out | refine below_set ?_ GE4686.out) | exact HB.out))) : w.heap.size ≤ gb4693)); have n13_ := Aside0.mk ((by rw [hg]; exact Nat.ne_of_lt (blk_lt (g := gb4676) (o := .cells #[.int .i64 a0_0, .int .i64 a0_1] 57 (0, 0)) BK4676.out) : gb4676 ≠ gb4693)); have n14_ := Aside0.mk ((by rw [hg]; exact Nat.ne_of_gt (blk_lt (g := gb4676) (o := .cells #[.int .i64 a0_0, .int .i64 a0_1] 57 (0, 0)) BK4676.out) : gb4693 ≠ gb4676)); have n15_ := Aside0.mk ((by rw [hg]; exact Nat.ne_of_lt (blk_lt (g := gb4677) (o := .cells #[.int .i64 a1_0, .int .i64 a1_1] 57 (0, 0)) BK4677.out) : gb4677 ≠ gb4693)); have n16_ := Aside0.mk ((by rw [hg]; exact Nat.ne_of_gt (blk_lt (g := gb4677) (o := .cells #[.int .i64 a1_0, .int .i64 a1_1] 57 (0, 0)) BK4677.out) : gb4693 ≠ gb4677)); have n17_ := Aside0.mk ((by rw [hg]; exact Nat.ne_of_lt (blk_lt (g := gb4678) (o := .cells #[.int .i64 0, .int .i64 0] 57 (0, 0)) BK4678.out) : gb4678 ≠ gb4693)); have n18_ := Aside0.mk ((by rw [hg]; exact Nat.ne_of_gt (blk_lt (g := gb4678) (o := .cells #[.int .i64 0, .int .i64 0] 57 (0, 0)) BK4678.out) : gb4693 ≠ gb4678)); have n19_ := Aside0.mk ((by rw [hg]; exact Nat.ne_of_lt (blk_lt (g := gb4685) (o := .cells #[.slice Ao17 t4679.length co17] 28 (0, 0)) BK4685.out) : gb4685 ≠ gb4693)); have n20_ := Aside0.mk ((by rw [hg]; exact Nat.ne_of_gt (blk_lt (g := gb4685) (o := .cells #[.slice Ao17 t4679.length co17] 28 (0, 0)) BK4685.out) : gb4693 ≠ gb4685)); have n21_ := Aside0.mk ((by rw [hg]; exact Nat.ne_of_lt (blk_lt (g := gb4686) (o := .cells #[.slice Ao23 t4682.length co23] 28 (0, 0)) BK4686.out) : gb4686 ≠ gb4693)); have n22_ := Aside0.mk ((by rw [hg]; exact Nat.ne_of_gt (blk_lt (g := gb4686) (o := .cells #[.slice Ao23 t4682.length co23] 28 (0, 0)) BK4686.out) : gb4693 ≠ gb4686)); clear HO4681 HO4684 HO4689 HO4692; clear BK4676 BK4677 BK4678 BK4685; clear BK4686 HB; have HO4681 := n0_; have HO4684 := n1_; have HO4689 := n2_; have HO4692 := n3_; have BK4676 := n4_; have BK4677 := n5_; have BK4678 := n6_; have BK4685 := n7_; have BK4686 := n8_; have HB := n9_; have BK4693 := n10_; have GW4693 := n11_; have GE4693 := n12_; have NB4676_4693 := n13_; have NB4693_4676 := n14_; have NB4677_4693 := n15_; have NB4693_4677 := n16_; have NB4678_4693 := n17_; have NB4693_4678 := n18_; have NB4685_4693 := n19_; have NB4693_4685 := n20_; have NB4686_4693 := n21_; have NB4693_4686 := n22_; clear n0_ n1_ n2_ n3_ n4_ n5_ n6_ n7_ n8_ n9_ n10_ n11_ n12_ n13_ n14_ n15_ n16_ n17_ n18_ n19_ n20_ n21_ n22_; clear hb hbox hg) | ((with_reducible refine gate_dst (N := 9) rfl ?_); refine box_event ?hg (N := 9) ?hd (cs := #[.slice none 0 0]) (t := 28) ?hr ?_; (case hd => rfl); (case hg => rfl); (case hr => go_simp); intro gb4694 hg w32 hbox hb; have n0_ := Aside0.mk (Kd.R_below HO4681.out hb); have n1_ := Aside0.mk (Kd.R_below HO4684.out hb); have n2_ := Aside0.mk (Kd.R_below HO4689.out hb); have n3_ := Aside0.mk (Kd.R_below HO4692.out hb); have n4_ := Aside0.mk (blk_below BK4676.out hb); have n5_ := Aside0.mk (blk_below BK4677.out hb); have n6_ := Aside0.mk (blk_below BK4678.out hb); have n7_ := Aside0.mk (blk_below BK4685.out hb); have n8_ := Aside0.mk (blk_below BK4686.out hb); have n9_ := Aside0.mk (blk_below BK4693.out hb); have n10_ := Aside0.mk (below_step (by repeat (first | (with_reducible first | exact HB.out | apply below_alloc | apply pw_below_drewN | apply below_drew1 | refine below_set ?_ GE4676.out | refine below_set ?_ GE4677.out | refine below_set ?_ GE4678.out | refine below_set ?_ GE4685.out | refine below_set ?_ GE4686.out | refine below_set ?_ GE4693.out) | exact HB.out)) hb); have n11_ := Aside0.mk (hbox); have n12_ := Aside0.mk ((by rw [hg]; exact (below_size (by repeat (first | (with_reducible first | exact HB.out | apply below_alloc | apply pw_below_drewN | apply below_drew1 | refine below_set ?_ GE4676.out | refine below_set ?_ GE4677.out | refine below_set ?_ GE4678.out | refine below_set ?_ GE4685.out | refine below_set ?_ GE4686.out | refine below_set ?_ GE4693.out) | exact HB.out))) : w.heap.size ≤ gb4694)); have n13_ := Aside0.mk ((by rw [hg]; exact (below_size (by repeat (first | (with_reducible first | exact HB.out | apply below_alloc | apply pw_below_drewN | apply below_drew1 | refine below_set ?_ GE4676.out | refine below_set ?_ GE4677.out | refine below_set ?_ GE4678.out | refine below_set ?_ GE4685.out | refine below_set ?_ GE4686.out | refine below_set ?_ GE4693.out) | exact HB.out))) : w.heap.size ≤ gb4694)); have n14_ := Aside0.mk ((by rw [hg]; exact Nat.ne_of_lt (blk_lt (g := gb4676) (o := .cells #[.int .i64 a0_0, .int .i64 a0_1] 57 (0, 0)) BK4676.out) : gb4676 ≠ gb4694)); have n15_ := Aside0.mk ((by rw [hg]; exact Nat.ne_of_gt (blk_lt (g := gb4676) (o := .cells #[.int .i64 a0_0, .int .i64 a0_1] 57 (0, 0)) BK4676.out) : gb4694 ≠ gb4676)); have n16_ := Aside0.mk ((by rw [hg]; exact Nat.ne_of_lt (blk_lt (g := gb4677) (o := .cells #[.int .i64 a1_0, .int .i64 a1_1] 57 (0, 0)) BK4677.out) : gb4677 ≠ gb4694)); have n17_ := Aside0.mk ((by rw [hg]; exact Nat.ne_of_gt (blk_lt (g := gb4677) (o := .cells #[.int .i64 a1_0, .int .i64 a1_1] 57 (0, 0)) BK4677.out) : gb4694 ≠ gb4677)); have n18_ := Aside0.mk ((by rw [hg]; exact Nat.ne_of_lt (blk_lt (g := gb4678) (o := .cells #[.int .i64 0, .int .i64 0] 57 (0, 0)) BK4678.out) : gb4678 ≠ gb4694)); have n19_ := Aside0.mk ((by rw [hg]; exact Nat.ne_of_gt (blk_lt (g := gb4678) (o := .cells #[.int .i64 0, .int .i64 0] 57 (0, 0)) BK4678.out) : gb4694 ≠ gb4678)); have n20_ := Aside0.mk ((by rw [hg]; exact Nat.ne_of_lt (blk_lt (g := gb4685) (o := .cells #[.slice Ao17 t4679.length co17] 28 (0, 0)) BK4685.out) : gb4685 ≠ gb4694)); have n21_ := Aside0.mk ((by rw [hg]; exact Nat.ne_of_gt (blk_lt (g := gb4685) (o := .cells #[.slice Ao17 t4679.length co17] 28 (0, 0)) BK4685.out) : gb4694 ≠ gb4685)); have n22_ := Aside0.mk ((by rw [hg]; exact Nat.ne_of_lt (blk_lt (g := gb4686) (o := .cells #[.slice Ao23 t4682.length co23] 28 (0, 0)) BK4686.out) : gb4686 ≠ gb4694)); have n23_ := Aside0.mk ((by rw [hg]; exact Nat.ne_of_gt (blk_lt (g := gb4686) (o := .cells #[.slice Ao23 t4682.length co23] 28 (0, 0)) BK4686.out) : gb4694 ≠ gb4686)); have n24_ := Aside0.mk ((by rw [hg]; exact Nat.ne_of_lt (blk_lt (g := gb4693) (o := .cells #[.slice none 0 0] 28 (0, 0)) BK4693.out) : gb4693 ≠ gb4694)); have n25_ := Aside0.mk ((by rw [hg]; exact Nat.ne_of_gt (blk_lt (g := gb4693) (o := .cells #[.slice none 0 0] 28 (0, 0)) BK4693.out) : gb4694 ≠ gb4693)); clear HO4681 HO4684 HO4689 HO4692; clear BK4676 BK4677 BK4678 BK4685; clear BK4686 BK4693; clear HB; have HO4681 := n0_; have HO4684 := n1_; have HO4689 := n2_; have HO4692 := n3_; have BK4676 := n4_; have BK4677 := n5_; have BK4678 := n6_; have BK4685 := n7_; have BK4686 := n8_; have BK4693 := n9_; have HB := n10_; have BK4694 := n11_; have GW4694 := n12_; have GE4694 := n13_; have NB4676_4694 := n14_; have NB4694_4676 := n15_; have NB4677_4694 := n16_; have NB4694_4677 := n17_; have NB4678_4694 := n18_; have NB4694_4678 := n19_; have NB4685_4694 := n20_; have NB4694_4685 := n21_; have NB4686_4694 := n22_; have NB4694_4686 := n23_; have NB4693_4694 := n24_; have NB4694_4693 := n25_; clear n0_ n1_ n2_ n3_ n4_ n5_ n6_ n7_ n8_ n9_ n10_ n11_ n12_ n13_ n14_ n15_ n16_ n17_ n18_ n19_ n20_ n21_ n22_ n23_ n24_ n25_; clear hb hbox hg; obtain ⟨Ao33, co33, eo33⟩ := Kd.R_slice HO4689.out; subst eo33; have hnb34 := NB4693_4676.out; have hnc34 := NB4676_4693.out; have hnb35 := NB4693_4677.out; have hnc35 := NB4677_4693.out; have hnb36 := NB4693_4678.out; have hnc36 := NB4678_4693.out; have hnb37 := NB4693_4685.out; have hnc37 := NB4685_4693.out; have hnb38 := NB4693_4686.out; have hnc38 := NB4686_4693.out; have hnb39 := NB4693_4694.out; have hnc39 := NB4694_4693.out; have hcz40_0 : w32.cell? ⟨gb4693, 0, none⟩ = some (.slice none 0 0) := (blk_cell BK4693.out 0).trans rfl; have hfz40_0 := blk_frozen BK4693.out 0; obtain ⟨Ao41, co41, eo41⟩ := Kd.R_slice HO4692.out; subst eo41; have hnb42 := NB4694_4676.out; have hnc42 := NB4676_4694.out; have hnb43 := NB4694_4677.out; have hnc43 := NB4677_4694.out; have hnb44 := NB4694_4678.out; have hnc44 := NB4678_4694.out; have hnb45 := NB4694_4685.out; have hnc45 := NB4685_4694.out; have hnb46 := NB4694_4686.out; have hnc46 := NB4686_4694.out; have hcz47_0 : w32.cell? ⟨gb4694, 0, none⟩ = some (.slice none 0 0) := (blk_cell BK4694.out 0).trans rfl; have hfz47_0 := blk_frozen BK4694.out 0))
  have n0_ : Aside0 (Kd.R (Kd.int .i64) 3 ((w32.setCell ⟨gb4693, 0, none⟩ (.slice Ao33 t4687.length co33)).setCell ⟨gb4694, 0, none⟩ (.slice Ao41 t4690.length co41)) w.heap.size (fun k_ => some k_ ≠ (.slice Ao23 t4682.length co23 : Value).ownBlock ∧ some k_ ≠ (.slice Ao33 t4687.length co33 : Value).ownBlock ∧ some k_ ≠ (.slice Ao41 t4690.length co41 : Value).ownBlock) (.slice Ao17 t4679.length co17) t4679) := ⟨by (with_reducible repeat (first | apply Kd.R_alloc | apply Kd.R_drewN | apply Kd.R_drew)); exact Kd.R_mono (Kd.R_far (p := ⟨gb4694, 0, none⟩) (Kd.R_far (p := ⟨gb4693, 0, none⟩) (Kd.R_types (Kd.R_types HO4681.out BK4693.out (by decide)) BK4694.out (by decide)) (fun _ hk => hk.1.2) (.slice Ao33 t4687.length co33)) (fun _ hk => hk.2) (.slice Ao41 t4690.length co41)) (fun _ hk => (And.intro (hk.1.1.1.1) ((And.intro (hk.1.1.1.2) (hk.1.1.2)))))⟩
  have n1_ : Aside0 (Kd.R (Kd.int .i64) 3 ((w32.setCell ⟨gb4693, 0, none⟩ (.slice Ao33 t4687.length co33)).setCell ⟨gb4694, 0, none⟩ (.slice Ao41 t4690.length co41)) w.heap.size (fun k_ => some k_ ≠ (.slice Ao17 t4679.length co17 : Value).ownBlock ∧ some k_ ≠ (.slice Ao33 t4687.length co33 : Value).ownBlock ∧ some k_ ≠ (.slice Ao41 t4690.length co41 : Value).ownBlock) (.slice Ao23 t4682.length co23) t4682) := ⟨by (with_reducible repeat (first | apply Kd.R_alloc | apply Kd.R_drewN | apply Kd.R_drew)); exact Kd.R_mono (Kd.R_far (p := ⟨gb4694, 0, none⟩) (Kd.R_far (p := ⟨gb4693, 0, none⟩) (Kd.R_types (Kd.R_types HO4684.out BK4693.out (by decide)) BK4694.out (by decide)) (fun _ hk => hk.1.2) (.slice Ao33 t4687.length co33)) (fun _ hk => hk.2) (.slice Ao41 t4690.length co41)) (fun _ hk => (And.intro (hk.1.1.1.1) ((And.intro (hk.1.1.1.2) (hk.1.1.2)))))⟩
  have n2_ : Aside0 (Kd.R (Kd.int .i64) 3 ((w32.setCell ⟨gb4693, 0, none⟩ (.slice Ao33 t4687.length co33)).setCell ⟨gb4694, 0, none⟩ (.slice Ao41 t4690.length co41)) w.heap.size (fun k_ => some k_ ≠ (.slice Ao17 t4679.length co17 : Value).ownBlock ∧ some k_ ≠ (.slice Ao23 t4682.length co23 : Value).ownBlock ∧ some k_ ≠ (.slice Ao41 t4690.length co41 : Value).ownBlock) (.slice Ao33 t4687.length co33) t4687) := ⟨by (with_reducible repeat (first | apply Kd.R_alloc | apply Kd.R_drewN | apply Kd.R_drew)); exact Kd.R_mono (Kd.R_far (p := ⟨gb4694, 0, none⟩) (Kd.R_far (p := ⟨gb4693, 0, none⟩) (Kd.R_types (Kd.R_types HO4689.out BK4693.out (by decide)) BK4694.out (by decide)) (fun _ hk => hk.1.2) (.slice Ao33 t4687.length co33)) (fun _ hk => hk.2) (.slice Ao41 t4690.length co41)) (fun _ hk => (And.intro (hk.1.1.1.2) ((And.intro (hk.1.1.2) (hk.1.1.1.1)))))⟩
  have n3_ : Aside0 (Kd.R (Kd.int .i64) 3 ((w32.setCell ⟨gb4693, 0, none⟩ (.slice Ao33 t4687.length co33)).setCell ⟨gb4694, 0, none⟩ (.slice Ao41 t4690.length co41)) w.heap.size (fun k_ => some k_ ≠ (.slice Ao17 t4679.length co17 : Value).ownBlock ∧ some k_ ≠ (.slice Ao23 t4682.length co23 : Value).ownBlock ∧ some k_ ≠ (.slice Ao33 t4687.length co33 : Value).ownBlock) (.slice Ao41 t4690.length co41) t4690) := ⟨by (with_reducible repeat (first | apply Kd.R_alloc | apply Kd.R_drewN | apply Kd.R_drew)); exact Kd.R_mono (Kd.R_far (p := ⟨gb4694, 0, none⟩) (Kd.R_far (p := ⟨gb4693, 0, none⟩) (Kd.R_types (Kd.R_types HO4692.out BK4693.out (by decide)) BK4694.out (by decide)) (fun _ hk => hk.1.2) (.slice Ao33 t4687.length co33)) (fun _ hk => hk.2) (.slice Ao41 t4690.length co41)) (fun _ hk => (And.intro (hk.1.1.1.2) ((And.intro (hk.1.1.2) (hk.1.1.1.1)))))⟩
  have n4_ : Aside0 (((w32.setCell ⟨gb4693, 0, none⟩ (.slice Ao33 t4687.length co33)).setCell ⟨gb4694, 0, none⟩ (.slice Ao41 t4690.length co41)).heap[gb4676]? = some (.cells #[.int .i64 a0_0, .int .i64 a0_1] 57 (0, 0))) := ⟨by refine blk_far ?_ NB4676_4694.out _; refine blk_far ?_ NB4676_4693.out _; exact BK4676.out⟩
  have n5_ : Aside0 (((w32.setCell ⟨gb4693, 0, none⟩ (.slice Ao33 t4687.length co33)).setCell ⟨gb4694, 0, none⟩ (.slice Ao41 t4690.length co41)).heap[gb4677]? = some (.cells #[.int .i64 a1_0, .int .i64 a1_1] 57 (0, 0))) := ⟨by refine blk_far ?_ NB4677_4694.out _; refine blk_far ?_ NB4677_4693.out _; exact BK4677.out⟩
  have n6_ : Aside0 (((w32.setCell ⟨gb4693, 0, none⟩ (.slice Ao33 t4687.length co33)).setCell ⟨gb4694, 0, none⟩ (.slice Ao41 t4690.length co41)).heap[gb4678]? = some (.cells #[.int .i64 0, .int .i64 0] 57 (0, 0))) := ⟨by refine blk_far ?_ NB4678_4694.out _; refine blk_far ?_ NB4678_4693.out _; exact BK4678.out⟩
  have n7_ : Aside0 (((w32.setCell ⟨gb4693, 0, none⟩ (.slice Ao33 t4687.length co33)).setCell ⟨gb4694, 0, none⟩ (.slice Ao41 t4690.length co41)).heap[gb4685]? = some (.cells #[.slice Ao17 t4679.length co17] 28 (0, 0))) := ⟨by refine blk_far ?_ NB4685_4694.out _; refine blk_far ?_ NB4685_4693.out _; exact BK4685.out⟩
  have n8_ : Aside0 (((w32.setCell ⟨gb4693, 0, none⟩ (.slice Ao33 t4687.length co33)).setCell ⟨gb4694, 0, none⟩ (.slice Ao41 t4690.length co41)).heap[gb4686]? = some (.cells #[.slice Ao23 t4682.length co23] 28 (0, 0))) := ⟨by refine blk_far ?_ NB4686_4694.out _; refine blk_far ?_ NB4686_4693.out _; exact BK4686.out⟩
  have n9_ : Aside0 (((w32.setCell ⟨gb4693, 0, none⟩ (.slice Ao33 t4687.length co33)).setCell ⟨gb4694, 0, none⟩ (.slice Ao41 t4690.length co41)).heap[gb4693]? = some (.cells #[.slice Ao33 t4687.length co33] 28 (0, 0))) := ⟨by refine blk_far ?_ NB4693_4694.out _; refine blk_put (cs := #[.slice none 0 0]) ?_ 0 _ rfl; exact BK4693.out⟩
  have n10_ : Aside0 (((w32.setCell ⟨gb4693, 0, none⟩ (.slice Ao33 t4687.length co33)).setCell ⟨gb4694, 0, none⟩ (.slice Ao41 t4690.length co41)).heap[gb4694]? = some (.cells #[.slice Ao41 t4690.length co41] 28 (0, 0))) := ⟨by refine blk_put (cs := #[.slice none 0 0]) ?_ 0 _ rfl; refine blk_far ?_ NB4694_4693.out _; exact BK4694.out⟩
  have n11_ : Aside0 (Below w.heap.size w ((w32.setCell ⟨gb4693, 0, none⟩ (.slice Ao33 t4687.length co33)).setCell ⟨gb4694, 0, none⟩ (.slice Ao41 t4690.length co41))) := ⟨by repeat (first | (with_reducible first | exact HB.out | apply below_alloc | apply pw_below_drewN | apply below_drew1 | refine below_set ?_ GE4676.out | refine below_set ?_ GE4677.out | refine below_set ?_ GE4678.out | refine below_set ?_ GE4685.out | refine below_set ?_ GE4686.out | refine below_set ?_ GE4693.out | refine below_set ?_ GE4694.out) | exact HB.out)⟩
  (try clear HO4681)
  (try clear HO4684)
  (try clear HO4689)
  (try clear HO4692)
  (try clear BK4676)
  (try clear BK4677)
  (try clear BK4678)
  (try clear BK4685)
  (try clear BK4686)
  (try clear BK4693)
  (try clear BK4694)
  (try clear HB)
  generalize ((w32.setCell ⟨gb4693, 0, none⟩ (.slice Ao33 t4687.length co33)).setCell ⟨gb4694, 0, none⟩ (.slice Ao41 t4690.length co41)) = w48 at n0_ n1_ n2_ n3_ n4_ n5_ n6_ n7_ n8_ n9_ n10_ n11_ ⊢
  have HO4681 := n0_
  have HO4684 := n1_
  have HO4689 := n2_
  have HO4692 := n3_
  have BK4676 := n4_
  have BK4677 := n5_
  have BK4678 := n6_
  have BK4685 := n7_
  have BK4686 := n8_
  have BK4693 := n9_
  have BK4694 := n10_
  have HB := n11_
  clear n0_ n1_ n2_ n3_ n4_ n5_ n6_ n7_ n8_ n9_ n10_ n11_
  have n0_ := Aside0.mk (Kd.R_drew HO4681.out)
  have n1_ := Aside0.mk (Kd.R_drew HO4684.out)
  have n2_ := Aside0.mk (Kd.R_drew HO4689.out)
  have n3_ := Aside0.mk (Kd.R_drew HO4692.out)
  have n4_ := Aside0.mk (blk_drew BK4676.out)
  have n5_ := Aside0.mk (blk_drew BK4677.out)
  have n6_ := Aside0.mk (blk_drew BK4678.out)
  have n7_ := Aside0.mk (blk_drew BK4685.out)
  have n8_ := Aside0.mk (blk_drew BK4686.out)
  have n9_ := Aside0.mk (blk_drew BK4693.out)
  have n10_ := Aside0.mk (blk_drew BK4694.out)
  have n11_ := Aside0.mk (below_drew1 HB.out)
  clear HO4681 HO4684 HO4689 HO4692 BK4676 BK4677 BK4678 BK4685 BK4686 BK4693 BK4694 HB
  have HO4681 := n0_
  have HO4684 := n1_
  have HO4689 := n2_
  have HO4692 := n3_
  have BK4676 := n4_
  have BK4677 := n5_
  have BK4678 := n6_
  have BK4685 := n7_
  have BK4686 := n8_
  have BK4693 := n9_
  have BK4694 := n10_
  have HB := n11_
  clear n0_ n1_ n2_ n3_ n4_ n5_ n6_ n7_ n8_ n9_ n10_ n11_
  refine start_ (n := 11) (S := fun w' => w'.cell? ⟨gb4685, 0, none⟩ = some (.slice Ao17 t4679.length co17) ∧ w'.cell? ⟨gb4693, 0, none⟩ = some (.slice Ao33 t4687.length co33) ∧ w'.cell? ⟨gb4686, 0, none⟩ = some (.slice Ao23 t4682.length co23) ∧ w'.cell? ⟨gb4694, 0, none⟩ = some (.slice Ao41 t4690.length co41)) (ds := []) (demurrageref02_Cmp.ups 11 0) (by kernel_rfl) rfl rfl ⟨(blk_cell BK4685.out 0).trans rfl, (blk_cell BK4693.out 0).trans rfl, (blk_cell BK4686.out 0).trans rfl, (blk_cell BK4694.out 0).trans rfl⟩ (fun hHeld => ?_); refine with_tabW demurrageref02_Mul.tab3 demurrageref02_Mul.bits3 (fun HT_ HW_ => ?_)
  generalize w48.drew = w49 at HO4681 HO4684 HO4689 HO4692 BK4676 BK4677 BK4678 BK4685 BK4686 BK4693 BK4694 HB hHeld ⊢
  refine take_ (i := 0) (N := some 20) (v := ?_) (a' := ?_) (demurrageref02_Cmp.ups 11 1) rfl rfl (take_ofW HT_.out HW_.out (by kernel_rfl)) (fun _ _ _ h => h) (Or.inl ⟨by rfl, ?_⟩) hHeld ?_ ?_
  rotate_left
  · rintro w' ⟨s0, s1, s2, s3⟩
    go_simp
    with_reducible rfl
  rotate_left
  · simp only [Act.put, List.setIfInBounds_toArray, List.set_cons_zero, List.set_cons_succ, i64_w, i32_w]
    rfl
  refine take_ (i := 1) (N := some 21) (v := ?_) (a' := ?_) (demurrageref02_Cmp.ups 11 3) rfl rfl (take_ofW HT_.out HW_.out (by kernel_rfl)) (fun _ _ _ h => h) (Or.inl ⟨by rfl, ?_⟩) hHeld ?_ ?_
  rotate_left
  · rintro w' ⟨s0, s1, s2, s3⟩
    go_simp
    with_reducible rfl
  rotate_left
  · simp only [Act.put, List.setIfInBounds_toArray, List.set_cons_zero, List.set_cons_succ, i64_w, i32_w]
    rfl
  refine take_ (i := 3) (N := some 23) (v := ?_) (a' := ?_) (demurrageref02_Cmp.ups 11 11) rfl rfl (take_ofW HT_.out HW_.out (by kernel_rfl)) (fun _ _ _ h => h) (Or.inl ⟨by rfl, ?_⟩) hHeld ?_ ?_
  rotate_left
  · rintro w' ⟨s0, s1, s2, s3⟩
    go_simp
    with_reducible rfl
  rotate_left
  · simp only [Act.put, List.setIfInBounds_toArray, List.set_cons_zero, List.set_cons_succ, i64_w, i32_w]
    rfl
  refine take_ (i := 4) (N := some 24) (v := ?_) (a' := ?_) (demurrageref02_Cmp.ups 11 27) rfl rfl (take_ofW HT_.out HW_.out (by kernel_rfl)) (fun _ _ _ h => h) (Or.inl ⟨by rfl, ?_⟩) hHeld ?_ ?_
  rotate_left
  · rintro w' ⟨s0, s1, s2, s3⟩
    go_simp
    with_reducible rfl
  rotate_left
  · simp only [Act.put, List.setIfInBounds_toArray, List.set_cons_zero, List.set_cons_succ, i64_w, i32_w]
    rfl
  refine one_ (i := 2) (N := some 22) (demurrageref02_Cmp.ups 11 31) rfl rfl (one_of HT_.out (by kernel_rfl)) (by decide) (fun K hK => ?_)
  refine goes_ Try.func29 (by kernel_rfl) rfl #[.agg #[.slice Ao17 t4679.length co17], .agg #[.slice Ao33 t4687.length co33]] (by rfl) rfl rfl (by (try simp only [List.map_toArray, List.map_cons, List.map_nil]); first | done | rfl) ?_
  with_reducible refine (demurrageref01_Prod.calls k _ _ t4679 _ _ t4687 t4695 _ ?side1 ?side2 ?side3 ?side4 A5.out).mono ?_
  (case side1 => repeat (first | exact (Kd.R_reads' HO4681.out).2.2 | (with_reducible refine Kd.C_alloc ?_ _) | (with_reducible refine Kd.C_drewN ?_ _) | (with_reducible refine Kd.C_drew ?_)))
  (case side2 => exact (Kd.R_reads' HO4681.out).2.1)
  (case side3 => repeat (first | exact (Kd.R_reads' HO4689.out).2.2 | (with_reducible refine Kd.C_alloc ?_ _) | (with_reducible refine Kd.C_drewN ?_ _) | (with_reducible refine Kd.C_drew ?_)))
  (case side4 => exact (Kd.R_reads' HO4689.out).2.1)
  rintro e w50 ⟨v4696, rfl, ho0, hb⟩
  refine ⟨_, rfl, ?_⟩
  have n0_ := Aside0.mk (Kd.R_elder' HO4681.out (Kd.R_base ho0) hb)
  have n1_ := Aside0.mk (Kd.R_elder' HO4684.out (Kd.R_base ho0) hb)
  have n2_ := Aside0.mk (Kd.R_elder' HO4689.out (Kd.R_base ho0) hb)
  have n3_ := Aside0.mk (Kd.R_elder' HO4692.out (Kd.R_base ho0) hb)
  have n4_ := Aside0.mk (Kd.R_lower (Kd.R_new' (Kd.R_new' (Kd.R_new' (Kd.R_new' ho0 (Kd.R_lt HO4681.out)) (Kd.R_lt HO4684.out)) (Kd.R_lt HO4689.out)) (Kd.R_lt HO4692.out)) (below_size (by repeat (first | (with_reducible first | exact HB.out | apply below_alloc | apply pw_below_drewN | apply below_drew1 | refine below_set ?_ GE4676.out | refine below_set ?_ GE4677.out | refine below_set ?_ GE4678.out | refine below_set ?_ GE4685.out | refine below_set ?_ GE4686.out | refine below_set ?_ GE4693.out | refine below_set ?_ GE4694.out) | exact HB.out))))
  have n5_ := Aside0.mk (blk_below BK4676.out hb)
  have n6_ := Aside0.mk (blk_below BK4677.out hb)
  have n7_ := Aside0.mk (blk_below BK4678.out hb)
  have n8_ := Aside0.mk (blk_below BK4685.out hb)
  have n9_ := Aside0.mk (blk_below BK4686.out hb)
  have n10_ := Aside0.mk (blk_below BK4693.out hb)
  have n11_ := Aside0.mk (blk_below BK4694.out hb)
  have n12_ := Aside0.mk (below_step (by repeat (first | (with_reducible first | exact HB.out | apply below_alloc | apply pw_below_drewN | apply below_drew1 | refine below_set ?_ GE4676.out | refine below_set ?_ GE4677.out | refine below_set ?_ GE4678.out | refine below_set ?_ GE4685.out | refine below_set ?_ GE4686.out | refine below_set ?_ GE4693.out | refine below_set ?_ GE4694.out) | exact HB.out)) hb)
  clear HO4681 HO4684 HO4689 HO4692 BK4676 BK4677 BK4678 BK4685 BK4686 BK4693 BK4694 HB
  have HO4681 := n0_
  have HO4684 := n1_
  have HO4689 := n2_
  have HO4692 := n3_
  have HO4697 := n4_
  have BK4676 := n5_
  have BK4677 := n6_
  have BK4678 := n7_
  have BK4685 := n8_
  have BK4686 := n9_
  have BK4693 := n10_
  have BK4694 := n11_
  have HB := n12_
  clear n0_ n1_ n2_ n3_ n4_ n5_ n6_ n7_ n8_ n9_ n10_ n11_ n12_
  (try clear hb)
  (try clear hb2)
  (try clear hk)
  (try clear hi)
  (try clear ho0)
  refine hK.out _ _ ⟨(blk_cell BK4685.out 0).trans rfl, (blk_cell BK4693.out 0).trans rfl, (blk_cell BK4686.out 0).trans rfl, (blk_cell BK4694.out 0).trans rfl⟩ (fun hHeld => ?_)
  clear hK K
  refine norm_ (a' := ?_) ?_ ?_
  rotate_left
  · show Act.put _ (some 22) _ = _
    simp only [Act.put, List.setIfInBounds_toArray, List.set_cons_zero, List.set_cons_succ, i64_w, i32_w]
    rfl
  refine one_ (i := 5) (N := some 25) (demurrageref02_Cmp.ups 11 63) rfl rfl (one_of HT_.out (by kernel_rfl)) (by decide) (fun K hK => ?_)
  refine goes_ Try.func29 (by kernel_rfl) rfl #[.agg #[.slice Ao23 t4682.length co23], .agg #[.slice Ao41 t4690.length co41]] (by rfl) rfl rfl (by (try simp only [List.map_toArray, List.map_cons, List.map_nil]); first | done | rfl) ?_
  with_reducible refine (demurrageref01_Prod.calls k _ _ t4682 _ _ t4690 t4698 _ ?side1 ?side2 ?side3 ?side4 A6.out).mono ?_
  (case side1 => repeat (first | exact (Kd.R_reads' HO4684.out).2.2 | (with_reducible refine Kd.C_alloc ?_ _) | (with_reducible refine Kd.C_drewN ?_ _) | (with_reducible refine Kd.C_drew ?_)))
  (case side2 => exact (Kd.R_reads' HO4684.out).2.1)
  (case side3 => repeat (first | exact (Kd.R_reads' HO4692.out).2.2 | (with_reducible refine Kd.C_alloc ?_ _) | (with_reducible refine Kd.C_drewN ?_ _) | (with_reducible refine Kd.C_drew ?_)))
  (case side4 => exact (Kd.R_reads' HO4692.out).2.1)
  rintro e w51 ⟨v4699, rfl, ho0, hb⟩
  refine ⟨_, rfl, ?_⟩
  have n0_ := Aside0.mk (Kd.R_elder' HO4681.out (Kd.R_base ho0) hb)
  have n1_ := Aside0.mk (Kd.R_elder' HO4684.out (Kd.R_base ho0) hb)
  have n2_ := Aside0.mk (Kd.R_elder' HO4689.out (Kd.R_base ho0) hb)
  have n3_ := Aside0.mk (Kd.R_elder' HO4692.out (Kd.R_base ho0) hb)
  have n4_ := Aside0.mk (Kd.R_elder' HO4697.out (Kd.R_base ho0) hb)
  have n5_ := Aside0.mk (Kd.R_lower (Kd.R_new' (Kd.R_new' (Kd.R_new' (Kd.R_new' (Kd.R_new' ho0 (Kd.R_lt HO4681.out)) (Kd.R_lt HO4684.out)) (Kd.R_lt HO4689.out)) (Kd.R_lt HO4692.out)) (Kd.R_lt HO4697.out)) (below_size (by repeat (first | (with_reducible first | exact HB.out | apply below_alloc | apply pw_below_drewN | apply below_drew1 | refine below_set ?_ GE4676.out | refine below_set ?_ GE4677.out | refine below_set ?_ GE4678.out | refine below_set ?_ GE4685.out | refine below_set ?_ GE4686.out | refine below_set ?_ GE4693.out | refine below_set ?_ GE4694.out) | exact HB.out))))
  have n6_ := Aside0.mk (blk_below BK4676.out hb)
  have n7_ := Aside0.mk (blk_below BK4677.out hb)
  have n8_ := Aside0.mk (blk_below BK4678.out hb)
  have n9_ := Aside0.mk (blk_below BK4685.out hb)
  have n10_ := Aside0.mk (blk_below BK4686.out hb)
  have n11_ := Aside0.mk (blk_below BK4693.out hb)
  have n12_ := Aside0.mk (blk_below BK4694.out hb)
  have n13_ := Aside0.mk (below_step (by repeat (first | (with_reducible first | exact HB.out | apply below_alloc | apply pw_below_drewN | apply below_drew1 | refine below_set ?_ GE4676.out | refine below_set ?_ GE4677.out | refine below_set ?_ GE4678.out | refine below_set ?_ GE4685.out | refine below_set ?_ GE4686.out | refine below_set ?_ GE4693.out | refine below_set ?_ GE4694.out) | exact HB.out)) hb)
  clear HO4681 HO4684 HO4689 HO4692 HO4697 BK4676 BK4677 BK4678 BK4685 BK4686 BK4693 BK4694 HB
  have HO4681 := n0_
  have HO4684 := n1_
  have HO4689 := n2_
  have HO4692 := n3_
  have HO4697 := n4_
  have HO4700 := n5_
  have BK4676 := n6_
  have BK4677 := n7_
  have BK4678 := n8_
  have BK4685 := n9_
  have BK4686 := n10_
  have BK4693 := n11_
  have BK4694 := n12_
  have HB := n13_
  clear n0_ n1_ n2_ n3_ n4_ n5_ n6_ n7_ n8_ n9_ n10_ n11_ n12_ n13_
  (try clear hb)
  (try clear hb2)
  (try clear hk)
  (try clear hi)
  (try clear ho0)
  obtain ⟨Ao52, co52, eo52⟩ := Kd.R_slice HO4697.out
  (first | subst eo52 | (injection eo52 with f1_ f2_ f3_; have f4_ := f1_.symm; have f5_ := f3_.symm; clear f1_ f2_ f3_; subst f4_; subst f5_))
  obtain ⟨Ao53, co53, eo53⟩ := Kd.R_slice HO4700.out
  (first | subst eo53 | (injection eo53 with f1_ f2_ f3_; have f4_ := f1_.symm; have f5_ := f3_.symm; clear f1_ f2_ f3_; subst f4_; subst f5_))
  refine hK.out _ _ ⟨(blk_cell BK4685.out 0).trans rfl, (blk_cell BK4693.out 0).trans rfl, (blk_cell BK4686.out 0).trans rfl, (blk_cell BK4694.out 0).trans rfl⟩ (fun hHeld => ?_)
  clear hK K
  refine norm_ (a' := ?_) ?_ ?_
  rotate_left
  · show Act.put _ (some 25) _ = _
    simp only [Act.put, List.setIfInBounds_toArray, List.set_cons_zero, List.set_cons_succ, i64_w, i32_w]
    rfl
  refine one_ (i := 6) (N := some 26) (demurrageref02_Cmp.ups 11 127) rfl rfl (one_of HT_.out (by kernel_rfl)) (by decide) (fun K hK => ?_)
  refine goes_ Try.func73 (by kernel_rfl) rfl #[.agg #[.slice Ao52 t4695.length co52], .agg #[.slice Ao53 t4698.length co53]] (by rfl) rfl rfl (by (try simp only [List.map_toArray, List.map_cons, List.map_nil]); first | done | rfl) ?_
  with_reducible refine (demurrageref02_Made.calls k _ _ t4695 _ _ t4698 t4701 t4702 t4703 _ ?side1 ?side2 ?side3 ?side4 A7.out).mono ?_
  (case side1 => repeat (first | exact (Kd.R_reads' HO4697.out).2.2 | (with_reducible refine Kd.C_alloc ?_ _) | (with_reducible refine Kd.C_drewN ?_ _) | (with_reducible refine Kd.C_drew ?_)))
  (case side2 => exact (Kd.R_reads' HO4697.out).2.1)
  (case side3 => repeat (first | exact (Kd.R_reads' HO4700.out).2.2 | (with_reducible refine Kd.C_alloc ?_ _) | (with_reducible refine Kd.C_drewN ?_ _) | (with_reducible refine Kd.C_drew ?_)))
  (case side4 => exact (Kd.R_reads' HO4700.out).2.1)
  rintro e w54 ⟨rfl, hb⟩
  refine ⟨_, rfl, ?_⟩
  have n0_ := Aside0.mk (Kd.R_below HO4681.out hb)
  have n1_ := Aside0.mk (Kd.R_below HO4684.out hb)
  have n2_ := Aside0.mk (Kd.R_below HO4689.out hb)
  have n3_ := Aside0.mk (Kd.R_below HO4692.out hb)
  have n4_ := Aside0.mk (Kd.R_below HO4697.out hb)
  have n5_ := Aside0.mk (Kd.R_below HO4700.out hb)
  have n6_ := Aside0.mk (blk_below BK4676.out hb)
  have n7_ := Aside0.mk (blk_below BK4677.out hb)
  have n8_ := Aside0.mk (blk_below BK4678.out hb)
  have n9_ := Aside0.mk (blk_below BK4685.out hb)
  have n10_ := Aside0.mk (blk_below BK4686.out hb)
  have n11_ := Aside0.mk (blk_below BK4693.out hb)
  have n12_ := Aside0.mk (blk_below BK4694.out hb)
  have n13_ := Aside0.mk (below_step (by repeat (first | (with_reducible first | exact HB.out | apply below_alloc | apply pw_below_drewN | apply below_drew1 | refine below_set ?_ GE4676.out | refine below_set ?_ GE4677.out | refine below_set ?_ GE4678.out | refine below_set ?_ GE4685.out | refine below_set ?_ GE4686.out | refine below_set ?_ GE4693.out | refine below_set ?_ GE4694.out) | exact HB.out)) hb)
  clear HO4681 HO4684 HO4689 HO4692 HO4697 HO4700 BK4676 BK4677 BK4678 BK4685 BK4686 BK4693 BK4694 HB
  have HO4681 := n0_
  have HO4684 := n1_
  have HO4689 := n2_
  have HO4692 := n3_
  have HO4697 := n4_
  have HO4700 := n5_
  have BK4676 := n6_
  have BK4677 := n7_
  have BK4678 := n8_
  have BK4685 := n9_
  have BK4686 := n10_
  have BK4693 := n11_
  have BK4694 := n12_
  have HB := n13_
  clear n0_ n1_ n2_ n3_ n4_ n5_ n6_ n7_ n8_ n9_ n10_ n11_ n12_ n13_
  (try clear hb)
  (try clear hb2)
  (try clear hk)
  (try clear hi)
  refine hK.out _ _ ⟨(blk_cell BK4685.out 0).trans rfl, (blk_cell BK4693.out 0).trans rfl, (blk_cell BK4686.out 0).trans rfl, (blk_cell BK4694.out 0).trans rfl⟩ (fun hHeld => ?_)
  clear hK K
  refine norm_ (a' := ?_) ?_ ?_
  rotate_left
  · show Act.put _ (some 26) _ = _
    simp only [Act.put, List.setIfInBounds_toArray, List.set_cons_zero, List.set_cons_succ, i64_w, i32_w]
    rfl
  refine pure_ (i := 7) (N := some 27) (v := ?_) (a' := ?_) (demurrageref02_Cmp.ups 11 255) rfl rfl (any_of HT_.out (by kernel_rfl)) (fun _ _ _ h => h) (Or.inl ⟨by rfl, ?_⟩) ?_ ?_
  rotate_left
  · intro w'
    go_simp
    with_reducible rfl
  rotate_left
  · simp only [Act.put, List.setIfInBounds_toArray, List.set_cons_zero, List.set_cons_succ, i64_w, i32_w]
    rfl
  refine pure_ (i := 8) (N := some 28) (v := ?_) (a' := ?_) (demurrageref02_Cmp.ups 11 511) rfl rfl (any_of HT_.out (by kernel_rfl)) (fun _ _ _ h => h) (Or.inl ⟨by rfl, ?_⟩) ?_ ?_
  rotate_left
  · intro w'
    go_simp
    with_reducible rfl
  rotate_left
  · simp only [Act.put, List.setIfInBounds_toArray, List.set_cons_zero, List.set_cons_succ, i64_w, i32_w]
    rfl
  refine one_ (i := 9) (N := none) (demurrageref02_Cmp.ups 11 1023) rfl rfl (one_of HT_.out (by kernel_rfl)) (by decide) (fun K hK => ?_)
  have hs55 : w54.cell? ⟨gb4678, 0, none⟩ = some (.int .i64 0) := (blk_cell BK4678.out 0).trans rfl
  have hfs55 := blk_frozen BK4678.out 0
  have hns55_0 := NB4676_4678.out
  have hns55_1 := NB4677_4678.out
  have hns55_3 := NB4685_4678.out
  have hns55_4 := NB4686_4678.out
  have hns55_5 := NB4693_4678.out
  have hns55_6 := NB4694_4678.out
  have hms55_0 := NB4678_4676.out
  have hms55_1 := NB4678_4677.out
  have hms55_3 := NB4678_4685.out
  have hms55_4 := NB4678_4686.out
  have hms55_5 := NB4678_4693.out
  have hms55_6 := NB4678_4694.out
  have hs56 : w54.cell? ⟨gb4678, 1, none⟩ = some (.int .i64 0) := (blk_cell BK4678.out 1).trans rfl
  have hfs56 := blk_frozen BK4678.out 1
  have hns56_0 := NB4676_4678.out
  have hns56_1 := NB4677_4678.out
  have hns56_3 := NB4685_4678.out
  have hns56_4 := NB4686_4678.out
  have hns56_5 := NB4693_4678.out
  have hns56_6 := NB4694_4678.out
  have hms56_0 := NB4678_4676.out
  have hms56_1 := NB4678_4677.out
  have hms56_3 := NB4678_4685.out
  have hms56_4 := NB4678_4686.out
  have hms56_5 := NB4678_4693.out
  have hms56_6 := NB4678_4694.out
  refine skip_ (w1 := ?_) (by rfl) rfl ?_ ?_
  rotate_left
  · go_simp
    rfl
  refine hK.out _ _ ⟨((cell_far (p := ⟨gb4678, _, none⟩) NB4685_4678.out _).trans (((cell_far (p := ⟨gb4678, _, none⟩) NB4685_4678.out _).trans (hHeld.1)))), ((cell_far (p := ⟨gb4678, _, none⟩) NB4693_4678.out _).trans (((cell_far (p := ⟨gb4678, _, none⟩) NB4693_4678.out _).trans (hHeld.2.1)))), ((cell_far (p := ⟨gb4678, _, none⟩) NB4686_4678.out _).trans (((cell_far (p := ⟨gb4678, _, none⟩) NB4686_4678.out _).trans (hHeld.2.2.1)))), ((cell_far (p := ⟨gb4678, _, none⟩) NB4694_4678.out _).trans (((cell_far (p := ⟨gb4678, _, none⟩) NB4694_4678.out _).trans (hHeld.2.2.2))))⟩ (fun hHeld => ?_)
  clear hK K
  refine pure_ (i := 10) (N := some 5) (v := ?_) (a' := ?_) (demurrageref02_Cmp.ups 11 2047) rfl rfl (any_of HT_.out (by kernel_rfl)) (fun _ _ _ h => h) (Or.inl ⟨by rfl, ?_⟩) ?_ ?_
  rotate_left
  · intro w'
    go_simp
    with_reducible rfl
  rotate_left
  · simp only [Act.put, List.setIfInBounds_toArray, List.set_cons_zero, List.set_cons_succ, i64_w, i32_w]
    rfl
  refine done_ (done_of HT_.out (by kernel_rfl)) ?_
  try go_wp2
  refine bodyPost_ret (results_ct rfl _ _ gb4678 57 #[.int .i64 t4701, .int .i64 t4702] (0, 0) _ rfl (by refine blk_put (cs := #[.int .i64 t4701, .int .i64 0]) ?_ 1 _ rfl; refine blk_put (cs := #[.int .i64 0, .int .i64 0]) ?_ 0 _ rfl; exact BK4678.out) Try.underlying57 rfl (by kernel_rfl)) rfl ?_
  exact ⟨by rfl, by repeat (first | (with_reducible first | exact HB.out | apply below_alloc | apply pw_below_drewN | apply below_drew1 | refine below_set ?_ GE4676.out | refine below_set ?_ GE4677.out | refine below_set ?_ GE4678.out | refine below_set ?_ GE4685.out | refine below_set ?_ GE4686.out | refine below_set ?_ GE4693.out | refine below_set ?_ GE4694.out) | exact HB.out)⟩

def demurrageref02_Cmp.f (k : Nat) (a0_0 : Int) (a0_1 : Int) (a1_0 : Int) (a1_1 : Int) : Option (Int) := (demurrageref02_big.f k a0_0 a0_1).bind fun bt4706 => ((demurrageref02_big.f k a1_0 a1_1).bind fun bt4714 => ((demurrageref01_Prod.f k bt4706.1 bt4714.2).bind fun t4722 => ((demurrageref01_Prod.f k bt4714.1 bt4706.2).bind fun t4725 => ((demurrageref01_Cmp.f k t4722 t4725).bind fun t4728 => (some t4728)))))
def demurrageref02_Cmp.T3 : Bool × List (List Nat × List Nat) := (true, [([], []), ([], []), ([0, 1], [0, 1]), ([], []), ([], []), ([3, 4, 2], [3, 4]), ([2, 5, 5], [2, 5]), ([6, 6, 0, 1, 2, 3, 4, 5, 6], [6])])
def demurrageref02_Cmp.B3 : List Nat := [0, 0, 3, 0, 0, 31, 63, 127]
theorem demurrageref02_Cmp.tab3 : rtab .any (opsOf Try.f51 3) = demurrageref02_Cmp.T3 := by kernel_rfl
theorem demurrageref02_Cmp.bits3 : waitsOk demurrageref02_Cmp.T3.2 demurrageref02_Cmp.B3 = true := by kernel_rfl
set_option maxHeartbeats 8000000 in
set_option maxRecDepth 100000 in
theorem demurrageref02_Cmp.calls (k : Nat) (a0_0 : Int) (a0_1 : Int) (a1_0 : Int) (a1_1 : Int) (r : Int) (w : World) (h : demurrageref02_Cmp.f k a0_0 a0_1 a1_0 a1_1 = some r) :
    Calls Try.prog 51 #[.agg #[.int .i64 a0_0, .int .i64 a0_1], .agg #[.int .i64 a1_0, .int .i64 a1_1]] w fun e w' => e = .returned (.int .i64 r) ∧ Below w.heap.size w w' := by
  have hu57 := Try.underlying57
  have hu28 := Try.underlying28
  have HB := Aside0.mk (Below.refl w.heap.size w)
  have H : ((demurrageref02_big.f k a0_0 a0_1).bind fun bt4706 => ((demurrageref02_big.f k a1_0 a1_1).bind fun bt4714 => ((demurrageref01_Prod.f k bt4706.1 bt4714.2).bind fun t4722 => ((demurrageref01_Prod.f k bt4714.1 bt4706.2).bind fun t4725 => ((demurrageref01_Cmp.f k t4722 t4725).bind fun t4728 => (some t4728)))))) = some r := h
  clear h
  replace H := Option.bind_eq_some_iff.mp H
  obtain ⟨⟨t4706, t4709⟩, A30, H⟩ := H
  replace H : ((demurrageref02_big.f k a1_0 a1_1).bind fun bt4714 => ((demurrageref01_Prod.f k t4706 bt4714.2).bind fun t4722 => ((demurrageref01_Prod.f k bt4714.1 t4709).bind fun t4725 => ((demurrageref01_Cmp.f k t4722 t4725).bind fun t4728 => (some t4728))))) = some r := H
  have A3 := Aside0.mk A30
  clear A30
  replace H := Option.bind_eq_some_iff.mp H
  obtain ⟨⟨t4714, t4717⟩, A40, H⟩ := H
  replace H : ((demurrageref01_Prod.f k t4706 t4717).bind fun t4722 => ((demurrageref01_Prod.f k t4714 t4709).bind fun t4725 => ((demurrageref01_Cmp.f k t4722 t4725).bind fun t4728 => (some t4728)))) = some r := H
  have A4 := Aside0.mk A40
  clear A40
  replace H := Option.bind_eq_some_iff.mp H
  obtain ⟨t4722, A50, H⟩ := H
  replace H : ((demurrageref01_Prod.f k t4714 t4709).bind fun t4725 => ((demurrageref01_Cmp.f k t4722 t4725).bind fun t4728 => (some t4728))) = some r := H
  have A5 := Aside0.mk A50
  clear A50
  replace H := Option.bind_eq_some_iff.mp H
  obtain ⟨t4725, A60, H⟩ := H
  replace H : ((demurrageref01_Cmp.f k t4722 t4725).bind fun t4728 => (some t4728)) = some r := H
  have A6 := Aside0.mk A60
  clear A60
  replace H := Option.bind_eq_some_iff.mp H
  obtain ⟨t4728, A70, H⟩ := H
  replace H : (some t4728) = some r := H
  have A7 := Aside0.mk A70
  clear A70
  obtain rfl := Option.some.inj H
  go_enter Try.func51, Try.ntmps51
  try go_wp2_with (first | ((with_reducible refine gate_dst (N := 2) rfl ?_); refine box_event ?hg (N := 2) ?hd (cs := #[.int .i64 a0_0, .int .i64 a0_1]) (t := 57) ?hr ?_; (case hd => rfl); (case hg => rfl); (case hr => go_simp); intro gb4704 hg w8 hbox hb; have n0_ := Aside0.mk (below_step (by repeat (first | (with_reducible first | exact HB.out | apply below_alloc | apply pw_below_drewN | apply below_drew1) | exact HB.out)) hb); have n1_ := Aside0.mk (hbox); have n2_ := Aside0.mk ((by rw [hg]; exact (below_size (by repeat (first | (with_reducible first | exact HB.out | apply below_alloc | apply pw_below_drewN | apply below_drew1) | exact HB.out))) : w.heap.size ≤ gb4704)); have n3_ := Aside0.mk ((by rw [hg]; exact (below_size (by repeat (first | (with_reducible first | exact HB.out | apply below_alloc | apply pw_below_drewN | apply below_drew1) | exact HB.out))) : w.heap.size ≤ gb4704)); clear HB; have HB := n0_; have BK4704 := n1_; have GW4704 := n2_; have GE4704 := n3_; clear n0_ n1_ n2_ n3_; clear hb hbox hg) | ((with_reducible refine gate_dst (N := 3) rfl ?_); refine box_event ?hg (N := 3) ?hd (cs := #[.int .i64 a1_0, .int .i64 a1_1]) (t := 57) ?hr ?_; (case hd => rfl); (case hg => rfl); (case hr => go_simp); intro gb4705 hg w9 hbox hb; have n0_ := Aside0.mk (blk_below BK4704.out hb); have n1_ := Aside0.mk (below_step (by repeat (first | (with_reducible first | exact HB.out | apply below_alloc | apply pw_below_drewN | apply below_drew1 | refine below_set ?_ GE4704.out) | exact HB.out)) hb); have n2_ := Aside0.mk (hbox); have n3_ := Aside0.mk ((by rw [hg]; exact (below_size (by repeat (first | (with_reducible first | exact HB.out | apply below_alloc | apply pw_below_drewN | apply below_drew1 | refine below_set ?_ GE4704.out) | exact HB.out))) : w.heap.size ≤ gb4705)); have n4_ := Aside0.mk ((by rw [hg]; exact (below_size (by repeat (first | (with_reducible first | exact HB.out | apply below_alloc | apply pw_below_drewN | apply below_drew1 | refine below_set ?_ GE4704.out) | exact HB.out))) : w.heap.size ≤ gb4705)); have n5_ := Aside0.mk ((by rw [hg]; exact Nat.ne_of_lt (blk_lt (g := gb4704) (o := .cells #[.int .i64 a0_0, .int .i64 a0_1] 57 (0, 0)) BK4704.out) : gb4704 ≠ gb4705)); have n6_ := Aside0.mk ((by rw [hg]; exact Nat.ne_of_gt (blk_lt (g := gb4704) (o := .cells #[.int .i64 a0_0, .int .i64 a0_1] 57 (0, 0)) BK4704.out) : gb4705 ≠ gb4704)); clear BK4704 HB; have BK4704 := n0_; have HB := n1_; have BK4705 := n2_; have GW4705 := n3_; have GE4705 := n4_; have NB4704_4705 := n5_; have NB4705_4704 := n6_; clear n0_ n1_ n2_ n3_ n4_ n5_ n6_; clear hb hbox hg; have hnb10 := NB4704_4705.out; have hnc10 := NB4705_4704.out; have hcz11_0 : w9.cell? ⟨gb4704, 0, none⟩ = some (.int .i64 a0_0) := (blk_cell BK4704.out 0).trans rfl; have hcz11_1 : w9.cell? ⟨gb4704, 1, none⟩ = some (.int .i64 a0_1) := (blk_cell BK4704.out 1).trans rfl; have hfz11_0 := blk_frozen BK4704.out 0; have hfz11_1 := blk_frozen BK4704.out 1) | ((with_reducible refine gate_callee (f := 75) rfl ?_); refine goesL_ (some 11) rfl rfl Try.func75 (by kernel_rfl) rfl #[.agg #[.int .i64 a0_0, .int .i64 a0_1]] rfl (by (try simp only [List.map_toArray, List.map_cons, List.map_nil]); first | done | rfl) ?_; (with_reducible refine (demurrageref02_big.calls k a0_0 a0_1 t4706 t4709 _ A3.out).mono ?_); rintro e w12 ⟨v4707, v4710, rfl, ho0, ho1, hb⟩; refine ⟨_, rfl, ?_⟩; have n0_ := Aside0.mk (Kd.R_lower ho0 (below_size (by repeat (first | (with_reducible first | exact HB.out | apply below_alloc | apply pw_below_drewN | apply below_drew1 | refine below_set ?_ GE4704.out | refine below_set ?_ GE4705.out) | exact HB.out)))); have n1_ := Aside0.mk (Kd.R_lower ho1 (below_size (by repeat (first | (with_reducible first | exact HB.out | apply below_alloc | apply pw_below_drewN | apply below_drew1 | refine below_set ?_ GE4704.out | refine below_set ?_ GE4705.out) | exact HB.out)))); have n2_ := Aside0.mk (blk_below BK4704.out hb); have n3_ := Aside0.mk (blk_below BK4705.out hb); have n4_ := Aside0.mk (below_step (by repeat (first | (with_reducible first | exact HB.out | apply below_alloc | apply pw_below_drewN | apply below_drew1 | refine below_set ?_ GE4704.out | refine below_set ?_ GE4705.out) | exact HB.out)) hb); clear BK4704 BK4705; clear HB; have HO4708 := n0_; have HO4711 := n1_; have BK4704 := n2_; have BK4705 := n3_; have HB := n4_; clear n0_ n1_ n2_ n3_ n4_; (try clear hb); (try clear ho0); (try clear ho1)) | ((with_reducible refine gate_dst (N := 5) rfl ?_); refine box_event ?hg (N := 5) ?hd (cs := #[.slice none 0 0]) (t := 28) ?hr ?_; (case hd => rfl); (case hg => rfl); (case hr => go_simp); intro gb4712 hg w13 hbox hb; have n0_ := Aside0.mk (Kd.R_below HO4708.out hb); have n1_ := Aside0.mk (Kd.R_below HO4711.out hb); have n2_ := Aside0.mk (blk_below BK4704.out hb); have n3_ := Aside0.mk (blk_below BK4705.out hb); have n4_ := Aside0.mk (below_step (by repeat (first | (with_reducible first | exact HB.out | apply below_alloc | apply pw_below_drewN | apply below_drew1 | refine below_set ?_ GE4704.out | refine below_set ?_ GE4705.out) | exact HB.out)) hb); have n5_ := Aside0.mk (hbox); have n6_ := Aside0.mk ((by rw [hg]; exact (below_size (by repeat (first | (with_reducible first | exact HB.out | apply below_alloc | apply pw_below_drewN | apply below_drew1 | refine below_set ?_ GE4704.out | refine below_set ?_ GE4705.out) | exact HB.out))) : w.heap.size ≤ gb4712)); have n7_ := Aside0.mk ((by rw [hg]; exact (below_size (by repeat (first | (with_reducible first | exact HB.out | apply below_alloc | apply pw_below_drewN | apply below_drew1 | refine below_set ?_ GE4704.out | refine below_set ?_ GE4705.out) | exact HB.out))) : w.heap.size ≤ gb4712)); have n8_ := Aside0.mk ((by rw [hg]; exact Nat.ne_of_lt (blk_lt (g := gb4704) (o := .cells #[.int .i64 a0_0, .int .i64 a0_1] 57 (0, 0)) BK4704.out) : gb4704 ≠ gb4712)); have n9_ := Aside0.mk ((by rw [hg]; exact Nat.ne_of_gt (blk_lt (g := gb4704) (o := .cells #[.int .i64 a0_0, .int .i64 a0_1] 57 (0, 0)) BK4704.out) : gb4712 ≠ gb4704)); have n10_ := Aside0.mk ((by rw [hg]; exact Nat.ne_of_lt (blk_lt (g := gb4705) (o := .cells #[.int .i64 a1_0, .int .i64 a1_1] 57 (0, 0)) BK4705.out) : gb4705 ≠ gb4712)); have n11_ := Aside0.mk ((by rw [hg]; exact Nat.ne_of_gt (blk_lt (g := gb4705) (o := .cells #[.int .i64 a1_0, .int .i64 a1_1] 57 (0, 0)) BK4705.out) : gb4712 ≠ gb4705)); clear HO4708 HO4711 BK4704 BK4705; clear HB; have HO4708 := n0_; have HO4711 := n1_; have BK4704 := n2_; have BK4705 := n3_; have HB := n4_; have BK4712 := n5_; have GW4712 := n6_; have GE4712 := n7_; have NB4704_4712 := n8_; have NB4712_4704 := n9_; have NB4705_4712 := n10_; have NB4712_4705 := n11_; clear n0_ n1_ n2_ n3_ n4_ n5_ n6_ n7_ n8_ n9_ n10_ n11_; clear hb hbox hg) | ((with_reducible refine gate_dst (N := 6) rfl ?_); refine box_event ?hg (N := 6) ?hd (cs := #[.slice none 0 0]) (t := 28) ?hr ?_; (case hd => rfl); (case hg => rfl); (case hr => go_simp); intro gb4713 hg w14 hbox hb; have n0_ := Aside0.mk (Kd.R_below HO4708.out hb); have n1_ := Aside0.mk (Kd.R_below HO4711.out hb); have n2_ := Aside0.mk (blk_below BK4704.out hb); have n3_ := Aside0.mk (blk_below BK4705.out hb); have n4_ := Aside0.mk (blk_below BK4712.out hb); have n5_ := Aside0.mk (below_step (by repeat (first | (with_reducible first | exact HB.out | apply below_alloc | apply pw_below_drewN | apply below_drew1 | refine below_set ?_ GE4704.out | refine below_set ?_ GE4705.out | refine below_set ?_ GE4712.out) | exact HB.out)) hb); have n6_ := Aside0.mk (hbox); have n7_ := Aside0.mk ((by rw [hg]; exact (below_size (by repeat (first | (with_reducible first | exact HB.out | apply below_alloc | apply pw_below_drewN | apply below_drew1 | refine below_set ?_ GE4704.out | refine below_set ?_ GE4705.out | refine below_set ?_ GE4712.out) | exact HB.out))) : w.heap.size ≤ gb4713)); have n8_ := Aside0.mk ((by rw [hg]; exact (below_size (by repeat (first | (with_reducible first | exact HB.out | apply below_alloc | apply pw_below_drewN | apply below_drew1 | refine below_set ?_ GE4704.out | refine below_set ?_ GE4705.out | refine below_set ?_ GE4712.out) | exact HB.out))) : w.heap.size ≤ gb4713)); have n9_ := Aside0.mk ((by rw [hg]; exact Nat.ne_of_lt (blk_lt (g := gb4704) (o := .cells #[.int .i64 a0_0, .int .i64 a0_1] 57 (0, 0)) BK4704.out) : gb4704 ≠ gb4713)); have n10_ := Aside0.mk ((by rw [hg]; exact Nat.ne_of_gt (blk_lt (g := gb4704) (o := .cells #[.int .i64 a0_0, .int .i64 a0_1] 57 (0, 0)) BK4704.out) : gb4713 ≠ gb4704)); have n11_ := Aside0.mk ((by rw [hg]; exact Nat.ne_of_lt (blk_lt (g := gb4705) (o := .cells #[.int .i64 a1_0, .int .i64 a1_1] 57 (0, 0)) BK4705.out) : gb4705 ≠ gb4713)); have n12_ := Aside0.mk ((by rw [hg]; exact Nat.ne_of_gt (blk_lt (g := gb4705) (o := .cells #[.int .i64 a1_0, .int .i64 a1_1] 57 (0, 0)) BK4705.out) : gb4713 ≠ gb4705)); have n13_ := Aside0.mk ((by rw [hg]; exact Nat.ne_of_lt (blk_lt (g := gb4712) (o := .cells #[.slice none 0 0] 28 (0, 0)) BK4712.out) : gb4712 ≠ gb4713)); have n14_ := Aside0.mk ((by rw [hg]; exact Nat.ne_of_gt (blk_lt (g := gb4712) (o := .cells #[.slice none 0 0] 28 (0, 0)) BK4712.out) : gb4713 ≠ gb4712)); clear HO4708 HO4711 BK4704 BK4705; clear BK4712 HB; have HO4708 := n0_; have HO4711 := n1_; have BK4704 := n2_; have BK4705 := n3_; have BK4712 := n4_; have HB := n5_; have BK4713 := n6_; have GW4713 := n7_; have GE4713 := n8_; have NB4704_4713 := n9_; have NB4713_4704 := n10_; have NB4705_4713 := n11_; have NB4713_4705 := n12_; have NB4712_4713 := n13_; have NB4713_4712 := n14_; clear n0_ n1_ n2_ n3_ n4_ n5_ n6_ n7_ n8_ n9_ n10_ n11_ n12_ n13_ n14_; clear hb hbox hg; obtain ⟨Ao15, co15, eo15⟩ := Kd.R_slice HO4708.out; subst eo15; have hnb16 := NB4712_4704.out; have hnc16 := NB4704_4712.out; have hnb17 := NB4712_4705.out; have hnc17 := NB4705_4712.out; have hnb18 := NB4712_4713.out; have hnc18 := NB4713_4712.out; have hcz19_0 : w14.cell? ⟨gb4712, 0, none⟩ = some (.slice none 0 0) := (blk_cell BK4712.out 0).trans rfl; have hfz19_0 := blk_frozen BK4712.out 0; obtain ⟨Ao20, co20, eo20⟩ := Kd.R_slice HO4711.out; subst eo20; have hnb21 := NB4713_4704.out; have hnc21 := NB4704_4713.out; have hnb22 := NB4713_4705.out; have hnc22 := NB4705_4713.out; have hcz23_0 : w14.cell? ⟨gb4713, 0, none⟩ = some (.slice none 0 0) := (blk_cell BK4713.out 0).trans rfl; have hfz23_0 := blk_frozen BK4713.out 0; have hcz24_0 : w14.cell? ⟨gb4705, 0, none⟩ = some (.int .i64 a1_0) := (blk_cell BK4705.out 0).trans rfl; have hcz24_1 : w14.cell? ⟨gb4705, 1, none⟩ = some (.int .i64 a1_1) := (blk_cell BK4705.out 1).trans rfl; have hfz24_0 := blk_frozen BK4705.out 0; have hfz24_1 := blk_frozen BK4705.out 1) | ((with_reducible refine gate_callee (f := 75) rfl ?_); refine goesL_ (some 16) rfl rfl Try.func75 (by kernel_rfl) rfl #[.agg #[.int .i64 a1_0, .int .i64 a1_1]] rfl (by (try simp only [List.map_toArray, List.map_cons, List.map_nil]); first | done | rfl) ?_; (with_reducible refine (demurrageref02_big.calls k a1_0 a1_1 t4714 t4717 _ A4.out).mono ?_); rintro e w25 ⟨v4715, v4718, rfl, ho0, ho1, hb⟩; refine ⟨_, rfl, ?_⟩; have n0_ := Aside0.mk (Kd.R_mono (Kd.R_told (Kd.R_told (Kd.R_old (by (with_reducible repeat (first | apply Kd.R_alloc | apply Kd.R_drewN | apply Kd.R_drew)); exact (Kd.R_mono (Kd.R_mono (Kd.R_far (p := ⟨gb4713, 0, none⟩) (Kd.R_far (p := ⟨gb4712, 0, none⟩) (Kd.R_types (Kd.R_types HO4708.out BK4712.out (by decide)) BK4713.out (by decide)) (fun _ hk => hk.1.2) (.slice Ao15 t4706.length co15)) (fun _ hk => hk.2) (.slice Ao20 t4709.length co20)) (fun _ h_ => h_.1)) (fun _ h_ => h_.1))) hb) (Kd.R_base ho0)) (Kd.R_base ho1)) (fun _ h_ => h_.1)); have n1_ := Aside0.mk (Kd.R_mono (Kd.R_told (Kd.R_told (Kd.R_old (by (with_reducible repeat (first | apply Kd.R_alloc | apply Kd.R_drewN | apply Kd.R_drew)); exact (Kd.R_mono (Kd.R_mono (Kd.R_far (p := ⟨gb4713, 0, none⟩) (Kd.R_far (p := ⟨gb4712, 0, none⟩) (Kd.R_types (Kd.R_types HO4711.out BK4712.out (by decide)) BK4713.out (by decide)) (fun _ hk => hk.1.2) (.slice Ao15 t4706.length co15)) (fun _ hk => hk.2) (.slice Ao20 t4709.length co20)) (fun _ h_ => h_.1)) (fun _ h_ => h_.1))) hb) (Kd.R_base ho0)) (Kd.R_base ho1)) (fun _ h_ => h_.1)); have n2_ := Aside0.mk (Kd.R_lower (Kd.R_new' (Kd.R_new' ho0 (Kd.R_lt (by (with_reducible repeat (first | apply Kd.R_alloc | apply Kd.R_drewN | apply Kd.R_drew)); exact (Kd.R_mono (Kd.R_mono (Kd.R_far (p := ⟨gb4713, 0, none⟩) (Kd.R_far (p := ⟨gb4712, 0, none⟩) (Kd.R_types (Kd.R_types HO4708.out BK4712.out (by decide)) BK4713.out (by decide)) (fun _ hk => hk.1.2) (.slice Ao15 t4706.length co15)) (fun _ hk => hk.2) (.slice Ao20 t4709.length co20)) (fun _ h_ => h_.1)) (fun _ h_ => h_.1))))) (Kd.R_lt (by (with_reducible repeat (first | apply Kd.R_alloc | apply Kd.R_drewN | apply Kd.R_drew)); exact (Kd.R_mono (Kd.R_mono (Kd.R_far (p := ⟨gb4713, 0, none⟩) (Kd.R_far (p := ⟨gb4712, 0, none⟩) (Kd.R_types (Kd.R_types HO4711.out BK4712.out (by decide)) BK4713.out (by decide)) (fun _ hk => hk.1.2) (.slice Ao15 t4706.length co15)) (fun _ hk => hk.2) (.slice Ao20 t4709.length co20)) (fun _ h_ => h_.1)) (fun _ h_ => h_.1))))) (below_size (by repeat (first | (with_reducible first | exact HB.out | apply below_alloc | apply pw_below_drewN | apply below_drew1 | refine below_set ?_ GE4704.out | refine below_set ?_ GE4705.out | refine below_set ?_ GE4712.out | refine below_set ?_ GE4713.out) | exact HB.out)))); have n3_ := Aside0.mk (Kd.R_lower (Kd.R_new' (Kd.R_new' ho1 (Kd.R_lt (by (with_reducible repeat (first | apply Kd.R_alloc | apply Kd.R_drewN | apply Kd.R_drew)); exact (Kd.R_mono (Kd.R_mono (Kd.R_far (p := ⟨gb4713, 0, none⟩) (Kd.R_far (p := ⟨gb4712, 0, none⟩) (Kd.R_types (Kd.R_types HO4708.out BK4712.out (by decide)) BK4713.out (by decide)) (fun _ hk => hk.1.2) (.slice Ao15 t4706.length co15)) (fun _ hk => hk.2) (.slice Ao20 t4709.length co20)) (fun _ h_ => h_.1)) (fun _ h_ => h_.1))))) (Kd.R_lt (by (with_reducible repeat (first | apply Kd.R_alloc | apply Kd.R_drewN | apply Kd.R_drew)); exact (Kd.R_mono (Kd.R_mono (Kd.R_far (p := ⟨gb4713, 0, none⟩) (Kd.R_far (p := ⟨gb4712, 0, none⟩) (Kd.R_types (Kd.R_types HO4711.out BK4712.out (by decide)) BK4713.out (by decide)) (fun _ hk => hk.1.2) (.slice Ao15 t4706.length co15)) (fun _ hk => hk.2) (.slice Ao20 t4709.length co20)) (fun _ h_ => h_.1)) (fun _ h_ => h_.1))))) (below_size (by repeat (first | (with_reducible first | exact HB.out | apply below_alloc | apply pw_below_drewN | apply below_drew1 | refine below_set ?_ GE4704.out | refine below_set ?_ GE4705.out | refine below_set ?_ GE4712.out | refine below_set ?_ GE4713.out) | exact HB.out)))); have n4_ := Aside0.mk (blk_below (g := gb4704) (o := .cells #[.int .i64 a0_0, .int .i64 a0_1] 57 (0, 0)) (by refine blk_far ?_ NB4704_4713.out _; refine blk_far ?_ NB4704_4712.out _; exact BK4704.out) hb); have n5_ := Aside0.mk (blk_below (g := gb4705) (o := .cells #[.int .i64 a1_0, .int .i64 a1_1] 57 (0, 0)) (by refine blk_far ?_ NB4705_4713.out _; refine blk_far ?_ NB4705_4712.out _; exact BK4705.out) hb); have n6_ := Aside0.mk (blk_below (g := gb4712) (o := .cells #[.slice Ao15 t4706.length co15] 28 (0, 0)) (by refine blk_far ?_ NB4712_4713.out _; refine blk_put (cs := #[.slice none 0 0]) ?_ 0 _ rfl; exact BK4712.out) hb); have n7_ := Aside0.mk (blk_below (g := gb4713) (o := .cells #[.slice Ao20 t4709.length co20] 28 (0, 0)) (by refine blk_put (cs := #[.slice none 0 0]) ?_ 0 _ rfl; refine blk_far ?_ NB4713_4712.out _; exact BK4713.out) hb); have n8_ := Aside0.mk (below_step (by repeat (first | (with_reducible first | exact HB.out | apply below_alloc | apply pw_below_drewN | apply below_drew1 | refine below_set ?_ GE4704.out | refine below_set ?_ GE4705.out | refine below_set ?_ GE4712.out | refine below_set ?_ GE4713.out) | exact HB.out)) hb); clear HO4708 HO4711 BK4704 BK4705; clear BK4712 BK4713; clear HB; have HO4708 := n0_; have HO4711 := n1_; have HO4716 := n2_; have HO4719 := n3_; have BK4704 := n4_; have BK4705 := n5_; have BK4712 := n6_; have BK4713 := n7_; have HB := n8_; clear n0_ n1_ n2_ n3_ n4_ n5_ n6_ n7_ n8_; (try clear hb); (try clear ho0); (try clear ho1)) | ((with_reducible refine gate_dst (N := 7) rfl ?_); refine box_event ?hg (N := 7) ?hd (cs := #[.slice none 0 0]) (t := 28) ?hr ?_; (case hd => rfl); (case hg => rfl); (case hr => go_simp); intro gb4720 hg w26 hbox hb; have n0_ := Aside0.mk (Kd.R_below HO4708.out hb); have n1_ := Aside0.mk (Kd.R_below HO4711.out hb); have n2_ := Aside0.mk (Kd.R_below HO4716.out hb); have n3_ := Aside0.mk (Kd.R_below HO4719.out hb); have n4_ := Aside0.mk (blk_below BK4704.out hb); have n5_ := Aside0.mk (blk_below BK4705.out hb); have n6_ := Aside0.mk (blk_below BK4712.out hb); have n7_ := Aside0.mk (blk_below BK4713.out hb); have n8_ := Aside0.mk (below_step (by repeat (first | (with_reducible first | exact HB.out | apply below_alloc | apply pw_below_drewN | apply below_drew1 | refine below_set ?_ GE4704.out | refine below_set ?_ GE4705.out | refine below_set ?_ GE4712.out | refine below_set ?_ GE4713.out) | exact HB.out)) hb); have n9_ := Aside0.mk (hbox); have n10_ := Aside0.mk ((by rw [hg]; exact (below_size (by repeat (first | (with_reducible first | exact HB.out | apply below_alloc | apply pw_below_drewN | apply below_drew1 | refine below_set ?_ GE4704.out | refine below_set ?_ GE4705.out | refine below_set ?_ GE4712.out | refine below_set ?_ GE4713.out) | exact HB.out))) : w.heap.size ≤ gb4720)); have n11_ := Aside0.mk ((by rw [hg]; exact (below_size (by repeat (first | (with_reducible first | exact HB.out | apply below_alloc | apply pw_below_drewN | apply below_drew1 | refine below_set ?_ GE4704.out | refine below_set ?_ GE4705.out | refine below_set ?_ GE4712.out | refine below_set ?_ GE4713.out) | exact HB.out))) : w.heap.size ≤ gb4720)); have n12_ := Aside0.mk ((by rw [hg]; exact Nat.ne_of_lt (blk_lt (g := gb4704) (o := .cells #[.int .i64 a0_0, .int .i64 a0_1] 57 (0, 0)) BK4704.out) : gb4704 ≠ gb4720)); have n13_ := Aside0.mk ((by rw [hg]; exact Nat.ne_of_gt (blk_lt (g := gb4704) (o := .cells #[.int .i64 a0_0, .int .i64 a0_1] 57 (0, 0)) BK4704.out) : gb4720 ≠ gb4704)); have n14_ := Aside0.mk ((by rw [hg]; exact Nat.ne_of_lt (blk_lt (g := gb4705) (o := .cells #[.int .i64 a1_0, .int .i64 a1_1] 57 (0, 0)) BK4705.out) : gb4705 ≠ gb4720)); have n15_ := Aside0.mk ((by rw [hg]; exact Nat.ne_of_gt (blk_lt (g := gb4705) (o := .cells #[.int .i64 a1_0, .int .i64 a1_1] 57 (0, 0)) BK4705.out) : gb4720 ≠ gb4705)); have n16_ := Aside0.mk ((by rw [hg]; exact Nat.ne_of_lt (blk_lt (g := gb4712) (o := .cells #[.slice Ao15 t4706.length co15] 28 (0, 0)) BK4712.out) : gb4712 ≠ gb4720)); have n17_ := Aside0.mk ((by rw [hg]; exact Nat.ne_of_gt (blk_lt (g := gb4712) (o := .cells #[.slice Ao15 t4706.length co15] 28 (0, 0)) BK4712.out) : gb4720 ≠ gb4712)); have n18_ := Aside0.mk ((by rw [hg]; exact Nat.ne_of_lt (blk_lt (g := gb4713) (o := .cells #[.slice Ao20 t4709.length co20] 28 (0, 0)) BK4713.out) : gb4713 ≠ gb4720)); have n19_ := Aside0.mk ((by rw [hg]; exact Nat.ne_of_gt (blk_lt (g := gb4713) (o := .cells #[.slice Ao20 t4709.length co20] 28 (0, 0)) BK4713.out) : gb4720 ≠ gb4713)); clear HO4708 HO4711 HO4716 HO4719; clear BK4704 BK4705 BK4712 BK4713; clear HB; have HO4708 := n0_; have HO4711 := n1_; have HO4716 := n2_; have HO4719 := n3_; have BK4704 := n4_; have BK4705 := n5_; have BK4712 := n6_; have BK4713 := n7_; have HB := n8_; have BK4720 := n9_; have GW4720 := n10_; have GE4720 := n11_; have NB4704_4720 := n12_; have NB4720_4704 := n13_; have NB4705_4720 := n14_; have NB4720_4705 := n15_; have NB4712_4720 := n16_; have NB4720_4712 := n17_; have NB4713_4720 := n18_; have NB4720_4713 := n19_; clear n0_ n1_ n2_ n3_ n4_ n5_ n6_ n7_ n8_ n9_ n10_ n11_ n12_ n13_ n14_ n15_ n16_ n17_ n18_ n19_; clear hb hbox hg) | ((with_reducible refine gate_dst (N := 8) rfl ?_); refine box_event ?hg (N := 8) ?hd (cs := #[.slice none 0 0]) (t := 28) ?hr ?_; (case hd => rfl); (case hg => rfl); (case hr => go_simp); intro gb4721 hg w27 hbox hb; have n0_ := Aside0.mk (Kd.R_below HO4708.out hb); have n1_ := Aside0.mk (Kd.R_below HO4711.out hb); have n2_ := Aside0.mk (Kd.R_below HO4716.out hb); have n3_ := Aside0.mk (Kd.R_below HO4719.out hb); have n4_ := Aside0.mk (blk_below BK4704.out hb); have n5_ := Aside0.mk (blk_below BK4705.out hb); have n6_ := Aside0.mk (blk_below BK4712.out hb); have n7_ := Aside0.mk (blk_below BK4713.out hb); have n8_ := Aside0.mk (blk_below BK4720.out hb); have n9_ := Aside0.mk (below_step (by repeat (first | (with_reducible first | exact HB.out | apply below_alloc | apply pw_below_drewN | apply below_drew1 | refine below_set ?_ GE4704.out | refine below_set ?_ GE4705.out | refine below_set ?_ GE4712.out | refine below_set ?_ GE4713.out | refine below_set ?_ GE4720.out) | exact HB.out)) hb); have n10_ := Aside0.mk (hbox); have n11_ := Aside0.mk ((by rw [hg]; exact (below_size (by repeat (first | (with_reducible first | exact HB.out | apply below_alloc | apply pw_below_drewN | apply below_drew1 | refine below_set ?_ GE4704.out | refine below_set ?_ GE4705.out | refine below_set ?_ GE4712.out | refine below_set ?_ GE4713.out | refine below_set ?_ GE4720.out) | exact HB.out))) : w.heap.size ≤ gb4721)); have n12_ := Aside0.mk ((by rw [hg]; exact (below_size (by repeat (first | (with_reducible first | exact HB.out | apply below_alloc | apply pw_below_drewN | apply below_drew1 | refine below_set ?_ GE4704.out | refine below_set ?_ GE4705.out | refine below_set ?_ GE4712.out | refine below_set ?_ GE4713.out | refine below_set ?_ GE4720.out) | exact HB.out))) : w.heap.size ≤ gb4721)); have n13_ := Aside0.mk ((by rw [hg]; exact Nat.ne_of_lt (blk_lt (g := gb4704) (o := .cells #[.int .i64 a0_0, .int .i64 a0_1] 57 (0, 0)) BK4704.out) : gb4704 ≠ gb4721)); have n14_ := Aside0.mk ((by rw [hg]; exact Nat.ne_of_gt (blk_lt (g := gb4704) (o := .cells #[.int .i64 a0_0, .int .i64 a0_1] 57 (0, 0)) BK4704.out) : gb4721 ≠ gb4704)); have n15_ := Aside0.mk ((by rw [hg]; exact Nat.ne_of_lt (blk_lt (g := gb4705) (o := .cells #[.int .i64 a1_0, .int .i64 a1_1] 57 (0, 0)) BK4705.out) : gb4705 ≠ gb4721)); have n16_ := Aside0.mk ((by rw [hg]; exact Nat.ne_of_gt (blk_lt (g := gb4705) (o := .cells #[.int .i64 a1_0, .int .i64 a1_1] 57 (0, 0)) BK4705.out) : gb4721 ≠ gb4705)); have n17_ := Aside0.mk ((by rw [hg]; exact Nat.ne_of_lt (blk_lt (g := gb4712) (o := .cells #[.slice Ao15 t4706.length co15] 28 (0, 0)) BK4712.out) : gb4712 ≠ gb4721)); have n18_ := Aside0.mk ((by rw [hg]; exact Nat.ne_of_gt (blk_lt (g := gb4712) (o := .cells #[.slice Ao15 t4706.length co15] 28 (0, 0)) BK4712.out) : gb4721 ≠ gb4712)); have n19_ := Aside0.mk ((by rw [hg]; exact Nat.ne_of_lt (blk_lt (g := gb4713) (o := .cells #[.slice Ao20 t4709.length co20] 28 (0, 0)) BK4713.out) : gb4713 ≠ gb4721)); have n20_ := Aside0.mk ((by rw [hg]; exact Nat.ne_of_gt (blk_lt (g := gb4713) (o := .cells #[.slice Ao20 t4709.length co20] 28 (0, 0)) BK4713.out) : gb4721 ≠ gb4713)); have n21_ := Aside0.mk ((by rw [hg]; exact Nat.ne_of_lt (blk_lt (g := gb4720) (o := .cells #[.slice none 0 0] 28 (0, 0)) BK4720.out) : gb4720 ≠ gb4721)); have n22_ := Aside0.mk ((by rw [hg]; exact Nat.ne_of_gt (blk_lt (g := gb4720) (o := .cells #[.slice none 0 0] 28 (0, 0)) BK4720.out) : gb4721 ≠ gb4720)); clear HO4708 HO4711 HO4716 HO4719; clear BK4704 BK4705 BK4712 BK4713; clear BK4720 HB; have HO4708 := n0_; have HO4711 := n1_; have HO4716 := n2_; have HO4719 := n3_; have BK4704 := n4_; have BK4705 := n5_; have BK4712 := n6_; have BK4713 := n7_; have BK4720 := n8_; have HB := n9_; have BK4721 := n10_; have GW4721 := n11_; have GE4721 := n12_; have NB4704_4721 := n13_; have NB4721_4704 := n14_; have NB4705_4721 := n15_; have NB4721_4705 := n16_; have NB4712_4721 := n17_; have NB4721_4712 := n18_; have NB4713_4721 := n19_; have NB4721_4713 := n20_; have NB4720_4721 := n21_; have NB4721_4720 := n22_; clear n0_ n1_ n2_ n3_ n4_ n5_ n6_ n7_ n8_ n9_ n10_ n11_ n12_ n13_ n14_ n15_ n16_ n17_ n18_ n19_ n20_ n21_ n22_; clear hb hbox hg; obtain ⟨Ao28, co28, eo28⟩ := Kd.R_slice HO4716.out; subst eo28; have hnb29 := NB4720_4704.out; have hnc29 := NB4704_4720.out; have hnb30 := NB4720_4705.out; have hnc30 := NB4705_4720.out; have hnb31 := NB4720_4712.out; have hnc31 := NB4712_4720.out; have hnb32 := NB4720_4713.out; have hnc32 := NB4713_4720.out; have hnb33 := NB4720_4721.out; have hnc33 := NB4721_4720.out; have hcz34_0 : w27.cell? ⟨gb4720, 0, none⟩ = some (.slice none 0 0) := (blk_cell BK4720.out 0).trans rfl; have hfz34_0 := blk_frozen BK4720.out 0; obtain ⟨Ao35, co35, eo35⟩ := Kd.R_slice HO4719.out; subst eo35; have hnb36 := NB4721_4704.out; have hnc36 := NB4704_4721.out; have hnb37 := NB4721_4705.out; have hnc37 := NB4705_4721.out; have hnb38 := NB4721_4712.out; have hnc38 := NB4712_4721.out; have hnb39 := NB4721_4713.out; have hnc39 := NB4713_4721.out; have hcz40_0 : w27.cell? ⟨gb4721, 0, none⟩ = some (.slice none 0 0) := (blk_cell BK4721.out 0).trans rfl; have hfz40_0 := blk_frozen BK4721.out 0))
  have n0_ : Aside0 (Kd.R (Kd.int .i64) 3 ((w27.setCell ⟨gb4720, 0, none⟩ (.slice Ao28 t4714.length co28)).setCell ⟨gb4721, 0, none⟩ (.slice Ao35 t4717.length co35)) w.heap.size (fun k_ => some k_ ≠ (.slice Ao20 t4709.length co20 : Value).ownBlock ∧ some k_ ≠ (.slice Ao28 t4714.length co28 : Value).ownBlock ∧ some k_ ≠ (.slice Ao35 t4717.length co35 : Value).ownBlock) (.slice Ao15 t4706.length co15) t4706) := ⟨by (with_reducible repeat (first | apply Kd.R_alloc | apply Kd.R_drewN | apply Kd.R_drew)); exact Kd.R_mono (Kd.R_far (p := ⟨gb4721, 0, none⟩) (Kd.R_far (p := ⟨gb4720, 0, none⟩) (Kd.R_types (Kd.R_types HO4708.out BK4720.out (by decide)) BK4721.out (by decide)) (fun _ hk => hk.1.2) (.slice Ao28 t4714.length co28)) (fun _ hk => hk.2) (.slice Ao35 t4717.length co35)) (fun _ hk => (And.intro (hk.1.1.1.1) ((And.intro (hk.1.1.1.2) (hk.1.1.2)))))⟩
  have n1_ : Aside0 (Kd.R (Kd.int .i64) 3 ((w27.setCell ⟨gb4720, 0, none⟩ (.slice Ao28 t4714.length co28)).setCell ⟨gb4721, 0, none⟩ (.slice Ao35 t4717.length co35)) w.heap.size (fun k_ => some k_ ≠ (.slice Ao15 t4706.length co15 : Value).ownBlock ∧ some k_ ≠ (.slice Ao28 t4714.length co28 : Value).ownBlock ∧ some k_ ≠ (.slice Ao35 t4717.length co35 : Value).ownBlock) (.slice Ao20 t4709.length co20) t4709) := ⟨by (with_reducible repeat (first | apply Kd.R_alloc | apply Kd.R_drewN | apply Kd.R_drew)); exact Kd.R_mono (Kd.R_far (p := ⟨gb4721, 0, none⟩) (Kd.R_far (p := ⟨gb4720, 0, none⟩) (Kd.R_types (Kd.R_types HO4711.out BK4720.out (by decide)) BK4721.out (by decide)) (fun _ hk => hk.1.2) (.slice Ao28 t4714.length co28)) (fun _ hk => hk.2) (.slice Ao35 t4717.length co35)) (fun _ hk => (And.intro (hk.1.1.1.1) ((And.intro (hk.1.1.1.2) (hk.1.1.2)))))⟩
  have n2_ : Aside0 (Kd.R (Kd.int .i64) 3 ((w27.setCell ⟨gb4720, 0, none⟩ (.slice Ao28 t4714.length co28)).setCell ⟨gb4721, 0, none⟩ (.slice Ao35 t4717.length co35)) w.heap.size (fun k_ => some k_ ≠ (.slice Ao15 t4706.length co15 : Value).ownBlock ∧ some k_ ≠ (.slice Ao20 t4709.length co20 : Value).ownBlock ∧ some k_ ≠ (.slice Ao35 t4717.length co35 : Value).ownBlock) (.slice Ao28 t4714.length co28) t4714) := ⟨by (with_reducible repeat (first | apply Kd.R_alloc | apply Kd.R_drewN | apply Kd.R_drew)); exact Kd.R_mono (Kd.R_far (p := ⟨gb4721, 0, none⟩) (Kd.R_far (p := ⟨gb4720, 0, none⟩) (Kd.R_types (Kd.R_types HO4716.out BK4720.out (by decide)) BK4721.out (by decide)) (fun _ hk => hk.1.2) (.slice Ao28 t4714.length co28)) (fun _ hk => hk.2) (.slice Ao35 t4717.length co35)) (fun _ hk => (And.intro (hk.1.1.1.2) ((And.intro (hk.1.1.2) (hk.1.1.1.1)))))⟩
  have n3_ : Aside0 (Kd.R (Kd.int .i64) 3 ((w27.setCell ⟨gb4720, 0, none⟩ (.slice Ao28 t4714.length co28)).setCell ⟨gb4721, 0, none⟩ (.slice Ao35 t4717.length co35)) w.heap.size (fun k_ => some k_ ≠ (.slice Ao15 t4706.length co15 : Value).ownBlock ∧ some k_ ≠ (.slice Ao20 t4709.length co20 : Value).ownBlock ∧ some k_ ≠ (.slice Ao28 t4714.length co28 : Value).ownBlock) (.slice Ao35 t4717.length co35) t4717) := ⟨by (with_reducible repeat (first | apply Kd.R_alloc | apply Kd.R_drewN | apply Kd.R_drew)); exact Kd.R_mono (Kd.R_far (p := ⟨gb4721, 0, none⟩) (Kd.R_far (p := ⟨gb4720, 0, none⟩) (Kd.R_types (Kd.R_types HO4719.out BK4720.out (by decide)) BK4721.out (by decide)) (fun _ hk => hk.1.2) (.slice Ao28 t4714.length co28)) (fun _ hk => hk.2) (.slice Ao35 t4717.length co35)) (fun _ hk => (And.intro (hk.1.1.1.2) ((And.intro (hk.1.1.2) (hk.1.1.1.1)))))⟩
  have n4_ : Aside0 (((w27.setCell ⟨gb4720, 0, none⟩ (.slice Ao28 t4714.length co28)).setCell ⟨gb4721, 0, none⟩ (.slice Ao35 t4717.length co35)).heap[gb4704]? = some (.cells #[.int .i64 a0_0, .int .i64 a0_1] 57 (0, 0))) := ⟨by refine blk_far ?_ NB4704_4721.out _; refine blk_far ?_ NB4704_4720.out _; exact BK4704.out⟩
  have n5_ : Aside0 (((w27.setCell ⟨gb4720, 0, none⟩ (.slice Ao28 t4714.length co28)).setCell ⟨gb4721, 0, none⟩ (.slice Ao35 t4717.length co35)).heap[gb4705]? = some (.cells #[.int .i64 a1_0, .int .i64 a1_1] 57 (0, 0))) := ⟨by refine blk_far ?_ NB4705_4721.out _; refine blk_far ?_ NB4705_4720.out _; exact BK4705.out⟩
  have n6_ : Aside0 (((w27.setCell ⟨gb4720, 0, none⟩ (.slice Ao28 t4714.length co28)).setCell ⟨gb4721, 0, none⟩ (.slice Ao35 t4717.length co35)).heap[gb4712]? = some (.cells #[.slice Ao15 t4706.length co15] 28 (0, 0))) := ⟨by refine blk_far ?_ NB4712_4721.out _; refine blk_far ?_ NB4712_4720.out _; exact BK4712.out⟩
  have n7_ : Aside0 (((w27.setCell ⟨gb4720, 0, none⟩ (.slice Ao28 t4714.length co28)).setCell ⟨gb4721, 0, none⟩ (.slice Ao35 t4717.length co35)).heap[gb4713]? = some (.cells #[.slice Ao20 t4709.length co20] 28 (0, 0))) := ⟨by refine blk_far ?_ NB4713_4721.out _; refine blk_far ?_ NB4713_4720.out _; exact BK4713.out⟩
  have n8_ : Aside0 (((w27.setCell ⟨gb4720, 0, none⟩ (.slice Ao28 t4714.length co28)).setCell ⟨gb4721, 0, none⟩ (.slice Ao35 t4717.length co35)).heap[gb4720]? = some (.cells #[.slice Ao28 t4714.length co28] 28 (0, 0))) := ⟨by refine blk_far ?_ NB4720_4721.out _; refine blk_put (cs := #[.slice none 0 0]) ?_ 0 _ rfl; exact BK4720.out⟩
  have n9_ : Aside0 (((w27.setCell ⟨gb4720, 0, none⟩ (.slice Ao28 t4714.length co28)).setCell ⟨gb4721, 0, none⟩ (.slice Ao35 t4717.length co35)).heap[gb4721]? = some (.cells #[.slice Ao35 t4717.length co35] 28 (0, 0))) := ⟨by refine blk_put (cs := #[.slice none 0 0]) ?_ 0 _ rfl; refine blk_far ?_ NB4721_4720.out _; exact BK4721.out⟩
  have n10_ : Aside0 (Below w.heap.size w ((w27.setCell ⟨gb4720, 0, none⟩ (.slice Ao28 t4714.length co28)).setCell ⟨gb4721, 0, none⟩ (.slice Ao35 t4717.length co35))) := ⟨by repeat (first | (with_reducible first | exact HB.out | apply below_alloc | apply pw_below_drewN | apply below_drew1 | refine below_set ?_ GE4704.out | refine below_set ?_ GE4705.out | refine below_set ?_ GE4712.out | refine below_set ?_ GE4713.out | refine below_set ?_ GE4720.out | refine below_set ?_ GE4721.out) | exact HB.out)⟩
  (try clear HO4708)
  (try clear HO4711)
  (try clear HO4716)
  (try clear HO4719)
  (try clear BK4704)
  (try clear BK4705)
  (try clear BK4712)
  (try clear BK4713)
  (try clear BK4720)
  (try clear BK4721)
  (try clear HB)
  generalize ((w27.setCell ⟨gb4720, 0, none⟩ (.slice Ao28 t4714.length co28)).setCell ⟨gb4721, 0, none⟩ (.slice Ao35 t4717.length co35)) = w41 at n0_ n1_ n2_ n3_ n4_ n5_ n6_ n7_ n8_ n9_ n10_ ⊢
  have HO4708 := n0_
  have HO4711 := n1_
  have HO4716 := n2_
  have HO4719 := n3_
  have BK4704 := n4_
  have BK4705 := n5_
  have BK4712 := n6_
  have BK4713 := n7_
  have BK4720 := n8_
  have BK4721 := n9_
  have HB := n10_
  clear n0_ n1_ n2_ n3_ n4_ n5_ n6_ n7_ n8_ n9_ n10_
  have n0_ := Aside0.mk (Kd.R_drew HO4708.out)
  have n1_ := Aside0.mk (Kd.R_drew HO4711.out)
  have n2_ := Aside0.mk (Kd.R_drew HO4716.out)
  have n3_ := Aside0.mk (Kd.R_drew HO4719.out)
  have n4_ := Aside0.mk (blk_drew BK4704.out)
  have n5_ := Aside0.mk (blk_drew BK4705.out)
  have n6_ := Aside0.mk (blk_drew BK4712.out)
  have n7_ := Aside0.mk (blk_drew BK4713.out)
  have n8_ := Aside0.mk (blk_drew BK4720.out)
  have n9_ := Aside0.mk (blk_drew BK4721.out)
  have n10_ := Aside0.mk (below_drew1 HB.out)
  clear HO4708 HO4711 HO4716 HO4719 BK4704 BK4705 BK4712 BK4713 BK4720 BK4721 HB
  have HO4708 := n0_
  have HO4711 := n1_
  have HO4716 := n2_
  have HO4719 := n3_
  have BK4704 := n4_
  have BK4705 := n5_
  have BK4712 := n6_
  have BK4713 := n7_
  have BK4720 := n8_
  have BK4721 := n9_
  have HB := n10_
  clear n0_ n1_ n2_ n3_ n4_ n5_ n6_ n7_ n8_ n9_ n10_
  refine start_ (n := 8) (S := fun w' => w'.cell? ⟨gb4712, 0, none⟩ = some (.slice Ao15 t4706.length co15) ∧ w'.cell? ⟨gb4721, 0, none⟩ = some (.slice Ao35 t4717.length co35) ∧ w'.cell? ⟨gb4720, 0, none⟩ = some (.slice Ao28 t4714.length co28) ∧ w'.cell? ⟨gb4713, 0, none⟩ = some (.slice Ao20 t4709.length co20)) (ds := []) (demurrageref02_Cmp.ups 8 0) (by kernel_rfl) rfl rfl ⟨(blk_cell BK4712.out 0).trans rfl, (blk_cell BK4721.out 0).trans rfl, (blk_cell BK4720.out 0).trans rfl, (blk_cell BK4713.out 0).trans rfl⟩ (fun hHeld => ?_); refine with_tabW demurrageref02_Cmp.tab3 demurrageref02_Cmp.bits3 (fun HT_ HW_ => ?_)
  generalize w41.drew = w42 at HO4708 HO4711 HO4716 HO4719 BK4704 BK4705 BK4712 BK4713 BK4720 BK4721 HB hHeld ⊢
  refine take_ (i := 0) (N := some 19) (v := ?_) (a' := ?_) (demurrageref02_Cmp.ups 8 1) rfl rfl (take_ofW HT_.out HW_.out (by kernel_rfl)) (fun _ _ _ h => h) (Or.inl ⟨by rfl, ?_⟩) hHeld ?_ ?_
  rotate_left
  · rintro w' ⟨s0, s1, s2, s3⟩
    go_simp
    with_reducible rfl
  rotate_left
  · simp only [Act.put, List.setIfInBounds_toArray, List.set_cons_zero, List.set_cons_succ, i64_w, i32_w]
    rfl
  refine take_ (i := 1) (N := some 20) (v := ?_) (a' := ?_) (demurrageref02_Cmp.ups 8 3) rfl rfl (take_ofW HT_.out HW_.out (by kernel_rfl)) (fun _ _ _ h => h) (Or.inl ⟨by rfl, ?_⟩) hHeld ?_ ?_
  rotate_left
  · rintro w' ⟨s0, s1, s2, s3⟩
    go_simp
    with_reducible rfl
  rotate_left
  · simp only [Act.put, List.setIfInBounds_toArray, List.set_cons_zero, List.set_cons_succ, i64_w, i32_w]
    rfl
  refine take_ (i := 3) (N := some 22) (v := ?_) (a' := ?_) (demurrageref02_Cmp.ups 8 11) rfl rfl (take_ofW HT_.out HW_.out (by kernel_rfl)) (fun _ _ _ h => h) (Or.inl ⟨by rfl, ?_⟩) hHeld ?_ ?_
  rotate_left
  · rintro w' ⟨s0, s1, s2, s3⟩
    go_simp
    with_reducible rfl
  rotate_left
  · simp only [Act.put, List.setIfInBounds_toArray, List.set_cons_zero, List.set_cons_succ, i64_w, i32_w]
    rfl
  refine take_ (i := 4) (N := some 23) (v := ?_) (a' := ?_) (demurrageref02_Cmp.ups 8 27) rfl rfl (take_ofW HT_.out HW_.out (by kernel_rfl)) (fun _ _ _ h => h) (Or.inl ⟨by rfl, ?_⟩) hHeld ?_ ?_
  rotate_left
  · rintro w' ⟨s0, s1, s2, s3⟩
    go_simp
    with_reducible rfl
  rotate_left
  · simp only [Act.put, List.setIfInBounds_toArray, List.set_cons_zero, List.set_cons_succ, i64_w, i32_w]
    rfl
  refine one_ (i := 2) (N := some 21) (demurrageref02_Cmp.ups 8 31) rfl rfl (one_of HT_.out (by kernel_rfl)) (by decide) (fun K hK => ?_)
  refine goes_ Try.func29 (by kernel_rfl) rfl #[.agg #[.slice Ao15 t4706.length co15], .agg #[.slice Ao35 t4717.length co35]] (by rfl) rfl rfl (by (try simp only [List.map_toArray, List.map_cons, List.map_nil]); first | done | rfl) ?_
  with_reducible refine (demurrageref01_Prod.calls k _ _ t4706 _ _ t4717 t4722 _ ?side1 ?side2 ?side3 ?side4 A5.out).mono ?_
  (case side1 => repeat (first | exact (Kd.R_reads' HO4708.out).2.2 | (with_reducible refine Kd.C_alloc ?_ _) | (with_reducible refine Kd.C_drewN ?_ _) | (with_reducible refine Kd.C_drew ?_)))
  (case side2 => exact (Kd.R_reads' HO4708.out).2.1)
  (case side3 => repeat (first | exact (Kd.R_reads' HO4719.out).2.2 | (with_reducible refine Kd.C_alloc ?_ _) | (with_reducible refine Kd.C_drewN ?_ _) | (with_reducible refine Kd.C_drew ?_)))
  (case side4 => exact (Kd.R_reads' HO4719.out).2.1)
  rintro e w43 ⟨v4723, rfl, ho0, hb⟩
  refine ⟨_, rfl, ?_⟩
  have n0_ := Aside0.mk (Kd.R_elder' HO4708.out (Kd.R_base ho0) hb)
  have n1_ := Aside0.mk (Kd.R_elder' HO4711.out (Kd.R_base ho0) hb)
  have n2_ := Aside0.mk (Kd.R_elder' HO4716.out (Kd.R_base ho0) hb)
  have n3_ := Aside0.mk (Kd.R_elder' HO4719.out (Kd.R_base ho0) hb)
  have n4_ := Aside0.mk (Kd.R_lower (Kd.R_new' (Kd.R_new' (Kd.R_new' (Kd.R_new' ho0 (Kd.R_lt HO4708.out)) (Kd.R_lt HO4711.out)) (Kd.R_lt HO4716.out)) (Kd.R_lt HO4719.out)) (below_size (by repeat (first | (with_reducible first | exact HB.out | apply below_alloc | apply pw_below_drewN | apply below_drew1 | refine below_set ?_ GE4704.out | refine below_set ?_ GE4705.out | refine below_set ?_ GE4712.out | refine below_set ?_ GE4713.out | refine below_set ?_ GE4720.out | refine below_set ?_ GE4721.out) | exact HB.out))))
  have n5_ := Aside0.mk (blk_below BK4704.out hb)
  have n6_ := Aside0.mk (blk_below BK4705.out hb)
  have n7_ := Aside0.mk (blk_below BK4712.out hb)
  have n8_ := Aside0.mk (blk_below BK4713.out hb)
  have n9_ := Aside0.mk (blk_below BK4720.out hb)
  have n10_ := Aside0.mk (blk_below BK4721.out hb)
  have n11_ := Aside0.mk (below_step (by repeat (first | (with_reducible first | exact HB.out | apply below_alloc | apply pw_below_drewN | apply below_drew1 | refine below_set ?_ GE4704.out | refine below_set ?_ GE4705.out | refine below_set ?_ GE4712.out | refine below_set ?_ GE4713.out | refine below_set ?_ GE4720.out | refine below_set ?_ GE4721.out) | exact HB.out)) hb)
  clear HO4708 HO4711 HO4716 HO4719 BK4704 BK4705 BK4712 BK4713 BK4720 BK4721 HB
  have HO4708 := n0_
  have HO4711 := n1_
  have HO4716 := n2_
  have HO4719 := n3_
  have HO4724 := n4_
  have BK4704 := n5_
  have BK4705 := n6_
  have BK4712 := n7_
  have BK4713 := n8_
  have BK4720 := n9_
  have BK4721 := n10_
  have HB := n11_
  clear n0_ n1_ n2_ n3_ n4_ n5_ n6_ n7_ n8_ n9_ n10_ n11_
  (try clear hb)
  (try clear hb2)
  (try clear hk)
  (try clear hi)
  (try clear ho0)
  refine hK.out _ _ ⟨(blk_cell BK4712.out 0).trans rfl, (blk_cell BK4721.out 0).trans rfl, (blk_cell BK4720.out 0).trans rfl, (blk_cell BK4713.out 0).trans rfl⟩ (fun hHeld => ?_)
  clear hK K
  refine norm_ (a' := ?_) ?_ ?_
  rotate_left
  · show Act.put _ (some 21) _ = _
    simp only [Act.put, List.setIfInBounds_toArray, List.set_cons_zero, List.set_cons_succ, i64_w, i32_w]
    rfl
  refine one_ (i := 5) (N := some 24) (demurrageref02_Cmp.ups 8 63) rfl rfl (one_of HT_.out (by kernel_rfl)) (by decide) (fun K hK => ?_)
  refine goes_ Try.func29 (by kernel_rfl) rfl #[.agg #[.slice Ao28 t4714.length co28], .agg #[.slice Ao20 t4709.length co20]] (by rfl) rfl rfl (by (try simp only [List.map_toArray, List.map_cons, List.map_nil]); first | done | rfl) ?_
  with_reducible refine (demurrageref01_Prod.calls k _ _ t4714 _ _ t4709 t4725 _ ?side1 ?side2 ?side3 ?side4 A6.out).mono ?_
  (case side1 => repeat (first | exact (Kd.R_reads' HO4716.out).2.2 | (with_reducible refine Kd.C_alloc ?_ _) | (with_reducible refine Kd.C_drewN ?_ _) | (with_reducible refine Kd.C_drew ?_)))
  (case side2 => exact (Kd.R_reads' HO4716.out).2.1)
  (case side3 => repeat (first | exact (Kd.R_reads' HO4711.out).2.2 | (with_reducible refine Kd.C_alloc ?_ _) | (with_reducible refine Kd.C_drewN ?_ _) | (with_reducible refine Kd.C_drew ?_)))
  (case side4 => exact (Kd.R_reads' HO4711.out).2.1)
  rintro e w44 ⟨v4726, rfl, ho0, hb⟩
  refine ⟨_, rfl, ?_⟩
  have n0_ := Aside0.mk (Kd.R_elder' HO4708.out (Kd.R_base ho0) hb)
  have n1_ := Aside0.mk (Kd.R_elder' HO4711.out (Kd.R_base ho0) hb)
  have n2_ := Aside0.mk (Kd.R_elder' HO4716.out (Kd.R_base ho0) hb)
  have n3_ := Aside0.mk (Kd.R_elder' HO4719.out (Kd.R_base ho0) hb)
  have n4_ := Aside0.mk (Kd.R_elder' HO4724.out (Kd.R_base ho0) hb)
  have n5_ := Aside0.mk (Kd.R_lower (Kd.R_new' (Kd.R_new' (Kd.R_new' (Kd.R_new' (Kd.R_new' ho0 (Kd.R_lt HO4708.out)) (Kd.R_lt HO4711.out)) (Kd.R_lt HO4716.out)) (Kd.R_lt HO4719.out)) (Kd.R_lt HO4724.out)) (below_size (by repeat (first | (with_reducible first | exact HB.out | apply below_alloc | apply pw_below_drewN | apply below_drew1 | refine below_set ?_ GE4704.out | refine below_set ?_ GE4705.out | refine below_set ?_ GE4712.out | refine below_set ?_ GE4713.out | refine below_set ?_ GE4720.out | refine below_set ?_ GE4721.out) | exact HB.out))))
  have n6_ := Aside0.mk (blk_below BK4704.out hb)
  have n7_ := Aside0.mk (blk_below BK4705.out hb)
  have n8_ := Aside0.mk (blk_below BK4712.out hb)
  have n9_ := Aside0.mk (blk_below BK4713.out hb)
  have n10_ := Aside0.mk (blk_below BK4720.out hb)
  have n11_ := Aside0.mk (blk_below BK4721.out hb)
  have n12_ := Aside0.mk (below_step (by repeat (first | (with_reducible first | exact HB.out | apply below_alloc | apply pw_below_drewN | apply below_drew1 | refine below_set ?_ GE4704.out | refine below_set ?_ GE4705.out | refine below_set ?_ GE4712.out | refine below_set ?_ GE4713.out | refine below_set ?_ GE4720.out | refine below_set ?_ GE4721.out) | exact HB.out)) hb)
  clear HO4708 HO4711 HO4716 HO4719 HO4724 BK4704 BK4705 BK4712 BK4713 BK4720 BK4721 HB
  have HO4708 := n0_
  have HO4711 := n1_
  have HO4716 := n2_
  have HO4719 := n3_
  have HO4724 := n4_
  have HO4727 := n5_
  have BK4704 := n6_
  have BK4705 := n7_
  have BK4712 := n8_
  have BK4713 := n9_
  have BK4720 := n10_
  have BK4721 := n11_
  have HB := n12_
  clear n0_ n1_ n2_ n3_ n4_ n5_ n6_ n7_ n8_ n9_ n10_ n11_ n12_
  (try clear hb)
  (try clear hb2)
  (try clear hk)
  (try clear hi)
  (try clear ho0)
  obtain ⟨Ao45, co45, eo45⟩ := Kd.R_slice HO4724.out
  (first | subst eo45 | (injection eo45 with f1_ f2_ f3_; have f4_ := f1_.symm; have f5_ := f3_.symm; clear f1_ f2_ f3_; subst f4_; subst f5_))
  obtain ⟨Ao46, co46, eo46⟩ := Kd.R_slice HO4727.out
  (first | subst eo46 | (injection eo46 with f1_ f2_ f3_; have f4_ := f1_.symm; have f5_ := f3_.symm; clear f1_ f2_ f3_; subst f4_; subst f5_))
  refine hK.out _ _ ⟨(blk_cell BK4712.out 0).trans rfl, (blk_cell BK4721.out 0).trans rfl, (blk_cell BK4720.out 0).trans rfl, (blk_cell BK4713.out 0).trans rfl⟩ (fun hHeld => ?_)
  clear hK K
  refine norm_ (a' := ?_) ?_ ?_
  rotate_left
  · show Act.put _ (some 24) _ = _
    simp only [Act.put, List.setIfInBounds_toArray, List.set_cons_zero, List.set_cons_succ, i64_w, i32_w]
    rfl
  refine one_ (i := 6) (N := some 25) (demurrageref02_Cmp.ups 8 127) rfl rfl (one_of HT_.out (by kernel_rfl)) (by decide) (fun K hK => ?_)
  refine goes_ Try.func31 (by kernel_rfl) rfl #[.agg #[.slice Ao45 t4722.length co45], .agg #[.slice Ao46 t4725.length co46]] (by rfl) rfl rfl (by (try simp only [List.map_toArray, List.map_cons, List.map_nil]); first | done | rfl) ?_
  with_reducible refine (demurrageref01_Cmp.calls k _ _ t4722 _ _ t4725 t4728 _ ?side1 ?side2 ?side3 ?side4 A7.out).mono ?_
  (case side1 => repeat (first | exact (Kd.R_reads' HO4724.out).2.2 | (with_reducible refine Kd.C_alloc ?_ _) | (with_reducible refine Kd.C_drewN ?_ _) | (with_reducible refine Kd.C_drew ?_)))
  (case side2 => exact (Kd.R_reads' HO4724.out).2.1)
  (case side3 => repeat (first | exact (Kd.R_reads' HO4727.out).2.2 | (with_reducible refine Kd.C_alloc ?_ _) | (with_reducible refine Kd.C_drewN ?_ _) | (with_reducible refine Kd.C_drew ?_)))
  (case side4 => exact (Kd.R_reads' HO4727.out).2.1)
  rintro e w47 ⟨rfl, hb⟩
  refine ⟨_, rfl, ?_⟩
  have n0_ := Aside0.mk (Kd.R_below HO4708.out hb)
  have n1_ := Aside0.mk (Kd.R_below HO4711.out hb)
  have n2_ := Aside0.mk (Kd.R_below HO4716.out hb)
  have n3_ := Aside0.mk (Kd.R_below HO4719.out hb)
  have n4_ := Aside0.mk (Kd.R_below HO4724.out hb)
  have n5_ := Aside0.mk (Kd.R_below HO4727.out hb)
  have n6_ := Aside0.mk (blk_below BK4704.out hb)
  have n7_ := Aside0.mk (blk_below BK4705.out hb)
  have n8_ := Aside0.mk (blk_below BK4712.out hb)
  have n9_ := Aside0.mk (blk_below BK4713.out hb)
  have n10_ := Aside0.mk (blk_below BK4720.out hb)
  have n11_ := Aside0.mk (blk_below BK4721.out hb)
  have n12_ := Aside0.mk (below_step (by repeat (first | (with_reducible first | exact HB.out | apply below_alloc | apply pw_below_drewN | apply below_drew1 | refine below_set ?_ GE4704.out | refine below_set ?_ GE4705.out | refine below_set ?_ GE4712.out | refine below_set ?_ GE4713.out | refine below_set ?_ GE4720.out | refine below_set ?_ GE4721.out) | exact HB.out)) hb)
  clear HO4708 HO4711 HO4716 HO4719 HO4724 HO4727 BK4704 BK4705 BK4712 BK4713 BK4720 BK4721 HB
  have HO4708 := n0_
  have HO4711 := n1_
  have HO4716 := n2_
  have HO4719 := n3_
  have HO4724 := n4_
  have HO4727 := n5_
  have BK4704 := n6_
  have BK4705 := n7_
  have BK4712 := n8_
  have BK4713 := n9_
  have BK4720 := n10_
  have BK4721 := n11_
  have HB := n12_
  clear n0_ n1_ n2_ n3_ n4_ n5_ n6_ n7_ n8_ n9_ n10_ n11_ n12_
  (try clear hb)
  (try clear hb2)
  (try clear hk)
  (try clear hi)
  refine hK.out _ _ ⟨(blk_cell BK4712.out 0).trans rfl, (blk_cell BK4721.out 0).trans rfl, (blk_cell BK4720.out 0).trans rfl, (blk_cell BK4713.out 0).trans rfl⟩ (fun hHeld => ?_)
  clear hK K
  refine norm_ (a' := ?_) ?_ ?_
  rotate_left
  · show Act.put _ (some 25) _ = _
    simp only [Act.put, List.setIfInBounds_toArray, List.set_cons_zero, List.set_cons_succ, i64_w, i32_w]
    rfl
  refine pure_ (i := 7) (N := some 4) (v := ?_) (a' := ?_) (demurrageref02_Cmp.ups 8 255) rfl rfl (any_of HT_.out (by kernel_rfl)) (fun _ _ _ h => h) (Or.inl ⟨by rfl, ?_⟩) ?_ ?_
  rotate_left
  · intro w'
    go_simp
    with_reducible rfl
  rotate_left
  · simp only [Act.put, List.setIfInBounds_toArray, List.set_cons_zero, List.set_cons_succ, i64_w, i32_w]
    rfl
  refine done_ (done_of HT_.out (by kernel_rfl)) ?_
  try go_wp2
  go_ret
  exact ⟨by rfl, by repeat (first | (with_reducible first | exact HB.out | apply below_alloc | apply pw_below_drewN | apply below_drew1 | refine below_set ?_ GE4704.out | refine below_set ?_ GE4705.out | refine below_set ?_ GE4712.out | refine below_set ?_ GE4713.out | refine below_set ?_ GE4720.out | refine below_set ?_ GE4721.out) | exact HB.out)⟩

end Go.Proofs.Ytcdbmmlnmefoeaa.X
