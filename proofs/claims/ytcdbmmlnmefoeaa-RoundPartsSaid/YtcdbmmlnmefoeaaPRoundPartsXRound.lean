-- CUT by prune.py, a program of this session, to what the claim reaches (out of a text that the kit's printer, the session's programs or the session wrote)
import Derived.Test.YtcdbmmlnmefoeaaPRoundPartsX0
import Derived.Test.YtcdbmmlnmefoeaaPRoundPartsXWCmp
import Derived.Test.YtcdbmmlnmefoeaaPRoundPartsHDiv
namespace Go.Proofs.Ytcdbmmlnmefoeaa.X
open Go.RowKit Go.Proofs.YtcdbmmlnmefoeaaW.PrintWords Go.Proofs.YtcdbmmlnmefoeaaW.PrintLast Go.Proofs.YtcdbmmlnmefoeaaW.PrintMore
set_option linter.unusedVariables false
set_option linter.unusedSimpArgs false

def round_told.f (a0_0 : Int) (a0_1 : Int) : Option (Int × Int) := (wide_Of.f 4611686018427387904).bind fun bt5625 => ((wide_Cmp.f a0_0 a0_1 bt5625.1 bt5625.2).bind fun t5627 => (if t5627 > 0 then (some (0, 6)) else (some (wrap64 (a0_1), 0))))
set_option maxHeartbeats 8000000 in
set_option maxRecDepth 100000 in
theorem round_told.calls (a0_0 : Int) (a0_1 : Int) (r1 : Int) (r2 : Int) (w : World) (h : round_told.f a0_0 a0_1 = some (r1, r2)) :
    Calls Try.prog 76 #[.agg #[.int .u64 a0_0, .int .u64 a0_1]] w fun e w' => e = .returned (.tuple #[.int .i64 r1, .int .i64 r2]) ∧ Below w.heap.size w w' := by
  have hu24 := Try.underlying24
  have HB := Aside0.mk (Below.refl w.heap.size w)
  have H : ((wide_Of.f 4611686018427387904).bind fun bt5625 => ((wide_Cmp.f a0_0 a0_1 bt5625.1 bt5625.2).bind fun t5627 => (if t5627 > 0 then (some (0, 6)) else (some (wrap64 (a0_1), 0))))) = some (r1, r2) := h
  clear h
  replace H := Option.bind_eq_some_iff.mp H
  obtain ⟨⟨t5625, t5626⟩, A20, H⟩ := H
  replace H : ((wide_Cmp.f a0_0 a0_1 t5625 t5626).bind fun t5627 => (if t5627 > 0 then (some (0, 6)) else (some (wrap64 (a0_1), 0)))) = some (r1, r2) := H
  have A2 := Aside0.mk A20
  clear A20
  replace H := Option.bind_eq_some_iff.mp H
  obtain ⟨t5627, A30, H⟩ := H
  replace H : (if t5627 > 0 then (some (0, 6)) else (some (wrap64 (a0_1), 0))) = some (r1, r2) := H
  have A3 := Aside0.mk A30
  clear A30
  by_cases c4 : t5627 > 0
  · rw [if_pos c4] at H
    have c4b0 : decide (0 < t5627) = true := decide_eq_true c4
    clear c4
    simp only [Option.some.injEq, Prod.mk.injEq] at H
    obtain ⟨rfl, rfl⟩ := H
    go_enter Try.func76, Try.ntmps76
    try go_wp2_with (first | ((with_reducible refine gate_dst (N := 1) rfl ?_); refine box_event ?hg (N := 1) ?hd (cs := #[.int .u64 a0_0, .int .u64 a0_1]) (t := 24) ?hr ?_; (case hd => rfl); (case hg => rfl); (case hr => first | (go_simp; done) | (go_simp; rfl)); intro gb5624 hg w5 hbox hb; have n0_ := Aside0.mk (below_step (by repeat (first | (with_reducible first | exact HB.out | apply below_alloc | apply pw_below_drewN | apply below_drew1) | exact HB.out)) hb); have n1_ := Aside0.mk (hbox); have n2_ := Aside0.mk ((by rw [hg]; exact (below_size (by repeat (first | (with_reducible first | exact HB.out | apply below_alloc | apply pw_below_drewN | apply below_drew1) | exact HB.out))) : w.heap.size ≤ gb5624)); have n3_ := Aside0.mk ((by rw [hg]; exact (below_size (by repeat (first | (with_reducible first | exact HB.out | apply below_alloc | apply pw_below_drewN | apply below_drew1) | exact HB.out))) : w.heap.size ≤ gb5624)); clear HB; have HB := n0_; have BK5624 := n1_; have GW5624 := n2_; have GE5624 := n3_; clear n0_ n1_ n2_ n3_; clear hb hbox hg))
    have n0_ := Aside0.mk (blk_drew BK5624.out)
    have n1_ := Aside0.mk (below_drew1 HB.out)
    clear BK5624 HB
    have BK5624 := n0_
    have HB := n1_
    clear n0_ n1_
    refine start_ (n := 4) (S := fun w' => w'.cell? ⟨gb5624, 0, none⟩ = some (.int .u64 a0_0) ∧ w'.cell? ⟨gb5624, 1, none⟩ = some (.int .u64 a0_1)) (ds := []) #[false, false, false, false] (by kernel_rfl) rfl rfl ⟨(blk_cell BK5624.out 0).trans rfl, (blk_cell BK5624.out 1).trans rfl⟩ (fun hHeld => ?_)
    generalize w5.drew = w6 at BK5624 HB hHeld ⊢
    refine take_ (i := 0) (N := some 4) (v := ?_) (a' := ?_) #[true, false, false, false] rfl rfl (by kernel_rfl) (fun _ _ _ h => h) (Or.inl ⟨by rfl, ?_⟩) hHeld ?_ ?_
    rotate_left
    · rintro w' ⟨s0, s1⟩
      go_simp
      with_reducible rfl
    rotate_left
    · simp only [Act.put, List.setIfInBounds_toArray, List.set_cons_zero, List.set_cons_succ, i64_w, i32_w]
      rfl
    refine one_ (i := 1) (N := some 5) #[true, true, false, false] rfl rfl (by kernel_rfl) (by decide) (fun K hK => ?_)
    refine goes_ Try.func33 (by kernel_rfl) rfl #[.int .u64 4611686018427387904] (by rfl) rfl rfl (by (try simp only [List.map_toArray, List.map_cons, List.map_nil]); first | done | rfl) ?_
    with_reducible refine (wide_Of.calls 4611686018427387904 t5625 t5626 _ A2.out).mono ?_
    rintro e w7 ⟨rfl, hb⟩
    refine ⟨_, rfl, ?_⟩
    have n0_ := Aside0.mk (blk_below (g := gb5624) (o := .cells #[.int .u64 a0_0, .int .u64 a0_1] 24 (0, 0)) (by exact BK5624.out) hb)
    have n1_ := Aside0.mk (below_step (by repeat (first | (with_reducible first | exact HB.out | apply below_alloc | apply pw_below_drewN | apply below_drew1 | refine below_set ?_ GE5624.out) | exact HB.out)) hb)
    clear BK5624 HB
    have BK5624 := n0_
    have HB := n1_
    clear n0_ n1_
    (try clear hb)
    (try clear hb2)
    (try clear hk)
    (try clear hi)
    refine hK.out _ _ ⟨(blk_cell BK5624.out 0).trans rfl, (blk_cell BK5624.out 1).trans rfl⟩ (fun hHeld => ?_)
    clear hK K
    refine norm_ (a' := ?_) ?_ ?_
    rotate_left
    · show Act.put _ (some 5) _ = _
      simp only [Act.put, List.setIfInBounds_toArray, List.set_cons_zero, List.set_cons_succ, i64_w, i32_w]
      rfl
    refine one_ (i := 2) (N := some 6) #[true, true, true, false] rfl rfl (by kernel_rfl) (by decide) (fun K hK => ?_)
    refine goes_ Try.func35 (by kernel_rfl) rfl #[.agg #[.int .u64 a0_0, .int .u64 a0_1], .agg #[.int .u64 t5625, .int .u64 t5626]] (by rfl) rfl rfl (by (try simp only [List.map_toArray, List.map_cons, List.map_nil]); first | done | rfl) ?_
    with_reducible refine (wide_Cmp.calls a0_0 a0_1 t5625 t5626 t5627 _ A3.out).mono ?_
    rintro e w8 ⟨rfl, hb⟩
    refine ⟨_, rfl, ?_⟩
    have n0_ := Aside0.mk (blk_below (g := gb5624) (o := .cells #[.int .u64 a0_0, .int .u64 a0_1] 24 (0, 0)) (by exact BK5624.out) hb)
    have n1_ := Aside0.mk (below_step (by repeat (first | (with_reducible first | exact HB.out | apply below_alloc | apply pw_below_drewN | apply below_drew1 | refine below_set ?_ GE5624.out) | exact HB.out)) hb)
    clear BK5624 HB
    have BK5624 := n0_
    have HB := n1_
    clear n0_ n1_
    (try clear hb)
    (try clear hb2)
    (try clear hk)
    (try clear hi)
    refine hK.out _ _ ⟨(blk_cell BK5624.out 0).trans rfl, (blk_cell BK5624.out 1).trans rfl⟩ (fun hHeld => ?_)
    clear hK K
    refine norm_ (a' := ?_) ?_ ?_
    rotate_left
    · show Act.put _ (some 6) _ = _
      simp only [Act.put, List.setIfInBounds_toArray, List.set_cons_zero, List.set_cons_succ, i64_w, i32_w]
      rfl
    refine pure_ (i := 3) (N := some 7) (v := ?_) (a' := ?_) #[true, true, true, true] rfl rfl (by kernel_rfl) (fun _ _ _ h => h) (Or.inl ⟨by rfl, ?_⟩) ?_ ?_
    rotate_left
    · intro w'
      go_simp
      with_reducible rfl
    rotate_left
    · simp only [Act.put, List.setIfInBounds_toArray, List.set_cons_zero, List.set_cons_succ, i64_w, i32_w]
      rfl
    refine done_ (by kernel_rfl) ?_
    try go_wp2
    go_ret2
    exact ⟨by rfl, by repeat (first | (with_reducible first | exact HB.out | apply below_alloc | apply pw_below_drewN | apply below_drew1 | refine below_set ?_ GE5624.out) | exact HB.out)⟩
  · rw [if_neg c4] at H
    have c4b0 : decide (0 < t5627) = false := decide_eq_false c4
    clear c4
    simp only [Option.some.injEq, Prod.mk.injEq] at H
    obtain ⟨rfl, rfl⟩ := H
    go_enter Try.func76, Try.ntmps76
    try go_wp2_with (first | ((with_reducible refine gate_dst (N := 1) rfl ?_); refine box_event ?hg (N := 1) ?hd (cs := #[.int .u64 a0_0, .int .u64 a0_1]) (t := 24) ?hr ?_; (case hd => rfl); (case hg => rfl); (case hr => first | (go_simp; done) | (go_simp; rfl)); intro gb5624 hg w9 hbox hb; have n0_ := Aside0.mk (below_step (by repeat (first | (with_reducible first | exact HB.out | apply below_alloc | apply pw_below_drewN | apply below_drew1) | exact HB.out)) hb); have n1_ := Aside0.mk (hbox); have n2_ := Aside0.mk ((by rw [hg]; exact (below_size (by repeat (first | (with_reducible first | exact HB.out | apply below_alloc | apply pw_below_drewN | apply below_drew1) | exact HB.out))) : w.heap.size ≤ gb5624)); have n3_ := Aside0.mk ((by rw [hg]; exact (below_size (by repeat (first | (with_reducible first | exact HB.out | apply below_alloc | apply pw_below_drewN | apply below_drew1) | exact HB.out))) : w.heap.size ≤ gb5624)); clear HB; have HB := n0_; have BK5624 := n1_; have GW5624 := n2_; have GE5624 := n3_; clear n0_ n1_ n2_ n3_; clear hb hbox hg))
    have n0_ := Aside0.mk (blk_drew BK5624.out)
    have n1_ := Aside0.mk (below_drew1 HB.out)
    clear BK5624 HB
    have BK5624 := n0_
    have HB := n1_
    clear n0_ n1_
    refine start_ (n := 4) (S := fun w' => w'.cell? ⟨gb5624, 0, none⟩ = some (.int .u64 a0_0) ∧ w'.cell? ⟨gb5624, 1, none⟩ = some (.int .u64 a0_1)) (ds := []) #[false, false, false, false] (by kernel_rfl) rfl rfl ⟨(blk_cell BK5624.out 0).trans rfl, (blk_cell BK5624.out 1).trans rfl⟩ (fun hHeld => ?_)
    generalize w9.drew = w10 at BK5624 HB hHeld ⊢
    refine take_ (i := 0) (N := some 4) (v := ?_) (a' := ?_) #[true, false, false, false] rfl rfl (by kernel_rfl) (fun _ _ _ h => h) (Or.inl ⟨by rfl, ?_⟩) hHeld ?_ ?_
    rotate_left
    · rintro w' ⟨s0, s1⟩
      go_simp
      with_reducible rfl
    rotate_left
    · simp only [Act.put, List.setIfInBounds_toArray, List.set_cons_zero, List.set_cons_succ, i64_w, i32_w]
      rfl
    refine one_ (i := 1) (N := some 5) #[true, true, false, false] rfl rfl (by kernel_rfl) (by decide) (fun K hK => ?_)
    refine goes_ Try.func33 (by kernel_rfl) rfl #[.int .u64 4611686018427387904] (by rfl) rfl rfl (by (try simp only [List.map_toArray, List.map_cons, List.map_nil]); first | done | rfl) ?_
    with_reducible refine (wide_Of.calls 4611686018427387904 t5625 t5626 _ A2.out).mono ?_
    rintro e w11 ⟨rfl, hb⟩
    refine ⟨_, rfl, ?_⟩
    have n0_ := Aside0.mk (blk_below (g := gb5624) (o := .cells #[.int .u64 a0_0, .int .u64 a0_1] 24 (0, 0)) (by exact BK5624.out) hb)
    have n1_ := Aside0.mk (below_step (by repeat (first | (with_reducible first | exact HB.out | apply below_alloc | apply pw_below_drewN | apply below_drew1 | refine below_set ?_ GE5624.out) | exact HB.out)) hb)
    clear BK5624 HB
    have BK5624 := n0_
    have HB := n1_
    clear n0_ n1_
    (try clear hb)
    (try clear hb2)
    (try clear hk)
    (try clear hi)
    refine hK.out _ _ ⟨(blk_cell BK5624.out 0).trans rfl, (blk_cell BK5624.out 1).trans rfl⟩ (fun hHeld => ?_)
    clear hK K
    refine norm_ (a' := ?_) ?_ ?_
    rotate_left
    · show Act.put _ (some 5) _ = _
      simp only [Act.put, List.setIfInBounds_toArray, List.set_cons_zero, List.set_cons_succ, i64_w, i32_w]
      rfl
    refine one_ (i := 2) (N := some 6) #[true, true, true, false] rfl rfl (by kernel_rfl) (by decide) (fun K hK => ?_)
    refine goes_ Try.func35 (by kernel_rfl) rfl #[.agg #[.int .u64 a0_0, .int .u64 a0_1], .agg #[.int .u64 t5625, .int .u64 t5626]] (by rfl) rfl rfl (by (try simp only [List.map_toArray, List.map_cons, List.map_nil]); first | done | rfl) ?_
    with_reducible refine (wide_Cmp.calls a0_0 a0_1 t5625 t5626 t5627 _ A3.out).mono ?_
    rintro e w12 ⟨rfl, hb⟩
    refine ⟨_, rfl, ?_⟩
    have n0_ := Aside0.mk (blk_below (g := gb5624) (o := .cells #[.int .u64 a0_0, .int .u64 a0_1] 24 (0, 0)) (by exact BK5624.out) hb)
    have n1_ := Aside0.mk (below_step (by repeat (first | (with_reducible first | exact HB.out | apply below_alloc | apply pw_below_drewN | apply below_drew1 | refine below_set ?_ GE5624.out) | exact HB.out)) hb)
    clear BK5624 HB
    have BK5624 := n0_
    have HB := n1_
    clear n0_ n1_
    (try clear hb)
    (try clear hb2)
    (try clear hk)
    (try clear hi)
    refine hK.out _ _ ⟨(blk_cell BK5624.out 0).trans rfl, (blk_cell BK5624.out 1).trans rfl⟩ (fun hHeld => ?_)
    clear hK K
    refine norm_ (a' := ?_) ?_ ?_
    rotate_left
    · show Act.put _ (some 6) _ = _
      simp only [Act.put, List.setIfInBounds_toArray, List.set_cons_zero, List.set_cons_succ, i64_w, i32_w]
      rfl
    refine pure_ (i := 3) (N := some 7) (v := ?_) (a' := ?_) #[true, true, true, true] rfl rfl (by kernel_rfl) (fun _ _ _ h => h) (Or.inl ⟨by rfl, ?_⟩) ?_ ?_
    rotate_left
    · intro w'
      go_simp
      with_reducible rfl
    rotate_left
    · simp only [Act.put, List.setIfInBounds_toArray, List.set_cons_zero, List.set_cons_succ, i64_w, i32_w]
      rfl
    refine done_ (by kernel_rfl) ?_
    have hcz13_0 : w12.cell? ⟨gb5624, 0, none⟩ = some (.int .u64 a0_0) := (blk_cell BK5624.out 0).trans rfl
    have hcz13_1 : w12.cell? ⟨gb5624, 1, none⟩ = some (.int .u64 a0_1) := (blk_cell BK5624.out 1).trans rfl
    have hfz13_0 := blk_frozen BK5624.out 0
    have hfz13_1 := blk_frozen BK5624.out 1
    try go_wp2
    go_ret2
    exact ⟨by rfl, by repeat (first | (with_reducible first | exact HB.out | apply below_alloc | apply pw_below_drewN | apply below_drew1 | refine below_set ?_ GE5624.out) | exact HB.out)⟩

def round_Down.f (a0_0 : Int) (a0_1 : Int) (a1 : Int) : Option (Int × Int) := (wide_Div.f a0_0 a0_1 a1).bind fun bt5629 => (if bt5629.2.2.2 = 0 then ((round_told.f bt5629.1 bt5629.2.1).bind fun bt5634 => (some (bt5634.1, bt5634.2))) else (some (0, bt5629.2.2.2)))
set_option maxHeartbeats 8000000 in
set_option maxRecDepth 100000 in
theorem round_Down.calls (a0_0 : Int) (a0_1 : Int) (a1 : Int) (r1 : Int) (r2 : Int) (w : World) (h : round_Down.f a0_0 a0_1 a1 = some (r1, r2)) :
    Calls Try.prog 54 #[.agg #[.int .u64 a0_0, .int .u64 a0_1], .int .u64 a1] w fun e w' => e = .returned (.tuple #[.int .i64 r1, .int .i64 r2]) ∧ Below w.heap.size w w' := by
  have hu24 := Try.underlying24
  have HB := Aside0.mk (Below.refl w.heap.size w)
  have H : ((wide_Div.f a0_0 a0_1 a1).bind fun bt5629 => (if bt5629.2.2.2 = 0 then ((round_told.f bt5629.1 bt5629.2.1).bind fun bt5634 => (some (bt5634.1, bt5634.2))) else (some (0, bt5629.2.2.2)))) = some (r1, r2) := h
  clear h
  replace H := Option.bind_eq_some_iff.mp H
  obtain ⟨⟨t5629, t5630, t5631, t5632⟩, A30, H⟩ := H
  replace H : (if t5632 = 0 then ((round_told.f t5629 t5630).bind fun bt5634 => (some (bt5634.1, bt5634.2))) else (some (0, t5632))) = some (r1, r2) := H
  have A3 := Aside0.mk A30
  clear A30
  by_cases c4 : t5632 = 0
  · rw [if_pos c4] at H
    have c4b0 : (t5632 == 0) = true := beq_iff_eq.mpr c4
    have c4b1 : (t5632 != 0) = false := bne_eq_false_iff_eq.mpr c4
    clear c4
    replace H := Option.bind_eq_some_iff.mp H
    obtain ⟨⟨t5634, t5635⟩, A50, H⟩ := H
    replace H : (some (t5634, t5635)) = some (r1, r2) := H
    have A5 := Aside0.mk A50
    clear A50
    simp only [Option.some.injEq, Prod.mk.injEq] at H
    obtain ⟨rfl, rfl⟩ := H
    go_enter Try.func54, Try.ntmps54
    go_wp2_with (first | ((with_reducible refine gate_dst (N := 2) rfl ?_); refine box_event ?hg (N := 2) ?hd (cs := #[.int .u64 a0_0, .int .u64 a0_1]) (t := 24) ?hr ?_; (case hd => rfl); (case hg => rfl); (case hr => first | (go_simp; done) | (go_simp; rfl)); intro gb5628 hg w6 hbox hb; have n0_ := Aside0.mk (below_step (by repeat (first | (with_reducible first | exact HB.out | apply below_alloc | apply pw_below_drewN | apply below_drew1) | exact HB.out)) hb); have n1_ := Aside0.mk (hbox); have n2_ := Aside0.mk ((by rw [hg]; exact (below_size (by repeat (first | (with_reducible first | exact HB.out | apply below_alloc | apply pw_below_drewN | apply below_drew1) | exact HB.out))) : w.heap.size ≤ gb5628)); have n3_ := Aside0.mk ((by rw [hg]; exact (below_size (by repeat (first | (with_reducible first | exact HB.out | apply below_alloc | apply pw_below_drewN | apply below_drew1) | exact HB.out))) : w.heap.size ≤ gb5628)); clear HB; have HB := n0_; have BK5628 := n1_; have GW5628 := n2_; have GE5628 := n3_; clear n0_ n1_ n2_ n3_; clear hb hbox hg; have hcz7_0 : w6.cell? ⟨gb5628, 0, none⟩ = some (.int .u64 a0_0) := (blk_cell BK5628.out 0).trans rfl; have hcz7_1 : w6.cell? ⟨gb5628, 1, none⟩ = some (.int .u64 a0_1) := (blk_cell BK5628.out 1).trans rfl; have hfz7_0 := blk_frozen BK5628.out 0; have hfz7_1 := blk_frozen BK5628.out 1) | ((with_reducible refine gate_callee (f := 37) rfl ?_); refine goesL_ (some 12) rfl rfl Try.func37 (by kernel_rfl) rfl #[.agg #[.int .u64 a0_0, .int .u64 a0_1], .int .u64 a1] rfl (by (try simp only [List.map_toArray, List.map_cons, List.map_nil]); first | done | rfl) ?_; (with_reducible refine (wide_Div.calls a0_0 a0_1 a1 t5629 t5630 t5631 t5632 _ A3.out).mono ?_); rintro e w8 ⟨rfl, hb⟩; refine ⟨_, rfl, ?_⟩; have n0_ := Aside0.mk (blk_below (g := gb5628) (o := .cells #[.int .u64 a0_0, .int .u64 a0_1] 24 (0, 0)) (by exact BK5628.out) hb); have n1_ := Aside0.mk (below_step (by repeat (first | (with_reducible first | exact HB.out | apply below_alloc | apply pw_below_drewN | apply below_drew1 | refine below_set ?_ GE5628.out) | exact HB.out)) hb); clear BK5628 HB; have BK5628 := n0_; have HB := n1_; clear n0_ n1_; (try clear hb)) | ((with_reducible refine gate_dst (N := 6) rfl ?_); refine box_event ?hg (N := 6) ?hd (cs := #[.int .u64 0, .int .u64 0]) (t := 24) ?hr ?_; (case hd => rfl); (case hg => rfl); (case hr => first | (go_simp; done) | (go_simp; rfl)); intro gb5633 hg w9 hbox hb; have n0_ := Aside0.mk (blk_below (g := gb5628) (o := .cells #[.int .u64 a0_0, .int .u64 a0_1] 24 (0, 0)) (by exact BK5628.out) hb); have n1_ := Aside0.mk (below_step (by repeat (first | (with_reducible first | exact HB.out | apply below_alloc | apply pw_below_drewN | apply below_drew1 | refine below_set ?_ GE5628.out) | exact HB.out)) hb); have n2_ := Aside0.mk (hbox); have n3_ := Aside0.mk ((by rw [hg]; exact (below_size (by repeat (first | (with_reducible first | exact HB.out | apply below_alloc | apply pw_below_drewN | apply below_drew1 | refine below_set ?_ GE5628.out) | exact HB.out))) : w.heap.size ≤ gb5633)); have n4_ := Aside0.mk ((by rw [hg]; exact (below_size (by repeat (first | (with_reducible first | exact HB.out | apply below_alloc | apply pw_below_drewN | apply below_drew1 | refine below_set ?_ GE5628.out) | exact HB.out))) : w.heap.size ≤ gb5633)); have n5_ := Aside0.mk ((by rw [hg]; exact Nat.ne_of_lt (blk_lt (g := gb5628) (o := .cells #[.int .u64 a0_0, .int .u64 a0_1] 24 (0, 0)) (by exact BK5628.out)) : gb5628 ≠ gb5633)); have n6_ := Aside0.mk ((by rw [hg]; exact Nat.ne_of_gt (blk_lt (g := gb5628) (o := .cells #[.int .u64 a0_0, .int .u64 a0_1] 24 (0, 0)) (by exact BK5628.out)) : gb5633 ≠ gb5628)); clear BK5628 HB; have BK5628 := n0_; have HB := n1_; have BK5633 := n2_; have GW5633 := n3_; have GE5633 := n4_; have NB5628_5633 := n5_; have NB5633_5628 := n6_; clear n0_ n1_ n2_ n3_ n4_ n5_ n6_; clear hb hbox hg; have hnb10 := NB5633_5628.out; have hnc10 := NB5628_5633.out; have hcz11_0 : w9.cell? ⟨gb5633, 0, none⟩ = some (.int .u64 0) := (blk_cell BK5633.out 0).trans rfl; have hcz11_1 : w9.cell? ⟨gb5633, 1, none⟩ = some (.int .u64 0) := (blk_cell BK5633.out 1).trans rfl; have hfz11_0 := blk_frozen BK5633.out 0; have hfz11_1 := blk_frozen BK5633.out 1) | ((with_reducible refine gate_callee (f := 76) rfl ?_); refine goesL_ (some 20) rfl rfl Try.func76 (by kernel_rfl) rfl #[.agg #[.int .u64 t5629, .int .u64 t5630]] rfl (by (try simp only [List.map_toArray, List.map_cons, List.map_nil]); first | done | rfl) ?_; (with_reducible refine (round_told.calls t5629 t5630 t5634 t5635 _ A5.out).mono ?_); rintro e w12 ⟨rfl, hb⟩; refine ⟨_, rfl, ?_⟩; have n0_ := Aside0.mk (blk_below (g := gb5628) (o := .cells #[.int .u64 a0_0, .int .u64 a0_1] 24 (0, 0)) (by refine blk_far ?_ NB5628_5633.out _; refine blk_far ?_ NB5628_5633.out _; exact BK5628.out) hb); have n1_ := Aside0.mk (blk_below (g := gb5633) (o := .cells #[.int .u64 t5629, .int .u64 t5630] 24 (0, 0)) (by refine blk_put (cs := #[.int .u64 t5629, .int .u64 0]) ?_ 1 _ rfl; refine blk_put (cs := #[.int .u64 0, .int .u64 0]) ?_ 0 _ rfl; exact BK5633.out) hb); have n2_ := Aside0.mk (below_step (by repeat (first | (with_reducible first | exact HB.out | apply below_alloc | apply pw_below_drewN | apply below_drew1 | refine below_set ?_ GE5628.out | refine below_set ?_ GE5633.out) | exact HB.out)) hb); clear BK5628 BK5633 HB; have BK5628 := n0_; have BK5633 := n1_; have HB := n2_; clear n0_ n1_ n2_; (try clear hb)))
    go_ret2
    exact ⟨by rfl, by repeat (first | (with_reducible first | exact HB.out | apply below_alloc | apply pw_below_drewN | apply below_drew1 | refine below_set ?_ GE5628.out | refine below_set ?_ GE5633.out) | exact HB.out)⟩
  · rw [if_neg c4] at H
    have c4b0 : (t5632 == 0) = false := beq_eq_false_iff_ne.mpr c4
    have c4b1 : (t5632 != 0) = true := bne_iff_ne.mpr c4
    simp only [Option.some.injEq, Prod.mk.injEq] at H
    obtain ⟨rfl, rfl⟩ := H
    go_enter Try.func54, Try.ntmps54
    go_wp2_with (first | ((with_reducible refine gate_dst (N := 2) rfl ?_); refine box_event ?hg (N := 2) ?hd (cs := #[.int .u64 a0_0, .int .u64 a0_1]) (t := 24) ?hr ?_; (case hd => rfl); (case hg => rfl); (case hr => first | (go_simp; done) | (go_simp; rfl)); intro gb5628 hg w13 hbox hb; have n0_ := Aside0.mk (below_step (by repeat (first | (with_reducible first | exact HB.out | apply below_alloc | apply pw_below_drewN | apply below_drew1) | exact HB.out)) hb); have n1_ := Aside0.mk (hbox); have n2_ := Aside0.mk ((by rw [hg]; exact (below_size (by repeat (first | (with_reducible first | exact HB.out | apply below_alloc | apply pw_below_drewN | apply below_drew1) | exact HB.out))) : w.heap.size ≤ gb5628)); have n3_ := Aside0.mk ((by rw [hg]; exact (below_size (by repeat (first | (with_reducible first | exact HB.out | apply below_alloc | apply pw_below_drewN | apply below_drew1) | exact HB.out))) : w.heap.size ≤ gb5628)); clear HB; have HB := n0_; have BK5628 := n1_; have GW5628 := n2_; have GE5628 := n3_; clear n0_ n1_ n2_ n3_; clear hb hbox hg; have hcz14_0 : w13.cell? ⟨gb5628, 0, none⟩ = some (.int .u64 a0_0) := (blk_cell BK5628.out 0).trans rfl; have hcz14_1 : w13.cell? ⟨gb5628, 1, none⟩ = some (.int .u64 a0_1) := (blk_cell BK5628.out 1).trans rfl; have hfz14_0 := blk_frozen BK5628.out 0; have hfz14_1 := blk_frozen BK5628.out 1) | ((with_reducible refine gate_callee (f := 37) rfl ?_); refine goesL_ (some 12) rfl rfl Try.func37 (by kernel_rfl) rfl #[.agg #[.int .u64 a0_0, .int .u64 a0_1], .int .u64 a1] rfl (by (try simp only [List.map_toArray, List.map_cons, List.map_nil]); first | done | rfl) ?_; (with_reducible refine (wide_Div.calls a0_0 a0_1 a1 t5629 t5630 t5631 t5632 _ A3.out).mono ?_); rintro e w15 ⟨rfl, hb⟩; refine ⟨_, rfl, ?_⟩; have n0_ := Aside0.mk (blk_below (g := gb5628) (o := .cells #[.int .u64 a0_0, .int .u64 a0_1] 24 (0, 0)) (by exact BK5628.out) hb); have n1_ := Aside0.mk (below_step (by repeat (first | (with_reducible first | exact HB.out | apply below_alloc | apply pw_below_drewN | apply below_drew1 | refine below_set ?_ GE5628.out) | exact HB.out)) hb); clear BK5628 HB; have BK5628 := n0_; have HB := n1_; clear n0_ n1_; (try clear hb)) | ((with_reducible refine gate_dst (N := 6) rfl ?_); refine box_event ?hg (N := 6) ?hd (cs := #[.int .u64 0, .int .u64 0]) (t := 24) ?hr ?_; (case hd => rfl); (case hg => rfl); (case hr => first | (go_simp; done) | (go_simp; rfl)); intro gb5633 hg w16 hbox hb; have n0_ := Aside0.mk (blk_below (g := gb5628) (o := .cells #[.int .u64 a0_0, .int .u64 a0_1] 24 (0, 0)) (by exact BK5628.out) hb); have n1_ := Aside0.mk (below_step (by repeat (first | (with_reducible first | exact HB.out | apply below_alloc | apply pw_below_drewN | apply below_drew1 | refine below_set ?_ GE5628.out) | exact HB.out)) hb); have n2_ := Aside0.mk (hbox); have n3_ := Aside0.mk ((by rw [hg]; exact (below_size (by repeat (first | (with_reducible first | exact HB.out | apply below_alloc | apply pw_below_drewN | apply below_drew1 | refine below_set ?_ GE5628.out) | exact HB.out))) : w.heap.size ≤ gb5633)); have n4_ := Aside0.mk ((by rw [hg]; exact (below_size (by repeat (first | (with_reducible first | exact HB.out | apply below_alloc | apply pw_below_drewN | apply below_drew1 | refine below_set ?_ GE5628.out) | exact HB.out))) : w.heap.size ≤ gb5633)); have n5_ := Aside0.mk ((by rw [hg]; exact Nat.ne_of_lt (blk_lt (g := gb5628) (o := .cells #[.int .u64 a0_0, .int .u64 a0_1] 24 (0, 0)) (by exact BK5628.out)) : gb5628 ≠ gb5633)); have n6_ := Aside0.mk ((by rw [hg]; exact Nat.ne_of_gt (blk_lt (g := gb5628) (o := .cells #[.int .u64 a0_0, .int .u64 a0_1] 24 (0, 0)) (by exact BK5628.out)) : gb5633 ≠ gb5628)); clear BK5628 HB; have BK5628 := n0_; have HB := n1_; have BK5633 := n2_; have GW5633 := n3_; have GE5633 := n4_; have NB5628_5633 := n5_; have NB5633_5628 := n6_; clear n0_ n1_ n2_ n3_ n4_ n5_ n6_; clear hb hbox hg; have hnb17 := NB5633_5628.out; have hnc17 := NB5628_5633.out; have hcz18_0 : w16.cell? ⟨gb5633, 0, none⟩ = some (.int .u64 0) := (blk_cell BK5633.out 0).trans rfl; have hcz18_1 : w16.cell? ⟨gb5633, 1, none⟩ = some (.int .u64 0) := (blk_cell BK5633.out 1).trans rfl; have hfz18_0 := blk_frozen BK5633.out 0; have hfz18_1 := blk_frozen BK5633.out 1))
    go_ret2
    exact ⟨by rfl, by repeat (first | (with_reducible first | exact HB.out | apply below_alloc | apply pw_below_drewN | apply below_drew1 | refine below_set ?_ GE5628.out | refine below_set ?_ GE5633.out) | exact HB.out)⟩

def round_up.j0 : Nat → Int → Bool → Int → Bool → Option (Bool)
  | 0, _, _, _, _ => none
  | k + 1, x0, x7, x8, x12 => if x12 = true then (some true) else (if x0 > x8 then (some true) else (some x7))
def round_up.f (k : Nat) (a0 : Int) (a1 : Int) (a2 : Bool) : Option (Bool) := if a0 = (IntKind.u64.wrap (a1 - a0)) then (round_up.j0 k a0 false (IntKind.u64.wrap (a1 - a0)) a2) else (round_up.j0 k a0 false (IntKind.u64.wrap (a1 - a0)) false)
theorem round_up.mono_l : ∀ k, (∀ y0 y1 y2 y3, LeO (round_up.j0 k y0 y1 y2 y3) (round_up.j0 (k + 1) y0 y1 y2 y3))
  | 0 => fun _ _ _ _ r h => by simp [round_up.j0] at h
  | k + 1 => by
    have ih0 := round_up.mono_l k
    · intro y0 y1 y2 y3
      unfold round_up.j0
      repeat' first
      | (with_reducible exact ih0 _ _ _ _)
      | (with_reducible exact LeO.refl _)
      | (with_reducible exact LeO.none _)
      | (with_reducible refine LeO.ite ?_ ?_)
      | (with_reducible refine LeO.bind ?_ (fun _ => ?_))
      | exact ih0 _ _ _ _
      | exact LeO.none _
      | refine LeO.ite ?_ ?_
      | refine LeO.bind ?_ (fun _ => ?_)
theorem round_up.mono : ∀ a0 a1 a2 k, LeO (round_up.f k a0 a1 a2) (round_up.f (k + 1) a0 a1 a2) := by
  intro a0 a1 a2 k
  have ih0 := round_up.mono_l k
  unfold round_up.f
  repeat' first
      | (with_reducible exact ih0 _ _ _ _)
      | (with_reducible exact LeO.refl _)
      | (with_reducible exact LeO.none _)
      | (with_reducible refine LeO.ite ?_ ?_)
      | (with_reducible refine LeO.bind ?_ (fun _ => ?_))
      | exact ih0 _ _ _ _
      | exact LeO.none _
      | refine LeO.ite ?_ ?_
      | refine LeO.bind ?_ (fun _ => ?_)
set_option maxHeartbeats 8000000 in
set_option maxRecDepth 100000 in
theorem round_up.calls (k : Nat) (a0 : Int) (a1 : Int) (a2 : Bool) (r : Bool) (w : World) (h : round_up.f k a0 a1 a2 = some r) :
    Calls Try.prog 78 #[.int .u64 a0, .int .u64 a1, .bool a2] w fun e w' => e = .returned (.bool r) ∧ Drawn0 w w' := by
  have H : (if a0 = (IntKind.u64.wrap (a1 - a0)) then (round_up.j0 k a0 false (IntKind.u64.wrap (a1 - a0)) a2) else (round_up.j0 k a0 false (IntKind.u64.wrap (a1 - a0)) false)) = some r := h
  clear h
  have HC4 := Aside0.mk H
  clear H
  go_enter Try.func78, Try.ntmps78
  go_upto_region 3 with (fail)
  go_cut [12] (fun v12 wc => ∃ (kq : Nat) (x12_3 : Bool), v12 = .bool x12_3 ∧ Aside0 (round_up.j0 kq a0 false (IntKind.u64.wrap (a1 - a0)) x12_3 = some r) ∧ Aside0 (kq ≤ k) ∧ Drawn0 w wc)
  case first =>
    have H := HC4.out
    clear HC4
    by_cases c5 : a0 = (IntKind.u64.wrap (a1 - a0))
    · rw [if_pos c5] at H
      have c5b0 : (a0 == (IntKind.u64.wrap (a1 - a0))) = true := beq_iff_eq.mpr c5
      have c5b1 : (a0 != (IntKind.u64.wrap (a1 - a0))) = false := bne_eq_false_iff_eq.mpr c5
      clear c5
      (first | rw [c5b0] | (simp only [i64_w, i32_w]; rw [c5b0]) | rw [c5b1] | skip)
      have H' := Aside0.mk H
      clear H
      go_wp2
      go_meet
      case rel => exact ⟨_, (a2), (by first | rfl | (simp; done) | (simp [*]; done)), H', ⟨by first | omega | exact Nat.le_refl _⟩, by repeat (first | exact Drawn0.refl _ | apply Drawn0.step)⟩
    · rw [if_neg c5] at H
      have c5b0 : (a0 == (IntKind.u64.wrap (a1 - a0))) = false := beq_eq_false_iff_ne.mpr c5
      have c5b1 : (a0 != (IntKind.u64.wrap (a1 - a0))) = true := bne_iff_ne.mpr c5
      (first | rw [c5b0] | (simp only [i64_w, i32_w]; rw [c5b0]) | rw [c5b1] | skip)
      have H' := Aside0.mk H
      clear H
      go_wp2
      go_meet
      case rel => exact ⟨_, (false), (by first | rfl | (simp; done) | (simp [*]; done)), H', ⟨by first | omega | exact Nat.le_refl _⟩, by repeat (first | exact Drawn0.refl _ | apply Drawn0.step)⟩
  case rest =>
    clear HC4
    try clear p2
    try clear c5
    try clear c5b0
    try clear c5b1
    obtain ⟨kq, x12_3, rfl, HA, HJ3, ⟨mc3, rfl⟩⟩ := hcut
    cases kq with
    | zero => exact absurd HA.out (by simp [round_up.j0])
    | succ kj3 =>
      have H := HA.out
      clear HA
      simp only [round_up.j0] at H
      by_cases c6 : x12_3 = true
      · subst c6
        have H1 : (some true) = some r := by rw [if_pos rfl] at H; exact H
        clear H
        have H := H1
        clear H1
        obtain rfl := Option.some.inj H
        go_wp2
        go_ret
        exact ⟨by first | rfl | (simp; done) | (simp [*]; done), by repeat (first | exact Drawn0.refl _ | apply Drawn0.step)⟩
      · replace c6 := Bool.eq_false_iff.mpr c6
        subst c6
        have H1 : (if a0 > (IntKind.u64.wrap (a1 - a0)) then (some true) else (some false)) = some r := by rw [if_neg (show ¬ (false = true) by decide)] at H; exact H
        clear H
        have H := H1
        clear H1
        by_cases c7 : a0 > (IntKind.u64.wrap (a1 - a0))
        · rw [if_pos c7] at H
          have c7b0 : decide ((IntKind.u64.wrap (a1 - a0)) < a0) = true := decide_eq_true c7
          clear c7
          obtain rfl := Option.some.inj H
          go_wp2
          go_ret
          exact ⟨by first | rfl | (simp; done) | (simp [*]; done), by repeat (first | exact Drawn0.refl _ | apply Drawn0.step)⟩
        · rw [if_neg c7] at H
          have c7b0 : decide ((IntKind.u64.wrap (a1 - a0)) < a0) = false := decide_eq_false c7
          clear c7
          obtain rfl := Option.some.inj H
          go_wp2
          go_ret
          exact ⟨by first | rfl | (simp; done) | (simp [*]; done), by repeat (first | exact Drawn0.refl _ | apply Drawn0.step)⟩

def round_Even.j0 : Nat → Int → Int → Bool → Option (Int × Int)
  | 0, _, _, _ => none
  | k + 1, x8, x9, x34 => if x34 = true then ((wide_Of.f (IntKind.u64.wrap ((IntKind.u64.wrap (x9)) + 1))).bind fun bt5645 => ((round_told.f bt5645.1 bt5645.2).bind fun bt5647 => (some (bt5647.1, bt5647.2)))) else (some (x9, x8))
def round_Even.f (k : Nat) (a0_0 : Int) (a0_1 : Int) (a1 : Int) : Option (Int × Int) := (wide_Div.f a0_0 a0_1 a1).bind fun bt5637 => (if bt5637.2.2.2 = 0 then ((round_told.f bt5637.1 bt5637.2.1).bind fun bt5642 => (if bt5642.2 = 0 then ((round_up.f k bt5637.2.2.1 a1 ((Int.tmod bt5642.1 2) == 1)).bind fun t5644 => (round_Even.j0 k bt5642.2 bt5642.1 t5644)) else (round_Even.j0 k bt5642.2 bt5642.1 false))) else (some (0, bt5637.2.2.2)))
theorem round_Even.mono_l : ∀ k, (∀ y0 y1 y2, LeO (round_Even.j0 k y0 y1 y2) (round_Even.j0 (k + 1) y0 y1 y2))
  | 0 => fun _ _ _ r h => by simp [round_Even.j0] at h
  | k + 1 => by
    have ih0 := round_Even.mono_l k
    · intro y0 y1 y2
      unfold round_Even.j0
      repeat' first
      | (with_reducible exact ih0 _ _ _)
      | (with_reducible exact round_up.mono _ _ _ _)
      | (with_reducible exact LeO.refl _)
      | (with_reducible exact LeO.none _)
      | (with_reducible refine LeO.ite ?_ ?_)
      | (with_reducible refine LeO.bind ?_ (fun _ => ?_))
      | exact ih0 _ _ _
      | exact round_up.mono _ _ _ _
      | exact LeO.none _
      | refine LeO.ite ?_ ?_
      | refine LeO.bind ?_ (fun _ => ?_)
theorem round_Even.mono : ∀ a0 a1 a2 k, LeO (round_Even.f k a0 a1 a2) (round_Even.f (k + 1) a0 a1 a2) := by
  intro a0 a1 a2 k
  have ih0 := round_Even.mono_l k
  unfold round_Even.f
  repeat' first
      | (with_reducible exact ih0 _ _ _)
      | (with_reducible exact round_up.mono _ _ _ _)
      | (with_reducible exact LeO.refl _)
      | (with_reducible exact LeO.none _)
      | (with_reducible refine LeO.ite ?_ ?_)
      | (with_reducible refine LeO.bind ?_ (fun _ => ?_))
      | exact ih0 _ _ _
      | exact round_up.mono _ _ _ _
      | exact LeO.none _
      | refine LeO.ite ?_ ?_
      | refine LeO.bind ?_ (fun _ => ?_)
set_option maxHeartbeats 8000000 in
set_option maxRecDepth 100000 in
theorem round_Even.calls (k : Nat) (a0_0 : Int) (a0_1 : Int) (a1 : Int) (r1 : Int) (r2 : Int) (w : World) (h : round_Even.f k a0_0 a0_1 a1 = some (r1, r2)) :
    Calls Try.prog 56 #[.agg #[.int .u64 a0_0, .int .u64 a0_1], .int .u64 a1] w fun e w' => e = .returned (.tuple #[.int .i64 r1, .int .i64 r2]) ∧ Below w.heap.size w w' := by
  have hu24 := Try.underlying24
  have HB := Aside0.mk (Below.refl w.heap.size w)
  have H : ((wide_Div.f a0_0 a0_1 a1).bind fun bt5637 => (if bt5637.2.2.2 = 0 then ((round_told.f bt5637.1 bt5637.2.1).bind fun bt5642 => (if bt5642.2 = 0 then ((round_up.f k bt5637.2.2.1 a1 ((Int.tmod bt5642.1 2) == 1)).bind fun t5644 => (round_Even.j0 k bt5642.2 bt5642.1 t5644)) else (round_Even.j0 k bt5642.2 bt5642.1 false))) else (some (0, bt5637.2.2.2)))) = some (r1, r2) := h
  clear h
  replace H := Option.bind_eq_some_iff.mp H
  obtain ⟨⟨t5637, t5638, t5639, t5640⟩, A30, H⟩ := H
  replace H : (if t5640 = 0 then ((round_told.f t5637 t5638).bind fun bt5642 => (if bt5642.2 = 0 then ((round_up.f k t5639 a1 ((Int.tmod bt5642.1 2) == 1)).bind fun t5644 => (round_Even.j0 k bt5642.2 bt5642.1 t5644)) else (round_Even.j0 k bt5642.2 bt5642.1 false))) else (some (0, t5640))) = some (r1, r2) := H
  have A3 := Aside0.mk A30
  clear A30
  by_cases c4 : t5640 = 0
  · rw [if_pos c4] at H
    have c4b0 : (t5640 == 0) = true := beq_iff_eq.mpr c4
    have c4b1 : (t5640 != 0) = false := bne_eq_false_iff_eq.mpr c4
    clear c4
    replace H := Option.bind_eq_some_iff.mp H
    obtain ⟨⟨t5642, t5643⟩, A50, H⟩ := H
    replace H : (if t5643 = 0 then ((round_up.f k t5639 a1 ((Int.tmod t5642 2) == 1)).bind fun t5644 => (round_Even.j0 k t5643 t5642 t5644)) else (round_Even.j0 k t5643 t5642 false)) = some (r1, r2) := H
    have A5 := Aside0.mk A50
    clear A50
    have HC6 := Aside0.mk H
    clear H
    go_enter Try.func56, Try.ntmps56
    go_upto_region 5 with (first | ((with_reducible refine gate_dst (N := 2) rfl ?_); refine box_event ?hg (N := 2) ?hd (cs := #[.int .u64 a0_0, .int .u64 a0_1]) (t := 24) ?hr ?_; (case hd => rfl); (case hg => rfl); (case hr => first | (go_simp; done) | (go_simp; rfl)); intro gb5636 hg w7 hbox hb; have n0_ := Aside0.mk (below_step (by repeat (first | (with_reducible first | exact HB.out | apply below_alloc | apply pw_below_drewN | apply below_drew1) | exact HB.out)) hb); have n1_ := Aside0.mk (hbox); have n2_ := Aside0.mk ((by rw [hg]; exact (below_size (by repeat (first | (with_reducible first | exact HB.out | apply below_alloc | apply pw_below_drewN | apply below_drew1) | exact HB.out))) : w.heap.size ≤ gb5636)); have n3_ := Aside0.mk ((by rw [hg]; exact (below_size (by repeat (first | (with_reducible first | exact HB.out | apply below_alloc | apply pw_below_drewN | apply below_drew1) | exact HB.out))) : w.heap.size ≤ gb5636)); clear HB; have HB := n0_; have BK5636 := n1_; have GW5636 := n2_; have GE5636 := n3_; clear n0_ n1_ n2_ n3_; clear hb hbox hg; have hcz8_0 : w7.cell? ⟨gb5636, 0, none⟩ = some (.int .u64 a0_0) := (blk_cell BK5636.out 0).trans rfl; have hcz8_1 : w7.cell? ⟨gb5636, 1, none⟩ = some (.int .u64 a0_1) := (blk_cell BK5636.out 1).trans rfl; have hfz8_0 := blk_frozen BK5636.out 0; have hfz8_1 := blk_frozen BK5636.out 1) | ((with_reducible refine gate_callee (f := 37) rfl ?_); refine goesL_ (some 13) rfl rfl Try.func37 (by kernel_rfl) rfl #[.agg #[.int .u64 a0_0, .int .u64 a0_1], .int .u64 a1] rfl (by (try simp only [List.map_toArray, List.map_cons, List.map_nil]); first | done | rfl) ?_; (with_reducible refine (wide_Div.calls a0_0 a0_1 a1 t5637 t5638 t5639 t5640 _ A3.out).mono ?_); rintro e w9 ⟨rfl, hb⟩; refine ⟨_, rfl, ?_⟩; have n0_ := Aside0.mk (blk_below (g := gb5636) (o := .cells #[.int .u64 a0_0, .int .u64 a0_1] 24 (0, 0)) (by exact BK5636.out) hb); have n1_ := Aside0.mk (below_step (by repeat (first | (with_reducible first | exact HB.out | apply below_alloc | apply pw_below_drewN | apply below_drew1 | refine below_set ?_ GE5636.out) | exact HB.out)) hb); clear BK5636 HB; have BK5636 := n0_; have HB := n1_; clear n0_ n1_; (try clear hb)) | ((with_reducible refine gate_dst (N := 6) rfl ?_); refine box_event ?hg (N := 6) ?hd (cs := #[.int .u64 0, .int .u64 0]) (t := 24) ?hr ?_; (case hd => rfl); (case hg => rfl); (case hr => first | (go_simp; done) | (go_simp; rfl)); intro gb5641 hg w10 hbox hb; have n0_ := Aside0.mk (blk_below (g := gb5636) (o := .cells #[.int .u64 a0_0, .int .u64 a0_1] 24 (0, 0)) (by exact BK5636.out) hb); have n1_ := Aside0.mk (below_step (by repeat (first | (with_reducible first | exact HB.out | apply below_alloc | apply pw_below_drewN | apply below_drew1 | refine below_set ?_ GE5636.out) | exact HB.out)) hb); have n2_ := Aside0.mk (hbox); have n3_ := Aside0.mk ((by rw [hg]; exact (below_size (by repeat (first | (with_reducible first | exact HB.out | apply below_alloc | apply pw_below_drewN | apply below_drew1 | refine below_set ?_ GE5636.out) | exact HB.out))) : w.heap.size ≤ gb5641)); have n4_ := Aside0.mk ((by rw [hg]; exact (below_size (by repeat (first | (with_reducible first | exact HB.out | apply below_alloc | apply pw_below_drewN | apply below_drew1 | refine below_set ?_ GE5636.out) | exact HB.out))) : w.heap.size ≤ gb5641)); have n5_ := Aside0.mk ((by rw [hg]; exact Nat.ne_of_lt (blk_lt (g := gb5636) (o := .cells #[.int .u64 a0_0, .int .u64 a0_1] 24 (0, 0)) (by exact BK5636.out)) : gb5636 ≠ gb5641)); have n6_ := Aside0.mk ((by rw [hg]; exact Nat.ne_of_gt (blk_lt (g := gb5636) (o := .cells #[.int .u64 a0_0, .int .u64 a0_1] 24 (0, 0)) (by exact BK5636.out)) : gb5641 ≠ gb5636)); clear BK5636 HB; have BK5636 := n0_; have HB := n1_; have BK5641 := n2_; have GW5641 := n3_; have GE5641 := n4_; have NB5636_5641 := n5_; have NB5641_5636 := n6_; clear n0_ n1_ n2_ n3_ n4_ n5_ n6_; clear hb hbox hg; have hnb11 := NB5641_5636.out; have hnc11 := NB5636_5641.out; have hcz12_0 : w10.cell? ⟨gb5641, 0, none⟩ = some (.int .u64 0) := (blk_cell BK5641.out 0).trans rfl; have hcz12_1 : w10.cell? ⟨gb5641, 1, none⟩ = some (.int .u64 0) := (blk_cell BK5641.out 1).trans rfl; have hfz12_0 := blk_frozen BK5641.out 0; have hfz12_1 := blk_frozen BK5641.out 1) | ((with_reducible refine gate_callee (f := 76) rfl ?_); refine goesL_ (some 22) rfl rfl Try.func76 (by kernel_rfl) rfl #[.agg #[.int .u64 t5637, .int .u64 t5638]] rfl (by (try simp only [List.map_toArray, List.map_cons, List.map_nil]); first | done | rfl) ?_; (with_reducible refine (round_told.calls t5637 t5638 t5642 t5643 _ A5.out).mono ?_); rintro e w13 ⟨rfl, hb⟩; refine ⟨_, rfl, ?_⟩; have n0_ := Aside0.mk (blk_below (g := gb5636) (o := .cells #[.int .u64 a0_0, .int .u64 a0_1] 24 (0, 0)) (by refine blk_far ?_ NB5636_5641.out _; refine blk_far ?_ NB5636_5641.out _; exact BK5636.out) hb); have n1_ := Aside0.mk (blk_below (g := gb5641) (o := .cells #[.int .u64 t5637, .int .u64 t5638] 24 (0, 0)) (by refine blk_put (cs := #[.int .u64 t5637, .int .u64 0]) ?_ 1 _ rfl; refine blk_put (cs := #[.int .u64 0, .int .u64 0]) ?_ 0 _ rfl; exact BK5641.out) hb); have n2_ := Aside0.mk (below_step (by repeat (first | (with_reducible first | exact HB.out | apply below_alloc | apply pw_below_drewN | apply below_drew1 | refine below_set ?_ GE5636.out | refine below_set ?_ GE5641.out) | exact HB.out)) hb); clear BK5636 BK5641 HB; have BK5636 := n0_; have BK5641 := n1_; have HB := n2_; clear n0_ n1_ n2_; (try clear hb)))
    (try simp only [Act.put, List.setIfInBounds_toArray, List.set_cons_zero, List.set_cons_succ])
    go_cut [34] (fun v34 wc => ∃ (kq : Nat) (x34_5 : Bool), v34 = .bool x34_5 ∧ Aside0 (round_Even.j0 kq t5643 t5642 x34_5 = some (r1, r2)) ∧ Aside0 (kq ≤ k) ∧ Aside0 (wc.heap[gb5636]? = some (.cells #[.int .u64 a0_0, .int .u64 a0_1] 24 (0, 0))) ∧ Aside0 (wc.heap[gb5641]? = some (.cells #[.int .u64 t5637, .int .u64 t5638] 24 (0, 0))) ∧ Aside0 (Below w.heap.size w wc))
    case first =>
      have H := HC6.out
      clear HC6
      by_cases c14 : t5643 = 0
      · rw [if_pos c14] at H
        have c14b0 : (t5643 == 0) = true := beq_iff_eq.mpr c14
        have c14b1 : (t5643 != 0) = false := bne_eq_false_iff_eq.mpr c14
        clear c14
        (first | rw [c14b0] | (simp only [i64_w, i32_w]; rw [c14b0]) | rw [c14b1] | skip)
        replace H := Option.bind_eq_some_iff.mp H
        obtain ⟨t5644, A150, H⟩ := H
        replace H : (round_Even.j0 k t5643 t5642 t5644) = some (r1, r2) := H
        have A15 := Aside0.mk A150
        clear A150
        have H' := Aside0.mk H
        clear H
        go_wp2_with (first | (go_at_call 78; (with_reducible refine (round_up.calls k t5639 a1 ((Int.tmod t5642 2) == 1) t5644 _ A15.out).mono ?_); rintro e w' ⟨rfl, ⟨nd, rfl⟩⟩))
        go_meet
        case rel => exact ⟨_, (t5644), (by first | rfl | (simp; done) | (simp [*]; done)), H', ⟨by first | omega | exact Nat.le_refl _⟩, ⟨by exact BK5636.out⟩, ⟨by exact BK5641.out⟩, ⟨by repeat (first | (with_reducible first | exact HB.out | apply below_alloc | apply pw_below_drewN | apply below_drew1 | refine below_set ?_ GE5636.out | refine below_set ?_ GE5641.out) | exact HB.out)⟩⟩
      · rw [if_neg c14] at H
        have c14b0 : (t5643 == 0) = false := beq_eq_false_iff_ne.mpr c14
        have c14b1 : (t5643 != 0) = true := bne_iff_ne.mpr c14
        (first | rw [c14b0] | (simp only [i64_w, i32_w]; rw [c14b0]) | rw [c14b1] | skip)
        have H' := Aside0.mk H
        clear H
        go_wp2
        go_meet
        case rel => exact ⟨_, (false), (by first | rfl | (simp; done) | (simp [*]; done)), H', ⟨by first | omega | exact Nat.le_refl _⟩, ⟨by exact BK5636.out⟩, ⟨by exact BK5641.out⟩, ⟨by repeat (first | (with_reducible first | exact HB.out | apply below_alloc | apply pw_below_drewN | apply below_drew1 | refine below_set ?_ GE5636.out | refine below_set ?_ GE5641.out) | exact HB.out)⟩⟩
    case rest =>
      clear HC6
      try clear c1
      try clear p2
      try clear c3
      try clear c4
      try clear c4b0
      try clear c4b1
      try clear c5
      try clear c7
      try clear c11
      try clear c14
      try clear c14b0
      try clear c14b1
      try clear hcz12_0
      try clear hcz12_1
      try clear hcz8_0
      try clear hcz8_1
      try clear hfz12_0
      try clear hfz12_1
      try clear hfz8_0
      try clear hfz8_1
      obtain ⟨kq, x34_5, rfl, HA, HJ5, BK5636, BK5641, HB⟩ := hcut
      cases kq with
      | zero => exact absurd HA.out (by simp [round_Even.j0])
      | succ kj5 =>
        have H := HA.out
        clear HA
        simp only [round_Even.j0] at H
        by_cases c16 : x34_5 = true
        · subst c16
          have H1 : ((wide_Of.f (IntKind.u64.wrap ((IntKind.u64.wrap (t5642)) + 1))).bind fun bt5645 => ((round_told.f bt5645.1 bt5645.2).bind fun bt5647 => (some (bt5647.1, bt5647.2)))) = some (r1, r2) := by rw [if_pos rfl] at H; exact H
          clear H
          have H := H1
          clear H1
          replace H := Option.bind_eq_some_iff.mp H
          obtain ⟨⟨t5645, t5646⟩, A170, H⟩ := H
          replace H : ((round_told.f t5645 t5646).bind fun bt5647 => (some (bt5647.1, bt5647.2))) = some (r1, r2) := H
          have A17 := Aside0.mk A170
          clear A170
          replace H := Option.bind_eq_some_iff.mp H
          obtain ⟨⟨t5647, t5648⟩, A180, H⟩ := H
          replace H : (some (t5647, t5648)) = some (r1, r2) := H
          have A18 := Aside0.mk A180
          clear A180
          simp only [Option.some.injEq, Prod.mk.injEq] at H
          obtain ⟨rfl, rfl⟩ := H
          go_wp2_with (first | ((with_reducible refine gate_callee (f := 33) rfl ?_); refine goesL_ (some 38) rfl rfl Try.func33 (by kernel_rfl) rfl #[.int .u64 (IntKind.u64.wrap ((IntKind.u64.wrap (t5642)) + 1))] rfl (by (try simp only [List.map_toArray, List.map_cons, List.map_nil]); first | done | rfl) ?_; (with_reducible refine (wide_Of.calls (IntKind.u64.wrap ((IntKind.u64.wrap (t5642)) + 1)) t5645 t5646 _ A17.out).mono ?_); rintro e w19 ⟨rfl, hb⟩; refine ⟨_, rfl, ?_⟩; have n0_ := Aside0.mk (blk_below (g := gb5636) (o := .cells #[.int .u64 a0_0, .int .u64 a0_1] 24 (0, 0)) (by exact BK5636.out) hb); have n1_ := Aside0.mk (blk_below (g := gb5641) (o := .cells #[.int .u64 t5637, .int .u64 t5638] 24 (0, 0)) (by exact BK5641.out) hb); have n2_ := Aside0.mk (below_step (by repeat (first | (with_reducible first | exact HB.out | apply below_alloc | apply pw_below_drewN | apply below_drew1 | refine below_set ?_ GE5636.out | refine below_set ?_ GE5641.out) | exact HB.out)) hb); clear BK5636 BK5641 HB; have BK5636 := n0_; have BK5641 := n1_; have HB := n2_; clear n0_ n1_ n2_; (try clear hb)) | ((with_reducible refine gate_callee (f := 76) rfl ?_); refine goesL_ (some 39) rfl rfl Try.func76 (by kernel_rfl) rfl #[.agg #[.int .u64 t5645, .int .u64 t5646]] rfl (by (try simp only [List.map_toArray, List.map_cons, List.map_nil]); first | done | rfl) ?_; (with_reducible refine (round_told.calls t5645 t5646 t5647 t5648 _ A18.out).mono ?_); rintro e w20 ⟨rfl, hb⟩; refine ⟨_, rfl, ?_⟩; have n0_ := Aside0.mk (blk_below (g := gb5636) (o := .cells #[.int .u64 a0_0, .int .u64 a0_1] 24 (0, 0)) (by exact BK5636.out) hb); have n1_ := Aside0.mk (blk_below (g := gb5641) (o := .cells #[.int .u64 t5637, .int .u64 t5638] 24 (0, 0)) (by exact BK5641.out) hb); have n2_ := Aside0.mk (below_step (by repeat (first | (with_reducible first | exact HB.out | apply below_alloc | apply pw_below_drewN | apply below_drew1 | refine below_set ?_ GE5636.out | refine below_set ?_ GE5641.out) | exact HB.out)) hb); clear BK5636 BK5641 HB; have BK5636 := n0_; have BK5641 := n1_; have HB := n2_; clear n0_ n1_ n2_; (try clear hb)))
          go_ret2
          exact ⟨by rfl, by repeat (first | (with_reducible first | exact HB.out | apply below_alloc | apply pw_below_drewN | apply below_drew1 | refine below_set ?_ GE5636.out | refine below_set ?_ GE5641.out) | exact HB.out)⟩
        · replace c16 := Bool.eq_false_iff.mpr c16
          subst c16
          have H1 : (some (t5642, t5643)) = some (r1, r2) := by rw [if_neg (show ¬ (false = true) by decide)] at H; exact H
          clear H
          have H := H1
          clear H1
          simp only [Option.some.injEq, Prod.mk.injEq] at H
          obtain ⟨rfl, rfl⟩ := H
          go_wp2
          go_ret2
          exact ⟨by rfl, by repeat (first | (with_reducible first | exact HB.out | apply below_alloc | apply pw_below_drewN | apply below_drew1 | refine below_set ?_ GE5636.out | refine below_set ?_ GE5641.out) | exact HB.out)⟩
  · rw [if_neg c4] at H
    have c4b0 : (t5640 == 0) = false := beq_eq_false_iff_ne.mpr c4
    have c4b1 : (t5640 != 0) = true := bne_iff_ne.mpr c4
    simp only [Option.some.injEq, Prod.mk.injEq] at H
    obtain ⟨rfl, rfl⟩ := H
    go_enter Try.func56, Try.ntmps56
    go_wp2_with (first | ((with_reducible refine gate_dst (N := 2) rfl ?_); refine box_event ?hg (N := 2) ?hd (cs := #[.int .u64 a0_0, .int .u64 a0_1]) (t := 24) ?hr ?_; (case hd => rfl); (case hg => rfl); (case hr => first | (go_simp; done) | (go_simp; rfl)); intro gb5636 hg w21 hbox hb; have n0_ := Aside0.mk (below_step (by repeat (first | (with_reducible first | exact HB.out | apply below_alloc | apply pw_below_drewN | apply below_drew1) | exact HB.out)) hb); have n1_ := Aside0.mk (hbox); have n2_ := Aside0.mk ((by rw [hg]; exact (below_size (by repeat (first | (with_reducible first | exact HB.out | apply below_alloc | apply pw_below_drewN | apply below_drew1) | exact HB.out))) : w.heap.size ≤ gb5636)); have n3_ := Aside0.mk ((by rw [hg]; exact (below_size (by repeat (first | (with_reducible first | exact HB.out | apply below_alloc | apply pw_below_drewN | apply below_drew1) | exact HB.out))) : w.heap.size ≤ gb5636)); clear HB; have HB := n0_; have BK5636 := n1_; have GW5636 := n2_; have GE5636 := n3_; clear n0_ n1_ n2_ n3_; clear hb hbox hg; have hcz22_0 : w21.cell? ⟨gb5636, 0, none⟩ = some (.int .u64 a0_0) := (blk_cell BK5636.out 0).trans rfl; have hcz22_1 : w21.cell? ⟨gb5636, 1, none⟩ = some (.int .u64 a0_1) := (blk_cell BK5636.out 1).trans rfl; have hfz22_0 := blk_frozen BK5636.out 0; have hfz22_1 := blk_frozen BK5636.out 1) | ((with_reducible refine gate_callee (f := 37) rfl ?_); refine goesL_ (some 13) rfl rfl Try.func37 (by kernel_rfl) rfl #[.agg #[.int .u64 a0_0, .int .u64 a0_1], .int .u64 a1] rfl (by (try simp only [List.map_toArray, List.map_cons, List.map_nil]); first | done | rfl) ?_; (with_reducible refine (wide_Div.calls a0_0 a0_1 a1 t5637 t5638 t5639 t5640 _ A3.out).mono ?_); rintro e w23 ⟨rfl, hb⟩; refine ⟨_, rfl, ?_⟩; have n0_ := Aside0.mk (blk_below (g := gb5636) (o := .cells #[.int .u64 a0_0, .int .u64 a0_1] 24 (0, 0)) (by exact BK5636.out) hb); have n1_ := Aside0.mk (below_step (by repeat (first | (with_reducible first | exact HB.out | apply below_alloc | apply pw_below_drewN | apply below_drew1 | refine below_set ?_ GE5636.out) | exact HB.out)) hb); clear BK5636 HB; have BK5636 := n0_; have HB := n1_; clear n0_ n1_; (try clear hb)) | ((with_reducible refine gate_dst (N := 6) rfl ?_); refine box_event ?hg (N := 6) ?hd (cs := #[.int .u64 0, .int .u64 0]) (t := 24) ?hr ?_; (case hd => rfl); (case hg => rfl); (case hr => first | (go_simp; done) | (go_simp; rfl)); intro gb5641 hg w24 hbox hb; have n0_ := Aside0.mk (blk_below (g := gb5636) (o := .cells #[.int .u64 a0_0, .int .u64 a0_1] 24 (0, 0)) (by exact BK5636.out) hb); have n1_ := Aside0.mk (below_step (by repeat (first | (with_reducible first | exact HB.out | apply below_alloc | apply pw_below_drewN | apply below_drew1 | refine below_set ?_ GE5636.out) | exact HB.out)) hb); have n2_ := Aside0.mk (hbox); have n3_ := Aside0.mk ((by rw [hg]; exact (below_size (by repeat (first | (with_reducible first | exact HB.out | apply below_alloc | apply pw_below_drewN | apply below_drew1 | refine below_set ?_ GE5636.out) | exact HB.out))) : w.heap.size ≤ gb5641)); have n4_ := Aside0.mk ((by rw [hg]; exact (below_size (by repeat (first | (with_reducible first | exact HB.out | apply below_alloc | apply pw_below_drewN | apply below_drew1 | refine below_set ?_ GE5636.out) | exact HB.out))) : w.heap.size ≤ gb5641)); have n5_ := Aside0.mk ((by rw [hg]; exact Nat.ne_of_lt (blk_lt (g := gb5636) (o := .cells #[.int .u64 a0_0, .int .u64 a0_1] 24 (0, 0)) (by exact BK5636.out)) : gb5636 ≠ gb5641)); have n6_ := Aside0.mk ((by rw [hg]; exact Nat.ne_of_gt (blk_lt (g := gb5636) (o := .cells #[.int .u64 a0_0, .int .u64 a0_1] 24 (0, 0)) (by exact BK5636.out)) : gb5641 ≠ gb5636)); clear BK5636 HB; have BK5636 := n0_; have HB := n1_; have BK5641 := n2_; have GW5641 := n3_; have GE5641 := n4_; have NB5636_5641 := n5_; have NB5641_5636 := n6_; clear n0_ n1_ n2_ n3_ n4_ n5_ n6_; clear hb hbox hg; have hnb25 := NB5641_5636.out; have hnc25 := NB5636_5641.out; have hcz26_0 : w24.cell? ⟨gb5641, 0, none⟩ = some (.int .u64 0) := (blk_cell BK5641.out 0).trans rfl; have hcz26_1 : w24.cell? ⟨gb5641, 1, none⟩ = some (.int .u64 0) := (blk_cell BK5641.out 1).trans rfl; have hfz26_0 := blk_frozen BK5641.out 0; have hfz26_1 := blk_frozen BK5641.out 1))
    go_ret2
    exact ⟨by rfl, by repeat (first | (with_reducible first | exact HB.out | apply below_alloc | apply pw_below_drewN | apply below_drew1 | refine below_set ?_ GE5636.out | refine below_set ?_ GE5641.out) | exact HB.out)⟩

end Go.Proofs.Ytcdbmmlnmefoeaa.X
