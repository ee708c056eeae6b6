-- CUT by prune.py, a program of this session, to what the claim reaches (out of a text that the kit's printer, the session's programs or the session wrote)
import Derived.Test.YtcdbmmlnmefoeaaPRoundPartsX0
import Derived.Test.YtcdbmmlnmefoeaaPRoundPartsXBig
import Derived.Test.YtcdbmmlnmefoeaaPRoundPartsXQuot
namespace Go.Proofs.Ytcdbmmlnmefoeaa.X
open Go.RowKit Go.Proofs.YtcdbmmlnmefoeaaW.PrintWords Go.Proofs.YtcdbmmlnmefoeaaW.PrintLast Go.Proofs.YtcdbmmlnmefoeaaW.PrintMore
set_option linter.unusedVariables false
set_option linter.unusedSimpArgs false

def demurrageref03_Near.upsl : Nat → Nat → List Bool
  | 0, _ => []
  | n + 1, m => (m % 2 == 1) :: demurrageref03_Near.upsl n (m / 2)
def demurrageref03_Near.ups (n m : Nat) : Array Bool := ⟨demurrageref03_Near.upsl n m⟩
def demurrageref03_told.l0 : Nat → Int → Int → List Int → Option (Int × Int)
  | 0, _, _, _ => none
  | k + 1, x4, x5, x5685000 => if x5 ≥ 0 then (if 0 ≤ x5 then (if x5 < (x5685000.length : Int) then (demurrageref03_told.l0 k (wrap64 ((wrap64 (10000 * x4)) + (rd x5685000 x5))) (wrap64 (x5 - 1)) x5685000) else (none)) else (none)) else (some (x4, 0))
def demurrageref03_told.f (k : Nat) (l0_0 : List Int) : Option (Int × Int) := (demurrageref01_FromU.f k 4611686018427387904).bind fun t5685 => ((demurrageref01_Cmp.f k l0_0 t5685).bind fun t5688 => (if t5688 > 0 then (some (0, 6)) else (demurrageref03_told.l0 k 0 (wrap64 ((l0_0.length : Int) - 1)) l0_0)))
set_option maxHeartbeats 8000000 in
set_option maxRecDepth 100000 in
theorem demurrageref03_told.calls (k : Nat) (A0_0 : Option Addr) (c0_0 : Nat) (l0_0 : List Int) (r1 : Int) (r2 : Int) (w : World) (hr0_0 : Kd.C (Kd.int .i64) w A0_0 l0_0.length l0_0) (hc0_0 : l0_0.length ≤ c0_0) (h : demurrageref03_told.f k l0_0 = some (r1, r2)) :
    Calls Try.prog 77 #[.agg #[.slice A0_0 l0_0.length c0_0]] w fun e w' => e = .returned (.tuple #[.int .i64 r1, .int .i64 r2]) ∧ Below w.heap.size w w' := by
  have hu28 := Try.underlying28
  have HR0_0 := Aside0.mk hr0_0
  have HC0_0 := Aside0.mk hc0_0
  clear hr0_0 hc0_0
  have HB := Aside0.mk (Below.refl w.heap.size w)
  have H : ((demurrageref01_FromU.f k 4611686018427387904).bind fun t5685 => ((demurrageref01_Cmp.f k l0_0 t5685).bind fun t5688 => (if t5688 > 0 then (some (0, 6)) else (demurrageref03_told.l0 k 0 (wrap64 ((l0_0.length : Int) - 1)) l0_0)))) = some (r1, r2) := h
  clear h
  replace H := Option.bind_eq_some_iff.mp H
  obtain ⟨t5685, A20, H⟩ := H
  replace H : ((demurrageref01_Cmp.f k l0_0 t5685).bind fun t5688 => (if t5688 > 0 then (some (0, 6)) else (demurrageref03_told.l0 k 0 (wrap64 ((l0_0.length : Int) - 1)) l0_0))) = some (r1, r2) := H
  have A2 := Aside0.mk A20
  clear A20
  replace H := Option.bind_eq_some_iff.mp H
  obtain ⟨t5688, A30, H⟩ := H
  replace H : (if t5688 > 0 then (some (0, 6)) else (demurrageref03_told.l0 k 0 (wrap64 ((l0_0.length : Int) - 1)) l0_0)) = some (r1, r2) := H
  have A3 := Aside0.mk A30
  clear A30
  by_cases c4 : t5688 > 0
  · rw [if_pos c4] at H
    have c4b0 : decide (0 < t5688) = true := decide_eq_true c4
    clear c4
    simp only [Option.some.injEq, Prod.mk.injEq] at H
    obtain ⟨rfl, rfl⟩ := H
    go_enter Try.func77, Try.ntmps77
    try go_wp2_with (first | ((with_reducible refine gate_dst (N := 1) rfl ?_); refine box_event ?hg (N := 1) ?hd (cs := #[.slice A0_0 l0_0.length c0_0]) (t := 28) ?hr ?_; (case hd => rfl); (case hg => rfl); (case hr => go_simp); intro gb5684 hg w5 hbox hb; have n0_ := Aside0.mk (below_step (by repeat (first | (with_reducible first | exact HB.out | apply below_alloc | apply pw_below_drewN | apply below_drew1) | exact HB.out)) hb); have n1_ := Aside0.mk (hbox); have n2_ := Aside0.mk ((by rw [hg]; exact (below_size (by repeat (first | (with_reducible first | exact HB.out | apply below_alloc | apply pw_below_drewN | apply below_drew1) | exact HB.out))) : w.heap.size ≤ gb5684)); have n3_ := Aside0.mk ((by rw [hg]; exact (below_size (by repeat (first | (with_reducible first | exact HB.out | apply below_alloc | apply pw_below_drewN | apply below_drew1) | exact HB.out))) : w.heap.size ≤ gb5684)); clear HB; have HB := n0_; have BK5684 := n1_; have GW5684 := n2_; have GE5684 := n3_; clear n0_ n1_ n2_ n3_; clear hb hbox hg))
    have n0_ := Aside0.mk (blk_drew BK5684.out)
    have n1_ := Aside0.mk (below_drew1 HB.out)
    clear BK5684 HB
    have BK5684 := n0_
    have HB := n1_
    clear n0_ n1_
    refine start_ (n := 4) (S := fun w' => w'.cell? ⟨gb5684, 0, none⟩ = some (.slice A0_0 l0_0.length c0_0)) (ds := []) #[false, false, false, false] (by kernel_rfl) rfl rfl ((blk_cell BK5684.out 0).trans rfl) (fun hHeld => ?_)
    generalize w5.drew = w6 at BK5684 HB hHeld ⊢
    refine take_ (i := 0) (N := some 6) (v := ?_) (a' := ?_) #[true, false, false, false] rfl rfl (by kernel_rfl) (fun _ _ _ h => h) (Or.inl ⟨by rfl, ?_⟩) hHeld ?_ ?_
    rotate_left
    · intro w' s0
      go_simp
      with_reducible rfl
    rotate_left
    · simp only [Act.put, List.setIfInBounds_toArray, List.set_cons_zero, List.set_cons_succ, i64_w, i32_w]
      rfl
    refine one_ (i := 1) (N := some 7) #[true, true, false, false] rfl rfl (by kernel_rfl) (by decide) (fun K hK => ?_)
    refine goes_ Try.func24 (by kernel_rfl) rfl #[.int .u64 4611686018427387904] (by rfl) rfl rfl (by (try simp only [List.map_toArray, List.map_cons, List.map_nil]); first | done | rfl) ?_
    with_reducible refine (demurrageref01_FromU.calls k 4611686018427387904 t5685 _ A2.out).mono ?_
    rintro e w7 ⟨v5686, rfl, ho0, hb⟩
    refine ⟨_, rfl, ?_⟩
    have n0_ := Aside0.mk (Kd.R_lower ho0 (below_size (by repeat (first | (with_reducible first | exact HB.out | apply below_alloc | apply pw_below_drewN | apply below_drew1 | refine below_set ?_ GE5684.out) | exact HB.out))))
    have n1_ := Aside0.mk (blk_below BK5684.out hb)
    have n2_ := Aside0.mk (below_step (by repeat (first | (with_reducible first | exact HB.out | apply below_alloc | apply pw_below_drewN | apply below_drew1 | refine below_set ?_ GE5684.out) | exact HB.out)) hb)
    clear BK5684 HB
    have HO5687 := n0_
    have BK5684 := n1_
    have HB := n2_
    clear n0_ n1_ n2_
    (try clear hb)
    (try clear hb2)
    (try clear hk)
    (try clear hi)
    (try clear ho0)
    obtain ⟨Ao8, co8, eo8⟩ := Kd.R_slice HO5687.out
    (first | subst eo8 | (injection eo8 with f1_ f2_ f3_; have f4_ := f1_.symm; have f5_ := f3_.symm; clear f1_ f2_ f3_; subst f4_; subst f5_))
    refine hK.out _ _ ((blk_cell BK5684.out 0).trans rfl) (fun hHeld => ?_)
    clear hK K
    refine norm_ (a' := ?_) ?_ ?_
    rotate_left
    · show Act.put _ (some 7) _ = _
      simp only [Act.put, List.setIfInBounds_toArray, List.set_cons_zero, List.set_cons_succ, i64_w, i32_w]
      rfl
    refine one_ (i := 2) (N := some 8) #[true, true, true, false] rfl rfl (by kernel_rfl) (by decide) (fun K hK => ?_)
    refine goes_ Try.func31 (by kernel_rfl) rfl #[.agg #[.slice A0_0 l0_0.length c0_0], .agg #[.slice Ao8 t5685.length co8]] (by rfl) rfl rfl (by (try simp only [List.map_toArray, List.map_cons, List.map_nil]); first | done | rfl) ?_
    with_reducible refine (demurrageref01_Cmp.calls k _ _ l0_0 _ _ t5685 t5688 _ ?side1 ?side2 ?side3 ?side4 A3.out).mono ?_
    (case side1 => repeat (first | exact (Kd.C_below HR0_0.out HB.out) | (with_reducible refine Kd.C_alloc ?_ _) | (with_reducible refine Kd.C_drewN ?_ _) | (with_reducible refine Kd.C_drew ?_)))
    (case side2 => exact HC0_0.out)
    (case side3 => repeat (first | exact (Kd.R_reads' HO5687.out).2.2 | (with_reducible refine Kd.C_alloc ?_ _) | (with_reducible refine Kd.C_drewN ?_ _) | (with_reducible refine Kd.C_drew ?_)))
    (case side4 => exact (Kd.R_reads' HO5687.out).2.1)
    rintro e w9 ⟨rfl, hb⟩
    refine ⟨_, rfl, ?_⟩
    have n0_ := Aside0.mk (Kd.R_below HO5687.out hb)
    have n1_ := Aside0.mk (blk_below BK5684.out hb)
    have n2_ := Aside0.mk (below_step (by repeat (first | (with_reducible first | exact HB.out | apply below_alloc | apply pw_below_drewN | apply below_drew1 | refine below_set ?_ GE5684.out) | exact HB.out)) hb)
    clear HO5687 BK5684 HB
    have HO5687 := n0_
    have BK5684 := n1_
    have HB := n2_
    clear n0_ n1_ n2_
    (try clear hb)
    (try clear hb2)
    (try clear hk)
    (try clear hi)
    refine hK.out _ _ ((blk_cell BK5684.out 0).trans rfl) (fun hHeld => ?_)
    clear hK K
    refine norm_ (a' := ?_) ?_ ?_
    rotate_left
    · show Act.put _ (some 8) _ = _
      simp only [Act.put, List.setIfInBounds_toArray, List.set_cons_zero, List.set_cons_succ, i64_w, i32_w]
      rfl
    refine pure_ (i := 3) (N := some 9) (v := ?_) (a' := ?_) #[true, true, true, true] rfl rfl (by kernel_rfl) (fun _ _ _ h => h) (Or.inl ⟨by rfl, ?_⟩) ?_ ?_
    rotate_left
    · intro w'
      go_simp
      with_reducible rfl
    rotate_left
    · simp only [Act.put, List.setIfInBounds_toArray, List.set_cons_zero, List.set_cons_succ, i64_w, i32_w]
      rfl
    refine done_ (by kernel_rfl) ?_
    try go_wp2
    go_ret2
    exact ⟨by rfl, by repeat (first | (with_reducible first | exact HB.out | apply below_alloc | apply pw_below_drewN | apply below_drew1 | refine below_set ?_ GE5684.out) | exact HB.out)⟩
  · rw [if_neg c4] at H
    have c4b0 : decide (0 < t5688) = false := decide_eq_false c4
    clear c4
    have H' := Aside0.mk H
    clear H
    go_enter Try.func77, Try.ntmps77
    try go_wp2_with (first | ((with_reducible refine gate_dst (N := 1) rfl ?_); refine box_event ?hg (N := 1) ?hd (cs := #[.slice A0_0 l0_0.length c0_0]) (t := 28) ?hr ?_; (case hd => rfl); (case hg => rfl); (case hr => go_simp); intro gb5684 hg w10 hbox hb; have n0_ := Aside0.mk (below_step (by repeat (first | (with_reducible first | exact HB.out | apply below_alloc | apply pw_below_drewN | apply below_drew1) | exact HB.out)) hb); have n1_ := Aside0.mk (hbox); have n2_ := Aside0.mk ((by rw [hg]; exact (below_size (by repeat (first | (with_reducible first | exact HB.out | apply below_alloc | apply pw_below_drewN | apply below_drew1) | exact HB.out))) : w.heap.size ≤ gb5684)); have n3_ := Aside0.mk ((by rw [hg]; exact (below_size (by repeat (first | (with_reducible first | exact HB.out | apply below_alloc | apply pw_below_drewN | apply below_drew1) | exact HB.out))) : w.heap.size ≤ gb5684)); clear HB; have HB := n0_; have BK5684 := n1_; have GW5684 := n2_; have GE5684 := n3_; clear n0_ n1_ n2_ n3_; clear hb hbox hg))
    have n0_ := Aside0.mk (blk_drew BK5684.out)
    have n1_ := Aside0.mk (below_drew1 HB.out)
    clear BK5684 HB
    have BK5684 := n0_
    have HB := n1_
    clear n0_ n1_
    refine start_ (n := 4) (S := fun w' => w'.cell? ⟨gb5684, 0, none⟩ = some (.slice A0_0 l0_0.length c0_0)) (ds := []) #[false, false, false, false] (by kernel_rfl) rfl rfl ((blk_cell BK5684.out 0).trans rfl) (fun hHeld => ?_)
    generalize w10.drew = w11 at BK5684 HB hHeld ⊢
    refine take_ (i := 0) (N := some 6) (v := ?_) (a' := ?_) #[true, false, false, false] rfl rfl (by kernel_rfl) (fun _ _ _ h => h) (Or.inl ⟨by rfl, ?_⟩) hHeld ?_ ?_
    rotate_left
    · intro w' s0
      go_simp
      with_reducible rfl
    rotate_left
    · simp only [Act.put, List.setIfInBounds_toArray, List.set_cons_zero, List.set_cons_succ, i64_w, i32_w]
      rfl
    refine one_ (i := 1) (N := some 7) #[true, true, false, false] rfl rfl (by kernel_rfl) (by decide) (fun K hK => ?_)
    refine goes_ Try.func24 (by kernel_rfl) rfl #[.int .u64 4611686018427387904] (by rfl) rfl rfl (by (try simp only [List.map_toArray, List.map_cons, List.map_nil]); first | done | rfl) ?_
    with_reducible refine (demurrageref01_FromU.calls k 4611686018427387904 t5685 _ A2.out).mono ?_
    rintro e w12 ⟨v5686, rfl, ho0, hb⟩
    refine ⟨_, rfl, ?_⟩
    have n0_ := Aside0.mk (Kd.R_lower ho0 (below_size (by repeat (first | (with_reducible first | exact HB.out | apply below_alloc | apply pw_below_drewN | apply below_drew1 | refine below_set ?_ GE5684.out) | exact HB.out))))
    have n1_ := Aside0.mk (blk_below BK5684.out hb)
    have n2_ := Aside0.mk (below_step (by repeat (first | (with_reducible first | exact HB.out | apply below_alloc | apply pw_below_drewN | apply below_drew1 | refine below_set ?_ GE5684.out) | exact HB.out)) hb)
    clear BK5684 HB
    have HO5687 := n0_
    have BK5684 := n1_
    have HB := n2_
    clear n0_ n1_ n2_
    (try clear hb)
    (try clear hb2)
    (try clear hk)
    (try clear hi)
    (try clear ho0)
    obtain ⟨Ao13, co13, eo13⟩ := Kd.R_slice HO5687.out
    (first | subst eo13 | (injection eo13 with f1_ f2_ f3_; have f4_ := f1_.symm; have f5_ := f3_.symm; clear f1_ f2_ f3_; subst f4_; subst f5_))
    refine hK.out _ _ ((blk_cell BK5684.out 0).trans rfl) (fun hHeld => ?_)
    clear hK K
    refine norm_ (a' := ?_) ?_ ?_
    rotate_left
    · show Act.put _ (some 7) _ = _
      simp only [Act.put, List.setIfInBounds_toArray, List.set_cons_zero, List.set_cons_succ, i64_w, i32_w]
      rfl
    refine one_ (i := 2) (N := some 8) #[true, true, true, false] rfl rfl (by kernel_rfl) (by decide) (fun K hK => ?_)
    refine goes_ Try.func31 (by kernel_rfl) rfl #[.agg #[.slice A0_0 l0_0.length c0_0], .agg #[.slice Ao13 t5685.length co13]] (by rfl) rfl rfl (by (try simp only [List.map_toArray, List.map_cons, List.map_nil]); first | done | rfl) ?_
    with_reducible refine (demurrageref01_Cmp.calls k _ _ l0_0 _ _ t5685 t5688 _ ?side1 ?side2 ?side3 ?side4 A3.out).mono ?_
    (case side1 => repeat (first | exact (Kd.C_below HR0_0.out HB.out) | (with_reducible refine Kd.C_alloc ?_ _) | (with_reducible refine Kd.C_drewN ?_ _) | (with_reducible refine Kd.C_drew ?_)))
    (case side2 => exact HC0_0.out)
    (case side3 => repeat (first | exact (Kd.R_reads' HO5687.out).2.2 | (with_reducible refine Kd.C_alloc ?_ _) | (with_reducible refine Kd.C_drewN ?_ _) | (with_reducible refine Kd.C_drew ?_)))
    (case side4 => exact (Kd.R_reads' HO5687.out).2.1)
    rintro e w14 ⟨rfl, hb⟩
    refine ⟨_, rfl, ?_⟩
    have n0_ := Aside0.mk (Kd.R_below HO5687.out hb)
    have n1_ := Aside0.mk (blk_below BK5684.out hb)
    have n2_ := Aside0.mk (below_step (by repeat (first | (with_reducible first | exact HB.out | apply below_alloc | apply pw_below_drewN | apply below_drew1 | refine below_set ?_ GE5684.out) | exact HB.out)) hb)
    clear HO5687 BK5684 HB
    have HO5687 := n0_
    have BK5684 := n1_
    have HB := n2_
    clear n0_ n1_ n2_
    (try clear hb)
    (try clear hb2)
    (try clear hk)
    (try clear hi)
    refine hK.out _ _ ((blk_cell BK5684.out 0).trans rfl) (fun hHeld => ?_)
    clear hK K
    refine norm_ (a' := ?_) ?_ ?_
    rotate_left
    · show Act.put _ (some 8) _ = _
      simp only [Act.put, List.setIfInBounds_toArray, List.set_cons_zero, List.set_cons_succ, i64_w, i32_w]
      rfl
    refine pure_ (i := 3) (N := some 9) (v := ?_) (a' := ?_) #[true, true, true, true] rfl rfl (by kernel_rfl) (fun _ _ _ h => h) (Or.inl ⟨by rfl, ?_⟩) ?_ ?_
    rotate_left
    · intro w'
      go_simp
      with_reducible rfl
    rotate_left
    · simp only [Act.put, List.setIfInBounds_toArray, List.set_cons_zero, List.set_cons_succ, i64_w, i32_w]
      rfl
    refine done_ (by kernel_rfl) ?_
    have hcz15_0 : w14.cell? ⟨gb5684, 0, none⟩ = some (.slice A0_0 l0_0.length c0_0) := (blk_cell BK5684.out 0).trans rfl
    have hfz15_0 := blk_frozen BK5684.out 0
    try go_wp2
    (try simp only [Act.put, List.setIfInBounds_toArray, List.set_cons_zero, List.set_cons_succ])
    go_loopg [4, 5] k (fun kq v4 v5 w' => ∃ (x4_1 : Int) (x5_1 : Int), v4 = .int .i64 x4_1 ∧ v5 = .int .i64 x5_1 ∧ Aside0 (demurrageref03_told.l0 kq x4_1 x5_1 l0_0 = some (r1, r2)) ∧ Aside0 (kq ≤ k) ∧ Aside0 (w'.heap[gb5684]? = some (.cells #[(.slice A0_0 l0_0.length c0_0)] 28 (0, 0))) ∧ Aside0 (Below w.heap.size w w'))
    case atStart => exact ⟨(0), (wrap64 ((l0_0.length : Int) - 1)), (by first | rfl | (simp; done) | (simp [*]; done)), (by first | rfl | (simp; done) | (simp [*]; done)), H', ⟨Nat.le_refl _⟩, BK5684, ⟨by repeat (first | (with_reducible first | exact HB.out | apply below_alloc | apply pw_below_drewN | apply below_drew1 | refine below_set ?_ GE5684.out) | exact HB.out)⟩⟩
    case round =>
      clear H'
      try clear c2
      try clear p2
      try clear c3
      try clear c4
      try clear c4b0
      try clear p6
      try clear c7
      try clear hcz15_0
      try clear hfz15_0
      obtain ⟨x4_1, x5_1, rfl, rfl, HA, HK1, BK5684, HB⟩ := hrel
      cases gk with
      | zero => exact absurd HA.out (by simp [demurrageref03_told.l0])
      | succ k1 =>
        have H := HA.out
        clear HA
        simp only [demurrageref03_told.l0] at H
        by_cases c16 : x5_1 ≥ 0
        · rw [if_pos c16] at H
          have c16b0 : decide (0 ≤ x5_1) = true := decide_eq_true c16
          clear c16
          by_cases c17 : 0 ≤ x5_1
          · rw [if_pos c17] at H
            have c17b0 : decide (0 ≤ x5_1) = true := decide_eq_true c17
            clear c17
            by_cases c18 : x5_1 < (l0_0.length : Int)
            · rw [if_pos c18] at H
              have c18b0 : decide (x5_1 < (l0_0.length : Int)) = true := decide_eq_true c18
              clear c18
              have H' := Aside0.mk H
              clear H
              have hcz19_0 : wr.cell? ⟨gb5684, 0, none⟩ = some (.slice A0_0 l0_0.length c0_0) := (blk_cell BK5684.out 0).trans rfl
              have hfz19_0 := blk_frozen BK5684.out 0
              have p5689 : 0 ≤ (x5_1 : Int) := of_decide_eq_true (by first | (with_reducible assumption) | assumption)
              have q5689 : x5_1 < (l0_0.length : Int) := of_decide_eq_true (by first | (with_reducible assumption) | assumption)
              obtain ⟨ad5689, e5689, hx5689_0⟩ := Kd.at_int HR0_0.out x5_1 p5689 q5689
              cases e5689
              replace hx5689_0 := (HB.out.cell (World.block_lt_of_cell? w _ hx5689_0)).trans hx5689_0
              replace p5689 := eq_true p5689
              replace q5689 := eq_true q5689
              go_wp2
              go_roundg k1
              case measure => have := HK1.out; omega
              case rel => exact ⟨(wrap64 ((wrap64 (10000 * x4_1)) + (rd l0_0 x5_1))), (wrap64 (x5_1 - 1)), (by first | rfl | (simp; done) | (simp [*]; done)), (by first | rfl | (simp; done) | (simp [*]; done)), H', ⟨by have := HK1.out; omega⟩, BK5684, ⟨by repeat (first | (with_reducible first | exact HB.out | apply below_alloc | apply pw_below_drewN | apply below_drew1 | refine below_set ?_ GE5684.out) | exact HB.out)⟩⟩
            · rw [if_neg c18] at H
              exact absurd H (by simp)
          · rw [if_neg c17] at H
            exact absurd H (by simp)
        · rw [if_neg c16] at H
          have c16b0 : decide (0 ≤ x5_1) = false := decide_eq_false c16
          clear c16
          simp only [Option.some.injEq, Prod.mk.injEq] at H
          obtain ⟨rfl, rfl⟩ := H
          go_wp2
          go_ret2
          exact ⟨by rfl, by repeat (first | (with_reducible first | exact HB.out | apply below_alloc | apply pw_below_drewN | apply below_drew1 | refine below_set ?_ GE5684.out) | exact HB.out)⟩

mutual
def demurrageref03_Near.j0 : Nat → Int → Bool → List Int → Option (List Int)
  | 0, _, _, _ => none
  | k + 1, x7, x8, x5717000 => if x7 > 0 then (demurrageref03_Near.j1 k true x5717000) else (if x7 = 0 then (demurrageref03_Near.j1 k x8 x5717000) else (demurrageref03_Near.j1 k false x5717000))
def demurrageref03_Near.j1 : Nat → Bool → List Int → Option (List Int)
  | 0, _, _ => none
  | k + 1, x40, x5717000 => if x40 = true then ((demurrageref01_From.f k 1).bind fun t5723 => ((demurrageref01_Plus.f k x5717000 t5723).bind fun t5726 => (some t5726))) else (some x5717000)
end
def demurrageref03_Near.f (k : Nat) (l0_0 : List Int) (l1_0 : List Int) : Option (List Int) := (demurrageref01_Quot.f k l0_0 l1_0).bind fun bt5710 => ((demurrageref01_Plus.f k bt5710.2 bt5710.2).bind fun t5718 => ((demurrageref01_Cmp.f k t5718 l1_0).bind fun t5721 => (if (bt5710.1.length : Int) > 0 then (if 0 < (bt5710.1.length : Int) then (demurrageref03_Near.j0 k t5721 ((Int.tmod (rd bt5710.1 0) 2) == 1) bt5710.1) else (none)) else (demurrageref03_Near.j0 k t5721 false bt5710.1))))
set_option maxHeartbeats 8000000 in
set_option maxRecDepth 100000 in
theorem demurrageref03_Near.calls (k : Nat) (A0_0 : Option Addr) (c0_0 : Nat) (l0_0 : List Int) (A1_0 : Option Addr) (c1_0 : Nat) (l1_0 : List Int) (r : List Int) (w : World) (hr0_0 : Kd.C (Kd.int .i64) w A0_0 l0_0.length l0_0) (hc0_0 : l0_0.length ≤ c0_0) (hr1_0 : Kd.C (Kd.int .i64) w A1_0 l1_0.length l1_0) (hc1_0 : l1_0.length ≤ c1_0) (h : demurrageref03_Near.f k l0_0 l1_0 = some r) :
    Calls Try.prog 79 #[.agg #[.slice A0_0 l0_0.length c0_0], .agg #[.slice A1_0 l1_0.length c1_0]] w fun e w' => ∃ v0_ : Value, e = .returned (.agg #[v0_]) ∧ Kd.R (Kd.int .i64) 3 w' w.heap.size (fun _ => True) v0_ r ∧ Below w.heap.size w w' := by
  have hu28 := Try.underlying28
  have HR0_0 := Aside0.mk hr0_0
  have HC0_0 := Aside0.mk hc0_0
  clear hr0_0 hc0_0
  have HR1_0 := Aside0.mk hr1_0
  have HC1_0 := Aside0.mk hc1_0
  clear hr1_0 hc1_0
  have HB := Aside0.mk (Below.refl w.heap.size w)
  have H : ((demurrageref01_Quot.f k l0_0 l1_0).bind fun bt5710 => ((demurrageref01_Plus.f k bt5710.2 bt5710.2).bind fun t5718 => ((demurrageref01_Cmp.f k t5718 l1_0).bind fun t5721 => (if (bt5710.1.length : Int) > 0 then (if 0 < (bt5710.1.length : Int) then (demurrageref03_Near.j0 k t5721 ((Int.tmod (rd bt5710.1 0) 2) == 1) bt5710.1) else (none)) else (demurrageref03_Near.j0 k t5721 false bt5710.1))))) = some r := h
  clear h
  replace H := Option.bind_eq_some_iff.mp H
  obtain ⟨⟨t5710, t5713⟩, A30, H⟩ := H
  replace H : ((demurrageref01_Plus.f k t5713 t5713).bind fun t5718 => ((demurrageref01_Cmp.f k t5718 l1_0).bind fun t5721 => (if (t5710.length : Int) > 0 then (if 0 < (t5710.length : Int) then (demurrageref03_Near.j0 k t5721 ((Int.tmod (rd t5710 0) 2) == 1) t5710) else (none)) else (demurrageref03_Near.j0 k t5721 false t5710)))) = some r := H
  have A3 := Aside0.mk A30
  clear A30
  replace H := Option.bind_eq_some_iff.mp H
  obtain ⟨t5718, A40, H⟩ := H
  replace H : ((demurrageref01_Cmp.f k t5718 l1_0).bind fun t5721 => (if (t5710.length : Int) > 0 then (if 0 < (t5710.length : Int) then (demurrageref03_Near.j0 k t5721 ((Int.tmod (rd t5710 0) 2) == 1) t5710) else (none)) else (demurrageref03_Near.j0 k t5721 false t5710))) = some r := H
  have A4 := Aside0.mk A40
  clear A40
  replace H := Option.bind_eq_some_iff.mp H
  obtain ⟨t5721, A50, H⟩ := H
  replace H : (if (t5710.length : Int) > 0 then (if 0 < (t5710.length : Int) then (demurrageref03_Near.j0 k t5721 ((Int.tmod (rd t5710 0) 2) == 1) t5710) else (none)) else (demurrageref03_Near.j0 k t5721 false t5710)) = some r := H
  have A5 := Aside0.mk A50
  clear A50
  have HC6 := Aside0.mk H
  clear H
  go_enter Try.func79, Try.ntmps79
  try go_wp2_with (first | ((with_reducible refine gate_dst (N := 2) rfl ?_); refine box_event ?hg (N := 2) ?hd (cs := #[.slice A0_0 l0_0.length c0_0]) (t := 28) ?hr ?_; (case hd => rfl); (case hg => rfl); (case hr => go_simp); intro gb5707 hg w7 hbox hb; have n0_ := Aside0.mk (below_step (by repeat (first | (with_reducible first | exact HB.out | apply below_alloc | apply pw_below_drewN | apply below_drew1) | exact HB.out)) hb); have n1_ := Aside0.mk (hbox); have n2_ := Aside0.mk ((by rw [hg]; exact (below_size (by repeat (first | (with_reducible first | exact HB.out | apply below_alloc | apply pw_below_drewN | apply below_drew1) | exact HB.out))) : w.heap.size ≤ gb5707)); have n3_ := Aside0.mk ((by rw [hg]; exact (below_size (by repeat (first | (with_reducible first | exact HB.out | apply below_alloc | apply pw_below_drewN | apply below_drew1) | exact HB.out))) : w.heap.size ≤ gb5707)); clear HB; have HB := n0_; have BK5707 := n1_; have GW5707 := n2_; have GE5707 := n3_; clear n0_ n1_ n2_ n3_; clear hb hbox hg) | ((with_reducible refine gate_dst (N := 3) rfl ?_); refine box_event ?hg (N := 3) ?hd (cs := #[.slice A1_0 l1_0.length c1_0]) (t := 28) ?hr ?_; (case hd => rfl); (case hg => rfl); (case hr => go_simp); intro gb5708 hg w8 hbox hb; have n0_ := Aside0.mk (blk_below BK5707.out hb); have n1_ := Aside0.mk (below_step (by repeat (first | (with_reducible first | exact HB.out | apply below_alloc | apply pw_below_drewN | apply below_drew1 | refine below_set ?_ GE5707.out) | exact HB.out)) hb); have n2_ := Aside0.mk (hbox); have n3_ := Aside0.mk ((by rw [hg]; exact (below_size (by repeat (first | (with_reducible first | exact HB.out | apply below_alloc | apply pw_below_drewN | apply below_drew1 | refine below_set ?_ GE5707.out) | exact HB.out))) : w.heap.size ≤ gb5708)); have n4_ := Aside0.mk ((by rw [hg]; exact (below_size (by repeat (first | (with_reducible first | exact HB.out | apply below_alloc | apply pw_below_drewN | apply below_drew1 | refine below_set ?_ GE5707.out) | exact HB.out))) : w.heap.size ≤ gb5708)); have n5_ := Aside0.mk ((by rw [hg]; exact Nat.ne_of_lt (blk_lt (g := gb5707) (o := .cells #[.slice A0_0 l0_0.length c0_0] 28 (0, 0)) BK5707.out) : gb5707 ≠ gb5708)); have n6_ := Aside0.mk ((by rw [hg]; exact Nat.ne_of_gt (blk_lt (g := gb5707) (o := .cells #[.slice A0_0 l0_0.length c0_0] 28 (0, 0)) BK5707.out) : gb5708 ≠ gb5707)); clear BK5707 HB; have BK5707 := n0_; have HB := n1_; have BK5708 := n2_; have GW5708 := n3_; have GE5708 := n4_; have NB5707_5708 := n5_; have NB5708_5707 := n6_; clear n0_ n1_ n2_ n3_ n4_ n5_ n6_; clear hb hbox hg) | ((with_reducible refine gate_dst (N := 4) rfl ?_); refine box_event ?hg (N := 4) ?hd (cs := #[.slice none 0 0]) (t := 28) ?hr ?_; (case hd => rfl); (case hg => rfl); (case hr => go_simp); intro gb5709 hg w9 hbox hb; have n0_ := Aside0.mk (blk_below BK5707.out hb); have n1_ := Aside0.mk (blk_below BK5708.out hb); have n2_ := Aside0.mk (below_step (by repeat (first | (with_reducible first | exact HB.out | apply below_alloc | apply pw_below_drewN | apply below_drew1 | refine below_set ?_ GE5707.out | refine below_set ?_ GE5708.out) | exact HB.out)) hb); have n3_ := Aside0.mk (hbox); have n4_ := Aside0.mk ((by rw [hg]; exact (below_size (by repeat (first | (with_reducible first | exact HB.out | apply below_alloc | apply pw_below_drewN | apply below_drew1 | refine below_set ?_ GE5707.out | refine below_set ?_ GE5708.out) | exact HB.out))) : w.heap.size ≤ gb5709)); have n5_ := Aside0.mk ((by rw [hg]; exact (below_size (by repeat (first | (with_reducible first | exact HB.out | apply below_alloc | apply pw_below_drewN | apply below_drew1 | refine below_set ?_ GE5707.out | refine below_set ?_ GE5708.out) | exact HB.out))) : w.heap.size ≤ gb5709)); have n6_ := Aside0.mk ((by rw [hg]; exact Nat.ne_of_lt (blk_lt (g := gb5707) (o := .cells #[.slice A0_0 l0_0.length c0_0] 28 (0, 0)) BK5707.out) : gb5707 ≠ gb5709)); have n7_ := Aside0.mk ((by rw [hg]; exact Nat.ne_of_gt (blk_lt (g := gb5707) (o := .cells #[.slice A0_0 l0_0.length c0_0] 28 (0, 0)) BK5707.out) : gb5709 ≠ gb5707)); have n8_ := Aside0.mk ((by rw [hg]; exact Nat.ne_of_lt (blk_lt (g := gb5708) (o := .cells #[.slice A1_0 l1_0.length c1_0] 28 (0, 0)) BK5708.out) : gb5708 ≠ gb5709)); have n9_ := Aside0.mk ((by rw [hg]; exact Nat.ne_of_gt (blk_lt (g := gb5708) (o := .cells #[.slice A1_0 l1_0.length c1_0] 28 (0, 0)) BK5708.out) : gb5709 ≠ gb5708)); clear BK5707 BK5708; clear HB; have BK5707 := n0_; have BK5708 := n1_; have HB := n2_; have BK5709 := n3_; have GW5709 := n4_; have GE5709 := n5_; have NB5707_5709 := n6_; have NB5709_5707 := n7_; have NB5708_5709 := n8_; have NB5709_5708 := n9_; clear n0_ n1_ n2_ n3_ n4_ n5_ n6_ n7_ n8_ n9_; clear hb hbox hg; have hnb10 := NB5707_5708.out; have hnc10 := NB5708_5707.out; have hnb11 := NB5707_5709.out; have hnc11 := NB5709_5707.out; have hcz12_0 : w9.cell? ⟨gb5707, 0, none⟩ = some (.slice A0_0 l0_0.length c0_0) := (blk_cell BK5707.out 0).trans rfl; have hfz12_0 := blk_frozen BK5707.out 0; have hnb13 := NB5708_5709.out; have hnc13 := NB5709_5708.out; have hcz14_0 : w9.cell? ⟨gb5708, 0, none⟩ = some (.slice A1_0 l1_0.length c1_0) := (blk_cell BK5708.out 0).trans rfl; have hfz14_0 := blk_frozen BK5708.out 0) | ((with_reducible refine gate_callee (f := 38) rfl ?_); refine goesL_ (some 12) rfl rfl Try.func38 (by kernel_rfl) rfl #[.agg #[.slice A0_0 l0_0.length c0_0], .agg #[.slice A1_0 l1_0.length c1_0]] rfl (by (try simp only [List.map_toArray, List.map_cons, List.map_nil]); first | done | rfl) ?_; (with_reducible refine (demurrageref01_Quot.calls k _ _ l0_0 _ _ l1_0 t5710 t5713 _ ?side1 ?side2 ?side3 ?side4 A3.out).mono ?_); (case side1 => repeat (first | exact (Kd.C_below HR0_0.out HB.out) | (with_reducible refine Kd.C_alloc ?_ _) | (with_reducible refine Kd.C_drewN ?_ _) | (with_reducible refine Kd.C_drew ?_))); (case side2 => exact HC0_0.out); (case side3 => repeat (first | exact (Kd.C_below HR1_0.out HB.out) | (with_reducible refine Kd.C_alloc ?_ _) | (with_reducible refine Kd.C_drewN ?_ _) | (with_reducible refine Kd.C_drew ?_))); (case side4 => exact HC1_0.out); rintro e w15 ⟨v5711, v5714, rfl, ho0, ho1, hb⟩; refine ⟨_, rfl, ?_⟩; have n0_ := Aside0.mk (Kd.R_lower ho0 (below_size (by repeat (first | (with_reducible first | exact HB.out | apply below_alloc | apply pw_below_drewN | apply below_drew1 | refine below_set ?_ GE5707.out | refine below_set ?_ GE5708.out | refine below_set ?_ GE5709.out) | exact HB.out)))); have n1_ := Aside0.mk (Kd.R_lower ho1 (below_size (by repeat (first | (with_reducible first | exact HB.out | apply below_alloc | apply pw_below_drewN | apply below_drew1 | refine below_set ?_ GE5707.out | refine below_set ?_ GE5708.out | refine below_set ?_ GE5709.out) | exact HB.out)))); have n2_ := Aside0.mk (blk_below BK5707.out hb); have n3_ := Aside0.mk (blk_below BK5708.out hb); have n4_ := Aside0.mk (blk_below BK5709.out hb); have n5_ := Aside0.mk (below_step (by repeat (first | (with_reducible first | exact HB.out | apply below_alloc | apply pw_below_drewN | apply below_drew1 | refine below_set ?_ GE5707.out | refine below_set ?_ GE5708.out | refine below_set ?_ GE5709.out) | exact HB.out)) hb); clear BK5707 BK5708 BK5709 HB; have HO5712 := n0_; have HO5715 := n1_; have BK5707 := n2_; have BK5708 := n3_; have BK5709 := n4_; have HB := n5_; clear n0_ n1_ n2_ n3_ n4_ n5_; (try clear hb); (try clear ho0); (try clear ho1)) | ((with_reducible refine gate_dst (N := 5) rfl ?_); refine box_event ?hg (N := 5) ?hd (cs := #[.slice none 0 0]) (t := 28) ?hr ?_; (case hd => rfl); (case hg => rfl); (case hr => go_simp); intro gb5716 hg w16 hbox hb; have n0_ := Aside0.mk (Kd.R_below HO5712.out hb); have n1_ := Aside0.mk (Kd.R_below HO5715.out hb); have n2_ := Aside0.mk (blk_below BK5707.out hb); have n3_ := Aside0.mk (blk_below BK5708.out hb); have n4_ := Aside0.mk (blk_below BK5709.out hb); have n5_ := Aside0.mk (below_step (by repeat (first | (with_reducible first | exact HB.out | apply below_alloc | apply pw_below_drewN | apply below_drew1 | refine below_set ?_ GE5707.out | refine below_set ?_ GE5708.out | refine below_set ?_ GE5709.out) | exact HB.out)) hb); have n6_ := Aside0.mk (hbox); have n7_ := Aside0.mk ((by rw [hg]; exact (below_size (by repeat (first | (with_reducible first | exact HB.out | apply below_alloc | apply pw_below_drewN | apply below_drew1 | refine below_set ?_ GE5707.out | refine below_set ?_ GE5708.out | refine below_set ?_ GE5709.out) | exact HB.out))) : w.heap.size ≤ gb5716)); have n8_ := Aside0.mk ((by rw [hg]; exact (below_size (by repeat (first | (with_reducible first | exact HB.out | apply below_alloc | apply pw_below_drewN | apply below_drew1 | refine below_set ?_ GE5707.out | refine below_set ?_ GE5708.out | refine below_set ?_ GE5709.out) | exact HB.out))) : w.heap.size ≤ gb5716)); have n9_ := Aside0.mk ((by rw [hg]; exact Nat.ne_of_lt (blk_lt (g := gb5707) (o := .cells #[.slice A0_0 l0_0.length c0_0] 28 (0, 0)) BK5707.out) : gb5707 ≠ gb5716)); have n10_ := Aside0.mk ((by rw [hg]; exact Nat.ne_of_gt (blk_lt (g := gb5707) (o := .cells #[.slice A0_0 l0_0.length c0_0] 28 (0, 0)) BK5707.out) : gb5716 ≠ gb5707)); have n11_ := Aside0.mk ((by rw [hg]; exact Nat.ne_of_lt (blk_lt (g := gb5708) (o := .cells #[.slice A1_0 l1_0.length c1_0] 28 (0, 0)) BK5708.out) : gb5708 ≠ gb5716)); have n12_ := Aside0.mk ((by rw [hg]; exact Nat.ne_of_gt (blk_lt (g := gb5708) (o := .cells #[.slice A1_0 l1_0.length c1_0] 28 (0, 0)) BK5708.out) : gb5716 ≠ gb5708)); have n13_ := Aside0.mk ((by rw [hg]; exact Nat.ne_of_lt (blk_lt (g := gb5709) (o := .cells #[.slice none 0 0] 28 (0, 0)) BK5709.out) : gb5709 ≠ gb5716)); have n14_ := Aside0.mk ((by rw [hg]; exact Nat.ne_of_gt (blk_lt (g := gb5709) (o := .cells #[.slice none 0 0] 28 (0, 0)) BK5709.out) : gb5716 ≠ gb5709)); clear HO5712 HO5715 BK5707 BK5708; clear BK5709 HB; have HO5712 := n0_; have HO5715 := n1_; have BK5707 := n2_; have BK5708 := n3_; have BK5709 := n4_; have HB := n5_; have BK5716 := n6_; have GW5716 := n7_; have GE5716 := n8_; have NB5707_5716 := n9_; have NB5716_5707 := n10_; have NB5708_5716 := n11_; have NB5716_5708 := n12_; have NB5709_5716 := n13_; have NB5716_5709 := n14_; clear n0_ n1_ n2_ n3_ n4_ n5_ n6_ n7_ n8_ n9_ n10_ n11_ n12_ n13_ n14_; clear hb hbox hg) | ((with_reducible refine gate_dst (N := 6) rfl ?_); refine box_event ?hg (N := 6) ?hd (cs := #[.slice none 0 0]) (t := 28) ?hr ?_; (case hd => rfl); (case hg => rfl); (case hr => go_simp); intro gb5717 hg w17 hbox hb; have n0_ := Aside0.mk (Kd.R_below HO5712.out hb); have n1_ := Aside0.mk (Kd.R_below HO5715.out hb); have n2_ := Aside0.mk (blk_below BK5707.out hb); have n3_ := Aside0.mk (blk_below BK5708.out hb); have n4_ := Aside0.mk (blk_below BK5709.out hb); have n5_ := Aside0.mk (blk_below BK5716.out hb); have n6_ := Aside0.mk (below_step (by repeat (first | (with_reducible first | exact HB.out | apply below_alloc | apply pw_below_drewN | apply below_drew1 | refine below_set ?_ GE5707.out | refine below_set ?_ GE5708.out | refine below_set ?_ GE5709.out | refine below_set ?_ GE5716.out) | exact HB.out)) hb); have n7_ := Aside0.mk (hbox); have n8_ := Aside0.mk ((by rw [hg]; exact (below_size (by repeat (first | (with_reducible first | exact HB.out | apply below_alloc | apply pw_below_drewN | apply below_drew1 | refine below_set ?_ GE5707.out | refine below_set ?_ GE5708.out | refine below_set ?_ GE5709.out | refine below_set ?_ GE5716.out) | exact HB.out))) : w.heap.size ≤ gb5717)); have n9_ := Aside0.mk ((by rw [hg]; exact (below_size (by repeat (first | (with_reducible first | exact HB.out | apply below_alloc | apply pw_below_drewN | apply below_drew1 | refine below_set ?_ GE5707.out | refine below_set ?_ GE5708.out | refine below_set ?_ GE5709.out | refine below_set ?_ GE5716.out) | exact HB.out))) : w.heap.size ≤ gb5717)); have n10_ := Aside0.mk ((by rw [hg]; exact Nat.ne_of_lt (blk_lt (g := gb5707) (o := .cells #[.slice A0_0 l0_0.length c0_0] 28 (0, 0)) BK5707.out) : gb5707 ≠ gb5717)); have n11_ := Aside0.mk ((by rw [hg]; exact Nat.ne_of_gt (blk_lt (g := gb5707) (o := .cells #[.slice A0_0 l0_0.length c0_0] 28 (0, 0)) BK5707.out) : gb5717 ≠ gb5707)); have n12_ := Aside0.mk ((by rw [hg]; exact Nat.ne_of_lt (blk_lt (g := gb5708) (o := .cells #[.slice A1_0 l1_0.length c1_0] 28 (0, 0)) BK5708.out) : gb5708 ≠ gb5717)); have n13_ := Aside0.mk ((by rw [hg]; exact Nat.ne_of_gt (blk_lt (g := gb5708) (o := .cells #[.slice A1_0 l1_0.length c1_0] 28 (0, 0)) BK5708.out) : gb5717 ≠ gb5708)); have n14_ := Aside0.mk ((by rw [hg]; exact Nat.ne_of_lt (blk_lt (g := gb5709) (o := .cells #[.slice none 0 0] 28 (0, 0)) BK5709.out) : gb5709 ≠ gb5717)); have n15_ := Aside0.mk ((by rw [hg]; exact Nat.ne_of_gt (blk_lt (g := gb5709) (o := .cells #[.slice none 0 0] 28 (0, 0)) BK5709.out) : gb5717 ≠ gb5709)); have n16_ := Aside0.mk ((by rw [hg]; exact Nat.ne_of_lt (blk_lt (g := gb5716) (o := .cells #[.slice none 0 0] 28 (0, 0)) BK5716.out) : gb5716 ≠ gb5717)); have n17_ := Aside0.mk ((by rw [hg]; exact Nat.ne_of_gt (blk_lt (g := gb5716) (o := .cells #[.slice none 0 0] 28 (0, 0)) BK5716.out) : gb5717 ≠ gb5716)); clear HO5712 HO5715 BK5707 BK5708; clear BK5709 BK5716; clear HB; have HO5712 := n0_; have HO5715 := n1_; have BK5707 := n2_; have BK5708 := n3_; have BK5709 := n4_; have BK5716 := n5_; have HB := n6_; have BK5717 := n7_; have GW5717 := n8_; have GE5717 := n9_; have NB5707_5717 := n10_; have NB5717_5707 := n11_; have NB5708_5717 := n12_; have NB5717_5708 := n13_; have NB5709_5717 := n14_; have NB5717_5709 := n15_; have NB5716_5717 := n16_; have NB5717_5716 := n17_; clear n0_ n1_ n2_ n3_ n4_ n5_ n6_ n7_ n8_ n9_ n10_ n11_ n12_ n13_ n14_ n15_ n16_ n17_; clear hb hbox hg; obtain ⟨Ao18, co18, eo18⟩ := Kd.R_slice HO5712.out; subst eo18; have hnb19 := NB5716_5707.out; have hnc19 := NB5707_5716.out; have hnb20 := NB5716_5708.out; have hnc20 := NB5708_5716.out; have hnb21 := NB5716_5709.out; have hnc21 := NB5709_5716.out; have hnb22 := NB5716_5717.out; have hnc22 := NB5717_5716.out; have hcz23_0 : w17.cell? ⟨gb5716, 0, none⟩ = some (.slice none 0 0) := (blk_cell BK5716.out 0).trans rfl; have hfz23_0 := blk_frozen BK5716.out 0; obtain ⟨Ao24, co24, eo24⟩ := Kd.R_slice HO5715.out; subst eo24; have hnb25 := NB5717_5707.out; have hnc25 := NB5707_5717.out; have hnb26 := NB5717_5708.out; have hnc26 := NB5708_5717.out; have hnb27 := NB5717_5709.out; have hnc27 := NB5709_5717.out; have hcz28_0 : w17.cell? ⟨gb5717, 0, none⟩ = some (.slice none 0 0) := (blk_cell BK5717.out 0).trans rfl; have hfz28_0 := blk_frozen BK5717.out 0))
  have n0_ : Aside0 (Kd.R (Kd.int .i64) 3 ((w17.setCell ⟨gb5716, 0, none⟩ (.slice Ao18 t5710.length co18)).setCell ⟨gb5717, 0, none⟩ (.slice Ao24 t5713.length co24)) w.heap.size (fun k_ => some k_ ≠ (.slice Ao24 t5713.length co24 : Value).ownBlock) (.slice Ao18 t5710.length co18) t5710) := ⟨by (with_reducible repeat (first | apply Kd.R_alloc | apply Kd.R_drewN | apply Kd.R_drew)); exact Kd.R_mono (Kd.R_far (p := ⟨gb5717, 0, none⟩) (Kd.R_far (p := ⟨gb5716, 0, none⟩) (Kd.R_types (Kd.R_types HO5712.out BK5716.out (by decide)) BK5717.out (by decide)) (fun _ hk => hk.1.2) (.slice Ao18 t5710.length co18)) (fun _ hk => hk.2) (.slice Ao24 t5713.length co24)) (fun _ hk => hk.1.1)⟩
  have n1_ : Aside0 (Kd.R (Kd.int .i64) 3 ((w17.setCell ⟨gb5716, 0, none⟩ (.slice Ao18 t5710.length co18)).setCell ⟨gb5717, 0, none⟩ (.slice Ao24 t5713.length co24)) w.heap.size (fun k_ => some k_ ≠ (.slice Ao18 t5710.length co18 : Value).ownBlock) (.slice Ao24 t5713.length co24) t5713) := ⟨by (with_reducible repeat (first | apply Kd.R_alloc | apply Kd.R_drewN | apply Kd.R_drew)); exact Kd.R_mono (Kd.R_far (p := ⟨gb5717, 0, none⟩) (Kd.R_far (p := ⟨gb5716, 0, none⟩) (Kd.R_types (Kd.R_types HO5715.out BK5716.out (by decide)) BK5717.out (by decide)) (fun _ hk => hk.1.2) (.slice Ao18 t5710.length co18)) (fun _ hk => hk.2) (.slice Ao24 t5713.length co24)) (fun _ hk => hk.1.1)⟩
  have n2_ : Aside0 (((w17.setCell ⟨gb5716, 0, none⟩ (.slice Ao18 t5710.length co18)).setCell ⟨gb5717, 0, none⟩ (.slice Ao24 t5713.length co24)).heap[gb5707]? = some (.cells #[.slice A0_0 l0_0.length c0_0] 28 (0, 0))) := ⟨by refine blk_far ?_ NB5707_5717.out _; refine blk_far ?_ NB5707_5716.out _; exact BK5707.out⟩
  have n3_ : Aside0 (((w17.setCell ⟨gb5716, 0, none⟩ (.slice Ao18 t5710.length co18)).setCell ⟨gb5717, 0, none⟩ (.slice Ao24 t5713.length co24)).heap[gb5708]? = some (.cells #[.slice A1_0 l1_0.length c1_0] 28 (0, 0))) := ⟨by refine blk_far ?_ NB5708_5717.out _; refine blk_far ?_ NB5708_5716.out _; exact BK5708.out⟩
  have n4_ : Aside0 (((w17.setCell ⟨gb5716, 0, none⟩ (.slice Ao18 t5710.length co18)).setCell ⟨gb5717, 0, none⟩ (.slice Ao24 t5713.length co24)).heap[gb5709]? = some (.cells #[.slice none 0 0] 28 (0, 0))) := ⟨by refine blk_far ?_ NB5709_5717.out _; refine blk_far ?_ NB5709_5716.out _; exact BK5709.out⟩
  have n5_ : Aside0 (((w17.setCell ⟨gb5716, 0, none⟩ (.slice Ao18 t5710.length co18)).setCell ⟨gb5717, 0, none⟩ (.slice Ao24 t5713.length co24)).heap[gb5716]? = some (.cells #[.slice Ao18 t5710.length co18] 28 (0, 0))) := ⟨by refine blk_far ?_ NB5716_5717.out _; refine blk_put (cs := #[.slice none 0 0]) ?_ 0 _ rfl; exact BK5716.out⟩
  have n6_ : Aside0 (((w17.setCell ⟨gb5716, 0, none⟩ (.slice Ao18 t5710.length co18)).setCell ⟨gb5717, 0, none⟩ (.slice Ao24 t5713.length co24)).heap[gb5717]? = some (.cells #[.slice Ao24 t5713.length co24] 28 (0, 0))) := ⟨by refine blk_put (cs := #[.slice none 0 0]) ?_ 0 _ rfl; refine blk_far ?_ NB5717_5716.out _; exact BK5717.out⟩
  have n7_ : Aside0 (Below w.heap.size w ((w17.setCell ⟨gb5716, 0, none⟩ (.slice Ao18 t5710.length co18)).setCell ⟨gb5717, 0, none⟩ (.slice Ao24 t5713.length co24))) := ⟨by repeat (first | (with_reducible first | exact HB.out | apply below_alloc | apply pw_below_drewN | apply below_drew1 | refine below_set ?_ GE5707.out | refine below_set ?_ GE5708.out | refine below_set ?_ GE5709.out | refine below_set ?_ GE5716.out | refine below_set ?_ GE5717.out) | exact HB.out)⟩
  (try clear HO5712)
  (try clear HO5715)
  (try clear BK5707)
  (try clear BK5708)
  (try clear BK5709)
  (try clear BK5716)
  (try clear BK5717)
  (try clear HB)
  generalize ((w17.setCell ⟨gb5716, 0, none⟩ (.slice Ao18 t5710.length co18)).setCell ⟨gb5717, 0, none⟩ (.slice Ao24 t5713.length co24)) = w29 at n0_ n1_ n2_ n3_ n4_ n5_ n6_ n7_ ⊢
  have HO5712 := n0_
  have HO5715 := n1_
  have BK5707 := n2_
  have BK5708 := n3_
  have BK5709 := n4_
  have BK5716 := n5_
  have BK5717 := n6_
  have HB := n7_
  clear n0_ n1_ n2_ n3_ n4_ n5_ n6_ n7_
  have n0_ := Aside0.mk (Kd.R_drew HO5712.out)
  have n1_ := Aside0.mk (Kd.R_drew HO5715.out)
  have n2_ := Aside0.mk (blk_drew BK5707.out)
  have n3_ := Aside0.mk (blk_drew BK5708.out)
  have n4_ := Aside0.mk (blk_drew BK5709.out)
  have n5_ := Aside0.mk (blk_drew BK5716.out)
  have n6_ := Aside0.mk (blk_drew BK5717.out)
  have n7_ := Aside0.mk (below_drew1 HB.out)
  clear HO5712 HO5715 BK5707 BK5708 BK5709 BK5716 BK5717 HB
  have HO5712 := n0_
  have HO5715 := n1_
  have BK5707 := n2_
  have BK5708 := n3_
  have BK5709 := n4_
  have BK5716 := n5_
  have BK5717 := n6_
  have HB := n7_
  clear n0_ n1_ n2_ n3_ n4_ n5_ n6_ n7_
  refine start_ (n := 6) (S := fun w' => w'.cell? ⟨gb5717, 0, none⟩ = some (.slice Ao24 t5713.length co24) ∧ w'.cell? ⟨gb5708, 0, none⟩ = some (.slice A1_0 l1_0.length c1_0)) (ds := []) (demurrageref03_Near.ups 6 0) (by kernel_rfl) rfl rfl ⟨(blk_cell BK5717.out 0).trans rfl, (blk_cell BK5708.out 0).trans rfl⟩ (fun hHeld => ?_)
  generalize w29.drew = w30 at HO5712 HO5715 BK5707 BK5708 BK5709 BK5716 BK5717 HB hHeld ⊢
  refine take_ (i := 0) (N := some 15) (v := ?_) (a' := ?_) (demurrageref03_Near.ups 6 1) rfl rfl (by kernel_rfl) (fun _ _ _ h => h) (Or.inl ⟨by rfl, ?_⟩) hHeld ?_ ?_
  rotate_left
  · rintro w' ⟨s0, s1⟩
    go_simp
    with_reducible rfl
  rotate_left
  · simp only [Act.put, List.setIfInBounds_toArray, List.set_cons_zero, List.set_cons_succ, i64_w, i32_w]
    rfl
  refine take_ (i := 1) (N := some 16) (v := ?_) (a' := ?_) (demurrageref03_Near.ups 6 3) rfl rfl (by kernel_rfl) (fun _ _ _ h => h) (Or.inl ⟨by rfl, ?_⟩) hHeld ?_ ?_
  rotate_left
  · rintro w' ⟨s0, s1⟩
    go_simp
    with_reducible rfl
  rotate_left
  · simp only [Act.put, List.setIfInBounds_toArray, List.set_cons_zero, List.set_cons_succ, i64_w, i32_w]
    rfl
  refine take_ (i := 3) (N := some 18) (v := ?_) (a' := ?_) (demurrageref03_Near.ups 6 11) rfl rfl (by kernel_rfl) (fun _ _ _ h => h) (Or.inl ⟨by rfl, ?_⟩) hHeld ?_ ?_
  rotate_left
  · rintro w' ⟨s0, s1⟩
    go_simp
    with_reducible rfl
  rotate_left
  · simp only [Act.put, List.setIfInBounds_toArray, List.set_cons_zero, List.set_cons_succ, i64_w, i32_w]
    rfl
  refine one_ (i := 2) (N := some 17) (demurrageref03_Near.ups 6 15) rfl rfl (by kernel_rfl) (by decide) (fun K hK => ?_)
  refine goes_ Try.func30 (by kernel_rfl) rfl #[.agg #[.slice Ao24 t5713.length co24], .agg #[.slice Ao24 t5713.length co24]] (by rfl) rfl rfl (by (try simp only [List.map_toArray, List.map_cons, List.map_nil]); first | done | rfl) ?_
  with_reducible refine (demurrageref01_Plus.calls k _ _ t5713 _ _ t5713 t5718 _ ?side1 ?side2 ?side3 ?side4 A4.out).mono ?_
  (case side1 => repeat (first | exact (Kd.R_reads' HO5715.out).2.2 | (with_reducible refine Kd.C_alloc ?_ _) | (with_reducible refine Kd.C_drewN ?_ _) | (with_reducible refine Kd.C_drew ?_)))
  (case side2 => exact (Kd.R_reads' HO5715.out).2.1)
  (case side3 => repeat (first | exact (Kd.R_reads' HO5715.out).2.2 | (with_reducible refine Kd.C_alloc ?_ _) | (with_reducible refine Kd.C_drewN ?_ _) | (with_reducible refine Kd.C_drew ?_)))
  (case side4 => exact (Kd.R_reads' HO5715.out).2.1)
  rintro e w31 ⟨v5719, rfl, ho0, hb⟩
  refine ⟨_, rfl, ?_⟩
  have n0_ := Aside0.mk (Kd.R_elder' HO5712.out (Kd.R_base ho0) hb)
  have n1_ := Aside0.mk (Kd.R_elder' HO5715.out (Kd.R_base ho0) hb)
  have n2_ := Aside0.mk (Kd.R_lower (Kd.R_new' (Kd.R_new' ho0 (Kd.R_lt HO5712.out)) (Kd.R_lt HO5715.out)) (below_size (by repeat (first | (with_reducible first | exact HB.out | apply below_alloc | apply pw_below_drewN | apply below_drew1 | refine below_set ?_ GE5707.out | refine below_set ?_ GE5708.out | refine below_set ?_ GE5709.out | refine below_set ?_ GE5716.out | refine below_set ?_ GE5717.out) | exact HB.out))))
  have n3_ := Aside0.mk (blk_below BK5707.out hb)
  have n4_ := Aside0.mk (blk_below BK5708.out hb)
  have n5_ := Aside0.mk (blk_below BK5709.out hb)
  have n6_ := Aside0.mk (blk_below BK5716.out hb)
  have n7_ := Aside0.mk (blk_below BK5717.out hb)
  have n8_ := Aside0.mk (below_step (by repeat (first | (with_reducible first | exact HB.out | apply below_alloc | apply pw_below_drewN | apply below_drew1 | refine below_set ?_ GE5707.out | refine below_set ?_ GE5708.out | refine below_set ?_ GE5709.out | refine below_set ?_ GE5716.out | refine below_set ?_ GE5717.out) | exact HB.out)) hb)
  clear HO5712 HO5715 BK5707 BK5708 BK5709 BK5716 BK5717 HB
  have HO5712 := n0_
  have HO5715 := n1_
  have HO5720 := n2_
  have BK5707 := n3_
  have BK5708 := n4_
  have BK5709 := n5_
  have BK5716 := n6_
  have BK5717 := n7_
  have HB := n8_
  clear n0_ n1_ n2_ n3_ n4_ n5_ n6_ n7_ n8_
  (try clear hb)
  (try clear hb2)
  (try clear hk)
  (try clear hi)
  (try clear ho0)
  obtain ⟨Ao32, co32, eo32⟩ := Kd.R_slice HO5720.out
  (first | subst eo32 | (injection eo32 with f1_ f2_ f3_; have f4_ := f1_.symm; have f5_ := f3_.symm; clear f1_ f2_ f3_; subst f4_; subst f5_))
  refine hK.out _ _ ⟨(blk_cell BK5717.out 0).trans rfl, (blk_cell BK5708.out 0).trans rfl⟩ (fun hHeld => ?_)
  clear hK K
  refine norm_ (a' := ?_) ?_ ?_
  rotate_left
  · show Act.put _ (some 17) _ = _
    simp only [Act.put, List.setIfInBounds_toArray, List.set_cons_zero, List.set_cons_succ, i64_w, i32_w]
    rfl
  refine one_ (i := 4) (N := some 19) (demurrageref03_Near.ups 6 31) rfl rfl (by kernel_rfl) (by decide) (fun K hK => ?_)
  refine goes_ Try.func31 (by kernel_rfl) rfl #[.agg #[.slice Ao32 t5718.length co32], .agg #[.slice A1_0 l1_0.length c1_0]] (by rfl) rfl rfl (by (try simp only [List.map_toArray, List.map_cons, List.map_nil]); first | done | rfl) ?_
  with_reducible refine (demurrageref01_Cmp.calls k _ _ t5718 _ _ l1_0 t5721 _ ?side1 ?side2 ?side3 ?side4 A5.out).mono ?_
  (case side1 => repeat (first | exact (Kd.R_reads' HO5720.out).2.2 | (with_reducible refine Kd.C_alloc ?_ _) | (with_reducible refine Kd.C_drewN ?_ _) | (with_reducible refine Kd.C_drew ?_)))
  (case side2 => exact (Kd.R_reads' HO5720.out).2.1)
  (case side3 => repeat (first | exact (Kd.C_below HR1_0.out HB.out) | (with_reducible refine Kd.C_alloc ?_ _) | (with_reducible refine Kd.C_drewN ?_ _) | (with_reducible refine Kd.C_drew ?_)))
  (case side4 => exact HC1_0.out)
  rintro e w33 ⟨rfl, hb⟩
  refine ⟨_, rfl, ?_⟩
  have n0_ := Aside0.mk (Kd.R_below HO5712.out hb)
  have n1_ := Aside0.mk (Kd.R_below HO5715.out hb)
  have n2_ := Aside0.mk (Kd.R_below HO5720.out hb)
  have n3_ := Aside0.mk (blk_below BK5707.out hb)
  have n4_ := Aside0.mk (blk_below BK5708.out hb)
  have n5_ := Aside0.mk (blk_below BK5709.out hb)
  have n6_ := Aside0.mk (blk_below BK5716.out hb)
  have n7_ := Aside0.mk (blk_below BK5717.out hb)
  have n8_ := Aside0.mk (below_step (by repeat (first | (with_reducible first | exact HB.out | apply below_alloc | apply pw_below_drewN | apply below_drew1 | refine below_set ?_ GE5707.out | refine below_set ?_ GE5708.out | refine below_set ?_ GE5709.out | refine below_set ?_ GE5716.out | refine below_set ?_ GE5717.out) | exact HB.out)) hb)
  clear HO5712 HO5715 HO5720 BK5707 BK5708 BK5709 BK5716 BK5717 HB
  have HO5712 := n0_
  have HO5715 := n1_
  have HO5720 := n2_
  have BK5707 := n3_
  have BK5708 := n4_
  have BK5709 := n5_
  have BK5716 := n6_
  have BK5717 := n7_
  have HB := n8_
  clear n0_ n1_ n2_ n3_ n4_ n5_ n6_ n7_ n8_
  (try clear hb)
  (try clear hb2)
  (try clear hk)
  (try clear hi)
  refine hK.out _ _ ⟨(blk_cell BK5717.out 0).trans rfl, (blk_cell BK5708.out 0).trans rfl⟩ (fun hHeld => ?_)
  clear hK K
  refine norm_ (a' := ?_) ?_ ?_
  rotate_left
  · show Act.put _ (some 19) _ = _
    simp only [Act.put, List.setIfInBounds_toArray, List.set_cons_zero, List.set_cons_succ, i64_w, i32_w]
    rfl
  refine pure_ (i := 5) (N := some 7) (v := ?_) (a' := ?_) (demurrageref03_Near.ups 6 63) rfl rfl (by kernel_rfl) (fun _ _ _ h => h) (Or.inl ⟨by rfl, ?_⟩) ?_ ?_
  rotate_left
  · intro w'
    go_simp
    with_reducible rfl
  rotate_left
  · simp only [Act.put, List.setIfInBounds_toArray, List.set_cons_zero, List.set_cons_succ, i64_w, i32_w]
    rfl
  refine done_ (by kernel_rfl) ?_
  go_upto_region 3 with (fail)
  go_cut [8] (fun v8 wc => ∃ (kq : Nat) (x8_5 : Bool), v8 = .bool x8_5 ∧ Aside0 (demurrageref03_Near.j0 kq t5721 x8_5 t5710 = some r) ∧ Aside0 (kq ≤ k) ∧ Aside0 (Kd.R (Kd.int .i64) 3 wc w.heap.size (fun k_ => some k_ ≠ ((.slice Ao24 t5713.length co24) : Value).ownBlock) (.slice Ao18 t5710.length co18) t5710) ∧ Aside0 (Kd.R (Kd.int .i64) 3 wc w.heap.size (fun k_ => some k_ ≠ ((.slice Ao18 t5710.length co18) : Value).ownBlock) (.slice Ao24 t5713.length co24) t5713) ∧ Aside0 (wc.heap[gb5707]? = some (.cells #[(.slice A0_0 l0_0.length c0_0)] 28 (0, 0))) ∧ Aside0 (wc.heap[gb5708]? = some (.cells #[(.slice A1_0 l1_0.length c1_0)] 28 (0, 0))) ∧ Aside0 (wc.heap[gb5709]? = some (.cells #[(.slice none 0 0)] 28 (0, 0))) ∧ Aside0 (wc.heap[gb5716]? = some (.cells #[(.slice Ao18 t5710.length co18)] 28 (0, 0))) ∧ Aside0 (wc.heap[gb5717]? = some (.cells #[(.slice Ao24 t5713.length co24)] 28 (0, 0))) ∧ Aside0 (Below w.heap.size w wc))
  case first =>
    have H := HC6.out
    clear HC6
    by_cases c34 : (t5710.length : Int) > 0
    · rw [if_pos c34] at H
      have c34b0 : decide (0 < (t5710.length : Int)) = true := decide_eq_true c34
      have c34b1 : decide (0 < t5710.length) = true := decide_eq_true (by omega)
      clear c34
      (first | rw [c34b0] | (simp only [i64_w, i32_w]; rw [c34b0]) | rw [c34b1] | skip)
      by_cases c35 : 0 < (t5710.length : Int)
      · rw [if_pos c35] at H
        have c35b0 : decide (0 < (t5710.length : Int)) = true := decide_eq_true c35
        have c35b1 : decide (0 < t5710.length) = true := decide_eq_true (by omega)
        clear c35
        have H' := Aside0.mk H
        clear H
        have hnb36 := NB5716_5707.out
        have hnc36 := NB5707_5716.out
        have hnb37 := NB5716_5708.out
        have hnc37 := NB5708_5716.out
        have hnb38 := NB5716_5709.out
        have hnc38 := NB5709_5716.out
        have hnb39 := NB5716_5717.out
        have hnc39 := NB5717_5716.out
        have hcz40_0 : w33.cell? ⟨gb5716, 0, none⟩ = some (.slice Ao18 t5710.length co18) := (blk_cell BK5716.out 0).trans rfl
        have hfz40_0 := blk_frozen BK5716.out 0
        have p5722 : 0 ≤ (0 : Int) := (by omega)
        have q5722 : 0 < (t5710.length : Int) := of_decide_eq_true (by first | (with_reducible assumption) | assumption)
        obtain ⟨ad5722, e5722, hx5722_0⟩ := Kd.at_int (Kd.R_reads' HO5712.out).2.2 0 p5722 q5722
        cases e5722
        have qi5722 : (0 < t5710.length) = True := eq_true (by omega)
        (try rw [show ((0 : Int)).toNat = 0 from rfl] at hx5722_0)
        (try rw [Addr.add_zero'] at hx5722_0)
        replace p5722 := eq_true p5722
        replace q5722 := eq_true q5722
        go_wp2
        go_meet
        case rel => exact ⟨_, (((Int.tmod (rd t5710 0) 2) == 1)), (by first | rfl | (simp; done) | (simp [*]; done)), H', ⟨by first | omega | exact Nat.le_refl _⟩, ⟨by (with_reducible repeat (first | apply Kd.R_alloc | apply Kd.R_drewN | apply Kd.R_drew)); exact Kd.R_mono HO5712.out (fun _ hk => hk.1)⟩, ⟨by (with_reducible repeat (first | apply Kd.R_alloc | apply Kd.R_drewN | apply Kd.R_drew)); exact Kd.R_mono HO5715.out (fun _ hk => hk.1)⟩, BK5707, BK5708, BK5709, BK5716, BK5717, ⟨by repeat (first | (with_reducible first | exact HB.out | apply below_alloc | apply pw_below_drewN | apply below_drew1 | refine below_set ?_ GE5707.out | refine below_set ?_ GE5708.out | refine below_set ?_ GE5709.out | refine below_set ?_ GE5716.out | refine below_set ?_ GE5717.out) | exact HB.out)⟩⟩
      · rw [if_neg c35] at H
        exact absurd H (by simp)
    · rw [if_neg c34] at H
      have c34b0 : decide (0 < (t5710.length : Int)) = false := decide_eq_false c34
      have c34b1 : decide (0 < t5710.length) = false := decide_eq_false (by omega)
      clear c34
      (first | rw [c34b0] | (simp only [i64_w, i32_w]; rw [c34b0]) | rw [c34b1] | skip)
      have H' := Aside0.mk H
      clear H
      have hnb41 := NB5716_5707.out
      have hnc41 := NB5707_5716.out
      have hnb42 := NB5716_5708.out
      have hnc42 := NB5708_5716.out
      have hnb43 := NB5716_5709.out
      have hnc43 := NB5709_5716.out
      have hnb44 := NB5716_5717.out
      have hnc44 := NB5717_5716.out
      have hcz45_0 : w33.cell? ⟨gb5716, 0, none⟩ = some (.slice Ao18 t5710.length co18) := (blk_cell BK5716.out 0).trans rfl
      have hfz45_0 := blk_frozen BK5716.out 0
      go_wp2
      go_meet
      case rel => exact ⟨_, (false), (by first | rfl | (simp; done) | (simp [*]; done)), H', ⟨by first | omega | exact Nat.le_refl _⟩, ⟨by (with_reducible repeat (first | apply Kd.R_alloc | apply Kd.R_drewN | apply Kd.R_drew)); exact Kd.R_mono HO5712.out (fun _ hk => hk.1)⟩, ⟨by (with_reducible repeat (first | apply Kd.R_alloc | apply Kd.R_drewN | apply Kd.R_drew)); exact Kd.R_mono HO5715.out (fun _ hk => hk.1)⟩, BK5707, BK5708, BK5709, BK5716, BK5717, ⟨by repeat (first | (with_reducible first | exact HB.out | apply below_alloc | apply pw_below_drewN | apply below_drew1 | refine below_set ?_ GE5707.out | refine below_set ?_ GE5708.out | refine below_set ?_ GE5709.out | refine below_set ?_ GE5716.out | refine below_set ?_ GE5717.out) | exact HB.out)⟩⟩
  case rest =>
    clear HC6
    try clear c1
    try clear c2
    try clear p2
    try clear c3
    try clear c4
    try clear p5
    try clear q5
    try clear hx5
    try clear qi5
    try clear c7
    try clear c10
    try clear c11
    try clear c13
    try clear c19
    try clear c20
    try clear c21
    try clear c22
    try clear c25
    try clear c26
    try clear c27
    try clear c30
    try clear c31
    try clear c34
    try clear c34b0
    try clear c34b1
    try clear c35
    try clear c35b0
    try clear c35b1
    try clear c36
    try clear c37
    try clear c38
    try clear c39
    try clear c41
    try clear c42
    try clear c43
    try clear c44
    try clear hcz12_0
    try clear hcz14_0
    try clear hcz23_0
    try clear hcz28_0
    try clear hcz40_0
    try clear hcz45_0
    try clear hfz12_0
    try clear hfz14_0
    try clear hfz23_0
    try clear hfz28_0
    try clear hfz40_0
    try clear hfz45_0
    try clear hx5722_0
    try clear p5722
    try clear q5722
    obtain ⟨kq, x8_5, rfl, HA, HJ5, HO_5717000, HO_5718000, BK5707, BK5708, BK5709, BK5716, BK5717, HB⟩ := hcut
    cases kq with
    | zero => exact absurd HA.out (by simp [demurrageref03_Near.j0])
    | succ kj5 =>
      have H := HA.out
      clear HA
      simp only [demurrageref03_Near.j0] at H
      have HC46 := Aside0.mk H
      clear H
      go_upto_region 4 with (fail)
      go_cut [40] (fun v40 wc => ∃ (kq : Nat) (x40_45 : Bool), v40 = .bool x40_45 ∧ Aside0 (demurrageref03_Near.j1 kq x40_45 t5710 = some r) ∧ Aside0 (kq ≤ kj5) ∧ Aside0 (Kd.R (Kd.int .i64) 3 wc w.heap.size (fun k_ => some k_ ≠ ((.slice Ao24 t5713.length co24) : Value).ownBlock) (.slice Ao18 t5710.length co18) t5710) ∧ Aside0 (Kd.R (Kd.int .i64) 3 wc w.heap.size (fun k_ => some k_ ≠ ((.slice Ao18 t5710.length co18) : Value).ownBlock) (.slice Ao24 t5713.length co24) t5713) ∧ Aside0 (wc.heap[gb5707]? = some (.cells #[(.slice A0_0 l0_0.length c0_0)] 28 (0, 0))) ∧ Aside0 (wc.heap[gb5708]? = some (.cells #[(.slice A1_0 l1_0.length c1_0)] 28 (0, 0))) ∧ Aside0 (wc.heap[gb5709]? = some (.cells #[(.slice none 0 0)] 28 (0, 0))) ∧ Aside0 (wc.heap[gb5716]? = some (.cells #[(.slice Ao18 t5710.length co18)] 28 (0, 0))) ∧ Aside0 (wc.heap[gb5717]? = some (.cells #[(.slice Ao24 t5713.length co24)] 28 (0, 0))) ∧ Aside0 (Below w.heap.size w wc))
      case first =>
        have H := HC46.out
        clear HC46
        by_cases c47 : t5721 > 0
        · rw [if_pos c47] at H
          have c47b0 : decide (0 < t5721) = true := decide_eq_true c47
          clear c47
          (first | rw [c47b0] | (simp only [i64_w, i32_w]; rw [c47b0]) | rw [c47b1] | skip)
          have H' := Aside0.mk H
          clear H
          go_wp2
          go_meet
          case rel => exact ⟨_, (true), (by first | rfl | (simp; done) | (simp [*]; done)), H', ⟨by have := HJ5.out; first | omega | exact Nat.le_refl _⟩, ⟨by (with_reducible repeat (first | apply Kd.R_alloc | apply Kd.R_drewN | apply Kd.R_drew)); exact HO_5717000.out⟩, ⟨by (with_reducible repeat (first | apply Kd.R_alloc | apply Kd.R_drewN | apply Kd.R_drew)); exact HO_5718000.out⟩, BK5707, BK5708, BK5709, BK5716, BK5717, ⟨by repeat (first | (with_reducible first | exact HB.out | apply below_alloc | apply pw_below_drewN | apply below_drew1 | refine below_set ?_ GE5707.out | refine below_set ?_ GE5708.out | refine below_set ?_ GE5709.out | refine below_set ?_ GE5716.out | refine below_set ?_ GE5717.out) | exact HB.out)⟩⟩
        · rw [if_neg c47] at H
          have c47b0 : decide (0 < t5721) = false := decide_eq_false c47
          clear c47
          (first | rw [c47b0] | (simp only [i64_w, i32_w]; rw [c47b0]) | rw [c47b1] | skip)
          by_cases c48 : t5721 = 0
          · rw [if_pos c48] at H
            have c48b0 : (t5721 == 0) = true := beq_iff_eq.mpr c48
            have c48b1 : (t5721 != 0) = false := bne_eq_false_iff_eq.mpr c48
            clear c48
            have H' := Aside0.mk H
            clear H
            go_wp2
            go_meet
            case rel => exact ⟨_, (x8_5), (by first | rfl | (simp; done) | (simp [*]; done)), H', ⟨by have := HJ5.out; first | omega | exact Nat.le_refl _⟩, ⟨by (with_reducible repeat (first | apply Kd.R_alloc | apply Kd.R_drewN | apply Kd.R_drew)); exact HO_5717000.out⟩, ⟨by (with_reducible repeat (first | apply Kd.R_alloc | apply Kd.R_drewN | apply Kd.R_drew)); exact HO_5718000.out⟩, BK5707, BK5708, BK5709, BK5716, BK5717, ⟨by repeat (first | (with_reducible first | exact HB.out | apply below_alloc | apply pw_below_drewN | apply below_drew1 | refine below_set ?_ GE5707.out | refine below_set ?_ GE5708.out | refine below_set ?_ GE5709.out | refine below_set ?_ GE5716.out | refine below_set ?_ GE5717.out) | exact HB.out)⟩⟩
          · rw [if_neg c48] at H
            have c48b0 : (t5721 == 0) = false := beq_eq_false_iff_ne.mpr c48
            have c48b1 : (t5721 != 0) = true := bne_iff_ne.mpr c48
            have H' := Aside0.mk H
            clear H
            go_wp2
            go_meet
            case rel => exact ⟨_, (false), (by first | rfl | (simp; done) | (simp [*]; done)), H', ⟨by have := HJ5.out; first | omega | exact Nat.le_refl _⟩, ⟨by (with_reducible repeat (first | apply Kd.R_alloc | apply Kd.R_drewN | apply Kd.R_drew)); exact HO_5717000.out⟩, ⟨by (with_reducible repeat (first | apply Kd.R_alloc | apply Kd.R_drewN | apply Kd.R_drew)); exact HO_5718000.out⟩, BK5707, BK5708, BK5709, BK5716, BK5717, ⟨by repeat (first | (with_reducible first | exact HB.out | apply below_alloc | apply pw_below_drewN | apply below_drew1 | refine below_set ?_ GE5707.out | refine below_set ?_ GE5708.out | refine below_set ?_ GE5709.out | refine below_set ?_ GE5716.out | refine below_set ?_ GE5717.out) | exact HB.out)⟩⟩
      case rest =>
        clear HC46
        try clear c1
        try clear c2
        try clear p2
        try clear c3
        try clear c4
        try clear p5
        try clear q5
        try clear hx5
        try clear qi5
        try clear c7
        try clear c10
        try clear c11
        try clear c13
        try clear c19
        try clear c20
        try clear c21
        try clear c22
        try clear c25
        try clear c26
        try clear c27
        try clear c30
        try clear c31
        try clear c34
        try clear c34b0
        try clear c34b1
        try clear c35
        try clear c35b0
        try clear c35b1
        try clear c36
        try clear c37
        try clear c38
        try clear c39
        try clear c41
        try clear c42
        try clear c43
        try clear c44
        try clear c47
        try clear c47b0
        try clear c47b1
        try clear c48
        try clear c48b0
        try clear c48b1
        try clear hcz12_0
        try clear hcz14_0
        try clear hcz23_0
        try clear hcz28_0
        try clear hcz40_0
        try clear hcz45_0
        try clear hfz12_0
        try clear hfz14_0
        try clear hfz23_0
        try clear hfz28_0
        try clear hfz40_0
        try clear hfz45_0
        try clear hx5722_0
        try clear p2
        try clear p5
        try clear p5722
        try clear q5
        try clear q5722
        obtain ⟨kq, x40_45, rfl, HA, HJ45, HO_5717000, HO_5718000, BK5707, BK5708, BK5709, BK5716, BK5717, HB⟩ := hcut
        cases kq with
        | zero => exact absurd HA.out (by simp [demurrageref03_Near.j1])
        | succ kj45 =>
          have H := HA.out
          clear HA
          simp only [demurrageref03_Near.j1] at H
          by_cases c49 : x40_45 = true
          · subst c49
            have H1 : ((demurrageref01_From.f kj45 1).bind fun t5723 => ((demurrageref01_Plus.f kj45 t5710 t5723).bind fun t5726 => (some t5726))) = some r := by rw [if_pos rfl] at H; exact H
            clear H
            have H := H1
            clear H1
            replace H := Option.bind_eq_some_iff.mp H
            obtain ⟨t5723, A500, H⟩ := H
            replace H : ((demurrageref01_Plus.f kj45 t5710 t5723).bind fun t5726 => (some t5726)) = some r := H
            have A50 := Aside0.mk A500
            clear A500
            replace H := Option.bind_eq_some_iff.mp H
            obtain ⟨t5726, A510, H⟩ := H
            replace H : (some t5726) = some r := H
            have A51 := Aside0.mk A510
            clear A510
            obtain rfl := Option.some.inj H
            try go_wp2
            have n0_ := Aside0.mk (Kd.R_drew HO_5717000.out)
            have n1_ := Aside0.mk (Kd.R_drew HO_5718000.out)
            have n2_ := Aside0.mk (blk_drew BK5707.out)
            have n3_ := Aside0.mk (blk_drew BK5708.out)
            have n4_ := Aside0.mk (blk_drew BK5709.out)
            have n5_ := Aside0.mk (blk_drew BK5716.out)
            have n6_ := Aside0.mk (blk_drew BK5717.out)
            have n7_ := Aside0.mk (below_drew1 HB.out)
            clear HO_5717000 HO_5718000 BK5707 BK5708 BK5709 BK5716 BK5717 HB
            have HO_5717000 := n0_
            have HO_5718000 := n1_
            have BK5707 := n2_
            have BK5708 := n3_
            have BK5709 := n4_
            have BK5716 := n5_
            have BK5717 := n6_
            have HB := n7_
            clear n0_ n1_ n2_ n3_ n4_ n5_ n6_ n7_
            refine start_ (n := 4) (S := fun w' => w'.cell? ⟨gb5716, 0, none⟩ = some (.slice Ao18 t5710.length co18)) (ds := []) #[false, false, false, false] (by kernel_rfl) rfl rfl ((blk_cell BK5716.out 0).trans rfl) (fun hHeld => ?_)
            generalize wc.drew = w52 at HO_5717000 HO_5718000 BK5707 BK5708 BK5709 BK5716 BK5717 HB hHeld ⊢
            refine take_ (i := 0) (N := some 41) (v := ?_) (a' := ?_) #[true, false, false, false] rfl rfl (by kernel_rfl) (fun _ _ _ h => h) (Or.inl ⟨by rfl, ?_⟩) hHeld ?_ ?_
            rotate_left
            · intro w' s0
              go_simp
              with_reducible rfl
            rotate_left
            · simp only [Act.put, List.setIfInBounds_toArray, List.set_cons_zero, List.set_cons_succ, i64_w, i32_w]
              rfl
            refine one_ (i := 1) (N := some 42) #[true, true, false, false] rfl rfl (by kernel_rfl) (by decide) (fun K hK => ?_)
            refine goes_ Try.func71 (by kernel_rfl) rfl #[.int .i64 1] (by rfl) rfl rfl (by (try simp only [List.map_toArray, List.map_cons, List.map_nil]); first | done | rfl) ?_
            with_reducible refine (demurrageref01_From.calls kj45 1 t5723 _ A50.out).mono ?_
            rintro e w53 ⟨v5724, rfl, ho0, hb⟩
            refine ⟨_, rfl, ?_⟩
            have n0_ := Aside0.mk (Kd.R_elder' HO_5717000.out (Kd.R_base ho0) hb)
            have n1_ := Aside0.mk (Kd.R_elder' HO_5718000.out (Kd.R_base ho0) hb)
            have n2_ := Aside0.mk (Kd.R_lower (Kd.R_new' (Kd.R_new' ho0 (Kd.R_lt HO_5717000.out)) (Kd.R_lt HO_5718000.out)) (below_size (by repeat (first | (with_reducible first | exact HB.out | apply below_alloc | apply pw_below_drewN | apply below_drew1 | refine below_set ?_ GE5707.out | refine below_set ?_ GE5708.out | refine below_set ?_ GE5709.out | refine below_set ?_ GE5716.out | refine below_set ?_ GE5717.out) | exact HB.out))))
            have n3_ := Aside0.mk (blk_below BK5707.out hb)
            have n4_ := Aside0.mk (blk_below BK5708.out hb)
            have n5_ := Aside0.mk (blk_below BK5709.out hb)
            have n6_ := Aside0.mk (blk_below BK5716.out hb)
            have n7_ := Aside0.mk (blk_below BK5717.out hb)
            have n8_ := Aside0.mk (below_step (by repeat (first | (with_reducible first | exact HB.out | apply below_alloc | apply pw_below_drewN | apply below_drew1 | refine below_set ?_ GE5707.out | refine below_set ?_ GE5708.out | refine below_set ?_ GE5709.out | refine below_set ?_ GE5716.out | refine below_set ?_ GE5717.out) | exact HB.out)) hb)
            clear HO_5717000 HO_5718000 BK5707 BK5708 BK5709 BK5716 BK5717 HB
            have HO_5717000 := n0_
            have HO_5718000 := n1_
            have HO5725 := n2_
            have BK5707 := n3_
            have BK5708 := n4_
            have BK5709 := n5_
            have BK5716 := n6_
            have BK5717 := n7_
            have HB := n8_
            clear n0_ n1_ n2_ n3_ n4_ n5_ n6_ n7_ n8_
            (try clear hb)
            (try clear hb2)
            (try clear hk)
            (try clear hi)
            (try clear ho0)
            obtain ⟨Ao54, co54, eo54⟩ := Kd.R_slice HO5725.out
            (first | subst eo54 | (injection eo54 with f1_ f2_ f3_; have f4_ := f1_.symm; have f5_ := f3_.symm; clear f1_ f2_ f3_; subst f4_; subst f5_))
            refine hK.out _ _ ((blk_cell BK5716.out 0).trans rfl) (fun hHeld => ?_)
            clear hK K
            refine norm_ (a' := ?_) ?_ ?_
            rotate_left
            · show Act.put _ (some 42) _ = _
              simp only [Act.put, List.setIfInBounds_toArray, List.set_cons_zero, List.set_cons_succ, i64_w, i32_w]
              rfl
            refine one_ (i := 2) (N := some 43) #[true, true, true, false] rfl rfl (by kernel_rfl) (by decide) (fun K hK => ?_)
            refine goes_ Try.func30 (by kernel_rfl) rfl #[.agg #[.slice Ao18 t5710.length co18], .agg #[.slice Ao54 t5723.length co54]] (by rfl) rfl rfl (by (try simp only [List.map_toArray, List.map_cons, List.map_nil]); first | done | rfl) ?_
            with_reducible refine (demurrageref01_Plus.calls kj45 _ _ t5710 _ _ t5723 t5726 _ ?side1 ?side2 ?side3 ?side4 A51.out).mono ?_
            (case side1 => repeat (first | exact (Kd.R_reads' HO_5717000.out).2.2 | (with_reducible refine Kd.C_alloc ?_ _) | (with_reducible refine Kd.C_drewN ?_ _) | (with_reducible refine Kd.C_drew ?_)))
            (case side2 => exact (Kd.R_reads' HO_5717000.out).2.1)
            (case side3 => repeat (first | exact (Kd.R_reads' HO5725.out).2.2 | (with_reducible refine Kd.C_alloc ?_ _) | (with_reducible refine Kd.C_drewN ?_ _) | (with_reducible refine Kd.C_drew ?_)))
            (case side4 => exact (Kd.R_reads' HO5725.out).2.1)
            rintro e w55 ⟨v5727, rfl, ho0, hb⟩
            refine ⟨_, rfl, ?_⟩
            have n0_ := Aside0.mk (Kd.R_elder' HO_5717000.out (Kd.R_base ho0) hb)
            have n1_ := Aside0.mk (Kd.R_elder' HO_5718000.out (Kd.R_base ho0) hb)
            have n2_ := Aside0.mk (Kd.R_elder' HO5725.out (Kd.R_base ho0) hb)
            have n3_ := Aside0.mk (Kd.R_lower (Kd.R_new' (Kd.R_new' (Kd.R_new' ho0 (Kd.R_lt HO_5717000.out)) (Kd.R_lt HO_5718000.out)) (Kd.R_lt HO5725.out)) (below_size (by repeat (first | (with_reducible first | exact HB.out | apply below_alloc | apply pw_below_drewN | apply below_drew1 | refine below_set ?_ GE5707.out | refine below_set ?_ GE5708.out | refine below_set ?_ GE5709.out | refine below_set ?_ GE5716.out | refine below_set ?_ GE5717.out) | exact HB.out))))
            have n4_ := Aside0.mk (blk_below BK5707.out hb)
            have n5_ := Aside0.mk (blk_below BK5708.out hb)
            have n6_ := Aside0.mk (blk_below BK5709.out hb)
            have n7_ := Aside0.mk (blk_below BK5716.out hb)
            have n8_ := Aside0.mk (blk_below BK5717.out hb)
            have n9_ := Aside0.mk (below_step (by repeat (first | (with_reducible first | exact HB.out | apply below_alloc | apply pw_below_drewN | apply below_drew1 | refine below_set ?_ GE5707.out | refine below_set ?_ GE5708.out | refine below_set ?_ GE5709.out | refine below_set ?_ GE5716.out | refine below_set ?_ GE5717.out) | exact HB.out)) hb)
            clear HO_5717000 HO_5718000 HO5725 BK5707 BK5708 BK5709 BK5716 BK5717 HB
            have HO_5717000 := n0_
            have HO_5718000 := n1_
            have HO5725 := n2_
            have HO5728 := n3_
            have BK5707 := n4_
            have BK5708 := n5_
            have BK5709 := n6_
            have BK5716 := n7_
            have BK5717 := n8_
            have HB := n9_
            clear n0_ n1_ n2_ n3_ n4_ n5_ n6_ n7_ n8_ n9_
            (try clear hb)
            (try clear hb2)
            (try clear hk)
            (try clear hi)
            (try clear ho0)
            obtain ⟨Ao56, co56, eo56⟩ := Kd.R_slice HO5728.out
            (first | subst eo56 | (injection eo56 with f1_ f2_ f3_; have f4_ := f1_.symm; have f5_ := f3_.symm; clear f1_ f2_ f3_; subst f4_; subst f5_))
            refine hK.out _ _ ((blk_cell BK5716.out 0).trans rfl) (fun hHeld => ?_)
            clear hK K
            refine norm_ (a' := ?_) ?_ ?_
            rotate_left
            · show Act.put _ (some 43) _ = _
              simp only [Act.put, List.setIfInBounds_toArray, List.set_cons_zero, List.set_cons_succ, i64_w, i32_w]
              rfl
            refine one_ (i := 3) (N := none) #[true, true, true, true] rfl rfl (by kernel_rfl) (by decide) (fun K hK => ?_)
            have hs57 : w55.cell? ⟨gb5709, 0, none⟩ = some (.slice none 0 0) := (blk_cell BK5709.out 0).trans rfl
            have hfs57 := blk_frozen BK5709.out 0
            have hns57_0 := NB5707_5709.out
            have hns57_1 := NB5708_5709.out
            have hns57_3 := NB5716_5709.out
            have hns57_4 := NB5717_5709.out
            have hms57_0 := NB5709_5707.out
            have hms57_1 := NB5709_5708.out
            have hms57_3 := NB5709_5716.out
            have hms57_4 := NB5709_5717.out
            refine skip_ (w1 := ?_) (by rfl) rfl ?_ ?_
            rotate_left
            · go_simp
              rfl
            refine hK.out _ _ (((cell_far (p := ⟨gb5709, _, none⟩) NB5716_5709.out _).trans (hHeld))) (fun hHeld => ?_)
            clear hK K
            refine done_ (by kernel_rfl) ?_
            try go_wp2
            refine bodyPost_ret (results_cell_row rfl _ _ gb5709 28 #[.slice Ao56 t5726.length co56] (0, 0) _ rfl (by refine blk_put (cs := #[.slice none 0 0]) ?_ 0 _ rfl; exact BK5709.out) Try.underlying28 rfl (by kernel_rfl)) rfl ?_
            exact ⟨_, by rfl, by (with_reducible repeat (first | apply Kd.R_alloc | apply Kd.R_drewN | apply Kd.R_drew)); exact Kd.R_mono (Kd.R_far (p := ⟨gb5709, 0, none⟩) (Kd.R_types HO5728.out BK5709.out (by decide)) (fun _ hk => hk.2) (.slice Ao56 t5726.length co56)) (fun _ hk => trivial), by repeat (first | (with_reducible first | exact HB.out | apply below_alloc | apply pw_below_drewN | apply below_drew1 | refine below_set ?_ GE5707.out | refine below_set ?_ GE5708.out | refine below_set ?_ GE5709.out | refine below_set ?_ GE5716.out | refine below_set ?_ GE5717.out) | exact HB.out)⟩
          · replace c49 := Bool.eq_false_iff.mpr c49
            subst c49
            have H1 : (some t5710) = some r := by rw [if_neg (show ¬ (false = true) by decide)] at H; exact H
            clear H
            have H := H1
            clear H1
            obtain rfl := Option.some.inj H
            have hnb58 := NB5716_5707.out
            have hnc58 := NB5707_5716.out
            have hnb59 := NB5716_5708.out
            have hnc59 := NB5708_5716.out
            have hnb60 := NB5716_5709.out
            have hnc60 := NB5709_5716.out
            have hnb61 := NB5716_5717.out
            have hnc61 := NB5717_5716.out
            have hcz62_0 : wc.cell? ⟨gb5716, 0, none⟩ = some (.slice Ao18 t5710.length co18) := (blk_cell BK5716.out 0).trans rfl
            have hfz62_0 := blk_frozen BK5716.out 0
            have hnb63 := NB5709_5707.out
            have hnc63 := NB5707_5709.out
            have hnb64 := NB5709_5708.out
            have hnc64 := NB5708_5709.out
            have hnb65 := NB5709_5717.out
            have hnc65 := NB5717_5709.out
            have hcz66_0 : wc.cell? ⟨gb5709, 0, none⟩ = some (.slice none 0 0) := (blk_cell BK5709.out 0).trans rfl
            have hfz66_0 := blk_frozen BK5709.out 0
            go_wp2
            refine bodyPost_ret (results_cell_row rfl _ _ gb5709 28 #[.slice Ao18 t5710.length co18] (0, 0) _ rfl (by refine blk_put (cs := #[.slice none 0 0]) ?_ 0 _ rfl; exact BK5709.out) Try.underlying28 rfl (by kernel_rfl)) rfl ?_
            exact ⟨_, by rfl, by (with_reducible repeat (first | apply Kd.R_alloc | apply Kd.R_drewN | apply Kd.R_drew)); exact Kd.R_mono (Kd.R_far (p := ⟨gb5709, 0, none⟩) (Kd.R_types HO_5717000.out BK5709.out (by decide)) (fun _ hk => hk.2) (.slice Ao18 t5710.length co18)) (fun _ hk => trivial), by repeat (first | (with_reducible first | exact HB.out | apply below_alloc | apply pw_below_drewN | apply below_drew1 | refine below_set ?_ GE5707.out | refine below_set ?_ GE5708.out | refine below_set ?_ GE5709.out | refine below_set ?_ GE5716.out | refine below_set ?_ GE5717.out) | exact HB.out)⟩

end Go.Proofs.Ytcdbmmlnmefoeaa.X
