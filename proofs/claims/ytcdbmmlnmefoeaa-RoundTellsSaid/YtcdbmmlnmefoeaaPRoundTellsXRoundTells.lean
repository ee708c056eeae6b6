-- CUT by prune.py, a program of this session, to what the claim reaches (out of a text that the kit's printer, the session's programs or the session wrote)
import Derived.Test.YtcdbmmlnmefoeaaPRoundTellsX0
import Derived.Test.YtcdbmmlnmefoeaaPRoundTellsXRound
import Derived.Test.YtcdbmmlnmefoeaaPRoundTellsXRefDown
import Derived.Test.YtcdbmmlnmefoeaaPRoundTellsXSThree
namespace Go.Proofs.Ytcdbmmlnmefoeaa.X
open Go.RowKit Go.Proofs.YtcdbmmlnmefoeaaW.PrintWords Go.Proofs.YtcdbmmlnmefoeaaW.PrintLast Go.Proofs.YtcdbmmlnmefoeaaW.PrintMore
set_option linter.unusedVariables false
set_option linter.unusedSimpArgs false

def demurragelaw03_RoundTells.f (k : Nat) (a0_0 : Int) (a0_1 : Int) (a1 : Int) : Option (Bool) := (demurragelaw03_shown.f k).bind fun t5742 => ((round_Down.f a0_0 a0_1 a1).bind fun bt5743 => ((demurrageref03_Down.f k a0_0 a0_1 a1).bind fun bt5745 => ((round_Even.f k a0_0 a0_1 a1).bind fun bt5747 => ((demurrageref03_Even.f k a0_0 a0_1 a1).bind fun bt5749 => (if t5742 = true then (if bt5743.1 = bt5745.1 then (if bt5743.2 = bt5745.2 then (if bt5747.1 = bt5749.1 then (some (bt5747.2 == bt5749.2)) else (none)) else (none)) else (none)) else (none))))))
set_option maxHeartbeats 8000000 in
set_option maxRecDepth 100000 in
theorem demurragelaw03_RoundTells.calls (k : Nat) (a0_0 : Int) (a0_1 : Int) (a1 : Int) (r : Bool) (w : World) (h : demurragelaw03_RoundTells.f k a0_0 a0_1 a1 = some r) :
    Calls Try.prog 16 #[.agg #[.int .u64 a0_0, .int .u64 a0_1], .int .u64 a1] w fun e w' => e = .returned (.bool r) ∧ Below w.heap.size w w' := by
  have hu24 := Try.underlying24
  have HB := Aside0.mk (Below.refl w.heap.size w)
  have H : ((demurragelaw03_shown.f k).bind fun t5742 => ((round_Down.f a0_0 a0_1 a1).bind fun bt5743 => ((demurrageref03_Down.f k a0_0 a0_1 a1).bind fun bt5745 => ((round_Even.f k a0_0 a0_1 a1).bind fun bt5747 => ((demurrageref03_Even.f k a0_0 a0_1 a1).bind fun bt5749 => (if t5742 = true then (if bt5743.1 = bt5745.1 then (if bt5743.2 = bt5745.2 then (if bt5747.1 = bt5749.1 then (some (bt5747.2 == bt5749.2)) else (none)) else (none)) else (none)) else (none))))))) = some r := h
  clear h
  replace H := Option.bind_eq_some_iff.mp H
  obtain ⟨t5742, A30, H⟩ := H
  replace H : ((round_Down.f a0_0 a0_1 a1).bind fun bt5743 => ((demurrageref03_Down.f k a0_0 a0_1 a1).bind fun bt5745 => ((round_Even.f k a0_0 a0_1 a1).bind fun bt5747 => ((demurrageref03_Even.f k a0_0 a0_1 a1).bind fun bt5749 => (if t5742 = true then (if bt5743.1 = bt5745.1 then (if bt5743.2 = bt5745.2 then (if bt5747.1 = bt5749.1 then (some (bt5747.2 == bt5749.2)) else (none)) else (none)) else (none)) else (none)))))) = some r := H
  have A3 := Aside0.mk A30
  clear A30
  replace H := Option.bind_eq_some_iff.mp H
  obtain ⟨⟨t5743, t5744⟩, A40, H⟩ := H
  replace H : ((demurrageref03_Down.f k a0_0 a0_1 a1).bind fun bt5745 => ((round_Even.f k a0_0 a0_1 a1).bind fun bt5747 => ((demurrageref03_Even.f k a0_0 a0_1 a1).bind fun bt5749 => (if t5742 = true then (if t5743 = bt5745.1 then (if t5744 = bt5745.2 then (if bt5747.1 = bt5749.1 then (some (bt5747.2 == bt5749.2)) else (none)) else (none)) else (none)) else (none))))) = some r := H
  have A4 := Aside0.mk A40
  clear A40
  replace H := Option.bind_eq_some_iff.mp H
  obtain ⟨⟨t5745, t5746⟩, A50, H⟩ := H
  replace H : ((round_Even.f k a0_0 a0_1 a1).bind fun bt5747 => ((demurrageref03_Even.f k a0_0 a0_1 a1).bind fun bt5749 => (if t5742 = true then (if t5743 = t5745 then (if t5744 = t5746 then (if bt5747.1 = bt5749.1 then (some (bt5747.2 == bt5749.2)) else (none)) else (none)) else (none)) else (none)))) = some r := H
  have A5 := Aside0.mk A50
  clear A50
  replace H := Option.bind_eq_some_iff.mp H
  obtain ⟨⟨t5747, t5748⟩, A60, H⟩ := H
  replace H : ((demurrageref03_Even.f k a0_0 a0_1 a1).bind fun bt5749 => (if t5742 = true then (if t5743 = t5745 then (if t5744 = t5746 then (if t5747 = bt5749.1 then (some (t5748 == bt5749.2)) else (none)) else (none)) else (none)) else (none))) = some r := H
  have A6 := Aside0.mk A60
  clear A60
  replace H := Option.bind_eq_some_iff.mp H
  obtain ⟨⟨t5749, t5750⟩, A70, H⟩ := H
  replace H : (if t5742 = true then (if t5743 = t5745 then (if t5744 = t5746 then (if t5747 = t5749 then (some (t5748 == t5750)) else (none)) else (none)) else (none)) else (none)) = some r := H
  have A7 := Aside0.mk A70
  clear A70
  by_cases c8 : t5742 = true
  · subst c8
    have H1 : (if t5743 = t5745 then (if t5744 = t5746 then (if t5747 = t5749 then (some (t5748 == t5750)) else (none)) else (none)) else (none)) = some r := by rw [if_pos rfl] at H; exact H
    clear H
    have H := H1
    clear H1
    by_cases c9 : t5743 = t5745
    · rw [if_pos c9] at H
      have c9b0 : (t5743 == t5745) = true := beq_iff_eq.mpr c9
      have c9b1 : (t5743 != t5745) = false := bne_eq_false_iff_eq.mpr c9
      clear c9
      by_cases c10 : t5744 = t5746
      · rw [if_pos c10] at H
        have c10b0 : (t5744 == t5746) = true := beq_iff_eq.mpr c10
        have c10b1 : (t5744 != t5746) = false := bne_eq_false_iff_eq.mpr c10
        clear c10
        by_cases c11 : t5747 = t5749
        · rw [if_pos c11] at H
          have c11b0 : (t5747 == t5749) = true := beq_iff_eq.mpr c11
          have c11b1 : (t5747 != t5749) = false := bne_eq_false_iff_eq.mpr c11
          clear c11
          obtain rfl := Option.some.inj H
          go_enter Try.func16, Try.ntmps16
          go_wp2_with (first | ((with_reducible refine gate_dst (N := 2) rfl ?_); refine box_event ?hg (N := 2) ?hd (cs := #[.int .u64 a0_0, .int .u64 a0_1]) (t := 24) ?hr ?_; (case hd => rfl); (case hg => rfl); (case hr => first | (go_simp; done) | (go_simp; rfl)); intro gb5741 hg w12 hbox hb; have n0_ := Aside0.mk (below_step (by repeat (first | (with_reducible first | exact HB.out | apply below_alloc | apply pw_below_drewN | apply below_drew1) | exact HB.out)) hb); have n1_ := Aside0.mk (hbox); have n2_ := Aside0.mk ((by rw [hg]; exact (below_size (by repeat (first | (with_reducible first | exact HB.out | apply below_alloc | apply pw_below_drewN | apply below_drew1) | exact HB.out))) : w.heap.size ≤ gb5741)); have n3_ := Aside0.mk ((by rw [hg]; exact (below_size (by repeat (first | (with_reducible first | exact HB.out | apply below_alloc | apply pw_below_drewN | apply below_drew1) | exact HB.out))) : w.heap.size ≤ gb5741)); clear HB; have HB := n0_; have BK5741 := n1_; have GW5741 := n2_; have GE5741 := n3_; clear n0_ n1_ n2_ n3_; clear hb hbox hg) | ((with_reducible refine gate_callee (f := 53) rfl ?_); refine goesL_ (some 14) rfl rfl Try.func53 (by kernel_rfl) rfl #[] rfl (by (try simp only [List.map_toArray, List.map_cons, List.map_nil]); first | done | rfl | (simp only [List.length_drop, List.length_take]; rfl)) ?_; (with_reducible refine (demurragelaw03_shown.calls k  true _ A3.out).mono ?_); rintro e w13 ⟨rfl, hb⟩; refine ⟨_, rfl, ?_⟩; have n0_ := Aside0.mk (blk_below (g := gb5741) (o := .cells #[.int .u64 a0_0, .int .u64 a0_1] 24 (0, 0)) (by (with_reducible repeat (first | refine blk_drewN ?_ _ | refine blk_drew ?_ | refine blk_alloc ?_ _)); exact BK5741.out) hb); have n1_ := Aside0.mk (below_step (by repeat (first | (with_reducible first | exact HB.out | apply below_alloc | apply pw_below_drewN | apply below_drew1 | refine below_set ?_ GE5741.out) | exact HB.out)) hb); clear BK5741; clear HB; have BK5741 := n0_; have HB := n1_; clear n0_ n1_; (try clear hb); (try clear hb2); (try clear hk); (try clear hi); have hcz14_0 : w13.cell? ⟨gb5741, 0, none⟩ = some (.int .u64 a0_0) := (blk_cell BK5741.out 0).trans rfl; have hcz14_1 : w13.cell? ⟨gb5741, 1, none⟩ = some (.int .u64 a0_1) := (blk_cell BK5741.out 1).trans rfl; have hfz14_0 := blk_frozen BK5741.out 0; have hfz14_1 := blk_frozen BK5741.out 1) | ((with_reducible refine gate_callee (f := 54) rfl ?_); refine goesL_ (some 18) rfl rfl Try.func54 (by kernel_rfl) rfl #[.agg #[.int .u64 a0_0, .int .u64 a0_1], .int .u64 a1] rfl (by (try simp only [List.map_toArray, List.map_cons, List.map_nil]); first | done | rfl | (simp only [List.length_drop, List.length_take]; rfl)) ?_; (with_reducible refine (round_Down.calls a0_0 a0_1 a1 t5743 t5744 _ A4.out).mono ?_); rintro e w15 ⟨rfl, hb⟩; refine ⟨_, rfl, ?_⟩; have n0_ := Aside0.mk (blk_below (g := gb5741) (o := .cells #[.int .u64 a0_0, .int .u64 a0_1] 24 (0, 0)) (by (with_reducible repeat (first | refine blk_drewN ?_ _ | refine blk_drew ?_ | refine blk_alloc ?_ _)); exact BK5741.out) hb); have n1_ := Aside0.mk (below_step (by repeat (first | (with_reducible first | exact HB.out | apply below_alloc | apply pw_below_drewN | apply below_drew1 | refine below_set ?_ GE5741.out) | exact HB.out)) hb); clear BK5741; clear HB; have BK5741 := n0_; have HB := n1_; clear n0_ n1_; (try clear hb); (try clear hb2); (try clear hk); (try clear hi); have hcz16_0 : w15.cell? ⟨gb5741, 0, none⟩ = some (.int .u64 a0_0) := (blk_cell BK5741.out 0).trans rfl; have hcz16_1 : w15.cell? ⟨gb5741, 1, none⟩ = some (.int .u64 a0_1) := (blk_cell BK5741.out 1).trans rfl; have hfz16_0 := blk_frozen BK5741.out 0; have hfz16_1 := blk_frozen BK5741.out 1) | ((with_reducible refine gate_callee (f := 55) rfl ?_); refine goesL_ (some 24) rfl rfl Try.func55 (by kernel_rfl) rfl #[.agg #[.int .u64 a0_0, .int .u64 a0_1], .int .u64 a1] rfl (by (try simp only [List.map_toArray, List.map_cons, List.map_nil]); first | done | rfl | (simp only [List.length_drop, List.length_take]; rfl)) ?_; (with_reducible refine (demurrageref03_Down.calls k a0_0 a0_1 a1 t5745 t5746 _ A5.out).mono ?_); rintro e w17 ⟨rfl, hb⟩; refine ⟨_, rfl, ?_⟩; have n0_ := Aside0.mk (blk_below (g := gb5741) (o := .cells #[.int .u64 a0_0, .int .u64 a0_1] 24 (0, 0)) (by (with_reducible repeat (first | refine blk_drewN ?_ _ | refine blk_drew ?_ | refine blk_alloc ?_ _)); exact BK5741.out) hb); have n1_ := Aside0.mk (below_step (by repeat (first | (with_reducible first | exact HB.out | apply below_alloc | apply pw_below_drewN | apply below_drew1 | refine below_set ?_ GE5741.out) | exact HB.out)) hb); clear BK5741; clear HB; have BK5741 := n0_; have HB := n1_; clear n0_ n1_; (try clear hb); (try clear hb2); (try clear hk); (try clear hi); have hcz18_0 : w17.cell? ⟨gb5741, 0, none⟩ = some (.int .u64 a0_0) := (blk_cell BK5741.out 0).trans rfl; have hcz18_1 : w17.cell? ⟨gb5741, 1, none⟩ = some (.int .u64 a0_1) := (blk_cell BK5741.out 1).trans rfl; have hfz18_0 := blk_frozen BK5741.out 0; have hfz18_1 := blk_frozen BK5741.out 1) | ((with_reducible refine gate_callee (f := 56) rfl ?_); refine goesL_ (some 30) rfl rfl Try.func56 (by kernel_rfl) rfl #[.agg #[.int .u64 a0_0, .int .u64 a0_1], .int .u64 a1] rfl (by (try simp only [List.map_toArray, List.map_cons, List.map_nil]); first | done | rfl | (simp only [List.length_drop, List.length_take]; rfl)) ?_; (with_reducible refine (round_Even.calls k a0_0 a0_1 a1 t5747 t5748 _ A6.out).mono ?_); rintro e w19 ⟨rfl, hb⟩; refine ⟨_, rfl, ?_⟩; have n0_ := Aside0.mk (blk_below (g := gb5741) (o := .cells #[.int .u64 a0_0, .int .u64 a0_1] 24 (0, 0)) (by (with_reducible repeat (first | refine blk_drewN ?_ _ | refine blk_drew ?_ | refine blk_alloc ?_ _)); exact BK5741.out) hb); have n1_ := Aside0.mk (below_step (by repeat (first | (with_reducible first | exact HB.out | apply below_alloc | apply pw_below_drewN | apply below_drew1 | refine below_set ?_ GE5741.out) | exact HB.out)) hb); clear BK5741; clear HB; have BK5741 := n0_; have HB := n1_; clear n0_ n1_; (try clear hb); (try clear hb2); (try clear hk); (try clear hi); have hcz20_0 : w19.cell? ⟨gb5741, 0, none⟩ = some (.int .u64 a0_0) := (blk_cell BK5741.out 0).trans rfl; have hcz20_1 : w19.cell? ⟨gb5741, 1, none⟩ = some (.int .u64 a0_1) := (blk_cell BK5741.out 1).trans rfl; have hfz20_0 := blk_frozen BK5741.out 0; have hfz20_1 := blk_frozen BK5741.out 1) | ((with_reducible refine gate_callee (f := 57) rfl ?_); refine goesL_ (some 36) rfl rfl Try.func57 (by kernel_rfl) rfl #[.agg #[.int .u64 a0_0, .int .u64 a0_1], .int .u64 a1] rfl (by (try simp only [List.map_toArray, List.map_cons, List.map_nil]); first | done | rfl | (simp only [List.length_drop, List.length_take]; rfl)) ?_; (with_reducible refine (demurrageref03_Even.calls k a0_0 a0_1 a1 t5749 t5750 _ A7.out).mono ?_); rintro e w21 ⟨rfl, hb⟩; refine ⟨_, rfl, ?_⟩; have n0_ := Aside0.mk (blk_below (g := gb5741) (o := .cells #[.int .u64 a0_0, .int .u64 a0_1] 24 (0, 0)) (by (with_reducible repeat (first | refine blk_drewN ?_ _ | refine blk_drew ?_ | refine blk_alloc ?_ _)); exact BK5741.out) hb); have n1_ := Aside0.mk (below_step (by repeat (first | (with_reducible first | exact HB.out | apply below_alloc | apply pw_below_drewN | apply below_drew1 | refine below_set ?_ GE5741.out) | exact HB.out)) hb); clear BK5741; clear HB; have BK5741 := n0_; have HB := n1_; clear n0_ n1_; (try clear hb); (try clear hb2); (try clear hk); (try clear hi)))
          go_ret
          exact ⟨by first | rfl | (simp [errW_none, errW_some] <;> rfl) | (simp [*, errW_none, errW_some] <;> rfl), by repeat (first | (with_reducible first | exact HB.out | apply below_alloc | apply pw_below_drewN | apply below_drew1 | refine below_set ?_ GE5741.out) | exact HB.out)⟩
        · rw [if_neg c11] at H
          exact absurd H (by simp)
      · rw [if_neg c10] at H
        exact absurd H (by simp)
    · rw [if_neg c9] at H
      exact absurd H (by simp)
  · replace c8 := Bool.eq_false_iff.mpr c8
    subst c8
    have H1 : (none) = some r := by rw [if_neg (show ¬ (false = true) by decide)] at H; exact H
    clear H
    have H := H1
    clear H1
    exact absurd H (by simp)

end Go.Proofs.Ytcdbmmlnmefoeaa.X
