-- CUT by prune.py, a program of this session, to what the claim reaches (out of a text that the kit's printer, the session's programs or the session wrote)
import Derived.Test.YtcdbmmlnmefoeaaPRoundPartsX0
import Derived.Test.YtcdbmmlnmefoeaaPRoundPartsXRound
import Derived.Test.YtcdbmmlnmefoeaaPRoundPartsXRoundPart
namespace Go.Proofs.Ytcdbmmlnmefoeaa.X
open Go.RowKit Go.Proofs.YtcdbmmlnmefoeaaW.PrintWords Go.Proofs.YtcdbmmlnmefoeaaW.PrintLast Go.Proofs.YtcdbmmlnmefoeaaW.PrintMore
set_option linter.unusedVariables false
set_option linter.unusedSimpArgs false

def demurragelaw03_wide.f (a0 : Int) : Option (Int × Int) := some (0, a0)
set_option maxHeartbeats 8000000 in
set_option maxRecDepth 100000 in
theorem demurragelaw03_wide.calls (a0 : Int) (r1 : Int) (r2 : Int) (w : World) (h : demurragelaw03_wide.f a0 = some (r1, r2)) :
    Calls Try.prog 60 #[.int .u64 a0] w fun e w' => e = .returned (.agg #[.int .u64 r1, .int .u64 r2]) ∧ Below w.heap.size w w' := by
  have hu24 := Try.underlying24
  have HB := Aside0.mk (Below.refl w.heap.size w)
  have H : (some (0, a0)) = some (r1, r2) := h
  clear h
  simp only [Option.some.injEq, Prod.mk.injEq] at H
  obtain ⟨rfl, rfl⟩ := H
  go_enter Try.func60, Try.ntmps60
  go_wp2_with (first | ((with_reducible refine gate_dst (N := 2) rfl ?_); refine box_event ?hg (N := 2) ?hd (cs := #[.int .u64 0, .int .u64 0]) (t := 24) ?hr ?_; (case hd => rfl); (case hg => rfl); (case hr => first | (go_simp; done) | (go_simp; rfl)); intro gb5661 hg w2 hbox hb; have n0_ := Aside0.mk (below_step (by repeat (first | (with_reducible first | exact HB.out | apply below_alloc | apply pw_below_drewN | apply below_drew1) | exact HB.out)) hb); have n1_ := Aside0.mk (hbox); have n2_ := Aside0.mk ((by rw [hg]; exact (below_size (by repeat (first | (with_reducible first | exact HB.out | apply below_alloc | apply pw_below_drewN | apply below_drew1) | exact HB.out))) : w.heap.size ≤ gb5661)); have n3_ := Aside0.mk ((by rw [hg]; exact (below_size (by repeat (first | (with_reducible first | exact HB.out | apply below_alloc | apply pw_below_drewN | apply below_drew1) | exact HB.out))) : w.heap.size ≤ gb5661)); clear HB; have HB := n0_; have BK5661 := n1_; have GW5661 := n2_; have GE5661 := n3_; clear n0_ n1_ n2_ n3_; clear hb hbox hg; have hcz3_0 : w2.cell? ⟨gb5661, 0, none⟩ = some (.int .u64 0) := (blk_cell BK5661.out 0).trans rfl; have hcz3_1 : w2.cell? ⟨gb5661, 1, none⟩ = some (.int .u64 0) := (blk_cell BK5661.out 1).trans rfl; have hfz3_0 := blk_frozen BK5661.out 0; have hfz3_1 := blk_frozen BK5661.out 1))
  refine bodyPost_ret (results_cell_row rfl _ _ gb5661 24 #[.int .u64 0, .int .u64 a0] (0, 0) _ rfl (by (with_reducible repeat (first | refine blk_drewN ?_ _ | refine blk_drew ?_ | refine blk_alloc ?_ _)); refine blk_put (cs := #[.int .u64 0, .int .u64 0]) ?_ 1 _ rfl; (with_reducible repeat (first | refine blk_drewN ?_ _ | refine blk_drew ?_ | refine blk_alloc ?_ _)); refine blk_put (cs := #[.int .u64 0, .int .u64 0]) ?_ 0 _ rfl; (with_reducible repeat (first | refine blk_drewN ?_ _ | refine blk_drew ?_ | refine blk_alloc ?_ _)); exact BK5661.out) Try.underlying24 rfl (by kernel_rfl)) rfl ?_
  exact ⟨by first | rfl | (simp [errW_none, errW_some] <;> rfl) | (simp [*, errW_none, errW_some] <;> rfl), by repeat (first | (with_reducible first | exact HB.out | apply below_alloc | apply pw_below_drewN | apply below_drew1 | refine below_set ?_ GE5661.out) | exact HB.out)⟩

def demurragelaw03_shown.f (k : Nat)  : Option (Bool) := (demurragelaw03_wide.f 7).bind fun bt5662 => ((round_Down.f bt5662.1 bt5662.2 2).bind fun bt5664 => ((demurragelaw03_wide.f 7).bind fun bt5666 => ((round_Even.f k bt5666.1 bt5666.2 2).bind fun bt5668 => ((demurragelaw03_wide.f 5).bind fun bt5670 => ((round_Even.f k bt5670.1 bt5670.2 2).bind fun bt5672 => ((round_Part.f k 1000 500 1 4 10000).bind fun bt5674 => ((demurragelaw03_wide.f 1).bind fun bt5676 => ((round_Down.f bt5676.1 bt5676.2 0).bind fun bt5678 => ((round_Even.f k 1 0 1).bind fun bt5680 => ((round_Part.f k (-1) 1 1 1 1).bind fun bt5682 => (if bt5664.1 = 3 then (if bt5664.2 = 0 then (if bt5668.1 = 4 then (if bt5668.2 = 0 then (if bt5672.1 = 2 then (if bt5672.2 = 0 then (if bt5674.1 = 12 then (if bt5674.2 = 0 then (if bt5678.2 = 7 then (if bt5680.2 = 6 then (some (bt5682.2 == 1)) else (none)) else (none)) else (none)) else (none)) else (none)) else (none)) else (none)) else (none)) else (none)) else (none))))))))))))
theorem demurragelaw03_shown.mono : ∀ k, LeO (demurragelaw03_shown.f k ) (demurragelaw03_shown.f (k + 1) ) := by
  intro  k
  unfold demurragelaw03_shown.f
  repeat' first
      | (with_reducible exact round_Even.mono _ _ _ _)
      | (with_reducible exact round_Part.mono _ _ _ _ _ _)
      | (with_reducible exact LeO.refl _)
      | (with_reducible exact LeO.none _)
      | (with_reducible refine LeO.ite ?_ ?_)
      | (with_reducible refine LeO.bind ?_ (fun _ => ?_))
      | exact round_Even.mono _ _ _ _
      | exact round_Part.mono _ _ _ _ _ _
      | exact LeO.none _
      | refine LeO.ite ?_ ?_
      | refine LeO.bind ?_ (fun _ => ?_)
set_option maxHeartbeats 8000000 in
set_option maxRecDepth 100000 in
theorem demurragelaw03_shown.calls (k : Nat)  (r : Bool) (w : World) (h : demurragelaw03_shown.f k  = some r) :
    Calls Try.prog 53 #[] w fun e w' => e = .returned (.bool r) ∧ Below w.heap.size w w' := by
  have hu57 := Try.underlying57
  have hu24 := Try.underlying24
  have HB := Aside0.mk (Below.refl w.heap.size w)
  have H : ((demurragelaw03_wide.f 7).bind fun bt5662 => ((round_Down.f bt5662.1 bt5662.2 2).bind fun bt5664 => ((demurragelaw03_wide.f 7).bind fun bt5666 => ((round_Even.f k bt5666.1 bt5666.2 2).bind fun bt5668 => ((demurragelaw03_wide.f 5).bind fun bt5670 => ((round_Even.f k bt5670.1 bt5670.2 2).bind fun bt5672 => ((round_Part.f k 1000 500 1 4 10000).bind fun bt5674 => ((demurragelaw03_wide.f 1).bind fun bt5676 => ((round_Down.f bt5676.1 bt5676.2 0).bind fun bt5678 => ((round_Even.f k 1 0 1).bind fun bt5680 => ((round_Part.f k (-1) 1 1 1 1).bind fun bt5682 => (if bt5664.1 = 3 then (if bt5664.2 = 0 then (if bt5668.1 = 4 then (if bt5668.2 = 0 then (if bt5672.1 = 2 then (if bt5672.2 = 0 then (if bt5674.1 = 12 then (if bt5674.2 = 0 then (if bt5678.2 = 7 then (if bt5680.2 = 6 then (some (bt5682.2 == 1)) else (none)) else (none)) else (none)) else (none)) else (none)) else (none)) else (none)) else (none)) else (none)) else (none))))))))))))) = some r := h
  clear h
  replace H := Option.bind_eq_some_iff.mp H
  obtain ⟨⟨t5662, t5663⟩, A10, H⟩ := H
  replace H : ((round_Down.f t5662 t5663 2).bind fun bt5664 => ((demurragelaw03_wide.f 7).bind fun bt5666 => ((round_Even.f k bt5666.1 bt5666.2 2).bind fun bt5668 => ((demurragelaw03_wide.f 5).bind fun bt5670 => ((round_Even.f k bt5670.1 bt5670.2 2).bind fun bt5672 => ((round_Part.f k 1000 500 1 4 10000).bind fun bt5674 => ((demurragelaw03_wide.f 1).bind fun bt5676 => ((round_Down.f bt5676.1 bt5676.2 0).bind fun bt5678 => ((round_Even.f k 1 0 1).bind fun bt5680 => ((round_Part.f k (-1) 1 1 1 1).bind fun bt5682 => (if bt5664.1 = 3 then (if bt5664.2 = 0 then (if bt5668.1 = 4 then (if bt5668.2 = 0 then (if bt5672.1 = 2 then (if bt5672.2 = 0 then (if bt5674.1 = 12 then (if bt5674.2 = 0 then (if bt5678.2 = 7 then (if bt5680.2 = 6 then (some (bt5682.2 == 1)) else (none)) else (none)) else (none)) else (none)) else (none)) else (none)) else (none)) else (none)) else (none)) else (none)))))))))))) = some r := H
  have A1 := Aside0.mk A10
  clear A10
  replace H := Option.bind_eq_some_iff.mp H
  obtain ⟨⟨t5664, t5665⟩, A20, H⟩ := H
  replace H : ((demurragelaw03_wide.f 7).bind fun bt5666 => ((round_Even.f k bt5666.1 bt5666.2 2).bind fun bt5668 => ((demurragelaw03_wide.f 5).bind fun bt5670 => ((round_Even.f k bt5670.1 bt5670.2 2).bind fun bt5672 => ((round_Part.f k 1000 500 1 4 10000).bind fun bt5674 => ((demurragelaw03_wide.f 1).bind fun bt5676 => ((round_Down.f bt5676.1 bt5676.2 0).bind fun bt5678 => ((round_Even.f k 1 0 1).bind fun bt5680 => ((round_Part.f k (-1) 1 1 1 1).bind fun bt5682 => (if t5664 = 3 then (if t5665 = 0 then (if bt5668.1 = 4 then (if bt5668.2 = 0 then (if bt5672.1 = 2 then (if bt5672.2 = 0 then (if bt5674.1 = 12 then (if bt5674.2 = 0 then (if bt5678.2 = 7 then (if bt5680.2 = 6 then (some (bt5682.2 == 1)) else (none)) else (none)) else (none)) else (none)) else (none)) else (none)) else (none)) else (none)) else (none)) else (none))))))))))) = some r := H
  have A2 := Aside0.mk A20
  clear A20
  replace H := Option.bind_eq_some_iff.mp H
  obtain ⟨⟨t5666, t5667⟩, A30, H⟩ := H
  replace H : ((round_Even.f k t5666 t5667 2).bind fun bt5668 => ((demurragelaw03_wide.f 5).bind fun bt5670 => ((round_Even.f k bt5670.1 bt5670.2 2).bind fun bt5672 => ((round_Part.f k 1000 500 1 4 10000).bind fun bt5674 => ((demurragelaw03_wide.f 1).bind fun bt5676 => ((round_Down.f bt5676.1 bt5676.2 0).bind fun bt5678 => ((round_Even.f k 1 0 1).bind fun bt5680 => ((round_Part.f k (-1) 1 1 1 1).bind fun bt5682 => (if t5664 = 3 then (if t5665 = 0 then (if bt5668.1 = 4 then (if bt5668.2 = 0 then (if bt5672.1 = 2 then (if bt5672.2 = 0 then (if bt5674.1 = 12 then (if bt5674.2 = 0 then (if bt5678.2 = 7 then (if bt5680.2 = 6 then (some (bt5682.2 == 1)) else (none)) else (none)) else (none)) else (none)) else (none)) else (none)) else (none)) else (none)) else (none)) else (none)))))))))) = some r := H
  have A3 := Aside0.mk A30
  clear A30
  replace H := Option.bind_eq_some_iff.mp H
  obtain ⟨⟨t5668, t5669⟩, A40, H⟩ := H
  replace H : ((demurragelaw03_wide.f 5).bind fun bt5670 => ((round_Even.f k bt5670.1 bt5670.2 2).bind fun bt5672 => ((round_Part.f k 1000 500 1 4 10000).bind fun bt5674 => ((demurragelaw03_wide.f 1).bind fun bt5676 => ((round_Down.f bt5676.1 bt5676.2 0).bind fun bt5678 => ((round_Even.f k 1 0 1).bind fun bt5680 => ((round_Part.f k (-1) 1 1 1 1).bind fun bt5682 => (if t5664 = 3 then (if t5665 = 0 then (if t5668 = 4 then (if t5669 = 0 then (if bt5672.1 = 2 then (if bt5672.2 = 0 then (if bt5674.1 = 12 then (if bt5674.2 = 0 then (if bt5678.2 = 7 then (if bt5680.2 = 6 then (some (bt5682.2 == 1)) else (none)) else (none)) else (none)) else (none)) else (none)) else (none)) else (none)) else (none)) else (none)) else (none))))))))) = some r := H
  have A4 := Aside0.mk A40
  clear A40
  replace H := Option.bind_eq_some_iff.mp H
  obtain ⟨⟨t5670, t5671⟩, A50, H⟩ := H
  replace H : ((round_Even.f k t5670 t5671 2).bind fun bt5672 => ((round_Part.f k 1000 500 1 4 10000).bind fun bt5674 => ((demurragelaw03_wide.f 1).bind fun bt5676 => ((round_Down.f bt5676.1 bt5676.2 0).bind fun bt5678 => ((round_Even.f k 1 0 1).bind fun bt5680 => ((round_Part.f k (-1) 1 1 1 1).bind fun bt5682 => (if t5664 = 3 then (if t5665 = 0 then (if t5668 = 4 then (if t5669 = 0 then (if bt5672.1 = 2 then (if bt5672.2 = 0 then (if bt5674.1 = 12 then (if bt5674.2 = 0 then (if bt5678.2 = 7 then (if bt5680.2 = 6 then (some (bt5682.2 == 1)) else (none)) else (none)) else (none)) else (none)) else (none)) else (none)) else (none)) else (none)) else (none)) else (none)))))))) = some r := H
  have A5 := Aside0.mk A50
  clear A50
  replace H := Option.bind_eq_some_iff.mp H
  obtain ⟨⟨t5672, t5673⟩, A60, H⟩ := H
  replace H : ((round_Part.f k 1000 500 1 4 10000).bind fun bt5674 => ((demurragelaw03_wide.f 1).bind fun bt5676 => ((round_Down.f bt5676.1 bt5676.2 0).bind fun bt5678 => ((round_Even.f k 1 0 1).bind fun bt5680 => ((round_Part.f k (-1) 1 1 1 1).bind fun bt5682 => (if t5664 = 3 then (if t5665 = 0 then (if t5668 = 4 then (if t5669 = 0 then (if t5672 = 2 then (if t5673 = 0 then (if bt5674.1 = 12 then (if bt5674.2 = 0 then (if bt5678.2 = 7 then (if bt5680.2 = 6 then (some (bt5682.2 == 1)) else (none)) else (none)) else (none)) else (none)) else (none)) else (none)) else (none)) else (none)) else (none)) else (none))))))) = some r := H
  have A6 := Aside0.mk A60
  clear A60
  replace H := Option.bind_eq_some_iff.mp H
  obtain ⟨⟨t5674, t5675⟩, A70, H⟩ := H
  replace H : ((demurragelaw03_wide.f 1).bind fun bt5676 => ((round_Down.f bt5676.1 bt5676.2 0).bind fun bt5678 => ((round_Even.f k 1 0 1).bind fun bt5680 => ((round_Part.f k (-1) 1 1 1 1).bind fun bt5682 => (if t5664 = 3 then (if t5665 = 0 then (if t5668 = 4 then (if t5669 = 0 then (if t5672 = 2 then (if t5673 = 0 then (if t5674 = 12 then (if t5675 = 0 then (if bt5678.2 = 7 then (if bt5680.2 = 6 then (some (bt5682.2 == 1)) else (none)) else (none)) else (none)) else (none)) else (none)) else (none)) else (none)) else (none)) else (none)) else (none)))))) = some r := H
  have A7 := Aside0.mk A70
  clear A70
  replace H := Option.bind_eq_some_iff.mp H
  obtain ⟨⟨t5676, t5677⟩, A80, H⟩ := H
  replace H : ((round_Down.f t5676 t5677 0).bind fun bt5678 => ((round_Even.f k 1 0 1).bind fun bt5680 => ((round_Part.f k (-1) 1 1 1 1).bind fun bt5682 => (if t5664 = 3 then (if t5665 = 0 then (if t5668 = 4 then (if t5669 = 0 then (if t5672 = 2 then (if t5673 = 0 then (if t5674 = 12 then (if t5675 = 0 then (if bt5678.2 = 7 then (if bt5680.2 = 6 then (some (bt5682.2 == 1)) else (none)) else (none)) else (none)) else (none)) else (none)) else (none)) else (none)) else (none)) else (none)) else (none))))) = some r := H
  have A8 := Aside0.mk A80
  clear A80
  replace H := Option.bind_eq_some_iff.mp H
  obtain ⟨⟨t5678, t5679⟩, A90, H⟩ := H
  replace H : ((round_Even.f k 1 0 1).bind fun bt5680 => ((round_Part.f k (-1) 1 1 1 1).bind fun bt5682 => (if t5664 = 3 then (if t5665 = 0 then (if t5668 = 4 then (if t5669 = 0 then (if t5672 = 2 then (if t5673 = 0 then (if t5674 = 12 then (if t5675 = 0 then (if t5679 = 7 then (if bt5680.2 = 6 then (some (bt5682.2 == 1)) else (none)) else (none)) else (none)) else (none)) else (none)) else (none)) else (none)) else (none)) else (none)) else (none)))) = some r := H
  have A9 := Aside0.mk A90
  clear A90
  replace H := Option.bind_eq_some_iff.mp H
  obtain ⟨⟨t5680, t5681⟩, A100, H⟩ := H
  replace H : ((round_Part.f k (-1) 1 1 1 1).bind fun bt5682 => (if t5664 = 3 then (if t5665 = 0 then (if t5668 = 4 then (if t5669 = 0 then (if t5672 = 2 then (if t5673 = 0 then (if t5674 = 12 then (if t5675 = 0 then (if t5679 = 7 then (if t5681 = 6 then (some (bt5682.2 == 1)) else (none)) else (none)) else (none)) else (none)) else (none)) else (none)) else (none)) else (none)) else (none)) else (none))) = some r := H
  have A10 := Aside0.mk A100
  clear A100
  replace H := Option.bind_eq_some_iff.mp H
  obtain ⟨⟨t5682, t5683⟩, A110, H⟩ := H
  replace H : (if t5664 = 3 then (if t5665 = 0 then (if t5668 = 4 then (if t5669 = 0 then (if t5672 = 2 then (if t5673 = 0 then (if t5674 = 12 then (if t5675 = 0 then (if t5679 = 7 then (if t5681 = 6 then (some (t5683 == 1)) else (none)) else (none)) else (none)) else (none)) else (none)) else (none)) else (none)) else (none)) else (none)) else (none)) = some r := H
  have A11 := Aside0.mk A110
  clear A110
  by_cases c12 : t5664 = 3
  · rw [if_pos c12] at H
    have c12b0 : (t5664 == 3) = true := beq_iff_eq.mpr c12
    have c12b1 : (t5664 != 3) = false := bne_eq_false_iff_eq.mpr c12
    clear c12
    by_cases c13 : t5665 = 0
    · rw [if_pos c13] at H
      have c13b0 : (t5665 == 0) = true := beq_iff_eq.mpr c13
      have c13b1 : (t5665 != 0) = false := bne_eq_false_iff_eq.mpr c13
      clear c13
      by_cases c14 : t5668 = 4
      · rw [if_pos c14] at H
        have c14b0 : (t5668 == 4) = true := beq_iff_eq.mpr c14
        have c14b1 : (t5668 != 4) = false := bne_eq_false_iff_eq.mpr c14
        clear c14
        by_cases c15 : t5669 = 0
        · rw [if_pos c15] at H
          have c15b0 : (t5669 == 0) = true := beq_iff_eq.mpr c15
          have c15b1 : (t5669 != 0) = false := bne_eq_false_iff_eq.mpr c15
          clear c15
          by_cases c16 : t5672 = 2
          · rw [if_pos c16] at H
            have c16b0 : (t5672 == 2) = true := beq_iff_eq.mpr c16
            have c16b1 : (t5672 != 2) = false := bne_eq_false_iff_eq.mpr c16
            clear c16
            by_cases c17 : t5673 = 0
            · rw [if_pos c17] at H
              have c17b0 : (t5673 == 0) = true := beq_iff_eq.mpr c17
              have c17b1 : (t5673 != 0) = false := bne_eq_false_iff_eq.mpr c17
              clear c17
              by_cases c18 : t5674 = 12
              · rw [if_pos c18] at H
                have c18b0 : (t5674 == 12) = true := beq_iff_eq.mpr c18
                have c18b1 : (t5674 != 12) = false := bne_eq_false_iff_eq.mpr c18
                clear c18
                by_cases c19 : t5675 = 0
                · rw [if_pos c19] at H
                  have c19b0 : (t5675 == 0) = true := beq_iff_eq.mpr c19
                  have c19b1 : (t5675 != 0) = false := bne_eq_false_iff_eq.mpr c19
                  clear c19
                  by_cases c20 : t5679 = 7
                  · rw [if_pos c20] at H
                    have c20b0 : (t5679 == 7) = true := beq_iff_eq.mpr c20
                    have c20b1 : (t5679 != 7) = false := bne_eq_false_iff_eq.mpr c20
                    clear c20
                    by_cases c21 : t5681 = 6
                    · rw [if_pos c21] at H
                      have c21b0 : (t5681 == 6) = true := beq_iff_eq.mpr c21
                      have c21b1 : (t5681 != 6) = false := bne_eq_false_iff_eq.mpr c21
                      clear c21
                      obtain rfl := Option.some.inj H
                      go_enter Try.func53, Try.ntmps53
                      go_wp2_with (first | ((with_reducible refine gate_callee (f := 60) rfl ?_); refine goesL_ (some 16) rfl rfl Try.func60 (by kernel_rfl) rfl #[.int .u64 7] rfl (by (try simp only [List.map_toArray, List.map_cons, List.map_nil]); first | done | rfl | (simp only [List.length_drop, List.length_take]; rfl)) ?_; (with_reducible refine (demurragelaw03_wide.calls 7 t5662 t5663 _ A1.out).mono ?_); rintro e w22 ⟨rfl, hb⟩; refine ⟨_, rfl, ?_⟩; have n0_ := Aside0.mk (below_step (by repeat (first | (with_reducible first | exact HB.out | apply below_alloc | apply pw_below_drewN | apply below_drew1) | exact HB.out)) hb); clear HB; have HB := n0_; clear n0_; (try clear hb); (try clear hb2); (try clear hk); (try clear hi)) | ((with_reducible refine gate_callee (f := 54) rfl ?_); refine goesL_ (some 17) rfl rfl Try.func54 (by kernel_rfl) rfl #[.agg #[.int .u64 t5662, .int .u64 t5663], .int .u64 2] rfl (by (try simp only [List.map_toArray, List.map_cons, List.map_nil]); first | done | rfl | (simp only [List.length_drop, List.length_take]; rfl)) ?_; (with_reducible refine (round_Down.calls t5662 t5663 2 t5664 t5665 _ A2.out).mono ?_); rintro e w23 ⟨rfl, hb⟩; refine ⟨_, rfl, ?_⟩; have n0_ := Aside0.mk (below_step (by repeat (first | (with_reducible first | exact HB.out | apply below_alloc | apply pw_below_drewN | apply below_drew1) | exact HB.out)) hb); clear HB; have HB := n0_; clear n0_; (try clear hb); (try clear hb2); (try clear hk); (try clear hi)) | ((with_reducible refine gate_callee (f := 60) rfl ?_); refine goesL_ (some 21) rfl rfl Try.func60 (by kernel_rfl) rfl #[.int .u64 7] rfl (by (try simp only [List.map_toArray, List.map_cons, List.map_nil]); first | done | rfl | (simp only [List.length_drop, List.length_take]; rfl)) ?_; (with_reducible refine (demurragelaw03_wide.calls 7 t5666 t5667 _ A3.out).mono ?_); rintro e w24 ⟨rfl, hb⟩; refine ⟨_, rfl, ?_⟩; have n0_ := Aside0.mk (below_step (by repeat (first | (with_reducible first | exact HB.out | apply below_alloc | apply pw_below_drewN | apply below_drew1) | exact HB.out)) hb); clear HB; have HB := n0_; clear n0_; (try clear hb); (try clear hb2); (try clear hk); (try clear hi)) | ((with_reducible refine gate_callee (f := 56) rfl ?_); refine goesL_ (some 22) rfl rfl Try.func56 (by kernel_rfl) rfl #[.agg #[.int .u64 t5666, .int .u64 t5667], .int .u64 2] rfl (by (try simp only [List.map_toArray, List.map_cons, List.map_nil]); first | done | rfl | (simp only [List.length_drop, List.length_take]; rfl)) ?_; (with_reducible refine (round_Even.calls k t5666 t5667 2 t5668 t5669 _ A4.out).mono ?_); rintro e w25 ⟨rfl, hb⟩; refine ⟨_, rfl, ?_⟩; have n0_ := Aside0.mk (below_step (by repeat (first | (with_reducible first | exact HB.out | apply below_alloc | apply pw_below_drewN | apply below_drew1) | exact HB.out)) hb); clear HB; have HB := n0_; clear n0_; (try clear hb); (try clear hb2); (try clear hk); (try clear hi)) | ((with_reducible refine gate_callee (f := 60) rfl ?_); refine goesL_ (some 26) rfl rfl Try.func60 (by kernel_rfl) rfl #[.int .u64 5] rfl (by (try simp only [List.map_toArray, List.map_cons, List.map_nil]); first | done | rfl | (simp only [List.length_drop, List.length_take]; rfl)) ?_; (with_reducible refine (demurragelaw03_wide.calls 5 t5670 t5671 _ A5.out).mono ?_); rintro e w26 ⟨rfl, hb⟩; refine ⟨_, rfl, ?_⟩; have n0_ := Aside0.mk (below_step (by repeat (first | (with_reducible first | exact HB.out | apply below_alloc | apply pw_below_drewN | apply below_drew1) | exact HB.out)) hb); clear HB; have HB := n0_; clear n0_; (try clear hb); (try clear hb2); (try clear hk); (try clear hi)) | ((with_reducible refine gate_callee (f := 56) rfl ?_); refine goesL_ (some 27) rfl rfl Try.func56 (by kernel_rfl) rfl #[.agg #[.int .u64 t5670, .int .u64 t5671], .int .u64 2] rfl (by (try simp only [List.map_toArray, List.map_cons, List.map_nil]); first | done | rfl | (simp only [List.length_drop, List.length_take]; rfl)) ?_; (with_reducible refine (round_Even.calls k t5670 t5671 2 t5672 t5673 _ A6.out).mono ?_); rintro e w27 ⟨rfl, hb⟩; refine ⟨_, rfl, ?_⟩; have n0_ := Aside0.mk (below_step (by repeat (first | (with_reducible first | exact HB.out | apply below_alloc | apply pw_below_drewN | apply below_drew1) | exact HB.out)) hb); clear HB; have HB := n0_; clear n0_; (try clear hb); (try clear hb2); (try clear hk); (try clear hi)) | ((with_reducible refine gate_callee (f := 58) rfl ?_); refine goesL_ (some 32) rfl rfl Try.func58 (by kernel_rfl) rfl #[.int .i64 1000, .int .i64 500, .agg #[.int .i64 1, .int .i64 4], .int .i64 10000] rfl (by (try simp only [List.map_toArray, List.map_cons, List.map_nil]); first | done | rfl | (simp only [List.length_drop, List.length_take]; rfl)) ?_; (with_reducible refine (round_Part.calls k 1000 500 1 4 10000 t5674 t5675 _ A7.out).mono ?_); rintro e w28 ⟨rfl, hb⟩; refine ⟨_, rfl, ?_⟩; have n0_ := Aside0.mk (below_step (by repeat (first | (with_reducible first | exact HB.out | apply below_alloc | apply pw_below_drewN | apply below_drew1) | exact HB.out)) hb); clear HB; have HB := n0_; clear n0_; (try clear hb); (try clear hb2); (try clear hk); (try clear hi)) | ((with_reducible refine gate_callee (f := 60) rfl ?_); refine goesL_ (some 36) rfl rfl Try.func60 (by kernel_rfl) rfl #[.int .u64 1] rfl (by (try simp only [List.map_toArray, List.map_cons, List.map_nil]); first | done | rfl | (simp only [List.length_drop, List.length_take]; rfl)) ?_; (with_reducible refine (demurragelaw03_wide.calls 1 t5676 t5677 _ A8.out).mono ?_); rintro e w29 ⟨rfl, hb⟩; refine ⟨_, rfl, ?_⟩; have n0_ := Aside0.mk (below_step (by repeat (first | (with_reducible first | exact HB.out | apply below_alloc | apply pw_below_drewN | apply below_drew1) | exact HB.out)) hb); clear HB; have HB := n0_; clear n0_; (try clear hb); (try clear hb2); (try clear hk); (try clear hi)) | ((with_reducible refine gate_callee (f := 54) rfl ?_); refine goesL_ (some 37) rfl rfl Try.func54 (by kernel_rfl) rfl #[.agg #[.int .u64 t5676, .int .u64 t5677], .int .u64 0] rfl (by (try simp only [List.map_toArray, List.map_cons, List.map_nil]); first | done | rfl | (simp only [List.length_drop, List.length_take]; rfl)) ?_; (with_reducible refine (round_Down.calls t5676 t5677 0 t5678 t5679 _ A9.out).mono ?_); rintro e w30 ⟨rfl, hb⟩; refine ⟨_, rfl, ?_⟩; have n0_ := Aside0.mk (below_step (by repeat (first | (with_reducible first | exact HB.out | apply below_alloc | apply pw_below_drewN | apply below_drew1) | exact HB.out)) hb); clear HB; have HB := n0_; clear n0_; (try clear hb); (try clear hb2); (try clear hk); (try clear hi)) | ((with_reducible refine gate_callee (f := 56) rfl ?_); refine goesL_ (some 42) rfl rfl Try.func56 (by kernel_rfl) rfl #[.agg #[.int .u64 1, .int .u64 0], .int .u64 1] rfl (by (try simp only [List.map_toArray, List.map_cons, List.map_nil]); first | done | rfl | (simp only [List.length_drop, List.length_take]; rfl)) ?_; (with_reducible refine (round_Even.calls k 1 0 1 t5680 t5681 _ A10.out).mono ?_); rintro e w31 ⟨rfl, hb⟩; refine ⟨_, rfl, ?_⟩; have n0_ := Aside0.mk (below_step (by repeat (first | (with_reducible first | exact HB.out | apply below_alloc | apply pw_below_drewN | apply below_drew1) | exact HB.out)) hb); clear HB; have HB := n0_; clear n0_; (try clear hb); (try clear hb2); (try clear hk); (try clear hi)) | ((with_reducible refine gate_callee (f := 58) rfl ?_); refine goesL_ (some 47) rfl rfl Try.func58 (by kernel_rfl) rfl #[.int .i64 (-1), .int .i64 1, .agg #[.int .i64 1, .int .i64 1], .int .i64 1] rfl (by (try simp only [List.map_toArray, List.map_cons, List.map_nil]); first | done | rfl | (simp only [List.length_drop, List.length_take]; rfl)) ?_; (with_reducible refine (round_Part.calls k (-1) 1 1 1 1 t5682 t5683 _ A11.out).mono ?_); rintro e w32 ⟨rfl, hb⟩; refine ⟨_, rfl, ?_⟩; have n0_ := Aside0.mk (below_step (by repeat (first | (with_reducible first | exact HB.out | apply below_alloc | apply pw_below_drewN | apply below_drew1) | exact HB.out)) hb); clear HB; have HB := n0_; clear n0_; (try clear hb); (try clear hb2); (try clear hk); (try clear hi)))
                      go_ret
                      exact ⟨by first | rfl | (simp [errW_none, errW_some] <;> rfl) | (simp [*, errW_none, errW_some] <;> rfl), by repeat (first | (with_reducible first | exact HB.out | apply below_alloc | apply pw_below_drewN | apply below_drew1) | exact HB.out)⟩
                    · rw [if_neg c21] at H
                      exact absurd H (by simp)
                  · rw [if_neg c20] at H
                    exact absurd H (by simp)
                · rw [if_neg c19] at H
                  exact absurd H (by simp)
              · rw [if_neg c18] at H
                exact absurd H (by simp)
            · rw [if_neg c17] at H
              exact absurd H (by simp)
          · rw [if_neg c16] at H
            exact absurd H (by simp)
        · rw [if_neg c15] at H
          exact absurd H (by simp)
      · rw [if_neg c14] at H
        exact absurd H (by simp)
    · rw [if_neg c13] at H
      exact absurd H (by simp)
  · rw [if_neg c12] at H
    exact absurd H (by simp)

end Go.Proofs.Ytcdbmmlnmefoeaa.X
