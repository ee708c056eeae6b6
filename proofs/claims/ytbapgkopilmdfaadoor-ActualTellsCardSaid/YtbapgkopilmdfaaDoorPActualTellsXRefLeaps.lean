-- cut by prune.py, a program of this session
import Derived.Test.YtbapgkopilmdfaaDoorPActualTellsX0
import Derived.Test.YtbapgkopilmdfaaDoorPActualTellsXRefFour
import Derived.Test.YtbapgkopilmdfaaDoorPActualTellsXRefOf
namespace Go.Proofs.YtbapgkopilmdfaaDoor.X
open Go.RowKit Go.Proofs.YtbapgkopilmdfaaDoorW.PrintWords Go.Proofs.YtbapgkopilmdfaaDoorW.PrintLast Go.Proofs.YtbapgkopilmdfaaDoorW.PrintMore
attribute [local go_sem] max2_int min2_int max_two min_two
set_option linter.unusedVariables false
set_option linter.unusedSimpArgs false

def demurrageref08_leaps.l0 : Nat → Int → Int → Int → Int → Int → Int → Option (Int)
 | 0, _, _, _, _, _, _ => none
 | k + 1, x0, x5, x6, x346000, x346001, x346002 => if x6 < x346000 then ((demurrageref04_Leap.f x6).bind fun t346 => (if t346 = true then (demurrageref08_leaps.l0 k x0 (wrap64 (x5 + 366)) (wrap64 (x6 + 4)) x346000 x346001 x346002) else (demurrageref08_leaps.l0 k x0 x5 (wrap64 (x6 + 4)) x346000 x346001 x346002))) else ((demurrageref04_Leap.f x346000).bind fun t347 => (if t347 = true then ((demurrageref04_Number.f k x346000 1 1).bind fun bt348 => (some (wrap64 ((wrap64 (x5 + x0)) - bt348.1)))) else (some x5)))
def demurrageref08_leaps.f (k : Nat) (a0 : Int) : Option (Int) := (demurrageref04_Of.f k a0).bind fun bt341 => (demurrageref08_leaps.l0 k a0 0 4 bt341.1 bt341.2.1 bt341.2.2.1)
set_option maxHeartbeats 8000000 in
set_option maxRecDepth 100000 in
theorem demurrageref08_leaps.calls (k : Nat) (a0 : Int) (r : Int) (w : World) (h : demurrageref08_leaps.f k a0 = some r) :
  Calls Tryd.prog 31 #[.int .i64 a0] w fun e w' => e = .returned (.int .i64 r) ∧ Below w.heap.size w w' := by
 have hu41 := Tryd.underlying41
 have HB := Aside0.mk (Below.refl w.heap.size w)
 have H : ((demurrageref04_Of.f k a0).bind fun bt341 => (demurrageref08_leaps.l0 k a0 0 4 bt341.1 bt341.2.1 bt341.2.2.1)) = some r := h
 clear h
 replace H := Option.bind_eq_some_iff.mp H
 obtain ⟨⟨t341, t342, t343, t344⟩, A20, H⟩ := H
 (try dsimp only at H)
 have A2 := Aside0.mk A20
 clear A20
 have H' := Aside0.mk H
 clear H
 go_enter Tryd.func31, Tryd.ntmps31
 go_wp2_with (first | ((with_reducible refine gate_callee (f := 21) rfl ?_); refine goesL_ (some 13) rfl rfl Tryd.func21 (by kernel_rfl) rfl #[.int .i64 a0] rfl (by (try simp only [List.map_toArray, List.map_cons, List.map_nil]); first | done | rfl) ?_; (with_reducible refine (demurrageref04_Of.calls k a0 t341 t342 t343 t344 _ A2.out).mono ?_); rintro e w3 ⟨rfl, hb⟩; refine ⟨_, rfl, ?_⟩; replace HB := Aside0.mk (below_step (by repeat (first | (with_reducible first | exact HB.out | apply below_alloc | apply pw_below_drewN | apply below_drew1) | exact HB.out)) hb); (try clear hb)) | ((with_reducible refine gate_dst (N := 3) rfl ?_); refine box_event ?hg (N := 3) ?hd (cs := #[.int .i64 0, .int .i64 0, .int .i64 0]) (t := 41) ?hr ?_; (case hd => rfl); (case hg => rfl); (case hr => first | (go_simp; done) | (go_simp; rfl)); intro gb345 hg w4 hbox hb; have BK345 := Aside0.mk (hbox); have GW345 := Aside0.mk ((by rw [hg]; exact (below_size (by repeat (first | (with_reducible first | exact HB.out | apply below_alloc | apply pw_below_drewN | apply below_drew1) | exact HB.out))) : w.heap.size ≤ gb345)); have GE345 := Aside0.mk ((by rw [hg]; exact (below_size (by repeat (first | (with_reducible first | exact HB.out | apply below_alloc | apply pw_below_drewN | apply below_drew1) | exact HB.out))) : w.heap.size ≤ gb345)); replace HB := Aside0.mk (below_step (by repeat (first | (with_reducible first | exact HB.out | apply below_alloc | apply pw_below_drewN | apply below_drew1) | exact HB.out)) hb); clear hb hbox hg; have hcz5_0 : w4.cell? ⟨gb345, 0, none⟩ = some (.int .i64 0) := (blk_cell BK345.out 0).trans rfl; have hcz5_1 : w4.cell? ⟨gb345, 1, none⟩ = some (.int .i64 0) := (blk_cell BK345.out 1).trans rfl; have hcz5_2 : w4.cell? ⟨gb345, 2, none⟩ = some (.int .i64 0) := (blk_cell BK345.out 2).trans rfl; have hfz5_0 := blk_frozen BK345.out 0; have hfz5_1 := blk_frozen BK345.out 1; have hfz5_2 := blk_frozen BK345.out 2))
 (try simp only [Act.put, List.setIfInBounds_toArray, List.set_cons_zero, List.set_cons_succ])
 go_loopg [5, 6] k (fun kq v5 v6 w' => ∃ (x5_1 : Int) (x6_1 : Int), v5 = .int .i64 x5_1 ∧ v6 = .int .i64 x6_1 ∧ Aside0 (demurrageref08_leaps.l0 kq a0 x5_1 x6_1 t341 t342 t343 = some r) ∧ Aside0 (kq ≤ k) ∧ Aside0 (w'.heap[gb345]? = some (.cells #[.int .i64 t341, .int .i64 t342, .int .i64 t343] 41 (0, 0))) ∧ Aside0 (Below w.heap.size w w'))
 case atStart => exact ⟨(0), (4), (by first | rfl | (simp; done) | (simp [*]; done)), (by first | rfl | (simp; done) | (simp [*]; done)), H', ⟨Nat.le_refl _⟩, ⟨by refine blk_put (cs := #[.int .i64 t341, .int .i64 t342, .int .i64 0]) ?_ 2 _ rfl; refine blk_put (cs := #[.int .i64 t341, .int .i64 0, .int .i64 0]) ?_ 1 _ rfl; refine blk_put (cs := #[.int .i64 0, .int .i64 0, .int .i64 0]) ?_ 0 _ rfl; exact BK345.out⟩, ⟨by repeat (first | (with_reducible first | exact HB.out | apply below_alloc | apply pw_below_drewN | apply below_drew1 | refine below_set ?_ GE345.out) | exact HB.out)⟩⟩
 case round =>
  clear H'
  try clear c2
  try clear p2
  try clear c3
  try clear hcz5_0
  try clear hcz5_1
  try clear hcz5_2
  try clear hfz5_0
  try clear hfz5_1
  try clear hfz5_2
  obtain ⟨x5_1, x6_1, rfl, rfl, HA, HK1, BK345, HB⟩ := hrel
  cases gk with
  | zero => exact absurd HA.out (by simp [demurrageref08_leaps.l0])
  | succ k1 =>
   have H := HA.out
   clear HA
   simp only [demurrageref08_leaps.l0] at H
   by_cases c6 : x6_1 < t341
   ·rw [if_pos c6] at H
    have c6b0 : decide (x6_1 < t341) = true := decide_eq_true c6
    clear c6
    replace H := Option.bind_eq_some_iff.mp H
    obtain ⟨t346, A70, H⟩ := H
    (try dsimp only at H)
    have A7 := Aside0.mk A70
    clear A70
    by_cases c8 : t346 = true
    ·subst c8
     rw [if_pos rfl] at H
     have H' := Aside0.mk H
     clear H
     have hcz9_0 : wr.cell? ⟨gb345, 0, none⟩ = some (.int .i64 t341) := (blk_cell BK345.out 0).trans rfl
     have hcz9_1 : wr.cell? ⟨gb345, 1, none⟩ = some (.int .i64 t342) := (blk_cell BK345.out 1).trans rfl
     have hcz9_2 : wr.cell? ⟨gb345, 2, none⟩ = some (.int .i64 t343) := (blk_cell BK345.out 2).trans rfl
     have hfz9_0 := blk_frozen BK345.out 0
     have hfz9_1 := blk_frozen BK345.out 1
     have hfz9_2 := blk_frozen BK345.out 2
     go_wp2_with (first | ((with_reducible refine gate_callee (f := 18) rfl ?_); refine goesL_ (some 23) rfl rfl Tryd.func18 (by kernel_rfl) rfl #[.int .i64 x6_1] rfl (by (try simp only [List.map_toArray, List.map_cons, List.map_nil]); first | done | rfl) ?_; (with_reducible refine (demurrageref04_Leap.calls x6_1 true _ A7.out).mono ?_); rintro e w' ⟨rfl, ⟨nd, rfl⟩⟩; refine ⟨_, rfl, ?_⟩))
     go_roundg k1
     case measure => have := HK1.out; omega
     case rel => exact ⟨(wrap64 (x5_1 + 366)), (wrap64 (x6_1 + 4)), (by first | rfl | (simp; done) | (simp [*]; done)), (by first | rfl | (simp; done) | (simp [*]; done)), H', ⟨by have := HK1.out; omega⟩, ⟨by exact BK345.out⟩, ⟨by repeat (first | (with_reducible first | exact HB.out | apply below_alloc | apply pw_below_drewN | apply below_drew1 | refine below_set ?_ GE345.out) | exact HB.out)⟩⟩
    ·replace c8 := Bool.eq_false_iff.mpr c8
     subst c8
     rw [if_neg (show ¬ (false = true) by decide)] at H
     have H' := Aside0.mk H
     clear H
     have hcz10_0 : wr.cell? ⟨gb345, 0, none⟩ = some (.int .i64 t341) := (blk_cell BK345.out 0).trans rfl
     have hcz10_1 : wr.cell? ⟨gb345, 1, none⟩ = some (.int .i64 t342) := (blk_cell BK345.out 1).trans rfl
     have hcz10_2 : wr.cell? ⟨gb345, 2, none⟩ = some (.int .i64 t343) := (blk_cell BK345.out 2).trans rfl
     have hfz10_0 := blk_frozen BK345.out 0
     have hfz10_1 := blk_frozen BK345.out 1
     have hfz10_2 := blk_frozen BK345.out 2
     go_wp2_with (first | ((with_reducible refine gate_callee (f := 18) rfl ?_); refine goesL_ (some 23) rfl rfl Tryd.func18 (by kernel_rfl) rfl #[.int .i64 x6_1] rfl (by (try simp only [List.map_toArray, List.map_cons, List.map_nil]); first | done | rfl) ?_; (with_reducible refine (demurrageref04_Leap.calls x6_1 false _ A7.out).mono ?_); rintro e w' ⟨rfl, ⟨nd, rfl⟩⟩; refine ⟨_, rfl, ?_⟩))
     go_roundg k1
     case measure => have := HK1.out; omega
     case rel => exact ⟨(x5_1), (wrap64 (x6_1 + 4)), (by first | rfl | (simp; done) | (simp [*]; done)), (by first | rfl | (simp; done) | (simp [*]; done)), H', ⟨by have := HK1.out; omega⟩, ⟨by exact BK345.out⟩, ⟨by repeat (first | (with_reducible first | exact HB.out | apply below_alloc | apply pw_below_drewN | apply below_drew1 | refine below_set ?_ GE345.out) | exact HB.out)⟩⟩
   ·rw [if_neg c6] at H
    have c6b0 : decide (x6_1 < t341) = false := decide_eq_false c6
    clear c6
    replace H := Option.bind_eq_some_iff.mp H
    obtain ⟨t347, A110, H⟩ := H
    (try dsimp only at H)
    have A11 := Aside0.mk A110
    clear A110
    by_cases c12 : t347 = true
    ·subst c12
     rw [if_pos rfl] at H
     replace H := Option.bind_eq_some_iff.mp H
     obtain ⟨⟨t348, t349⟩, A130, H⟩ := H
     (try dsimp only at H)
     have A13 := Aside0.mk A130
     clear A130
     obtain rfl := Option.some.inj H
     have hcz14_0 : wr.cell? ⟨gb345, 0, none⟩ = some (.int .i64 t341) := (blk_cell BK345.out 0).trans rfl
     have hcz14_1 : wr.cell? ⟨gb345, 1, none⟩ = some (.int .i64 t342) := (blk_cell BK345.out 1).trans rfl
     have hcz14_2 : wr.cell? ⟨gb345, 2, none⟩ = some (.int .i64 t343) := (blk_cell BK345.out 2).trans rfl
     have hfz14_0 := blk_frozen BK345.out 0
     have hfz14_1 := blk_frozen BK345.out 1
     have hfz14_2 := blk_frozen BK345.out 2
     go_wp2_with (first | ((with_reducible refine gate_callee (f := 18) rfl ?_); refine goesL_ (some 29) rfl rfl Tryd.func18 (by kernel_rfl) rfl #[.int .i64 t341] rfl (by (try simp only [List.map_toArray, List.map_cons, List.map_nil]); first | done | rfl) ?_; (with_reducible refine (demurrageref04_Leap.calls t341 true _ A11.out).mono ?_); rintro e w' ⟨rfl, ⟨nd, rfl⟩⟩; refine ⟨_, rfl, ?_⟩) | ((with_reducible refine gate_callee (f := 36) rfl ?_); refine goesL_ (some 35) rfl rfl Tryd.func36 (by kernel_rfl) rfl #[.agg #[.int .i64 t341, .int .i64 1, .int .i64 1]] rfl (by (try simp only [List.map_toArray, List.map_cons, List.map_nil]); first | done | rfl) ?_; (with_reducible refine (demurrageref04_Number.calls k1 t341 1 1 t348 t349 _ A13.out).mono ?_); rintro e w15 ⟨rfl, hb⟩; refine ⟨_, rfl, ?_⟩; replace BK345 := Aside0.mk (blk_below (by exact BK345.out) hb); replace HB := Aside0.mk (below_step (by repeat (first | (with_reducible first | exact HB.out | apply below_alloc | apply pw_below_drewN | apply below_drew1 | refine below_set ?_ GE345.out) | exact HB.out)) hb); (try clear hb)))
     go_ret
     exact ⟨by rfl, by repeat (first | (with_reducible first | exact HB.out | apply below_alloc | apply pw_below_drewN | apply below_drew1 | refine below_set ?_ GE345.out) | exact HB.out)⟩
    ·replace c12 := Bool.eq_false_iff.mpr c12
     subst c12
     rw [if_neg (show ¬ (false = true) by decide)] at H
     obtain rfl := Option.some.inj H
     have hcz16_0 : wr.cell? ⟨gb345, 0, none⟩ = some (.int .i64 t341) := (blk_cell BK345.out 0).trans rfl
     have hcz16_1 : wr.cell? ⟨gb345, 1, none⟩ = some (.int .i64 t342) := (blk_cell BK345.out 1).trans rfl
     have hcz16_2 : wr.cell? ⟨gb345, 2, none⟩ = some (.int .i64 t343) := (blk_cell BK345.out 2).trans rfl
     have hfz16_0 := blk_frozen BK345.out 0
     have hfz16_1 := blk_frozen BK345.out 1
     have hfz16_2 := blk_frozen BK345.out 2
     go_wp2_with (first | ((with_reducible refine gate_callee (f := 18) rfl ?_); refine goesL_ (some 29) rfl rfl Tryd.func18 (by kernel_rfl) rfl #[.int .i64 t341] rfl (by (try simp only [List.map_toArray, List.map_cons, List.map_nil]); first | done | rfl) ?_; (with_reducible refine (demurrageref04_Leap.calls t341 false _ A11.out).mono ?_); rintro e w' ⟨rfl, ⟨nd, rfl⟩⟩; refine ⟨_, rfl, ?_⟩))
     go_ret
     exact ⟨by rfl, by repeat (first | (with_reducible first | exact HB.out | apply below_alloc | apply pw_below_drewN | apply below_drew1 | refine below_set ?_ GE345.out) | exact HB.out)⟩

end Go.Proofs.YtbapgkopilmdfaaDoor.X
