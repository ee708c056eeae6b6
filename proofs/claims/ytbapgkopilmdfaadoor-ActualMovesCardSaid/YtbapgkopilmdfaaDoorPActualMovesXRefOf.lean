-- cut by prune.py, a program of this session
import Derived.Test.YtbapgkopilmdfaaDoorPActualMovesX0
import Derived.Test.YtbapgkopilmdfaaDoorPActualMovesXRefFour
namespace Go.Proofs.YtbapgkopilmdfaaDoor.X
open Go.RowKit Go.Proofs.YtbapgkopilmdfaaDoorW.PrintWords Go.Proofs.YtbapgkopilmdfaaDoorW.PrintLast Go.Proofs.YtbapgkopilmdfaaDoorW.PrintMore
attribute [local go_sem] max2_int min2_int max_two min_two
set_option linter.unusedVariables false
set_option linter.unusedSimpArgs false

mutual
def demurrageref04_Of.j0 : Nat → Int → Bool → Option (Int × Int × Int × Int)
 | 0, _, _ => none
 | k + 1, x0, x14 => if x14 = true then (some (0, 0, 0, 3)) else (demurrageref04_Of.l0 k x0 1 10000)
def demurrageref04_Of.l0 : Nat → Int → Int → Int → Option (Int × Int × Int × Int)
 | 0, _, _, _ => none
 | k + 1, x0, x4, x5 => if (wrap64 (x5 - x4)) > 1 then ((demurrageref04_ahead.f k (wrap64 (Int.tdiv (wrap64 (x4 + x5)) 2))).bind fun t337 => (if t337 < x0 then (demurrageref04_Of.l0 k x0 (wrap64 (Int.tdiv (wrap64 (x4 + x5)) 2)) x5) else (demurrageref04_Of.l0 k x0 x4 (wrap64 (Int.tdiv (wrap64 (x4 + x5)) 2))))) else ((demurrageref04_ahead.f k x4).bind fun t338 => (demurrageref04_Of.l1 k x4 (wrap64 (x0 - t338)) 1))
def demurrageref04_Of.l1 : Nat → Int → Int → Int → Option (Int × Int × Int × Int)
 | 0, _, _, _ => none
 | k + 1, x4, x7, x8 => (demurrageref04_Length.f k x4 x8).bind fun t339 => (if x7 > t339 then ((demurrageref04_Length.f k x4 x8).bind fun t340 => (demurrageref04_Of.l1 k x4 (wrap64 (x7 - t340)) (wrap64 (x8 + 1)))) else (some (x4, x8, x7, 0)))
end
def demurrageref04_Of.f (k : Nat) (a0 : Int) : Option (Int × Int × Int × Int) := if a0 < 1 then (demurrageref04_Of.j0 k a0 true) else (demurrageref04_Of.j0 k a0 (decide (a0 > 3652059)))
set_option maxHeartbeats 8000000 in
set_option maxRecDepth 100000 in
theorem demurrageref04_Of.calls (k : Nat) (a0 : Int) (r1 : Int) (r2 : Int) (r3 : Int) (r4 : Int) (w : World) (h : demurrageref04_Of.f k a0 = some (r1, r2, r3, r4)) :
  Calls Tryd.prog 21 #[.int .i64 a0] w fun e w' => e = .returned (.tuple #[.agg #[.int .i64 r1, .int .i64 r2, .int .i64 r3], .int .i64 r4]) ∧ Below w.heap.size w w' := by
 have hu41 := Tryd.underlying41
 have HB := Aside0.mk (Below.refl w.heap.size w)
 have H : (if a0 < 1 then (demurrageref04_Of.j0 k a0 true) else (demurrageref04_Of.j0 k a0 (decide (a0 > 3652059)))) = some (r1, r2, r3, r4) := h
 clear h
 have HC2 := Aside0.mk H
 clear H
 go_enter Tryd.func21, Tryd.ntmps21
 go_upto_region 1 with (first | ((with_reducible refine gate_dst (N := 2) rfl ?_); refine box_event ?hg (N := 2) ?hd (cs := #[.int .i64 0, .int .i64 0, .int .i64 0]) (t := 41) ?hr ?_; (case hd => rfl); (case hg => rfl); (case hr => first | (go_simp; done) | (go_simp; rfl)); intro gb336 hg w3 hbox hb; have BK336 := Aside0.mk (hbox); have GW336 := Aside0.mk ((by rw [hg]; exact (below_size (by repeat (first | (with_reducible first | exact HB.out | apply below_alloc | apply pw_below_drewN | apply below_drew1) | exact HB.out))) : w.heap.size ≤ gb336)); have GE336 := Aside0.mk ((by rw [hg]; exact (below_size (by repeat (first | (with_reducible first | exact HB.out | apply below_alloc | apply pw_below_drewN | apply below_drew1) | exact HB.out))) : w.heap.size ≤ gb336)); replace HB := Aside0.mk (below_step (by repeat (first | (with_reducible first | exact HB.out | apply below_alloc | apply pw_below_drewN | apply below_drew1) | exact HB.out)) hb); clear hb hbox hg))
 (try simp only [Act.put, List.setIfInBounds_toArray, List.set_cons_zero, List.set_cons_succ])
 go_cut [14] (fun v14 wc => ∃ (kq : Nat) (x14_1 : Bool), v14 = .bool x14_1 ∧ Aside0 (demurrageref04_Of.j0 kq a0 x14_1 = some (r1, r2, r3, r4)) ∧ Aside0 (kq ≤ k) ∧ Aside0 (wc.heap[gb336]? = some (.cells #[.int .i64 0, .int .i64 0, .int .i64 0] 41 (0, 0))) ∧ Aside0 (Below w.heap.size w wc))
 case first =>
  have H := HC2.out
  clear HC2
  by_cases c4 : a0 < 1
  ·rw [if_pos c4] at H
   have c4b0 : decide (a0 < 1) = true := decide_eq_true c4
   clear c4
   (first | rw [c4b0] | (simp only [i64_w, i32_w]; rw [c4b0]) | rw [c4b1] | skip)
   have H' := Aside0.mk H
   clear H
   go_wp2
   go_meet
   case rel => exact ⟨_, _, (by first | rfl | (simp; done) | (simp [*]; done)), H', ⟨by first | omega | exact Nat.le_refl _⟩, ⟨by exact BK336.out⟩, ⟨by repeat (first | (with_reducible first | exact HB.out | apply below_alloc | apply pw_below_drewN | apply below_drew1 | refine below_set ?_ GE336.out) | exact HB.out)⟩⟩
  ·rw [if_neg c4] at H
   have c4b0 : decide (a0 < 1) = false := decide_eq_false c4
   clear c4
   (first | rw [c4b0] | (simp only [i64_w, i32_w]; rw [c4b0]) | rw [c4b1] | skip)
   have H' := Aside0.mk H
   clear H
   go_wp2
   go_meet
   case rel => exact ⟨_, (decide (a0 > 3652059)), (by first | rfl | (simp; done) | (simp [*]; done)), H', ⟨by first | omega | exact Nat.le_refl _⟩, ⟨by exact BK336.out⟩, ⟨by repeat (first | (with_reducible first | exact HB.out | apply below_alloc | apply pw_below_drewN | apply below_drew1 | refine below_set ?_ GE336.out) | exact HB.out)⟩⟩
 case rest =>
  clear HC2
  try clear c2
  try clear p2
  try clear c4
  try clear c4b0
  try clear c4b1
  obtain ⟨kq, x14_1, rfl, HA, HJ1, BK336, HB⟩ := hcut
  cases kq with
  | zero => exact absurd HA.out (by simp [demurrageref04_Of.j0])
  | succ kj1 =>
   have H := HA.out
   clear HA
   simp only [demurrageref04_Of.j0] at H
   by_cases c5 : x14_1 = true
   ·subst c5
    rw [if_pos rfl] at H
    simp only [Option.some.injEq, Prod.mk.injEq] at H
    obtain ⟨rfl, rfl, rfl, rfl⟩ := H
    have hcz6_0 : wc.cell? ⟨gb336, 0, none⟩ = some (.int .i64 0) := (blk_cell BK336.out 0).trans rfl
    have hcz6_1 : wc.cell? ⟨gb336, 1, none⟩ = some (.int .i64 0) := (blk_cell BK336.out 1).trans rfl
    have hcz6_2 : wc.cell? ⟨gb336, 2, none⟩ = some (.int .i64 0) := (blk_cell BK336.out 2).trans rfl
    have hfz6_0 := blk_frozen BK336.out 0
    have hfz6_1 := blk_frozen BK336.out 1
    have hfz6_2 := blk_frozen BK336.out 2
    go_wp2
    refine bodyPost_ret (results_ct rfl _ _ gb336 41 #[.int .i64 0, .int .i64 0, .int .i64 0] (0, 0) _ rfl (by refine blk_put (cs := #[.int .i64 0, .int .i64 0, .int .i64 0]) ?_ 2 _ rfl; refine blk_put (cs := #[.int .i64 0, .int .i64 0, .int .i64 0]) ?_ 1 _ rfl; refine blk_put (cs := #[.int .i64 0, .int .i64 0, .int .i64 0]) ?_ 0 _ rfl; exact BK336.out) Tryd.underlying41 rfl (by kernel_rfl)) rfl ?_
    exact ⟨by rfl, by repeat (first | (with_reducible first | exact HB.out | apply below_alloc | apply pw_below_drewN | apply below_drew1 | refine below_set ?_ GE336.out) | exact HB.out)⟩
   ·replace c5 := Bool.eq_false_iff.mpr c5
    subst c5
    rw [if_neg (show ¬ (false = true) by decide)] at H
    have H' := Aside0.mk H
    clear H
    go_wp2
    (try simp only [Act.put, List.setIfInBounds_toArray, List.set_cons_zero, List.set_cons_succ])
    go_loopg [4, 5] kj1 (fun kq v4 v5 w' => ∃ (x4_2 : Int) (x5_2 : Int), v4 = .int .i64 x4_2 ∧ v5 = .int .i64 x5_2 ∧ Aside0 (demurrageref04_Of.l0 kq a0 x4_2 x5_2 = some (r1, r2, r3, r4)) ∧ Aside0 (kq ≤ kj1) ∧ Aside0 (w'.heap[gb336]? = some (.cells #[.int .i64 0, .int .i64 0, .int .i64 0] 41 (0, 0))) ∧ Aside0 (Below w.heap.size w w'))
    case atStart => exact ⟨(1), (10000), (by first | rfl | (simp; done) | (simp [*]; done)), (by first | rfl | (simp; done) | (simp [*]; done)), H', ⟨Nat.le_refl _⟩, ⟨by exact BK336.out⟩, ⟨by repeat (first | (with_reducible first | exact HB.out | apply below_alloc | apply pw_below_drewN | apply below_drew1 | refine below_set ?_ GE336.out) | exact HB.out)⟩⟩
    case round =>
     clear H'
     try clear c2
     try clear p2
     try clear c4
     try clear c4b0
     try clear c4b1
     try clear c5
     try clear hcz6_0
     try clear hcz6_1
     try clear hcz6_2
     try clear hfz6_0
     try clear hfz6_1
     try clear hfz6_2
     try clear p2
     obtain ⟨x4_2, x5_2, rfl, rfl, HA, HK2, BK336, HB⟩ := hrel
     cases gk with
     | zero => exact absurd HA.out (by simp [demurrageref04_Of.l0])
     | succ k2 =>
      have H := HA.out
      clear HA
      simp only [demurrageref04_Of.l0] at H
      by_cases c7 : (wrap64 (x5_2 - x4_2)) > 1
      ·rw [if_pos c7] at H
       have c7b0 : decide (1 < (wrap64 (x5_2 - x4_2))) = true := decide_eq_true c7
       clear c7
       replace H := Option.bind_eq_some_iff.mp H
       obtain ⟨t337, A80, H⟩ := H
       (try dsimp only at H)
       have A8 := Aside0.mk A80
       clear A80
       by_cases c9 : t337 < a0
       ·rw [if_pos c9] at H
        have c9b0 : decide (t337 < a0) = true := decide_eq_true c9
        clear c9
        have H' := Aside0.mk H
        clear H
        go_wp2_with (first | ((with_reducible refine gate_callee (f := 39) rfl ?_); refine goesL_ (some 25) rfl rfl Tryd.func39 (by kernel_rfl) rfl #[.int .i64 (wrap64 (Int.tdiv (wrap64 (x4_2 + x5_2)) 2))] rfl (by (try simp only [List.map_toArray, List.map_cons, List.map_nil]); first | done | rfl) ?_; (with_reducible refine (demurrageref04_ahead.calls k2 (wrap64 (Int.tdiv (wrap64 (x4_2 + x5_2)) 2)) t337 _ A8.out).mono ?_); rintro e w' ⟨rfl, ⟨nd, rfl⟩⟩; refine ⟨_, rfl, ?_⟩))
        go_roundg k2
        case measure => have := HJ1.out; have := HK2.out; omega
        case rel => exact ⟨(wrap64 (Int.tdiv (wrap64 (x4_2 + x5_2)) 2)), (x5_2), (by first | rfl | (simp; done) | (simp [*]; done)), (by first | rfl | (simp; done) | (simp [*]; done)), H', ⟨by have := HJ1.out; have := HK2.out; omega⟩, ⟨by exact BK336.out⟩, ⟨by repeat (first | (with_reducible first | exact HB.out | apply below_alloc | apply pw_below_drewN | apply below_drew1 | refine below_set ?_ GE336.out) | exact HB.out)⟩⟩
       ·rw [if_neg c9] at H
        have c9b0 : decide (t337 < a0) = false := decide_eq_false c9
        clear c9
        have H' := Aside0.mk H
        clear H
        go_wp2_with (first | ((with_reducible refine gate_callee (f := 39) rfl ?_); refine goesL_ (some 25) rfl rfl Tryd.func39 (by kernel_rfl) rfl #[.int .i64 (wrap64 (Int.tdiv (wrap64 (x4_2 + x5_2)) 2))] rfl (by (try simp only [List.map_toArray, List.map_cons, List.map_nil]); first | done | rfl) ?_; (with_reducible refine (demurrageref04_ahead.calls k2 (wrap64 (Int.tdiv (wrap64 (x4_2 + x5_2)) 2)) t337 _ A8.out).mono ?_); rintro e w' ⟨rfl, ⟨nd, rfl⟩⟩; refine ⟨_, rfl, ?_⟩))
        go_roundg k2
        case measure => have := HJ1.out; have := HK2.out; omega
        case rel => exact ⟨(x4_2), (wrap64 (Int.tdiv (wrap64 (x4_2 + x5_2)) 2)), (by first | rfl | (simp; done) | (simp [*]; done)), (by first | rfl | (simp; done) | (simp [*]; done)), H', ⟨by have := HJ1.out; have := HK2.out; omega⟩, ⟨by exact BK336.out⟩, ⟨by repeat (first | (with_reducible first | exact HB.out | apply below_alloc | apply pw_below_drewN | apply below_drew1 | refine below_set ?_ GE336.out) | exact HB.out)⟩⟩
      ·rw [if_neg c7] at H
       have c7b0 : decide (1 < (wrap64 (x5_2 - x4_2))) = false := decide_eq_false c7
       clear c7
       replace H := Option.bind_eq_some_iff.mp H
       obtain ⟨t338, A100, H⟩ := H
       (try dsimp only at H)
       have A10 := Aside0.mk A100
       clear A100
       have H' := Aside0.mk H
       clear H
       go_wp2_with (first | ((with_reducible refine gate_callee (f := 39) rfl ?_); refine goesL_ (some 32) rfl rfl Tryd.func39 (by kernel_rfl) rfl #[.int .i64 x4_2] rfl (by (try simp only [List.map_toArray, List.map_cons, List.map_nil]); first | done | rfl) ?_; (with_reducible refine (demurrageref04_ahead.calls k2 x4_2 t338 _ A10.out).mono ?_); rintro e w' ⟨rfl, ⟨nd, rfl⟩⟩; refine ⟨_, rfl, ?_⟩))
       (try simp only [Act.put, List.setIfInBounds_toArray, List.set_cons_zero, List.set_cons_succ])
       go_loopg [7, 8] k2 (fun kq v7 v8 w' => ∃ (x7_3 : Int) (x8_3 : Int), v7 = .int .i64 x7_3 ∧ v8 = .int .i64 x8_3 ∧ Aside0 (demurrageref04_Of.l1 kq x4_2 x7_3 x8_3 = some (r1, r2, r3, r4)) ∧ Aside0 (kq ≤ k2) ∧ Aside0 (w'.heap[gb336]? = some (.cells #[.int .i64 0, .int .i64 0, .int .i64 0] 41 (0, 0))) ∧ Aside0 (Below w.heap.size w w'))
       case atStart => exact ⟨(wrap64 (a0 - t338)), (1), (by first | rfl | (simp; done) | (simp [*]; done)), (by first | rfl | (simp; done) | (simp [*]; done)), H', ⟨Nat.le_refl _⟩, ⟨by exact BK336.out⟩, ⟨by repeat (first | (with_reducible first | exact HB.out | apply below_alloc | apply pw_below_drewN | apply below_drew1 | refine below_set ?_ GE336.out) | exact HB.out)⟩⟩
       case round =>
        clear H'
        try clear c2
        try clear p2
        try clear c3
        try clear c4
        try clear c4b0
        try clear c4b1
        try clear c5
        try clear p6
        try clear c7
        try clear c7b0
        try clear c9
        try clear c9b0
        try clear hcz6_0
        try clear hcz6_1
        try clear hcz6_2
        try clear hfz6_0
        try clear hfz6_1
        try clear hfz6_2
        try clear p2
        obtain ⟨x7_3, x8_3, rfl, rfl, HA, HK3, BK336, HB⟩ := hrel
        cases gk with
        | zero => exact absurd HA.out (by simp [demurrageref04_Of.l1])
        | succ k3 =>
         have H := HA.out
         clear HA
         simp only [demurrageref04_Of.l1] at H
         replace H := Option.bind_eq_some_iff.mp H
         obtain ⟨t339, A110, H⟩ := H
         (try dsimp only at H)
         have A11 := Aside0.mk A110
         clear A110
         by_cases c12 : x7_3 > t339
         ·rw [if_pos c12] at H
          have c12b0 : decide (t339 < x7_3) = true := decide_eq_true c12
          clear c12
          replace H := Option.bind_eq_some_iff.mp H
          obtain ⟨t340, A130, H⟩ := H
          (try dsimp only at H)
          have A13 := Aside0.mk A130
          clear A130
          have H' := Aside0.mk H
          clear H
          go_wp2_with (first | ((with_reducible refine gate_callee (f := 40) rfl ?_); refine goesL_ (some 37) rfl rfl Tryd.func40 (by kernel_rfl) rfl #[.int .i64 x4_2, .int .i64 x8_3] rfl (by (try simp only [List.map_toArray, List.map_cons, List.map_nil]); first | done | rfl) ?_; (with_reducible refine (demurrageref04_Length.calls k3 x4_2 x8_3 t339 _ A11.out).mono ?_); rintro e w' ⟨rfl, ⟨nd, rfl⟩⟩; refine ⟨_, rfl, ?_⟩) | ((with_reducible refine gate_callee (f := 40) rfl ?_); refine goesL_ (some 42) rfl rfl Tryd.func40 (by kernel_rfl) rfl #[.int .i64 x4_2, .int .i64 x8_3] rfl (by (try simp only [List.map_toArray, List.map_cons, List.map_nil]); first | done | rfl) ?_; (with_reducible refine (demurrageref04_Length.calls k3 x4_2 x8_3 t340 _ A13.out).mono ?_); rintro e w' ⟨rfl, ⟨nd, rfl⟩⟩; refine ⟨_, rfl, ?_⟩))
          go_roundg k3
          case measure => have := HJ1.out; have := HK2.out; have := HK3.out; omega
          case rel => exact ⟨(wrap64 (x7_3 - t340)), (wrap64 (x8_3 + 1)), (by first | rfl | (simp; done) | (simp [*]; done)), (by first | rfl | (simp; done) | (simp [*]; done)), H', ⟨by have := HJ1.out; have := HK2.out; have := HK3.out; omega⟩, ⟨by exact BK336.out⟩, ⟨by repeat (first | (with_reducible first | exact HB.out | apply below_alloc | apply pw_below_drewN | apply below_drew1 | refine below_set ?_ GE336.out) | exact HB.out)⟩⟩
         ·rw [if_neg c12] at H
          have c12b0 : decide (t339 < x7_3) = false := decide_eq_false c12
          clear c12
          simp only [Option.some.injEq, Prod.mk.injEq] at H
          obtain ⟨rfl, rfl, rfl, rfl⟩ := H
          go_wp2_with (first | ((with_reducible refine gate_callee (f := 40) rfl ?_); refine goesL_ (some 37) rfl rfl Tryd.func40 (by kernel_rfl) rfl #[.int .i64 x4_2, .int .i64 x8_3] rfl (by (try simp only [List.map_toArray, List.map_cons, List.map_nil]); first | done | rfl) ?_; (with_reducible refine (demurrageref04_Length.calls k3 x4_2 x8_3 t339 _ A11.out).mono ?_); rintro e w' ⟨rfl, ⟨nd, rfl⟩⟩; refine ⟨_, rfl, ?_⟩; (try (rw [drewN_self wr]; generalize hq_ : World.drewN wr _ = wr; have n0_ : Aside0 (wr.heap[gb336]? = some (.cells #[.int .i64 0, .int .i64 0, .int .i64 0] 41 (0, 0))) := ⟨by rw [← hq_]; exact (by exact BK336.out)⟩; have n1_ : Aside0 (Below w.heap.size w wr) := ⟨by rw [← hq_]; exact (by repeat (first | (with_reducible first | exact HB.out | apply below_alloc | apply pw_below_drewN | apply below_drew1 | refine below_set ?_ GE336.out) | exact HB.out))⟩; clear BK336 HB hq_; have BK336 := n0_; have HB := n1_; clear n0_ n1_)); have hcz14_0 : wr.cell? ⟨gb336, 0, none⟩ = some (.int .i64 0) := (blk_cell BK336.out 0).trans rfl; have hcz14_1 : wr.cell? ⟨gb336, 1, none⟩ = some (.int .i64 0) := (blk_cell BK336.out 1).trans rfl; have hcz14_2 : wr.cell? ⟨gb336, 2, none⟩ = some (.int .i64 0) := (blk_cell BK336.out 2).trans rfl; have hfz14_0 := blk_frozen BK336.out 0; have hfz14_1 := blk_frozen BK336.out 1; have hfz14_2 := blk_frozen BK336.out 2))
          refine bodyPost_ret (results_ct rfl _ _ gb336 41 #[.int .i64 x4_2, .int .i64 x8_3, .int .i64 x7_3] (0, 0) _ rfl (by refine blk_put (cs := #[.int .i64 x4_2, .int .i64 x8_3, .int .i64 0]) ?_ 2 _ rfl; refine blk_put (cs := #[.int .i64 x4_2, .int .i64 0, .int .i64 0]) ?_ 1 _ rfl; refine blk_put (cs := #[.int .i64 0, .int .i64 0, .int .i64 0]) ?_ 0 _ rfl; exact BK336.out) Tryd.underlying41 rfl (by kernel_rfl)) rfl ?_
          exact ⟨by rfl, by repeat (first | (with_reducible first | exact HB.out | apply below_alloc | apply pw_below_drewN | apply below_drew1 | refine below_set ?_ GE336.out) | exact HB.out)⟩

end Go.Proofs.YtbapgkopilmdfaaDoor.X
