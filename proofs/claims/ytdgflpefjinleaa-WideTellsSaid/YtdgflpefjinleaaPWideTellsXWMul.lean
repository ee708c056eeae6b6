-- CUT by prune.py, a program of this session, to what the claim reaches (out of a text that the kit's printer, the session's programs or the session wrote)
import Derived.Test.YtdgflpefjinleaaPWideTellsX0
import Derived.Test.YtdgflpefjinleaaPWideTellsHBits
import Derived.Test.YtdgflpefjinleaaPWideTellsHWide
namespace Go.Proofs.Ytdgflpefjinleaa.X
open Go.RowKit Go.Proofs.YtdgflpefjinleaaW.PrintWords Go.Proofs.YtdgflpefjinleaaW.PrintLast Go.Proofs.YtdgflpefjinleaaW.PrintMore
set_option linter.unusedVariables false
set_option linter.unusedSimpArgs false

def wide_Times.upsl : Nat → Nat → List Bool
 | 0, _ => []
 | n + 1, m => (m % 2 == 1) :: wide_Times.upsl n (m / 2)
def wide_Times.ups (n m : Nat) : Array Bool := ⟨wide_Times.upsl n m⟩

def wide_Mul.f (a0 : Int) (a1 : Int) : Option (Int × Int) := (bits_Mul64.f a0 a1).bind fun bt104 => (some (bt104.1, bt104.2))
set_option maxHeartbeats 8000000 in
set_option maxRecDepth 100000 in
theorem wide_Mul.calls (a0 : Int) (a1 : Int) (r1 : Int) (r2 : Int) (w : World) (h : wide_Mul.f a0 a1 = some (r1, r2)) :
  Calls Try.prog 16 #[.int .u64 a0, .int .u64 a1] w fun e w' => e = .returned (.agg #[.int .u64 r1, .int .u64 r2]) ∧ Below w.heap.size w w' := by
 have hu24 := Try.underlying24
 have HB := Aside0.mk (Below.refl w.heap.size w)
 have H : ((bits_Mul64.f a0 a1).bind fun bt104 => (some (bt104.1, bt104.2))) = some (r1, r2) := h
 clear h
 replace H := Option.bind_eq_some_iff.mp H
 obtain ⟨⟨t104, t105⟩, A30, H⟩ := H
 (try dsimp only at H)
 have A3 := Aside0.mk A30
 clear A30
 simp only [Option.some.injEq, Prod.mk.injEq] at H
 obtain ⟨rfl, rfl⟩ := H
 go_enter Try.func16, Try.ntmps16
 go_wp2_with (first | ((with_reducible refine gate_dst (N := 4) rfl ?_); refine box_event ?hg (N := 4) ?hd (cs := #[.int .u64 0, .int .u64 0]) (t := 24) ?hr ?_; (case hd => rfl); (case hg => rfl); (case hr => first | (go_simp; done) | (go_simp; rfl)); intro gb103 hg w4 hbox hb; have BK103 := Aside0.mk (hbox); have GW103 := Aside0.mk ((by rw [hg]; exact (below_size (by repeat (first | (with_reducible first | exact HB.out | apply below_alloc | apply pw_below_drewN | apply below_drew1) | exact HB.out))) : w.heap.size ≤ gb103)); have GE103 := Aside0.mk ((by rw [hg]; exact (below_size (by repeat (first | (with_reducible first | exact HB.out | apply below_alloc | apply pw_below_drewN | apply below_drew1) | exact HB.out))) : w.heap.size ≤ gb103)); replace HB := Aside0.mk (below_step (by repeat (first | (with_reducible first | exact HB.out | apply below_alloc | apply pw_below_drewN | apply below_drew1) | exact HB.out)) hb); clear hb hbox hg) | ((with_reducible refine gate_callee (f := 26) rfl ?_); refine goesL_ (some 10) rfl rfl Try.func26 (by kernel_rfl) rfl #[.int .u64 a0, .int .u64 a1] rfl (by (try simp only [List.map_toArray, List.map_cons, List.map_nil]); first | done | rfl) ?_; (with_reducible refine (bits_Mul64.calls a0 a1 t104 t105 _ A3.out).mono ?_); rintro e w' ⟨rfl, ⟨nd, rfl⟩⟩; refine ⟨_, rfl, ?_⟩; (try (rw [drewN_self w4]; generalize hq_ : World.drewN w4 _ = w4; have n0_ : Aside0 (w4.heap[gb103]? = some (.cells #[.int .u64 0, .int .u64 0] 24 (0, 0))) := ⟨by rw [← hq_]; exact (by exact BK103.out)⟩; have n1_ : Aside0 (Below w.heap.size w w4) := ⟨by rw [← hq_]; exact (by repeat (first | (with_reducible first | exact HB.out | apply below_alloc | apply pw_below_drewN | apply below_drew1 | refine below_set ?_ GE103.out) | exact HB.out))⟩; clear BK103 HB hq_; have BK103 := n0_; have HB := n1_; clear n0_ n1_)); have hcz5_0 : w4.cell? ⟨gb103, 0, none⟩ = some (.int .u64 0) := (blk_cell BK103.out 0).trans rfl; have hcz5_1 : w4.cell? ⟨gb103, 1, none⟩ = some (.int .u64 0) := (blk_cell BK103.out 1).trans rfl; have hfz5_0 := blk_frozen BK103.out 0; have hfz5_1 := blk_frozen BK103.out 1))
 refine bodyPost_ret (results_cell_row rfl _ _ gb103 24 #[.int .u64 t104, .int .u64 t105] (0, 0) _ rfl (by refine blk_put (cs := #[.int .u64 t104, .int .u64 0]) ?_ 1 _ rfl; refine blk_put (cs := #[.int .u64 0, .int .u64 0]) ?_ 0 _ rfl; exact BK103.out) Try.underlying24 rfl (by kernel_rfl)) rfl ?_
 exact ⟨by rfl, by repeat (first | (with_reducible first | exact HB.out | apply below_alloc | apply pw_below_drewN | apply below_drew1 | refine below_set ?_ GE103.out) | exact HB.out)⟩

def wide_Times.f (a0_0 : Int) (a0_1 : Int) (a1 : Int) : Option (Int × Int × Int) := (wide_Mul.f a0_1 a1).bind fun bt108 => ((wide_Mul.f a0_0 a1).bind fun bt110 => (if bt110.1 = 0 then ((wide_Add.f bt108.1 bt108.2 bt110.2 0).bind fun bt114 => (some (bt114.1, bt114.2.1, bt114.2.2))) else (some (0, 0, 6))))
def wide_Times.T1 : Bool × List (List Nat × List Nat) := (true, [([], []), ([0], [0]), ([], []), ([1, 2], [1, 2]), ([], []), ([4], [4]), ([], []), ([5, 6, 3], [5, 6]), ([], []), ([], []), ([8, 3, 7, 0, 1, 2, 3, 8, 9], [3, 8]), ([9, 7, 10, 0, 1, 2, 3, 4, 5, 6, 7, 8, 9, 10], [7, 9])])
def wide_Times.B1 : List Nat := [0, 1, 0, 7, 0, 16, 0, 127, 0, 0, 1023, 2047]
theorem wide_Times.tab1 : rtab .any (opsOf Try.f8 1) = wide_Times.T1 := by kernel_rfl
theorem wide_Times.bits1 : waitsOk wide_Times.T1.2 wide_Times.B1 = true := by kernel_rfl
set_option maxHeartbeats 8000000 in
set_option maxRecDepth 100000 in
theorem wide_Times.calls (a0_0 : Int) (a0_1 : Int) (a1 : Int) (r1 : Int) (r2 : Int) (r3 : Int) (w : World) (h : wide_Times.f a0_0 a0_1 a1 = some (r1, r2, r3)) :
  Calls Try.prog 8 #[.agg #[.int .u64 a0_0, .int .u64 a0_1], .int .u64 a1] w fun e w' => e = .returned (.tuple #[.agg #[.int .u64 r1, .int .u64 r2], .int .i64 r3]) ∧ Below w.heap.size w w' := by
 have hu24 := Try.underlying24
 have HB := Aside0.mk (Below.refl w.heap.size w)
 have H : ((wide_Mul.f a0_1 a1).bind fun bt108 => ((wide_Mul.f a0_0 a1).bind fun bt110 => (if bt110.1 = 0 then ((wide_Add.f bt108.1 bt108.2 bt110.2 0).bind fun bt114 => (some (bt114.1, bt114.2.1, bt114.2.2))) else (some (0, 0, 6))))) = some (r1, r2, r3) := h
 clear h
 replace H := Option.bind_eq_some_iff.mp H
 obtain ⟨⟨t108, t109⟩, A30, H⟩ := H
 (try dsimp only at H)
 have A3 := Aside0.mk A30
 clear A30
 replace H := Option.bind_eq_some_iff.mp H
 obtain ⟨⟨t110, t111⟩, A40, H⟩ := H
 (try dsimp only at H)
 have A4 := Aside0.mk A40
 clear A40
 by_cases c5 : t110 = 0
 ·rw [if_pos c5] at H
  have c5b0 : (t110 == 0) = true := beq_iff_eq.mpr c5
  have c5b1 : (t110 != 0) = false := bne_eq_false_iff_eq.mpr c5
  clear c5
  replace H := Option.bind_eq_some_iff.mp H
  obtain ⟨⟨t114, t115, t116⟩, A60, H⟩ := H
  (try dsimp only at H)
  have A6 := Aside0.mk A60
  clear A60
  simp only [Option.some.injEq, Prod.mk.injEq] at H
  obtain ⟨rfl, rfl, rfl⟩ := H
  go_enter Try.func8, Try.ntmps8
  try go_wp2_with (first | ((with_reducible refine gate_dst (N := 2) rfl ?_); refine box_event ?hg (N := 2) ?hd (cs := #[.int .u64 a0_0, .int .u64 a0_1]) (t := 24) ?hr ?_; (case hd => rfl); (case hg => rfl); (case hr => first | (go_simp; done) | (go_simp; rfl)); intro gb106 hg w7 hbox hb; have BK106 := Aside0.mk (hbox); have GW106 := Aside0.mk ((by rw [hg]; exact (below_size (by repeat (first | (with_reducible first | exact HB.out | apply below_alloc | apply pw_below_drewN | apply below_drew1) | exact HB.out))) : w.heap.size ≤ gb106)); have GE106 := Aside0.mk ((by rw [hg]; exact (below_size (by repeat (first | (with_reducible first | exact HB.out | apply below_alloc | apply pw_below_drewN | apply below_drew1) | exact HB.out))) : w.heap.size ≤ gb106)); replace HB := Aside0.mk (below_step (by repeat (first | (with_reducible first | exact HB.out | apply below_alloc | apply pw_below_drewN | apply below_drew1) | exact HB.out)) hb); clear hb hbox hg) | ((with_reducible refine gate_dst (N := 4) rfl ?_); refine box_event ?hg (N := 4) ?hd (cs := #[.int .u64 0, .int .u64 0]) (t := 24) ?hr ?_; (case hd => rfl); (case hg => rfl); (case hr => first | (go_simp; done) | (go_simp; rfl)); intro gb107 hg w8 hbox hb; have BK107 := Aside0.mk (hbox); have GW107 := Aside0.mk ((by rw [hg]; exact (below_size (by repeat (first | (with_reducible first | exact HB.out | apply below_alloc | apply pw_below_drewN | apply below_drew1 | refine below_set ?_ GE106.out) | exact HB.out))) : w.heap.size ≤ gb107)); have GE107 := Aside0.mk ((by rw [hg]; exact (below_size (by repeat (first | (with_reducible first | exact HB.out | apply below_alloc | apply pw_below_drewN | apply below_drew1 | refine below_set ?_ GE106.out) | exact HB.out))) : w.heap.size ≤ gb107)); replace HB := Aside0.mk (below_step (by repeat (first | (with_reducible first | exact HB.out | apply below_alloc | apply pw_below_drewN | apply below_drew1 | refine below_set ?_ GE106.out) | exact HB.out)) hb); have NB106_107 := Aside0.mk ((by rw [hg]; exact Nat.ne_of_lt (blk_lt (g := gb106) (o := .cells #[.int .u64 a0_0, .int .u64 a0_1] 24 (0, 0)) BK106.out) : gb106 ≠ gb107)); have NB107_106 := Aside0.mk ((by rw [hg]; exact Nat.ne_of_gt (blk_lt (g := gb106) (o := .cells #[.int .u64 a0_0, .int .u64 a0_1] 24 (0, 0)) BK106.out) : gb107 ≠ gb106)); replace BK106 := Aside0.mk (blk_below BK106.out hb); clear hb hbox hg))
  replace BK106 := Aside0.mk (blk_drew BK106.out)
  replace BK107 := Aside0.mk (blk_drew BK107.out)
  replace HB := Aside0.mk (below_drew1 HB.out)
  refine start_ (n := 12) (S := fun w' => w'.cell? ⟨gb106, 0, none⟩ = some (.int .u64 a0_0) ∧ w'.cell? ⟨gb106, 1, none⟩ = some (.int .u64 a0_1)) (ds := []) (wide_Times.ups 12 0) (by kernel_rfl) rfl rfl ⟨(blk_cell BK106.out 0).trans rfl, (blk_cell BK106.out 1).trans rfl⟩ (fun hHeld => ?_); refine with_tabW wide_Times.tab1 wide_Times.bits1 (fun HT_ HW_ => ?_)
  generalize w8.drew = w9 at BK106 BK107 HB hHeld ⊢
  refine pure_ (i := 0) (N := some 8) (v := ?_) (a' := ?_) (wide_Times.ups 12 1) rfl rfl (any_of HT_.out (by kernel_rfl)) (fun _ _ _ h => h) (Or.inl ⟨by rfl, ?_⟩) ?_ ?_
  rotate_left
  ·intro w'
   go_simp
   with_reducible rfl
  rotate_left
  ·simp only [Act.put, List.setIfInBounds_toArray, List.set_cons_zero, List.set_cons_succ, i64_w, i32_w]
   rfl
  refine pure_ (i := 2) (N := some 10) (v := ?_) (a' := ?_) (wide_Times.ups 12 5) rfl rfl (any_of HT_.out (by kernel_rfl)) (fun _ _ _ h => h) (Or.inl ⟨by rfl, ?_⟩) ?_ ?_
  rotate_left
  ·intro w'
   go_simp
   with_reducible rfl
  rotate_left
  ·simp only [Act.put, List.setIfInBounds_toArray, List.set_cons_zero, List.set_cons_succ, i64_w, i32_w]
   rfl
  refine pure_ (i := 4) (N := some 12) (v := ?_) (a' := ?_) (wide_Times.ups 12 21) rfl rfl (any_of HT_.out (by kernel_rfl)) (fun _ _ _ h => h) (Or.inl ⟨by rfl, ?_⟩) ?_ ?_
  rotate_left
  ·intro w'
   go_simp
   with_reducible rfl
  rotate_left
  ·simp only [Act.put, List.setIfInBounds_toArray, List.set_cons_zero, List.set_cons_succ, i64_w, i32_w]
   rfl
  refine pure_ (i := 6) (N := some 14) (v := ?_) (a' := ?_) (wide_Times.ups 12 85) rfl rfl (any_of HT_.out (by kernel_rfl)) (fun _ _ _ h => h) (Or.inl ⟨by rfl, ?_⟩) ?_ ?_
  rotate_left
  ·intro w'
   go_simp
   with_reducible rfl
  rotate_left
  ·simp only [Act.put, List.setIfInBounds_toArray, List.set_cons_zero, List.set_cons_succ, i64_w, i32_w]
   rfl
  refine take_ (i := 1) (N := some 9) (v := ?_) (a' := ?_) (wide_Times.ups 12 87) rfl rfl (take_ofW HT_.out HW_.out (by kernel_rfl)) (fun _ _ _ h => h) (Or.inl ⟨by rfl, ?_⟩) hHeld ?_ ?_
  rotate_left
  ·rintro w' ⟨s0, s1⟩
   go_simp
   with_reducible rfl
  rotate_left
  ·simp only [Act.put, List.setIfInBounds_toArray, List.set_cons_zero, List.set_cons_succ, i64_w, i32_w]
   rfl
  refine take_ (i := 5) (N := some 13) (v := ?_) (a' := ?_) (wide_Times.ups 12 119) rfl rfl (take_ofW HT_.out HW_.out (by kernel_rfl)) (fun _ _ _ h => h) (Or.inl ⟨by rfl, ?_⟩) hHeld ?_ ?_
  rotate_left
  ·rintro w' ⟨s0, s1⟩
   go_simp
   with_reducible rfl
  rotate_left
  ·simp only [Act.put, List.setIfInBounds_toArray, List.set_cons_zero, List.set_cons_succ, i64_w, i32_w]
   rfl
  refine join_ (σ := Nat × Nat) 2 (wide_Times.ups 12 1023) (fun s_ => [(11, .agg #[.int .u64 t108, .int .u64 t109]), (15, .agg #[.int .u64 t110, .int .u64 t111]), (6, .pointer (some ⟨s_.1, 0, none⟩)), (7, .pointer (some ⟨s_.2, 0, none⟩))]) (fun s_ w' => (w'.cell? ⟨gb106, 0, none⟩ = some (.int .u64 a0_0) ∧ w'.cell? ⟨gb106, 1, none⟩ = some (.int .u64 a0_1)) ∧ (w'.heap[gb106]? = some (.cells #[.int .u64 a0_0, .int .u64 a0_1] 24 (0, 0))) ∧ (w'.heap[gb107]? = some (.cells #[.int .u64 0, .int .u64 0] 24 (0, 0))) ∧ (w'.heap[s_.1]? = some (.cells #[.int .u64 0, .int .u64 0] 24 (0, 0))) ∧ (w'.heap[s_.2]? = some (.cells #[.int .u64 0, .int .u64 0] 24 (0, 0))) ∧ (w.heap.size ≤ s_.1) ∧ (w.heap.size ≤ s_.1) ∧ (gb106 ≠ s_.1) ∧ (s_.1 ≠ gb106) ∧ (gb107 ≠ s_.1) ∧ (s_.1 ≠ gb107) ∧ (s_.2 ≠ s_.1) ∧ (s_.1 ≠ s_.2) ∧ (w.heap.size ≤ s_.2) ∧ (w.heap.size ≤ s_.2) ∧ (gb106 ≠ s_.2) ∧ (s_.2 ≠ gb106) ∧ (gb107 ≠ s_.2) ∧ (s_.2 ≠ gb107) ∧ (Below w.heap.size w w')) ?_ ?_
  rotate_left
  ·intro hJ3_7_8_9
   refine join_ (σ := Nat) 3 (wide_Times.ups 12 511) (fun s_ => [(11, .agg #[.int .u64 t108, .int .u64 t109]), (15, .agg #[.int .u64 t110, .int .u64 t111]), (6, .pointer (some ⟨s_, 0, none⟩))]) (fun s_ w' => (w'.cell? ⟨gb106, 0, none⟩ = some (.int .u64 a0_0) ∧ w'.cell? ⟨gb106, 1, none⟩ = some (.int .u64 a0_1)) ∧ (w'.heap[gb106]? = some (.cells #[.int .u64 a0_0, .int .u64 a0_1] 24 (0, 0))) ∧ (w'.heap[gb107]? = some (.cells #[.int .u64 0, .int .u64 0] 24 (0, 0))) ∧ (w'.heap[s_]? = some (.cells #[.int .u64 0, .int .u64 0] 24 (0, 0))) ∧ (w.heap.size ≤ s_) ∧ (w.heap.size ≤ s_) ∧ (gb106 ≠ s_) ∧ (s_ ≠ gb106) ∧ (gb107 ≠ s_) ∧ (s_ ≠ gb107) ∧ (Below w.heap.size w w')) ?_ ?_
   rotate_left
   ·intro hJ3_7_8
    refine join_ (σ := Nat) 3 (wide_Times.ups 12 767) (fun s_ => [(11, .agg #[.int .u64 t108, .int .u64 t109]), (15, .agg #[.int .u64 t110, .int .u64 t111]), (7, .pointer (some ⟨s_, 0, none⟩))]) (fun s_ w' => (w'.cell? ⟨gb106, 0, none⟩ = some (.int .u64 a0_0) ∧ w'.cell? ⟨gb106, 1, none⟩ = some (.int .u64 a0_1)) ∧ (w'.heap[gb106]? = some (.cells #[.int .u64 a0_0, .int .u64 a0_1] 24 (0, 0))) ∧ (w'.heap[gb107]? = some (.cells #[.int .u64 0, .int .u64 0] 24 (0, 0))) ∧ (w'.heap[s_]? = some (.cells #[.int .u64 0, .int .u64 0] 24 (0, 0))) ∧ (w.heap.size ≤ s_) ∧ (w.heap.size ≤ s_) ∧ (gb106 ≠ s_) ∧ (s_ ≠ gb106) ∧ (gb107 ≠ s_) ∧ (s_ ≠ gb107) ∧ (Below w.heap.size w w')) ?_ ?_
    rotate_left
    ·intro hJ3_7_9
     refine join_ (σ := Nat × Nat) 3 (wide_Times.ups 12 895) (fun s_ => [(11, .agg #[.int .u64 t108, .int .u64 t109]), (6, .pointer (some ⟨s_.1, 0, none⟩)), (7, .pointer (some ⟨s_.2, 0, none⟩))]) (fun s_ w' => (w'.cell? ⟨gb106, 0, none⟩ = some (.int .u64 a0_0) ∧ w'.cell? ⟨gb106, 1, none⟩ = some (.int .u64 a0_1)) ∧ (w'.heap[gb106]? = some (.cells #[.int .u64 a0_0, .int .u64 a0_1] 24 (0, 0))) ∧ (w'.heap[gb107]? = some (.cells #[.int .u64 0, .int .u64 0] 24 (0, 0))) ∧ (w'.heap[s_.1]? = some (.cells #[.int .u64 0, .int .u64 0] 24 (0, 0))) ∧ (w'.heap[s_.2]? = some (.cells #[.int .u64 0, .int .u64 0] 24 (0, 0))) ∧ (w.heap.size ≤ s_.1) ∧ (w.heap.size ≤ s_.1) ∧ (gb106 ≠ s_.1) ∧ (s_.1 ≠ gb106) ∧ (gb107 ≠ s_.1) ∧ (s_.1 ≠ gb107) ∧ (s_.2 ≠ s_.1) ∧ (s_.1 ≠ s_.2) ∧ (w.heap.size ≤ s_.2) ∧ (w.heap.size ≤ s_.2) ∧ (gb106 ≠ s_.2) ∧ (s_.2 ≠ gb106) ∧ (gb107 ≠ s_.2) ∧ (s_.2 ≠ gb107) ∧ (Below w.heap.size w w')) ?_ ?_
     rotate_left
     ·intro hJ3_8_9
      refine join_ (σ := Unit) 4 (wide_Times.ups 12 255) (fun s_ => [(11, .agg #[.int .u64 t108, .int .u64 t109]), (15, .agg #[.int .u64 t110, .int .u64 t111])]) (fun s_ w' => (w'.cell? ⟨gb106, 0, none⟩ = some (.int .u64 a0_0) ∧ w'.cell? ⟨gb106, 1, none⟩ = some (.int .u64 a0_1)) ∧ (w'.heap[gb106]? = some (.cells #[.int .u64 a0_0, .int .u64 a0_1] 24 (0, 0))) ∧ (w'.heap[gb107]? = some (.cells #[.int .u64 0, .int .u64 0] 24 (0, 0))) ∧ (Below w.heap.size w w')) ?_ ?_
      rotate_left
      ·intro hJ3_7
       refine join_ (σ := Nat) 4 (wide_Times.ups 12 383) (fun s_ => [(11, .agg #[.int .u64 t108, .int .u64 t109]), (6, .pointer (some ⟨s_, 0, none⟩))]) (fun s_ w' => (w'.cell? ⟨gb106, 0, none⟩ = some (.int .u64 a0_0) ∧ w'.cell? ⟨gb106, 1, none⟩ = some (.int .u64 a0_1)) ∧ (w'.heap[gb106]? = some (.cells #[.int .u64 a0_0, .int .u64 a0_1] 24 (0, 0))) ∧ (w'.heap[gb107]? = some (.cells #[.int .u64 0, .int .u64 0] 24 (0, 0))) ∧ (w'.heap[s_]? = some (.cells #[.int .u64 0, .int .u64 0] 24 (0, 0))) ∧ (w.heap.size ≤ s_) ∧ (w.heap.size ≤ s_) ∧ (gb106 ≠ s_) ∧ (s_ ≠ gb106) ∧ (gb107 ≠ s_) ∧ (s_ ≠ gb107) ∧ (Below w.heap.size w w')) ?_ ?_
       rotate_left
       ·intro hJ3_8
        refine join_ (σ := Nat) 4 (wide_Times.ups 12 639) (fun s_ => [(11, .agg #[.int .u64 t108, .int .u64 t109]), (7, .pointer (some ⟨s_, 0, none⟩))]) (fun s_ w' => (w'.cell? ⟨gb106, 0, none⟩ = some (.int .u64 a0_0) ∧ w'.cell? ⟨gb106, 1, none⟩ = some (.int .u64 a0_1)) ∧ (w'.heap[gb106]? = some (.cells #[.int .u64 a0_0, .int .u64 a0_1] 24 (0, 0))) ∧ (w'.heap[gb107]? = some (.cells #[.int .u64 0, .int .u64 0] 24 (0, 0))) ∧ (w'.heap[s_]? = some (.cells #[.int .u64 0, .int .u64 0] 24 (0, 0))) ∧ (w.heap.size ≤ s_) ∧ (w.heap.size ≤ s_) ∧ (gb106 ≠ s_) ∧ (s_ ≠ gb106) ∧ (gb107 ≠ s_) ∧ (s_ ≠ gb107) ∧ (Below w.heap.size w w')) ?_ ?_
        rotate_left
        ·intro hJ3_9
         refine join_ (σ := Nat × Nat) 4 (wide_Times.ups 12 887) (fun s_ => [(6, .pointer (some ⟨s_.1, 0, none⟩)), (7, .pointer (some ⟨s_.2, 0, none⟩))]) (fun s_ w' => (w'.cell? ⟨gb106, 0, none⟩ = some (.int .u64 a0_0) ∧ w'.cell? ⟨gb106, 1, none⟩ = some (.int .u64 a0_1)) ∧ (w'.heap[gb106]? = some (.cells #[.int .u64 a0_0, .int .u64 a0_1] 24 (0, 0))) ∧ (w'.heap[gb107]? = some (.cells #[.int .u64 0, .int .u64 0] 24 (0, 0))) ∧ (w'.heap[s_.1]? = some (.cells #[.int .u64 0, .int .u64 0] 24 (0, 0))) ∧ (w'.heap[s_.2]? = some (.cells #[.int .u64 0, .int .u64 0] 24 (0, 0))) ∧ (w.heap.size ≤ s_.1) ∧ (w.heap.size ≤ s_.1) ∧ (gb106 ≠ s_.1) ∧ (s_.1 ≠ gb106) ∧ (gb107 ≠ s_.1) ∧ (s_.1 ≠ gb107) ∧ (s_.2 ≠ s_.1) ∧ (s_.1 ≠ s_.2) ∧ (w.heap.size ≤ s_.2) ∧ (w.heap.size ≤ s_.2) ∧ (gb106 ≠ s_.2) ∧ (s_.2 ≠ gb106) ∧ (gb107 ≠ s_.2) ∧ (s_.2 ≠ gb107) ∧ (Below w.heap.size w w')) ?_ ?_
         rotate_left
         ·intro hJ8_9
          refine join_ (σ := Unit) 5 (wide_Times.ups 12 127) (fun s_ => [(11, .agg #[.int .u64 t108, .int .u64 t109])]) (fun s_ w' => (w'.cell? ⟨gb106, 0, none⟩ = some (.int .u64 a0_0) ∧ w'.cell? ⟨gb106, 1, none⟩ = some (.int .u64 a0_1)) ∧ (w'.heap[gb106]? = some (.cells #[.int .u64 a0_0, .int .u64 a0_1] 24 (0, 0))) ∧ (w'.heap[gb107]? = some (.cells #[.int .u64 0, .int .u64 0] 24 (0, 0))) ∧ (Below w.heap.size w w')) ?_ ?_
          rotate_left
          ·intro hJ3
           refine join_ (σ := Nat) 5 (wide_Times.ups 12 375) (fun s_ => [(6, .pointer (some ⟨s_, 0, none⟩))]) (fun s_ w' => (w'.cell? ⟨gb106, 0, none⟩ = some (.int .u64 a0_0) ∧ w'.cell? ⟨gb106, 1, none⟩ = some (.int .u64 a0_1)) ∧ (w'.heap[gb106]? = some (.cells #[.int .u64 a0_0, .int .u64 a0_1] 24 (0, 0))) ∧ (w'.heap[gb107]? = some (.cells #[.int .u64 0, .int .u64 0] 24 (0, 0))) ∧ (w'.heap[s_]? = some (.cells #[.int .u64 0, .int .u64 0] 24 (0, 0))) ∧ (w.heap.size ≤ s_) ∧ (w.heap.size ≤ s_) ∧ (gb106 ≠ s_) ∧ (s_ ≠ gb106) ∧ (gb107 ≠ s_) ∧ (s_ ≠ gb107) ∧ (Below w.heap.size w w')) ?_ ?_
           rotate_left
           ·intro hJ8
            refine join_ (σ := Nat) 5 (wide_Times.ups 12 631) (fun s_ => [(7, .pointer (some ⟨s_, 0, none⟩))]) (fun s_ w' => (w'.cell? ⟨gb106, 0, none⟩ = some (.int .u64 a0_0) ∧ w'.cell? ⟨gb106, 1, none⟩ = some (.int .u64 a0_1)) ∧ (w'.heap[gb106]? = some (.cells #[.int .u64 a0_0, .int .u64 a0_1] 24 (0, 0))) ∧ (w'.heap[gb107]? = some (.cells #[.int .u64 0, .int .u64 0] 24 (0, 0))) ∧ (w'.heap[s_]? = some (.cells #[.int .u64 0, .int .u64 0] 24 (0, 0))) ∧ (w.heap.size ≤ s_) ∧ (w.heap.size ≤ s_) ∧ (gb106 ≠ s_) ∧ (s_ ≠ gb106) ∧ (gb107 ≠ s_) ∧ (s_ ≠ gb107) ∧ (Below w.heap.size w w')) ?_ ?_
            rotate_left
            ·intro hJ9
             refine three_ (i := 3) (j := 8) (k := 9) (Ni := some 11) (Nj := some 6) (Nk := some 7) (wide_Times.ups 12 127) (wide_Times.ups 12 375) (wide_Times.ups 12 631) rfl rfl rfl rfl rfl rfl (three_of HT_.out (by kernel_rfl)) (by decide) (by decide) (by decide) (fun K hK => ?_) (fun K hK => ?_) (fun K hK => ?_)
             ·skip
              refine goes_ Try.func16 (by kernel_rfl) rfl #[.int .u64 a0_1, .int .u64 a1] (by rfl) rfl rfl (by (try simp only [List.map_toArray, List.map_cons, List.map_nil]); first | done | rfl) ?_
              with_reducible refine (wide_Mul.calls a0_1 a1 t108 t109 _ A3.out).mono ?_
              rintro e w10 ⟨rfl, hb⟩
              refine ⟨_, rfl, ?_⟩
              replace BK106 := Aside0.mk (blk_below BK106.out hb)
              replace BK107 := Aside0.mk (blk_below BK107.out hb)
              replace HB := Aside0.mk (below_step (by repeat (first | (with_reducible first | exact HB.out | apply below_alloc | apply pw_below_drewN | apply below_drew1 | refine below_set ?_ GE106.out | refine below_set ?_ GE107.out) | exact HB.out)) hb)
              (try clear hb)
              (try clear hb2)
              (try clear hk)
              (try clear hi)
              refine hK.out _ _ ⟨(blk_cell BK106.out 0).trans rfl, (blk_cell BK106.out 1).trans rfl⟩ (fun hHeld => ?_)
              clear hK K
              refine norm_ (a' := ?_) ?_ ?_
              rotate_left
              ·show Act.put _ (some 11) _ = _
               simp only [Act.put, List.setIfInBounds_toArray, List.set_cons_zero, List.set_cons_succ, i64_w, i32_w]
               rfl
              exact norm_ (by first | (simp only [putAll, Act.put, List.setIfInBounds_toArray, List.set_cons_zero, List.set_cons_succ]; done) | (simp only [putAll, Act.put, List.setIfInBounds_toArray, List.set_cons_zero, List.set_cons_succ]; rfl)) (hJ3 () _ ⟨hHeld, (by exact BK106.out), (by exact BK107.out), (by repeat (first | (with_reducible first | exact HB.out | apply below_alloc | apply pw_below_drewN | apply below_drew1 | refine below_set ?_ GE106.out | refine below_set ?_ GE107.out) | exact HB.out))⟩)
             ·skip
              refine box_step ?hg (N := 6) ?hd (cs := #[.int .u64 0, .int .u64 0]) (t := 24) ?hr ?_; (case hd => rfl); (case hg => rfl); (case hr => first | (go_simp; done) | (go_simp; rfl))
              intro gb112 hg w10 hbox hb
              have BK112 := Aside0.mk (hbox)
              have GW112 := Aside0.mk ((by rw [hg]; exact (below_size (by repeat (first | (with_reducible first | exact HB.out | apply below_alloc | apply pw_below_drewN | apply below_drew1 | refine below_set ?_ GE106.out | refine below_set ?_ GE107.out) | exact HB.out))) : w.heap.size ≤ gb112))
              have GE112 := Aside0.mk ((by rw [hg]; exact (below_size (by repeat (first | (with_reducible first | exact HB.out | apply below_alloc | apply pw_below_drewN | apply below_drew1 | refine below_set ?_ GE106.out | refine below_set ?_ GE107.out) | exact HB.out))) : w.heap.size ≤ gb112))
              replace HB := Aside0.mk (below_step (by repeat (first | (with_reducible first | exact HB.out | apply below_alloc | apply pw_below_drewN | apply below_drew1 | refine below_set ?_ GE106.out | refine below_set ?_ GE107.out) | exact HB.out)) hb)
              have NB106_112 := Aside0.mk ((by rw [hg]; exact Nat.ne_of_lt (blk_lt (g := gb106) (o := .cells #[.int .u64 a0_0, .int .u64 a0_1] 24 (0, 0)) BK106.out) : gb106 ≠ gb112))
              have NB112_106 := Aside0.mk ((by rw [hg]; exact Nat.ne_of_gt (blk_lt (g := gb106) (o := .cells #[.int .u64 a0_0, .int .u64 a0_1] 24 (0, 0)) BK106.out) : gb112 ≠ gb106))
              replace BK106 := Aside0.mk (blk_below BK106.out hb)
              have NB107_112 := Aside0.mk ((by rw [hg]; exact Nat.ne_of_lt (blk_lt (g := gb107) (o := .cells #[.int .u64 0, .int .u64 0] 24 (0, 0)) BK107.out) : gb107 ≠ gb112))
              have NB112_107 := Aside0.mk ((by rw [hg]; exact Nat.ne_of_gt (blk_lt (g := gb107) (o := .cells #[.int .u64 0, .int .u64 0] 24 (0, 0)) BK107.out) : gb112 ≠ gb107))
              replace BK107 := Aside0.mk (blk_below BK107.out hb)
              clear hb hbox hg
              refine hK.out _ _ ⟨(blk_cell BK106.out 0).trans rfl, (blk_cell BK106.out 1).trans rfl⟩ (fun hHeld => ?_)
              clear hK K
              refine norm_ (a' := ?_) ?_ ?_
              rotate_left
              ·show Act.put _ (some 6) _ = _
               simp only [Act.put, List.setIfInBounds_toArray, List.set_cons_zero, List.set_cons_succ, i64_w, i32_w]
               rfl
              exact norm_ (by first | (simp only [putAll, Act.put, List.setIfInBounds_toArray, List.set_cons_zero, List.set_cons_succ]; done) | (simp only [putAll, Act.put, List.setIfInBounds_toArray, List.set_cons_zero, List.set_cons_succ]; rfl)) (hJ8 (gb112) _ ⟨hHeld, (by exact BK106.out), (by exact BK107.out), (by exact BK112.out), GW112.out, GE112.out, NB106_112.out, NB112_106.out, NB107_112.out, NB112_107.out, (by repeat (first | (with_reducible first | exact HB.out | apply below_alloc | apply pw_below_drewN | apply below_drew1 | refine below_set ?_ GE106.out | refine below_set ?_ GE107.out | refine below_set ?_ GE112.out) | exact HB.out))⟩)
             ·skip
              refine box_step ?hg (N := 7) ?hd (cs := #[.int .u64 0, .int .u64 0]) (t := 24) ?hr ?_; (case hd => rfl); (case hg => rfl); (case hr => first | (go_simp; done) | (go_simp; rfl))
              intro gb113 hg w10 hbox hb
              have BK113 := Aside0.mk (hbox)
              have GW113 := Aside0.mk ((by rw [hg]; exact (below_size (by repeat (first | (with_reducible first | exact HB.out | apply below_alloc | apply pw_below_drewN | apply below_drew1 | refine below_set ?_ GE106.out | refine below_set ?_ GE107.out) | exact HB.out))) : w.heap.size ≤ gb113))
              have GE113 := Aside0.mk ((by rw [hg]; exact (below_size (by repeat (first | (with_reducible first | exact HB.out | apply below_alloc | apply pw_below_drewN | apply below_drew1 | refine below_set ?_ GE106.out | refine below_set ?_ GE107.out) | exact HB.out))) : w.heap.size ≤ gb113))
              replace HB := Aside0.mk (below_step (by repeat (first | (with_reducible first | exact HB.out | apply below_alloc | apply pw_below_drewN | apply below_drew1 | refine below_set ?_ GE106.out | refine below_set ?_ GE107.out) | exact HB.out)) hb)
              have NB106_113 := Aside0.mk ((by rw [hg]; exact Nat.ne_of_lt (blk_lt (g := gb106) (o := .cells #[.int .u64 a0_0, .int .u64 a0_1] 24 (0, 0)) BK106.out) : gb106 ≠ gb113))
              have NB113_106 := Aside0.mk ((by rw [hg]; exact Nat.ne_of_gt (blk_lt (g := gb106) (o := .cells #[.int .u64 a0_0, .int .u64 a0_1] 24 (0, 0)) BK106.out) : gb113 ≠ gb106))
              replace BK106 := Aside0.mk (blk_below BK106.out hb)
              have NB107_113 := Aside0.mk ((by rw [hg]; exact Nat.ne_of_lt (blk_lt (g := gb107) (o := .cells #[.int .u64 0, .int .u64 0] 24 (0, 0)) BK107.out) : gb107 ≠ gb113))
              have NB113_107 := Aside0.mk ((by rw [hg]; exact Nat.ne_of_gt (blk_lt (g := gb107) (o := .cells #[.int .u64 0, .int .u64 0] 24 (0, 0)) BK107.out) : gb113 ≠ gb107))
              replace BK107 := Aside0.mk (blk_below BK107.out hb)
              clear hb hbox hg
              refine hK.out _ _ ⟨(blk_cell BK106.out 0).trans rfl, (blk_cell BK106.out 1).trans rfl⟩ (fun hHeld => ?_)
              clear hK K
              refine norm_ (a' := ?_) ?_ ?_
              rotate_left
              ·show Act.put _ (some 7) _ = _
               simp only [Act.put, List.setIfInBounds_toArray, List.set_cons_zero, List.set_cons_succ, i64_w, i32_w]
               rfl
              exact norm_ (by first | (simp only [putAll, Act.put, List.setIfInBounds_toArray, List.set_cons_zero, List.set_cons_succ]; done) | (simp only [putAll, Act.put, List.setIfInBounds_toArray, List.set_cons_zero, List.set_cons_succ]; rfl)) (hJ9 (gb113) _ ⟨hHeld, (by exact BK106.out), (by exact BK107.out), (by exact BK113.out), GW113.out, GE113.out, NB106_113.out, NB113_106.out, NB107_113.out, NB113_107.out, (by repeat (first | (with_reducible first | exact HB.out | apply below_alloc | apply pw_below_drewN | apply below_drew1 | refine below_set ?_ GE106.out | refine below_set ?_ GE107.out | refine below_set ?_ GE113.out) | exact HB.out))⟩)
            ·skip
             rintro gb113 w11 ⟨hS_, h0_, h1_, h2_, h3_, h4_, h5_, h6_, h7_, h8_, h9_⟩
             have n0_ : Aside0 (w11.heap[gb106]? = some (.cells #[.int .u64 a0_0, .int .u64 a0_1] 24 (0, 0))) := ⟨h0_⟩
             have n1_ : Aside0 (w11.heap[gb107]? = some (.cells #[.int .u64 0, .int .u64 0] 24 (0, 0))) := ⟨h1_⟩
             have n2_ : Aside0 (w11.heap[gb113]? = some (.cells #[.int .u64 0, .int .u64 0] 24 (0, 0))) := ⟨h2_⟩
             have n3_ : Aside0 (w.heap.size ≤ gb113) := ⟨h3_⟩
             have n4_ : Aside0 (w.heap.size ≤ gb113) := ⟨h4_⟩
             have n5_ : Aside0 (gb106 ≠ gb113) := ⟨h5_⟩
             have n6_ : Aside0 (gb113 ≠ gb106) := ⟨h6_⟩
             have n7_ : Aside0 (gb107 ≠ gb113) := ⟨h7_⟩
             have n8_ : Aside0 (gb113 ≠ gb107) := ⟨h8_⟩
             have n9_ : Aside0 (Below w.heap.size w w11) := ⟨h9_⟩
             clear BK106 BK107 HB h0_ h1_ h2_ h3_ h4_ h5_ h6_ h7_ h8_ h9_
             have BK106 := n0_
             have BK107 := n1_
             have BK113 := n2_
             have GW113 := n3_
             have GE113 := n4_
             have NB106_113 := n5_
             have NB113_106 := n6_
             have NB107_113 := n7_
             have NB113_107 := n8_
             have HB := n9_
             clear n0_ n1_ n2_ n3_ n4_ n5_ n6_ n7_ n8_ n9_
             have hHeld : w11.cell? ⟨gb106, 0, none⟩ = some (.int .u64 a0_0) ∧ w11.cell? ⟨gb106, 1, none⟩ = some (.int .u64 a0_1) := hS_
             refine norm_ (a' := ?_) ?_ ?_
             rotate_left
             ·simp only [putAll, Act.put, List.setIfInBounds_toArray, List.set_cons_zero, List.set_cons_succ]
              rfl
             refine two_ (i := 3) (j := 8) (Ni := some 11) (Nj := some 6) (wide_Times.ups 12 639) (wide_Times.ups 12 887) rfl rfl rfl rfl (two_of HT_.out (by kernel_rfl)) (by decide) (by decide) (fun K hK => ?_) (fun K hK => ?_)
             ·skip
              refine goes_ Try.func16 (by kernel_rfl) rfl #[.int .u64 a0_1, .int .u64 a1] (by rfl) rfl rfl (by (try simp only [List.map_toArray, List.map_cons, List.map_nil]); first | done | rfl) ?_
              with_reducible refine (wide_Mul.calls a0_1 a1 t108 t109 _ A3.out).mono ?_
              rintro e w12 ⟨rfl, hb⟩
              refine ⟨_, rfl, ?_⟩
              replace BK106 := Aside0.mk (blk_below BK106.out hb)
              replace BK107 := Aside0.mk (blk_below BK107.out hb)
              replace BK113 := Aside0.mk (blk_below BK113.out hb)
              replace HB := Aside0.mk (below_step (by repeat (first | (with_reducible first | exact HB.out | apply below_alloc | apply pw_below_drewN | apply below_drew1 | refine below_set ?_ GE106.out | refine below_set ?_ GE107.out | refine below_set ?_ GE113.out) | exact HB.out)) hb)
              (try clear hb)
              (try clear hb2)
              (try clear hk)
              (try clear hi)
              refine hK.out _ _ ⟨(blk_cell BK106.out 0).trans rfl, (blk_cell BK106.out 1).trans rfl⟩ (fun hHeld => ?_)
              clear hK K
              refine norm_ (a' := ?_) ?_ ?_
              rotate_left
              ·show Act.put _ (some 11) _ = _
               simp only [Act.put, List.setIfInBounds_toArray, List.set_cons_zero, List.set_cons_succ, i64_w, i32_w]
               rfl
              exact norm_ (by first | (simp only [putAll, Act.put, List.setIfInBounds_toArray, List.set_cons_zero, List.set_cons_succ]; done) | (simp only [putAll, Act.put, List.setIfInBounds_toArray, List.set_cons_zero, List.set_cons_succ]; rfl)) (hJ3_9 (gb113) _ ⟨hHeld, (by exact BK106.out), (by exact BK107.out), (by exact BK113.out), GW113.out, GE113.out, NB106_113.out, NB113_106.out, NB107_113.out, NB113_107.out, (by repeat (first | (with_reducible first | exact HB.out | apply below_alloc | apply pw_below_drewN | apply below_drew1 | refine below_set ?_ GE106.out | refine below_set ?_ GE107.out | refine below_set ?_ GE113.out) | exact HB.out))⟩)
             ·skip
              refine box_step ?hg (N := 6) ?hd (cs := #[.int .u64 0, .int .u64 0]) (t := 24) ?hr ?_; (case hd => rfl); (case hg => rfl); (case hr => first | (go_simp; done) | (go_simp; rfl))
              intro gb112 hg w12 hbox hb
              have BK112 := Aside0.mk (hbox)
              have GW112 := Aside0.mk ((by rw [hg]; exact (below_size (by repeat (first | (with_reducible first | exact HB.out | apply below_alloc | apply pw_below_drewN | apply below_drew1 | refine below_set ?_ GE106.out | refine below_set ?_ GE107.out | refine below_set ?_ GE113.out) | exact HB.out))) : w.heap.size ≤ gb112))
              have GE112 := Aside0.mk ((by rw [hg]; exact (below_size (by repeat (first | (with_reducible first | exact HB.out | apply below_alloc | apply pw_below_drewN | apply below_drew1 | refine below_set ?_ GE106.out | refine below_set ?_ GE107.out | refine below_set ?_ GE113.out) | exact HB.out))) : w.heap.size ≤ gb112))
              replace HB := Aside0.mk (below_step (by repeat (first | (with_reducible first | exact HB.out | apply below_alloc | apply pw_below_drewN | apply below_drew1 | refine below_set ?_ GE106.out | refine below_set ?_ GE107.out | refine below_set ?_ GE113.out) | exact HB.out)) hb)
              have NB106_112 := Aside0.mk ((by rw [hg]; exact Nat.ne_of_lt (blk_lt (g := gb106) (o := .cells #[.int .u64 a0_0, .int .u64 a0_1] 24 (0, 0)) BK106.out) : gb106 ≠ gb112))
              have NB112_106 := Aside0.mk ((by rw [hg]; exact Nat.ne_of_gt (blk_lt (g := gb106) (o := .cells #[.int .u64 a0_0, .int .u64 a0_1] 24 (0, 0)) BK106.out) : gb112 ≠ gb106))
              replace BK106 := Aside0.mk (blk_below BK106.out hb)
              have NB107_112 := Aside0.mk ((by rw [hg]; exact Nat.ne_of_lt (blk_lt (g := gb107) (o := .cells #[.int .u64 0, .int .u64 0] 24 (0, 0)) BK107.out) : gb107 ≠ gb112))
              have NB112_107 := Aside0.mk ((by rw [hg]; exact Nat.ne_of_gt (blk_lt (g := gb107) (o := .cells #[.int .u64 0, .int .u64 0] 24 (0, 0)) BK107.out) : gb112 ≠ gb107))
              replace BK107 := Aside0.mk (blk_below BK107.out hb)
              have NB113_112 := Aside0.mk ((by rw [hg]; exact Nat.ne_of_lt (blk_lt (g := gb113) (o := .cells #[.int .u64 0, .int .u64 0] 24 (0, 0)) BK113.out) : gb113 ≠ gb112))
              have NB112_113 := Aside0.mk ((by rw [hg]; exact Nat.ne_of_gt (blk_lt (g := gb113) (o := .cells #[.int .u64 0, .int .u64 0] 24 (0, 0)) BK113.out) : gb112 ≠ gb113))
              replace BK113 := Aside0.mk (blk_below BK113.out hb)
              clear hb hbox hg
              refine hK.out _ _ ⟨(blk_cell BK106.out 0).trans rfl, (blk_cell BK106.out 1).trans rfl⟩ (fun hHeld => ?_)
              clear hK K
              refine norm_ (a' := ?_) ?_ ?_
              rotate_left
              ·show Act.put _ (some 6) _ = _
               simp only [Act.put, List.setIfInBounds_toArray, List.set_cons_zero, List.set_cons_succ, i64_w, i32_w]
               rfl
              exact norm_ (by first | (simp only [putAll, Act.put, List.setIfInBounds_toArray, List.set_cons_zero, List.set_cons_succ]; done) | (simp only [putAll, Act.put, List.setIfInBounds_toArray, List.set_cons_zero, List.set_cons_succ]; rfl)) (hJ8_9 (gb112, gb113) _ ⟨hHeld, (by exact BK106.out), (by exact BK107.out), (by exact BK112.out), (by exact BK113.out), GW112.out, GE112.out, NB106_112.out, NB112_106.out, NB107_112.out, NB112_107.out, NB113_112.out, NB112_113.out, GW113.out, GE113.out, NB106_113.out, NB113_106.out, NB107_113.out, NB113_107.out, (by repeat (first | (with_reducible first | exact HB.out | apply below_alloc | apply pw_below_drewN | apply below_drew1 | refine below_set ?_ GE106.out | refine below_set ?_ GE107.out | refine below_set ?_ GE113.out | refine below_set ?_ GE112.out) | exact HB.out))⟩)
           ·skip
            rintro gb112 w11 ⟨hS_, h0_, h1_, h2_, h3_, h4_, h5_, h6_, h7_, h8_, h9_⟩
            have n0_ : Aside0 (w11.heap[gb106]? = some (.cells #[.int .u64 a0_0, .int .u64 a0_1] 24 (0, 0))) := ⟨h0_⟩
            have n1_ : Aside0 (w11.heap[gb107]? = some (.cells #[.int .u64 0, .int .u64 0] 24 (0, 0))) := ⟨h1_⟩
            have n2_ : Aside0 (w11.heap[gb112]? = some (.cells #[.int .u64 0, .int .u64 0] 24 (0, 0))) := ⟨h2_⟩
            have n3_ : Aside0 (w.heap.size ≤ gb112) := ⟨h3_⟩
            have n4_ : Aside0 (w.heap.size ≤ gb112) := ⟨h4_⟩
            have n5_ : Aside0 (gb106 ≠ gb112) := ⟨h5_⟩
            have n6_ : Aside0 (gb112 ≠ gb106) := ⟨h6_⟩
            have n7_ : Aside0 (gb107 ≠ gb112) := ⟨h7_⟩
            have n8_ : Aside0 (gb112 ≠ gb107) := ⟨h8_⟩
            have n9_ : Aside0 (Below w.heap.size w w11) := ⟨h9_⟩
            clear BK106 BK107 HB h0_ h1_ h2_ h3_ h4_ h5_ h6_ h7_ h8_ h9_
            have BK106 := n0_
            have BK107 := n1_
            have BK112 := n2_
            have GW112 := n3_
            have GE112 := n4_
            have NB106_112 := n5_
            have NB112_106 := n6_
            have NB107_112 := n7_
            have NB112_107 := n8_
            have HB := n9_
            clear n0_ n1_ n2_ n3_ n4_ n5_ n6_ n7_ n8_ n9_
            have hHeld : w11.cell? ⟨gb106, 0, none⟩ = some (.int .u64 a0_0) ∧ w11.cell? ⟨gb106, 1, none⟩ = some (.int .u64 a0_1) := hS_
            refine norm_ (a' := ?_) ?_ ?_
            rotate_left
            ·simp only [putAll, Act.put, List.setIfInBounds_toArray, List.set_cons_zero, List.set_cons_succ]
             rfl
            refine two_ (i := 3) (j := 9) (Ni := some 11) (Nj := some 7) (wide_Times.ups 12 383) (wide_Times.ups 12 887) rfl rfl rfl rfl (two_of HT_.out (by kernel_rfl)) (by decide) (by decide) (fun K hK => ?_) (fun K hK => ?_)
            ·skip
             refine goes_ Try.func16 (by kernel_rfl) rfl #[.int .u64 a0_1, .int .u64 a1] (by rfl) rfl rfl (by (try simp only [List.map_toArray, List.map_cons, List.map_nil]); first | done | rfl) ?_
             with_reducible refine (wide_Mul.calls a0_1 a1 t108 t109 _ A3.out).mono ?_
             rintro e w12 ⟨rfl, hb⟩
             refine ⟨_, rfl, ?_⟩
             replace BK106 := Aside0.mk (blk_below BK106.out hb)
             replace BK107 := Aside0.mk (blk_below BK107.out hb)
             replace BK112 := Aside0.mk (blk_below BK112.out hb)
             replace HB := Aside0.mk (below_step (by repeat (first | (with_reducible first | exact HB.out | apply below_alloc | apply pw_below_drewN | apply below_drew1 | refine below_set ?_ GE106.out | refine below_set ?_ GE107.out | refine below_set ?_ GE112.out) | exact HB.out)) hb)
             (try clear hb)
             (try clear hb2)
             (try clear hk)
             (try clear hi)
             refine hK.out _ _ ⟨(blk_cell BK106.out 0).trans rfl, (blk_cell BK106.out 1).trans rfl⟩ (fun hHeld => ?_)
             clear hK K
             refine norm_ (a' := ?_) ?_ ?_
             rotate_left
             ·show Act.put _ (some 11) _ = _
              simp only [Act.put, List.setIfInBounds_toArray, List.set_cons_zero, List.set_cons_succ, i64_w, i32_w]
              rfl
             exact norm_ (by first | (simp only [putAll, Act.put, List.setIfInBounds_toArray, List.set_cons_zero, List.set_cons_succ]; done) | (simp only [putAll, Act.put, List.setIfInBounds_toArray, List.set_cons_zero, List.set_cons_succ]; rfl)) (hJ3_8 (gb112) _ ⟨hHeld, (by exact BK106.out), (by exact BK107.out), (by exact BK112.out), GW112.out, GE112.out, NB106_112.out, NB112_106.out, NB107_112.out, NB112_107.out, (by repeat (first | (with_reducible first | exact HB.out | apply below_alloc | apply pw_below_drewN | apply below_drew1 | refine below_set ?_ GE106.out | refine below_set ?_ GE107.out | refine below_set ?_ GE112.out) | exact HB.out))⟩)
            ·skip
             refine box_step ?hg (N := 7) ?hd (cs := #[.int .u64 0, .int .u64 0]) (t := 24) ?hr ?_; (case hd => rfl); (case hg => rfl); (case hr => first | (go_simp; done) | (go_simp; rfl))
             intro gb113 hg w12 hbox hb
             have BK113 := Aside0.mk (hbox)
             have GW113 := Aside0.mk ((by rw [hg]; exact (below_size (by repeat (first | (with_reducible first | exact HB.out | apply below_alloc | apply pw_below_drewN | apply below_drew1 | refine below_set ?_ GE106.out | refine below_set ?_ GE107.out | refine below_set ?_ GE112.out) | exact HB.out))) : w.heap.size ≤ gb113))
             have GE113 := Aside0.mk ((by rw [hg]; exact (below_size (by repeat (first | (with_reducible first | exact HB.out | apply below_alloc | apply pw_below_drewN | apply below_drew1 | refine below_set ?_ GE106.out | refine below_set ?_ GE107.out | refine below_set ?_ GE112.out) | exact HB.out))) : w.heap.size ≤ gb113))
             replace HB := Aside0.mk (below_step (by repeat (first | (with_reducible first | exact HB.out | apply below_alloc | apply pw_below_drewN | apply below_drew1 | refine below_set ?_ GE106.out | refine below_set ?_ GE107.out | refine below_set ?_ GE112.out) | exact HB.out)) hb)
             have NB106_113 := Aside0.mk ((by rw [hg]; exact Nat.ne_of_lt (blk_lt (g := gb106) (o := .cells #[.int .u64 a0_0, .int .u64 a0_1] 24 (0, 0)) BK106.out) : gb106 ≠ gb113))
             have NB113_106 := Aside0.mk ((by rw [hg]; exact Nat.ne_of_gt (blk_lt (g := gb106) (o := .cells #[.int .u64 a0_0, .int .u64 a0_1] 24 (0, 0)) BK106.out) : gb113 ≠ gb106))
             replace BK106 := Aside0.mk (blk_below BK106.out hb)
             have NB107_113 := Aside0.mk ((by rw [hg]; exact Nat.ne_of_lt (blk_lt (g := gb107) (o := .cells #[.int .u64 0, .int .u64 0] 24 (0, 0)) BK107.out) : gb107 ≠ gb113))
             have NB113_107 := Aside0.mk ((by rw [hg]; exact Nat.ne_of_gt (blk_lt (g := gb107) (o := .cells #[.int .u64 0, .int .u64 0] 24 (0, 0)) BK107.out) : gb113 ≠ gb107))
             replace BK107 := Aside0.mk (blk_below BK107.out hb)
             have NB112_113 := Aside0.mk ((by rw [hg]; exact Nat.ne_of_lt (blk_lt (g := gb112) (o := .cells #[.int .u64 0, .int .u64 0] 24 (0, 0)) BK112.out) : gb112 ≠ gb113))
             have NB113_112 := Aside0.mk ((by rw [hg]; exact Nat.ne_of_gt (blk_lt (g := gb112) (o := .cells #[.int .u64 0, .int .u64 0] 24 (0, 0)) BK112.out) : gb113 ≠ gb112))
             replace BK112 := Aside0.mk (blk_below BK112.out hb)
             clear hb hbox hg
             refine hK.out _ _ ⟨(blk_cell BK106.out 0).trans rfl, (blk_cell BK106.out 1).trans rfl⟩ (fun hHeld => ?_)
             clear hK K
             refine norm_ (a' := ?_) ?_ ?_
             rotate_left
             ·show Act.put _ (some 7) _ = _
              simp only [Act.put, List.setIfInBounds_toArray, List.set_cons_zero, List.set_cons_succ, i64_w, i32_w]
              rfl
             exact norm_ (by first | (simp only [putAll, Act.put, List.setIfInBounds_toArray, List.set_cons_zero, List.set_cons_succ]; done) | (simp only [putAll, Act.put, List.setIfInBounds_toArray, List.set_cons_zero, List.set_cons_succ]; rfl)) (hJ8_9 (gb112, gb113) _ ⟨hHeld, (by exact BK106.out), (by exact BK107.out), (by exact BK112.out), (by exact BK113.out), GW112.out, GE112.out, NB106_112.out, NB112_106.out, NB107_112.out, NB112_107.out, NB113_112.out, NB112_113.out, GW113.out, GE113.out, NB106_113.out, NB113_106.out, NB107_113.out, NB113_107.out, (by repeat (first | (with_reducible first | exact HB.out | apply below_alloc | apply pw_below_drewN | apply below_drew1 | refine below_set ?_ GE106.out | refine below_set ?_ GE107.out | refine below_set ?_ GE112.out | refine below_set ?_ GE113.out) | exact HB.out))⟩)
          ·skip
           rintro _ w11 ⟨hS_, h0_, h1_, h2_⟩
           have n0_ : Aside0 (w11.heap[gb106]? = some (.cells #[.int .u64 a0_0, .int .u64 a0_1] 24 (0, 0))) := ⟨h0_⟩
           have n1_ : Aside0 (w11.heap[gb107]? = some (.cells #[.int .u64 0, .int .u64 0] 24 (0, 0))) := ⟨h1_⟩
           have n2_ : Aside0 (Below w.heap.size w w11) := ⟨h2_⟩
           clear BK106 BK107 HB h0_ h1_ h2_
           have BK106 := n0_
           have BK107 := n1_
           have HB := n2_
           clear n0_ n1_ n2_
           have hHeld : w11.cell? ⟨gb106, 0, none⟩ = some (.int .u64 a0_0) ∧ w11.cell? ⟨gb106, 1, none⟩ = some (.int .u64 a0_1) := hS_
           refine norm_ (a' := ?_) ?_ ?_
           rotate_left
           ·simp only [putAll, Act.put, List.setIfInBounds_toArray, List.set_cons_zero, List.set_cons_succ]
            rfl
           refine three_ (i := 7) (j := 8) (k := 9) (Ni := some 15) (Nj := some 6) (Nk := some 7) (wide_Times.ups 12 255) (wide_Times.ups 12 383) (wide_Times.ups 12 639) rfl rfl rfl rfl rfl rfl (three_of HT_.out (by kernel_rfl)) (by decide) (by decide) (by decide) (fun K hK => ?_) (fun K hK => ?_) (fun K hK => ?_)
           ·skip
            refine goes_ Try.func16 (by kernel_rfl) rfl #[.int .u64 a0_0, .int .u64 a1] (by rfl) rfl rfl (by (try simp only [List.map_toArray, List.map_cons, List.map_nil]); first | done | rfl) ?_
            with_reducible refine (wide_Mul.calls a0_0 a1 t110 t111 _ A4.out).mono ?_
            rintro e w12 ⟨rfl, hb⟩
            refine ⟨_, rfl, ?_⟩
            replace BK106 := Aside0.mk (blk_below BK106.out hb)
            replace BK107 := Aside0.mk (blk_below BK107.out hb)
            replace HB := Aside0.mk (below_step (by repeat (first | (with_reducible first | exact HB.out | apply below_alloc | apply pw_below_drewN | apply below_drew1 | refine below_set ?_ GE106.out | refine below_set ?_ GE107.out) | exact HB.out)) hb)
            (try clear hb)
            (try clear hb2)
            (try clear hk)
            (try clear hi)
            refine hK.out _ _ ⟨(blk_cell BK106.out 0).trans rfl, (blk_cell BK106.out 1).trans rfl⟩ (fun hHeld => ?_)
            clear hK K
            refine norm_ (a' := ?_) ?_ ?_
            rotate_left
            ·show Act.put _ (some 15) _ = _
             simp only [Act.put, List.setIfInBounds_toArray, List.set_cons_zero, List.set_cons_succ, i64_w, i32_w]
             rfl
            exact norm_ (by first | (simp only [putAll, Act.put, List.setIfInBounds_toArray, List.set_cons_zero, List.set_cons_succ]; done) | (simp only [putAll, Act.put, List.setIfInBounds_toArray, List.set_cons_zero, List.set_cons_succ]; rfl)) (hJ3_7 () _ ⟨hHeld, (by exact BK106.out), (by exact BK107.out), (by repeat (first | (with_reducible first | exact HB.out | apply below_alloc | apply pw_below_drewN | apply below_drew1 | refine below_set ?_ GE106.out | refine below_set ?_ GE107.out) | exact HB.out))⟩)
           ·skip
            refine box_step ?hg (N := 6) ?hd (cs := #[.int .u64 0, .int .u64 0]) (t := 24) ?hr ?_; (case hd => rfl); (case hg => rfl); (case hr => first | (go_simp; done) | (go_simp; rfl))
            intro gb112 hg w12 hbox hb
            have BK112 := Aside0.mk (hbox)
            have GW112 := Aside0.mk ((by rw [hg]; exact (below_size (by repeat (first | (with_reducible first | exact HB.out | apply below_alloc | apply pw_below_drewN | apply below_drew1 | refine below_set ?_ GE106.out | refine below_set ?_ GE107.out) | exact HB.out))) : w.heap.size ≤ gb112))
            have GE112 := Aside0.mk ((by rw [hg]; exact (below_size (by repeat (first | (with_reducible first | exact HB.out | apply below_alloc | apply pw_below_drewN | apply below_drew1 | refine below_set ?_ GE106.out | refine below_set ?_ GE107.out) | exact HB.out))) : w.heap.size ≤ gb112))
            replace HB := Aside0.mk (below_step (by repeat (first | (with_reducible first | exact HB.out | apply below_alloc | apply pw_below_drewN | apply below_drew1 | refine below_set ?_ GE106.out | refine below_set ?_ GE107.out) | exact HB.out)) hb)
            have NB106_112 := Aside0.mk ((by rw [hg]; exact Nat.ne_of_lt (blk_lt (g := gb106) (o := .cells #[.int .u64 a0_0, .int .u64 a0_1] 24 (0, 0)) BK106.out) : gb106 ≠ gb112))
            have NB112_106 := Aside0.mk ((by rw [hg]; exact Nat.ne_of_gt (blk_lt (g := gb106) (o := .cells #[.int .u64 a0_0, .int .u64 a0_1] 24 (0, 0)) BK106.out) : gb112 ≠ gb106))
            replace BK106 := Aside0.mk (blk_below BK106.out hb)
            have NB107_112 := Aside0.mk ((by rw [hg]; exact Nat.ne_of_lt (blk_lt (g := gb107) (o := .cells #[.int .u64 0, .int .u64 0] 24 (0, 0)) BK107.out) : gb107 ≠ gb112))
            have NB112_107 := Aside0.mk ((by rw [hg]; exact Nat.ne_of_gt (blk_lt (g := gb107) (o := .cells #[.int .u64 0, .int .u64 0] 24 (0, 0)) BK107.out) : gb112 ≠ gb107))
            replace BK107 := Aside0.mk (blk_below BK107.out hb)
            clear hb hbox hg
            refine hK.out _ _ ⟨(blk_cell BK106.out 0).trans rfl, (blk_cell BK106.out 1).trans rfl⟩ (fun hHeld => ?_)
            clear hK K
            refine norm_ (a' := ?_) ?_ ?_
            rotate_left
            ·show Act.put _ (some 6) _ = _
             simp only [Act.put, List.setIfInBounds_toArray, List.set_cons_zero, List.set_cons_succ, i64_w, i32_w]
             rfl
            exact norm_ (by first | (simp only [putAll, Act.put, List.setIfInBounds_toArray, List.set_cons_zero, List.set_cons_succ]; done) | (simp only [putAll, Act.put, List.setIfInBounds_toArray, List.set_cons_zero, List.set_cons_succ]; rfl)) (hJ3_8 (gb112) _ ⟨hHeld, (by exact BK106.out), (by exact BK107.out), (by exact BK112.out), GW112.out, GE112.out, NB106_112.out, NB112_106.out, NB107_112.out, NB112_107.out, (by repeat (first | (with_reducible first | exact HB.out | apply below_alloc | apply pw_below_drewN | apply below_drew1 | refine below_set ?_ GE106.out | refine below_set ?_ GE107.out | refine below_set ?_ GE112.out) | exact HB.out))⟩)
           ·skip
            refine box_step ?hg (N := 7) ?hd (cs := #[.int .u64 0, .int .u64 0]) (t := 24) ?hr ?_; (case hd => rfl); (case hg => rfl); (case hr => first | (go_simp; done) | (go_simp; rfl))
            intro gb113 hg w12 hbox hb
            have BK113 := Aside0.mk (hbox)
            have GW113 := Aside0.mk ((by rw [hg]; exact (below_size (by repeat (first | (with_reducible first | exact HB.out | apply below_alloc | apply pw_below_drewN | apply below_drew1 | refine below_set ?_ GE106.out | refine below_set ?_ GE107.out) | exact HB.out))) : w.heap.size ≤ gb113))
            have GE113 := Aside0.mk ((by rw [hg]; exact (below_size (by repeat (first | (with_reducible first | exact HB.out | apply below_alloc | apply pw_below_drewN | apply below_drew1 | refine below_set ?_ GE106.out | refine below_set ?_ GE107.out) | exact HB.out))) : w.heap.size ≤ gb113))
            replace HB := Aside0.mk (below_step (by repeat (first | (with_reducible first | exact HB.out | apply below_alloc | apply pw_below_drewN | apply below_drew1 | refine below_set ?_ GE106.out | refine below_set ?_ GE107.out) | exact HB.out)) hb)
            have NB106_113 := Aside0.mk ((by rw [hg]; exact Nat.ne_of_lt (blk_lt (g := gb106) (o := .cells #[.int .u64 a0_0, .int .u64 a0_1] 24 (0, 0)) BK106.out) : gb106 ≠ gb113))
            have NB113_106 := Aside0.mk ((by rw [hg]; exact Nat.ne_of_gt (blk_lt (g := gb106) (o := .cells #[.int .u64 a0_0, .int .u64 a0_1] 24 (0, 0)) BK106.out) : gb113 ≠ gb106))
            replace BK106 := Aside0.mk (blk_below BK106.out hb)
            have NB107_113 := Aside0.mk ((by rw [hg]; exact Nat.ne_of_lt (blk_lt (g := gb107) (o := .cells #[.int .u64 0, .int .u64 0] 24 (0, 0)) BK107.out) : gb107 ≠ gb113))
            have NB113_107 := Aside0.mk ((by rw [hg]; exact Nat.ne_of_gt (blk_lt (g := gb107) (o := .cells #[.int .u64 0, .int .u64 0] 24 (0, 0)) BK107.out) : gb113 ≠ gb107))
            replace BK107 := Aside0.mk (blk_below BK107.out hb)
            clear hb hbox hg
            refine hK.out _ _ ⟨(blk_cell BK106.out 0).trans rfl, (blk_cell BK106.out 1).trans rfl⟩ (fun hHeld => ?_)
            clear hK K
            refine norm_ (a' := ?_) ?_ ?_
            rotate_left
            ·show Act.put _ (some 7) _ = _
             simp only [Act.put, List.setIfInBounds_toArray, List.set_cons_zero, List.set_cons_succ, i64_w, i32_w]
             rfl
            exact norm_ (by first | (simp only [putAll, Act.put, List.setIfInBounds_toArray, List.set_cons_zero, List.set_cons_succ]; done) | (simp only [putAll, Act.put, List.setIfInBounds_toArray, List.set_cons_zero, List.set_cons_succ]; rfl)) (hJ3_9 (gb113) _ ⟨hHeld, (by exact BK106.out), (by exact BK107.out), (by exact BK113.out), GW113.out, GE113.out, NB106_113.out, NB113_106.out, NB107_113.out, NB113_107.out, (by repeat (first | (with_reducible first | exact HB.out | apply below_alloc | apply pw_below_drewN | apply below_drew1 | refine below_set ?_ GE106.out | refine below_set ?_ GE107.out | refine below_set ?_ GE113.out) | exact HB.out))⟩)
         ·skip
          rintro ⟨gb112, gb113⟩ w12 ⟨hS_, h0_, h1_, h2_, h3_, h4_, h5_, h6_, h7_, h8_, h9_, h10_, h11_, h12_, h13_, h14_, h15_, h16_, h17_, h18_⟩
          have n0_ : Aside0 (w12.heap[gb106]? = some (.cells #[.int .u64 a0_0, .int .u64 a0_1] 24 (0, 0))) := ⟨h0_⟩
          have n1_ : Aside0 (w12.heap[gb107]? = some (.cells #[.int .u64 0, .int .u64 0] 24 (0, 0))) := ⟨h1_⟩
          have n2_ : Aside0 (w12.heap[gb112]? = some (.cells #[.int .u64 0, .int .u64 0] 24 (0, 0))) := ⟨h2_⟩
          have n3_ : Aside0 (w12.heap[gb113]? = some (.cells #[.int .u64 0, .int .u64 0] 24 (0, 0))) := ⟨h3_⟩
          have n4_ : Aside0 (w.heap.size ≤ gb112) := ⟨h4_⟩
          have n5_ : Aside0 (w.heap.size ≤ gb112) := ⟨h5_⟩
          have n6_ : Aside0 (gb106 ≠ gb112) := ⟨h6_⟩
          have n7_ : Aside0 (gb112 ≠ gb106) := ⟨h7_⟩
          have n8_ : Aside0 (gb107 ≠ gb112) := ⟨h8_⟩
          have n9_ : Aside0 (gb112 ≠ gb107) := ⟨h9_⟩
          have n10_ : Aside0 (gb113 ≠ gb112) := ⟨h10_⟩
          have n11_ : Aside0 (gb112 ≠ gb113) := ⟨h11_⟩
          have n12_ : Aside0 (w.heap.size ≤ gb113) := ⟨h12_⟩
          have n13_ : Aside0 (w.heap.size ≤ gb113) := ⟨h13_⟩
          have n14_ : Aside0 (gb106 ≠ gb113) := ⟨h14_⟩
          have n15_ : Aside0 (gb113 ≠ gb106) := ⟨h15_⟩
          have n16_ : Aside0 (gb107 ≠ gb113) := ⟨h16_⟩
          have n17_ : Aside0 (gb113 ≠ gb107) := ⟨h17_⟩
          have n18_ : Aside0 (Below w.heap.size w w12) := ⟨h18_⟩
          clear BK106 BK107 HB h0_ h1_ h2_ h3_ h4_ h5_ h6_ h7_ h8_ h9_ h10_ h11_ h12_ h13_ h14_ h15_ h16_ h17_ h18_
          have BK106 := n0_
          have BK107 := n1_
          have BK112 := n2_
          have BK113 := n3_
          have GW112 := n4_
          have GE112 := n5_
          have NB106_112 := n6_
          have NB112_106 := n7_
          have NB107_112 := n8_
          have NB112_107 := n9_
          have NB113_112 := n10_
          have NB112_113 := n11_
          have GW113 := n12_
          have GE113 := n13_
          have NB106_113 := n14_
          have NB113_106 := n15_
          have NB107_113 := n16_
          have NB113_107 := n17_
          have HB := n18_
          clear n0_ n1_ n2_ n3_ n4_ n5_ n6_ n7_ n8_ n9_ n10_ n11_ n12_ n13_ n14_ n15_ n16_ n17_ n18_
          have hHeld : w12.cell? ⟨gb106, 0, none⟩ = some (.int .u64 a0_0) ∧ w12.cell? ⟨gb106, 1, none⟩ = some (.int .u64 a0_1) := hS_
          refine norm_ (a' := ?_) ?_ ?_
          rotate_left
          ·simp only [putAll, Act.put, List.setIfInBounds_toArray, List.set_cons_zero, List.set_cons_succ]
           rfl
          refine one_ (i := 3) (N := some 11) (wide_Times.ups 12 895) rfl rfl (one_of HT_.out (by kernel_rfl)) (by decide) (fun K hK => ?_)
          refine goes_ Try.func16 (by kernel_rfl) rfl #[.int .u64 a0_1, .int .u64 a1] (by rfl) rfl rfl (by (try simp only [List.map_toArray, List.map_cons, List.map_nil]); first | done | rfl) ?_
          with_reducible refine (wide_Mul.calls a0_1 a1 t108 t109 _ A3.out).mono ?_
          rintro e w13 ⟨rfl, hb⟩
          refine ⟨_, rfl, ?_⟩
          replace BK106 := Aside0.mk (blk_below BK106.out hb)
          replace BK107 := Aside0.mk (blk_below BK107.out hb)
          replace BK112 := Aside0.mk (blk_below BK112.out hb)
          replace BK113 := Aside0.mk (blk_below BK113.out hb)
          replace HB := Aside0.mk (below_step (by repeat (first | (with_reducible first | exact HB.out | apply below_alloc | apply pw_below_drewN | apply below_drew1 | refine below_set ?_ GE106.out | refine below_set ?_ GE107.out | refine below_set ?_ GE112.out | refine below_set ?_ GE113.out) | exact HB.out)) hb)
          (try clear hb)
          (try clear hb2)
          (try clear hk)
          (try clear hi)
          refine hK.out _ _ ⟨(blk_cell BK106.out 0).trans rfl, (blk_cell BK106.out 1).trans rfl⟩ (fun hHeld => ?_)
          clear hK K
          refine norm_ (a' := ?_) ?_ ?_
          rotate_left
          ·show Act.put _ (some 11) _ = _
           simp only [Act.put, List.setIfInBounds_toArray, List.set_cons_zero, List.set_cons_succ, i64_w, i32_w]
           rfl
          exact norm_ (by first | (simp only [putAll, Act.put, List.setIfInBounds_toArray, List.set_cons_zero, List.set_cons_succ]; done) | (simp only [putAll, Act.put, List.setIfInBounds_toArray, List.set_cons_zero, List.set_cons_succ]; rfl)) (hJ3_8_9 (gb112, gb113) _ ⟨hHeld, (by exact BK106.out), (by exact BK107.out), (by exact BK112.out), (by exact BK113.out), GW112.out, GE112.out, NB106_112.out, NB112_106.out, NB107_112.out, NB112_107.out, NB113_112.out, NB112_113.out, GW113.out, GE113.out, NB106_113.out, NB113_106.out, NB107_113.out, NB113_107.out, (by repeat (first | (with_reducible first | exact HB.out | apply below_alloc | apply pw_below_drewN | apply below_drew1 | refine below_set ?_ GE106.out | refine below_set ?_ GE107.out | refine below_set ?_ GE112.out | refine below_set ?_ GE113.out) | exact HB.out))⟩)
        ·skip
         rintro gb113 w12 ⟨hS_, h0_, h1_, h2_, h3_, h4_, h5_, h6_, h7_, h8_, h9_⟩
         have n0_ : Aside0 (w12.heap[gb106]? = some (.cells #[.int .u64 a0_0, .int .u64 a0_1] 24 (0, 0))) := ⟨h0_⟩
         have n1_ : Aside0 (w12.heap[gb107]? = some (.cells #[.int .u64 0, .int .u64 0] 24 (0, 0))) := ⟨h1_⟩
         have n2_ : Aside0 (w12.heap[gb113]? = some (.cells #[.int .u64 0, .int .u64 0] 24 (0, 0))) := ⟨h2_⟩
         have n3_ : Aside0 (w.heap.size ≤ gb113) := ⟨h3_⟩
         have n4_ : Aside0 (w.heap.size ≤ gb113) := ⟨h4_⟩
         have n5_ : Aside0 (gb106 ≠ gb113) := ⟨h5_⟩
         have n6_ : Aside0 (gb113 ≠ gb106) := ⟨h6_⟩
         have n7_ : Aside0 (gb107 ≠ gb113) := ⟨h7_⟩
         have n8_ : Aside0 (gb113 ≠ gb107) := ⟨h8_⟩
         have n9_ : Aside0 (Below w.heap.size w w12) := ⟨h9_⟩
         clear BK106 BK107 HB h0_ h1_ h2_ h3_ h4_ h5_ h6_ h7_ h8_ h9_
         have BK106 := n0_
         have BK107 := n1_
         have BK113 := n2_
         have GW113 := n3_
         have GE113 := n4_
         have NB106_113 := n5_
         have NB113_106 := n6_
         have NB107_113 := n7_
         have NB113_107 := n8_
         have HB := n9_
         clear n0_ n1_ n2_ n3_ n4_ n5_ n6_ n7_ n8_ n9_
         have hHeld : w12.cell? ⟨gb106, 0, none⟩ = some (.int .u64 a0_0) ∧ w12.cell? ⟨gb106, 1, none⟩ = some (.int .u64 a0_1) := hS_
         refine norm_ (a' := ?_) ?_ ?_
         rotate_left
         ·simp only [putAll, Act.put, List.setIfInBounds_toArray, List.set_cons_zero, List.set_cons_succ]
          rfl
         refine two_ (i := 7) (j := 8) (Ni := some 15) (Nj := some 6) (wide_Times.ups 12 767) (wide_Times.ups 12 895) rfl rfl rfl rfl (two_of HT_.out (by kernel_rfl)) (by decide) (by decide) (fun K hK => ?_) (fun K hK => ?_)
         ·skip
          refine goes_ Try.func16 (by kernel_rfl) rfl #[.int .u64 a0_0, .int .u64 a1] (by rfl) rfl rfl (by (try simp only [List.map_toArray, List.map_cons, List.map_nil]); first | done | rfl) ?_
          with_reducible refine (wide_Mul.calls a0_0 a1 t110 t111 _ A4.out).mono ?_
          rintro e w13 ⟨rfl, hb⟩
          refine ⟨_, rfl, ?_⟩
          replace BK106 := Aside0.mk (blk_below BK106.out hb)
          replace BK107 := Aside0.mk (blk_below BK107.out hb)
          replace BK113 := Aside0.mk (blk_below BK113.out hb)
          replace HB := Aside0.mk (below_step (by repeat (first | (with_reducible first | exact HB.out | apply below_alloc | apply pw_below_drewN | apply below_drew1 | refine below_set ?_ GE106.out | refine below_set ?_ GE107.out | refine below_set ?_ GE113.out) | exact HB.out)) hb)
          (try clear hb)
          (try clear hb2)
          (try clear hk)
          (try clear hi)
          refine hK.out _ _ ⟨(blk_cell BK106.out 0).trans rfl, (blk_cell BK106.out 1).trans rfl⟩ (fun hHeld => ?_)
          clear hK K
          refine norm_ (a' := ?_) ?_ ?_
          rotate_left
          ·show Act.put _ (some 15) _ = _
           simp only [Act.put, List.setIfInBounds_toArray, List.set_cons_zero, List.set_cons_succ, i64_w, i32_w]
           rfl
          exact norm_ (by first | (simp only [putAll, Act.put, List.setIfInBounds_toArray, List.set_cons_zero, List.set_cons_succ]; done) | (simp only [putAll, Act.put, List.setIfInBounds_toArray, List.set_cons_zero, List.set_cons_succ]; rfl)) (hJ3_7_9 (gb113) _ ⟨hHeld, (by exact BK106.out), (by exact BK107.out), (by exact BK113.out), GW113.out, GE113.out, NB106_113.out, NB113_106.out, NB107_113.out, NB113_107.out, (by repeat (first | (with_reducible first | exact HB.out | apply below_alloc | apply pw_below_drewN | apply below_drew1 | refine below_set ?_ GE106.out | refine below_set ?_ GE107.out | refine below_set ?_ GE113.out) | exact HB.out))⟩)
         ·skip
          refine box_step ?hg (N := 6) ?hd (cs := #[.int .u64 0, .int .u64 0]) (t := 24) ?hr ?_; (case hd => rfl); (case hg => rfl); (case hr => first | (go_simp; done) | (go_simp; rfl))
          intro gb112 hg w13 hbox hb
          have BK112 := Aside0.mk (hbox)
          have GW112 := Aside0.mk ((by rw [hg]; exact (below_size (by repeat (first | (with_reducible first | exact HB.out | apply below_alloc | apply pw_below_drewN | apply below_drew1 | refine below_set ?_ GE106.out | refine below_set ?_ GE107.out | refine below_set ?_ GE113.out) | exact HB.out))) : w.heap.size ≤ gb112))
          have GE112 := Aside0.mk ((by rw [hg]; exact (below_size (by repeat (first | (with_reducible first | exact HB.out | apply below_alloc | apply pw_below_drewN | apply below_drew1 | refine below_set ?_ GE106.out | refine below_set ?_ GE107.out | refine below_set ?_ GE113.out) | exact HB.out))) : w.heap.size ≤ gb112))
          replace HB := Aside0.mk (below_step (by repeat (first | (with_reducible first | exact HB.out | apply below_alloc | apply pw_below_drewN | apply below_drew1 | refine below_set ?_ GE106.out | refine below_set ?_ GE107.out | refine below_set ?_ GE113.out) | exact HB.out)) hb)
          have NB106_112 := Aside0.mk ((by rw [hg]; exact Nat.ne_of_lt (blk_lt (g := gb106) (o := .cells #[.int .u64 a0_0, .int .u64 a0_1] 24 (0, 0)) BK106.out) : gb106 ≠ gb112))
          have NB112_106 := Aside0.mk ((by rw [hg]; exact Nat.ne_of_gt (blk_lt (g := gb106) (o := .cells #[.int .u64 a0_0, .int .u64 a0_1] 24 (0, 0)) BK106.out) : gb112 ≠ gb106))
          replace BK106 := Aside0.mk (blk_below BK106.out hb)
          have NB107_112 := Aside0.mk ((by rw [hg]; exact Nat.ne_of_lt (blk_lt (g := gb107) (o := .cells #[.int .u64 0, .int .u64 0] 24 (0, 0)) BK107.out) : gb107 ≠ gb112))
          have NB112_107 := Aside0.mk ((by rw [hg]; exact Nat.ne_of_gt (blk_lt (g := gb107) (o := .cells #[.int .u64 0, .int .u64 0] 24 (0, 0)) BK107.out) : gb112 ≠ gb107))
          replace BK107 := Aside0.mk (blk_below BK107.out hb)
          have NB113_112 := Aside0.mk ((by rw [hg]; exact Nat.ne_of_lt (blk_lt (g := gb113) (o := .cells #[.int .u64 0, .int .u64 0] 24 (0, 0)) BK113.out) : gb113 ≠ gb112))
          have NB112_113 := Aside0.mk ((by rw [hg]; exact Nat.ne_of_gt (blk_lt (g := gb113) (o := .cells #[.int .u64 0, .int .u64 0] 24 (0, 0)) BK113.out) : gb112 ≠ gb113))
          replace BK113 := Aside0.mk (blk_below BK113.out hb)
          clear hb hbox hg
          refine hK.out _ _ ⟨(blk_cell BK106.out 0).trans rfl, (blk_cell BK106.out 1).trans rfl⟩ (fun hHeld => ?_)
          clear hK K
          refine norm_ (a' := ?_) ?_ ?_
          rotate_left
          ·show Act.put _ (some 6) _ = _
           simp only [Act.put, List.setIfInBounds_toArray, List.set_cons_zero, List.set_cons_succ, i64_w, i32_w]
           rfl
          exact norm_ (by first | (simp only [putAll, Act.put, List.setIfInBounds_toArray, List.set_cons_zero, List.set_cons_succ]; done) | (simp only [putAll, Act.put, List.setIfInBounds_toArray, List.set_cons_zero, List.set_cons_succ]; rfl)) (hJ3_8_9 (gb112, gb113) _ ⟨hHeld, (by exact BK106.out), (by exact BK107.out), (by exact BK112.out), (by exact BK113.out), GW112.out, GE112.out, NB106_112.out, NB112_106.out, NB107_112.out, NB112_107.out, NB113_112.out, NB112_113.out, GW113.out, GE113.out, NB106_113.out, NB113_106.out, NB107_113.out, NB113_107.out, (by repeat (first | (with_reducible first | exact HB.out | apply below_alloc | apply pw_below_drewN | apply below_drew1 | refine below_set ?_ GE106.out | refine below_set ?_ GE107.out | refine below_set ?_ GE113.out | refine below_set ?_ GE112.out) | exact HB.out))⟩)
       ·skip
        rintro gb112 w12 ⟨hS_, h0_, h1_, h2_, h3_, h4_, h5_, h6_, h7_, h8_, h9_⟩
        have n0_ : Aside0 (w12.heap[gb106]? = some (.cells #[.int .u64 a0_0, .int .u64 a0_1] 24 (0, 0))) := ⟨h0_⟩
        have n1_ : Aside0 (w12.heap[gb107]? = some (.cells #[.int .u64 0, .int .u64 0] 24 (0, 0))) := ⟨h1_⟩
        have n2_ : Aside0 (w12.heap[gb112]? = some (.cells #[.int .u64 0, .int .u64 0] 24 (0, 0))) := ⟨h2_⟩
        have n3_ : Aside0 (w.heap.size ≤ gb112) := ⟨h3_⟩
        have n4_ : Aside0 (w.heap.size ≤ gb112) := ⟨h4_⟩
        have n5_ : Aside0 (gb106 ≠ gb112) := ⟨h5_⟩
        have n6_ : Aside0 (gb112 ≠ gb106) := ⟨h6_⟩
        have n7_ : Aside0 (gb107 ≠ gb112) := ⟨h7_⟩
        have n8_ : Aside0 (gb112 ≠ gb107) := ⟨h8_⟩
        have n9_ : Aside0 (Below w.heap.size w w12) := ⟨h9_⟩
        clear BK106 BK107 HB h0_ h1_ h2_ h3_ h4_ h5_ h6_ h7_ h8_ h9_
        have BK106 := n0_
        have BK107 := n1_
        have BK112 := n2_
        have GW112 := n3_
        have GE112 := n4_
        have NB106_112 := n5_
        have NB112_106 := n6_
        have NB107_112 := n7_
        have NB112_107 := n8_
        have HB := n9_
        clear n0_ n1_ n2_ n3_ n4_ n5_ n6_ n7_ n8_ n9_
        have hHeld : w12.cell? ⟨gb106, 0, none⟩ = some (.int .u64 a0_0) ∧ w12.cell? ⟨gb106, 1, none⟩ = some (.int .u64 a0_1) := hS_
        refine norm_ (a' := ?_) ?_ ?_
        rotate_left
        ·simp only [putAll, Act.put, List.setIfInBounds_toArray, List.set_cons_zero, List.set_cons_succ]
         rfl
        refine two_ (i := 7) (j := 9) (Ni := some 15) (Nj := some 7) (wide_Times.ups 12 511) (wide_Times.ups 12 895) rfl rfl rfl rfl (two_of HT_.out (by kernel_rfl)) (by decide) (by decide) (fun K hK => ?_) (fun K hK => ?_)
        ·skip
         refine goes_ Try.func16 (by kernel_rfl) rfl #[.int .u64 a0_0, .int .u64 a1] (by rfl) rfl rfl (by (try simp only [List.map_toArray, List.map_cons, List.map_nil]); first | done | rfl) ?_
         with_reducible refine (wide_Mul.calls a0_0 a1 t110 t111 _ A4.out).mono ?_
         rintro e w13 ⟨rfl, hb⟩
         refine ⟨_, rfl, ?_⟩
         replace BK106 := Aside0.mk (blk_below BK106.out hb)
         replace BK107 := Aside0.mk (blk_below BK107.out hb)
         replace BK112 := Aside0.mk (blk_below BK112.out hb)
         replace HB := Aside0.mk (below_step (by repeat (first | (with_reducible first | exact HB.out | apply below_alloc | apply pw_below_drewN | apply below_drew1 | refine below_set ?_ GE106.out | refine below_set ?_ GE107.out | refine below_set ?_ GE112.out) | exact HB.out)) hb)
         (try clear hb)
         (try clear hb2)
         (try clear hk)
         (try clear hi)
         refine hK.out _ _ ⟨(blk_cell BK106.out 0).trans rfl, (blk_cell BK106.out 1).trans rfl⟩ (fun hHeld => ?_)
         clear hK K
         refine norm_ (a' := ?_) ?_ ?_
         rotate_left
         ·show Act.put _ (some 15) _ = _
          simp only [Act.put, List.setIfInBounds_toArray, List.set_cons_zero, List.set_cons_succ, i64_w, i32_w]
          rfl
         exact norm_ (by first | (simp only [putAll, Act.put, List.setIfInBounds_toArray, List.set_cons_zero, List.set_cons_succ]; done) | (simp only [putAll, Act.put, List.setIfInBounds_toArray, List.set_cons_zero, List.set_cons_succ]; rfl)) (hJ3_7_8 (gb112) _ ⟨hHeld, (by exact BK106.out), (by exact BK107.out), (by exact BK112.out), GW112.out, GE112.out, NB106_112.out, NB112_106.out, NB107_112.out, NB112_107.out, (by repeat (first | (with_reducible first | exact HB.out | apply below_alloc | apply pw_below_drewN | apply below_drew1 | refine below_set ?_ GE106.out | refine below_set ?_ GE107.out | refine below_set ?_ GE112.out) | exact HB.out))⟩)
        ·skip
         refine box_step ?hg (N := 7) ?hd (cs := #[.int .u64 0, .int .u64 0]) (t := 24) ?hr ?_; (case hd => rfl); (case hg => rfl); (case hr => first | (go_simp; done) | (go_simp; rfl))
         intro gb113 hg w13 hbox hb
         have BK113 := Aside0.mk (hbox)
         have GW113 := Aside0.mk ((by rw [hg]; exact (below_size (by repeat (first | (with_reducible first | exact HB.out | apply below_alloc | apply pw_below_drewN | apply below_drew1 | refine below_set ?_ GE106.out | refine below_set ?_ GE107.out | refine below_set ?_ GE112.out) | exact HB.out))) : w.heap.size ≤ gb113))
         have GE113 := Aside0.mk ((by rw [hg]; exact (below_size (by repeat (first | (with_reducible first | exact HB.out | apply below_alloc | apply pw_below_drewN | apply below_drew1 | refine below_set ?_ GE106.out | refine below_set ?_ GE107.out | refine below_set ?_ GE112.out) | exact HB.out))) : w.heap.size ≤ gb113))
         replace HB := Aside0.mk (below_step (by repeat (first | (with_reducible first | exact HB.out | apply below_alloc | apply pw_below_drewN | apply below_drew1 | refine below_set ?_ GE106.out | refine below_set ?_ GE107.out | refine below_set ?_ GE112.out) | exact HB.out)) hb)
         have NB106_113 := Aside0.mk ((by rw [hg]; exact Nat.ne_of_lt (blk_lt (g := gb106) (o := .cells #[.int .u64 a0_0, .int .u64 a0_1] 24 (0, 0)) BK106.out) : gb106 ≠ gb113))
         have NB113_106 := Aside0.mk ((by rw [hg]; exact Nat.ne_of_gt (blk_lt (g := gb106) (o := .cells #[.int .u64 a0_0, .int .u64 a0_1] 24 (0, 0)) BK106.out) : gb113 ≠ gb106))
         replace BK106 := Aside0.mk (blk_below BK106.out hb)
         have NB107_113 := Aside0.mk ((by rw [hg]; exact Nat.ne_of_lt (blk_lt (g := gb107) (o := .cells #[.int .u64 0, .int .u64 0] 24 (0, 0)) BK107.out) : gb107 ≠ gb113))
         have NB113_107 := Aside0.mk ((by rw [hg]; exact Nat.ne_of_gt (blk_lt (g := gb107) (o := .cells #[.int .u64 0, .int .u64 0] 24 (0, 0)) BK107.out) : gb113 ≠ gb107))
         replace BK107 := Aside0.mk (blk_below BK107.out hb)
         have NB112_113 := Aside0.mk ((by rw [hg]; exact Nat.ne_of_lt (blk_lt (g := gb112) (o := .cells #[.int .u64 0, .int .u64 0] 24 (0, 0)) BK112.out) : gb112 ≠ gb113))
         have NB113_112 := Aside0.mk ((by rw [hg]; exact Nat.ne_of_gt (blk_lt (g := gb112) (o := .cells #[.int .u64 0, .int .u64 0] 24 (0, 0)) BK112.out) : gb113 ≠ gb112))
         replace BK112 := Aside0.mk (blk_below BK112.out hb)
         clear hb hbox hg
         refine hK.out _ _ ⟨(blk_cell BK106.out 0).trans rfl, (blk_cell BK106.out 1).trans rfl⟩ (fun hHeld => ?_)
         clear hK K
         refine norm_ (a' := ?_) ?_ ?_
         rotate_left
         ·show Act.put _ (some 7) _ = _
          simp only [Act.put, List.setIfInBounds_toArray, List.set_cons_zero, List.set_cons_succ, i64_w, i32_w]
          rfl
         exact norm_ (by first | (simp only [putAll, Act.put, List.setIfInBounds_toArray, List.set_cons_zero, List.set_cons_succ]; done) | (simp only [putAll, Act.put, List.setIfInBounds_toArray, List.set_cons_zero, List.set_cons_succ]; rfl)) (hJ3_8_9 (gb112, gb113) _ ⟨hHeld, (by exact BK106.out), (by exact BK107.out), (by exact BK112.out), (by exact BK113.out), GW112.out, GE112.out, NB106_112.out, NB112_106.out, NB107_112.out, NB112_107.out, NB113_112.out, NB112_113.out, GW113.out, GE113.out, NB106_113.out, NB113_106.out, NB107_113.out, NB113_107.out, (by repeat (first | (with_reducible first | exact HB.out | apply below_alloc | apply pw_below_drewN | apply below_drew1 | refine below_set ?_ GE106.out | refine below_set ?_ GE107.out | refine below_set ?_ GE112.out | refine below_set ?_ GE113.out) | exact HB.out))⟩)
      ·skip
       rintro _ w12 ⟨hS_, h0_, h1_, h2_⟩
       have n0_ : Aside0 (w12.heap[gb106]? = some (.cells #[.int .u64 a0_0, .int .u64 a0_1] 24 (0, 0))) := ⟨h0_⟩
       have n1_ : Aside0 (w12.heap[gb107]? = some (.cells #[.int .u64 0, .int .u64 0] 24 (0, 0))) := ⟨h1_⟩
       have n2_ : Aside0 (Below w.heap.size w w12) := ⟨h2_⟩
       clear BK106 BK107 HB h0_ h1_ h2_
       have BK106 := n0_
       have BK107 := n1_
       have HB := n2_
       clear n0_ n1_ n2_
       have hHeld : w12.cell? ⟨gb106, 0, none⟩ = some (.int .u64 a0_0) ∧ w12.cell? ⟨gb106, 1, none⟩ = some (.int .u64 a0_1) := hS_
       refine norm_ (a' := ?_) ?_ ?_
       rotate_left
       ·simp only [putAll, Act.put, List.setIfInBounds_toArray, List.set_cons_zero, List.set_cons_succ]
        rfl
       refine two_ (i := 8) (j := 9) (Ni := some 6) (Nj := some 7) (wide_Times.ups 12 511) (wide_Times.ups 12 767) rfl rfl rfl rfl (two_of HT_.out (by kernel_rfl)) (by decide) (by decide) (fun K hK => ?_) (fun K hK => ?_)
       ·skip
        refine box_step ?hg (N := 6) ?hd (cs := #[.int .u64 0, .int .u64 0]) (t := 24) ?hr ?_; (case hd => rfl); (case hg => rfl); (case hr => first | (go_simp; done) | (go_simp; rfl))
        intro gb112 hg w13 hbox hb
        have BK112 := Aside0.mk (hbox)
        have GW112 := Aside0.mk ((by rw [hg]; exact (below_size (by repeat (first | (with_reducible first | exact HB.out | apply below_alloc | apply pw_below_drewN | apply below_drew1 | refine below_set ?_ GE106.out | refine below_set ?_ GE107.out) | exact HB.out))) : w.heap.size ≤ gb112))
        have GE112 := Aside0.mk ((by rw [hg]; exact (below_size (by repeat (first | (with_reducible first | exact HB.out | apply below_alloc | apply pw_below_drewN | apply below_drew1 | refine below_set ?_ GE106.out | refine below_set ?_ GE107.out) | exact HB.out))) : w.heap.size ≤ gb112))
        replace HB := Aside0.mk (below_step (by repeat (first | (with_reducible first | exact HB.out | apply below_alloc | apply pw_below_drewN | apply below_drew1 | refine below_set ?_ GE106.out | refine below_set ?_ GE107.out) | exact HB.out)) hb)
        have NB106_112 := Aside0.mk ((by rw [hg]; exact Nat.ne_of_lt (blk_lt (g := gb106) (o := .cells #[.int .u64 a0_0, .int .u64 a0_1] 24 (0, 0)) BK106.out) : gb106 ≠ gb112))
        have NB112_106 := Aside0.mk ((by rw [hg]; exact Nat.ne_of_gt (blk_lt (g := gb106) (o := .cells #[.int .u64 a0_0, .int .u64 a0_1] 24 (0, 0)) BK106.out) : gb112 ≠ gb106))
        replace BK106 := Aside0.mk (blk_below BK106.out hb)
        have NB107_112 := Aside0.mk ((by rw [hg]; exact Nat.ne_of_lt (blk_lt (g := gb107) (o := .cells #[.int .u64 0, .int .u64 0] 24 (0, 0)) BK107.out) : gb107 ≠ gb112))
        have NB112_107 := Aside0.mk ((by rw [hg]; exact Nat.ne_of_gt (blk_lt (g := gb107) (o := .cells #[.int .u64 0, .int .u64 0] 24 (0, 0)) BK107.out) : gb112 ≠ gb107))
        replace BK107 := Aside0.mk (blk_below BK107.out hb)
        clear hb hbox hg
        refine hK.out _ _ ⟨(blk_cell BK106.out 0).trans rfl, (blk_cell BK106.out 1).trans rfl⟩ (fun hHeld => ?_)
        clear hK K
        refine norm_ (a' := ?_) ?_ ?_
        rotate_left
        ·show Act.put _ (some 6) _ = _
         simp only [Act.put, List.setIfInBounds_toArray, List.set_cons_zero, List.set_cons_succ, i64_w, i32_w]
         rfl
        exact norm_ (by first | (simp only [putAll, Act.put, List.setIfInBounds_toArray, List.set_cons_zero, List.set_cons_succ]; done) | (simp only [putAll, Act.put, List.setIfInBounds_toArray, List.set_cons_zero, List.set_cons_succ]; rfl)) (hJ3_7_8 (gb112) _ ⟨hHeld, (by exact BK106.out), (by exact BK107.out), (by exact BK112.out), GW112.out, GE112.out, NB106_112.out, NB112_106.out, NB107_112.out, NB112_107.out, (by repeat (first | (with_reducible first | exact HB.out | apply below_alloc | apply pw_below_drewN | apply below_drew1 | refine below_set ?_ GE106.out | refine below_set ?_ GE107.out | refine below_set ?_ GE112.out) | exact HB.out))⟩)
       ·skip
        refine box_step ?hg (N := 7) ?hd (cs := #[.int .u64 0, .int .u64 0]) (t := 24) ?hr ?_; (case hd => rfl); (case hg => rfl); (case hr => first | (go_simp; done) | (go_simp; rfl))
        intro gb113 hg w13 hbox hb
        have BK113 := Aside0.mk (hbox)
        have GW113 := Aside0.mk ((by rw [hg]; exact (below_size (by repeat (first | (with_reducible first | exact HB.out | apply below_alloc | apply pw_below_drewN | apply below_drew1 | refine below_set ?_ GE106.out | refine below_set ?_ GE107.out) | exact HB.out))) : w.heap.size ≤ gb113))
        have GE113 := Aside0.mk ((by rw [hg]; exact (below_size (by repeat (first | (with_reducible first | exact HB.out | apply below_alloc | apply pw_below_drewN | apply below_drew1 | refine below_set ?_ GE106.out | refine below_set ?_ GE107.out) | exact HB.out))) : w.heap.size ≤ gb113))
        replace HB := Aside0.mk (below_step (by repeat (first | (with_reducible first | exact HB.out | apply below_alloc | apply pw_below_drewN | apply below_drew1 | refine below_set ?_ GE106.out | refine below_set ?_ GE107.out) | exact HB.out)) hb)
        have NB106_113 := Aside0.mk ((by rw [hg]; exact Nat.ne_of_lt (blk_lt (g := gb106) (o := .cells #[.int .u64 a0_0, .int .u64 a0_1] 24 (0, 0)) BK106.out) : gb106 ≠ gb113))
        have NB113_106 := Aside0.mk ((by rw [hg]; exact Nat.ne_of_gt (blk_lt (g := gb106) (o := .cells #[.int .u64 a0_0, .int .u64 a0_1] 24 (0, 0)) BK106.out) : gb113 ≠ gb106))
        replace BK106 := Aside0.mk (blk_below BK106.out hb)
        have NB107_113 := Aside0.mk ((by rw [hg]; exact Nat.ne_of_lt (blk_lt (g := gb107) (o := .cells #[.int .u64 0, .int .u64 0] 24 (0, 0)) BK107.out) : gb107 ≠ gb113))
        have NB113_107 := Aside0.mk ((by rw [hg]; exact Nat.ne_of_gt (blk_lt (g := gb107) (o := .cells #[.int .u64 0, .int .u64 0] 24 (0, 0)) BK107.out) : gb113 ≠ gb107))
        replace BK107 := Aside0.mk (blk_below BK107.out hb)
        clear hb hbox hg
        refine hK.out _ _ ⟨(blk_cell BK106.out 0).trans rfl, (blk_cell BK106.out 1).trans rfl⟩ (fun hHeld => ?_)
        clear hK K
        refine norm_ (a' := ?_) ?_ ?_
        rotate_left
        ·show Act.put _ (some 7) _ = _
         simp only [Act.put, List.setIfInBounds_toArray, List.set_cons_zero, List.set_cons_succ, i64_w, i32_w]
         rfl
        exact norm_ (by first | (simp only [putAll, Act.put, List.setIfInBounds_toArray, List.set_cons_zero, List.set_cons_succ]; done) | (simp only [putAll, Act.put, List.setIfInBounds_toArray, List.set_cons_zero, List.set_cons_succ]; rfl)) (hJ3_7_9 (gb113) _ ⟨hHeld, (by exact BK106.out), (by exact BK107.out), (by exact BK113.out), GW113.out, GE113.out, NB106_113.out, NB113_106.out, NB107_113.out, NB113_107.out, (by repeat (first | (with_reducible first | exact HB.out | apply below_alloc | apply pw_below_drewN | apply below_drew1 | refine below_set ?_ GE106.out | refine below_set ?_ GE107.out | refine below_set ?_ GE113.out) | exact HB.out))⟩)
     ·skip
      rintro ⟨gb112, gb113⟩ w13 ⟨hS_, h0_, h1_, h2_, h3_, h4_, h5_, h6_, h7_, h8_, h9_, h10_, h11_, h12_, h13_, h14_, h15_, h16_, h17_, h18_⟩
      have n0_ : Aside0 (w13.heap[gb106]? = some (.cells #[.int .u64 a0_0, .int .u64 a0_1] 24 (0, 0))) := ⟨h0_⟩
      have n1_ : Aside0 (w13.heap[gb107]? = some (.cells #[.int .u64 0, .int .u64 0] 24 (0, 0))) := ⟨h1_⟩
      have n2_ : Aside0 (w13.heap[gb112]? = some (.cells #[.int .u64 0, .int .u64 0] 24 (0, 0))) := ⟨h2_⟩
      have n3_ : Aside0 (w13.heap[gb113]? = some (.cells #[.int .u64 0, .int .u64 0] 24 (0, 0))) := ⟨h3_⟩
      have n4_ : Aside0 (w.heap.size ≤ gb112) := ⟨h4_⟩
      have n5_ : Aside0 (w.heap.size ≤ gb112) := ⟨h5_⟩
      have n6_ : Aside0 (gb106 ≠ gb112) := ⟨h6_⟩
      have n7_ : Aside0 (gb112 ≠ gb106) := ⟨h7_⟩
      have n8_ : Aside0 (gb107 ≠ gb112) := ⟨h8_⟩
      have n9_ : Aside0 (gb112 ≠ gb107) := ⟨h9_⟩
      have n10_ : Aside0 (gb113 ≠ gb112) := ⟨h10_⟩
      have n11_ : Aside0 (gb112 ≠ gb113) := ⟨h11_⟩
      have n12_ : Aside0 (w.heap.size ≤ gb113) := ⟨h12_⟩
      have n13_ : Aside0 (w.heap.size ≤ gb113) := ⟨h13_⟩
      have n14_ : Aside0 (gb106 ≠ gb113) := ⟨h14_⟩
      have n15_ : Aside0 (gb113 ≠ gb106) := ⟨h15_⟩
      have n16_ : Aside0 (gb107 ≠ gb113) := ⟨h16_⟩
      have n17_ : Aside0 (gb113 ≠ gb107) := ⟨h17_⟩
      have n18_ : Aside0 (Below w.heap.size w w13) := ⟨h18_⟩
      clear BK106 BK107 HB h0_ h1_ h2_ h3_ h4_ h5_ h6_ h7_ h8_ h9_ h10_ h11_ h12_ h13_ h14_ h15_ h16_ h17_ h18_
      have BK106 := n0_
      have BK107 := n1_
      have BK112 := n2_
      have BK113 := n3_
      have GW112 := n4_
      have GE112 := n5_
      have NB106_112 := n6_
      have NB112_106 := n7_
      have NB107_112 := n8_
      have NB112_107 := n9_
      have NB113_112 := n10_
      have NB112_113 := n11_
      have GW113 := n12_
      have GE113 := n13_
      have NB106_113 := n14_
      have NB113_106 := n15_
      have NB107_113 := n16_
      have NB113_107 := n17_
      have HB := n18_
      clear n0_ n1_ n2_ n3_ n4_ n5_ n6_ n7_ n8_ n9_ n10_ n11_ n12_ n13_ n14_ n15_ n16_ n17_ n18_
      have hHeld : w13.cell? ⟨gb106, 0, none⟩ = some (.int .u64 a0_0) ∧ w13.cell? ⟨gb106, 1, none⟩ = some (.int .u64 a0_1) := hS_
      refine norm_ (a' := ?_) ?_ ?_
      rotate_left
      ·simp only [putAll, Act.put, List.setIfInBounds_toArray, List.set_cons_zero, List.set_cons_succ]
       rfl
      refine one_ (i := 7) (N := some 15) (wide_Times.ups 12 1023) rfl rfl (one_of HT_.out (by kernel_rfl)) (by decide) (fun K hK => ?_)
      refine goes_ Try.func16 (by kernel_rfl) rfl #[.int .u64 a0_0, .int .u64 a1] (by rfl) rfl rfl (by (try simp only [List.map_toArray, List.map_cons, List.map_nil]); first | done | rfl) ?_
      with_reducible refine (wide_Mul.calls a0_0 a1 t110 t111 _ A4.out).mono ?_
      rintro e w14 ⟨rfl, hb⟩
      refine ⟨_, rfl, ?_⟩
      replace BK106 := Aside0.mk (blk_below BK106.out hb)
      replace BK107 := Aside0.mk (blk_below BK107.out hb)
      replace BK112 := Aside0.mk (blk_below BK112.out hb)
      replace BK113 := Aside0.mk (blk_below BK113.out hb)
      replace HB := Aside0.mk (below_step (by repeat (first | (with_reducible first | exact HB.out | apply below_alloc | apply pw_below_drewN | apply below_drew1 | refine below_set ?_ GE106.out | refine below_set ?_ GE107.out | refine below_set ?_ GE112.out | refine below_set ?_ GE113.out) | exact HB.out)) hb)
      (try clear hb)
      (try clear hb2)
      (try clear hk)
      (try clear hi)
      refine hK.out _ _ ⟨(blk_cell BK106.out 0).trans rfl, (blk_cell BK106.out 1).trans rfl⟩ (fun hHeld => ?_)
      clear hK K
      refine norm_ (a' := ?_) ?_ ?_
      rotate_left
      ·show Act.put _ (some 15) _ = _
       simp only [Act.put, List.setIfInBounds_toArray, List.set_cons_zero, List.set_cons_succ, i64_w, i32_w]
       rfl
      exact norm_ (by first | (simp only [putAll, Act.put, List.setIfInBounds_toArray, List.set_cons_zero, List.set_cons_succ]; done) | (simp only [putAll, Act.put, List.setIfInBounds_toArray, List.set_cons_zero, List.set_cons_succ]; rfl)) (hJ3_7_8_9 (gb112, gb113) _ ⟨hHeld, (by exact BK106.out), (by exact BK107.out), (by exact BK112.out), (by exact BK113.out), GW112.out, GE112.out, NB106_112.out, NB112_106.out, NB107_112.out, NB112_107.out, NB113_112.out, NB112_113.out, GW113.out, GE113.out, NB106_113.out, NB113_106.out, NB107_113.out, NB113_107.out, (by repeat (first | (with_reducible first | exact HB.out | apply below_alloc | apply pw_below_drewN | apply below_drew1 | refine below_set ?_ GE106.out | refine below_set ?_ GE107.out | refine below_set ?_ GE112.out | refine below_set ?_ GE113.out) | exact HB.out))⟩)
    ·skip
     rintro gb113 w13 ⟨hS_, h0_, h1_, h2_, h3_, h4_, h5_, h6_, h7_, h8_, h9_⟩
     have n0_ : Aside0 (w13.heap[gb106]? = some (.cells #[.int .u64 a0_0, .int .u64 a0_1] 24 (0, 0))) := ⟨h0_⟩
     have n1_ : Aside0 (w13.heap[gb107]? = some (.cells #[.int .u64 0, .int .u64 0] 24 (0, 0))) := ⟨h1_⟩
     have n2_ : Aside0 (w13.heap[gb113]? = some (.cells #[.int .u64 0, .int .u64 0] 24 (0, 0))) := ⟨h2_⟩
     have n3_ : Aside0 (w.heap.size ≤ gb113) := ⟨h3_⟩
     have n4_ : Aside0 (w.heap.size ≤ gb113) := ⟨h4_⟩
     have n5_ : Aside0 (gb106 ≠ gb113) := ⟨h5_⟩
     have n6_ : Aside0 (gb113 ≠ gb106) := ⟨h6_⟩
     have n7_ : Aside0 (gb107 ≠ gb113) := ⟨h7_⟩
     have n8_ : Aside0 (gb113 ≠ gb107) := ⟨h8_⟩
     have n9_ : Aside0 (Below w.heap.size w w13) := ⟨h9_⟩
     clear BK106 BK107 HB h0_ h1_ h2_ h3_ h4_ h5_ h6_ h7_ h8_ h9_
     have BK106 := n0_
     have BK107 := n1_
     have BK113 := n2_
     have GW113 := n3_
     have GE113 := n4_
     have NB106_113 := n5_
     have NB113_106 := n6_
     have NB107_113 := n7_
     have NB113_107 := n8_
     have HB := n9_
     clear n0_ n1_ n2_ n3_ n4_ n5_ n6_ n7_ n8_ n9_
     have hHeld : w13.cell? ⟨gb106, 0, none⟩ = some (.int .u64 a0_0) ∧ w13.cell? ⟨gb106, 1, none⟩ = some (.int .u64 a0_1) := hS_
     refine norm_ (a' := ?_) ?_ ?_
     rotate_left
     ·simp only [putAll, Act.put, List.setIfInBounds_toArray, List.set_cons_zero, List.set_cons_succ]
      rfl
     refine one_ (i := 8) (N := some 6) (wide_Times.ups 12 1023) rfl rfl (one_of HT_.out (by kernel_rfl)) (by decide) (fun K hK => ?_)
     refine box_step ?hg (N := 6) ?hd (cs := #[.int .u64 0, .int .u64 0]) (t := 24) ?hr ?_; (case hd => rfl); (case hg => rfl); (case hr => first | (go_simp; done) | (go_simp; rfl))
     intro gb112 hg w14 hbox hb
     have BK112 := Aside0.mk (hbox)
     have GW112 := Aside0.mk ((by rw [hg]; exact (below_size (by repeat (first | (with_reducible first | exact HB.out | apply below_alloc | apply pw_below_drewN | apply below_drew1 | refine below_set ?_ GE106.out | refine below_set ?_ GE107.out | refine below_set ?_ GE113.out) | exact HB.out))) : w.heap.size ≤ gb112))
     have GE112 := Aside0.mk ((by rw [hg]; exact (below_size (by repeat (first | (with_reducible first | exact HB.out | apply below_alloc | apply pw_below_drewN | apply below_drew1 | refine below_set ?_ GE106.out | refine below_set ?_ GE107.out | refine below_set ?_ GE113.out) | exact HB.out))) : w.heap.size ≤ gb112))
     replace HB := Aside0.mk (below_step (by repeat (first | (with_reducible first | exact HB.out | apply below_alloc | apply pw_below_drewN | apply below_drew1 | refine below_set ?_ GE106.out | refine below_set ?_ GE107.out | refine below_set ?_ GE113.out) | exact HB.out)) hb)
     have NB106_112 := Aside0.mk ((by rw [hg]; exact Nat.ne_of_lt (blk_lt (g := gb106) (o := .cells #[.int .u64 a0_0, .int .u64 a0_1] 24 (0, 0)) BK106.out) : gb106 ≠ gb112))
     have NB112_106 := Aside0.mk ((by rw [hg]; exact Nat.ne_of_gt (blk_lt (g := gb106) (o := .cells #[.int .u64 a0_0, .int .u64 a0_1] 24 (0, 0)) BK106.out) : gb112 ≠ gb106))
     replace BK106 := Aside0.mk (blk_below BK106.out hb)
     have NB107_112 := Aside0.mk ((by rw [hg]; exact Nat.ne_of_lt (blk_lt (g := gb107) (o := .cells #[.int .u64 0, .int .u64 0] 24 (0, 0)) BK107.out) : gb107 ≠ gb112))
     have NB112_107 := Aside0.mk ((by rw [hg]; exact Nat.ne_of_gt (blk_lt (g := gb107) (o := .cells #[.int .u64 0, .int .u64 0] 24 (0, 0)) BK107.out) : gb112 ≠ gb107))
     replace BK107 := Aside0.mk (blk_below BK107.out hb)
     have NB113_112 := Aside0.mk ((by rw [hg]; exact Nat.ne_of_lt (blk_lt (g := gb113) (o := .cells #[.int .u64 0, .int .u64 0] 24 (0, 0)) BK113.out) : gb113 ≠ gb112))
     have NB112_113 := Aside0.mk ((by rw [hg]; exact Nat.ne_of_gt (blk_lt (g := gb113) (o := .cells #[.int .u64 0, .int .u64 0] 24 (0, 0)) BK113.out) : gb112 ≠ gb113))
     replace BK113 := Aside0.mk (blk_below BK113.out hb)
     clear hb hbox hg
     refine hK.out _ _ ⟨(blk_cell BK106.out 0).trans rfl, (blk_cell BK106.out 1).trans rfl⟩ (fun hHeld => ?_)
     clear hK K
     refine norm_ (a' := ?_) ?_ ?_
     rotate_left
     ·show Act.put _ (some 6) _ = _
      simp only [Act.put, List.setIfInBounds_toArray, List.set_cons_zero, List.set_cons_succ, i64_w, i32_w]
      rfl
     exact norm_ (by first | (simp only [putAll, Act.put, List.setIfInBounds_toArray, List.set_cons_zero, List.set_cons_succ]; done) | (simp only [putAll, Act.put, List.setIfInBounds_toArray, List.set_cons_zero, List.set_cons_succ]; rfl)) (hJ3_7_8_9 (gb112, gb113) _ ⟨hHeld, (by exact BK106.out), (by exact BK107.out), (by exact BK112.out), (by exact BK113.out), GW112.out, GE112.out, NB106_112.out, NB112_106.out, NB107_112.out, NB112_107.out, NB113_112.out, NB112_113.out, GW113.out, GE113.out, NB106_113.out, NB113_106.out, NB107_113.out, NB113_107.out, (by repeat (first | (with_reducible first | exact HB.out | apply below_alloc | apply pw_below_drewN | apply below_drew1 | refine below_set ?_ GE106.out | refine below_set ?_ GE107.out | refine below_set ?_ GE113.out | refine below_set ?_ GE112.out) | exact HB.out))⟩)
   ·skip
    rintro gb112 w13 ⟨hS_, h0_, h1_, h2_, h3_, h4_, h5_, h6_, h7_, h8_, h9_⟩
    have n0_ : Aside0 (w13.heap[gb106]? = some (.cells #[.int .u64 a0_0, .int .u64 a0_1] 24 (0, 0))) := ⟨h0_⟩
    have n1_ : Aside0 (w13.heap[gb107]? = some (.cells #[.int .u64 0, .int .u64 0] 24 (0, 0))) := ⟨h1_⟩
    have n2_ : Aside0 (w13.heap[gb112]? = some (.cells #[.int .u64 0, .int .u64 0] 24 (0, 0))) := ⟨h2_⟩
    have n3_ : Aside0 (w.heap.size ≤ gb112) := ⟨h3_⟩
    have n4_ : Aside0 (w.heap.size ≤ gb112) := ⟨h4_⟩
    have n5_ : Aside0 (gb106 ≠ gb112) := ⟨h5_⟩
    have n6_ : Aside0 (gb112 ≠ gb106) := ⟨h6_⟩
    have n7_ : Aside0 (gb107 ≠ gb112) := ⟨h7_⟩
    have n8_ : Aside0 (gb112 ≠ gb107) := ⟨h8_⟩
    have n9_ : Aside0 (Below w.heap.size w w13) := ⟨h9_⟩
    clear BK106 BK107 HB h0_ h1_ h2_ h3_ h4_ h5_ h6_ h7_ h8_ h9_
    have BK106 := n0_
    have BK107 := n1_
    have BK112 := n2_
    have GW112 := n3_
    have GE112 := n4_
    have NB106_112 := n5_
    have NB112_106 := n6_
    have NB107_112 := n7_
    have NB112_107 := n8_
    have HB := n9_
    clear n0_ n1_ n2_ n3_ n4_ n5_ n6_ n7_ n8_ n9_
    have hHeld : w13.cell? ⟨gb106, 0, none⟩ = some (.int .u64 a0_0) ∧ w13.cell? ⟨gb106, 1, none⟩ = some (.int .u64 a0_1) := hS_
    refine norm_ (a' := ?_) ?_ ?_
    rotate_left
    ·simp only [putAll, Act.put, List.setIfInBounds_toArray, List.set_cons_zero, List.set_cons_succ]
     rfl
    refine one_ (i := 9) (N := some 7) (wide_Times.ups 12 1023) rfl rfl (one_of HT_.out (by kernel_rfl)) (by decide) (fun K hK => ?_)
    refine box_step ?hg (N := 7) ?hd (cs := #[.int .u64 0, .int .u64 0]) (t := 24) ?hr ?_; (case hd => rfl); (case hg => rfl); (case hr => first | (go_simp; done) | (go_simp; rfl))
    intro gb113 hg w14 hbox hb
    have BK113 := Aside0.mk (hbox)
    have GW113 := Aside0.mk ((by rw [hg]; exact (below_size (by repeat (first | (with_reducible first | exact HB.out | apply below_alloc | apply pw_below_drewN | apply below_drew1 | refine below_set ?_ GE106.out | refine below_set ?_ GE107.out | refine below_set ?_ GE112.out) | exact HB.out))) : w.heap.size ≤ gb113))
    have GE113 := Aside0.mk ((by rw [hg]; exact (below_size (by repeat (first | (with_reducible first | exact HB.out | apply below_alloc | apply pw_below_drewN | apply below_drew1 | refine below_set ?_ GE106.out | refine below_set ?_ GE107.out | refine below_set ?_ GE112.out) | exact HB.out))) : w.heap.size ≤ gb113))
    replace HB := Aside0.mk (below_step (by repeat (first | (with_reducible first | exact HB.out | apply below_alloc | apply pw_below_drewN | apply below_drew1 | refine below_set ?_ GE106.out | refine below_set ?_ GE107.out | refine below_set ?_ GE112.out) | exact HB.out)) hb)
    have NB106_113 := Aside0.mk ((by rw [hg]; exact Nat.ne_of_lt (blk_lt (g := gb106) (o := .cells #[.int .u64 a0_0, .int .u64 a0_1] 24 (0, 0)) BK106.out) : gb106 ≠ gb113))
    have NB113_106 := Aside0.mk ((by rw [hg]; exact Nat.ne_of_gt (blk_lt (g := gb106) (o := .cells #[.int .u64 a0_0, .int .u64 a0_1] 24 (0, 0)) BK106.out) : gb113 ≠ gb106))
    replace BK106 := Aside0.mk (blk_below BK106.out hb)
    have NB107_113 := Aside0.mk ((by rw [hg]; exact Nat.ne_of_lt (blk_lt (g := gb107) (o := .cells #[.int .u64 0, .int .u64 0] 24 (0, 0)) BK107.out) : gb107 ≠ gb113))
    have NB113_107 := Aside0.mk ((by rw [hg]; exact Nat.ne_of_gt (blk_lt (g := gb107) (o := .cells #[.int .u64 0, .int .u64 0] 24 (0, 0)) BK107.out) : gb113 ≠ gb107))
    replace BK107 := Aside0.mk (blk_below BK107.out hb)
    have NB112_113 := Aside0.mk ((by rw [hg]; exact Nat.ne_of_lt (blk_lt (g := gb112) (o := .cells #[.int .u64 0, .int .u64 0] 24 (0, 0)) BK112.out) : gb112 ≠ gb113))
    have NB113_112 := Aside0.mk ((by rw [hg]; exact Nat.ne_of_gt (blk_lt (g := gb112) (o := .cells #[.int .u64 0, .int .u64 0] 24 (0, 0)) BK112.out) : gb113 ≠ gb112))
    replace BK112 := Aside0.mk (blk_below BK112.out hb)
    clear hb hbox hg
    refine hK.out _ _ ⟨(blk_cell BK106.out 0).trans rfl, (blk_cell BK106.out 1).trans rfl⟩ (fun hHeld => ?_)
    clear hK K
    refine norm_ (a' := ?_) ?_ ?_
    rotate_left
    ·show Act.put _ (some 7) _ = _
     simp only [Act.put, List.setIfInBounds_toArray, List.set_cons_zero, List.set_cons_succ, i64_w, i32_w]
     rfl
    exact norm_ (by first | (simp only [putAll, Act.put, List.setIfInBounds_toArray, List.set_cons_zero, List.set_cons_succ]; done) | (simp only [putAll, Act.put, List.setIfInBounds_toArray, List.set_cons_zero, List.set_cons_succ]; rfl)) (hJ3_7_8_9 (gb112, gb113) _ ⟨hHeld, (by exact BK106.out), (by exact BK107.out), (by exact BK112.out), (by exact BK113.out), GW112.out, GE112.out, NB106_112.out, NB112_106.out, NB107_112.out, NB112_107.out, NB113_112.out, NB112_113.out, GW113.out, GE113.out, NB106_113.out, NB113_106.out, NB107_113.out, NB113_107.out, (by repeat (first | (with_reducible first | exact HB.out | apply below_alloc | apply pw_below_drewN | apply below_drew1 | refine below_set ?_ GE106.out | refine below_set ?_ GE107.out | refine below_set ?_ GE112.out | refine below_set ?_ GE113.out) | exact HB.out))⟩)
  rintro ⟨gb112, gb113⟩ w14 ⟨hS_, h0_, h1_, h2_, h3_, h4_, h5_, h6_, h7_, h8_, h9_, h10_, h11_, h12_, h13_, h14_, h15_, h16_, h17_, h18_⟩
  have n0_ : Aside0 (w14.heap[gb106]? = some (.cells #[.int .u64 a0_0, .int .u64 a0_1] 24 (0, 0))) := ⟨h0_⟩
  have n1_ : Aside0 (w14.heap[gb107]? = some (.cells #[.int .u64 0, .int .u64 0] 24 (0, 0))) := ⟨h1_⟩
  have n2_ : Aside0 (w14.heap[gb112]? = some (.cells #[.int .u64 0, .int .u64 0] 24 (0, 0))) := ⟨h2_⟩
  have n3_ : Aside0 (w14.heap[gb113]? = some (.cells #[.int .u64 0, .int .u64 0] 24 (0, 0))) := ⟨h3_⟩
  have n4_ : Aside0 (w.heap.size ≤ gb112) := ⟨h4_⟩
  have n5_ : Aside0 (w.heap.size ≤ gb112) := ⟨h5_⟩
  have n6_ : Aside0 (gb106 ≠ gb112) := ⟨h6_⟩
  have n7_ : Aside0 (gb112 ≠ gb106) := ⟨h7_⟩
  have n8_ : Aside0 (gb107 ≠ gb112) := ⟨h8_⟩
  have n9_ : Aside0 (gb112 ≠ gb107) := ⟨h9_⟩
  have n10_ : Aside0 (gb113 ≠ gb112) := ⟨h10_⟩
  have n11_ : Aside0 (gb112 ≠ gb113) := ⟨h11_⟩
  have n12_ : Aside0 (w.heap.size ≤ gb113) := ⟨h12_⟩
  have n13_ : Aside0 (w.heap.size ≤ gb113) := ⟨h13_⟩
  have n14_ : Aside0 (gb106 ≠ gb113) := ⟨h14_⟩
  have n15_ : Aside0 (gb113 ≠ gb106) := ⟨h15_⟩
  have n16_ : Aside0 (gb107 ≠ gb113) := ⟨h16_⟩
  have n17_ : Aside0 (gb113 ≠ gb107) := ⟨h17_⟩
  have n18_ : Aside0 (Below w.heap.size w w14) := ⟨h18_⟩
  clear BK106 BK107 HB h0_ h1_ h2_ h3_ h4_ h5_ h6_ h7_ h8_ h9_ h10_ h11_ h12_ h13_ h14_ h15_ h16_ h17_ h18_
  have BK106 := n0_
  have BK107 := n1_
  have BK112 := n2_
  have BK113 := n3_
  have GW112 := n4_
  have GE112 := n5_
  have NB106_112 := n6_
  have NB112_106 := n7_
  have NB107_112 := n8_
  have NB112_107 := n9_
  have NB113_112 := n10_
  have NB112_113 := n11_
  have GW113 := n12_
  have GE113 := n13_
  have NB106_113 := n14_
  have NB113_106 := n15_
  have NB107_113 := n16_
  have NB113_107 := n17_
  have HB := n18_
  clear n0_ n1_ n2_ n3_ n4_ n5_ n6_ n7_ n8_ n9_ n10_ n11_ n12_ n13_ n14_ n15_ n16_ n17_ n18_
  have hHeld : w14.cell? ⟨gb106, 0, none⟩ = some (.int .u64 a0_0) ∧ w14.cell? ⟨gb106, 1, none⟩ = some (.int .u64 a0_1) := hS_
  refine norm_ (a' := ?_) ?_ ?_
  rotate_left
  ·simp only [putAll, Act.put, List.setIfInBounds_toArray, List.set_cons_zero, List.set_cons_succ]
   rfl
  refine one_ (i := 10) (N := none) (wide_Times.ups 12 2047) rfl rfl (one_of HT_.out (by kernel_rfl)) (by decide) (fun K hK => ?_)
  have hs15 : w14.cell? ⟨gb112, 0, none⟩ = some (.int .u64 0) := (blk_cell BK112.out 0).trans rfl
  have hfs15 := blk_frozen BK112.out 0
  have hns15_0 := NB106_112.out
  have hns15_1 := NB107_112.out
  have hns15_3 := NB113_112.out
  have hms15_0 := NB112_106.out
  have hms15_1 := NB112_107.out
  have hms15_3 := NB112_113.out
  have hs16 : w14.cell? ⟨gb112, 1, none⟩ = some (.int .u64 0) := (blk_cell BK112.out 1).trans rfl
  have hfs16 := blk_frozen BK112.out 1
  have hns16_0 := NB106_112.out
  have hns16_1 := NB107_112.out
  have hns16_3 := NB113_112.out
  have hms16_0 := NB112_106.out
  have hms16_1 := NB112_107.out
  have hms16_3 := NB112_113.out
  refine skip_ (w1 := ?_) (by rfl) rfl ?_ ?_
  rotate_left
  ·go_simp
   rfl
  refine hK.out _ _ ⟨((cell_far (p := ⟨gb112, _, none⟩) NB106_112.out _).trans (((cell_far (p := ⟨gb112, _, none⟩) NB106_112.out _).trans (hHeld.1)))), ((cell_far (p := ⟨gb112, _, none⟩) NB106_112.out _).trans (((cell_far (p := ⟨gb112, _, none⟩) NB106_112.out _).trans (hHeld.2))))⟩ (fun hHeld => ?_)
  clear hK K
  refine one_ (i := 11) (N := none) (wide_Times.ups 12 4095) rfl rfl (one_of HT_.out (by kernel_rfl)) (by decide) (fun K hK => ?_)
  have hs17 : w14.cell? ⟨gb113, 0, none⟩ = some (.int .u64 0) := (blk_cell BK113.out 0).trans rfl
  have hfs17 := blk_frozen BK113.out 0
  have hns17_0 := NB106_113.out
  have hns17_1 := NB107_113.out
  have hns17_2 := NB112_113.out
  have hms17_0 := NB113_106.out
  have hms17_1 := NB113_107.out
  have hms17_2 := NB113_112.out
  have hs18 : w14.cell? ⟨gb113, 1, none⟩ = some (.int .u64 0) := (blk_cell BK113.out 1).trans rfl
  have hfs18 := blk_frozen BK113.out 1
  have hns18_0 := NB106_113.out
  have hns18_1 := NB107_113.out
  have hns18_2 := NB112_113.out
  have hms18_0 := NB113_106.out
  have hms18_1 := NB113_107.out
  have hms18_2 := NB113_112.out
  refine skip_ (w1 := ?_) (by rfl) rfl ?_ ?_
  rotate_left
  ·go_simp
   rfl
  refine hK.out _ _ ⟨((cell_far (p := ⟨gb113, _, none⟩) NB106_113.out _).trans (((cell_far (p := ⟨gb113, _, none⟩) NB106_113.out _).trans (hHeld.1)))), ((cell_far (p := ⟨gb113, _, none⟩) NB106_113.out _).trans (((cell_far (p := ⟨gb113, _, none⟩) NB106_113.out _).trans (hHeld.2))))⟩ (fun hHeld => ?_)
  clear hK K
  refine done_ (done_of HT_.out (by kernel_rfl)) ?_
  have hnb19 := NB113_106.out
  have hnc19 := NB106_113.out
  have hnb20 := NB113_107.out
  have hnc20 := NB107_113.out
  have hnb21 := NB113_112.out
  have hnc21 := NB112_113.out
  have hcz22_0 : w14.cell? ⟨gb113, 0, none⟩ = some (.int .u64 0) := (blk_cell BK113.out 0).trans rfl
  have hcz22_1 : w14.cell? ⟨gb113, 1, none⟩ = some (.int .u64 0) := (blk_cell BK113.out 1).trans rfl
  have hfz22_0 := blk_frozen BK113.out 0
  have hfz22_1 := blk_frozen BK113.out 1
  have hnb23 := NB112_106.out
  have hnc23 := NB106_112.out
  have hnb24 := NB112_107.out
  have hnc24 := NB107_112.out
  have hcz25_0 : w14.cell? ⟨gb112, 0, none⟩ = some (.int .u64 0) := (blk_cell BK112.out 0).trans rfl
  have hcz25_1 : w14.cell? ⟨gb112, 1, none⟩ = some (.int .u64 0) := (blk_cell BK112.out 1).trans rfl
  have hfz25_0 := blk_frozen BK112.out 0
  have hfz25_1 := blk_frozen BK112.out 1
  try go_wp2_with (first | ((with_reducible refine gate_callee (f := 9) rfl ?_); refine goesL_ (some 24) rfl rfl Try.func9 (by kernel_rfl) rfl #[.agg #[.int .u64 t108, .int .u64 t109], .agg #[.int .u64 t111, .int .u64 0]] rfl (by (try simp only [List.map_toArray, List.map_cons, List.map_nil]); first | done | rfl) ?_; (with_reducible refine (wide_Add.calls t108 t109 t111 0 t114 t115 t116 _ A6.out).mono ?_); rintro e w26 ⟨rfl, hb⟩; refine ⟨_, rfl, ?_⟩; replace BK106 := Aside0.mk (blk_below (g := gb106) (o := .cells #[.int .u64 a0_0, .int .u64 a0_1] 24 (0, 0)) (by refine blk_far ?_ NB106_113.out _; refine blk_far ?_ NB106_113.out _; refine blk_far ?_ NB106_112.out _; refine blk_far ?_ NB106_112.out _; exact BK106.out) hb); replace BK107 := Aside0.mk (blk_below (g := gb107) (o := .cells #[.int .u64 0, .int .u64 0] 24 (0, 0)) (by refine blk_far ?_ NB107_113.out _; refine blk_far ?_ NB107_113.out _; refine blk_far ?_ NB107_112.out _; refine blk_far ?_ NB107_112.out _; exact BK107.out) hb); replace BK112 := Aside0.mk (blk_below (g := gb112) (o := .cells #[.int .u64 t108, .int .u64 t109] 24 (0, 0)) (by refine blk_far ?_ NB112_113.out _; refine blk_far ?_ NB112_113.out _; refine blk_put (cs := #[.int .u64 t108, .int .u64 0]) ?_ 1 _ rfl; refine blk_put (cs := #[.int .u64 0, .int .u64 0]) ?_ 0 _ rfl; exact BK112.out) hb); replace BK113 := Aside0.mk (blk_below (g := gb113) (o := .cells #[.int .u64 t110, .int .u64 t111] 24 (0, 0)) (by refine blk_put (cs := #[.int .u64 t110, .int .u64 0]) ?_ 1 _ rfl; refine blk_put (cs := #[.int .u64 0, .int .u64 0]) ?_ 0 _ rfl; refine blk_far ?_ NB113_112.out _; refine blk_far ?_ NB113_112.out _; exact BK113.out) hb); replace HB := Aside0.mk (below_step (by repeat (first | (with_reducible first | exact HB.out | apply below_alloc | apply pw_below_drewN | apply below_drew1 | refine below_set ?_ GE106.out | refine below_set ?_ GE107.out | refine below_set ?_ GE112.out | refine below_set ?_ GE113.out) | exact HB.out)) hb); (try clear hb); have hnb27 := NB107_106.out; have hnc27 := NB106_107.out; have hcz28_0 : w26.cell? ⟨gb107, 0, none⟩ = some (.int .u64 0) := (blk_cell BK107.out 0).trans rfl; have hcz28_1 : w26.cell? ⟨gb107, 1, none⟩ = some (.int .u64 0) := (blk_cell BK107.out 1).trans rfl; have hfz28_0 := blk_frozen BK107.out 0; have hfz28_1 := blk_frozen BK107.out 1))
  refine bodyPost_ret (results_ct rfl _ _ gb107 24 #[.int .u64 t114, .int .u64 t115] (0, 0) _ rfl (by refine blk_put (cs := #[.int .u64 t114, .int .u64 0]) ?_ 1 _ rfl; refine blk_put (cs := #[.int .u64 0, .int .u64 0]) ?_ 0 _ rfl; exact BK107.out) Try.underlying24 rfl (by kernel_rfl)) rfl ?_
  exact ⟨by rfl, by repeat (first | (with_reducible first | exact HB.out | apply below_alloc | apply pw_below_drewN | apply below_drew1 | refine below_set ?_ GE106.out | refine below_set ?_ GE107.out | refine below_set ?_ GE112.out | refine below_set ?_ GE113.out) | exact HB.out)⟩
 ·rw [if_neg c5] at H
  have c5b0 : (t110 == 0) = false := beq_eq_false_iff_ne.mpr c5
  have c5b1 : (t110 != 0) = true := bne_iff_ne.mpr c5
  simp only [Option.some.injEq, Prod.mk.injEq] at H
  obtain ⟨rfl, rfl, rfl⟩ := H
  go_enter Try.func8, Try.ntmps8
  try go_wp2_with (first | ((with_reducible refine gate_dst (N := 2) rfl ?_); refine box_event ?hg (N := 2) ?hd (cs := #[.int .u64 a0_0, .int .u64 a0_1]) (t := 24) ?hr ?_; (case hd => rfl); (case hg => rfl); (case hr => first | (go_simp; done) | (go_simp; rfl)); intro gb106 hg w29 hbox hb; have BK106 := Aside0.mk (hbox); have GW106 := Aside0.mk ((by rw [hg]; exact (below_size (by repeat (first | (with_reducible first | exact HB.out | apply below_alloc | apply pw_below_drewN | apply below_drew1) | exact HB.out))) : w.heap.size ≤ gb106)); have GE106 := Aside0.mk ((by rw [hg]; exact (below_size (by repeat (first | (with_reducible first | exact HB.out | apply below_alloc | apply pw_below_drewN | apply below_drew1) | exact HB.out))) : w.heap.size ≤ gb106)); replace HB := Aside0.mk (below_step (by repeat (first | (with_reducible first | exact HB.out | apply below_alloc | apply pw_below_drewN | apply below_drew1) | exact HB.out)) hb); clear hb hbox hg) | ((with_reducible refine gate_dst (N := 4) rfl ?_); refine box_event ?hg (N := 4) ?hd (cs := #[.int .u64 0, .int .u64 0]) (t := 24) ?hr ?_; (case hd => rfl); (case hg => rfl); (case hr => first | (go_simp; done) | (go_simp; rfl)); intro gb107 hg w30 hbox hb; have BK107 := Aside0.mk (hbox); have GW107 := Aside0.mk ((by rw [hg]; exact (below_size (by repeat (first | (with_reducible first | exact HB.out | apply below_alloc | apply pw_below_drewN | apply below_drew1 | refine below_set ?_ GE106.out) | exact HB.out))) : w.heap.size ≤ gb107)); have GE107 := Aside0.mk ((by rw [hg]; exact (below_size (by repeat (first | (with_reducible first | exact HB.out | apply below_alloc | apply pw_below_drewN | apply below_drew1 | refine below_set ?_ GE106.out) | exact HB.out))) : w.heap.size ≤ gb107)); replace HB := Aside0.mk (below_step (by repeat (first | (with_reducible first | exact HB.out | apply below_alloc | apply pw_below_drewN | apply below_drew1 | refine below_set ?_ GE106.out) | exact HB.out)) hb); have NB106_107 := Aside0.mk ((by rw [hg]; exact Nat.ne_of_lt (blk_lt (g := gb106) (o := .cells #[.int .u64 a0_0, .int .u64 a0_1] 24 (0, 0)) BK106.out) : gb106 ≠ gb107)); have NB107_106 := Aside0.mk ((by rw [hg]; exact Nat.ne_of_gt (blk_lt (g := gb106) (o := .cells #[.int .u64 a0_0, .int .u64 a0_1] 24 (0, 0)) BK106.out) : gb107 ≠ gb106)); replace BK106 := Aside0.mk (blk_below BK106.out hb); clear hb hbox hg))
  replace BK106 := Aside0.mk (blk_drew BK106.out)
  replace BK107 := Aside0.mk (blk_drew BK107.out)
  replace HB := Aside0.mk (below_drew1 HB.out)
  refine start_ (n := 12) (S := fun w' => w'.cell? ⟨gb106, 0, none⟩ = some (.int .u64 a0_0) ∧ w'.cell? ⟨gb106, 1, none⟩ = some (.int .u64 a0_1)) (ds := []) (wide_Times.ups 12 0) (by kernel_rfl) rfl rfl ⟨(blk_cell BK106.out 0).trans rfl, (blk_cell BK106.out 1).trans rfl⟩ (fun hHeld => ?_); refine with_tabW wide_Times.tab1 wide_Times.bits1 (fun HT_ HW_ => ?_)
  generalize w30.drew = w31 at BK106 BK107 HB hHeld ⊢
  refine pure_ (i := 0) (N := some 8) (v := ?_) (a' := ?_) (wide_Times.ups 12 1) rfl rfl (any_of HT_.out (by kernel_rfl)) (fun _ _ _ h => h) (Or.inl ⟨by rfl, ?_⟩) ?_ ?_
  rotate_left
  ·intro w'
   go_simp
   with_reducible rfl
  rotate_left
  ·simp only [Act.put, List.setIfInBounds_toArray, List.set_cons_zero, List.set_cons_succ, i64_w, i32_w]
   rfl
  refine pure_ (i := 2) (N := some 10) (v := ?_) (a' := ?_) (wide_Times.ups 12 5) rfl rfl (any_of HT_.out (by kernel_rfl)) (fun _ _ _ h => h) (Or.inl ⟨by rfl, ?_⟩) ?_ ?_
  rotate_left
  ·intro w'
   go_simp
   with_reducible rfl
  rotate_left
  ·simp only [Act.put, List.setIfInBounds_toArray, List.set_cons_zero, List.set_cons_succ, i64_w, i32_w]
   rfl
  refine pure_ (i := 4) (N := some 12) (v := ?_) (a' := ?_) (wide_Times.ups 12 21) rfl rfl (any_of HT_.out (by kernel_rfl)) (fun _ _ _ h => h) (Or.inl ⟨by rfl, ?_⟩) ?_ ?_
  rotate_left
  ·intro w'
   go_simp
   with_reducible rfl
  rotate_left
  ·simp only [Act.put, List.setIfInBounds_toArray, List.set_cons_zero, List.set_cons_succ, i64_w, i32_w]
   rfl
  refine pure_ (i := 6) (N := some 14) (v := ?_) (a' := ?_) (wide_Times.ups 12 85) rfl rfl (any_of HT_.out (by kernel_rfl)) (fun _ _ _ h => h) (Or.inl ⟨by rfl, ?_⟩) ?_ ?_
  rotate_left
  ·intro w'
   go_simp
   with_reducible rfl
  rotate_left
  ·simp only [Act.put, List.setIfInBounds_toArray, List.set_cons_zero, List.set_cons_succ, i64_w, i32_w]
   rfl
  refine take_ (i := 1) (N := some 9) (v := ?_) (a' := ?_) (wide_Times.ups 12 87) rfl rfl (take_ofW HT_.out HW_.out (by kernel_rfl)) (fun _ _ _ h => h) (Or.inl ⟨by rfl, ?_⟩) hHeld ?_ ?_
  rotate_left
  ·rintro w' ⟨s0, s1⟩
   go_simp
   with_reducible rfl
  rotate_left
  ·simp only [Act.put, List.setIfInBounds_toArray, List.set_cons_zero, List.set_cons_succ, i64_w, i32_w]
   rfl
  refine take_ (i := 5) (N := some 13) (v := ?_) (a' := ?_) (wide_Times.ups 12 119) rfl rfl (take_ofW HT_.out HW_.out (by kernel_rfl)) (fun _ _ _ h => h) (Or.inl ⟨by rfl, ?_⟩) hHeld ?_ ?_
  rotate_left
  ·rintro w' ⟨s0, s1⟩
   go_simp
   with_reducible rfl
  rotate_left
  ·simp only [Act.put, List.setIfInBounds_toArray, List.set_cons_zero, List.set_cons_succ, i64_w, i32_w]
   rfl
  refine join_ (σ := Nat × Nat) 2 (wide_Times.ups 12 1023) (fun s_ => [(11, .agg #[.int .u64 t108, .int .u64 t109]), (15, .agg #[.int .u64 t110, .int .u64 t111]), (6, .pointer (some ⟨s_.1, 0, none⟩)), (7, .pointer (some ⟨s_.2, 0, none⟩))]) (fun s_ w' => (w'.cell? ⟨gb106, 0, none⟩ = some (.int .u64 a0_0) ∧ w'.cell? ⟨gb106, 1, none⟩ = some (.int .u64 a0_1)) ∧ (w'.heap[gb106]? = some (.cells #[.int .u64 a0_0, .int .u64 a0_1] 24 (0, 0))) ∧ (w'.heap[gb107]? = some (.cells #[.int .u64 0, .int .u64 0] 24 (0, 0))) ∧ (w'.heap[s_.1]? = some (.cells #[.int .u64 0, .int .u64 0] 24 (0, 0))) ∧ (w'.heap[s_.2]? = some (.cells #[.int .u64 0, .int .u64 0] 24 (0, 0))) ∧ (w.heap.size ≤ s_.1) ∧ (w.heap.size ≤ s_.1) ∧ (gb106 ≠ s_.1) ∧ (s_.1 ≠ gb106) ∧ (gb107 ≠ s_.1) ∧ (s_.1 ≠ gb107) ∧ (s_.2 ≠ s_.1) ∧ (s_.1 ≠ s_.2) ∧ (w.heap.size ≤ s_.2) ∧ (w.heap.size ≤ s_.2) ∧ (gb106 ≠ s_.2) ∧ (s_.2 ≠ gb106) ∧ (gb107 ≠ s_.2) ∧ (s_.2 ≠ gb107) ∧ (Below w.heap.size w w')) ?_ ?_
  rotate_left
  ·intro hJ3_7_8_9
   refine join_ (σ := Nat) 3 (wide_Times.ups 12 511) (fun s_ => [(11, .agg #[.int .u64 t108, .int .u64 t109]), (15, .agg #[.int .u64 t110, .int .u64 t111]), (6, .pointer (some ⟨s_, 0, none⟩))]) (fun s_ w' => (w'.cell? ⟨gb106, 0, none⟩ = some (.int .u64 a0_0) ∧ w'.cell? ⟨gb106, 1, none⟩ = some (.int .u64 a0_1)) ∧ (w'.heap[gb106]? = some (.cells #[.int .u64 a0_0, .int .u64 a0_1] 24 (0, 0))) ∧ (w'.heap[gb107]? = some (.cells #[.int .u64 0, .int .u64 0] 24 (0, 0))) ∧ (w'.heap[s_]? = some (.cells #[.int .u64 0, .int .u64 0] 24 (0, 0))) ∧ (w.heap.size ≤ s_) ∧ (w.heap.size ≤ s_) ∧ (gb106 ≠ s_) ∧ (s_ ≠ gb106) ∧ (gb107 ≠ s_) ∧ (s_ ≠ gb107) ∧ (Below w.heap.size w w')) ?_ ?_
   rotate_left
   ·intro hJ3_7_8
    refine join_ (σ := Nat) 3 (wide_Times.ups 12 767) (fun s_ => [(11, .agg #[.int .u64 t108, .int .u64 t109]), (15, .agg #[.int .u64 t110, .int .u64 t111]), (7, .pointer (some ⟨s_, 0, none⟩))]) (fun s_ w' => (w'.cell? ⟨gb106, 0, none⟩ = some (.int .u64 a0_0) ∧ w'.cell? ⟨gb106, 1, none⟩ = some (.int .u64 a0_1)) ∧ (w'.heap[gb106]? = some (.cells #[.int .u64 a0_0, .int .u64 a0_1] 24 (0, 0))) ∧ (w'.heap[gb107]? = some (.cells #[.int .u64 0, .int .u64 0] 24 (0, 0))) ∧ (w'.heap[s_]? = some (.cells #[.int .u64 0, .int .u64 0] 24 (0, 0))) ∧ (w.heap.size ≤ s_) ∧ (w.heap.size ≤ s_) ∧ (gb106 ≠ s_) ∧ (s_ ≠ gb106) ∧ (gb107 ≠ s_) ∧ (s_ ≠ gb107) ∧ (Below w.heap.size w w')) ?_ ?_
    rotate_left
    ·intro hJ3_7_9
     refine join_ (σ := Nat × Nat) 3 (wide_Times.ups 12 895) (fun s_ => [(11, .agg #[.int .u64 t108, .int .u64 t109]), (6, .pointer (some ⟨s_.1, 0, none⟩)), (7, .pointer (some ⟨s_.2, 0, none⟩))]) (fun s_ w' => (w'.cell? ⟨gb106, 0, none⟩ = some (.int .u64 a0_0) ∧ w'.cell? ⟨gb106, 1, none⟩ = some (.int .u64 a0_1)) ∧ (w'.heap[gb106]? = some (.cells #[.int .u64 a0_0, .int .u64 a0_1] 24 (0, 0))) ∧ (w'.heap[gb107]? = some (.cells #[.int .u64 0, .int .u64 0] 24 (0, 0))) ∧ (w'.heap[s_.1]? = some (.cells #[.int .u64 0, .int .u64 0] 24 (0, 0))) ∧ (w'.heap[s_.2]? = some (.cells #[.int .u64 0, .int .u64 0] 24 (0, 0))) ∧ (w.heap.size ≤ s_.1) ∧ (w.heap.size ≤ s_.1) ∧ (gb106 ≠ s_.1) ∧ (s_.1 ≠ gb106) ∧ (gb107 ≠ s_.1) ∧ (s_.1 ≠ gb107) ∧ (s_.2 ≠ s_.1) ∧ (s_.1 ≠ s_.2) ∧ (w.heap.size ≤ s_.2) ∧ (w.heap.size ≤ s_.2) ∧ (gb106 ≠ s_.2) ∧ (s_.2 ≠ gb106) ∧ (gb107 ≠ s_.2) ∧ (s_.2 ≠ gb107) ∧ (Below w.heap.size w w')) ?_ ?_
     rotate_left
     ·intro hJ3_8_9
      refine join_ (σ := Unit) 4 (wide_Times.ups 12 255) (fun s_ => [(11, .agg #[.int .u64 t108, .int .u64 t109]), (15, .agg #[.int .u64 t110, .int .u64 t111])]) (fun s_ w' => (w'.cell? ⟨gb106, 0, none⟩ = some (.int .u64 a0_0) ∧ w'.cell? ⟨gb106, 1, none⟩ = some (.int .u64 a0_1)) ∧ (w'.heap[gb106]? = some (.cells #[.int .u64 a0_0, .int .u64 a0_1] 24 (0, 0))) ∧ (w'.heap[gb107]? = some (.cells #[.int .u64 0, .int .u64 0] 24 (0, 0))) ∧ (Below w.heap.size w w')) ?_ ?_
      rotate_left
      ·intro hJ3_7
       refine join_ (σ := Nat) 4 (wide_Times.ups 12 383) (fun s_ => [(11, .agg #[.int .u64 t108, .int .u64 t109]), (6, .pointer (some ⟨s_, 0, none⟩))]) (fun s_ w' => (w'.cell? ⟨gb106, 0, none⟩ = some (.int .u64 a0_0) ∧ w'.cell? ⟨gb106, 1, none⟩ = some (.int .u64 a0_1)) ∧ (w'.heap[gb106]? = some (.cells #[.int .u64 a0_0, .int .u64 a0_1] 24 (0, 0))) ∧ (w'.heap[gb107]? = some (.cells #[.int .u64 0, .int .u64 0] 24 (0, 0))) ∧ (w'.heap[s_]? = some (.cells #[.int .u64 0, .int .u64 0] 24 (0, 0))) ∧ (w.heap.size ≤ s_) ∧ (w.heap.size ≤ s_) ∧ (gb106 ≠ s_) ∧ (s_ ≠ gb106) ∧ (gb107 ≠ s_) ∧ (s_ ≠ gb107) ∧ (Below w.heap.size w w')) ?_ ?_
       rotate_left
       ·intro hJ3_8
        refine join_ (σ := Nat) 4 (wide_Times.ups 12 639) (fun s_ => [(11, .agg #[.int .u64 t108, .int .u64 t109]), (7, .pointer (some ⟨s_, 0, none⟩))]) (fun s_ w' => (w'.cell? ⟨gb106, 0, none⟩ = some (.int .u64 a0_0) ∧ w'.cell? ⟨gb106, 1, none⟩ = some (.int .u64 a0_1)) ∧ (w'.heap[gb106]? = some (.cells #[.int .u64 a0_0, .int .u64 a0_1] 24 (0, 0))) ∧ (w'.heap[gb107]? = some (.cells #[.int .u64 0, .int .u64 0] 24 (0, 0))) ∧ (w'.heap[s_]? = some (.cells #[.int .u64 0, .int .u64 0] 24 (0, 0))) ∧ (w.heap.size ≤ s_) ∧ (w.heap.size ≤ s_) ∧ (gb106 ≠ s_) ∧ (s_ ≠ gb106) ∧ (gb107 ≠ s_) ∧ (s_ ≠ gb107) ∧ (Below w.heap.size w w')) ?_ ?_
        rotate_left
        ·intro hJ3_9
         refine join_ (σ := Nat × Nat) 4 (wide_Times.ups 12 887) (fun s_ => [(6, .pointer (some ⟨s_.1, 0, none⟩)), (7, .pointer (some ⟨s_.2, 0, none⟩))]) (fun s_ w' => (w'.cell? ⟨gb106, 0, none⟩ = some (.int .u64 a0_0) ∧ w'.cell? ⟨gb106, 1, none⟩ = some (.int .u64 a0_1)) ∧ (w'.heap[gb106]? = some (.cells #[.int .u64 a0_0, .int .u64 a0_1] 24 (0, 0))) ∧ (w'.heap[gb107]? = some (.cells #[.int .u64 0, .int .u64 0] 24 (0, 0))) ∧ (w'.heap[s_.1]? = some (.cells #[.int .u64 0, .int .u64 0] 24 (0, 0))) ∧ (w'.heap[s_.2]? = some (.cells #[.int .u64 0, .int .u64 0] 24 (0, 0))) ∧ (w.heap.size ≤ s_.1) ∧ (w.heap.size ≤ s_.1) ∧ (gb106 ≠ s_.1) ∧ (s_.1 ≠ gb106) ∧ (gb107 ≠ s_.1) ∧ (s_.1 ≠ gb107) ∧ (s_.2 ≠ s_.1) ∧ (s_.1 ≠ s_.2) ∧ (w.heap.size ≤ s_.2) ∧ (w.heap.size ≤ s_.2) ∧ (gb106 ≠ s_.2) ∧ (s_.2 ≠ gb106) ∧ (gb107 ≠ s_.2) ∧ (s_.2 ≠ gb107) ∧ (Below w.heap.size w w')) ?_ ?_
         rotate_left
         ·intro hJ8_9
          refine join_ (σ := Unit) 5 (wide_Times.ups 12 127) (fun s_ => [(11, .agg #[.int .u64 t108, .int .u64 t109])]) (fun s_ w' => (w'.cell? ⟨gb106, 0, none⟩ = some (.int .u64 a0_0) ∧ w'.cell? ⟨gb106, 1, none⟩ = some (.int .u64 a0_1)) ∧ (w'.heap[gb106]? = some (.cells #[.int .u64 a0_0, .int .u64 a0_1] 24 (0, 0))) ∧ (w'.heap[gb107]? = some (.cells #[.int .u64 0, .int .u64 0] 24 (0, 0))) ∧ (Below w.heap.size w w')) ?_ ?_
          rotate_left
          ·intro hJ3
           refine join_ (σ := Nat) 5 (wide_Times.ups 12 375) (fun s_ => [(6, .pointer (some ⟨s_, 0, none⟩))]) (fun s_ w' => (w'.cell? ⟨gb106, 0, none⟩ = some (.int .u64 a0_0) ∧ w'.cell? ⟨gb106, 1, none⟩ = some (.int .u64 a0_1)) ∧ (w'.heap[gb106]? = some (.cells #[.int .u64 a0_0, .int .u64 a0_1] 24 (0, 0))) ∧ (w'.heap[gb107]? = some (.cells #[.int .u64 0, .int .u64 0] 24 (0, 0))) ∧ (w'.heap[s_]? = some (.cells #[.int .u64 0, .int .u64 0] 24 (0, 0))) ∧ (w.heap.size ≤ s_) ∧ (w.heap.size ≤ s_) ∧ (gb106 ≠ s_) ∧ (s_ ≠ gb106) ∧ (gb107 ≠ s_) ∧ (s_ ≠ gb107) ∧ (Below w.heap.size w w')) ?_ ?_
           rotate_left
           ·intro hJ8
            refine join_ (σ := Nat) 5 (wide_Times.ups 12 631) (fun s_ => [(7, .pointer (some ⟨s_, 0, none⟩))]) (fun s_ w' => (w'.cell? ⟨gb106, 0, none⟩ = some (.int .u64 a0_0) ∧ w'.cell? ⟨gb106, 1, none⟩ = some (.int .u64 a0_1)) ∧ (w'.heap[gb106]? = some (.cells #[.int .u64 a0_0, .int .u64 a0_1] 24 (0, 0))) ∧ (w'.heap[gb107]? = some (.cells #[.int .u64 0, .int .u64 0] 24 (0, 0))) ∧ (w'.heap[s_]? = some (.cells #[.int .u64 0, .int .u64 0] 24 (0, 0))) ∧ (w.heap.size ≤ s_) ∧ (w.heap.size ≤ s_) ∧ (gb106 ≠ s_) ∧ (s_ ≠ gb106) ∧ (gb107 ≠ s_) ∧ (s_ ≠ gb107) ∧ (Below w.heap.size w w')) ?_ ?_
            rotate_left
            ·intro hJ9
             refine three_ (i := 3) (j := 8) (k := 9) (Ni := some 11) (Nj := some 6) (Nk := some 7) (wide_Times.ups 12 127) (wide_Times.ups 12 375) (wide_Times.ups 12 631) rfl rfl rfl rfl rfl rfl (three_of HT_.out (by kernel_rfl)) (by decide) (by decide) (by decide) (fun K hK => ?_) (fun K hK => ?_) (fun K hK => ?_)
             ·skip
              refine goes_ Try.func16 (by kernel_rfl) rfl #[.int .u64 a0_1, .int .u64 a1] (by rfl) rfl rfl (by (try simp only [List.map_toArray, List.map_cons, List.map_nil]); first | done | rfl) ?_
              with_reducible refine (wide_Mul.calls a0_1 a1 t108 t109 _ A3.out).mono ?_
              rintro e w32 ⟨rfl, hb⟩
              refine ⟨_, rfl, ?_⟩
              replace BK106 := Aside0.mk (blk_below BK106.out hb)
              replace BK107 := Aside0.mk (blk_below BK107.out hb)
              replace HB := Aside0.mk (below_step (by repeat (first | (with_reducible first | exact HB.out | apply below_alloc | apply pw_below_drewN | apply below_drew1 | refine below_set ?_ GE106.out | refine below_set ?_ GE107.out) | exact HB.out)) hb)
              (try clear hb)
              (try clear hb2)
              (try clear hk)
              (try clear hi)
              refine hK.out _ _ ⟨(blk_cell BK106.out 0).trans rfl, (blk_cell BK106.out 1).trans rfl⟩ (fun hHeld => ?_)
              clear hK K
              refine norm_ (a' := ?_) ?_ ?_
              rotate_left
              ·show Act.put _ (some 11) _ = _
               simp only [Act.put, List.setIfInBounds_toArray, List.set_cons_zero, List.set_cons_succ, i64_w, i32_w]
               rfl
              exact norm_ (by first | (simp only [putAll, Act.put, List.setIfInBounds_toArray, List.set_cons_zero, List.set_cons_succ]; done) | (simp only [putAll, Act.put, List.setIfInBounds_toArray, List.set_cons_zero, List.set_cons_succ]; rfl)) (hJ3 () _ ⟨hHeld, (by exact BK106.out), (by exact BK107.out), (by repeat (first | (with_reducible first | exact HB.out | apply below_alloc | apply pw_below_drewN | apply below_drew1 | refine below_set ?_ GE106.out | refine below_set ?_ GE107.out) | exact HB.out))⟩)
             ·skip
              refine box_step ?hg (N := 6) ?hd (cs := #[.int .u64 0, .int .u64 0]) (t := 24) ?hr ?_; (case hd => rfl); (case hg => rfl); (case hr => first | (go_simp; done) | (go_simp; rfl))
              intro gb112 hg w32 hbox hb
              have BK112 := Aside0.mk (hbox)
              have GW112 := Aside0.mk ((by rw [hg]; exact (below_size (by repeat (first | (with_reducible first | exact HB.out | apply below_alloc | apply pw_below_drewN | apply below_drew1 | refine below_set ?_ GE106.out | refine below_set ?_ GE107.out) | exact HB.out))) : w.heap.size ≤ gb112))
              have GE112 := Aside0.mk ((by rw [hg]; exact (below_size (by repeat (first | (with_reducible first | exact HB.out | apply below_alloc | apply pw_below_drewN | apply below_drew1 | refine below_set ?_ GE106.out | refine below_set ?_ GE107.out) | exact HB.out))) : w.heap.size ≤ gb112))
              replace HB := Aside0.mk (below_step (by repeat (first | (with_reducible first | exact HB.out | apply below_alloc | apply pw_below_drewN | apply below_drew1 | refine below_set ?_ GE106.out | refine below_set ?_ GE107.out) | exact HB.out)) hb)
              have NB106_112 := Aside0.mk ((by rw [hg]; exact Nat.ne_of_lt (blk_lt (g := gb106) (o := .cells #[.int .u64 a0_0, .int .u64 a0_1] 24 (0, 0)) BK106.out) : gb106 ≠ gb112))
              have NB112_106 := Aside0.mk ((by rw [hg]; exact Nat.ne_of_gt (blk_lt (g := gb106) (o := .cells #[.int .u64 a0_0, .int .u64 a0_1] 24 (0, 0)) BK106.out) : gb112 ≠ gb106))
              replace BK106 := Aside0.mk (blk_below BK106.out hb)
              have NB107_112 := Aside0.mk ((by rw [hg]; exact Nat.ne_of_lt (blk_lt (g := gb107) (o := .cells #[.int .u64 0, .int .u64 0] 24 (0, 0)) BK107.out) : gb107 ≠ gb112))
              have NB112_107 := Aside0.mk ((by rw [hg]; exact Nat.ne_of_gt (blk_lt (g := gb107) (o := .cells #[.int .u64 0, .int .u64 0] 24 (0, 0)) BK107.out) : gb112 ≠ gb107))
              replace BK107 := Aside0.mk (blk_below BK107.out hb)
              clear hb hbox hg
              refine hK.out _ _ ⟨(blk_cell BK106.out 0).trans rfl, (blk_cell BK106.out 1).trans rfl⟩ (fun hHeld => ?_)
              clear hK K
              refine norm_ (a' := ?_) ?_ ?_
              rotate_left
              ·show Act.put _ (some 6) _ = _
               simp only [Act.put, List.setIfInBounds_toArray, List.set_cons_zero, List.set_cons_succ, i64_w, i32_w]
               rfl
              exact norm_ (by first | (simp only [putAll, Act.put, List.setIfInBounds_toArray, List.set_cons_zero, List.set_cons_succ]; done) | (simp only [putAll, Act.put, List.setIfInBounds_toArray, List.set_cons_zero, List.set_cons_succ]; rfl)) (hJ8 (gb112) _ ⟨hHeld, (by exact BK106.out), (by exact BK107.out), (by exact BK112.out), GW112.out, GE112.out, NB106_112.out, NB112_106.out, NB107_112.out, NB112_107.out, (by repeat (first | (with_reducible first | exact HB.out | apply below_alloc | apply pw_below_drewN | apply below_drew1 | refine below_set ?_ GE106.out | refine below_set ?_ GE107.out | refine below_set ?_ GE112.out) | exact HB.out))⟩)
             ·skip
              refine box_step ?hg (N := 7) ?hd (cs := #[.int .u64 0, .int .u64 0]) (t := 24) ?hr ?_; (case hd => rfl); (case hg => rfl); (case hr => first | (go_simp; done) | (go_simp; rfl))
              intro gb113 hg w32 hbox hb
              have BK113 := Aside0.mk (hbox)
              have GW113 := Aside0.mk ((by rw [hg]; exact (below_size (by repeat (first | (with_reducible first | exact HB.out | apply below_alloc | apply pw_below_drewN | apply below_drew1 | refine below_set ?_ GE106.out | refine below_set ?_ GE107.out) | exact HB.out))) : w.heap.size ≤ gb113))
              have GE113 := Aside0.mk ((by rw [hg]; exact (below_size (by repeat (first | (with_reducible first | exact HB.out | apply below_alloc | apply pw_below_drewN | apply below_drew1 | refine below_set ?_ GE106.out | refine below_set ?_ GE107.out) | exact HB.out))) : w.heap.size ≤ gb113))
              replace HB := Aside0.mk (below_step (by repeat (first | (with_reducible first | exact HB.out | apply below_alloc | apply pw_below_drewN | apply below_drew1 | refine below_set ?_ GE106.out | refine below_set ?_ GE107.out) | exact HB.out)) hb)
              have NB106_113 := Aside0.mk ((by rw [hg]; exact Nat.ne_of_lt (blk_lt (g := gb106) (o := .cells #[.int .u64 a0_0, .int .u64 a0_1] 24 (0, 0)) BK106.out) : gb106 ≠ gb113))
              have NB113_106 := Aside0.mk ((by rw [hg]; exact Nat.ne_of_gt (blk_lt (g := gb106) (o := .cells #[.int .u64 a0_0, .int .u64 a0_1] 24 (0, 0)) BK106.out) : gb113 ≠ gb106))
              replace BK106 := Aside0.mk (blk_below BK106.out hb)
              have NB107_113 := Aside0.mk ((by rw [hg]; exact Nat.ne_of_lt (blk_lt (g := gb107) (o := .cells #[.int .u64 0, .int .u64 0] 24 (0, 0)) BK107.out) : gb107 ≠ gb113))
              have NB113_107 := Aside0.mk ((by rw [hg]; exact Nat.ne_of_gt (blk_lt (g := gb107) (o := .cells #[.int .u64 0, .int .u64 0] 24 (0, 0)) BK107.out) : gb113 ≠ gb107))
              replace BK107 := Aside0.mk (blk_below BK107.out hb)
              clear hb hbox hg
              refine hK.out _ _ ⟨(blk_cell BK106.out 0).trans rfl, (blk_cell BK106.out 1).trans rfl⟩ (fun hHeld => ?_)
              clear hK K
              refine norm_ (a' := ?_) ?_ ?_
              rotate_left
              ·show Act.put _ (some 7) _ = _
               simp only [Act.put, List.setIfInBounds_toArray, List.set_cons_zero, List.set_cons_succ, i64_w, i32_w]
               rfl
              exact norm_ (by first | (simp only [putAll, Act.put, List.setIfInBounds_toArray, List.set_cons_zero, List.set_cons_succ]; done) | (simp only [putAll, Act.put, List.setIfInBounds_toArray, List.set_cons_zero, List.set_cons_succ]; rfl)) (hJ9 (gb113) _ ⟨hHeld, (by exact BK106.out), (by exact BK107.out), (by exact BK113.out), GW113.out, GE113.out, NB106_113.out, NB113_106.out, NB107_113.out, NB113_107.out, (by repeat (first | (with_reducible first | exact HB.out | apply below_alloc | apply pw_below_drewN | apply below_drew1 | refine below_set ?_ GE106.out | refine below_set ?_ GE107.out | refine below_set ?_ GE113.out) | exact HB.out))⟩)
            ·skip
             rintro gb113 w33 ⟨hS_, h0_, h1_, h2_, h3_, h4_, h5_, h6_, h7_, h8_, h9_⟩
             have n0_ : Aside0 (w33.heap[gb106]? = some (.cells #[.int .u64 a0_0, .int .u64 a0_1] 24 (0, 0))) := ⟨h0_⟩
             have n1_ : Aside0 (w33.heap[gb107]? = some (.cells #[.int .u64 0, .int .u64 0] 24 (0, 0))) := ⟨h1_⟩
             have n2_ : Aside0 (w33.heap[gb113]? = some (.cells #[.int .u64 0, .int .u64 0] 24 (0, 0))) := ⟨h2_⟩
             have n3_ : Aside0 (w.heap.size ≤ gb113) := ⟨h3_⟩
             have n4_ : Aside0 (w.heap.size ≤ gb113) := ⟨h4_⟩
             have n5_ : Aside0 (gb106 ≠ gb113) := ⟨h5_⟩
             have n6_ : Aside0 (gb113 ≠ gb106) := ⟨h6_⟩
             have n7_ : Aside0 (gb107 ≠ gb113) := ⟨h7_⟩
             have n8_ : Aside0 (gb113 ≠ gb107) := ⟨h8_⟩
             have n9_ : Aside0 (Below w.heap.size w w33) := ⟨h9_⟩
             clear BK106 BK107 HB h0_ h1_ h2_ h3_ h4_ h5_ h6_ h7_ h8_ h9_
             have BK106 := n0_
             have BK107 := n1_
             have BK113 := n2_
             have GW113 := n3_
             have GE113 := n4_
             have NB106_113 := n5_
             have NB113_106 := n6_
             have NB107_113 := n7_
             have NB113_107 := n8_
             have HB := n9_
             clear n0_ n1_ n2_ n3_ n4_ n5_ n6_ n7_ n8_ n9_
             have hHeld : w33.cell? ⟨gb106, 0, none⟩ = some (.int .u64 a0_0) ∧ w33.cell? ⟨gb106, 1, none⟩ = some (.int .u64 a0_1) := hS_
             refine norm_ (a' := ?_) ?_ ?_
             rotate_left
             ·simp only [putAll, Act.put, List.setIfInBounds_toArray, List.set_cons_zero, List.set_cons_succ]
              rfl
             refine two_ (i := 3) (j := 8) (Ni := some 11) (Nj := some 6) (wide_Times.ups 12 639) (wide_Times.ups 12 887) rfl rfl rfl rfl (two_of HT_.out (by kernel_rfl)) (by decide) (by decide) (fun K hK => ?_) (fun K hK => ?_)
             ·skip
              refine goes_ Try.func16 (by kernel_rfl) rfl #[.int .u64 a0_1, .int .u64 a1] (by rfl) rfl rfl (by (try simp only [List.map_toArray, List.map_cons, List.map_nil]); first | done | rfl) ?_
              with_reducible refine (wide_Mul.calls a0_1 a1 t108 t109 _ A3.out).mono ?_
              rintro e w34 ⟨rfl, hb⟩
              refine ⟨_, rfl, ?_⟩
              replace BK106 := Aside0.mk (blk_below BK106.out hb)
              replace BK107 := Aside0.mk (blk_below BK107.out hb)
              replace BK113 := Aside0.mk (blk_below BK113.out hb)
              replace HB := Aside0.mk (below_step (by repeat (first | (with_reducible first | exact HB.out | apply below_alloc | apply pw_below_drewN | apply below_drew1 | refine below_set ?_ GE106.out | refine below_set ?_ GE107.out | refine below_set ?_ GE113.out) | exact HB.out)) hb)
              (try clear hb)
              (try clear hb2)
              (try clear hk)
              (try clear hi)
              refine hK.out _ _ ⟨(blk_cell BK106.out 0).trans rfl, (blk_cell BK106.out 1).trans rfl⟩ (fun hHeld => ?_)
              clear hK K
              refine norm_ (a' := ?_) ?_ ?_
              rotate_left
              ·show Act.put _ (some 11) _ = _
               simp only [Act.put, List.setIfInBounds_toArray, List.set_cons_zero, List.set_cons_succ, i64_w, i32_w]
               rfl
              exact norm_ (by first | (simp only [putAll, Act.put, List.setIfInBounds_toArray, List.set_cons_zero, List.set_cons_succ]; done) | (simp only [putAll, Act.put, List.setIfInBounds_toArray, List.set_cons_zero, List.set_cons_succ]; rfl)) (hJ3_9 (gb113) _ ⟨hHeld, (by exact BK106.out), (by exact BK107.out), (by exact BK113.out), GW113.out, GE113.out, NB106_113.out, NB113_106.out, NB107_113.out, NB113_107.out, (by repeat (first | (with_reducible first | exact HB.out | apply below_alloc | apply pw_below_drewN | apply below_drew1 | refine below_set ?_ GE106.out | refine below_set ?_ GE107.out | refine below_set ?_ GE113.out) | exact HB.out))⟩)
             ·skip
              refine box_step ?hg (N := 6) ?hd (cs := #[.int .u64 0, .int .u64 0]) (t := 24) ?hr ?_; (case hd => rfl); (case hg => rfl); (case hr => first | (go_simp; done) | (go_simp; rfl))
              intro gb112 hg w34 hbox hb
              have BK112 := Aside0.mk (hbox)
              have GW112 := Aside0.mk ((by rw [hg]; exact (below_size (by repeat (first | (with_reducible first | exact HB.out | apply below_alloc | apply pw_below_drewN | apply below_drew1 | refine below_set ?_ GE106.out | refine below_set ?_ GE107.out | refine below_set ?_ GE113.out) | exact HB.out))) : w.heap.size ≤ gb112))
              have GE112 := Aside0.mk ((by rw [hg]; exact (below_size (by repeat (first | (with_reducible first | exact HB.out | apply below_alloc | apply pw_below_drewN | apply below_drew1 | refine below_set ?_ GE106.out | refine below_set ?_ GE107.out | refine below_set ?_ GE113.out) | exact HB.out))) : w.heap.size ≤ gb112))
              replace HB := Aside0.mk (below_step (by repeat (first | (with_reducible first | exact HB.out | apply below_alloc | apply pw_below_drewN | apply below_drew1 | refine below_set ?_ GE106.out | refine below_set ?_ GE107.out | refine below_set ?_ GE113.out) | exact HB.out)) hb)
              have NB106_112 := Aside0.mk ((by rw [hg]; exact Nat.ne_of_lt (blk_lt (g := gb106) (o := .cells #[.int .u64 a0_0, .int .u64 a0_1] 24 (0, 0)) BK106.out) : gb106 ≠ gb112))
              have NB112_106 := Aside0.mk ((by rw [hg]; exact Nat.ne_of_gt (blk_lt (g := gb106) (o := .cells #[.int .u64 a0_0, .int .u64 a0_1] 24 (0, 0)) BK106.out) : gb112 ≠ gb106))
              replace BK106 := Aside0.mk (blk_below BK106.out hb)
              have NB107_112 := Aside0.mk ((by rw [hg]; exact Nat.ne_of_lt (blk_lt (g := gb107) (o := .cells #[.int .u64 0, .int .u64 0] 24 (0, 0)) BK107.out) : gb107 ≠ gb112))
              have NB112_107 := Aside0.mk ((by rw [hg]; exact Nat.ne_of_gt (blk_lt (g := gb107) (o := .cells #[.int .u64 0, .int .u64 0] 24 (0, 0)) BK107.out) : gb112 ≠ gb107))
              replace BK107 := Aside0.mk (blk_below BK107.out hb)
              have NB113_112 := Aside0.mk ((by rw [hg]; exact Nat.ne_of_lt (blk_lt (g := gb113) (o := .cells #[.int .u64 0, .int .u64 0] 24 (0, 0)) BK113.out) : gb113 ≠ gb112))
              have NB112_113 := Aside0.mk ((by rw [hg]; exact Nat.ne_of_gt (blk_lt (g := gb113) (o := .cells #[.int .u64 0, .int .u64 0] 24 (0, 0)) BK113.out) : gb112 ≠ gb113))
              replace BK113 := Aside0.mk (blk_below BK113.out hb)
              clear hb hbox hg
              refine hK.out _ _ ⟨(blk_cell BK106.out 0).trans rfl, (blk_cell BK106.out 1).trans rfl⟩ (fun hHeld => ?_)
              clear hK K
              refine norm_ (a' := ?_) ?_ ?_
              rotate_left
              ·show Act.put _ (some 6) _ = _
               simp only [Act.put, List.setIfInBounds_toArray, List.set_cons_zero, List.set_cons_succ, i64_w, i32_w]
               rfl
              exact norm_ (by first | (simp only [putAll, Act.put, List.setIfInBounds_toArray, List.set_cons_zero, List.set_cons_succ]; done) | (simp only [putAll, Act.put, List.setIfInBounds_toArray, List.set_cons_zero, List.set_cons_succ]; rfl)) (hJ8_9 (gb112, gb113) _ ⟨hHeld, (by exact BK106.out), (by exact BK107.out), (by exact BK112.out), (by exact BK113.out), GW112.out, GE112.out, NB106_112.out, NB112_106.out, NB107_112.out, NB112_107.out, NB113_112.out, NB112_113.out, GW113.out, GE113.out, NB106_113.out, NB113_106.out, NB107_113.out, NB113_107.out, (by repeat (first | (with_reducible first | exact HB.out | apply below_alloc | apply pw_below_drewN | apply below_drew1 | refine below_set ?_ GE106.out | refine below_set ?_ GE107.out | refine below_set ?_ GE113.out | refine below_set ?_ GE112.out) | exact HB.out))⟩)
           ·skip
            rintro gb112 w33 ⟨hS_, h0_, h1_, h2_, h3_, h4_, h5_, h6_, h7_, h8_, h9_⟩
            have n0_ : Aside0 (w33.heap[gb106]? = some (.cells #[.int .u64 a0_0, .int .u64 a0_1] 24 (0, 0))) := ⟨h0_⟩
            have n1_ : Aside0 (w33.heap[gb107]? = some (.cells #[.int .u64 0, .int .u64 0] 24 (0, 0))) := ⟨h1_⟩
            have n2_ : Aside0 (w33.heap[gb112]? = some (.cells #[.int .u64 0, .int .u64 0] 24 (0, 0))) := ⟨h2_⟩
            have n3_ : Aside0 (w.heap.size ≤ gb112) := ⟨h3_⟩
            have n4_ : Aside0 (w.heap.size ≤ gb112) := ⟨h4_⟩
            have n5_ : Aside0 (gb106 ≠ gb112) := ⟨h5_⟩
            have n6_ : Aside0 (gb112 ≠ gb106) := ⟨h6_⟩
            have n7_ : Aside0 (gb107 ≠ gb112) := ⟨h7_⟩
            have n8_ : Aside0 (gb112 ≠ gb107) := ⟨h8_⟩
            have n9_ : Aside0 (Below w.heap.size w w33) := ⟨h9_⟩
            clear BK106 BK107 HB h0_ h1_ h2_ h3_ h4_ h5_ h6_ h7_ h8_ h9_
            have BK106 := n0_
            have BK107 := n1_
            have BK112 := n2_
            have GW112 := n3_
            have GE112 := n4_
            have NB106_112 := n5_
            have NB112_106 := n6_
            have NB107_112 := n7_
            have NB112_107 := n8_
            have HB := n9_
            clear n0_ n1_ n2_ n3_ n4_ n5_ n6_ n7_ n8_ n9_
            have hHeld : w33.cell? ⟨gb106, 0, none⟩ = some (.int .u64 a0_0) ∧ w33.cell? ⟨gb106, 1, none⟩ = some (.int .u64 a0_1) := hS_
            refine norm_ (a' := ?_) ?_ ?_
            rotate_left
            ·simp only [putAll, Act.put, List.setIfInBounds_toArray, List.set_cons_zero, List.set_cons_succ]
             rfl
            refine two_ (i := 3) (j := 9) (Ni := some 11) (Nj := some 7) (wide_Times.ups 12 383) (wide_Times.ups 12 887) rfl rfl rfl rfl (two_of HT_.out (by kernel_rfl)) (by decide) (by decide) (fun K hK => ?_) (fun K hK => ?_)
            ·skip
             refine goes_ Try.func16 (by kernel_rfl) rfl #[.int .u64 a0_1, .int .u64 a1] (by rfl) rfl rfl (by (try simp only [List.map_toArray, List.map_cons, List.map_nil]); first | done | rfl) ?_
             with_reducible refine (wide_Mul.calls a0_1 a1 t108 t109 _ A3.out).mono ?_
             rintro e w34 ⟨rfl, hb⟩
             refine ⟨_, rfl, ?_⟩
             replace BK106 := Aside0.mk (blk_below BK106.out hb)
             replace BK107 := Aside0.mk (blk_below BK107.out hb)
             replace BK112 := Aside0.mk (blk_below BK112.out hb)
             replace HB := Aside0.mk (below_step (by repeat (first | (with_reducible first | exact HB.out | apply below_alloc | apply pw_below_drewN | apply below_drew1 | refine below_set ?_ GE106.out | refine below_set ?_ GE107.out | refine below_set ?_ GE112.out) | exact HB.out)) hb)
             (try clear hb)
             (try clear hb2)
             (try clear hk)
             (try clear hi)
             refine hK.out _ _ ⟨(blk_cell BK106.out 0).trans rfl, (blk_cell BK106.out 1).trans rfl⟩ (fun hHeld => ?_)
             clear hK K
             refine norm_ (a' := ?_) ?_ ?_
             rotate_left
             ·show Act.put _ (some 11) _ = _
              simp only [Act.put, List.setIfInBounds_toArray, List.set_cons_zero, List.set_cons_succ, i64_w, i32_w]
              rfl
             exact norm_ (by first | (simp only [putAll, Act.put, List.setIfInBounds_toArray, List.set_cons_zero, List.set_cons_succ]; done) | (simp only [putAll, Act.put, List.setIfInBounds_toArray, List.set_cons_zero, List.set_cons_succ]; rfl)) (hJ3_8 (gb112) _ ⟨hHeld, (by exact BK106.out), (by exact BK107.out), (by exact BK112.out), GW112.out, GE112.out, NB106_112.out, NB112_106.out, NB107_112.out, NB112_107.out, (by repeat (first | (with_reducible first | exact HB.out | apply below_alloc | apply pw_below_drewN | apply below_drew1 | refine below_set ?_ GE106.out | refine below_set ?_ GE107.out | refine below_set ?_ GE112.out) | exact HB.out))⟩)
            ·skip
             refine box_step ?hg (N := 7) ?hd (cs := #[.int .u64 0, .int .u64 0]) (t := 24) ?hr ?_; (case hd => rfl); (case hg => rfl); (case hr => first | (go_simp; done) | (go_simp; rfl))
             intro gb113 hg w34 hbox hb
             have BK113 := Aside0.mk (hbox)
             have GW113 := Aside0.mk ((by rw [hg]; exact (below_size (by repeat (first | (with_reducible first | exact HB.out | apply below_alloc | apply pw_below_drewN | apply below_drew1 | refine below_set ?_ GE106.out | refine below_set ?_ GE107.out | refine below_set ?_ GE112.out) | exact HB.out))) : w.heap.size ≤ gb113))
             have GE113 := Aside0.mk ((by rw [hg]; exact (below_size (by repeat (first | (with_reducible first | exact HB.out | apply below_alloc | apply pw_below_drewN | apply below_drew1 | refine below_set ?_ GE106.out | refine below_set ?_ GE107.out | refine below_set ?_ GE112.out) | exact HB.out))) : w.heap.size ≤ gb113))
             replace HB := Aside0.mk (below_step (by repeat (first | (with_reducible first | exact HB.out | apply below_alloc | apply pw_below_drewN | apply below_drew1 | refine below_set ?_ GE106.out | refine below_set ?_ GE107.out | refine below_set ?_ GE112.out) | exact HB.out)) hb)
             have NB106_113 := Aside0.mk ((by rw [hg]; exact Nat.ne_of_lt (blk_lt (g := gb106) (o := .cells #[.int .u64 a0_0, .int .u64 a0_1] 24 (0, 0)) BK106.out) : gb106 ≠ gb113))
             have NB113_106 := Aside0.mk ((by rw [hg]; exact Nat.ne_of_gt (blk_lt (g := gb106) (o := .cells #[.int .u64 a0_0, .int .u64 a0_1] 24 (0, 0)) BK106.out) : gb113 ≠ gb106))
             replace BK106 := Aside0.mk (blk_below BK106.out hb)
             have NB107_113 := Aside0.mk ((by rw [hg]; exact Nat.ne_of_lt (blk_lt (g := gb107) (o := .cells #[.int .u64 0, .int .u64 0] 24 (0, 0)) BK107.out) : gb107 ≠ gb113))
             have NB113_107 := Aside0.mk ((by rw [hg]; exact Nat.ne_of_gt (blk_lt (g := gb107) (o := .cells #[.int .u64 0, .int .u64 0] 24 (0, 0)) BK107.out) : gb113 ≠ gb107))
             replace BK107 := Aside0.mk (blk_below BK107.out hb)
             have NB112_113 := Aside0.mk ((by rw [hg]; exact Nat.ne_of_lt (blk_lt (g := gb112) (o := .cells #[.int .u64 0, .int .u64 0] 24 (0, 0)) BK112.out) : gb112 ≠ gb113))
             have NB113_112 := Aside0.mk ((by rw [hg]; exact Nat.ne_of_gt (blk_lt (g := gb112) (o := .cells #[.int .u64 0, .int .u64 0] 24 (0, 0)) BK112.out) : gb113 ≠ gb112))
             replace BK112 := Aside0.mk (blk_below BK112.out hb)
             clear hb hbox hg
             refine hK.out _ _ ⟨(blk_cell BK106.out 0).trans rfl, (blk_cell BK106.out 1).trans rfl⟩ (fun hHeld => ?_)
             clear hK K
             refine norm_ (a' := ?_) ?_ ?_
             rotate_left
             ·show Act.put _ (some 7) _ = _
              simp only [Act.put, List.setIfInBounds_toArray, List.set_cons_zero, List.set_cons_succ, i64_w, i32_w]
              rfl
             exact norm_ (by first | (simp only [putAll, Act.put, List.setIfInBounds_toArray, List.set_cons_zero, List.set_cons_succ]; done) | (simp only [putAll, Act.put, List.setIfInBounds_toArray, List.set_cons_zero, List.set_cons_succ]; rfl)) (hJ8_9 (gb112, gb113) _ ⟨hHeld, (by exact BK106.out), (by exact BK107.out), (by exact BK112.out), (by exact BK113.out), GW112.out, GE112.out, NB106_112.out, NB112_106.out, NB107_112.out, NB112_107.out, NB113_112.out, NB112_113.out, GW113.out, GE113.out, NB106_113.out, NB113_106.out, NB107_113.out, NB113_107.out, (by repeat (first | (with_reducible first | exact HB.out | apply below_alloc | apply pw_below_drewN | apply below_drew1 | refine below_set ?_ GE106.out | refine below_set ?_ GE107.out | refine below_set ?_ GE112.out | refine below_set ?_ GE113.out) | exact HB.out))⟩)
          ·skip
           rintro _ w33 ⟨hS_, h0_, h1_, h2_⟩
           have n0_ : Aside0 (w33.heap[gb106]? = some (.cells #[.int .u64 a0_0, .int .u64 a0_1] 24 (0, 0))) := ⟨h0_⟩
           have n1_ : Aside0 (w33.heap[gb107]? = some (.cells #[.int .u64 0, .int .u64 0] 24 (0, 0))) := ⟨h1_⟩
           have n2_ : Aside0 (Below w.heap.size w w33) := ⟨h2_⟩
           clear BK106 BK107 HB h0_ h1_ h2_
           have BK106 := n0_
           have BK107 := n1_
           have HB := n2_
           clear n0_ n1_ n2_
           have hHeld : w33.cell? ⟨gb106, 0, none⟩ = some (.int .u64 a0_0) ∧ w33.cell? ⟨gb106, 1, none⟩ = some (.int .u64 a0_1) := hS_
           refine norm_ (a' := ?_) ?_ ?_
           rotate_left
           ·simp only [putAll, Act.put, List.setIfInBounds_toArray, List.set_cons_zero, List.set_cons_succ]
            rfl
           refine three_ (i := 7) (j := 8) (k := 9) (Ni := some 15) (Nj := some 6) (Nk := some 7) (wide_Times.ups 12 255) (wide_Times.ups 12 383) (wide_Times.ups 12 639) rfl rfl rfl rfl rfl rfl (three_of HT_.out (by kernel_rfl)) (by decide) (by decide) (by decide) (fun K hK => ?_) (fun K hK => ?_) (fun K hK => ?_)
           ·skip
            refine goes_ Try.func16 (by kernel_rfl) rfl #[.int .u64 a0_0, .int .u64 a1] (by rfl) rfl rfl (by (try simp only [List.map_toArray, List.map_cons, List.map_nil]); first | done | rfl) ?_
            with_reducible refine (wide_Mul.calls a0_0 a1 t110 t111 _ A4.out).mono ?_
            rintro e w34 ⟨rfl, hb⟩
            refine ⟨_, rfl, ?_⟩
            replace BK106 := Aside0.mk (blk_below BK106.out hb)
            replace BK107 := Aside0.mk (blk_below BK107.out hb)
            replace HB := Aside0.mk (below_step (by repeat (first | (with_reducible first | exact HB.out | apply below_alloc | apply pw_below_drewN | apply below_drew1 | refine below_set ?_ GE106.out | refine below_set ?_ GE107.out) | exact HB.out)) hb)
            (try clear hb)
            (try clear hb2)
            (try clear hk)
            (try clear hi)
            refine hK.out _ _ ⟨(blk_cell BK106.out 0).trans rfl, (blk_cell BK106.out 1).trans rfl⟩ (fun hHeld => ?_)
            clear hK K
            refine norm_ (a' := ?_) ?_ ?_
            rotate_left
            ·show Act.put _ (some 15) _ = _
             simp only [Act.put, List.setIfInBounds_toArray, List.set_cons_zero, List.set_cons_succ, i64_w, i32_w]
             rfl
            exact norm_ (by first | (simp only [putAll, Act.put, List.setIfInBounds_toArray, List.set_cons_zero, List.set_cons_succ]; done) | (simp only [putAll, Act.put, List.setIfInBounds_toArray, List.set_cons_zero, List.set_cons_succ]; rfl)) (hJ3_7 () _ ⟨hHeld, (by exact BK106.out), (by exact BK107.out), (by repeat (first | (with_reducible first | exact HB.out | apply below_alloc | apply pw_below_drewN | apply below_drew1 | refine below_set ?_ GE106.out | refine below_set ?_ GE107.out) | exact HB.out))⟩)
           ·skip
            refine box_step ?hg (N := 6) ?hd (cs := #[.int .u64 0, .int .u64 0]) (t := 24) ?hr ?_; (case hd => rfl); (case hg => rfl); (case hr => first | (go_simp; done) | (go_simp; rfl))
            intro gb112 hg w34 hbox hb
            have BK112 := Aside0.mk (hbox)
            have GW112 := Aside0.mk ((by rw [hg]; exact (below_size (by repeat (first | (with_reducible first | exact HB.out | apply below_alloc | apply pw_below_drewN | apply below_drew1 | refine below_set ?_ GE106.out | refine below_set ?_ GE107.out) | exact HB.out))) : w.heap.size ≤ gb112))
            have GE112 := Aside0.mk ((by rw [hg]; exact (below_size (by repeat (first | (with_reducible first | exact HB.out | apply below_alloc | apply pw_below_drewN | apply below_drew1 | refine below_set ?_ GE106.out | refine below_set ?_ GE107.out) | exact HB.out))) : w.heap.size ≤ gb112))
            replace HB := Aside0.mk (below_step (by repeat (first | (with_reducible first | exact HB.out | apply below_alloc | apply pw_below_drewN | apply below_drew1 | refine below_set ?_ GE106.out | refine below_set ?_ GE107.out) | exact HB.out)) hb)
            have NB106_112 := Aside0.mk ((by rw [hg]; exact Nat.ne_of_lt (blk_lt (g := gb106) (o := .cells #[.int .u64 a0_0, .int .u64 a0_1] 24 (0, 0)) BK106.out) : gb106 ≠ gb112))
            have NB112_106 := Aside0.mk ((by rw [hg]; exact Nat.ne_of_gt (blk_lt (g := gb106) (o := .cells #[.int .u64 a0_0, .int .u64 a0_1] 24 (0, 0)) BK106.out) : gb112 ≠ gb106))
            replace BK106 := Aside0.mk (blk_below BK106.out hb)
            have NB107_112 := Aside0.mk ((by rw [hg]; exact Nat.ne_of_lt (blk_lt (g := gb107) (o := .cells #[.int .u64 0, .int .u64 0] 24 (0, 0)) BK107.out) : gb107 ≠ gb112))
            have NB112_107 := Aside0.mk ((by rw [hg]; exact Nat.ne_of_gt (blk_lt (g := gb107) (o := .cells #[.int .u64 0, .int .u64 0] 24 (0, 0)) BK107.out) : gb112 ≠ gb107))
            replace BK107 := Aside0.mk (blk_below BK107.out hb)
            clear hb hbox hg
            refine hK.out _ _ ⟨(blk_cell BK106.out 0).trans rfl, (blk_cell BK106.out 1).trans rfl⟩ (fun hHeld => ?_)
            clear hK K
            refine norm_ (a' := ?_) ?_ ?_
            rotate_left
            ·show Act.put _ (some 6) _ = _
             simp only [Act.put, List.setIfInBounds_toArray, List.set_cons_zero, List.set_cons_succ, i64_w, i32_w]
             rfl
            exact norm_ (by first | (simp only [putAll, Act.put, List.setIfInBounds_toArray, List.set_cons_zero, List.set_cons_succ]; done) | (simp only [putAll, Act.put, List.setIfInBounds_toArray, List.set_cons_zero, List.set_cons_succ]; rfl)) (hJ3_8 (gb112) _ ⟨hHeld, (by exact BK106.out), (by exact BK107.out), (by exact BK112.out), GW112.out, GE112.out, NB106_112.out, NB112_106.out, NB107_112.out, NB112_107.out, (by repeat (first | (with_reducible first | exact HB.out | apply below_alloc | apply pw_below_drewN | apply below_drew1 | refine below_set ?_ GE106.out | refine below_set ?_ GE107.out | refine below_set ?_ GE112.out) | exact HB.out))⟩)
           ·skip
            refine box_step ?hg (N := 7) ?hd (cs := #[.int .u64 0, .int .u64 0]) (t := 24) ?hr ?_; (case hd => rfl); (case hg => rfl); (case hr => first | (go_simp; done) | (go_simp; rfl))
            intro gb113 hg w34 hbox hb
            have BK113 := Aside0.mk (hbox)
            have GW113 := Aside0.mk ((by rw [hg]; exact (below_size (by repeat (first | (with_reducible first | exact HB.out | apply below_alloc | apply pw_below_drewN | apply below_drew1 | refine below_set ?_ GE106.out | refine below_set ?_ GE107.out) | exact HB.out))) : w.heap.size ≤ gb113))
            have GE113 := Aside0.mk ((by rw [hg]; exact (below_size (by repeat (first | (with_reducible first | exact HB.out | apply below_alloc | apply pw_below_drewN | apply below_drew1 | refine below_set ?_ GE106.out | refine below_set ?_ GE107.out) | exact HB.out))) : w.heap.size ≤ gb113))
            replace HB := Aside0.mk (below_step (by repeat (first | (with_reducible first | exact HB.out | apply below_alloc | apply pw_below_drewN | apply below_drew1 | refine below_set ?_ GE106.out | refine below_set ?_ GE107.out) | exact HB.out)) hb)
            have NB106_113 := Aside0.mk ((by rw [hg]; exact Nat.ne_of_lt (blk_lt (g := gb106) (o := .cells #[.int .u64 a0_0, .int .u64 a0_1] 24 (0, 0)) BK106.out) : gb106 ≠ gb113))
            have NB113_106 := Aside0.mk ((by rw [hg]; exact Nat.ne_of_gt (blk_lt (g := gb106) (o := .cells #[.int .u64 a0_0, .int .u64 a0_1] 24 (0, 0)) BK106.out) : gb113 ≠ gb106))
            replace BK106 := Aside0.mk (blk_below BK106.out hb)
            have NB107_113 := Aside0.mk ((by rw [hg]; exact Nat.ne_of_lt (blk_lt (g := gb107) (o := .cells #[.int .u64 0, .int .u64 0] 24 (0, 0)) BK107.out) : gb107 ≠ gb113))
            have NB113_107 := Aside0.mk ((by rw [hg]; exact Nat.ne_of_gt (blk_lt (g := gb107) (o := .cells #[.int .u64 0, .int .u64 0] 24 (0, 0)) BK107.out) : gb113 ≠ gb107))
            replace BK107 := Aside0.mk (blk_below BK107.out hb)
            clear hb hbox hg
            refine hK.out _ _ ⟨(blk_cell BK106.out 0).trans rfl, (blk_cell BK106.out 1).trans rfl⟩ (fun hHeld => ?_)
            clear hK K
            refine norm_ (a' := ?_) ?_ ?_
            rotate_left
            ·show Act.put _ (some 7) _ = _
             simp only [Act.put, List.setIfInBounds_toArray, List.set_cons_zero, List.set_cons_succ, i64_w, i32_w]
             rfl
            exact norm_ (by first | (simp only [putAll, Act.put, List.setIfInBounds_toArray, List.set_cons_zero, List.set_cons_succ]; done) | (simp only [putAll, Act.put, List.setIfInBounds_toArray, List.set_cons_zero, List.set_cons_succ]; rfl)) (hJ3_9 (gb113) _ ⟨hHeld, (by exact BK106.out), (by exact BK107.out), (by exact BK113.out), GW113.out, GE113.out, NB106_113.out, NB113_106.out, NB107_113.out, NB113_107.out, (by repeat (first | (with_reducible first | exact HB.out | apply below_alloc | apply pw_below_drewN | apply below_drew1 | refine below_set ?_ GE106.out | refine below_set ?_ GE107.out | refine below_set ?_ GE113.out) | exact HB.out))⟩)
         ·skip
          rintro ⟨gb112, gb113⟩ w34 ⟨hS_, h0_, h1_, h2_, h3_, h4_, h5_, h6_, h7_, h8_, h9_, h10_, h11_, h12_, h13_, h14_, h15_, h16_, h17_, h18_⟩
          have n0_ : Aside0 (w34.heap[gb106]? = some (.cells #[.int .u64 a0_0, .int .u64 a0_1] 24 (0, 0))) := ⟨h0_⟩
          have n1_ : Aside0 (w34.heap[gb107]? = some (.cells #[.int .u64 0, .int .u64 0] 24 (0, 0))) := ⟨h1_⟩
          have n2_ : Aside0 (w34.heap[gb112]? = some (.cells #[.int .u64 0, .int .u64 0] 24 (0, 0))) := ⟨h2_⟩
          have n3_ : Aside0 (w34.heap[gb113]? = some (.cells #[.int .u64 0, .int .u64 0] 24 (0, 0))) := ⟨h3_⟩
          have n4_ : Aside0 (w.heap.size ≤ gb112) := ⟨h4_⟩
          have n5_ : Aside0 (w.heap.size ≤ gb112) := ⟨h5_⟩
          have n6_ : Aside0 (gb106 ≠ gb112) := ⟨h6_⟩
          have n7_ : Aside0 (gb112 ≠ gb106) := ⟨h7_⟩
          have n8_ : Aside0 (gb107 ≠ gb112) := ⟨h8_⟩
          have n9_ : Aside0 (gb112 ≠ gb107) := ⟨h9_⟩
          have n10_ : Aside0 (gb113 ≠ gb112) := ⟨h10_⟩
          have n11_ : Aside0 (gb112 ≠ gb113) := ⟨h11_⟩
          have n12_ : Aside0 (w.heap.size ≤ gb113) := ⟨h12_⟩
          have n13_ : Aside0 (w.heap.size ≤ gb113) := ⟨h13_⟩
          have n14_ : Aside0 (gb106 ≠ gb113) := ⟨h14_⟩
          have n15_ : Aside0 (gb113 ≠ gb106) := ⟨h15_⟩
          have n16_ : Aside0 (gb107 ≠ gb113) := ⟨h16_⟩
          have n17_ : Aside0 (gb113 ≠ gb107) := ⟨h17_⟩
          have n18_ : Aside0 (Below w.heap.size w w34) := ⟨h18_⟩
          clear BK106 BK107 HB h0_ h1_ h2_ h3_ h4_ h5_ h6_ h7_ h8_ h9_ h10_ h11_ h12_ h13_ h14_ h15_ h16_ h17_ h18_
          have BK106 := n0_
          have BK107 := n1_
          have BK112 := n2_
          have BK113 := n3_
          have GW112 := n4_
          have GE112 := n5_
          have NB106_112 := n6_
          have NB112_106 := n7_
          have NB107_112 := n8_
          have NB112_107 := n9_
          have NB113_112 := n10_
          have NB112_113 := n11_
          have GW113 := n12_
          have GE113 := n13_
          have NB106_113 := n14_
          have NB113_106 := n15_
          have NB107_113 := n16_
          have NB113_107 := n17_
          have HB := n18_
          clear n0_ n1_ n2_ n3_ n4_ n5_ n6_ n7_ n8_ n9_ n10_ n11_ n12_ n13_ n14_ n15_ n16_ n17_ n18_
          have hHeld : w34.cell? ⟨gb106, 0, none⟩ = some (.int .u64 a0_0) ∧ w34.cell? ⟨gb106, 1, none⟩ = some (.int .u64 a0_1) := hS_
          refine norm_ (a' := ?_) ?_ ?_
          rotate_left
          ·simp only [putAll, Act.put, List.setIfInBounds_toArray, List.set_cons_zero, List.set_cons_succ]
           rfl
          refine one_ (i := 3) (N := some 11) (wide_Times.ups 12 895) rfl rfl (one_of HT_.out (by kernel_rfl)) (by decide) (fun K hK => ?_)
          refine goes_ Try.func16 (by kernel_rfl) rfl #[.int .u64 a0_1, .int .u64 a1] (by rfl) rfl rfl (by (try simp only [List.map_toArray, List.map_cons, List.map_nil]); first | done | rfl) ?_
          with_reducible refine (wide_Mul.calls a0_1 a1 t108 t109 _ A3.out).mono ?_
          rintro e w35 ⟨rfl, hb⟩
          refine ⟨_, rfl, ?_⟩
          replace BK106 := Aside0.mk (blk_below BK106.out hb)
          replace BK107 := Aside0.mk (blk_below BK107.out hb)
          replace BK112 := Aside0.mk (blk_below BK112.out hb)
          replace BK113 := Aside0.mk (blk_below BK113.out hb)
          replace HB := Aside0.mk (below_step (by repeat (first | (with_reducible first | exact HB.out | apply below_alloc | apply pw_below_drewN | apply below_drew1 | refine below_set ?_ GE106.out | refine below_set ?_ GE107.out | refine below_set ?_ GE112.out | refine below_set ?_ GE113.out) | exact HB.out)) hb)
          (try clear hb)
          (try clear hb2)
          (try clear hk)
          (try clear hi)
          refine hK.out _ _ ⟨(blk_cell BK106.out 0).trans rfl, (blk_cell BK106.out 1).trans rfl⟩ (fun hHeld => ?_)
          clear hK K
          refine norm_ (a' := ?_) ?_ ?_
          rotate_left
          ·show Act.put _ (some 11) _ = _
           simp only [Act.put, List.setIfInBounds_toArray, List.set_cons_zero, List.set_cons_succ, i64_w, i32_w]
           rfl
          exact norm_ (by first | (simp only [putAll, Act.put, List.setIfInBounds_toArray, List.set_cons_zero, List.set_cons_succ]; done) | (simp only [putAll, Act.put, List.setIfInBounds_toArray, List.set_cons_zero, List.set_cons_succ]; rfl)) (hJ3_8_9 (gb112, gb113) _ ⟨hHeld, (by exact BK106.out), (by exact BK107.out), (by exact BK112.out), (by exact BK113.out), GW112.out, GE112.out, NB106_112.out, NB112_106.out, NB107_112.out, NB112_107.out, NB113_112.out, NB112_113.out, GW113.out, GE113.out, NB106_113.out, NB113_106.out, NB107_113.out, NB113_107.out, (by repeat (first | (with_reducible first | exact HB.out | apply below_alloc | apply pw_below_drewN | apply below_drew1 | refine below_set ?_ GE106.out | refine below_set ?_ GE107.out | refine below_set ?_ GE112.out | refine below_set ?_ GE113.out) | exact HB.out))⟩)
        ·skip
         rintro gb113 w34 ⟨hS_, h0_, h1_, h2_, h3_, h4_, h5_, h6_, h7_, h8_, h9_⟩
         have n0_ : Aside0 (w34.heap[gb106]? = some (.cells #[.int .u64 a0_0, .int .u64 a0_1] 24 (0, 0))) := ⟨h0_⟩
         have n1_ : Aside0 (w34.heap[gb107]? = some (.cells #[.int .u64 0, .int .u64 0] 24 (0, 0))) := ⟨h1_⟩
         have n2_ : Aside0 (w34.heap[gb113]? = some (.cells #[.int .u64 0, .int .u64 0] 24 (0, 0))) := ⟨h2_⟩
         have n3_ : Aside0 (w.heap.size ≤ gb113) := ⟨h3_⟩
         have n4_ : Aside0 (w.heap.size ≤ gb113) := ⟨h4_⟩
         have n5_ : Aside0 (gb106 ≠ gb113) := ⟨h5_⟩
         have n6_ : Aside0 (gb113 ≠ gb106) := ⟨h6_⟩
         have n7_ : Aside0 (gb107 ≠ gb113) := ⟨h7_⟩
         have n8_ : Aside0 (gb113 ≠ gb107) := ⟨h8_⟩
         have n9_ : Aside0 (Below w.heap.size w w34) := ⟨h9_⟩
         clear BK106 BK107 HB h0_ h1_ h2_ h3_ h4_ h5_ h6_ h7_ h8_ h9_
         have BK106 := n0_
         have BK107 := n1_
         have BK113 := n2_
         have GW113 := n3_
         have GE113 := n4_
         have NB106_113 := n5_
         have NB113_106 := n6_
         have NB107_113 := n7_
         have NB113_107 := n8_
         have HB := n9_
         clear n0_ n1_ n2_ n3_ n4_ n5_ n6_ n7_ n8_ n9_
         have hHeld : w34.cell? ⟨gb106, 0, none⟩ = some (.int .u64 a0_0) ∧ w34.cell? ⟨gb106, 1, none⟩ = some (.int .u64 a0_1) := hS_
         refine norm_ (a' := ?_) ?_ ?_
         rotate_left
         ·simp only [putAll, Act.put, List.setIfInBounds_toArray, List.set_cons_zero, List.set_cons_succ]
          rfl
         refine two_ (i := 7) (j := 8) (Ni := some 15) (Nj := some 6) (wide_Times.ups 12 767) (wide_Times.ups 12 895) rfl rfl rfl rfl (two_of HT_.out (by kernel_rfl)) (by decide) (by decide) (fun K hK => ?_) (fun K hK => ?_)
         ·skip
          refine goes_ Try.func16 (by kernel_rfl) rfl #[.int .u64 a0_0, .int .u64 a1] (by rfl) rfl rfl (by (try simp only [List.map_toArray, List.map_cons, List.map_nil]); first | done | rfl) ?_
          with_reducible refine (wide_Mul.calls a0_0 a1 t110 t111 _ A4.out).mono ?_
          rintro e w35 ⟨rfl, hb⟩
          refine ⟨_, rfl, ?_⟩
          replace BK106 := Aside0.mk (blk_below BK106.out hb)
          replace BK107 := Aside0.mk (blk_below BK107.out hb)
          replace BK113 := Aside0.mk (blk_below BK113.out hb)
          replace HB := Aside0.mk (below_step (by repeat (first | (with_reducible first | exact HB.out | apply below_alloc | apply pw_below_drewN | apply below_drew1 | refine below_set ?_ GE106.out | refine below_set ?_ GE107.out | refine below_set ?_ GE113.out) | exact HB.out)) hb)
          (try clear hb)
          (try clear hb2)
          (try clear hk)
          (try clear hi)
          refine hK.out _ _ ⟨(blk_cell BK106.out 0).trans rfl, (blk_cell BK106.out 1).trans rfl⟩ (fun hHeld => ?_)
          clear hK K
          refine norm_ (a' := ?_) ?_ ?_
          rotate_left
          ·show Act.put _ (some 15) _ = _
           simp only [Act.put, List.setIfInBounds_toArray, List.set_cons_zero, List.set_cons_succ, i64_w, i32_w]
           rfl
          exact norm_ (by first | (simp only [putAll, Act.put, List.setIfInBounds_toArray, List.set_cons_zero, List.set_cons_succ]; done) | (simp only [putAll, Act.put, List.setIfInBounds_toArray, List.set_cons_zero, List.set_cons_succ]; rfl)) (hJ3_7_9 (gb113) _ ⟨hHeld, (by exact BK106.out), (by exact BK107.out), (by exact BK113.out), GW113.out, GE113.out, NB106_113.out, NB113_106.out, NB107_113.out, NB113_107.out, (by repeat (first | (with_reducible first | exact HB.out | apply below_alloc | apply pw_below_drewN | apply below_drew1 | refine below_set ?_ GE106.out | refine below_set ?_ GE107.out | refine below_set ?_ GE113.out) | exact HB.out))⟩)
         ·skip
          refine box_step ?hg (N := 6) ?hd (cs := #[.int .u64 0, .int .u64 0]) (t := 24) ?hr ?_; (case hd => rfl); (case hg => rfl); (case hr => first | (go_simp; done) | (go_simp; rfl))
          intro gb112 hg w35 hbox hb
          have BK112 := Aside0.mk (hbox)
          have GW112 := Aside0.mk ((by rw [hg]; exact (below_size (by repeat (first | (with_reducible first | exact HB.out | apply below_alloc | apply pw_below_drewN | apply below_drew1 | refine below_set ?_ GE106.out | refine below_set ?_ GE107.out | refine below_set ?_ GE113.out) | exact HB.out))) : w.heap.size ≤ gb112))
          have GE112 := Aside0.mk ((by rw [hg]; exact (below_size (by repeat (first | (with_reducible first | exact HB.out | apply below_alloc | apply pw_below_drewN | apply below_drew1 | refine below_set ?_ GE106.out | refine below_set ?_ GE107.out | refine below_set ?_ GE113.out) | exact HB.out))) : w.heap.size ≤ gb112))
          replace HB := Aside0.mk (below_step (by repeat (first | (with_reducible first | exact HB.out | apply below_alloc | apply pw_below_drewN | apply below_drew1 | refine below_set ?_ GE106.out | refine below_set ?_ GE107.out | refine below_set ?_ GE113.out) | exact HB.out)) hb)
          have NB106_112 := Aside0.mk ((by rw [hg]; exact Nat.ne_of_lt (blk_lt (g := gb106) (o := .cells #[.int .u64 a0_0, .int .u64 a0_1] 24 (0, 0)) BK106.out) : gb106 ≠ gb112))
          have NB112_106 := Aside0.mk ((by rw [hg]; exact Nat.ne_of_gt (blk_lt (g := gb106) (o := .cells #[.int .u64 a0_0, .int .u64 a0_1] 24 (0, 0)) BK106.out) : gb112 ≠ gb106))
          replace BK106 := Aside0.mk (blk_below BK106.out hb)
          have NB107_112 := Aside0.mk ((by rw [hg]; exact Nat.ne_of_lt (blk_lt (g := gb107) (o := .cells #[.int .u64 0, .int .u64 0] 24 (0, 0)) BK107.out) : gb107 ≠ gb112))
          have NB112_107 := Aside0.mk ((by rw [hg]; exact Nat.ne_of_gt (blk_lt (g := gb107) (o := .cells #[.int .u64 0, .int .u64 0] 24 (0, 0)) BK107.out) : gb112 ≠ gb107))
          replace BK107 := Aside0.mk (blk_below BK107.out hb)
          have NB113_112 := Aside0.mk ((by rw [hg]; exact Nat.ne_of_lt (blk_lt (g := gb113) (o := .cells #[.int .u64 0, .int .u64 0] 24 (0, 0)) BK113.out) : gb113 ≠ gb112))
          have NB112_113 := Aside0.mk ((by rw [hg]; exact Nat.ne_of_gt (blk_lt (g := gb113) (o := .cells #[.int .u64 0, .int .u64 0] 24 (0, 0)) BK113.out) : gb112 ≠ gb113))
          replace BK113 := Aside0.mk (blk_below BK113.out hb)
          clear hb hbox hg
          refine hK.out _ _ ⟨(blk_cell BK106.out 0).trans rfl, (blk_cell BK106.out 1).trans rfl⟩ (fun hHeld => ?_)
          clear hK K
          refine norm_ (a' := ?_) ?_ ?_
          rotate_left
          ·show Act.put _ (some 6) _ = _
           simp only [Act.put, List.setIfInBounds_toArray, List.set_cons_zero, List.set_cons_succ, i64_w, i32_w]
           rfl
          exact norm_ (by first | (simp only [putAll, Act.put, List.setIfInBounds_toArray, List.set_cons_zero, List.set_cons_succ]; done) | (simp only [putAll, Act.put, List.setIfInBounds_toArray, List.set_cons_zero, List.set_cons_succ]; rfl)) (hJ3_8_9 (gb112, gb113) _ ⟨hHeld, (by exact BK106.out), (by exact BK107.out), (by exact BK112.out), (by exact BK113.out), GW112.out, GE112.out, NB106_112.out, NB112_106.out, NB107_112.out, NB112_107.out, NB113_112.out, NB112_113.out, GW113.out, GE113.out, NB106_113.out, NB113_106.out, NB107_113.out, NB113_107.out, (by repeat (first | (with_reducible first | exact HB.out | apply below_alloc | apply pw_below_drewN | apply below_drew1 | refine below_set ?_ GE106.out | refine below_set ?_ GE107.out | refine below_set ?_ GE113.out | refine below_set ?_ GE112.out) | exact HB.out))⟩)
       ·skip
        rintro gb112 w34 ⟨hS_, h0_, h1_, h2_, h3_, h4_, h5_, h6_, h7_, h8_, h9_⟩
        have n0_ : Aside0 (w34.heap[gb106]? = some (.cells #[.int .u64 a0_0, .int .u64 a0_1] 24 (0, 0))) := ⟨h0_⟩
        have n1_ : Aside0 (w34.heap[gb107]? = some (.cells #[.int .u64 0, .int .u64 0] 24 (0, 0))) := ⟨h1_⟩
        have n2_ : Aside0 (w34.heap[gb112]? = some (.cells #[.int .u64 0, .int .u64 0] 24 (0, 0))) := ⟨h2_⟩
        have n3_ : Aside0 (w.heap.size ≤ gb112) := ⟨h3_⟩
        have n4_ : Aside0 (w.heap.size ≤ gb112) := ⟨h4_⟩
        have n5_ : Aside0 (gb106 ≠ gb112) := ⟨h5_⟩
        have n6_ : Aside0 (gb112 ≠ gb106) := ⟨h6_⟩
        have n7_ : Aside0 (gb107 ≠ gb112) := ⟨h7_⟩
        have n8_ : Aside0 (gb112 ≠ gb107) := ⟨h8_⟩
        have n9_ : Aside0 (Below w.heap.size w w34) := ⟨h9_⟩
        clear BK106 BK107 HB h0_ h1_ h2_ h3_ h4_ h5_ h6_ h7_ h8_ h9_
        have BK106 := n0_
        have BK107 := n1_
        have BK112 := n2_
        have GW112 := n3_
        have GE112 := n4_
        have NB106_112 := n5_
        have NB112_106 := n6_
        have NB107_112 := n7_
        have NB112_107 := n8_
        have HB := n9_
        clear n0_ n1_ n2_ n3_ n4_ n5_ n6_ n7_ n8_ n9_
        have hHeld : w34.cell? ⟨gb106, 0, none⟩ = some (.int .u64 a0_0) ∧ w34.cell? ⟨gb106, 1, none⟩ = some (.int .u64 a0_1) := hS_
        refine norm_ (a' := ?_) ?_ ?_
        rotate_left
        ·simp only [putAll, Act.put, List.setIfInBounds_toArray, List.set_cons_zero, List.set_cons_succ]
         rfl
        refine two_ (i := 7) (j := 9) (Ni := some 15) (Nj := some 7) (wide_Times.ups 12 511) (wide_Times.ups 12 895) rfl rfl rfl rfl (two_of HT_.out (by kernel_rfl)) (by decide) (by decide) (fun K hK => ?_) (fun K hK => ?_)
        ·skip
         refine goes_ Try.func16 (by kernel_rfl) rfl #[.int .u64 a0_0, .int .u64 a1] (by rfl) rfl rfl (by (try simp only [List.map_toArray, List.map_cons, List.map_nil]); first | done | rfl) ?_
         with_reducible refine (wide_Mul.calls a0_0 a1 t110 t111 _ A4.out).mono ?_
         rintro e w35 ⟨rfl, hb⟩
         refine ⟨_, rfl, ?_⟩
         replace BK106 := Aside0.mk (blk_below BK106.out hb)
         replace BK107 := Aside0.mk (blk_below BK107.out hb)
         replace BK112 := Aside0.mk (blk_below BK112.out hb)
         replace HB := Aside0.mk (below_step (by repeat (first | (with_reducible first | exact HB.out | apply below_alloc | apply pw_below_drewN | apply below_drew1 | refine below_set ?_ GE106.out | refine below_set ?_ GE107.out | refine below_set ?_ GE112.out) | exact HB.out)) hb)
         (try clear hb)
         (try clear hb2)
         (try clear hk)
         (try clear hi)
         refine hK.out _ _ ⟨(blk_cell BK106.out 0).trans rfl, (blk_cell BK106.out 1).trans rfl⟩ (fun hHeld => ?_)
         clear hK K
         refine norm_ (a' := ?_) ?_ ?_
         rotate_left
         ·show Act.put _ (some 15) _ = _
          simp only [Act.put, List.setIfInBounds_toArray, List.set_cons_zero, List.set_cons_succ, i64_w, i32_w]
          rfl
         exact norm_ (by first | (simp only [putAll, Act.put, List.setIfInBounds_toArray, List.set_cons_zero, List.set_cons_succ]; done) | (simp only [putAll, Act.put, List.setIfInBounds_toArray, List.set_cons_zero, List.set_cons_succ]; rfl)) (hJ3_7_8 (gb112) _ ⟨hHeld, (by exact BK106.out), (by exact BK107.out), (by exact BK112.out), GW112.out, GE112.out, NB106_112.out, NB112_106.out, NB107_112.out, NB112_107.out, (by repeat (first | (with_reducible first | exact HB.out | apply below_alloc | apply pw_below_drewN | apply below_drew1 | refine below_set ?_ GE106.out | refine below_set ?_ GE107.out | refine below_set ?_ GE112.out) | exact HB.out))⟩)
        ·skip
         refine box_step ?hg (N := 7) ?hd (cs := #[.int .u64 0, .int .u64 0]) (t := 24) ?hr ?_; (case hd => rfl); (case hg => rfl); (case hr => first | (go_simp; done) | (go_simp; rfl))
         intro gb113 hg w35 hbox hb
         have BK113 := Aside0.mk (hbox)
         have GW113 := Aside0.mk ((by rw [hg]; exact (below_size (by repeat (first | (with_reducible first | exact HB.out | apply below_alloc | apply pw_below_drewN | apply below_drew1 | refine below_set ?_ GE106.out | refine below_set ?_ GE107.out | refine below_set ?_ GE112.out) | exact HB.out))) : w.heap.size ≤ gb113))
         have GE113 := Aside0.mk ((by rw [hg]; exact (below_size (by repeat (first | (with_reducible first | exact HB.out | apply below_alloc | apply pw_below_drewN | apply below_drew1 | refine below_set ?_ GE106.out | refine below_set ?_ GE107.out | refine below_set ?_ GE112.out) | exact HB.out))) : w.heap.size ≤ gb113))
         replace HB := Aside0.mk (below_step (by repeat (first | (with_reducible first | exact HB.out | apply below_alloc | apply pw_below_drewN | apply below_drew1 | refine below_set ?_ GE106.out | refine below_set ?_ GE107.out | refine below_set ?_ GE112.out) | exact HB.out)) hb)
         have NB106_113 := Aside0.mk ((by rw [hg]; exact Nat.ne_of_lt (blk_lt (g := gb106) (o := .cells #[.int .u64 a0_0, .int .u64 a0_1] 24 (0, 0)) BK106.out) : gb106 ≠ gb113))
         have NB113_106 := Aside0.mk ((by rw [hg]; exact Nat.ne_of_gt (blk_lt (g := gb106) (o := .cells #[.int .u64 a0_0, .int .u64 a0_1] 24 (0, 0)) BK106.out) : gb113 ≠ gb106))
         replace BK106 := Aside0.mk (blk_below BK106.out hb)
         have NB107_113 := Aside0.mk ((by rw [hg]; exact Nat.ne_of_lt (blk_lt (g := gb107) (o := .cells #[.int .u64 0, .int .u64 0] 24 (0, 0)) BK107.out) : gb107 ≠ gb113))
         have NB113_107 := Aside0.mk ((by rw [hg]; exact Nat.ne_of_gt (blk_lt (g := gb107) (o := .cells #[.int .u64 0, .int .u64 0] 24 (0, 0)) BK107.out) : gb113 ≠ gb107))
         replace BK107 := Aside0.mk (blk_below BK107.out hb)
         have NB112_113 := Aside0.mk ((by rw [hg]; exact Nat.ne_of_lt (blk_lt (g := gb112) (o := .cells #[.int .u64 0, .int .u64 0] 24 (0, 0)) BK112.out) : gb112 ≠ gb113))
         have NB113_112 := Aside0.mk ((by rw [hg]; exact Nat.ne_of_gt (blk_lt (g := gb112) (o := .cells #[.int .u64 0, .int .u64 0] 24 (0, 0)) BK112.out) : gb113 ≠ gb112))
         replace BK112 := Aside0.mk (blk_below BK112.out hb)
         clear hb hbox hg
         refine hK.out _ _ ⟨(blk_cell BK106.out 0).trans rfl, (blk_cell BK106.out 1).trans rfl⟩ (fun hHeld => ?_)
         clear hK K
         refine norm_ (a' := ?_) ?_ ?_
         rotate_left
         ·show Act.put _ (some 7) _ = _
          simp only [Act.put, List.setIfInBounds_toArray, List.set_cons_zero, List.set_cons_succ, i64_w, i32_w]
          rfl
         exact norm_ (by first | (simp only [putAll, Act.put, List.setIfInBounds_toArray, List.set_cons_zero, List.set_cons_succ]; done) | (simp only [putAll, Act.put, List.setIfInBounds_toArray, List.set_cons_zero, List.set_cons_succ]; rfl)) (hJ3_8_9 (gb112, gb113) _ ⟨hHeld, (by exact BK106.out), (by exact BK107.out), (by exact BK112.out), (by exact BK113.out), GW112.out, GE112.out, NB106_112.out, NB112_106.out, NB107_112.out, NB112_107.out, NB113_112.out, NB112_113.out, GW113.out, GE113.out, NB106_113.out, NB113_106.out, NB107_113.out, NB113_107.out, (by repeat (first | (with_reducible first | exact HB.out | apply below_alloc | apply pw_below_drewN | apply below_drew1 | refine below_set ?_ GE106.out | refine below_set ?_ GE107.out | refine below_set ?_ GE112.out | refine below_set ?_ GE113.out) | exact HB.out))⟩)
      ·skip
       rintro _ w34 ⟨hS_, h0_, h1_, h2_⟩
       have n0_ : Aside0 (w34.heap[gb106]? = some (.cells #[.int .u64 a0_0, .int .u64 a0_1] 24 (0, 0))) := ⟨h0_⟩
       have n1_ : Aside0 (w34.heap[gb107]? = some (.cells #[.int .u64 0, .int .u64 0] 24 (0, 0))) := ⟨h1_⟩
       have n2_ : Aside0 (Below w.heap.size w w34) := ⟨h2_⟩
       clear BK106 BK107 HB h0_ h1_ h2_
       have BK106 := n0_
       have BK107 := n1_
       have HB := n2_
       clear n0_ n1_ n2_
       have hHeld : w34.cell? ⟨gb106, 0, none⟩ = some (.int .u64 a0_0) ∧ w34.cell? ⟨gb106, 1, none⟩ = some (.int .u64 a0_1) := hS_
       refine norm_ (a' := ?_) ?_ ?_
       rotate_left
       ·simp only [putAll, Act.put, List.setIfInBounds_toArray, List.set_cons_zero, List.set_cons_succ]
        rfl
       refine two_ (i := 8) (j := 9) (Ni := some 6) (Nj := some 7) (wide_Times.ups 12 511) (wide_Times.ups 12 767) rfl rfl rfl rfl (two_of HT_.out (by kernel_rfl)) (by decide) (by decide) (fun K hK => ?_) (fun K hK => ?_)
       ·skip
        refine box_step ?hg (N := 6) ?hd (cs := #[.int .u64 0, .int .u64 0]) (t := 24) ?hr ?_; (case hd => rfl); (case hg => rfl); (case hr => first | (go_simp; done) | (go_simp; rfl))
        intro gb112 hg w35 hbox hb
        have BK112 := Aside0.mk (hbox)
        have GW112 := Aside0.mk ((by rw [hg]; exact (below_size (by repeat (first | (with_reducible first | exact HB.out | apply below_alloc | apply pw_below_drewN | apply below_drew1 | refine below_set ?_ GE106.out | refine below_set ?_ GE107.out) | exact HB.out))) : w.heap.size ≤ gb112))
        have GE112 := Aside0.mk ((by rw [hg]; exact (below_size (by repeat (first | (with_reducible first | exact HB.out | apply below_alloc | apply pw_below_drewN | apply below_drew1 | refine below_set ?_ GE106.out | refine below_set ?_ GE107.out) | exact HB.out))) : w.heap.size ≤ gb112))
        replace HB := Aside0.mk (below_step (by repeat (first | (with_reducible first | exact HB.out | apply below_alloc | apply pw_below_drewN | apply below_drew1 | refine below_set ?_ GE106.out | refine below_set ?_ GE107.out) | exact HB.out)) hb)
        have NB106_112 := Aside0.mk ((by rw [hg]; exact Nat.ne_of_lt (blk_lt (g := gb106) (o := .cells #[.int .u64 a0_0, .int .u64 a0_1] 24 (0, 0)) BK106.out) : gb106 ≠ gb112))
        have NB112_106 := Aside0.mk ((by rw [hg]; exact Nat.ne_of_gt (blk_lt (g := gb106) (o := .cells #[.int .u64 a0_0, .int .u64 a0_1] 24 (0, 0)) BK106.out) : gb112 ≠ gb106))
        replace BK106 := Aside0.mk (blk_below BK106.out hb)
        have NB107_112 := Aside0.mk ((by rw [hg]; exact Nat.ne_of_lt (blk_lt (g := gb107) (o := .cells #[.int .u64 0, .int .u64 0] 24 (0, 0)) BK107.out) : gb107 ≠ gb112))
        have NB112_107 := Aside0.mk ((by rw [hg]; exact Nat.ne_of_gt (blk_lt (g := gb107) (o := .cells #[.int .u64 0, .int .u64 0] 24 (0, 0)) BK107.out) : gb112 ≠ gb107))
        replace BK107 := Aside0.mk (blk_below BK107.out hb)
        clear hb hbox hg
        refine hK.out _ _ ⟨(blk_cell BK106.out 0).trans rfl, (blk_cell BK106.out 1).trans rfl⟩ (fun hHeld => ?_)
        clear hK K
        refine norm_ (a' := ?_) ?_ ?_
        rotate_left
        ·show Act.put _ (some 6) _ = _
         simp only [Act.put, List.setIfInBounds_toArray, List.set_cons_zero, List.set_cons_succ, i64_w, i32_w]
         rfl
        exact norm_ (by first | (simp only [putAll, Act.put, List.setIfInBounds_toArray, List.set_cons_zero, List.set_cons_succ]; done) | (simp only [putAll, Act.put, List.setIfInBounds_toArray, List.set_cons_zero, List.set_cons_succ]; rfl)) (hJ3_7_8 (gb112) _ ⟨hHeld, (by exact BK106.out), (by exact BK107.out), (by exact BK112.out), GW112.out, GE112.out, NB106_112.out, NB112_106.out, NB107_112.out, NB112_107.out, (by repeat (first | (with_reducible first | exact HB.out | apply below_alloc | apply pw_below_drewN | apply below_drew1 | refine below_set ?_ GE106.out | refine below_set ?_ GE107.out | refine below_set ?_ GE112.out) | exact HB.out))⟩)
       ·skip
        refine box_step ?hg (N := 7) ?hd (cs := #[.int .u64 0, .int .u64 0]) (t := 24) ?hr ?_; (case hd => rfl); (case hg => rfl); (case hr => first | (go_simp; done) | (go_simp; rfl))
        intro gb113 hg w35 hbox hb
        have BK113 := Aside0.mk (hbox)
        have GW113 := Aside0.mk ((by rw [hg]; exact (below_size (by repeat (first | (with_reducible first | exact HB.out | apply below_alloc | apply pw_below_drewN | apply below_drew1 | refine below_set ?_ GE106.out | refine below_set ?_ GE107.out) | exact HB.out))) : w.heap.size ≤ gb113))
        have GE113 := Aside0.mk ((by rw [hg]; exact (below_size (by repeat (first | (with_reducible first | exact HB.out | apply below_alloc | apply pw_below_drewN | apply below_drew1 | refine below_set ?_ GE106.out | refine below_set ?_ GE107.out) | exact HB.out))) : w.heap.size ≤ gb113))
        replace HB := Aside0.mk (below_step (by repeat (first | (with_reducible first | exact HB.out | apply below_alloc | apply pw_below_drewN | apply below_drew1 | refine below_set ?_ GE106.out | refine below_set ?_ GE107.out) | exact HB.out)) hb)
        have NB106_113 := Aside0.mk ((by rw [hg]; exact Nat.ne_of_lt (blk_lt (g := gb106) (o := .cells #[.int .u64 a0_0, .int .u64 a0_1] 24 (0, 0)) BK106.out) : gb106 ≠ gb113))
        have NB113_106 := Aside0.mk ((by rw [hg]; exact Nat.ne_of_gt (blk_lt (g := gb106) (o := .cells #[.int .u64 a0_0, .int .u64 a0_1] 24 (0, 0)) BK106.out) : gb113 ≠ gb106))
        replace BK106 := Aside0.mk (blk_below BK106.out hb)
        have NB107_113 := Aside0.mk ((by rw [hg]; exact Nat.ne_of_lt (blk_lt (g := gb107) (o := .cells #[.int .u64 0, .int .u64 0] 24 (0, 0)) BK107.out) : gb107 ≠ gb113))
        have NB113_107 := Aside0.mk ((by rw [hg]; exact Nat.ne_of_gt (blk_lt (g := gb107) (o := .cells #[.int .u64 0, .int .u64 0] 24 (0, 0)) BK107.out) : gb113 ≠ gb107))
        replace BK107 := Aside0.mk (blk_below BK107.out hb)
        clear hb hbox hg
        refine hK.out _ _ ⟨(blk_cell BK106.out 0).trans rfl, (blk_cell BK106.out 1).trans rfl⟩ (fun hHeld => ?_)
        clear hK K
        refine norm_ (a' := ?_) ?_ ?_
        rotate_left
        ·show Act.put _ (some 7) _ = _
         simp only [Act.put, List.setIfInBounds_toArray, List.set_cons_zero, List.set_cons_succ, i64_w, i32_w]
         rfl
        exact norm_ (by first | (simp only [putAll, Act.put, List.setIfInBounds_toArray, List.set_cons_zero, List.set_cons_succ]; done) | (simp only [putAll, Act.put, List.setIfInBounds_toArray, List.set_cons_zero, List.set_cons_succ]; rfl)) (hJ3_7_9 (gb113) _ ⟨hHeld, (by exact BK106.out), (by exact BK107.out), (by exact BK113.out), GW113.out, GE113.out, NB106_113.out, NB113_106.out, NB107_113.out, NB113_107.out, (by repeat (first | (with_reducible first | exact HB.out | apply below_alloc | apply pw_below_drewN | apply below_drew1 | refine below_set ?_ GE106.out | refine below_set ?_ GE107.out | refine below_set ?_ GE113.out) | exact HB.out))⟩)
     ·skip
      rintro ⟨gb112, gb113⟩ w35 ⟨hS_, h0_, h1_, h2_, h3_, h4_, h5_, h6_, h7_, h8_, h9_, h10_, h11_, h12_, h13_, h14_, h15_, h16_, h17_, h18_⟩
      have n0_ : Aside0 (w35.heap[gb106]? = some (.cells #[.int .u64 a0_0, .int .u64 a0_1] 24 (0, 0))) := ⟨h0_⟩
      have n1_ : Aside0 (w35.heap[gb107]? = some (.cells #[.int .u64 0, .int .u64 0] 24 (0, 0))) := ⟨h1_⟩
      have n2_ : Aside0 (w35.heap[gb112]? = some (.cells #[.int .u64 0, .int .u64 0] 24 (0, 0))) := ⟨h2_⟩
      have n3_ : Aside0 (w35.heap[gb113]? = some (.cells #[.int .u64 0, .int .u64 0] 24 (0, 0))) := ⟨h3_⟩
      have n4_ : Aside0 (w.heap.size ≤ gb112) := ⟨h4_⟩
      have n5_ : Aside0 (w.heap.size ≤ gb112) := ⟨h5_⟩
      have n6_ : Aside0 (gb106 ≠ gb112) := ⟨h6_⟩
      have n7_ : Aside0 (gb112 ≠ gb106) := ⟨h7_⟩
      have n8_ : Aside0 (gb107 ≠ gb112) := ⟨h8_⟩
      have n9_ : Aside0 (gb112 ≠ gb107) := ⟨h9_⟩
      have n10_ : Aside0 (gb113 ≠ gb112) := ⟨h10_⟩
      have n11_ : Aside0 (gb112 ≠ gb113) := ⟨h11_⟩
      have n12_ : Aside0 (w.heap.size ≤ gb113) := ⟨h12_⟩
      have n13_ : Aside0 (w.heap.size ≤ gb113) := ⟨h13_⟩
      have n14_ : Aside0 (gb106 ≠ gb113) := ⟨h14_⟩
      have n15_ : Aside0 (gb113 ≠ gb106) := ⟨h15_⟩
      have n16_ : Aside0 (gb107 ≠ gb113) := ⟨h16_⟩
      have n17_ : Aside0 (gb113 ≠ gb107) := ⟨h17_⟩
      have n18_ : Aside0 (Below w.heap.size w w35) := ⟨h18_⟩
      clear BK106 BK107 HB h0_ h1_ h2_ h3_ h4_ h5_ h6_ h7_ h8_ h9_ h10_ h11_ h12_ h13_ h14_ h15_ h16_ h17_ h18_
      have BK106 := n0_
      have BK107 := n1_
      have BK112 := n2_
      have BK113 := n3_
      have GW112 := n4_
      have GE112 := n5_
      have NB106_112 := n6_
      have NB112_106 := n7_
      have NB107_112 := n8_
      have NB112_107 := n9_
      have NB113_112 := n10_
      have NB112_113 := n11_
      have GW113 := n12_
      have GE113 := n13_
      have NB106_113 := n14_
      have NB113_106 := n15_
      have NB107_113 := n16_
      have NB113_107 := n17_
      have HB := n18_
      clear n0_ n1_ n2_ n3_ n4_ n5_ n6_ n7_ n8_ n9_ n10_ n11_ n12_ n13_ n14_ n15_ n16_ n17_ n18_
      have hHeld : w35.cell? ⟨gb106, 0, none⟩ = some (.int .u64 a0_0) ∧ w35.cell? ⟨gb106, 1, none⟩ = some (.int .u64 a0_1) := hS_
      refine norm_ (a' := ?_) ?_ ?_
      rotate_left
      ·simp only [putAll, Act.put, List.setIfInBounds_toArray, List.set_cons_zero, List.set_cons_succ]
       rfl
      refine one_ (i := 7) (N := some 15) (wide_Times.ups 12 1023) rfl rfl (one_of HT_.out (by kernel_rfl)) (by decide) (fun K hK => ?_)
      refine goes_ Try.func16 (by kernel_rfl) rfl #[.int .u64 a0_0, .int .u64 a1] (by rfl) rfl rfl (by (try simp only [List.map_toArray, List.map_cons, List.map_nil]); first | done | rfl) ?_
      with_reducible refine (wide_Mul.calls a0_0 a1 t110 t111 _ A4.out).mono ?_
      rintro e w36 ⟨rfl, hb⟩
      refine ⟨_, rfl, ?_⟩
      replace BK106 := Aside0.mk (blk_below BK106.out hb)
      replace BK107 := Aside0.mk (blk_below BK107.out hb)
      replace BK112 := Aside0.mk (blk_below BK112.out hb)
      replace BK113 := Aside0.mk (blk_below BK113.out hb)
      replace HB := Aside0.mk (below_step (by repeat (first | (with_reducible first | exact HB.out | apply below_alloc | apply pw_below_drewN | apply below_drew1 | refine below_set ?_ GE106.out | refine below_set ?_ GE107.out | refine below_set ?_ GE112.out | refine below_set ?_ GE113.out) | exact HB.out)) hb)
      (try clear hb)
      (try clear hb2)
      (try clear hk)
      (try clear hi)
      refine hK.out _ _ ⟨(blk_cell BK106.out 0).trans rfl, (blk_cell BK106.out 1).trans rfl⟩ (fun hHeld => ?_)
      clear hK K
      refine norm_ (a' := ?_) ?_ ?_
      rotate_left
      ·show Act.put _ (some 15) _ = _
       simp only [Act.put, List.setIfInBounds_toArray, List.set_cons_zero, List.set_cons_succ, i64_w, i32_w]
       rfl
      exact norm_ (by first | (simp only [putAll, Act.put, List.setIfInBounds_toArray, List.set_cons_zero, List.set_cons_succ]; done) | (simp only [putAll, Act.put, List.setIfInBounds_toArray, List.set_cons_zero, List.set_cons_succ]; rfl)) (hJ3_7_8_9 (gb112, gb113) _ ⟨hHeld, (by exact BK106.out), (by exact BK107.out), (by exact BK112.out), (by exact BK113.out), GW112.out, GE112.out, NB106_112.out, NB112_106.out, NB107_112.out, NB112_107.out, NB113_112.out, NB112_113.out, GW113.out, GE113.out, NB106_113.out, NB113_106.out, NB107_113.out, NB113_107.out, (by repeat (first | (with_reducible first | exact HB.out | apply below_alloc | apply pw_below_drewN | apply below_drew1 | refine below_set ?_ GE106.out | refine below_set ?_ GE107.out | refine below_set ?_ GE112.out | refine below_set ?_ GE113.out) | exact HB.out))⟩)
    ·skip
     rintro gb113 w35 ⟨hS_, h0_, h1_, h2_, h3_, h4_, h5_, h6_, h7_, h8_, h9_⟩
     have n0_ : Aside0 (w35.heap[gb106]? = some (.cells #[.int .u64 a0_0, .int .u64 a0_1] 24 (0, 0))) := ⟨h0_⟩
     have n1_ : Aside0 (w35.heap[gb107]? = some (.cells #[.int .u64 0, .int .u64 0] 24 (0, 0))) := ⟨h1_⟩
     have n2_ : Aside0 (w35.heap[gb113]? = some (.cells #[.int .u64 0, .int .u64 0] 24 (0, 0))) := ⟨h2_⟩
     have n3_ : Aside0 (w.heap.size ≤ gb113) := ⟨h3_⟩
     have n4_ : Aside0 (w.heap.size ≤ gb113) := ⟨h4_⟩
     have n5_ : Aside0 (gb106 ≠ gb113) := ⟨h5_⟩
     have n6_ : Aside0 (gb113 ≠ gb106) := ⟨h6_⟩
     have n7_ : Aside0 (gb107 ≠ gb113) := ⟨h7_⟩
     have n8_ : Aside0 (gb113 ≠ gb107) := ⟨h8_⟩
     have n9_ : Aside0 (Below w.heap.size w w35) := ⟨h9_⟩
     clear BK106 BK107 HB h0_ h1_ h2_ h3_ h4_ h5_ h6_ h7_ h8_ h9_
     have BK106 := n0_
     have BK107 := n1_
     have BK113 := n2_
     have GW113 := n3_
     have GE113 := n4_
     have NB106_113 := n5_
     have NB113_106 := n6_
     have NB107_113 := n7_
     have NB113_107 := n8_
     have HB := n9_
     clear n0_ n1_ n2_ n3_ n4_ n5_ n6_ n7_ n8_ n9_
     have hHeld : w35.cell? ⟨gb106, 0, none⟩ = some (.int .u64 a0_0) ∧ w35.cell? ⟨gb106, 1, none⟩ = some (.int .u64 a0_1) := hS_
     refine norm_ (a' := ?_) ?_ ?_
     rotate_left
     ·simp only [putAll, Act.put, List.setIfInBounds_toArray, List.set_cons_zero, List.set_cons_succ]
      rfl
     refine one_ (i := 8) (N := some 6) (wide_Times.ups 12 1023) rfl rfl (one_of HT_.out (by kernel_rfl)) (by decide) (fun K hK => ?_)
     refine box_step ?hg (N := 6) ?hd (cs := #[.int .u64 0, .int .u64 0]) (t := 24) ?hr ?_; (case hd => rfl); (case hg => rfl); (case hr => first | (go_simp; done) | (go_simp; rfl))
     intro gb112 hg w36 hbox hb
     have BK112 := Aside0.mk (hbox)
     have GW112 := Aside0.mk ((by rw [hg]; exact (below_size (by repeat (first | (with_reducible first | exact HB.out | apply below_alloc | apply pw_below_drewN | apply below_drew1 | refine below_set ?_ GE106.out | refine below_set ?_ GE107.out | refine below_set ?_ GE113.out) | exact HB.out))) : w.heap.size ≤ gb112))
     have GE112 := Aside0.mk ((by rw [hg]; exact (below_size (by repeat (first | (with_reducible first | exact HB.out | apply below_alloc | apply pw_below_drewN | apply below_drew1 | refine below_set ?_ GE106.out | refine below_set ?_ GE107.out | refine below_set ?_ GE113.out) | exact HB.out))) : w.heap.size ≤ gb112))
     replace HB := Aside0.mk (below_step (by repeat (first | (with_reducible first | exact HB.out | apply below_alloc | apply pw_below_drewN | apply below_drew1 | refine below_set ?_ GE106.out | refine below_set ?_ GE107.out | refine below_set ?_ GE113.out) | exact HB.out)) hb)
     have NB106_112 := Aside0.mk ((by rw [hg]; exact Nat.ne_of_lt (blk_lt (g := gb106) (o := .cells #[.int .u64 a0_0, .int .u64 a0_1] 24 (0, 0)) BK106.out) : gb106 ≠ gb112))
     have NB112_106 := Aside0.mk ((by rw [hg]; exact Nat.ne_of_gt (blk_lt (g := gb106) (o := .cells #[.int .u64 a0_0, .int .u64 a0_1] 24 (0, 0)) BK106.out) : gb112 ≠ gb106))
     replace BK106 := Aside0.mk (blk_below BK106.out hb)
     have NB107_112 := Aside0.mk ((by rw [hg]; exact Nat.ne_of_lt (blk_lt (g := gb107) (o := .cells #[.int .u64 0, .int .u64 0] 24 (0, 0)) BK107.out) : gb107 ≠ gb112))
     have NB112_107 := Aside0.mk ((by rw [hg]; exact Nat.ne_of_gt (blk_lt (g := gb107) (o := .cells #[.int .u64 0, .int .u64 0] 24 (0, 0)) BK107.out) : gb112 ≠ gb107))
     replace BK107 := Aside0.mk (blk_below BK107.out hb)
     have NB113_112 := Aside0.mk ((by rw [hg]; exact Nat.ne_of_lt (blk_lt (g := gb113) (o := .cells #[.int .u64 0, .int .u64 0] 24 (0, 0)) BK113.out) : gb113 ≠ gb112))
     have NB112_113 := Aside0.mk ((by rw [hg]; exact Nat.ne_of_gt (blk_lt (g := gb113) (o := .cells #[.int .u64 0, .int .u64 0] 24 (0, 0)) BK113.out) : gb112 ≠ gb113))
     replace BK113 := Aside0.mk (blk_below BK113.out hb)
     clear hb hbox hg
     refine hK.out _ _ ⟨(blk_cell BK106.out 0).trans rfl, (blk_cell BK106.out 1).trans rfl⟩ (fun hHeld => ?_)
     clear hK K
     refine norm_ (a' := ?_) ?_ ?_
     rotate_left
     ·show Act.put _ (some 6) _ = _
      simp only [Act.put, List.setIfInBounds_toArray, List.set_cons_zero, List.set_cons_succ, i64_w, i32_w]
      rfl
     exact norm_ (by first | (simp only [putAll, Act.put, List.setIfInBounds_toArray, List.set_cons_zero, List.set_cons_succ]; done) | (simp only [putAll, Act.put, List.setIfInBounds_toArray, List.set_cons_zero, List.set_cons_succ]; rfl)) (hJ3_7_8_9 (gb112, gb113) _ ⟨hHeld, (by exact BK106.out), (by exact BK107.out), (by exact BK112.out), (by exact BK113.out), GW112.out, GE112.out, NB106_112.out, NB112_106.out, NB107_112.out, NB112_107.out, NB113_112.out, NB112_113.out, GW113.out, GE113.out, NB106_113.out, NB113_106.out, NB107_113.out, NB113_107.out, (by repeat (first | (with_reducible first | exact HB.out | apply below_alloc | apply pw_below_drewN | apply below_drew1 | refine below_set ?_ GE106.out | refine below_set ?_ GE107.out | refine below_set ?_ GE113.out | refine below_set ?_ GE112.out) | exact HB.out))⟩)
   ·skip
    rintro gb112 w35 ⟨hS_, h0_, h1_, h2_, h3_, h4_, h5_, h6_, h7_, h8_, h9_⟩
    have n0_ : Aside0 (w35.heap[gb106]? = some (.cells #[.int .u64 a0_0, .int .u64 a0_1] 24 (0, 0))) := ⟨h0_⟩
    have n1_ : Aside0 (w35.heap[gb107]? = some (.cells #[.int .u64 0, .int .u64 0] 24 (0, 0))) := ⟨h1_⟩
    have n2_ : Aside0 (w35.heap[gb112]? = some (.cells #[.int .u64 0, .int .u64 0] 24 (0, 0))) := ⟨h2_⟩
    have n3_ : Aside0 (w.heap.size ≤ gb112) := ⟨h3_⟩
    have n4_ : Aside0 (w.heap.size ≤ gb112) := ⟨h4_⟩
    have n5_ : Aside0 (gb106 ≠ gb112) := ⟨h5_⟩
    have n6_ : Aside0 (gb112 ≠ gb106) := ⟨h6_⟩
    have n7_ : Aside0 (gb107 ≠ gb112) := ⟨h7_⟩
    have n8_ : Aside0 (gb112 ≠ gb107) := ⟨h8_⟩
    have n9_ : Aside0 (Below w.heap.size w w35) := ⟨h9_⟩
    clear BK106 BK107 HB h0_ h1_ h2_ h3_ h4_ h5_ h6_ h7_ h8_ h9_
    have BK106 := n0_
    have BK107 := n1_
    have BK112 := n2_
    have GW112 := n3_
    have GE112 := n4_
    have NB106_112 := n5_
    have NB112_106 := n6_
    have NB107_112 := n7_
    have NB112_107 := n8_
    have HB := n9_
    clear n0_ n1_ n2_ n3_ n4_ n5_ n6_ n7_ n8_ n9_
    have hHeld : w35.cell? ⟨gb106, 0, none⟩ = some (.int .u64 a0_0) ∧ w35.cell? ⟨gb106, 1, none⟩ = some (.int .u64 a0_1) := hS_
    refine norm_ (a' := ?_) ?_ ?_
    rotate_left
    ·simp only [putAll, Act.put, List.setIfInBounds_toArray, List.set_cons_zero, List.set_cons_succ]
     rfl
    refine one_ (i := 9) (N := some 7) (wide_Times.ups 12 1023) rfl rfl (one_of HT_.out (by kernel_rfl)) (by decide) (fun K hK => ?_)
    refine box_step ?hg (N := 7) ?hd (cs := #[.int .u64 0, .int .u64 0]) (t := 24) ?hr ?_; (case hd => rfl); (case hg => rfl); (case hr => first | (go_simp; done) | (go_simp; rfl))
    intro gb113 hg w36 hbox hb
    have BK113 := Aside0.mk (hbox)
    have GW113 := Aside0.mk ((by rw [hg]; exact (below_size (by repeat (first | (with_reducible first | exact HB.out | apply below_alloc | apply pw_below_drewN | apply below_drew1 | refine below_set ?_ GE106.out | refine below_set ?_ GE107.out | refine below_set ?_ GE112.out) | exact HB.out))) : w.heap.size ≤ gb113))
    have GE113 := Aside0.mk ((by rw [hg]; exact (below_size (by repeat (first | (with_reducible first | exact HB.out | apply below_alloc | apply pw_below_drewN | apply below_drew1 | refine below_set ?_ GE106.out | refine below_set ?_ GE107.out | refine below_set ?_ GE112.out) | exact HB.out))) : w.heap.size ≤ gb113))
    replace HB := Aside0.mk (below_step (by repeat (first | (with_reducible first | exact HB.out | apply below_alloc | apply pw_below_drewN | apply below_drew1 | refine below_set ?_ GE106.out | refine below_set ?_ GE107.out | refine below_set ?_ GE112.out) | exact HB.out)) hb)
    have NB106_113 := Aside0.mk ((by rw [hg]; exact Nat.ne_of_lt (blk_lt (g := gb106) (o := .cells #[.int .u64 a0_0, .int .u64 a0_1] 24 (0, 0)) BK106.out) : gb106 ≠ gb113))
    have NB113_106 := Aside0.mk ((by rw [hg]; exact Nat.ne_of_gt (blk_lt (g := gb106) (o := .cells #[.int .u64 a0_0, .int .u64 a0_1] 24 (0, 0)) BK106.out) : gb113 ≠ gb106))
    replace BK106 := Aside0.mk (blk_below BK106.out hb)
    have NB107_113 := Aside0.mk ((by rw [hg]; exact Nat.ne_of_lt (blk_lt (g := gb107) (o := .cells #[.int .u64 0, .int .u64 0] 24 (0, 0)) BK107.out) : gb107 ≠ gb113))
    have NB113_107 := Aside0.mk ((by rw [hg]; exact Nat.ne_of_gt (blk_lt (g := gb107) (o := .cells #[.int .u64 0, .int .u64 0] 24 (0, 0)) BK107.out) : gb113 ≠ gb107))
    replace BK107 := Aside0.mk (blk_below BK107.out hb)
    have NB112_113 := Aside0.mk ((by rw [hg]; exact Nat.ne_of_lt (blk_lt (g := gb112) (o := .cells #[.int .u64 0, .int .u64 0] 24 (0, 0)) BK112.out) : gb112 ≠ gb113))
    have NB113_112 := Aside0.mk ((by rw [hg]; exact Nat.ne_of_gt (blk_lt (g := gb112) (o := .cells #[.int .u64 0, .int .u64 0] 24 (0, 0)) BK112.out) : gb113 ≠ gb112))
    replace BK112 := Aside0.mk (blk_below BK112.out hb)
    clear hb hbox hg
    refine hK.out _ _ ⟨(blk_cell BK106.out 0).trans rfl, (blk_cell BK106.out 1).trans rfl⟩ (fun hHeld => ?_)
    clear hK K
    refine norm_ (a' := ?_) ?_ ?_
    rotate_left
    ·show Act.put _ (some 7) _ = _
     simp only [Act.put, List.setIfInBounds_toArray, List.set_cons_zero, List.set_cons_succ, i64_w, i32_w]
     rfl
    exact norm_ (by first | (simp only [putAll, Act.put, List.setIfInBounds_toArray, List.set_cons_zero, List.set_cons_succ]; done) | (simp only [putAll, Act.put, List.setIfInBounds_toArray, List.set_cons_zero, List.set_cons_succ]; rfl)) (hJ3_7_8_9 (gb112, gb113) _ ⟨hHeld, (by exact BK106.out), (by exact BK107.out), (by exact BK112.out), (by exact BK113.out), GW112.out, GE112.out, NB106_112.out, NB112_106.out, NB107_112.out, NB112_107.out, NB113_112.out, NB112_113.out, GW113.out, GE113.out, NB106_113.out, NB113_106.out, NB107_113.out, NB113_107.out, (by repeat (first | (with_reducible first | exact HB.out | apply below_alloc | apply pw_below_drewN | apply below_drew1 | refine below_set ?_ GE106.out | refine below_set ?_ GE107.out | refine below_set ?_ GE112.out | refine below_set ?_ GE113.out) | exact HB.out))⟩)
  rintro ⟨gb112, gb113⟩ w36 ⟨hS_, h0_, h1_, h2_, h3_, h4_, h5_, h6_, h7_, h8_, h9_, h10_, h11_, h12_, h13_, h14_, h15_, h16_, h17_, h18_⟩
  have n0_ : Aside0 (w36.heap[gb106]? = some (.cells #[.int .u64 a0_0, .int .u64 a0_1] 24 (0, 0))) := ⟨h0_⟩
  have n1_ : Aside0 (w36.heap[gb107]? = some (.cells #[.int .u64 0, .int .u64 0] 24 (0, 0))) := ⟨h1_⟩
  have n2_ : Aside0 (w36.heap[gb112]? = some (.cells #[.int .u64 0, .int .u64 0] 24 (0, 0))) := ⟨h2_⟩
  have n3_ : Aside0 (w36.heap[gb113]? = some (.cells #[.int .u64 0, .int .u64 0] 24 (0, 0))) := ⟨h3_⟩
  have n4_ : Aside0 (w.heap.size ≤ gb112) := ⟨h4_⟩
  have n5_ : Aside0 (w.heap.size ≤ gb112) := ⟨h5_⟩
  have n6_ : Aside0 (gb106 ≠ gb112) := ⟨h6_⟩
  have n7_ : Aside0 (gb112 ≠ gb106) := ⟨h7_⟩
  have n8_ : Aside0 (gb107 ≠ gb112) := ⟨h8_⟩
  have n9_ : Aside0 (gb112 ≠ gb107) := ⟨h9_⟩
  have n10_ : Aside0 (gb113 ≠ gb112) := ⟨h10_⟩
  have n11_ : Aside0 (gb112 ≠ gb113) := ⟨h11_⟩
  have n12_ : Aside0 (w.heap.size ≤ gb113) := ⟨h12_⟩
  have n13_ : Aside0 (w.heap.size ≤ gb113) := ⟨h13_⟩
  have n14_ : Aside0 (gb106 ≠ gb113) := ⟨h14_⟩
  have n15_ : Aside0 (gb113 ≠ gb106) := ⟨h15_⟩
  have n16_ : Aside0 (gb107 ≠ gb113) := ⟨h16_⟩
  have n17_ : Aside0 (gb113 ≠ gb107) := ⟨h17_⟩
  have n18_ : Aside0 (Below w.heap.size w w36) := ⟨h18_⟩
  clear BK106 BK107 HB h0_ h1_ h2_ h3_ h4_ h5_ h6_ h7_ h8_ h9_ h10_ h11_ h12_ h13_ h14_ h15_ h16_ h17_ h18_
  have BK106 := n0_
  have BK107 := n1_
  have BK112 := n2_
  have BK113 := n3_
  have GW112 := n4_
  have GE112 := n5_
  have NB106_112 := n6_
  have NB112_106 := n7_
  have NB107_112 := n8_
  have NB112_107 := n9_
  have NB113_112 := n10_
  have NB112_113 := n11_
  have GW113 := n12_
  have GE113 := n13_
  have NB106_113 := n14_
  have NB113_106 := n15_
  have NB107_113 := n16_
  have NB113_107 := n17_
  have HB := n18_
  clear n0_ n1_ n2_ n3_ n4_ n5_ n6_ n7_ n8_ n9_ n10_ n11_ n12_ n13_ n14_ n15_ n16_ n17_ n18_
  have hHeld : w36.cell? ⟨gb106, 0, none⟩ = some (.int .u64 a0_0) ∧ w36.cell? ⟨gb106, 1, none⟩ = some (.int .u64 a0_1) := hS_
  refine norm_ (a' := ?_) ?_ ?_
  rotate_left
  ·simp only [putAll, Act.put, List.setIfInBounds_toArray, List.set_cons_zero, List.set_cons_succ]
   rfl
  refine one_ (i := 10) (N := none) (wide_Times.ups 12 2047) rfl rfl (one_of HT_.out (by kernel_rfl)) (by decide) (fun K hK => ?_)
  have hs37 : w36.cell? ⟨gb112, 0, none⟩ = some (.int .u64 0) := (blk_cell BK112.out 0).trans rfl
  have hfs37 := blk_frozen BK112.out 0
  have hns37_0 := NB106_112.out
  have hns37_1 := NB107_112.out
  have hns37_3 := NB113_112.out
  have hms37_0 := NB112_106.out
  have hms37_1 := NB112_107.out
  have hms37_3 := NB112_113.out
  have hs38 : w36.cell? ⟨gb112, 1, none⟩ = some (.int .u64 0) := (blk_cell BK112.out 1).trans rfl
  have hfs38 := blk_frozen BK112.out 1
  have hns38_0 := NB106_112.out
  have hns38_1 := NB107_112.out
  have hns38_3 := NB113_112.out
  have hms38_0 := NB112_106.out
  have hms38_1 := NB112_107.out
  have hms38_3 := NB112_113.out
  refine skip_ (w1 := ?_) (by rfl) rfl ?_ ?_
  rotate_left
  ·go_simp
   rfl
  refine hK.out _ _ ⟨((cell_far (p := ⟨gb112, _, none⟩) NB106_112.out _).trans (((cell_far (p := ⟨gb112, _, none⟩) NB106_112.out _).trans (hHeld.1)))), ((cell_far (p := ⟨gb112, _, none⟩) NB106_112.out _).trans (((cell_far (p := ⟨gb112, _, none⟩) NB106_112.out _).trans (hHeld.2))))⟩ (fun hHeld => ?_)
  clear hK K
  refine one_ (i := 11) (N := none) (wide_Times.ups 12 4095) rfl rfl (one_of HT_.out (by kernel_rfl)) (by decide) (fun K hK => ?_)
  have hs39 : w36.cell? ⟨gb113, 0, none⟩ = some (.int .u64 0) := (blk_cell BK113.out 0).trans rfl
  have hfs39 := blk_frozen BK113.out 0
  have hns39_0 := NB106_113.out
  have hns39_1 := NB107_113.out
  have hns39_2 := NB112_113.out
  have hms39_0 := NB113_106.out
  have hms39_1 := NB113_107.out
  have hms39_2 := NB113_112.out
  have hs40 : w36.cell? ⟨gb113, 1, none⟩ = some (.int .u64 0) := (blk_cell BK113.out 1).trans rfl
  have hfs40 := blk_frozen BK113.out 1
  have hns40_0 := NB106_113.out
  have hns40_1 := NB107_113.out
  have hns40_2 := NB112_113.out
  have hms40_0 := NB113_106.out
  have hms40_1 := NB113_107.out
  have hms40_2 := NB113_112.out
  refine skip_ (w1 := ?_) (by rfl) rfl ?_ ?_
  rotate_left
  ·go_simp
   rfl
  refine hK.out _ _ ⟨((cell_far (p := ⟨gb113, _, none⟩) NB106_113.out _).trans (((cell_far (p := ⟨gb113, _, none⟩) NB106_113.out _).trans (hHeld.1)))), ((cell_far (p := ⟨gb113, _, none⟩) NB106_113.out _).trans (((cell_far (p := ⟨gb113, _, none⟩) NB106_113.out _).trans (hHeld.2))))⟩ (fun hHeld => ?_)
  clear hK K
  refine done_ (done_of HT_.out (by kernel_rfl)) ?_
  have hnb41 := NB113_106.out
  have hnc41 := NB106_113.out
  have hnb42 := NB113_107.out
  have hnc42 := NB107_113.out
  have hnb43 := NB113_112.out
  have hnc43 := NB112_113.out
  have hcz44_0 : w36.cell? ⟨gb113, 0, none⟩ = some (.int .u64 0) := (blk_cell BK113.out 0).trans rfl
  have hcz44_1 : w36.cell? ⟨gb113, 1, none⟩ = some (.int .u64 0) := (blk_cell BK113.out 1).trans rfl
  have hfz44_0 := blk_frozen BK113.out 0
  have hfz44_1 := blk_frozen BK113.out 1
  have hnb45 := NB107_106.out
  have hnc45 := NB106_107.out
  have hnb46 := NB107_112.out
  have hnc46 := NB112_107.out
  have hcz47_0 : w36.cell? ⟨gb107, 0, none⟩ = some (.int .u64 0) := (blk_cell BK107.out 0).trans rfl
  have hcz47_1 : w36.cell? ⟨gb107, 1, none⟩ = some (.int .u64 0) := (blk_cell BK107.out 1).trans rfl
  have hfz47_0 := blk_frozen BK107.out 0
  have hfz47_1 := blk_frozen BK107.out 1
  try go_wp2
  refine bodyPost_ret (results_ct rfl _ _ gb107 24 #[.int .u64 0, .int .u64 0] (0, 0) _ rfl (by refine blk_put (cs := #[.int .u64 0, .int .u64 0]) ?_ 1 _ rfl; refine blk_put (cs := #[.int .u64 0, .int .u64 0]) ?_ 0 _ rfl; refine blk_far ?_ NB107_113.out _; refine blk_far ?_ NB107_113.out _; refine blk_far ?_ NB107_112.out _; refine blk_far ?_ NB107_112.out _; exact BK107.out) Try.underlying24 rfl (by kernel_rfl)) rfl ?_
  exact ⟨by rfl, by repeat (first | (with_reducible first | exact HB.out | apply below_alloc | apply pw_below_drewN | apply below_drew1 | refine below_set ?_ GE106.out | refine below_set ?_ GE107.out | refine below_set ?_ GE112.out | refine below_set ?_ GE113.out) | exact HB.out)⟩

end Go.Proofs.Ytdgflpefjinleaa.X
