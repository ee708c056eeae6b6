-- cut by prune.py, a program of this session
import Derived.Test.YteikafepdkijdaaPLevelTableX0
import Derived.Test.YteikafepdkijdaaPLevelTableXBig
import Derived.Test.YteikafepdkijdaaPLevelTableXQuot
import Derived.Test.YteikafepdkijdaaPLevelTableXRefThree
namespace Go.Proofs.Yteikafepdkijdaa.X
open Go.RowKit Go.Proofs.YteikafepdkijdaaW.PrintWords Go.Proofs.YteikafepdkijdaaW.PrintLast Go.Proofs.YteikafepdkijdaaW.PrintMore
attribute [local go_sem] max2_int min2_int max_two min_two
set_option linter.unusedVariables false
set_option linter.unusedSimpArgs false

def demurrageref03_Part.upsl : Nat → Nat → List Bool
 | 0, _ => []
 | n + 1, m => (m % 2 == 1) :: demurrageref03_Part.upsl n (m / 2)
def demurrageref03_Part.ups (n m : Nat) : Array Bool := ⟨demurrageref03_Part.upsl n m⟩
mutual
def demurrageref03_Part.j0 : Nat → Int → Int → Int → Bool → Int → Int → Option (Int × Int)
 | 0, _, _, _, _, _, _ => none
 | k + 1, x0, x1, x3, x22, x325000, x325001 => if x22 = true then (some (0, 1)) else ((demurrageref01_From.f k x0).bind fun t325 => ((demurrageref01_From.f k x1).bind fun t328 => ((demurrageref01_Prod.f k t325 t328).bind fun t331 => ((demurrageref01_From.f k x325000).bind fun t334 => ((demurrageref01_Prod.f k t331 t334).bind fun t337 => ((demurrageref01_From.f k x3).bind fun t341 => ((demurrageref01_From.f k x325001).bind fun t344 => ((demurrageref01_Prod.f k t341 t344).bind fun t347 => ((demurrageref01_FromU.f k 4294967296).bind fun t351 => ((demurrageref01_Limit.f k).bind fun t355 => ((demurrageref01_Cmp.f k t337 t355).bind fun t358 => (if t358 ≥ 0 then (demurrageref03_Part.j1 k true t337 t347) else ((demurrageref01_Prod.f k t351 t351).bind fun t359 => ((demurrageref01_Cmp.f k t347 t359).bind fun t362 => (demurrageref03_Part.j1 k (decide (t362 ≥ 0)) t337 t347)))))))))))))))
def demurrageref03_Part.j1 : Nat → Bool → List Int → List Int → Option (Int × Int)
 | 0, _, _, _ => none
 | k + 1, x50, x341000, x351000 => if x50 = true then (some (0, 6)) else ((demurrageref03_Near.f k x341000 x351000).bind fun t363 => ((demurrageref03_told.f k t363).bind fun bt366 => (some (bt366.1, bt366.2))))
end
def demurrageref03_Part.f (k : Nat) (a0 : Int) (a1 : Int) (a2_0 : Int) (a2_1 : Int) (a3 : Int) : Option (Int × Int) := if a0 < 0 then (demurrageref03_Part.j0 k a0 a1 a3 true a2_0 a2_1) else (if a1 < 0 then (demurrageref03_Part.j0 k a0 a1 a3 true a2_0 a2_1) else (demurrageref03_Part.j0 k a0 a1 a3 (decide (a3 < 1)) a2_0 a2_1))
def demurrageref03_Part.T3 : Bool × List (List Nat × List Nat) := (true, [([], []), ([0], [0]), ([], []), ([2, 1], [2]), ([1, 3, 3], [1, 3]), ([], []), ([5], [5]), ([6, 4], [6]), ([4, 7, 7], [4, 7]), ([], []), ([9, 8, 8, 0, 1, 2, 3, 4, 5, 6, 7, 8, 9], [8, 9])])
def demurrageref03_Part.B3 : List Nat := [0, 1, 0, 7, 15, 0, 32, 127, 255, 0, 1023]
theorem demurrageref03_Part.tab3 : rtab .any (opsOf Try.f41 3) = demurrageref03_Part.T3 := by kernel_rfl
theorem demurrageref03_Part.bits3 : waitsOk demurrageref03_Part.T3.2 demurrageref03_Part.B3 = true := by kernel_rfl
def demurrageref03_Part.T4 : Bool × List (List Nat × List Nat) := (true, [([], []), ([0], [0]), ([], []), ([2], [2]), ([3, 1], [3]), ([1, 4, 4], [1, 4]), ([], []), ([6, 5, 5, 0, 1, 2, 3, 4, 5, 6], [5, 6])])
def demurrageref03_Part.B4 : List Nat := [0, 1, 0, 4, 15, 31, 0, 127]
theorem demurrageref03_Part.tab4 : rtab .any (opsOf Try.f41 4) = demurrageref03_Part.T4 := by kernel_rfl
theorem demurrageref03_Part.bits4 : waitsOk demurrageref03_Part.T4.2 demurrageref03_Part.B4 = true := by kernel_rfl
def demurrageref03_Part.T6 : Bool × List (List Nat × List Nat) := (true, [([], []), ([], []), ([0, 1, 1], [0, 1]), ([2], [2]), ([3, 2], [3]), ([4], [4]), ([4], [4]), ([4], [4]), ([6, 7, 4, 4], [4, 6, 7]), ([5, 8, 8, 4], [4, 5, 8]), ([9, 4], [4, 9]), ([4, 10], [4, 10])])
def demurrageref03_Part.B6 : List Nat := [0, 0, 3, 7, 15, 31, 31, 31, 223, 511, 1023, 2047]
theorem demurrageref03_Part.tab6 : rtab .any (opsOf Try.f41 6) = demurrageref03_Part.T6 := by kernel_rfl
theorem demurrageref03_Part.bits6 : waitsOk demurrageref03_Part.T6.2 demurrageref03_Part.B6 = true := by kernel_rfl
set_option maxHeartbeats 8000000 in
set_option maxRecDepth 100000 in
theorem demurrageref03_Part.calls (k : Nat) (a0 : Int) (a1 : Int) (a2_0 : Int) (a2_1 : Int) (a3 : Int) (r1 : Int) (r2 : Int) (w : World) (h : demurrageref03_Part.f k a0 a1 a2_0 a2_1 a3 = some (r1, r2)) :
  Calls Try.prog 41 #[.int .i64 a0, .int .i64 a1, .agg #[.int .i64 a2_0, .int .i64 a2_1], .int .i64 a3] w fun e w' => e = .returned (.tuple #[.int .i64 r1, .int .i64 r2]) ∧ Below w.heap.size w w' := by
 have hu56 := Try.underlying56
 have hu98 := Try.underlying98
 have HB := aA_ (Below.refl w.heap.size w)
 have H : (if a0 < 0 then (demurrageref03_Part.j0 k a0 a1 a3 true a2_0 a2_1) else (if a1 < 0 then (demurrageref03_Part.j0 k a0 a1 a3 true a2_0 a2_1) else (demurrageref03_Part.j0 k a0 a1 a3 (decide (a3 < 1)) a2_0 a2_1))) = some (r1, r2) := h
 clear h
 have HC5 := aA_ H
 clear H
 go_enter Try.func41, Try.ntmps41
 go_upto_region 1 with (first | ((with_reducible refine gate_dst (N := 6) rfl ?_); refine box_event rfl (N := 6) rfl (cs := #[.int .i64 a2_0, .int .i64 a2_1]) (t := 56) ?hr ?_; (case hr => go_simp <;> rfl); intro gb324 hg w6 hbox hb; have BK324 := aA_ (hbox); have GW324 := gW_ hg (by repeat (with_reducible first | exact HB.out | apply bA_ | apply bN_ | apply bD_)); have GE324 := GW324; replace HB := bB_ (by repeat (with_reducible first | exact HB.out | apply bA_ | apply bN_ | apply bD_)) hb; clear hb hbox hg))
 (try simp only [Act.put, sT_, sZ_, sS_])
 go_cut [22] (fun v22 wc => ∃ (kq : Nat) (x22_4 : Bool), v22 = .bool x22_4 ∧ Aside0 (demurrageref03_Part.j0 kq a0 a1 a3 x22_4 a2_0 a2_1 = some (r1, r2)) ∧ Aside0 (kq ≤ k) ∧ Aside0 (wc.heap[gb324]? = some (.cells #[.int .i64 a2_0, .int .i64 a2_1] 56 (0, 0))) ∧ Aside0 (Below w.heap.size w wc))
 case first =>
  have H := HC5.out
  clear HC5
  by_cases c7 : a0 < 0
  ·rw [if_pos c7] at H
   have c7b0 : decide (a0 < 0) = true := decide_eq_true c7
   clear c7
   (first | rw [c7b0] | (simp only [i64_w, i32_w]; rw [c7b0]) | rw [c7b1] | skip)
   have H' := aA_ H
   clear H
   go_wp2
   go_meet
   case rel => exact ⟨_, _, (by first | rfl | simp | simp [*]), H', ⟨by first | omega | exact Nat.le_refl _⟩, ⟨by exact BK324.out⟩, ⟨by repeat (with_reducible first | exact HB.out | apply bA_ | apply bN_ | apply bD_ | refine bS_ ?_ GE324.out)⟩⟩
  ·rw [if_neg c7] at H
   have c7b0 : decide (a0 < 0) = false := decide_eq_false c7
   clear c7
   (first | rw [c7b0] | (simp only [i64_w, i32_w]; rw [c7b0]) | rw [c7b1] | skip)
   by_cases c8 : a1 < 0
   ·rw [if_pos c8] at H
    have c8b0 : decide (a1 < 0) = true := decide_eq_true c8
    clear c8
    have H' := aA_ H
    clear H
    go_wp2
    go_meet
    case rel => exact ⟨_, _, (by first | rfl | simp | simp [*]), H', ⟨by first | omega | exact Nat.le_refl _⟩, ⟨by exact BK324.out⟩, ⟨by repeat (with_reducible first | exact HB.out | apply bA_ | apply bN_ | apply bD_ | refine bS_ ?_ GE324.out)⟩⟩
   ·rw [if_neg c8] at H
    have c8b0 : decide (a1 < 0) = false := decide_eq_false c8
    clear c8
    have H' := aA_ H
    clear H
    go_wp2
    go_meet
    case rel => exact ⟨_, (decide (a3 < 1)), (by first | rfl | simp | simp [*]), H', ⟨by first | omega | exact Nat.le_refl _⟩, ⟨by exact BK324.out⟩, ⟨by repeat (with_reducible first | exact HB.out | apply bA_ | apply bN_ | apply bD_ | refine bS_ ?_ GE324.out)⟩⟩
 case rest =>
  clear HC5
  try clear p2
  try clear c4
  try clear c7
  try clear c7b0
  try clear c7b1
  try clear c8
  try clear c8b0
  obtain ⟨kq, x22_4, rfl, HA, HJ4, BK324, HB⟩ := hcut
  cases kq with
  | zero => exact absurd HA.out (by simp [demurrageref03_Part.j0])
  | succ kj4 =>
   have H := HA.out
   clear HA
   simp only [demurrageref03_Part.j0] at H
   by_cases c9 : x22_4 = true
   ·subst c9
    rw [if_pos rfl] at H
    simp only [Option.some.injEq, Prod.mk.injEq] at H
    obtain ⟨rfl, rfl⟩ := H
    go_wp2
    go_ret2
    exact ⟨by rfl, by repeat (with_reducible first | exact HB.out | apply bA_ | apply bN_ | apply bD_ | refine bS_ ?_ GE324.out)⟩
   ·replace c9 := Bool.eq_false_iff.mpr c9
    subst c9
    rw [if_neg (show ¬ (false = true) by decide)] at H
    replace H := bI_ H
    obtain ⟨t325, A100, H⟩ := H
    (try dsimp only at H)
    have A10 := aA_ A100
    clear A100
    replace H := bI_ H
    obtain ⟨t328, A110, H⟩ := H
    (try dsimp only at H)
    have A11 := aA_ A110
    clear A110
    replace H := bI_ H
    obtain ⟨t331, A120, H⟩ := H
    (try dsimp only at H)
    have A12 := aA_ A120
    clear A120
    replace H := bI_ H
    obtain ⟨t334, A130, H⟩ := H
    (try dsimp only at H)
    have A13 := aA_ A130
    clear A130
    replace H := bI_ H
    obtain ⟨t337, A140, H⟩ := H
    (try dsimp only at H)
    have A14 := aA_ A140
    clear A140
    replace H := bI_ H
    obtain ⟨t341, A150, H⟩ := H
    (try dsimp only at H)
    have A15 := aA_ A150
    clear A150
    replace H := bI_ H
    obtain ⟨t344, A160, H⟩ := H
    (try dsimp only at H)
    have A16 := aA_ A160
    clear A160
    replace H := bI_ H
    obtain ⟨t347, A170, H⟩ := H
    (try dsimp only at H)
    have A17 := aA_ A170
    clear A170
    replace H := bI_ H
    obtain ⟨t351, A180, H⟩ := H
    (try dsimp only at H)
    have A18 := aA_ A180
    clear A180
    have HC19 := aA_ H
    clear H
    try go_wp2
    replace BK324 := aA_ (blk_drew BK324.out)
    replace HB := aA_ (below_drew1 HB.out)
    refine start_ (n := 11) (S := fun w' => w'.cell? ⟨gb324, 0, none⟩ = some (.int .i64 a2_0) ∧ w'.cell? ⟨gb324, 1, none⟩ = some (.int .i64 a2_1)) (ds := []) (demurrageref03_Part.ups 11 0) (by kernel_rfl) rfl rfl ⟨(blk_cell BK324.out 0).trans rfl, (blk_cell BK324.out 1).trans rfl⟩ (fun hHeld => ?_); refine with_tabW demurrageref03_Part.tab3 demurrageref03_Part.bits3 (fun HT_ HW_ => ?_)
    generalize wc.drew = w20 at BK324 HB hHeld ⊢
    refine pure_ (i := 0) (N := some 23) (v := ?_) (a' := ?_) (demurrageref03_Part.ups 11 1) rfl rfl (any_of HT_.out (by kernel_rfl)) (fun _ _ _ h => h) (Or.inl ⟨by rfl, ?_⟩) ?_ ?_
    rotate_left
    ·intro w'
     go_simp
     with_reducible rfl
    rotate_left
    ·simp only [Act.put, sT_, sZ_, sS_, i64_w, i32_w]
     rfl
    refine pure_ (i := 2) (N := some 25) (v := ?_) (a' := ?_) (demurrageref03_Part.ups 11 5) rfl rfl (any_of HT_.out (by kernel_rfl)) (fun _ _ _ h => h) (Or.inl ⟨by rfl, ?_⟩) ?_ ?_
    rotate_left
    ·intro w'
     go_simp
     with_reducible rfl
    rotate_left
    ·simp only [Act.put, sT_, sZ_, sS_, i64_w, i32_w]
     rfl
    refine pure_ (i := 5) (N := some 28) (v := ?_) (a' := ?_) (demurrageref03_Part.ups 11 37) rfl rfl (any_of HT_.out (by kernel_rfl)) (fun _ _ _ h => h) (Or.inl ⟨by rfl, ?_⟩) ?_ ?_
    rotate_left
    ·intro w'
     go_simp
     with_reducible rfl
    rotate_left
    ·simp only [Act.put, sT_, sZ_, sS_, i64_w, i32_w]
     rfl
    refine take_ (i := 6) (N := some 29) (v := ?_) (a' := ?_) (demurrageref03_Part.ups 11 101) rfl rfl (take_ofW HT_.out HW_.out (by kernel_rfl)) (fun _ _ _ h => h) (Or.inl ⟨by rfl, ?_⟩) hHeld ?_ ?_
    rotate_left
    ·rintro w' ⟨s0, s1⟩
     go_simp
     with_reducible rfl
    rotate_left
    ·simp only [Act.put, sT_, sZ_, sS_, i64_w, i32_w]
     rfl
    refine join_ (σ := Value × Value × Value × Value × Value × Nat) 1 (demurrageref03_Part.ups 11 1023) (fun s_ => [(24, .agg #[s_.1]), (26, .agg #[s_.2.1]), (27, .agg #[s_.2.2.1]), (30, .agg #[s_.2.2.2.1]), (31, .agg #[s_.2.2.2.2.1]), (10, .pointer (some ⟨s_.2.2.2.2.2, 0, none⟩))]) (fun s_ w' => (w'.cell? ⟨gb324, 0, none⟩ = some (.int .i64 a2_0) ∧ w'.cell? ⟨gb324, 1, none⟩ = some (.int .i64 a2_1)) ∧ (Kd.R (Kd.int .i64) 3 w' w.heap.size (fun k_ => some k_ ≠ (s_.2.1 : Value).ownBlock ∧ some k_ ≠ (s_.2.2.1 : Value).ownBlock ∧ some k_ ≠ (s_.2.2.2.1 : Value).ownBlock ∧ some k_ ≠ (s_.2.2.2.2.1 : Value).ownBlock) s_.1 t325) ∧ (Kd.R (Kd.int .i64) 3 w' w.heap.size (fun k_ => some k_ ≠ (s_.1 : Value).ownBlock ∧ some k_ ≠ (s_.2.2.1 : Value).ownBlock ∧ some k_ ≠ (s_.2.2.2.1 : Value).ownBlock ∧ some k_ ≠ (s_.2.2.2.2.1 : Value).ownBlock) s_.2.1 t328) ∧ (Kd.R (Kd.int .i64) 3 w' w.heap.size (fun k_ => some k_ ≠ (s_.1 : Value).ownBlock ∧ some k_ ≠ (s_.2.1 : Value).ownBlock ∧ some k_ ≠ (s_.2.2.2.1 : Value).ownBlock ∧ some k_ ≠ (s_.2.2.2.2.1 : Value).ownBlock) s_.2.2.1 t331) ∧ (Kd.R (Kd.int .i64) 3 w' w.heap.size (fun k_ => some k_ ≠ (s_.1 : Value).ownBlock ∧ some k_ ≠ (s_.2.1 : Value).ownBlock ∧ some k_ ≠ (s_.2.2.1 : Value).ownBlock ∧ some k_ ≠ (s_.2.2.2.2.1 : Value).ownBlock) s_.2.2.2.1 t334) ∧ (Kd.R (Kd.int .i64) 3 w' w.heap.size (fun k_ => some k_ ≠ (s_.1 : Value).ownBlock ∧ some k_ ≠ (s_.2.1 : Value).ownBlock ∧ some k_ ≠ (s_.2.2.1 : Value).ownBlock ∧ some k_ ≠ (s_.2.2.2.1 : Value).ownBlock) s_.2.2.2.2.1 t337) ∧ (w'.heap[gb324]? = some (.cells #[.int .i64 a2_0, .int .i64 a2_1] 56 (0, 0))) ∧ (w'.heap[s_.2.2.2.2.2]? = some (.cells #[.slice none 0 0] 98 (0, 0))) ∧ (w.heap.size ≤ s_.2.2.2.2.2) ∧ (w.heap.size ≤ s_.2.2.2.2.2) ∧ (gb324 ≠ s_.2.2.2.2.2) ∧ (s_.2.2.2.2.2 ≠ gb324) ∧ (Below w.heap.size w w')) ?_ ?_
    rotate_left
    ·intro hJ1_3_4_7_8_9
     refine join_ (σ := Value × Value × Value × Value × Value) 2 (demurrageref03_Part.ups 11 511) (fun s_ => [(24, .agg #[s_.1]), (26, .agg #[s_.2.1]), (27, .agg #[s_.2.2.1]), (30, .agg #[s_.2.2.2.1]), (31, .agg #[s_.2.2.2.2])]) (fun s_ w' => (w'.cell? ⟨gb324, 0, none⟩ = some (.int .i64 a2_0) ∧ w'.cell? ⟨gb324, 1, none⟩ = some (.int .i64 a2_1)) ∧ (Kd.R (Kd.int .i64) 3 w' w.heap.size (fun k_ => some k_ ≠ (s_.2.1 : Value).ownBlock ∧ some k_ ≠ (s_.2.2.1 : Value).ownBlock ∧ some k_ ≠ (s_.2.2.2.1 : Value).ownBlock ∧ some k_ ≠ (s_.2.2.2.2 : Value).ownBlock) s_.1 t325) ∧ (Kd.R (Kd.int .i64) 3 w' w.heap.size (fun k_ => some k_ ≠ (s_.1 : Value).ownBlock ∧ some k_ ≠ (s_.2.2.1 : Value).ownBlock ∧ some k_ ≠ (s_.2.2.2.1 : Value).ownBlock ∧ some k_ ≠ (s_.2.2.2.2 : Value).ownBlock) s_.2.1 t328) ∧ (Kd.R (Kd.int .i64) 3 w' w.heap.size (fun k_ => some k_ ≠ (s_.1 : Value).ownBlock ∧ some k_ ≠ (s_.2.1 : Value).ownBlock ∧ some k_ ≠ (s_.2.2.2.1 : Value).ownBlock ∧ some k_ ≠ (s_.2.2.2.2 : Value).ownBlock) s_.2.2.1 t331) ∧ (Kd.R (Kd.int .i64) 3 w' w.heap.size (fun k_ => some k_ ≠ (s_.1 : Value).ownBlock ∧ some k_ ≠ (s_.2.1 : Value).ownBlock ∧ some k_ ≠ (s_.2.2.1 : Value).ownBlock ∧ some k_ ≠ (s_.2.2.2.2 : Value).ownBlock) s_.2.2.2.1 t334) ∧ (Kd.R (Kd.int .i64) 3 w' w.heap.size (fun k_ => some k_ ≠ (s_.1 : Value).ownBlock ∧ some k_ ≠ (s_.2.1 : Value).ownBlock ∧ some k_ ≠ (s_.2.2.1 : Value).ownBlock ∧ some k_ ≠ (s_.2.2.2.1 : Value).ownBlock) s_.2.2.2.2 t337) ∧ (w'.heap[gb324]? = some (.cells #[.int .i64 a2_0, .int .i64 a2_1] 56 (0, 0))) ∧ (Below w.heap.size w w')) ?_ ?_
     rotate_left
     ·intro hJ1_3_4_7_8
      refine join_ (σ := Value × Value × Value × Value × Nat) 2 (demurrageref03_Part.ups 11 767) (fun s_ => [(24, .agg #[s_.1]), (26, .agg #[s_.2.1]), (27, .agg #[s_.2.2.1]), (30, .agg #[s_.2.2.2.1]), (10, .pointer (some ⟨s_.2.2.2.2, 0, none⟩))]) (fun s_ w' => (w'.cell? ⟨gb324, 0, none⟩ = some (.int .i64 a2_0) ∧ w'.cell? ⟨gb324, 1, none⟩ = some (.int .i64 a2_1)) ∧ (Kd.R (Kd.int .i64) 3 w' w.heap.size (fun k_ => some k_ ≠ (s_.2.1 : Value).ownBlock ∧ some k_ ≠ (s_.2.2.1 : Value).ownBlock ∧ some k_ ≠ (s_.2.2.2.1 : Value).ownBlock) s_.1 t325) ∧ (Kd.R (Kd.int .i64) 3 w' w.heap.size (fun k_ => some k_ ≠ (s_.1 : Value).ownBlock ∧ some k_ ≠ (s_.2.2.1 : Value).ownBlock ∧ some k_ ≠ (s_.2.2.2.1 : Value).ownBlock) s_.2.1 t328) ∧ (Kd.R (Kd.int .i64) 3 w' w.heap.size (fun k_ => some k_ ≠ (s_.1 : Value).ownBlock ∧ some k_ ≠ (s_.2.1 : Value).ownBlock ∧ some k_ ≠ (s_.2.2.2.1 : Value).ownBlock) s_.2.2.1 t331) ∧ (Kd.R (Kd.int .i64) 3 w' w.heap.size (fun k_ => some k_ ≠ (s_.1 : Value).ownBlock ∧ some k_ ≠ (s_.2.1 : Value).ownBlock ∧ some k_ ≠ (s_.2.2.1 : Value).ownBlock) s_.2.2.2.1 t334) ∧ (w'.heap[gb324]? = some (.cells #[.int .i64 a2_0, .int .i64 a2_1] 56 (0, 0))) ∧ (w'.heap[s_.2.2.2.2]? = some (.cells #[.slice none 0 0] 98 (0, 0))) ∧ (w.heap.size ≤ s_.2.2.2.2) ∧ (w.heap.size ≤ s_.2.2.2.2) ∧ (gb324 ≠ s_.2.2.2.2) ∧ (s_.2.2.2.2 ≠ gb324) ∧ (Below w.heap.size w w')) ?_ ?_
      rotate_left
      ·intro hJ1_3_4_7_9
       refine join_ (σ := Value × Value × Value × Value) 3 (demurrageref03_Part.ups 11 255) (fun s_ => [(24, .agg #[s_.1]), (26, .agg #[s_.2.1]), (27, .agg #[s_.2.2.1]), (30, .agg #[s_.2.2.2])]) (fun s_ w' => (w'.cell? ⟨gb324, 0, none⟩ = some (.int .i64 a2_0) ∧ w'.cell? ⟨gb324, 1, none⟩ = some (.int .i64 a2_1)) ∧ (Kd.R (Kd.int .i64) 3 w' w.heap.size (fun k_ => some k_ ≠ (s_.2.1 : Value).ownBlock ∧ some k_ ≠ (s_.2.2.1 : Value).ownBlock ∧ some k_ ≠ (s_.2.2.2 : Value).ownBlock) s_.1 t325) ∧ (Kd.R (Kd.int .i64) 3 w' w.heap.size (fun k_ => some k_ ≠ (s_.1 : Value).ownBlock ∧ some k_ ≠ (s_.2.2.1 : Value).ownBlock ∧ some k_ ≠ (s_.2.2.2 : Value).ownBlock) s_.2.1 t328) ∧ (Kd.R (Kd.int .i64) 3 w' w.heap.size (fun k_ => some k_ ≠ (s_.1 : Value).ownBlock ∧ some k_ ≠ (s_.2.1 : Value).ownBlock ∧ some k_ ≠ (s_.2.2.2 : Value).ownBlock) s_.2.2.1 t331) ∧ (Kd.R (Kd.int .i64) 3 w' w.heap.size (fun k_ => some k_ ≠ (s_.1 : Value).ownBlock ∧ some k_ ≠ (s_.2.1 : Value).ownBlock ∧ some k_ ≠ (s_.2.2.1 : Value).ownBlock) s_.2.2.2 t334) ∧ (w'.heap[gb324]? = some (.cells #[.int .i64 a2_0, .int .i64 a2_1] 56 (0, 0))) ∧ (Below w.heap.size w w')) ?_ ?_
       rotate_left
       ·intro hJ1_3_4_7
        refine join_ (σ := Value × Value × Value × Nat) 3 (demurrageref03_Part.ups 11 639) (fun s_ => [(24, .agg #[s_.1]), (26, .agg #[s_.2.1]), (27, .agg #[s_.2.2.1]), (10, .pointer (some ⟨s_.2.2.2, 0, none⟩))]) (fun s_ w' => (w'.cell? ⟨gb324, 0, none⟩ = some (.int .i64 a2_0) ∧ w'.cell? ⟨gb324, 1, none⟩ = some (.int .i64 a2_1)) ∧ (Kd.R (Kd.int .i64) 3 w' w.heap.size (fun k_ => some k_ ≠ (s_.2.1 : Value).ownBlock ∧ some k_ ≠ (s_.2.2.1 : Value).ownBlock) s_.1 t325) ∧ (Kd.R (Kd.int .i64) 3 w' w.heap.size (fun k_ => some k_ ≠ (s_.1 : Value).ownBlock ∧ some k_ ≠ (s_.2.2.1 : Value).ownBlock) s_.2.1 t328) ∧ (Kd.R (Kd.int .i64) 3 w' w.heap.size (fun k_ => some k_ ≠ (s_.1 : Value).ownBlock ∧ some k_ ≠ (s_.2.1 : Value).ownBlock) s_.2.2.1 t331) ∧ (w'.heap[gb324]? = some (.cells #[.int .i64 a2_0, .int .i64 a2_1] 56 (0, 0))) ∧ (w'.heap[s_.2.2.2]? = some (.cells #[.slice none 0 0] 98 (0, 0))) ∧ (w.heap.size ≤ s_.2.2.2) ∧ (w.heap.size ≤ s_.2.2.2) ∧ (gb324 ≠ s_.2.2.2) ∧ (s_.2.2.2 ≠ gb324) ∧ (Below w.heap.size w w')) ?_ ?_
        rotate_left
        ·intro hJ1_3_4_9
         refine join_ (σ := Value × Value × Value) 4 (demurrageref03_Part.ups 11 127) (fun s_ => [(24, .agg #[s_.1]), (26, .agg #[s_.2.1]), (27, .agg #[s_.2.2])]) (fun s_ w' => (w'.cell? ⟨gb324, 0, none⟩ = some (.int .i64 a2_0) ∧ w'.cell? ⟨gb324, 1, none⟩ = some (.int .i64 a2_1)) ∧ (Kd.R (Kd.int .i64) 3 w' w.heap.size (fun k_ => some k_ ≠ (s_.2.1 : Value).ownBlock ∧ some k_ ≠ (s_.2.2 : Value).ownBlock) s_.1 t325) ∧ (Kd.R (Kd.int .i64) 3 w' w.heap.size (fun k_ => some k_ ≠ (s_.1 : Value).ownBlock ∧ some k_ ≠ (s_.2.2 : Value).ownBlock) s_.2.1 t328) ∧ (Kd.R (Kd.int .i64) 3 w' w.heap.size (fun k_ => some k_ ≠ (s_.1 : Value).ownBlock ∧ some k_ ≠ (s_.2.1 : Value).ownBlock) s_.2.2 t331) ∧ (w'.heap[gb324]? = some (.cells #[.int .i64 a2_0, .int .i64 a2_1] 56 (0, 0))) ∧ (Below w.heap.size w w')) ?_ ?_
         rotate_left
         ·intro hJ1_3_4
          refine join_ (σ := Value × Value × Nat) 4 (demurrageref03_Part.ups 11 623) (fun s_ => [(24, .agg #[s_.1]), (26, .agg #[s_.2.1]), (10, .pointer (some ⟨s_.2.2, 0, none⟩))]) (fun s_ w' => (w'.cell? ⟨gb324, 0, none⟩ = some (.int .i64 a2_0) ∧ w'.cell? ⟨gb324, 1, none⟩ = some (.int .i64 a2_1)) ∧ (Kd.R (Kd.int .i64) 3 w' w.heap.size (fun k_ => some k_ ≠ (s_.2.1 : Value).ownBlock) s_.1 t325) ∧ (Kd.R (Kd.int .i64) 3 w' w.heap.size (fun k_ => some k_ ≠ (s_.1 : Value).ownBlock) s_.2.1 t328) ∧ (w'.heap[gb324]? = some (.cells #[.int .i64 a2_0, .int .i64 a2_1] 56 (0, 0))) ∧ (w'.heap[s_.2.2]? = some (.cells #[.slice none 0 0] 98 (0, 0))) ∧ (w.heap.size ≤ s_.2.2) ∧ (w.heap.size ≤ s_.2.2) ∧ (gb324 ≠ s_.2.2) ∧ (s_.2.2 ≠ gb324) ∧ (Below w.heap.size w w')) ?_ ?_
          rotate_left
          ·intro hJ1_3_9
           refine join_ (σ := Value × Value) 5 (demurrageref03_Part.ups 11 111) (fun s_ => [(24, .agg #[s_.1]), (26, .agg #[s_.2])]) (fun s_ w' => (w'.cell? ⟨gb324, 0, none⟩ = some (.int .i64 a2_0) ∧ w'.cell? ⟨gb324, 1, none⟩ = some (.int .i64 a2_1)) ∧ (Kd.R (Kd.int .i64) 3 w' w.heap.size (fun k_ => some k_ ≠ (s_.2 : Value).ownBlock) s_.1 t325) ∧ (Kd.R (Kd.int .i64) 3 w' w.heap.size (fun k_ => some k_ ≠ (s_.1 : Value).ownBlock) s_.2 t328) ∧ (w'.heap[gb324]? = some (.cells #[.int .i64 a2_0, .int .i64 a2_1] 56 (0, 0))) ∧ (Below w.heap.size w w')) ?_ ?_
           rotate_left
           ·intro hJ1_3
            refine join_ (σ := Value × Nat) 5 (demurrageref03_Part.ups 11 615) (fun s_ => [(24, .agg #[s_.1]), (10, .pointer (some ⟨s_.2, 0, none⟩))]) (fun s_ w' => (w'.cell? ⟨gb324, 0, none⟩ = some (.int .i64 a2_0) ∧ w'.cell? ⟨gb324, 1, none⟩ = some (.int .i64 a2_1)) ∧ (Kd.R (Kd.int .i64) 3 w' w.heap.size (fun _ => True) s_.1 t325) ∧ (w'.heap[gb324]? = some (.cells #[.int .i64 a2_0, .int .i64 a2_1] 56 (0, 0))) ∧ (w'.heap[s_.2]? = some (.cells #[.slice none 0 0] 98 (0, 0))) ∧ (w.heap.size ≤ s_.2) ∧ (w.heap.size ≤ s_.2) ∧ (gb324 ≠ s_.2) ∧ (s_.2 ≠ gb324) ∧ (Below w.heap.size w w')) ?_ ?_
            rotate_left
            ·intro hJ1_9
             refine join_ (σ := Value) 6 (demurrageref03_Part.ups 11 103) (fun s_ => [(24, .agg #[s_])]) (fun s_ w' => (w'.cell? ⟨gb324, 0, none⟩ = some (.int .i64 a2_0) ∧ w'.cell? ⟨gb324, 1, none⟩ = some (.int .i64 a2_1)) ∧ (Kd.R (Kd.int .i64) 3 w' w.heap.size (fun _ => True) s_ t325) ∧ (w'.heap[gb324]? = some (.cells #[.int .i64 a2_0, .int .i64 a2_1] 56 (0, 0))) ∧ (Below w.heap.size w w')) ?_ ?_
             rotate_left
             ·intro hJ1
              refine join_ (σ := Nat) 6 (demurrageref03_Part.ups 11 613) (fun s_ => [(10, .pointer (some ⟨s_, 0, none⟩))]) (fun s_ w' => (w'.cell? ⟨gb324, 0, none⟩ = some (.int .i64 a2_0) ∧ w'.cell? ⟨gb324, 1, none⟩ = some (.int .i64 a2_1)) ∧ (w'.heap[gb324]? = some (.cells #[.int .i64 a2_0, .int .i64 a2_1] 56 (0, 0))) ∧ (w'.heap[s_]? = some (.cells #[.slice none 0 0] 98 (0, 0))) ∧ (w.heap.size ≤ s_) ∧ (w.heap.size ≤ s_) ∧ (gb324 ≠ s_) ∧ (s_ ≠ gb324) ∧ (Below w.heap.size w w')) ?_ ?_
              rotate_left
              ·intro hJ9
               refine two_ (i := 1) (j := 9) (Ni := some 24) (Nj := some 10) (demurrageref03_Part.ups 11 103) (demurrageref03_Part.ups 11 613) rfl rfl rfl rfl (two_of HT_.out (by kernel_rfl)) (by decide) (by decide) (fun K hK => ?_) (fun K hK => ?_)
               ·skip
                refine goes_ Try.func49 (by kernel_rfl) rfl #[.int .i64 a0] (by rfl) rfl rfl (by (try simp only [mT_, mC_, mN_]); first | done | rfl) ?_
                with_reducible refine (demurrageref01_From.calls kj4 a0 t325 _ A10.out).mono ?_
                rintro e w21 ⟨v326, rfl, ho0, hb⟩
                refine ⟨_, rfl, ?_⟩
                have HO327 := aA_ (Kd.R_lower ho0 (below_size (by repeat (with_reducible first | exact HB.out | apply bA_ | apply bN_ | apply bD_ | refine bS_ ?_ GE324.out))))
                replace BK324 := bK_ BK324 hb
                replace HB := bB_ (by repeat (with_reducible first | exact HB.out | apply bA_ | apply bN_ | apply bD_ | refine bS_ ?_ GE324.out)) hb
                (try clear hb)
                (try clear hb2)
                (try clear hk)
                (try clear hi)
                (try clear ho0)
                refine hK.out _ _ ⟨(blk_cell BK324.out 0).trans rfl, (blk_cell BK324.out 1).trans rfl⟩ (fun hHeld => ?_)
                clear hK K
                refine norm_ (by show Act.put _ (some 24) _ = _; simp only [Act.put, sT_, sZ_, sS_, i64_w, i32_w] <;> rfl) ?_
                exact norm_ (by simp only [putAll, Act.put, sT_, sZ_, sS_] <;> rfl) (hJ1 (_) _ ⟨hHeld, (by (with_reducible repeat (first | apply Kd.R_alloc | apply Kd.R_drewN | apply Kd.R_drew)); exact HO327.out), BK324.out, (by repeat (with_reducible first | exact HB.out | apply bA_ | apply bN_ | apply bD_ | refine bS_ ?_ GE324.out))⟩)
               ·skip
                refine box_step rfl (N := 10) rfl (cs := #[.slice none 0 0]) (t := 98) ?hr ?_; (case hr => go_simp <;> rfl)
                intro gb340 hg w21 hbox hb
                have BK340 := aA_ (hbox)
                have GW340 := gW_ hg (by repeat (with_reducible first | exact HB.out | apply bA_ | apply bN_ | apply bD_ | refine bS_ ?_ GE324.out))
                have GE340 := GW340
                replace HB := bB_ (by repeat (with_reducible first | exact HB.out | apply bA_ | apply bN_ | apply bD_ | refine bS_ ?_ GE324.out)) hb
                have NB324_340 := nE_ hg BK324
                have NB340_324 := aA_ NB324_340.out.symm
                replace BK324 := bK_ BK324 hb
                clear hb hbox hg
                refine hK.out _ _ ⟨(blk_cell BK324.out 0).trans rfl, (blk_cell BK324.out 1).trans rfl⟩ (fun hHeld => ?_)
                clear hK K
                refine norm_ (by show Act.put _ (some 10) _ = _; simp only [Act.put, sT_, sZ_, sS_, i64_w, i32_w] <;> rfl) ?_
                exact norm_ (by simp only [putAll, Act.put, sT_, sZ_, sS_] <;> rfl) (hJ9 (gb340) _ ⟨hHeld, BK324.out, BK340.out, GW340.out, GE340.out, NB324_340.out, NB340_324.out, (by repeat (with_reducible first | exact HB.out | apply bA_ | apply bN_ | apply bD_ | refine bS_ ?_ GE324.out | refine bS_ ?_ GE340.out))⟩)
              ·skip
               rintro gb340 w22 ⟨hS_, h0_, h1_, h2_, h3_, h4_, h5_, h6_⟩
               (try dsimp only at h0_ h1_ h2_ h3_ h4_ h5_ h6_)
               clear BK324 HB
               have BK324 := aA_ h0_
               have BK340 := aA_ h1_
               have GW340 := aA_ h2_
               have GE340 := aA_ h3_
               have NB324_340 := aA_ h4_
               have NB340_324 := aA_ h5_
               have HB := aA_ h6_
               clear h0_ h1_ h2_ h3_ h4_ h5_ h6_
               have hHeld : w22.cell? ⟨gb324, 0, none⟩ = some (.int .i64 a2_0) ∧ w22.cell? ⟨gb324, 1, none⟩ = some (.int .i64 a2_1) := hS_
               refine norm_ (a' := ?_) ?_ ?_
               rotate_left
               ·simp only [putAll, Act.put, sT_, sZ_, sS_]
                rfl
               refine one_ (i := 1) (N := some 24) (demurrageref03_Part.ups 11 615) rfl rfl (one_of HT_.out (by kernel_rfl)) (by decide) (fun K hK => ?_)
               refine goes_ Try.func49 (by kernel_rfl) rfl #[.int .i64 a0] (by rfl) rfl rfl (by (try simp only [mT_, mC_, mN_]); first | done | rfl) ?_
               with_reducible refine (demurrageref01_From.calls kj4 a0 t325 _ A10.out).mono ?_
               rintro e w23 ⟨v326, rfl, ho0, hb⟩
               refine ⟨_, rfl, ?_⟩
               have HO327 := aA_ (Kd.R_lower ho0 (below_size (by repeat (with_reducible first | exact HB.out | apply bA_ | apply bN_ | apply bD_ | refine bS_ ?_ GE324.out | refine bS_ ?_ GE340.out))))
               replace BK324 := bK_ BK324 hb
               replace BK340 := bK_ BK340 hb
               replace HB := bB_ (by repeat (with_reducible first | exact HB.out | apply bA_ | apply bN_ | apply bD_ | refine bS_ ?_ GE324.out | refine bS_ ?_ GE340.out)) hb
               (try clear hb)
               (try clear hb2)
               (try clear hk)
               (try clear hi)
               (try clear ho0)
               refine hK.out _ _ ⟨(blk_cell BK324.out 0).trans rfl, (blk_cell BK324.out 1).trans rfl⟩ (fun hHeld => ?_)
               clear hK K
               refine norm_ (by show Act.put _ (some 24) _ = _; simp only [Act.put, sT_, sZ_, sS_, i64_w, i32_w] <;> rfl) ?_
               exact norm_ (by simp only [putAll, Act.put, sT_, sZ_, sS_] <;> rfl) (hJ1_9 (_, gb340) _ ⟨hHeld, (by (with_reducible repeat (first | apply Kd.R_alloc | apply Kd.R_drewN | apply Kd.R_drew)); exact HO327.out), BK324.out, BK340.out, GW340.out, GE340.out, NB324_340.out, NB340_324.out, (by repeat (with_reducible first | exact HB.out | apply bA_ | apply bN_ | apply bD_ | refine bS_ ?_ GE324.out | refine bS_ ?_ GE340.out))⟩)
             ·skip
              rintro v326 w22 ⟨hS_, h0_, h1_, h2_⟩
              (try dsimp only at h0_ h1_ h2_)
              clear BK324 HB
              have HO327 := aA_ h0_
              have BK324 := aA_ h1_
              have HB := aA_ h2_
              clear h0_ h1_ h2_
              have hHeld : w22.cell? ⟨gb324, 0, none⟩ = some (.int .i64 a2_0) ∧ w22.cell? ⟨gb324, 1, none⟩ = some (.int .i64 a2_1) := hS_
              refine norm_ (a' := ?_) ?_ ?_
              rotate_left
              ·simp only [putAll, Act.put, sT_, sZ_, sS_]
               rfl
              refine two_ (i := 3) (j := 9) (Ni := some 26) (Nj := some 10) (demurrageref03_Part.ups 11 111) (demurrageref03_Part.ups 11 615) rfl rfl rfl rfl (two_of HT_.out (by kernel_rfl)) (by decide) (by decide) (fun K hK => ?_) (fun K hK => ?_)
              ·skip
               refine goes_ Try.func49 (by kernel_rfl) rfl #[.int .i64 a1] (by rfl) rfl rfl (by (try simp only [mT_, mC_, mN_]); first | done | rfl) ?_
               with_reducible refine (demurrageref01_From.calls kj4 a1 t328 _ A11.out).mono ?_
               rintro e w23 ⟨v329, rfl, ho0, hb⟩
               refine ⟨_, rfl, ?_⟩
               have HO330 := aA_ (Kd.R_lower (Kd.R_new' ho0 (Kd.R_lt HO327.out)) (below_size (by repeat (with_reducible first | exact HB.out | apply bA_ | apply bN_ | apply bD_ | refine bS_ ?_ GE324.out))))
               replace HO327 := aA_ (Kd.R_elder' HO327.out (Kd.R_base ho0) hb)
               replace BK324 := bK_ BK324 hb
               replace HB := bB_ (by repeat (with_reducible first | exact HB.out | apply bA_ | apply bN_ | apply bD_ | refine bS_ ?_ GE324.out)) hb
               (try clear hb)
               (try clear hb2)
               (try clear hk)
               (try clear hi)
               (try clear ho0)
               refine hK.out _ _ ⟨(blk_cell BK324.out 0).trans rfl, (blk_cell BK324.out 1).trans rfl⟩ (fun hHeld => ?_)
               clear hK K
               refine norm_ (by show Act.put _ (some 26) _ = _; simp only [Act.put, sT_, sZ_, sS_, i64_w, i32_w] <;> rfl) ?_
               exact norm_ (by simp only [putAll, Act.put, sT_, sZ_, sS_] <;> rfl) (hJ1_3 (_, _) _ ⟨hHeld, (by (with_reducible repeat (first | apply Kd.R_alloc | apply Kd.R_drewN | apply Kd.R_drew)); exact Kd.R_mono HO327.out (fun _ hk => hk.2)), (by (with_reducible repeat (first | apply Kd.R_alloc | apply Kd.R_drewN | apply Kd.R_drew)); exact Kd.R_mono HO330.out (fun _ hk => hk.2)), BK324.out, (by repeat (with_reducible first | exact HB.out | apply bA_ | apply bN_ | apply bD_ | refine bS_ ?_ GE324.out))⟩)
              ·skip
               refine box_step rfl (N := 10) rfl (cs := #[.slice none 0 0]) (t := 98) ?hr ?_; (case hr => go_simp <;> rfl)
               intro gb340 hg w23 hbox hb
               replace HO327 := aA_ (Kd.R_below HO327.out hb)
               have BK340 := aA_ (hbox)
               have GW340 := gW_ hg (by repeat (with_reducible first | exact HB.out | apply bA_ | apply bN_ | apply bD_ | refine bS_ ?_ GE324.out))
               have GE340 := GW340
               replace HB := bB_ (by repeat (with_reducible first | exact HB.out | apply bA_ | apply bN_ | apply bD_ | refine bS_ ?_ GE324.out)) hb
               have NB324_340 := nE_ hg BK324
               have NB340_324 := aA_ NB324_340.out.symm
               replace BK324 := bK_ BK324 hb
               clear hb hbox hg
               refine hK.out _ _ ⟨(blk_cell BK324.out 0).trans rfl, (blk_cell BK324.out 1).trans rfl⟩ (fun hHeld => ?_)
               clear hK K
               refine norm_ (by show Act.put _ (some 10) _ = _; simp only [Act.put, sT_, sZ_, sS_, i64_w, i32_w] <;> rfl) ?_
               exact norm_ (by simp only [putAll, Act.put, sT_, sZ_, sS_] <;> rfl) (hJ1_9 (_, gb340) _ ⟨hHeld, (by (with_reducible repeat (first | apply Kd.R_alloc | apply Kd.R_drewN | apply Kd.R_drew)); exact HO327.out), BK324.out, BK340.out, GW340.out, GE340.out, NB324_340.out, NB340_324.out, (by repeat (with_reducible first | exact HB.out | apply bA_ | apply bN_ | apply bD_ | refine bS_ ?_ GE324.out | refine bS_ ?_ GE340.out))⟩)
            ·skip
             rintro ⟨v326, gb340⟩ w23 ⟨hS_, h0_, h1_, h2_, h3_, h4_, h5_, h6_, h7_⟩
             (try dsimp only at h0_ h1_ h2_ h3_ h4_ h5_ h6_ h7_)
             clear BK324 HB
             have HO327 := aA_ h0_
             have BK324 := aA_ h1_
             have BK340 := aA_ h2_
             have GW340 := aA_ h3_
             have GE340 := aA_ h4_
             have NB324_340 := aA_ h5_
             have NB340_324 := aA_ h6_
             have HB := aA_ h7_
             clear h0_ h1_ h2_ h3_ h4_ h5_ h6_ h7_
             have hHeld : w23.cell? ⟨gb324, 0, none⟩ = some (.int .i64 a2_0) ∧ w23.cell? ⟨gb324, 1, none⟩ = some (.int .i64 a2_1) := hS_
             refine norm_ (a' := ?_) ?_ ?_
             rotate_left
             ·simp only [putAll, Act.put, sT_, sZ_, sS_]
              rfl
             refine one_ (i := 3) (N := some 26) (demurrageref03_Part.ups 11 623) rfl rfl (one_of HT_.out (by kernel_rfl)) (by decide) (fun K hK => ?_)
             refine goes_ Try.func49 (by kernel_rfl) rfl #[.int .i64 a1] (by rfl) rfl rfl (by (try simp only [mT_, mC_, mN_]); first | done | rfl) ?_
             with_reducible refine (demurrageref01_From.calls kj4 a1 t328 _ A11.out).mono ?_
             rintro e w24 ⟨v329, rfl, ho0, hb⟩
             refine ⟨_, rfl, ?_⟩
             have HO330 := aA_ (Kd.R_lower (Kd.R_new' ho0 (Kd.R_lt HO327.out)) (below_size (by repeat (with_reducible first | exact HB.out | apply bA_ | apply bN_ | apply bD_ | refine bS_ ?_ GE324.out | refine bS_ ?_ GE340.out))))
             replace HO327 := aA_ (Kd.R_elder' HO327.out (Kd.R_base ho0) hb)
             replace BK324 := bK_ BK324 hb
             replace BK340 := bK_ BK340 hb
             replace HB := bB_ (by repeat (with_reducible first | exact HB.out | apply bA_ | apply bN_ | apply bD_ | refine bS_ ?_ GE324.out | refine bS_ ?_ GE340.out)) hb
             (try clear hb)
             (try clear hb2)
             (try clear hk)
             (try clear hi)
             (try clear ho0)
             refine hK.out _ _ ⟨(blk_cell BK324.out 0).trans rfl, (blk_cell BK324.out 1).trans rfl⟩ (fun hHeld => ?_)
             clear hK K
             refine norm_ (by show Act.put _ (some 26) _ = _; simp only [Act.put, sT_, sZ_, sS_, i64_w, i32_w] <;> rfl) ?_
             exact norm_ (by simp only [putAll, Act.put, sT_, sZ_, sS_] <;> rfl) (hJ1_3_9 (_, _, gb340) _ ⟨hHeld, (by (with_reducible repeat (first | apply Kd.R_alloc | apply Kd.R_drewN | apply Kd.R_drew)); exact Kd.R_mono HO327.out (fun _ hk => hk.2)), (by (with_reducible repeat (first | apply Kd.R_alloc | apply Kd.R_drewN | apply Kd.R_drew)); exact Kd.R_mono HO330.out (fun _ hk => hk.2)), BK324.out, BK340.out, GW340.out, GE340.out, NB324_340.out, NB340_324.out, (by repeat (with_reducible first | exact HB.out | apply bA_ | apply bN_ | apply bD_ | refine bS_ ?_ GE324.out | refine bS_ ?_ GE340.out))⟩)
           ·skip
            rintro ⟨v326, v329⟩ w23 ⟨hS_, h0_, h1_, h2_, h3_⟩
            (try dsimp only at h0_ h1_ h2_ h3_)
            clear BK324 HB
            have HO327 := aA_ h0_
            have HO330 := aA_ h1_
            have BK324 := aA_ h2_
            have HB := aA_ h3_
            clear h0_ h1_ h2_ h3_
            have hHeld : w23.cell? ⟨gb324, 0, none⟩ = some (.int .i64 a2_0) ∧ w23.cell? ⟨gb324, 1, none⟩ = some (.int .i64 a2_1) := hS_
            obtain ⟨Ao24, co24, eo24⟩ := Kd.R_slice HO327.out
            (first | subst eo24 | (injection eo24 with f1_ f2_ f3_; have f4_ := f1_.symm; have f5_ := f3_.symm; clear f1_ f2_ f3_; subst f4_; subst f5_))
            obtain ⟨Ao25, co25, eo25⟩ := Kd.R_slice HO330.out
            (first | subst eo25 | (injection eo25 with f1_ f2_ f3_; have f4_ := f1_.symm; have f5_ := f3_.symm; clear f1_ f2_ f3_; subst f4_; subst f5_))
            refine norm_ (a' := ?_) ?_ ?_
            rotate_left
            ·simp only [putAll, Act.put, sT_, sZ_, sS_]
             rfl
            refine two_ (i := 4) (j := 9) (Ni := some 27) (Nj := some 10) (demurrageref03_Part.ups 11 127) (demurrageref03_Part.ups 11 623) rfl rfl rfl rfl (two_of HT_.out (by kernel_rfl)) (by decide) (by decide) (fun K hK => ?_) (fun K hK => ?_)
            ·skip
             refine goes_ Try.func59 (by kernel_rfl) rfl #[.agg #[.slice Ao24 t325.length co24], .agg #[.slice Ao25 t328.length co25]] (by rfl) rfl rfl (by (try simp only [mT_, mC_, mN_]); first | done | rfl) ?_
             with_reducible refine (demurrageref01_Prod.calls kj4 _ _ t325 _ _ t328 t331 _ ?side1 ?side2 ?side3 ?side4 A12.out).mono ?_
             (case side1 => repeat (first | exact (Kd.R_reads' HO327.out).2.2 | (with_reducible first | refine Kd.C_alloc ?_ _ | refine Kd.C_drewN ?_ _ | refine Kd.C_drew ?_)))
             (case side2 => exact (Kd.R_reads' HO327.out).2.1)
             (case side3 => repeat (first | exact (Kd.R_reads' HO330.out).2.2 | (with_reducible first | refine Kd.C_alloc ?_ _ | refine Kd.C_drewN ?_ _ | refine Kd.C_drew ?_)))
             (case side4 => exact (Kd.R_reads' HO330.out).2.1)
             rintro e w26 ⟨v332, rfl, ho0, hb⟩
             refine ⟨_, rfl, ?_⟩
             have HO333 := aA_ (Kd.R_lower (Kd.R_new' (Kd.R_new' ho0 (Kd.R_lt HO327.out)) (Kd.R_lt HO330.out)) (below_size (by repeat (with_reducible first | exact HB.out | apply bA_ | apply bN_ | apply bD_ | refine bS_ ?_ GE324.out))))
             replace HO327 := aA_ (Kd.R_elder' HO327.out (Kd.R_base ho0) hb)
             replace HO330 := aA_ (Kd.R_elder' HO330.out (Kd.R_base ho0) hb)
             replace BK324 := bK_ BK324 hb
             replace HB := bB_ (by repeat (with_reducible first | exact HB.out | apply bA_ | apply bN_ | apply bD_ | refine bS_ ?_ GE324.out)) hb
             (try clear hb)
             (try clear hb2)
             (try clear hk)
             (try clear hi)
             (try clear ho0)
             refine hK.out _ _ ⟨(blk_cell BK324.out 0).trans rfl, (blk_cell BK324.out 1).trans rfl⟩ (fun hHeld => ?_)
             clear hK K
             refine norm_ (by show Act.put _ (some 27) _ = _; simp only [Act.put, sT_, sZ_, sS_, i64_w, i32_w] <;> rfl) ?_
             exact norm_ (by simp only [putAll, Act.put, sT_, sZ_, sS_] <;> rfl) (hJ1_3_4 (.slice Ao24 t325.length co24, .slice Ao25 t328.length co25, _) _ ⟨hHeld, (by (with_reducible repeat (first | apply Kd.R_alloc | apply Kd.R_drewN | apply Kd.R_drew)); exact HO327.out), (by (with_reducible repeat (first | apply Kd.R_alloc | apply Kd.R_drewN | apply Kd.R_drew)); exact HO330.out), (by (with_reducible repeat (first | apply Kd.R_alloc | apply Kd.R_drewN | apply Kd.R_drew)); exact Kd.R_mono HO333.out (fun _ hk => (And.intro (hk.1.2) (hk.2)))), BK324.out, (by repeat (with_reducible first | exact HB.out | apply bA_ | apply bN_ | apply bD_ | refine bS_ ?_ GE324.out))⟩)
            ·skip
             refine box_step rfl (N := 10) rfl (cs := #[.slice none 0 0]) (t := 98) ?hr ?_; (case hr => go_simp <;> rfl)
             intro gb340 hg w24 hbox hb
             replace HO327 := aA_ (Kd.R_below HO327.out hb)
             replace HO330 := aA_ (Kd.R_below HO330.out hb)
             have BK340 := aA_ (hbox)
             have GW340 := gW_ hg (by repeat (with_reducible first | exact HB.out | apply bA_ | apply bN_ | apply bD_ | refine bS_ ?_ GE324.out))
             have GE340 := GW340
             replace HB := bB_ (by repeat (with_reducible first | exact HB.out | apply bA_ | apply bN_ | apply bD_ | refine bS_ ?_ GE324.out)) hb
             have NB324_340 := nE_ hg BK324
             have NB340_324 := aA_ NB324_340.out.symm
             replace BK324 := bK_ BK324 hb
             clear hb hbox hg
             refine hK.out _ _ ⟨(blk_cell BK324.out 0).trans rfl, (blk_cell BK324.out 1).trans rfl⟩ (fun hHeld => ?_)
             clear hK K
             refine norm_ (by show Act.put _ (some 10) _ = _; simp only [Act.put, sT_, sZ_, sS_, i64_w, i32_w] <;> rfl) ?_
             exact norm_ (by simp only [putAll, Act.put, sT_, sZ_, sS_] <;> rfl) (hJ1_3_9 (_, _, gb340) _ ⟨hHeld, (by (with_reducible repeat (first | apply Kd.R_alloc | apply Kd.R_drewN | apply Kd.R_drew)); exact HO327.out), (by (with_reducible repeat (first | apply Kd.R_alloc | apply Kd.R_drewN | apply Kd.R_drew)); exact HO330.out), BK324.out, BK340.out, GW340.out, GE340.out, NB324_340.out, NB340_324.out, (by repeat (with_reducible first | exact HB.out | apply bA_ | apply bN_ | apply bD_ | refine bS_ ?_ GE324.out | refine bS_ ?_ GE340.out))⟩)
          ·skip
           rintro ⟨v326, v329, gb340⟩ w24 ⟨hS_, h0_, h1_, h2_, h3_, h4_, h5_, h6_, h7_, h8_⟩
           (try dsimp only at h0_ h1_ h2_ h3_ h4_ h5_ h6_ h7_ h8_)
           clear BK324 HB
           have HO327 := aA_ h0_
           have HO330 := aA_ h1_
           have BK324 := aA_ h2_
           have BK340 := aA_ h3_
           have GW340 := aA_ h4_
           have GE340 := aA_ h5_
           have NB324_340 := aA_ h6_
           have NB340_324 := aA_ h7_
           have HB := aA_ h8_
           clear h0_ h1_ h2_ h3_ h4_ h5_ h6_ h7_ h8_
           have hHeld : w24.cell? ⟨gb324, 0, none⟩ = some (.int .i64 a2_0) ∧ w24.cell? ⟨gb324, 1, none⟩ = some (.int .i64 a2_1) := hS_
           obtain ⟨Ao25, co25, eo25⟩ := Kd.R_slice HO327.out
           (first | subst eo25 | (injection eo25 with f1_ f2_ f3_; have f4_ := f1_.symm; have f5_ := f3_.symm; clear f1_ f2_ f3_; subst f4_; subst f5_))
           obtain ⟨Ao26, co26, eo26⟩ := Kd.R_slice HO330.out
           (first | subst eo26 | (injection eo26 with f1_ f2_ f3_; have f4_ := f1_.symm; have f5_ := f3_.symm; clear f1_ f2_ f3_; subst f4_; subst f5_))
           refine norm_ (a' := ?_) ?_ ?_
           rotate_left
           ·simp only [putAll, Act.put, sT_, sZ_, sS_]
            rfl
           refine one_ (i := 4) (N := some 27) (demurrageref03_Part.ups 11 639) rfl rfl (one_of HT_.out (by kernel_rfl)) (by decide) (fun K hK => ?_)
           refine goes_ Try.func59 (by kernel_rfl) rfl #[.agg #[.slice Ao25 t325.length co25], .agg #[.slice Ao26 t328.length co26]] (by rfl) rfl rfl (by (try simp only [mT_, mC_, mN_]); first | done | rfl) ?_
           with_reducible refine (demurrageref01_Prod.calls kj4 _ _ t325 _ _ t328 t331 _ ?side1 ?side2 ?side3 ?side4 A12.out).mono ?_
           (case side1 => repeat (first | exact (Kd.R_reads' HO327.out).2.2 | (with_reducible first | refine Kd.C_alloc ?_ _ | refine Kd.C_drewN ?_ _ | refine Kd.C_drew ?_)))
           (case side2 => exact (Kd.R_reads' HO327.out).2.1)
           (case side3 => repeat (first | exact (Kd.R_reads' HO330.out).2.2 | (with_reducible first | refine Kd.C_alloc ?_ _ | refine Kd.C_drewN ?_ _ | refine Kd.C_drew ?_)))
           (case side4 => exact (Kd.R_reads' HO330.out).2.1)
           rintro e w27 ⟨v332, rfl, ho0, hb⟩
           refine ⟨_, rfl, ?_⟩
           have HO333 := aA_ (Kd.R_lower (Kd.R_new' (Kd.R_new' ho0 (Kd.R_lt HO327.out)) (Kd.R_lt HO330.out)) (below_size (by repeat (with_reducible first | exact HB.out | apply bA_ | apply bN_ | apply bD_ | refine bS_ ?_ GE324.out | refine bS_ ?_ GE340.out))))
           replace HO327 := aA_ (Kd.R_elder' HO327.out (Kd.R_base ho0) hb)
           replace HO330 := aA_ (Kd.R_elder' HO330.out (Kd.R_base ho0) hb)
           replace BK324 := bK_ BK324 hb
           replace BK340 := bK_ BK340 hb
           replace HB := bB_ (by repeat (with_reducible first | exact HB.out | apply bA_ | apply bN_ | apply bD_ | refine bS_ ?_ GE324.out | refine bS_ ?_ GE340.out)) hb
           (try clear hb)
           (try clear hb2)
           (try clear hk)
           (try clear hi)
           (try clear ho0)
           refine hK.out _ _ ⟨(blk_cell BK324.out 0).trans rfl, (blk_cell BK324.out 1).trans rfl⟩ (fun hHeld => ?_)
           clear hK K
           refine norm_ (by show Act.put _ (some 27) _ = _; simp only [Act.put, sT_, sZ_, sS_, i64_w, i32_w] <;> rfl) ?_
           exact norm_ (by simp only [putAll, Act.put, sT_, sZ_, sS_] <;> rfl) (hJ1_3_4_9 (.slice Ao25 t325.length co25, .slice Ao26 t328.length co26, _, gb340) _ ⟨hHeld, (by (with_reducible repeat (first | apply Kd.R_alloc | apply Kd.R_drewN | apply Kd.R_drew)); exact HO327.out), (by (with_reducible repeat (first | apply Kd.R_alloc | apply Kd.R_drewN | apply Kd.R_drew)); exact HO330.out), (by (with_reducible repeat (first | apply Kd.R_alloc | apply Kd.R_drewN | apply Kd.R_drew)); exact Kd.R_mono HO333.out (fun _ hk => (And.intro (hk.1.2) (hk.2)))), BK324.out, BK340.out, GW340.out, GE340.out, NB324_340.out, NB340_324.out, (by repeat (with_reducible first | exact HB.out | apply bA_ | apply bN_ | apply bD_ | refine bS_ ?_ GE324.out | refine bS_ ?_ GE340.out))⟩)
         ·skip
          rintro ⟨v326, v329, v332⟩ w26 ⟨hS_, h0_, h1_, h2_, h3_, h4_⟩
          (try dsimp only at h0_ h1_ h2_ h3_ h4_)
          clear BK324 HB
          have HO327 := aA_ h0_
          have HO330 := aA_ h1_
          have HO333 := aA_ h2_
          have BK324 := aA_ h3_
          have HB := aA_ h4_
          clear h0_ h1_ h2_ h3_ h4_
          have hHeld : w26.cell? ⟨gb324, 0, none⟩ = some (.int .i64 a2_0) ∧ w26.cell? ⟨gb324, 1, none⟩ = some (.int .i64 a2_1) := hS_
          refine norm_ (a' := ?_) ?_ ?_
          rotate_left
          ·simp only [putAll, Act.put, sT_, sZ_, sS_]
           rfl
          refine two_ (i := 7) (j := 9) (Ni := some 30) (Nj := some 10) (demurrageref03_Part.ups 11 255) (demurrageref03_Part.ups 11 639) rfl rfl rfl rfl (two_of HT_.out (by kernel_rfl)) (by decide) (by decide) (fun K hK => ?_) (fun K hK => ?_)
          ·skip
           refine goes_ Try.func49 (by kernel_rfl) rfl #[.int .i64 a2_0] (by rfl) rfl rfl (by (try simp only [mT_, mC_, mN_]); first | done | rfl) ?_
           with_reducible refine (demurrageref01_From.calls kj4 a2_0 t334 _ A13.out).mono ?_
           rintro e w27 ⟨v335, rfl, ho0, hb⟩
           refine ⟨_, rfl, ?_⟩
           have HO336 := aA_ (Kd.R_lower (Kd.R_new' (Kd.R_new' (Kd.R_new' ho0 (Kd.R_lt HO327.out)) (Kd.R_lt HO330.out)) (Kd.R_lt HO333.out)) (below_size (by repeat (with_reducible first | exact HB.out | apply bA_ | apply bN_ | apply bD_ | refine bS_ ?_ GE324.out))))
           replace HO327 := aA_ (Kd.R_elder' HO327.out (Kd.R_base ho0) hb)
           replace HO330 := aA_ (Kd.R_elder' HO330.out (Kd.R_base ho0) hb)
           replace HO333 := aA_ (Kd.R_elder' HO333.out (Kd.R_base ho0) hb)
           replace BK324 := bK_ BK324 hb
           replace HB := bB_ (by repeat (with_reducible first | exact HB.out | apply bA_ | apply bN_ | apply bD_ | refine bS_ ?_ GE324.out)) hb
           (try clear hb)
           (try clear hb2)
           (try clear hk)
           (try clear hi)
           (try clear ho0)
           refine hK.out _ _ ⟨(blk_cell BK324.out 0).trans rfl, (blk_cell BK324.out 1).trans rfl⟩ (fun hHeld => ?_)
           clear hK K
           refine norm_ (by show Act.put _ (some 30) _ = _; simp only [Act.put, sT_, sZ_, sS_, i64_w, i32_w] <;> rfl) ?_
           exact norm_ (by simp only [putAll, Act.put, sT_, sZ_, sS_] <;> rfl) (hJ1_3_4_7 (_, _, _, _) _ ⟨hHeld, (by (with_reducible repeat (first | apply Kd.R_alloc | apply Kd.R_drewN | apply Kd.R_drew)); exact Kd.R_mono HO327.out (fun _ hk => (And.intro (hk.1.1) ((And.intro (hk.1.2) (hk.2)))))), (by (with_reducible repeat (first | apply Kd.R_alloc | apply Kd.R_drewN | apply Kd.R_drew)); exact Kd.R_mono HO330.out (fun _ hk => (And.intro (hk.1.1) ((And.intro (hk.1.2) (hk.2)))))), (by (with_reducible repeat (first | apply Kd.R_alloc | apply Kd.R_drewN | apply Kd.R_drew)); exact Kd.R_mono HO333.out (fun _ hk => (And.intro (hk.1.1) ((And.intro (hk.1.2) (hk.2)))))), (by (with_reducible repeat (first | apply Kd.R_alloc | apply Kd.R_drewN | apply Kd.R_drew)); exact Kd.R_mono HO336.out (fun _ hk => (And.intro (hk.1.1.2) ((And.intro (hk.1.2) (hk.2)))))), BK324.out, (by repeat (with_reducible first | exact HB.out | apply bA_ | apply bN_ | apply bD_ | refine bS_ ?_ GE324.out))⟩)
          ·skip
           refine box_step rfl (N := 10) rfl (cs := #[.slice none 0 0]) (t := 98) ?hr ?_; (case hr => go_simp <;> rfl)
           intro gb340 hg w27 hbox hb
           replace HO327 := aA_ (Kd.R_below HO327.out hb)
           replace HO330 := aA_ (Kd.R_below HO330.out hb)
           replace HO333 := aA_ (Kd.R_below HO333.out hb)
           have BK340 := aA_ (hbox)
           have GW340 := gW_ hg (by repeat (with_reducible first | exact HB.out | apply bA_ | apply bN_ | apply bD_ | refine bS_ ?_ GE324.out))
           have GE340 := GW340
           replace HB := bB_ (by repeat (with_reducible first | exact HB.out | apply bA_ | apply bN_ | apply bD_ | refine bS_ ?_ GE324.out)) hb
           have NB324_340 := nE_ hg BK324
           have NB340_324 := aA_ NB324_340.out.symm
           replace BK324 := bK_ BK324 hb
           clear hb hbox hg
           refine hK.out _ _ ⟨(blk_cell BK324.out 0).trans rfl, (blk_cell BK324.out 1).trans rfl⟩ (fun hHeld => ?_)
           clear hK K
           refine norm_ (by show Act.put _ (some 10) _ = _; simp only [Act.put, sT_, sZ_, sS_, i64_w, i32_w] <;> rfl) ?_
           exact norm_ (by simp only [putAll, Act.put, sT_, sZ_, sS_] <;> rfl) (hJ1_3_4_9 (_, _, _, gb340) _ ⟨hHeld, (by (with_reducible repeat (first | apply Kd.R_alloc | apply Kd.R_drewN | apply Kd.R_drew)); exact HO327.out), (by (with_reducible repeat (first | apply Kd.R_alloc | apply Kd.R_drewN | apply Kd.R_drew)); exact HO330.out), (by (with_reducible repeat (first | apply Kd.R_alloc | apply Kd.R_drewN | apply Kd.R_drew)); exact HO333.out), BK324.out, BK340.out, GW340.out, GE340.out, NB324_340.out, NB340_324.out, (by repeat (with_reducible first | exact HB.out | apply bA_ | apply bN_ | apply bD_ | refine bS_ ?_ GE324.out | refine bS_ ?_ GE340.out))⟩)
        ·skip
         rintro ⟨v326, v329, v332, gb340⟩ w27 ⟨hS_, h0_, h1_, h2_, h3_, h4_, h5_, h6_, h7_, h8_, h9_⟩
         (try dsimp only at h0_ h1_ h2_ h3_ h4_ h5_ h6_ h7_ h8_ h9_)
         clear BK324 HB
         have HO327 := aA_ h0_
         have HO330 := aA_ h1_
         have HO333 := aA_ h2_
         have BK324 := aA_ h3_
         have BK340 := aA_ h4_
         have GW340 := aA_ h5_
         have GE340 := aA_ h6_
         have NB324_340 := aA_ h7_
         have NB340_324 := aA_ h8_
         have HB := aA_ h9_
         clear h0_ h1_ h2_ h3_ h4_ h5_ h6_ h7_ h8_ h9_
         have hHeld : w27.cell? ⟨gb324, 0, none⟩ = some (.int .i64 a2_0) ∧ w27.cell? ⟨gb324, 1, none⟩ = some (.int .i64 a2_1) := hS_
         refine norm_ (a' := ?_) ?_ ?_
         rotate_left
         ·simp only [putAll, Act.put, sT_, sZ_, sS_]
          rfl
         refine one_ (i := 7) (N := some 30) (demurrageref03_Part.ups 11 767) rfl rfl (one_of HT_.out (by kernel_rfl)) (by decide) (fun K hK => ?_)
         refine goes_ Try.func49 (by kernel_rfl) rfl #[.int .i64 a2_0] (by rfl) rfl rfl (by (try simp only [mT_, mC_, mN_]); first | done | rfl) ?_
         with_reducible refine (demurrageref01_From.calls kj4 a2_0 t334 _ A13.out).mono ?_
         rintro e w28 ⟨v335, rfl, ho0, hb⟩
         refine ⟨_, rfl, ?_⟩
         have HO336 := aA_ (Kd.R_lower (Kd.R_new' (Kd.R_new' (Kd.R_new' ho0 (Kd.R_lt HO327.out)) (Kd.R_lt HO330.out)) (Kd.R_lt HO333.out)) (below_size (by repeat (with_reducible first | exact HB.out | apply bA_ | apply bN_ | apply bD_ | refine bS_ ?_ GE324.out | refine bS_ ?_ GE340.out))))
         replace HO327 := aA_ (Kd.R_elder' HO327.out (Kd.R_base ho0) hb)
         replace HO330 := aA_ (Kd.R_elder' HO330.out (Kd.R_base ho0) hb)
         replace HO333 := aA_ (Kd.R_elder' HO333.out (Kd.R_base ho0) hb)
         replace BK324 := bK_ BK324 hb
         replace BK340 := bK_ BK340 hb
         replace HB := bB_ (by repeat (with_reducible first | exact HB.out | apply bA_ | apply bN_ | apply bD_ | refine bS_ ?_ GE324.out | refine bS_ ?_ GE340.out)) hb
         (try clear hb)
         (try clear hb2)
         (try clear hk)
         (try clear hi)
         (try clear ho0)
         refine hK.out _ _ ⟨(blk_cell BK324.out 0).trans rfl, (blk_cell BK324.out 1).trans rfl⟩ (fun hHeld => ?_)
         clear hK K
         refine norm_ (by show Act.put _ (some 30) _ = _; simp only [Act.put, sT_, sZ_, sS_, i64_w, i32_w] <;> rfl) ?_
         exact norm_ (by simp only [putAll, Act.put, sT_, sZ_, sS_] <;> rfl) (hJ1_3_4_7_9 (_, _, _, _, gb340) _ ⟨hHeld, (by (with_reducible repeat (first | apply Kd.R_alloc | apply Kd.R_drewN | apply Kd.R_drew)); exact Kd.R_mono HO327.out (fun _ hk => (And.intro (hk.1.1) ((And.intro (hk.1.2) (hk.2)))))), (by (with_reducible repeat (first | apply Kd.R_alloc | apply Kd.R_drewN | apply Kd.R_drew)); exact Kd.R_mono HO330.out (fun _ hk => (And.intro (hk.1.1) ((And.intro (hk.1.2) (hk.2)))))), (by (with_reducible repeat (first | apply Kd.R_alloc | apply Kd.R_drewN | apply Kd.R_drew)); exact Kd.R_mono HO333.out (fun _ hk => (And.intro (hk.1.1) ((And.intro (hk.1.2) (hk.2)))))), (by (with_reducible repeat (first | apply Kd.R_alloc | apply Kd.R_drewN | apply Kd.R_drew)); exact Kd.R_mono HO336.out (fun _ hk => (And.intro (hk.1.1.2) ((And.intro (hk.1.2) (hk.2)))))), BK324.out, BK340.out, GW340.out, GE340.out, NB324_340.out, NB340_324.out, (by repeat (with_reducible first | exact HB.out | apply bA_ | apply bN_ | apply bD_ | refine bS_ ?_ GE324.out | refine bS_ ?_ GE340.out))⟩)
       ·skip
        rintro ⟨v326, v329, v332, v335⟩ w27 ⟨hS_, h0_, h1_, h2_, h3_, h4_, h5_⟩
        (try dsimp only at h0_ h1_ h2_ h3_ h4_ h5_)
        clear BK324 HB
        have HO327 := aA_ h0_
        have HO330 := aA_ h1_
        have HO333 := aA_ h2_
        have HO336 := aA_ h3_
        have BK324 := aA_ h4_
        have HB := aA_ h5_
        clear h0_ h1_ h2_ h3_ h4_ h5_
        have hHeld : w27.cell? ⟨gb324, 0, none⟩ = some (.int .i64 a2_0) ∧ w27.cell? ⟨gb324, 1, none⟩ = some (.int .i64 a2_1) := hS_
        obtain ⟨Ao28, co28, eo28⟩ := Kd.R_slice HO333.out
        (first | subst eo28 | (injection eo28 with f1_ f2_ f3_; have f4_ := f1_.symm; have f5_ := f3_.symm; clear f1_ f2_ f3_; subst f4_; subst f5_))
        obtain ⟨Ao29, co29, eo29⟩ := Kd.R_slice HO336.out
        (first | subst eo29 | (injection eo29 with f1_ f2_ f3_; have f4_ := f1_.symm; have f5_ := f3_.symm; clear f1_ f2_ f3_; subst f4_; subst f5_))
        refine norm_ (a' := ?_) ?_ ?_
        rotate_left
        ·simp only [putAll, Act.put, sT_, sZ_, sS_]
         rfl
        refine two_ (i := 8) (j := 9) (Ni := some 31) (Nj := some 10) (demurrageref03_Part.ups 11 511) (demurrageref03_Part.ups 11 767) rfl rfl rfl rfl (two_of HT_.out (by kernel_rfl)) (by decide) (by decide) (fun K hK => ?_) (fun K hK => ?_)
        ·skip
         refine goes_ Try.func59 (by kernel_rfl) rfl #[.agg #[.slice Ao28 t331.length co28], .agg #[.slice Ao29 t334.length co29]] (by rfl) rfl rfl (by (try simp only [mT_, mC_, mN_]); first | done | rfl) ?_
         with_reducible refine (demurrageref01_Prod.calls kj4 _ _ t331 _ _ t334 t337 _ ?side1 ?side2 ?side3 ?side4 A14.out).mono ?_
         (case side1 => repeat (first | exact (Kd.R_reads' HO333.out).2.2 | (with_reducible first | refine Kd.C_alloc ?_ _ | refine Kd.C_drewN ?_ _ | refine Kd.C_drew ?_)))
         (case side2 => exact (Kd.R_reads' HO333.out).2.1)
         (case side3 => repeat (first | exact (Kd.R_reads' HO336.out).2.2 | (with_reducible first | refine Kd.C_alloc ?_ _ | refine Kd.C_drewN ?_ _ | refine Kd.C_drew ?_)))
         (case side4 => exact (Kd.R_reads' HO336.out).2.1)
         rintro e w30 ⟨v338, rfl, ho0, hb⟩
         refine ⟨_, rfl, ?_⟩
         have HO339 := aA_ (Kd.R_lower (Kd.R_new' (Kd.R_new' (Kd.R_new' (Kd.R_new' ho0 (Kd.R_lt HO327.out)) (Kd.R_lt HO330.out)) (Kd.R_lt HO333.out)) (Kd.R_lt HO336.out)) (below_size (by repeat (with_reducible first | exact HB.out | apply bA_ | apply bN_ | apply bD_ | refine bS_ ?_ GE324.out))))
         replace HO327 := aA_ (Kd.R_elder' HO327.out (Kd.R_base ho0) hb)
         replace HO330 := aA_ (Kd.R_elder' HO330.out (Kd.R_base ho0) hb)
         replace HO333 := aA_ (Kd.R_elder' HO333.out (Kd.R_base ho0) hb)
         replace HO336 := aA_ (Kd.R_elder' HO336.out (Kd.R_base ho0) hb)
         replace BK324 := bK_ BK324 hb
         replace HB := bB_ (by repeat (with_reducible first | exact HB.out | apply bA_ | apply bN_ | apply bD_ | refine bS_ ?_ GE324.out)) hb
         (try clear hb)
         (try clear hb2)
         (try clear hk)
         (try clear hi)
         (try clear ho0)
         refine hK.out _ _ ⟨(blk_cell BK324.out 0).trans rfl, (blk_cell BK324.out 1).trans rfl⟩ (fun hHeld => ?_)
         clear hK K
         refine norm_ (by show Act.put _ (some 31) _ = _; simp only [Act.put, sT_, sZ_, sS_, i64_w, i32_w] <;> rfl) ?_
         exact norm_ (by simp only [putAll, Act.put, sT_, sZ_, sS_] <;> rfl) (hJ1_3_4_7_8 (_, _, .slice Ao28 t331.length co28, .slice Ao29 t334.length co29, _) _ ⟨hHeld, (by (with_reducible repeat (first | apply Kd.R_alloc | apply Kd.R_drewN | apply Kd.R_drew)); exact Kd.R_mono HO327.out (fun _ hk => (And.intro (hk.1.1) ((And.intro (hk.1.2.1) ((And.intro (hk.1.2.2) (hk.2)))))))), (by (with_reducible repeat (first | apply Kd.R_alloc | apply Kd.R_drewN | apply Kd.R_drew)); exact Kd.R_mono HO330.out (fun _ hk => (And.intro (hk.1.1) ((And.intro (hk.1.2.1) ((And.intro (hk.1.2.2) (hk.2)))))))), (by (with_reducible repeat (first | apply Kd.R_alloc | apply Kd.R_drewN | apply Kd.R_drew)); exact Kd.R_mono HO333.out (fun _ hk => (And.intro (hk.1.1) ((And.intro (hk.1.2.1) ((And.intro (hk.1.2.2) (hk.2)))))))), (by (with_reducible repeat (first | apply Kd.R_alloc | apply Kd.R_drewN | apply Kd.R_drew)); exact Kd.R_mono HO336.out (fun _ hk => (And.intro (hk.1.1) ((And.intro (hk.1.2.1) ((And.intro (hk.1.2.2) (hk.2)))))))), (by (with_reducible repeat (first | apply Kd.R_alloc | apply Kd.R_drewN | apply Kd.R_drew)); exact Kd.R_mono HO339.out (fun _ hk => (And.intro (hk.1.1.1.2) ((And.intro (hk.1.1.2) ((And.intro (hk.1.2) (hk.2)))))))), BK324.out, (by repeat (with_reducible first | exact HB.out | apply bA_ | apply bN_ | apply bD_ | refine bS_ ?_ GE324.out))⟩)
        ·skip
         refine box_step rfl (N := 10) rfl (cs := #[.slice none 0 0]) (t := 98) ?hr ?_; (case hr => go_simp <;> rfl)
         intro gb340 hg w28 hbox hb
         replace HO327 := aA_ (Kd.R_below HO327.out hb)
         replace HO330 := aA_ (Kd.R_below HO330.out hb)
         replace HO333 := aA_ (Kd.R_below HO333.out hb)
         replace HO336 := aA_ (Kd.R_below HO336.out hb)
         have BK340 := aA_ (hbox)
         have GW340 := gW_ hg (by repeat (with_reducible first | exact HB.out | apply bA_ | apply bN_ | apply bD_ | refine bS_ ?_ GE324.out))
         have GE340 := GW340
         replace HB := bB_ (by repeat (with_reducible first | exact HB.out | apply bA_ | apply bN_ | apply bD_ | refine bS_ ?_ GE324.out)) hb
         have NB324_340 := nE_ hg BK324
         have NB340_324 := aA_ NB324_340.out.symm
         replace BK324 := bK_ BK324 hb
         clear hb hbox hg
         refine hK.out _ _ ⟨(blk_cell BK324.out 0).trans rfl, (blk_cell BK324.out 1).trans rfl⟩ (fun hHeld => ?_)
         clear hK K
         refine norm_ (by show Act.put _ (some 10) _ = _; simp only [Act.put, sT_, sZ_, sS_, i64_w, i32_w] <;> rfl) ?_
         exact norm_ (by simp only [putAll, Act.put, sT_, sZ_, sS_] <;> rfl) (hJ1_3_4_7_9 (_, _, _, _, gb340) _ ⟨hHeld, (by (with_reducible repeat (first | apply Kd.R_alloc | apply Kd.R_drewN | apply Kd.R_drew)); exact HO327.out), (by (with_reducible repeat (first | apply Kd.R_alloc | apply Kd.R_drewN | apply Kd.R_drew)); exact HO330.out), (by (with_reducible repeat (first | apply Kd.R_alloc | apply Kd.R_drewN | apply Kd.R_drew)); exact HO333.out), (by (with_reducible repeat (first | apply Kd.R_alloc | apply Kd.R_drewN | apply Kd.R_drew)); exact HO336.out), BK324.out, BK340.out, GW340.out, GE340.out, NB324_340.out, NB340_324.out, (by repeat (with_reducible first | exact HB.out | apply bA_ | apply bN_ | apply bD_ | refine bS_ ?_ GE324.out | refine bS_ ?_ GE340.out))⟩)
      ·skip
       rintro ⟨v326, v329, v332, v335, gb340⟩ w28 ⟨hS_, h0_, h1_, h2_, h3_, h4_, h5_, h6_, h7_, h8_, h9_, h10_⟩
       (try dsimp only at h0_ h1_ h2_ h3_ h4_ h5_ h6_ h7_ h8_ h9_ h10_)
       clear BK324 HB
       have HO327 := aA_ h0_
       have HO330 := aA_ h1_
       have HO333 := aA_ h2_
       have HO336 := aA_ h3_
       have BK324 := aA_ h4_
       have BK340 := aA_ h5_
       have GW340 := aA_ h6_
       have GE340 := aA_ h7_
       have NB324_340 := aA_ h8_
       have NB340_324 := aA_ h9_
       have HB := aA_ h10_
       clear h0_ h1_ h2_ h3_ h4_ h5_ h6_ h7_ h8_ h9_ h10_
       have hHeld : w28.cell? ⟨gb324, 0, none⟩ = some (.int .i64 a2_0) ∧ w28.cell? ⟨gb324, 1, none⟩ = some (.int .i64 a2_1) := hS_
       obtain ⟨Ao29, co29, eo29⟩ := Kd.R_slice HO333.out
       (first | subst eo29 | (injection eo29 with f1_ f2_ f3_; have f4_ := f1_.symm; have f5_ := f3_.symm; clear f1_ f2_ f3_; subst f4_; subst f5_))
       obtain ⟨Ao30, co30, eo30⟩ := Kd.R_slice HO336.out
       (first | subst eo30 | (injection eo30 with f1_ f2_ f3_; have f4_ := f1_.symm; have f5_ := f3_.symm; clear f1_ f2_ f3_; subst f4_; subst f5_))
       refine norm_ (a' := ?_) ?_ ?_
       rotate_left
       ·simp only [putAll, Act.put, sT_, sZ_, sS_]
        rfl
       refine one_ (i := 8) (N := some 31) (demurrageref03_Part.ups 11 1023) rfl rfl (one_of HT_.out (by kernel_rfl)) (by decide) (fun K hK => ?_)
       refine goes_ Try.func59 (by kernel_rfl) rfl #[.agg #[.slice Ao29 t331.length co29], .agg #[.slice Ao30 t334.length co30]] (by rfl) rfl rfl (by (try simp only [mT_, mC_, mN_]); first | done | rfl) ?_
       with_reducible refine (demurrageref01_Prod.calls kj4 _ _ t331 _ _ t334 t337 _ ?side1 ?side2 ?side3 ?side4 A14.out).mono ?_
       (case side1 => repeat (first | exact (Kd.R_reads' HO333.out).2.2 | (with_reducible first | refine Kd.C_alloc ?_ _ | refine Kd.C_drewN ?_ _ | refine Kd.C_drew ?_)))
       (case side2 => exact (Kd.R_reads' HO333.out).2.1)
       (case side3 => repeat (first | exact (Kd.R_reads' HO336.out).2.2 | (with_reducible first | refine Kd.C_alloc ?_ _ | refine Kd.C_drewN ?_ _ | refine Kd.C_drew ?_)))
       (case side4 => exact (Kd.R_reads' HO336.out).2.1)
       rintro e w31 ⟨v338, rfl, ho0, hb⟩
       refine ⟨_, rfl, ?_⟩
       have HO339 := aA_ (Kd.R_lower (Kd.R_new' (Kd.R_new' (Kd.R_new' (Kd.R_new' ho0 (Kd.R_lt HO327.out)) (Kd.R_lt HO330.out)) (Kd.R_lt HO333.out)) (Kd.R_lt HO336.out)) (below_size (by repeat (with_reducible first | exact HB.out | apply bA_ | apply bN_ | apply bD_ | refine bS_ ?_ GE324.out | refine bS_ ?_ GE340.out))))
       replace HO327 := aA_ (Kd.R_elder' HO327.out (Kd.R_base ho0) hb)
       replace HO330 := aA_ (Kd.R_elder' HO330.out (Kd.R_base ho0) hb)
       replace HO333 := aA_ (Kd.R_elder' HO333.out (Kd.R_base ho0) hb)
       replace HO336 := aA_ (Kd.R_elder' HO336.out (Kd.R_base ho0) hb)
       replace BK324 := bK_ BK324 hb
       replace BK340 := bK_ BK340 hb
       replace HB := bB_ (by repeat (with_reducible first | exact HB.out | apply bA_ | apply bN_ | apply bD_ | refine bS_ ?_ GE324.out | refine bS_ ?_ GE340.out)) hb
       (try clear hb)
       (try clear hb2)
       (try clear hk)
       (try clear hi)
       (try clear ho0)
       refine hK.out _ _ ⟨(blk_cell BK324.out 0).trans rfl, (blk_cell BK324.out 1).trans rfl⟩ (fun hHeld => ?_)
       clear hK K
       refine norm_ (by show Act.put _ (some 31) _ = _; simp only [Act.put, sT_, sZ_, sS_, i64_w, i32_w] <;> rfl) ?_
       exact norm_ (by simp only [putAll, Act.put, sT_, sZ_, sS_] <;> rfl) (hJ1_3_4_7_8_9 (_, _, .slice Ao29 t331.length co29, .slice Ao30 t334.length co30, _, gb340) _ ⟨hHeld, (by (with_reducible repeat (first | apply Kd.R_alloc | apply Kd.R_drewN | apply Kd.R_drew)); exact Kd.R_mono HO327.out (fun _ hk => (And.intro (hk.1.1) ((And.intro (hk.1.2.1) ((And.intro (hk.1.2.2) (hk.2)))))))), (by (with_reducible repeat (first | apply Kd.R_alloc | apply Kd.R_drewN | apply Kd.R_drew)); exact Kd.R_mono HO330.out (fun _ hk => (And.intro (hk.1.1) ((And.intro (hk.1.2.1) ((And.intro (hk.1.2.2) (hk.2)))))))), (by (with_reducible repeat (first | apply Kd.R_alloc | apply Kd.R_drewN | apply Kd.R_drew)); exact Kd.R_mono HO333.out (fun _ hk => (And.intro (hk.1.1) ((And.intro (hk.1.2.1) ((And.intro (hk.1.2.2) (hk.2)))))))), (by (with_reducible repeat (first | apply Kd.R_alloc | apply Kd.R_drewN | apply Kd.R_drew)); exact Kd.R_mono HO336.out (fun _ hk => (And.intro (hk.1.1) ((And.intro (hk.1.2.1) ((And.intro (hk.1.2.2) (hk.2)))))))), (by (with_reducible repeat (first | apply Kd.R_alloc | apply Kd.R_drewN | apply Kd.R_drew)); exact Kd.R_mono HO339.out (fun _ hk => (And.intro (hk.1.1.1.2) ((And.intro (hk.1.1.2) ((And.intro (hk.1.2) (hk.2)))))))), BK324.out, BK340.out, GW340.out, GE340.out, NB324_340.out, NB340_324.out, (by repeat (with_reducible first | exact HB.out | apply bA_ | apply bN_ | apply bD_ | refine bS_ ?_ GE324.out | refine bS_ ?_ GE340.out))⟩)
     ·skip
      rintro ⟨v326, v329, v332, v335, v338⟩ w30 ⟨hS_, h0_, h1_, h2_, h3_, h4_, h5_, h6_⟩
      (try dsimp only at h0_ h1_ h2_ h3_ h4_ h5_ h6_)
      clear BK324 HB
      have HO327 := aA_ h0_
      have HO330 := aA_ h1_
      have HO333 := aA_ h2_
      have HO336 := aA_ h3_
      have HO339 := aA_ h4_
      have BK324 := aA_ h5_
      have HB := aA_ h6_
      clear h0_ h1_ h2_ h3_ h4_ h5_ h6_
      have hHeld : w30.cell? ⟨gb324, 0, none⟩ = some (.int .i64 a2_0) ∧ w30.cell? ⟨gb324, 1, none⟩ = some (.int .i64 a2_1) := hS_
      refine norm_ (a' := ?_) ?_ ?_
      rotate_left
      ·simp only [putAll, Act.put, sT_, sZ_, sS_]
       rfl
      refine one_ (i := 9) (N := some 10) (demurrageref03_Part.ups 11 1023) rfl rfl (one_of HT_.out (by kernel_rfl)) (by decide) (fun K hK => ?_)
      refine box_step rfl (N := 10) rfl (cs := #[.slice none 0 0]) (t := 98) ?hr ?_; (case hr => go_simp <;> rfl)
      intro gb340 hg w31 hbox hb
      replace HO327 := aA_ (Kd.R_below HO327.out hb)
      replace HO330 := aA_ (Kd.R_below HO330.out hb)
      replace HO333 := aA_ (Kd.R_below HO333.out hb)
      replace HO336 := aA_ (Kd.R_below HO336.out hb)
      replace HO339 := aA_ (Kd.R_below HO339.out hb)
      have BK340 := aA_ (hbox)
      have GW340 := gW_ hg (by repeat (with_reducible first | exact HB.out | apply bA_ | apply bN_ | apply bD_ | refine bS_ ?_ GE324.out))
      have GE340 := GW340
      replace HB := bB_ (by repeat (with_reducible first | exact HB.out | apply bA_ | apply bN_ | apply bD_ | refine bS_ ?_ GE324.out)) hb
      have NB324_340 := nE_ hg BK324
      have NB340_324 := aA_ NB324_340.out.symm
      replace BK324 := bK_ BK324 hb
      clear hb hbox hg
      refine hK.out _ _ ⟨(blk_cell BK324.out 0).trans rfl, (blk_cell BK324.out 1).trans rfl⟩ (fun hHeld => ?_)
      clear hK K
      refine norm_ (by show Act.put _ (some 10) _ = _; simp only [Act.put, sT_, sZ_, sS_, i64_w, i32_w] <;> rfl) ?_
      exact norm_ (by simp only [putAll, Act.put, sT_, sZ_, sS_] <;> rfl) (hJ1_3_4_7_8_9 (_, _, _, _, _, gb340) _ ⟨hHeld, (by (with_reducible repeat (first | apply Kd.R_alloc | apply Kd.R_drewN | apply Kd.R_drew)); exact HO327.out), (by (with_reducible repeat (first | apply Kd.R_alloc | apply Kd.R_drewN | apply Kd.R_drew)); exact HO330.out), (by (with_reducible repeat (first | apply Kd.R_alloc | apply Kd.R_drewN | apply Kd.R_drew)); exact HO333.out), (by (with_reducible repeat (first | apply Kd.R_alloc | apply Kd.R_drewN | apply Kd.R_drew)); exact HO336.out), (by (with_reducible repeat (first | apply Kd.R_alloc | apply Kd.R_drewN | apply Kd.R_drew)); exact HO339.out), BK324.out, BK340.out, GW340.out, GE340.out, NB324_340.out, NB340_324.out, (by repeat (with_reducible first | exact HB.out | apply bA_ | apply bN_ | apply bD_ | refine bS_ ?_ GE324.out | refine bS_ ?_ GE340.out))⟩)
    rintro ⟨v326, v329, v332, v335, v338, gb340⟩ w31 ⟨hS_, h0_, h1_, h2_, h3_, h4_, h5_, h6_, h7_, h8_, h9_, h10_, h11_⟩
    (try dsimp only at h0_ h1_ h2_ h3_ h4_ h5_ h6_ h7_ h8_ h9_ h10_ h11_)
    clear BK324 HB
    have HO327 := aA_ h0_
    have HO330 := aA_ h1_
    have HO333 := aA_ h2_
    have HO336 := aA_ h3_
    have HO339 := aA_ h4_
    have BK324 := aA_ h5_
    have BK340 := aA_ h6_
    have GW340 := aA_ h7_
    have GE340 := aA_ h8_
    have NB324_340 := aA_ h9_
    have NB340_324 := aA_ h10_
    have HB := aA_ h11_
    clear h0_ h1_ h2_ h3_ h4_ h5_ h6_ h7_ h8_ h9_ h10_ h11_
    have hHeld : w31.cell? ⟨gb324, 0, none⟩ = some (.int .i64 a2_0) ∧ w31.cell? ⟨gb324, 1, none⟩ = some (.int .i64 a2_1) := hS_
    obtain ⟨Ao32, co32, eo32⟩ := Kd.R_slice HO339.out
    (first | subst eo32 | (injection eo32 with f1_ f2_ f3_; have f4_ := f1_.symm; have f5_ := f3_.symm; clear f1_ f2_ f3_; subst f4_; subst f5_))
    refine norm_ (a' := ?_) ?_ ?_
    rotate_left
    ·simp only [putAll, Act.put, sT_, sZ_, sS_]
     rfl
    refine one_ (i := 10) (N := none) (demurrageref03_Part.ups 11 2047) rfl rfl (one_of HT_.out (by kernel_rfl)) (by decide) (fun K hK => ?_)
    have hs33 : w31.cell? ⟨gb340, 0, none⟩ = some (.slice none 0 0) := (blk_cell BK340.out 0).trans rfl
    have hfs33 := blk_frozen BK340.out 0
    have hns33_0 := NB324_340.out
    have hms33_0 := NB340_324.out
    refine skip_ (w1 := ?_) (by rfl) rfl ?_ ?_
    rotate_left
    ·go_simp
     rfl
    refine hK.out _ _ ⟨((cell_far (p := ⟨gb340, _, none⟩) NB324_340.out _).trans (hHeld.1)), ((cell_far (p := ⟨gb340, _, none⟩) NB324_340.out _).trans (hHeld.2))⟩ (fun hHeld => ?_)
    clear hK K
    refine done_ (done_of HT_.out (by kernel_rfl)) ?_
    try go_wp2
    have n0_ : Aside0 (Kd.R (Kd.int .i64) 3 (w31.setCell ⟨gb340, 0, none⟩ (.slice Ao32 t337.length co32)) w.heap.size (fun k_ => some k_ ≠ (v329 : Value).ownBlock ∧ some k_ ≠ (v332 : Value).ownBlock ∧ some k_ ≠ (v335 : Value).ownBlock ∧ some k_ ≠ (.slice Ao32 t337.length co32 : Value).ownBlock) v326 t325) := ⟨by (with_reducible repeat (first | apply Kd.R_alloc | apply Kd.R_drewN | apply Kd.R_drew)); exact Kd.R_mono (Kd.R_far (p := ⟨gb340, 0, none⟩) (Kd.R_types HO327.out BK340.out (by decide)) (fun _ hk => hk.2) (.slice Ao32 t337.length co32)) (fun _ hk => (And.intro (hk.1.1) ((And.intro (hk.1.2.1) ((And.intro (hk.1.2.2.1) (hk.1.2.2.2)))))))⟩
    have n1_ : Aside0 (Kd.R (Kd.int .i64) 3 (w31.setCell ⟨gb340, 0, none⟩ (.slice Ao32 t337.length co32)) w.heap.size (fun k_ => some k_ ≠ (v326 : Value).ownBlock ∧ some k_ ≠ (v332 : Value).ownBlock ∧ some k_ ≠ (v335 : Value).ownBlock ∧ some k_ ≠ (.slice Ao32 t337.length co32 : Value).ownBlock) v329 t328) := ⟨by (with_reducible repeat (first | apply Kd.R_alloc | apply Kd.R_drewN | apply Kd.R_drew)); exact Kd.R_mono (Kd.R_far (p := ⟨gb340, 0, none⟩) (Kd.R_types HO330.out BK340.out (by decide)) (fun _ hk => hk.2) (.slice Ao32 t337.length co32)) (fun _ hk => (And.intro (hk.1.1) ((And.intro (hk.1.2.1) ((And.intro (hk.1.2.2.1) (hk.1.2.2.2)))))))⟩
    have n2_ : Aside0 (Kd.R (Kd.int .i64) 3 (w31.setCell ⟨gb340, 0, none⟩ (.slice Ao32 t337.length co32)) w.heap.size (fun k_ => some k_ ≠ (v326 : Value).ownBlock ∧ some k_ ≠ (v329 : Value).ownBlock ∧ some k_ ≠ (v335 : Value).ownBlock ∧ some k_ ≠ (.slice Ao32 t337.length co32 : Value).ownBlock) v332 t331) := ⟨by (with_reducible repeat (first | apply Kd.R_alloc | apply Kd.R_drewN | apply Kd.R_drew)); exact Kd.R_mono (Kd.R_far (p := ⟨gb340, 0, none⟩) (Kd.R_types HO333.out BK340.out (by decide)) (fun _ hk => hk.2) (.slice Ao32 t337.length co32)) (fun _ hk => (And.intro (hk.1.1) ((And.intro (hk.1.2.1) ((And.intro (hk.1.2.2.1) (hk.1.2.2.2)))))))⟩
    have n3_ : Aside0 (Kd.R (Kd.int .i64) 3 (w31.setCell ⟨gb340, 0, none⟩ (.slice Ao32 t337.length co32)) w.heap.size (fun k_ => some k_ ≠ (v326 : Value).ownBlock ∧ some k_ ≠ (v329 : Value).ownBlock ∧ some k_ ≠ (v332 : Value).ownBlock ∧ some k_ ≠ (.slice Ao32 t337.length co32 : Value).ownBlock) v335 t334) := ⟨by (with_reducible repeat (first | apply Kd.R_alloc | apply Kd.R_drewN | apply Kd.R_drew)); exact Kd.R_mono (Kd.R_far (p := ⟨gb340, 0, none⟩) (Kd.R_types HO336.out BK340.out (by decide)) (fun _ hk => hk.2) (.slice Ao32 t337.length co32)) (fun _ hk => (And.intro (hk.1.1) ((And.intro (hk.1.2.1) ((And.intro (hk.1.2.2.1) (hk.1.2.2.2)))))))⟩
    have n4_ : Aside0 (Kd.R (Kd.int .i64) 3 (w31.setCell ⟨gb340, 0, none⟩ (.slice Ao32 t337.length co32)) w.heap.size (fun k_ => some k_ ≠ (v326 : Value).ownBlock ∧ some k_ ≠ (v329 : Value).ownBlock ∧ some k_ ≠ (v332 : Value).ownBlock ∧ some k_ ≠ (v335 : Value).ownBlock) (.slice Ao32 t337.length co32) t337) := ⟨by (with_reducible repeat (first | apply Kd.R_alloc | apply Kd.R_drewN | apply Kd.R_drew)); exact Kd.R_mono (Kd.R_far (p := ⟨gb340, 0, none⟩) (Kd.R_types HO339.out BK340.out (by decide)) (fun _ hk => hk.2) (.slice Ao32 t337.length co32)) (fun _ hk => (And.intro (hk.1.1) ((And.intro (hk.1.2.1) ((And.intro (hk.1.2.2.1) (hk.1.2.2.2)))))))⟩
    have n5_ : Aside0 ((w31.setCell ⟨gb340, 0, none⟩ (.slice Ao32 t337.length co32)).heap[gb324]? = some (.cells #[.int .i64 a2_0, .int .i64 a2_1] 56 (0, 0))) := ⟨by refine blk_far ?_ NB324_340.out _; exact BK324.out⟩
    have n6_ : Aside0 ((w31.setCell ⟨gb340, 0, none⟩ (.slice Ao32 t337.length co32)).heap[gb340]? = some (.cells #[.slice Ao32 t337.length co32] 98 (0, 0))) := ⟨by refine blk_put (cs := #[.slice none 0 0]) ?_ 0 _ rfl; exact BK340.out⟩
    have n7_ : Aside0 (Below w.heap.size w (w31.setCell ⟨gb340, 0, none⟩ (.slice Ao32 t337.length co32))) := ⟨by repeat (with_reducible first | exact HB.out | apply bA_ | apply bN_ | apply bD_ | refine bS_ ?_ GE324.out | refine bS_ ?_ GE340.out)⟩
    (try clear HO327)
    (try clear HO330)
    (try clear HO333)
    (try clear HO336)
    (try clear HO339)
    (try clear BK324)
    (try clear BK340)
    (try clear HB)
    generalize (w31.setCell ⟨gb340, 0, none⟩ (.slice Ao32 t337.length co32)) = w34 at n0_ n1_ n2_ n3_ n4_ n5_ n6_ n7_ ⊢
    have HO327 := n0_
    have HO330 := n1_
    have HO333 := n2_
    have HO336 := n3_
    have HO339 := n4_
    have BK324 := n5_
    have BK340 := n6_
    have HB := n7_
    clear n0_ n1_ n2_ n3_ n4_ n5_ n6_ n7_
    replace HO327 := aA_ (Kd.R_drew HO327.out)
    replace HO330 := aA_ (Kd.R_drew HO330.out)
    replace HO333 := aA_ (Kd.R_drew HO333.out)
    replace HO336 := aA_ (Kd.R_drew HO336.out)
    replace HO339 := aA_ (Kd.R_drew HO339.out)
    replace BK324 := aA_ (blk_drew BK324.out)
    replace BK340 := aA_ (blk_drew BK340.out)
    replace HB := aA_ (below_drew1 HB.out)
    refine start_ (n := 8) (S := fun w' => w'.cell? ⟨gb324, 0, none⟩ = some (.int .i64 a2_0) ∧ w'.cell? ⟨gb324, 1, none⟩ = some (.int .i64 a2_1)) (ds := []) (demurrageref03_Part.ups 8 0) (by kernel_rfl) rfl rfl ⟨(blk_cell BK324.out 0).trans rfl, (blk_cell BK324.out 1).trans rfl⟩ (fun hHeld => ?_); refine with_tabW demurrageref03_Part.tab4 demurrageref03_Part.bits4 (fun HT_ HW_ => ?_)
    generalize w34.drew = w35 at HO327 HO330 HO333 HO336 HO339 BK324 BK340 HB hHeld ⊢
    refine pure_ (i := 0) (N := some 32) (v := ?_) (a' := ?_) (demurrageref03_Part.ups 8 1) rfl rfl (any_of HT_.out (by kernel_rfl)) (fun _ _ _ h => h) (Or.inl ⟨by rfl, ?_⟩) ?_ ?_
    rotate_left
    ·intro w'
     go_simp
     with_reducible rfl
    rotate_left
    ·simp only [Act.put, sT_, sZ_, sS_, i64_w, i32_w]
     rfl
    refine pure_ (i := 2) (N := some 34) (v := ?_) (a' := ?_) (demurrageref03_Part.ups 8 5) rfl rfl (any_of HT_.out (by kernel_rfl)) (fun _ _ _ h => h) (Or.inl ⟨by rfl, ?_⟩) ?_ ?_
    rotate_left
    ·intro w'
     go_simp
     with_reducible rfl
    rotate_left
    ·simp only [Act.put, sT_, sZ_, sS_, i64_w, i32_w]
     rfl
    refine take_ (i := 3) (N := some 35) (v := ?_) (a' := ?_) (demurrageref03_Part.ups 8 13) rfl rfl (take_ofW HT_.out HW_.out (by kernel_rfl)) (fun _ _ _ h => h) (Or.inl ⟨by rfl, ?_⟩) hHeld ?_ ?_
    rotate_left
    ·rintro w' ⟨s0, s1⟩
     go_simp
     with_reducible rfl
    rotate_left
    ·simp only [Act.put, sT_, sZ_, sS_, i64_w, i32_w]
     rfl
    refine join_ (σ := Value × Value × Value × Nat) 1 (demurrageref03_Part.ups 8 127) (fun s_ => [(33, .agg #[s_.1]), (36, .agg #[s_.2.1]), (37, .agg #[s_.2.2.1]), (11, .pointer (some ⟨s_.2.2.2, 0, none⟩))]) (fun s_ w' => (w'.cell? ⟨gb324, 0, none⟩ = some (.int .i64 a2_0) ∧ w'.cell? ⟨gb324, 1, none⟩ = some (.int .i64 a2_1)) ∧ (Kd.R (Kd.int .i64) 3 w' w.heap.size (fun k_ => some k_ ≠ (v329 : Value).ownBlock ∧ some k_ ≠ (v332 : Value).ownBlock ∧ some k_ ≠ (v335 : Value).ownBlock ∧ some k_ ≠ (.slice Ao32 t337.length co32 : Value).ownBlock ∧ some k_ ≠ (s_.1 : Value).ownBlock ∧ some k_ ≠ (s_.2.1 : Value).ownBlock ∧ some k_ ≠ (s_.2.2.1 : Value).ownBlock) v326 t325) ∧ (Kd.R (Kd.int .i64) 3 w' w.heap.size (fun k_ => some k_ ≠ (v326 : Value).ownBlock ∧ some k_ ≠ (v332 : Value).ownBlock ∧ some k_ ≠ (v335 : Value).ownBlock ∧ some k_ ≠ (.slice Ao32 t337.length co32 : Value).ownBlock ∧ some k_ ≠ (s_.1 : Value).ownBlock ∧ some k_ ≠ (s_.2.1 : Value).ownBlock ∧ some k_ ≠ (s_.2.2.1 : Value).ownBlock) v329 t328) ∧ (Kd.R (Kd.int .i64) 3 w' w.heap.size (fun k_ => some k_ ≠ (v326 : Value).ownBlock ∧ some k_ ≠ (v329 : Value).ownBlock ∧ some k_ ≠ (v335 : Value).ownBlock ∧ some k_ ≠ (.slice Ao32 t337.length co32 : Value).ownBlock ∧ some k_ ≠ (s_.1 : Value).ownBlock ∧ some k_ ≠ (s_.2.1 : Value).ownBlock ∧ some k_ ≠ (s_.2.2.1 : Value).ownBlock) v332 t331) ∧ (Kd.R (Kd.int .i64) 3 w' w.heap.size (fun k_ => some k_ ≠ (v326 : Value).ownBlock ∧ some k_ ≠ (v329 : Value).ownBlock ∧ some k_ ≠ (v332 : Value).ownBlock ∧ some k_ ≠ (.slice Ao32 t337.length co32 : Value).ownBlock ∧ some k_ ≠ (s_.1 : Value).ownBlock ∧ some k_ ≠ (s_.2.1 : Value).ownBlock ∧ some k_ ≠ (s_.2.2.1 : Value).ownBlock) v335 t334) ∧ (Kd.R (Kd.int .i64) 3 w' w.heap.size (fun k_ => some k_ ≠ (v326 : Value).ownBlock ∧ some k_ ≠ (v329 : Value).ownBlock ∧ some k_ ≠ (v332 : Value).ownBlock ∧ some k_ ≠ (v335 : Value).ownBlock ∧ some k_ ≠ (s_.1 : Value).ownBlock ∧ some k_ ≠ (s_.2.1 : Value).ownBlock ∧ some k_ ≠ (s_.2.2.1 : Value).ownBlock) (.slice Ao32 t337.length co32) t337) ∧ (Kd.R (Kd.int .i64) 3 w' w.heap.size (fun k_ => some k_ ≠ (v326 : Value).ownBlock ∧ some k_ ≠ (v329 : Value).ownBlock ∧ some k_ ≠ (v332 : Value).ownBlock ∧ some k_ ≠ (v335 : Value).ownBlock ∧ some k_ ≠ (.slice Ao32 t337.length co32 : Value).ownBlock ∧ some k_ ≠ (s_.2.1 : Value).ownBlock ∧ some k_ ≠ (s_.2.2.1 : Value).ownBlock) s_.1 t341) ∧ (Kd.R (Kd.int .i64) 3 w' w.heap.size (fun k_ => some k_ ≠ (v326 : Value).ownBlock ∧ some k_ ≠ (v329 : Value).ownBlock ∧ some k_ ≠ (v332 : Value).ownBlock ∧ some k_ ≠ (v335 : Value).ownBlock ∧ some k_ ≠ (.slice Ao32 t337.length co32 : Value).ownBlock ∧ some k_ ≠ (s_.1 : Value).ownBlock ∧ some k_ ≠ (s_.2.2.1 : Value).ownBlock) s_.2.1 t344) ∧ (Kd.R (Kd.int .i64) 3 w' w.heap.size (fun k_ => some k_ ≠ (v326 : Value).ownBlock ∧ some k_ ≠ (v329 : Value).ownBlock ∧ some k_ ≠ (v332 : Value).ownBlock ∧ some k_ ≠ (v335 : Value).ownBlock ∧ some k_ ≠ (.slice Ao32 t337.length co32 : Value).ownBlock ∧ some k_ ≠ (s_.1 : Value).ownBlock ∧ some k_ ≠ (s_.2.1 : Value).ownBlock) s_.2.2.1 t347) ∧ (w'.heap[gb324]? = some (.cells #[.int .i64 a2_0, .int .i64 a2_1] 56 (0, 0))) ∧ (w'.heap[gb340]? = some (.cells #[.slice Ao32 t337.length co32] 98 (0, 0))) ∧ (w'.heap[s_.2.2.2]? = some (.cells #[.slice none 0 0] 98 (0, 0))) ∧ (w.heap.size ≤ s_.2.2.2) ∧ (w.heap.size ≤ s_.2.2.2) ∧ (gb324 ≠ s_.2.2.2) ∧ (s_.2.2.2 ≠ gb324) ∧ (gb340 ≠ s_.2.2.2) ∧ (s_.2.2.2 ≠ gb340) ∧ (Below w.heap.size w w')) ?_ ?_
    rotate_left
    ·intro hCont
     refine two_ (i := 1) (j := 6) (Ni := some 33) (Nj := some 11) (demurrageref03_Part.ups 8 15) (demurrageref03_Part.ups 8 77) rfl rfl rfl rfl (two_of HT_.out (by kernel_rfl)) (by decide) (by decide) (fun K hK => ?_) (fun K hK => ?_)
     ·skip
      refine goes_ Try.func49 (by kernel_rfl) rfl #[.int .i64 a3] (by rfl) rfl rfl (by (try simp only [mT_, mC_, mN_]); first | done | rfl) ?_
      with_reducible refine (demurrageref01_From.calls kj4 a3 t341 _ A15.out).mono ?_
      rintro e w36 ⟨v342, rfl, ho0, hb⟩
      refine ⟨_, rfl, ?_⟩
      have HO343 := aA_ (Kd.R_lower (Kd.R_new' (Kd.R_new' (Kd.R_new' (Kd.R_new' (Kd.R_new' ho0 (Kd.R_lt HO327.out)) (Kd.R_lt HO330.out)) (Kd.R_lt HO333.out)) (Kd.R_lt HO336.out)) (Kd.R_lt HO339.out)) (below_size (by repeat (with_reducible first | exact HB.out | apply bA_ | apply bN_ | apply bD_ | refine bS_ ?_ GE324.out | refine bS_ ?_ GE340.out))))
      replace HO327 := aA_ (Kd.R_elder' HO327.out (Kd.R_base ho0) hb)
      replace HO330 := aA_ (Kd.R_elder' HO330.out (Kd.R_base ho0) hb)
      replace HO333 := aA_ (Kd.R_elder' HO333.out (Kd.R_base ho0) hb)
      replace HO336 := aA_ (Kd.R_elder' HO336.out (Kd.R_base ho0) hb)
      replace HO339 := aA_ (Kd.R_elder' HO339.out (Kd.R_base ho0) hb)
      replace BK324 := bK_ BK324 hb
      replace BK340 := bK_ BK340 hb
      replace HB := bB_ (by repeat (with_reducible first | exact HB.out | apply bA_ | apply bN_ | apply bD_ | refine bS_ ?_ GE324.out | refine bS_ ?_ GE340.out)) hb
      (try clear hb)
      (try clear hb2)
      (try clear hk)
      (try clear hi)
      (try clear ho0)
      refine hK.out _ _ ⟨(blk_cell BK324.out 0).trans rfl, (blk_cell BK324.out 1).trans rfl⟩ (fun hHeld => ?_)
      clear hK K
      refine norm_ (by show Act.put _ (some 33) _ = _; simp only [Act.put, sT_, sZ_, sS_, i64_w, i32_w] <;> rfl) ?_
      refine two_ (i := 4) (j := 6) (Ni := some 36) (Nj := some 11) (demurrageref03_Part.ups 8 31) (demurrageref03_Part.ups 8 79) rfl rfl rfl rfl (two_of HT_.out (by kernel_rfl)) (by decide) (by decide) (fun K hK => ?_) (fun K hK => ?_)
      ·skip
       refine goes_ Try.func49 (by kernel_rfl) rfl #[.int .i64 a2_1] (by rfl) rfl rfl (by (try simp only [mT_, mC_, mN_]); first | done | rfl) ?_
       with_reducible refine (demurrageref01_From.calls kj4 a2_1 t344 _ A16.out).mono ?_
       rintro e w37 ⟨v345, rfl, ho0, hb⟩
       refine ⟨_, rfl, ?_⟩
       have HO346 := aA_ (Kd.R_lower (Kd.R_new' (Kd.R_new' (Kd.R_new' (Kd.R_new' (Kd.R_new' (Kd.R_new' ho0 (Kd.R_lt HO327.out)) (Kd.R_lt HO330.out)) (Kd.R_lt HO333.out)) (Kd.R_lt HO336.out)) (Kd.R_lt HO339.out)) (Kd.R_lt HO343.out)) (below_size (by repeat (with_reducible first | exact HB.out | apply bA_ | apply bN_ | apply bD_ | refine bS_ ?_ GE324.out | refine bS_ ?_ GE340.out))))
       replace HO327 := aA_ (Kd.R_elder' HO327.out (Kd.R_base ho0) hb)
       replace HO330 := aA_ (Kd.R_elder' HO330.out (Kd.R_base ho0) hb)
       replace HO333 := aA_ (Kd.R_elder' HO333.out (Kd.R_base ho0) hb)
       replace HO336 := aA_ (Kd.R_elder' HO336.out (Kd.R_base ho0) hb)
       replace HO339 := aA_ (Kd.R_elder' HO339.out (Kd.R_base ho0) hb)
       replace HO343 := aA_ (Kd.R_elder' HO343.out (Kd.R_base ho0) hb)
       replace BK324 := bK_ BK324 hb
       replace BK340 := bK_ BK340 hb
       replace HB := bB_ (by repeat (with_reducible first | exact HB.out | apply bA_ | apply bN_ | apply bD_ | refine bS_ ?_ GE324.out | refine bS_ ?_ GE340.out)) hb
       (try clear hb)
       (try clear hb2)
       (try clear hk)
       (try clear hi)
       (try clear ho0)
       obtain ⟨Ao38, co38, eo38⟩ := Kd.R_slice HO343.out
       (first | subst eo38 | (injection eo38 with f1_ f2_ f3_; have f4_ := f1_.symm; have f5_ := f3_.symm; clear f1_ f2_ f3_; subst f4_; subst f5_))
       obtain ⟨Ao39, co39, eo39⟩ := Kd.R_slice HO346.out
       (first | subst eo39 | (injection eo39 with f1_ f2_ f3_; have f4_ := f1_.symm; have f5_ := f3_.symm; clear f1_ f2_ f3_; subst f4_; subst f5_))
       refine hK.out _ _ ⟨(blk_cell BK324.out 0).trans rfl, (blk_cell BK324.out 1).trans rfl⟩ (fun hHeld => ?_)
       clear hK K
       refine norm_ (by show Act.put _ (some 36) _ = _; simp only [Act.put, sT_, sZ_, sS_, i64_w, i32_w] <;> rfl) ?_
       refine two_ (i := 5) (j := 6) (Ni := some 37) (Nj := some 11) (demurrageref03_Part.ups 8 63) (demurrageref03_Part.ups 8 95) rfl rfl rfl rfl (two_of HT_.out (by kernel_rfl)) (by decide) (by decide) (fun K hK => ?_) (fun K hK => ?_)
       ·skip
        refine goes_ Try.func59 (by kernel_rfl) rfl #[.agg #[.slice Ao38 t341.length co38], .agg #[.slice Ao39 t344.length co39]] (by rfl) rfl rfl (by (try simp only [mT_, mC_, mN_]); first | done | rfl) ?_
        with_reducible refine (demurrageref01_Prod.calls kj4 _ _ t341 _ _ t344 t347 _ ?side1 ?side2 ?side3 ?side4 A17.out).mono ?_
        (case side1 => repeat (first | exact (Kd.R_reads' HO343.out).2.2 | (with_reducible first | refine Kd.C_alloc ?_ _ | refine Kd.C_drewN ?_ _ | refine Kd.C_drew ?_)))
        (case side2 => exact (Kd.R_reads' HO343.out).2.1)
        (case side3 => repeat (first | exact (Kd.R_reads' HO346.out).2.2 | (with_reducible first | refine Kd.C_alloc ?_ _ | refine Kd.C_drewN ?_ _ | refine Kd.C_drew ?_)))
        (case side4 => exact (Kd.R_reads' HO346.out).2.1)
        rintro e w40 ⟨v348, rfl, ho0, hb⟩
        refine ⟨_, rfl, ?_⟩
        have HO349 := aA_ (Kd.R_lower (Kd.R_new' (Kd.R_new' (Kd.R_new' (Kd.R_new' (Kd.R_new' (Kd.R_new' (Kd.R_new' ho0 (Kd.R_lt HO327.out)) (Kd.R_lt HO330.out)) (Kd.R_lt HO333.out)) (Kd.R_lt HO336.out)) (Kd.R_lt HO339.out)) (Kd.R_lt HO343.out)) (Kd.R_lt HO346.out)) (below_size (by repeat (with_reducible first | exact HB.out | apply bA_ | apply bN_ | apply bD_ | refine bS_ ?_ GE324.out | refine bS_ ?_ GE340.out))))
        replace HO327 := aA_ (Kd.R_elder' HO327.out (Kd.R_base ho0) hb)
        replace HO330 := aA_ (Kd.R_elder' HO330.out (Kd.R_base ho0) hb)
        replace HO333 := aA_ (Kd.R_elder' HO333.out (Kd.R_base ho0) hb)
        replace HO336 := aA_ (Kd.R_elder' HO336.out (Kd.R_base ho0) hb)
        replace HO339 := aA_ (Kd.R_elder' HO339.out (Kd.R_base ho0) hb)
        replace HO343 := aA_ (Kd.R_elder' HO343.out (Kd.R_base ho0) hb)
        replace HO346 := aA_ (Kd.R_elder' HO346.out (Kd.R_base ho0) hb)
        replace BK324 := bK_ BK324 hb
        replace BK340 := bK_ BK340 hb
        replace HB := bB_ (by repeat (with_reducible first | exact HB.out | apply bA_ | apply bN_ | apply bD_ | refine bS_ ?_ GE324.out | refine bS_ ?_ GE340.out)) hb
        (try clear hb)
        (try clear hb2)
        (try clear hk)
        (try clear hi)
        (try clear ho0)
        refine hK.out _ _ ⟨(blk_cell BK324.out 0).trans rfl, (blk_cell BK324.out 1).trans rfl⟩ (fun hHeld => ?_)
        clear hK K
        refine norm_ (by show Act.put _ (some 37) _ = _; simp only [Act.put, sT_, sZ_, sS_, i64_w, i32_w] <;> rfl) ?_
        refine one_ (i := 6) (N := some 11) (demurrageref03_Part.ups 8 127) rfl rfl (one_of HT_.out (by kernel_rfl)) (by decide) (fun K hK => ?_)
        refine box_step rfl (N := 11) rfl (cs := #[.slice none 0 0]) (t := 98) ?hr ?_; (case hr => go_simp <;> rfl)
        intro gb350 hg w41 hbox hb
        replace HO327 := aA_ (Kd.R_below HO327.out hb)
        replace HO330 := aA_ (Kd.R_below HO330.out hb)
        replace HO333 := aA_ (Kd.R_below HO333.out hb)
        replace HO336 := aA_ (Kd.R_below HO336.out hb)
        replace HO339 := aA_ (Kd.R_below HO339.out hb)
        replace HO343 := aA_ (Kd.R_below HO343.out hb)
        replace HO346 := aA_ (Kd.R_below HO346.out hb)
        replace HO349 := aA_ (Kd.R_below HO349.out hb)
        have BK350 := aA_ (hbox)
        have GW350 := gW_ hg (by repeat (with_reducible first | exact HB.out | apply bA_ | apply bN_ | apply bD_ | refine bS_ ?_ GE324.out | refine bS_ ?_ GE340.out))
        have GE350 := GW350
        replace HB := bB_ (by repeat (with_reducible first | exact HB.out | apply bA_ | apply bN_ | apply bD_ | refine bS_ ?_ GE324.out | refine bS_ ?_ GE340.out)) hb
        have NB324_350 := nE_ hg BK324
        have NB350_324 := aA_ NB324_350.out.symm
        replace BK324 := bK_ BK324 hb
        have NB340_350 := nE_ hg BK340
        have NB350_340 := aA_ NB340_350.out.symm
        replace BK340 := bK_ BK340 hb
        clear hb hbox hg
        refine hK.out _ _ ⟨(blk_cell BK324.out 0).trans rfl, (blk_cell BK324.out 1).trans rfl⟩ (fun hHeld => ?_)
        clear hK K
        refine norm_ (by show Act.put _ (some 11) _ = _; simp only [Act.put, sT_, sZ_, sS_, i64_w, i32_w] <;> rfl) ?_
        exact norm_ (by simp only [putAll, Act.put, sT_, sZ_, sS_]) (hCont (.slice Ao38 t341.length co38, .slice Ao39 t344.length co39, v348, gb350) _ ⟨hHeld, (by (with_reducible repeat (first | apply Kd.R_alloc | apply Kd.R_drewN | apply Kd.R_drew)); exact Kd.R_mono HO327.out (fun _ hk => (And.intro (hk.1.1.1.1) ((And.intro (hk.1.1.1.2.1) ((And.intro (hk.1.1.1.2.2.1) ((And.intro (hk.1.1.1.2.2.2) ((And.intro (hk.1.1.2) ((And.intro (hk.1.2) (hk.2)))))))))))))), (by (with_reducible repeat (first | apply Kd.R_alloc | apply Kd.R_drewN | apply Kd.R_drew)); exact Kd.R_mono HO330.out (fun _ hk => (And.intro (hk.1.1.1.1) ((And.intro (hk.1.1.1.2.1) ((And.intro (hk.1.1.1.2.2.1) ((And.intro (hk.1.1.1.2.2.2) ((And.intro (hk.1.1.2) ((And.intro (hk.1.2) (hk.2)))))))))))))), (by (with_reducible repeat (first | apply Kd.R_alloc | apply Kd.R_drewN | apply Kd.R_drew)); exact Kd.R_mono HO333.out (fun _ hk => (And.intro (hk.1.1.1.1) ((And.intro (hk.1.1.1.2.1) ((And.intro (hk.1.1.1.2.2.1) ((And.intro (hk.1.1.1.2.2.2) ((And.intro (hk.1.1.2) ((And.intro (hk.1.2) (hk.2)))))))))))))), (by (with_reducible repeat (first | apply Kd.R_alloc | apply Kd.R_drewN | apply Kd.R_drew)); exact Kd.R_mono HO336.out (fun _ hk => (And.intro (hk.1.1.1.1) ((And.intro (hk.1.1.1.2.1) ((And.intro (hk.1.1.1.2.2.1) ((And.intro (hk.1.1.1.2.2.2) ((And.intro (hk.1.1.2) ((And.intro (hk.1.2) (hk.2)))))))))))))), (by (with_reducible repeat (first | apply Kd.R_alloc | apply Kd.R_drewN | apply Kd.R_drew)); exact Kd.R_mono HO339.out (fun _ hk => (And.intro (hk.1.1.1.1) ((And.intro (hk.1.1.1.2.1) ((And.intro (hk.1.1.1.2.2.1) ((And.intro (hk.1.1.1.2.2.2) ((And.intro (hk.1.1.2) ((And.intro (hk.1.2) (hk.2)))))))))))))), (by (with_reducible repeat (first | apply Kd.R_alloc | apply Kd.R_drewN | apply Kd.R_drew)); exact Kd.R_mono HO343.out (fun _ hk => (And.intro (hk.1.1.1.1.1.1.2) ((And.intro (hk.1.1.1.1.1.2) ((And.intro (hk.1.1.1.1.2) ((And.intro (hk.1.1.1.2) ((And.intro (hk.1.1.2) ((And.intro (hk.1.2) (hk.2)))))))))))))), (by (with_reducible repeat (first | apply Kd.R_alloc | apply Kd.R_drewN | apply Kd.R_drew)); exact Kd.R_mono HO346.out (fun _ hk => (And.intro (hk.1.1.1.1.1.1.2) ((And.intro (hk.1.1.1.1.1.2) ((And.intro (hk.1.1.1.1.2) ((And.intro (hk.1.1.1.2) ((And.intro (hk.1.1.2) ((And.intro (hk.1.2) (hk.2)))))))))))))), (by (with_reducible repeat (first | apply Kd.R_alloc | apply Kd.R_drewN | apply Kd.R_drew)); exact Kd.R_mono HO349.out (fun _ hk => (And.intro (hk.1.1.1.1.1.1.2) ((And.intro (hk.1.1.1.1.1.2) ((And.intro (hk.1.1.1.1.2) ((And.intro (hk.1.1.1.2) ((And.intro (hk.1.1.2) ((And.intro (hk.1.2) (hk.2)))))))))))))), BK324.out, BK340.out, BK350.out, GW350.out, GE350.out, NB324_350.out, NB350_324.out, NB340_350.out, NB350_340.out, (by repeat (with_reducible first | exact HB.out | apply bA_ | apply bN_ | apply bD_ | refine bS_ ?_ GE324.out | refine bS_ ?_ GE340.out | refine bS_ ?_ GE350.out))⟩)
       ·skip
        refine box_step rfl (N := 11) rfl (cs := #[.slice none 0 0]) (t := 98) ?hr ?_; (case hr => go_simp <;> rfl)
        intro gb350 hg w38 hbox hb
        replace HO327 := aA_ (Kd.R_below HO327.out hb)
        replace HO330 := aA_ (Kd.R_below HO330.out hb)
        replace HO333 := aA_ (Kd.R_below HO333.out hb)
        replace HO336 := aA_ (Kd.R_below HO336.out hb)
        replace HO339 := aA_ (Kd.R_below HO339.out hb)
        replace HO343 := aA_ (Kd.R_below HO343.out hb)
        replace HO346 := aA_ (Kd.R_below HO346.out hb)
        have BK350 := aA_ (hbox)
        have GW350 := gW_ hg (by repeat (with_reducible first | exact HB.out | apply bA_ | apply bN_ | apply bD_ | refine bS_ ?_ GE324.out | refine bS_ ?_ GE340.out))
        have GE350 := GW350
        replace HB := bB_ (by repeat (with_reducible first | exact HB.out | apply bA_ | apply bN_ | apply bD_ | refine bS_ ?_ GE324.out | refine bS_ ?_ GE340.out)) hb
        have NB324_350 := nE_ hg BK324
        have NB350_324 := aA_ NB324_350.out.symm
        replace BK324 := bK_ BK324 hb
        have NB340_350 := nE_ hg BK340
        have NB350_340 := aA_ NB340_350.out.symm
        replace BK340 := bK_ BK340 hb
        clear hb hbox hg
        obtain ⟨Ao39, co39, eo39⟩ := Kd.R_slice HO343.out
        (first | subst eo39 | (injection eo39 with f1_ f2_ f3_; have f4_ := f1_.symm; have f5_ := f3_.symm; clear f1_ f2_ f3_; subst f4_; subst f5_))
        obtain ⟨Ao40, co40, eo40⟩ := Kd.R_slice HO346.out
        (first | subst eo40 | (injection eo40 with f1_ f2_ f3_; have f4_ := f1_.symm; have f5_ := f3_.symm; clear f1_ f2_ f3_; subst f4_; subst f5_))
        refine hK.out _ _ ⟨(blk_cell BK324.out 0).trans rfl, (blk_cell BK324.out 1).trans rfl⟩ (fun hHeld => ?_)
        clear hK K
        refine norm_ (by show Act.put _ (some 11) _ = _; simp only [Act.put, sT_, sZ_, sS_, i64_w, i32_w] <;> rfl) ?_
        refine one_ (i := 5) (N := some 37) (demurrageref03_Part.ups 8 127) rfl rfl (one_of HT_.out (by kernel_rfl)) (by decide) (fun K hK => ?_)
        refine goes_ Try.func59 (by kernel_rfl) rfl #[.agg #[.slice Ao39 t341.length co39], .agg #[.slice Ao40 t344.length co40]] (by rfl) rfl rfl (by (try simp only [mT_, mC_, mN_]); first | done | rfl) ?_
        with_reducible refine (demurrageref01_Prod.calls kj4 _ _ t341 _ _ t344 t347 _ ?side1 ?side2 ?side3 ?side4 A17.out).mono ?_
        (case side1 => repeat (first | exact (Kd.R_reads' HO343.out).2.2 | (with_reducible first | refine Kd.C_alloc ?_ _ | refine Kd.C_drewN ?_ _ | refine Kd.C_drew ?_)))
        (case side2 => exact (Kd.R_reads' HO343.out).2.1)
        (case side3 => repeat (first | exact (Kd.R_reads' HO346.out).2.2 | (with_reducible first | refine Kd.C_alloc ?_ _ | refine Kd.C_drewN ?_ _ | refine Kd.C_drew ?_)))
        (case side4 => exact (Kd.R_reads' HO346.out).2.1)
        rintro e w41 ⟨v348, rfl, ho0, hb⟩
        refine ⟨_, rfl, ?_⟩
        have HO349 := aA_ (Kd.R_lower (Kd.R_new' (Kd.R_new' (Kd.R_new' (Kd.R_new' (Kd.R_new' (Kd.R_new' (Kd.R_new' ho0 (Kd.R_lt HO327.out)) (Kd.R_lt HO330.out)) (Kd.R_lt HO333.out)) (Kd.R_lt HO336.out)) (Kd.R_lt HO339.out)) (Kd.R_lt HO343.out)) (Kd.R_lt HO346.out)) (below_size (by repeat (with_reducible first | exact HB.out | apply bA_ | apply bN_ | apply bD_ | refine bS_ ?_ GE324.out | refine bS_ ?_ GE340.out | refine bS_ ?_ GE350.out))))
        replace HO327 := aA_ (Kd.R_elder' HO327.out (Kd.R_base ho0) hb)
        replace HO330 := aA_ (Kd.R_elder' HO330.out (Kd.R_base ho0) hb)
        replace HO333 := aA_ (Kd.R_elder' HO333.out (Kd.R_base ho0) hb)
        replace HO336 := aA_ (Kd.R_elder' HO336.out (Kd.R_base ho0) hb)
        replace HO339 := aA_ (Kd.R_elder' HO339.out (Kd.R_base ho0) hb)
        replace HO343 := aA_ (Kd.R_elder' HO343.out (Kd.R_base ho0) hb)
        replace HO346 := aA_ (Kd.R_elder' HO346.out (Kd.R_base ho0) hb)
        replace BK324 := bK_ BK324 hb
        replace BK340 := bK_ BK340 hb
        replace BK350 := bK_ BK350 hb
        replace HB := bB_ (by repeat (with_reducible first | exact HB.out | apply bA_ | apply bN_ | apply bD_ | refine bS_ ?_ GE324.out | refine bS_ ?_ GE340.out | refine bS_ ?_ GE350.out)) hb
        (try clear hb)
        (try clear hb2)
        (try clear hk)
        (try clear hi)
        (try clear ho0)
        refine hK.out _ _ ⟨(blk_cell BK324.out 0).trans rfl, (blk_cell BK324.out 1).trans rfl⟩ (fun hHeld => ?_)
        clear hK K
        refine norm_ (by show Act.put _ (some 37) _ = _; simp only [Act.put, sT_, sZ_, sS_, i64_w, i32_w] <;> rfl) ?_
        exact norm_ (by simp only [putAll, Act.put, sT_, sZ_, sS_]) (hCont (.slice Ao39 t341.length co39, .slice Ao40 t344.length co40, v348, gb350) _ ⟨hHeld, (by (with_reducible repeat (first | apply Kd.R_alloc | apply Kd.R_drewN | apply Kd.R_drew)); exact Kd.R_mono HO327.out (fun _ hk => (And.intro (hk.1.1.1.1) ((And.intro (hk.1.1.1.2.1) ((And.intro (hk.1.1.1.2.2.1) ((And.intro (hk.1.1.1.2.2.2) ((And.intro (hk.1.1.2) ((And.intro (hk.1.2) (hk.2)))))))))))))), (by (with_reducible repeat (first | apply Kd.R_alloc | apply Kd.R_drewN | apply Kd.R_drew)); exact Kd.R_mono HO330.out (fun _ hk => (And.intro (hk.1.1.1.1) ((And.intro (hk.1.1.1.2.1) ((And.intro (hk.1.1.1.2.2.1) ((And.intro (hk.1.1.1.2.2.2) ((And.intro (hk.1.1.2) ((And.intro (hk.1.2) (hk.2)))))))))))))), (by (with_reducible repeat (first | apply Kd.R_alloc | apply Kd.R_drewN | apply Kd.R_drew)); exact Kd.R_mono HO333.out (fun _ hk => (And.intro (hk.1.1.1.1) ((And.intro (hk.1.1.1.2.1) ((And.intro (hk.1.1.1.2.2.1) ((And.intro (hk.1.1.1.2.2.2) ((And.intro (hk.1.1.2) ((And.intro (hk.1.2) (hk.2)))))))))))))), (by (with_reducible repeat (first | apply Kd.R_alloc | apply Kd.R_drewN | apply Kd.R_drew)); exact Kd.R_mono HO336.out (fun _ hk => (And.intro (hk.1.1.1.1) ((And.intro (hk.1.1.1.2.1) ((And.intro (hk.1.1.1.2.2.1) ((And.intro (hk.1.1.1.2.2.2) ((And.intro (hk.1.1.2) ((And.intro (hk.1.2) (hk.2)))))))))))))), (by (with_reducible repeat (first | apply Kd.R_alloc | apply Kd.R_drewN | apply Kd.R_drew)); exact Kd.R_mono HO339.out (fun _ hk => (And.intro (hk.1.1.1.1) ((And.intro (hk.1.1.1.2.1) ((And.intro (hk.1.1.1.2.2.1) ((And.intro (hk.1.1.1.2.2.2) ((And.intro (hk.1.1.2) ((And.intro (hk.1.2) (hk.2)))))))))))))), (by (with_reducible repeat (first | apply Kd.R_alloc | apply Kd.R_drewN | apply Kd.R_drew)); exact Kd.R_mono HO343.out (fun _ hk => (And.intro (hk.1.1.1.1.1.1.2) ((And.intro (hk.1.1.1.1.1.2) ((And.intro (hk.1.1.1.1.2) ((And.intro (hk.1.1.1.2) ((And.intro (hk.1.1.2) ((And.intro (hk.1.2) (hk.2)))))))))))))), (by (with_reducible repeat (first | apply Kd.R_alloc | apply Kd.R_drewN | apply Kd.R_drew)); exact Kd.R_mono HO346.out (fun _ hk => (And.intro (hk.1.1.1.1.1.1.2) ((And.intro (hk.1.1.1.1.1.2) ((And.intro (hk.1.1.1.1.2) ((And.intro (hk.1.1.1.2) ((And.intro (hk.1.1.2) ((And.intro (hk.1.2) (hk.2)))))))))))))), (by (with_reducible repeat (first | apply Kd.R_alloc | apply Kd.R_drewN | apply Kd.R_drew)); exact Kd.R_mono HO349.out (fun _ hk => (And.intro (hk.1.1.1.1.1.1.2) ((And.intro (hk.1.1.1.1.1.2) ((And.intro (hk.1.1.1.1.2) ((And.intro (hk.1.1.1.2) ((And.intro (hk.1.1.2) ((And.intro (hk.1.2) (hk.2)))))))))))))), BK324.out, BK340.out, BK350.out, GW350.out, GE350.out, NB324_350.out, NB350_324.out, NB340_350.out, NB350_340.out, (by repeat (with_reducible first | exact HB.out | apply bA_ | apply bN_ | apply bD_ | refine bS_ ?_ GE324.out | refine bS_ ?_ GE340.out | refine bS_ ?_ GE350.out))⟩)
      ·skip
       refine box_step rfl (N := 11) rfl (cs := #[.slice none 0 0]) (t := 98) ?hr ?_; (case hr => go_simp <;> rfl)
       intro gb350 hg w37 hbox hb
       replace HO327 := aA_ (Kd.R_below HO327.out hb)
       replace HO330 := aA_ (Kd.R_below HO330.out hb)
       replace HO333 := aA_ (Kd.R_below HO333.out hb)
       replace HO336 := aA_ (Kd.R_below HO336.out hb)
       replace HO339 := aA_ (Kd.R_below HO339.out hb)
       replace HO343 := aA_ (Kd.R_below HO343.out hb)
       have BK350 := aA_ (hbox)
       have GW350 := gW_ hg (by repeat (with_reducible first | exact HB.out | apply bA_ | apply bN_ | apply bD_ | refine bS_ ?_ GE324.out | refine bS_ ?_ GE340.out))
       have GE350 := GW350
       replace HB := bB_ (by repeat (with_reducible first | exact HB.out | apply bA_ | apply bN_ | apply bD_ | refine bS_ ?_ GE324.out | refine bS_ ?_ GE340.out)) hb
       have NB324_350 := nE_ hg BK324
       have NB350_324 := aA_ NB324_350.out.symm
       replace BK324 := bK_ BK324 hb
       have NB340_350 := nE_ hg BK340
       have NB350_340 := aA_ NB340_350.out.symm
       replace BK340 := bK_ BK340 hb
       clear hb hbox hg
       refine hK.out _ _ ⟨(blk_cell BK324.out 0).trans rfl, (blk_cell BK324.out 1).trans rfl⟩ (fun hHeld => ?_)
       clear hK K
       refine norm_ (by show Act.put _ (some 11) _ = _; simp only [Act.put, sT_, sZ_, sS_, i64_w, i32_w] <;> rfl) ?_
       refine one_ (i := 4) (N := some 36) (demurrageref03_Part.ups 8 95) rfl rfl (one_of HT_.out (by kernel_rfl)) (by decide) (fun K hK => ?_)
       refine goes_ Try.func49 (by kernel_rfl) rfl #[.int .i64 a2_1] (by rfl) rfl rfl (by (try simp only [mT_, mC_, mN_]); first | done | rfl) ?_
       with_reducible refine (demurrageref01_From.calls kj4 a2_1 t344 _ A16.out).mono ?_
       rintro e w38 ⟨v345, rfl, ho0, hb⟩
       refine ⟨_, rfl, ?_⟩
       have HO346 := aA_ (Kd.R_lower (Kd.R_new' (Kd.R_new' (Kd.R_new' (Kd.R_new' (Kd.R_new' (Kd.R_new' ho0 (Kd.R_lt HO327.out)) (Kd.R_lt HO330.out)) (Kd.R_lt HO333.out)) (Kd.R_lt HO336.out)) (Kd.R_lt HO339.out)) (Kd.R_lt HO343.out)) (below_size (by repeat (with_reducible first | exact HB.out | apply bA_ | apply bN_ | apply bD_ | refine bS_ ?_ GE324.out | refine bS_ ?_ GE340.out | refine bS_ ?_ GE350.out))))
       replace HO327 := aA_ (Kd.R_elder' HO327.out (Kd.R_base ho0) hb)
       replace HO330 := aA_ (Kd.R_elder' HO330.out (Kd.R_base ho0) hb)
       replace HO333 := aA_ (Kd.R_elder' HO333.out (Kd.R_base ho0) hb)
       replace HO336 := aA_ (Kd.R_elder' HO336.out (Kd.R_base ho0) hb)
       replace HO339 := aA_ (Kd.R_elder' HO339.out (Kd.R_base ho0) hb)
       replace HO343 := aA_ (Kd.R_elder' HO343.out (Kd.R_base ho0) hb)
       replace BK324 := bK_ BK324 hb
       replace BK340 := bK_ BK340 hb
       replace BK350 := bK_ BK350 hb
       replace HB := bB_ (by repeat (with_reducible first | exact HB.out | apply bA_ | apply bN_ | apply bD_ | refine bS_ ?_ GE324.out | refine bS_ ?_ GE340.out | refine bS_ ?_ GE350.out)) hb
       (try clear hb)
       (try clear hb2)
       (try clear hk)
       (try clear hi)
       (try clear ho0)
       obtain ⟨Ao39, co39, eo39⟩ := Kd.R_slice HO343.out
       (first | subst eo39 | (injection eo39 with f1_ f2_ f3_; have f4_ := f1_.symm; have f5_ := f3_.symm; clear f1_ f2_ f3_; subst f4_; subst f5_))
       obtain ⟨Ao40, co40, eo40⟩ := Kd.R_slice HO346.out
       (first | subst eo40 | (injection eo40 with f1_ f2_ f3_; have f4_ := f1_.symm; have f5_ := f3_.symm; clear f1_ f2_ f3_; subst f4_; subst f5_))
       refine hK.out _ _ ⟨(blk_cell BK324.out 0).trans rfl, (blk_cell BK324.out 1).trans rfl⟩ (fun hHeld => ?_)
       clear hK K
       refine norm_ (by show Act.put _ (some 36) _ = _; simp only [Act.put, sT_, sZ_, sS_, i64_w, i32_w] <;> rfl) ?_
       refine one_ (i := 5) (N := some 37) (demurrageref03_Part.ups 8 127) rfl rfl (one_of HT_.out (by kernel_rfl)) (by decide) (fun K hK => ?_)
       refine goes_ Try.func59 (by kernel_rfl) rfl #[.agg #[.slice Ao39 t341.length co39], .agg #[.slice Ao40 t344.length co40]] (by rfl) rfl rfl (by (try simp only [mT_, mC_, mN_]); first | done | rfl) ?_
       with_reducible refine (demurrageref01_Prod.calls kj4 _ _ t341 _ _ t344 t347 _ ?side1 ?side2 ?side3 ?side4 A17.out).mono ?_
       (case side1 => repeat (first | exact (Kd.R_reads' HO343.out).2.2 | (with_reducible first | refine Kd.C_alloc ?_ _ | refine Kd.C_drewN ?_ _ | refine Kd.C_drew ?_)))
       (case side2 => exact (Kd.R_reads' HO343.out).2.1)
       (case side3 => repeat (first | exact (Kd.R_reads' HO346.out).2.2 | (with_reducible first | refine Kd.C_alloc ?_ _ | refine Kd.C_drewN ?_ _ | refine Kd.C_drew ?_)))
       (case side4 => exact (Kd.R_reads' HO346.out).2.1)
       rintro e w41 ⟨v348, rfl, ho0, hb⟩
       refine ⟨_, rfl, ?_⟩
       have HO349 := aA_ (Kd.R_lower (Kd.R_new' (Kd.R_new' (Kd.R_new' (Kd.R_new' (Kd.R_new' (Kd.R_new' (Kd.R_new' ho0 (Kd.R_lt HO327.out)) (Kd.R_lt HO330.out)) (Kd.R_lt HO333.out)) (Kd.R_lt HO336.out)) (Kd.R_lt HO339.out)) (Kd.R_lt HO343.out)) (Kd.R_lt HO346.out)) (below_size (by repeat (with_reducible first | exact HB.out | apply bA_ | apply bN_ | apply bD_ | refine bS_ ?_ GE324.out | refine bS_ ?_ GE340.out | refine bS_ ?_ GE350.out))))
       replace HO327 := aA_ (Kd.R_elder' HO327.out (Kd.R_base ho0) hb)
       replace HO330 := aA_ (Kd.R_elder' HO330.out (Kd.R_base ho0) hb)
       replace HO333 := aA_ (Kd.R_elder' HO333.out (Kd.R_base ho0) hb)
       replace HO336 := aA_ (Kd.R_elder' HO336.out (Kd.R_base ho0) hb)
       replace HO339 := aA_ (Kd.R_elder' HO339.out (Kd.R_base ho0) hb)
       replace HO343 := aA_ (Kd.R_elder' HO343.out (Kd.R_base ho0) hb)
       replace HO346 := aA_ (Kd.R_elder' HO346.out (Kd.R_base ho0) hb)
       replace BK324 := bK_ BK324 hb
       replace BK340 := bK_ BK340 hb
       replace BK350 := bK_ BK350 hb
       replace HB := bB_ (by repeat (with_reducible first | exact HB.out | apply bA_ | apply bN_ | apply bD_ | refine bS_ ?_ GE324.out | refine bS_ ?_ GE340.out | refine bS_ ?_ GE350.out)) hb
       (try clear hb)
       (try clear hb2)
       (try clear hk)
       (try clear hi)
       (try clear ho0)
       refine hK.out _ _ ⟨(blk_cell BK324.out 0).trans rfl, (blk_cell BK324.out 1).trans rfl⟩ (fun hHeld => ?_)
       clear hK K
       refine norm_ (by show Act.put _ (some 37) _ = _; simp only [Act.put, sT_, sZ_, sS_, i64_w, i32_w] <;> rfl) ?_
       exact norm_ (by simp only [putAll, Act.put, sT_, sZ_, sS_]) (hCont (.slice Ao39 t341.length co39, .slice Ao40 t344.length co40, v348, gb350) _ ⟨hHeld, (by (with_reducible repeat (first | apply Kd.R_alloc | apply Kd.R_drewN | apply Kd.R_drew)); exact Kd.R_mono HO327.out (fun _ hk => (And.intro (hk.1.1.1.1) ((And.intro (hk.1.1.1.2.1) ((And.intro (hk.1.1.1.2.2.1) ((And.intro (hk.1.1.1.2.2.2) ((And.intro (hk.1.1.2) ((And.intro (hk.1.2) (hk.2)))))))))))))), (by (with_reducible repeat (first | apply Kd.R_alloc | apply Kd.R_drewN | apply Kd.R_drew)); exact Kd.R_mono HO330.out (fun _ hk => (And.intro (hk.1.1.1.1) ((And.intro (hk.1.1.1.2.1) ((And.intro (hk.1.1.1.2.2.1) ((And.intro (hk.1.1.1.2.2.2) ((And.intro (hk.1.1.2) ((And.intro (hk.1.2) (hk.2)))))))))))))), (by (with_reducible repeat (first | apply Kd.R_alloc | apply Kd.R_drewN | apply Kd.R_drew)); exact Kd.R_mono HO333.out (fun _ hk => (And.intro (hk.1.1.1.1) ((And.intro (hk.1.1.1.2.1) ((And.intro (hk.1.1.1.2.2.1) ((And.intro (hk.1.1.1.2.2.2) ((And.intro (hk.1.1.2) ((And.intro (hk.1.2) (hk.2)))))))))))))), (by (with_reducible repeat (first | apply Kd.R_alloc | apply Kd.R_drewN | apply Kd.R_drew)); exact Kd.R_mono HO336.out (fun _ hk => (And.intro (hk.1.1.1.1) ((And.intro (hk.1.1.1.2.1) ((And.intro (hk.1.1.1.2.2.1) ((And.intro (hk.1.1.1.2.2.2) ((And.intro (hk.1.1.2) ((And.intro (hk.1.2) (hk.2)))))))))))))), (by (with_reducible repeat (first | apply Kd.R_alloc | apply Kd.R_drewN | apply Kd.R_drew)); exact Kd.R_mono HO339.out (fun _ hk => (And.intro (hk.1.1.1.1) ((And.intro (hk.1.1.1.2.1) ((And.intro (hk.1.1.1.2.2.1) ((And.intro (hk.1.1.1.2.2.2) ((And.intro (hk.1.1.2) ((And.intro (hk.1.2) (hk.2)))))))))))))), (by (with_reducible repeat (first | apply Kd.R_alloc | apply Kd.R_drewN | apply Kd.R_drew)); exact Kd.R_mono HO343.out (fun _ hk => (And.intro (hk.1.1.1.1.1.1.2) ((And.intro (hk.1.1.1.1.1.2) ((And.intro (hk.1.1.1.1.2) ((And.intro (hk.1.1.1.2) ((And.intro (hk.1.1.2) ((And.intro (hk.1.2) (hk.2)))))))))))))), (by (with_reducible repeat (first | apply Kd.R_alloc | apply Kd.R_drewN | apply Kd.R_drew)); exact Kd.R_mono HO346.out (fun _ hk => (And.intro (hk.1.1.1.1.1.1.2) ((And.intro (hk.1.1.1.1.1.2) ((And.intro (hk.1.1.1.1.2) ((And.intro (hk.1.1.1.2) ((And.intro (hk.1.1.2) ((And.intro (hk.1.2) (hk.2)))))))))))))), (by (with_reducible repeat (first | apply Kd.R_alloc | apply Kd.R_drewN | apply Kd.R_drew)); exact Kd.R_mono HO349.out (fun _ hk => (And.intro (hk.1.1.1.1.1.1.2) ((And.intro (hk.1.1.1.1.1.2) ((And.intro (hk.1.1.1.1.2) ((And.intro (hk.1.1.1.2) ((And.intro (hk.1.1.2) ((And.intro (hk.1.2) (hk.2)))))))))))))), BK324.out, BK340.out, BK350.out, GW350.out, GE350.out, NB324_350.out, NB350_324.out, NB340_350.out, NB350_340.out, (by repeat (with_reducible first | exact HB.out | apply bA_ | apply bN_ | apply bD_ | refine bS_ ?_ GE324.out | refine bS_ ?_ GE340.out | refine bS_ ?_ GE350.out))⟩)
     ·skip
      refine box_step rfl (N := 11) rfl (cs := #[.slice none 0 0]) (t := 98) ?hr ?_; (case hr => go_simp <;> rfl)
      intro gb350 hg w36 hbox hb
      replace HO327 := aA_ (Kd.R_below HO327.out hb)
      replace HO330 := aA_ (Kd.R_below HO330.out hb)
      replace HO333 := aA_ (Kd.R_below HO333.out hb)
      replace HO336 := aA_ (Kd.R_below HO336.out hb)
      replace HO339 := aA_ (Kd.R_below HO339.out hb)
      have BK350 := aA_ (hbox)
      have GW350 := gW_ hg (by repeat (with_reducible first | exact HB.out | apply bA_ | apply bN_ | apply bD_ | refine bS_ ?_ GE324.out | refine bS_ ?_ GE340.out))
      have GE350 := GW350
      replace HB := bB_ (by repeat (with_reducible first | exact HB.out | apply bA_ | apply bN_ | apply bD_ | refine bS_ ?_ GE324.out | refine bS_ ?_ GE340.out)) hb
      have NB324_350 := nE_ hg BK324
      have NB350_324 := aA_ NB324_350.out.symm
      replace BK324 := bK_ BK324 hb
      have NB340_350 := nE_ hg BK340
      have NB350_340 := aA_ NB340_350.out.symm
      replace BK340 := bK_ BK340 hb
      clear hb hbox hg
      refine hK.out _ _ ⟨(blk_cell BK324.out 0).trans rfl, (blk_cell BK324.out 1).trans rfl⟩ (fun hHeld => ?_)
      clear hK K
      refine norm_ (by show Act.put _ (some 11) _ = _; simp only [Act.put, sT_, sZ_, sS_, i64_w, i32_w] <;> rfl) ?_
      refine one_ (i := 1) (N := some 33) (demurrageref03_Part.ups 8 79) rfl rfl (one_of HT_.out (by kernel_rfl)) (by decide) (fun K hK => ?_)
      refine goes_ Try.func49 (by kernel_rfl) rfl #[.int .i64 a3] (by rfl) rfl rfl (by (try simp only [mT_, mC_, mN_]); first | done | rfl) ?_
      with_reducible refine (demurrageref01_From.calls kj4 a3 t341 _ A15.out).mono ?_
      rintro e w37 ⟨v342, rfl, ho0, hb⟩
      refine ⟨_, rfl, ?_⟩
      have HO343 := aA_ (Kd.R_lower (Kd.R_new' (Kd.R_new' (Kd.R_new' (Kd.R_new' (Kd.R_new' ho0 (Kd.R_lt HO327.out)) (Kd.R_lt HO330.out)) (Kd.R_lt HO333.out)) (Kd.R_lt HO336.out)) (Kd.R_lt HO339.out)) (below_size (by repeat (with_reducible first | exact HB.out | apply bA_ | apply bN_ | apply bD_ | refine bS_ ?_ GE324.out | refine bS_ ?_ GE340.out | refine bS_ ?_ GE350.out))))
      replace HO327 := aA_ (Kd.R_elder' HO327.out (Kd.R_base ho0) hb)
      replace HO330 := aA_ (Kd.R_elder' HO330.out (Kd.R_base ho0) hb)
      replace HO333 := aA_ (Kd.R_elder' HO333.out (Kd.R_base ho0) hb)
      replace HO336 := aA_ (Kd.R_elder' HO336.out (Kd.R_base ho0) hb)
      replace HO339 := aA_ (Kd.R_elder' HO339.out (Kd.R_base ho0) hb)
      replace BK324 := bK_ BK324 hb
      replace BK340 := bK_ BK340 hb
      replace BK350 := bK_ BK350 hb
      replace HB := bB_ (by repeat (with_reducible first | exact HB.out | apply bA_ | apply bN_ | apply bD_ | refine bS_ ?_ GE324.out | refine bS_ ?_ GE340.out | refine bS_ ?_ GE350.out)) hb
      (try clear hb)
      (try clear hb2)
      (try clear hk)
      (try clear hi)
      (try clear ho0)
      refine hK.out _ _ ⟨(blk_cell BK324.out 0).trans rfl, (blk_cell BK324.out 1).trans rfl⟩ (fun hHeld => ?_)
      clear hK K
      refine norm_ (by show Act.put _ (some 33) _ = _; simp only [Act.put, sT_, sZ_, sS_, i64_w, i32_w] <;> rfl) ?_
      refine one_ (i := 4) (N := some 36) (demurrageref03_Part.ups 8 95) rfl rfl (one_of HT_.out (by kernel_rfl)) (by decide) (fun K hK => ?_)
      refine goes_ Try.func49 (by kernel_rfl) rfl #[.int .i64 a2_1] (by rfl) rfl rfl (by (try simp only [mT_, mC_, mN_]); first | done | rfl) ?_
      with_reducible refine (demurrageref01_From.calls kj4 a2_1 t344 _ A16.out).mono ?_
      rintro e w38 ⟨v345, rfl, ho0, hb⟩
      refine ⟨_, rfl, ?_⟩
      have HO346 := aA_ (Kd.R_lower (Kd.R_new' (Kd.R_new' (Kd.R_new' (Kd.R_new' (Kd.R_new' (Kd.R_new' ho0 (Kd.R_lt HO327.out)) (Kd.R_lt HO330.out)) (Kd.R_lt HO333.out)) (Kd.R_lt HO336.out)) (Kd.R_lt HO339.out)) (Kd.R_lt HO343.out)) (below_size (by repeat (with_reducible first | exact HB.out | apply bA_ | apply bN_ | apply bD_ | refine bS_ ?_ GE324.out | refine bS_ ?_ GE340.out | refine bS_ ?_ GE350.out))))
      replace HO327 := aA_ (Kd.R_elder' HO327.out (Kd.R_base ho0) hb)
      replace HO330 := aA_ (Kd.R_elder' HO330.out (Kd.R_base ho0) hb)
      replace HO333 := aA_ (Kd.R_elder' HO333.out (Kd.R_base ho0) hb)
      replace HO336 := aA_ (Kd.R_elder' HO336.out (Kd.R_base ho0) hb)
      replace HO339 := aA_ (Kd.R_elder' HO339.out (Kd.R_base ho0) hb)
      replace HO343 := aA_ (Kd.R_elder' HO343.out (Kd.R_base ho0) hb)
      replace BK324 := bK_ BK324 hb
      replace BK340 := bK_ BK340 hb
      replace BK350 := bK_ BK350 hb
      replace HB := bB_ (by repeat (with_reducible first | exact HB.out | apply bA_ | apply bN_ | apply bD_ | refine bS_ ?_ GE324.out | refine bS_ ?_ GE340.out | refine bS_ ?_ GE350.out)) hb
      (try clear hb)
      (try clear hb2)
      (try clear hk)
      (try clear hi)
      (try clear ho0)
      obtain ⟨Ao39, co39, eo39⟩ := Kd.R_slice HO343.out
      (first | subst eo39 | (injection eo39 with f1_ f2_ f3_; have f4_ := f1_.symm; have f5_ := f3_.symm; clear f1_ f2_ f3_; subst f4_; subst f5_))
      obtain ⟨Ao40, co40, eo40⟩ := Kd.R_slice HO346.out
      (first | subst eo40 | (injection eo40 with f1_ f2_ f3_; have f4_ := f1_.symm; have f5_ := f3_.symm; clear f1_ f2_ f3_; subst f4_; subst f5_))
      refine hK.out _ _ ⟨(blk_cell BK324.out 0).trans rfl, (blk_cell BK324.out 1).trans rfl⟩ (fun hHeld => ?_)
      clear hK K
      refine norm_ (by show Act.put _ (some 36) _ = _; simp only [Act.put, sT_, sZ_, sS_, i64_w, i32_w] <;> rfl) ?_
      refine one_ (i := 5) (N := some 37) (demurrageref03_Part.ups 8 127) rfl rfl (one_of HT_.out (by kernel_rfl)) (by decide) (fun K hK => ?_)
      refine goes_ Try.func59 (by kernel_rfl) rfl #[.agg #[.slice Ao39 t341.length co39], .agg #[.slice Ao40 t344.length co40]] (by rfl) rfl rfl (by (try simp only [mT_, mC_, mN_]); first | done | rfl) ?_
      with_reducible refine (demurrageref01_Prod.calls kj4 _ _ t341 _ _ t344 t347 _ ?side1 ?side2 ?side3 ?side4 A17.out).mono ?_
      (case side1 => repeat (first | exact (Kd.R_reads' HO343.out).2.2 | (with_reducible first | refine Kd.C_alloc ?_ _ | refine Kd.C_drewN ?_ _ | refine Kd.C_drew ?_)))
      (case side2 => exact (Kd.R_reads' HO343.out).2.1)
      (case side3 => repeat (first | exact (Kd.R_reads' HO346.out).2.2 | (with_reducible first | refine Kd.C_alloc ?_ _ | refine Kd.C_drewN ?_ _ | refine Kd.C_drew ?_)))
      (case side4 => exact (Kd.R_reads' HO346.out).2.1)
      rintro e w41 ⟨v348, rfl, ho0, hb⟩
      refine ⟨_, rfl, ?_⟩
      have HO349 := aA_ (Kd.R_lower (Kd.R_new' (Kd.R_new' (Kd.R_new' (Kd.R_new' (Kd.R_new' (Kd.R_new' (Kd.R_new' ho0 (Kd.R_lt HO327.out)) (Kd.R_lt HO330.out)) (Kd.R_lt HO333.out)) (Kd.R_lt HO336.out)) (Kd.R_lt HO339.out)) (Kd.R_lt HO343.out)) (Kd.R_lt HO346.out)) (below_size (by repeat (with_reducible first | exact HB.out | apply bA_ | apply bN_ | apply bD_ | refine bS_ ?_ GE324.out | refine bS_ ?_ GE340.out | refine bS_ ?_ GE350.out))))
      replace HO327 := aA_ (Kd.R_elder' HO327.out (Kd.R_base ho0) hb)
      replace HO330 := aA_ (Kd.R_elder' HO330.out (Kd.R_base ho0) hb)
      replace HO333 := aA_ (Kd.R_elder' HO333.out (Kd.R_base ho0) hb)
      replace HO336 := aA_ (Kd.R_elder' HO336.out (Kd.R_base ho0) hb)
      replace HO339 := aA_ (Kd.R_elder' HO339.out (Kd.R_base ho0) hb)
      replace HO343 := aA_ (Kd.R_elder' HO343.out (Kd.R_base ho0) hb)
      replace HO346 := aA_ (Kd.R_elder' HO346.out (Kd.R_base ho0) hb)
      replace BK324 := bK_ BK324 hb
      replace BK340 := bK_ BK340 hb
      replace BK350 := bK_ BK350 hb
      replace HB := bB_ (by repeat (with_reducible first | exact HB.out | apply bA_ | apply bN_ | apply bD_ | refine bS_ ?_ GE324.out | refine bS_ ?_ GE340.out | refine bS_ ?_ GE350.out)) hb
      (try clear hb)
      (try clear hb2)
      (try clear hk)
      (try clear hi)
      (try clear ho0)
      refine hK.out _ _ ⟨(blk_cell BK324.out 0).trans rfl, (blk_cell BK324.out 1).trans rfl⟩ (fun hHeld => ?_)
      clear hK K
      refine norm_ (by show Act.put _ (some 37) _ = _; simp only [Act.put, sT_, sZ_, sS_, i64_w, i32_w] <;> rfl) ?_
      exact norm_ (by simp only [putAll, Act.put, sT_, sZ_, sS_]) (hCont (.slice Ao39 t341.length co39, .slice Ao40 t344.length co40, v348, gb350) _ ⟨hHeld, (by (with_reducible repeat (first | apply Kd.R_alloc | apply Kd.R_drewN | apply Kd.R_drew)); exact Kd.R_mono HO327.out (fun _ hk => (And.intro (hk.1.1.1.1) ((And.intro (hk.1.1.1.2.1) ((And.intro (hk.1.1.1.2.2.1) ((And.intro (hk.1.1.1.2.2.2) ((And.intro (hk.1.1.2) ((And.intro (hk.1.2) (hk.2)))))))))))))), (by (with_reducible repeat (first | apply Kd.R_alloc | apply Kd.R_drewN | apply Kd.R_drew)); exact Kd.R_mono HO330.out (fun _ hk => (And.intro (hk.1.1.1.1) ((And.intro (hk.1.1.1.2.1) ((And.intro (hk.1.1.1.2.2.1) ((And.intro (hk.1.1.1.2.2.2) ((And.intro (hk.1.1.2) ((And.intro (hk.1.2) (hk.2)))))))))))))), (by (with_reducible repeat (first | apply Kd.R_alloc | apply Kd.R_drewN | apply Kd.R_drew)); exact Kd.R_mono HO333.out (fun _ hk => (And.intro (hk.1.1.1.1) ((And.intro (hk.1.1.1.2.1) ((And.intro (hk.1.1.1.2.2.1) ((And.intro (hk.1.1.1.2.2.2) ((And.intro (hk.1.1.2) ((And.intro (hk.1.2) (hk.2)))))))))))))), (by (with_reducible repeat (first | apply Kd.R_alloc | apply Kd.R_drewN | apply Kd.R_drew)); exact Kd.R_mono HO336.out (fun _ hk => (And.intro (hk.1.1.1.1) ((And.intro (hk.1.1.1.2.1) ((And.intro (hk.1.1.1.2.2.1) ((And.intro (hk.1.1.1.2.2.2) ((And.intro (hk.1.1.2) ((And.intro (hk.1.2) (hk.2)))))))))))))), (by (with_reducible repeat (first | apply Kd.R_alloc | apply Kd.R_drewN | apply Kd.R_drew)); exact Kd.R_mono HO339.out (fun _ hk => (And.intro (hk.1.1.1.1) ((And.intro (hk.1.1.1.2.1) ((And.intro (hk.1.1.1.2.2.1) ((And.intro (hk.1.1.1.2.2.2) ((And.intro (hk.1.1.2) ((And.intro (hk.1.2) (hk.2)))))))))))))), (by (with_reducible repeat (first | apply Kd.R_alloc | apply Kd.R_drewN | apply Kd.R_drew)); exact Kd.R_mono HO343.out (fun _ hk => (And.intro (hk.1.1.1.1.1.1.2) ((And.intro (hk.1.1.1.1.1.2) ((And.intro (hk.1.1.1.1.2) ((And.intro (hk.1.1.1.2) ((And.intro (hk.1.1.2) ((And.intro (hk.1.2) (hk.2)))))))))))))), (by (with_reducible repeat (first | apply Kd.R_alloc | apply Kd.R_drewN | apply Kd.R_drew)); exact Kd.R_mono HO346.out (fun _ hk => (And.intro (hk.1.1.1.1.1.1.2) ((And.intro (hk.1.1.1.1.1.2) ((And.intro (hk.1.1.1.1.2) ((And.intro (hk.1.1.1.2) ((And.intro (hk.1.1.2) ((And.intro (hk.1.2) (hk.2)))))))))))))), (by (with_reducible repeat (first | apply Kd.R_alloc | apply Kd.R_drewN | apply Kd.R_drew)); exact Kd.R_mono HO349.out (fun _ hk => (And.intro (hk.1.1.1.1.1.1.2) ((And.intro (hk.1.1.1.1.1.2) ((And.intro (hk.1.1.1.1.2) ((And.intro (hk.1.1.1.2) ((And.intro (hk.1.1.2) ((And.intro (hk.1.2) (hk.2)))))))))))))), BK324.out, BK340.out, BK350.out, GW350.out, GE350.out, NB324_350.out, NB350_324.out, NB340_350.out, NB350_340.out, (by repeat (with_reducible first | exact HB.out | apply bA_ | apply bN_ | apply bD_ | refine bS_ ?_ GE324.out | refine bS_ ?_ GE340.out | refine bS_ ?_ GE350.out))⟩)
    rintro ⟨v342, v345, v348, gb350⟩ w42 ⟨hS_, h0_, h1_, h2_, h3_, h4_, h5_, h6_, h7_, h8_, h9_, h10_, h11_, h12_, h13_, h14_, h15_, h16_, h17_⟩
    (try dsimp only at h0_ h1_ h2_ h3_ h4_ h5_ h6_ h7_ h8_ h9_ h10_ h11_ h12_ h13_ h14_ h15_ h16_ h17_)
    clear HO327 HO330 HO333 HO336 HO339 BK324 BK340 HB
    have HO327 := aA_ h0_
    have HO330 := aA_ h1_
    have HO333 := aA_ h2_
    have HO336 := aA_ h3_
    have HO339 := aA_ h4_
    have HO343 := aA_ h5_
    have HO346 := aA_ h6_
    have HO349 := aA_ h7_
    have BK324 := aA_ h8_
    have BK340 := aA_ h9_
    have BK350 := aA_ h10_
    have GW350 := aA_ h11_
    have GE350 := aA_ h12_
    have NB324_350 := aA_ h13_
    have NB350_324 := aA_ h14_
    have NB340_350 := aA_ h15_
    have NB350_340 := aA_ h16_
    have HB := aA_ h17_
    clear h0_ h1_ h2_ h3_ h4_ h5_ h6_ h7_ h8_ h9_ h10_ h11_ h12_ h13_ h14_ h15_ h16_ h17_
    have hHeld : w42.cell? ⟨gb324, 0, none⟩ = some (.int .i64 a2_0) ∧ w42.cell? ⟨gb324, 1, none⟩ = some (.int .i64 a2_1) := hS_
    obtain ⟨Ao43, co43, eo43⟩ := Kd.R_slice HO349.out
    (first | subst eo43 | (injection eo43 with f1_ f2_ f3_; have f4_ := f1_.symm; have f5_ := f3_.symm; clear f1_ f2_ f3_; subst f4_; subst f5_))
    refine norm_ (a' := ?_) ?_ ?_
    rotate_left
    ·simp only [putAll, Act.put, sT_, sZ_, sS_]
     rfl
    refine one_ (i := 7) (N := none) (demurrageref03_Part.ups 8 255) rfl rfl (one_of HT_.out (by kernel_rfl)) (by decide) (fun K hK => ?_)
    have hs44 : w42.cell? ⟨gb350, 0, none⟩ = some (.slice none 0 0) := (blk_cell BK350.out 0).trans rfl
    have hfs44 := blk_frozen BK350.out 0
    have hns44_0 := NB324_350.out
    have hns44_1 := NB340_350.out
    have hms44_0 := NB350_324.out
    have hms44_1 := NB350_340.out
    refine skip_ (w1 := ?_) (by rfl) rfl ?_ ?_
    rotate_left
    ·go_simp
     rfl
    refine hK.out _ _ ⟨((cell_far (p := ⟨gb350, _, none⟩) NB324_350.out _).trans (hHeld.1)), ((cell_far (p := ⟨gb350, _, none⟩) NB324_350.out _).trans (hHeld.2))⟩ (fun hHeld => ?_)
    clear hK K
    refine done_ (done_of HT_.out (by kernel_rfl)) ?_
    go_upto_region 6 with (first | ((with_reducible refine gate_callee (f := 60) rfl ?_); refine goesL_ (some 38) rfl rfl Try.func60 (by kernel_rfl) rfl #[.int .u64 4294967296] rfl (by (try simp only [mT_, mC_, mN_]); first | done | rfl) ?_; (with_reducible refine (demurrageref01_FromU.calls kj4 4294967296 t351 _ A18.out).mono ?_); rintro e w45 ⟨v352, rfl, ho0, hb⟩; refine ⟨_, rfl, ?_⟩; have HO353 := aA_ (Kd.R_lower (Kd.R_new' (Kd.R_new' (Kd.R_new' (Kd.R_new' (Kd.R_new' (Kd.R_new' (Kd.R_new' (Kd.R_new' ho0 (Kd.R_lt (by (with_reducible repeat (first | apply Kd.R_alloc | apply Kd.R_drewN | apply Kd.R_drew)); exact (Kd.R_mono (Kd.R_far (p := ⟨gb350, 0, none⟩) (Kd.R_types HO327.out BK350.out (by decide)) (fun _ hk => hk.2) (.slice Ao43 t347.length co43)) (fun _ h_ => h_.1))))) (Kd.R_lt (by (with_reducible repeat (first | apply Kd.R_alloc | apply Kd.R_drewN | apply Kd.R_drew)); exact (Kd.R_mono (Kd.R_far (p := ⟨gb350, 0, none⟩) (Kd.R_types HO330.out BK350.out (by decide)) (fun _ hk => hk.2) (.slice Ao43 t347.length co43)) (fun _ h_ => h_.1))))) (Kd.R_lt (by (with_reducible repeat (first | apply Kd.R_alloc | apply Kd.R_drewN | apply Kd.R_drew)); exact (Kd.R_mono (Kd.R_far (p := ⟨gb350, 0, none⟩) (Kd.R_types HO333.out BK350.out (by decide)) (fun _ hk => hk.2) (.slice Ao43 t347.length co43)) (fun _ h_ => h_.1))))) (Kd.R_lt (by (with_reducible repeat (first | apply Kd.R_alloc | apply Kd.R_drewN | apply Kd.R_drew)); exact (Kd.R_mono (Kd.R_far (p := ⟨gb350, 0, none⟩) (Kd.R_types HO336.out BK350.out (by decide)) (fun _ hk => hk.2) (.slice Ao43 t347.length co43)) (fun _ h_ => h_.1))))) (Kd.R_lt (by (with_reducible repeat (first | apply Kd.R_alloc | apply Kd.R_drewN | apply Kd.R_drew)); exact (Kd.R_mono (Kd.R_far (p := ⟨gb350, 0, none⟩) (Kd.R_types HO339.out BK350.out (by decide)) (fun _ hk => hk.2) (.slice Ao43 t347.length co43)) (fun _ h_ => h_.1))))) (Kd.R_lt (by (with_reducible repeat (first | apply Kd.R_alloc | apply Kd.R_drewN | apply Kd.R_drew)); exact (Kd.R_mono (Kd.R_far (p := ⟨gb350, 0, none⟩) (Kd.R_types HO343.out BK350.out (by decide)) (fun _ hk => hk.2) (.slice Ao43 t347.length co43)) (fun _ h_ => h_.1))))) (Kd.R_lt (by (with_reducible repeat (first | apply Kd.R_alloc | apply Kd.R_drewN | apply Kd.R_drew)); exact (Kd.R_mono (Kd.R_far (p := ⟨gb350, 0, none⟩) (Kd.R_types HO346.out BK350.out (by decide)) (fun _ hk => hk.2) (.slice Ao43 t347.length co43)) (fun _ h_ => h_.1))))) (Kd.R_lt (by (with_reducible repeat (first | apply Kd.R_alloc | apply Kd.R_drewN | apply Kd.R_drew)); exact (Kd.R_mono (Kd.R_far (p := ⟨gb350, 0, none⟩) (Kd.R_types HO349.out BK350.out (by decide)) (fun _ hk => hk.2) (.slice Ao43 t347.length co43)) (fun _ h_ => h_.1))))) (below_size (by repeat (with_reducible first | exact HB.out | apply bA_ | apply bN_ | apply bD_ | refine bS_ ?_ GE324.out | refine bS_ ?_ GE340.out | refine bS_ ?_ GE350.out)))); replace HO327 := aA_ (Kd.R_elder' (by (with_reducible repeat (first | apply Kd.R_alloc | apply Kd.R_drewN | apply Kd.R_drew)); exact (Kd.R_mono (Kd.R_far (p := ⟨gb350, 0, none⟩) (Kd.R_types HO327.out BK350.out (by decide)) (fun _ hk => hk.2) (.slice Ao43 t347.length co43)) (fun _ h_ => h_.1))) (Kd.R_base ho0) hb); replace HO330 := aA_ (Kd.R_elder' (by (with_reducible repeat (first | apply Kd.R_alloc | apply Kd.R_drewN | apply Kd.R_drew)); exact (Kd.R_mono (Kd.R_far (p := ⟨gb350, 0, none⟩) (Kd.R_types HO330.out BK350.out (by decide)) (fun _ hk => hk.2) (.slice Ao43 t347.length co43)) (fun _ h_ => h_.1))) (Kd.R_base ho0) hb); replace HO333 := aA_ (Kd.R_elder' (by (with_reducible repeat (first | apply Kd.R_alloc | apply Kd.R_drewN | apply Kd.R_drew)); exact (Kd.R_mono (Kd.R_far (p := ⟨gb350, 0, none⟩) (Kd.R_types HO333.out BK350.out (by decide)) (fun _ hk => hk.2) (.slice Ao43 t347.length co43)) (fun _ h_ => h_.1))) (Kd.R_base ho0) hb); replace HO336 := aA_ (Kd.R_elder' (by (with_reducible repeat (first | apply Kd.R_alloc | apply Kd.R_drewN | apply Kd.R_drew)); exact (Kd.R_mono (Kd.R_far (p := ⟨gb350, 0, none⟩) (Kd.R_types HO336.out BK350.out (by decide)) (fun _ hk => hk.2) (.slice Ao43 t347.length co43)) (fun _ h_ => h_.1))) (Kd.R_base ho0) hb); replace HO339 := aA_ (Kd.R_elder' (by (with_reducible repeat (first | apply Kd.R_alloc | apply Kd.R_drewN | apply Kd.R_drew)); exact (Kd.R_mono (Kd.R_far (p := ⟨gb350, 0, none⟩) (Kd.R_types HO339.out BK350.out (by decide)) (fun _ hk => hk.2) (.slice Ao43 t347.length co43)) (fun _ h_ => h_.1))) (Kd.R_base ho0) hb); replace HO343 := aA_ (Kd.R_elder' (by (with_reducible repeat (first | apply Kd.R_alloc | apply Kd.R_drewN | apply Kd.R_drew)); exact (Kd.R_mono (Kd.R_far (p := ⟨gb350, 0, none⟩) (Kd.R_types HO343.out BK350.out (by decide)) (fun _ hk => hk.2) (.slice Ao43 t347.length co43)) (fun _ h_ => h_.1))) (Kd.R_base ho0) hb); replace HO346 := aA_ (Kd.R_elder' (by (with_reducible repeat (first | apply Kd.R_alloc | apply Kd.R_drewN | apply Kd.R_drew)); exact (Kd.R_mono (Kd.R_far (p := ⟨gb350, 0, none⟩) (Kd.R_types HO346.out BK350.out (by decide)) (fun _ hk => hk.2) (.slice Ao43 t347.length co43)) (fun _ h_ => h_.1))) (Kd.R_base ho0) hb); replace HO349 := aA_ (Kd.R_elder' (by (with_reducible repeat (first | apply Kd.R_alloc | apply Kd.R_drewN | apply Kd.R_drew)); exact (Kd.R_mono (Kd.R_far (p := ⟨gb350, 0, none⟩) (Kd.R_types HO349.out BK350.out (by decide)) (fun _ hk => hk.2) (.slice Ao43 t347.length co43)) (fun _ h_ => h_.1))) (Kd.R_base ho0) hb); replace BK324 := aA_ (blk_below (g := gb324) (o := .cells #[.int .i64 a2_0, .int .i64 a2_1] 56 (0, 0)) (by refine blk_far ?_ NB324_350.out _; exact BK324.out) hb); replace BK340 := aA_ (blk_below (g := gb340) (o := .cells #[.slice Ao32 t337.length co32] 98 (0, 0)) (by refine blk_far ?_ NB340_350.out _; exact BK340.out) hb); replace BK350 := aA_ (blk_below (g := gb350) (o := .cells #[.slice Ao43 t347.length co43] 98 (0, 0)) (by refine blk_put (cs := #[.slice none 0 0]) ?_ 0 _ rfl; exact BK350.out) hb); replace HB := bB_ (by repeat (with_reducible first | exact HB.out | apply bA_ | apply bN_ | apply bD_ | refine bS_ ?_ GE324.out | refine bS_ ?_ GE340.out | refine bS_ ?_ GE350.out)) hb; (try clear hb); (try clear ho0)) | ((with_reducible refine gate_dst (N := 12) rfl ?_); refine box_event rfl (N := 12) rfl (cs := #[.slice none 0 0]) (t := 98) ?hr ?_; (case hr => go_simp <;> rfl); intro gb354 hg w46 hbox hb; replace HO327 := aA_ (Kd.R_below HO327.out hb); replace HO330 := aA_ (Kd.R_below HO330.out hb); replace HO333 := aA_ (Kd.R_below HO333.out hb); replace HO336 := aA_ (Kd.R_below HO336.out hb); replace HO339 := aA_ (Kd.R_below HO339.out hb); replace HO343 := aA_ (Kd.R_below HO343.out hb); replace HO346 := aA_ (Kd.R_below HO346.out hb); replace HO349 := aA_ (Kd.R_below HO349.out hb); replace HO353 := aA_ (Kd.R_below HO353.out hb); have BK354 := aA_ (hbox); have GW354 := gW_ hg (by repeat (with_reducible first | exact HB.out | apply bA_ | apply bN_ | apply bD_ | refine bS_ ?_ GE324.out | refine bS_ ?_ GE340.out | refine bS_ ?_ GE350.out)); have GE354 := GW354; replace HB := bB_ (by repeat (with_reducible first | exact HB.out | apply bA_ | apply bN_ | apply bD_ | refine bS_ ?_ GE324.out | refine bS_ ?_ GE340.out | refine bS_ ?_ GE350.out)) hb; have NB324_354 := nE_ hg BK324; have NB354_324 := aA_ NB324_354.out.symm; replace BK324 := bK_ BK324 hb; have NB340_354 := nE_ hg BK340; have NB354_340 := aA_ NB340_354.out.symm; replace BK340 := bK_ BK340 hb; have NB350_354 := nE_ hg BK350; have NB354_350 := aA_ NB350_354.out.symm; replace BK350 := bK_ BK350 hb; clear hb hbox hg; obtain ⟨Ao47, co47, eo47⟩ := Kd.R_slice HO353.out; subst eo47; have hnb48 := NB354_324.out; have hnc48 := NB324_354.out; have hnb49 := NB354_340.out; have hnc49 := NB340_354.out; have hnb50 := NB354_350.out; have hnc50 := NB350_354.out; have hcz51_0 : w46.cell? ⟨gb354, 0, none⟩ = some (.slice none 0 0) := (blk_cell BK354.out 0).trans rfl; have hfz51_0 := blk_frozen BK354.out 0))
    (try simp only [Act.put, sT_, sZ_, sS_])
    go_cut [50] (fun v50 wc => ∃ (kq : Nat) (x50_18 : Bool), v50 = .bool x50_18 ∧ Aside0 (demurrageref03_Part.j1 kq x50_18 t337 t347 = some (r1, r2)) ∧ Aside0 (kq ≤ kj4) ∧ Aside0 (Kd.R (Kd.int .i64) 3 wc w.heap.size (fun k_ => some k_ ≠ ((.slice Ao43 t347.length co43) : Value).ownBlock ∧ some k_ ≠ ((.slice Ao47 t351.length co47) : Value).ownBlock) (.slice Ao32 t337.length co32) t337) ∧ Aside0 (Kd.R (Kd.int .i64) 3 wc w.heap.size (fun k_ => some k_ ≠ ((.slice Ao32 t337.length co32) : Value).ownBlock ∧ some k_ ≠ ((.slice Ao47 t351.length co47) : Value).ownBlock) (.slice Ao43 t347.length co43) t347) ∧ Aside0 (Kd.R (Kd.int .i64) 3 wc w.heap.size (fun k_ => some k_ ≠ ((.slice Ao32 t337.length co32) : Value).ownBlock ∧ some k_ ≠ ((.slice Ao43 t347.length co43) : Value).ownBlock) (.slice Ao47 t351.length co47) t351) ∧ Aside0 (wc.heap[gb324]? = some (.cells #[.int .i64 a2_0, .int .i64 a2_1] 56 (0, 0))) ∧ Aside0 (wc.heap[gb340]? = some (.cells #[(.slice Ao32 t337.length co32)] 98 (0, 0))) ∧ Aside0 (wc.heap[gb350]? = some (.cells #[(.slice Ao43 t347.length co43)] 98 (0, 0))) ∧ Aside0 (wc.heap[gb354]? = some (.cells #[(.slice Ao47 t351.length co47)] 98 (0, 0))) ∧ Aside0 (Below w.heap.size w wc))
    case first =>
     have H := HC19.out
     clear HC19
     replace H := bI_ H
     obtain ⟨t355, A520, H⟩ := H
     (try dsimp only at H)
     have A52 := aA_ A520
     clear A520
     replace H := bI_ H
     obtain ⟨t358, A530, H⟩ := H
     (try dsimp only at H)
     have A53 := aA_ A530
     clear A530
     by_cases c54 : t358 ≥ 0
     ·rw [if_pos c54] at H
      have c54b0 : decide (0 ≤ t358) = true := decide_eq_true c54
      clear c54
      (first | rw [c54b0] | (simp only [i64_w, i32_w]; rw [c54b0]) | rw [c54b1] | skip)
      have H' := aA_ H
      clear H
      try go_wp2
      have n0_ : Aside0 (Kd.R (Kd.int .i64) 3 (w46.setCell ⟨gb354, 0, none⟩ (.slice Ao47 t351.length co47)) w.heap.size (fun k_ => some k_ ≠ (v329 : Value).ownBlock ∧ some k_ ≠ (v332 : Value).ownBlock ∧ some k_ ≠ (v335 : Value).ownBlock ∧ some k_ ≠ (.slice Ao32 t337.length co32 : Value).ownBlock ∧ some k_ ≠ (v342 : Value).ownBlock ∧ some k_ ≠ (v345 : Value).ownBlock ∧ some k_ ≠ (.slice Ao43 t347.length co43 : Value).ownBlock ∧ some k_ ≠ (.slice Ao47 t351.length co47 : Value).ownBlock) v326 t325) := ⟨by (with_reducible repeat (first | apply Kd.R_alloc | apply Kd.R_drewN | apply Kd.R_drew)); exact Kd.R_mono (Kd.R_far (p := ⟨gb354, 0, none⟩) (Kd.R_types HO327.out BK354.out (by decide)) (fun _ hk => hk.2) (.slice Ao47 t351.length co47)) (fun _ hk => (And.intro (hk.1.1.1) ((And.intro (hk.1.1.2.1) ((And.intro (hk.1.1.2.2.1) ((And.intro (hk.1.1.2.2.2.1) ((And.intro (hk.1.1.2.2.2.2.1) ((And.intro (hk.1.1.2.2.2.2.2.1) ((And.intro (hk.1.1.2.2.2.2.2.2) (hk.1.2)))))))))))))))⟩
      have n1_ : Aside0 (Kd.R (Kd.int .i64) 3 (w46.setCell ⟨gb354, 0, none⟩ (.slice Ao47 t351.length co47)) w.heap.size (fun k_ => some k_ ≠ (v326 : Value).ownBlock ∧ some k_ ≠ (v332 : Value).ownBlock ∧ some k_ ≠ (v335 : Value).ownBlock ∧ some k_ ≠ (.slice Ao32 t337.length co32 : Value).ownBlock ∧ some k_ ≠ (v342 : Value).ownBlock ∧ some k_ ≠ (v345 : Value).ownBlock ∧ some k_ ≠ (.slice Ao43 t347.length co43 : Value).ownBlock ∧ some k_ ≠ (.slice Ao47 t351.length co47 : Value).ownBlock) v329 t328) := ⟨by (with_reducible repeat (first | apply Kd.R_alloc | apply Kd.R_drewN | apply Kd.R_drew)); exact Kd.R_mono (Kd.R_far (p := ⟨gb354, 0, none⟩) (Kd.R_types HO330.out BK354.out (by decide)) (fun _ hk => hk.2) (.slice Ao47 t351.length co47)) (fun _ hk => (And.intro (hk.1.1.1) ((And.intro (hk.1.1.2.1) ((And.intro (hk.1.1.2.2.1) ((And.intro (hk.1.1.2.2.2.1) ((And.intro (hk.1.1.2.2.2.2.1) ((And.intro (hk.1.1.2.2.2.2.2.1) ((And.intro (hk.1.1.2.2.2.2.2.2) (hk.1.2)))))))))))))))⟩
      have n2_ : Aside0 (Kd.R (Kd.int .i64) 3 (w46.setCell ⟨gb354, 0, none⟩ (.slice Ao47 t351.length co47)) w.heap.size (fun k_ => some k_ ≠ (v326 : Value).ownBlock ∧ some k_ ≠ (v329 : Value).ownBlock ∧ some k_ ≠ (v335 : Value).ownBlock ∧ some k_ ≠ (.slice Ao32 t337.length co32 : Value).ownBlock ∧ some k_ ≠ (v342 : Value).ownBlock ∧ some k_ ≠ (v345 : Value).ownBlock ∧ some k_ ≠ (.slice Ao43 t347.length co43 : Value).ownBlock ∧ some k_ ≠ (.slice Ao47 t351.length co47 : Value).ownBlock) v332 t331) := ⟨by (with_reducible repeat (first | apply Kd.R_alloc | apply Kd.R_drewN | apply Kd.R_drew)); exact Kd.R_mono (Kd.R_far (p := ⟨gb354, 0, none⟩) (Kd.R_types HO333.out BK354.out (by decide)) (fun _ hk => hk.2) (.slice Ao47 t351.length co47)) (fun _ hk => (And.intro (hk.1.1.1) ((And.intro (hk.1.1.2.1) ((And.intro (hk.1.1.2.2.1) ((And.intro (hk.1.1.2.2.2.1) ((And.intro (hk.1.1.2.2.2.2.1) ((And.intro (hk.1.1.2.2.2.2.2.1) ((And.intro (hk.1.1.2.2.2.2.2.2) (hk.1.2)))))))))))))))⟩
      have n3_ : Aside0 (Kd.R (Kd.int .i64) 3 (w46.setCell ⟨gb354, 0, none⟩ (.slice Ao47 t351.length co47)) w.heap.size (fun k_ => some k_ ≠ (v326 : Value).ownBlock ∧ some k_ ≠ (v329 : Value).ownBlock ∧ some k_ ≠ (v332 : Value).ownBlock ∧ some k_ ≠ (.slice Ao32 t337.length co32 : Value).ownBlock ∧ some k_ ≠ (v342 : Value).ownBlock ∧ some k_ ≠ (v345 : Value).ownBlock ∧ some k_ ≠ (.slice Ao43 t347.length co43 : Value).ownBlock ∧ some k_ ≠ (.slice Ao47 t351.length co47 : Value).ownBlock) v335 t334) := ⟨by (with_reducible repeat (first | apply Kd.R_alloc | apply Kd.R_drewN | apply Kd.R_drew)); exact Kd.R_mono (Kd.R_far (p := ⟨gb354, 0, none⟩) (Kd.R_types HO336.out BK354.out (by decide)) (fun _ hk => hk.2) (.slice Ao47 t351.length co47)) (fun _ hk => (And.intro (hk.1.1.1) ((And.intro (hk.1.1.2.1) ((And.intro (hk.1.1.2.2.1) ((And.intro (hk.1.1.2.2.2.1) ((And.intro (hk.1.1.2.2.2.2.1) ((And.intro (hk.1.1.2.2.2.2.2.1) ((And.intro (hk.1.1.2.2.2.2.2.2) (hk.1.2)))))))))))))))⟩
      have n4_ : Aside0 (Kd.R (Kd.int .i64) 3 (w46.setCell ⟨gb354, 0, none⟩ (.slice Ao47 t351.length co47)) w.heap.size (fun k_ => some k_ ≠ (v326 : Value).ownBlock ∧ some k_ ≠ (v329 : Value).ownBlock ∧ some k_ ≠ (v332 : Value).ownBlock ∧ some k_ ≠ (v335 : Value).ownBlock ∧ some k_ ≠ (v342 : Value).ownBlock ∧ some k_ ≠ (v345 : Value).ownBlock ∧ some k_ ≠ (.slice Ao43 t347.length co43 : Value).ownBlock ∧ some k_ ≠ (.slice Ao47 t351.length co47 : Value).ownBlock) (.slice Ao32 t337.length co32) t337) := ⟨by (with_reducible repeat (first | apply Kd.R_alloc | apply Kd.R_drewN | apply Kd.R_drew)); exact Kd.R_mono (Kd.R_far (p := ⟨gb354, 0, none⟩) (Kd.R_types HO339.out BK354.out (by decide)) (fun _ hk => hk.2) (.slice Ao47 t351.length co47)) (fun _ hk => (And.intro (hk.1.1.1) ((And.intro (hk.1.1.2.1) ((And.intro (hk.1.1.2.2.1) ((And.intro (hk.1.1.2.2.2.1) ((And.intro (hk.1.1.2.2.2.2.1) ((And.intro (hk.1.1.2.2.2.2.2.1) ((And.intro (hk.1.1.2.2.2.2.2.2) (hk.1.2)))))))))))))))⟩
      have n5_ : Aside0 (Kd.R (Kd.int .i64) 3 (w46.setCell ⟨gb354, 0, none⟩ (.slice Ao47 t351.length co47)) w.heap.size (fun k_ => some k_ ≠ (v326 : Value).ownBlock ∧ some k_ ≠ (v329 : Value).ownBlock ∧ some k_ ≠ (v332 : Value).ownBlock ∧ some k_ ≠ (v335 : Value).ownBlock ∧ some k_ ≠ (.slice Ao32 t337.length co32 : Value).ownBlock ∧ some k_ ≠ (v345 : Value).ownBlock ∧ some k_ ≠ (.slice Ao43 t347.length co43 : Value).ownBlock ∧ some k_ ≠ (.slice Ao47 t351.length co47 : Value).ownBlock) v342 t341) := ⟨by (with_reducible repeat (first | apply Kd.R_alloc | apply Kd.R_drewN | apply Kd.R_drew)); exact Kd.R_mono (Kd.R_far (p := ⟨gb354, 0, none⟩) (Kd.R_types HO343.out BK354.out (by decide)) (fun _ hk => hk.2) (.slice Ao47 t351.length co47)) (fun _ hk => (And.intro (hk.1.1.1) ((And.intro (hk.1.1.2.1) ((And.intro (hk.1.1.2.2.1) ((And.intro (hk.1.1.2.2.2.1) ((And.intro (hk.1.1.2.2.2.2.1) ((And.intro (hk.1.1.2.2.2.2.2.1) ((And.intro (hk.1.1.2.2.2.2.2.2) (hk.1.2)))))))))))))))⟩
      have n6_ : Aside0 (Kd.R (Kd.int .i64) 3 (w46.setCell ⟨gb354, 0, none⟩ (.slice Ao47 t351.length co47)) w.heap.size (fun k_ => some k_ ≠ (v326 : Value).ownBlock ∧ some k_ ≠ (v329 : Value).ownBlock ∧ some k_ ≠ (v332 : Value).ownBlock ∧ some k_ ≠ (v335 : Value).ownBlock ∧ some k_ ≠ (.slice Ao32 t337.length co32 : Value).ownBlock ∧ some k_ ≠ (v342 : Value).ownBlock ∧ some k_ ≠ (.slice Ao43 t347.length co43 : Value).ownBlock ∧ some k_ ≠ (.slice Ao47 t351.length co47 : Value).ownBlock) v345 t344) := ⟨by (with_reducible repeat (first | apply Kd.R_alloc | apply Kd.R_drewN | apply Kd.R_drew)); exact Kd.R_mono (Kd.R_far (p := ⟨gb354, 0, none⟩) (Kd.R_types HO346.out BK354.out (by decide)) (fun _ hk => hk.2) (.slice Ao47 t351.length co47)) (fun _ hk => (And.intro (hk.1.1.1) ((And.intro (hk.1.1.2.1) ((And.intro (hk.1.1.2.2.1) ((And.intro (hk.1.1.2.2.2.1) ((And.intro (hk.1.1.2.2.2.2.1) ((And.intro (hk.1.1.2.2.2.2.2.1) ((And.intro (hk.1.1.2.2.2.2.2.2) (hk.1.2)))))))))))))))⟩
      have n7_ : Aside0 (Kd.R (Kd.int .i64) 3 (w46.setCell ⟨gb354, 0, none⟩ (.slice Ao47 t351.length co47)) w.heap.size (fun k_ => some k_ ≠ (v326 : Value).ownBlock ∧ some k_ ≠ (v329 : Value).ownBlock ∧ some k_ ≠ (v332 : Value).ownBlock ∧ some k_ ≠ (v335 : Value).ownBlock ∧ some k_ ≠ (.slice Ao32 t337.length co32 : Value).ownBlock ∧ some k_ ≠ (v342 : Value).ownBlock ∧ some k_ ≠ (v345 : Value).ownBlock ∧ some k_ ≠ (.slice Ao47 t351.length co47 : Value).ownBlock) (.slice Ao43 t347.length co43) t347) := ⟨by (with_reducible repeat (first | apply Kd.R_alloc | apply Kd.R_drewN | apply Kd.R_drew)); exact Kd.R_mono (Kd.R_far (p := ⟨gb354, 0, none⟩) (Kd.R_types HO349.out BK354.out (by decide)) (fun _ hk => hk.2) (.slice Ao47 t351.length co47)) (fun _ hk => (And.intro (hk.1.1.1) ((And.intro (hk.1.1.2.1) ((And.intro (hk.1.1.2.2.1) ((And.intro (hk.1.1.2.2.2.1) ((And.intro (hk.1.1.2.2.2.2.1) ((And.intro (hk.1.1.2.2.2.2.2.1) ((And.intro (hk.1.1.2.2.2.2.2.2) (hk.1.2)))))))))))))))⟩
      have n8_ : Aside0 (Kd.R (Kd.int .i64) 3 (w46.setCell ⟨gb354, 0, none⟩ (.slice Ao47 t351.length co47)) w.heap.size (fun k_ => some k_ ≠ (v326 : Value).ownBlock ∧ some k_ ≠ (v329 : Value).ownBlock ∧ some k_ ≠ (v332 : Value).ownBlock ∧ some k_ ≠ (v335 : Value).ownBlock ∧ some k_ ≠ (.slice Ao32 t337.length co32 : Value).ownBlock ∧ some k_ ≠ (v342 : Value).ownBlock ∧ some k_ ≠ (v345 : Value).ownBlock ∧ some k_ ≠ (.slice Ao43 t347.length co43 : Value).ownBlock) (.slice Ao47 t351.length co47) t351) := ⟨by (with_reducible repeat (first | apply Kd.R_alloc | apply Kd.R_drewN | apply Kd.R_drew)); exact Kd.R_mono (Kd.R_far (p := ⟨gb354, 0, none⟩) (Kd.R_types HO353.out BK354.out (by decide)) (fun _ hk => hk.2) (.slice Ao47 t351.length co47)) (fun _ hk => (And.intro (hk.1.1.1.1.1.1.1.1.2) ((And.intro (hk.1.1.1.1.1.1.1.2) ((And.intro (hk.1.1.1.1.1.1.2) ((And.intro (hk.1.1.1.1.1.2) ((And.intro (hk.1.1.1.1.2) ((And.intro (hk.1.1.1.2) ((And.intro (hk.1.1.2) (hk.1.2)))))))))))))))⟩
      have n9_ : Aside0 ((w46.setCell ⟨gb354, 0, none⟩ (.slice Ao47 t351.length co47)).heap[gb324]? = some (.cells #[.int .i64 a2_0, .int .i64 a2_1] 56 (0, 0))) := ⟨by refine blk_far ?_ NB324_354.out _; exact BK324.out⟩
      have n10_ : Aside0 ((w46.setCell ⟨gb354, 0, none⟩ (.slice Ao47 t351.length co47)).heap[gb340]? = some (.cells #[.slice Ao32 t337.length co32] 98 (0, 0))) := ⟨by refine blk_far ?_ NB340_354.out _; exact BK340.out⟩
      have n11_ : Aside0 ((w46.setCell ⟨gb354, 0, none⟩ (.slice Ao47 t351.length co47)).heap[gb350]? = some (.cells #[.slice Ao43 t347.length co43] 98 (0, 0))) := ⟨by refine blk_far ?_ NB350_354.out _; exact BK350.out⟩
      have n12_ : Aside0 ((w46.setCell ⟨gb354, 0, none⟩ (.slice Ao47 t351.length co47)).heap[gb354]? = some (.cells #[.slice Ao47 t351.length co47] 98 (0, 0))) := ⟨by refine blk_put (cs := #[.slice none 0 0]) ?_ 0 _ rfl; exact BK354.out⟩
      have n13_ : Aside0 (Below w.heap.size w (w46.setCell ⟨gb354, 0, none⟩ (.slice Ao47 t351.length co47))) := ⟨by repeat (with_reducible first | exact HB.out | apply bA_ | apply bN_ | apply bD_ | refine bS_ ?_ GE324.out | refine bS_ ?_ GE340.out | refine bS_ ?_ GE350.out | refine bS_ ?_ GE354.out)⟩
      (try clear HO327)
      (try clear HO330)
      (try clear HO333)
      (try clear HO336)
      (try clear HO339)
      (try clear HO343)
      (try clear HO346)
      (try clear HO349)
      (try clear HO353)
      (try clear BK324)
      (try clear BK340)
      (try clear BK350)
      (try clear BK354)
      (try clear HB)
      generalize (w46.setCell ⟨gb354, 0, none⟩ (.slice Ao47 t351.length co47)) = w55 at n0_ n1_ n2_ n3_ n4_ n5_ n6_ n7_ n8_ n9_ n10_ n11_ n12_ n13_ ⊢
      have HO327 := n0_
      have HO330 := n1_
      have HO333 := n2_
      have HO336 := n3_
      have HO339 := n4_
      have HO343 := n5_
      have HO346 := n6_
      have HO349 := n7_
      have HO353 := n8_
      have BK324 := n9_
      have BK340 := n10_
      have BK350 := n11_
      have BK354 := n12_
      have HB := n13_
      clear n0_ n1_ n2_ n3_ n4_ n5_ n6_ n7_ n8_ n9_ n10_ n11_ n12_ n13_
      replace HO327 := aA_ (Kd.R_drew HO327.out)
      replace HO330 := aA_ (Kd.R_drew HO330.out)
      replace HO333 := aA_ (Kd.R_drew HO333.out)
      replace HO336 := aA_ (Kd.R_drew HO336.out)
      replace HO339 := aA_ (Kd.R_drew HO339.out)
      replace HO343 := aA_ (Kd.R_drew HO343.out)
      replace HO346 := aA_ (Kd.R_drew HO346.out)
      replace HO349 := aA_ (Kd.R_drew HO349.out)
      replace HO353 := aA_ (Kd.R_drew HO353.out)
      replace BK324 := aA_ (blk_drew BK324.out)
      replace BK340 := aA_ (blk_drew BK340.out)
      replace BK350 := aA_ (blk_drew BK350.out)
      replace BK354 := aA_ (blk_drew BK354.out)
      replace HB := aA_ (below_drew1 HB.out)
      refine start_ (n := 12) (S := fun w' => w'.cell? ⟨gb340, 0, none⟩ = some (.slice Ao32 t337.length co32)) (ds := []) (demurrageref03_Part.ups 12 0) (by kernel_rfl) rfl rfl ((blk_cell BK340.out 0).trans rfl) (fun hHeld => ?_); refine with_tabW demurrageref03_Part.tab6 demurrageref03_Part.bits6 (fun HT_ HW_ => ?_)
      generalize w55.drew = w56 at HO327 HO330 HO333 HO336 HO339 HO343 HO346 HO349 HO353 BK324 BK340 BK350 BK354 HB hHeld ⊢
      refine take_ (i := 0) (N := some 39) (v := ?_) (a' := ?_) (demurrageref03_Part.ups 12 1) rfl rfl (take_ofW HT_.out HW_.out (by kernel_rfl)) (fun _ _ _ h => h) (Or.inl ⟨by rfl, ?_⟩) hHeld ?_ ?_
      rotate_left
      ·intro w' s0
       go_simp
       with_reducible rfl
      rotate_left
      ·simp only [Act.put, sT_, sZ_, sS_, i64_w, i32_w]
       rfl
      refine one_ (i := 1) (N := some 40) (demurrageref03_Part.ups 12 3) rfl rfl (one_of HT_.out (by kernel_rfl)) (by decide) (fun K hK => ?_)
      refine goes_ Try.func61 (by kernel_rfl) rfl #[] (by rfl) rfl rfl (by (try simp only [mT_, mC_, mN_]); first | done | rfl) ?_
      with_reducible refine (demurrageref01_Limit.calls kj4  t355 _ A52.out).mono ?_
      rintro e w57 ⟨v356, rfl, ho0, hb⟩
      refine ⟨_, rfl, ?_⟩
      have HO357 := aA_ (Kd.R_lower (Kd.R_new' (Kd.R_new' (Kd.R_new' (Kd.R_new' (Kd.R_new' (Kd.R_new' (Kd.R_new' (Kd.R_new' (Kd.R_new' ho0 (Kd.R_lt HO327.out)) (Kd.R_lt HO330.out)) (Kd.R_lt HO333.out)) (Kd.R_lt HO336.out)) (Kd.R_lt HO339.out)) (Kd.R_lt HO343.out)) (Kd.R_lt HO346.out)) (Kd.R_lt HO349.out)) (Kd.R_lt HO353.out)) (below_size (by repeat (with_reducible first | exact HB.out | apply bA_ | apply bN_ | apply bD_ | refine bS_ ?_ GE324.out | refine bS_ ?_ GE340.out | refine bS_ ?_ GE350.out | refine bS_ ?_ GE354.out))))
      replace HO327 := aA_ (Kd.R_elder' HO327.out (Kd.R_base ho0) hb)
      replace HO330 := aA_ (Kd.R_elder' HO330.out (Kd.R_base ho0) hb)
      replace HO333 := aA_ (Kd.R_elder' HO333.out (Kd.R_base ho0) hb)
      replace HO336 := aA_ (Kd.R_elder' HO336.out (Kd.R_base ho0) hb)
      replace HO339 := aA_ (Kd.R_elder' HO339.out (Kd.R_base ho0) hb)
      replace HO343 := aA_ (Kd.R_elder' HO343.out (Kd.R_base ho0) hb)
      replace HO346 := aA_ (Kd.R_elder' HO346.out (Kd.R_base ho0) hb)
      replace HO349 := aA_ (Kd.R_elder' HO349.out (Kd.R_base ho0) hb)
      replace HO353 := aA_ (Kd.R_elder' HO353.out (Kd.R_base ho0) hb)
      replace BK324 := bK_ BK324 hb
      replace BK340 := bK_ BK340 hb
      replace BK350 := bK_ BK350 hb
      replace BK354 := bK_ BK354 hb
      replace HB := bB_ (by repeat (with_reducible first | exact HB.out | apply bA_ | apply bN_ | apply bD_ | refine bS_ ?_ GE324.out | refine bS_ ?_ GE340.out | refine bS_ ?_ GE350.out | refine bS_ ?_ GE354.out)) hb
      (try clear hb)
      (try clear hb2)
      (try clear hk)
      (try clear hi)
      (try clear ho0)
      obtain ⟨Ao58, co58, eo58⟩ := Kd.R_slice HO357.out
      (first | subst eo58 | (injection eo58 with f1_ f2_ f3_; have f4_ := f1_.symm; have f5_ := f3_.symm; clear f1_ f2_ f3_; subst f4_; subst f5_))
      refine hK.out _ _ ((blk_cell BK340.out 0).trans rfl) (fun hHeld => ?_)
      clear hK K
      refine norm_ (by show Act.put _ (some 40) _ = _; simp only [Act.put, sT_, sZ_, sS_, i64_w, i32_w] <;> rfl) ?_
      refine one_ (i := 2) (N := some 41) (demurrageref03_Part.ups 12 7) rfl rfl (one_of HT_.out (by kernel_rfl)) (by decide) (fun K hK => ?_)
      refine goes_ Try.func50 (by kernel_rfl) rfl #[.agg #[.slice Ao32 t337.length co32], .agg #[.slice Ao58 t355.length co58]] (by rfl) rfl rfl (by (try simp only [mT_, mC_, mN_]); first | done | rfl) ?_
      with_reducible refine (demurrageref01_Cmp.calls kj4 _ _ t337 _ _ t355 t358 _ ?side1 ?side2 ?side3 ?side4 A53.out).mono ?_
      (case side1 => repeat (first | exact (Kd.R_reads' HO339.out).2.2 | (with_reducible first | refine Kd.C_alloc ?_ _ | refine Kd.C_drewN ?_ _ | refine Kd.C_drew ?_)))
      (case side2 => exact (Kd.R_reads' HO339.out).2.1)
      (case side3 => repeat (first | exact (Kd.R_reads' HO357.out).2.2 | (with_reducible first | refine Kd.C_alloc ?_ _ | refine Kd.C_drewN ?_ _ | refine Kd.C_drew ?_)))
      (case side4 => exact (Kd.R_reads' HO357.out).2.1)
      rintro e w59 ⟨rfl, hb⟩
      refine ⟨_, rfl, ?_⟩
      replace HO327 := aA_ (Kd.R_below HO327.out hb)
      replace HO330 := aA_ (Kd.R_below HO330.out hb)
      replace HO333 := aA_ (Kd.R_below HO333.out hb)
      replace HO336 := aA_ (Kd.R_below HO336.out hb)
      replace HO339 := aA_ (Kd.R_below HO339.out hb)
      replace HO343 := aA_ (Kd.R_below HO343.out hb)
      replace HO346 := aA_ (Kd.R_below HO346.out hb)
      replace HO349 := aA_ (Kd.R_below HO349.out hb)
      replace HO353 := aA_ (Kd.R_below HO353.out hb)
      replace HO357 := aA_ (Kd.R_below HO357.out hb)
      replace BK324 := bK_ BK324 hb
      replace BK340 := bK_ BK340 hb
      replace BK350 := bK_ BK350 hb
      replace BK354 := bK_ BK354 hb
      replace HB := bB_ (by repeat (with_reducible first | exact HB.out | apply bA_ | apply bN_ | apply bD_ | refine bS_ ?_ GE324.out | refine bS_ ?_ GE340.out | refine bS_ ?_ GE350.out | refine bS_ ?_ GE354.out)) hb
      (try clear hb)
      (try clear hb2)
      (try clear hk)
      (try clear hi)
      refine hK.out _ _ ((blk_cell BK340.out 0).trans rfl) (fun hHeld => ?_)
      clear hK K
      refine norm_ (by show Act.put _ (some 41) _ = _; simp only [Act.put, sT_, sZ_, sS_, i64_w, i32_w] <;> rfl) ?_
      refine pure_ (i := 3) (N := some 42) (v := ?_) (a' := ?_) (demurrageref03_Part.ups 12 15) rfl rfl (any_of HT_.out (by kernel_rfl)) (fun _ _ _ h => h) (Or.inl ⟨by rfl, ?_⟩) ?_ ?_
      rotate_left
      ·intro w'
       go_simp
       with_reducible rfl
      rotate_left
      ·simp only [Act.put, sT_, sZ_, sS_, i64_w, i32_w]
       rfl
      refine pure_ (i := 4) (N := some 43) (v := ?_) (a' := ?_) (demurrageref03_Part.ups 12 31) rfl rfl (any_of HT_.out (by kernel_rfl)) (fun _ _ _ h => h) (Or.inl ⟨by rfl, ?_⟩) ?_ ?_
      rotate_left
      ·intro w'
       go_simp
       with_reducible rfl
      rotate_left
      ·simp only [Act.put, sT_, sZ_, sS_, i64_w, i32_w]
       rfl
      refine pure_ (i := 5) (N := some 44) (v := undef) (a' := ?_) (demurrageref03_Part.ups 12 63) rfl rfl (any_of HT_.out (by kernel_rfl)) (fun _ _ _ h => h) (Or.inr ⟨by rfl, rfl⟩) ?_ ?_
      rotate_left
      ·simp only [Act.put, sT_, sZ_, sS_, i64_w, i32_w]
       rfl
      refine pure_ (i := 6) (N := some 45) (v := undef) (a' := ?_) (demurrageref03_Part.ups 12 127) rfl rfl (any_of HT_.out (by kernel_rfl)) (fun _ _ _ h => h) (Or.inr ⟨by rfl, rfl⟩) ?_ ?_
      rotate_left
      ·simp only [Act.put, sT_, sZ_, sS_, i64_w, i32_w]
       rfl
      refine pure_ (i := 7) (N := some 46) (v := undef) (a' := ?_) (demurrageref03_Part.ups 12 255) rfl rfl (any_of HT_.out (by kernel_rfl)) (fun _ _ _ h => h) (Or.inr ⟨by rfl, rfl⟩) ?_ ?_
      rotate_left
      ·simp only [Act.put, sT_, sZ_, sS_, i64_w, i32_w]
       rfl
      refine pure_ (i := 8) (N := some 47) (v := undef) (a' := ?_) (demurrageref03_Part.ups 12 511) rfl rfl (any_of HT_.out (by kernel_rfl)) (fun _ _ _ h => h) (Or.inr ⟨by rfl, rfl⟩) ?_ ?_
      rotate_left
      ·simp only [Act.put, sT_, sZ_, sS_, i64_w, i32_w]
       rfl
      refine pure_ (i := 9) (N := some 48) (v := undef) (a' := ?_) (demurrageref03_Part.ups 12 1023) rfl rfl (any_of HT_.out (by kernel_rfl)) (fun _ _ _ h => h) (Or.inr ⟨by rfl, rfl⟩) ?_ ?_
      rotate_left
      ·simp only [Act.put, sT_, sZ_, sS_, i64_w, i32_w]
       rfl
      refine pure_ (i := 10) (N := some 49) (v := undef) (a' := ?_) (demurrageref03_Part.ups 12 2047) rfl rfl (any_of HT_.out (by kernel_rfl)) (fun _ _ _ h => h) (Or.inr ⟨by rfl, rfl⟩) ?_ ?_
      rotate_left
      ·simp only [Act.put, sT_, sZ_, sS_, i64_w, i32_w]
       rfl
      refine pure_ (i := 11) (N := some 50) (v := ?_) (a' := ?_) (demurrageref03_Part.ups 12 4095) rfl rfl (any_of HT_.out (by kernel_rfl)) (fun _ _ _ h => h) (Or.inl ⟨by rfl, ?_⟩) ?_ ?_
      rotate_left
      ·intro w'
       go_simp
       with_reducible rfl
      rotate_left
      ·simp only [Act.put, sT_, sZ_, sS_, i64_w, i32_w]
       rfl
      refine done_ (done_of HT_.out (by kernel_rfl)) ?_
      try go_wp2
      go_meet
      case rel => exact ⟨_, _, (by first | rfl | simp | simp [*]), H', ⟨by have := HJ4.out; first | omega | exact Nat.le_refl _⟩, ⟨by (with_reducible repeat (first | apply Kd.R_alloc | apply Kd.R_drewN | apply Kd.R_drew)); exact Kd.R_mono HO339.out (fun _ hk => (And.intro (hk.1.2.2.2.2.2.2.1) (hk.1.2.2.2.2.2.2.2)))⟩, ⟨by (with_reducible repeat (first | apply Kd.R_alloc | apply Kd.R_drewN | apply Kd.R_drew)); exact Kd.R_mono HO349.out (fun _ hk => (And.intro (hk.1.2.2.2.2.1) (hk.1.2.2.2.2.2.2.2)))⟩, ⟨by (with_reducible repeat (first | apply Kd.R_alloc | apply Kd.R_drewN | apply Kd.R_drew)); exact Kd.R_mono HO353.out (fun _ hk => (And.intro (hk.1.2.2.2.2.1) (hk.1.2.2.2.2.2.2.2)))⟩, ⟨by exact BK324.out⟩, ⟨by exact BK340.out⟩, ⟨by exact BK350.out⟩, ⟨by exact BK354.out⟩, ⟨by repeat (with_reducible first | exact HB.out | apply bA_ | apply bN_ | apply bD_ | refine bS_ ?_ GE324.out | refine bS_ ?_ GE340.out | refine bS_ ?_ GE350.out | refine bS_ ?_ GE354.out)⟩⟩
     ·rw [if_neg c54] at H
      have c54b0 : decide (0 ≤ t358) = false := decide_eq_false c54
      clear c54
      (first | rw [c54b0] | (simp only [i64_w, i32_w]; rw [c54b0]) | rw [c54b1] | skip)
      replace H := bI_ H
      obtain ⟨t359, A600, H⟩ := H
      (try dsimp only at H)
      have A60 := aA_ A600
      clear A600
      replace H := bI_ H
      obtain ⟨t362, A610, H⟩ := H
      (try dsimp only at H)
      have A61 := aA_ A610
      clear A610
      have H' := aA_ H
      clear H
      try go_wp2
      have n0_ : Aside0 (Kd.R (Kd.int .i64) 3 (w46.setCell ⟨gb354, 0, none⟩ (.slice Ao47 t351.length co47)) w.heap.size (fun k_ => some k_ ≠ (v329 : Value).ownBlock ∧ some k_ ≠ (v332 : Value).ownBlock ∧ some k_ ≠ (v335 : Value).ownBlock ∧ some k_ ≠ (.slice Ao32 t337.length co32 : Value).ownBlock ∧ some k_ ≠ (v342 : Value).ownBlock ∧ some k_ ≠ (v345 : Value).ownBlock ∧ some k_ ≠ (.slice Ao43 t347.length co43 : Value).ownBlock ∧ some k_ ≠ (.slice Ao47 t351.length co47 : Value).ownBlock) v326 t325) := ⟨by (with_reducible repeat (first | apply Kd.R_alloc | apply Kd.R_drewN | apply Kd.R_drew)); exact Kd.R_mono (Kd.R_far (p := ⟨gb354, 0, none⟩) (Kd.R_types HO327.out BK354.out (by decide)) (fun _ hk => hk.2) (.slice Ao47 t351.length co47)) (fun _ hk => (And.intro (hk.1.1.1) ((And.intro (hk.1.1.2.1) ((And.intro (hk.1.1.2.2.1) ((And.intro (hk.1.1.2.2.2.1) ((And.intro (hk.1.1.2.2.2.2.1) ((And.intro (hk.1.1.2.2.2.2.2.1) ((And.intro (hk.1.1.2.2.2.2.2.2) (hk.1.2)))))))))))))))⟩
      have n1_ : Aside0 (Kd.R (Kd.int .i64) 3 (w46.setCell ⟨gb354, 0, none⟩ (.slice Ao47 t351.length co47)) w.heap.size (fun k_ => some k_ ≠ (v326 : Value).ownBlock ∧ some k_ ≠ (v332 : Value).ownBlock ∧ some k_ ≠ (v335 : Value).ownBlock ∧ some k_ ≠ (.slice Ao32 t337.length co32 : Value).ownBlock ∧ some k_ ≠ (v342 : Value).ownBlock ∧ some k_ ≠ (v345 : Value).ownBlock ∧ some k_ ≠ (.slice Ao43 t347.length co43 : Value).ownBlock ∧ some k_ ≠ (.slice Ao47 t351.length co47 : Value).ownBlock) v329 t328) := ⟨by (with_reducible repeat (first | apply Kd.R_alloc | apply Kd.R_drewN | apply Kd.R_drew)); exact Kd.R_mono (Kd.R_far (p := ⟨gb354, 0, none⟩) (Kd.R_types HO330.out BK354.out (by decide)) (fun _ hk => hk.2) (.slice Ao47 t351.length co47)) (fun _ hk => (And.intro (hk.1.1.1) ((And.intro (hk.1.1.2.1) ((And.intro (hk.1.1.2.2.1) ((And.intro (hk.1.1.2.2.2.1) ((And.intro (hk.1.1.2.2.2.2.1) ((And.intro (hk.1.1.2.2.2.2.2.1) ((And.intro (hk.1.1.2.2.2.2.2.2) (hk.1.2)))))))))))))))⟩
      have n2_ : Aside0 (Kd.R (Kd.int .i64) 3 (w46.setCell ⟨gb354, 0, none⟩ (.slice Ao47 t351.length co47)) w.heap.size (fun k_ => some k_ ≠ (v326 : Value).ownBlock ∧ some k_ ≠ (v329 : Value).ownBlock ∧ some k_ ≠ (v335 : Value).ownBlock ∧ some k_ ≠ (.slice Ao32 t337.length co32 : Value).ownBlock ∧ some k_ ≠ (v342 : Value).ownBlock ∧ some k_ ≠ (v345 : Value).ownBlock ∧ some k_ ≠ (.slice Ao43 t347.length co43 : Value).ownBlock ∧ some k_ ≠ (.slice Ao47 t351.length co47 : Value).ownBlock) v332 t331) := ⟨by (with_reducible repeat (first | apply Kd.R_alloc | apply Kd.R_drewN | apply Kd.R_drew)); exact Kd.R_mono (Kd.R_far (p := ⟨gb354, 0, none⟩) (Kd.R_types HO333.out BK354.out (by decide)) (fun _ hk => hk.2) (.slice Ao47 t351.length co47)) (fun _ hk => (And.intro (hk.1.1.1) ((And.intro (hk.1.1.2.1) ((And.intro (hk.1.1.2.2.1) ((And.intro (hk.1.1.2.2.2.1) ((And.intro (hk.1.1.2.2.2.2.1) ((And.intro (hk.1.1.2.2.2.2.2.1) ((And.intro (hk.1.1.2.2.2.2.2.2) (hk.1.2)))))))))))))))⟩
      have n3_ : Aside0 (Kd.R (Kd.int .i64) 3 (w46.setCell ⟨gb354, 0, none⟩ (.slice Ao47 t351.length co47)) w.heap.size (fun k_ => some k_ ≠ (v326 : Value).ownBlock ∧ some k_ ≠ (v329 : Value).ownBlock ∧ some k_ ≠ (v332 : Value).ownBlock ∧ some k_ ≠ (.slice Ao32 t337.length co32 : Value).ownBlock ∧ some k_ ≠ (v342 : Value).ownBlock ∧ some k_ ≠ (v345 : Value).ownBlock ∧ some k_ ≠ (.slice Ao43 t347.length co43 : Value).ownBlock ∧ some k_ ≠ (.slice Ao47 t351.length co47 : Value).ownBlock) v335 t334) := ⟨by (with_reducible repeat (first | apply Kd.R_alloc | apply Kd.R_drewN | apply Kd.R_drew)); exact Kd.R_mono (Kd.R_far (p := ⟨gb354, 0, none⟩) (Kd.R_types HO336.out BK354.out (by decide)) (fun _ hk => hk.2) (.slice Ao47 t351.length co47)) (fun _ hk => (And.intro (hk.1.1.1) ((And.intro (hk.1.1.2.1) ((And.intro (hk.1.1.2.2.1) ((And.intro (hk.1.1.2.2.2.1) ((And.intro (hk.1.1.2.2.2.2.1) ((And.intro (hk.1.1.2.2.2.2.2.1) ((And.intro (hk.1.1.2.2.2.2.2.2) (hk.1.2)))))))))))))))⟩
      have n4_ : Aside0 (Kd.R (Kd.int .i64) 3 (w46.setCell ⟨gb354, 0, none⟩ (.slice Ao47 t351.length co47)) w.heap.size (fun k_ => some k_ ≠ (v326 : Value).ownBlock ∧ some k_ ≠ (v329 : Value).ownBlock ∧ some k_ ≠ (v332 : Value).ownBlock ∧ some k_ ≠ (v335 : Value).ownBlock ∧ some k_ ≠ (v342 : Value).ownBlock ∧ some k_ ≠ (v345 : Value).ownBlock ∧ some k_ ≠ (.slice Ao43 t347.length co43 : Value).ownBlock ∧ some k_ ≠ (.slice Ao47 t351.length co47 : Value).ownBlock) (.slice Ao32 t337.length co32) t337) := ⟨by (with_reducible repeat (first | apply Kd.R_alloc | apply Kd.R_drewN | apply Kd.R_drew)); exact Kd.R_mono (Kd.R_far (p := ⟨gb354, 0, none⟩) (Kd.R_types HO339.out BK354.out (by decide)) (fun _ hk => hk.2) (.slice Ao47 t351.length co47)) (fun _ hk => (And.intro (hk.1.1.1) ((And.intro (hk.1.1.2.1) ((And.intro (hk.1.1.2.2.1) ((And.intro (hk.1.1.2.2.2.1) ((And.intro (hk.1.1.2.2.2.2.1) ((And.intro (hk.1.1.2.2.2.2.2.1) ((And.intro (hk.1.1.2.2.2.2.2.2) (hk.1.2)))))))))))))))⟩
      have n5_ : Aside0 (Kd.R (Kd.int .i64) 3 (w46.setCell ⟨gb354, 0, none⟩ (.slice Ao47 t351.length co47)) w.heap.size (fun k_ => some k_ ≠ (v326 : Value).ownBlock ∧ some k_ ≠ (v329 : Value).ownBlock ∧ some k_ ≠ (v332 : Value).ownBlock ∧ some k_ ≠ (v335 : Value).ownBlock ∧ some k_ ≠ (.slice Ao32 t337.length co32 : Value).ownBlock ∧ some k_ ≠ (v345 : Value).ownBlock ∧ some k_ ≠ (.slice Ao43 t347.length co43 : Value).ownBlock ∧ some k_ ≠ (.slice Ao47 t351.length co47 : Value).ownBlock) v342 t341) := ⟨by (with_reducible repeat (first | apply Kd.R_alloc | apply Kd.R_drewN | apply Kd.R_drew)); exact Kd.R_mono (Kd.R_far (p := ⟨gb354, 0, none⟩) (Kd.R_types HO343.out BK354.out (by decide)) (fun _ hk => hk.2) (.slice Ao47 t351.length co47)) (fun _ hk => (And.intro (hk.1.1.1) ((And.intro (hk.1.1.2.1) ((And.intro (hk.1.1.2.2.1) ((And.intro (hk.1.1.2.2.2.1) ((And.intro (hk.1.1.2.2.2.2.1) ((And.intro (hk.1.1.2.2.2.2.2.1) ((And.intro (hk.1.1.2.2.2.2.2.2) (hk.1.2)))))))))))))))⟩
      have n6_ : Aside0 (Kd.R (Kd.int .i64) 3 (w46.setCell ⟨gb354, 0, none⟩ (.slice Ao47 t351.length co47)) w.heap.size (fun k_ => some k_ ≠ (v326 : Value).ownBlock ∧ some k_ ≠ (v329 : Value).ownBlock ∧ some k_ ≠ (v332 : Value).ownBlock ∧ some k_ ≠ (v335 : Value).ownBlock ∧ some k_ ≠ (.slice Ao32 t337.length co32 : Value).ownBlock ∧ some k_ ≠ (v342 : Value).ownBlock ∧ some k_ ≠ (.slice Ao43 t347.length co43 : Value).ownBlock ∧ some k_ ≠ (.slice Ao47 t351.length co47 : Value).ownBlock) v345 t344) := ⟨by (with_reducible repeat (first | apply Kd.R_alloc | apply Kd.R_drewN | apply Kd.R_drew)); exact Kd.R_mono (Kd.R_far (p := ⟨gb354, 0, none⟩) (Kd.R_types HO346.out BK354.out (by decide)) (fun _ hk => hk.2) (.slice Ao47 t351.length co47)) (fun _ hk => (And.intro (hk.1.1.1) ((And.intro (hk.1.1.2.1) ((And.intro (hk.1.1.2.2.1) ((And.intro (hk.1.1.2.2.2.1) ((And.intro (hk.1.1.2.2.2.2.1) ((And.intro (hk.1.1.2.2.2.2.2.1) ((And.intro (hk.1.1.2.2.2.2.2.2) (hk.1.2)))))))))))))))⟩
      have n7_ : Aside0 (Kd.R (Kd.int .i64) 3 (w46.setCell ⟨gb354, 0, none⟩ (.slice Ao47 t351.length co47)) w.heap.size (fun k_ => some k_ ≠ (v326 : Value).ownBlock ∧ some k_ ≠ (v329 : Value).ownBlock ∧ some k_ ≠ (v332 : Value).ownBlock ∧ some k_ ≠ (v335 : Value).ownBlock ∧ some k_ ≠ (.slice Ao32 t337.length co32 : Value).ownBlock ∧ some k_ ≠ (v342 : Value).ownBlock ∧ some k_ ≠ (v345 : Value).ownBlock ∧ some k_ ≠ (.slice Ao47 t351.length co47 : Value).ownBlock) (.slice Ao43 t347.length co43) t347) := ⟨by (with_reducible repeat (first | apply Kd.R_alloc | apply Kd.R_drewN | apply Kd.R_drew)); exact Kd.R_mono (Kd.R_far (p := ⟨gb354, 0, none⟩) (Kd.R_types HO349.out BK354.out (by decide)) (fun _ hk => hk.2) (.slice Ao47 t351.length co47)) (fun _ hk => (And.intro (hk.1.1.1) ((And.intro (hk.1.1.2.1) ((And.intro (hk.1.1.2.2.1) ((And.intro (hk.1.1.2.2.2.1) ((And.intro (hk.1.1.2.2.2.2.1) ((And.intro (hk.1.1.2.2.2.2.2.1) ((And.intro (hk.1.1.2.2.2.2.2.2) (hk.1.2)))))))))))))))⟩
      have n8_ : Aside0 (Kd.R (Kd.int .i64) 3 (w46.setCell ⟨gb354, 0, none⟩ (.slice Ao47 t351.length co47)) w.heap.size (fun k_ => some k_ ≠ (v326 : Value).ownBlock ∧ some k_ ≠ (v329 : Value).ownBlock ∧ some k_ ≠ (v332 : Value).ownBlock ∧ some k_ ≠ (v335 : Value).ownBlock ∧ some k_ ≠ (.slice Ao32 t337.length co32 : Value).ownBlock ∧ some k_ ≠ (v342 : Value).ownBlock ∧ some k_ ≠ (v345 : Value).ownBlock ∧ some k_ ≠ (.slice Ao43 t347.length co43 : Value).ownBlock) (.slice Ao47 t351.length co47) t351) := ⟨by (with_reducible repeat (first | apply Kd.R_alloc | apply Kd.R_drewN | apply Kd.R_drew)); exact Kd.R_mono (Kd.R_far (p := ⟨gb354, 0, none⟩) (Kd.R_types HO353.out BK354.out (by decide)) (fun _ hk => hk.2) (.slice Ao47 t351.length co47)) (fun _ hk => (And.intro (hk.1.1.1.1.1.1.1.1.2) ((And.intro (hk.1.1.1.1.1.1.1.2) ((And.intro (hk.1.1.1.1.1.1.2) ((And.intro (hk.1.1.1.1.1.2) ((And.intro (hk.1.1.1.1.2) ((And.intro (hk.1.1.1.2) ((And.intro (hk.1.1.2) (hk.1.2)))))))))))))))⟩
      have n9_ : Aside0 ((w46.setCell ⟨gb354, 0, none⟩ (.slice Ao47 t351.length co47)).heap[gb324]? = some (.cells #[.int .i64 a2_0, .int .i64 a2_1] 56 (0, 0))) := ⟨by refine blk_far ?_ NB324_354.out _; exact BK324.out⟩
      have n10_ : Aside0 ((w46.setCell ⟨gb354, 0, none⟩ (.slice Ao47 t351.length co47)).heap[gb340]? = some (.cells #[.slice Ao32 t337.length co32] 98 (0, 0))) := ⟨by refine blk_far ?_ NB340_354.out _; exact BK340.out⟩
      have n11_ : Aside0 ((w46.setCell ⟨gb354, 0, none⟩ (.slice Ao47 t351.length co47)).heap[gb350]? = some (.cells #[.slice Ao43 t347.length co43] 98 (0, 0))) := ⟨by refine blk_far ?_ NB350_354.out _; exact BK350.out⟩
      have n12_ : Aside0 ((w46.setCell ⟨gb354, 0, none⟩ (.slice Ao47 t351.length co47)).heap[gb354]? = some (.cells #[.slice Ao47 t351.length co47] 98 (0, 0))) := ⟨by refine blk_put (cs := #[.slice none 0 0]) ?_ 0 _ rfl; exact BK354.out⟩
      have n13_ : Aside0 (Below w.heap.size w (w46.setCell ⟨gb354, 0, none⟩ (.slice Ao47 t351.length co47))) := ⟨by repeat (with_reducible first | exact HB.out | apply bA_ | apply bN_ | apply bD_ | refine bS_ ?_ GE324.out | refine bS_ ?_ GE340.out | refine bS_ ?_ GE350.out | refine bS_ ?_ GE354.out)⟩
      (try clear HO327)
      (try clear HO330)
      (try clear HO333)
      (try clear HO336)
      (try clear HO339)
      (try clear HO343)
      (try clear HO346)
      (try clear HO349)
      (try clear HO353)
      (try clear BK324)
      (try clear BK340)
      (try clear BK350)
      (try clear BK354)
      (try clear HB)
      generalize (w46.setCell ⟨gb354, 0, none⟩ (.slice Ao47 t351.length co47)) = w62 at n0_ n1_ n2_ n3_ n4_ n5_ n6_ n7_ n8_ n9_ n10_ n11_ n12_ n13_ ⊢
      have HO327 := n0_
      have HO330 := n1_
      have HO333 := n2_
      have HO336 := n3_
      have HO339 := n4_
      have HO343 := n5_
      have HO346 := n6_
      have HO349 := n7_
      have HO353 := n8_
      have BK324 := n9_
      have BK340 := n10_
      have BK350 := n11_
      have BK354 := n12_
      have HB := n13_
      clear n0_ n1_ n2_ n3_ n4_ n5_ n6_ n7_ n8_ n9_ n10_ n11_ n12_ n13_
      replace HO327 := aA_ (Kd.R_drew HO327.out)
      replace HO330 := aA_ (Kd.R_drew HO330.out)
      replace HO333 := aA_ (Kd.R_drew HO333.out)
      replace HO336 := aA_ (Kd.R_drew HO336.out)
      replace HO339 := aA_ (Kd.R_drew HO339.out)
      replace HO343 := aA_ (Kd.R_drew HO343.out)
      replace HO346 := aA_ (Kd.R_drew HO346.out)
      replace HO349 := aA_ (Kd.R_drew HO349.out)
      replace HO353 := aA_ (Kd.R_drew HO353.out)
      replace BK324 := aA_ (blk_drew BK324.out)
      replace BK340 := aA_ (blk_drew BK340.out)
      replace BK350 := aA_ (blk_drew BK350.out)
      replace BK354 := aA_ (blk_drew BK354.out)
      replace HB := aA_ (below_drew1 HB.out)
      refine start_ (n := 12) (S := fun w' => w'.cell? ⟨gb340, 0, none⟩ = some (.slice Ao32 t337.length co32) ∧ w'.cell? ⟨gb350, 0, none⟩ = some (.slice Ao43 t347.length co43) ∧ w'.cell? ⟨gb354, 0, none⟩ = some (.slice Ao47 t351.length co47)) (ds := []) (demurrageref03_Part.ups 12 0) (by kernel_rfl) rfl rfl ⟨(blk_cell BK340.out 0).trans rfl, (blk_cell BK350.out 0).trans rfl, (blk_cell BK354.out 0).trans rfl⟩ (fun hHeld => ?_); refine with_tabW demurrageref03_Part.tab6 demurrageref03_Part.bits6 (fun HT_ HW_ => ?_)
      generalize w62.drew = w63 at HO327 HO330 HO333 HO336 HO339 HO343 HO346 HO349 HO353 BK324 BK340 BK350 BK354 HB hHeld ⊢
      refine take_ (i := 0) (N := some 39) (v := ?_) (a' := ?_) (demurrageref03_Part.ups 12 1) rfl rfl (take_ofW HT_.out HW_.out (by kernel_rfl)) (fun _ _ _ h => h) (Or.inl ⟨by rfl, ?_⟩) hHeld ?_ ?_
      rotate_left
      ·rintro w' ⟨s0, s1, s2⟩
       go_simp
       with_reducible rfl
      rotate_left
      ·simp only [Act.put, sT_, sZ_, sS_, i64_w, i32_w]
       rfl
      refine one_ (i := 1) (N := some 40) (demurrageref03_Part.ups 12 3) rfl rfl (one_of HT_.out (by kernel_rfl)) (by decide) (fun K hK => ?_)
      refine goes_ Try.func61 (by kernel_rfl) rfl #[] (by rfl) rfl rfl (by (try simp only [mT_, mC_, mN_]); first | done | rfl) ?_
      with_reducible refine (demurrageref01_Limit.calls kj4  t355 _ A52.out).mono ?_
      rintro e w64 ⟨v356, rfl, ho0, hb⟩
      refine ⟨_, rfl, ?_⟩
      have HO357 := aA_ (Kd.R_lower (Kd.R_new' (Kd.R_new' (Kd.R_new' (Kd.R_new' (Kd.R_new' (Kd.R_new' (Kd.R_new' (Kd.R_new' (Kd.R_new' ho0 (Kd.R_lt HO327.out)) (Kd.R_lt HO330.out)) (Kd.R_lt HO333.out)) (Kd.R_lt HO336.out)) (Kd.R_lt HO339.out)) (Kd.R_lt HO343.out)) (Kd.R_lt HO346.out)) (Kd.R_lt HO349.out)) (Kd.R_lt HO353.out)) (below_size (by repeat (with_reducible first | exact HB.out | apply bA_ | apply bN_ | apply bD_ | refine bS_ ?_ GE324.out | refine bS_ ?_ GE340.out | refine bS_ ?_ GE350.out | refine bS_ ?_ GE354.out))))
      replace HO327 := aA_ (Kd.R_elder' HO327.out (Kd.R_base ho0) hb)
      replace HO330 := aA_ (Kd.R_elder' HO330.out (Kd.R_base ho0) hb)
      replace HO333 := aA_ (Kd.R_elder' HO333.out (Kd.R_base ho0) hb)
      replace HO336 := aA_ (Kd.R_elder' HO336.out (Kd.R_base ho0) hb)
      replace HO339 := aA_ (Kd.R_elder' HO339.out (Kd.R_base ho0) hb)
      replace HO343 := aA_ (Kd.R_elder' HO343.out (Kd.R_base ho0) hb)
      replace HO346 := aA_ (Kd.R_elder' HO346.out (Kd.R_base ho0) hb)
      replace HO349 := aA_ (Kd.R_elder' HO349.out (Kd.R_base ho0) hb)
      replace HO353 := aA_ (Kd.R_elder' HO353.out (Kd.R_base ho0) hb)
      replace BK324 := bK_ BK324 hb
      replace BK340 := bK_ BK340 hb
      replace BK350 := bK_ BK350 hb
      replace BK354 := bK_ BK354 hb
      replace HB := bB_ (by repeat (with_reducible first | exact HB.out | apply bA_ | apply bN_ | apply bD_ | refine bS_ ?_ GE324.out | refine bS_ ?_ GE340.out | refine bS_ ?_ GE350.out | refine bS_ ?_ GE354.out)) hb
      (try clear hb)
      (try clear hb2)
      (try clear hk)
      (try clear hi)
      (try clear ho0)
      obtain ⟨Ao65, co65, eo65⟩ := Kd.R_slice HO357.out
      (first | subst eo65 | (injection eo65 with f1_ f2_ f3_; have f4_ := f1_.symm; have f5_ := f3_.symm; clear f1_ f2_ f3_; subst f4_; subst f5_))
      refine hK.out _ _ ⟨(blk_cell BK340.out 0).trans rfl, (blk_cell BK350.out 0).trans rfl, (blk_cell BK354.out 0).trans rfl⟩ (fun hHeld => ?_)
      clear hK K
      refine norm_ (by show Act.put _ (some 40) _ = _; simp only [Act.put, sT_, sZ_, sS_, i64_w, i32_w] <;> rfl) ?_
      refine one_ (i := 2) (N := some 41) (demurrageref03_Part.ups 12 7) rfl rfl (one_of HT_.out (by kernel_rfl)) (by decide) (fun K hK => ?_)
      refine goes_ Try.func50 (by kernel_rfl) rfl #[.agg #[.slice Ao32 t337.length co32], .agg #[.slice Ao65 t355.length co65]] (by rfl) rfl rfl (by (try simp only [mT_, mC_, mN_]); first | done | rfl) ?_
      with_reducible refine (demurrageref01_Cmp.calls kj4 _ _ t337 _ _ t355 t358 _ ?side1 ?side2 ?side3 ?side4 A53.out).mono ?_
      (case side1 => repeat (first | exact (Kd.R_reads' HO339.out).2.2 | (with_reducible first | refine Kd.C_alloc ?_ _ | refine Kd.C_drewN ?_ _ | refine Kd.C_drew ?_)))
      (case side2 => exact (Kd.R_reads' HO339.out).2.1)
      (case side3 => repeat (first | exact (Kd.R_reads' HO357.out).2.2 | (with_reducible first | refine Kd.C_alloc ?_ _ | refine Kd.C_drewN ?_ _ | refine Kd.C_drew ?_)))
      (case side4 => exact (Kd.R_reads' HO357.out).2.1)
      rintro e w66 ⟨rfl, hb⟩
      refine ⟨_, rfl, ?_⟩
      replace HO327 := aA_ (Kd.R_below HO327.out hb)
      replace HO330 := aA_ (Kd.R_below HO330.out hb)
      replace HO333 := aA_ (Kd.R_below HO333.out hb)
      replace HO336 := aA_ (Kd.R_below HO336.out hb)
      replace HO339 := aA_ (Kd.R_below HO339.out hb)
      replace HO343 := aA_ (Kd.R_below HO343.out hb)
      replace HO346 := aA_ (Kd.R_below HO346.out hb)
      replace HO349 := aA_ (Kd.R_below HO349.out hb)
      replace HO353 := aA_ (Kd.R_below HO353.out hb)
      replace HO357 := aA_ (Kd.R_below HO357.out hb)
      replace BK324 := bK_ BK324 hb
      replace BK340 := bK_ BK340 hb
      replace BK350 := bK_ BK350 hb
      replace BK354 := bK_ BK354 hb
      replace HB := bB_ (by repeat (with_reducible first | exact HB.out | apply bA_ | apply bN_ | apply bD_ | refine bS_ ?_ GE324.out | refine bS_ ?_ GE340.out | refine bS_ ?_ GE350.out | refine bS_ ?_ GE354.out)) hb
      (try clear hb)
      (try clear hb2)
      (try clear hk)
      (try clear hi)
      refine hK.out _ _ ⟨(blk_cell BK340.out 0).trans rfl, (blk_cell BK350.out 0).trans rfl, (blk_cell BK354.out 0).trans rfl⟩ (fun hHeld => ?_)
      clear hK K
      refine norm_ (by show Act.put _ (some 41) _ = _; simp only [Act.put, sT_, sZ_, sS_, i64_w, i32_w] <;> rfl) ?_
      refine pure_ (i := 3) (N := some 42) (v := ?_) (a' := ?_) (demurrageref03_Part.ups 12 15) rfl rfl (any_of HT_.out (by kernel_rfl)) (fun _ _ _ h => h) (Or.inl ⟨by rfl, ?_⟩) ?_ ?_
      rotate_left
      ·intro w'
       go_simp
       with_reducible rfl
      rotate_left
      ·simp only [Act.put, sT_, sZ_, sS_, i64_w, i32_w]
       rfl
      refine pure_ (i := 4) (N := some 43) (v := ?_) (a' := ?_) (demurrageref03_Part.ups 12 31) rfl rfl (any_of HT_.out (by kernel_rfl)) (fun _ _ _ h => h) (Or.inl ⟨by rfl, ?_⟩) ?_ ?_
      rotate_left
      ·intro w'
       go_simp
       with_reducible rfl
      rotate_left
      ·simp only [Act.put, sT_, sZ_, sS_, i64_w, i32_w]
       rfl
      refine take_ (i := 5) (N := some 44) (v := ?_) (a' := ?_) (demurrageref03_Part.ups 12 63) rfl rfl (take_ofW HT_.out HW_.out (by kernel_rfl)) (fun _ _ _ h => h) (Or.inl ⟨by rfl, ?_⟩) hHeld ?_ ?_
      rotate_left
      ·rintro w' ⟨s0, s1, s2⟩
       go_simp
       with_reducible rfl
      rotate_left
      ·simp only [Act.put, sT_, sZ_, sS_, i64_w, i32_w]
       rfl
      refine take_ (i := 6) (N := some 45) (v := ?_) (a' := ?_) (demurrageref03_Part.ups 12 127) rfl rfl (take_ofW HT_.out HW_.out (by kernel_rfl)) (fun _ _ _ h => h) (Or.inl ⟨by rfl, ?_⟩) hHeld ?_ ?_
      rotate_left
      ·rintro w' ⟨s0, s1, s2⟩
       go_simp
       with_reducible rfl
      rotate_left
      ·simp only [Act.put, sT_, sZ_, sS_, i64_w, i32_w]
       rfl
      refine take_ (i := 7) (N := some 46) (v := ?_) (a' := ?_) (demurrageref03_Part.ups 12 255) rfl rfl (take_ofW HT_.out HW_.out (by kernel_rfl)) (fun _ _ _ h => h) (Or.inl ⟨by rfl, ?_⟩) hHeld ?_ ?_
      rotate_left
      ·rintro w' ⟨s0, s1, s2⟩
       go_simp
       with_reducible rfl
      rotate_left
      ·simp only [Act.put, sT_, sZ_, sS_, i64_w, i32_w]
       rfl
      refine one_ (i := 8) (N := some 47) (demurrageref03_Part.ups 12 511) rfl rfl (one_of HT_.out (by kernel_rfl)) (by decide) (fun K hK => ?_)
      refine goes_ Try.func59 (by kernel_rfl) rfl #[.agg #[.slice Ao47 t351.length co47], .agg #[.slice Ao47 t351.length co47]] (by rfl) rfl rfl (by (try simp only [mT_, mC_, mN_]); first | done | rfl) ?_
      with_reducible refine (demurrageref01_Prod.calls kj4 _ _ t351 _ _ t351 t359 _ ?side1 ?side2 ?side3 ?side4 A60.out).mono ?_
      (case side1 => repeat (first | exact (Kd.R_reads' HO353.out).2.2 | (with_reducible first | refine Kd.C_alloc ?_ _ | refine Kd.C_drewN ?_ _ | refine Kd.C_drew ?_)))
      (case side2 => exact (Kd.R_reads' HO353.out).2.1)
      (case side3 => repeat (first | exact (Kd.R_reads' HO353.out).2.2 | (with_reducible first | refine Kd.C_alloc ?_ _ | refine Kd.C_drewN ?_ _ | refine Kd.C_drew ?_)))
      (case side4 => exact (Kd.R_reads' HO353.out).2.1)
      rintro e w67 ⟨v360, rfl, ho0, hb⟩
      refine ⟨_, rfl, ?_⟩
      have HO361 := aA_ (Kd.R_lower (Kd.R_new' (Kd.R_new' (Kd.R_new' (Kd.R_new' (Kd.R_new' (Kd.R_new' (Kd.R_new' (Kd.R_new' (Kd.R_new' (Kd.R_new' ho0 (Kd.R_lt HO327.out)) (Kd.R_lt HO330.out)) (Kd.R_lt HO333.out)) (Kd.R_lt HO336.out)) (Kd.R_lt HO339.out)) (Kd.R_lt HO343.out)) (Kd.R_lt HO346.out)) (Kd.R_lt HO349.out)) (Kd.R_lt HO353.out)) (Kd.R_lt HO357.out)) (below_size (by repeat (with_reducible first | exact HB.out | apply bA_ | apply bN_ | apply bD_ | refine bS_ ?_ GE324.out | refine bS_ ?_ GE340.out | refine bS_ ?_ GE350.out | refine bS_ ?_ GE354.out))))
      replace HO327 := aA_ (Kd.R_elder' HO327.out (Kd.R_base ho0) hb)
      replace HO330 := aA_ (Kd.R_elder' HO330.out (Kd.R_base ho0) hb)
      replace HO333 := aA_ (Kd.R_elder' HO333.out (Kd.R_base ho0) hb)
      replace HO336 := aA_ (Kd.R_elder' HO336.out (Kd.R_base ho0) hb)
      replace HO339 := aA_ (Kd.R_elder' HO339.out (Kd.R_base ho0) hb)
      replace HO343 := aA_ (Kd.R_elder' HO343.out (Kd.R_base ho0) hb)
      replace HO346 := aA_ (Kd.R_elder' HO346.out (Kd.R_base ho0) hb)
      replace HO349 := aA_ (Kd.R_elder' HO349.out (Kd.R_base ho0) hb)
      replace HO353 := aA_ (Kd.R_elder' HO353.out (Kd.R_base ho0) hb)
      replace HO357 := aA_ (Kd.R_elder' HO357.out (Kd.R_base ho0) hb)
      replace BK324 := bK_ BK324 hb
      replace BK340 := bK_ BK340 hb
      replace BK350 := bK_ BK350 hb
      replace BK354 := bK_ BK354 hb
      replace HB := bB_ (by repeat (with_reducible first | exact HB.out | apply bA_ | apply bN_ | apply bD_ | refine bS_ ?_ GE324.out | refine bS_ ?_ GE340.out | refine bS_ ?_ GE350.out | refine bS_ ?_ GE354.out)) hb
      (try clear hb)
      (try clear hb2)
      (try clear hk)
      (try clear hi)
      (try clear ho0)
      obtain ⟨Ao68, co68, eo68⟩ := Kd.R_slice HO361.out
      (first | subst eo68 | (injection eo68 with f1_ f2_ f3_; have f4_ := f1_.symm; have f5_ := f3_.symm; clear f1_ f2_ f3_; subst f4_; subst f5_))
      refine hK.out _ _ ⟨(blk_cell BK340.out 0).trans rfl, (blk_cell BK350.out 0).trans rfl, (blk_cell BK354.out 0).trans rfl⟩ (fun hHeld => ?_)
      clear hK K
      refine norm_ (by show Act.put _ (some 47) _ = _; simp only [Act.put, sT_, sZ_, sS_, i64_w, i32_w] <;> rfl) ?_
      refine one_ (i := 9) (N := some 48) (demurrageref03_Part.ups 12 1023) rfl rfl (one_of HT_.out (by kernel_rfl)) (by decide) (fun K hK => ?_)
      refine goes_ Try.func50 (by kernel_rfl) rfl #[.agg #[.slice Ao43 t347.length co43], .agg #[.slice Ao68 t359.length co68]] (by rfl) rfl rfl (by (try simp only [mT_, mC_, mN_]); first | done | rfl) ?_
      with_reducible refine (demurrageref01_Cmp.calls kj4 _ _ t347 _ _ t359 t362 _ ?side1 ?side2 ?side3 ?side4 A61.out).mono ?_
      (case side1 => repeat (first | exact (Kd.R_reads' HO349.out).2.2 | (with_reducible first | refine Kd.C_alloc ?_ _ | refine Kd.C_drewN ?_ _ | refine Kd.C_drew ?_)))
      (case side2 => exact (Kd.R_reads' HO349.out).2.1)
      (case side3 => repeat (first | exact (Kd.R_reads' HO361.out).2.2 | (with_reducible first | refine Kd.C_alloc ?_ _ | refine Kd.C_drewN ?_ _ | refine Kd.C_drew ?_)))
      (case side4 => exact (Kd.R_reads' HO361.out).2.1)
      rintro e w69 ⟨rfl, hb⟩
      refine ⟨_, rfl, ?_⟩
      replace HO327 := aA_ (Kd.R_below HO327.out hb)
      replace HO330 := aA_ (Kd.R_below HO330.out hb)
      replace HO333 := aA_ (Kd.R_below HO333.out hb)
      replace HO336 := aA_ (Kd.R_below HO336.out hb)
      replace HO339 := aA_ (Kd.R_below HO339.out hb)
      replace HO343 := aA_ (Kd.R_below HO343.out hb)
      replace HO346 := aA_ (Kd.R_below HO346.out hb)
      replace HO349 := aA_ (Kd.R_below HO349.out hb)
      replace HO353 := aA_ (Kd.R_below HO353.out hb)
      replace HO357 := aA_ (Kd.R_below HO357.out hb)
      replace HO361 := aA_ (Kd.R_below HO361.out hb)
      replace BK324 := bK_ BK324 hb
      replace BK340 := bK_ BK340 hb
      replace BK350 := bK_ BK350 hb
      replace BK354 := bK_ BK354 hb
      replace HB := bB_ (by repeat (with_reducible first | exact HB.out | apply bA_ | apply bN_ | apply bD_ | refine bS_ ?_ GE324.out | refine bS_ ?_ GE340.out | refine bS_ ?_ GE350.out | refine bS_ ?_ GE354.out)) hb
      (try clear hb)
      (try clear hb2)
      (try clear hk)
      (try clear hi)
      refine hK.out _ _ ⟨(blk_cell BK340.out 0).trans rfl, (blk_cell BK350.out 0).trans rfl, (blk_cell BK354.out 0).trans rfl⟩ (fun hHeld => ?_)
      clear hK K
      refine norm_ (by show Act.put _ (some 48) _ = _; simp only [Act.put, sT_, sZ_, sS_, i64_w, i32_w] <;> rfl) ?_
      refine pure_ (i := 10) (N := some 49) (v := ?_) (a' := ?_) (demurrageref03_Part.ups 12 2047) rfl rfl (any_of HT_.out (by kernel_rfl)) (fun _ _ _ h => h) (Or.inl ⟨by rfl, ?_⟩) ?_ ?_
      rotate_left
      ·intro w'
       go_simp
       with_reducible rfl
      rotate_left
      ·simp only [Act.put, sT_, sZ_, sS_, i64_w, i32_w]
       rfl
      refine pure_ (i := 11) (N := some 50) (v := ?_) (a' := ?_) (demurrageref03_Part.ups 12 4095) rfl rfl (any_of HT_.out (by kernel_rfl)) (fun _ _ _ h => h) (Or.inl ⟨by rfl, ?_⟩) ?_ ?_
      rotate_left
      ·intro w'
       go_simp
       with_reducible rfl
      rotate_left
      ·simp only [Act.put, sT_, sZ_, sS_, i64_w, i32_w]
       rfl
      refine done_ (done_of HT_.out (by kernel_rfl)) ?_
      try go_wp2
      go_meet
      case rel => exact ⟨_, (decide (t362 ≥ 0)), (by first | rfl | simp | simp [*]), H', ⟨by have := HJ4.out; first | omega | exact Nat.le_refl _⟩, ⟨by (with_reducible repeat (first | apply Kd.R_alloc | apply Kd.R_drewN | apply Kd.R_drew)); exact Kd.R_mono HO339.out (fun _ hk => (And.intro (hk.1.1.2.2.2.2.2.2.1) (hk.1.1.2.2.2.2.2.2.2)))⟩, ⟨by (with_reducible repeat (first | apply Kd.R_alloc | apply Kd.R_drewN | apply Kd.R_drew)); exact Kd.R_mono HO349.out (fun _ hk => (And.intro (hk.1.1.2.2.2.2.1) (hk.1.1.2.2.2.2.2.2.2)))⟩, ⟨by (with_reducible repeat (first | apply Kd.R_alloc | apply Kd.R_drewN | apply Kd.R_drew)); exact Kd.R_mono HO353.out (fun _ hk => (And.intro (hk.1.1.2.2.2.2.1) (hk.1.1.2.2.2.2.2.2.2)))⟩, ⟨by exact BK324.out⟩, ⟨by exact BK340.out⟩, ⟨by exact BK350.out⟩, ⟨by exact BK354.out⟩, ⟨by repeat (with_reducible first | exact HB.out | apply bA_ | apply bN_ | apply bD_ | refine bS_ ?_ GE324.out | refine bS_ ?_ GE340.out | refine bS_ ?_ GE350.out | refine bS_ ?_ GE354.out)⟩⟩
    case rest =>
     clear HC19
     try clear p2
     try clear c5
     try clear c6
     try clear c50
     try clear c54
     try clear c54b0
     try clear c54b1
     try clear c59
     try clear c61
     obtain ⟨kq, x50_18, rfl, HA, HJ18, HO_341000, HO_351000, HO_355000, BK324, BK340, BK350, BK354, HB⟩ := hcut
     cases kq with
     | zero => exact absurd HA.out (by simp [demurrageref03_Part.j1])
     | succ kj18 =>
      have H := HA.out
      clear HA
      simp only [demurrageref03_Part.j1] at H
      by_cases c70 : x50_18 = true
      ·subst c70
       rw [if_pos rfl] at H
       simp only [Option.some.injEq, Prod.mk.injEq] at H
       obtain ⟨rfl, rfl⟩ := H
       go_wp2
       go_ret2
       exact ⟨by rfl, by repeat (with_reducible first | exact HB.out | apply bA_ | apply bN_ | apply bD_ | refine bS_ ?_ GE324.out | refine bS_ ?_ GE340.out | refine bS_ ?_ GE350.out | refine bS_ ?_ GE354.out)⟩
      ·replace c70 := Bool.eq_false_iff.mpr c70
       subst c70
       rw [if_neg (show ¬ (false = true) by decide)] at H
       replace H := bI_ H
       obtain ⟨t363, A710, H⟩ := H
       (try dsimp only at H)
       have A71 := aA_ A710
       clear A710
       replace H := bI_ H
       obtain ⟨⟨t366, t367⟩, A720, H⟩ := H
       (try dsimp only at H)
       have A72 := aA_ A720
       clear A720
       simp only [Option.some.injEq, Prod.mk.injEq] at H
       obtain ⟨rfl, rfl⟩ := H
       have hnb73 := NB340_324.out
       have hnc73 := NB324_340.out
       have hnb74 := NB340_350.out
       have hnc74 := NB350_340.out
       have hnb75 := NB340_354.out
       have hnc75 := NB354_340.out
       have hcz76_0 : wc.cell? ⟨gb340, 0, none⟩ = some (.slice Ao32 t337.length co32) := (blk_cell BK340.out 0).trans rfl
       have hfz76_0 := blk_frozen BK340.out 0
       have hnb77 := NB350_324.out
       have hnc77 := NB324_350.out
       have hnb78 := NB350_354.out
       have hnc78 := NB354_350.out
       have hcz79_0 : wc.cell? ⟨gb350, 0, none⟩ = some (.slice Ao43 t347.length co43) := (blk_cell BK350.out 0).trans rfl
       have hfz79_0 := blk_frozen BK350.out 0
       go_wp2_with (first | ((with_reducible refine gate_callee (f := 63) rfl ?_); refine goesL_ (some 53) rfl rfl Try.func63 (by kernel_rfl) rfl #[.agg #[.slice Ao32 t337.length co32], .agg #[.slice Ao43 t347.length co43]] rfl (by (try simp only [mT_, mC_, mN_]); first | done | rfl) ?_; (with_reducible refine (demurrageref03_Near.calls kj18 _ _ t337 _ _ t347 t363 _ ?side1 ?side2 ?side3 ?side4 A71.out).mono ?_); (case side1 => repeat (first | exact (Kd.R_reads' HO_341000.out).2.2 | (with_reducible first | refine Kd.C_alloc ?_ _ | refine Kd.C_drewN ?_ _ | refine Kd.C_drew ?_))); (case side2 => exact (Kd.R_reads' HO_341000.out).2.1); (case side3 => repeat (first | exact (Kd.R_reads' HO_351000.out).2.2 | (with_reducible first | refine Kd.C_alloc ?_ _ | refine Kd.C_drewN ?_ _ | refine Kd.C_drew ?_))); (case side4 => exact (Kd.R_reads' HO_351000.out).2.1); rintro e w80 ⟨v364, rfl, ho0, hb⟩; refine ⟨_, rfl, ?_⟩; have HO365 := aA_ (Kd.R_lower (Kd.R_new' (Kd.R_new' (Kd.R_new' ho0 (Kd.R_lt HO_341000.out)) (Kd.R_lt HO_351000.out)) (Kd.R_lt HO_355000.out)) (below_size (by repeat (with_reducible first | exact HB.out | apply bA_ | apply bN_ | apply bD_ | refine bS_ ?_ GE324.out | refine bS_ ?_ GE340.out | refine bS_ ?_ GE350.out | refine bS_ ?_ GE354.out)))); replace HO_341000 := aA_ (Kd.R_elder' HO_341000.out (Kd.R_base ho0) hb); replace HO_351000 := aA_ (Kd.R_elder' HO_351000.out (Kd.R_base ho0) hb); replace HO_355000 := aA_ (Kd.R_elder' HO_355000.out (Kd.R_base ho0) hb); replace BK324 := bK_ BK324 hb; replace BK340 := bK_ BK340 hb; replace BK350 := bK_ BK350 hb; replace BK354 := bK_ BK354 hb; replace HB := bB_ (by repeat (with_reducible first | exact HB.out | apply bA_ | apply bN_ | apply bD_ | refine bS_ ?_ GE324.out | refine bS_ ?_ GE340.out | refine bS_ ?_ GE350.out | refine bS_ ?_ GE354.out)) hb; (try clear hb); (try clear ho0); obtain ⟨Ao81, co81, eo81⟩ := Kd.R_slice HO365.out; subst eo81) | ((with_reducible refine gate_callee (f := 62) rfl ?_); refine goesL_ (some 54) rfl rfl Try.func62 (by kernel_rfl) rfl #[.agg #[.slice Ao81 t363.length co81]] rfl (by (try simp only [mT_, mC_, mN_]); first | done | rfl) ?_; (with_reducible refine (demurrageref03_told.calls kj18 _ _ t363 t366 t367 _ ?side1 ?side2 A72.out).mono ?_); (case side1 => repeat (first | exact (Kd.R_reads' HO365.out).2.2 | (with_reducible first | refine Kd.C_alloc ?_ _ | refine Kd.C_drewN ?_ _ | refine Kd.C_drew ?_))); (case side2 => exact (Kd.R_reads' HO365.out).2.1); rintro e w82 ⟨rfl, hb⟩; refine ⟨_, rfl, ?_⟩; replace HO_341000 := aA_ (Kd.R_below HO_341000.out hb); replace HO_351000 := aA_ (Kd.R_below HO_351000.out hb); replace HO_355000 := aA_ (Kd.R_below HO_355000.out hb); replace HO365 := aA_ (Kd.R_below HO365.out hb); replace BK324 := bK_ BK324 hb; replace BK340 := bK_ BK340 hb; replace BK350 := bK_ BK350 hb; replace BK354 := bK_ BK354 hb; replace HB := bB_ (by repeat (with_reducible first | exact HB.out | apply bA_ | apply bN_ | apply bD_ | refine bS_ ?_ GE324.out | refine bS_ ?_ GE340.out | refine bS_ ?_ GE350.out | refine bS_ ?_ GE354.out)) hb; (try clear hb)))
       go_ret2
       exact ⟨by rfl, by repeat (with_reducible first | exact HB.out | apply bA_ | apply bN_ | apply bD_ | refine bS_ ?_ GE324.out | refine bS_ ?_ GE340.out | refine bS_ ?_ GE350.out | refine bS_ ?_ GE354.out)⟩

end Go.Proofs.Yteikafepdkijdaa.X
