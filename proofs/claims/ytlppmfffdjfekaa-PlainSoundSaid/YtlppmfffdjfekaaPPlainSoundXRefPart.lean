-- cut by prune.py, a program of this session
import Derived.Test.YtlppmfffdjfekaaPPlainSoundX0
import Derived.Test.YtlppmfffdjfekaaPPlainSoundXBig
import Derived.Test.YtlppmfffdjfekaaPPlainSoundXQuot
import Derived.Test.YtlppmfffdjfekaaPPlainSoundXRefThree
namespace Go.Proofs.Ytlppmfffdjfekaa.X
open Go.RowKit Go.Proofs.YtlppmfffdjfekaaW.PrintWords Go.Proofs.YtlppmfffdjfekaaW.PrintLast Go.Proofs.YtlppmfffdjfekaaW.PrintMore
set_option linter.unusedVariables false
set_option linter.unusedSimpArgs false

def demurrageref03_Part.upsl : Nat → Nat → List Bool
 | 0, _ => []
 | n + 1, m => (m % 2 == 1) :: demurrageref03_Part.upsl n (m / 2)
def demurrageref03_Part.ups (n m : Nat) : Array Bool := ⟨demurrageref03_Part.upsl n m⟩
mutual
def demurrageref03_Part.j0 : Nat → Int → Int → Int → Bool → Int → Int → Option (Int × Int)
 | 0, _, _, _, _, _, _ => none
 | k + 1, x0, x1, x3, x22, x276000, x276001 => if x22 = true then (some (0, 1)) else ((demurrageref01_From.f k x0).bind fun t276 => ((demurrageref01_From.f k x1).bind fun t279 => ((demurrageref01_Prod.f k t276 t279).bind fun t282 => ((demurrageref01_From.f k x276000).bind fun t285 => ((demurrageref01_Prod.f k t282 t285).bind fun t288 => ((demurrageref01_From.f k x3).bind fun t292 => ((demurrageref01_From.f k x276001).bind fun t295 => ((demurrageref01_Prod.f k t292 t295).bind fun t298 => ((demurrageref01_FromU.f k 4294967296).bind fun t302 => ((demurrageref01_Limit.f k).bind fun t306 => ((demurrageref01_Cmp.f k t288 t306).bind fun t309 => (if t309 ≥ 0 then (demurrageref03_Part.j1 k true t288 t298) else ((demurrageref01_Prod.f k t302 t302).bind fun t310 => ((demurrageref01_Cmp.f k t298 t310).bind fun t313 => (demurrageref03_Part.j1 k (decide (t313 ≥ 0)) t288 t298)))))))))))))))
def demurrageref03_Part.j1 : Nat → Bool → List Int → List Int → Option (Int × Int)
 | 0, _, _, _ => none
 | k + 1, x50, x292000, x302000 => if x50 = true then (some (0, 6)) else ((demurrageref03_Near.f k x292000 x302000).bind fun t314 => ((demurrageref03_told.f k t314).bind fun bt317 => (some (bt317.1, bt317.2))))
end
def demurrageref03_Part.f (k : Nat) (a0 : Int) (a1 : Int) (a2_0 : Int) (a2_1 : Int) (a3 : Int) : Option (Int × Int) := if a0 < 0 then (demurrageref03_Part.j0 k a0 a1 a3 true a2_0 a2_1) else (if a1 < 0 then (demurrageref03_Part.j0 k a0 a1 a3 true a2_0 a2_1) else (demurrageref03_Part.j0 k a0 a1 a3 (decide (a3 < 1)) a2_0 a2_1))
def demurrageref03_Part.T3 : Bool × List (List Nat × List Nat) := (true, [([], []), ([0], [0]), ([], []), ([2, 1], [2]), ([1, 3, 3], [1, 3]), ([], []), ([5], [5]), ([6, 4], [6]), ([4, 7, 7], [4, 7]), ([], []), ([9, 8, 8, 0, 1, 2, 3, 4, 5, 6, 7, 8, 9], [8, 9])])
def demurrageref03_Part.B3 : List Nat := [0, 1, 0, 7, 15, 0, 32, 127, 255, 0, 1023]
theorem demurrageref03_Part.tab3 : rtab .any (opsOf Try.f26 3) = demurrageref03_Part.T3 := by kernel_rfl
theorem demurrageref03_Part.bits3 : waitsOk demurrageref03_Part.T3.2 demurrageref03_Part.B3 = true := by kernel_rfl
def demurrageref03_Part.T4 : Bool × List (List Nat × List Nat) := (true, [([], []), ([0], [0]), ([], []), ([2], [2]), ([3, 1], [3]), ([1, 4, 4], [1, 4]), ([], []), ([6, 5, 5, 0, 1, 2, 3, 4, 5, 6], [5, 6])])
def demurrageref03_Part.B4 : List Nat := [0, 1, 0, 4, 15, 31, 0, 127]
theorem demurrageref03_Part.tab4 : rtab .any (opsOf Try.f26 4) = demurrageref03_Part.T4 := by kernel_rfl
theorem demurrageref03_Part.bits4 : waitsOk demurrageref03_Part.T4.2 demurrageref03_Part.B4 = true := by kernel_rfl
def demurrageref03_Part.T6 : Bool × List (List Nat × List Nat) := (true, [([], []), ([], []), ([0, 1, 1], [0, 1]), ([2], [2]), ([3, 2], [3]), ([4], [4]), ([4], [4]), ([4], [4]), ([6, 7, 4, 4], [4, 6, 7]), ([5, 8, 8, 4], [4, 5, 8]), ([9, 4], [4, 9]), ([4, 10], [4, 10])])
def demurrageref03_Part.B6 : List Nat := [0, 0, 3, 7, 15, 31, 31, 31, 223, 511, 1023, 2047]
theorem demurrageref03_Part.tab6 : rtab .any (opsOf Try.f26 6) = demurrageref03_Part.T6 := by kernel_rfl
theorem demurrageref03_Part.bits6 : waitsOk demurrageref03_Part.T6.2 demurrageref03_Part.B6 = true := by kernel_rfl
set_option maxHeartbeats 8000000 in
set_option maxRecDepth 100000 in
theorem demurrageref03_Part.calls (k : Nat) (a0 : Int) (a1 : Int) (a2_0 : Int) (a2_1 : Int) (a3 : Int) (r1 : Int) (r2 : Int) (w : World) (h : demurrageref03_Part.f k a0 a1 a2_0 a2_1 a3 = some (r1, r2)) :
  Calls Try.prog 26 #[.int .i64 a0, .int .i64 a1, .agg #[.int .i64 a2_0, .int .i64 a2_1], .int .i64 a3] w fun e w' => e = .returned (.tuple #[.int .i64 r1, .int .i64 r2]) ∧ Below w.heap.size w w' := by
 have hu42 := Try.underlying42
 have hu61 := Try.underlying61
 have HB := Aside0.mk (Below.refl w.heap.size w)
 have H : (if a0 < 0 then (demurrageref03_Part.j0 k a0 a1 a3 true a2_0 a2_1) else (if a1 < 0 then (demurrageref03_Part.j0 k a0 a1 a3 true a2_0 a2_1) else (demurrageref03_Part.j0 k a0 a1 a3 (decide (a3 < 1)) a2_0 a2_1))) = some (r1, r2) := h
 clear h
 have HC5 := Aside0.mk H
 clear H
 go_enter Try.func26, Try.ntmps26
 go_upto_region 1 with (first | ((with_reducible refine gate_dst (N := 6) rfl ?_); refine box_event ?hg (N := 6) ?hd (cs := #[.int .i64 a2_0, .int .i64 a2_1]) (t := 42) ?hr ?_; (case hd => rfl); (case hg => rfl); (case hr => first | (go_simp; done) | (go_simp; rfl)); intro gb275 hg w6 hbox hb; have BK275 := Aside0.mk (hbox); have GW275 := Aside0.mk ((by rw [hg]; exact (below_size (by repeat (first | (with_reducible first | exact HB.out | apply bA_ | apply bN_ | apply bD_) | exact HB.out))) : w.heap.size ≤ gb275)); have GE275 := GW275; replace HB := Aside0.mk (below_step (by repeat (first | (with_reducible first | exact HB.out | apply bA_ | apply bN_ | apply bD_) | exact HB.out)) hb); clear hb hbox hg))
 (try simp only [Act.put, sT_, sZ_, sS_])
 go_cut [22] (fun v22 wc => ∃ (kq : Nat) (x22_4 : Bool), v22 = .bool x22_4 ∧ Aside0 (demurrageref03_Part.j0 kq a0 a1 a3 x22_4 a2_0 a2_1 = some (r1, r2)) ∧ Aside0 (kq ≤ k) ∧ Aside0 (wc.heap[gb275]? = some (.cells #[.int .i64 a2_0, .int .i64 a2_1] 42 (0, 0))) ∧ Aside0 (Below w.heap.size w wc))
 case first =>
  have H := HC5.out
  clear HC5
  by_cases c7 : a0 < 0
  ·rw [if_pos c7] at H
   have c7b0 : decide (a0 < 0) = true := decide_eq_true c7
   clear c7
   (first | rw [c7b0] | (simp only [i64_w, i32_w]; rw [c7b0]) | rw [c7b1] | skip)
   have H' := Aside0.mk H
   clear H
   go_wp2
   go_meet
   case rel => exact ⟨_, _, (by first | rfl | (simp; done) | (simp [*]; done)), H', ⟨by first | omega | exact Nat.le_refl _⟩, ⟨by exact BK275.out⟩, ⟨by repeat (first | (with_reducible first | exact HB.out | apply bA_ | apply bN_ | apply bD_ | refine bS_ ?_ GE275.out) | exact HB.out)⟩⟩
  ·rw [if_neg c7] at H
   have c7b0 : decide (a0 < 0) = false := decide_eq_false c7
   clear c7
   (first | rw [c7b0] | (simp only [i64_w, i32_w]; rw [c7b0]) | rw [c7b1] | skip)
   by_cases c8 : a1 < 0
   ·rw [if_pos c8] at H
    have c8b0 : decide (a1 < 0) = true := decide_eq_true c8
    clear c8
    have H' := Aside0.mk H
    clear H
    go_wp2
    go_meet
    case rel => exact ⟨_, _, (by first | rfl | (simp; done) | (simp [*]; done)), H', ⟨by first | omega | exact Nat.le_refl _⟩, ⟨by exact BK275.out⟩, ⟨by repeat (first | (with_reducible first | exact HB.out | apply bA_ | apply bN_ | apply bD_ | refine bS_ ?_ GE275.out) | exact HB.out)⟩⟩
   ·rw [if_neg c8] at H
    have c8b0 : decide (a1 < 0) = false := decide_eq_false c8
    clear c8
    have H' := Aside0.mk H
    clear H
    go_wp2
    go_meet
    case rel => exact ⟨_, (decide (a3 < 1)), (by first | rfl | (simp; done) | (simp [*]; done)), H', ⟨by first | omega | exact Nat.le_refl _⟩, ⟨by exact BK275.out⟩, ⟨by repeat (first | (with_reducible first | exact HB.out | apply bA_ | apply bN_ | apply bD_ | refine bS_ ?_ GE275.out) | exact HB.out)⟩⟩
 case rest =>
  clear HC5
  try clear c2
  try clear p2
  try clear c7
  try clear c7b0
  try clear c7b1
  try clear c8
  try clear c8b0
  obtain ⟨kq, x22_4, rfl, HA, HJ4, BK275, HB⟩ := hcut
  cases kq with
  | zero => exact absurd HA.out (by simp [demurrageref03_Part.j0])
  | succ kj4 =>
   have H := HA.out
   clear HA
   simp only [demurrageref03_Part.j0] at H
   by_cases c9 : x22_4 = true
   ·subst c9
    rw [if_pos rfl] at H
    simp only [Option.some.injEq, Prod.mk.injEq] at H
    obtain ⟨rfl, rfl⟩ := H
    go_wp2
    go_ret2
    exact ⟨by rfl, by repeat (first | (with_reducible first | exact HB.out | apply bA_ | apply bN_ | apply bD_ | refine bS_ ?_ GE275.out) | exact HB.out)⟩
   ·replace c9 := Bool.eq_false_iff.mpr c9
    subst c9
    rw [if_neg (show ¬ (false = true) by decide)] at H
    replace H := Option.bind_eq_some_iff.mp H
    obtain ⟨t276, A100, H⟩ := H
    (try dsimp only at H)
    have A10 := Aside0.mk A100
    clear A100
    replace H := Option.bind_eq_some_iff.mp H
    obtain ⟨t279, A110, H⟩ := H
    (try dsimp only at H)
    have A11 := Aside0.mk A110
    clear A110
    replace H := Option.bind_eq_some_iff.mp H
    obtain ⟨t282, A120, H⟩ := H
    (try dsimp only at H)
    have A12 := Aside0.mk A120
    clear A120
    replace H := Option.bind_eq_some_iff.mp H
    obtain ⟨t285, A130, H⟩ := H
    (try dsimp only at H)
    have A13 := Aside0.mk A130
    clear A130
    replace H := Option.bind_eq_some_iff.mp H
    obtain ⟨t288, A140, H⟩ := H
    (try dsimp only at H)
    have A14 := Aside0.mk A140
    clear A140
    replace H := Option.bind_eq_some_iff.mp H
    obtain ⟨t292, A150, H⟩ := H
    (try dsimp only at H)
    have A15 := Aside0.mk A150
    clear A150
    replace H := Option.bind_eq_some_iff.mp H
    obtain ⟨t295, A160, H⟩ := H
    (try dsimp only at H)
    have A16 := Aside0.mk A160
    clear A160
    replace H := Option.bind_eq_some_iff.mp H
    obtain ⟨t298, A170, H⟩ := H
    (try dsimp only at H)
    have A17 := Aside0.mk A170
    clear A170
    replace H := Option.bind_eq_some_iff.mp H
    obtain ⟨t302, A180, H⟩ := H
    (try dsimp only at H)
    have A18 := Aside0.mk A180
    clear A180
    have HC19 := Aside0.mk H
    clear H
    try go_wp2
    replace BK275 := Aside0.mk (blk_drew BK275.out)
    replace HB := Aside0.mk (below_drew1 HB.out)
    refine start_ (n := 11) (S := fun w' => w'.cell? ⟨gb275, 0, none⟩ = some (.int .i64 a2_0) ∧ w'.cell? ⟨gb275, 1, none⟩ = some (.int .i64 a2_1)) (ds := []) (demurrageref03_Part.ups 11 0) (by kernel_rfl) rfl rfl ⟨(blk_cell BK275.out 0).trans rfl, (blk_cell BK275.out 1).trans rfl⟩ (fun hHeld => ?_); refine with_tabW demurrageref03_Part.tab3 demurrageref03_Part.bits3 (fun HT_ HW_ => ?_)
    generalize wc.drew = w20 at BK275 HB hHeld ⊢
    refine pure_ (i := 0) (N := some 23) (v := ?_) (a' := ?_) (demurrageref03_Part.ups 11 1) rfl rfl (any_of HT_.out (by kernel_rfl)) (fun _ _ _ h => h) (Or.inl ⟨by rfl, ?_⟩) ?_ ?_
    rotate_left
    ·intro w'
     go_simp
     with_reducible rfl
    rotate_left
    ·simp only [Act.put, sT_, sZ_, sS_, i64_w, i32_w]
     rfl
    refine pure_ (i := 2) (N := some 25) (v := ?_) (a' := ?_) (demurrageref03_Part.ups 11 5) rfl rfl (any_of HT_.out (by kernel_rfl)) (fun _ _ _ h => h) (Or.inl ⟨by rfl, ?_⟩) ?_ ?_
    rotate_left
    ·intro w'
     go_simp
     with_reducible rfl
    rotate_left
    ·simp only [Act.put, sT_, sZ_, sS_, i64_w, i32_w]
     rfl
    refine pure_ (i := 5) (N := some 28) (v := ?_) (a' := ?_) (demurrageref03_Part.ups 11 37) rfl rfl (any_of HT_.out (by kernel_rfl)) (fun _ _ _ h => h) (Or.inl ⟨by rfl, ?_⟩) ?_ ?_
    rotate_left
    ·intro w'
     go_simp
     with_reducible rfl
    rotate_left
    ·simp only [Act.put, sT_, sZ_, sS_, i64_w, i32_w]
     rfl
    refine take_ (i := 6) (N := some 29) (v := ?_) (a' := ?_) (demurrageref03_Part.ups 11 101) rfl rfl (take_ofW HT_.out HW_.out (by kernel_rfl)) (fun _ _ _ h => h) (Or.inl ⟨by rfl, ?_⟩) hHeld ?_ ?_
    rotate_left
    ·rintro w' ⟨s0, s1⟩
     go_simp
     with_reducible rfl
    rotate_left
    ·simp only [Act.put, sT_, sZ_, sS_, i64_w, i32_w]
     rfl
    refine join_ (σ := Value × Value × Value × Value × Value × Nat) 1 (demurrageref03_Part.ups 11 1023) (fun s_ => [(24, .agg #[s_.1]), (26, .agg #[s_.2.1]), (27, .agg #[s_.2.2.1]), (30, .agg #[s_.2.2.2.1]), (31, .agg #[s_.2.2.2.2.1]), (10, .pointer (some ⟨s_.2.2.2.2.2, 0, none⟩))]) (fun s_ w' => (w'.cell? ⟨gb275, 0, none⟩ = some (.int .i64 a2_0) ∧ w'.cell? ⟨gb275, 1, none⟩ = some (.int .i64 a2_1)) ∧ (Kd.R (Kd.int .i64) 3 w' w.heap.size (fun k_ => some k_ ≠ (s_.2.1 : Value).ownBlock ∧ some k_ ≠ (s_.2.2.1 : Value).ownBlock ∧ some k_ ≠ (s_.2.2.2.1 : Value).ownBlock ∧ some k_ ≠ (s_.2.2.2.2.1 : Value).ownBlock) s_.1 t276) ∧ (Kd.R (Kd.int .i64) 3 w' w.heap.size (fun k_ => some k_ ≠ (s_.1 : Value).ownBlock ∧ some k_ ≠ (s_.2.2.1 : Value).ownBlock ∧ some k_ ≠ (s_.2.2.2.1 : Value).ownBlock ∧ some k_ ≠ (s_.2.2.2.2.1 : Value).ownBlock) s_.2.1 t279) ∧ (Kd.R (Kd.int .i64) 3 w' w.heap.size (fun k_ => some k_ ≠ (s_.1 : Value).ownBlock ∧ some k_ ≠ (s_.2.1 : Value).ownBlock ∧ some k_ ≠ (s_.2.2.2.1 : Value).ownBlock ∧ some k_ ≠ (s_.2.2.2.2.1 : Value).ownBlock) s_.2.2.1 t282) ∧ (Kd.R (Kd.int .i64) 3 w' w.heap.size (fun k_ => some k_ ≠ (s_.1 : Value).ownBlock ∧ some k_ ≠ (s_.2.1 : Value).ownBlock ∧ some k_ ≠ (s_.2.2.1 : Value).ownBlock ∧ some k_ ≠ (s_.2.2.2.2.1 : Value).ownBlock) s_.2.2.2.1 t285) ∧ (Kd.R (Kd.int .i64) 3 w' w.heap.size (fun k_ => some k_ ≠ (s_.1 : Value).ownBlock ∧ some k_ ≠ (s_.2.1 : Value).ownBlock ∧ some k_ ≠ (s_.2.2.1 : Value).ownBlock ∧ some k_ ≠ (s_.2.2.2.1 : Value).ownBlock) s_.2.2.2.2.1 t288) ∧ (w'.heap[gb275]? = some (.cells #[.int .i64 a2_0, .int .i64 a2_1] 42 (0, 0))) ∧ (w'.heap[s_.2.2.2.2.2]? = some (.cells #[.slice none 0 0] 61 (0, 0))) ∧ (w.heap.size ≤ s_.2.2.2.2.2) ∧ (w.heap.size ≤ s_.2.2.2.2.2) ∧ (gb275 ≠ s_.2.2.2.2.2) ∧ (s_.2.2.2.2.2 ≠ gb275) ∧ (Below w.heap.size w w')) ?_ ?_
    rotate_left
    ·intro hJ1_3_4_7_8_9
     refine join_ (σ := Value × Value × Value × Value × Value) 2 (demurrageref03_Part.ups 11 511) (fun s_ => [(24, .agg #[s_.1]), (26, .agg #[s_.2.1]), (27, .agg #[s_.2.2.1]), (30, .agg #[s_.2.2.2.1]), (31, .agg #[s_.2.2.2.2])]) (fun s_ w' => (w'.cell? ⟨gb275, 0, none⟩ = some (.int .i64 a2_0) ∧ w'.cell? ⟨gb275, 1, none⟩ = some (.int .i64 a2_1)) ∧ (Kd.R (Kd.int .i64) 3 w' w.heap.size (fun k_ => some k_ ≠ (s_.2.1 : Value).ownBlock ∧ some k_ ≠ (s_.2.2.1 : Value).ownBlock ∧ some k_ ≠ (s_.2.2.2.1 : Value).ownBlock ∧ some k_ ≠ (s_.2.2.2.2 : Value).ownBlock) s_.1 t276) ∧ (Kd.R (Kd.int .i64) 3 w' w.heap.size (fun k_ => some k_ ≠ (s_.1 : Value).ownBlock ∧ some k_ ≠ (s_.2.2.1 : Value).ownBlock ∧ some k_ ≠ (s_.2.2.2.1 : Value).ownBlock ∧ some k_ ≠ (s_.2.2.2.2 : Value).ownBlock) s_.2.1 t279) ∧ (Kd.R (Kd.int .i64) 3 w' w.heap.size (fun k_ => some k_ ≠ (s_.1 : Value).ownBlock ∧ some k_ ≠ (s_.2.1 : Value).ownBlock ∧ some k_ ≠ (s_.2.2.2.1 : Value).ownBlock ∧ some k_ ≠ (s_.2.2.2.2 : Value).ownBlock) s_.2.2.1 t282) ∧ (Kd.R (Kd.int .i64) 3 w' w.heap.size (fun k_ => some k_ ≠ (s_.1 : Value).ownBlock ∧ some k_ ≠ (s_.2.1 : Value).ownBlock ∧ some k_ ≠ (s_.2.2.1 : Value).ownBlock ∧ some k_ ≠ (s_.2.2.2.2 : Value).ownBlock) s_.2.2.2.1 t285) ∧ (Kd.R (Kd.int .i64) 3 w' w.heap.size (fun k_ => some k_ ≠ (s_.1 : Value).ownBlock ∧ some k_ ≠ (s_.2.1 : Value).ownBlock ∧ some k_ ≠ (s_.2.2.1 : Value).ownBlock ∧ some k_ ≠ (s_.2.2.2.1 : Value).ownBlock) s_.2.2.2.2 t288) ∧ (w'.heap[gb275]? = some (.cells #[.int .i64 a2_0, .int .i64 a2_1] 42 (0, 0))) ∧ (Below w.heap.size w w')) ?_ ?_
     rotate_left
     ·intro hJ1_3_4_7_8
      refine join_ (σ := Value × Value × Value × Value × Nat) 2 (demurrageref03_Part.ups 11 767) (fun s_ => [(24, .agg #[s_.1]), (26, .agg #[s_.2.1]), (27, .agg #[s_.2.2.1]), (30, .agg #[s_.2.2.2.1]), (10, .pointer (some ⟨s_.2.2.2.2, 0, none⟩))]) (fun s_ w' => (w'.cell? ⟨gb275, 0, none⟩ = some (.int .i64 a2_0) ∧ w'.cell? ⟨gb275, 1, none⟩ = some (.int .i64 a2_1)) ∧ (Kd.R (Kd.int .i64) 3 w' w.heap.size (fun k_ => some k_ ≠ (s_.2.1 : Value).ownBlock ∧ some k_ ≠ (s_.2.2.1 : Value).ownBlock ∧ some k_ ≠ (s_.2.2.2.1 : Value).ownBlock) s_.1 t276) ∧ (Kd.R (Kd.int .i64) 3 w' w.heap.size (fun k_ => some k_ ≠ (s_.1 : Value).ownBlock ∧ some k_ ≠ (s_.2.2.1 : Value).ownBlock ∧ some k_ ≠ (s_.2.2.2.1 : Value).ownBlock) s_.2.1 t279) ∧ (Kd.R (Kd.int .i64) 3 w' w.heap.size (fun k_ => some k_ ≠ (s_.1 : Value).ownBlock ∧ some k_ ≠ (s_.2.1 : Value).ownBlock ∧ some k_ ≠ (s_.2.2.2.1 : Value).ownBlock) s_.2.2.1 t282) ∧ (Kd.R (Kd.int .i64) 3 w' w.heap.size (fun k_ => some k_ ≠ (s_.1 : Value).ownBlock ∧ some k_ ≠ (s_.2.1 : Value).ownBlock ∧ some k_ ≠ (s_.2.2.1 : Value).ownBlock) s_.2.2.2.1 t285) ∧ (w'.heap[gb275]? = some (.cells #[.int .i64 a2_0, .int .i64 a2_1] 42 (0, 0))) ∧ (w'.heap[s_.2.2.2.2]? = some (.cells #[.slice none 0 0] 61 (0, 0))) ∧ (w.heap.size ≤ s_.2.2.2.2) ∧ (w.heap.size ≤ s_.2.2.2.2) ∧ (gb275 ≠ s_.2.2.2.2) ∧ (s_.2.2.2.2 ≠ gb275) ∧ (Below w.heap.size w w')) ?_ ?_
      rotate_left
      ·intro hJ1_3_4_7_9
       refine join_ (σ := Value × Value × Value × Value) 3 (demurrageref03_Part.ups 11 255) (fun s_ => [(24, .agg #[s_.1]), (26, .agg #[s_.2.1]), (27, .agg #[s_.2.2.1]), (30, .agg #[s_.2.2.2])]) (fun s_ w' => (w'.cell? ⟨gb275, 0, none⟩ = some (.int .i64 a2_0) ∧ w'.cell? ⟨gb275, 1, none⟩ = some (.int .i64 a2_1)) ∧ (Kd.R (Kd.int .i64) 3 w' w.heap.size (fun k_ => some k_ ≠ (s_.2.1 : Value).ownBlock ∧ some k_ ≠ (s_.2.2.1 : Value).ownBlock ∧ some k_ ≠ (s_.2.2.2 : Value).ownBlock) s_.1 t276) ∧ (Kd.R (Kd.int .i64) 3 w' w.heap.size (fun k_ => some k_ ≠ (s_.1 : Value).ownBlock ∧ some k_ ≠ (s_.2.2.1 : Value).ownBlock ∧ some k_ ≠ (s_.2.2.2 : Value).ownBlock) s_.2.1 t279) ∧ (Kd.R (Kd.int .i64) 3 w' w.heap.size (fun k_ => some k_ ≠ (s_.1 : Value).ownBlock ∧ some k_ ≠ (s_.2.1 : Value).ownBlock ∧ some k_ ≠ (s_.2.2.2 : Value).ownBlock) s_.2.2.1 t282) ∧ (Kd.R (Kd.int .i64) 3 w' w.heap.size (fun k_ => some k_ ≠ (s_.1 : Value).ownBlock ∧ some k_ ≠ (s_.2.1 : Value).ownBlock ∧ some k_ ≠ (s_.2.2.1 : Value).ownBlock) s_.2.2.2 t285) ∧ (w'.heap[gb275]? = some (.cells #[.int .i64 a2_0, .int .i64 a2_1] 42 (0, 0))) ∧ (Below w.heap.size w w')) ?_ ?_
       rotate_left
       ·intro hJ1_3_4_7
        refine join_ (σ := Value × Value × Value × Nat) 3 (demurrageref03_Part.ups 11 639) (fun s_ => [(24, .agg #[s_.1]), (26, .agg #[s_.2.1]), (27, .agg #[s_.2.2.1]), (10, .pointer (some ⟨s_.2.2.2, 0, none⟩))]) (fun s_ w' => (w'.cell? ⟨gb275, 0, none⟩ = some (.int .i64 a2_0) ∧ w'.cell? ⟨gb275, 1, none⟩ = some (.int .i64 a2_1)) ∧ (Kd.R (Kd.int .i64) 3 w' w.heap.size (fun k_ => some k_ ≠ (s_.2.1 : Value).ownBlock ∧ some k_ ≠ (s_.2.2.1 : Value).ownBlock) s_.1 t276) ∧ (Kd.R (Kd.int .i64) 3 w' w.heap.size (fun k_ => some k_ ≠ (s_.1 : Value).ownBlock ∧ some k_ ≠ (s_.2.2.1 : Value).ownBlock) s_.2.1 t279) ∧ (Kd.R (Kd.int .i64) 3 w' w.heap.size (fun k_ => some k_ ≠ (s_.1 : Value).ownBlock ∧ some k_ ≠ (s_.2.1 : Value).ownBlock) s_.2.2.1 t282) ∧ (w'.heap[gb275]? = some (.cells #[.int .i64 a2_0, .int .i64 a2_1] 42 (0, 0))) ∧ (w'.heap[s_.2.2.2]? = some (.cells #[.slice none 0 0] 61 (0, 0))) ∧ (w.heap.size ≤ s_.2.2.2) ∧ (w.heap.size ≤ s_.2.2.2) ∧ (gb275 ≠ s_.2.2.2) ∧ (s_.2.2.2 ≠ gb275) ∧ (Below w.heap.size w w')) ?_ ?_
        rotate_left
        ·intro hJ1_3_4_9
         refine join_ (σ := Value × Value × Value) 4 (demurrageref03_Part.ups 11 127) (fun s_ => [(24, .agg #[s_.1]), (26, .agg #[s_.2.1]), (27, .agg #[s_.2.2])]) (fun s_ w' => (w'.cell? ⟨gb275, 0, none⟩ = some (.int .i64 a2_0) ∧ w'.cell? ⟨gb275, 1, none⟩ = some (.int .i64 a2_1)) ∧ (Kd.R (Kd.int .i64) 3 w' w.heap.size (fun k_ => some k_ ≠ (s_.2.1 : Value).ownBlock ∧ some k_ ≠ (s_.2.2 : Value).ownBlock) s_.1 t276) ∧ (Kd.R (Kd.int .i64) 3 w' w.heap.size (fun k_ => some k_ ≠ (s_.1 : Value).ownBlock ∧ some k_ ≠ (s_.2.2 : Value).ownBlock) s_.2.1 t279) ∧ (Kd.R (Kd.int .i64) 3 w' w.heap.size (fun k_ => some k_ ≠ (s_.1 : Value).ownBlock ∧ some k_ ≠ (s_.2.1 : Value).ownBlock) s_.2.2 t282) ∧ (w'.heap[gb275]? = some (.cells #[.int .i64 a2_0, .int .i64 a2_1] 42 (0, 0))) ∧ (Below w.heap.size w w')) ?_ ?_
         rotate_left
         ·intro hJ1_3_4
          refine join_ (σ := Value × Value × Nat) 4 (demurrageref03_Part.ups 11 623) (fun s_ => [(24, .agg #[s_.1]), (26, .agg #[s_.2.1]), (10, .pointer (some ⟨s_.2.2, 0, none⟩))]) (fun s_ w' => (w'.cell? ⟨gb275, 0, none⟩ = some (.int .i64 a2_0) ∧ w'.cell? ⟨gb275, 1, none⟩ = some (.int .i64 a2_1)) ∧ (Kd.R (Kd.int .i64) 3 w' w.heap.size (fun k_ => some k_ ≠ (s_.2.1 : Value).ownBlock) s_.1 t276) ∧ (Kd.R (Kd.int .i64) 3 w' w.heap.size (fun k_ => some k_ ≠ (s_.1 : Value).ownBlock) s_.2.1 t279) ∧ (w'.heap[gb275]? = some (.cells #[.int .i64 a2_0, .int .i64 a2_1] 42 (0, 0))) ∧ (w'.heap[s_.2.2]? = some (.cells #[.slice none 0 0] 61 (0, 0))) ∧ (w.heap.size ≤ s_.2.2) ∧ (w.heap.size ≤ s_.2.2) ∧ (gb275 ≠ s_.2.2) ∧ (s_.2.2 ≠ gb275) ∧ (Below w.heap.size w w')) ?_ ?_
          rotate_left
          ·intro hJ1_3_9
           refine join_ (σ := Value × Value) 5 (demurrageref03_Part.ups 11 111) (fun s_ => [(24, .agg #[s_.1]), (26, .agg #[s_.2])]) (fun s_ w' => (w'.cell? ⟨gb275, 0, none⟩ = some (.int .i64 a2_0) ∧ w'.cell? ⟨gb275, 1, none⟩ = some (.int .i64 a2_1)) ∧ (Kd.R (Kd.int .i64) 3 w' w.heap.size (fun k_ => some k_ ≠ (s_.2 : Value).ownBlock) s_.1 t276) ∧ (Kd.R (Kd.int .i64) 3 w' w.heap.size (fun k_ => some k_ ≠ (s_.1 : Value).ownBlock) s_.2 t279) ∧ (w'.heap[gb275]? = some (.cells #[.int .i64 a2_0, .int .i64 a2_1] 42 (0, 0))) ∧ (Below w.heap.size w w')) ?_ ?_
           rotate_left
           ·intro hJ1_3
            refine join_ (σ := Value × Nat) 5 (demurrageref03_Part.ups 11 615) (fun s_ => [(24, .agg #[s_.1]), (10, .pointer (some ⟨s_.2, 0, none⟩))]) (fun s_ w' => (w'.cell? ⟨gb275, 0, none⟩ = some (.int .i64 a2_0) ∧ w'.cell? ⟨gb275, 1, none⟩ = some (.int .i64 a2_1)) ∧ (Kd.R (Kd.int .i64) 3 w' w.heap.size (fun _ => True) s_.1 t276) ∧ (w'.heap[gb275]? = some (.cells #[.int .i64 a2_0, .int .i64 a2_1] 42 (0, 0))) ∧ (w'.heap[s_.2]? = some (.cells #[.slice none 0 0] 61 (0, 0))) ∧ (w.heap.size ≤ s_.2) ∧ (w.heap.size ≤ s_.2) ∧ (gb275 ≠ s_.2) ∧ (s_.2 ≠ gb275) ∧ (Below w.heap.size w w')) ?_ ?_
            rotate_left
            ·intro hJ1_9
             refine join_ (σ := Value) 6 (demurrageref03_Part.ups 11 103) (fun s_ => [(24, .agg #[s_])]) (fun s_ w' => (w'.cell? ⟨gb275, 0, none⟩ = some (.int .i64 a2_0) ∧ w'.cell? ⟨gb275, 1, none⟩ = some (.int .i64 a2_1)) ∧ (Kd.R (Kd.int .i64) 3 w' w.heap.size (fun _ => True) s_ t276) ∧ (w'.heap[gb275]? = some (.cells #[.int .i64 a2_0, .int .i64 a2_1] 42 (0, 0))) ∧ (Below w.heap.size w w')) ?_ ?_
             rotate_left
             ·intro hJ1
              refine join_ (σ := Nat) 6 (demurrageref03_Part.ups 11 613) (fun s_ => [(10, .pointer (some ⟨s_, 0, none⟩))]) (fun s_ w' => (w'.cell? ⟨gb275, 0, none⟩ = some (.int .i64 a2_0) ∧ w'.cell? ⟨gb275, 1, none⟩ = some (.int .i64 a2_1)) ∧ (w'.heap[gb275]? = some (.cells #[.int .i64 a2_0, .int .i64 a2_1] 42 (0, 0))) ∧ (w'.heap[s_]? = some (.cells #[.slice none 0 0] 61 (0, 0))) ∧ (w.heap.size ≤ s_) ∧ (w.heap.size ≤ s_) ∧ (gb275 ≠ s_) ∧ (s_ ≠ gb275) ∧ (Below w.heap.size w w')) ?_ ?_
              rotate_left
              ·intro hJ9
               refine two_ (i := 1) (j := 9) (Ni := some 24) (Nj := some 10) (demurrageref03_Part.ups 11 103) (demurrageref03_Part.ups 11 613) rfl rfl rfl rfl (two_of HT_.out (by kernel_rfl)) (by decide) (by decide) (fun K hK => ?_) (fun K hK => ?_)
               ·skip
                refine goes_ Try.func30 (by kernel_rfl) rfl #[.int .i64 a0] (by rfl) rfl rfl (by (try simp only [List.map_toArray, List.map_cons, List.map_nil]); first | done | rfl) ?_
                with_reducible refine (demurrageref01_From.calls kj4 a0 t276 _ A10.out).mono ?_
                rintro e w21 ⟨v277, rfl, ho0, hb⟩
                refine ⟨_, rfl, ?_⟩
                have HO278 := Aside0.mk (Kd.R_lower ho0 (below_size (by repeat (first | (with_reducible first | exact HB.out | apply bA_ | apply bN_ | apply bD_ | refine bS_ ?_ GE275.out) | exact HB.out))))
                replace BK275 := bK_ BK275 hb
                replace HB := Aside0.mk (below_step (by repeat (first | (with_reducible first | exact HB.out | apply bA_ | apply bN_ | apply bD_ | refine bS_ ?_ GE275.out) | exact HB.out)) hb)
                (try clear hb)
                (try clear hb2)
                (try clear hk)
                (try clear hi)
                (try clear ho0)
                refine hK.out _ _ ⟨(blk_cell BK275.out 0).trans rfl, (blk_cell BK275.out 1).trans rfl⟩ (fun hHeld => ?_)
                clear hK K
                refine norm_ (a' := ?_) ?_ ?_
                rotate_left
                ·show Act.put _ (some 24) _ = _
                 simp only [Act.put, sT_, sZ_, sS_, i64_w, i32_w]
                 rfl
                exact norm_ (by simp only [putAll, Act.put, sT_, sZ_, sS_] <;> rfl) (hJ1 (_) _ ⟨hHeld, (by (with_reducible repeat (first | apply Kd.R_alloc | apply Kd.R_drewN | apply Kd.R_drew)); exact HO278.out), BK275.out, (by repeat (first | (with_reducible first | exact HB.out | apply bA_ | apply bN_ | apply bD_ | refine bS_ ?_ GE275.out) | exact HB.out))⟩)
               ·skip
                refine box_step ?hg (N := 10) ?hd (cs := #[.slice none 0 0]) (t := 61) ?hr ?_; (case hd => rfl); (case hg => rfl); (case hr => first | (go_simp; done) | (go_simp; rfl))
                intro gb291 hg w21 hbox hb
                have BK291 := Aside0.mk (hbox)
                have GW291 := Aside0.mk ((by rw [hg]; exact (below_size (by repeat (first | (with_reducible first | exact HB.out | apply bA_ | apply bN_ | apply bD_ | refine bS_ ?_ GE275.out) | exact HB.out))) : w.heap.size ≤ gb291))
                have GE291 := GW291
                replace HB := Aside0.mk (below_step (by repeat (first | (with_reducible first | exact HB.out | apply bA_ | apply bN_ | apply bD_ | refine bS_ ?_ GE275.out) | exact HB.out)) hb)
                have NB275_291 := Aside0.mk ((by rw [hg]; exact Nat.ne_of_lt (blk_lt BK275.out) : gb275 ≠ gb291))
                have NB291_275 := Aside0.mk NB275_291.out.symm
                replace BK275 := bK_ BK275 hb
                clear hb hbox hg
                refine hK.out _ _ ⟨(blk_cell BK275.out 0).trans rfl, (blk_cell BK275.out 1).trans rfl⟩ (fun hHeld => ?_)
                clear hK K
                refine norm_ (a' := ?_) ?_ ?_
                rotate_left
                ·show Act.put _ (some 10) _ = _
                 simp only [Act.put, sT_, sZ_, sS_, i64_w, i32_w]
                 rfl
                exact norm_ (by simp only [putAll, Act.put, sT_, sZ_, sS_] <;> rfl) (hJ9 (gb291) _ ⟨hHeld, BK275.out, BK291.out, GW291.out, GE291.out, NB275_291.out, NB291_275.out, (by repeat (first | (with_reducible first | exact HB.out | apply bA_ | apply bN_ | apply bD_ | refine bS_ ?_ GE275.out | refine bS_ ?_ GE291.out) | exact HB.out))⟩)
              ·skip
               rintro gb291 w22 ⟨hS_, h0_, h1_, h2_, h3_, h4_, h5_, h6_⟩
               (try dsimp only at h0_ h1_ h2_ h3_ h4_ h5_ h6_)
               clear BK275 HB
               have BK275 := Aside0.mk h0_
               have BK291 := Aside0.mk h1_
               have GW291 := Aside0.mk h2_
               have GE291 := Aside0.mk h3_
               have NB275_291 := Aside0.mk h4_
               have NB291_275 := Aside0.mk h5_
               have HB := Aside0.mk h6_
               clear h0_ h1_ h2_ h3_ h4_ h5_ h6_
               have hHeld : w22.cell? ⟨gb275, 0, none⟩ = some (.int .i64 a2_0) ∧ w22.cell? ⟨gb275, 1, none⟩ = some (.int .i64 a2_1) := hS_
               refine norm_ (a' := ?_) ?_ ?_
               rotate_left
               ·simp only [putAll, Act.put, sT_, sZ_, sS_]
                rfl
               refine one_ (i := 1) (N := some 24) (demurrageref03_Part.ups 11 615) rfl rfl (one_of HT_.out (by kernel_rfl)) (by decide) (fun K hK => ?_)
               refine goes_ Try.func30 (by kernel_rfl) rfl #[.int .i64 a0] (by rfl) rfl rfl (by (try simp only [List.map_toArray, List.map_cons, List.map_nil]); first | done | rfl) ?_
               with_reducible refine (demurrageref01_From.calls kj4 a0 t276 _ A10.out).mono ?_
               rintro e w23 ⟨v277, rfl, ho0, hb⟩
               refine ⟨_, rfl, ?_⟩
               have HO278 := Aside0.mk (Kd.R_lower ho0 (below_size (by repeat (first | (with_reducible first | exact HB.out | apply bA_ | apply bN_ | apply bD_ | refine bS_ ?_ GE275.out | refine bS_ ?_ GE291.out) | exact HB.out))))
               replace BK275 := bK_ BK275 hb
               replace BK291 := bK_ BK291 hb
               replace HB := Aside0.mk (below_step (by repeat (first | (with_reducible first | exact HB.out | apply bA_ | apply bN_ | apply bD_ | refine bS_ ?_ GE275.out | refine bS_ ?_ GE291.out) | exact HB.out)) hb)
               (try clear hb)
               (try clear hb2)
               (try clear hk)
               (try clear hi)
               (try clear ho0)
               refine hK.out _ _ ⟨(blk_cell BK275.out 0).trans rfl, (blk_cell BK275.out 1).trans rfl⟩ (fun hHeld => ?_)
               clear hK K
               refine norm_ (a' := ?_) ?_ ?_
               rotate_left
               ·show Act.put _ (some 24) _ = _
                simp only [Act.put, sT_, sZ_, sS_, i64_w, i32_w]
                rfl
               exact norm_ (by simp only [putAll, Act.put, sT_, sZ_, sS_] <;> rfl) (hJ1_9 (_, gb291) _ ⟨hHeld, (by (with_reducible repeat (first | apply Kd.R_alloc | apply Kd.R_drewN | apply Kd.R_drew)); exact HO278.out), BK275.out, BK291.out, GW291.out, GE291.out, NB275_291.out, NB291_275.out, (by repeat (first | (with_reducible first | exact HB.out | apply bA_ | apply bN_ | apply bD_ | refine bS_ ?_ GE275.out | refine bS_ ?_ GE291.out) | exact HB.out))⟩)
             ·skip
              rintro v277 w22 ⟨hS_, h0_, h1_, h2_⟩
              (try dsimp only at h0_ h1_ h2_)
              clear BK275 HB
              have HO278 := Aside0.mk h0_
              have BK275 := Aside0.mk h1_
              have HB := Aside0.mk h2_
              clear h0_ h1_ h2_
              have hHeld : w22.cell? ⟨gb275, 0, none⟩ = some (.int .i64 a2_0) ∧ w22.cell? ⟨gb275, 1, none⟩ = some (.int .i64 a2_1) := hS_
              refine norm_ (a' := ?_) ?_ ?_
              rotate_left
              ·simp only [putAll, Act.put, sT_, sZ_, sS_]
               rfl
              refine two_ (i := 3) (j := 9) (Ni := some 26) (Nj := some 10) (demurrageref03_Part.ups 11 111) (demurrageref03_Part.ups 11 615) rfl rfl rfl rfl (two_of HT_.out (by kernel_rfl)) (by decide) (by decide) (fun K hK => ?_) (fun K hK => ?_)
              ·skip
               refine goes_ Try.func30 (by kernel_rfl) rfl #[.int .i64 a1] (by rfl) rfl rfl (by (try simp only [List.map_toArray, List.map_cons, List.map_nil]); first | done | rfl) ?_
               with_reducible refine (demurrageref01_From.calls kj4 a1 t279 _ A11.out).mono ?_
               rintro e w23 ⟨v280, rfl, ho0, hb⟩
               refine ⟨_, rfl, ?_⟩
               have HO281 := Aside0.mk (Kd.R_lower (Kd.R_new' ho0 (Kd.R_lt HO278.out)) (below_size (by repeat (first | (with_reducible first | exact HB.out | apply bA_ | apply bN_ | apply bD_ | refine bS_ ?_ GE275.out) | exact HB.out))))
               replace HO278 := Aside0.mk (Kd.R_elder' HO278.out (Kd.R_base ho0) hb)
               replace BK275 := bK_ BK275 hb
               replace HB := Aside0.mk (below_step (by repeat (first | (with_reducible first | exact HB.out | apply bA_ | apply bN_ | apply bD_ | refine bS_ ?_ GE275.out) | exact HB.out)) hb)
               (try clear hb)
               (try clear hb2)
               (try clear hk)
               (try clear hi)
               (try clear ho0)
               refine hK.out _ _ ⟨(blk_cell BK275.out 0).trans rfl, (blk_cell BK275.out 1).trans rfl⟩ (fun hHeld => ?_)
               clear hK K
               refine norm_ (a' := ?_) ?_ ?_
               rotate_left
               ·show Act.put _ (some 26) _ = _
                simp only [Act.put, sT_, sZ_, sS_, i64_w, i32_w]
                rfl
               exact norm_ (by simp only [putAll, Act.put, sT_, sZ_, sS_] <;> rfl) (hJ1_3 (_, _) _ ⟨hHeld, (by (with_reducible repeat (first | apply Kd.R_alloc | apply Kd.R_drewN | apply Kd.R_drew)); exact Kd.R_mono HO278.out (fun _ hk => hk.2)), (by (with_reducible repeat (first | apply Kd.R_alloc | apply Kd.R_drewN | apply Kd.R_drew)); exact Kd.R_mono HO281.out (fun _ hk => hk.2)), BK275.out, (by repeat (first | (with_reducible first | exact HB.out | apply bA_ | apply bN_ | apply bD_ | refine bS_ ?_ GE275.out) | exact HB.out))⟩)
              ·skip
               refine box_step ?hg (N := 10) ?hd (cs := #[.slice none 0 0]) (t := 61) ?hr ?_; (case hd => rfl); (case hg => rfl); (case hr => first | (go_simp; done) | (go_simp; rfl))
               intro gb291 hg w23 hbox hb
               replace HO278 := Aside0.mk (Kd.R_below HO278.out hb)
               have BK291 := Aside0.mk (hbox)
               have GW291 := Aside0.mk ((by rw [hg]; exact (below_size (by repeat (first | (with_reducible first | exact HB.out | apply bA_ | apply bN_ | apply bD_ | refine bS_ ?_ GE275.out) | exact HB.out))) : w.heap.size ≤ gb291))
               have GE291 := GW291
               replace HB := Aside0.mk (below_step (by repeat (first | (with_reducible first | exact HB.out | apply bA_ | apply bN_ | apply bD_ | refine bS_ ?_ GE275.out) | exact HB.out)) hb)
               have NB275_291 := Aside0.mk ((by rw [hg]; exact Nat.ne_of_lt (blk_lt BK275.out) : gb275 ≠ gb291))
               have NB291_275 := Aside0.mk NB275_291.out.symm
               replace BK275 := bK_ BK275 hb
               clear hb hbox hg
               refine hK.out _ _ ⟨(blk_cell BK275.out 0).trans rfl, (blk_cell BK275.out 1).trans rfl⟩ (fun hHeld => ?_)
               clear hK K
               refine norm_ (a' := ?_) ?_ ?_
               rotate_left
               ·show Act.put _ (some 10) _ = _
                simp only [Act.put, sT_, sZ_, sS_, i64_w, i32_w]
                rfl
               exact norm_ (by simp only [putAll, Act.put, sT_, sZ_, sS_] <;> rfl) (hJ1_9 (_, gb291) _ ⟨hHeld, (by (with_reducible repeat (first | apply Kd.R_alloc | apply Kd.R_drewN | apply Kd.R_drew)); exact HO278.out), BK275.out, BK291.out, GW291.out, GE291.out, NB275_291.out, NB291_275.out, (by repeat (first | (with_reducible first | exact HB.out | apply bA_ | apply bN_ | apply bD_ | refine bS_ ?_ GE275.out | refine bS_ ?_ GE291.out) | exact HB.out))⟩)
            ·skip
             rintro ⟨v277, gb291⟩ w23 ⟨hS_, h0_, h1_, h2_, h3_, h4_, h5_, h6_, h7_⟩
             (try dsimp only at h0_ h1_ h2_ h3_ h4_ h5_ h6_ h7_)
             clear BK275 HB
             have HO278 := Aside0.mk h0_
             have BK275 := Aside0.mk h1_
             have BK291 := Aside0.mk h2_
             have GW291 := Aside0.mk h3_
             have GE291 := Aside0.mk h4_
             have NB275_291 := Aside0.mk h5_
             have NB291_275 := Aside0.mk h6_
             have HB := Aside0.mk h7_
             clear h0_ h1_ h2_ h3_ h4_ h5_ h6_ h7_
             have hHeld : w23.cell? ⟨gb275, 0, none⟩ = some (.int .i64 a2_0) ∧ w23.cell? ⟨gb275, 1, none⟩ = some (.int .i64 a2_1) := hS_
             refine norm_ (a' := ?_) ?_ ?_
             rotate_left
             ·simp only [putAll, Act.put, sT_, sZ_, sS_]
              rfl
             refine one_ (i := 3) (N := some 26) (demurrageref03_Part.ups 11 623) rfl rfl (one_of HT_.out (by kernel_rfl)) (by decide) (fun K hK => ?_)
             refine goes_ Try.func30 (by kernel_rfl) rfl #[.int .i64 a1] (by rfl) rfl rfl (by (try simp only [List.map_toArray, List.map_cons, List.map_nil]); first | done | rfl) ?_
             with_reducible refine (demurrageref01_From.calls kj4 a1 t279 _ A11.out).mono ?_
             rintro e w24 ⟨v280, rfl, ho0, hb⟩
             refine ⟨_, rfl, ?_⟩
             have HO281 := Aside0.mk (Kd.R_lower (Kd.R_new' ho0 (Kd.R_lt HO278.out)) (below_size (by repeat (first | (with_reducible first | exact HB.out | apply bA_ | apply bN_ | apply bD_ | refine bS_ ?_ GE275.out | refine bS_ ?_ GE291.out) | exact HB.out))))
             replace HO278 := Aside0.mk (Kd.R_elder' HO278.out (Kd.R_base ho0) hb)
             replace BK275 := bK_ BK275 hb
             replace BK291 := bK_ BK291 hb
             replace HB := Aside0.mk (below_step (by repeat (first | (with_reducible first | exact HB.out | apply bA_ | apply bN_ | apply bD_ | refine bS_ ?_ GE275.out | refine bS_ ?_ GE291.out) | exact HB.out)) hb)
             (try clear hb)
             (try clear hb2)
             (try clear hk)
             (try clear hi)
             (try clear ho0)
             refine hK.out _ _ ⟨(blk_cell BK275.out 0).trans rfl, (blk_cell BK275.out 1).trans rfl⟩ (fun hHeld => ?_)
             clear hK K
             refine norm_ (a' := ?_) ?_ ?_
             rotate_left
             ·show Act.put _ (some 26) _ = _
              simp only [Act.put, sT_, sZ_, sS_, i64_w, i32_w]
              rfl
             exact norm_ (by simp only [putAll, Act.put, sT_, sZ_, sS_] <;> rfl) (hJ1_3_9 (_, _, gb291) _ ⟨hHeld, (by (with_reducible repeat (first | apply Kd.R_alloc | apply Kd.R_drewN | apply Kd.R_drew)); exact Kd.R_mono HO278.out (fun _ hk => hk.2)), (by (with_reducible repeat (first | apply Kd.R_alloc | apply Kd.R_drewN | apply Kd.R_drew)); exact Kd.R_mono HO281.out (fun _ hk => hk.2)), BK275.out, BK291.out, GW291.out, GE291.out, NB275_291.out, NB291_275.out, (by repeat (first | (with_reducible first | exact HB.out | apply bA_ | apply bN_ | apply bD_ | refine bS_ ?_ GE275.out | refine bS_ ?_ GE291.out) | exact HB.out))⟩)
           ·skip
            rintro ⟨v277, v280⟩ w23 ⟨hS_, h0_, h1_, h2_, h3_⟩
            (try dsimp only at h0_ h1_ h2_ h3_)
            clear BK275 HB
            have HO278 := Aside0.mk h0_
            have HO281 := Aside0.mk h1_
            have BK275 := Aside0.mk h2_
            have HB := Aside0.mk h3_
            clear h0_ h1_ h2_ h3_
            have hHeld : w23.cell? ⟨gb275, 0, none⟩ = some (.int .i64 a2_0) ∧ w23.cell? ⟨gb275, 1, none⟩ = some (.int .i64 a2_1) := hS_
            obtain ⟨Ao24, co24, eo24⟩ := Kd.R_slice HO278.out
            (first | subst eo24 | (injection eo24 with f1_ f2_ f3_; have f4_ := f1_.symm; have f5_ := f3_.symm; clear f1_ f2_ f3_; subst f4_; subst f5_))
            obtain ⟨Ao25, co25, eo25⟩ := Kd.R_slice HO281.out
            (first | subst eo25 | (injection eo25 with f1_ f2_ f3_; have f4_ := f1_.symm; have f5_ := f3_.symm; clear f1_ f2_ f3_; subst f4_; subst f5_))
            refine norm_ (a' := ?_) ?_ ?_
            rotate_left
            ·simp only [putAll, Act.put, sT_, sZ_, sS_]
             rfl
            refine two_ (i := 4) (j := 9) (Ni := some 27) (Nj := some 10) (demurrageref03_Part.ups 11 127) (demurrageref03_Part.ups 11 623) rfl rfl rfl rfl (two_of HT_.out (by kernel_rfl)) (by decide) (by decide) (fun K hK => ?_) (fun K hK => ?_)
            ·skip
             refine goes_ Try.func29 (by kernel_rfl) rfl #[.agg #[.slice Ao24 t276.length co24], .agg #[.slice Ao25 t279.length co25]] (by rfl) rfl rfl (by (try simp only [List.map_toArray, List.map_cons, List.map_nil]); first | done | rfl) ?_
             with_reducible refine (demurrageref01_Prod.calls kj4 _ _ t276 _ _ t279 t282 _ ?side1 ?side2 ?side3 ?side4 A12.out).mono ?_
             (case side1 => repeat (first | exact (Kd.R_reads' HO278.out).2.2 | (with_reducible refine Kd.C_alloc ?_ _) | (with_reducible refine Kd.C_drewN ?_ _) | (with_reducible refine Kd.C_drew ?_)))
             (case side2 => exact (Kd.R_reads' HO278.out).2.1)
             (case side3 => repeat (first | exact (Kd.R_reads' HO281.out).2.2 | (with_reducible refine Kd.C_alloc ?_ _) | (with_reducible refine Kd.C_drewN ?_ _) | (with_reducible refine Kd.C_drew ?_)))
             (case side4 => exact (Kd.R_reads' HO281.out).2.1)
             rintro e w26 ⟨v283, rfl, ho0, hb⟩
             refine ⟨_, rfl, ?_⟩
             have HO284 := Aside0.mk (Kd.R_lower (Kd.R_new' (Kd.R_new' ho0 (Kd.R_lt HO278.out)) (Kd.R_lt HO281.out)) (below_size (by repeat (first | (with_reducible first | exact HB.out | apply bA_ | apply bN_ | apply bD_ | refine bS_ ?_ GE275.out) | exact HB.out))))
             replace HO278 := Aside0.mk (Kd.R_elder' HO278.out (Kd.R_base ho0) hb)
             replace HO281 := Aside0.mk (Kd.R_elder' HO281.out (Kd.R_base ho0) hb)
             replace BK275 := bK_ BK275 hb
             replace HB := Aside0.mk (below_step (by repeat (first | (with_reducible first | exact HB.out | apply bA_ | apply bN_ | apply bD_ | refine bS_ ?_ GE275.out) | exact HB.out)) hb)
             (try clear hb)
             (try clear hb2)
             (try clear hk)
             (try clear hi)
             (try clear ho0)
             refine hK.out _ _ ⟨(blk_cell BK275.out 0).trans rfl, (blk_cell BK275.out 1).trans rfl⟩ (fun hHeld => ?_)
             clear hK K
             refine norm_ (a' := ?_) ?_ ?_
             rotate_left
             ·show Act.put _ (some 27) _ = _
              simp only [Act.put, sT_, sZ_, sS_, i64_w, i32_w]
              rfl
             exact norm_ (by simp only [putAll, Act.put, sT_, sZ_, sS_] <;> rfl) (hJ1_3_4 (.slice Ao24 t276.length co24, .slice Ao25 t279.length co25, _) _ ⟨hHeld, (by (with_reducible repeat (first | apply Kd.R_alloc | apply Kd.R_drewN | apply Kd.R_drew)); exact HO278.out), (by (with_reducible repeat (first | apply Kd.R_alloc | apply Kd.R_drewN | apply Kd.R_drew)); exact HO281.out), (by (with_reducible repeat (first | apply Kd.R_alloc | apply Kd.R_drewN | apply Kd.R_drew)); exact Kd.R_mono HO284.out (fun _ hk => (And.intro (hk.1.2) (hk.2)))), BK275.out, (by repeat (first | (with_reducible first | exact HB.out | apply bA_ | apply bN_ | apply bD_ | refine bS_ ?_ GE275.out) | exact HB.out))⟩)
            ·skip
             refine box_step ?hg (N := 10) ?hd (cs := #[.slice none 0 0]) (t := 61) ?hr ?_; (case hd => rfl); (case hg => rfl); (case hr => first | (go_simp; done) | (go_simp; rfl))
             intro gb291 hg w24 hbox hb
             replace HO278 := Aside0.mk (Kd.R_below HO278.out hb)
             replace HO281 := Aside0.mk (Kd.R_below HO281.out hb)
             have BK291 := Aside0.mk (hbox)
             have GW291 := Aside0.mk ((by rw [hg]; exact (below_size (by repeat (first | (with_reducible first | exact HB.out | apply bA_ | apply bN_ | apply bD_ | refine bS_ ?_ GE275.out) | exact HB.out))) : w.heap.size ≤ gb291))
             have GE291 := GW291
             replace HB := Aside0.mk (below_step (by repeat (first | (with_reducible first | exact HB.out | apply bA_ | apply bN_ | apply bD_ | refine bS_ ?_ GE275.out) | exact HB.out)) hb)
             have NB275_291 := Aside0.mk ((by rw [hg]; exact Nat.ne_of_lt (blk_lt BK275.out) : gb275 ≠ gb291))
             have NB291_275 := Aside0.mk NB275_291.out.symm
             replace BK275 := bK_ BK275 hb
             clear hb hbox hg
             refine hK.out _ _ ⟨(blk_cell BK275.out 0).trans rfl, (blk_cell BK275.out 1).trans rfl⟩ (fun hHeld => ?_)
             clear hK K
             refine norm_ (a' := ?_) ?_ ?_
             rotate_left
             ·show Act.put _ (some 10) _ = _
              simp only [Act.put, sT_, sZ_, sS_, i64_w, i32_w]
              rfl
             exact norm_ (by simp only [putAll, Act.put, sT_, sZ_, sS_] <;> rfl) (hJ1_3_9 (_, _, gb291) _ ⟨hHeld, (by (with_reducible repeat (first | apply Kd.R_alloc | apply Kd.R_drewN | apply Kd.R_drew)); exact HO278.out), (by (with_reducible repeat (first | apply Kd.R_alloc | apply Kd.R_drewN | apply Kd.R_drew)); exact HO281.out), BK275.out, BK291.out, GW291.out, GE291.out, NB275_291.out, NB291_275.out, (by repeat (first | (with_reducible first | exact HB.out | apply bA_ | apply bN_ | apply bD_ | refine bS_ ?_ GE275.out | refine bS_ ?_ GE291.out) | exact HB.out))⟩)
          ·skip
           rintro ⟨v277, v280, gb291⟩ w24 ⟨hS_, h0_, h1_, h2_, h3_, h4_, h5_, h6_, h7_, h8_⟩
           (try dsimp only at h0_ h1_ h2_ h3_ h4_ h5_ h6_ h7_ h8_)
           clear BK275 HB
           have HO278 := Aside0.mk h0_
           have HO281 := Aside0.mk h1_
           have BK275 := Aside0.mk h2_
           have BK291 := Aside0.mk h3_
           have GW291 := Aside0.mk h4_
           have GE291 := Aside0.mk h5_
           have NB275_291 := Aside0.mk h6_
           have NB291_275 := Aside0.mk h7_
           have HB := Aside0.mk h8_
           clear h0_ h1_ h2_ h3_ h4_ h5_ h6_ h7_ h8_
           have hHeld : w24.cell? ⟨gb275, 0, none⟩ = some (.int .i64 a2_0) ∧ w24.cell? ⟨gb275, 1, none⟩ = some (.int .i64 a2_1) := hS_
           obtain ⟨Ao25, co25, eo25⟩ := Kd.R_slice HO278.out
           (first | subst eo25 | (injection eo25 with f1_ f2_ f3_; have f4_ := f1_.symm; have f5_ := f3_.symm; clear f1_ f2_ f3_; subst f4_; subst f5_))
           obtain ⟨Ao26, co26, eo26⟩ := Kd.R_slice HO281.out
           (first | subst eo26 | (injection eo26 with f1_ f2_ f3_; have f4_ := f1_.symm; have f5_ := f3_.symm; clear f1_ f2_ f3_; subst f4_; subst f5_))
           refine norm_ (a' := ?_) ?_ ?_
           rotate_left
           ·simp only [putAll, Act.put, sT_, sZ_, sS_]
            rfl
           refine one_ (i := 4) (N := some 27) (demurrageref03_Part.ups 11 639) rfl rfl (one_of HT_.out (by kernel_rfl)) (by decide) (fun K hK => ?_)
           refine goes_ Try.func29 (by kernel_rfl) rfl #[.agg #[.slice Ao25 t276.length co25], .agg #[.slice Ao26 t279.length co26]] (by rfl) rfl rfl (by (try simp only [List.map_toArray, List.map_cons, List.map_nil]); first | done | rfl) ?_
           with_reducible refine (demurrageref01_Prod.calls kj4 _ _ t276 _ _ t279 t282 _ ?side1 ?side2 ?side3 ?side4 A12.out).mono ?_
           (case side1 => repeat (first | exact (Kd.R_reads' HO278.out).2.2 | (with_reducible refine Kd.C_alloc ?_ _) | (with_reducible refine Kd.C_drewN ?_ _) | (with_reducible refine Kd.C_drew ?_)))
           (case side2 => exact (Kd.R_reads' HO278.out).2.1)
           (case side3 => repeat (first | exact (Kd.R_reads' HO281.out).2.2 | (with_reducible refine Kd.C_alloc ?_ _) | (with_reducible refine Kd.C_drewN ?_ _) | (with_reducible refine Kd.C_drew ?_)))
           (case side4 => exact (Kd.R_reads' HO281.out).2.1)
           rintro e w27 ⟨v283, rfl, ho0, hb⟩
           refine ⟨_, rfl, ?_⟩
           have HO284 := Aside0.mk (Kd.R_lower (Kd.R_new' (Kd.R_new' ho0 (Kd.R_lt HO278.out)) (Kd.R_lt HO281.out)) (below_size (by repeat (first | (with_reducible first | exact HB.out | apply bA_ | apply bN_ | apply bD_ | refine bS_ ?_ GE275.out | refine bS_ ?_ GE291.out) | exact HB.out))))
           replace HO278 := Aside0.mk (Kd.R_elder' HO278.out (Kd.R_base ho0) hb)
           replace HO281 := Aside0.mk (Kd.R_elder' HO281.out (Kd.R_base ho0) hb)
           replace BK275 := bK_ BK275 hb
           replace BK291 := bK_ BK291 hb
           replace HB := Aside0.mk (below_step (by repeat (first | (with_reducible first | exact HB.out | apply bA_ | apply bN_ | apply bD_ | refine bS_ ?_ GE275.out | refine bS_ ?_ GE291.out) | exact HB.out)) hb)
           (try clear hb)
           (try clear hb2)
           (try clear hk)
           (try clear hi)
           (try clear ho0)
           refine hK.out _ _ ⟨(blk_cell BK275.out 0).trans rfl, (blk_cell BK275.out 1).trans rfl⟩ (fun hHeld => ?_)
           clear hK K
           refine norm_ (a' := ?_) ?_ ?_
           rotate_left
           ·show Act.put _ (some 27) _ = _
            simp only [Act.put, sT_, sZ_, sS_, i64_w, i32_w]
            rfl
           exact norm_ (by simp only [putAll, Act.put, sT_, sZ_, sS_] <;> rfl) (hJ1_3_4_9 (.slice Ao25 t276.length co25, .slice Ao26 t279.length co26, _, gb291) _ ⟨hHeld, (by (with_reducible repeat (first | apply Kd.R_alloc | apply Kd.R_drewN | apply Kd.R_drew)); exact HO278.out), (by (with_reducible repeat (first | apply Kd.R_alloc | apply Kd.R_drewN | apply Kd.R_drew)); exact HO281.out), (by (with_reducible repeat (first | apply Kd.R_alloc | apply Kd.R_drewN | apply Kd.R_drew)); exact Kd.R_mono HO284.out (fun _ hk => (And.intro (hk.1.2) (hk.2)))), BK275.out, BK291.out, GW291.out, GE291.out, NB275_291.out, NB291_275.out, (by repeat (first | (with_reducible first | exact HB.out | apply bA_ | apply bN_ | apply bD_ | refine bS_ ?_ GE275.out | refine bS_ ?_ GE291.out) | exact HB.out))⟩)
         ·skip
          rintro ⟨v277, v280, v283⟩ w26 ⟨hS_, h0_, h1_, h2_, h3_, h4_⟩
          (try dsimp only at h0_ h1_ h2_ h3_ h4_)
          clear BK275 HB
          have HO278 := Aside0.mk h0_
          have HO281 := Aside0.mk h1_
          have HO284 := Aside0.mk h2_
          have BK275 := Aside0.mk h3_
          have HB := Aside0.mk h4_
          clear h0_ h1_ h2_ h3_ h4_
          have hHeld : w26.cell? ⟨gb275, 0, none⟩ = some (.int .i64 a2_0) ∧ w26.cell? ⟨gb275, 1, none⟩ = some (.int .i64 a2_1) := hS_
          refine norm_ (a' := ?_) ?_ ?_
          rotate_left
          ·simp only [putAll, Act.put, sT_, sZ_, sS_]
           rfl
          refine two_ (i := 7) (j := 9) (Ni := some 30) (Nj := some 10) (demurrageref03_Part.ups 11 255) (demurrageref03_Part.ups 11 639) rfl rfl rfl rfl (two_of HT_.out (by kernel_rfl)) (by decide) (by decide) (fun K hK => ?_) (fun K hK => ?_)
          ·skip
           refine goes_ Try.func30 (by kernel_rfl) rfl #[.int .i64 a2_0] (by rfl) rfl rfl (by (try simp only [List.map_toArray, List.map_cons, List.map_nil]); first | done | rfl) ?_
           with_reducible refine (demurrageref01_From.calls kj4 a2_0 t285 _ A13.out).mono ?_
           rintro e w27 ⟨v286, rfl, ho0, hb⟩
           refine ⟨_, rfl, ?_⟩
           have HO287 := Aside0.mk (Kd.R_lower (Kd.R_new' (Kd.R_new' (Kd.R_new' ho0 (Kd.R_lt HO278.out)) (Kd.R_lt HO281.out)) (Kd.R_lt HO284.out)) (below_size (by repeat (first | (with_reducible first | exact HB.out | apply bA_ | apply bN_ | apply bD_ | refine bS_ ?_ GE275.out) | exact HB.out))))
           replace HO278 := Aside0.mk (Kd.R_elder' HO278.out (Kd.R_base ho0) hb)
           replace HO281 := Aside0.mk (Kd.R_elder' HO281.out (Kd.R_base ho0) hb)
           replace HO284 := Aside0.mk (Kd.R_elder' HO284.out (Kd.R_base ho0) hb)
           replace BK275 := bK_ BK275 hb
           replace HB := Aside0.mk (below_step (by repeat (first | (with_reducible first | exact HB.out | apply bA_ | apply bN_ | apply bD_ | refine bS_ ?_ GE275.out) | exact HB.out)) hb)
           (try clear hb)
           (try clear hb2)
           (try clear hk)
           (try clear hi)
           (try clear ho0)
           refine hK.out _ _ ⟨(blk_cell BK275.out 0).trans rfl, (blk_cell BK275.out 1).trans rfl⟩ (fun hHeld => ?_)
           clear hK K
           refine norm_ (a' := ?_) ?_ ?_
           rotate_left
           ·show Act.put _ (some 30) _ = _
            simp only [Act.put, sT_, sZ_, sS_, i64_w, i32_w]
            rfl
           exact norm_ (by simp only [putAll, Act.put, sT_, sZ_, sS_] <;> rfl) (hJ1_3_4_7 (_, _, _, _) _ ⟨hHeld, (by (with_reducible repeat (first | apply Kd.R_alloc | apply Kd.R_drewN | apply Kd.R_drew)); exact Kd.R_mono HO278.out (fun _ hk => (And.intro (hk.1.1) ((And.intro (hk.1.2) (hk.2)))))), (by (with_reducible repeat (first | apply Kd.R_alloc | apply Kd.R_drewN | apply Kd.R_drew)); exact Kd.R_mono HO281.out (fun _ hk => (And.intro (hk.1.1) ((And.intro (hk.1.2) (hk.2)))))), (by (with_reducible repeat (first | apply Kd.R_alloc | apply Kd.R_drewN | apply Kd.R_drew)); exact Kd.R_mono HO284.out (fun _ hk => (And.intro (hk.1.1) ((And.intro (hk.1.2) (hk.2)))))), (by (with_reducible repeat (first | apply Kd.R_alloc | apply Kd.R_drewN | apply Kd.R_drew)); exact Kd.R_mono HO287.out (fun _ hk => (And.intro (hk.1.1.2) ((And.intro (hk.1.2) (hk.2)))))), BK275.out, (by repeat (first | (with_reducible first | exact HB.out | apply bA_ | apply bN_ | apply bD_ | refine bS_ ?_ GE275.out) | exact HB.out))⟩)
          ·skip
           refine box_step ?hg (N := 10) ?hd (cs := #[.slice none 0 0]) (t := 61) ?hr ?_; (case hd => rfl); (case hg => rfl); (case hr => first | (go_simp; done) | (go_simp; rfl))
           intro gb291 hg w27 hbox hb
           replace HO278 := Aside0.mk (Kd.R_below HO278.out hb)
           replace HO281 := Aside0.mk (Kd.R_below HO281.out hb)
           replace HO284 := Aside0.mk (Kd.R_below HO284.out hb)
           have BK291 := Aside0.mk (hbox)
           have GW291 := Aside0.mk ((by rw [hg]; exact (below_size (by repeat (first | (with_reducible first | exact HB.out | apply bA_ | apply bN_ | apply bD_ | refine bS_ ?_ GE275.out) | exact HB.out))) : w.heap.size ≤ gb291))
           have GE291 := GW291
           replace HB := Aside0.mk (below_step (by repeat (first | (with_reducible first | exact HB.out | apply bA_ | apply bN_ | apply bD_ | refine bS_ ?_ GE275.out) | exact HB.out)) hb)
           have NB275_291 := Aside0.mk ((by rw [hg]; exact Nat.ne_of_lt (blk_lt BK275.out) : gb275 ≠ gb291))
           have NB291_275 := Aside0.mk NB275_291.out.symm
           replace BK275 := bK_ BK275 hb
           clear hb hbox hg
           refine hK.out _ _ ⟨(blk_cell BK275.out 0).trans rfl, (blk_cell BK275.out 1).trans rfl⟩ (fun hHeld => ?_)
           clear hK K
           refine norm_ (a' := ?_) ?_ ?_
           rotate_left
           ·show Act.put _ (some 10) _ = _
            simp only [Act.put, sT_, sZ_, sS_, i64_w, i32_w]
            rfl
           exact norm_ (by simp only [putAll, Act.put, sT_, sZ_, sS_] <;> rfl) (hJ1_3_4_9 (_, _, _, gb291) _ ⟨hHeld, (by (with_reducible repeat (first | apply Kd.R_alloc | apply Kd.R_drewN | apply Kd.R_drew)); exact HO278.out), (by (with_reducible repeat (first | apply Kd.R_alloc | apply Kd.R_drewN | apply Kd.R_drew)); exact HO281.out), (by (with_reducible repeat (first | apply Kd.R_alloc | apply Kd.R_drewN | apply Kd.R_drew)); exact HO284.out), BK275.out, BK291.out, GW291.out, GE291.out, NB275_291.out, NB291_275.out, (by repeat (first | (with_reducible first | exact HB.out | apply bA_ | apply bN_ | apply bD_ | refine bS_ ?_ GE275.out | refine bS_ ?_ GE291.out) | exact HB.out))⟩)
        ·skip
         rintro ⟨v277, v280, v283, gb291⟩ w27 ⟨hS_, h0_, h1_, h2_, h3_, h4_, h5_, h6_, h7_, h8_, h9_⟩
         (try dsimp only at h0_ h1_ h2_ h3_ h4_ h5_ h6_ h7_ h8_ h9_)
         clear BK275 HB
         have HO278 := Aside0.mk h0_
         have HO281 := Aside0.mk h1_
         have HO284 := Aside0.mk h2_
         have BK275 := Aside0.mk h3_
         have BK291 := Aside0.mk h4_
         have GW291 := Aside0.mk h5_
         have GE291 := Aside0.mk h6_
         have NB275_291 := Aside0.mk h7_
         have NB291_275 := Aside0.mk h8_
         have HB := Aside0.mk h9_
         clear h0_ h1_ h2_ h3_ h4_ h5_ h6_ h7_ h8_ h9_
         have hHeld : w27.cell? ⟨gb275, 0, none⟩ = some (.int .i64 a2_0) ∧ w27.cell? ⟨gb275, 1, none⟩ = some (.int .i64 a2_1) := hS_
         refine norm_ (a' := ?_) ?_ ?_
         rotate_left
         ·simp only [putAll, Act.put, sT_, sZ_, sS_]
          rfl
         refine one_ (i := 7) (N := some 30) (demurrageref03_Part.ups 11 767) rfl rfl (one_of HT_.out (by kernel_rfl)) (by decide) (fun K hK => ?_)
         refine goes_ Try.func30 (by kernel_rfl) rfl #[.int .i64 a2_0] (by rfl) rfl rfl (by (try simp only [List.map_toArray, List.map_cons, List.map_nil]); first | done | rfl) ?_
         with_reducible refine (demurrageref01_From.calls kj4 a2_0 t285 _ A13.out).mono ?_
         rintro e w28 ⟨v286, rfl, ho0, hb⟩
         refine ⟨_, rfl, ?_⟩
         have HO287 := Aside0.mk (Kd.R_lower (Kd.R_new' (Kd.R_new' (Kd.R_new' ho0 (Kd.R_lt HO278.out)) (Kd.R_lt HO281.out)) (Kd.R_lt HO284.out)) (below_size (by repeat (first | (with_reducible first | exact HB.out | apply bA_ | apply bN_ | apply bD_ | refine bS_ ?_ GE275.out | refine bS_ ?_ GE291.out) | exact HB.out))))
         replace HO278 := Aside0.mk (Kd.R_elder' HO278.out (Kd.R_base ho0) hb)
         replace HO281 := Aside0.mk (Kd.R_elder' HO281.out (Kd.R_base ho0) hb)
         replace HO284 := Aside0.mk (Kd.R_elder' HO284.out (Kd.R_base ho0) hb)
         replace BK275 := bK_ BK275 hb
         replace BK291 := bK_ BK291 hb
         replace HB := Aside0.mk (below_step (by repeat (first | (with_reducible first | exact HB.out | apply bA_ | apply bN_ | apply bD_ | refine bS_ ?_ GE275.out | refine bS_ ?_ GE291.out) | exact HB.out)) hb)
         (try clear hb)
         (try clear hb2)
         (try clear hk)
         (try clear hi)
         (try clear ho0)
         refine hK.out _ _ ⟨(blk_cell BK275.out 0).trans rfl, (blk_cell BK275.out 1).trans rfl⟩ (fun hHeld => ?_)
         clear hK K
         refine norm_ (a' := ?_) ?_ ?_
         rotate_left
         ·show Act.put _ (some 30) _ = _
          simp only [Act.put, sT_, sZ_, sS_, i64_w, i32_w]
          rfl
         exact norm_ (by simp only [putAll, Act.put, sT_, sZ_, sS_] <;> rfl) (hJ1_3_4_7_9 (_, _, _, _, gb291) _ ⟨hHeld, (by (with_reducible repeat (first | apply Kd.R_alloc | apply Kd.R_drewN | apply Kd.R_drew)); exact Kd.R_mono HO278.out (fun _ hk => (And.intro (hk.1.1) ((And.intro (hk.1.2) (hk.2)))))), (by (with_reducible repeat (first | apply Kd.R_alloc | apply Kd.R_drewN | apply Kd.R_drew)); exact Kd.R_mono HO281.out (fun _ hk => (And.intro (hk.1.1) ((And.intro (hk.1.2) (hk.2)))))), (by (with_reducible repeat (first | apply Kd.R_alloc | apply Kd.R_drewN | apply Kd.R_drew)); exact Kd.R_mono HO284.out (fun _ hk => (And.intro (hk.1.1) ((And.intro (hk.1.2) (hk.2)))))), (by (with_reducible repeat (first | apply Kd.R_alloc | apply Kd.R_drewN | apply Kd.R_drew)); exact Kd.R_mono HO287.out (fun _ hk => (And.intro (hk.1.1.2) ((And.intro (hk.1.2) (hk.2)))))), BK275.out, BK291.out, GW291.out, GE291.out, NB275_291.out, NB291_275.out, (by repeat (first | (with_reducible first | exact HB.out | apply bA_ | apply bN_ | apply bD_ | refine bS_ ?_ GE275.out | refine bS_ ?_ GE291.out) | exact HB.out))⟩)
       ·skip
        rintro ⟨v277, v280, v283, v286⟩ w27 ⟨hS_, h0_, h1_, h2_, h3_, h4_, h5_⟩
        (try dsimp only at h0_ h1_ h2_ h3_ h4_ h5_)
        clear BK275 HB
        have HO278 := Aside0.mk h0_
        have HO281 := Aside0.mk h1_
        have HO284 := Aside0.mk h2_
        have HO287 := Aside0.mk h3_
        have BK275 := Aside0.mk h4_
        have HB := Aside0.mk h5_
        clear h0_ h1_ h2_ h3_ h4_ h5_
        have hHeld : w27.cell? ⟨gb275, 0, none⟩ = some (.int .i64 a2_0) ∧ w27.cell? ⟨gb275, 1, none⟩ = some (.int .i64 a2_1) := hS_
        obtain ⟨Ao28, co28, eo28⟩ := Kd.R_slice HO284.out
        (first | subst eo28 | (injection eo28 with f1_ f2_ f3_; have f4_ := f1_.symm; have f5_ := f3_.symm; clear f1_ f2_ f3_; subst f4_; subst f5_))
        obtain ⟨Ao29, co29, eo29⟩ := Kd.R_slice HO287.out
        (first | subst eo29 | (injection eo29 with f1_ f2_ f3_; have f4_ := f1_.symm; have f5_ := f3_.symm; clear f1_ f2_ f3_; subst f4_; subst f5_))
        refine norm_ (a' := ?_) ?_ ?_
        rotate_left
        ·simp only [putAll, Act.put, sT_, sZ_, sS_]
         rfl
        refine two_ (i := 8) (j := 9) (Ni := some 31) (Nj := some 10) (demurrageref03_Part.ups 11 511) (demurrageref03_Part.ups 11 767) rfl rfl rfl rfl (two_of HT_.out (by kernel_rfl)) (by decide) (by decide) (fun K hK => ?_) (fun K hK => ?_)
        ·skip
         refine goes_ Try.func29 (by kernel_rfl) rfl #[.agg #[.slice Ao28 t282.length co28], .agg #[.slice Ao29 t285.length co29]] (by rfl) rfl rfl (by (try simp only [List.map_toArray, List.map_cons, List.map_nil]); first | done | rfl) ?_
         with_reducible refine (demurrageref01_Prod.calls kj4 _ _ t282 _ _ t285 t288 _ ?side1 ?side2 ?side3 ?side4 A14.out).mono ?_
         (case side1 => repeat (first | exact (Kd.R_reads' HO284.out).2.2 | (with_reducible refine Kd.C_alloc ?_ _) | (with_reducible refine Kd.C_drewN ?_ _) | (with_reducible refine Kd.C_drew ?_)))
         (case side2 => exact (Kd.R_reads' HO284.out).2.1)
         (case side3 => repeat (first | exact (Kd.R_reads' HO287.out).2.2 | (with_reducible refine Kd.C_alloc ?_ _) | (with_reducible refine Kd.C_drewN ?_ _) | (with_reducible refine Kd.C_drew ?_)))
         (case side4 => exact (Kd.R_reads' HO287.out).2.1)
         rintro e w30 ⟨v289, rfl, ho0, hb⟩
         refine ⟨_, rfl, ?_⟩
         have HO290 := Aside0.mk (Kd.R_lower (Kd.R_new' (Kd.R_new' (Kd.R_new' (Kd.R_new' ho0 (Kd.R_lt HO278.out)) (Kd.R_lt HO281.out)) (Kd.R_lt HO284.out)) (Kd.R_lt HO287.out)) (below_size (by repeat (first | (with_reducible first | exact HB.out | apply bA_ | apply bN_ | apply bD_ | refine bS_ ?_ GE275.out) | exact HB.out))))
         replace HO278 := Aside0.mk (Kd.R_elder' HO278.out (Kd.R_base ho0) hb)
         replace HO281 := Aside0.mk (Kd.R_elder' HO281.out (Kd.R_base ho0) hb)
         replace HO284 := Aside0.mk (Kd.R_elder' HO284.out (Kd.R_base ho0) hb)
         replace HO287 := Aside0.mk (Kd.R_elder' HO287.out (Kd.R_base ho0) hb)
         replace BK275 := bK_ BK275 hb
         replace HB := Aside0.mk (below_step (by repeat (first | (with_reducible first | exact HB.out | apply bA_ | apply bN_ | apply bD_ | refine bS_ ?_ GE275.out) | exact HB.out)) hb)
         (try clear hb)
         (try clear hb2)
         (try clear hk)
         (try clear hi)
         (try clear ho0)
         refine hK.out _ _ ⟨(blk_cell BK275.out 0).trans rfl, (blk_cell BK275.out 1).trans rfl⟩ (fun hHeld => ?_)
         clear hK K
         refine norm_ (a' := ?_) ?_ ?_
         rotate_left
         ·show Act.put _ (some 31) _ = _
          simp only [Act.put, sT_, sZ_, sS_, i64_w, i32_w]
          rfl
         exact norm_ (by simp only [putAll, Act.put, sT_, sZ_, sS_] <;> rfl) (hJ1_3_4_7_8 (_, _, .slice Ao28 t282.length co28, .slice Ao29 t285.length co29, _) _ ⟨hHeld, (by (with_reducible repeat (first | apply Kd.R_alloc | apply Kd.R_drewN | apply Kd.R_drew)); exact Kd.R_mono HO278.out (fun _ hk => (And.intro (hk.1.1) ((And.intro (hk.1.2.1) ((And.intro (hk.1.2.2) (hk.2)))))))), (by (with_reducible repeat (first | apply Kd.R_alloc | apply Kd.R_drewN | apply Kd.R_drew)); exact Kd.R_mono HO281.out (fun _ hk => (And.intro (hk.1.1) ((And.intro (hk.1.2.1) ((And.intro (hk.1.2.2) (hk.2)))))))), (by (with_reducible repeat (first | apply Kd.R_alloc | apply Kd.R_drewN | apply Kd.R_drew)); exact Kd.R_mono HO284.out (fun _ hk => (And.intro (hk.1.1) ((And.intro (hk.1.2.1) ((And.intro (hk.1.2.2) (hk.2)))))))), (by (with_reducible repeat (first | apply Kd.R_alloc | apply Kd.R_drewN | apply Kd.R_drew)); exact Kd.R_mono HO287.out (fun _ hk => (And.intro (hk.1.1) ((And.intro (hk.1.2.1) ((And.intro (hk.1.2.2) (hk.2)))))))), (by (with_reducible repeat (first | apply Kd.R_alloc | apply Kd.R_drewN | apply Kd.R_drew)); exact Kd.R_mono HO290.out (fun _ hk => (And.intro (hk.1.1.1.2) ((And.intro (hk.1.1.2) ((And.intro (hk.1.2) (hk.2)))))))), BK275.out, (by repeat (first | (with_reducible first | exact HB.out | apply bA_ | apply bN_ | apply bD_ | refine bS_ ?_ GE275.out) | exact HB.out))⟩)
        ·skip
         refine box_step ?hg (N := 10) ?hd (cs := #[.slice none 0 0]) (t := 61) ?hr ?_; (case hd => rfl); (case hg => rfl); (case hr => first | (go_simp; done) | (go_simp; rfl))
         intro gb291 hg w28 hbox hb
         replace HO278 := Aside0.mk (Kd.R_below HO278.out hb)
         replace HO281 := Aside0.mk (Kd.R_below HO281.out hb)
         replace HO284 := Aside0.mk (Kd.R_below HO284.out hb)
         replace HO287 := Aside0.mk (Kd.R_below HO287.out hb)
         have BK291 := Aside0.mk (hbox)
         have GW291 := Aside0.mk ((by rw [hg]; exact (below_size (by repeat (first | (with_reducible first | exact HB.out | apply bA_ | apply bN_ | apply bD_ | refine bS_ ?_ GE275.out) | exact HB.out))) : w.heap.size ≤ gb291))
         have GE291 := GW291
         replace HB := Aside0.mk (below_step (by repeat (first | (with_reducible first | exact HB.out | apply bA_ | apply bN_ | apply bD_ | refine bS_ ?_ GE275.out) | exact HB.out)) hb)
         have NB275_291 := Aside0.mk ((by rw [hg]; exact Nat.ne_of_lt (blk_lt BK275.out) : gb275 ≠ gb291))
         have NB291_275 := Aside0.mk NB275_291.out.symm
         replace BK275 := bK_ BK275 hb
         clear hb hbox hg
         refine hK.out _ _ ⟨(blk_cell BK275.out 0).trans rfl, (blk_cell BK275.out 1).trans rfl⟩ (fun hHeld => ?_)
         clear hK K
         refine norm_ (a' := ?_) ?_ ?_
         rotate_left
         ·show Act.put _ (some 10) _ = _
          simp only [Act.put, sT_, sZ_, sS_, i64_w, i32_w]
          rfl
         exact norm_ (by simp only [putAll, Act.put, sT_, sZ_, sS_] <;> rfl) (hJ1_3_4_7_9 (_, _, _, _, gb291) _ ⟨hHeld, (by (with_reducible repeat (first | apply Kd.R_alloc | apply Kd.R_drewN | apply Kd.R_drew)); exact HO278.out), (by (with_reducible repeat (first | apply Kd.R_alloc | apply Kd.R_drewN | apply Kd.R_drew)); exact HO281.out), (by (with_reducible repeat (first | apply Kd.R_alloc | apply Kd.R_drewN | apply Kd.R_drew)); exact HO284.out), (by (with_reducible repeat (first | apply Kd.R_alloc | apply Kd.R_drewN | apply Kd.R_drew)); exact HO287.out), BK275.out, BK291.out, GW291.out, GE291.out, NB275_291.out, NB291_275.out, (by repeat (first | (with_reducible first | exact HB.out | apply bA_ | apply bN_ | apply bD_ | refine bS_ ?_ GE275.out | refine bS_ ?_ GE291.out) | exact HB.out))⟩)
      ·skip
       rintro ⟨v277, v280, v283, v286, gb291⟩ w28 ⟨hS_, h0_, h1_, h2_, h3_, h4_, h5_, h6_, h7_, h8_, h9_, h10_⟩
       (try dsimp only at h0_ h1_ h2_ h3_ h4_ h5_ h6_ h7_ h8_ h9_ h10_)
       clear BK275 HB
       have HO278 := Aside0.mk h0_
       have HO281 := Aside0.mk h1_
       have HO284 := Aside0.mk h2_
       have HO287 := Aside0.mk h3_
       have BK275 := Aside0.mk h4_
       have BK291 := Aside0.mk h5_
       have GW291 := Aside0.mk h6_
       have GE291 := Aside0.mk h7_
       have NB275_291 := Aside0.mk h8_
       have NB291_275 := Aside0.mk h9_
       have HB := Aside0.mk h10_
       clear h0_ h1_ h2_ h3_ h4_ h5_ h6_ h7_ h8_ h9_ h10_
       have hHeld : w28.cell? ⟨gb275, 0, none⟩ = some (.int .i64 a2_0) ∧ w28.cell? ⟨gb275, 1, none⟩ = some (.int .i64 a2_1) := hS_
       obtain ⟨Ao29, co29, eo29⟩ := Kd.R_slice HO284.out
       (first | subst eo29 | (injection eo29 with f1_ f2_ f3_; have f4_ := f1_.symm; have f5_ := f3_.symm; clear f1_ f2_ f3_; subst f4_; subst f5_))
       obtain ⟨Ao30, co30, eo30⟩ := Kd.R_slice HO287.out
       (first | subst eo30 | (injection eo30 with f1_ f2_ f3_; have f4_ := f1_.symm; have f5_ := f3_.symm; clear f1_ f2_ f3_; subst f4_; subst f5_))
       refine norm_ (a' := ?_) ?_ ?_
       rotate_left
       ·simp only [putAll, Act.put, sT_, sZ_, sS_]
        rfl
       refine one_ (i := 8) (N := some 31) (demurrageref03_Part.ups 11 1023) rfl rfl (one_of HT_.out (by kernel_rfl)) (by decide) (fun K hK => ?_)
       refine goes_ Try.func29 (by kernel_rfl) rfl #[.agg #[.slice Ao29 t282.length co29], .agg #[.slice Ao30 t285.length co30]] (by rfl) rfl rfl (by (try simp only [List.map_toArray, List.map_cons, List.map_nil]); first | done | rfl) ?_
       with_reducible refine (demurrageref01_Prod.calls kj4 _ _ t282 _ _ t285 t288 _ ?side1 ?side2 ?side3 ?side4 A14.out).mono ?_
       (case side1 => repeat (first | exact (Kd.R_reads' HO284.out).2.2 | (with_reducible refine Kd.C_alloc ?_ _) | (with_reducible refine Kd.C_drewN ?_ _) | (with_reducible refine Kd.C_drew ?_)))
       (case side2 => exact (Kd.R_reads' HO284.out).2.1)
       (case side3 => repeat (first | exact (Kd.R_reads' HO287.out).2.2 | (with_reducible refine Kd.C_alloc ?_ _) | (with_reducible refine Kd.C_drewN ?_ _) | (with_reducible refine Kd.C_drew ?_)))
       (case side4 => exact (Kd.R_reads' HO287.out).2.1)
       rintro e w31 ⟨v289, rfl, ho0, hb⟩
       refine ⟨_, rfl, ?_⟩
       have HO290 := Aside0.mk (Kd.R_lower (Kd.R_new' (Kd.R_new' (Kd.R_new' (Kd.R_new' ho0 (Kd.R_lt HO278.out)) (Kd.R_lt HO281.out)) (Kd.R_lt HO284.out)) (Kd.R_lt HO287.out)) (below_size (by repeat (first | (with_reducible first | exact HB.out | apply bA_ | apply bN_ | apply bD_ | refine bS_ ?_ GE275.out | refine bS_ ?_ GE291.out) | exact HB.out))))
       replace HO278 := Aside0.mk (Kd.R_elder' HO278.out (Kd.R_base ho0) hb)
       replace HO281 := Aside0.mk (Kd.R_elder' HO281.out (Kd.R_base ho0) hb)
       replace HO284 := Aside0.mk (Kd.R_elder' HO284.out (Kd.R_base ho0) hb)
       replace HO287 := Aside0.mk (Kd.R_elder' HO287.out (Kd.R_base ho0) hb)
       replace BK275 := bK_ BK275 hb
       replace BK291 := bK_ BK291 hb
       replace HB := Aside0.mk (below_step (by repeat (first | (with_reducible first | exact HB.out | apply bA_ | apply bN_ | apply bD_ | refine bS_ ?_ GE275.out | refine bS_ ?_ GE291.out) | exact HB.out)) hb)
       (try clear hb)
       (try clear hb2)
       (try clear hk)
       (try clear hi)
       (try clear ho0)
       refine hK.out _ _ ⟨(blk_cell BK275.out 0).trans rfl, (blk_cell BK275.out 1).trans rfl⟩ (fun hHeld => ?_)
       clear hK K
       refine norm_ (a' := ?_) ?_ ?_
       rotate_left
       ·show Act.put _ (some 31) _ = _
        simp only [Act.put, sT_, sZ_, sS_, i64_w, i32_w]
        rfl
       exact norm_ (by simp only [putAll, Act.put, sT_, sZ_, sS_] <;> rfl) (hJ1_3_4_7_8_9 (_, _, .slice Ao29 t282.length co29, .slice Ao30 t285.length co30, _, gb291) _ ⟨hHeld, (by (with_reducible repeat (first | apply Kd.R_alloc | apply Kd.R_drewN | apply Kd.R_drew)); exact Kd.R_mono HO278.out (fun _ hk => (And.intro (hk.1.1) ((And.intro (hk.1.2.1) ((And.intro (hk.1.2.2) (hk.2)))))))), (by (with_reducible repeat (first | apply Kd.R_alloc | apply Kd.R_drewN | apply Kd.R_drew)); exact Kd.R_mono HO281.out (fun _ hk => (And.intro (hk.1.1) ((And.intro (hk.1.2.1) ((And.intro (hk.1.2.2) (hk.2)))))))), (by (with_reducible repeat (first | apply Kd.R_alloc | apply Kd.R_drewN | apply Kd.R_drew)); exact Kd.R_mono HO284.out (fun _ hk => (And.intro (hk.1.1) ((And.intro (hk.1.2.1) ((And.intro (hk.1.2.2) (hk.2)))))))), (by (with_reducible repeat (first | apply Kd.R_alloc | apply Kd.R_drewN | apply Kd.R_drew)); exact Kd.R_mono HO287.out (fun _ hk => (And.intro (hk.1.1) ((And.intro (hk.1.2.1) ((And.intro (hk.1.2.2) (hk.2)))))))), (by (with_reducible repeat (first | apply Kd.R_alloc | apply Kd.R_drewN | apply Kd.R_drew)); exact Kd.R_mono HO290.out (fun _ hk => (And.intro (hk.1.1.1.2) ((And.intro (hk.1.1.2) ((And.intro (hk.1.2) (hk.2)))))))), BK275.out, BK291.out, GW291.out, GE291.out, NB275_291.out, NB291_275.out, (by repeat (first | (with_reducible first | exact HB.out | apply bA_ | apply bN_ | apply bD_ | refine bS_ ?_ GE275.out | refine bS_ ?_ GE291.out) | exact HB.out))⟩)
     ·skip
      rintro ⟨v277, v280, v283, v286, v289⟩ w30 ⟨hS_, h0_, h1_, h2_, h3_, h4_, h5_, h6_⟩
      (try dsimp only at h0_ h1_ h2_ h3_ h4_ h5_ h6_)
      clear BK275 HB
      have HO278 := Aside0.mk h0_
      have HO281 := Aside0.mk h1_
      have HO284 := Aside0.mk h2_
      have HO287 := Aside0.mk h3_
      have HO290 := Aside0.mk h4_
      have BK275 := Aside0.mk h5_
      have HB := Aside0.mk h6_
      clear h0_ h1_ h2_ h3_ h4_ h5_ h6_
      have hHeld : w30.cell? ⟨gb275, 0, none⟩ = some (.int .i64 a2_0) ∧ w30.cell? ⟨gb275, 1, none⟩ = some (.int .i64 a2_1) := hS_
      refine norm_ (a' := ?_) ?_ ?_
      rotate_left
      ·simp only [putAll, Act.put, sT_, sZ_, sS_]
       rfl
      refine one_ (i := 9) (N := some 10) (demurrageref03_Part.ups 11 1023) rfl rfl (one_of HT_.out (by kernel_rfl)) (by decide) (fun K hK => ?_)
      refine box_step ?hg (N := 10) ?hd (cs := #[.slice none 0 0]) (t := 61) ?hr ?_; (case hd => rfl); (case hg => rfl); (case hr => first | (go_simp; done) | (go_simp; rfl))
      intro gb291 hg w31 hbox hb
      replace HO278 := Aside0.mk (Kd.R_below HO278.out hb)
      replace HO281 := Aside0.mk (Kd.R_below HO281.out hb)
      replace HO284 := Aside0.mk (Kd.R_below HO284.out hb)
      replace HO287 := Aside0.mk (Kd.R_below HO287.out hb)
      replace HO290 := Aside0.mk (Kd.R_below HO290.out hb)
      have BK291 := Aside0.mk (hbox)
      have GW291 := Aside0.mk ((by rw [hg]; exact (below_size (by repeat (first | (with_reducible first | exact HB.out | apply bA_ | apply bN_ | apply bD_ | refine bS_ ?_ GE275.out) | exact HB.out))) : w.heap.size ≤ gb291))
      have GE291 := GW291
      replace HB := Aside0.mk (below_step (by repeat (first | (with_reducible first | exact HB.out | apply bA_ | apply bN_ | apply bD_ | refine bS_ ?_ GE275.out) | exact HB.out)) hb)
      have NB275_291 := Aside0.mk ((by rw [hg]; exact Nat.ne_of_lt (blk_lt BK275.out) : gb275 ≠ gb291))
      have NB291_275 := Aside0.mk NB275_291.out.symm
      replace BK275 := bK_ BK275 hb
      clear hb hbox hg
      refine hK.out _ _ ⟨(blk_cell BK275.out 0).trans rfl, (blk_cell BK275.out 1).trans rfl⟩ (fun hHeld => ?_)
      clear hK K
      refine norm_ (a' := ?_) ?_ ?_
      rotate_left
      ·show Act.put _ (some 10) _ = _
       simp only [Act.put, sT_, sZ_, sS_, i64_w, i32_w]
       rfl
      exact norm_ (by simp only [putAll, Act.put, sT_, sZ_, sS_] <;> rfl) (hJ1_3_4_7_8_9 (_, _, _, _, _, gb291) _ ⟨hHeld, (by (with_reducible repeat (first | apply Kd.R_alloc | apply Kd.R_drewN | apply Kd.R_drew)); exact HO278.out), (by (with_reducible repeat (first | apply Kd.R_alloc | apply Kd.R_drewN | apply Kd.R_drew)); exact HO281.out), (by (with_reducible repeat (first | apply Kd.R_alloc | apply Kd.R_drewN | apply Kd.R_drew)); exact HO284.out), (by (with_reducible repeat (first | apply Kd.R_alloc | apply Kd.R_drewN | apply Kd.R_drew)); exact HO287.out), (by (with_reducible repeat (first | apply Kd.R_alloc | apply Kd.R_drewN | apply Kd.R_drew)); exact HO290.out), BK275.out, BK291.out, GW291.out, GE291.out, NB275_291.out, NB291_275.out, (by repeat (first | (with_reducible first | exact HB.out | apply bA_ | apply bN_ | apply bD_ | refine bS_ ?_ GE275.out | refine bS_ ?_ GE291.out) | exact HB.out))⟩)
    rintro ⟨v277, v280, v283, v286, v289, gb291⟩ w31 ⟨hS_, h0_, h1_, h2_, h3_, h4_, h5_, h6_, h7_, h8_, h9_, h10_, h11_⟩
    (try dsimp only at h0_ h1_ h2_ h3_ h4_ h5_ h6_ h7_ h8_ h9_ h10_ h11_)
    clear BK275 HB
    have HO278 := Aside0.mk h0_
    have HO281 := Aside0.mk h1_
    have HO284 := Aside0.mk h2_
    have HO287 := Aside0.mk h3_
    have HO290 := Aside0.mk h4_
    have BK275 := Aside0.mk h5_
    have BK291 := Aside0.mk h6_
    have GW291 := Aside0.mk h7_
    have GE291 := Aside0.mk h8_
    have NB275_291 := Aside0.mk h9_
    have NB291_275 := Aside0.mk h10_
    have HB := Aside0.mk h11_
    clear h0_ h1_ h2_ h3_ h4_ h5_ h6_ h7_ h8_ h9_ h10_ h11_
    have hHeld : w31.cell? ⟨gb275, 0, none⟩ = some (.int .i64 a2_0) ∧ w31.cell? ⟨gb275, 1, none⟩ = some (.int .i64 a2_1) := hS_
    obtain ⟨Ao32, co32, eo32⟩ := Kd.R_slice HO290.out
    (first | subst eo32 | (injection eo32 with f1_ f2_ f3_; have f4_ := f1_.symm; have f5_ := f3_.symm; clear f1_ f2_ f3_; subst f4_; subst f5_))
    refine norm_ (a' := ?_) ?_ ?_
    rotate_left
    ·simp only [putAll, Act.put, sT_, sZ_, sS_]
     rfl
    refine one_ (i := 10) (N := none) (demurrageref03_Part.ups 11 2047) rfl rfl (one_of HT_.out (by kernel_rfl)) (by decide) (fun K hK => ?_)
    have hs33 : w31.cell? ⟨gb291, 0, none⟩ = some (.slice none 0 0) := (blk_cell BK291.out 0).trans rfl
    have hfs33 := blk_frozen BK291.out 0
    have hns33_0 := NB275_291.out
    have hms33_0 := NB291_275.out
    refine skip_ (w1 := ?_) (by rfl) rfl ?_ ?_
    rotate_left
    ·go_simp
     rfl
    refine hK.out _ _ ⟨((cell_far (p := ⟨gb291, _, none⟩) NB275_291.out _).trans (hHeld.1)), ((cell_far (p := ⟨gb291, _, none⟩) NB275_291.out _).trans (hHeld.2))⟩ (fun hHeld => ?_)
    clear hK K
    refine done_ (done_of HT_.out (by kernel_rfl)) ?_
    try go_wp2
    have n0_ : Aside0 (Kd.R (Kd.int .i64) 3 (w31.setCell ⟨gb291, 0, none⟩ (.slice Ao32 t288.length co32)) w.heap.size (fun k_ => some k_ ≠ (v280 : Value).ownBlock ∧ some k_ ≠ (v283 : Value).ownBlock ∧ some k_ ≠ (v286 : Value).ownBlock ∧ some k_ ≠ (.slice Ao32 t288.length co32 : Value).ownBlock) v277 t276) := ⟨by (with_reducible repeat (first | apply Kd.R_alloc | apply Kd.R_drewN | apply Kd.R_drew)); exact Kd.R_mono (Kd.R_far (p := ⟨gb291, 0, none⟩) (Kd.R_types HO278.out BK291.out (by decide)) (fun _ hk => hk.2) (.slice Ao32 t288.length co32)) (fun _ hk => (And.intro (hk.1.1) ((And.intro (hk.1.2.1) ((And.intro (hk.1.2.2.1) (hk.1.2.2.2)))))))⟩
    have n1_ : Aside0 (Kd.R (Kd.int .i64) 3 (w31.setCell ⟨gb291, 0, none⟩ (.slice Ao32 t288.length co32)) w.heap.size (fun k_ => some k_ ≠ (v277 : Value).ownBlock ∧ some k_ ≠ (v283 : Value).ownBlock ∧ some k_ ≠ (v286 : Value).ownBlock ∧ some k_ ≠ (.slice Ao32 t288.length co32 : Value).ownBlock) v280 t279) := ⟨by (with_reducible repeat (first | apply Kd.R_alloc | apply Kd.R_drewN | apply Kd.R_drew)); exact Kd.R_mono (Kd.R_far (p := ⟨gb291, 0, none⟩) (Kd.R_types HO281.out BK291.out (by decide)) (fun _ hk => hk.2) (.slice Ao32 t288.length co32)) (fun _ hk => (And.intro (hk.1.1) ((And.intro (hk.1.2.1) ((And.intro (hk.1.2.2.1) (hk.1.2.2.2)))))))⟩
    have n2_ : Aside0 (Kd.R (Kd.int .i64) 3 (w31.setCell ⟨gb291, 0, none⟩ (.slice Ao32 t288.length co32)) w.heap.size (fun k_ => some k_ ≠ (v277 : Value).ownBlock ∧ some k_ ≠ (v280 : Value).ownBlock ∧ some k_ ≠ (v286 : Value).ownBlock ∧ some k_ ≠ (.slice Ao32 t288.length co32 : Value).ownBlock) v283 t282) := ⟨by (with_reducible repeat (first | apply Kd.R_alloc | apply Kd.R_drewN | apply Kd.R_drew)); exact Kd.R_mono (Kd.R_far (p := ⟨gb291, 0, none⟩) (Kd.R_types HO284.out BK291.out (by decide)) (fun _ hk => hk.2) (.slice Ao32 t288.length co32)) (fun _ hk => (And.intro (hk.1.1) ((And.intro (hk.1.2.1) ((And.intro (hk.1.2.2.1) (hk.1.2.2.2)))))))⟩
    have n3_ : Aside0 (Kd.R (Kd.int .i64) 3 (w31.setCell ⟨gb291, 0, none⟩ (.slice Ao32 t288.length co32)) w.heap.size (fun k_ => some k_ ≠ (v277 : Value).ownBlock ∧ some k_ ≠ (v280 : Value).ownBlock ∧ some k_ ≠ (v283 : Value).ownBlock ∧ some k_ ≠ (.slice Ao32 t288.length co32 : Value).ownBlock) v286 t285) := ⟨by (with_reducible repeat (first | apply Kd.R_alloc | apply Kd.R_drewN | apply Kd.R_drew)); exact Kd.R_mono (Kd.R_far (p := ⟨gb291, 0, none⟩) (Kd.R_types HO287.out BK291.out (by decide)) (fun _ hk => hk.2) (.slice Ao32 t288.length co32)) (fun _ hk => (And.intro (hk.1.1) ((And.intro (hk.1.2.1) ((And.intro (hk.1.2.2.1) (hk.1.2.2.2)))))))⟩
    have n4_ : Aside0 (Kd.R (Kd.int .i64) 3 (w31.setCell ⟨gb291, 0, none⟩ (.slice Ao32 t288.length co32)) w.heap.size (fun k_ => some k_ ≠ (v277 : Value).ownBlock ∧ some k_ ≠ (v280 : Value).ownBlock ∧ some k_ ≠ (v283 : Value).ownBlock ∧ some k_ ≠ (v286 : Value).ownBlock) (.slice Ao32 t288.length co32) t288) := ⟨by (with_reducible repeat (first | apply Kd.R_alloc | apply Kd.R_drewN | apply Kd.R_drew)); exact Kd.R_mono (Kd.R_far (p := ⟨gb291, 0, none⟩) (Kd.R_types HO290.out BK291.out (by decide)) (fun _ hk => hk.2) (.slice Ao32 t288.length co32)) (fun _ hk => (And.intro (hk.1.1) ((And.intro (hk.1.2.1) ((And.intro (hk.1.2.2.1) (hk.1.2.2.2)))))))⟩
    have n5_ : Aside0 ((w31.setCell ⟨gb291, 0, none⟩ (.slice Ao32 t288.length co32)).heap[gb275]? = some (.cells #[.int .i64 a2_0, .int .i64 a2_1] 42 (0, 0))) := ⟨by refine blk_far ?_ NB275_291.out _; exact BK275.out⟩
    have n6_ : Aside0 ((w31.setCell ⟨gb291, 0, none⟩ (.slice Ao32 t288.length co32)).heap[gb291]? = some (.cells #[.slice Ao32 t288.length co32] 61 (0, 0))) := ⟨by refine blk_put (cs := #[.slice none 0 0]) ?_ 0 _ rfl; exact BK291.out⟩
    have n7_ : Aside0 (Below w.heap.size w (w31.setCell ⟨gb291, 0, none⟩ (.slice Ao32 t288.length co32))) := ⟨by repeat (first | (with_reducible first | exact HB.out | apply bA_ | apply bN_ | apply bD_ | refine bS_ ?_ GE275.out | refine bS_ ?_ GE291.out) | exact HB.out)⟩
    (try clear HO278)
    (try clear HO281)
    (try clear HO284)
    (try clear HO287)
    (try clear HO290)
    (try clear BK275)
    (try clear BK291)
    (try clear HB)
    generalize (w31.setCell ⟨gb291, 0, none⟩ (.slice Ao32 t288.length co32)) = w34 at n0_ n1_ n2_ n3_ n4_ n5_ n6_ n7_ ⊢
    have HO278 := n0_
    have HO281 := n1_
    have HO284 := n2_
    have HO287 := n3_
    have HO290 := n4_
    have BK275 := n5_
    have BK291 := n6_
    have HB := n7_
    clear n0_ n1_ n2_ n3_ n4_ n5_ n6_ n7_
    replace HO278 := Aside0.mk (Kd.R_drew HO278.out)
    replace HO281 := Aside0.mk (Kd.R_drew HO281.out)
    replace HO284 := Aside0.mk (Kd.R_drew HO284.out)
    replace HO287 := Aside0.mk (Kd.R_drew HO287.out)
    replace HO290 := Aside0.mk (Kd.R_drew HO290.out)
    replace BK275 := Aside0.mk (blk_drew BK275.out)
    replace BK291 := Aside0.mk (blk_drew BK291.out)
    replace HB := Aside0.mk (below_drew1 HB.out)
    refine start_ (n := 8) (S := fun w' => w'.cell? ⟨gb275, 0, none⟩ = some (.int .i64 a2_0) ∧ w'.cell? ⟨gb275, 1, none⟩ = some (.int .i64 a2_1)) (ds := []) (demurrageref03_Part.ups 8 0) (by kernel_rfl) rfl rfl ⟨(blk_cell BK275.out 0).trans rfl, (blk_cell BK275.out 1).trans rfl⟩ (fun hHeld => ?_); refine with_tabW demurrageref03_Part.tab4 demurrageref03_Part.bits4 (fun HT_ HW_ => ?_)
    generalize w34.drew = w35 at HO278 HO281 HO284 HO287 HO290 BK275 BK291 HB hHeld ⊢
    refine pure_ (i := 0) (N := some 32) (v := ?_) (a' := ?_) (demurrageref03_Part.ups 8 1) rfl rfl (any_of HT_.out (by kernel_rfl)) (fun _ _ _ h => h) (Or.inl ⟨by rfl, ?_⟩) ?_ ?_
    rotate_left
    ·intro w'
     go_simp
     with_reducible rfl
    rotate_left
    ·simp only [Act.put, sT_, sZ_, sS_, i64_w, i32_w]
     rfl
    refine pure_ (i := 2) (N := some 34) (v := ?_) (a' := ?_) (demurrageref03_Part.ups 8 5) rfl rfl (any_of HT_.out (by kernel_rfl)) (fun _ _ _ h => h) (Or.inl ⟨by rfl, ?_⟩) ?_ ?_
    rotate_left
    ·intro w'
     go_simp
     with_reducible rfl
    rotate_left
    ·simp only [Act.put, sT_, sZ_, sS_, i64_w, i32_w]
     rfl
    refine take_ (i := 3) (N := some 35) (v := ?_) (a' := ?_) (demurrageref03_Part.ups 8 13) rfl rfl (take_ofW HT_.out HW_.out (by kernel_rfl)) (fun _ _ _ h => h) (Or.inl ⟨by rfl, ?_⟩) hHeld ?_ ?_
    rotate_left
    ·rintro w' ⟨s0, s1⟩
     go_simp
     with_reducible rfl
    rotate_left
    ·simp only [Act.put, sT_, sZ_, sS_, i64_w, i32_w]
     rfl
    refine join_ (σ := Value × Value × Value × Nat) 1 (demurrageref03_Part.ups 8 127) (fun s_ => [(33, .agg #[s_.1]), (36, .agg #[s_.2.1]), (37, .agg #[s_.2.2.1]), (11, .pointer (some ⟨s_.2.2.2, 0, none⟩))]) (fun s_ w' => (w'.cell? ⟨gb275, 0, none⟩ = some (.int .i64 a2_0) ∧ w'.cell? ⟨gb275, 1, none⟩ = some (.int .i64 a2_1)) ∧ (Kd.R (Kd.int .i64) 3 w' w.heap.size (fun k_ => some k_ ≠ (v280 : Value).ownBlock ∧ some k_ ≠ (v283 : Value).ownBlock ∧ some k_ ≠ (v286 : Value).ownBlock ∧ some k_ ≠ (.slice Ao32 t288.length co32 : Value).ownBlock ∧ some k_ ≠ (s_.1 : Value).ownBlock ∧ some k_ ≠ (s_.2.1 : Value).ownBlock ∧ some k_ ≠ (s_.2.2.1 : Value).ownBlock) v277 t276) ∧ (Kd.R (Kd.int .i64) 3 w' w.heap.size (fun k_ => some k_ ≠ (v277 : Value).ownBlock ∧ some k_ ≠ (v283 : Value).ownBlock ∧ some k_ ≠ (v286 : Value).ownBlock ∧ some k_ ≠ (.slice Ao32 t288.length co32 : Value).ownBlock ∧ some k_ ≠ (s_.1 : Value).ownBlock ∧ some k_ ≠ (s_.2.1 : Value).ownBlock ∧ some k_ ≠ (s_.2.2.1 : Value).ownBlock) v280 t279) ∧ (Kd.R (Kd.int .i64) 3 w' w.heap.size (fun k_ => some k_ ≠ (v277 : Value).ownBlock ∧ some k_ ≠ (v280 : Value).ownBlock ∧ some k_ ≠ (v286 : Value).ownBlock ∧ some k_ ≠ (.slice Ao32 t288.length co32 : Value).ownBlock ∧ some k_ ≠ (s_.1 : Value).ownBlock ∧ some k_ ≠ (s_.2.1 : Value).ownBlock ∧ some k_ ≠ (s_.2.2.1 : Value).ownBlock) v283 t282) ∧ (Kd.R (Kd.int .i64) 3 w' w.heap.size (fun k_ => some k_ ≠ (v277 : Value).ownBlock ∧ some k_ ≠ (v280 : Value).ownBlock ∧ some k_ ≠ (v283 : Value).ownBlock ∧ some k_ ≠ (.slice Ao32 t288.length co32 : Value).ownBlock ∧ some k_ ≠ (s_.1 : Value).ownBlock ∧ some k_ ≠ (s_.2.1 : Value).ownBlock ∧ some k_ ≠ (s_.2.2.1 : Value).ownBlock) v286 t285) ∧ (Kd.R (Kd.int .i64) 3 w' w.heap.size (fun k_ => some k_ ≠ (v277 : Value).ownBlock ∧ some k_ ≠ (v280 : Value).ownBlock ∧ some k_ ≠ (v283 : Value).ownBlock ∧ some k_ ≠ (v286 : Value).ownBlock ∧ some k_ ≠ (s_.1 : Value).ownBlock ∧ some k_ ≠ (s_.2.1 : Value).ownBlock ∧ some k_ ≠ (s_.2.2.1 : Value).ownBlock) (.slice Ao32 t288.length co32) t288) ∧ (Kd.R (Kd.int .i64) 3 w' w.heap.size (fun k_ => some k_ ≠ (v277 : Value).ownBlock ∧ some k_ ≠ (v280 : Value).ownBlock ∧ some k_ ≠ (v283 : Value).ownBlock ∧ some k_ ≠ (v286 : Value).ownBlock ∧ some k_ ≠ (.slice Ao32 t288.length co32 : Value).ownBlock ∧ some k_ ≠ (s_.2.1 : Value).ownBlock ∧ some k_ ≠ (s_.2.2.1 : Value).ownBlock) s_.1 t292) ∧ (Kd.R (Kd.int .i64) 3 w' w.heap.size (fun k_ => some k_ ≠ (v277 : Value).ownBlock ∧ some k_ ≠ (v280 : Value).ownBlock ∧ some k_ ≠ (v283 : Value).ownBlock ∧ some k_ ≠ (v286 : Value).ownBlock ∧ some k_ ≠ (.slice Ao32 t288.length co32 : Value).ownBlock ∧ some k_ ≠ (s_.1 : Value).ownBlock ∧ some k_ ≠ (s_.2.2.1 : Value).ownBlock) s_.2.1 t295) ∧ (Kd.R (Kd.int .i64) 3 w' w.heap.size (fun k_ => some k_ ≠ (v277 : Value).ownBlock ∧ some k_ ≠ (v280 : Value).ownBlock ∧ some k_ ≠ (v283 : Value).ownBlock ∧ some k_ ≠ (v286 : Value).ownBlock ∧ some k_ ≠ (.slice Ao32 t288.length co32 : Value).ownBlock ∧ some k_ ≠ (s_.1 : Value).ownBlock ∧ some k_ ≠ (s_.2.1 : Value).ownBlock) s_.2.2.1 t298) ∧ (w'.heap[gb275]? = some (.cells #[.int .i64 a2_0, .int .i64 a2_1] 42 (0, 0))) ∧ (w'.heap[gb291]? = some (.cells #[.slice Ao32 t288.length co32] 61 (0, 0))) ∧ (w'.heap[s_.2.2.2]? = some (.cells #[.slice none 0 0] 61 (0, 0))) ∧ (w.heap.size ≤ s_.2.2.2) ∧ (w.heap.size ≤ s_.2.2.2) ∧ (gb275 ≠ s_.2.2.2) ∧ (s_.2.2.2 ≠ gb275) ∧ (gb291 ≠ s_.2.2.2) ∧ (s_.2.2.2 ≠ gb291) ∧ (Below w.heap.size w w')) ?_ ?_
    rotate_left
    ·intro hCont
     refine two_ (i := 1) (j := 6) (Ni := some 33) (Nj := some 11) (demurrageref03_Part.ups 8 15) (demurrageref03_Part.ups 8 77) rfl rfl rfl rfl (two_of HT_.out (by kernel_rfl)) (by decide) (by decide) (fun K hK => ?_) (fun K hK => ?_)
     ·skip
      refine goes_ Try.func30 (by kernel_rfl) rfl #[.int .i64 a3] (by rfl) rfl rfl (by (try simp only [List.map_toArray, List.map_cons, List.map_nil]); first | done | rfl) ?_
      with_reducible refine (demurrageref01_From.calls kj4 a3 t292 _ A15.out).mono ?_
      rintro e w36 ⟨v293, rfl, ho0, hb⟩
      refine ⟨_, rfl, ?_⟩
      have HO294 := Aside0.mk (Kd.R_lower (Kd.R_new' (Kd.R_new' (Kd.R_new' (Kd.R_new' (Kd.R_new' ho0 (Kd.R_lt HO278.out)) (Kd.R_lt HO281.out)) (Kd.R_lt HO284.out)) (Kd.R_lt HO287.out)) (Kd.R_lt HO290.out)) (below_size (by repeat (first | (with_reducible first | exact HB.out | apply bA_ | apply bN_ | apply bD_ | refine bS_ ?_ GE275.out | refine bS_ ?_ GE291.out) | exact HB.out))))
      replace HO278 := Aside0.mk (Kd.R_elder' HO278.out (Kd.R_base ho0) hb)
      replace HO281 := Aside0.mk (Kd.R_elder' HO281.out (Kd.R_base ho0) hb)
      replace HO284 := Aside0.mk (Kd.R_elder' HO284.out (Kd.R_base ho0) hb)
      replace HO287 := Aside0.mk (Kd.R_elder' HO287.out (Kd.R_base ho0) hb)
      replace HO290 := Aside0.mk (Kd.R_elder' HO290.out (Kd.R_base ho0) hb)
      replace BK275 := bK_ BK275 hb
      replace BK291 := bK_ BK291 hb
      replace HB := Aside0.mk (below_step (by repeat (first | (with_reducible first | exact HB.out | apply bA_ | apply bN_ | apply bD_ | refine bS_ ?_ GE275.out | refine bS_ ?_ GE291.out) | exact HB.out)) hb)
      (try clear hb)
      (try clear hb2)
      (try clear hk)
      (try clear hi)
      (try clear ho0)
      refine hK.out _ _ ⟨(blk_cell BK275.out 0).trans rfl, (blk_cell BK275.out 1).trans rfl⟩ (fun hHeld => ?_)
      clear hK K
      refine norm_ (a' := ?_) ?_ ?_
      rotate_left
      ·show Act.put _ (some 33) _ = _
       simp only [Act.put, sT_, sZ_, sS_, i64_w, i32_w]
       rfl
      refine two_ (i := 4) (j := 6) (Ni := some 36) (Nj := some 11) (demurrageref03_Part.ups 8 31) (demurrageref03_Part.ups 8 79) rfl rfl rfl rfl (two_of HT_.out (by kernel_rfl)) (by decide) (by decide) (fun K hK => ?_) (fun K hK => ?_)
      ·skip
       refine goes_ Try.func30 (by kernel_rfl) rfl #[.int .i64 a2_1] (by rfl) rfl rfl (by (try simp only [List.map_toArray, List.map_cons, List.map_nil]); first | done | rfl) ?_
       with_reducible refine (demurrageref01_From.calls kj4 a2_1 t295 _ A16.out).mono ?_
       rintro e w37 ⟨v296, rfl, ho0, hb⟩
       refine ⟨_, rfl, ?_⟩
       have HO297 := Aside0.mk (Kd.R_lower (Kd.R_new' (Kd.R_new' (Kd.R_new' (Kd.R_new' (Kd.R_new' (Kd.R_new' ho0 (Kd.R_lt HO278.out)) (Kd.R_lt HO281.out)) (Kd.R_lt HO284.out)) (Kd.R_lt HO287.out)) (Kd.R_lt HO290.out)) (Kd.R_lt HO294.out)) (below_size (by repeat (first | (with_reducible first | exact HB.out | apply bA_ | apply bN_ | apply bD_ | refine bS_ ?_ GE275.out | refine bS_ ?_ GE291.out) | exact HB.out))))
       replace HO278 := Aside0.mk (Kd.R_elder' HO278.out (Kd.R_base ho0) hb)
       replace HO281 := Aside0.mk (Kd.R_elder' HO281.out (Kd.R_base ho0) hb)
       replace HO284 := Aside0.mk (Kd.R_elder' HO284.out (Kd.R_base ho0) hb)
       replace HO287 := Aside0.mk (Kd.R_elder' HO287.out (Kd.R_base ho0) hb)
       replace HO290 := Aside0.mk (Kd.R_elder' HO290.out (Kd.R_base ho0) hb)
       replace HO294 := Aside0.mk (Kd.R_elder' HO294.out (Kd.R_base ho0) hb)
       replace BK275 := bK_ BK275 hb
       replace BK291 := bK_ BK291 hb
       replace HB := Aside0.mk (below_step (by repeat (first | (with_reducible first | exact HB.out | apply bA_ | apply bN_ | apply bD_ | refine bS_ ?_ GE275.out | refine bS_ ?_ GE291.out) | exact HB.out)) hb)
       (try clear hb)
       (try clear hb2)
       (try clear hk)
       (try clear hi)
       (try clear ho0)
       obtain ⟨Ao38, co38, eo38⟩ := Kd.R_slice HO294.out
       (first | subst eo38 | (injection eo38 with f1_ f2_ f3_; have f4_ := f1_.symm; have f5_ := f3_.symm; clear f1_ f2_ f3_; subst f4_; subst f5_))
       obtain ⟨Ao39, co39, eo39⟩ := Kd.R_slice HO297.out
       (first | subst eo39 | (injection eo39 with f1_ f2_ f3_; have f4_ := f1_.symm; have f5_ := f3_.symm; clear f1_ f2_ f3_; subst f4_; subst f5_))
       refine hK.out _ _ ⟨(blk_cell BK275.out 0).trans rfl, (blk_cell BK275.out 1).trans rfl⟩ (fun hHeld => ?_)
       clear hK K
       refine norm_ (a' := ?_) ?_ ?_
       rotate_left
       ·show Act.put _ (some 36) _ = _
        simp only [Act.put, sT_, sZ_, sS_, i64_w, i32_w]
        rfl
       refine two_ (i := 5) (j := 6) (Ni := some 37) (Nj := some 11) (demurrageref03_Part.ups 8 63) (demurrageref03_Part.ups 8 95) rfl rfl rfl rfl (two_of HT_.out (by kernel_rfl)) (by decide) (by decide) (fun K hK => ?_) (fun K hK => ?_)
       ·skip
        refine goes_ Try.func29 (by kernel_rfl) rfl #[.agg #[.slice Ao38 t292.length co38], .agg #[.slice Ao39 t295.length co39]] (by rfl) rfl rfl (by (try simp only [List.map_toArray, List.map_cons, List.map_nil]); first | done | rfl) ?_
        with_reducible refine (demurrageref01_Prod.calls kj4 _ _ t292 _ _ t295 t298 _ ?side1 ?side2 ?side3 ?side4 A17.out).mono ?_
        (case side1 => repeat (first | exact (Kd.R_reads' HO294.out).2.2 | (with_reducible refine Kd.C_alloc ?_ _) | (with_reducible refine Kd.C_drewN ?_ _) | (with_reducible refine Kd.C_drew ?_)))
        (case side2 => exact (Kd.R_reads' HO294.out).2.1)
        (case side3 => repeat (first | exact (Kd.R_reads' HO297.out).2.2 | (with_reducible refine Kd.C_alloc ?_ _) | (with_reducible refine Kd.C_drewN ?_ _) | (with_reducible refine Kd.C_drew ?_)))
        (case side4 => exact (Kd.R_reads' HO297.out).2.1)
        rintro e w40 ⟨v299, rfl, ho0, hb⟩
        refine ⟨_, rfl, ?_⟩
        have HO300 := Aside0.mk (Kd.R_lower (Kd.R_new' (Kd.R_new' (Kd.R_new' (Kd.R_new' (Kd.R_new' (Kd.R_new' (Kd.R_new' ho0 (Kd.R_lt HO278.out)) (Kd.R_lt HO281.out)) (Kd.R_lt HO284.out)) (Kd.R_lt HO287.out)) (Kd.R_lt HO290.out)) (Kd.R_lt HO294.out)) (Kd.R_lt HO297.out)) (below_size (by repeat (first | (with_reducible first | exact HB.out | apply bA_ | apply bN_ | apply bD_ | refine bS_ ?_ GE275.out | refine bS_ ?_ GE291.out) | exact HB.out))))
        replace HO278 := Aside0.mk (Kd.R_elder' HO278.out (Kd.R_base ho0) hb)
        replace HO281 := Aside0.mk (Kd.R_elder' HO281.out (Kd.R_base ho0) hb)
        replace HO284 := Aside0.mk (Kd.R_elder' HO284.out (Kd.R_base ho0) hb)
        replace HO287 := Aside0.mk (Kd.R_elder' HO287.out (Kd.R_base ho0) hb)
        replace HO290 := Aside0.mk (Kd.R_elder' HO290.out (Kd.R_base ho0) hb)
        replace HO294 := Aside0.mk (Kd.R_elder' HO294.out (Kd.R_base ho0) hb)
        replace HO297 := Aside0.mk (Kd.R_elder' HO297.out (Kd.R_base ho0) hb)
        replace BK275 := bK_ BK275 hb
        replace BK291 := bK_ BK291 hb
        replace HB := Aside0.mk (below_step (by repeat (first | (with_reducible first | exact HB.out | apply bA_ | apply bN_ | apply bD_ | refine bS_ ?_ GE275.out | refine bS_ ?_ GE291.out) | exact HB.out)) hb)
        (try clear hb)
        (try clear hb2)
        (try clear hk)
        (try clear hi)
        (try clear ho0)
        refine hK.out _ _ ⟨(blk_cell BK275.out 0).trans rfl, (blk_cell BK275.out 1).trans rfl⟩ (fun hHeld => ?_)
        clear hK K
        refine norm_ (a' := ?_) ?_ ?_
        rotate_left
        ·show Act.put _ (some 37) _ = _
         simp only [Act.put, sT_, sZ_, sS_, i64_w, i32_w]
         rfl
        refine one_ (i := 6) (N := some 11) (demurrageref03_Part.ups 8 127) rfl rfl (one_of HT_.out (by kernel_rfl)) (by decide) (fun K hK => ?_)
        refine box_step ?hg (N := 11) ?hd (cs := #[.slice none 0 0]) (t := 61) ?hr ?_; (case hd => rfl); (case hg => rfl); (case hr => first | (go_simp; done) | (go_simp; rfl))
        intro gb301 hg w41 hbox hb
        replace HO278 := Aside0.mk (Kd.R_below HO278.out hb)
        replace HO281 := Aside0.mk (Kd.R_below HO281.out hb)
        replace HO284 := Aside0.mk (Kd.R_below HO284.out hb)
        replace HO287 := Aside0.mk (Kd.R_below HO287.out hb)
        replace HO290 := Aside0.mk (Kd.R_below HO290.out hb)
        replace HO294 := Aside0.mk (Kd.R_below HO294.out hb)
        replace HO297 := Aside0.mk (Kd.R_below HO297.out hb)
        replace HO300 := Aside0.mk (Kd.R_below HO300.out hb)
        have BK301 := Aside0.mk (hbox)
        have GW301 := Aside0.mk ((by rw [hg]; exact (below_size (by repeat (first | (with_reducible first | exact HB.out | apply bA_ | apply bN_ | apply bD_ | refine bS_ ?_ GE275.out | refine bS_ ?_ GE291.out) | exact HB.out))) : w.heap.size ≤ gb301))
        have GE301 := GW301
        replace HB := Aside0.mk (below_step (by repeat (first | (with_reducible first | exact HB.out | apply bA_ | apply bN_ | apply bD_ | refine bS_ ?_ GE275.out | refine bS_ ?_ GE291.out) | exact HB.out)) hb)
        have NB275_301 := Aside0.mk ((by rw [hg]; exact Nat.ne_of_lt (blk_lt BK275.out) : gb275 ≠ gb301))
        have NB301_275 := Aside0.mk NB275_301.out.symm
        replace BK275 := bK_ BK275 hb
        have NB291_301 := Aside0.mk ((by rw [hg]; exact Nat.ne_of_lt (blk_lt BK291.out) : gb291 ≠ gb301))
        have NB301_291 := Aside0.mk NB291_301.out.symm
        replace BK291 := bK_ BK291 hb
        clear hb hbox hg
        refine hK.out _ _ ⟨(blk_cell BK275.out 0).trans rfl, (blk_cell BK275.out 1).trans rfl⟩ (fun hHeld => ?_)
        clear hK K
        refine norm_ (a' := ?_) ?_ ?_
        rotate_left
        ·show Act.put _ (some 11) _ = _
         simp only [Act.put, sT_, sZ_, sS_, i64_w, i32_w]
         rfl
        exact norm_ (by simp only [putAll, Act.put, sT_, sZ_, sS_]) (hCont (.slice Ao38 t292.length co38, .slice Ao39 t295.length co39, v299, gb301) _ ⟨hHeld, (by (with_reducible repeat (first | apply Kd.R_alloc | apply Kd.R_drewN | apply Kd.R_drew)); exact Kd.R_mono HO278.out (fun _ hk => (And.intro (hk.1.1.1.1) ((And.intro (hk.1.1.1.2.1) ((And.intro (hk.1.1.1.2.2.1) ((And.intro (hk.1.1.1.2.2.2) ((And.intro (hk.1.1.2) ((And.intro (hk.1.2) (hk.2)))))))))))))), (by (with_reducible repeat (first | apply Kd.R_alloc | apply Kd.R_drewN | apply Kd.R_drew)); exact Kd.R_mono HO281.out (fun _ hk => (And.intro (hk.1.1.1.1) ((And.intro (hk.1.1.1.2.1) ((And.intro (hk.1.1.1.2.2.1) ((And.intro (hk.1.1.1.2.2.2) ((And.intro (hk.1.1.2) ((And.intro (hk.1.2) (hk.2)))))))))))))), (by (with_reducible repeat (first | apply Kd.R_alloc | apply Kd.R_drewN | apply Kd.R_drew)); exact Kd.R_mono HO284.out (fun _ hk => (And.intro (hk.1.1.1.1) ((And.intro (hk.1.1.1.2.1) ((And.intro (hk.1.1.1.2.2.1) ((And.intro (hk.1.1.1.2.2.2) ((And.intro (hk.1.1.2) ((And.intro (hk.1.2) (hk.2)))))))))))))), (by (with_reducible repeat (first | apply Kd.R_alloc | apply Kd.R_drewN | apply Kd.R_drew)); exact Kd.R_mono HO287.out (fun _ hk => (And.intro (hk.1.1.1.1) ((And.intro (hk.1.1.1.2.1) ((And.intro (hk.1.1.1.2.2.1) ((And.intro (hk.1.1.1.2.2.2) ((And.intro (hk.1.1.2) ((And.intro (hk.1.2) (hk.2)))))))))))))), (by (with_reducible repeat (first | apply Kd.R_alloc | apply Kd.R_drewN | apply Kd.R_drew)); exact Kd.R_mono HO290.out (fun _ hk => (And.intro (hk.1.1.1.1) ((And.intro (hk.1.1.1.2.1) ((And.intro (hk.1.1.1.2.2.1) ((And.intro (hk.1.1.1.2.2.2) ((And.intro (hk.1.1.2) ((And.intro (hk.1.2) (hk.2)))))))))))))), (by (with_reducible repeat (first | apply Kd.R_alloc | apply Kd.R_drewN | apply Kd.R_drew)); exact Kd.R_mono HO294.out (fun _ hk => (And.intro (hk.1.1.1.1.1.1.2) ((And.intro (hk.1.1.1.1.1.2) ((And.intro (hk.1.1.1.1.2) ((And.intro (hk.1.1.1.2) ((And.intro (hk.1.1.2) ((And.intro (hk.1.2) (hk.2)))))))))))))), (by (with_reducible repeat (first | apply Kd.R_alloc | apply Kd.R_drewN | apply Kd.R_drew)); exact Kd.R_mono HO297.out (fun _ hk => (And.intro (hk.1.1.1.1.1.1.2) ((And.intro (hk.1.1.1.1.1.2) ((And.intro (hk.1.1.1.1.2) ((And.intro (hk.1.1.1.2) ((And.intro (hk.1.1.2) ((And.intro (hk.1.2) (hk.2)))))))))))))), (by (with_reducible repeat (first | apply Kd.R_alloc | apply Kd.R_drewN | apply Kd.R_drew)); exact Kd.R_mono HO300.out (fun _ hk => (And.intro (hk.1.1.1.1.1.1.2) ((And.intro (hk.1.1.1.1.1.2) ((And.intro (hk.1.1.1.1.2) ((And.intro (hk.1.1.1.2) ((And.intro (hk.1.1.2) ((And.intro (hk.1.2) (hk.2)))))))))))))), BK275.out, BK291.out, BK301.out, GW301.out, GE301.out, NB275_301.out, NB301_275.out, NB291_301.out, NB301_291.out, (by repeat (first | (with_reducible first | exact HB.out | apply bA_ | apply bN_ | apply bD_ | refine bS_ ?_ GE275.out | refine bS_ ?_ GE291.out | refine bS_ ?_ GE301.out) | exact HB.out))⟩)
       ·skip
        refine box_step ?hg (N := 11) ?hd (cs := #[.slice none 0 0]) (t := 61) ?hr ?_; (case hd => rfl); (case hg => rfl); (case hr => first | (go_simp; done) | (go_simp; rfl))
        intro gb301 hg w38 hbox hb
        replace HO278 := Aside0.mk (Kd.R_below HO278.out hb)
        replace HO281 := Aside0.mk (Kd.R_below HO281.out hb)
        replace HO284 := Aside0.mk (Kd.R_below HO284.out hb)
        replace HO287 := Aside0.mk (Kd.R_below HO287.out hb)
        replace HO290 := Aside0.mk (Kd.R_below HO290.out hb)
        replace HO294 := Aside0.mk (Kd.R_below HO294.out hb)
        replace HO297 := Aside0.mk (Kd.R_below HO297.out hb)
        have BK301 := Aside0.mk (hbox)
        have GW301 := Aside0.mk ((by rw [hg]; exact (below_size (by repeat (first | (with_reducible first | exact HB.out | apply bA_ | apply bN_ | apply bD_ | refine bS_ ?_ GE275.out | refine bS_ ?_ GE291.out) | exact HB.out))) : w.heap.size ≤ gb301))
        have GE301 := GW301
        replace HB := Aside0.mk (below_step (by repeat (first | (with_reducible first | exact HB.out | apply bA_ | apply bN_ | apply bD_ | refine bS_ ?_ GE275.out | refine bS_ ?_ GE291.out) | exact HB.out)) hb)
        have NB275_301 := Aside0.mk ((by rw [hg]; exact Nat.ne_of_lt (blk_lt BK275.out) : gb275 ≠ gb301))
        have NB301_275 := Aside0.mk NB275_301.out.symm
        replace BK275 := bK_ BK275 hb
        have NB291_301 := Aside0.mk ((by rw [hg]; exact Nat.ne_of_lt (blk_lt BK291.out) : gb291 ≠ gb301))
        have NB301_291 := Aside0.mk NB291_301.out.symm
        replace BK291 := bK_ BK291 hb
        clear hb hbox hg
        obtain ⟨Ao39, co39, eo39⟩ := Kd.R_slice HO294.out
        (first | subst eo39 | (injection eo39 with f1_ f2_ f3_; have f4_ := f1_.symm; have f5_ := f3_.symm; clear f1_ f2_ f3_; subst f4_; subst f5_))
        obtain ⟨Ao40, co40, eo40⟩ := Kd.R_slice HO297.out
        (first | subst eo40 | (injection eo40 with f1_ f2_ f3_; have f4_ := f1_.symm; have f5_ := f3_.symm; clear f1_ f2_ f3_; subst f4_; subst f5_))
        refine hK.out _ _ ⟨(blk_cell BK275.out 0).trans rfl, (blk_cell BK275.out 1).trans rfl⟩ (fun hHeld => ?_)
        clear hK K
        refine norm_ (a' := ?_) ?_ ?_
        rotate_left
        ·show Act.put _ (some 11) _ = _
         simp only [Act.put, sT_, sZ_, sS_, i64_w, i32_w]
         rfl
        refine one_ (i := 5) (N := some 37) (demurrageref03_Part.ups 8 127) rfl rfl (one_of HT_.out (by kernel_rfl)) (by decide) (fun K hK => ?_)
        refine goes_ Try.func29 (by kernel_rfl) rfl #[.agg #[.slice Ao39 t292.length co39], .agg #[.slice Ao40 t295.length co40]] (by rfl) rfl rfl (by (try simp only [List.map_toArray, List.map_cons, List.map_nil]); first | done | rfl) ?_
        with_reducible refine (demurrageref01_Prod.calls kj4 _ _ t292 _ _ t295 t298 _ ?side1 ?side2 ?side3 ?side4 A17.out).mono ?_
        (case side1 => repeat (first | exact (Kd.R_reads' HO294.out).2.2 | (with_reducible refine Kd.C_alloc ?_ _) | (with_reducible refine Kd.C_drewN ?_ _) | (with_reducible refine Kd.C_drew ?_)))
        (case side2 => exact (Kd.R_reads' HO294.out).2.1)
        (case side3 => repeat (first | exact (Kd.R_reads' HO297.out).2.2 | (with_reducible refine Kd.C_alloc ?_ _) | (with_reducible refine Kd.C_drewN ?_ _) | (with_reducible refine Kd.C_drew ?_)))
        (case side4 => exact (Kd.R_reads' HO297.out).2.1)
        rintro e w41 ⟨v299, rfl, ho0, hb⟩
        refine ⟨_, rfl, ?_⟩
        have HO300 := Aside0.mk (Kd.R_lower (Kd.R_new' (Kd.R_new' (Kd.R_new' (Kd.R_new' (Kd.R_new' (Kd.R_new' (Kd.R_new' ho0 (Kd.R_lt HO278.out)) (Kd.R_lt HO281.out)) (Kd.R_lt HO284.out)) (Kd.R_lt HO287.out)) (Kd.R_lt HO290.out)) (Kd.R_lt HO294.out)) (Kd.R_lt HO297.out)) (below_size (by repeat (first | (with_reducible first | exact HB.out | apply bA_ | apply bN_ | apply bD_ | refine bS_ ?_ GE275.out | refine bS_ ?_ GE291.out | refine bS_ ?_ GE301.out) | exact HB.out))))
        replace HO278 := Aside0.mk (Kd.R_elder' HO278.out (Kd.R_base ho0) hb)
        replace HO281 := Aside0.mk (Kd.R_elder' HO281.out (Kd.R_base ho0) hb)
        replace HO284 := Aside0.mk (Kd.R_elder' HO284.out (Kd.R_base ho0) hb)
        replace HO287 := Aside0.mk (Kd.R_elder' HO287.out (Kd.R_base ho0) hb)
        replace HO290 := Aside0.mk (Kd.R_elder' HO290.out (Kd.R_base ho0) hb)
        replace HO294 := Aside0.mk (Kd.R_elder' HO294.out (Kd.R_base ho0) hb)
        replace HO297 := Aside0.mk (Kd.R_elder' HO297.out (Kd.R_base ho0) hb)
        replace BK275 := bK_ BK275 hb
        replace BK291 := bK_ BK291 hb
        replace BK301 := bK_ BK301 hb
        replace HB := Aside0.mk (below_step (by repeat (first | (with_reducible first | exact HB.out | apply bA_ | apply bN_ | apply bD_ | refine bS_ ?_ GE275.out | refine bS_ ?_ GE291.out | refine bS_ ?_ GE301.out) | exact HB.out)) hb)
        (try clear hb)
        (try clear hb2)
        (try clear hk)
        (try clear hi)
        (try clear ho0)
        refine hK.out _ _ ⟨(blk_cell BK275.out 0).trans rfl, (blk_cell BK275.out 1).trans rfl⟩ (fun hHeld => ?_)
        clear hK K
        refine norm_ (a' := ?_) ?_ ?_
        rotate_left
        ·show Act.put _ (some 37) _ = _
         simp only [Act.put, sT_, sZ_, sS_, i64_w, i32_w]
         rfl
        exact norm_ (by simp only [putAll, Act.put, sT_, sZ_, sS_]) (hCont (.slice Ao39 t292.length co39, .slice Ao40 t295.length co40, v299, gb301) _ ⟨hHeld, (by (with_reducible repeat (first | apply Kd.R_alloc | apply Kd.R_drewN | apply Kd.R_drew)); exact Kd.R_mono HO278.out (fun _ hk => (And.intro (hk.1.1.1.1) ((And.intro (hk.1.1.1.2.1) ((And.intro (hk.1.1.1.2.2.1) ((And.intro (hk.1.1.1.2.2.2) ((And.intro (hk.1.1.2) ((And.intro (hk.1.2) (hk.2)))))))))))))), (by (with_reducible repeat (first | apply Kd.R_alloc | apply Kd.R_drewN | apply Kd.R_drew)); exact Kd.R_mono HO281.out (fun _ hk => (And.intro (hk.1.1.1.1) ((And.intro (hk.1.1.1.2.1) ((And.intro (hk.1.1.1.2.2.1) ((And.intro (hk.1.1.1.2.2.2) ((And.intro (hk.1.1.2) ((And.intro (hk.1.2) (hk.2)))))))))))))), (by (with_reducible repeat (first | apply Kd.R_alloc | apply Kd.R_drewN | apply Kd.R_drew)); exact Kd.R_mono HO284.out (fun _ hk => (And.intro (hk.1.1.1.1) ((And.intro (hk.1.1.1.2.1) ((And.intro (hk.1.1.1.2.2.1) ((And.intro (hk.1.1.1.2.2.2) ((And.intro (hk.1.1.2) ((And.intro (hk.1.2) (hk.2)))))))))))))), (by (with_reducible repeat (first | apply Kd.R_alloc | apply Kd.R_drewN | apply Kd.R_drew)); exact Kd.R_mono HO287.out (fun _ hk => (And.intro (hk.1.1.1.1) ((And.intro (hk.1.1.1.2.1) ((And.intro (hk.1.1.1.2.2.1) ((And.intro (hk.1.1.1.2.2.2) ((And.intro (hk.1.1.2) ((And.intro (hk.1.2) (hk.2)))))))))))))), (by (with_reducible repeat (first | apply Kd.R_alloc | apply Kd.R_drewN | apply Kd.R_drew)); exact Kd.R_mono HO290.out (fun _ hk => (And.intro (hk.1.1.1.1) ((And.intro (hk.1.1.1.2.1) ((And.intro (hk.1.1.1.2.2.1) ((And.intro (hk.1.1.1.2.2.2) ((And.intro (hk.1.1.2) ((And.intro (hk.1.2) (hk.2)))))))))))))), (by (with_reducible repeat (first | apply Kd.R_alloc | apply Kd.R_drewN | apply Kd.R_drew)); exact Kd.R_mono HO294.out (fun _ hk => (And.intro (hk.1.1.1.1.1.1.2) ((And.intro (hk.1.1.1.1.1.2) ((And.intro (hk.1.1.1.1.2) ((And.intro (hk.1.1.1.2) ((And.intro (hk.1.1.2) ((And.intro (hk.1.2) (hk.2)))))))))))))), (by (with_reducible repeat (first | apply Kd.R_alloc | apply Kd.R_drewN | apply Kd.R_drew)); exact Kd.R_mono HO297.out (fun _ hk => (And.intro (hk.1.1.1.1.1.1.2) ((And.intro (hk.1.1.1.1.1.2) ((And.intro (hk.1.1.1.1.2) ((And.intro (hk.1.1.1.2) ((And.intro (hk.1.1.2) ((And.intro (hk.1.2) (hk.2)))))))))))))), (by (with_reducible repeat (first | apply Kd.R_alloc | apply Kd.R_drewN | apply Kd.R_drew)); exact Kd.R_mono HO300.out (fun _ hk => (And.intro (hk.1.1.1.1.1.1.2) ((And.intro (hk.1.1.1.1.1.2) ((And.intro (hk.1.1.1.1.2) ((And.intro (hk.1.1.1.2) ((And.intro (hk.1.1.2) ((And.intro (hk.1.2) (hk.2)))))))))))))), BK275.out, BK291.out, BK301.out, GW301.out, GE301.out, NB275_301.out, NB301_275.out, NB291_301.out, NB301_291.out, (by repeat (first | (with_reducible first | exact HB.out | apply bA_ | apply bN_ | apply bD_ | refine bS_ ?_ GE275.out | refine bS_ ?_ GE291.out | refine bS_ ?_ GE301.out) | exact HB.out))⟩)
      ·skip
       refine box_step ?hg (N := 11) ?hd (cs := #[.slice none 0 0]) (t := 61) ?hr ?_; (case hd => rfl); (case hg => rfl); (case hr => first | (go_simp; done) | (go_simp; rfl))
       intro gb301 hg w37 hbox hb
       replace HO278 := Aside0.mk (Kd.R_below HO278.out hb)
       replace HO281 := Aside0.mk (Kd.R_below HO281.out hb)
       replace HO284 := Aside0.mk (Kd.R_below HO284.out hb)
       replace HO287 := Aside0.mk (Kd.R_below HO287.out hb)
       replace HO290 := Aside0.mk (Kd.R_below HO290.out hb)
       replace HO294 := Aside0.mk (Kd.R_below HO294.out hb)
       have BK301 := Aside0.mk (hbox)
       have GW301 := Aside0.mk ((by rw [hg]; exact (below_size (by repeat (first | (with_reducible first | exact HB.out | apply bA_ | apply bN_ | apply bD_ | refine bS_ ?_ GE275.out | refine bS_ ?_ GE291.out) | exact HB.out))) : w.heap.size ≤ gb301))
       have GE301 := GW301
       replace HB := Aside0.mk (below_step (by repeat (first | (with_reducible first | exact HB.out | apply bA_ | apply bN_ | apply bD_ | refine bS_ ?_ GE275.out | refine bS_ ?_ GE291.out) | exact HB.out)) hb)
       have NB275_301 := Aside0.mk ((by rw [hg]; exact Nat.ne_of_lt (blk_lt BK275.out) : gb275 ≠ gb301))
       have NB301_275 := Aside0.mk NB275_301.out.symm
       replace BK275 := bK_ BK275 hb
       have NB291_301 := Aside0.mk ((by rw [hg]; exact Nat.ne_of_lt (blk_lt BK291.out) : gb291 ≠ gb301))
       have NB301_291 := Aside0.mk NB291_301.out.symm
       replace BK291 := bK_ BK291 hb
       clear hb hbox hg
       refine hK.out _ _ ⟨(blk_cell BK275.out 0).trans rfl, (blk_cell BK275.out 1).trans rfl⟩ (fun hHeld => ?_)
       clear hK K
       refine norm_ (a' := ?_) ?_ ?_
       rotate_left
       ·show Act.put _ (some 11) _ = _
        simp only [Act.put, sT_, sZ_, sS_, i64_w, i32_w]
        rfl
       refine one_ (i := 4) (N := some 36) (demurrageref03_Part.ups 8 95) rfl rfl (one_of HT_.out (by kernel_rfl)) (by decide) (fun K hK => ?_)
       refine goes_ Try.func30 (by kernel_rfl) rfl #[.int .i64 a2_1] (by rfl) rfl rfl (by (try simp only [List.map_toArray, List.map_cons, List.map_nil]); first | done | rfl) ?_
       with_reducible refine (demurrageref01_From.calls kj4 a2_1 t295 _ A16.out).mono ?_
       rintro e w38 ⟨v296, rfl, ho0, hb⟩
       refine ⟨_, rfl, ?_⟩
       have HO297 := Aside0.mk (Kd.R_lower (Kd.R_new' (Kd.R_new' (Kd.R_new' (Kd.R_new' (Kd.R_new' (Kd.R_new' ho0 (Kd.R_lt HO278.out)) (Kd.R_lt HO281.out)) (Kd.R_lt HO284.out)) (Kd.R_lt HO287.out)) (Kd.R_lt HO290.out)) (Kd.R_lt HO294.out)) (below_size (by repeat (first | (with_reducible first | exact HB.out | apply bA_ | apply bN_ | apply bD_ | refine bS_ ?_ GE275.out | refine bS_ ?_ GE291.out | refine bS_ ?_ GE301.out) | exact HB.out))))
       replace HO278 := Aside0.mk (Kd.R_elder' HO278.out (Kd.R_base ho0) hb)
       replace HO281 := Aside0.mk (Kd.R_elder' HO281.out (Kd.R_base ho0) hb)
       replace HO284 := Aside0.mk (Kd.R_elder' HO284.out (Kd.R_base ho0) hb)
       replace HO287 := Aside0.mk (Kd.R_elder' HO287.out (Kd.R_base ho0) hb)
       replace HO290 := Aside0.mk (Kd.R_elder' HO290.out (Kd.R_base ho0) hb)
       replace HO294 := Aside0.mk (Kd.R_elder' HO294.out (Kd.R_base ho0) hb)
       replace BK275 := bK_ BK275 hb
       replace BK291 := bK_ BK291 hb
       replace BK301 := bK_ BK301 hb
       replace HB := Aside0.mk (below_step (by repeat (first | (with_reducible first | exact HB.out | apply bA_ | apply bN_ | apply bD_ | refine bS_ ?_ GE275.out | refine bS_ ?_ GE291.out | refine bS_ ?_ GE301.out) | exact HB.out)) hb)
       (try clear hb)
       (try clear hb2)
       (try clear hk)
       (try clear hi)
       (try clear ho0)
       obtain ⟨Ao39, co39, eo39⟩ := Kd.R_slice HO294.out
       (first | subst eo39 | (injection eo39 with f1_ f2_ f3_; have f4_ := f1_.symm; have f5_ := f3_.symm; clear f1_ f2_ f3_; subst f4_; subst f5_))
       obtain ⟨Ao40, co40, eo40⟩ := Kd.R_slice HO297.out
       (first | subst eo40 | (injection eo40 with f1_ f2_ f3_; have f4_ := f1_.symm; have f5_ := f3_.symm; clear f1_ f2_ f3_; subst f4_; subst f5_))
       refine hK.out _ _ ⟨(blk_cell BK275.out 0).trans rfl, (blk_cell BK275.out 1).trans rfl⟩ (fun hHeld => ?_)
       clear hK K
       refine norm_ (a' := ?_) ?_ ?_
       rotate_left
       ·show Act.put _ (some 36) _ = _
        simp only [Act.put, sT_, sZ_, sS_, i64_w, i32_w]
        rfl
       refine one_ (i := 5) (N := some 37) (demurrageref03_Part.ups 8 127) rfl rfl (one_of HT_.out (by kernel_rfl)) (by decide) (fun K hK => ?_)
       refine goes_ Try.func29 (by kernel_rfl) rfl #[.agg #[.slice Ao39 t292.length co39], .agg #[.slice Ao40 t295.length co40]] (by rfl) rfl rfl (by (try simp only [List.map_toArray, List.map_cons, List.map_nil]); first | done | rfl) ?_
       with_reducible refine (demurrageref01_Prod.calls kj4 _ _ t292 _ _ t295 t298 _ ?side1 ?side2 ?side3 ?side4 A17.out).mono ?_
       (case side1 => repeat (first | exact (Kd.R_reads' HO294.out).2.2 | (with_reducible refine Kd.C_alloc ?_ _) | (with_reducible refine Kd.C_drewN ?_ _) | (with_reducible refine Kd.C_drew ?_)))
       (case side2 => exact (Kd.R_reads' HO294.out).2.1)
       (case side3 => repeat (first | exact (Kd.R_reads' HO297.out).2.2 | (with_reducible refine Kd.C_alloc ?_ _) | (with_reducible refine Kd.C_drewN ?_ _) | (with_reducible refine Kd.C_drew ?_)))
       (case side4 => exact (Kd.R_reads' HO297.out).2.1)
       rintro e w41 ⟨v299, rfl, ho0, hb⟩
       refine ⟨_, rfl, ?_⟩
       have HO300 := Aside0.mk (Kd.R_lower (Kd.R_new' (Kd.R_new' (Kd.R_new' (Kd.R_new' (Kd.R_new' (Kd.R_new' (Kd.R_new' ho0 (Kd.R_lt HO278.out)) (Kd.R_lt HO281.out)) (Kd.R_lt HO284.out)) (Kd.R_lt HO287.out)) (Kd.R_lt HO290.out)) (Kd.R_lt HO294.out)) (Kd.R_lt HO297.out)) (below_size (by repeat (first | (with_reducible first | exact HB.out | apply bA_ | apply bN_ | apply bD_ | refine bS_ ?_ GE275.out | refine bS_ ?_ GE291.out | refine bS_ ?_ GE301.out) | exact HB.out))))
       replace HO278 := Aside0.mk (Kd.R_elder' HO278.out (Kd.R_base ho0) hb)
       replace HO281 := Aside0.mk (Kd.R_elder' HO281.out (Kd.R_base ho0) hb)
       replace HO284 := Aside0.mk (Kd.R_elder' HO284.out (Kd.R_base ho0) hb)
       replace HO287 := Aside0.mk (Kd.R_elder' HO287.out (Kd.R_base ho0) hb)
       replace HO290 := Aside0.mk (Kd.R_elder' HO290.out (Kd.R_base ho0) hb)
       replace HO294 := Aside0.mk (Kd.R_elder' HO294.out (Kd.R_base ho0) hb)
       replace HO297 := Aside0.mk (Kd.R_elder' HO297.out (Kd.R_base ho0) hb)
       replace BK275 := bK_ BK275 hb
       replace BK291 := bK_ BK291 hb
       replace BK301 := bK_ BK301 hb
       replace HB := Aside0.mk (below_step (by repeat (first | (with_reducible first | exact HB.out | apply bA_ | apply bN_ | apply bD_ | refine bS_ ?_ GE275.out | refine bS_ ?_ GE291.out | refine bS_ ?_ GE301.out) | exact HB.out)) hb)
       (try clear hb)
       (try clear hb2)
       (try clear hk)
       (try clear hi)
       (try clear ho0)
       refine hK.out _ _ ⟨(blk_cell BK275.out 0).trans rfl, (blk_cell BK275.out 1).trans rfl⟩ (fun hHeld => ?_)
       clear hK K
       refine norm_ (a' := ?_) ?_ ?_
       rotate_left
       ·show Act.put _ (some 37) _ = _
        simp only [Act.put, sT_, sZ_, sS_, i64_w, i32_w]
        rfl
       exact norm_ (by simp only [putAll, Act.put, sT_, sZ_, sS_]) (hCont (.slice Ao39 t292.length co39, .slice Ao40 t295.length co40, v299, gb301) _ ⟨hHeld, (by (with_reducible repeat (first | apply Kd.R_alloc | apply Kd.R_drewN | apply Kd.R_drew)); exact Kd.R_mono HO278.out (fun _ hk => (And.intro (hk.1.1.1.1) ((And.intro (hk.1.1.1.2.1) ((And.intro (hk.1.1.1.2.2.1) ((And.intro (hk.1.1.1.2.2.2) ((And.intro (hk.1.1.2) ((And.intro (hk.1.2) (hk.2)))))))))))))), (by (with_reducible repeat (first | apply Kd.R_alloc | apply Kd.R_drewN | apply Kd.R_drew)); exact Kd.R_mono HO281.out (fun _ hk => (And.intro (hk.1.1.1.1) ((And.intro (hk.1.1.1.2.1) ((And.intro (hk.1.1.1.2.2.1) ((And.intro (hk.1.1.1.2.2.2) ((And.intro (hk.1.1.2) ((And.intro (hk.1.2) (hk.2)))))))))))))), (by (with_reducible repeat (first | apply Kd.R_alloc | apply Kd.R_drewN | apply Kd.R_drew)); exact Kd.R_mono HO284.out (fun _ hk => (And.intro (hk.1.1.1.1) ((And.intro (hk.1.1.1.2.1) ((And.intro (hk.1.1.1.2.2.1) ((And.intro (hk.1.1.1.2.2.2) ((And.intro (hk.1.1.2) ((And.intro (hk.1.2) (hk.2)))))))))))))), (by (with_reducible repeat (first | apply Kd.R_alloc | apply Kd.R_drewN | apply Kd.R_drew)); exact Kd.R_mono HO287.out (fun _ hk => (And.intro (hk.1.1.1.1) ((And.intro (hk.1.1.1.2.1) ((And.intro (hk.1.1.1.2.2.1) ((And.intro (hk.1.1.1.2.2.2) ((And.intro (hk.1.1.2) ((And.intro (hk.1.2) (hk.2)))))))))))))), (by (with_reducible repeat (first | apply Kd.R_alloc | apply Kd.R_drewN | apply Kd.R_drew)); exact Kd.R_mono HO290.out (fun _ hk => (And.intro (hk.1.1.1.1) ((And.intro (hk.1.1.1.2.1) ((And.intro (hk.1.1.1.2.2.1) ((And.intro (hk.1.1.1.2.2.2) ((And.intro (hk.1.1.2) ((And.intro (hk.1.2) (hk.2)))))))))))))), (by (with_reducible repeat (first | apply Kd.R_alloc | apply Kd.R_drewN | apply Kd.R_drew)); exact Kd.R_mono HO294.out (fun _ hk => (And.intro (hk.1.1.1.1.1.1.2) ((And.intro (hk.1.1.1.1.1.2) ((And.intro (hk.1.1.1.1.2) ((And.intro (hk.1.1.1.2) ((And.intro (hk.1.1.2) ((And.intro (hk.1.2) (hk.2)))))))))))))), (by (with_reducible repeat (first | apply Kd.R_alloc | apply Kd.R_drewN | apply Kd.R_drew)); exact Kd.R_mono HO297.out (fun _ hk => (And.intro (hk.1.1.1.1.1.1.2) ((And.intro (hk.1.1.1.1.1.2) ((And.intro (hk.1.1.1.1.2) ((And.intro (hk.1.1.1.2) ((And.intro (hk.1.1.2) ((And.intro (hk.1.2) (hk.2)))))))))))))), (by (with_reducible repeat (first | apply Kd.R_alloc | apply Kd.R_drewN | apply Kd.R_drew)); exact Kd.R_mono HO300.out (fun _ hk => (And.intro (hk.1.1.1.1.1.1.2) ((And.intro (hk.1.1.1.1.1.2) ((And.intro (hk.1.1.1.1.2) ((And.intro (hk.1.1.1.2) ((And.intro (hk.1.1.2) ((And.intro (hk.1.2) (hk.2)))))))))))))), BK275.out, BK291.out, BK301.out, GW301.out, GE301.out, NB275_301.out, NB301_275.out, NB291_301.out, NB301_291.out, (by repeat (first | (with_reducible first | exact HB.out | apply bA_ | apply bN_ | apply bD_ | refine bS_ ?_ GE275.out | refine bS_ ?_ GE291.out | refine bS_ ?_ GE301.out) | exact HB.out))⟩)
     ·skip
      refine box_step ?hg (N := 11) ?hd (cs := #[.slice none 0 0]) (t := 61) ?hr ?_; (case hd => rfl); (case hg => rfl); (case hr => first | (go_simp; done) | (go_simp; rfl))
      intro gb301 hg w36 hbox hb
      replace HO278 := Aside0.mk (Kd.R_below HO278.out hb)
      replace HO281 := Aside0.mk (Kd.R_below HO281.out hb)
      replace HO284 := Aside0.mk (Kd.R_below HO284.out hb)
      replace HO287 := Aside0.mk (Kd.R_below HO287.out hb)
      replace HO290 := Aside0.mk (Kd.R_below HO290.out hb)
      have BK301 := Aside0.mk (hbox)
      have GW301 := Aside0.mk ((by rw [hg]; exact (below_size (by repeat (first | (with_reducible first | exact HB.out | apply bA_ | apply bN_ | apply bD_ | refine bS_ ?_ GE275.out | refine bS_ ?_ GE291.out) | exact HB.out))) : w.heap.size ≤ gb301))
      have GE301 := GW301
      replace HB := Aside0.mk (below_step (by repeat (first | (with_reducible first | exact HB.out | apply bA_ | apply bN_ | apply bD_ | refine bS_ ?_ GE275.out | refine bS_ ?_ GE291.out) | exact HB.out)) hb)
      have NB275_301 := Aside0.mk ((by rw [hg]; exact Nat.ne_of_lt (blk_lt BK275.out) : gb275 ≠ gb301))
      have NB301_275 := Aside0.mk NB275_301.out.symm
      replace BK275 := bK_ BK275 hb
      have NB291_301 := Aside0.mk ((by rw [hg]; exact Nat.ne_of_lt (blk_lt BK291.out) : gb291 ≠ gb301))
      have NB301_291 := Aside0.mk NB291_301.out.symm
      replace BK291 := bK_ BK291 hb
      clear hb hbox hg
      refine hK.out _ _ ⟨(blk_cell BK275.out 0).trans rfl, (blk_cell BK275.out 1).trans rfl⟩ (fun hHeld => ?_)
      clear hK K
      refine norm_ (a' := ?_) ?_ ?_
      rotate_left
      ·show Act.put _ (some 11) _ = _
       simp only [Act.put, sT_, sZ_, sS_, i64_w, i32_w]
       rfl
      refine one_ (i := 1) (N := some 33) (demurrageref03_Part.ups 8 79) rfl rfl (one_of HT_.out (by kernel_rfl)) (by decide) (fun K hK => ?_)
      refine goes_ Try.func30 (by kernel_rfl) rfl #[.int .i64 a3] (by rfl) rfl rfl (by (try simp only [List.map_toArray, List.map_cons, List.map_nil]); first | done | rfl) ?_
      with_reducible refine (demurrageref01_From.calls kj4 a3 t292 _ A15.out).mono ?_
      rintro e w37 ⟨v293, rfl, ho0, hb⟩
      refine ⟨_, rfl, ?_⟩
      have HO294 := Aside0.mk (Kd.R_lower (Kd.R_new' (Kd.R_new' (Kd.R_new' (Kd.R_new' (Kd.R_new' ho0 (Kd.R_lt HO278.out)) (Kd.R_lt HO281.out)) (Kd.R_lt HO284.out)) (Kd.R_lt HO287.out)) (Kd.R_lt HO290.out)) (below_size (by repeat (first | (with_reducible first | exact HB.out | apply bA_ | apply bN_ | apply bD_ | refine bS_ ?_ GE275.out | refine bS_ ?_ GE291.out | refine bS_ ?_ GE301.out) | exact HB.out))))
      replace HO278 := Aside0.mk (Kd.R_elder' HO278.out (Kd.R_base ho0) hb)
      replace HO281 := Aside0.mk (Kd.R_elder' HO281.out (Kd.R_base ho0) hb)
      replace HO284 := Aside0.mk (Kd.R_elder' HO284.out (Kd.R_base ho0) hb)
      replace HO287 := Aside0.mk (Kd.R_elder' HO287.out (Kd.R_base ho0) hb)
      replace HO290 := Aside0.mk (Kd.R_elder' HO290.out (Kd.R_base ho0) hb)
      replace BK275 := bK_ BK275 hb
      replace BK291 := bK_ BK291 hb
      replace BK301 := bK_ BK301 hb
      replace HB := Aside0.mk (below_step (by repeat (first | (with_reducible first | exact HB.out | apply bA_ | apply bN_ | apply bD_ | refine bS_ ?_ GE275.out | refine bS_ ?_ GE291.out | refine bS_ ?_ GE301.out) | exact HB.out)) hb)
      (try clear hb)
      (try clear hb2)
      (try clear hk)
      (try clear hi)
      (try clear ho0)
      refine hK.out _ _ ⟨(blk_cell BK275.out 0).trans rfl, (blk_cell BK275.out 1).trans rfl⟩ (fun hHeld => ?_)
      clear hK K
      refine norm_ (a' := ?_) ?_ ?_
      rotate_left
      ·show Act.put _ (some 33) _ = _
       simp only [Act.put, sT_, sZ_, sS_, i64_w, i32_w]
       rfl
      refine one_ (i := 4) (N := some 36) (demurrageref03_Part.ups 8 95) rfl rfl (one_of HT_.out (by kernel_rfl)) (by decide) (fun K hK => ?_)
      refine goes_ Try.func30 (by kernel_rfl) rfl #[.int .i64 a2_1] (by rfl) rfl rfl (by (try simp only [List.map_toArray, List.map_cons, List.map_nil]); first | done | rfl) ?_
      with_reducible refine (demurrageref01_From.calls kj4 a2_1 t295 _ A16.out).mono ?_
      rintro e w38 ⟨v296, rfl, ho0, hb⟩
      refine ⟨_, rfl, ?_⟩
      have HO297 := Aside0.mk (Kd.R_lower (Kd.R_new' (Kd.R_new' (Kd.R_new' (Kd.R_new' (Kd.R_new' (Kd.R_new' ho0 (Kd.R_lt HO278.out)) (Kd.R_lt HO281.out)) (Kd.R_lt HO284.out)) (Kd.R_lt HO287.out)) (Kd.R_lt HO290.out)) (Kd.R_lt HO294.out)) (below_size (by repeat (first | (with_reducible first | exact HB.out | apply bA_ | apply bN_ | apply bD_ | refine bS_ ?_ GE275.out | refine bS_ ?_ GE291.out | refine bS_ ?_ GE301.out) | exact HB.out))))
      replace HO278 := Aside0.mk (Kd.R_elder' HO278.out (Kd.R_base ho0) hb)
      replace HO281 := Aside0.mk (Kd.R_elder' HO281.out (Kd.R_base ho0) hb)
      replace HO284 := Aside0.mk (Kd.R_elder' HO284.out (Kd.R_base ho0) hb)
      replace HO287 := Aside0.mk (Kd.R_elder' HO287.out (Kd.R_base ho0) hb)
      replace HO290 := Aside0.mk (Kd.R_elder' HO290.out (Kd.R_base ho0) hb)
      replace HO294 := Aside0.mk (Kd.R_elder' HO294.out (Kd.R_base ho0) hb)
      replace BK275 := bK_ BK275 hb
      replace BK291 := bK_ BK291 hb
      replace BK301 := bK_ BK301 hb
      replace HB := Aside0.mk (below_step (by repeat (first | (with_reducible first | exact HB.out | apply bA_ | apply bN_ | apply bD_ | refine bS_ ?_ GE275.out | refine bS_ ?_ GE291.out | refine bS_ ?_ GE301.out) | exact HB.out)) hb)
      (try clear hb)
      (try clear hb2)
      (try clear hk)
      (try clear hi)
      (try clear ho0)
      obtain ⟨Ao39, co39, eo39⟩ := Kd.R_slice HO294.out
      (first | subst eo39 | (injection eo39 with f1_ f2_ f3_; have f4_ := f1_.symm; have f5_ := f3_.symm; clear f1_ f2_ f3_; subst f4_; subst f5_))
      obtain ⟨Ao40, co40, eo40⟩ := Kd.R_slice HO297.out
      (first | subst eo40 | (injection eo40 with f1_ f2_ f3_; have f4_ := f1_.symm; have f5_ := f3_.symm; clear f1_ f2_ f3_; subst f4_; subst f5_))
      refine hK.out _ _ ⟨(blk_cell BK275.out 0).trans rfl, (blk_cell BK275.out 1).trans rfl⟩ (fun hHeld => ?_)
      clear hK K
      refine norm_ (a' := ?_) ?_ ?_
      rotate_left
      ·show Act.put _ (some 36) _ = _
       simp only [Act.put, sT_, sZ_, sS_, i64_w, i32_w]
       rfl
      refine one_ (i := 5) (N := some 37) (demurrageref03_Part.ups 8 127) rfl rfl (one_of HT_.out (by kernel_rfl)) (by decide) (fun K hK => ?_)
      refine goes_ Try.func29 (by kernel_rfl) rfl #[.agg #[.slice Ao39 t292.length co39], .agg #[.slice Ao40 t295.length co40]] (by rfl) rfl rfl (by (try simp only [List.map_toArray, List.map_cons, List.map_nil]); first | done | rfl) ?_
      with_reducible refine (demurrageref01_Prod.calls kj4 _ _ t292 _ _ t295 t298 _ ?side1 ?side2 ?side3 ?side4 A17.out).mono ?_
      (case side1 => repeat (first | exact (Kd.R_reads' HO294.out).2.2 | (with_reducible refine Kd.C_alloc ?_ _) | (with_reducible refine Kd.C_drewN ?_ _) | (with_reducible refine Kd.C_drew ?_)))
      (case side2 => exact (Kd.R_reads' HO294.out).2.1)
      (case side3 => repeat (first | exact (Kd.R_reads' HO297.out).2.2 | (with_reducible refine Kd.C_alloc ?_ _) | (with_reducible refine Kd.C_drewN ?_ _) | (with_reducible refine Kd.C_drew ?_)))
      (case side4 => exact (Kd.R_reads' HO297.out).2.1)
      rintro e w41 ⟨v299, rfl, ho0, hb⟩
      refine ⟨_, rfl, ?_⟩
      have HO300 := Aside0.mk (Kd.R_lower (Kd.R_new' (Kd.R_new' (Kd.R_new' (Kd.R_new' (Kd.R_new' (Kd.R_new' (Kd.R_new' ho0 (Kd.R_lt HO278.out)) (Kd.R_lt HO281.out)) (Kd.R_lt HO284.out)) (Kd.R_lt HO287.out)) (Kd.R_lt HO290.out)) (Kd.R_lt HO294.out)) (Kd.R_lt HO297.out)) (below_size (by repeat (first | (with_reducible first | exact HB.out | apply bA_ | apply bN_ | apply bD_ | refine bS_ ?_ GE275.out | refine bS_ ?_ GE291.out | refine bS_ ?_ GE301.out) | exact HB.out))))
      replace HO278 := Aside0.mk (Kd.R_elder' HO278.out (Kd.R_base ho0) hb)
      replace HO281 := Aside0.mk (Kd.R_elder' HO281.out (Kd.R_base ho0) hb)
      replace HO284 := Aside0.mk (Kd.R_elder' HO284.out (Kd.R_base ho0) hb)
      replace HO287 := Aside0.mk (Kd.R_elder' HO287.out (Kd.R_base ho0) hb)
      replace HO290 := Aside0.mk (Kd.R_elder' HO290.out (Kd.R_base ho0) hb)
      replace HO294 := Aside0.mk (Kd.R_elder' HO294.out (Kd.R_base ho0) hb)
      replace HO297 := Aside0.mk (Kd.R_elder' HO297.out (Kd.R_base ho0) hb)
      replace BK275 := bK_ BK275 hb
      replace BK291 := bK_ BK291 hb
      replace BK301 := bK_ BK301 hb
      replace HB := Aside0.mk (below_step (by repeat (first | (with_reducible first | exact HB.out | apply bA_ | apply bN_ | apply bD_ | refine bS_ ?_ GE275.out | refine bS_ ?_ GE291.out | refine bS_ ?_ GE301.out) | exact HB.out)) hb)
      (try clear hb)
      (try clear hb2)
      (try clear hk)
      (try clear hi)
      (try clear ho0)
      refine hK.out _ _ ⟨(blk_cell BK275.out 0).trans rfl, (blk_cell BK275.out 1).trans rfl⟩ (fun hHeld => ?_)
      clear hK K
      refine norm_ (a' := ?_) ?_ ?_
      rotate_left
      ·show Act.put _ (some 37) _ = _
       simp only [Act.put, sT_, sZ_, sS_, i64_w, i32_w]
       rfl
      exact norm_ (by simp only [putAll, Act.put, sT_, sZ_, sS_]) (hCont (.slice Ao39 t292.length co39, .slice Ao40 t295.length co40, v299, gb301) _ ⟨hHeld, (by (with_reducible repeat (first | apply Kd.R_alloc | apply Kd.R_drewN | apply Kd.R_drew)); exact Kd.R_mono HO278.out (fun _ hk => (And.intro (hk.1.1.1.1) ((And.intro (hk.1.1.1.2.1) ((And.intro (hk.1.1.1.2.2.1) ((And.intro (hk.1.1.1.2.2.2) ((And.intro (hk.1.1.2) ((And.intro (hk.1.2) (hk.2)))))))))))))), (by (with_reducible repeat (first | apply Kd.R_alloc | apply Kd.R_drewN | apply Kd.R_drew)); exact Kd.R_mono HO281.out (fun _ hk => (And.intro (hk.1.1.1.1) ((And.intro (hk.1.1.1.2.1) ((And.intro (hk.1.1.1.2.2.1) ((And.intro (hk.1.1.1.2.2.2) ((And.intro (hk.1.1.2) ((And.intro (hk.1.2) (hk.2)))))))))))))), (by (with_reducible repeat (first | apply Kd.R_alloc | apply Kd.R_drewN | apply Kd.R_drew)); exact Kd.R_mono HO284.out (fun _ hk => (And.intro (hk.1.1.1.1) ((And.intro (hk.1.1.1.2.1) ((And.intro (hk.1.1.1.2.2.1) ((And.intro (hk.1.1.1.2.2.2) ((And.intro (hk.1.1.2) ((And.intro (hk.1.2) (hk.2)))))))))))))), (by (with_reducible repeat (first | apply Kd.R_alloc | apply Kd.R_drewN | apply Kd.R_drew)); exact Kd.R_mono HO287.out (fun _ hk => (And.intro (hk.1.1.1.1) ((And.intro (hk.1.1.1.2.1) ((And.intro (hk.1.1.1.2.2.1) ((And.intro (hk.1.1.1.2.2.2) ((And.intro (hk.1.1.2) ((And.intro (hk.1.2) (hk.2)))))))))))))), (by (with_reducible repeat (first | apply Kd.R_alloc | apply Kd.R_drewN | apply Kd.R_drew)); exact Kd.R_mono HO290.out (fun _ hk => (And.intro (hk.1.1.1.1) ((And.intro (hk.1.1.1.2.1) ((And.intro (hk.1.1.1.2.2.1) ((And.intro (hk.1.1.1.2.2.2) ((And.intro (hk.1.1.2) ((And.intro (hk.1.2) (hk.2)))))))))))))), (by (with_reducible repeat (first | apply Kd.R_alloc | apply Kd.R_drewN | apply Kd.R_drew)); exact Kd.R_mono HO294.out (fun _ hk => (And.intro (hk.1.1.1.1.1.1.2) ((And.intro (hk.1.1.1.1.1.2) ((And.intro (hk.1.1.1.1.2) ((And.intro (hk.1.1.1.2) ((And.intro (hk.1.1.2) ((And.intro (hk.1.2) (hk.2)))))))))))))), (by (with_reducible repeat (first | apply Kd.R_alloc | apply Kd.R_drewN | apply Kd.R_drew)); exact Kd.R_mono HO297.out (fun _ hk => (And.intro (hk.1.1.1.1.1.1.2) ((And.intro (hk.1.1.1.1.1.2) ((And.intro (hk.1.1.1.1.2) ((And.intro (hk.1.1.1.2) ((And.intro (hk.1.1.2) ((And.intro (hk.1.2) (hk.2)))))))))))))), (by (with_reducible repeat (first | apply Kd.R_alloc | apply Kd.R_drewN | apply Kd.R_drew)); exact Kd.R_mono HO300.out (fun _ hk => (And.intro (hk.1.1.1.1.1.1.2) ((And.intro (hk.1.1.1.1.1.2) ((And.intro (hk.1.1.1.1.2) ((And.intro (hk.1.1.1.2) ((And.intro (hk.1.1.2) ((And.intro (hk.1.2) (hk.2)))))))))))))), BK275.out, BK291.out, BK301.out, GW301.out, GE301.out, NB275_301.out, NB301_275.out, NB291_301.out, NB301_291.out, (by repeat (first | (with_reducible first | exact HB.out | apply bA_ | apply bN_ | apply bD_ | refine bS_ ?_ GE275.out | refine bS_ ?_ GE291.out | refine bS_ ?_ GE301.out) | exact HB.out))⟩)
    rintro ⟨v293, v296, v299, gb301⟩ w42 ⟨hS_, h0_, h1_, h2_, h3_, h4_, h5_, h6_, h7_, h8_, h9_, h10_, h11_, h12_, h13_, h14_, h15_, h16_, h17_⟩
    (try dsimp only at h0_ h1_ h2_ h3_ h4_ h5_ h6_ h7_ h8_ h9_ h10_ h11_ h12_ h13_ h14_ h15_ h16_ h17_)
    clear HO278 HO281 HO284 HO287 HO290 BK275 BK291 HB
    have HO278 := Aside0.mk h0_
    have HO281 := Aside0.mk h1_
    have HO284 := Aside0.mk h2_
    have HO287 := Aside0.mk h3_
    have HO290 := Aside0.mk h4_
    have HO294 := Aside0.mk h5_
    have HO297 := Aside0.mk h6_
    have HO300 := Aside0.mk h7_
    have BK275 := Aside0.mk h8_
    have BK291 := Aside0.mk h9_
    have BK301 := Aside0.mk h10_
    have GW301 := Aside0.mk h11_
    have GE301 := Aside0.mk h12_
    have NB275_301 := Aside0.mk h13_
    have NB301_275 := Aside0.mk h14_
    have NB291_301 := Aside0.mk h15_
    have NB301_291 := Aside0.mk h16_
    have HB := Aside0.mk h17_
    clear h0_ h1_ h2_ h3_ h4_ h5_ h6_ h7_ h8_ h9_ h10_ h11_ h12_ h13_ h14_ h15_ h16_ h17_
    have hHeld : w42.cell? ⟨gb275, 0, none⟩ = some (.int .i64 a2_0) ∧ w42.cell? ⟨gb275, 1, none⟩ = some (.int .i64 a2_1) := hS_
    obtain ⟨Ao43, co43, eo43⟩ := Kd.R_slice HO300.out
    (first | subst eo43 | (injection eo43 with f1_ f2_ f3_; have f4_ := f1_.symm; have f5_ := f3_.symm; clear f1_ f2_ f3_; subst f4_; subst f5_))
    refine norm_ (a' := ?_) ?_ ?_
    rotate_left
    ·simp only [putAll, Act.put, sT_, sZ_, sS_]
     rfl
    refine one_ (i := 7) (N := none) (demurrageref03_Part.ups 8 255) rfl rfl (one_of HT_.out (by kernel_rfl)) (by decide) (fun K hK => ?_)
    have hs44 : w42.cell? ⟨gb301, 0, none⟩ = some (.slice none 0 0) := (blk_cell BK301.out 0).trans rfl
    have hfs44 := blk_frozen BK301.out 0
    have hns44_0 := NB275_301.out
    have hns44_1 := NB291_301.out
    have hms44_0 := NB301_275.out
    have hms44_1 := NB301_291.out
    refine skip_ (w1 := ?_) (by rfl) rfl ?_ ?_
    rotate_left
    ·go_simp
     rfl
    refine hK.out _ _ ⟨((cell_far (p := ⟨gb301, _, none⟩) NB275_301.out _).trans (hHeld.1)), ((cell_far (p := ⟨gb301, _, none⟩) NB275_301.out _).trans (hHeld.2))⟩ (fun hHeld => ?_)
    clear hK K
    refine done_ (done_of HT_.out (by kernel_rfl)) ?_
    go_upto_region 6 with (first | ((with_reducible refine gate_callee (f := 31) rfl ?_); refine goesL_ (some 38) rfl rfl Try.func31 (by kernel_rfl) rfl #[.int .u64 4294967296] rfl (by (try simp only [List.map_toArray, List.map_cons, List.map_nil]); first | done | rfl) ?_; (with_reducible refine (demurrageref01_FromU.calls kj4 4294967296 t302 _ A18.out).mono ?_); rintro e w45 ⟨v303, rfl, ho0, hb⟩; refine ⟨_, rfl, ?_⟩; have HO304 := Aside0.mk (Kd.R_lower (Kd.R_new' (Kd.R_new' (Kd.R_new' (Kd.R_new' (Kd.R_new' (Kd.R_new' (Kd.R_new' (Kd.R_new' ho0 (Kd.R_lt (by (with_reducible repeat (first | apply Kd.R_alloc | apply Kd.R_drewN | apply Kd.R_drew)); exact (Kd.R_mono (Kd.R_far (p := ⟨gb301, 0, none⟩) (Kd.R_types HO278.out BK301.out (by decide)) (fun _ hk => hk.2) (.slice Ao43 t298.length co43)) (fun _ h_ => h_.1))))) (Kd.R_lt (by (with_reducible repeat (first | apply Kd.R_alloc | apply Kd.R_drewN | apply Kd.R_drew)); exact (Kd.R_mono (Kd.R_far (p := ⟨gb301, 0, none⟩) (Kd.R_types HO281.out BK301.out (by decide)) (fun _ hk => hk.2) (.slice Ao43 t298.length co43)) (fun _ h_ => h_.1))))) (Kd.R_lt (by (with_reducible repeat (first | apply Kd.R_alloc | apply Kd.R_drewN | apply Kd.R_drew)); exact (Kd.R_mono (Kd.R_far (p := ⟨gb301, 0, none⟩) (Kd.R_types HO284.out BK301.out (by decide)) (fun _ hk => hk.2) (.slice Ao43 t298.length co43)) (fun _ h_ => h_.1))))) (Kd.R_lt (by (with_reducible repeat (first | apply Kd.R_alloc | apply Kd.R_drewN | apply Kd.R_drew)); exact (Kd.R_mono (Kd.R_far (p := ⟨gb301, 0, none⟩) (Kd.R_types HO287.out BK301.out (by decide)) (fun _ hk => hk.2) (.slice Ao43 t298.length co43)) (fun _ h_ => h_.1))))) (Kd.R_lt (by (with_reducible repeat (first | apply Kd.R_alloc | apply Kd.R_drewN | apply Kd.R_drew)); exact (Kd.R_mono (Kd.R_far (p := ⟨gb301, 0, none⟩) (Kd.R_types HO290.out BK301.out (by decide)) (fun _ hk => hk.2) (.slice Ao43 t298.length co43)) (fun _ h_ => h_.1))))) (Kd.R_lt (by (with_reducible repeat (first | apply Kd.R_alloc | apply Kd.R_drewN | apply Kd.R_drew)); exact (Kd.R_mono (Kd.R_far (p := ⟨gb301, 0, none⟩) (Kd.R_types HO294.out BK301.out (by decide)) (fun _ hk => hk.2) (.slice Ao43 t298.length co43)) (fun _ h_ => h_.1))))) (Kd.R_lt (by (with_reducible repeat (first | apply Kd.R_alloc | apply Kd.R_drewN | apply Kd.R_drew)); exact (Kd.R_mono (Kd.R_far (p := ⟨gb301, 0, none⟩) (Kd.R_types HO297.out BK301.out (by decide)) (fun _ hk => hk.2) (.slice Ao43 t298.length co43)) (fun _ h_ => h_.1))))) (Kd.R_lt (by (with_reducible repeat (first | apply Kd.R_alloc | apply Kd.R_drewN | apply Kd.R_drew)); exact (Kd.R_mono (Kd.R_far (p := ⟨gb301, 0, none⟩) (Kd.R_types HO300.out BK301.out (by decide)) (fun _ hk => hk.2) (.slice Ao43 t298.length co43)) (fun _ h_ => h_.1))))) (below_size (by repeat (first | (with_reducible first | exact HB.out | apply bA_ | apply bN_ | apply bD_ | refine bS_ ?_ GE275.out | refine bS_ ?_ GE291.out | refine bS_ ?_ GE301.out) | exact HB.out)))); replace HO278 := Aside0.mk (Kd.R_elder' (by (with_reducible repeat (first | apply Kd.R_alloc | apply Kd.R_drewN | apply Kd.R_drew)); exact (Kd.R_mono (Kd.R_far (p := ⟨gb301, 0, none⟩) (Kd.R_types HO278.out BK301.out (by decide)) (fun _ hk => hk.2) (.slice Ao43 t298.length co43)) (fun _ h_ => h_.1))) (Kd.R_base ho0) hb); replace HO281 := Aside0.mk (Kd.R_elder' (by (with_reducible repeat (first | apply Kd.R_alloc | apply Kd.R_drewN | apply Kd.R_drew)); exact (Kd.R_mono (Kd.R_far (p := ⟨gb301, 0, none⟩) (Kd.R_types HO281.out BK301.out (by decide)) (fun _ hk => hk.2) (.slice Ao43 t298.length co43)) (fun _ h_ => h_.1))) (Kd.R_base ho0) hb); replace HO284 := Aside0.mk (Kd.R_elder' (by (with_reducible repeat (first | apply Kd.R_alloc | apply Kd.R_drewN | apply Kd.R_drew)); exact (Kd.R_mono (Kd.R_far (p := ⟨gb301, 0, none⟩) (Kd.R_types HO284.out BK301.out (by decide)) (fun _ hk => hk.2) (.slice Ao43 t298.length co43)) (fun _ h_ => h_.1))) (Kd.R_base ho0) hb); replace HO287 := Aside0.mk (Kd.R_elder' (by (with_reducible repeat (first | apply Kd.R_alloc | apply Kd.R_drewN | apply Kd.R_drew)); exact (Kd.R_mono (Kd.R_far (p := ⟨gb301, 0, none⟩) (Kd.R_types HO287.out BK301.out (by decide)) (fun _ hk => hk.2) (.slice Ao43 t298.length co43)) (fun _ h_ => h_.1))) (Kd.R_base ho0) hb); replace HO290 := Aside0.mk (Kd.R_elder' (by (with_reducible repeat (first | apply Kd.R_alloc | apply Kd.R_drewN | apply Kd.R_drew)); exact (Kd.R_mono (Kd.R_far (p := ⟨gb301, 0, none⟩) (Kd.R_types HO290.out BK301.out (by decide)) (fun _ hk => hk.2) (.slice Ao43 t298.length co43)) (fun _ h_ => h_.1))) (Kd.R_base ho0) hb); replace HO294 := Aside0.mk (Kd.R_elder' (by (with_reducible repeat (first | apply Kd.R_alloc | apply Kd.R_drewN | apply Kd.R_drew)); exact (Kd.R_mono (Kd.R_far (p := ⟨gb301, 0, none⟩) (Kd.R_types HO294.out BK301.out (by decide)) (fun _ hk => hk.2) (.slice Ao43 t298.length co43)) (fun _ h_ => h_.1))) (Kd.R_base ho0) hb); replace HO297 := Aside0.mk (Kd.R_elder' (by (with_reducible repeat (first | apply Kd.R_alloc | apply Kd.R_drewN | apply Kd.R_drew)); exact (Kd.R_mono (Kd.R_far (p := ⟨gb301, 0, none⟩) (Kd.R_types HO297.out BK301.out (by decide)) (fun _ hk => hk.2) (.slice Ao43 t298.length co43)) (fun _ h_ => h_.1))) (Kd.R_base ho0) hb); replace HO300 := Aside0.mk (Kd.R_elder' (by (with_reducible repeat (first | apply Kd.R_alloc | apply Kd.R_drewN | apply Kd.R_drew)); exact (Kd.R_mono (Kd.R_far (p := ⟨gb301, 0, none⟩) (Kd.R_types HO300.out BK301.out (by decide)) (fun _ hk => hk.2) (.slice Ao43 t298.length co43)) (fun _ h_ => h_.1))) (Kd.R_base ho0) hb); replace BK275 := Aside0.mk (blk_below (g := gb275) (o := .cells #[.int .i64 a2_0, .int .i64 a2_1] 42 (0, 0)) (by refine blk_far ?_ NB275_301.out _; exact BK275.out) hb); replace BK291 := Aside0.mk (blk_below (g := gb291) (o := .cells #[.slice Ao32 t288.length co32] 61 (0, 0)) (by refine blk_far ?_ NB291_301.out _; exact BK291.out) hb); replace BK301 := Aside0.mk (blk_below (g := gb301) (o := .cells #[.slice Ao43 t298.length co43] 61 (0, 0)) (by refine blk_put (cs := #[.slice none 0 0]) ?_ 0 _ rfl; exact BK301.out) hb); replace HB := Aside0.mk (below_step (by repeat (first | (with_reducible first | exact HB.out | apply bA_ | apply bN_ | apply bD_ | refine bS_ ?_ GE275.out | refine bS_ ?_ GE291.out | refine bS_ ?_ GE301.out) | exact HB.out)) hb); (try clear hb); (try clear ho0)) | ((with_reducible refine gate_dst (N := 12) rfl ?_); refine box_event ?hg (N := 12) ?hd (cs := #[.slice none 0 0]) (t := 61) ?hr ?_; (case hd => rfl); (case hg => rfl); (case hr => first | (go_simp; done) | (go_simp; rfl)); intro gb305 hg w46 hbox hb; replace HO278 := Aside0.mk (Kd.R_below HO278.out hb); replace HO281 := Aside0.mk (Kd.R_below HO281.out hb); replace HO284 := Aside0.mk (Kd.R_below HO284.out hb); replace HO287 := Aside0.mk (Kd.R_below HO287.out hb); replace HO290 := Aside0.mk (Kd.R_below HO290.out hb); replace HO294 := Aside0.mk (Kd.R_below HO294.out hb); replace HO297 := Aside0.mk (Kd.R_below HO297.out hb); replace HO300 := Aside0.mk (Kd.R_below HO300.out hb); replace HO304 := Aside0.mk (Kd.R_below HO304.out hb); have BK305 := Aside0.mk (hbox); have GW305 := Aside0.mk ((by rw [hg]; exact (below_size (by repeat (first | (with_reducible first | exact HB.out | apply bA_ | apply bN_ | apply bD_ | refine bS_ ?_ GE275.out | refine bS_ ?_ GE291.out | refine bS_ ?_ GE301.out) | exact HB.out))) : w.heap.size ≤ gb305)); have GE305 := GW305; replace HB := Aside0.mk (below_step (by repeat (first | (with_reducible first | exact HB.out | apply bA_ | apply bN_ | apply bD_ | refine bS_ ?_ GE275.out | refine bS_ ?_ GE291.out | refine bS_ ?_ GE301.out) | exact HB.out)) hb); have NB275_305 := Aside0.mk ((by rw [hg]; exact Nat.ne_of_lt (blk_lt BK275.out) : gb275 ≠ gb305)); have NB305_275 := Aside0.mk NB275_305.out.symm; replace BK275 := bK_ BK275 hb; have NB291_305 := Aside0.mk ((by rw [hg]; exact Nat.ne_of_lt (blk_lt BK291.out) : gb291 ≠ gb305)); have NB305_291 := Aside0.mk NB291_305.out.symm; replace BK291 := bK_ BK291 hb; have NB301_305 := Aside0.mk ((by rw [hg]; exact Nat.ne_of_lt (blk_lt BK301.out) : gb301 ≠ gb305)); have NB305_301 := Aside0.mk NB301_305.out.symm; replace BK301 := bK_ BK301 hb; clear hb hbox hg; obtain ⟨Ao47, co47, eo47⟩ := Kd.R_slice HO304.out; subst eo47; have hnb48 := NB305_275.out; have hnc48 := NB275_305.out; have hnb49 := NB305_291.out; have hnc49 := NB291_305.out; have hnb50 := NB305_301.out; have hnc50 := NB301_305.out; have hcz51_0 : w46.cell? ⟨gb305, 0, none⟩ = some (.slice none 0 0) := (blk_cell BK305.out 0).trans rfl; have hfz51_0 := blk_frozen BK305.out 0))
    (try simp only [Act.put, sT_, sZ_, sS_])
    go_cut [50] (fun v50 wc => ∃ (kq : Nat) (x50_18 : Bool), v50 = .bool x50_18 ∧ Aside0 (demurrageref03_Part.j1 kq x50_18 t288 t298 = some (r1, r2)) ∧ Aside0 (kq ≤ kj4) ∧ Aside0 (Kd.R (Kd.int .i64) 3 wc w.heap.size (fun k_ => some k_ ≠ ((.slice Ao43 t298.length co43) : Value).ownBlock ∧ some k_ ≠ ((.slice Ao47 t302.length co47) : Value).ownBlock) (.slice Ao32 t288.length co32) t288) ∧ Aside0 (Kd.R (Kd.int .i64) 3 wc w.heap.size (fun k_ => some k_ ≠ ((.slice Ao32 t288.length co32) : Value).ownBlock ∧ some k_ ≠ ((.slice Ao47 t302.length co47) : Value).ownBlock) (.slice Ao43 t298.length co43) t298) ∧ Aside0 (Kd.R (Kd.int .i64) 3 wc w.heap.size (fun k_ => some k_ ≠ ((.slice Ao32 t288.length co32) : Value).ownBlock ∧ some k_ ≠ ((.slice Ao43 t298.length co43) : Value).ownBlock) (.slice Ao47 t302.length co47) t302) ∧ Aside0 (wc.heap[gb275]? = some (.cells #[.int .i64 a2_0, .int .i64 a2_1] 42 (0, 0))) ∧ Aside0 (wc.heap[gb291]? = some (.cells #[(.slice Ao32 t288.length co32)] 61 (0, 0))) ∧ Aside0 (wc.heap[gb301]? = some (.cells #[(.slice Ao43 t298.length co43)] 61 (0, 0))) ∧ Aside0 (wc.heap[gb305]? = some (.cells #[(.slice Ao47 t302.length co47)] 61 (0, 0))) ∧ Aside0 (Below w.heap.size w wc))
    case first =>
     have H := HC19.out
     clear HC19
     replace H := Option.bind_eq_some_iff.mp H
     obtain ⟨t306, A520, H⟩ := H
     (try dsimp only at H)
     have A52 := Aside0.mk A520
     clear A520
     replace H := Option.bind_eq_some_iff.mp H
     obtain ⟨t309, A530, H⟩ := H
     (try dsimp only at H)
     have A53 := Aside0.mk A530
     clear A530
     by_cases c54 : t309 ≥ 0
     ·rw [if_pos c54] at H
      have c54b0 : decide (0 ≤ t309) = true := decide_eq_true c54
      clear c54
      (first | rw [c54b0] | (simp only [i64_w, i32_w]; rw [c54b0]) | rw [c54b1] | skip)
      have H' := Aside0.mk H
      clear H
      try go_wp2
      have n0_ : Aside0 (Kd.R (Kd.int .i64) 3 (w46.setCell ⟨gb305, 0, none⟩ (.slice Ao47 t302.length co47)) w.heap.size (fun k_ => some k_ ≠ (v280 : Value).ownBlock ∧ some k_ ≠ (v283 : Value).ownBlock ∧ some k_ ≠ (v286 : Value).ownBlock ∧ some k_ ≠ (.slice Ao32 t288.length co32 : Value).ownBlock ∧ some k_ ≠ (v293 : Value).ownBlock ∧ some k_ ≠ (v296 : Value).ownBlock ∧ some k_ ≠ (.slice Ao43 t298.length co43 : Value).ownBlock ∧ some k_ ≠ (.slice Ao47 t302.length co47 : Value).ownBlock) v277 t276) := ⟨by (with_reducible repeat (first | apply Kd.R_alloc | apply Kd.R_drewN | apply Kd.R_drew)); exact Kd.R_mono (Kd.R_far (p := ⟨gb305, 0, none⟩) (Kd.R_types HO278.out BK305.out (by decide)) (fun _ hk => hk.2) (.slice Ao47 t302.length co47)) (fun _ hk => (And.intro (hk.1.1.1) ((And.intro (hk.1.1.2.1) ((And.intro (hk.1.1.2.2.1) ((And.intro (hk.1.1.2.2.2.1) ((And.intro (hk.1.1.2.2.2.2.1) ((And.intro (hk.1.1.2.2.2.2.2.1) ((And.intro (hk.1.1.2.2.2.2.2.2) (hk.1.2)))))))))))))))⟩
      have n1_ : Aside0 (Kd.R (Kd.int .i64) 3 (w46.setCell ⟨gb305, 0, none⟩ (.slice Ao47 t302.length co47)) w.heap.size (fun k_ => some k_ ≠ (v277 : Value).ownBlock ∧ some k_ ≠ (v283 : Value).ownBlock ∧ some k_ ≠ (v286 : Value).ownBlock ∧ some k_ ≠ (.slice Ao32 t288.length co32 : Value).ownBlock ∧ some k_ ≠ (v293 : Value).ownBlock ∧ some k_ ≠ (v296 : Value).ownBlock ∧ some k_ ≠ (.slice Ao43 t298.length co43 : Value).ownBlock ∧ some k_ ≠ (.slice Ao47 t302.length co47 : Value).ownBlock) v280 t279) := ⟨by (with_reducible repeat (first | apply Kd.R_alloc | apply Kd.R_drewN | apply Kd.R_drew)); exact Kd.R_mono (Kd.R_far (p := ⟨gb305, 0, none⟩) (Kd.R_types HO281.out BK305.out (by decide)) (fun _ hk => hk.2) (.slice Ao47 t302.length co47)) (fun _ hk => (And.intro (hk.1.1.1) ((And.intro (hk.1.1.2.1) ((And.intro (hk.1.1.2.2.1) ((And.intro (hk.1.1.2.2.2.1) ((And.intro (hk.1.1.2.2.2.2.1) ((And.intro (hk.1.1.2.2.2.2.2.1) ((And.intro (hk.1.1.2.2.2.2.2.2) (hk.1.2)))))))))))))))⟩
      have n2_ : Aside0 (Kd.R (Kd.int .i64) 3 (w46.setCell ⟨gb305, 0, none⟩ (.slice Ao47 t302.length co47)) w.heap.size (fun k_ => some k_ ≠ (v277 : Value).ownBlock ∧ some k_ ≠ (v280 : Value).ownBlock ∧ some k_ ≠ (v286 : Value).ownBlock ∧ some k_ ≠ (.slice Ao32 t288.length co32 : Value).ownBlock ∧ some k_ ≠ (v293 : Value).ownBlock ∧ some k_ ≠ (v296 : Value).ownBlock ∧ some k_ ≠ (.slice Ao43 t298.length co43 : Value).ownBlock ∧ some k_ ≠ (.slice Ao47 t302.length co47 : Value).ownBlock) v283 t282) := ⟨by (with_reducible repeat (first | apply Kd.R_alloc | apply Kd.R_drewN | apply Kd.R_drew)); exact Kd.R_mono (Kd.R_far (p := ⟨gb305, 0, none⟩) (Kd.R_types HO284.out BK305.out (by decide)) (fun _ hk => hk.2) (.slice Ao47 t302.length co47)) (fun _ hk => (And.intro (hk.1.1.1) ((And.intro (hk.1.1.2.1) ((And.intro (hk.1.1.2.2.1) ((And.intro (hk.1.1.2.2.2.1) ((And.intro (hk.1.1.2.2.2.2.1) ((And.intro (hk.1.1.2.2.2.2.2.1) ((And.intro (hk.1.1.2.2.2.2.2.2) (hk.1.2)))))))))))))))⟩
      have n3_ : Aside0 (Kd.R (Kd.int .i64) 3 (w46.setCell ⟨gb305, 0, none⟩ (.slice Ao47 t302.length co47)) w.heap.size (fun k_ => some k_ ≠ (v277 : Value).ownBlock ∧ some k_ ≠ (v280 : Value).ownBlock ∧ some k_ ≠ (v283 : Value).ownBlock ∧ some k_ ≠ (.slice Ao32 t288.length co32 : Value).ownBlock ∧ some k_ ≠ (v293 : Value).ownBlock ∧ some k_ ≠ (v296 : Value).ownBlock ∧ some k_ ≠ (.slice Ao43 t298.length co43 : Value).ownBlock ∧ some k_ ≠ (.slice Ao47 t302.length co47 : Value).ownBlock) v286 t285) := ⟨by (with_reducible repeat (first | apply Kd.R_alloc | apply Kd.R_drewN | apply Kd.R_drew)); exact Kd.R_mono (Kd.R_far (p := ⟨gb305, 0, none⟩) (Kd.R_types HO287.out BK305.out (by decide)) (fun _ hk => hk.2) (.slice Ao47 t302.length co47)) (fun _ hk => (And.intro (hk.1.1.1) ((And.intro (hk.1.1.2.1) ((And.intro (hk.1.1.2.2.1) ((And.intro (hk.1.1.2.2.2.1) ((And.intro (hk.1.1.2.2.2.2.1) ((And.intro (hk.1.1.2.2.2.2.2.1) ((And.intro (hk.1.1.2.2.2.2.2.2) (hk.1.2)))))))))))))))⟩
      have n4_ : Aside0 (Kd.R (Kd.int .i64) 3 (w46.setCell ⟨gb305, 0, none⟩ (.slice Ao47 t302.length co47)) w.heap.size (fun k_ => some k_ ≠ (v277 : Value).ownBlock ∧ some k_ ≠ (v280 : Value).ownBlock ∧ some k_ ≠ (v283 : Value).ownBlock ∧ some k_ ≠ (v286 : Value).ownBlock ∧ some k_ ≠ (v293 : Value).ownBlock ∧ some k_ ≠ (v296 : Value).ownBlock ∧ some k_ ≠ (.slice Ao43 t298.length co43 : Value).ownBlock ∧ some k_ ≠ (.slice Ao47 t302.length co47 : Value).ownBlock) (.slice Ao32 t288.length co32) t288) := ⟨by (with_reducible repeat (first | apply Kd.R_alloc | apply Kd.R_drewN | apply Kd.R_drew)); exact Kd.R_mono (Kd.R_far (p := ⟨gb305, 0, none⟩) (Kd.R_types HO290.out BK305.out (by decide)) (fun _ hk => hk.2) (.slice Ao47 t302.length co47)) (fun _ hk => (And.intro (hk.1.1.1) ((And.intro (hk.1.1.2.1) ((And.intro (hk.1.1.2.2.1) ((And.intro (hk.1.1.2.2.2.1) ((And.intro (hk.1.1.2.2.2.2.1) ((And.intro (hk.1.1.2.2.2.2.2.1) ((And.intro (hk.1.1.2.2.2.2.2.2) (hk.1.2)))))))))))))))⟩
      have n5_ : Aside0 (Kd.R (Kd.int .i64) 3 (w46.setCell ⟨gb305, 0, none⟩ (.slice Ao47 t302.length co47)) w.heap.size (fun k_ => some k_ ≠ (v277 : Value).ownBlock ∧ some k_ ≠ (v280 : Value).ownBlock ∧ some k_ ≠ (v283 : Value).ownBlock ∧ some k_ ≠ (v286 : Value).ownBlock ∧ some k_ ≠ (.slice Ao32 t288.length co32 : Value).ownBlock ∧ some k_ ≠ (v296 : Value).ownBlock ∧ some k_ ≠ (.slice Ao43 t298.length co43 : Value).ownBlock ∧ some k_ ≠ (.slice Ao47 t302.length co47 : Value).ownBlock) v293 t292) := ⟨by (with_reducible repeat (first | apply Kd.R_alloc | apply Kd.R_drewN | apply Kd.R_drew)); exact Kd.R_mono (Kd.R_far (p := ⟨gb305, 0, none⟩) (Kd.R_types HO294.out BK305.out (by decide)) (fun _ hk => hk.2) (.slice Ao47 t302.length co47)) (fun _ hk => (And.intro (hk.1.1.1) ((And.intro (hk.1.1.2.1) ((And.intro (hk.1.1.2.2.1) ((And.intro (hk.1.1.2.2.2.1) ((And.intro (hk.1.1.2.2.2.2.1) ((And.intro (hk.1.1.2.2.2.2.2.1) ((And.intro (hk.1.1.2.2.2.2.2.2) (hk.1.2)))))))))))))))⟩
      have n6_ : Aside0 (Kd.R (Kd.int .i64) 3 (w46.setCell ⟨gb305, 0, none⟩ (.slice Ao47 t302.length co47)) w.heap.size (fun k_ => some k_ ≠ (v277 : Value).ownBlock ∧ some k_ ≠ (v280 : Value).ownBlock ∧ some k_ ≠ (v283 : Value).ownBlock ∧ some k_ ≠ (v286 : Value).ownBlock ∧ some k_ ≠ (.slice Ao32 t288.length co32 : Value).ownBlock ∧ some k_ ≠ (v293 : Value).ownBlock ∧ some k_ ≠ (.slice Ao43 t298.length co43 : Value).ownBlock ∧ some k_ ≠ (.slice Ao47 t302.length co47 : Value).ownBlock) v296 t295) := ⟨by (with_reducible repeat (first | apply Kd.R_alloc | apply Kd.R_drewN | apply Kd.R_drew)); exact Kd.R_mono (Kd.R_far (p := ⟨gb305, 0, none⟩) (Kd.R_types HO297.out BK305.out (by decide)) (fun _ hk => hk.2) (.slice Ao47 t302.length co47)) (fun _ hk => (And.intro (hk.1.1.1) ((And.intro (hk.1.1.2.1) ((And.intro (hk.1.1.2.2.1) ((And.intro (hk.1.1.2.2.2.1) ((And.intro (hk.1.1.2.2.2.2.1) ((And.intro (hk.1.1.2.2.2.2.2.1) ((And.intro (hk.1.1.2.2.2.2.2.2) (hk.1.2)))))))))))))))⟩
      have n7_ : Aside0 (Kd.R (Kd.int .i64) 3 (w46.setCell ⟨gb305, 0, none⟩ (.slice Ao47 t302.length co47)) w.heap.size (fun k_ => some k_ ≠ (v277 : Value).ownBlock ∧ some k_ ≠ (v280 : Value).ownBlock ∧ some k_ ≠ (v283 : Value).ownBlock ∧ some k_ ≠ (v286 : Value).ownBlock ∧ some k_ ≠ (.slice Ao32 t288.length co32 : Value).ownBlock ∧ some k_ ≠ (v293 : Value).ownBlock ∧ some k_ ≠ (v296 : Value).ownBlock ∧ some k_ ≠ (.slice Ao47 t302.length co47 : Value).ownBlock) (.slice Ao43 t298.length co43) t298) := ⟨by (with_reducible repeat (first | apply Kd.R_alloc | apply Kd.R_drewN | apply Kd.R_drew)); exact Kd.R_mono (Kd.R_far (p := ⟨gb305, 0, none⟩) (Kd.R_types HO300.out BK305.out (by decide)) (fun _ hk => hk.2) (.slice Ao47 t302.length co47)) (fun _ hk => (And.intro (hk.1.1.1) ((And.intro (hk.1.1.2.1) ((And.intro (hk.1.1.2.2.1) ((And.intro (hk.1.1.2.2.2.1) ((And.intro (hk.1.1.2.2.2.2.1) ((And.intro (hk.1.1.2.2.2.2.2.1) ((And.intro (hk.1.1.2.2.2.2.2.2) (hk.1.2)))))))))))))))⟩
      have n8_ : Aside0 (Kd.R (Kd.int .i64) 3 (w46.setCell ⟨gb305, 0, none⟩ (.slice Ao47 t302.length co47)) w.heap.size (fun k_ => some k_ ≠ (v277 : Value).ownBlock ∧ some k_ ≠ (v280 : Value).ownBlock ∧ some k_ ≠ (v283 : Value).ownBlock ∧ some k_ ≠ (v286 : Value).ownBlock ∧ some k_ ≠ (.slice Ao32 t288.length co32 : Value).ownBlock ∧ some k_ ≠ (v293 : Value).ownBlock ∧ some k_ ≠ (v296 : Value).ownBlock ∧ some k_ ≠ (.slice Ao43 t298.length co43 : Value).ownBlock) (.slice Ao47 t302.length co47) t302) := ⟨by (with_reducible repeat (first | apply Kd.R_alloc | apply Kd.R_drewN | apply Kd.R_drew)); exact Kd.R_mono (Kd.R_far (p := ⟨gb305, 0, none⟩) (Kd.R_types HO304.out BK305.out (by decide)) (fun _ hk => hk.2) (.slice Ao47 t302.length co47)) (fun _ hk => (And.intro (hk.1.1.1.1.1.1.1.1.2) ((And.intro (hk.1.1.1.1.1.1.1.2) ((And.intro (hk.1.1.1.1.1.1.2) ((And.intro (hk.1.1.1.1.1.2) ((And.intro (hk.1.1.1.1.2) ((And.intro (hk.1.1.1.2) ((And.intro (hk.1.1.2) (hk.1.2)))))))))))))))⟩
      have n9_ : Aside0 ((w46.setCell ⟨gb305, 0, none⟩ (.slice Ao47 t302.length co47)).heap[gb275]? = some (.cells #[.int .i64 a2_0, .int .i64 a2_1] 42 (0, 0))) := ⟨by refine blk_far ?_ NB275_305.out _; exact BK275.out⟩
      have n10_ : Aside0 ((w46.setCell ⟨gb305, 0, none⟩ (.slice Ao47 t302.length co47)).heap[gb291]? = some (.cells #[.slice Ao32 t288.length co32] 61 (0, 0))) := ⟨by refine blk_far ?_ NB291_305.out _; exact BK291.out⟩
      have n11_ : Aside0 ((w46.setCell ⟨gb305, 0, none⟩ (.slice Ao47 t302.length co47)).heap[gb301]? = some (.cells #[.slice Ao43 t298.length co43] 61 (0, 0))) := ⟨by refine blk_far ?_ NB301_305.out _; exact BK301.out⟩
      have n12_ : Aside0 ((w46.setCell ⟨gb305, 0, none⟩ (.slice Ao47 t302.length co47)).heap[gb305]? = some (.cells #[.slice Ao47 t302.length co47] 61 (0, 0))) := ⟨by refine blk_put (cs := #[.slice none 0 0]) ?_ 0 _ rfl; exact BK305.out⟩
      have n13_ : Aside0 (Below w.heap.size w (w46.setCell ⟨gb305, 0, none⟩ (.slice Ao47 t302.length co47))) := ⟨by repeat (first | (with_reducible first | exact HB.out | apply bA_ | apply bN_ | apply bD_ | refine bS_ ?_ GE275.out | refine bS_ ?_ GE291.out | refine bS_ ?_ GE301.out | refine bS_ ?_ GE305.out) | exact HB.out)⟩
      (try clear HO278)
      (try clear HO281)
      (try clear HO284)
      (try clear HO287)
      (try clear HO290)
      (try clear HO294)
      (try clear HO297)
      (try clear HO300)
      (try clear HO304)
      (try clear BK275)
      (try clear BK291)
      (try clear BK301)
      (try clear BK305)
      (try clear HB)
      generalize (w46.setCell ⟨gb305, 0, none⟩ (.slice Ao47 t302.length co47)) = w55 at n0_ n1_ n2_ n3_ n4_ n5_ n6_ n7_ n8_ n9_ n10_ n11_ n12_ n13_ ⊢
      have HO278 := n0_
      have HO281 := n1_
      have HO284 := n2_
      have HO287 := n3_
      have HO290 := n4_
      have HO294 := n5_
      have HO297 := n6_
      have HO300 := n7_
      have HO304 := n8_
      have BK275 := n9_
      have BK291 := n10_
      have BK301 := n11_
      have BK305 := n12_
      have HB := n13_
      clear n0_ n1_ n2_ n3_ n4_ n5_ n6_ n7_ n8_ n9_ n10_ n11_ n12_ n13_
      replace HO278 := Aside0.mk (Kd.R_drew HO278.out)
      replace HO281 := Aside0.mk (Kd.R_drew HO281.out)
      replace HO284 := Aside0.mk (Kd.R_drew HO284.out)
      replace HO287 := Aside0.mk (Kd.R_drew HO287.out)
      replace HO290 := Aside0.mk (Kd.R_drew HO290.out)
      replace HO294 := Aside0.mk (Kd.R_drew HO294.out)
      replace HO297 := Aside0.mk (Kd.R_drew HO297.out)
      replace HO300 := Aside0.mk (Kd.R_drew HO300.out)
      replace HO304 := Aside0.mk (Kd.R_drew HO304.out)
      replace BK275 := Aside0.mk (blk_drew BK275.out)
      replace BK291 := Aside0.mk (blk_drew BK291.out)
      replace BK301 := Aside0.mk (blk_drew BK301.out)
      replace BK305 := Aside0.mk (blk_drew BK305.out)
      replace HB := Aside0.mk (below_drew1 HB.out)
      refine start_ (n := 12) (S := fun w' => w'.cell? ⟨gb291, 0, none⟩ = some (.slice Ao32 t288.length co32)) (ds := []) (demurrageref03_Part.ups 12 0) (by kernel_rfl) rfl rfl ((blk_cell BK291.out 0).trans rfl) (fun hHeld => ?_); refine with_tabW demurrageref03_Part.tab6 demurrageref03_Part.bits6 (fun HT_ HW_ => ?_)
      generalize w55.drew = w56 at HO278 HO281 HO284 HO287 HO290 HO294 HO297 HO300 HO304 BK275 BK291 BK301 BK305 HB hHeld ⊢
      refine take_ (i := 0) (N := some 39) (v := ?_) (a' := ?_) (demurrageref03_Part.ups 12 1) rfl rfl (take_ofW HT_.out HW_.out (by kernel_rfl)) (fun _ _ _ h => h) (Or.inl ⟨by rfl, ?_⟩) hHeld ?_ ?_
      rotate_left
      ·intro w' s0
       go_simp
       with_reducible rfl
      rotate_left
      ·simp only [Act.put, sT_, sZ_, sS_, i64_w, i32_w]
       rfl
      refine one_ (i := 1) (N := some 40) (demurrageref03_Part.ups 12 3) rfl rfl (one_of HT_.out (by kernel_rfl)) (by decide) (fun K hK => ?_)
      refine goes_ Try.func33 (by kernel_rfl) rfl #[] (by rfl) rfl rfl (by (try simp only [List.map_toArray, List.map_cons, List.map_nil]); first | done | rfl) ?_
      with_reducible refine (demurrageref01_Limit.calls kj4  t306 _ A52.out).mono ?_
      rintro e w57 ⟨v307, rfl, ho0, hb⟩
      refine ⟨_, rfl, ?_⟩
      have HO308 := Aside0.mk (Kd.R_lower (Kd.R_new' (Kd.R_new' (Kd.R_new' (Kd.R_new' (Kd.R_new' (Kd.R_new' (Kd.R_new' (Kd.R_new' (Kd.R_new' ho0 (Kd.R_lt HO278.out)) (Kd.R_lt HO281.out)) (Kd.R_lt HO284.out)) (Kd.R_lt HO287.out)) (Kd.R_lt HO290.out)) (Kd.R_lt HO294.out)) (Kd.R_lt HO297.out)) (Kd.R_lt HO300.out)) (Kd.R_lt HO304.out)) (below_size (by repeat (first | (with_reducible first | exact HB.out | apply bA_ | apply bN_ | apply bD_ | refine bS_ ?_ GE275.out | refine bS_ ?_ GE291.out | refine bS_ ?_ GE301.out | refine bS_ ?_ GE305.out) | exact HB.out))))
      replace HO278 := Aside0.mk (Kd.R_elder' HO278.out (Kd.R_base ho0) hb)
      replace HO281 := Aside0.mk (Kd.R_elder' HO281.out (Kd.R_base ho0) hb)
      replace HO284 := Aside0.mk (Kd.R_elder' HO284.out (Kd.R_base ho0) hb)
      replace HO287 := Aside0.mk (Kd.R_elder' HO287.out (Kd.R_base ho0) hb)
      replace HO290 := Aside0.mk (Kd.R_elder' HO290.out (Kd.R_base ho0) hb)
      replace HO294 := Aside0.mk (Kd.R_elder' HO294.out (Kd.R_base ho0) hb)
      replace HO297 := Aside0.mk (Kd.R_elder' HO297.out (Kd.R_base ho0) hb)
      replace HO300 := Aside0.mk (Kd.R_elder' HO300.out (Kd.R_base ho0) hb)
      replace HO304 := Aside0.mk (Kd.R_elder' HO304.out (Kd.R_base ho0) hb)
      replace BK275 := bK_ BK275 hb
      replace BK291 := bK_ BK291 hb
      replace BK301 := bK_ BK301 hb
      replace BK305 := bK_ BK305 hb
      replace HB := Aside0.mk (below_step (by repeat (first | (with_reducible first | exact HB.out | apply bA_ | apply bN_ | apply bD_ | refine bS_ ?_ GE275.out | refine bS_ ?_ GE291.out | refine bS_ ?_ GE301.out | refine bS_ ?_ GE305.out) | exact HB.out)) hb)
      (try clear hb)
      (try clear hb2)
      (try clear hk)
      (try clear hi)
      (try clear ho0)
      obtain ⟨Ao58, co58, eo58⟩ := Kd.R_slice HO308.out
      (first | subst eo58 | (injection eo58 with f1_ f2_ f3_; have f4_ := f1_.symm; have f5_ := f3_.symm; clear f1_ f2_ f3_; subst f4_; subst f5_))
      refine hK.out _ _ ((blk_cell BK291.out 0).trans rfl) (fun hHeld => ?_)
      clear hK K
      refine norm_ (a' := ?_) ?_ ?_
      rotate_left
      ·show Act.put _ (some 40) _ = _
       simp only [Act.put, sT_, sZ_, sS_, i64_w, i32_w]
       rfl
      refine one_ (i := 2) (N := some 41) (demurrageref03_Part.ups 12 7) rfl rfl (one_of HT_.out (by kernel_rfl)) (by decide) (fun K hK => ?_)
      refine goes_ Try.func32 (by kernel_rfl) rfl #[.agg #[.slice Ao32 t288.length co32], .agg #[.slice Ao58 t306.length co58]] (by rfl) rfl rfl (by (try simp only [List.map_toArray, List.map_cons, List.map_nil]); first | done | rfl) ?_
      with_reducible refine (demurrageref01_Cmp.calls kj4 _ _ t288 _ _ t306 t309 _ ?side1 ?side2 ?side3 ?side4 A53.out).mono ?_
      (case side1 => repeat (first | exact (Kd.R_reads' HO290.out).2.2 | (with_reducible refine Kd.C_alloc ?_ _) | (with_reducible refine Kd.C_drewN ?_ _) | (with_reducible refine Kd.C_drew ?_)))
      (case side2 => exact (Kd.R_reads' HO290.out).2.1)
      (case side3 => repeat (first | exact (Kd.R_reads' HO308.out).2.2 | (with_reducible refine Kd.C_alloc ?_ _) | (with_reducible refine Kd.C_drewN ?_ _) | (with_reducible refine Kd.C_drew ?_)))
      (case side4 => exact (Kd.R_reads' HO308.out).2.1)
      rintro e w59 ⟨rfl, hb⟩
      refine ⟨_, rfl, ?_⟩
      replace HO278 := Aside0.mk (Kd.R_below HO278.out hb)
      replace HO281 := Aside0.mk (Kd.R_below HO281.out hb)
      replace HO284 := Aside0.mk (Kd.R_below HO284.out hb)
      replace HO287 := Aside0.mk (Kd.R_below HO287.out hb)
      replace HO290 := Aside0.mk (Kd.R_below HO290.out hb)
      replace HO294 := Aside0.mk (Kd.R_below HO294.out hb)
      replace HO297 := Aside0.mk (Kd.R_below HO297.out hb)
      replace HO300 := Aside0.mk (Kd.R_below HO300.out hb)
      replace HO304 := Aside0.mk (Kd.R_below HO304.out hb)
      replace HO308 := Aside0.mk (Kd.R_below HO308.out hb)
      replace BK275 := bK_ BK275 hb
      replace BK291 := bK_ BK291 hb
      replace BK301 := bK_ BK301 hb
      replace BK305 := bK_ BK305 hb
      replace HB := Aside0.mk (below_step (by repeat (first | (with_reducible first | exact HB.out | apply bA_ | apply bN_ | apply bD_ | refine bS_ ?_ GE275.out | refine bS_ ?_ GE291.out | refine bS_ ?_ GE301.out | refine bS_ ?_ GE305.out) | exact HB.out)) hb)
      (try clear hb)
      (try clear hb2)
      (try clear hk)
      (try clear hi)
      refine hK.out _ _ ((blk_cell BK291.out 0).trans rfl) (fun hHeld => ?_)
      clear hK K
      refine norm_ (a' := ?_) ?_ ?_
      rotate_left
      ·show Act.put _ (some 41) _ = _
       simp only [Act.put, sT_, sZ_, sS_, i64_w, i32_w]
       rfl
      refine pure_ (i := 3) (N := some 42) (v := ?_) (a' := ?_) (demurrageref03_Part.ups 12 15) rfl rfl (any_of HT_.out (by kernel_rfl)) (fun _ _ _ h => h) (Or.inl ⟨by rfl, ?_⟩) ?_ ?_
      rotate_left
      ·intro w'
       go_simp
       with_reducible rfl
      rotate_left
      ·simp only [Act.put, sT_, sZ_, sS_, i64_w, i32_w]
       rfl
      refine pure_ (i := 4) (N := some 43) (v := ?_) (a' := ?_) (demurrageref03_Part.ups 12 31) rfl rfl (any_of HT_.out (by kernel_rfl)) (fun _ _ _ h => h) (Or.inl ⟨by rfl, ?_⟩) ?_ ?_
      rotate_left
      ·intro w'
       go_simp
       with_reducible rfl
      rotate_left
      ·simp only [Act.put, sT_, sZ_, sS_, i64_w, i32_w]
       rfl
      refine pure_ (i := 5) (N := some 44) (v := undef) (a' := ?_) (demurrageref03_Part.ups 12 63) rfl rfl (any_of HT_.out (by kernel_rfl)) (fun _ _ _ h => h) (Or.inr ⟨by rfl, rfl⟩) ?_ ?_
      rotate_left
      ·simp only [Act.put, sT_, sZ_, sS_, i64_w, i32_w]
       rfl
      refine pure_ (i := 6) (N := some 45) (v := undef) (a' := ?_) (demurrageref03_Part.ups 12 127) rfl rfl (any_of HT_.out (by kernel_rfl)) (fun _ _ _ h => h) (Or.inr ⟨by rfl, rfl⟩) ?_ ?_
      rotate_left
      ·simp only [Act.put, sT_, sZ_, sS_, i64_w, i32_w]
       rfl
      refine pure_ (i := 7) (N := some 46) (v := undef) (a' := ?_) (demurrageref03_Part.ups 12 255) rfl rfl (any_of HT_.out (by kernel_rfl)) (fun _ _ _ h => h) (Or.inr ⟨by rfl, rfl⟩) ?_ ?_
      rotate_left
      ·simp only [Act.put, sT_, sZ_, sS_, i64_w, i32_w]
       rfl
      refine pure_ (i := 8) (N := some 47) (v := undef) (a' := ?_) (demurrageref03_Part.ups 12 511) rfl rfl (any_of HT_.out (by kernel_rfl)) (fun _ _ _ h => h) (Or.inr ⟨by rfl, rfl⟩) ?_ ?_
      rotate_left
      ·simp only [Act.put, sT_, sZ_, sS_, i64_w, i32_w]
       rfl
      refine pure_ (i := 9) (N := some 48) (v := undef) (a' := ?_) (demurrageref03_Part.ups 12 1023) rfl rfl (any_of HT_.out (by kernel_rfl)) (fun _ _ _ h => h) (Or.inr ⟨by rfl, rfl⟩) ?_ ?_
      rotate_left
      ·simp only [Act.put, sT_, sZ_, sS_, i64_w, i32_w]
       rfl
      refine pure_ (i := 10) (N := some 49) (v := undef) (a' := ?_) (demurrageref03_Part.ups 12 2047) rfl rfl (any_of HT_.out (by kernel_rfl)) (fun _ _ _ h => h) (Or.inr ⟨by rfl, rfl⟩) ?_ ?_
      rotate_left
      ·simp only [Act.put, sT_, sZ_, sS_, i64_w, i32_w]
       rfl
      refine pure_ (i := 11) (N := some 50) (v := ?_) (a' := ?_) (demurrageref03_Part.ups 12 4095) rfl rfl (any_of HT_.out (by kernel_rfl)) (fun _ _ _ h => h) (Or.inl ⟨by rfl, ?_⟩) ?_ ?_
      rotate_left
      ·intro w'
       go_simp
       with_reducible rfl
      rotate_left
      ·simp only [Act.put, sT_, sZ_, sS_, i64_w, i32_w]
       rfl
      refine done_ (done_of HT_.out (by kernel_rfl)) ?_
      try go_wp2
      go_meet
      case rel => exact ⟨_, _, (by first | rfl | (simp; done) | (simp [*]; done)), H', ⟨by have := HJ4.out; first | omega | exact Nat.le_refl _⟩, ⟨by (with_reducible repeat (first | apply Kd.R_alloc | apply Kd.R_drewN | apply Kd.R_drew)); exact Kd.R_mono HO290.out (fun _ hk => (And.intro (hk.1.2.2.2.2.2.2.1) (hk.1.2.2.2.2.2.2.2)))⟩, ⟨by (with_reducible repeat (first | apply Kd.R_alloc | apply Kd.R_drewN | apply Kd.R_drew)); exact Kd.R_mono HO300.out (fun _ hk => (And.intro (hk.1.2.2.2.2.1) (hk.1.2.2.2.2.2.2.2)))⟩, ⟨by (with_reducible repeat (first | apply Kd.R_alloc | apply Kd.R_drewN | apply Kd.R_drew)); exact Kd.R_mono HO304.out (fun _ hk => (And.intro (hk.1.2.2.2.2.1) (hk.1.2.2.2.2.2.2.2)))⟩, ⟨by exact BK275.out⟩, ⟨by exact BK291.out⟩, ⟨by exact BK301.out⟩, ⟨by exact BK305.out⟩, ⟨by repeat (first | (with_reducible first | exact HB.out | apply bA_ | apply bN_ | apply bD_ | refine bS_ ?_ GE275.out | refine bS_ ?_ GE291.out | refine bS_ ?_ GE301.out | refine bS_ ?_ GE305.out) | exact HB.out)⟩⟩
     ·rw [if_neg c54] at H
      have c54b0 : decide (0 ≤ t309) = false := decide_eq_false c54
      clear c54
      (first | rw [c54b0] | (simp only [i64_w, i32_w]; rw [c54b0]) | rw [c54b1] | skip)
      replace H := Option.bind_eq_some_iff.mp H
      obtain ⟨t310, A600, H⟩ := H
      (try dsimp only at H)
      have A60 := Aside0.mk A600
      clear A600
      replace H := Option.bind_eq_some_iff.mp H
      obtain ⟨t313, A610, H⟩ := H
      (try dsimp only at H)
      have A61 := Aside0.mk A610
      clear A610
      have H' := Aside0.mk H
      clear H
      try go_wp2
      have n0_ : Aside0 (Kd.R (Kd.int .i64) 3 (w46.setCell ⟨gb305, 0, none⟩ (.slice Ao47 t302.length co47)) w.heap.size (fun k_ => some k_ ≠ (v280 : Value).ownBlock ∧ some k_ ≠ (v283 : Value).ownBlock ∧ some k_ ≠ (v286 : Value).ownBlock ∧ some k_ ≠ (.slice Ao32 t288.length co32 : Value).ownBlock ∧ some k_ ≠ (v293 : Value).ownBlock ∧ some k_ ≠ (v296 : Value).ownBlock ∧ some k_ ≠ (.slice Ao43 t298.length co43 : Value).ownBlock ∧ some k_ ≠ (.slice Ao47 t302.length co47 : Value).ownBlock) v277 t276) := ⟨by (with_reducible repeat (first | apply Kd.R_alloc | apply Kd.R_drewN | apply Kd.R_drew)); exact Kd.R_mono (Kd.R_far (p := ⟨gb305, 0, none⟩) (Kd.R_types HO278.out BK305.out (by decide)) (fun _ hk => hk.2) (.slice Ao47 t302.length co47)) (fun _ hk => (And.intro (hk.1.1.1) ((And.intro (hk.1.1.2.1) ((And.intro (hk.1.1.2.2.1) ((And.intro (hk.1.1.2.2.2.1) ((And.intro (hk.1.1.2.2.2.2.1) ((And.intro (hk.1.1.2.2.2.2.2.1) ((And.intro (hk.1.1.2.2.2.2.2.2) (hk.1.2)))))))))))))))⟩
      have n1_ : Aside0 (Kd.R (Kd.int .i64) 3 (w46.setCell ⟨gb305, 0, none⟩ (.slice Ao47 t302.length co47)) w.heap.size (fun k_ => some k_ ≠ (v277 : Value).ownBlock ∧ some k_ ≠ (v283 : Value).ownBlock ∧ some k_ ≠ (v286 : Value).ownBlock ∧ some k_ ≠ (.slice Ao32 t288.length co32 : Value).ownBlock ∧ some k_ ≠ (v293 : Value).ownBlock ∧ some k_ ≠ (v296 : Value).ownBlock ∧ some k_ ≠ (.slice Ao43 t298.length co43 : Value).ownBlock ∧ some k_ ≠ (.slice Ao47 t302.length co47 : Value).ownBlock) v280 t279) := ⟨by (with_reducible repeat (first | apply Kd.R_alloc | apply Kd.R_drewN | apply Kd.R_drew)); exact Kd.R_mono (Kd.R_far (p := ⟨gb305, 0, none⟩) (Kd.R_types HO281.out BK305.out (by decide)) (fun _ hk => hk.2) (.slice Ao47 t302.length co47)) (fun _ hk => (And.intro (hk.1.1.1) ((And.intro (hk.1.1.2.1) ((And.intro (hk.1.1.2.2.1) ((And.intro (hk.1.1.2.2.2.1) ((And.intro (hk.1.1.2.2.2.2.1) ((And.intro (hk.1.1.2.2.2.2.2.1) ((And.intro (hk.1.1.2.2.2.2.2.2) (hk.1.2)))))))))))))))⟩
      have n2_ : Aside0 (Kd.R (Kd.int .i64) 3 (w46.setCell ⟨gb305, 0, none⟩ (.slice Ao47 t302.length co47)) w.heap.size (fun k_ => some k_ ≠ (v277 : Value).ownBlock ∧ some k_ ≠ (v280 : Value).ownBlock ∧ some k_ ≠ (v286 : Value).ownBlock ∧ some k_ ≠ (.slice Ao32 t288.length co32 : Value).ownBlock ∧ some k_ ≠ (v293 : Value).ownBlock ∧ some k_ ≠ (v296 : Value).ownBlock ∧ some k_ ≠ (.slice Ao43 t298.length co43 : Value).ownBlock ∧ some k_ ≠ (.slice Ao47 t302.length co47 : Value).ownBlock) v283 t282) := ⟨by (with_reducible repeat (first | apply Kd.R_alloc | apply Kd.R_drewN | apply Kd.R_drew)); exact Kd.R_mono (Kd.R_far (p := ⟨gb305, 0, none⟩) (Kd.R_types HO284.out BK305.out (by decide)) (fun _ hk => hk.2) (.slice Ao47 t302.length co47)) (fun _ hk => (And.intro (hk.1.1.1) ((And.intro (hk.1.1.2.1) ((And.intro (hk.1.1.2.2.1) ((And.intro (hk.1.1.2.2.2.1) ((And.intro (hk.1.1.2.2.2.2.1) ((And.intro (hk.1.1.2.2.2.2.2.1) ((And.intro (hk.1.1.2.2.2.2.2.2) (hk.1.2)))))))))))))))⟩
      have n3_ : Aside0 (Kd.R (Kd.int .i64) 3 (w46.setCell ⟨gb305, 0, none⟩ (.slice Ao47 t302.length co47)) w.heap.size (fun k_ => some k_ ≠ (v277 : Value).ownBlock ∧ some k_ ≠ (v280 : Value).ownBlock ∧ some k_ ≠ (v283 : Value).ownBlock ∧ some k_ ≠ (.slice Ao32 t288.length co32 : Value).ownBlock ∧ some k_ ≠ (v293 : Value).ownBlock ∧ some k_ ≠ (v296 : Value).ownBlock ∧ some k_ ≠ (.slice Ao43 t298.length co43 : Value).ownBlock ∧ some k_ ≠ (.slice Ao47 t302.length co47 : Value).ownBlock) v286 t285) := ⟨by (with_reducible repeat (first | apply Kd.R_alloc | apply Kd.R_drewN | apply Kd.R_drew)); exact Kd.R_mono (Kd.R_far (p := ⟨gb305, 0, none⟩) (Kd.R_types HO287.out BK305.out (by decide)) (fun _ hk => hk.2) (.slice Ao47 t302.length co47)) (fun _ hk => (And.intro (hk.1.1.1) ((And.intro (hk.1.1.2.1) ((And.intro (hk.1.1.2.2.1) ((And.intro (hk.1.1.2.2.2.1) ((And.intro (hk.1.1.2.2.2.2.1) ((And.intro (hk.1.1.2.2.2.2.2.1) ((And.intro (hk.1.1.2.2.2.2.2.2) (hk.1.2)))))))))))))))⟩
      have n4_ : Aside0 (Kd.R (Kd.int .i64) 3 (w46.setCell ⟨gb305, 0, none⟩ (.slice Ao47 t302.length co47)) w.heap.size (fun k_ => some k_ ≠ (v277 : Value).ownBlock ∧ some k_ ≠ (v280 : Value).ownBlock ∧ some k_ ≠ (v283 : Value).ownBlock ∧ some k_ ≠ (v286 : Value).ownBlock ∧ some k_ ≠ (v293 : Value).ownBlock ∧ some k_ ≠ (v296 : Value).ownBlock ∧ some k_ ≠ (.slice Ao43 t298.length co43 : Value).ownBlock ∧ some k_ ≠ (.slice Ao47 t302.length co47 : Value).ownBlock) (.slice Ao32 t288.length co32) t288) := ⟨by (with_reducible repeat (first | apply Kd.R_alloc | apply Kd.R_drewN | apply Kd.R_drew)); exact Kd.R_mono (Kd.R_far (p := ⟨gb305, 0, none⟩) (Kd.R_types HO290.out BK305.out (by decide)) (fun _ hk => hk.2) (.slice Ao47 t302.length co47)) (fun _ hk => (And.intro (hk.1.1.1) ((And.intro (hk.1.1.2.1) ((And.intro (hk.1.1.2.2.1) ((And.intro (hk.1.1.2.2.2.1) ((And.intro (hk.1.1.2.2.2.2.1) ((And.intro (hk.1.1.2.2.2.2.2.1) ((And.intro (hk.1.1.2.2.2.2.2.2) (hk.1.2)))))))))))))))⟩
      have n5_ : Aside0 (Kd.R (Kd.int .i64) 3 (w46.setCell ⟨gb305, 0, none⟩ (.slice Ao47 t302.length co47)) w.heap.size (fun k_ => some k_ ≠ (v277 : Value).ownBlock ∧ some k_ ≠ (v280 : Value).ownBlock ∧ some k_ ≠ (v283 : Value).ownBlock ∧ some k_ ≠ (v286 : Value).ownBlock ∧ some k_ ≠ (.slice Ao32 t288.length co32 : Value).ownBlock ∧ some k_ ≠ (v296 : Value).ownBlock ∧ some k_ ≠ (.slice Ao43 t298.length co43 : Value).ownBlock ∧ some k_ ≠ (.slice Ao47 t302.length co47 : Value).ownBlock) v293 t292) := ⟨by (with_reducible repeat (first | apply Kd.R_alloc | apply Kd.R_drewN | apply Kd.R_drew)); exact Kd.R_mono (Kd.R_far (p := ⟨gb305, 0, none⟩) (Kd.R_types HO294.out BK305.out (by decide)) (fun _ hk => hk.2) (.slice Ao47 t302.length co47)) (fun _ hk => (And.intro (hk.1.1.1) ((And.intro (hk.1.1.2.1) ((And.intro (hk.1.1.2.2.1) ((And.intro (hk.1.1.2.2.2.1) ((And.intro (hk.1.1.2.2.2.2.1) ((And.intro (hk.1.1.2.2.2.2.2.1) ((And.intro (hk.1.1.2.2.2.2.2.2) (hk.1.2)))))))))))))))⟩
      have n6_ : Aside0 (Kd.R (Kd.int .i64) 3 (w46.setCell ⟨gb305, 0, none⟩ (.slice Ao47 t302.length co47)) w.heap.size (fun k_ => some k_ ≠ (v277 : Value).ownBlock ∧ some k_ ≠ (v280 : Value).ownBlock ∧ some k_ ≠ (v283 : Value).ownBlock ∧ some k_ ≠ (v286 : Value).ownBlock ∧ some k_ ≠ (.slice Ao32 t288.length co32 : Value).ownBlock ∧ some k_ ≠ (v293 : Value).ownBlock ∧ some k_ ≠ (.slice Ao43 t298.length co43 : Value).ownBlock ∧ some k_ ≠ (.slice Ao47 t302.length co47 : Value).ownBlock) v296 t295) := ⟨by (with_reducible repeat (first | apply Kd.R_alloc | apply Kd.R_drewN | apply Kd.R_drew)); exact Kd.R_mono (Kd.R_far (p := ⟨gb305, 0, none⟩) (Kd.R_types HO297.out BK305.out (by decide)) (fun _ hk => hk.2) (.slice Ao47 t302.length co47)) (fun _ hk => (And.intro (hk.1.1.1) ((And.intro (hk.1.1.2.1) ((And.intro (hk.1.1.2.2.1) ((And.intro (hk.1.1.2.2.2.1) ((And.intro (hk.1.1.2.2.2.2.1) ((And.intro (hk.1.1.2.2.2.2.2.1) ((And.intro (hk.1.1.2.2.2.2.2.2) (hk.1.2)))))))))))))))⟩
      have n7_ : Aside0 (Kd.R (Kd.int .i64) 3 (w46.setCell ⟨gb305, 0, none⟩ (.slice Ao47 t302.length co47)) w.heap.size (fun k_ => some k_ ≠ (v277 : Value).ownBlock ∧ some k_ ≠ (v280 : Value).ownBlock ∧ some k_ ≠ (v283 : Value).ownBlock ∧ some k_ ≠ (v286 : Value).ownBlock ∧ some k_ ≠ (.slice Ao32 t288.length co32 : Value).ownBlock ∧ some k_ ≠ (v293 : Value).ownBlock ∧ some k_ ≠ (v296 : Value).ownBlock ∧ some k_ ≠ (.slice Ao47 t302.length co47 : Value).ownBlock) (.slice Ao43 t298.length co43) t298) := ⟨by (with_reducible repeat (first | apply Kd.R_alloc | apply Kd.R_drewN | apply Kd.R_drew)); exact Kd.R_mono (Kd.R_far (p := ⟨gb305, 0, none⟩) (Kd.R_types HO300.out BK305.out (by decide)) (fun _ hk => hk.2) (.slice Ao47 t302.length co47)) (fun _ hk => (And.intro (hk.1.1.1) ((And.intro (hk.1.1.2.1) ((And.intro (hk.1.1.2.2.1) ((And.intro (hk.1.1.2.2.2.1) ((And.intro (hk.1.1.2.2.2.2.1) ((And.intro (hk.1.1.2.2.2.2.2.1) ((And.intro (hk.1.1.2.2.2.2.2.2) (hk.1.2)))))))))))))))⟩
      have n8_ : Aside0 (Kd.R (Kd.int .i64) 3 (w46.setCell ⟨gb305, 0, none⟩ (.slice Ao47 t302.length co47)) w.heap.size (fun k_ => some k_ ≠ (v277 : Value).ownBlock ∧ some k_ ≠ (v280 : Value).ownBlock ∧ some k_ ≠ (v283 : Value).ownBlock ∧ some k_ ≠ (v286 : Value).ownBlock ∧ some k_ ≠ (.slice Ao32 t288.length co32 : Value).ownBlock ∧ some k_ ≠ (v293 : Value).ownBlock ∧ some k_ ≠ (v296 : Value).ownBlock ∧ some k_ ≠ (.slice Ao43 t298.length co43 : Value).ownBlock) (.slice Ao47 t302.length co47) t302) := ⟨by (with_reducible repeat (first | apply Kd.R_alloc | apply Kd.R_drewN | apply Kd.R_drew)); exact Kd.R_mono (Kd.R_far (p := ⟨gb305, 0, none⟩) (Kd.R_types HO304.out BK305.out (by decide)) (fun _ hk => hk.2) (.slice Ao47 t302.length co47)) (fun _ hk => (And.intro (hk.1.1.1.1.1.1.1.1.2) ((And.intro (hk.1.1.1.1.1.1.1.2) ((And.intro (hk.1.1.1.1.1.1.2) ((And.intro (hk.1.1.1.1.1.2) ((And.intro (hk.1.1.1.1.2) ((And.intro (hk.1.1.1.2) ((And.intro (hk.1.1.2) (hk.1.2)))))))))))))))⟩
      have n9_ : Aside0 ((w46.setCell ⟨gb305, 0, none⟩ (.slice Ao47 t302.length co47)).heap[gb275]? = some (.cells #[.int .i64 a2_0, .int .i64 a2_1] 42 (0, 0))) := ⟨by refine blk_far ?_ NB275_305.out _; exact BK275.out⟩
      have n10_ : Aside0 ((w46.setCell ⟨gb305, 0, none⟩ (.slice Ao47 t302.length co47)).heap[gb291]? = some (.cells #[.slice Ao32 t288.length co32] 61 (0, 0))) := ⟨by refine blk_far ?_ NB291_305.out _; exact BK291.out⟩
      have n11_ : Aside0 ((w46.setCell ⟨gb305, 0, none⟩ (.slice Ao47 t302.length co47)).heap[gb301]? = some (.cells #[.slice Ao43 t298.length co43] 61 (0, 0))) := ⟨by refine blk_far ?_ NB301_305.out _; exact BK301.out⟩
      have n12_ : Aside0 ((w46.setCell ⟨gb305, 0, none⟩ (.slice Ao47 t302.length co47)).heap[gb305]? = some (.cells #[.slice Ao47 t302.length co47] 61 (0, 0))) := ⟨by refine blk_put (cs := #[.slice none 0 0]) ?_ 0 _ rfl; exact BK305.out⟩
      have n13_ : Aside0 (Below w.heap.size w (w46.setCell ⟨gb305, 0, none⟩ (.slice Ao47 t302.length co47))) := ⟨by repeat (first | (with_reducible first | exact HB.out | apply bA_ | apply bN_ | apply bD_ | refine bS_ ?_ GE275.out | refine bS_ ?_ GE291.out | refine bS_ ?_ GE301.out | refine bS_ ?_ GE305.out) | exact HB.out)⟩
      (try clear HO278)
      (try clear HO281)
      (try clear HO284)
      (try clear HO287)
      (try clear HO290)
      (try clear HO294)
      (try clear HO297)
      (try clear HO300)
      (try clear HO304)
      (try clear BK275)
      (try clear BK291)
      (try clear BK301)
      (try clear BK305)
      (try clear HB)
      generalize (w46.setCell ⟨gb305, 0, none⟩ (.slice Ao47 t302.length co47)) = w62 at n0_ n1_ n2_ n3_ n4_ n5_ n6_ n7_ n8_ n9_ n10_ n11_ n12_ n13_ ⊢
      have HO278 := n0_
      have HO281 := n1_
      have HO284 := n2_
      have HO287 := n3_
      have HO290 := n4_
      have HO294 := n5_
      have HO297 := n6_
      have HO300 := n7_
      have HO304 := n8_
      have BK275 := n9_
      have BK291 := n10_
      have BK301 := n11_
      have BK305 := n12_
      have HB := n13_
      clear n0_ n1_ n2_ n3_ n4_ n5_ n6_ n7_ n8_ n9_ n10_ n11_ n12_ n13_
      replace HO278 := Aside0.mk (Kd.R_drew HO278.out)
      replace HO281 := Aside0.mk (Kd.R_drew HO281.out)
      replace HO284 := Aside0.mk (Kd.R_drew HO284.out)
      replace HO287 := Aside0.mk (Kd.R_drew HO287.out)
      replace HO290 := Aside0.mk (Kd.R_drew HO290.out)
      replace HO294 := Aside0.mk (Kd.R_drew HO294.out)
      replace HO297 := Aside0.mk (Kd.R_drew HO297.out)
      replace HO300 := Aside0.mk (Kd.R_drew HO300.out)
      replace HO304 := Aside0.mk (Kd.R_drew HO304.out)
      replace BK275 := Aside0.mk (blk_drew BK275.out)
      replace BK291 := Aside0.mk (blk_drew BK291.out)
      replace BK301 := Aside0.mk (blk_drew BK301.out)
      replace BK305 := Aside0.mk (blk_drew BK305.out)
      replace HB := Aside0.mk (below_drew1 HB.out)
      refine start_ (n := 12) (S := fun w' => w'.cell? ⟨gb291, 0, none⟩ = some (.slice Ao32 t288.length co32) ∧ w'.cell? ⟨gb301, 0, none⟩ = some (.slice Ao43 t298.length co43) ∧ w'.cell? ⟨gb305, 0, none⟩ = some (.slice Ao47 t302.length co47)) (ds := []) (demurrageref03_Part.ups 12 0) (by kernel_rfl) rfl rfl ⟨(blk_cell BK291.out 0).trans rfl, (blk_cell BK301.out 0).trans rfl, (blk_cell BK305.out 0).trans rfl⟩ (fun hHeld => ?_); refine with_tabW demurrageref03_Part.tab6 demurrageref03_Part.bits6 (fun HT_ HW_ => ?_)
      generalize w62.drew = w63 at HO278 HO281 HO284 HO287 HO290 HO294 HO297 HO300 HO304 BK275 BK291 BK301 BK305 HB hHeld ⊢
      refine take_ (i := 0) (N := some 39) (v := ?_) (a' := ?_) (demurrageref03_Part.ups 12 1) rfl rfl (take_ofW HT_.out HW_.out (by kernel_rfl)) (fun _ _ _ h => h) (Or.inl ⟨by rfl, ?_⟩) hHeld ?_ ?_
      rotate_left
      ·rintro w' ⟨s0, s1, s2⟩
       go_simp
       with_reducible rfl
      rotate_left
      ·simp only [Act.put, sT_, sZ_, sS_, i64_w, i32_w]
       rfl
      refine one_ (i := 1) (N := some 40) (demurrageref03_Part.ups 12 3) rfl rfl (one_of HT_.out (by kernel_rfl)) (by decide) (fun K hK => ?_)
      refine goes_ Try.func33 (by kernel_rfl) rfl #[] (by rfl) rfl rfl (by (try simp only [List.map_toArray, List.map_cons, List.map_nil]); first | done | rfl) ?_
      with_reducible refine (demurrageref01_Limit.calls kj4  t306 _ A52.out).mono ?_
      rintro e w64 ⟨v307, rfl, ho0, hb⟩
      refine ⟨_, rfl, ?_⟩
      have HO308 := Aside0.mk (Kd.R_lower (Kd.R_new' (Kd.R_new' (Kd.R_new' (Kd.R_new' (Kd.R_new' (Kd.R_new' (Kd.R_new' (Kd.R_new' (Kd.R_new' ho0 (Kd.R_lt HO278.out)) (Kd.R_lt HO281.out)) (Kd.R_lt HO284.out)) (Kd.R_lt HO287.out)) (Kd.R_lt HO290.out)) (Kd.R_lt HO294.out)) (Kd.R_lt HO297.out)) (Kd.R_lt HO300.out)) (Kd.R_lt HO304.out)) (below_size (by repeat (first | (with_reducible first | exact HB.out | apply bA_ | apply bN_ | apply bD_ | refine bS_ ?_ GE275.out | refine bS_ ?_ GE291.out | refine bS_ ?_ GE301.out | refine bS_ ?_ GE305.out) | exact HB.out))))
      replace HO278 := Aside0.mk (Kd.R_elder' HO278.out (Kd.R_base ho0) hb)
      replace HO281 := Aside0.mk (Kd.R_elder' HO281.out (Kd.R_base ho0) hb)
      replace HO284 := Aside0.mk (Kd.R_elder' HO284.out (Kd.R_base ho0) hb)
      replace HO287 := Aside0.mk (Kd.R_elder' HO287.out (Kd.R_base ho0) hb)
      replace HO290 := Aside0.mk (Kd.R_elder' HO290.out (Kd.R_base ho0) hb)
      replace HO294 := Aside0.mk (Kd.R_elder' HO294.out (Kd.R_base ho0) hb)
      replace HO297 := Aside0.mk (Kd.R_elder' HO297.out (Kd.R_base ho0) hb)
      replace HO300 := Aside0.mk (Kd.R_elder' HO300.out (Kd.R_base ho0) hb)
      replace HO304 := Aside0.mk (Kd.R_elder' HO304.out (Kd.R_base ho0) hb)
      replace BK275 := bK_ BK275 hb
      replace BK291 := bK_ BK291 hb
      replace BK301 := bK_ BK301 hb
      replace BK305 := bK_ BK305 hb
      replace HB := Aside0.mk (below_step (by repeat (first | (with_reducible first | exact HB.out | apply bA_ | apply bN_ | apply bD_ | refine bS_ ?_ GE275.out | refine bS_ ?_ GE291.out | refine bS_ ?_ GE301.out | refine bS_ ?_ GE305.out) | exact HB.out)) hb)
      (try clear hb)
      (try clear hb2)
      (try clear hk)
      (try clear hi)
      (try clear ho0)
      obtain ⟨Ao65, co65, eo65⟩ := Kd.R_slice HO308.out
      (first | subst eo65 | (injection eo65 with f1_ f2_ f3_; have f4_ := f1_.symm; have f5_ := f3_.symm; clear f1_ f2_ f3_; subst f4_; subst f5_))
      refine hK.out _ _ ⟨(blk_cell BK291.out 0).trans rfl, (blk_cell BK301.out 0).trans rfl, (blk_cell BK305.out 0).trans rfl⟩ (fun hHeld => ?_)
      clear hK K
      refine norm_ (a' := ?_) ?_ ?_
      rotate_left
      ·show Act.put _ (some 40) _ = _
       simp only [Act.put, sT_, sZ_, sS_, i64_w, i32_w]
       rfl
      refine one_ (i := 2) (N := some 41) (demurrageref03_Part.ups 12 7) rfl rfl (one_of HT_.out (by kernel_rfl)) (by decide) (fun K hK => ?_)
      refine goes_ Try.func32 (by kernel_rfl) rfl #[.agg #[.slice Ao32 t288.length co32], .agg #[.slice Ao65 t306.length co65]] (by rfl) rfl rfl (by (try simp only [List.map_toArray, List.map_cons, List.map_nil]); first | done | rfl) ?_
      with_reducible refine (demurrageref01_Cmp.calls kj4 _ _ t288 _ _ t306 t309 _ ?side1 ?side2 ?side3 ?side4 A53.out).mono ?_
      (case side1 => repeat (first | exact (Kd.R_reads' HO290.out).2.2 | (with_reducible refine Kd.C_alloc ?_ _) | (with_reducible refine Kd.C_drewN ?_ _) | (with_reducible refine Kd.C_drew ?_)))
      (case side2 => exact (Kd.R_reads' HO290.out).2.1)
      (case side3 => repeat (first | exact (Kd.R_reads' HO308.out).2.2 | (with_reducible refine Kd.C_alloc ?_ _) | (with_reducible refine Kd.C_drewN ?_ _) | (with_reducible refine Kd.C_drew ?_)))
      (case side4 => exact (Kd.R_reads' HO308.out).2.1)
      rintro e w66 ⟨rfl, hb⟩
      refine ⟨_, rfl, ?_⟩
      replace HO278 := Aside0.mk (Kd.R_below HO278.out hb)
      replace HO281 := Aside0.mk (Kd.R_below HO281.out hb)
      replace HO284 := Aside0.mk (Kd.R_below HO284.out hb)
      replace HO287 := Aside0.mk (Kd.R_below HO287.out hb)
      replace HO290 := Aside0.mk (Kd.R_below HO290.out hb)
      replace HO294 := Aside0.mk (Kd.R_below HO294.out hb)
      replace HO297 := Aside0.mk (Kd.R_below HO297.out hb)
      replace HO300 := Aside0.mk (Kd.R_below HO300.out hb)
      replace HO304 := Aside0.mk (Kd.R_below HO304.out hb)
      replace HO308 := Aside0.mk (Kd.R_below HO308.out hb)
      replace BK275 := bK_ BK275 hb
      replace BK291 := bK_ BK291 hb
      replace BK301 := bK_ BK301 hb
      replace BK305 := bK_ BK305 hb
      replace HB := Aside0.mk (below_step (by repeat (first | (with_reducible first | exact HB.out | apply bA_ | apply bN_ | apply bD_ | refine bS_ ?_ GE275.out | refine bS_ ?_ GE291.out | refine bS_ ?_ GE301.out | refine bS_ ?_ GE305.out) | exact HB.out)) hb)
      (try clear hb)
      (try clear hb2)
      (try clear hk)
      (try clear hi)
      refine hK.out _ _ ⟨(blk_cell BK291.out 0).trans rfl, (blk_cell BK301.out 0).trans rfl, (blk_cell BK305.out 0).trans rfl⟩ (fun hHeld => ?_)
      clear hK K
      refine norm_ (a' := ?_) ?_ ?_
      rotate_left
      ·show Act.put _ (some 41) _ = _
       simp only [Act.put, sT_, sZ_, sS_, i64_w, i32_w]
       rfl
      refine pure_ (i := 3) (N := some 42) (v := ?_) (a' := ?_) (demurrageref03_Part.ups 12 15) rfl rfl (any_of HT_.out (by kernel_rfl)) (fun _ _ _ h => h) (Or.inl ⟨by rfl, ?_⟩) ?_ ?_
      rotate_left
      ·intro w'
       go_simp
       with_reducible rfl
      rotate_left
      ·simp only [Act.put, sT_, sZ_, sS_, i64_w, i32_w]
       rfl
      refine pure_ (i := 4) (N := some 43) (v := ?_) (a' := ?_) (demurrageref03_Part.ups 12 31) rfl rfl (any_of HT_.out (by kernel_rfl)) (fun _ _ _ h => h) (Or.inl ⟨by rfl, ?_⟩) ?_ ?_
      rotate_left
      ·intro w'
       go_simp
       with_reducible rfl
      rotate_left
      ·simp only [Act.put, sT_, sZ_, sS_, i64_w, i32_w]
       rfl
      refine take_ (i := 5) (N := some 44) (v := ?_) (a' := ?_) (demurrageref03_Part.ups 12 63) rfl rfl (take_ofW HT_.out HW_.out (by kernel_rfl)) (fun _ _ _ h => h) (Or.inl ⟨by rfl, ?_⟩) hHeld ?_ ?_
      rotate_left
      ·rintro w' ⟨s0, s1, s2⟩
       go_simp
       with_reducible rfl
      rotate_left
      ·simp only [Act.put, sT_, sZ_, sS_, i64_w, i32_w]
       rfl
      refine take_ (i := 6) (N := some 45) (v := ?_) (a' := ?_) (demurrageref03_Part.ups 12 127) rfl rfl (take_ofW HT_.out HW_.out (by kernel_rfl)) (fun _ _ _ h => h) (Or.inl ⟨by rfl, ?_⟩) hHeld ?_ ?_
      rotate_left
      ·rintro w' ⟨s0, s1, s2⟩
       go_simp
       with_reducible rfl
      rotate_left
      ·simp only [Act.put, sT_, sZ_, sS_, i64_w, i32_w]
       rfl
      refine take_ (i := 7) (N := some 46) (v := ?_) (a' := ?_) (demurrageref03_Part.ups 12 255) rfl rfl (take_ofW HT_.out HW_.out (by kernel_rfl)) (fun _ _ _ h => h) (Or.inl ⟨by rfl, ?_⟩) hHeld ?_ ?_
      rotate_left
      ·rintro w' ⟨s0, s1, s2⟩
       go_simp
       with_reducible rfl
      rotate_left
      ·simp only [Act.put, sT_, sZ_, sS_, i64_w, i32_w]
       rfl
      refine one_ (i := 8) (N := some 47) (demurrageref03_Part.ups 12 511) rfl rfl (one_of HT_.out (by kernel_rfl)) (by decide) (fun K hK => ?_)
      refine goes_ Try.func29 (by kernel_rfl) rfl #[.agg #[.slice Ao47 t302.length co47], .agg #[.slice Ao47 t302.length co47]] (by rfl) rfl rfl (by (try simp only [List.map_toArray, List.map_cons, List.map_nil]); first | done | rfl) ?_
      with_reducible refine (demurrageref01_Prod.calls kj4 _ _ t302 _ _ t302 t310 _ ?side1 ?side2 ?side3 ?side4 A60.out).mono ?_
      (case side1 => repeat (first | exact (Kd.R_reads' HO304.out).2.2 | (with_reducible refine Kd.C_alloc ?_ _) | (with_reducible refine Kd.C_drewN ?_ _) | (with_reducible refine Kd.C_drew ?_)))
      (case side2 => exact (Kd.R_reads' HO304.out).2.1)
      (case side3 => repeat (first | exact (Kd.R_reads' HO304.out).2.2 | (with_reducible refine Kd.C_alloc ?_ _) | (with_reducible refine Kd.C_drewN ?_ _) | (with_reducible refine Kd.C_drew ?_)))
      (case side4 => exact (Kd.R_reads' HO304.out).2.1)
      rintro e w67 ⟨v311, rfl, ho0, hb⟩
      refine ⟨_, rfl, ?_⟩
      have HO312 := Aside0.mk (Kd.R_lower (Kd.R_new' (Kd.R_new' (Kd.R_new' (Kd.R_new' (Kd.R_new' (Kd.R_new' (Kd.R_new' (Kd.R_new' (Kd.R_new' (Kd.R_new' ho0 (Kd.R_lt HO278.out)) (Kd.R_lt HO281.out)) (Kd.R_lt HO284.out)) (Kd.R_lt HO287.out)) (Kd.R_lt HO290.out)) (Kd.R_lt HO294.out)) (Kd.R_lt HO297.out)) (Kd.R_lt HO300.out)) (Kd.R_lt HO304.out)) (Kd.R_lt HO308.out)) (below_size (by repeat (first | (with_reducible first | exact HB.out | apply bA_ | apply bN_ | apply bD_ | refine bS_ ?_ GE275.out | refine bS_ ?_ GE291.out | refine bS_ ?_ GE301.out | refine bS_ ?_ GE305.out) | exact HB.out))))
      replace HO278 := Aside0.mk (Kd.R_elder' HO278.out (Kd.R_base ho0) hb)
      replace HO281 := Aside0.mk (Kd.R_elder' HO281.out (Kd.R_base ho0) hb)
      replace HO284 := Aside0.mk (Kd.R_elder' HO284.out (Kd.R_base ho0) hb)
      replace HO287 := Aside0.mk (Kd.R_elder' HO287.out (Kd.R_base ho0) hb)
      replace HO290 := Aside0.mk (Kd.R_elder' HO290.out (Kd.R_base ho0) hb)
      replace HO294 := Aside0.mk (Kd.R_elder' HO294.out (Kd.R_base ho0) hb)
      replace HO297 := Aside0.mk (Kd.R_elder' HO297.out (Kd.R_base ho0) hb)
      replace HO300 := Aside0.mk (Kd.R_elder' HO300.out (Kd.R_base ho0) hb)
      replace HO304 := Aside0.mk (Kd.R_elder' HO304.out (Kd.R_base ho0) hb)
      replace HO308 := Aside0.mk (Kd.R_elder' HO308.out (Kd.R_base ho0) hb)
      replace BK275 := bK_ BK275 hb
      replace BK291 := bK_ BK291 hb
      replace BK301 := bK_ BK301 hb
      replace BK305 := bK_ BK305 hb
      replace HB := Aside0.mk (below_step (by repeat (first | (with_reducible first | exact HB.out | apply bA_ | apply bN_ | apply bD_ | refine bS_ ?_ GE275.out | refine bS_ ?_ GE291.out | refine bS_ ?_ GE301.out | refine bS_ ?_ GE305.out) | exact HB.out)) hb)
      (try clear hb)
      (try clear hb2)
      (try clear hk)
      (try clear hi)
      (try clear ho0)
      obtain ⟨Ao68, co68, eo68⟩ := Kd.R_slice HO312.out
      (first | subst eo68 | (injection eo68 with f1_ f2_ f3_; have f4_ := f1_.symm; have f5_ := f3_.symm; clear f1_ f2_ f3_; subst f4_; subst f5_))
      refine hK.out _ _ ⟨(blk_cell BK291.out 0).trans rfl, (blk_cell BK301.out 0).trans rfl, (blk_cell BK305.out 0).trans rfl⟩ (fun hHeld => ?_)
      clear hK K
      refine norm_ (a' := ?_) ?_ ?_
      rotate_left
      ·show Act.put _ (some 47) _ = _
       simp only [Act.put, sT_, sZ_, sS_, i64_w, i32_w]
       rfl
      refine one_ (i := 9) (N := some 48) (demurrageref03_Part.ups 12 1023) rfl rfl (one_of HT_.out (by kernel_rfl)) (by decide) (fun K hK => ?_)
      refine goes_ Try.func32 (by kernel_rfl) rfl #[.agg #[.slice Ao43 t298.length co43], .agg #[.slice Ao68 t310.length co68]] (by rfl) rfl rfl (by (try simp only [List.map_toArray, List.map_cons, List.map_nil]); first | done | rfl) ?_
      with_reducible refine (demurrageref01_Cmp.calls kj4 _ _ t298 _ _ t310 t313 _ ?side1 ?side2 ?side3 ?side4 A61.out).mono ?_
      (case side1 => repeat (first | exact (Kd.R_reads' HO300.out).2.2 | (with_reducible refine Kd.C_alloc ?_ _) | (with_reducible refine Kd.C_drewN ?_ _) | (with_reducible refine Kd.C_drew ?_)))
      (case side2 => exact (Kd.R_reads' HO300.out).2.1)
      (case side3 => repeat (first | exact (Kd.R_reads' HO312.out).2.2 | (with_reducible refine Kd.C_alloc ?_ _) | (with_reducible refine Kd.C_drewN ?_ _) | (with_reducible refine Kd.C_drew ?_)))
      (case side4 => exact (Kd.R_reads' HO312.out).2.1)
      rintro e w69 ⟨rfl, hb⟩
      refine ⟨_, rfl, ?_⟩
      replace HO278 := Aside0.mk (Kd.R_below HO278.out hb)
      replace HO281 := Aside0.mk (Kd.R_below HO281.out hb)
      replace HO284 := Aside0.mk (Kd.R_below HO284.out hb)
      replace HO287 := Aside0.mk (Kd.R_below HO287.out hb)
      replace HO290 := Aside0.mk (Kd.R_below HO290.out hb)
      replace HO294 := Aside0.mk (Kd.R_below HO294.out hb)
      replace HO297 := Aside0.mk (Kd.R_below HO297.out hb)
      replace HO300 := Aside0.mk (Kd.R_below HO300.out hb)
      replace HO304 := Aside0.mk (Kd.R_below HO304.out hb)
      replace HO308 := Aside0.mk (Kd.R_below HO308.out hb)
      replace HO312 := Aside0.mk (Kd.R_below HO312.out hb)
      replace BK275 := bK_ BK275 hb
      replace BK291 := bK_ BK291 hb
      replace BK301 := bK_ BK301 hb
      replace BK305 := bK_ BK305 hb
      replace HB := Aside0.mk (below_step (by repeat (first | (with_reducible first | exact HB.out | apply bA_ | apply bN_ | apply bD_ | refine bS_ ?_ GE275.out | refine bS_ ?_ GE291.out | refine bS_ ?_ GE301.out | refine bS_ ?_ GE305.out) | exact HB.out)) hb)
      (try clear hb)
      (try clear hb2)
      (try clear hk)
      (try clear hi)
      refine hK.out _ _ ⟨(blk_cell BK291.out 0).trans rfl, (blk_cell BK301.out 0).trans rfl, (blk_cell BK305.out 0).trans rfl⟩ (fun hHeld => ?_)
      clear hK K
      refine norm_ (a' := ?_) ?_ ?_
      rotate_left
      ·show Act.put _ (some 48) _ = _
       simp only [Act.put, sT_, sZ_, sS_, i64_w, i32_w]
       rfl
      refine pure_ (i := 10) (N := some 49) (v := ?_) (a' := ?_) (demurrageref03_Part.ups 12 2047) rfl rfl (any_of HT_.out (by kernel_rfl)) (fun _ _ _ h => h) (Or.inl ⟨by rfl, ?_⟩) ?_ ?_
      rotate_left
      ·intro w'
       go_simp
       with_reducible rfl
      rotate_left
      ·simp only [Act.put, sT_, sZ_, sS_, i64_w, i32_w]
       rfl
      refine pure_ (i := 11) (N := some 50) (v := ?_) (a' := ?_) (demurrageref03_Part.ups 12 4095) rfl rfl (any_of HT_.out (by kernel_rfl)) (fun _ _ _ h => h) (Or.inl ⟨by rfl, ?_⟩) ?_ ?_
      rotate_left
      ·intro w'
       go_simp
       with_reducible rfl
      rotate_left
      ·simp only [Act.put, sT_, sZ_, sS_, i64_w, i32_w]
       rfl
      refine done_ (done_of HT_.out (by kernel_rfl)) ?_
      try go_wp2
      go_meet
      case rel => exact ⟨_, (decide (t313 ≥ 0)), (by first | rfl | (simp; done) | (simp [*]; done)), H', ⟨by have := HJ4.out; first | omega | exact Nat.le_refl _⟩, ⟨by (with_reducible repeat (first | apply Kd.R_alloc | apply Kd.R_drewN | apply Kd.R_drew)); exact Kd.R_mono HO290.out (fun _ hk => (And.intro (hk.1.1.2.2.2.2.2.2.1) (hk.1.1.2.2.2.2.2.2.2)))⟩, ⟨by (with_reducible repeat (first | apply Kd.R_alloc | apply Kd.R_drewN | apply Kd.R_drew)); exact Kd.R_mono HO300.out (fun _ hk => (And.intro (hk.1.1.2.2.2.2.1) (hk.1.1.2.2.2.2.2.2.2)))⟩, ⟨by (with_reducible repeat (first | apply Kd.R_alloc | apply Kd.R_drewN | apply Kd.R_drew)); exact Kd.R_mono HO304.out (fun _ hk => (And.intro (hk.1.1.2.2.2.2.1) (hk.1.1.2.2.2.2.2.2.2)))⟩, ⟨by exact BK275.out⟩, ⟨by exact BK291.out⟩, ⟨by exact BK301.out⟩, ⟨by exact BK305.out⟩, ⟨by repeat (first | (with_reducible first | exact HB.out | apply bA_ | apply bN_ | apply bD_ | refine bS_ ?_ GE275.out | refine bS_ ?_ GE291.out | refine bS_ ?_ GE301.out | refine bS_ ?_ GE305.out) | exact HB.out)⟩⟩
    case rest =>
     clear HC19
     try clear c2
     try clear p2
     try clear c3
     try clear c5
     try clear c29
     try clear c32
     try clear c33
     try clear c54
     try clear c54b0
     try clear c54b1
     obtain ⟨kq, x50_18, rfl, HA, HJ18, HO_292000, HO_302000, HO_306000, BK275, BK291, BK301, BK305, HB⟩ := hcut
     cases kq with
     | zero => exact absurd HA.out (by simp [demurrageref03_Part.j1])
     | succ kj18 =>
      have H := HA.out
      clear HA
      simp only [demurrageref03_Part.j1] at H
      by_cases c70 : x50_18 = true
      ·subst c70
       rw [if_pos rfl] at H
       simp only [Option.some.injEq, Prod.mk.injEq] at H
       obtain ⟨rfl, rfl⟩ := H
       go_wp2
       go_ret2
       exact ⟨by rfl, by repeat (first | (with_reducible first | exact HB.out | apply bA_ | apply bN_ | apply bD_ | refine bS_ ?_ GE275.out | refine bS_ ?_ GE291.out | refine bS_ ?_ GE301.out | refine bS_ ?_ GE305.out) | exact HB.out)⟩
      ·replace c70 := Bool.eq_false_iff.mpr c70
       subst c70
       rw [if_neg (show ¬ (false = true) by decide)] at H
       replace H := Option.bind_eq_some_iff.mp H
       obtain ⟨t314, A710, H⟩ := H
       (try dsimp only at H)
       have A71 := Aside0.mk A710
       clear A710
       replace H := Option.bind_eq_some_iff.mp H
       obtain ⟨⟨t317, t318⟩, A720, H⟩ := H
       (try dsimp only at H)
       have A72 := Aside0.mk A720
       clear A720
       simp only [Option.some.injEq, Prod.mk.injEq] at H
       obtain ⟨rfl, rfl⟩ := H
       have hnb73 := NB291_275.out
       have hnc73 := NB275_291.out
       have hnb74 := NB291_301.out
       have hnc74 := NB301_291.out
       have hnb75 := NB291_305.out
       have hnc75 := NB305_291.out
       have hcz76_0 : wc.cell? ⟨gb291, 0, none⟩ = some (.slice Ao32 t288.length co32) := (blk_cell BK291.out 0).trans rfl
       have hfz76_0 := blk_frozen BK291.out 0
       have hnb77 := NB301_275.out
       have hnc77 := NB275_301.out
       have hnb78 := NB301_305.out
       have hnc78 := NB305_301.out
       have hcz79_0 : wc.cell? ⟨gb301, 0, none⟩ = some (.slice Ao43 t298.length co43) := (blk_cell BK301.out 0).trans rfl
       have hfz79_0 := blk_frozen BK301.out 0
       go_wp2_with (first | ((with_reducible refine gate_callee (f := 35) rfl ?_); refine goesL_ (some 53) rfl rfl Try.func35 (by kernel_rfl) rfl #[.agg #[.slice Ao32 t288.length co32], .agg #[.slice Ao43 t298.length co43]] rfl (by (try simp only [List.map_toArray, List.map_cons, List.map_nil]); first | done | rfl) ?_; (with_reducible refine (demurrageref03_Near.calls kj18 _ _ t288 _ _ t298 t314 _ ?side1 ?side2 ?side3 ?side4 A71.out).mono ?_); (case side1 => repeat (first | exact (Kd.R_reads' HO_292000.out).2.2 | (with_reducible refine Kd.C_alloc ?_ _) | (with_reducible refine Kd.C_drewN ?_ _) | (with_reducible refine Kd.C_drew ?_))); (case side2 => exact (Kd.R_reads' HO_292000.out).2.1); (case side3 => repeat (first | exact (Kd.R_reads' HO_302000.out).2.2 | (with_reducible refine Kd.C_alloc ?_ _) | (with_reducible refine Kd.C_drewN ?_ _) | (with_reducible refine Kd.C_drew ?_))); (case side4 => exact (Kd.R_reads' HO_302000.out).2.1); rintro e w80 ⟨v315, rfl, ho0, hb⟩; refine ⟨_, rfl, ?_⟩; have HO316 := Aside0.mk (Kd.R_lower (Kd.R_new' (Kd.R_new' (Kd.R_new' ho0 (Kd.R_lt HO_292000.out)) (Kd.R_lt HO_302000.out)) (Kd.R_lt HO_306000.out)) (below_size (by repeat (first | (with_reducible first | exact HB.out | apply bA_ | apply bN_ | apply bD_ | refine bS_ ?_ GE275.out | refine bS_ ?_ GE291.out | refine bS_ ?_ GE301.out | refine bS_ ?_ GE305.out) | exact HB.out)))); replace HO_292000 := Aside0.mk (Kd.R_elder' HO_292000.out (Kd.R_base ho0) hb); replace HO_302000 := Aside0.mk (Kd.R_elder' HO_302000.out (Kd.R_base ho0) hb); replace HO_306000 := Aside0.mk (Kd.R_elder' HO_306000.out (Kd.R_base ho0) hb); replace BK275 := bK_ BK275 hb; replace BK291 := bK_ BK291 hb; replace BK301 := bK_ BK301 hb; replace BK305 := bK_ BK305 hb; replace HB := Aside0.mk (below_step (by repeat (first | (with_reducible first | exact HB.out | apply bA_ | apply bN_ | apply bD_ | refine bS_ ?_ GE275.out | refine bS_ ?_ GE291.out | refine bS_ ?_ GE301.out | refine bS_ ?_ GE305.out) | exact HB.out)) hb); (try clear hb); (try clear ho0); obtain ⟨Ao81, co81, eo81⟩ := Kd.R_slice HO316.out; subst eo81) | ((with_reducible refine gate_callee (f := 34) rfl ?_); refine goesL_ (some 54) rfl rfl Try.func34 (by kernel_rfl) rfl #[.agg #[.slice Ao81 t314.length co81]] rfl (by (try simp only [List.map_toArray, List.map_cons, List.map_nil]); first | done | rfl) ?_; (with_reducible refine (demurrageref03_told.calls kj18 _ _ t314 t317 t318 _ ?side1 ?side2 A72.out).mono ?_); (case side1 => repeat (first | exact (Kd.R_reads' HO316.out).2.2 | (with_reducible refine Kd.C_alloc ?_ _) | (with_reducible refine Kd.C_drewN ?_ _) | (with_reducible refine Kd.C_drew ?_))); (case side2 => exact (Kd.R_reads' HO316.out).2.1); rintro e w82 ⟨rfl, hb⟩; refine ⟨_, rfl, ?_⟩; replace HO_292000 := Aside0.mk (Kd.R_below HO_292000.out hb); replace HO_302000 := Aside0.mk (Kd.R_below HO_302000.out hb); replace HO_306000 := Aside0.mk (Kd.R_below HO_306000.out hb); replace HO316 := Aside0.mk (Kd.R_below HO316.out hb); replace BK275 := bK_ BK275 hb; replace BK291 := bK_ BK291 hb; replace BK301 := bK_ BK301 hb; replace BK305 := bK_ BK305 hb; replace HB := Aside0.mk (below_step (by repeat (first | (with_reducible first | exact HB.out | apply bA_ | apply bN_ | apply bD_ | refine bS_ ?_ GE275.out | refine bS_ ?_ GE291.out | refine bS_ ?_ GE301.out | refine bS_ ?_ GE305.out) | exact HB.out)) hb); (try clear hb)))
       go_ret2
       exact ⟨by rfl, by repeat (first | (with_reducible first | exact HB.out | apply bA_ | apply bN_ | apply bD_ | refine bS_ ?_ GE275.out | refine bS_ ?_ GE291.out | refine bS_ ?_ GE301.out | refine bS_ ?_ GE305.out) | exact HB.out)⟩

end Go.Proofs.Ytlppmfffdjfekaa.X
