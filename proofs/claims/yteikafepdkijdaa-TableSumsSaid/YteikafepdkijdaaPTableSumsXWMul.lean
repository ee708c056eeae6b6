-- cut by prune.py, a program of this session
import Derived.Test.YteikafepdkijdaaPTableSumsX0
import Derived.Test.YteikafepdkijdaaPTableSumsHAdd
import Derived.Test.YteikafepdkijdaaPTableSumsHBits
namespace Go.Proofs.Yteikafepdkijdaa.X
open Go.RowKit Go.Proofs.YteikafepdkijdaaW.PrintWords Go.Proofs.YteikafepdkijdaaW.PrintLast Go.Proofs.YteikafepdkijdaaW.PrintMore
attribute [local go_sem] max2_int min2_int max_two min_two
set_option linter.unusedVariables false
set_option linter.unusedSimpArgs false

def wide_Times.upsl : Nat → Nat → List Bool
 | 0, _ => []
 | n + 1, m => (m % 2 == 1) :: wide_Times.upsl n (m / 2)
def wide_Times.ups (n m : Nat) : Array Bool := ⟨wide_Times.upsl n m⟩

def wide_Mul.f (a0 : Int) (a1 : Int) : Option (Int × Int) := (bits_Mul64.f a0 a1).bind fun bt109 => (some (bt109.1, bt109.2))
set_option maxHeartbeats 8000000 in
set_option maxRecDepth 100000 in
theorem wide_Mul.calls (a0 : Int) (a1 : Int) (r1 : Int) (r2 : Int) (w : World) (h : wide_Mul.f a0 a1 = some (r1, r2)) :
  Calls Try.prog 77 #[.int .u64 a0, .int .u64 a1] w fun e w' => e = .returned (.agg #[.int .u64 r1, .int .u64 r2]) ∧ Below w.heap.size w w' := by
 have hu128 := Try.underlying128
 have HB := aA_ (Below.refl w.heap.size w)
 have H : ((bits_Mul64.f a0 a1).bind fun bt109 => (some (bt109.1, bt109.2))) = some (r1, r2) := h
 clear h
 replace H := bI_ H
 obtain ⟨⟨t109, t110⟩, A30, H⟩ := H
 (try dsimp only at H)
 have A3 := aA_ A30
 clear A30
 simp only [Option.some.injEq, Prod.mk.injEq] at H
 obtain ⟨rfl, rfl⟩ := H
 go_enter Try.func77, Try.ntmps77
 go_wp2_with (first | (refine box_event rfl (N := 4) rfl (cs := #[.int .u64 0, .int .u64 0]) (t := 128) ?hr ?_; (case hr => go_simp <;> rfl); intro gb108 hg w4 hbox hb; have BK108 := aA_ (hbox); have GW108 := gW_ hg (by repeat (with_reducible first | exact HB.out | apply bA_ | apply bN_ | apply bD_)); have GE108 := GW108; replace HB := bB_ (by repeat (with_reducible first | exact HB.out | apply bA_ | apply bN_ | apply bD_)) hb; clear hb hbox hg) | (refine goesL_ (some 10) rfl rfl Try.func81 (by kernel_rfl) rfl #[.int .u64 a0, .int .u64 a1] rfl (by (try simp only [mT_, mC_, mN_]); first | done | rfl) ?_; (with_reducible refine (bits_Mul64.calls a0 a1 t109 t110 _ A3.out).mono ?_); rintro e w' ⟨rfl, ⟨nd, rfl⟩⟩; refine ⟨_, rfl, ?_⟩; (try (rw [drewN_self w4]; generalize hq_ : World.drewN w4 _ = w4; have n0_ : Aside0 (w4.heap[gb108]? = some (.cells #[.int .u64 0, .int .u64 0] 128 (0, 0))) := ⟨by rw [← hq_]; exact BK108.out⟩; have n1_ : Aside0 (Below w.heap.size w w4) := ⟨by rw [← hq_]; exact (by repeat (with_reducible first | exact HB.out | apply bA_ | apply bN_ | apply bD_ | refine bS_ ?_ GE108.out))⟩; clear BK108 HB hq_; have BK108 := n0_; have HB := n1_; clear n0_ n1_)); have hcz5_0 : w4.cell? ⟨gb108, 0, none⟩ = some (.int .u64 0) := (blk_cell BK108.out 0).trans rfl; have hcz5_1 : w4.cell? ⟨gb108, 1, none⟩ = some (.int .u64 0) := (blk_cell BK108.out 1).trans rfl; have hfz5_0 := blk_frozen BK108.out 0; have hfz5_1 := blk_frozen BK108.out 1))
 refine bodyPost_ret (results_cell_row rfl _ _ gb108 128 #[.int .u64 t109, .int .u64 t110] (0, 0) _ rfl (by refine blk_put (cs := #[.int .u64 t109, .int .u64 0]) ?_ 1 _ rfl; refine blk_put (cs := #[.int .u64 0, .int .u64 0]) ?_ 0 _ rfl; exact BK108.out) Try.underlying128 rfl (by kernel_rfl)) rfl ?_
 exact ⟨by rfl, by repeat (with_reducible first | exact HB.out | apply bA_ | apply bN_ | apply bD_ | refine bS_ ?_ GE108.out)⟩

def wide_Times.f (a0_0 : Int) (a0_1 : Int) (a1 : Int) : Option (Int × Int × Int) := (wide_Mul.f a0_1 a1).bind fun bt115 => ((wide_Mul.f a0_0 a1).bind fun bt117 => (if bt117.1 = 0 then ((wide_Add.f bt115.1 bt115.2 bt117.2 0).bind fun bt121 => (some (bt121.1, bt121.2.1, bt121.2.2))) else (some (0, 0, 6))))
def wide_Times.T1 : Bool × List (List Nat × List Nat) := (true, [([], []), ([0], [0]), ([], []), ([1, 2], [1, 2]), ([], []), ([4], [4]), ([], []), ([5, 6, 3], [5, 6]), ([], []), ([], []), ([8, 3, 7, 0, 1, 2, 3, 8, 9], [3, 8]), ([9, 7, 10, 0, 1, 2, 3, 4, 5, 6, 7, 8, 9, 10], [7, 9])])
def wide_Times.B1 : List Nat := [0, 1, 0, 7, 0, 16, 0, 127, 0, 0, 1023, 2047]
theorem wide_Times.tab1 : rtab .any (opsOf Try.f76 1) = wide_Times.T1 := by kernel_rfl
theorem wide_Times.bits1 : waitsOk wide_Times.T1.2 wide_Times.B1 = true := by kernel_rfl
set_option maxHeartbeats 8000000 in
set_option maxRecDepth 100000 in
theorem wide_Times.calls (a0_0 : Int) (a0_1 : Int) (a1 : Int) (r1 : Int) (r2 : Int) (r3 : Int) (w : World) (h : wide_Times.f a0_0 a0_1 a1 = some (r1, r2, r3)) :
  Calls Try.prog 76 #[.agg #[.int .u64 a0_0, .int .u64 a0_1], .int .u64 a1] w fun e w' => e = .returned (.tuple #[.agg #[.int .u64 r1, .int .u64 r2], .int .i64 r3]) ∧ Below w.heap.size w w' := by
 have hu128 := Try.underlying128
 have HB := aA_ (Below.refl w.heap.size w)
 have H : ((wide_Mul.f a0_1 a1).bind fun bt115 => ((wide_Mul.f a0_0 a1).bind fun bt117 => (if bt117.1 = 0 then ((wide_Add.f bt115.1 bt115.2 bt117.2 0).bind fun bt121 => (some (bt121.1, bt121.2.1, bt121.2.2))) else (some (0, 0, 6))))) = some (r1, r2, r3) := h
 clear h
 replace H := bI_ H
 obtain ⟨⟨t115, t116⟩, A30, H⟩ := H
 (try dsimp only at H)
 have A3 := aA_ A30
 clear A30
 replace H := bI_ H
 obtain ⟨⟨t117, t118⟩, A40, H⟩ := H
 (try dsimp only at H)
 have A4 := aA_ A40
 clear A40
 by_cases c5 : t117 = 0
 ·rw [if_pos c5] at H
  have c5b0 : (t117 == 0) = true := beq_iff_eq.mpr c5
  have c5b1 : (t117 != 0) = false := bne_eq_false_iff_eq.mpr c5
  clear c5
  replace H := bI_ H
  obtain ⟨⟨t121, t122, t123⟩, A60, H⟩ := H
  (try dsimp only at H)
  have A6 := aA_ A60
  clear A60
  simp only [Option.some.injEq, Prod.mk.injEq] at H
  obtain ⟨rfl, rfl, rfl⟩ := H
  go_enter Try.func76, Try.ntmps76
  try go_wp2_with (first | (refine box_event rfl (N := 2) rfl (cs := #[.int .u64 a0_0, .int .u64 a0_1]) (t := 128) ?hr ?_; (case hr => go_simp <;> rfl); intro gb113 hg w7 hbox hb; have BK113 := aA_ (hbox); have GW113 := gW_ hg (by repeat (with_reducible first | exact HB.out | apply bA_ | apply bN_ | apply bD_)); have GE113 := GW113; replace HB := bB_ (by repeat (with_reducible first | exact HB.out | apply bA_ | apply bN_ | apply bD_)) hb; clear hb hbox hg) | (refine box_event rfl (N := 4) rfl (cs := #[.int .u64 0, .int .u64 0]) (t := 128) ?hr ?_; (case hr => go_simp <;> rfl); intro gb114 hg w8 hbox hb; have BK114 := aA_ (hbox); have GW114 := gW_ hg (by repeat (with_reducible first | exact HB.out | apply bA_ | apply bN_ | apply bD_ | refine bS_ ?_ GE113.out)); have GE114 := GW114; replace HB := bB_ (by repeat (with_reducible first | exact HB.out | apply bA_ | apply bN_ | apply bD_ | refine bS_ ?_ GE113.out)) hb; have NB113_114 := nE_ hg BK113; have NB114_113 := aA_ NB113_114.out.symm; replace BK113 := bK_ BK113 hb; clear hb hbox hg))
  replace BK113 := aA_ (blk_drew BK113.out)
  replace BK114 := aA_ (blk_drew BK114.out)
  replace HB := aA_ (below_drew1 HB.out)
  refine start_ (n := 12) (S := fun w' => w'.cell? ⟨gb113, 0, none⟩ = some (.int .u64 a0_0) ∧ w'.cell? ⟨gb113, 1, none⟩ = some (.int .u64 a0_1)) (ds := []) (wide_Times.ups 12 0) (by kernel_rfl) rfl rfl ⟨(blk_cell BK113.out 0).trans rfl, (blk_cell BK113.out 1).trans rfl⟩ (fun hHeld => ?_); refine with_tabW wide_Times.tab1 wide_Times.bits1 (fun HT_ HW_ => ?_)
  generalize w8.drew = w9 at BK113 BK114 HB hHeld ⊢
  refine pure_ (i := 0) (N := some 8) (v := ?_) (a' := ?_) (wide_Times.ups 12 1) rfl rfl (any_of HT_.out (by kernel_rfl)) (fun _ _ _ h => h) (Or.inl ⟨by rfl, ?_⟩) ?_ ?_
  rotate_left
  ·intro w'
   go_simp
   with_reducible rfl
  rotate_left
  ·simp only [Act.put, sT_, sZ_, sS_, i64_w, i32_w]
   rfl
  refine pure_ (i := 2) (N := some 10) (v := ?_) (a' := ?_) (wide_Times.ups 12 5) rfl rfl (any_of HT_.out (by kernel_rfl)) (fun _ _ _ h => h) (Or.inl ⟨by rfl, ?_⟩) ?_ ?_
  rotate_left
  ·intro w'
   go_simp
   with_reducible rfl
  rotate_left
  ·simp only [Act.put, sT_, sZ_, sS_, i64_w, i32_w]
   rfl
  refine pure_ (i := 4) (N := some 12) (v := ?_) (a' := ?_) (wide_Times.ups 12 21) rfl rfl (any_of HT_.out (by kernel_rfl)) (fun _ _ _ h => h) (Or.inl ⟨by rfl, ?_⟩) ?_ ?_
  rotate_left
  ·intro w'
   go_simp
   with_reducible rfl
  rotate_left
  ·simp only [Act.put, sT_, sZ_, sS_, i64_w, i32_w]
   rfl
  refine pure_ (i := 6) (N := some 14) (v := ?_) (a' := ?_) (wide_Times.ups 12 85) rfl rfl (any_of HT_.out (by kernel_rfl)) (fun _ _ _ h => h) (Or.inl ⟨by rfl, ?_⟩) ?_ ?_
  rotate_left
  ·intro w'
   go_simp
   with_reducible rfl
  rotate_left
  ·simp only [Act.put, sT_, sZ_, sS_, i64_w, i32_w]
   rfl
  refine take_ (i := 1) (N := some 9) (v := ?_) (a' := ?_) (wide_Times.ups 12 87) rfl rfl (take_ofW HT_.out HW_.out (by kernel_rfl)) (fun _ _ _ h => h) (Or.inl ⟨by rfl, ?_⟩) hHeld ?_ ?_
  rotate_left
  ·rintro w' ⟨s0, s1⟩
   go_simp
   with_reducible rfl
  rotate_left
  ·simp only [Act.put, sT_, sZ_, sS_, i64_w, i32_w]
   rfl
  refine take_ (i := 5) (N := some 13) (v := ?_) (a' := ?_) (wide_Times.ups 12 119) rfl rfl (take_ofW HT_.out HW_.out (by kernel_rfl)) (fun _ _ _ h => h) (Or.inl ⟨by rfl, ?_⟩) hHeld ?_ ?_
  rotate_left
  ·rintro w' ⟨s0, s1⟩
   go_simp
   with_reducible rfl
  rotate_left
  ·simp only [Act.put, sT_, sZ_, sS_, i64_w, i32_w]
   rfl
  refine join_ (σ := Nat × Nat) 2 (wide_Times.ups 12 1023) (fun s_ => [(11, .agg #[.int .u64 t115, .int .u64 t116]), (15, .agg #[.int .u64 t117, .int .u64 t118]), (6, .pointer (some ⟨s_.1, 0, none⟩)), (7, .pointer (some ⟨s_.2, 0, none⟩))]) (fun s_ w' => (w'.cell? ⟨gb113, 0, none⟩ = some (.int .u64 a0_0) ∧ w'.cell? ⟨gb113, 1, none⟩ = some (.int .u64 a0_1)) ∧ (w'.heap[gb113]? = some (.cells #[.int .u64 a0_0, .int .u64 a0_1] 128 (0, 0))) ∧ (w'.heap[gb114]? = some (.cells #[.int .u64 0, .int .u64 0] 128 (0, 0))) ∧ (w'.heap[s_.1]? = some (.cells #[.int .u64 0, .int .u64 0] 128 (0, 0))) ∧ (w'.heap[s_.2]? = some (.cells #[.int .u64 0, .int .u64 0] 128 (0, 0))) ∧ (w.heap.size ≤ s_.1) ∧ (w.heap.size ≤ s_.1) ∧ (gb113 ≠ s_.1) ∧ (s_.1 ≠ gb113) ∧ (gb114 ≠ s_.1) ∧ (s_.1 ≠ gb114) ∧ (s_.2 ≠ s_.1) ∧ (s_.1 ≠ s_.2) ∧ (w.heap.size ≤ s_.2) ∧ (w.heap.size ≤ s_.2) ∧ (gb113 ≠ s_.2) ∧ (s_.2 ≠ gb113) ∧ (gb114 ≠ s_.2) ∧ (s_.2 ≠ gb114) ∧ (Below w.heap.size w w')) ?_ ?_
  rotate_left
  ·intro hJ3_7_8_9
   refine join_ (σ := Nat) 3 (wide_Times.ups 12 511) (fun s_ => [(11, .agg #[.int .u64 t115, .int .u64 t116]), (15, .agg #[.int .u64 t117, .int .u64 t118]), (6, .pointer (some ⟨s_, 0, none⟩))]) (fun s_ w' => (w'.cell? ⟨gb113, 0, none⟩ = some (.int .u64 a0_0) ∧ w'.cell? ⟨gb113, 1, none⟩ = some (.int .u64 a0_1)) ∧ (w'.heap[gb113]? = some (.cells #[.int .u64 a0_0, .int .u64 a0_1] 128 (0, 0))) ∧ (w'.heap[gb114]? = some (.cells #[.int .u64 0, .int .u64 0] 128 (0, 0))) ∧ (w'.heap[s_]? = some (.cells #[.int .u64 0, .int .u64 0] 128 (0, 0))) ∧ (w.heap.size ≤ s_) ∧ (w.heap.size ≤ s_) ∧ (gb113 ≠ s_) ∧ (s_ ≠ gb113) ∧ (gb114 ≠ s_) ∧ (s_ ≠ gb114) ∧ (Below w.heap.size w w')) ?_ ?_
   rotate_left
   ·intro hJ3_7_8
    refine join_ (σ := Nat) 3 (wide_Times.ups 12 767) (fun s_ => [(11, .agg #[.int .u64 t115, .int .u64 t116]), (15, .agg #[.int .u64 t117, .int .u64 t118]), (7, .pointer (some ⟨s_, 0, none⟩))]) (fun s_ w' => (w'.cell? ⟨gb113, 0, none⟩ = some (.int .u64 a0_0) ∧ w'.cell? ⟨gb113, 1, none⟩ = some (.int .u64 a0_1)) ∧ (w'.heap[gb113]? = some (.cells #[.int .u64 a0_0, .int .u64 a0_1] 128 (0, 0))) ∧ (w'.heap[gb114]? = some (.cells #[.int .u64 0, .int .u64 0] 128 (0, 0))) ∧ (w'.heap[s_]? = some (.cells #[.int .u64 0, .int .u64 0] 128 (0, 0))) ∧ (w.heap.size ≤ s_) ∧ (w.heap.size ≤ s_) ∧ (gb113 ≠ s_) ∧ (s_ ≠ gb113) ∧ (gb114 ≠ s_) ∧ (s_ ≠ gb114) ∧ (Below w.heap.size w w')) ?_ ?_
    rotate_left
    ·intro hJ3_7_9
     refine join_ (σ := Nat × Nat) 3 (wide_Times.ups 12 895) (fun s_ => [(11, .agg #[.int .u64 t115, .int .u64 t116]), (6, .pointer (some ⟨s_.1, 0, none⟩)), (7, .pointer (some ⟨s_.2, 0, none⟩))]) (fun s_ w' => (w'.cell? ⟨gb113, 0, none⟩ = some (.int .u64 a0_0) ∧ w'.cell? ⟨gb113, 1, none⟩ = some (.int .u64 a0_1)) ∧ (w'.heap[gb113]? = some (.cells #[.int .u64 a0_0, .int .u64 a0_1] 128 (0, 0))) ∧ (w'.heap[gb114]? = some (.cells #[.int .u64 0, .int .u64 0] 128 (0, 0))) ∧ (w'.heap[s_.1]? = some (.cells #[.int .u64 0, .int .u64 0] 128 (0, 0))) ∧ (w'.heap[s_.2]? = some (.cells #[.int .u64 0, .int .u64 0] 128 (0, 0))) ∧ (w.heap.size ≤ s_.1) ∧ (w.heap.size ≤ s_.1) ∧ (gb113 ≠ s_.1) ∧ (s_.1 ≠ gb113) ∧ (gb114 ≠ s_.1) ∧ (s_.1 ≠ gb114) ∧ (s_.2 ≠ s_.1) ∧ (s_.1 ≠ s_.2) ∧ (w.heap.size ≤ s_.2) ∧ (w.heap.size ≤ s_.2) ∧ (gb113 ≠ s_.2) ∧ (s_.2 ≠ gb113) ∧ (gb114 ≠ s_.2) ∧ (s_.2 ≠ gb114) ∧ (Below w.heap.size w w')) ?_ ?_
     rotate_left
     ·intro hJ3_8_9
      refine join_ (σ := Unit) 4 (wide_Times.ups 12 255) (fun s_ => [(11, .agg #[.int .u64 t115, .int .u64 t116]), (15, .agg #[.int .u64 t117, .int .u64 t118])]) (fun s_ w' => (w'.cell? ⟨gb113, 0, none⟩ = some (.int .u64 a0_0) ∧ w'.cell? ⟨gb113, 1, none⟩ = some (.int .u64 a0_1)) ∧ (w'.heap[gb113]? = some (.cells #[.int .u64 a0_0, .int .u64 a0_1] 128 (0, 0))) ∧ (w'.heap[gb114]? = some (.cells #[.int .u64 0, .int .u64 0] 128 (0, 0))) ∧ (Below w.heap.size w w')) ?_ ?_
      rotate_left
      ·intro hJ3_7
       refine join_ (σ := Nat) 4 (wide_Times.ups 12 383) (fun s_ => [(11, .agg #[.int .u64 t115, .int .u64 t116]), (6, .pointer (some ⟨s_, 0, none⟩))]) (fun s_ w' => (w'.cell? ⟨gb113, 0, none⟩ = some (.int .u64 a0_0) ∧ w'.cell? ⟨gb113, 1, none⟩ = some (.int .u64 a0_1)) ∧ (w'.heap[gb113]? = some (.cells #[.int .u64 a0_0, .int .u64 a0_1] 128 (0, 0))) ∧ (w'.heap[gb114]? = some (.cells #[.int .u64 0, .int .u64 0] 128 (0, 0))) ∧ (w'.heap[s_]? = some (.cells #[.int .u64 0, .int .u64 0] 128 (0, 0))) ∧ (w.heap.size ≤ s_) ∧ (w.heap.size ≤ s_) ∧ (gb113 ≠ s_) ∧ (s_ ≠ gb113) ∧ (gb114 ≠ s_) ∧ (s_ ≠ gb114) ∧ (Below w.heap.size w w')) ?_ ?_
       rotate_left
       ·intro hJ3_8
        refine join_ (σ := Nat) 4 (wide_Times.ups 12 639) (fun s_ => [(11, .agg #[.int .u64 t115, .int .u64 t116]), (7, .pointer (some ⟨s_, 0, none⟩))]) (fun s_ w' => (w'.cell? ⟨gb113, 0, none⟩ = some (.int .u64 a0_0) ∧ w'.cell? ⟨gb113, 1, none⟩ = some (.int .u64 a0_1)) ∧ (w'.heap[gb113]? = some (.cells #[.int .u64 a0_0, .int .u64 a0_1] 128 (0, 0))) ∧ (w'.heap[gb114]? = some (.cells #[.int .u64 0, .int .u64 0] 128 (0, 0))) ∧ (w'.heap[s_]? = some (.cells #[.int .u64 0, .int .u64 0] 128 (0, 0))) ∧ (w.heap.size ≤ s_) ∧ (w.heap.size ≤ s_) ∧ (gb113 ≠ s_) ∧ (s_ ≠ gb113) ∧ (gb114 ≠ s_) ∧ (s_ ≠ gb114) ∧ (Below w.heap.size w w')) ?_ ?_
        rotate_left
        ·intro hJ3_9
         refine join_ (σ := Nat × Nat) 4 (wide_Times.ups 12 887) (fun s_ => [(6, .pointer (some ⟨s_.1, 0, none⟩)), (7, .pointer (some ⟨s_.2, 0, none⟩))]) (fun s_ w' => (w'.cell? ⟨gb113, 0, none⟩ = some (.int .u64 a0_0) ∧ w'.cell? ⟨gb113, 1, none⟩ = some (.int .u64 a0_1)) ∧ (w'.heap[gb113]? = some (.cells #[.int .u64 a0_0, .int .u64 a0_1] 128 (0, 0))) ∧ (w'.heap[gb114]? = some (.cells #[.int .u64 0, .int .u64 0] 128 (0, 0))) ∧ (w'.heap[s_.1]? = some (.cells #[.int .u64 0, .int .u64 0] 128 (0, 0))) ∧ (w'.heap[s_.2]? = some (.cells #[.int .u64 0, .int .u64 0] 128 (0, 0))) ∧ (w.heap.size ≤ s_.1) ∧ (w.heap.size ≤ s_.1) ∧ (gb113 ≠ s_.1) ∧ (s_.1 ≠ gb113) ∧ (gb114 ≠ s_.1) ∧ (s_.1 ≠ gb114) ∧ (s_.2 ≠ s_.1) ∧ (s_.1 ≠ s_.2) ∧ (w.heap.size ≤ s_.2) ∧ (w.heap.size ≤ s_.2) ∧ (gb113 ≠ s_.2) ∧ (s_.2 ≠ gb113) ∧ (gb114 ≠ s_.2) ∧ (s_.2 ≠ gb114) ∧ (Below w.heap.size w w')) ?_ ?_
         rotate_left
         ·intro hJ8_9
          refine join_ (σ := Unit) 5 (wide_Times.ups 12 127) (fun s_ => [(11, .agg #[.int .u64 t115, .int .u64 t116])]) (fun s_ w' => (w'.cell? ⟨gb113, 0, none⟩ = some (.int .u64 a0_0) ∧ w'.cell? ⟨gb113, 1, none⟩ = some (.int .u64 a0_1)) ∧ (w'.heap[gb113]? = some (.cells #[.int .u64 a0_0, .int .u64 a0_1] 128 (0, 0))) ∧ (w'.heap[gb114]? = some (.cells #[.int .u64 0, .int .u64 0] 128 (0, 0))) ∧ (Below w.heap.size w w')) ?_ ?_
          rotate_left
          ·intro hJ3
           refine join_ (σ := Nat) 5 (wide_Times.ups 12 375) (fun s_ => [(6, .pointer (some ⟨s_, 0, none⟩))]) (fun s_ w' => (w'.cell? ⟨gb113, 0, none⟩ = some (.int .u64 a0_0) ∧ w'.cell? ⟨gb113, 1, none⟩ = some (.int .u64 a0_1)) ∧ (w'.heap[gb113]? = some (.cells #[.int .u64 a0_0, .int .u64 a0_1] 128 (0, 0))) ∧ (w'.heap[gb114]? = some (.cells #[.int .u64 0, .int .u64 0] 128 (0, 0))) ∧ (w'.heap[s_]? = some (.cells #[.int .u64 0, .int .u64 0] 128 (0, 0))) ∧ (w.heap.size ≤ s_) ∧ (w.heap.size ≤ s_) ∧ (gb113 ≠ s_) ∧ (s_ ≠ gb113) ∧ (gb114 ≠ s_) ∧ (s_ ≠ gb114) ∧ (Below w.heap.size w w')) ?_ ?_
           rotate_left
           ·intro hJ8
            refine join_ (σ := Nat) 5 (wide_Times.ups 12 631) (fun s_ => [(7, .pointer (some ⟨s_, 0, none⟩))]) (fun s_ w' => (w'.cell? ⟨gb113, 0, none⟩ = some (.int .u64 a0_0) ∧ w'.cell? ⟨gb113, 1, none⟩ = some (.int .u64 a0_1)) ∧ (w'.heap[gb113]? = some (.cells #[.int .u64 a0_0, .int .u64 a0_1] 128 (0, 0))) ∧ (w'.heap[gb114]? = some (.cells #[.int .u64 0, .int .u64 0] 128 (0, 0))) ∧ (w'.heap[s_]? = some (.cells #[.int .u64 0, .int .u64 0] 128 (0, 0))) ∧ (w.heap.size ≤ s_) ∧ (w.heap.size ≤ s_) ∧ (gb113 ≠ s_) ∧ (s_ ≠ gb113) ∧ (gb114 ≠ s_) ∧ (s_ ≠ gb114) ∧ (Below w.heap.size w w')) ?_ ?_
            rotate_left
            ·intro hJ9
             refine three_ (i := 3) (j := 8) (k := 9) (Ni := some 11) (Nj := some 6) (Nk := some 7) (wide_Times.ups 12 127) (wide_Times.ups 12 375) (wide_Times.ups 12 631) rfl rfl rfl rfl rfl rfl (three_of HT_.out (by kernel_rfl)) (by decide) (by decide) (by decide) (fun K hK => ?_) (fun K hK => ?_) (fun K hK => ?_)
             ·skip
              refine goes_ Try.func77 (by kernel_rfl) rfl #[.int .u64 a0_1, .int .u64 a1] (by rfl) rfl rfl (by (try simp only [mT_, mC_, mN_]); first | done | rfl) ?_
              with_reducible refine (wide_Mul.calls a0_1 a1 t115 t116 _ A3.out).mono ?_
              rintro e w10 ⟨rfl, hb⟩
              refine ⟨_, rfl, ?_⟩
              replace BK113 := bK_ BK113 hb
              replace BK114 := bK_ BK114 hb
              replace HB := bB_ (by repeat (with_reducible first | exact HB.out | apply bA_ | apply bN_ | apply bD_ | refine bS_ ?_ GE113.out | refine bS_ ?_ GE114.out)) hb
              (try clear hb)
              (try clear hb2)
              (try clear hk)
              (try clear hi)
              refine hK.out _ _ ⟨(blk_cell BK113.out 0).trans rfl, (blk_cell BK113.out 1).trans rfl⟩ (fun hHeld => ?_)
              clear hK K
              refine norm_ (by show Act.put _ (some 11) _ = _; simp only [Act.put, sT_, sZ_, sS_, i64_w, i32_w] <;> rfl) ?_
              exact norm_ (by simp only [putAll, Act.put, sT_, sZ_, sS_] <;> rfl) (hJ3 () _ ⟨hHeld, BK113.out, BK114.out, (by repeat (with_reducible first | exact HB.out | apply bA_ | apply bN_ | apply bD_ | refine bS_ ?_ GE113.out | refine bS_ ?_ GE114.out))⟩)
             ·skip
              refine box_step rfl (N := 6) rfl (cs := #[.int .u64 0, .int .u64 0]) (t := 128) ?hr ?_; (case hr => go_simp <;> rfl)
              intro gb119 hg w10 hbox hb
              have BK119 := aA_ (hbox)
              have GW119 := gW_ hg (by repeat (with_reducible first | exact HB.out | apply bA_ | apply bN_ | apply bD_ | refine bS_ ?_ GE113.out | refine bS_ ?_ GE114.out))
              have GE119 := GW119
              replace HB := bB_ (by repeat (with_reducible first | exact HB.out | apply bA_ | apply bN_ | apply bD_ | refine bS_ ?_ GE113.out | refine bS_ ?_ GE114.out)) hb
              have NB113_119 := nE_ hg BK113
              have NB119_113 := aA_ NB113_119.out.symm
              replace BK113 := bK_ BK113 hb
              have NB114_119 := nE_ hg BK114
              have NB119_114 := aA_ NB114_119.out.symm
              replace BK114 := bK_ BK114 hb
              clear hb hbox hg
              refine hK.out _ _ ⟨(blk_cell BK113.out 0).trans rfl, (blk_cell BK113.out 1).trans rfl⟩ (fun hHeld => ?_)
              clear hK K
              refine norm_ (by show Act.put _ (some 6) _ = _; simp only [Act.put, sT_, sZ_, sS_, i64_w, i32_w] <;> rfl) ?_
              exact norm_ (by simp only [putAll, Act.put, sT_, sZ_, sS_] <;> rfl) (hJ8 (gb119) _ ⟨hHeld, BK113.out, BK114.out, BK119.out, GW119.out, GE119.out, NB113_119.out, NB119_113.out, NB114_119.out, NB119_114.out, (by repeat (with_reducible first | exact HB.out | apply bA_ | apply bN_ | apply bD_ | refine bS_ ?_ GE113.out | refine bS_ ?_ GE114.out | refine bS_ ?_ GE119.out))⟩)
             ·skip
              refine box_step rfl (N := 7) rfl (cs := #[.int .u64 0, .int .u64 0]) (t := 128) ?hr ?_; (case hr => go_simp <;> rfl)
              intro gb120 hg w10 hbox hb
              have BK120 := aA_ (hbox)
              have GW120 := gW_ hg (by repeat (with_reducible first | exact HB.out | apply bA_ | apply bN_ | apply bD_ | refine bS_ ?_ GE113.out | refine bS_ ?_ GE114.out))
              have GE120 := GW120
              replace HB := bB_ (by repeat (with_reducible first | exact HB.out | apply bA_ | apply bN_ | apply bD_ | refine bS_ ?_ GE113.out | refine bS_ ?_ GE114.out)) hb
              have NB113_120 := nE_ hg BK113
              have NB120_113 := aA_ NB113_120.out.symm
              replace BK113 := bK_ BK113 hb
              have NB114_120 := nE_ hg BK114
              have NB120_114 := aA_ NB114_120.out.symm
              replace BK114 := bK_ BK114 hb
              clear hb hbox hg
              refine hK.out _ _ ⟨(blk_cell BK113.out 0).trans rfl, (blk_cell BK113.out 1).trans rfl⟩ (fun hHeld => ?_)
              clear hK K
              refine norm_ (by show Act.put _ (some 7) _ = _; simp only [Act.put, sT_, sZ_, sS_, i64_w, i32_w] <;> rfl) ?_
              exact norm_ (by simp only [putAll, Act.put, sT_, sZ_, sS_] <;> rfl) (hJ9 (gb120) _ ⟨hHeld, BK113.out, BK114.out, BK120.out, GW120.out, GE120.out, NB113_120.out, NB120_113.out, NB114_120.out, NB120_114.out, (by repeat (with_reducible first | exact HB.out | apply bA_ | apply bN_ | apply bD_ | refine bS_ ?_ GE113.out | refine bS_ ?_ GE114.out | refine bS_ ?_ GE120.out))⟩)
            ·skip
             rintro gb120 w11 ⟨hS_, h0_, h1_, h2_, h3_, h4_, h5_, h6_, h7_, h8_, h9_⟩
             (try dsimp only at h0_ h1_ h2_ h3_ h4_ h5_ h6_ h7_ h8_ h9_)
             clear BK113 BK114 HB
             have BK113 := aA_ h0_
             have BK114 := aA_ h1_
             have BK120 := aA_ h2_
             have GW120 := aA_ h3_
             have GE120 := aA_ h4_
             have NB113_120 := aA_ h5_
             have NB120_113 := aA_ h6_
             have NB114_120 := aA_ h7_
             have NB120_114 := aA_ h8_
             have HB := aA_ h9_
             clear h0_ h1_ h2_ h3_ h4_ h5_ h6_ h7_ h8_ h9_
             have hHeld : w11.cell? ⟨gb113, 0, none⟩ = some (.int .u64 a0_0) ∧ w11.cell? ⟨gb113, 1, none⟩ = some (.int .u64 a0_1) := hS_
             refine norm_ (a' := ?_) ?_ ?_
             rotate_left
             ·simp only [putAll, Act.put, sT_, sZ_, sS_]
              rfl
             refine two_ (i := 3) (j := 8) (Ni := some 11) (Nj := some 6) (wide_Times.ups 12 639) (wide_Times.ups 12 887) rfl rfl rfl rfl (two_of HT_.out (by kernel_rfl)) (by decide) (by decide) (fun K hK => ?_) (fun K hK => ?_)
             ·skip
              refine goes_ Try.func77 (by kernel_rfl) rfl #[.int .u64 a0_1, .int .u64 a1] (by rfl) rfl rfl (by (try simp only [mT_, mC_, mN_]); first | done | rfl) ?_
              with_reducible refine (wide_Mul.calls a0_1 a1 t115 t116 _ A3.out).mono ?_
              rintro e w12 ⟨rfl, hb⟩
              refine ⟨_, rfl, ?_⟩
              replace BK113 := bK_ BK113 hb
              replace BK114 := bK_ BK114 hb
              replace BK120 := bK_ BK120 hb
              replace HB := bB_ (by repeat (with_reducible first | exact HB.out | apply bA_ | apply bN_ | apply bD_ | refine bS_ ?_ GE113.out | refine bS_ ?_ GE114.out | refine bS_ ?_ GE120.out)) hb
              (try clear hb)
              (try clear hb2)
              (try clear hk)
              (try clear hi)
              refine hK.out _ _ ⟨(blk_cell BK113.out 0).trans rfl, (blk_cell BK113.out 1).trans rfl⟩ (fun hHeld => ?_)
              clear hK K
              refine norm_ (by show Act.put _ (some 11) _ = _; simp only [Act.put, sT_, sZ_, sS_, i64_w, i32_w] <;> rfl) ?_
              exact norm_ (by simp only [putAll, Act.put, sT_, sZ_, sS_] <;> rfl) (hJ3_9 (gb120) _ ⟨hHeld, BK113.out, BK114.out, BK120.out, GW120.out, GE120.out, NB113_120.out, NB120_113.out, NB114_120.out, NB120_114.out, (by repeat (with_reducible first | exact HB.out | apply bA_ | apply bN_ | apply bD_ | refine bS_ ?_ GE113.out | refine bS_ ?_ GE114.out | refine bS_ ?_ GE120.out))⟩)
             ·skip
              refine box_step rfl (N := 6) rfl (cs := #[.int .u64 0, .int .u64 0]) (t := 128) ?hr ?_; (case hr => go_simp <;> rfl)
              intro gb119 hg w12 hbox hb
              have BK119 := aA_ (hbox)
              have GW119 := gW_ hg (by repeat (with_reducible first | exact HB.out | apply bA_ | apply bN_ | apply bD_ | refine bS_ ?_ GE113.out | refine bS_ ?_ GE114.out | refine bS_ ?_ GE120.out))
              have GE119 := GW119
              replace HB := bB_ (by repeat (with_reducible first | exact HB.out | apply bA_ | apply bN_ | apply bD_ | refine bS_ ?_ GE113.out | refine bS_ ?_ GE114.out | refine bS_ ?_ GE120.out)) hb
              have NB113_119 := nE_ hg BK113
              have NB119_113 := aA_ NB113_119.out.symm
              replace BK113 := bK_ BK113 hb
              have NB114_119 := nE_ hg BK114
              have NB119_114 := aA_ NB114_119.out.symm
              replace BK114 := bK_ BK114 hb
              have NB120_119 := nE_ hg BK120
              have NB119_120 := aA_ NB120_119.out.symm
              replace BK120 := bK_ BK120 hb
              clear hb hbox hg
              refine hK.out _ _ ⟨(blk_cell BK113.out 0).trans rfl, (blk_cell BK113.out 1).trans rfl⟩ (fun hHeld => ?_)
              clear hK K
              refine norm_ (by show Act.put _ (some 6) _ = _; simp only [Act.put, sT_, sZ_, sS_, i64_w, i32_w] <;> rfl) ?_
              exact norm_ (by simp only [putAll, Act.put, sT_, sZ_, sS_] <;> rfl) (hJ8_9 (gb119, gb120) _ ⟨hHeld, BK113.out, BK114.out, BK119.out, BK120.out, GW119.out, GE119.out, NB113_119.out, NB119_113.out, NB114_119.out, NB119_114.out, NB120_119.out, NB119_120.out, GW120.out, GE120.out, NB113_120.out, NB120_113.out, NB114_120.out, NB120_114.out, (by repeat (with_reducible first | exact HB.out | apply bA_ | apply bN_ | apply bD_ | refine bS_ ?_ GE113.out | refine bS_ ?_ GE114.out | refine bS_ ?_ GE120.out | refine bS_ ?_ GE119.out))⟩)
           ·skip
            rintro gb119 w11 ⟨hS_, h0_, h1_, h2_, h3_, h4_, h5_, h6_, h7_, h8_, h9_⟩
            (try dsimp only at h0_ h1_ h2_ h3_ h4_ h5_ h6_ h7_ h8_ h9_)
            clear BK113 BK114 HB
            have BK113 := aA_ h0_
            have BK114 := aA_ h1_
            have BK119 := aA_ h2_
            have GW119 := aA_ h3_
            have GE119 := aA_ h4_
            have NB113_119 := aA_ h5_
            have NB119_113 := aA_ h6_
            have NB114_119 := aA_ h7_
            have NB119_114 := aA_ h8_
            have HB := aA_ h9_
            clear h0_ h1_ h2_ h3_ h4_ h5_ h6_ h7_ h8_ h9_
            have hHeld : w11.cell? ⟨gb113, 0, none⟩ = some (.int .u64 a0_0) ∧ w11.cell? ⟨gb113, 1, none⟩ = some (.int .u64 a0_1) := hS_
            refine norm_ (a' := ?_) ?_ ?_
            rotate_left
            ·simp only [putAll, Act.put, sT_, sZ_, sS_]
             rfl
            refine two_ (i := 3) (j := 9) (Ni := some 11) (Nj := some 7) (wide_Times.ups 12 383) (wide_Times.ups 12 887) rfl rfl rfl rfl (two_of HT_.out (by kernel_rfl)) (by decide) (by decide) (fun K hK => ?_) (fun K hK => ?_)
            ·skip
             refine goes_ Try.func77 (by kernel_rfl) rfl #[.int .u64 a0_1, .int .u64 a1] (by rfl) rfl rfl (by (try simp only [mT_, mC_, mN_]); first | done | rfl) ?_
             with_reducible refine (wide_Mul.calls a0_1 a1 t115 t116 _ A3.out).mono ?_
             rintro e w12 ⟨rfl, hb⟩
             refine ⟨_, rfl, ?_⟩
             replace BK113 := bK_ BK113 hb
             replace BK114 := bK_ BK114 hb
             replace BK119 := bK_ BK119 hb
             replace HB := bB_ (by repeat (with_reducible first | exact HB.out | apply bA_ | apply bN_ | apply bD_ | refine bS_ ?_ GE113.out | refine bS_ ?_ GE114.out | refine bS_ ?_ GE119.out)) hb
             (try clear hb)
             (try clear hb2)
             (try clear hk)
             (try clear hi)
             refine hK.out _ _ ⟨(blk_cell BK113.out 0).trans rfl, (blk_cell BK113.out 1).trans rfl⟩ (fun hHeld => ?_)
             clear hK K
             refine norm_ (by show Act.put _ (some 11) _ = _; simp only [Act.put, sT_, sZ_, sS_, i64_w, i32_w] <;> rfl) ?_
             exact norm_ (by simp only [putAll, Act.put, sT_, sZ_, sS_] <;> rfl) (hJ3_8 (gb119) _ ⟨hHeld, BK113.out, BK114.out, BK119.out, GW119.out, GE119.out, NB113_119.out, NB119_113.out, NB114_119.out, NB119_114.out, (by repeat (with_reducible first | exact HB.out | apply bA_ | apply bN_ | apply bD_ | refine bS_ ?_ GE113.out | refine bS_ ?_ GE114.out | refine bS_ ?_ GE119.out))⟩)
            ·skip
             refine box_step rfl (N := 7) rfl (cs := #[.int .u64 0, .int .u64 0]) (t := 128) ?hr ?_; (case hr => go_simp <;> rfl)
             intro gb120 hg w12 hbox hb
             have BK120 := aA_ (hbox)
             have GW120 := gW_ hg (by repeat (with_reducible first | exact HB.out | apply bA_ | apply bN_ | apply bD_ | refine bS_ ?_ GE113.out | refine bS_ ?_ GE114.out | refine bS_ ?_ GE119.out))
             have GE120 := GW120
             replace HB := bB_ (by repeat (with_reducible first | exact HB.out | apply bA_ | apply bN_ | apply bD_ | refine bS_ ?_ GE113.out | refine bS_ ?_ GE114.out | refine bS_ ?_ GE119.out)) hb
             have NB113_120 := nE_ hg BK113
             have NB120_113 := aA_ NB113_120.out.symm
             replace BK113 := bK_ BK113 hb
             have NB114_120 := nE_ hg BK114
             have NB120_114 := aA_ NB114_120.out.symm
             replace BK114 := bK_ BK114 hb
             have NB119_120 := nE_ hg BK119
             have NB120_119 := aA_ NB119_120.out.symm
             replace BK119 := bK_ BK119 hb
             clear hb hbox hg
             refine hK.out _ _ ⟨(blk_cell BK113.out 0).trans rfl, (blk_cell BK113.out 1).trans rfl⟩ (fun hHeld => ?_)
             clear hK K
             refine norm_ (by show Act.put _ (some 7) _ = _; simp only [Act.put, sT_, sZ_, sS_, i64_w, i32_w] <;> rfl) ?_
             exact norm_ (by simp only [putAll, Act.put, sT_, sZ_, sS_] <;> rfl) (hJ8_9 (gb119, gb120) _ ⟨hHeld, BK113.out, BK114.out, BK119.out, BK120.out, GW119.out, GE119.out, NB113_119.out, NB119_113.out, NB114_119.out, NB119_114.out, NB120_119.out, NB119_120.out, GW120.out, GE120.out, NB113_120.out, NB120_113.out, NB114_120.out, NB120_114.out, (by repeat (with_reducible first | exact HB.out | apply bA_ | apply bN_ | apply bD_ | refine bS_ ?_ GE113.out | refine bS_ ?_ GE114.out | refine bS_ ?_ GE119.out | refine bS_ ?_ GE120.out))⟩)
          ·skip
           rintro _ w11 ⟨hS_, h0_, h1_, h2_⟩
           (try dsimp only at h0_ h1_ h2_)
           clear BK113 BK114 HB
           have BK113 := aA_ h0_
           have BK114 := aA_ h1_
           have HB := aA_ h2_
           clear h0_ h1_ h2_
           have hHeld : w11.cell? ⟨gb113, 0, none⟩ = some (.int .u64 a0_0) ∧ w11.cell? ⟨gb113, 1, none⟩ = some (.int .u64 a0_1) := hS_
           refine norm_ (a' := ?_) ?_ ?_
           rotate_left
           ·simp only [putAll, Act.put, sT_, sZ_, sS_]
            rfl
           refine three_ (i := 7) (j := 8) (k := 9) (Ni := some 15) (Nj := some 6) (Nk := some 7) (wide_Times.ups 12 255) (wide_Times.ups 12 383) (wide_Times.ups 12 639) rfl rfl rfl rfl rfl rfl (three_of HT_.out (by kernel_rfl)) (by decide) (by decide) (by decide) (fun K hK => ?_) (fun K hK => ?_) (fun K hK => ?_)
           ·skip
            refine goes_ Try.func77 (by kernel_rfl) rfl #[.int .u64 a0_0, .int .u64 a1] (by rfl) rfl rfl (by (try simp only [mT_, mC_, mN_]); first | done | rfl) ?_
            with_reducible refine (wide_Mul.calls a0_0 a1 t117 t118 _ A4.out).mono ?_
            rintro e w12 ⟨rfl, hb⟩
            refine ⟨_, rfl, ?_⟩
            replace BK113 := bK_ BK113 hb
            replace BK114 := bK_ BK114 hb
            replace HB := bB_ (by repeat (with_reducible first | exact HB.out | apply bA_ | apply bN_ | apply bD_ | refine bS_ ?_ GE113.out | refine bS_ ?_ GE114.out)) hb
            (try clear hb)
            (try clear hb2)
            (try clear hk)
            (try clear hi)
            refine hK.out _ _ ⟨(blk_cell BK113.out 0).trans rfl, (blk_cell BK113.out 1).trans rfl⟩ (fun hHeld => ?_)
            clear hK K
            refine norm_ (by show Act.put _ (some 15) _ = _; simp only [Act.put, sT_, sZ_, sS_, i64_w, i32_w] <;> rfl) ?_
            exact norm_ (by simp only [putAll, Act.put, sT_, sZ_, sS_] <;> rfl) (hJ3_7 () _ ⟨hHeld, BK113.out, BK114.out, (by repeat (with_reducible first | exact HB.out | apply bA_ | apply bN_ | apply bD_ | refine bS_ ?_ GE113.out | refine bS_ ?_ GE114.out))⟩)
           ·skip
            refine box_step rfl (N := 6) rfl (cs := #[.int .u64 0, .int .u64 0]) (t := 128) ?hr ?_; (case hr => go_simp <;> rfl)
            intro gb119 hg w12 hbox hb
            have BK119 := aA_ (hbox)
            have GW119 := gW_ hg (by repeat (with_reducible first | exact HB.out | apply bA_ | apply bN_ | apply bD_ | refine bS_ ?_ GE113.out | refine bS_ ?_ GE114.out))
            have GE119 := GW119
            replace HB := bB_ (by repeat (with_reducible first | exact HB.out | apply bA_ | apply bN_ | apply bD_ | refine bS_ ?_ GE113.out | refine bS_ ?_ GE114.out)) hb
            have NB113_119 := nE_ hg BK113
            have NB119_113 := aA_ NB113_119.out.symm
            replace BK113 := bK_ BK113 hb
            have NB114_119 := nE_ hg BK114
            have NB119_114 := aA_ NB114_119.out.symm
            replace BK114 := bK_ BK114 hb
            clear hb hbox hg
            refine hK.out _ _ ⟨(blk_cell BK113.out 0).trans rfl, (blk_cell BK113.out 1).trans rfl⟩ (fun hHeld => ?_)
            clear hK K
            refine norm_ (by show Act.put _ (some 6) _ = _; simp only [Act.put, sT_, sZ_, sS_, i64_w, i32_w] <;> rfl) ?_
            exact norm_ (by simp only [putAll, Act.put, sT_, sZ_, sS_] <;> rfl) (hJ3_8 (gb119) _ ⟨hHeld, BK113.out, BK114.out, BK119.out, GW119.out, GE119.out, NB113_119.out, NB119_113.out, NB114_119.out, NB119_114.out, (by repeat (with_reducible first | exact HB.out | apply bA_ | apply bN_ | apply bD_ | refine bS_ ?_ GE113.out | refine bS_ ?_ GE114.out | refine bS_ ?_ GE119.out))⟩)
           ·skip
            refine box_step rfl (N := 7) rfl (cs := #[.int .u64 0, .int .u64 0]) (t := 128) ?hr ?_; (case hr => go_simp <;> rfl)
            intro gb120 hg w12 hbox hb
            have BK120 := aA_ (hbox)
            have GW120 := gW_ hg (by repeat (with_reducible first | exact HB.out | apply bA_ | apply bN_ | apply bD_ | refine bS_ ?_ GE113.out | refine bS_ ?_ GE114.out))
            have GE120 := GW120
            replace HB := bB_ (by repeat (with_reducible first | exact HB.out | apply bA_ | apply bN_ | apply bD_ | refine bS_ ?_ GE113.out | refine bS_ ?_ GE114.out)) hb
            have NB113_120 := nE_ hg BK113
            have NB120_113 := aA_ NB113_120.out.symm
            replace BK113 := bK_ BK113 hb
            have NB114_120 := nE_ hg BK114
            have NB120_114 := aA_ NB114_120.out.symm
            replace BK114 := bK_ BK114 hb
            clear hb hbox hg
            refine hK.out _ _ ⟨(blk_cell BK113.out 0).trans rfl, (blk_cell BK113.out 1).trans rfl⟩ (fun hHeld => ?_)
            clear hK K
            refine norm_ (by show Act.put _ (some 7) _ = _; simp only [Act.put, sT_, sZ_, sS_, i64_w, i32_w] <;> rfl) ?_
            exact norm_ (by simp only [putAll, Act.put, sT_, sZ_, sS_] <;> rfl) (hJ3_9 (gb120) _ ⟨hHeld, BK113.out, BK114.out, BK120.out, GW120.out, GE120.out, NB113_120.out, NB120_113.out, NB114_120.out, NB120_114.out, (by repeat (with_reducible first | exact HB.out | apply bA_ | apply bN_ | apply bD_ | refine bS_ ?_ GE113.out | refine bS_ ?_ GE114.out | refine bS_ ?_ GE120.out))⟩)
         ·skip
          rintro ⟨gb119, gb120⟩ w12 ⟨hS_, h0_, h1_, h2_, h3_, h4_, h5_, h6_, h7_, h8_, h9_, h10_, h11_, h12_, h13_, h14_, h15_, h16_, h17_, h18_⟩
          (try dsimp only at h0_ h1_ h2_ h3_ h4_ h5_ h6_ h7_ h8_ h9_ h10_ h11_ h12_ h13_ h14_ h15_ h16_ h17_ h18_)
          clear BK113 BK114 HB
          have BK113 := aA_ h0_
          have BK114 := aA_ h1_
          have BK119 := aA_ h2_
          have BK120 := aA_ h3_
          have GW119 := aA_ h4_
          have GE119 := aA_ h5_
          have NB113_119 := aA_ h6_
          have NB119_113 := aA_ h7_
          have NB114_119 := aA_ h8_
          have NB119_114 := aA_ h9_
          have NB120_119 := aA_ h10_
          have NB119_120 := aA_ h11_
          have GW120 := aA_ h12_
          have GE120 := aA_ h13_
          have NB113_120 := aA_ h14_
          have NB120_113 := aA_ h15_
          have NB114_120 := aA_ h16_
          have NB120_114 := aA_ h17_
          have HB := aA_ h18_
          clear h0_ h1_ h2_ h3_ h4_ h5_ h6_ h7_ h8_ h9_ h10_ h11_ h12_ h13_ h14_ h15_ h16_ h17_ h18_
          have hHeld : w12.cell? ⟨gb113, 0, none⟩ = some (.int .u64 a0_0) ∧ w12.cell? ⟨gb113, 1, none⟩ = some (.int .u64 a0_1) := hS_
          refine norm_ (a' := ?_) ?_ ?_
          rotate_left
          ·simp only [putAll, Act.put, sT_, sZ_, sS_]
           rfl
          refine one_ (i := 3) (N := some 11) (wide_Times.ups 12 895) rfl rfl (one_of HT_.out (by kernel_rfl)) (by decide) (fun K hK => ?_)
          refine goes_ Try.func77 (by kernel_rfl) rfl #[.int .u64 a0_1, .int .u64 a1] (by rfl) rfl rfl (by (try simp only [mT_, mC_, mN_]); first | done | rfl) ?_
          with_reducible refine (wide_Mul.calls a0_1 a1 t115 t116 _ A3.out).mono ?_
          rintro e w13 ⟨rfl, hb⟩
          refine ⟨_, rfl, ?_⟩
          replace BK113 := bK_ BK113 hb
          replace BK114 := bK_ BK114 hb
          replace BK119 := bK_ BK119 hb
          replace BK120 := bK_ BK120 hb
          replace HB := bB_ (by repeat (with_reducible first | exact HB.out | apply bA_ | apply bN_ | apply bD_ | refine bS_ ?_ GE113.out | refine bS_ ?_ GE114.out | refine bS_ ?_ GE119.out | refine bS_ ?_ GE120.out)) hb
          (try clear hb)
          (try clear hb2)
          (try clear hk)
          (try clear hi)
          refine hK.out _ _ ⟨(blk_cell BK113.out 0).trans rfl, (blk_cell BK113.out 1).trans rfl⟩ (fun hHeld => ?_)
          clear hK K
          refine norm_ (by show Act.put _ (some 11) _ = _; simp only [Act.put, sT_, sZ_, sS_, i64_w, i32_w] <;> rfl) ?_
          exact norm_ (by simp only [putAll, Act.put, sT_, sZ_, sS_] <;> rfl) (hJ3_8_9 (gb119, gb120) _ ⟨hHeld, BK113.out, BK114.out, BK119.out, BK120.out, GW119.out, GE119.out, NB113_119.out, NB119_113.out, NB114_119.out, NB119_114.out, NB120_119.out, NB119_120.out, GW120.out, GE120.out, NB113_120.out, NB120_113.out, NB114_120.out, NB120_114.out, (by repeat (with_reducible first | exact HB.out | apply bA_ | apply bN_ | apply bD_ | refine bS_ ?_ GE113.out | refine bS_ ?_ GE114.out | refine bS_ ?_ GE119.out | refine bS_ ?_ GE120.out))⟩)
        ·skip
         rintro gb120 w12 ⟨hS_, h0_, h1_, h2_, h3_, h4_, h5_, h6_, h7_, h8_, h9_⟩
         (try dsimp only at h0_ h1_ h2_ h3_ h4_ h5_ h6_ h7_ h8_ h9_)
         clear BK113 BK114 HB
         have BK113 := aA_ h0_
         have BK114 := aA_ h1_
         have BK120 := aA_ h2_
         have GW120 := aA_ h3_
         have GE120 := aA_ h4_
         have NB113_120 := aA_ h5_
         have NB120_113 := aA_ h6_
         have NB114_120 := aA_ h7_
         have NB120_114 := aA_ h8_
         have HB := aA_ h9_
         clear h0_ h1_ h2_ h3_ h4_ h5_ h6_ h7_ h8_ h9_
         have hHeld : w12.cell? ⟨gb113, 0, none⟩ = some (.int .u64 a0_0) ∧ w12.cell? ⟨gb113, 1, none⟩ = some (.int .u64 a0_1) := hS_
         refine norm_ (a' := ?_) ?_ ?_
         rotate_left
         ·simp only [putAll, Act.put, sT_, sZ_, sS_]
          rfl
         refine two_ (i := 7) (j := 8) (Ni := some 15) (Nj := some 6) (wide_Times.ups 12 767) (wide_Times.ups 12 895) rfl rfl rfl rfl (two_of HT_.out (by kernel_rfl)) (by decide) (by decide) (fun K hK => ?_) (fun K hK => ?_)
         ·skip
          refine goes_ Try.func77 (by kernel_rfl) rfl #[.int .u64 a0_0, .int .u64 a1] (by rfl) rfl rfl (by (try simp only [mT_, mC_, mN_]); first | done | rfl) ?_
          with_reducible refine (wide_Mul.calls a0_0 a1 t117 t118 _ A4.out).mono ?_
          rintro e w13 ⟨rfl, hb⟩
          refine ⟨_, rfl, ?_⟩
          replace BK113 := bK_ BK113 hb
          replace BK114 := bK_ BK114 hb
          replace BK120 := bK_ BK120 hb
          replace HB := bB_ (by repeat (with_reducible first | exact HB.out | apply bA_ | apply bN_ | apply bD_ | refine bS_ ?_ GE113.out | refine bS_ ?_ GE114.out | refine bS_ ?_ GE120.out)) hb
          (try clear hb)
          (try clear hb2)
          (try clear hk)
          (try clear hi)
          refine hK.out _ _ ⟨(blk_cell BK113.out 0).trans rfl, (blk_cell BK113.out 1).trans rfl⟩ (fun hHeld => ?_)
          clear hK K
          refine norm_ (by show Act.put _ (some 15) _ = _; simp only [Act.put, sT_, sZ_, sS_, i64_w, i32_w] <;> rfl) ?_
          exact norm_ (by simp only [putAll, Act.put, sT_, sZ_, sS_] <;> rfl) (hJ3_7_9 (gb120) _ ⟨hHeld, BK113.out, BK114.out, BK120.out, GW120.out, GE120.out, NB113_120.out, NB120_113.out, NB114_120.out, NB120_114.out, (by repeat (with_reducible first | exact HB.out | apply bA_ | apply bN_ | apply bD_ | refine bS_ ?_ GE113.out | refine bS_ ?_ GE114.out | refine bS_ ?_ GE120.out))⟩)
         ·skip
          refine box_step rfl (N := 6) rfl (cs := #[.int .u64 0, .int .u64 0]) (t := 128) ?hr ?_; (case hr => go_simp <;> rfl)
          intro gb119 hg w13 hbox hb
          have BK119 := aA_ (hbox)
          have GW119 := gW_ hg (by repeat (with_reducible first | exact HB.out | apply bA_ | apply bN_ | apply bD_ | refine bS_ ?_ GE113.out | refine bS_ ?_ GE114.out | refine bS_ ?_ GE120.out))
          have GE119 := GW119
          replace HB := bB_ (by repeat (with_reducible first | exact HB.out | apply bA_ | apply bN_ | apply bD_ | refine bS_ ?_ GE113.out | refine bS_ ?_ GE114.out | refine bS_ ?_ GE120.out)) hb
          have NB113_119 := nE_ hg BK113
          have NB119_113 := aA_ NB113_119.out.symm
          replace BK113 := bK_ BK113 hb
          have NB114_119 := nE_ hg BK114
          have NB119_114 := aA_ NB114_119.out.symm
          replace BK114 := bK_ BK114 hb
          have NB120_119 := nE_ hg BK120
          have NB119_120 := aA_ NB120_119.out.symm
          replace BK120 := bK_ BK120 hb
          clear hb hbox hg
          refine hK.out _ _ ⟨(blk_cell BK113.out 0).trans rfl, (blk_cell BK113.out 1).trans rfl⟩ (fun hHeld => ?_)
          clear hK K
          refine norm_ (by show Act.put _ (some 6) _ = _; simp only [Act.put, sT_, sZ_, sS_, i64_w, i32_w] <;> rfl) ?_
          exact norm_ (by simp only [putAll, Act.put, sT_, sZ_, sS_] <;> rfl) (hJ3_8_9 (gb119, gb120) _ ⟨hHeld, BK113.out, BK114.out, BK119.out, BK120.out, GW119.out, GE119.out, NB113_119.out, NB119_113.out, NB114_119.out, NB119_114.out, NB120_119.out, NB119_120.out, GW120.out, GE120.out, NB113_120.out, NB120_113.out, NB114_120.out, NB120_114.out, (by repeat (with_reducible first | exact HB.out | apply bA_ | apply bN_ | apply bD_ | refine bS_ ?_ GE113.out | refine bS_ ?_ GE114.out | refine bS_ ?_ GE120.out | refine bS_ ?_ GE119.out))⟩)
       ·skip
        rintro gb119 w12 ⟨hS_, h0_, h1_, h2_, h3_, h4_, h5_, h6_, h7_, h8_, h9_⟩
        (try dsimp only at h0_ h1_ h2_ h3_ h4_ h5_ h6_ h7_ h8_ h9_)
        clear BK113 BK114 HB
        have BK113 := aA_ h0_
        have BK114 := aA_ h1_
        have BK119 := aA_ h2_
        have GW119 := aA_ h3_
        have GE119 := aA_ h4_
        have NB113_119 := aA_ h5_
        have NB119_113 := aA_ h6_
        have NB114_119 := aA_ h7_
        have NB119_114 := aA_ h8_
        have HB := aA_ h9_
        clear h0_ h1_ h2_ h3_ h4_ h5_ h6_ h7_ h8_ h9_
        have hHeld : w12.cell? ⟨gb113, 0, none⟩ = some (.int .u64 a0_0) ∧ w12.cell? ⟨gb113, 1, none⟩ = some (.int .u64 a0_1) := hS_
        refine norm_ (a' := ?_) ?_ ?_
        rotate_left
        ·simp only [putAll, Act.put, sT_, sZ_, sS_]
         rfl
        refine two_ (i := 7) (j := 9) (Ni := some 15) (Nj := some 7) (wide_Times.ups 12 511) (wide_Times.ups 12 895) rfl rfl rfl rfl (two_of HT_.out (by kernel_rfl)) (by decide) (by decide) (fun K hK => ?_) (fun K hK => ?_)
        ·skip
         refine goes_ Try.func77 (by kernel_rfl) rfl #[.int .u64 a0_0, .int .u64 a1] (by rfl) rfl rfl (by (try simp only [mT_, mC_, mN_]); first | done | rfl) ?_
         with_reducible refine (wide_Mul.calls a0_0 a1 t117 t118 _ A4.out).mono ?_
         rintro e w13 ⟨rfl, hb⟩
         refine ⟨_, rfl, ?_⟩
         replace BK113 := bK_ BK113 hb
         replace BK114 := bK_ BK114 hb
         replace BK119 := bK_ BK119 hb
         replace HB := bB_ (by repeat (with_reducible first | exact HB.out | apply bA_ | apply bN_ | apply bD_ | refine bS_ ?_ GE113.out | refine bS_ ?_ GE114.out | refine bS_ ?_ GE119.out)) hb
         (try clear hb)
         (try clear hb2)
         (try clear hk)
         (try clear hi)
         refine hK.out _ _ ⟨(blk_cell BK113.out 0).trans rfl, (blk_cell BK113.out 1).trans rfl⟩ (fun hHeld => ?_)
         clear hK K
         refine norm_ (by show Act.put _ (some 15) _ = _; simp only [Act.put, sT_, sZ_, sS_, i64_w, i32_w] <;> rfl) ?_
         exact norm_ (by simp only [putAll, Act.put, sT_, sZ_, sS_] <;> rfl) (hJ3_7_8 (gb119) _ ⟨hHeld, BK113.out, BK114.out, BK119.out, GW119.out, GE119.out, NB113_119.out, NB119_113.out, NB114_119.out, NB119_114.out, (by repeat (with_reducible first | exact HB.out | apply bA_ | apply bN_ | apply bD_ | refine bS_ ?_ GE113.out | refine bS_ ?_ GE114.out | refine bS_ ?_ GE119.out))⟩)
        ·skip
         refine box_step rfl (N := 7) rfl (cs := #[.int .u64 0, .int .u64 0]) (t := 128) ?hr ?_; (case hr => go_simp <;> rfl)
         intro gb120 hg w13 hbox hb
         have BK120 := aA_ (hbox)
         have GW120 := gW_ hg (by repeat (with_reducible first | exact HB.out | apply bA_ | apply bN_ | apply bD_ | refine bS_ ?_ GE113.out | refine bS_ ?_ GE114.out | refine bS_ ?_ GE119.out))
         have GE120 := GW120
         replace HB := bB_ (by repeat (with_reducible first | exact HB.out | apply bA_ | apply bN_ | apply bD_ | refine bS_ ?_ GE113.out | refine bS_ ?_ GE114.out | refine bS_ ?_ GE119.out)) hb
         have NB113_120 := nE_ hg BK113
         have NB120_113 := aA_ NB113_120.out.symm
         replace BK113 := bK_ BK113 hb
         have NB114_120 := nE_ hg BK114
         have NB120_114 := aA_ NB114_120.out.symm
         replace BK114 := bK_ BK114 hb
         have NB119_120 := nE_ hg BK119
         have NB120_119 := aA_ NB119_120.out.symm
         replace BK119 := bK_ BK119 hb
         clear hb hbox hg
         refine hK.out _ _ ⟨(blk_cell BK113.out 0).trans rfl, (blk_cell BK113.out 1).trans rfl⟩ (fun hHeld => ?_)
         clear hK K
         refine norm_ (by show Act.put _ (some 7) _ = _; simp only [Act.put, sT_, sZ_, sS_, i64_w, i32_w] <;> rfl) ?_
         exact norm_ (by simp only [putAll, Act.put, sT_, sZ_, sS_] <;> rfl) (hJ3_8_9 (gb119, gb120) _ ⟨hHeld, BK113.out, BK114.out, BK119.out, BK120.out, GW119.out, GE119.out, NB113_119.out, NB119_113.out, NB114_119.out, NB119_114.out, NB120_119.out, NB119_120.out, GW120.out, GE120.out, NB113_120.out, NB120_113.out, NB114_120.out, NB120_114.out, (by repeat (with_reducible first | exact HB.out | apply bA_ | apply bN_ | apply bD_ | refine bS_ ?_ GE113.out | refine bS_ ?_ GE114.out | refine bS_ ?_ GE119.out | refine bS_ ?_ GE120.out))⟩)
      ·skip
       rintro _ w12 ⟨hS_, h0_, h1_, h2_⟩
       (try dsimp only at h0_ h1_ h2_)
       clear BK113 BK114 HB
       have BK113 := aA_ h0_
       have BK114 := aA_ h1_
       have HB := aA_ h2_
       clear h0_ h1_ h2_
       have hHeld : w12.cell? ⟨gb113, 0, none⟩ = some (.int .u64 a0_0) ∧ w12.cell? ⟨gb113, 1, none⟩ = some (.int .u64 a0_1) := hS_
       refine norm_ (a' := ?_) ?_ ?_
       rotate_left
       ·simp only [putAll, Act.put, sT_, sZ_, sS_]
        rfl
       refine two_ (i := 8) (j := 9) (Ni := some 6) (Nj := some 7) (wide_Times.ups 12 511) (wide_Times.ups 12 767) rfl rfl rfl rfl (two_of HT_.out (by kernel_rfl)) (by decide) (by decide) (fun K hK => ?_) (fun K hK => ?_)
       ·skip
        refine box_step rfl (N := 6) rfl (cs := #[.int .u64 0, .int .u64 0]) (t := 128) ?hr ?_; (case hr => go_simp <;> rfl)
        intro gb119 hg w13 hbox hb
        have BK119 := aA_ (hbox)
        have GW119 := gW_ hg (by repeat (with_reducible first | exact HB.out | apply bA_ | apply bN_ | apply bD_ | refine bS_ ?_ GE113.out | refine bS_ ?_ GE114.out))
        have GE119 := GW119
        replace HB := bB_ (by repeat (with_reducible first | exact HB.out | apply bA_ | apply bN_ | apply bD_ | refine bS_ ?_ GE113.out | refine bS_ ?_ GE114.out)) hb
        have NB113_119 := nE_ hg BK113
        have NB119_113 := aA_ NB113_119.out.symm
        replace BK113 := bK_ BK113 hb
        have NB114_119 := nE_ hg BK114
        have NB119_114 := aA_ NB114_119.out.symm
        replace BK114 := bK_ BK114 hb
        clear hb hbox hg
        refine hK.out _ _ ⟨(blk_cell BK113.out 0).trans rfl, (blk_cell BK113.out 1).trans rfl⟩ (fun hHeld => ?_)
        clear hK K
        refine norm_ (by show Act.put _ (some 6) _ = _; simp only [Act.put, sT_, sZ_, sS_, i64_w, i32_w] <;> rfl) ?_
        exact norm_ (by simp only [putAll, Act.put, sT_, sZ_, sS_] <;> rfl) (hJ3_7_8 (gb119) _ ⟨hHeld, BK113.out, BK114.out, BK119.out, GW119.out, GE119.out, NB113_119.out, NB119_113.out, NB114_119.out, NB119_114.out, (by repeat (with_reducible first | exact HB.out | apply bA_ | apply bN_ | apply bD_ | refine bS_ ?_ GE113.out | refine bS_ ?_ GE114.out | refine bS_ ?_ GE119.out))⟩)
       ·skip
        refine box_step rfl (N := 7) rfl (cs := #[.int .u64 0, .int .u64 0]) (t := 128) ?hr ?_; (case hr => go_simp <;> rfl)
        intro gb120 hg w13 hbox hb
        have BK120 := aA_ (hbox)
        have GW120 := gW_ hg (by repeat (with_reducible first | exact HB.out | apply bA_ | apply bN_ | apply bD_ | refine bS_ ?_ GE113.out | refine bS_ ?_ GE114.out))
        have GE120 := GW120
        replace HB := bB_ (by repeat (with_reducible first | exact HB.out | apply bA_ | apply bN_ | apply bD_ | refine bS_ ?_ GE113.out | refine bS_ ?_ GE114.out)) hb
        have NB113_120 := nE_ hg BK113
        have NB120_113 := aA_ NB113_120.out.symm
        replace BK113 := bK_ BK113 hb
        have NB114_120 := nE_ hg BK114
        have NB120_114 := aA_ NB114_120.out.symm
        replace BK114 := bK_ BK114 hb
        clear hb hbox hg
        refine hK.out _ _ ⟨(blk_cell BK113.out 0).trans rfl, (blk_cell BK113.out 1).trans rfl⟩ (fun hHeld => ?_)
        clear hK K
        refine norm_ (by show Act.put _ (some 7) _ = _; simp only [Act.put, sT_, sZ_, sS_, i64_w, i32_w] <;> rfl) ?_
        exact norm_ (by simp only [putAll, Act.put, sT_, sZ_, sS_] <;> rfl) (hJ3_7_9 (gb120) _ ⟨hHeld, BK113.out, BK114.out, BK120.out, GW120.out, GE120.out, NB113_120.out, NB120_113.out, NB114_120.out, NB120_114.out, (by repeat (with_reducible first | exact HB.out | apply bA_ | apply bN_ | apply bD_ | refine bS_ ?_ GE113.out | refine bS_ ?_ GE114.out | refine bS_ ?_ GE120.out))⟩)
     ·skip
      rintro ⟨gb119, gb120⟩ w13 ⟨hS_, h0_, h1_, h2_, h3_, h4_, h5_, h6_, h7_, h8_, h9_, h10_, h11_, h12_, h13_, h14_, h15_, h16_, h17_, h18_⟩
      (try dsimp only at h0_ h1_ h2_ h3_ h4_ h5_ h6_ h7_ h8_ h9_ h10_ h11_ h12_ h13_ h14_ h15_ h16_ h17_ h18_)
      clear BK113 BK114 HB
      have BK113 := aA_ h0_
      have BK114 := aA_ h1_
      have BK119 := aA_ h2_
      have BK120 := aA_ h3_
      have GW119 := aA_ h4_
      have GE119 := aA_ h5_
      have NB113_119 := aA_ h6_
      have NB119_113 := aA_ h7_
      have NB114_119 := aA_ h8_
      have NB119_114 := aA_ h9_
      have NB120_119 := aA_ h10_
      have NB119_120 := aA_ h11_
      have GW120 := aA_ h12_
      have GE120 := aA_ h13_
      have NB113_120 := aA_ h14_
      have NB120_113 := aA_ h15_
      have NB114_120 := aA_ h16_
      have NB120_114 := aA_ h17_
      have HB := aA_ h18_
      clear h0_ h1_ h2_ h3_ h4_ h5_ h6_ h7_ h8_ h9_ h10_ h11_ h12_ h13_ h14_ h15_ h16_ h17_ h18_
      have hHeld : w13.cell? ⟨gb113, 0, none⟩ = some (.int .u64 a0_0) ∧ w13.cell? ⟨gb113, 1, none⟩ = some (.int .u64 a0_1) := hS_
      refine norm_ (a' := ?_) ?_ ?_
      rotate_left
      ·simp only [putAll, Act.put, sT_, sZ_, sS_]
       rfl
      refine one_ (i := 7) (N := some 15) (wide_Times.ups 12 1023) rfl rfl (one_of HT_.out (by kernel_rfl)) (by decide) (fun K hK => ?_)
      refine goes_ Try.func77 (by kernel_rfl) rfl #[.int .u64 a0_0, .int .u64 a1] (by rfl) rfl rfl (by (try simp only [mT_, mC_, mN_]); first | done | rfl) ?_
      with_reducible refine (wide_Mul.calls a0_0 a1 t117 t118 _ A4.out).mono ?_
      rintro e w14 ⟨rfl, hb⟩
      refine ⟨_, rfl, ?_⟩
      replace BK113 := bK_ BK113 hb
      replace BK114 := bK_ BK114 hb
      replace BK119 := bK_ BK119 hb
      replace BK120 := bK_ BK120 hb
      replace HB := bB_ (by repeat (with_reducible first | exact HB.out | apply bA_ | apply bN_ | apply bD_ | refine bS_ ?_ GE113.out | refine bS_ ?_ GE114.out | refine bS_ ?_ GE119.out | refine bS_ ?_ GE120.out)) hb
      (try clear hb)
      (try clear hb2)
      (try clear hk)
      (try clear hi)
      refine hK.out _ _ ⟨(blk_cell BK113.out 0).trans rfl, (blk_cell BK113.out 1).trans rfl⟩ (fun hHeld => ?_)
      clear hK K
      refine norm_ (by show Act.put _ (some 15) _ = _; simp only [Act.put, sT_, sZ_, sS_, i64_w, i32_w] <;> rfl) ?_
      exact norm_ (by simp only [putAll, Act.put, sT_, sZ_, sS_] <;> rfl) (hJ3_7_8_9 (gb119, gb120) _ ⟨hHeld, BK113.out, BK114.out, BK119.out, BK120.out, GW119.out, GE119.out, NB113_119.out, NB119_113.out, NB114_119.out, NB119_114.out, NB120_119.out, NB119_120.out, GW120.out, GE120.out, NB113_120.out, NB120_113.out, NB114_120.out, NB120_114.out, (by repeat (with_reducible first | exact HB.out | apply bA_ | apply bN_ | apply bD_ | refine bS_ ?_ GE113.out | refine bS_ ?_ GE114.out | refine bS_ ?_ GE119.out | refine bS_ ?_ GE120.out))⟩)
    ·skip
     rintro gb120 w13 ⟨hS_, h0_, h1_, h2_, h3_, h4_, h5_, h6_, h7_, h8_, h9_⟩
     (try dsimp only at h0_ h1_ h2_ h3_ h4_ h5_ h6_ h7_ h8_ h9_)
     clear BK113 BK114 HB
     have BK113 := aA_ h0_
     have BK114 := aA_ h1_
     have BK120 := aA_ h2_
     have GW120 := aA_ h3_
     have GE120 := aA_ h4_
     have NB113_120 := aA_ h5_
     have NB120_113 := aA_ h6_
     have NB114_120 := aA_ h7_
     have NB120_114 := aA_ h8_
     have HB := aA_ h9_
     clear h0_ h1_ h2_ h3_ h4_ h5_ h6_ h7_ h8_ h9_
     have hHeld : w13.cell? ⟨gb113, 0, none⟩ = some (.int .u64 a0_0) ∧ w13.cell? ⟨gb113, 1, none⟩ = some (.int .u64 a0_1) := hS_
     refine norm_ (a' := ?_) ?_ ?_
     rotate_left
     ·simp only [putAll, Act.put, sT_, sZ_, sS_]
      rfl
     refine one_ (i := 8) (N := some 6) (wide_Times.ups 12 1023) rfl rfl (one_of HT_.out (by kernel_rfl)) (by decide) (fun K hK => ?_)
     refine box_step rfl (N := 6) rfl (cs := #[.int .u64 0, .int .u64 0]) (t := 128) ?hr ?_; (case hr => go_simp <;> rfl)
     intro gb119 hg w14 hbox hb
     have BK119 := aA_ (hbox)
     have GW119 := gW_ hg (by repeat (with_reducible first | exact HB.out | apply bA_ | apply bN_ | apply bD_ | refine bS_ ?_ GE113.out | refine bS_ ?_ GE114.out | refine bS_ ?_ GE120.out))
     have GE119 := GW119
     replace HB := bB_ (by repeat (with_reducible first | exact HB.out | apply bA_ | apply bN_ | apply bD_ | refine bS_ ?_ GE113.out | refine bS_ ?_ GE114.out | refine bS_ ?_ GE120.out)) hb
     have NB113_119 := nE_ hg BK113
     have NB119_113 := aA_ NB113_119.out.symm
     replace BK113 := bK_ BK113 hb
     have NB114_119 := nE_ hg BK114
     have NB119_114 := aA_ NB114_119.out.symm
     replace BK114 := bK_ BK114 hb
     have NB120_119 := nE_ hg BK120
     have NB119_120 := aA_ NB120_119.out.symm
     replace BK120 := bK_ BK120 hb
     clear hb hbox hg
     refine hK.out _ _ ⟨(blk_cell BK113.out 0).trans rfl, (blk_cell BK113.out 1).trans rfl⟩ (fun hHeld => ?_)
     clear hK K
     refine norm_ (by show Act.put _ (some 6) _ = _; simp only [Act.put, sT_, sZ_, sS_, i64_w, i32_w] <;> rfl) ?_
     exact norm_ (by simp only [putAll, Act.put, sT_, sZ_, sS_] <;> rfl) (hJ3_7_8_9 (gb119, gb120) _ ⟨hHeld, BK113.out, BK114.out, BK119.out, BK120.out, GW119.out, GE119.out, NB113_119.out, NB119_113.out, NB114_119.out, NB119_114.out, NB120_119.out, NB119_120.out, GW120.out, GE120.out, NB113_120.out, NB120_113.out, NB114_120.out, NB120_114.out, (by repeat (with_reducible first | exact HB.out | apply bA_ | apply bN_ | apply bD_ | refine bS_ ?_ GE113.out | refine bS_ ?_ GE114.out | refine bS_ ?_ GE120.out | refine bS_ ?_ GE119.out))⟩)
   ·skip
    rintro gb119 w13 ⟨hS_, h0_, h1_, h2_, h3_, h4_, h5_, h6_, h7_, h8_, h9_⟩
    (try dsimp only at h0_ h1_ h2_ h3_ h4_ h5_ h6_ h7_ h8_ h9_)
    clear BK113 BK114 HB
    have BK113 := aA_ h0_
    have BK114 := aA_ h1_
    have BK119 := aA_ h2_
    have GW119 := aA_ h3_
    have GE119 := aA_ h4_
    have NB113_119 := aA_ h5_
    have NB119_113 := aA_ h6_
    have NB114_119 := aA_ h7_
    have NB119_114 := aA_ h8_
    have HB := aA_ h9_
    clear h0_ h1_ h2_ h3_ h4_ h5_ h6_ h7_ h8_ h9_
    have hHeld : w13.cell? ⟨gb113, 0, none⟩ = some (.int .u64 a0_0) ∧ w13.cell? ⟨gb113, 1, none⟩ = some (.int .u64 a0_1) := hS_
    refine norm_ (a' := ?_) ?_ ?_
    rotate_left
    ·simp only [putAll, Act.put, sT_, sZ_, sS_]
     rfl
    refine one_ (i := 9) (N := some 7) (wide_Times.ups 12 1023) rfl rfl (one_of HT_.out (by kernel_rfl)) (by decide) (fun K hK => ?_)
    refine box_step rfl (N := 7) rfl (cs := #[.int .u64 0, .int .u64 0]) (t := 128) ?hr ?_; (case hr => go_simp <;> rfl)
    intro gb120 hg w14 hbox hb
    have BK120 := aA_ (hbox)
    have GW120 := gW_ hg (by repeat (with_reducible first | exact HB.out | apply bA_ | apply bN_ | apply bD_ | refine bS_ ?_ GE113.out | refine bS_ ?_ GE114.out | refine bS_ ?_ GE119.out))
    have GE120 := GW120
    replace HB := bB_ (by repeat (with_reducible first | exact HB.out | apply bA_ | apply bN_ | apply bD_ | refine bS_ ?_ GE113.out | refine bS_ ?_ GE114.out | refine bS_ ?_ GE119.out)) hb
    have NB113_120 := nE_ hg BK113
    have NB120_113 := aA_ NB113_120.out.symm
    replace BK113 := bK_ BK113 hb
    have NB114_120 := nE_ hg BK114
    have NB120_114 := aA_ NB114_120.out.symm
    replace BK114 := bK_ BK114 hb
    have NB119_120 := nE_ hg BK119
    have NB120_119 := aA_ NB119_120.out.symm
    replace BK119 := bK_ BK119 hb
    clear hb hbox hg
    refine hK.out _ _ ⟨(blk_cell BK113.out 0).trans rfl, (blk_cell BK113.out 1).trans rfl⟩ (fun hHeld => ?_)
    clear hK K
    refine norm_ (by show Act.put _ (some 7) _ = _; simp only [Act.put, sT_, sZ_, sS_, i64_w, i32_w] <;> rfl) ?_
    exact norm_ (by simp only [putAll, Act.put, sT_, sZ_, sS_] <;> rfl) (hJ3_7_8_9 (gb119, gb120) _ ⟨hHeld, BK113.out, BK114.out, BK119.out, BK120.out, GW119.out, GE119.out, NB113_119.out, NB119_113.out, NB114_119.out, NB119_114.out, NB120_119.out, NB119_120.out, GW120.out, GE120.out, NB113_120.out, NB120_113.out, NB114_120.out, NB120_114.out, (by repeat (with_reducible first | exact HB.out | apply bA_ | apply bN_ | apply bD_ | refine bS_ ?_ GE113.out | refine bS_ ?_ GE114.out | refine bS_ ?_ GE119.out | refine bS_ ?_ GE120.out))⟩)
  rintro ⟨gb119, gb120⟩ w14 ⟨hS_, h0_, h1_, h2_, h3_, h4_, h5_, h6_, h7_, h8_, h9_, h10_, h11_, h12_, h13_, h14_, h15_, h16_, h17_, h18_⟩
  (try dsimp only at h0_ h1_ h2_ h3_ h4_ h5_ h6_ h7_ h8_ h9_ h10_ h11_ h12_ h13_ h14_ h15_ h16_ h17_ h18_)
  clear BK113 BK114 HB
  have BK113 := aA_ h0_
  have BK114 := aA_ h1_
  have BK119 := aA_ h2_
  have BK120 := aA_ h3_
  have GW119 := aA_ h4_
  have GE119 := aA_ h5_
  have NB113_119 := aA_ h6_
  have NB119_113 := aA_ h7_
  have NB114_119 := aA_ h8_
  have NB119_114 := aA_ h9_
  have NB120_119 := aA_ h10_
  have NB119_120 := aA_ h11_
  have GW120 := aA_ h12_
  have GE120 := aA_ h13_
  have NB113_120 := aA_ h14_
  have NB120_113 := aA_ h15_
  have NB114_120 := aA_ h16_
  have NB120_114 := aA_ h17_
  have HB := aA_ h18_
  clear h0_ h1_ h2_ h3_ h4_ h5_ h6_ h7_ h8_ h9_ h10_ h11_ h12_ h13_ h14_ h15_ h16_ h17_ h18_
  have hHeld : w14.cell? ⟨gb113, 0, none⟩ = some (.int .u64 a0_0) ∧ w14.cell? ⟨gb113, 1, none⟩ = some (.int .u64 a0_1) := hS_
  refine norm_ (a' := ?_) ?_ ?_
  rotate_left
  ·simp only [putAll, Act.put, sT_, sZ_, sS_]
   rfl
  refine one_ (i := 10) (N := none) (wide_Times.ups 12 2047) rfl rfl (one_of HT_.out (by kernel_rfl)) (by decide) (fun K hK => ?_)
  have hs15 : w14.cell? ⟨gb119, 0, none⟩ = some (.int .u64 0) := (blk_cell BK119.out 0).trans rfl
  have hfs15 := blk_frozen BK119.out 0
  have hns15_0 := NB113_119.out
  have hns15_1 := NB114_119.out
  have hns15_3 := NB120_119.out
  have hms15_0 := NB119_113.out
  have hms15_1 := NB119_114.out
  have hms15_3 := NB119_120.out
  have hs16 : w14.cell? ⟨gb119, 1, none⟩ = some (.int .u64 0) := (blk_cell BK119.out 1).trans rfl
  have hfs16 := blk_frozen BK119.out 1
  have hns16_0 := NB113_119.out
  have hns16_1 := NB114_119.out
  have hns16_3 := NB120_119.out
  have hms16_0 := NB119_113.out
  have hms16_1 := NB119_114.out
  have hms16_3 := NB119_120.out
  refine skip_ (w1 := ?_) (by rfl) rfl ?_ ?_
  rotate_left
  ·go_simp
   rfl
  refine hK.out _ _ ⟨((cell_far (p := ⟨gb119, _, none⟩) NB113_119.out _).trans (((cell_far (p := ⟨gb119, _, none⟩) NB113_119.out _).trans (hHeld.1)))), ((cell_far (p := ⟨gb119, _, none⟩) NB113_119.out _).trans (((cell_far (p := ⟨gb119, _, none⟩) NB113_119.out _).trans (hHeld.2))))⟩ (fun hHeld => ?_)
  clear hK K
  refine one_ (i := 11) (N := none) (wide_Times.ups 12 4095) rfl rfl (one_of HT_.out (by kernel_rfl)) (by decide) (fun K hK => ?_)
  have hs17 : w14.cell? ⟨gb120, 0, none⟩ = some (.int .u64 0) := (blk_cell BK120.out 0).trans rfl
  have hfs17 := blk_frozen BK120.out 0
  have hns17_0 := NB113_120.out
  have hns17_1 := NB114_120.out
  have hns17_2 := NB119_120.out
  have hms17_0 := NB120_113.out
  have hms17_1 := NB120_114.out
  have hms17_2 := NB120_119.out
  have hs18 : w14.cell? ⟨gb120, 1, none⟩ = some (.int .u64 0) := (blk_cell BK120.out 1).trans rfl
  have hfs18 := blk_frozen BK120.out 1
  have hns18_0 := NB113_120.out
  have hns18_1 := NB114_120.out
  have hns18_2 := NB119_120.out
  have hms18_0 := NB120_113.out
  have hms18_1 := NB120_114.out
  have hms18_2 := NB120_119.out
  refine skip_ (w1 := ?_) (by rfl) rfl ?_ ?_
  rotate_left
  ·go_simp
   rfl
  refine hK.out _ _ ⟨((cell_far (p := ⟨gb120, _, none⟩) NB113_120.out _).trans (((cell_far (p := ⟨gb120, _, none⟩) NB113_120.out _).trans (hHeld.1)))), ((cell_far (p := ⟨gb120, _, none⟩) NB113_120.out _).trans (((cell_far (p := ⟨gb120, _, none⟩) NB113_120.out _).trans (hHeld.2))))⟩ (fun hHeld => ?_)
  clear hK K
  refine done_ (done_of HT_.out (by kernel_rfl)) ?_
  have hnb19 := NB120_113.out
  have hnc19 := NB113_120.out
  have hnb20 := NB120_114.out
  have hnc20 := NB114_120.out
  have hnb21 := NB120_119.out
  have hnc21 := NB119_120.out
  have hcz22_0 : w14.cell? ⟨gb120, 0, none⟩ = some (.int .u64 0) := (blk_cell BK120.out 0).trans rfl
  have hcz22_1 : w14.cell? ⟨gb120, 1, none⟩ = some (.int .u64 0) := (blk_cell BK120.out 1).trans rfl
  have hfz22_0 := blk_frozen BK120.out 0
  have hfz22_1 := blk_frozen BK120.out 1
  have hnb23 := NB119_113.out
  have hnc23 := NB113_119.out
  have hnb24 := NB119_114.out
  have hnc24 := NB114_119.out
  have hcz25_0 : w14.cell? ⟨gb119, 0, none⟩ = some (.int .u64 0) := (blk_cell BK119.out 0).trans rfl
  have hcz25_1 : w14.cell? ⟨gb119, 1, none⟩ = some (.int .u64 0) := (blk_cell BK119.out 1).trans rfl
  have hfz25_0 := blk_frozen BK119.out 0
  have hfz25_1 := blk_frozen BK119.out 1
  try go_wp2_with (first | (refine goesL_ (some 24) rfl rfl Try.func80 (by kernel_rfl) rfl #[.agg #[.int .u64 t115, .int .u64 t116], .agg #[.int .u64 t118, .int .u64 0]] rfl (by (try simp only [mT_, mC_, mN_]); first | done | rfl) ?_; (with_reducible refine (wide_Add.calls t115 t116 t118 0 t121 t122 t123 _ A6.out).mono ?_); rintro e w26 ⟨rfl, hb⟩; refine ⟨_, rfl, ?_⟩; replace BK113 := aA_ (blk_below (g := gb113) (o := .cells #[.int .u64 a0_0, .int .u64 a0_1] 128 (0, 0)) (by refine blk_far ?_ NB113_120.out _; refine blk_far ?_ NB113_120.out _; refine blk_far ?_ NB113_119.out _; refine blk_far ?_ NB113_119.out _; exact BK113.out) hb); replace BK114 := aA_ (blk_below (g := gb114) (o := .cells #[.int .u64 0, .int .u64 0] 128 (0, 0)) (by refine blk_far ?_ NB114_120.out _; refine blk_far ?_ NB114_120.out _; refine blk_far ?_ NB114_119.out _; refine blk_far ?_ NB114_119.out _; exact BK114.out) hb); replace BK119 := aA_ (blk_below (g := gb119) (o := .cells #[.int .u64 t115, .int .u64 t116] 128 (0, 0)) (by refine blk_far ?_ NB119_120.out _; refine blk_far ?_ NB119_120.out _; refine blk_put (cs := #[.int .u64 t115, .int .u64 0]) ?_ 1 _ rfl; refine blk_put (cs := #[.int .u64 0, .int .u64 0]) ?_ 0 _ rfl; exact BK119.out) hb); replace BK120 := aA_ (blk_below (g := gb120) (o := .cells #[.int .u64 t117, .int .u64 t118] 128 (0, 0)) (by refine blk_put (cs := #[.int .u64 t117, .int .u64 0]) ?_ 1 _ rfl; refine blk_put (cs := #[.int .u64 0, .int .u64 0]) ?_ 0 _ rfl; refine blk_far ?_ NB120_119.out _; refine blk_far ?_ NB120_119.out _; exact BK120.out) hb); replace HB := bB_ (by repeat (with_reducible first | exact HB.out | apply bA_ | apply bN_ | apply bD_ | refine bS_ ?_ GE113.out | refine bS_ ?_ GE114.out | refine bS_ ?_ GE119.out | refine bS_ ?_ GE120.out)) hb; (try clear hb); have hnb27 := NB114_113.out; have hnc27 := NB113_114.out; have hcz28_0 : w26.cell? ⟨gb114, 0, none⟩ = some (.int .u64 0) := (blk_cell BK114.out 0).trans rfl; have hcz28_1 : w26.cell? ⟨gb114, 1, none⟩ = some (.int .u64 0) := (blk_cell BK114.out 1).trans rfl; have hfz28_0 := blk_frozen BK114.out 0; have hfz28_1 := blk_frozen BK114.out 1))
  refine bodyPost_ret (results_ct rfl _ _ gb114 128 #[.int .u64 t121, .int .u64 t122] (0, 0) _ rfl (by refine blk_put (cs := #[.int .u64 t121, .int .u64 0]) ?_ 1 _ rfl; refine blk_put (cs := #[.int .u64 0, .int .u64 0]) ?_ 0 _ rfl; exact BK114.out) Try.underlying128 rfl (by kernel_rfl)) rfl ?_
  exact ⟨by rfl, by repeat (with_reducible first | exact HB.out | apply bA_ | apply bN_ | apply bD_ | refine bS_ ?_ GE113.out | refine bS_ ?_ GE114.out | refine bS_ ?_ GE119.out | refine bS_ ?_ GE120.out)⟩
 ·rw [if_neg c5] at H
  have c5b0 : (t117 == 0) = false := beq_eq_false_iff_ne.mpr c5
  have c5b1 : (t117 != 0) = true := bne_iff_ne.mpr c5
  simp only [Option.some.injEq, Prod.mk.injEq] at H
  obtain ⟨rfl, rfl, rfl⟩ := H
  go_enter Try.func76, Try.ntmps76
  try go_wp2_with (first | (refine box_event rfl (N := 2) rfl (cs := #[.int .u64 a0_0, .int .u64 a0_1]) (t := 128) ?hr ?_; (case hr => go_simp <;> rfl); intro gb113 hg w29 hbox hb; have BK113 := aA_ (hbox); have GW113 := gW_ hg (by repeat (with_reducible first | exact HB.out | apply bA_ | apply bN_ | apply bD_)); have GE113 := GW113; replace HB := bB_ (by repeat (with_reducible first | exact HB.out | apply bA_ | apply bN_ | apply bD_)) hb; clear hb hbox hg) | (refine box_event rfl (N := 4) rfl (cs := #[.int .u64 0, .int .u64 0]) (t := 128) ?hr ?_; (case hr => go_simp <;> rfl); intro gb114 hg w30 hbox hb; have BK114 := aA_ (hbox); have GW114 := gW_ hg (by repeat (with_reducible first | exact HB.out | apply bA_ | apply bN_ | apply bD_ | refine bS_ ?_ GE113.out)); have GE114 := GW114; replace HB := bB_ (by repeat (with_reducible first | exact HB.out | apply bA_ | apply bN_ | apply bD_ | refine bS_ ?_ GE113.out)) hb; have NB113_114 := nE_ hg BK113; have NB114_113 := aA_ NB113_114.out.symm; replace BK113 := bK_ BK113 hb; clear hb hbox hg))
  replace BK113 := aA_ (blk_drew BK113.out)
  replace BK114 := aA_ (blk_drew BK114.out)
  replace HB := aA_ (below_drew1 HB.out)
  refine start_ (n := 12) (S := fun w' => w'.cell? ⟨gb113, 0, none⟩ = some (.int .u64 a0_0) ∧ w'.cell? ⟨gb113, 1, none⟩ = some (.int .u64 a0_1)) (ds := []) (wide_Times.ups 12 0) (by kernel_rfl) rfl rfl ⟨(blk_cell BK113.out 0).trans rfl, (blk_cell BK113.out 1).trans rfl⟩ (fun hHeld => ?_); refine with_tabW wide_Times.tab1 wide_Times.bits1 (fun HT_ HW_ => ?_)
  generalize w30.drew = w31 at BK113 BK114 HB hHeld ⊢
  refine pure_ (i := 0) (N := some 8) (v := ?_) (a' := ?_) (wide_Times.ups 12 1) rfl rfl (any_of HT_.out (by kernel_rfl)) (fun _ _ _ h => h) (Or.inl ⟨by rfl, ?_⟩) ?_ ?_
  rotate_left
  ·intro w'
   go_simp
   with_reducible rfl
  rotate_left
  ·simp only [Act.put, sT_, sZ_, sS_, i64_w, i32_w]
   rfl
  refine pure_ (i := 2) (N := some 10) (v := ?_) (a' := ?_) (wide_Times.ups 12 5) rfl rfl (any_of HT_.out (by kernel_rfl)) (fun _ _ _ h => h) (Or.inl ⟨by rfl, ?_⟩) ?_ ?_
  rotate_left
  ·intro w'
   go_simp
   with_reducible rfl
  rotate_left
  ·simp only [Act.put, sT_, sZ_, sS_, i64_w, i32_w]
   rfl
  refine pure_ (i := 4) (N := some 12) (v := ?_) (a' := ?_) (wide_Times.ups 12 21) rfl rfl (any_of HT_.out (by kernel_rfl)) (fun _ _ _ h => h) (Or.inl ⟨by rfl, ?_⟩) ?_ ?_
  rotate_left
  ·intro w'
   go_simp
   with_reducible rfl
  rotate_left
  ·simp only [Act.put, sT_, sZ_, sS_, i64_w, i32_w]
   rfl
  refine pure_ (i := 6) (N := some 14) (v := ?_) (a' := ?_) (wide_Times.ups 12 85) rfl rfl (any_of HT_.out (by kernel_rfl)) (fun _ _ _ h => h) (Or.inl ⟨by rfl, ?_⟩) ?_ ?_
  rotate_left
  ·intro w'
   go_simp
   with_reducible rfl
  rotate_left
  ·simp only [Act.put, sT_, sZ_, sS_, i64_w, i32_w]
   rfl
  refine take_ (i := 1) (N := some 9) (v := ?_) (a' := ?_) (wide_Times.ups 12 87) rfl rfl (take_ofW HT_.out HW_.out (by kernel_rfl)) (fun _ _ _ h => h) (Or.inl ⟨by rfl, ?_⟩) hHeld ?_ ?_
  rotate_left
  ·rintro w' ⟨s0, s1⟩
   go_simp
   with_reducible rfl
  rotate_left
  ·simp only [Act.put, sT_, sZ_, sS_, i64_w, i32_w]
   rfl
  refine take_ (i := 5) (N := some 13) (v := ?_) (a' := ?_) (wide_Times.ups 12 119) rfl rfl (take_ofW HT_.out HW_.out (by kernel_rfl)) (fun _ _ _ h => h) (Or.inl ⟨by rfl, ?_⟩) hHeld ?_ ?_
  rotate_left
  ·rintro w' ⟨s0, s1⟩
   go_simp
   with_reducible rfl
  rotate_left
  ·simp only [Act.put, sT_, sZ_, sS_, i64_w, i32_w]
   rfl
  refine join_ (σ := Nat × Nat) 2 (wide_Times.ups 12 1023) (fun s_ => [(11, .agg #[.int .u64 t115, .int .u64 t116]), (15, .agg #[.int .u64 t117, .int .u64 t118]), (6, .pointer (some ⟨s_.1, 0, none⟩)), (7, .pointer (some ⟨s_.2, 0, none⟩))]) (fun s_ w' => (w'.cell? ⟨gb113, 0, none⟩ = some (.int .u64 a0_0) ∧ w'.cell? ⟨gb113, 1, none⟩ = some (.int .u64 a0_1)) ∧ (w'.heap[gb113]? = some (.cells #[.int .u64 a0_0, .int .u64 a0_1] 128 (0, 0))) ∧ (w'.heap[gb114]? = some (.cells #[.int .u64 0, .int .u64 0] 128 (0, 0))) ∧ (w'.heap[s_.1]? = some (.cells #[.int .u64 0, .int .u64 0] 128 (0, 0))) ∧ (w'.heap[s_.2]? = some (.cells #[.int .u64 0, .int .u64 0] 128 (0, 0))) ∧ (w.heap.size ≤ s_.1) ∧ (w.heap.size ≤ s_.1) ∧ (gb113 ≠ s_.1) ∧ (s_.1 ≠ gb113) ∧ (gb114 ≠ s_.1) ∧ (s_.1 ≠ gb114) ∧ (s_.2 ≠ s_.1) ∧ (s_.1 ≠ s_.2) ∧ (w.heap.size ≤ s_.2) ∧ (w.heap.size ≤ s_.2) ∧ (gb113 ≠ s_.2) ∧ (s_.2 ≠ gb113) ∧ (gb114 ≠ s_.2) ∧ (s_.2 ≠ gb114) ∧ (Below w.heap.size w w')) ?_ ?_
  rotate_left
  ·intro hJ3_7_8_9
   refine join_ (σ := Nat) 3 (wide_Times.ups 12 511) (fun s_ => [(11, .agg #[.int .u64 t115, .int .u64 t116]), (15, .agg #[.int .u64 t117, .int .u64 t118]), (6, .pointer (some ⟨s_, 0, none⟩))]) (fun s_ w' => (w'.cell? ⟨gb113, 0, none⟩ = some (.int .u64 a0_0) ∧ w'.cell? ⟨gb113, 1, none⟩ = some (.int .u64 a0_1)) ∧ (w'.heap[gb113]? = some (.cells #[.int .u64 a0_0, .int .u64 a0_1] 128 (0, 0))) ∧ (w'.heap[gb114]? = some (.cells #[.int .u64 0, .int .u64 0] 128 (0, 0))) ∧ (w'.heap[s_]? = some (.cells #[.int .u64 0, .int .u64 0] 128 (0, 0))) ∧ (w.heap.size ≤ s_) ∧ (w.heap.size ≤ s_) ∧ (gb113 ≠ s_) ∧ (s_ ≠ gb113) ∧ (gb114 ≠ s_) ∧ (s_ ≠ gb114) ∧ (Below w.heap.size w w')) ?_ ?_
   rotate_left
   ·intro hJ3_7_8
    refine join_ (σ := Nat) 3 (wide_Times.ups 12 767) (fun s_ => [(11, .agg #[.int .u64 t115, .int .u64 t116]), (15, .agg #[.int .u64 t117, .int .u64 t118]), (7, .pointer (some ⟨s_, 0, none⟩))]) (fun s_ w' => (w'.cell? ⟨gb113, 0, none⟩ = some (.int .u64 a0_0) ∧ w'.cell? ⟨gb113, 1, none⟩ = some (.int .u64 a0_1)) ∧ (w'.heap[gb113]? = some (.cells #[.int .u64 a0_0, .int .u64 a0_1] 128 (0, 0))) ∧ (w'.heap[gb114]? = some (.cells #[.int .u64 0, .int .u64 0] 128 (0, 0))) ∧ (w'.heap[s_]? = some (.cells #[.int .u64 0, .int .u64 0] 128 (0, 0))) ∧ (w.heap.size ≤ s_) ∧ (w.heap.size ≤ s_) ∧ (gb113 ≠ s_) ∧ (s_ ≠ gb113) ∧ (gb114 ≠ s_) ∧ (s_ ≠ gb114) ∧ (Below w.heap.size w w')) ?_ ?_
    rotate_left
    ·intro hJ3_7_9
     refine join_ (σ := Nat × Nat) 3 (wide_Times.ups 12 895) (fun s_ => [(11, .agg #[.int .u64 t115, .int .u64 t116]), (6, .pointer (some ⟨s_.1, 0, none⟩)), (7, .pointer (some ⟨s_.2, 0, none⟩))]) (fun s_ w' => (w'.cell? ⟨gb113, 0, none⟩ = some (.int .u64 a0_0) ∧ w'.cell? ⟨gb113, 1, none⟩ = some (.int .u64 a0_1)) ∧ (w'.heap[gb113]? = some (.cells #[.int .u64 a0_0, .int .u64 a0_1] 128 (0, 0))) ∧ (w'.heap[gb114]? = some (.cells #[.int .u64 0, .int .u64 0] 128 (0, 0))) ∧ (w'.heap[s_.1]? = some (.cells #[.int .u64 0, .int .u64 0] 128 (0, 0))) ∧ (w'.heap[s_.2]? = some (.cells #[.int .u64 0, .int .u64 0] 128 (0, 0))) ∧ (w.heap.size ≤ s_.1) ∧ (w.heap.size ≤ s_.1) ∧ (gb113 ≠ s_.1) ∧ (s_.1 ≠ gb113) ∧ (gb114 ≠ s_.1) ∧ (s_.1 ≠ gb114) ∧ (s_.2 ≠ s_.1) ∧ (s_.1 ≠ s_.2) ∧ (w.heap.size ≤ s_.2) ∧ (w.heap.size ≤ s_.2) ∧ (gb113 ≠ s_.2) ∧ (s_.2 ≠ gb113) ∧ (gb114 ≠ s_.2) ∧ (s_.2 ≠ gb114) ∧ (Below w.heap.size w w')) ?_ ?_
     rotate_left
     ·intro hJ3_8_9
      refine join_ (σ := Unit) 4 (wide_Times.ups 12 255) (fun s_ => [(11, .agg #[.int .u64 t115, .int .u64 t116]), (15, .agg #[.int .u64 t117, .int .u64 t118])]) (fun s_ w' => (w'.cell? ⟨gb113, 0, none⟩ = some (.int .u64 a0_0) ∧ w'.cell? ⟨gb113, 1, none⟩ = some (.int .u64 a0_1)) ∧ (w'.heap[gb113]? = some (.cells #[.int .u64 a0_0, .int .u64 a0_1] 128 (0, 0))) ∧ (w'.heap[gb114]? = some (.cells #[.int .u64 0, .int .u64 0] 128 (0, 0))) ∧ (Below w.heap.size w w')) ?_ ?_
      rotate_left
      ·intro hJ3_7
       refine join_ (σ := Nat) 4 (wide_Times.ups 12 383) (fun s_ => [(11, .agg #[.int .u64 t115, .int .u64 t116]), (6, .pointer (some ⟨s_, 0, none⟩))]) (fun s_ w' => (w'.cell? ⟨gb113, 0, none⟩ = some (.int .u64 a0_0) ∧ w'.cell? ⟨gb113, 1, none⟩ = some (.int .u64 a0_1)) ∧ (w'.heap[gb113]? = some (.cells #[.int .u64 a0_0, .int .u64 a0_1] 128 (0, 0))) ∧ (w'.heap[gb114]? = some (.cells #[.int .u64 0, .int .u64 0] 128 (0, 0))) ∧ (w'.heap[s_]? = some (.cells #[.int .u64 0, .int .u64 0] 128 (0, 0))) ∧ (w.heap.size ≤ s_) ∧ (w.heap.size ≤ s_) ∧ (gb113 ≠ s_) ∧ (s_ ≠ gb113) ∧ (gb114 ≠ s_) ∧ (s_ ≠ gb114) ∧ (Below w.heap.size w w')) ?_ ?_
       rotate_left
       ·intro hJ3_8
        refine join_ (σ := Nat) 4 (wide_Times.ups 12 639) (fun s_ => [(11, .agg #[.int .u64 t115, .int .u64 t116]), (7, .pointer (some ⟨s_, 0, none⟩))]) (fun s_ w' => (w'.cell? ⟨gb113, 0, none⟩ = some (.int .u64 a0_0) ∧ w'.cell? ⟨gb113, 1, none⟩ = some (.int .u64 a0_1)) ∧ (w'.heap[gb113]? = some (.cells #[.int .u64 a0_0, .int .u64 a0_1] 128 (0, 0))) ∧ (w'.heap[gb114]? = some (.cells #[.int .u64 0, .int .u64 0] 128 (0, 0))) ∧ (w'.heap[s_]? = some (.cells #[.int .u64 0, .int .u64 0] 128 (0, 0))) ∧ (w.heap.size ≤ s_) ∧ (w.heap.size ≤ s_) ∧ (gb113 ≠ s_) ∧ (s_ ≠ gb113) ∧ (gb114 ≠ s_) ∧ (s_ ≠ gb114) ∧ (Below w.heap.size w w')) ?_ ?_
        rotate_left
        ·intro hJ3_9
         refine join_ (σ := Nat × Nat) 4 (wide_Times.ups 12 887) (fun s_ => [(6, .pointer (some ⟨s_.1, 0, none⟩)), (7, .pointer (some ⟨s_.2, 0, none⟩))]) (fun s_ w' => (w'.cell? ⟨gb113, 0, none⟩ = some (.int .u64 a0_0) ∧ w'.cell? ⟨gb113, 1, none⟩ = some (.int .u64 a0_1)) ∧ (w'.heap[gb113]? = some (.cells #[.int .u64 a0_0, .int .u64 a0_1] 128 (0, 0))) ∧ (w'.heap[gb114]? = some (.cells #[.int .u64 0, .int .u64 0] 128 (0, 0))) ∧ (w'.heap[s_.1]? = some (.cells #[.int .u64 0, .int .u64 0] 128 (0, 0))) ∧ (w'.heap[s_.2]? = some (.cells #[.int .u64 0, .int .u64 0] 128 (0, 0))) ∧ (w.heap.size ≤ s_.1) ∧ (w.heap.size ≤ s_.1) ∧ (gb113 ≠ s_.1) ∧ (s_.1 ≠ gb113) ∧ (gb114 ≠ s_.1) ∧ (s_.1 ≠ gb114) ∧ (s_.2 ≠ s_.1) ∧ (s_.1 ≠ s_.2) ∧ (w.heap.size ≤ s_.2) ∧ (w.heap.size ≤ s_.2) ∧ (gb113 ≠ s_.2) ∧ (s_.2 ≠ gb113) ∧ (gb114 ≠ s_.2) ∧ (s_.2 ≠ gb114) ∧ (Below w.heap.size w w')) ?_ ?_
         rotate_left
         ·intro hJ8_9
          refine join_ (σ := Unit) 5 (wide_Times.ups 12 127) (fun s_ => [(11, .agg #[.int .u64 t115, .int .u64 t116])]) (fun s_ w' => (w'.cell? ⟨gb113, 0, none⟩ = some (.int .u64 a0_0) ∧ w'.cell? ⟨gb113, 1, none⟩ = some (.int .u64 a0_1)) ∧ (w'.heap[gb113]? = some (.cells #[.int .u64 a0_0, .int .u64 a0_1] 128 (0, 0))) ∧ (w'.heap[gb114]? = some (.cells #[.int .u64 0, .int .u64 0] 128 (0, 0))) ∧ (Below w.heap.size w w')) ?_ ?_
          rotate_left
          ·intro hJ3
           refine join_ (σ := Nat) 5 (wide_Times.ups 12 375) (fun s_ => [(6, .pointer (some ⟨s_, 0, none⟩))]) (fun s_ w' => (w'.cell? ⟨gb113, 0, none⟩ = some (.int .u64 a0_0) ∧ w'.cell? ⟨gb113, 1, none⟩ = some (.int .u64 a0_1)) ∧ (w'.heap[gb113]? = some (.cells #[.int .u64 a0_0, .int .u64 a0_1] 128 (0, 0))) ∧ (w'.heap[gb114]? = some (.cells #[.int .u64 0, .int .u64 0] 128 (0, 0))) ∧ (w'.heap[s_]? = some (.cells #[.int .u64 0, .int .u64 0] 128 (0, 0))) ∧ (w.heap.size ≤ s_) ∧ (w.heap.size ≤ s_) ∧ (gb113 ≠ s_) ∧ (s_ ≠ gb113) ∧ (gb114 ≠ s_) ∧ (s_ ≠ gb114) ∧ (Below w.heap.size w w')) ?_ ?_
           rotate_left
           ·intro hJ8
            refine join_ (σ := Nat) 5 (wide_Times.ups 12 631) (fun s_ => [(7, .pointer (some ⟨s_, 0, none⟩))]) (fun s_ w' => (w'.cell? ⟨gb113, 0, none⟩ = some (.int .u64 a0_0) ∧ w'.cell? ⟨gb113, 1, none⟩ = some (.int .u64 a0_1)) ∧ (w'.heap[gb113]? = some (.cells #[.int .u64 a0_0, .int .u64 a0_1] 128 (0, 0))) ∧ (w'.heap[gb114]? = some (.cells #[.int .u64 0, .int .u64 0] 128 (0, 0))) ∧ (w'.heap[s_]? = some (.cells #[.int .u64 0, .int .u64 0] 128 (0, 0))) ∧ (w.heap.size ≤ s_) ∧ (w.heap.size ≤ s_) ∧ (gb113 ≠ s_) ∧ (s_ ≠ gb113) ∧ (gb114 ≠ s_) ∧ (s_ ≠ gb114) ∧ (Below w.heap.size w w')) ?_ ?_
            rotate_left
            ·intro hJ9
             refine three_ (i := 3) (j := 8) (k := 9) (Ni := some 11) (Nj := some 6) (Nk := some 7) (wide_Times.ups 12 127) (wide_Times.ups 12 375) (wide_Times.ups 12 631) rfl rfl rfl rfl rfl rfl (three_of HT_.out (by kernel_rfl)) (by decide) (by decide) (by decide) (fun K hK => ?_) (fun K hK => ?_) (fun K hK => ?_)
             ·skip
              refine goes_ Try.func77 (by kernel_rfl) rfl #[.int .u64 a0_1, .int .u64 a1] (by rfl) rfl rfl (by (try simp only [mT_, mC_, mN_]); first | done | rfl) ?_
              with_reducible refine (wide_Mul.calls a0_1 a1 t115 t116 _ A3.out).mono ?_
              rintro e w32 ⟨rfl, hb⟩
              refine ⟨_, rfl, ?_⟩
              replace BK113 := bK_ BK113 hb
              replace BK114 := bK_ BK114 hb
              replace HB := bB_ (by repeat (with_reducible first | exact HB.out | apply bA_ | apply bN_ | apply bD_ | refine bS_ ?_ GE113.out | refine bS_ ?_ GE114.out)) hb
              (try clear hb)
              (try clear hb2)
              (try clear hk)
              (try clear hi)
              refine hK.out _ _ ⟨(blk_cell BK113.out 0).trans rfl, (blk_cell BK113.out 1).trans rfl⟩ (fun hHeld => ?_)
              clear hK K
              refine norm_ (by show Act.put _ (some 11) _ = _; simp only [Act.put, sT_, sZ_, sS_, i64_w, i32_w] <;> rfl) ?_
              exact norm_ (by simp only [putAll, Act.put, sT_, sZ_, sS_] <;> rfl) (hJ3 () _ ⟨hHeld, BK113.out, BK114.out, (by repeat (with_reducible first | exact HB.out | apply bA_ | apply bN_ | apply bD_ | refine bS_ ?_ GE113.out | refine bS_ ?_ GE114.out))⟩)
             ·skip
              refine box_step rfl (N := 6) rfl (cs := #[.int .u64 0, .int .u64 0]) (t := 128) ?hr ?_; (case hr => go_simp <;> rfl)
              intro gb119 hg w32 hbox hb
              have BK119 := aA_ (hbox)
              have GW119 := gW_ hg (by repeat (with_reducible first | exact HB.out | apply bA_ | apply bN_ | apply bD_ | refine bS_ ?_ GE113.out | refine bS_ ?_ GE114.out))
              have GE119 := GW119
              replace HB := bB_ (by repeat (with_reducible first | exact HB.out | apply bA_ | apply bN_ | apply bD_ | refine bS_ ?_ GE113.out | refine bS_ ?_ GE114.out)) hb
              have NB113_119 := nE_ hg BK113
              have NB119_113 := aA_ NB113_119.out.symm
              replace BK113 := bK_ BK113 hb
              have NB114_119 := nE_ hg BK114
              have NB119_114 := aA_ NB114_119.out.symm
              replace BK114 := bK_ BK114 hb
              clear hb hbox hg
              refine hK.out _ _ ⟨(blk_cell BK113.out 0).trans rfl, (blk_cell BK113.out 1).trans rfl⟩ (fun hHeld => ?_)
              clear hK K
              refine norm_ (by show Act.put _ (some 6) _ = _; simp only [Act.put, sT_, sZ_, sS_, i64_w, i32_w] <;> rfl) ?_
              exact norm_ (by simp only [putAll, Act.put, sT_, sZ_, sS_] <;> rfl) (hJ8 (gb119) _ ⟨hHeld, BK113.out, BK114.out, BK119.out, GW119.out, GE119.out, NB113_119.out, NB119_113.out, NB114_119.out, NB119_114.out, (by repeat (with_reducible first | exact HB.out | apply bA_ | apply bN_ | apply bD_ | refine bS_ ?_ GE113.out | refine bS_ ?_ GE114.out | refine bS_ ?_ GE119.out))⟩)
             ·skip
              refine box_step rfl (N := 7) rfl (cs := #[.int .u64 0, .int .u64 0]) (t := 128) ?hr ?_; (case hr => go_simp <;> rfl)
              intro gb120 hg w32 hbox hb
              have BK120 := aA_ (hbox)
              have GW120 := gW_ hg (by repeat (with_reducible first | exact HB.out | apply bA_ | apply bN_ | apply bD_ | refine bS_ ?_ GE113.out | refine bS_ ?_ GE114.out))
              have GE120 := GW120
              replace HB := bB_ (by repeat (with_reducible first | exact HB.out | apply bA_ | apply bN_ | apply bD_ | refine bS_ ?_ GE113.out | refine bS_ ?_ GE114.out)) hb
              have NB113_120 := nE_ hg BK113
              have NB120_113 := aA_ NB113_120.out.symm
              replace BK113 := bK_ BK113 hb
              have NB114_120 := nE_ hg BK114
              have NB120_114 := aA_ NB114_120.out.symm
              replace BK114 := bK_ BK114 hb
              clear hb hbox hg
              refine hK.out _ _ ⟨(blk_cell BK113.out 0).trans rfl, (blk_cell BK113.out 1).trans rfl⟩ (fun hHeld => ?_)
              clear hK K
              refine norm_ (by show Act.put _ (some 7) _ = _; simp only [Act.put, sT_, sZ_, sS_, i64_w, i32_w] <;> rfl) ?_
              exact norm_ (by simp only [putAll, Act.put, sT_, sZ_, sS_] <;> rfl) (hJ9 (gb120) _ ⟨hHeld, BK113.out, BK114.out, BK120.out, GW120.out, GE120.out, NB113_120.out, NB120_113.out, NB114_120.out, NB120_114.out, (by repeat (with_reducible first | exact HB.out | apply bA_ | apply bN_ | apply bD_ | refine bS_ ?_ GE113.out | refine bS_ ?_ GE114.out | refine bS_ ?_ GE120.out))⟩)
            ·skip
             rintro gb120 w33 ⟨hS_, h0_, h1_, h2_, h3_, h4_, h5_, h6_, h7_, h8_, h9_⟩
             (try dsimp only at h0_ h1_ h2_ h3_ h4_ h5_ h6_ h7_ h8_ h9_)
             clear BK113 BK114 HB
             have BK113 := aA_ h0_
             have BK114 := aA_ h1_
             have BK120 := aA_ h2_
             have GW120 := aA_ h3_
             have GE120 := aA_ h4_
             have NB113_120 := aA_ h5_
             have NB120_113 := aA_ h6_
             have NB114_120 := aA_ h7_
             have NB120_114 := aA_ h8_
             have HB := aA_ h9_
             clear h0_ h1_ h2_ h3_ h4_ h5_ h6_ h7_ h8_ h9_
             have hHeld : w33.cell? ⟨gb113, 0, none⟩ = some (.int .u64 a0_0) ∧ w33.cell? ⟨gb113, 1, none⟩ = some (.int .u64 a0_1) := hS_
             refine norm_ (a' := ?_) ?_ ?_
             rotate_left
             ·simp only [putAll, Act.put, sT_, sZ_, sS_]
              rfl
             refine two_ (i := 3) (j := 8) (Ni := some 11) (Nj := some 6) (wide_Times.ups 12 639) (wide_Times.ups 12 887) rfl rfl rfl rfl (two_of HT_.out (by kernel_rfl)) (by decide) (by decide) (fun K hK => ?_) (fun K hK => ?_)
             ·skip
              refine goes_ Try.func77 (by kernel_rfl) rfl #[.int .u64 a0_1, .int .u64 a1] (by rfl) rfl rfl (by (try simp only [mT_, mC_, mN_]); first | done | rfl) ?_
              with_reducible refine (wide_Mul.calls a0_1 a1 t115 t116 _ A3.out).mono ?_
              rintro e w34 ⟨rfl, hb⟩
              refine ⟨_, rfl, ?_⟩
              replace BK113 := bK_ BK113 hb
              replace BK114 := bK_ BK114 hb
              replace BK120 := bK_ BK120 hb
              replace HB := bB_ (by repeat (with_reducible first | exact HB.out | apply bA_ | apply bN_ | apply bD_ | refine bS_ ?_ GE113.out | refine bS_ ?_ GE114.out | refine bS_ ?_ GE120.out)) hb
              (try clear hb)
              (try clear hb2)
              (try clear hk)
              (try clear hi)
              refine hK.out _ _ ⟨(blk_cell BK113.out 0).trans rfl, (blk_cell BK113.out 1).trans rfl⟩ (fun hHeld => ?_)
              clear hK K
              refine norm_ (by show Act.put _ (some 11) _ = _; simp only [Act.put, sT_, sZ_, sS_, i64_w, i32_w] <;> rfl) ?_
              exact norm_ (by simp only [putAll, Act.put, sT_, sZ_, sS_] <;> rfl) (hJ3_9 (gb120) _ ⟨hHeld, BK113.out, BK114.out, BK120.out, GW120.out, GE120.out, NB113_120.out, NB120_113.out, NB114_120.out, NB120_114.out, (by repeat (with_reducible first | exact HB.out | apply bA_ | apply bN_ | apply bD_ | refine bS_ ?_ GE113.out | refine bS_ ?_ GE114.out | refine bS_ ?_ GE120.out))⟩)
             ·skip
              refine box_step rfl (N := 6) rfl (cs := #[.int .u64 0, .int .u64 0]) (t := 128) ?hr ?_; (case hr => go_simp <;> rfl)
              intro gb119 hg w34 hbox hb
              have BK119 := aA_ (hbox)
              have GW119 := gW_ hg (by repeat (with_reducible first | exact HB.out | apply bA_ | apply bN_ | apply bD_ | refine bS_ ?_ GE113.out | refine bS_ ?_ GE114.out | refine bS_ ?_ GE120.out))
              have GE119 := GW119
              replace HB := bB_ (by repeat (with_reducible first | exact HB.out | apply bA_ | apply bN_ | apply bD_ | refine bS_ ?_ GE113.out | refine bS_ ?_ GE114.out | refine bS_ ?_ GE120.out)) hb
              have NB113_119 := nE_ hg BK113
              have NB119_113 := aA_ NB113_119.out.symm
              replace BK113 := bK_ BK113 hb
              have NB114_119 := nE_ hg BK114
              have NB119_114 := aA_ NB114_119.out.symm
              replace BK114 := bK_ BK114 hb
              have NB120_119 := nE_ hg BK120
              have NB119_120 := aA_ NB120_119.out.symm
              replace BK120 := bK_ BK120 hb
              clear hb hbox hg
              refine hK.out _ _ ⟨(blk_cell BK113.out 0).trans rfl, (blk_cell BK113.out 1).trans rfl⟩ (fun hHeld => ?_)
              clear hK K
              refine norm_ (by show Act.put _ (some 6) _ = _; simp only [Act.put, sT_, sZ_, sS_, i64_w, i32_w] <;> rfl) ?_
              exact norm_ (by simp only [putAll, Act.put, sT_, sZ_, sS_] <;> rfl) (hJ8_9 (gb119, gb120) _ ⟨hHeld, BK113.out, BK114.out, BK119.out, BK120.out, GW119.out, GE119.out, NB113_119.out, NB119_113.out, NB114_119.out, NB119_114.out, NB120_119.out, NB119_120.out, GW120.out, GE120.out, NB113_120.out, NB120_113.out, NB114_120.out, NB120_114.out, (by repeat (with_reducible first | exact HB.out | apply bA_ | apply bN_ | apply bD_ | refine bS_ ?_ GE113.out | refine bS_ ?_ GE114.out | refine bS_ ?_ GE120.out | refine bS_ ?_ GE119.out))⟩)
           ·skip
            rintro gb119 w33 ⟨hS_, h0_, h1_, h2_, h3_, h4_, h5_, h6_, h7_, h8_, h9_⟩
            (try dsimp only at h0_ h1_ h2_ h3_ h4_ h5_ h6_ h7_ h8_ h9_)
            clear BK113 BK114 HB
            have BK113 := aA_ h0_
            have BK114 := aA_ h1_
            have BK119 := aA_ h2_
            have GW119 := aA_ h3_
            have GE119 := aA_ h4_
            have NB113_119 := aA_ h5_
            have NB119_113 := aA_ h6_
            have NB114_119 := aA_ h7_
            have NB119_114 := aA_ h8_
            have HB := aA_ h9_
            clear h0_ h1_ h2_ h3_ h4_ h5_ h6_ h7_ h8_ h9_
            have hHeld : w33.cell? ⟨gb113, 0, none⟩ = some (.int .u64 a0_0) ∧ w33.cell? ⟨gb113, 1, none⟩ = some (.int .u64 a0_1) := hS_
            refine norm_ (a' := ?_) ?_ ?_
            rotate_left
            ·simp only [putAll, Act.put, sT_, sZ_, sS_]
             rfl
            refine two_ (i := 3) (j := 9) (Ni := some 11) (Nj := some 7) (wide_Times.ups 12 383) (wide_Times.ups 12 887) rfl rfl rfl rfl (two_of HT_.out (by kernel_rfl)) (by decide) (by decide) (fun K hK => ?_) (fun K hK => ?_)
            ·skip
             refine goes_ Try.func77 (by kernel_rfl) rfl #[.int .u64 a0_1, .int .u64 a1] (by rfl) rfl rfl (by (try simp only [mT_, mC_, mN_]); first | done | rfl) ?_
             with_reducible refine (wide_Mul.calls a0_1 a1 t115 t116 _ A3.out).mono ?_
             rintro e w34 ⟨rfl, hb⟩
             refine ⟨_, rfl, ?_⟩
             replace BK113 := bK_ BK113 hb
             replace BK114 := bK_ BK114 hb
             replace BK119 := bK_ BK119 hb
             replace HB := bB_ (by repeat (with_reducible first | exact HB.out | apply bA_ | apply bN_ | apply bD_ | refine bS_ ?_ GE113.out | refine bS_ ?_ GE114.out | refine bS_ ?_ GE119.out)) hb
             (try clear hb)
             (try clear hb2)
             (try clear hk)
             (try clear hi)
             refine hK.out _ _ ⟨(blk_cell BK113.out 0).trans rfl, (blk_cell BK113.out 1).trans rfl⟩ (fun hHeld => ?_)
             clear hK K
             refine norm_ (by show Act.put _ (some 11) _ = _; simp only [Act.put, sT_, sZ_, sS_, i64_w, i32_w] <;> rfl) ?_
             exact norm_ (by simp only [putAll, Act.put, sT_, sZ_, sS_] <;> rfl) (hJ3_8 (gb119) _ ⟨hHeld, BK113.out, BK114.out, BK119.out, GW119.out, GE119.out, NB113_119.out, NB119_113.out, NB114_119.out, NB119_114.out, (by repeat (with_reducible first | exact HB.out | apply bA_ | apply bN_ | apply bD_ | refine bS_ ?_ GE113.out | refine bS_ ?_ GE114.out | refine bS_ ?_ GE119.out))⟩)
            ·skip
             refine box_step rfl (N := 7) rfl (cs := #[.int .u64 0, .int .u64 0]) (t := 128) ?hr ?_; (case hr => go_simp <;> rfl)
             intro gb120 hg w34 hbox hb
             have BK120 := aA_ (hbox)
             have GW120 := gW_ hg (by repeat (with_reducible first | exact HB.out | apply bA_ | apply bN_ | apply bD_ | refine bS_ ?_ GE113.out | refine bS_ ?_ GE114.out | refine bS_ ?_ GE119.out))
             have GE120 := GW120
             replace HB := bB_ (by repeat (with_reducible first | exact HB.out | apply bA_ | apply bN_ | apply bD_ | refine bS_ ?_ GE113.out | refine bS_ ?_ GE114.out | refine bS_ ?_ GE119.out)) hb
             have NB113_120 := nE_ hg BK113
             have NB120_113 := aA_ NB113_120.out.symm
             replace BK113 := bK_ BK113 hb
             have NB114_120 := nE_ hg BK114
             have NB120_114 := aA_ NB114_120.out.symm
             replace BK114 := bK_ BK114 hb
             have NB119_120 := nE_ hg BK119
             have NB120_119 := aA_ NB119_120.out.symm
             replace BK119 := bK_ BK119 hb
             clear hb hbox hg
             refine hK.out _ _ ⟨(blk_cell BK113.out 0).trans rfl, (blk_cell BK113.out 1).trans rfl⟩ (fun hHeld => ?_)
             clear hK K
             refine norm_ (by show Act.put _ (some 7) _ = _; simp only [Act.put, sT_, sZ_, sS_, i64_w, i32_w] <;> rfl) ?_
             exact norm_ (by simp only [putAll, Act.put, sT_, sZ_, sS_] <;> rfl) (hJ8_9 (gb119, gb120) _ ⟨hHeld, BK113.out, BK114.out, BK119.out, BK120.out, GW119.out, GE119.out, NB113_119.out, NB119_113.out, NB114_119.out, NB119_114.out, NB120_119.out, NB119_120.out, GW120.out, GE120.out, NB113_120.out, NB120_113.out, NB114_120.out, NB120_114.out, (by repeat (with_reducible first | exact HB.out | apply bA_ | apply bN_ | apply bD_ | refine bS_ ?_ GE113.out | refine bS_ ?_ GE114.out | refine bS_ ?_ GE119.out | refine bS_ ?_ GE120.out))⟩)
          ·skip
           rintro _ w33 ⟨hS_, h0_, h1_, h2_⟩
           (try dsimp only at h0_ h1_ h2_)
           clear BK113 BK114 HB
           have BK113 := aA_ h0_
           have BK114 := aA_ h1_
           have HB := aA_ h2_
           clear h0_ h1_ h2_
           have hHeld : w33.cell? ⟨gb113, 0, none⟩ = some (.int .u64 a0_0) ∧ w33.cell? ⟨gb113, 1, none⟩ = some (.int .u64 a0_1) := hS_
           refine norm_ (a' := ?_) ?_ ?_
           rotate_left
           ·simp only [putAll, Act.put, sT_, sZ_, sS_]
            rfl
           refine three_ (i := 7) (j := 8) (k := 9) (Ni := some 15) (Nj := some 6) (Nk := some 7) (wide_Times.ups 12 255) (wide_Times.ups 12 383) (wide_Times.ups 12 639) rfl rfl rfl rfl rfl rfl (three_of HT_.out (by kernel_rfl)) (by decide) (by decide) (by decide) (fun K hK => ?_) (fun K hK => ?_) (fun K hK => ?_)
           ·skip
            refine goes_ Try.func77 (by kernel_rfl) rfl #[.int .u64 a0_0, .int .u64 a1] (by rfl) rfl rfl (by (try simp only [mT_, mC_, mN_]); first | done | rfl) ?_
            with_reducible refine (wide_Mul.calls a0_0 a1 t117 t118 _ A4.out).mono ?_
            rintro e w34 ⟨rfl, hb⟩
            refine ⟨_, rfl, ?_⟩
            replace BK113 := bK_ BK113 hb
            replace BK114 := bK_ BK114 hb
            replace HB := bB_ (by repeat (with_reducible first | exact HB.out | apply bA_ | apply bN_ | apply bD_ | refine bS_ ?_ GE113.out | refine bS_ ?_ GE114.out)) hb
            (try clear hb)
            (try clear hb2)
            (try clear hk)
            (try clear hi)
            refine hK.out _ _ ⟨(blk_cell BK113.out 0).trans rfl, (blk_cell BK113.out 1).trans rfl⟩ (fun hHeld => ?_)
            clear hK K
            refine norm_ (by show Act.put _ (some 15) _ = _; simp only [Act.put, sT_, sZ_, sS_, i64_w, i32_w] <;> rfl) ?_
            exact norm_ (by simp only [putAll, Act.put, sT_, sZ_, sS_] <;> rfl) (hJ3_7 () _ ⟨hHeld, BK113.out, BK114.out, (by repeat (with_reducible first | exact HB.out | apply bA_ | apply bN_ | apply bD_ | refine bS_ ?_ GE113.out | refine bS_ ?_ GE114.out))⟩)
           ·skip
            refine box_step rfl (N := 6) rfl (cs := #[.int .u64 0, .int .u64 0]) (t := 128) ?hr ?_; (case hr => go_simp <;> rfl)
            intro gb119 hg w34 hbox hb
            have BK119 := aA_ (hbox)
            have GW119 := gW_ hg (by repeat (with_reducible first | exact HB.out | apply bA_ | apply bN_ | apply bD_ | refine bS_ ?_ GE113.out | refine bS_ ?_ GE114.out))
            have GE119 := GW119
            replace HB := bB_ (by repeat (with_reducible first | exact HB.out | apply bA_ | apply bN_ | apply bD_ | refine bS_ ?_ GE113.out | refine bS_ ?_ GE114.out)) hb
            have NB113_119 := nE_ hg BK113
            have NB119_113 := aA_ NB113_119.out.symm
            replace BK113 := bK_ BK113 hb
            have NB114_119 := nE_ hg BK114
            have NB119_114 := aA_ NB114_119.out.symm
            replace BK114 := bK_ BK114 hb
            clear hb hbox hg
            refine hK.out _ _ ⟨(blk_cell BK113.out 0).trans rfl, (blk_cell BK113.out 1).trans rfl⟩ (fun hHeld => ?_)
            clear hK K
            refine norm_ (by show Act.put _ (some 6) _ = _; simp only [Act.put, sT_, sZ_, sS_, i64_w, i32_w] <;> rfl) ?_
            exact norm_ (by simp only [putAll, Act.put, sT_, sZ_, sS_] <;> rfl) (hJ3_8 (gb119) _ ⟨hHeld, BK113.out, BK114.out, BK119.out, GW119.out, GE119.out, NB113_119.out, NB119_113.out, NB114_119.out, NB119_114.out, (by repeat (with_reducible first | exact HB.out | apply bA_ | apply bN_ | apply bD_ | refine bS_ ?_ GE113.out | refine bS_ ?_ GE114.out | refine bS_ ?_ GE119.out))⟩)
           ·skip
            refine box_step rfl (N := 7) rfl (cs := #[.int .u64 0, .int .u64 0]) (t := 128) ?hr ?_; (case hr => go_simp <;> rfl)
            intro gb120 hg w34 hbox hb
            have BK120 := aA_ (hbox)
            have GW120 := gW_ hg (by repeat (with_reducible first | exact HB.out | apply bA_ | apply bN_ | apply bD_ | refine bS_ ?_ GE113.out | refine bS_ ?_ GE114.out))
            have GE120 := GW120
            replace HB := bB_ (by repeat (with_reducible first | exact HB.out | apply bA_ | apply bN_ | apply bD_ | refine bS_ ?_ GE113.out | refine bS_ ?_ GE114.out)) hb
            have NB113_120 := nE_ hg BK113
            have NB120_113 := aA_ NB113_120.out.symm
            replace BK113 := bK_ BK113 hb
            have NB114_120 := nE_ hg BK114
            have NB120_114 := aA_ NB114_120.out.symm
            replace BK114 := bK_ BK114 hb
            clear hb hbox hg
            refine hK.out _ _ ⟨(blk_cell BK113.out 0).trans rfl, (blk_cell BK113.out 1).trans rfl⟩ (fun hHeld => ?_)
            clear hK K
            refine norm_ (by show Act.put _ (some 7) _ = _; simp only [Act.put, sT_, sZ_, sS_, i64_w, i32_w] <;> rfl) ?_
            exact norm_ (by simp only [putAll, Act.put, sT_, sZ_, sS_] <;> rfl) (hJ3_9 (gb120) _ ⟨hHeld, BK113.out, BK114.out, BK120.out, GW120.out, GE120.out, NB113_120.out, NB120_113.out, NB114_120.out, NB120_114.out, (by repeat (with_reducible first | exact HB.out | apply bA_ | apply bN_ | apply bD_ | refine bS_ ?_ GE113.out | refine bS_ ?_ GE114.out | refine bS_ ?_ GE120.out))⟩)
         ·skip
          rintro ⟨gb119, gb120⟩ w34 ⟨hS_, h0_, h1_, h2_, h3_, h4_, h5_, h6_, h7_, h8_, h9_, h10_, h11_, h12_, h13_, h14_, h15_, h16_, h17_, h18_⟩
          (try dsimp only at h0_ h1_ h2_ h3_ h4_ h5_ h6_ h7_ h8_ h9_ h10_ h11_ h12_ h13_ h14_ h15_ h16_ h17_ h18_)
          clear BK113 BK114 HB
          have BK113 := aA_ h0_
          have BK114 := aA_ h1_
          have BK119 := aA_ h2_
          have BK120 := aA_ h3_
          have GW119 := aA_ h4_
          have GE119 := aA_ h5_
          have NB113_119 := aA_ h6_
          have NB119_113 := aA_ h7_
          have NB114_119 := aA_ h8_
          have NB119_114 := aA_ h9_
          have NB120_119 := aA_ h10_
          have NB119_120 := aA_ h11_
          have GW120 := aA_ h12_
          have GE120 := aA_ h13_
          have NB113_120 := aA_ h14_
          have NB120_113 := aA_ h15_
          have NB114_120 := aA_ h16_
          have NB120_114 := aA_ h17_
          have HB := aA_ h18_
          clear h0_ h1_ h2_ h3_ h4_ h5_ h6_ h7_ h8_ h9_ h10_ h11_ h12_ h13_ h14_ h15_ h16_ h17_ h18_
          have hHeld : w34.cell? ⟨gb113, 0, none⟩ = some (.int .u64 a0_0) ∧ w34.cell? ⟨gb113, 1, none⟩ = some (.int .u64 a0_1) := hS_
          refine norm_ (a' := ?_) ?_ ?_
          rotate_left
          ·simp only [putAll, Act.put, sT_, sZ_, sS_]
           rfl
          refine one_ (i := 3) (N := some 11) (wide_Times.ups 12 895) rfl rfl (one_of HT_.out (by kernel_rfl)) (by decide) (fun K hK => ?_)
          refine goes_ Try.func77 (by kernel_rfl) rfl #[.int .u64 a0_1, .int .u64 a1] (by rfl) rfl rfl (by (try simp only [mT_, mC_, mN_]); first | done | rfl) ?_
          with_reducible refine (wide_Mul.calls a0_1 a1 t115 t116 _ A3.out).mono ?_
          rintro e w35 ⟨rfl, hb⟩
          refine ⟨_, rfl, ?_⟩
          replace BK113 := bK_ BK113 hb
          replace BK114 := bK_ BK114 hb
          replace BK119 := bK_ BK119 hb
          replace BK120 := bK_ BK120 hb
          replace HB := bB_ (by repeat (with_reducible first | exact HB.out | apply bA_ | apply bN_ | apply bD_ | refine bS_ ?_ GE113.out | refine bS_ ?_ GE114.out | refine bS_ ?_ GE119.out | refine bS_ ?_ GE120.out)) hb
          (try clear hb)
          (try clear hb2)
          (try clear hk)
          (try clear hi)
          refine hK.out _ _ ⟨(blk_cell BK113.out 0).trans rfl, (blk_cell BK113.out 1).trans rfl⟩ (fun hHeld => ?_)
          clear hK K
          refine norm_ (by show Act.put _ (some 11) _ = _; simp only [Act.put, sT_, sZ_, sS_, i64_w, i32_w] <;> rfl) ?_
          exact norm_ (by simp only [putAll, Act.put, sT_, sZ_, sS_] <;> rfl) (hJ3_8_9 (gb119, gb120) _ ⟨hHeld, BK113.out, BK114.out, BK119.out, BK120.out, GW119.out, GE119.out, NB113_119.out, NB119_113.out, NB114_119.out, NB119_114.out, NB120_119.out, NB119_120.out, GW120.out, GE120.out, NB113_120.out, NB120_113.out, NB114_120.out, NB120_114.out, (by repeat (with_reducible first | exact HB.out | apply bA_ | apply bN_ | apply bD_ | refine bS_ ?_ GE113.out | refine bS_ ?_ GE114.out | refine bS_ ?_ GE119.out | refine bS_ ?_ GE120.out))⟩)
        ·skip
         rintro gb120 w34 ⟨hS_, h0_, h1_, h2_, h3_, h4_, h5_, h6_, h7_, h8_, h9_⟩
         (try dsimp only at h0_ h1_ h2_ h3_ h4_ h5_ h6_ h7_ h8_ h9_)
         clear BK113 BK114 HB
         have BK113 := aA_ h0_
         have BK114 := aA_ h1_
         have BK120 := aA_ h2_
         have GW120 := aA_ h3_
         have GE120 := aA_ h4_
         have NB113_120 := aA_ h5_
         have NB120_113 := aA_ h6_
         have NB114_120 := aA_ h7_
         have NB120_114 := aA_ h8_
         have HB := aA_ h9_
         clear h0_ h1_ h2_ h3_ h4_ h5_ h6_ h7_ h8_ h9_
         have hHeld : w34.cell? ⟨gb113, 0, none⟩ = some (.int .u64 a0_0) ∧ w34.cell? ⟨gb113, 1, none⟩ = some (.int .u64 a0_1) := hS_
         refine norm_ (a' := ?_) ?_ ?_
         rotate_left
         ·simp only [putAll, Act.put, sT_, sZ_, sS_]
          rfl
         refine two_ (i := 7) (j := 8) (Ni := some 15) (Nj := some 6) (wide_Times.ups 12 767) (wide_Times.ups 12 895) rfl rfl rfl rfl (two_of HT_.out (by kernel_rfl)) (by decide) (by decide) (fun K hK => ?_) (fun K hK => ?_)
         ·skip
          refine goes_ Try.func77 (by kernel_rfl) rfl #[.int .u64 a0_0, .int .u64 a1] (by rfl) rfl rfl (by (try simp only [mT_, mC_, mN_]); first | done | rfl) ?_
          with_reducible refine (wide_Mul.calls a0_0 a1 t117 t118 _ A4.out).mono ?_
          rintro e w35 ⟨rfl, hb⟩
          refine ⟨_, rfl, ?_⟩
          replace BK113 := bK_ BK113 hb
          replace BK114 := bK_ BK114 hb
          replace BK120 := bK_ BK120 hb
          replace HB := bB_ (by repeat (with_reducible first | exact HB.out | apply bA_ | apply bN_ | apply bD_ | refine bS_ ?_ GE113.out | refine bS_ ?_ GE114.out | refine bS_ ?_ GE120.out)) hb
          (try clear hb)
          (try clear hb2)
          (try clear hk)
          (try clear hi)
          refine hK.out _ _ ⟨(blk_cell BK113.out 0).trans rfl, (blk_cell BK113.out 1).trans rfl⟩ (fun hHeld => ?_)
          clear hK K
          refine norm_ (by show Act.put _ (some 15) _ = _; simp only [Act.put, sT_, sZ_, sS_, i64_w, i32_w] <;> rfl) ?_
          exact norm_ (by simp only [putAll, Act.put, sT_, sZ_, sS_] <;> rfl) (hJ3_7_9 (gb120) _ ⟨hHeld, BK113.out, BK114.out, BK120.out, GW120.out, GE120.out, NB113_120.out, NB120_113.out, NB114_120.out, NB120_114.out, (by repeat (with_reducible first | exact HB.out | apply bA_ | apply bN_ | apply bD_ | refine bS_ ?_ GE113.out | refine bS_ ?_ GE114.out | refine bS_ ?_ GE120.out))⟩)
         ·skip
          refine box_step rfl (N := 6) rfl (cs := #[.int .u64 0, .int .u64 0]) (t := 128) ?hr ?_; (case hr => go_simp <;> rfl)
          intro gb119 hg w35 hbox hb
          have BK119 := aA_ (hbox)
          have GW119 := gW_ hg (by repeat (with_reducible first | exact HB.out | apply bA_ | apply bN_ | apply bD_ | refine bS_ ?_ GE113.out | refine bS_ ?_ GE114.out | refine bS_ ?_ GE120.out))
          have GE119 := GW119
          replace HB := bB_ (by repeat (with_reducible first | exact HB.out | apply bA_ | apply bN_ | apply bD_ | refine bS_ ?_ GE113.out | refine bS_ ?_ GE114.out | refine bS_ ?_ GE120.out)) hb
          have NB113_119 := nE_ hg BK113
          have NB119_113 := aA_ NB113_119.out.symm
          replace BK113 := bK_ BK113 hb
          have NB114_119 := nE_ hg BK114
          have NB119_114 := aA_ NB114_119.out.symm
          replace BK114 := bK_ BK114 hb
          have NB120_119 := nE_ hg BK120
          have NB119_120 := aA_ NB120_119.out.symm
          replace BK120 := bK_ BK120 hb
          clear hb hbox hg
          refine hK.out _ _ ⟨(blk_cell BK113.out 0).trans rfl, (blk_cell BK113.out 1).trans rfl⟩ (fun hHeld => ?_)
          clear hK K
          refine norm_ (by show Act.put _ (some 6) _ = _; simp only [Act.put, sT_, sZ_, sS_, i64_w, i32_w] <;> rfl) ?_
          exact norm_ (by simp only [putAll, Act.put, sT_, sZ_, sS_] <;> rfl) (hJ3_8_9 (gb119, gb120) _ ⟨hHeld, BK113.out, BK114.out, BK119.out, BK120.out, GW119.out, GE119.out, NB113_119.out, NB119_113.out, NB114_119.out, NB119_114.out, NB120_119.out, NB119_120.out, GW120.out, GE120.out, NB113_120.out, NB120_113.out, NB114_120.out, NB120_114.out, (by repeat (with_reducible first | exact HB.out | apply bA_ | apply bN_ | apply bD_ | refine bS_ ?_ GE113.out | refine bS_ ?_ GE114.out | refine bS_ ?_ GE120.out | refine bS_ ?_ GE119.out))⟩)
       ·skip
        rintro gb119 w34 ⟨hS_, h0_, h1_, h2_, h3_, h4_, h5_, h6_, h7_, h8_, h9_⟩
        (try dsimp only at h0_ h1_ h2_ h3_ h4_ h5_ h6_ h7_ h8_ h9_)
        clear BK113 BK114 HB
        have BK113 := aA_ h0_
        have BK114 := aA_ h1_
        have BK119 := aA_ h2_
        have GW119 := aA_ h3_
        have GE119 := aA_ h4_
        have NB113_119 := aA_ h5_
        have NB119_113 := aA_ h6_
        have NB114_119 := aA_ h7_
        have NB119_114 := aA_ h8_
        have HB := aA_ h9_
        clear h0_ h1_ h2_ h3_ h4_ h5_ h6_ h7_ h8_ h9_
        have hHeld : w34.cell? ⟨gb113, 0, none⟩ = some (.int .u64 a0_0) ∧ w34.cell? ⟨gb113, 1, none⟩ = some (.int .u64 a0_1) := hS_
        refine norm_ (a' := ?_) ?_ ?_
        rotate_left
        ·simp only [putAll, Act.put, sT_, sZ_, sS_]
         rfl
        refine two_ (i := 7) (j := 9) (Ni := some 15) (Nj := some 7) (wide_Times.ups 12 511) (wide_Times.ups 12 895) rfl rfl rfl rfl (two_of HT_.out (by kernel_rfl)) (by decide) (by decide) (fun K hK => ?_) (fun K hK => ?_)
        ·skip
         refine goes_ Try.func77 (by kernel_rfl) rfl #[.int .u64 a0_0, .int .u64 a1] (by rfl) rfl rfl (by (try simp only [mT_, mC_, mN_]); first | done | rfl) ?_
         with_reducible refine (wide_Mul.calls a0_0 a1 t117 t118 _ A4.out).mono ?_
         rintro e w35 ⟨rfl, hb⟩
         refine ⟨_, rfl, ?_⟩
         replace BK113 := bK_ BK113 hb
         replace BK114 := bK_ BK114 hb
         replace BK119 := bK_ BK119 hb
         replace HB := bB_ (by repeat (with_reducible first | exact HB.out | apply bA_ | apply bN_ | apply bD_ | refine bS_ ?_ GE113.out | refine bS_ ?_ GE114.out | refine bS_ ?_ GE119.out)) hb
         (try clear hb)
         (try clear hb2)
         (try clear hk)
         (try clear hi)
         refine hK.out _ _ ⟨(blk_cell BK113.out 0).trans rfl, (blk_cell BK113.out 1).trans rfl⟩ (fun hHeld => ?_)
         clear hK K
         refine norm_ (by show Act.put _ (some 15) _ = _; simp only [Act.put, sT_, sZ_, sS_, i64_w, i32_w] <;> rfl) ?_
         exact norm_ (by simp only [putAll, Act.put, sT_, sZ_, sS_] <;> rfl) (hJ3_7_8 (gb119) _ ⟨hHeld, BK113.out, BK114.out, BK119.out, GW119.out, GE119.out, NB113_119.out, NB119_113.out, NB114_119.out, NB119_114.out, (by repeat (with_reducible first | exact HB.out | apply bA_ | apply bN_ | apply bD_ | refine bS_ ?_ GE113.out | refine bS_ ?_ GE114.out | refine bS_ ?_ GE119.out))⟩)
        ·skip
         refine box_step rfl (N := 7) rfl (cs := #[.int .u64 0, .int .u64 0]) (t := 128) ?hr ?_; (case hr => go_simp <;> rfl)
         intro gb120 hg w35 hbox hb
         have BK120 := aA_ (hbox)
         have GW120 := gW_ hg (by repeat (with_reducible first | exact HB.out | apply bA_ | apply bN_ | apply bD_ | refine bS_ ?_ GE113.out | refine bS_ ?_ GE114.out | refine bS_ ?_ GE119.out))
         have GE120 := GW120
         replace HB := bB_ (by repeat (with_reducible first | exact HB.out | apply bA_ | apply bN_ | apply bD_ | refine bS_ ?_ GE113.out | refine bS_ ?_ GE114.out | refine bS_ ?_ GE119.out)) hb
         have NB113_120 := nE_ hg BK113
         have NB120_113 := aA_ NB113_120.out.symm
         replace BK113 := bK_ BK113 hb
         have NB114_120 := nE_ hg BK114
         have NB120_114 := aA_ NB114_120.out.symm
         replace BK114 := bK_ BK114 hb
         have NB119_120 := nE_ hg BK119
         have NB120_119 := aA_ NB119_120.out.symm
         replace BK119 := bK_ BK119 hb
         clear hb hbox hg
         refine hK.out _ _ ⟨(blk_cell BK113.out 0).trans rfl, (blk_cell BK113.out 1).trans rfl⟩ (fun hHeld => ?_)
         clear hK K
         refine norm_ (by show Act.put _ (some 7) _ = _; simp only [Act.put, sT_, sZ_, sS_, i64_w, i32_w] <;> rfl) ?_
         exact norm_ (by simp only [putAll, Act.put, sT_, sZ_, sS_] <;> rfl) (hJ3_8_9 (gb119, gb120) _ ⟨hHeld, BK113.out, BK114.out, BK119.out, BK120.out, GW119.out, GE119.out, NB113_119.out, NB119_113.out, NB114_119.out, NB119_114.out, NB120_119.out, NB119_120.out, GW120.out, GE120.out, NB113_120.out, NB120_113.out, NB114_120.out, NB120_114.out, (by repeat (with_reducible first | exact HB.out | apply bA_ | apply bN_ | apply bD_ | refine bS_ ?_ GE113.out | refine bS_ ?_ GE114.out | refine bS_ ?_ GE119.out | refine bS_ ?_ GE120.out))⟩)
      ·skip
       rintro _ w34 ⟨hS_, h0_, h1_, h2_⟩
       (try dsimp only at h0_ h1_ h2_)
       clear BK113 BK114 HB
       have BK113 := aA_ h0_
       have BK114 := aA_ h1_
       have HB := aA_ h2_
       clear h0_ h1_ h2_
       have hHeld : w34.cell? ⟨gb113, 0, none⟩ = some (.int .u64 a0_0) ∧ w34.cell? ⟨gb113, 1, none⟩ = some (.int .u64 a0_1) := hS_
       refine norm_ (a' := ?_) ?_ ?_
       rotate_left
       ·simp only [putAll, Act.put, sT_, sZ_, sS_]
        rfl
       refine two_ (i := 8) (j := 9) (Ni := some 6) (Nj := some 7) (wide_Times.ups 12 511) (wide_Times.ups 12 767) rfl rfl rfl rfl (two_of HT_.out (by kernel_rfl)) (by decide) (by decide) (fun K hK => ?_) (fun K hK => ?_)
       ·skip
        refine box_step rfl (N := 6) rfl (cs := #[.int .u64 0, .int .u64 0]) (t := 128) ?hr ?_; (case hr => go_simp <;> rfl)
        intro gb119 hg w35 hbox hb
        have BK119 := aA_ (hbox)
        have GW119 := gW_ hg (by repeat (with_reducible first | exact HB.out | apply bA_ | apply bN_ | apply bD_ | refine bS_ ?_ GE113.out | refine bS_ ?_ GE114.out))
        have GE119 := GW119
        replace HB := bB_ (by repeat (with_reducible first | exact HB.out | apply bA_ | apply bN_ | apply bD_ | refine bS_ ?_ GE113.out | refine bS_ ?_ GE114.out)) hb
        have NB113_119 := nE_ hg BK113
        have NB119_113 := aA_ NB113_119.out.symm
        replace BK113 := bK_ BK113 hb
        have NB114_119 := nE_ hg BK114
        have NB119_114 := aA_ NB114_119.out.symm
        replace BK114 := bK_ BK114 hb
        clear hb hbox hg
        refine hK.out _ _ ⟨(blk_cell BK113.out 0).trans rfl, (blk_cell BK113.out 1).trans rfl⟩ (fun hHeld => ?_)
        clear hK K
        refine norm_ (by show Act.put _ (some 6) _ = _; simp only [Act.put, sT_, sZ_, sS_, i64_w, i32_w] <;> rfl) ?_
        exact norm_ (by simp only [putAll, Act.put, sT_, sZ_, sS_] <;> rfl) (hJ3_7_8 (gb119) _ ⟨hHeld, BK113.out, BK114.out, BK119.out, GW119.out, GE119.out, NB113_119.out, NB119_113.out, NB114_119.out, NB119_114.out, (by repeat (with_reducible first | exact HB.out | apply bA_ | apply bN_ | apply bD_ | refine bS_ ?_ GE113.out | refine bS_ ?_ GE114.out | refine bS_ ?_ GE119.out))⟩)
       ·skip
        refine box_step rfl (N := 7) rfl (cs := #[.int .u64 0, .int .u64 0]) (t := 128) ?hr ?_; (case hr => go_simp <;> rfl)
        intro gb120 hg w35 hbox hb
        have BK120 := aA_ (hbox)
        have GW120 := gW_ hg (by repeat (with_reducible first | exact HB.out | apply bA_ | apply bN_ | apply bD_ | refine bS_ ?_ GE113.out | refine bS_ ?_ GE114.out))
        have GE120 := GW120
        replace HB := bB_ (by repeat (with_reducible first | exact HB.out | apply bA_ | apply bN_ | apply bD_ | refine bS_ ?_ GE113.out | refine bS_ ?_ GE114.out)) hb
        have NB113_120 := nE_ hg BK113
        have NB120_113 := aA_ NB113_120.out.symm
        replace BK113 := bK_ BK113 hb
        have NB114_120 := nE_ hg BK114
        have NB120_114 := aA_ NB114_120.out.symm
        replace BK114 := bK_ BK114 hb
        clear hb hbox hg
        refine hK.out _ _ ⟨(blk_cell BK113.out 0).trans rfl, (blk_cell BK113.out 1).trans rfl⟩ (fun hHeld => ?_)
        clear hK K
        refine norm_ (by show Act.put _ (some 7) _ = _; simp only [Act.put, sT_, sZ_, sS_, i64_w, i32_w] <;> rfl) ?_
        exact norm_ (by simp only [putAll, Act.put, sT_, sZ_, sS_] <;> rfl) (hJ3_7_9 (gb120) _ ⟨hHeld, BK113.out, BK114.out, BK120.out, GW120.out, GE120.out, NB113_120.out, NB120_113.out, NB114_120.out, NB120_114.out, (by repeat (with_reducible first | exact HB.out | apply bA_ | apply bN_ | apply bD_ | refine bS_ ?_ GE113.out | refine bS_ ?_ GE114.out | refine bS_ ?_ GE120.out))⟩)
     ·skip
      rintro ⟨gb119, gb120⟩ w35 ⟨hS_, h0_, h1_, h2_, h3_, h4_, h5_, h6_, h7_, h8_, h9_, h10_, h11_, h12_, h13_, h14_, h15_, h16_, h17_, h18_⟩
      (try dsimp only at h0_ h1_ h2_ h3_ h4_ h5_ h6_ h7_ h8_ h9_ h10_ h11_ h12_ h13_ h14_ h15_ h16_ h17_ h18_)
      clear BK113 BK114 HB
      have BK113 := aA_ h0_
      have BK114 := aA_ h1_
      have BK119 := aA_ h2_
      have BK120 := aA_ h3_
      have GW119 := aA_ h4_
      have GE119 := aA_ h5_
      have NB113_119 := aA_ h6_
      have NB119_113 := aA_ h7_
      have NB114_119 := aA_ h8_
      have NB119_114 := aA_ h9_
      have NB120_119 := aA_ h10_
      have NB119_120 := aA_ h11_
      have GW120 := aA_ h12_
      have GE120 := aA_ h13_
      have NB113_120 := aA_ h14_
      have NB120_113 := aA_ h15_
      have NB114_120 := aA_ h16_
      have NB120_114 := aA_ h17_
      have HB := aA_ h18_
      clear h0_ h1_ h2_ h3_ h4_ h5_ h6_ h7_ h8_ h9_ h10_ h11_ h12_ h13_ h14_ h15_ h16_ h17_ h18_
      have hHeld : w35.cell? ⟨gb113, 0, none⟩ = some (.int .u64 a0_0) ∧ w35.cell? ⟨gb113, 1, none⟩ = some (.int .u64 a0_1) := hS_
      refine norm_ (a' := ?_) ?_ ?_
      rotate_left
      ·simp only [putAll, Act.put, sT_, sZ_, sS_]
       rfl
      refine one_ (i := 7) (N := some 15) (wide_Times.ups 12 1023) rfl rfl (one_of HT_.out (by kernel_rfl)) (by decide) (fun K hK => ?_)
      refine goes_ Try.func77 (by kernel_rfl) rfl #[.int .u64 a0_0, .int .u64 a1] (by rfl) rfl rfl (by (try simp only [mT_, mC_, mN_]); first | done | rfl) ?_
      with_reducible refine (wide_Mul.calls a0_0 a1 t117 t118 _ A4.out).mono ?_
      rintro e w36 ⟨rfl, hb⟩
      refine ⟨_, rfl, ?_⟩
      replace BK113 := bK_ BK113 hb
      replace BK114 := bK_ BK114 hb
      replace BK119 := bK_ BK119 hb
      replace BK120 := bK_ BK120 hb
      replace HB := bB_ (by repeat (with_reducible first | exact HB.out | apply bA_ | apply bN_ | apply bD_ | refine bS_ ?_ GE113.out | refine bS_ ?_ GE114.out | refine bS_ ?_ GE119.out | refine bS_ ?_ GE120.out)) hb
      (try clear hb)
      (try clear hb2)
      (try clear hk)
      (try clear hi)
      refine hK.out _ _ ⟨(blk_cell BK113.out 0).trans rfl, (blk_cell BK113.out 1).trans rfl⟩ (fun hHeld => ?_)
      clear hK K
      refine norm_ (by show Act.put _ (some 15) _ = _; simp only [Act.put, sT_, sZ_, sS_, i64_w, i32_w] <;> rfl) ?_
      exact norm_ (by simp only [putAll, Act.put, sT_, sZ_, sS_] <;> rfl) (hJ3_7_8_9 (gb119, gb120) _ ⟨hHeld, BK113.out, BK114.out, BK119.out, BK120.out, GW119.out, GE119.out, NB113_119.out, NB119_113.out, NB114_119.out, NB119_114.out, NB120_119.out, NB119_120.out, GW120.out, GE120.out, NB113_120.out, NB120_113.out, NB114_120.out, NB120_114.out, (by repeat (with_reducible first | exact HB.out | apply bA_ | apply bN_ | apply bD_ | refine bS_ ?_ GE113.out | refine bS_ ?_ GE114.out | refine bS_ ?_ GE119.out | refine bS_ ?_ GE120.out))⟩)
    ·skip
     rintro gb120 w35 ⟨hS_, h0_, h1_, h2_, h3_, h4_, h5_, h6_, h7_, h8_, h9_⟩
     (try dsimp only at h0_ h1_ h2_ h3_ h4_ h5_ h6_ h7_ h8_ h9_)
     clear BK113 BK114 HB
     have BK113 := aA_ h0_
     have BK114 := aA_ h1_
     have BK120 := aA_ h2_
     have GW120 := aA_ h3_
     have GE120 := aA_ h4_
     have NB113_120 := aA_ h5_
     have NB120_113 := aA_ h6_
     have NB114_120 := aA_ h7_
     have NB120_114 := aA_ h8_
     have HB := aA_ h9_
     clear h0_ h1_ h2_ h3_ h4_ h5_ h6_ h7_ h8_ h9_
     have hHeld : w35.cell? ⟨gb113, 0, none⟩ = some (.int .u64 a0_0) ∧ w35.cell? ⟨gb113, 1, none⟩ = some (.int .u64 a0_1) := hS_
     refine norm_ (a' := ?_) ?_ ?_
     rotate_left
     ·simp only [putAll, Act.put, sT_, sZ_, sS_]
      rfl
     refine one_ (i := 8) (N := some 6) (wide_Times.ups 12 1023) rfl rfl (one_of HT_.out (by kernel_rfl)) (by decide) (fun K hK => ?_)
     refine box_step rfl (N := 6) rfl (cs := #[.int .u64 0, .int .u64 0]) (t := 128) ?hr ?_; (case hr => go_simp <;> rfl)
     intro gb119 hg w36 hbox hb
     have BK119 := aA_ (hbox)
     have GW119 := gW_ hg (by repeat (with_reducible first | exact HB.out | apply bA_ | apply bN_ | apply bD_ | refine bS_ ?_ GE113.out | refine bS_ ?_ GE114.out | refine bS_ ?_ GE120.out))
     have GE119 := GW119
     replace HB := bB_ (by repeat (with_reducible first | exact HB.out | apply bA_ | apply bN_ | apply bD_ | refine bS_ ?_ GE113.out | refine bS_ ?_ GE114.out | refine bS_ ?_ GE120.out)) hb
     have NB113_119 := nE_ hg BK113
     have NB119_113 := aA_ NB113_119.out.symm
     replace BK113 := bK_ BK113 hb
     have NB114_119 := nE_ hg BK114
     have NB119_114 := aA_ NB114_119.out.symm
     replace BK114 := bK_ BK114 hb
     have NB120_119 := nE_ hg BK120
     have NB119_120 := aA_ NB120_119.out.symm
     replace BK120 := bK_ BK120 hb
     clear hb hbox hg
     refine hK.out _ _ ⟨(blk_cell BK113.out 0).trans rfl, (blk_cell BK113.out 1).trans rfl⟩ (fun hHeld => ?_)
     clear hK K
     refine norm_ (by show Act.put _ (some 6) _ = _; simp only [Act.put, sT_, sZ_, sS_, i64_w, i32_w] <;> rfl) ?_
     exact norm_ (by simp only [putAll, Act.put, sT_, sZ_, sS_] <;> rfl) (hJ3_7_8_9 (gb119, gb120) _ ⟨hHeld, BK113.out, BK114.out, BK119.out, BK120.out, GW119.out, GE119.out, NB113_119.out, NB119_113.out, NB114_119.out, NB119_114.out, NB120_119.out, NB119_120.out, GW120.out, GE120.out, NB113_120.out, NB120_113.out, NB114_120.out, NB120_114.out, (by repeat (with_reducible first | exact HB.out | apply bA_ | apply bN_ | apply bD_ | refine bS_ ?_ GE113.out | refine bS_ ?_ GE114.out | refine bS_ ?_ GE120.out | refine bS_ ?_ GE119.out))⟩)
   ·skip
    rintro gb119 w35 ⟨hS_, h0_, h1_, h2_, h3_, h4_, h5_, h6_, h7_, h8_, h9_⟩
    (try dsimp only at h0_ h1_ h2_ h3_ h4_ h5_ h6_ h7_ h8_ h9_)
    clear BK113 BK114 HB
    have BK113 := aA_ h0_
    have BK114 := aA_ h1_
    have BK119 := aA_ h2_
    have GW119 := aA_ h3_
    have GE119 := aA_ h4_
    have NB113_119 := aA_ h5_
    have NB119_113 := aA_ h6_
    have NB114_119 := aA_ h7_
    have NB119_114 := aA_ h8_
    have HB := aA_ h9_
    clear h0_ h1_ h2_ h3_ h4_ h5_ h6_ h7_ h8_ h9_
    have hHeld : w35.cell? ⟨gb113, 0, none⟩ = some (.int .u64 a0_0) ∧ w35.cell? ⟨gb113, 1, none⟩ = some (.int .u64 a0_1) := hS_
    refine norm_ (a' := ?_) ?_ ?_
    rotate_left
    ·simp only [putAll, Act.put, sT_, sZ_, sS_]
     rfl
    refine one_ (i := 9) (N := some 7) (wide_Times.ups 12 1023) rfl rfl (one_of HT_.out (by kernel_rfl)) (by decide) (fun K hK => ?_)
    refine box_step rfl (N := 7) rfl (cs := #[.int .u64 0, .int .u64 0]) (t := 128) ?hr ?_; (case hr => go_simp <;> rfl)
    intro gb120 hg w36 hbox hb
    have BK120 := aA_ (hbox)
    have GW120 := gW_ hg (by repeat (with_reducible first | exact HB.out | apply bA_ | apply bN_ | apply bD_ | refine bS_ ?_ GE113.out | refine bS_ ?_ GE114.out | refine bS_ ?_ GE119.out))
    have GE120 := GW120
    replace HB := bB_ (by repeat (with_reducible first | exact HB.out | apply bA_ | apply bN_ | apply bD_ | refine bS_ ?_ GE113.out | refine bS_ ?_ GE114.out | refine bS_ ?_ GE119.out)) hb
    have NB113_120 := nE_ hg BK113
    have NB120_113 := aA_ NB113_120.out.symm
    replace BK113 := bK_ BK113 hb
    have NB114_120 := nE_ hg BK114
    have NB120_114 := aA_ NB114_120.out.symm
    replace BK114 := bK_ BK114 hb
    have NB119_120 := nE_ hg BK119
    have NB120_119 := aA_ NB119_120.out.symm
    replace BK119 := bK_ BK119 hb
    clear hb hbox hg
    refine hK.out _ _ ⟨(blk_cell BK113.out 0).trans rfl, (blk_cell BK113.out 1).trans rfl⟩ (fun hHeld => ?_)
    clear hK K
    refine norm_ (by show Act.put _ (some 7) _ = _; simp only [Act.put, sT_, sZ_, sS_, i64_w, i32_w] <;> rfl) ?_
    exact norm_ (by simp only [putAll, Act.put, sT_, sZ_, sS_] <;> rfl) (hJ3_7_8_9 (gb119, gb120) _ ⟨hHeld, BK113.out, BK114.out, BK119.out, BK120.out, GW119.out, GE119.out, NB113_119.out, NB119_113.out, NB114_119.out, NB119_114.out, NB120_119.out, NB119_120.out, GW120.out, GE120.out, NB113_120.out, NB120_113.out, NB114_120.out, NB120_114.out, (by repeat (with_reducible first | exact HB.out | apply bA_ | apply bN_ | apply bD_ | refine bS_ ?_ GE113.out | refine bS_ ?_ GE114.out | refine bS_ ?_ GE119.out | refine bS_ ?_ GE120.out))⟩)
  rintro ⟨gb119, gb120⟩ w36 ⟨hS_, h0_, h1_, h2_, h3_, h4_, h5_, h6_, h7_, h8_, h9_, h10_, h11_, h12_, h13_, h14_, h15_, h16_, h17_, h18_⟩
  (try dsimp only at h0_ h1_ h2_ h3_ h4_ h5_ h6_ h7_ h8_ h9_ h10_ h11_ h12_ h13_ h14_ h15_ h16_ h17_ h18_)
  clear BK113 BK114 HB
  have BK113 := aA_ h0_
  have BK114 := aA_ h1_
  have BK119 := aA_ h2_
  have BK120 := aA_ h3_
  have GW119 := aA_ h4_
  have GE119 := aA_ h5_
  have NB113_119 := aA_ h6_
  have NB119_113 := aA_ h7_
  have NB114_119 := aA_ h8_
  have NB119_114 := aA_ h9_
  have NB120_119 := aA_ h10_
  have NB119_120 := aA_ h11_
  have GW120 := aA_ h12_
  have GE120 := aA_ h13_
  have NB113_120 := aA_ h14_
  have NB120_113 := aA_ h15_
  have NB114_120 := aA_ h16_
  have NB120_114 := aA_ h17_
  have HB := aA_ h18_
  clear h0_ h1_ h2_ h3_ h4_ h5_ h6_ h7_ h8_ h9_ h10_ h11_ h12_ h13_ h14_ h15_ h16_ h17_ h18_
  have hHeld : w36.cell? ⟨gb113, 0, none⟩ = some (.int .u64 a0_0) ∧ w36.cell? ⟨gb113, 1, none⟩ = some (.int .u64 a0_1) := hS_
  refine norm_ (a' := ?_) ?_ ?_
  rotate_left
  ·simp only [putAll, Act.put, sT_, sZ_, sS_]
   rfl
  refine one_ (i := 10) (N := none) (wide_Times.ups 12 2047) rfl rfl (one_of HT_.out (by kernel_rfl)) (by decide) (fun K hK => ?_)
  have hs37 : w36.cell? ⟨gb119, 0, none⟩ = some (.int .u64 0) := (blk_cell BK119.out 0).trans rfl
  have hfs37 := blk_frozen BK119.out 0
  have hns37_0 := NB113_119.out
  have hns37_1 := NB114_119.out
  have hns37_3 := NB120_119.out
  have hms37_0 := NB119_113.out
  have hms37_1 := NB119_114.out
  have hms37_3 := NB119_120.out
  have hs38 : w36.cell? ⟨gb119, 1, none⟩ = some (.int .u64 0) := (blk_cell BK119.out 1).trans rfl
  have hfs38 := blk_frozen BK119.out 1
  have hns38_0 := NB113_119.out
  have hns38_1 := NB114_119.out
  have hns38_3 := NB120_119.out
  have hms38_0 := NB119_113.out
  have hms38_1 := NB119_114.out
  have hms38_3 := NB119_120.out
  refine skip_ (w1 := ?_) (by rfl) rfl ?_ ?_
  rotate_left
  ·go_simp
   rfl
  refine hK.out _ _ ⟨((cell_far (p := ⟨gb119, _, none⟩) NB113_119.out _).trans (((cell_far (p := ⟨gb119, _, none⟩) NB113_119.out _).trans (hHeld.1)))), ((cell_far (p := ⟨gb119, _, none⟩) NB113_119.out _).trans (((cell_far (p := ⟨gb119, _, none⟩) NB113_119.out _).trans (hHeld.2))))⟩ (fun hHeld => ?_)
  clear hK K
  refine one_ (i := 11) (N := none) (wide_Times.ups 12 4095) rfl rfl (one_of HT_.out (by kernel_rfl)) (by decide) (fun K hK => ?_)
  have hs39 : w36.cell? ⟨gb120, 0, none⟩ = some (.int .u64 0) := (blk_cell BK120.out 0).trans rfl
  have hfs39 := blk_frozen BK120.out 0
  have hns39_0 := NB113_120.out
  have hns39_1 := NB114_120.out
  have hns39_2 := NB119_120.out
  have hms39_0 := NB120_113.out
  have hms39_1 := NB120_114.out
  have hms39_2 := NB120_119.out
  have hs40 : w36.cell? ⟨gb120, 1, none⟩ = some (.int .u64 0) := (blk_cell BK120.out 1).trans rfl
  have hfs40 := blk_frozen BK120.out 1
  have hns40_0 := NB113_120.out
  have hns40_1 := NB114_120.out
  have hns40_2 := NB119_120.out
  have hms40_0 := NB120_113.out
  have hms40_1 := NB120_114.out
  have hms40_2 := NB120_119.out
  refine skip_ (w1 := ?_) (by rfl) rfl ?_ ?_
  rotate_left
  ·go_simp
   rfl
  refine hK.out _ _ ⟨((cell_far (p := ⟨gb120, _, none⟩) NB113_120.out _).trans (((cell_far (p := ⟨gb120, _, none⟩) NB113_120.out _).trans (hHeld.1)))), ((cell_far (p := ⟨gb120, _, none⟩) NB113_120.out _).trans (((cell_far (p := ⟨gb120, _, none⟩) NB113_120.out _).trans (hHeld.2))))⟩ (fun hHeld => ?_)
  clear hK K
  refine done_ (done_of HT_.out (by kernel_rfl)) ?_
  have hnb41 := NB120_113.out
  have hnc41 := NB113_120.out
  have hnb42 := NB120_114.out
  have hnc42 := NB114_120.out
  have hnb43 := NB120_119.out
  have hnc43 := NB119_120.out
  have hcz44_0 : w36.cell? ⟨gb120, 0, none⟩ = some (.int .u64 0) := (blk_cell BK120.out 0).trans rfl
  have hcz44_1 : w36.cell? ⟨gb120, 1, none⟩ = some (.int .u64 0) := (blk_cell BK120.out 1).trans rfl
  have hfz44_0 := blk_frozen BK120.out 0
  have hfz44_1 := blk_frozen BK120.out 1
  have hnb45 := NB114_113.out
  have hnc45 := NB113_114.out
  have hnb46 := NB114_119.out
  have hnc46 := NB119_114.out
  have hcz47_0 : w36.cell? ⟨gb114, 0, none⟩ = some (.int .u64 0) := (blk_cell BK114.out 0).trans rfl
  have hcz47_1 : w36.cell? ⟨gb114, 1, none⟩ = some (.int .u64 0) := (blk_cell BK114.out 1).trans rfl
  have hfz47_0 := blk_frozen BK114.out 0
  have hfz47_1 := blk_frozen BK114.out 1
  try go_wp2
  refine bodyPost_ret (results_ct rfl _ _ gb114 128 #[.int .u64 0, .int .u64 0] (0, 0) _ rfl (by refine blk_put (cs := #[.int .u64 0, .int .u64 0]) ?_ 1 _ rfl; refine blk_put (cs := #[.int .u64 0, .int .u64 0]) ?_ 0 _ rfl; refine blk_far ?_ NB114_120.out _; refine blk_far ?_ NB114_120.out _; refine blk_far ?_ NB114_119.out _; refine blk_far ?_ NB114_119.out _; exact BK114.out) Try.underlying128 rfl (by kernel_rfl)) rfl ?_
  exact ⟨by rfl, by repeat (with_reducible first | exact HB.out | apply bA_ | apply bN_ | apply bD_ | refine bS_ ?_ GE113.out | refine bS_ ?_ GE114.out | refine bS_ ?_ GE119.out | refine bS_ ?_ GE120.out)⟩

end Go.Proofs.Yteikafepdkijdaa.X
