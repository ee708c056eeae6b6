-- cut by prune.py, a program of this session
import Derived.Test.YteikafepdkijdaaPTableSumsX0
import Derived.Test.YteikafepdkijdaaPTableSumsXWMul
import Derived.Test.YteikafepdkijdaaPTableSumsXRound
namespace Go.Proofs.Yteikafepdkijdaa.X
open Go.RowKit Go.Proofs.YteikafepdkijdaaW.PrintWords Go.Proofs.YteikafepdkijdaaW.PrintLast Go.Proofs.YteikafepdkijdaaW.PrintMore
attribute [local go_sem] max2_int min2_int max_two min_two
set_option linter.unusedVariables false
set_option linter.unusedSimpArgs false

def round_Part.upsl : Nat → Nat → List Bool
 | 0, _ => []
 | n + 1, m => (m % 2 == 1) :: round_Part.upsl n (m / 2)
def round_Part.ups (n m : Nat) : Array Bool := ⟨round_Part.upsl n m⟩
def round_Part.j0 : Nat → Int → Int → Int → Bool → Int → Int → Option (Int × Int)
 | 0, _, _, _, _, _, _ => none
 | k + 1, x0, x1, x3, x22, x149000, x149001 => if x22 = true then (some (0, 1)) else ((wide_Mul.f (IntKind.u64.wrap (x0)) (IntKind.u64.wrap (x1))).bind fun bt149 => ((wide_Times.f bt149.1 bt149.2 (IntKind.u64.wrap (x149000))).bind fun bt151 => ((wide_Mul.f (IntKind.u64.wrap (x3)) (IntKind.u64.wrap (x149001))).bind fun bt155 => (if bt151.2.2 = 0 then (if bt155.1 = 0 then ((round_Even.f k bt151.1 bt151.2.1 bt155.2).bind fun bt158 => (some (bt158.1, bt158.2))) else (some (0, 6))) else (some (0, 6))))))
def round_Part.f (k : Nat) (a0 : Int) (a1 : Int) (a2_0 : Int) (a2_1 : Int) (a3 : Int) : Option (Int × Int) := if a0 < 0 then (round_Part.j0 k a0 a1 a3 true a2_0 a2_1) else (if a1 < 0 then (round_Part.j0 k a0 a1 a3 true a2_0 a2_1) else (round_Part.j0 k a0 a1 a3 (decide (a3 < 1)) a2_0 a2_1))
theorem round_Part.mono_l : ∀ k, (∀ y0 y1 y2 y3 y4 y5, LeO (round_Part.j0 k y0 y1 y2 y3 y4 y5) (round_Part.j0 (k + 1) y0 y1 y2 y3 y4 y5))
 | 0 => fun _ _ _ _ _ _ r h => by simp [round_Part.j0] at h
 | k + 1 => by
  have ih0 := round_Part.mono_l k
  ·intro y0 y1 y2 y3 y4 y5
   unfold round_Part.j0
   repeat' first
   | (with_reducible exact ih0 _ _ _ _ _ _)
   | (with_reducible exact round_Even.mono _ _ _ _)
   | (with_reducible exact LeO.refl _)
   | (with_reducible exact LeO.none _)
   | (with_reducible refine LeO.ite ?_ ?_)
   | (with_reducible refine LeO.bind ?_ (fun _ => ?_))
   | exact ih0 _ _ _ _ _ _
   | exact round_Even.mono _ _ _ _
   | exact LeO.none _
   | refine LeO.ite ?_ ?_
   | refine LeO.bind ?_ (fun _ => ?_)
theorem round_Part.mono : ∀ a0 a1 a2 a3 a4 k, LeO (round_Part.f k a0 a1 a2 a3 a4) (round_Part.f (k + 1) a0 a1 a2 a3 a4) := by
 intro a0 a1 a2 a3 a4 k
 have ih0 := round_Part.mono_l k
 unfold round_Part.f
 repeat' first
   | (with_reducible exact ih0 _ _ _ _ _ _)
   | (with_reducible exact round_Even.mono _ _ _ _)
   | (with_reducible exact LeO.refl _)
   | (with_reducible exact LeO.none _)
   | (with_reducible refine LeO.ite ?_ ?_)
   | (with_reducible refine LeO.bind ?_ (fun _ => ?_))
   | exact ih0 _ _ _ _ _ _
   | exact round_Even.mono _ _ _ _
   | exact LeO.none _
   | refine LeO.ite ?_ ?_
   | refine LeO.bind ?_ (fun _ => ?_)
def round_Part.T3 : Bool × List (List Nat × List Nat) := (true, [([], []), ([0], [0]), ([], []), ([2], [2]), ([1, 3], [1, 3]), ([], []), ([5], [5]), ([6], [6]), ([4, 7, 4], [4, 7]), ([8], [8]), ([9], [9]), ([9], [9]), ([], []), ([12, 10, 8, 0, 1, 2, 3, 4, 5, 6, 7, 8, 9, 10, 12], [10, 12]), ([11, 13, 0, 1, 2, 3, 4, 5, 6, 7, 8, 9, 10, 11, 12, 13], [11])])
def round_Part.B3 : List Nat := [0, 1, 0, 4, 15, 0, 32, 96, 255, 511, 1023, 1023, 0, 6143, 16383]
theorem round_Part.tab3 : rtab .any (opsOf Try.f72 3) = round_Part.T3 := by kernel_rfl
theorem round_Part.bits3 : waitsOk round_Part.T3.2 round_Part.B3 = true := by kernel_rfl
set_option maxHeartbeats 8000000 in
set_option maxRecDepth 100000 in
theorem round_Part.calls (k : Nat) (a0 : Int) (a1 : Int) (a2_0 : Int) (a2_1 : Int) (a3 : Int) (r1 : Int) (r2 : Int) (w : World) (h : round_Part.f k a0 a1 a2_0 a2_1 a3 = some (r1, r2)) :
  Calls Try.prog 72 #[.int .i64 a0, .int .i64 a1, .agg #[.int .i64 a2_0, .int .i64 a2_1], .int .i64 a3] w fun e w' => e = .returned (.tuple #[.int .i64 r1, .int .i64 r2]) ∧ Below w.heap.size w w' := by
 have hu56 := Try.underlying56
 have hu128 := Try.underlying128
 have HB := aA_ (Below.refl w.heap.size w)
 have H : (if a0 < 0 then (round_Part.j0 k a0 a1 a3 true a2_0 a2_1) else (if a1 < 0 then (round_Part.j0 k a0 a1 a3 true a2_0 a2_1) else (round_Part.j0 k a0 a1 a3 (decide (a3 < 1)) a2_0 a2_1))) = some (r1, r2) := h
 clear h
 have HC5 := aA_ H
 clear H
 go_enter Try.func72, Try.ntmps72
 go_upto_region 1 with (first | (refine box_event rfl (N := 6) rfl (cs := #[.int .i64 a2_0, .int .i64 a2_1]) (t := 56) ?hr ?_; (case hr => go_simp <;> rfl); intro gb148 hg w6 hbox hb; have BK148 := aA_ (hbox); have GW148 := gW_ hg (by repeat (with_reducible first | exact HB.out | apply bA_ | apply bN_ | apply bD_)); have GE148 := GW148; replace HB := bB_ (by repeat (with_reducible first | exact HB.out | apply bA_ | apply bN_ | apply bD_)) hb; clear hb hbox hg))
 (try simp only [Act.put, sT_, sZ_, sS_])
 go_cut [22] (fun v22 wc => ∃ (kq : Nat) (x22_4 : Bool), v22 = .bool x22_4 ∧ Aside0 (round_Part.j0 kq a0 a1 a3 x22_4 a2_0 a2_1 = some (r1, r2)) ∧ Aside0 (kq ≤ k) ∧ Aside0 (wc.heap[gb148]? = some (.cells #[.int .i64 a2_0, .int .i64 a2_1] 56 (0, 0))) ∧ Aside0 (Below w.heap.size w wc))
 case first =>
  have H := HC5.out
  clear HC5
  by_cases c7 : a0 < 0
  ·rw [if_pos c7] at H
   have c7b0 : decide (a0 < 0) = true := decide_eq_true c7
   clear c7
   (first | rw [c7b0] | (simp only [i64_w, i32_w]; rw [c7b0]) | rw [c7b1] | skip)
   have H' := aA_ H
   clear H
   go_wp2
   go_meet
   case rel => exact ⟨_, (true), (by first | rfl | simp | simp [*]), H', ⟨by first | omega | exact Nat.le_refl _⟩, ⟨by exact BK148.out⟩, ⟨by repeat (with_reducible first | exact HB.out | apply bA_ | apply bN_ | apply bD_ | refine bS_ ?_ GE148.out)⟩⟩
  ·rw [if_neg c7] at H
   have c7b0 : decide (a0 < 0) = false := decide_eq_false c7
   clear c7
   (first | rw [c7b0] | (simp only [i64_w, i32_w]; rw [c7b0]) | rw [c7b1] | skip)
   by_cases c8 : a1 < 0
   ·rw [if_pos c8] at H
    have c8b0 : decide (a1 < 0) = true := decide_eq_true c8
    clear c8
    have H' := aA_ H
    clear H
    go_wp2
    go_meet
    case rel => exact ⟨_, (true), (by first | rfl | simp | simp [*]), H', ⟨by first | omega | exact Nat.le_refl _⟩, ⟨by exact BK148.out⟩, ⟨by repeat (with_reducible first | exact HB.out | apply bA_ | apply bN_ | apply bD_ | refine bS_ ?_ GE148.out)⟩⟩
   ·rw [if_neg c8] at H
    have c8b0 : decide (a1 < 0) = false := decide_eq_false c8
    clear c8
    have H' := aA_ H
    clear H
    go_wp2
    go_meet
    case rel => exact ⟨_, (decide (a3 < 1)), (by first | rfl | simp | simp [*]), H', ⟨by first | omega | exact Nat.le_refl _⟩, ⟨by exact BK148.out⟩, ⟨by repeat (with_reducible first | exact HB.out | apply bA_ | apply bN_ | apply bD_ | refine bS_ ?_ GE148.out)⟩⟩
 case rest =>
  clear HC5
  try clear p2
  try clear c7
  try clear c7b0
  try clear c7b1
  try clear c8
  try clear c8b0
  obtain ⟨kq, x22_4, rfl, HA, HJ4, BK148, HB⟩ := hcut
  cases kq with
  | zero => exact absurd HA.out (by simp [round_Part.j0])
  | succ kj4 =>
   have H := HA.out
   clear HA
   simp only [round_Part.j0] at H
   by_cases c9 : x22_4 = true
   ·subst c9
    rw [if_pos rfl] at H
    simp only [Option.some.injEq, Prod.mk.injEq] at H
    obtain ⟨rfl, rfl⟩ := H
    go_wp2
    go_ret2
    exact ⟨by rfl, by repeat (with_reducible first | exact HB.out | apply bA_ | apply bN_ | apply bD_ | refine bS_ ?_ GE148.out)⟩
   ·replace c9 := Bool.eq_false_iff.mpr c9
    subst c9
    rw [if_neg (show ¬ (false = true) by decide)] at H
    replace H := bI_ H
    obtain ⟨⟨t149, t150⟩, A100, H⟩ := H
    (try dsimp only at H)
    have A10 := aA_ A100
    clear A100
    replace H := bI_ H
    obtain ⟨⟨t151, t152, t153⟩, A110, H⟩ := H
    (try dsimp only at H)
    have A11 := aA_ A110
    clear A110
    replace H := bI_ H
    obtain ⟨⟨t155, t156⟩, A120, H⟩ := H
    (try dsimp only at H)
    have A12 := aA_ A120
    clear A120
    by_cases c13 : t153 = 0
    ·rw [if_pos c13] at H
     have c13b0 : (t153 == 0) = true := beq_iff_eq.mpr c13
     have c13b1 : (t153 != 0) = false := bne_eq_false_iff_eq.mpr c13
     clear c13
     by_cases c14 : t155 = 0
     ·rw [if_pos c14] at H
      have c14b0 : (t155 == 0) = true := beq_iff_eq.mpr c14
      have c14b1 : (t155 != 0) = false := bne_eq_false_iff_eq.mpr c14
      clear c14
      replace H := bI_ H
      obtain ⟨⟨t158, t159⟩, A150, H⟩ := H
      (try dsimp only at H)
      have A15 := aA_ A150
      clear A150
      simp only [Option.some.injEq, Prod.mk.injEq] at H
      obtain ⟨rfl, rfl⟩ := H
      try go_wp2
      replace BK148 := aA_ (blk_drew BK148.out)
      replace HB := aA_ (below_drew1 HB.out)
      refine start_ (n := 15) (S := fun w' => w'.cell? ⟨gb148, 0, none⟩ = some (.int .i64 a2_0) ∧ w'.cell? ⟨gb148, 1, none⟩ = some (.int .i64 a2_1)) (ds := []) (round_Part.ups 15 0) (by kernel_rfl) rfl rfl ⟨(blk_cell BK148.out 0).trans rfl, (blk_cell BK148.out 1).trans rfl⟩ (fun hHeld => ?_); refine with_tabW round_Part.tab3 round_Part.bits3 (fun HT_ HW_ => ?_)
      generalize wc.drew = w16 at BK148 HB hHeld ⊢
      refine pure_ (i := 0) (N := some 24) (v := ?_) (a' := ?_) (round_Part.ups 15 1) rfl rfl (any_of HT_.out (by kernel_rfl)) (fun _ _ _ h => h) (Or.inl ⟨by rfl, ?_⟩) ?_ ?_
      rotate_left
      ·intro w'
       go_simp
       with_reducible rfl
      rotate_left
      ·simp only [Act.put, sT_, sZ_, sS_, i64_w, i32_w]
       rfl
      refine pure_ (i := 1) (N := some 25) (v := ?_) (a' := ?_) (round_Part.ups 15 3) rfl rfl (any_of HT_.out (by kernel_rfl)) (fun _ _ _ h => h) (Or.inl ⟨by rfl, ?_⟩) ?_ ?_
      rotate_left
      ·intro w'
       go_simp
       with_reducible rfl
      rotate_left
      ·simp only [Act.put, sT_, sZ_, sS_, i64_w, i32_w]
       rfl
      refine pure_ (i := 2) (N := some 26) (v := ?_) (a' := ?_) (round_Part.ups 15 7) rfl rfl (any_of HT_.out (by kernel_rfl)) (fun _ _ _ h => h) (Or.inl ⟨by rfl, ?_⟩) ?_ ?_
      rotate_left
      ·intro w'
       go_simp
       with_reducible rfl
      rotate_left
      ·simp only [Act.put, sT_, sZ_, sS_, i64_w, i32_w]
       rfl
      refine pure_ (i := 3) (N := some 27) (v := ?_) (a' := ?_) (round_Part.ups 15 15) rfl rfl (any_of HT_.out (by kernel_rfl)) (fun _ _ _ h => h) (Or.inl ⟨by rfl, ?_⟩) ?_ ?_
      rotate_left
      ·intro w'
       go_simp
       with_reducible rfl
      rotate_left
      ·simp only [Act.put, sT_, sZ_, sS_, i64_w, i32_w]
       rfl
      refine pure_ (i := 5) (N := some 29) (v := ?_) (a' := ?_) (round_Part.ups 15 47) rfl rfl (any_of HT_.out (by kernel_rfl)) (fun _ _ _ h => h) (Or.inl ⟨by rfl, ?_⟩) ?_ ?_
      rotate_left
      ·intro w'
       go_simp
       with_reducible rfl
      rotate_left
      ·simp only [Act.put, sT_, sZ_, sS_, i64_w, i32_w]
       rfl
      refine take_ (i := 6) (N := some 30) (v := ?_) (a' := ?_) (round_Part.ups 15 111) rfl rfl (take_ofW HT_.out HW_.out (by kernel_rfl)) (fun _ _ _ h => h) (Or.inl ⟨by rfl, ?_⟩) hHeld ?_ ?_
      rotate_left
      ·rintro w' ⟨s0, s1⟩
       go_simp
       with_reducible rfl
      rotate_left
      ·simp only [Act.put, sT_, sZ_, sS_, i64_w, i32_w]
       rfl
      refine pure_ (i := 7) (N := some 31) (v := ?_) (a' := ?_) (round_Part.ups 15 239) rfl rfl (any_of HT_.out (by kernel_rfl)) (fun _ _ _ h => h) (Or.inl ⟨by rfl, ?_⟩) ?_ ?_
      rotate_left
      ·intro w'
       go_simp
       with_reducible rfl
      rotate_left
      ·simp only [Act.put, sT_, sZ_, sS_, i64_w, i32_w]
       rfl
      refine join_ (σ := Nat) 2 (round_Part.ups 15 8191) (fun s_ => [(28, .agg #[.int .u64 t149, .int .u64 t150]), (32, .tuple #[.agg #[.int .u64 t151, .int .u64 t152], .int .i64 t153]), (10, .pointer (some ⟨s_, 0, none⟩)), (23, .tuple #[.agg #[.int .u64 t151, .int .u64 t152], .int .i64 t153]), (33, .agg #[.int .u64 t151, .int .u64 t152]), (34, .int .i64 t153)]) (fun s_ w' => (w'.cell? ⟨gb148, 0, none⟩ = some (.int .i64 a2_0) ∧ w'.cell? ⟨gb148, 1, none⟩ = some (.int .i64 a2_1)) ∧ (w'.heap[gb148]? = some (.cells #[.int .i64 a2_0, .int .i64 a2_1] 56 (0, 0))) ∧ (w'.heap[s_]? = some (.cells #[.int .u64 0, .int .u64 0] 128 (0, 0))) ∧ (w.heap.size ≤ s_) ∧ (w.heap.size ≤ s_) ∧ (gb148 ≠ s_) ∧ (s_ ≠ gb148) ∧ (Below w.heap.size w w')) ?_ ?_
      rotate_left
      ·intro hCont
       refine two_ (i := 4) (j := 12) (Ni := some 28) (Nj := some 10) (round_Part.ups 15 255) (round_Part.ups 15 4335) rfl rfl rfl rfl (two_of HT_.out (by kernel_rfl)) (by decide) (by decide) (fun K hK => ?_) (fun K hK => ?_)
       ·skip
        refine goes_ Try.func77 (by kernel_rfl) rfl #[.int .u64 (IntKind.u64.wrap (a0)), .int .u64 (IntKind.u64.wrap (a1))] (by rfl) rfl rfl (by (try simp only [mT_, mC_, mN_]); first | done | rfl) ?_
        with_reducible refine (wide_Mul.calls (IntKind.u64.wrap (a0)) (IntKind.u64.wrap (a1)) t149 t150 _ A10.out).mono ?_
        rintro e w17 ⟨rfl, hb⟩
        refine ⟨_, rfl, ?_⟩
        replace BK148 := bK_ BK148 hb
        replace HB := bB_ (by repeat (with_reducible first | exact HB.out | apply bA_ | apply bN_ | apply bD_ | refine bS_ ?_ GE148.out)) hb
        (try clear hb)
        (try clear hb2)
        (try clear hk)
        (try clear hi)
        refine hK.out _ _ ⟨(blk_cell BK148.out 0).trans rfl, (blk_cell BK148.out 1).trans rfl⟩ (fun hHeld => ?_)
        clear hK K
        refine norm_ (by show Act.put _ (some 28) _ = _; simp only [Act.put, sT_, sZ_, sS_, i64_w, i32_w] <;> rfl) ?_
        refine two_ (i := 8) (j := 12) (Ni := some 32) (Nj := some 10) (round_Part.ups 15 511) (round_Part.ups 15 4351) rfl rfl rfl rfl (two_of HT_.out (by kernel_rfl)) (by decide) (by decide) (fun K hK => ?_) (fun K hK => ?_)
        ·skip
         refine goes_ Try.func76 (by kernel_rfl) rfl #[.agg #[.int .u64 t149, .int .u64 t150], .int .u64 (IntKind.u64.wrap (a2_0))] (by rfl) rfl rfl (by (try simp only [mT_, mC_, mN_]); first | done | rfl) ?_
         with_reducible refine (wide_Times.calls t149 t150 (IntKind.u64.wrap (a2_0)) t151 t152 t153 _ A11.out).mono ?_
         rintro e w18 ⟨rfl, hb⟩
         refine ⟨_, rfl, ?_⟩
         replace BK148 := bK_ BK148 hb
         replace HB := bB_ (by repeat (with_reducible first | exact HB.out | apply bA_ | apply bN_ | apply bD_ | refine bS_ ?_ GE148.out)) hb
         (try clear hb)
         (try clear hb2)
         (try clear hk)
         (try clear hi)
         refine hK.out _ _ ⟨(blk_cell BK148.out 0).trans rfl, (blk_cell BK148.out 1).trans rfl⟩ (fun hHeld => ?_)
         clear hK K
         refine norm_ (by show Act.put _ (some 32) _ = _; simp only [Act.put, sT_, sZ_, sS_, i64_w, i32_w] <;> rfl) ?_
         refine pure_ (i := 9) (N := some 23) (v := ?_) (a' := ?_) (round_Part.ups 15 1023) rfl rfl (any_of HT_.out (by kernel_rfl)) (fun _ _ _ h => h) (Or.inl ⟨by rfl, ?_⟩) ?_ ?_
         rotate_left
         ·intro w'
          go_simp
          with_reducible rfl
         rotate_left
         ·simp only [Act.put, sT_, sZ_, sS_, i64_w, i32_w]
          rfl
         refine pure_ (i := 10) (N := some 33) (v := ?_) (a' := ?_) (round_Part.ups 15 2047) rfl rfl (any_of HT_.out (by kernel_rfl)) (fun _ _ _ h => h) (Or.inl ⟨by rfl, ?_⟩) ?_ ?_
         rotate_left
         ·intro w'
          go_simp
          with_reducible rfl
         rotate_left
         ·simp only [Act.put, sT_, sZ_, sS_, i64_w, i32_w]
          rfl
         refine pure_ (i := 11) (N := some 34) (v := ?_) (a' := ?_) (round_Part.ups 15 4095) rfl rfl (any_of HT_.out (by kernel_rfl)) (fun _ _ _ h => h) (Or.inl ⟨by rfl, ?_⟩) ?_ ?_
         rotate_left
         ·intro w'
          go_simp
          with_reducible rfl
         rotate_left
         ·simp only [Act.put, sT_, sZ_, sS_, i64_w, i32_w]
          rfl
         refine one_ (i := 12) (N := some 10) (round_Part.ups 15 8191) rfl rfl (one_of HT_.out (by kernel_rfl)) (by decide) (fun K hK => ?_)
         refine box_step rfl (N := 10) rfl (cs := #[.int .u64 0, .int .u64 0]) (t := 128) ?hr ?_; (case hr => go_simp <;> rfl)
         intro gb154 hg w19 hbox hb
         have BK154 := aA_ (hbox)
         have GW154 := gW_ hg (by repeat (with_reducible first | exact HB.out | apply bA_ | apply bN_ | apply bD_ | refine bS_ ?_ GE148.out))
         have GE154 := GW154
         replace HB := bB_ (by repeat (with_reducible first | exact HB.out | apply bA_ | apply bN_ | apply bD_ | refine bS_ ?_ GE148.out)) hb
         have NB148_154 := nE_ hg BK148
         have NB154_148 := aA_ NB148_154.out.symm
         replace BK148 := bK_ BK148 hb
         clear hb hbox hg
         refine hK.out _ _ ⟨(blk_cell BK148.out 0).trans rfl, (blk_cell BK148.out 1).trans rfl⟩ (fun hHeld => ?_)
         clear hK K
         refine norm_ (by show Act.put _ (some 10) _ = _; simp only [Act.put, sT_, sZ_, sS_, i64_w, i32_w] <;> rfl) ?_
         exact norm_ (by simp only [putAll, Act.put, sT_, sZ_, sS_]) (hCont (gb154) _ ⟨hHeld, BK148.out, BK154.out, GW154.out, GE154.out, NB148_154.out, NB154_148.out, (by repeat (with_reducible first | exact HB.out | apply bA_ | apply bN_ | apply bD_ | refine bS_ ?_ GE148.out | refine bS_ ?_ GE154.out))⟩)
        ·skip
         refine box_step rfl (N := 10) rfl (cs := #[.int .u64 0, .int .u64 0]) (t := 128) ?hr ?_; (case hr => go_simp <;> rfl)
         intro gb154 hg w18 hbox hb
         have BK154 := aA_ (hbox)
         have GW154 := gW_ hg (by repeat (with_reducible first | exact HB.out | apply bA_ | apply bN_ | apply bD_ | refine bS_ ?_ GE148.out))
         have GE154 := GW154
         replace HB := bB_ (by repeat (with_reducible first | exact HB.out | apply bA_ | apply bN_ | apply bD_ | refine bS_ ?_ GE148.out)) hb
         have NB148_154 := nE_ hg BK148
         have NB154_148 := aA_ NB148_154.out.symm
         replace BK148 := bK_ BK148 hb
         clear hb hbox hg
         refine hK.out _ _ ⟨(blk_cell BK148.out 0).trans rfl, (blk_cell BK148.out 1).trans rfl⟩ (fun hHeld => ?_)
         clear hK K
         refine norm_ (by show Act.put _ (some 10) _ = _; simp only [Act.put, sT_, sZ_, sS_, i64_w, i32_w] <;> rfl) ?_
         refine one_ (i := 8) (N := some 32) (round_Part.ups 15 4607) rfl rfl (one_of HT_.out (by kernel_rfl)) (by decide) (fun K hK => ?_)
         refine goes_ Try.func76 (by kernel_rfl) rfl #[.agg #[.int .u64 t149, .int .u64 t150], .int .u64 (IntKind.u64.wrap (a2_0))] (by rfl) rfl rfl (by (try simp only [mT_, mC_, mN_]); first | done | rfl) ?_
         with_reducible refine (wide_Times.calls t149 t150 (IntKind.u64.wrap (a2_0)) t151 t152 t153 _ A11.out).mono ?_
         rintro e w19 ⟨rfl, hb⟩
         refine ⟨_, rfl, ?_⟩
         replace BK148 := bK_ BK148 hb
         replace BK154 := bK_ BK154 hb
         replace HB := bB_ (by repeat (with_reducible first | exact HB.out | apply bA_ | apply bN_ | apply bD_ | refine bS_ ?_ GE148.out | refine bS_ ?_ GE154.out)) hb
         (try clear hb)
         (try clear hb2)
         (try clear hk)
         (try clear hi)
         refine hK.out _ _ ⟨(blk_cell BK148.out 0).trans rfl, (blk_cell BK148.out 1).trans rfl⟩ (fun hHeld => ?_)
         clear hK K
         refine norm_ (by show Act.put _ (some 32) _ = _; simp only [Act.put, sT_, sZ_, sS_, i64_w, i32_w] <;> rfl) ?_
         refine pure_ (i := 9) (N := some 23) (v := ?_) (a' := ?_) (round_Part.ups 15 5119) rfl rfl (any_of HT_.out (by kernel_rfl)) (fun _ _ _ h => h) (Or.inl ⟨by rfl, ?_⟩) ?_ ?_
         rotate_left
         ·intro w'
          go_simp
          with_reducible rfl
         rotate_left
         ·simp only [Act.put, sT_, sZ_, sS_, i64_w, i32_w]
          rfl
         refine pure_ (i := 10) (N := some 33) (v := ?_) (a' := ?_) (round_Part.ups 15 6143) rfl rfl (any_of HT_.out (by kernel_rfl)) (fun _ _ _ h => h) (Or.inl ⟨by rfl, ?_⟩) ?_ ?_
         rotate_left
         ·intro w'
          go_simp
          with_reducible rfl
         rotate_left
         ·simp only [Act.put, sT_, sZ_, sS_, i64_w, i32_w]
          rfl
         refine pure_ (i := 11) (N := some 34) (v := ?_) (a' := ?_) (round_Part.ups 15 8191) rfl rfl (any_of HT_.out (by kernel_rfl)) (fun _ _ _ h => h) (Or.inl ⟨by rfl, ?_⟩) ?_ ?_
         rotate_left
         ·intro w'
          go_simp
          with_reducible rfl
         rotate_left
         ·simp only [Act.put, sT_, sZ_, sS_, i64_w, i32_w]
          rfl
         exact norm_ (by simp only [putAll, Act.put, sT_, sZ_, sS_]) (hCont (gb154) _ ⟨hHeld, BK148.out, BK154.out, GW154.out, GE154.out, NB148_154.out, NB154_148.out, (by repeat (with_reducible first | exact HB.out | apply bA_ | apply bN_ | apply bD_ | refine bS_ ?_ GE148.out | refine bS_ ?_ GE154.out))⟩)
       ·skip
        refine box_step rfl (N := 10) rfl (cs := #[.int .u64 0, .int .u64 0]) (t := 128) ?hr ?_; (case hr => go_simp <;> rfl)
        intro gb154 hg w17 hbox hb
        have BK154 := aA_ (hbox)
        have GW154 := gW_ hg (by repeat (with_reducible first | exact HB.out | apply bA_ | apply bN_ | apply bD_ | refine bS_ ?_ GE148.out))
        have GE154 := GW154
        replace HB := bB_ (by repeat (with_reducible first | exact HB.out | apply bA_ | apply bN_ | apply bD_ | refine bS_ ?_ GE148.out)) hb
        have NB148_154 := nE_ hg BK148
        have NB154_148 := aA_ NB148_154.out.symm
        replace BK148 := bK_ BK148 hb
        clear hb hbox hg
        refine hK.out _ _ ⟨(blk_cell BK148.out 0).trans rfl, (blk_cell BK148.out 1).trans rfl⟩ (fun hHeld => ?_)
        clear hK K
        refine norm_ (by show Act.put _ (some 10) _ = _; simp only [Act.put, sT_, sZ_, sS_, i64_w, i32_w] <;> rfl) ?_
        refine one_ (i := 4) (N := some 28) (round_Part.ups 15 4351) rfl rfl (one_of HT_.out (by kernel_rfl)) (by decide) (fun K hK => ?_)
        refine goes_ Try.func77 (by kernel_rfl) rfl #[.int .u64 (IntKind.u64.wrap (a0)), .int .u64 (IntKind.u64.wrap (a1))] (by rfl) rfl rfl (by (try simp only [mT_, mC_, mN_]); first | done | rfl) ?_
        with_reducible refine (wide_Mul.calls (IntKind.u64.wrap (a0)) (IntKind.u64.wrap (a1)) t149 t150 _ A10.out).mono ?_
        rintro e w18 ⟨rfl, hb⟩
        refine ⟨_, rfl, ?_⟩
        replace BK148 := bK_ BK148 hb
        replace BK154 := bK_ BK154 hb
        replace HB := bB_ (by repeat (with_reducible first | exact HB.out | apply bA_ | apply bN_ | apply bD_ | refine bS_ ?_ GE148.out | refine bS_ ?_ GE154.out)) hb
        (try clear hb)
        (try clear hb2)
        (try clear hk)
        (try clear hi)
        refine hK.out _ _ ⟨(blk_cell BK148.out 0).trans rfl, (blk_cell BK148.out 1).trans rfl⟩ (fun hHeld => ?_)
        clear hK K
        refine norm_ (by show Act.put _ (some 28) _ = _; simp only [Act.put, sT_, sZ_, sS_, i64_w, i32_w] <;> rfl) ?_
        refine one_ (i := 8) (N := some 32) (round_Part.ups 15 4607) rfl rfl (one_of HT_.out (by kernel_rfl)) (by decide) (fun K hK => ?_)
        refine goes_ Try.func76 (by kernel_rfl) rfl #[.agg #[.int .u64 t149, .int .u64 t150], .int .u64 (IntKind.u64.wrap (a2_0))] (by rfl) rfl rfl (by (try simp only [mT_, mC_, mN_]); first | done | rfl) ?_
        with_reducible refine (wide_Times.calls t149 t150 (IntKind.u64.wrap (a2_0)) t151 t152 t153 _ A11.out).mono ?_
        rintro e w19 ⟨rfl, hb⟩
        refine ⟨_, rfl, ?_⟩
        replace BK148 := bK_ BK148 hb
        replace BK154 := bK_ BK154 hb
        replace HB := bB_ (by repeat (with_reducible first | exact HB.out | apply bA_ | apply bN_ | apply bD_ | refine bS_ ?_ GE148.out | refine bS_ ?_ GE154.out)) hb
        (try clear hb)
        (try clear hb2)
        (try clear hk)
        (try clear hi)
        refine hK.out _ _ ⟨(blk_cell BK148.out 0).trans rfl, (blk_cell BK148.out 1).trans rfl⟩ (fun hHeld => ?_)
        clear hK K
        refine norm_ (by show Act.put _ (some 32) _ = _; simp only [Act.put, sT_, sZ_, sS_, i64_w, i32_w] <;> rfl) ?_
        refine pure_ (i := 9) (N := some 23) (v := ?_) (a' := ?_) (round_Part.ups 15 5119) rfl rfl (any_of HT_.out (by kernel_rfl)) (fun _ _ _ h => h) (Or.inl ⟨by rfl, ?_⟩) ?_ ?_
        rotate_left
        ·intro w'
         go_simp
         with_reducible rfl
        rotate_left
        ·simp only [Act.put, sT_, sZ_, sS_, i64_w, i32_w]
         rfl
        refine pure_ (i := 10) (N := some 33) (v := ?_) (a' := ?_) (round_Part.ups 15 6143) rfl rfl (any_of HT_.out (by kernel_rfl)) (fun _ _ _ h => h) (Or.inl ⟨by rfl, ?_⟩) ?_ ?_
        rotate_left
        ·intro w'
         go_simp
         with_reducible rfl
        rotate_left
        ·simp only [Act.put, sT_, sZ_, sS_, i64_w, i32_w]
         rfl
        refine pure_ (i := 11) (N := some 34) (v := ?_) (a' := ?_) (round_Part.ups 15 8191) rfl rfl (any_of HT_.out (by kernel_rfl)) (fun _ _ _ h => h) (Or.inl ⟨by rfl, ?_⟩) ?_ ?_
        rotate_left
        ·intro w'
         go_simp
         with_reducible rfl
        rotate_left
        ·simp only [Act.put, sT_, sZ_, sS_, i64_w, i32_w]
         rfl
        exact norm_ (by simp only [putAll, Act.put, sT_, sZ_, sS_]) (hCont (gb154) _ ⟨hHeld, BK148.out, BK154.out, GW154.out, GE154.out, NB148_154.out, NB154_148.out, (by repeat (with_reducible first | exact HB.out | apply bA_ | apply bN_ | apply bD_ | refine bS_ ?_ GE148.out | refine bS_ ?_ GE154.out))⟩)
      rintro gb154 w20 ⟨hS_, h0_, h1_, h2_, h3_, h4_, h5_, h6_⟩
      (try dsimp only at h0_ h1_ h2_ h3_ h4_ h5_ h6_)
      clear BK148 HB
      have BK148 := aA_ h0_
      have BK154 := aA_ h1_
      have GW154 := aA_ h2_
      have GE154 := aA_ h3_
      have NB148_154 := aA_ h4_
      have NB154_148 := aA_ h5_
      have HB := aA_ h6_
      clear h0_ h1_ h2_ h3_ h4_ h5_ h6_
      have hHeld : w20.cell? ⟨gb148, 0, none⟩ = some (.int .i64 a2_0) ∧ w20.cell? ⟨gb148, 1, none⟩ = some (.int .i64 a2_1) := hS_
      refine norm_ (a' := ?_) ?_ ?_
      rotate_left
      ·simp only [putAll, Act.put, sT_, sZ_, sS_]
       rfl
      refine one_ (i := 13) (N := none) (round_Part.ups 15 16383) rfl rfl (one_of HT_.out (by kernel_rfl)) (by decide) (fun K hK => ?_)
      have hs21 : w20.cell? ⟨gb154, 0, none⟩ = some (.int .u64 0) := (blk_cell BK154.out 0).trans rfl
      have hfs21 := blk_frozen BK154.out 0
      have hns21_0 := NB148_154.out
      have hms21_0 := NB154_148.out
      have hs22 : w20.cell? ⟨gb154, 1, none⟩ = some (.int .u64 0) := (blk_cell BK154.out 1).trans rfl
      have hfs22 := blk_frozen BK154.out 1
      have hns22_0 := NB148_154.out
      have hms22_0 := NB154_148.out
      refine skip_ (w1 := ?_) (by rfl) rfl ?_ ?_
      rotate_left
      ·go_simp
       rfl
      refine hK.out _ _ ⟨((cell_far (p := ⟨gb154, _, none⟩) NB148_154.out _).trans (((cell_far (p := ⟨gb154, _, none⟩) NB148_154.out _).trans (hHeld.1)))), ((cell_far (p := ⟨gb154, _, none⟩) NB148_154.out _).trans (((cell_far (p := ⟨gb154, _, none⟩) NB148_154.out _).trans (hHeld.2))))⟩ (fun hHeld => ?_)
      clear hK K
      refine pure_ (i := 14) (N := some 11) (v := ?_) (a' := ?_) (round_Part.ups 15 32767) rfl rfl (any_of HT_.out (by kernel_rfl)) (fun _ _ _ h => h) (Or.inl ⟨by rfl, ?_⟩) ?_ ?_
      rotate_left
      ·intro w'
       go_simp
       with_reducible rfl
      rotate_left
      ·simp only [Act.put, sT_, sZ_, sS_, i64_w, i32_w]
       rfl
      refine done_ (done_of HT_.out (by kernel_rfl)) ?_
      have hnb23 := NB148_154.out
      have hnc23 := NB154_148.out
      have hcz24_0 : w20.cell? ⟨gb148, 0, none⟩ = some (.int .i64 a2_0) := (blk_cell BK148.out 0).trans rfl
      have hcz24_1 : w20.cell? ⟨gb148, 1, none⟩ = some (.int .i64 a2_1) := (blk_cell BK148.out 1).trans rfl
      have hfz24_0 := blk_frozen BK148.out 0
      have hfz24_1 := blk_frozen BK148.out 1
      try go_wp2_with (first | (refine goesL_ (some 40) rfl rfl Try.func77 (by kernel_rfl) rfl #[.int .u64 (IntKind.u64.wrap (a3)), .int .u64 (IntKind.u64.wrap (a2_1))] rfl (by (try simp only [mT_, mC_, mN_]); first | done | rfl) ?_; (with_reducible refine (wide_Mul.calls (IntKind.u64.wrap (a3)) (IntKind.u64.wrap (a2_1)) t155 t156 _ A12.out).mono ?_); rintro e w25 ⟨rfl, hb⟩; refine ⟨_, rfl, ?_⟩; replace BK148 := aA_ (blk_below (g := gb148) (o := .cells #[.int .i64 a2_0, .int .i64 a2_1] 56 (0, 0)) (by refine blk_far ?_ NB148_154.out _; refine blk_far ?_ NB148_154.out _; exact BK148.out) hb); replace BK154 := aA_ (blk_below (g := gb154) (o := .cells #[.int .u64 t151, .int .u64 t152] 128 (0, 0)) (by refine blk_put (cs := #[.int .u64 t151, .int .u64 0]) ?_ 1 _ rfl; refine blk_put (cs := #[.int .u64 0, .int .u64 0]) ?_ 0 _ rfl; exact BK154.out) hb); replace HB := bB_ (by repeat (with_reducible first | exact HB.out | apply bA_ | apply bN_ | apply bD_ | refine bS_ ?_ GE148.out | refine bS_ ?_ GE154.out)) hb; (try clear hb)) | (refine box_event rfl (N := 12) rfl (cs := #[.int .u64 0, .int .u64 0]) (t := 128) ?hr ?_; (case hr => go_simp <;> rfl); intro gb157 hg w26 hbox hb; have BK157 := aA_ (hbox); have GW157 := gW_ hg (by repeat (with_reducible first | exact HB.out | apply bA_ | apply bN_ | apply bD_ | refine bS_ ?_ GE148.out | refine bS_ ?_ GE154.out)); have GE157 := GW157; replace HB := bB_ (by repeat (with_reducible first | exact HB.out | apply bA_ | apply bN_ | apply bD_ | refine bS_ ?_ GE148.out | refine bS_ ?_ GE154.out)) hb; have NB148_157 := nE_ hg BK148; have NB157_148 := aA_ NB148_157.out.symm; replace BK148 := bK_ BK148 hb; have NB154_157 := nE_ hg BK154; have NB157_154 := aA_ NB154_157.out.symm; replace BK154 := bK_ BK154 hb; clear hb hbox hg; have hnb27 := NB157_148.out; have hnc27 := NB148_157.out; have hnb28 := NB157_154.out; have hnc28 := NB154_157.out; have hcz29_0 : w26.cell? ⟨gb157, 0, none⟩ = some (.int .u64 0) := (blk_cell BK157.out 0).trans rfl; have hcz29_1 : w26.cell? ⟨gb157, 1, none⟩ = some (.int .u64 0) := (blk_cell BK157.out 1).trans rfl; have hfz29_0 := blk_frozen BK157.out 0; have hfz29_1 := blk_frozen BK157.out 1; have hcz30_0 : w26.cell? ⟨gb154, 0, none⟩ = some (.int .u64 t151) := (blk_cell BK154.out 0).trans rfl; have hcz30_1 : w26.cell? ⟨gb154, 1, none⟩ = some (.int .u64 t152) := (blk_cell BK154.out 1).trans rfl; have hfz30_0 := blk_frozen BK154.out 0; have hfz30_1 := blk_frozen BK154.out 1) | (refine goesL_ (some 51) rfl rfl Try.func78 (by kernel_rfl) rfl #[.agg #[.int .u64 t151, .int .u64 t152], .int .u64 t156] rfl (by (try simp only [mT_, mC_, mN_]); first | done | rfl) ?_; (with_reducible refine (round_Even.calls kj4 t151 t152 t156 t158 t159 _ A15.out).mono ?_); rintro e w31 ⟨rfl, hb⟩; refine ⟨_, rfl, ?_⟩; replace BK148 := aA_ (blk_below (g := gb148) (o := .cells #[.int .i64 a2_0, .int .i64 a2_1] 56 (0, 0)) (by refine blk_far ?_ NB148_157.out _; refine blk_far ?_ NB148_157.out _; exact BK148.out) hb); replace BK154 := aA_ (blk_below (g := gb154) (o := .cells #[.int .u64 t151, .int .u64 t152] 128 (0, 0)) (by refine blk_far ?_ NB154_157.out _; refine blk_far ?_ NB154_157.out _; exact BK154.out) hb); replace BK157 := aA_ (blk_below (g := gb157) (o := .cells #[.int .u64 t155, .int .u64 t156] 128 (0, 0)) (by refine blk_put (cs := #[.int .u64 t155, .int .u64 0]) ?_ 1 _ rfl; refine blk_put (cs := #[.int .u64 0, .int .u64 0]) ?_ 0 _ rfl; exact BK157.out) hb); replace HB := bB_ (by repeat (with_reducible first | exact HB.out | apply bA_ | apply bN_ | apply bD_ | refine bS_ ?_ GE148.out | refine bS_ ?_ GE154.out | refine bS_ ?_ GE157.out)) hb; (try clear hb)))
      go_ret2
      exact ⟨by rfl, by repeat (with_reducible first | exact HB.out | apply bA_ | apply bN_ | apply bD_ | refine bS_ ?_ GE148.out | refine bS_ ?_ GE154.out | refine bS_ ?_ GE157.out)⟩
     ·rw [if_neg c14] at H
      have c14b0 : (t155 == 0) = false := beq_eq_false_iff_ne.mpr c14
      have c14b1 : (t155 != 0) = true := bne_iff_ne.mpr c14
      simp only [Option.some.injEq, Prod.mk.injEq] at H
      obtain ⟨rfl, rfl⟩ := H
      try go_wp2
      replace BK148 := aA_ (blk_drew BK148.out)
      replace HB := aA_ (below_drew1 HB.out)
      refine start_ (n := 15) (S := fun w' => w'.cell? ⟨gb148, 0, none⟩ = some (.int .i64 a2_0) ∧ w'.cell? ⟨gb148, 1, none⟩ = some (.int .i64 a2_1)) (ds := []) (round_Part.ups 15 0) (by kernel_rfl) rfl rfl ⟨(blk_cell BK148.out 0).trans rfl, (blk_cell BK148.out 1).trans rfl⟩ (fun hHeld => ?_); refine with_tabW round_Part.tab3 round_Part.bits3 (fun HT_ HW_ => ?_)
      generalize wc.drew = w32 at BK148 HB hHeld ⊢
      refine pure_ (i := 0) (N := some 24) (v := ?_) (a' := ?_) (round_Part.ups 15 1) rfl rfl (any_of HT_.out (by kernel_rfl)) (fun _ _ _ h => h) (Or.inl ⟨by rfl, ?_⟩) ?_ ?_
      rotate_left
      ·intro w'
       go_simp
       with_reducible rfl
      rotate_left
      ·simp only [Act.put, sT_, sZ_, sS_, i64_w, i32_w]
       rfl
      refine pure_ (i := 1) (N := some 25) (v := ?_) (a' := ?_) (round_Part.ups 15 3) rfl rfl (any_of HT_.out (by kernel_rfl)) (fun _ _ _ h => h) (Or.inl ⟨by rfl, ?_⟩) ?_ ?_
      rotate_left
      ·intro w'
       go_simp
       with_reducible rfl
      rotate_left
      ·simp only [Act.put, sT_, sZ_, sS_, i64_w, i32_w]
       rfl
      refine pure_ (i := 2) (N := some 26) (v := ?_) (a' := ?_) (round_Part.ups 15 7) rfl rfl (any_of HT_.out (by kernel_rfl)) (fun _ _ _ h => h) (Or.inl ⟨by rfl, ?_⟩) ?_ ?_
      rotate_left
      ·intro w'
       go_simp
       with_reducible rfl
      rotate_left
      ·simp only [Act.put, sT_, sZ_, sS_, i64_w, i32_w]
       rfl
      refine pure_ (i := 3) (N := some 27) (v := ?_) (a' := ?_) (round_Part.ups 15 15) rfl rfl (any_of HT_.out (by kernel_rfl)) (fun _ _ _ h => h) (Or.inl ⟨by rfl, ?_⟩) ?_ ?_
      rotate_left
      ·intro w'
       go_simp
       with_reducible rfl
      rotate_left
      ·simp only [Act.put, sT_, sZ_, sS_, i64_w, i32_w]
       rfl
      refine pure_ (i := 5) (N := some 29) (v := ?_) (a' := ?_) (round_Part.ups 15 47) rfl rfl (any_of HT_.out (by kernel_rfl)) (fun _ _ _ h => h) (Or.inl ⟨by rfl, ?_⟩) ?_ ?_
      rotate_left
      ·intro w'
       go_simp
       with_reducible rfl
      rotate_left
      ·simp only [Act.put, sT_, sZ_, sS_, i64_w, i32_w]
       rfl
      refine take_ (i := 6) (N := some 30) (v := ?_) (a' := ?_) (round_Part.ups 15 111) rfl rfl (take_ofW HT_.out HW_.out (by kernel_rfl)) (fun _ _ _ h => h) (Or.inl ⟨by rfl, ?_⟩) hHeld ?_ ?_
      rotate_left
      ·rintro w' ⟨s0, s1⟩
       go_simp
       with_reducible rfl
      rotate_left
      ·simp only [Act.put, sT_, sZ_, sS_, i64_w, i32_w]
       rfl
      refine pure_ (i := 7) (N := some 31) (v := ?_) (a' := ?_) (round_Part.ups 15 239) rfl rfl (any_of HT_.out (by kernel_rfl)) (fun _ _ _ h => h) (Or.inl ⟨by rfl, ?_⟩) ?_ ?_
      rotate_left
      ·intro w'
       go_simp
       with_reducible rfl
      rotate_left
      ·simp only [Act.put, sT_, sZ_, sS_, i64_w, i32_w]
       rfl
      refine join_ (σ := Nat) 2 (round_Part.ups 15 8191) (fun s_ => [(28, .agg #[.int .u64 t149, .int .u64 t150]), (32, .tuple #[.agg #[.int .u64 t151, .int .u64 t152], .int .i64 t153]), (10, .pointer (some ⟨s_, 0, none⟩)), (23, .tuple #[.agg #[.int .u64 t151, .int .u64 t152], .int .i64 t153]), (33, .agg #[.int .u64 t151, .int .u64 t152]), (34, .int .i64 t153)]) (fun s_ w' => (w'.cell? ⟨gb148, 0, none⟩ = some (.int .i64 a2_0) ∧ w'.cell? ⟨gb148, 1, none⟩ = some (.int .i64 a2_1)) ∧ (w'.heap[gb148]? = some (.cells #[.int .i64 a2_0, .int .i64 a2_1] 56 (0, 0))) ∧ (w'.heap[s_]? = some (.cells #[.int .u64 0, .int .u64 0] 128 (0, 0))) ∧ (w.heap.size ≤ s_) ∧ (w.heap.size ≤ s_) ∧ (gb148 ≠ s_) ∧ (s_ ≠ gb148) ∧ (Below w.heap.size w w')) ?_ ?_
      rotate_left
      ·intro hCont
       refine two_ (i := 4) (j := 12) (Ni := some 28) (Nj := some 10) (round_Part.ups 15 255) (round_Part.ups 15 4335) rfl rfl rfl rfl (two_of HT_.out (by kernel_rfl)) (by decide) (by decide) (fun K hK => ?_) (fun K hK => ?_)
       ·skip
        refine goes_ Try.func77 (by kernel_rfl) rfl #[.int .u64 (IntKind.u64.wrap (a0)), .int .u64 (IntKind.u64.wrap (a1))] (by rfl) rfl rfl (by (try simp only [mT_, mC_, mN_]); first | done | rfl) ?_
        with_reducible refine (wide_Mul.calls (IntKind.u64.wrap (a0)) (IntKind.u64.wrap (a1)) t149 t150 _ A10.out).mono ?_
        rintro e w33 ⟨rfl, hb⟩
        refine ⟨_, rfl, ?_⟩
        replace BK148 := bK_ BK148 hb
        replace HB := bB_ (by repeat (with_reducible first | exact HB.out | apply bA_ | apply bN_ | apply bD_ | refine bS_ ?_ GE148.out)) hb
        (try clear hb)
        (try clear hb2)
        (try clear hk)
        (try clear hi)
        refine hK.out _ _ ⟨(blk_cell BK148.out 0).trans rfl, (blk_cell BK148.out 1).trans rfl⟩ (fun hHeld => ?_)
        clear hK K
        refine norm_ (by show Act.put _ (some 28) _ = _; simp only [Act.put, sT_, sZ_, sS_, i64_w, i32_w] <;> rfl) ?_
        refine two_ (i := 8) (j := 12) (Ni := some 32) (Nj := some 10) (round_Part.ups 15 511) (round_Part.ups 15 4351) rfl rfl rfl rfl (two_of HT_.out (by kernel_rfl)) (by decide) (by decide) (fun K hK => ?_) (fun K hK => ?_)
        ·skip
         refine goes_ Try.func76 (by kernel_rfl) rfl #[.agg #[.int .u64 t149, .int .u64 t150], .int .u64 (IntKind.u64.wrap (a2_0))] (by rfl) rfl rfl (by (try simp only [mT_, mC_, mN_]); first | done | rfl) ?_
         with_reducible refine (wide_Times.calls t149 t150 (IntKind.u64.wrap (a2_0)) t151 t152 t153 _ A11.out).mono ?_
         rintro e w34 ⟨rfl, hb⟩
         refine ⟨_, rfl, ?_⟩
         replace BK148 := bK_ BK148 hb
         replace HB := bB_ (by repeat (with_reducible first | exact HB.out | apply bA_ | apply bN_ | apply bD_ | refine bS_ ?_ GE148.out)) hb
         (try clear hb)
         (try clear hb2)
         (try clear hk)
         (try clear hi)
         refine hK.out _ _ ⟨(blk_cell BK148.out 0).trans rfl, (blk_cell BK148.out 1).trans rfl⟩ (fun hHeld => ?_)
         clear hK K
         refine norm_ (by show Act.put _ (some 32) _ = _; simp only [Act.put, sT_, sZ_, sS_, i64_w, i32_w] <;> rfl) ?_
         refine pure_ (i := 9) (N := some 23) (v := ?_) (a' := ?_) (round_Part.ups 15 1023) rfl rfl (any_of HT_.out (by kernel_rfl)) (fun _ _ _ h => h) (Or.inl ⟨by rfl, ?_⟩) ?_ ?_
         rotate_left
         ·intro w'
          go_simp
          with_reducible rfl
         rotate_left
         ·simp only [Act.put, sT_, sZ_, sS_, i64_w, i32_w]
          rfl
         refine pure_ (i := 10) (N := some 33) (v := ?_) (a' := ?_) (round_Part.ups 15 2047) rfl rfl (any_of HT_.out (by kernel_rfl)) (fun _ _ _ h => h) (Or.inl ⟨by rfl, ?_⟩) ?_ ?_
         rotate_left
         ·intro w'
          go_simp
          with_reducible rfl
         rotate_left
         ·simp only [Act.put, sT_, sZ_, sS_, i64_w, i32_w]
          rfl
         refine pure_ (i := 11) (N := some 34) (v := ?_) (a' := ?_) (round_Part.ups 15 4095) rfl rfl (any_of HT_.out (by kernel_rfl)) (fun _ _ _ h => h) (Or.inl ⟨by rfl, ?_⟩) ?_ ?_
         rotate_left
         ·intro w'
          go_simp
          with_reducible rfl
         rotate_left
         ·simp only [Act.put, sT_, sZ_, sS_, i64_w, i32_w]
          rfl
         refine one_ (i := 12) (N := some 10) (round_Part.ups 15 8191) rfl rfl (one_of HT_.out (by kernel_rfl)) (by decide) (fun K hK => ?_)
         refine box_step rfl (N := 10) rfl (cs := #[.int .u64 0, .int .u64 0]) (t := 128) ?hr ?_; (case hr => go_simp <;> rfl)
         intro gb154 hg w35 hbox hb
         have BK154 := aA_ (hbox)
         have GW154 := gW_ hg (by repeat (with_reducible first | exact HB.out | apply bA_ | apply bN_ | apply bD_ | refine bS_ ?_ GE148.out))
         have GE154 := GW154
         replace HB := bB_ (by repeat (with_reducible first | exact HB.out | apply bA_ | apply bN_ | apply bD_ | refine bS_ ?_ GE148.out)) hb
         have NB148_154 := nE_ hg BK148
         have NB154_148 := aA_ NB148_154.out.symm
         replace BK148 := bK_ BK148 hb
         clear hb hbox hg
         refine hK.out _ _ ⟨(blk_cell BK148.out 0).trans rfl, (blk_cell BK148.out 1).trans rfl⟩ (fun hHeld => ?_)
         clear hK K
         refine norm_ (by show Act.put _ (some 10) _ = _; simp only [Act.put, sT_, sZ_, sS_, i64_w, i32_w] <;> rfl) ?_
         exact norm_ (by simp only [putAll, Act.put, sT_, sZ_, sS_]) (hCont (gb154) _ ⟨hHeld, BK148.out, BK154.out, GW154.out, GE154.out, NB148_154.out, NB154_148.out, (by repeat (with_reducible first | exact HB.out | apply bA_ | apply bN_ | apply bD_ | refine bS_ ?_ GE148.out | refine bS_ ?_ GE154.out))⟩)
        ·skip
         refine box_step rfl (N := 10) rfl (cs := #[.int .u64 0, .int .u64 0]) (t := 128) ?hr ?_; (case hr => go_simp <;> rfl)
         intro gb154 hg w34 hbox hb
         have BK154 := aA_ (hbox)
         have GW154 := gW_ hg (by repeat (with_reducible first | exact HB.out | apply bA_ | apply bN_ | apply bD_ | refine bS_ ?_ GE148.out))
         have GE154 := GW154
         replace HB := bB_ (by repeat (with_reducible first | exact HB.out | apply bA_ | apply bN_ | apply bD_ | refine bS_ ?_ GE148.out)) hb
         have NB148_154 := nE_ hg BK148
         have NB154_148 := aA_ NB148_154.out.symm
         replace BK148 := bK_ BK148 hb
         clear hb hbox hg
         refine hK.out _ _ ⟨(blk_cell BK148.out 0).trans rfl, (blk_cell BK148.out 1).trans rfl⟩ (fun hHeld => ?_)
         clear hK K
         refine norm_ (by show Act.put _ (some 10) _ = _; simp only [Act.put, sT_, sZ_, sS_, i64_w, i32_w] <;> rfl) ?_
         refine one_ (i := 8) (N := some 32) (round_Part.ups 15 4607) rfl rfl (one_of HT_.out (by kernel_rfl)) (by decide) (fun K hK => ?_)
         refine goes_ Try.func76 (by kernel_rfl) rfl #[.agg #[.int .u64 t149, .int .u64 t150], .int .u64 (IntKind.u64.wrap (a2_0))] (by rfl) rfl rfl (by (try simp only [mT_, mC_, mN_]); first | done | rfl) ?_
         with_reducible refine (wide_Times.calls t149 t150 (IntKind.u64.wrap (a2_0)) t151 t152 t153 _ A11.out).mono ?_
         rintro e w35 ⟨rfl, hb⟩
         refine ⟨_, rfl, ?_⟩
         replace BK148 := bK_ BK148 hb
         replace BK154 := bK_ BK154 hb
         replace HB := bB_ (by repeat (with_reducible first | exact HB.out | apply bA_ | apply bN_ | apply bD_ | refine bS_ ?_ GE148.out | refine bS_ ?_ GE154.out)) hb
         (try clear hb)
         (try clear hb2)
         (try clear hk)
         (try clear hi)
         refine hK.out _ _ ⟨(blk_cell BK148.out 0).trans rfl, (blk_cell BK148.out 1).trans rfl⟩ (fun hHeld => ?_)
         clear hK K
         refine norm_ (by show Act.put _ (some 32) _ = _; simp only [Act.put, sT_, sZ_, sS_, i64_w, i32_w] <;> rfl) ?_
         refine pure_ (i := 9) (N := some 23) (v := ?_) (a' := ?_) (round_Part.ups 15 5119) rfl rfl (any_of HT_.out (by kernel_rfl)) (fun _ _ _ h => h) (Or.inl ⟨by rfl, ?_⟩) ?_ ?_
         rotate_left
         ·intro w'
          go_simp
          with_reducible rfl
         rotate_left
         ·simp only [Act.put, sT_, sZ_, sS_, i64_w, i32_w]
          rfl
         refine pure_ (i := 10) (N := some 33) (v := ?_) (a' := ?_) (round_Part.ups 15 6143) rfl rfl (any_of HT_.out (by kernel_rfl)) (fun _ _ _ h => h) (Or.inl ⟨by rfl, ?_⟩) ?_ ?_
         rotate_left
         ·intro w'
          go_simp
          with_reducible rfl
         rotate_left
         ·simp only [Act.put, sT_, sZ_, sS_, i64_w, i32_w]
          rfl
         refine pure_ (i := 11) (N := some 34) (v := ?_) (a' := ?_) (round_Part.ups 15 8191) rfl rfl (any_of HT_.out (by kernel_rfl)) (fun _ _ _ h => h) (Or.inl ⟨by rfl, ?_⟩) ?_ ?_
         rotate_left
         ·intro w'
          go_simp
          with_reducible rfl
         rotate_left
         ·simp only [Act.put, sT_, sZ_, sS_, i64_w, i32_w]
          rfl
         exact norm_ (by simp only [putAll, Act.put, sT_, sZ_, sS_]) (hCont (gb154) _ ⟨hHeld, BK148.out, BK154.out, GW154.out, GE154.out, NB148_154.out, NB154_148.out, (by repeat (with_reducible first | exact HB.out | apply bA_ | apply bN_ | apply bD_ | refine bS_ ?_ GE148.out | refine bS_ ?_ GE154.out))⟩)
       ·skip
        refine box_step rfl (N := 10) rfl (cs := #[.int .u64 0, .int .u64 0]) (t := 128) ?hr ?_; (case hr => go_simp <;> rfl)
        intro gb154 hg w33 hbox hb
        have BK154 := aA_ (hbox)
        have GW154 := gW_ hg (by repeat (with_reducible first | exact HB.out | apply bA_ | apply bN_ | apply bD_ | refine bS_ ?_ GE148.out))
        have GE154 := GW154
        replace HB := bB_ (by repeat (with_reducible first | exact HB.out | apply bA_ | apply bN_ | apply bD_ | refine bS_ ?_ GE148.out)) hb
        have NB148_154 := nE_ hg BK148
        have NB154_148 := aA_ NB148_154.out.symm
        replace BK148 := bK_ BK148 hb
        clear hb hbox hg
        refine hK.out _ _ ⟨(blk_cell BK148.out 0).trans rfl, (blk_cell BK148.out 1).trans rfl⟩ (fun hHeld => ?_)
        clear hK K
        refine norm_ (by show Act.put _ (some 10) _ = _; simp only [Act.put, sT_, sZ_, sS_, i64_w, i32_w] <;> rfl) ?_
        refine one_ (i := 4) (N := some 28) (round_Part.ups 15 4351) rfl rfl (one_of HT_.out (by kernel_rfl)) (by decide) (fun K hK => ?_)
        refine goes_ Try.func77 (by kernel_rfl) rfl #[.int .u64 (IntKind.u64.wrap (a0)), .int .u64 (IntKind.u64.wrap (a1))] (by rfl) rfl rfl (by (try simp only [mT_, mC_, mN_]); first | done | rfl) ?_
        with_reducible refine (wide_Mul.calls (IntKind.u64.wrap (a0)) (IntKind.u64.wrap (a1)) t149 t150 _ A10.out).mono ?_
        rintro e w34 ⟨rfl, hb⟩
        refine ⟨_, rfl, ?_⟩
        replace BK148 := bK_ BK148 hb
        replace BK154 := bK_ BK154 hb
        replace HB := bB_ (by repeat (with_reducible first | exact HB.out | apply bA_ | apply bN_ | apply bD_ | refine bS_ ?_ GE148.out | refine bS_ ?_ GE154.out)) hb
        (try clear hb)
        (try clear hb2)
        (try clear hk)
        (try clear hi)
        refine hK.out _ _ ⟨(blk_cell BK148.out 0).trans rfl, (blk_cell BK148.out 1).trans rfl⟩ (fun hHeld => ?_)
        clear hK K
        refine norm_ (by show Act.put _ (some 28) _ = _; simp only [Act.put, sT_, sZ_, sS_, i64_w, i32_w] <;> rfl) ?_
        refine one_ (i := 8) (N := some 32) (round_Part.ups 15 4607) rfl rfl (one_of HT_.out (by kernel_rfl)) (by decide) (fun K hK => ?_)
        refine goes_ Try.func76 (by kernel_rfl) rfl #[.agg #[.int .u64 t149, .int .u64 t150], .int .u64 (IntKind.u64.wrap (a2_0))] (by rfl) rfl rfl (by (try simp only [mT_, mC_, mN_]); first | done | rfl) ?_
        with_reducible refine (wide_Times.calls t149 t150 (IntKind.u64.wrap (a2_0)) t151 t152 t153 _ A11.out).mono ?_
        rintro e w35 ⟨rfl, hb⟩
        refine ⟨_, rfl, ?_⟩
        replace BK148 := bK_ BK148 hb
        replace BK154 := bK_ BK154 hb
        replace HB := bB_ (by repeat (with_reducible first | exact HB.out | apply bA_ | apply bN_ | apply bD_ | refine bS_ ?_ GE148.out | refine bS_ ?_ GE154.out)) hb
        (try clear hb)
        (try clear hb2)
        (try clear hk)
        (try clear hi)
        refine hK.out _ _ ⟨(blk_cell BK148.out 0).trans rfl, (blk_cell BK148.out 1).trans rfl⟩ (fun hHeld => ?_)
        clear hK K
        refine norm_ (by show Act.put _ (some 32) _ = _; simp only [Act.put, sT_, sZ_, sS_, i64_w, i32_w] <;> rfl) ?_
        refine pure_ (i := 9) (N := some 23) (v := ?_) (a' := ?_) (round_Part.ups 15 5119) rfl rfl (any_of HT_.out (by kernel_rfl)) (fun _ _ _ h => h) (Or.inl ⟨by rfl, ?_⟩) ?_ ?_
        rotate_left
        ·intro w'
         go_simp
         with_reducible rfl
        rotate_left
        ·simp only [Act.put, sT_, sZ_, sS_, i64_w, i32_w]
         rfl
        refine pure_ (i := 10) (N := some 33) (v := ?_) (a' := ?_) (round_Part.ups 15 6143) rfl rfl (any_of HT_.out (by kernel_rfl)) (fun _ _ _ h => h) (Or.inl ⟨by rfl, ?_⟩) ?_ ?_
        rotate_left
        ·intro w'
         go_simp
         with_reducible rfl
        rotate_left
        ·simp only [Act.put, sT_, sZ_, sS_, i64_w, i32_w]
         rfl
        refine pure_ (i := 11) (N := some 34) (v := ?_) (a' := ?_) (round_Part.ups 15 8191) rfl rfl (any_of HT_.out (by kernel_rfl)) (fun _ _ _ h => h) (Or.inl ⟨by rfl, ?_⟩) ?_ ?_
        rotate_left
        ·intro w'
         go_simp
         with_reducible rfl
        rotate_left
        ·simp only [Act.put, sT_, sZ_, sS_, i64_w, i32_w]
         rfl
        exact norm_ (by simp only [putAll, Act.put, sT_, sZ_, sS_]) (hCont (gb154) _ ⟨hHeld, BK148.out, BK154.out, GW154.out, GE154.out, NB148_154.out, NB154_148.out, (by repeat (with_reducible first | exact HB.out | apply bA_ | apply bN_ | apply bD_ | refine bS_ ?_ GE148.out | refine bS_ ?_ GE154.out))⟩)
      rintro gb154 w36 ⟨hS_, h0_, h1_, h2_, h3_, h4_, h5_, h6_⟩
      (try dsimp only at h0_ h1_ h2_ h3_ h4_ h5_ h6_)
      clear BK148 HB
      have BK148 := aA_ h0_
      have BK154 := aA_ h1_
      have GW154 := aA_ h2_
      have GE154 := aA_ h3_
      have NB148_154 := aA_ h4_
      have NB154_148 := aA_ h5_
      have HB := aA_ h6_
      clear h0_ h1_ h2_ h3_ h4_ h5_ h6_
      have hHeld : w36.cell? ⟨gb148, 0, none⟩ = some (.int .i64 a2_0) ∧ w36.cell? ⟨gb148, 1, none⟩ = some (.int .i64 a2_1) := hS_
      refine norm_ (a' := ?_) ?_ ?_
      rotate_left
      ·simp only [putAll, Act.put, sT_, sZ_, sS_]
       rfl
      refine one_ (i := 13) (N := none) (round_Part.ups 15 16383) rfl rfl (one_of HT_.out (by kernel_rfl)) (by decide) (fun K hK => ?_)
      have hs37 : w36.cell? ⟨gb154, 0, none⟩ = some (.int .u64 0) := (blk_cell BK154.out 0).trans rfl
      have hfs37 := blk_frozen BK154.out 0
      have hns37_0 := NB148_154.out
      have hms37_0 := NB154_148.out
      have hs38 : w36.cell? ⟨gb154, 1, none⟩ = some (.int .u64 0) := (blk_cell BK154.out 1).trans rfl
      have hfs38 := blk_frozen BK154.out 1
      have hns38_0 := NB148_154.out
      have hms38_0 := NB154_148.out
      refine skip_ (w1 := ?_) (by rfl) rfl ?_ ?_
      rotate_left
      ·go_simp
       rfl
      refine hK.out _ _ ⟨((cell_far (p := ⟨gb154, _, none⟩) NB148_154.out _).trans (((cell_far (p := ⟨gb154, _, none⟩) NB148_154.out _).trans (hHeld.1)))), ((cell_far (p := ⟨gb154, _, none⟩) NB148_154.out _).trans (((cell_far (p := ⟨gb154, _, none⟩) NB148_154.out _).trans (hHeld.2))))⟩ (fun hHeld => ?_)
      clear hK K
      refine pure_ (i := 14) (N := some 11) (v := ?_) (a' := ?_) (round_Part.ups 15 32767) rfl rfl (any_of HT_.out (by kernel_rfl)) (fun _ _ _ h => h) (Or.inl ⟨by rfl, ?_⟩) ?_ ?_
      rotate_left
      ·intro w'
       go_simp
       with_reducible rfl
      rotate_left
      ·simp only [Act.put, sT_, sZ_, sS_, i64_w, i32_w]
       rfl
      refine done_ (done_of HT_.out (by kernel_rfl)) ?_
      have hnb39 := NB148_154.out
      have hnc39 := NB154_148.out
      have hcz40_0 : w36.cell? ⟨gb148, 0, none⟩ = some (.int .i64 a2_0) := (blk_cell BK148.out 0).trans rfl
      have hcz40_1 : w36.cell? ⟨gb148, 1, none⟩ = some (.int .i64 a2_1) := (blk_cell BK148.out 1).trans rfl
      have hfz40_0 := blk_frozen BK148.out 0
      have hfz40_1 := blk_frozen BK148.out 1
      try go_wp2_with (first | (refine goesL_ (some 40) rfl rfl Try.func77 (by kernel_rfl) rfl #[.int .u64 (IntKind.u64.wrap (a3)), .int .u64 (IntKind.u64.wrap (a2_1))] rfl (by (try simp only [mT_, mC_, mN_]); first | done | rfl) ?_; (with_reducible refine (wide_Mul.calls (IntKind.u64.wrap (a3)) (IntKind.u64.wrap (a2_1)) t155 t156 _ A12.out).mono ?_); rintro e w41 ⟨rfl, hb⟩; refine ⟨_, rfl, ?_⟩; replace BK148 := aA_ (blk_below (g := gb148) (o := .cells #[.int .i64 a2_0, .int .i64 a2_1] 56 (0, 0)) (by refine blk_far ?_ NB148_154.out _; refine blk_far ?_ NB148_154.out _; exact BK148.out) hb); replace BK154 := aA_ (blk_below (g := gb154) (o := .cells #[.int .u64 t151, .int .u64 t152] 128 (0, 0)) (by refine blk_put (cs := #[.int .u64 t151, .int .u64 0]) ?_ 1 _ rfl; refine blk_put (cs := #[.int .u64 0, .int .u64 0]) ?_ 0 _ rfl; exact BK154.out) hb); replace HB := bB_ (by repeat (with_reducible first | exact HB.out | apply bA_ | apply bN_ | apply bD_ | refine bS_ ?_ GE148.out | refine bS_ ?_ GE154.out)) hb; (try clear hb)) | (refine box_event rfl (N := 12) rfl (cs := #[.int .u64 0, .int .u64 0]) (t := 128) ?hr ?_; (case hr => go_simp <;> rfl); intro gb157 hg w42 hbox hb; have BK157 := aA_ (hbox); have GW157 := gW_ hg (by repeat (with_reducible first | exact HB.out | apply bA_ | apply bN_ | apply bD_ | refine bS_ ?_ GE148.out | refine bS_ ?_ GE154.out)); have GE157 := GW157; replace HB := bB_ (by repeat (with_reducible first | exact HB.out | apply bA_ | apply bN_ | apply bD_ | refine bS_ ?_ GE148.out | refine bS_ ?_ GE154.out)) hb; have NB148_157 := nE_ hg BK148; have NB157_148 := aA_ NB148_157.out.symm; replace BK148 := bK_ BK148 hb; have NB154_157 := nE_ hg BK154; have NB157_154 := aA_ NB154_157.out.symm; replace BK154 := bK_ BK154 hb; clear hb hbox hg; have hnb43 := NB157_148.out; have hnc43 := NB148_157.out; have hnb44 := NB157_154.out; have hnc44 := NB154_157.out; have hcz45_0 : w42.cell? ⟨gb157, 0, none⟩ = some (.int .u64 0) := (blk_cell BK157.out 0).trans rfl; have hcz45_1 : w42.cell? ⟨gb157, 1, none⟩ = some (.int .u64 0) := (blk_cell BK157.out 1).trans rfl; have hfz45_0 := blk_frozen BK157.out 0; have hfz45_1 := blk_frozen BK157.out 1))
      go_ret2
      exact ⟨by rfl, by repeat (with_reducible first | exact HB.out | apply bA_ | apply bN_ | apply bD_ | refine bS_ ?_ GE148.out | refine bS_ ?_ GE154.out | refine bS_ ?_ GE157.out)⟩
    ·rw [if_neg c13] at H
     have c13b0 : (t153 == 0) = false := beq_eq_false_iff_ne.mpr c13
     have c13b1 : (t153 != 0) = true := bne_iff_ne.mpr c13
     simp only [Option.some.injEq, Prod.mk.injEq] at H
     obtain ⟨rfl, rfl⟩ := H
     try go_wp2
     replace BK148 := aA_ (blk_drew BK148.out)
     replace HB := aA_ (below_drew1 HB.out)
     refine start_ (n := 15) (S := fun w' => w'.cell? ⟨gb148, 0, none⟩ = some (.int .i64 a2_0) ∧ w'.cell? ⟨gb148, 1, none⟩ = some (.int .i64 a2_1)) (ds := []) (round_Part.ups 15 0) (by kernel_rfl) rfl rfl ⟨(blk_cell BK148.out 0).trans rfl, (blk_cell BK148.out 1).trans rfl⟩ (fun hHeld => ?_); refine with_tabW round_Part.tab3 round_Part.bits3 (fun HT_ HW_ => ?_)
     generalize wc.drew = w46 at BK148 HB hHeld ⊢
     refine pure_ (i := 0) (N := some 24) (v := ?_) (a' := ?_) (round_Part.ups 15 1) rfl rfl (any_of HT_.out (by kernel_rfl)) (fun _ _ _ h => h) (Or.inl ⟨by rfl, ?_⟩) ?_ ?_
     rotate_left
     ·intro w'
      go_simp
      with_reducible rfl
     rotate_left
     ·simp only [Act.put, sT_, sZ_, sS_, i64_w, i32_w]
      rfl
     refine pure_ (i := 1) (N := some 25) (v := ?_) (a' := ?_) (round_Part.ups 15 3) rfl rfl (any_of HT_.out (by kernel_rfl)) (fun _ _ _ h => h) (Or.inl ⟨by rfl, ?_⟩) ?_ ?_
     rotate_left
     ·intro w'
      go_simp
      with_reducible rfl
     rotate_left
     ·simp only [Act.put, sT_, sZ_, sS_, i64_w, i32_w]
      rfl
     refine pure_ (i := 2) (N := some 26) (v := ?_) (a' := ?_) (round_Part.ups 15 7) rfl rfl (any_of HT_.out (by kernel_rfl)) (fun _ _ _ h => h) (Or.inl ⟨by rfl, ?_⟩) ?_ ?_
     rotate_left
     ·intro w'
      go_simp
      with_reducible rfl
     rotate_left
     ·simp only [Act.put, sT_, sZ_, sS_, i64_w, i32_w]
      rfl
     refine pure_ (i := 3) (N := some 27) (v := ?_) (a' := ?_) (round_Part.ups 15 15) rfl rfl (any_of HT_.out (by kernel_rfl)) (fun _ _ _ h => h) (Or.inl ⟨by rfl, ?_⟩) ?_ ?_
     rotate_left
     ·intro w'
      go_simp
      with_reducible rfl
     rotate_left
     ·simp only [Act.put, sT_, sZ_, sS_, i64_w, i32_w]
      rfl
     refine pure_ (i := 5) (N := some 29) (v := ?_) (a' := ?_) (round_Part.ups 15 47) rfl rfl (any_of HT_.out (by kernel_rfl)) (fun _ _ _ h => h) (Or.inl ⟨by rfl, ?_⟩) ?_ ?_
     rotate_left
     ·intro w'
      go_simp
      with_reducible rfl
     rotate_left
     ·simp only [Act.put, sT_, sZ_, sS_, i64_w, i32_w]
      rfl
     refine take_ (i := 6) (N := some 30) (v := ?_) (a' := ?_) (round_Part.ups 15 111) rfl rfl (take_ofW HT_.out HW_.out (by kernel_rfl)) (fun _ _ _ h => h) (Or.inl ⟨by rfl, ?_⟩) hHeld ?_ ?_
     rotate_left
     ·rintro w' ⟨s0, s1⟩
      go_simp
      with_reducible rfl
     rotate_left
     ·simp only [Act.put, sT_, sZ_, sS_, i64_w, i32_w]
      rfl
     refine pure_ (i := 7) (N := some 31) (v := ?_) (a' := ?_) (round_Part.ups 15 239) rfl rfl (any_of HT_.out (by kernel_rfl)) (fun _ _ _ h => h) (Or.inl ⟨by rfl, ?_⟩) ?_ ?_
     rotate_left
     ·intro w'
      go_simp
      with_reducible rfl
     rotate_left
     ·simp only [Act.put, sT_, sZ_, sS_, i64_w, i32_w]
      rfl
     refine join_ (σ := Nat) 2 (round_Part.ups 15 8191) (fun s_ => [(28, .agg #[.int .u64 t149, .int .u64 t150]), (32, .tuple #[.agg #[.int .u64 t151, .int .u64 t152], .int .i64 t153]), (10, .pointer (some ⟨s_, 0, none⟩)), (23, .tuple #[.agg #[.int .u64 t151, .int .u64 t152], .int .i64 t153]), (33, .agg #[.int .u64 t151, .int .u64 t152]), (34, .int .i64 t153)]) (fun s_ w' => (w'.cell? ⟨gb148, 0, none⟩ = some (.int .i64 a2_0) ∧ w'.cell? ⟨gb148, 1, none⟩ = some (.int .i64 a2_1)) ∧ (w'.heap[gb148]? = some (.cells #[.int .i64 a2_0, .int .i64 a2_1] 56 (0, 0))) ∧ (w'.heap[s_]? = some (.cells #[.int .u64 0, .int .u64 0] 128 (0, 0))) ∧ (w.heap.size ≤ s_) ∧ (w.heap.size ≤ s_) ∧ (gb148 ≠ s_) ∧ (s_ ≠ gb148) ∧ (Below w.heap.size w w')) ?_ ?_
     rotate_left
     ·intro hCont
      refine two_ (i := 4) (j := 12) (Ni := some 28) (Nj := some 10) (round_Part.ups 15 255) (round_Part.ups 15 4335) rfl rfl rfl rfl (two_of HT_.out (by kernel_rfl)) (by decide) (by decide) (fun K hK => ?_) (fun K hK => ?_)
      ·skip
       refine goes_ Try.func77 (by kernel_rfl) rfl #[.int .u64 (IntKind.u64.wrap (a0)), .int .u64 (IntKind.u64.wrap (a1))] (by rfl) rfl rfl (by (try simp only [mT_, mC_, mN_]); first | done | rfl) ?_
       with_reducible refine (wide_Mul.calls (IntKind.u64.wrap (a0)) (IntKind.u64.wrap (a1)) t149 t150 _ A10.out).mono ?_
       rintro e w47 ⟨rfl, hb⟩
       refine ⟨_, rfl, ?_⟩
       replace BK148 := bK_ BK148 hb
       replace HB := bB_ (by repeat (with_reducible first | exact HB.out | apply bA_ | apply bN_ | apply bD_ | refine bS_ ?_ GE148.out)) hb
       (try clear hb)
       (try clear hb2)
       (try clear hk)
       (try clear hi)
       refine hK.out _ _ ⟨(blk_cell BK148.out 0).trans rfl, (blk_cell BK148.out 1).trans rfl⟩ (fun hHeld => ?_)
       clear hK K
       refine norm_ (by show Act.put _ (some 28) _ = _; simp only [Act.put, sT_, sZ_, sS_, i64_w, i32_w] <;> rfl) ?_
       refine two_ (i := 8) (j := 12) (Ni := some 32) (Nj := some 10) (round_Part.ups 15 511) (round_Part.ups 15 4351) rfl rfl rfl rfl (two_of HT_.out (by kernel_rfl)) (by decide) (by decide) (fun K hK => ?_) (fun K hK => ?_)
       ·skip
        refine goes_ Try.func76 (by kernel_rfl) rfl #[.agg #[.int .u64 t149, .int .u64 t150], .int .u64 (IntKind.u64.wrap (a2_0))] (by rfl) rfl rfl (by (try simp only [mT_, mC_, mN_]); first | done | rfl) ?_
        with_reducible refine (wide_Times.calls t149 t150 (IntKind.u64.wrap (a2_0)) t151 t152 t153 _ A11.out).mono ?_
        rintro e w48 ⟨rfl, hb⟩
        refine ⟨_, rfl, ?_⟩
        replace BK148 := bK_ BK148 hb
        replace HB := bB_ (by repeat (with_reducible first | exact HB.out | apply bA_ | apply bN_ | apply bD_ | refine bS_ ?_ GE148.out)) hb
        (try clear hb)
        (try clear hb2)
        (try clear hk)
        (try clear hi)
        refine hK.out _ _ ⟨(blk_cell BK148.out 0).trans rfl, (blk_cell BK148.out 1).trans rfl⟩ (fun hHeld => ?_)
        clear hK K
        refine norm_ (by show Act.put _ (some 32) _ = _; simp only [Act.put, sT_, sZ_, sS_, i64_w, i32_w] <;> rfl) ?_
        refine pure_ (i := 9) (N := some 23) (v := ?_) (a' := ?_) (round_Part.ups 15 1023) rfl rfl (any_of HT_.out (by kernel_rfl)) (fun _ _ _ h => h) (Or.inl ⟨by rfl, ?_⟩) ?_ ?_
        rotate_left
        ·intro w'
         go_simp
         with_reducible rfl
        rotate_left
        ·simp only [Act.put, sT_, sZ_, sS_, i64_w, i32_w]
         rfl
        refine pure_ (i := 10) (N := some 33) (v := ?_) (a' := ?_) (round_Part.ups 15 2047) rfl rfl (any_of HT_.out (by kernel_rfl)) (fun _ _ _ h => h) (Or.inl ⟨by rfl, ?_⟩) ?_ ?_
        rotate_left
        ·intro w'
         go_simp
         with_reducible rfl
        rotate_left
        ·simp only [Act.put, sT_, sZ_, sS_, i64_w, i32_w]
         rfl
        refine pure_ (i := 11) (N := some 34) (v := ?_) (a' := ?_) (round_Part.ups 15 4095) rfl rfl (any_of HT_.out (by kernel_rfl)) (fun _ _ _ h => h) (Or.inl ⟨by rfl, ?_⟩) ?_ ?_
        rotate_left
        ·intro w'
         go_simp
         with_reducible rfl
        rotate_left
        ·simp only [Act.put, sT_, sZ_, sS_, i64_w, i32_w]
         rfl
        refine one_ (i := 12) (N := some 10) (round_Part.ups 15 8191) rfl rfl (one_of HT_.out (by kernel_rfl)) (by decide) (fun K hK => ?_)
        refine box_step rfl (N := 10) rfl (cs := #[.int .u64 0, .int .u64 0]) (t := 128) ?hr ?_; (case hr => go_simp <;> rfl)
        intro gb154 hg w49 hbox hb
        have BK154 := aA_ (hbox)
        have GW154 := gW_ hg (by repeat (with_reducible first | exact HB.out | apply bA_ | apply bN_ | apply bD_ | refine bS_ ?_ GE148.out))
        have GE154 := GW154
        replace HB := bB_ (by repeat (with_reducible first | exact HB.out | apply bA_ | apply bN_ | apply bD_ | refine bS_ ?_ GE148.out)) hb
        have NB148_154 := nE_ hg BK148
        have NB154_148 := aA_ NB148_154.out.symm
        replace BK148 := bK_ BK148 hb
        clear hb hbox hg
        refine hK.out _ _ ⟨(blk_cell BK148.out 0).trans rfl, (blk_cell BK148.out 1).trans rfl⟩ (fun hHeld => ?_)
        clear hK K
        refine norm_ (by show Act.put _ (some 10) _ = _; simp only [Act.put, sT_, sZ_, sS_, i64_w, i32_w] <;> rfl) ?_
        exact norm_ (by simp only [putAll, Act.put, sT_, sZ_, sS_]) (hCont (gb154) _ ⟨hHeld, BK148.out, BK154.out, GW154.out, GE154.out, NB148_154.out, NB154_148.out, (by repeat (with_reducible first | exact HB.out | apply bA_ | apply bN_ | apply bD_ | refine bS_ ?_ GE148.out | refine bS_ ?_ GE154.out))⟩)
       ·skip
        refine box_step rfl (N := 10) rfl (cs := #[.int .u64 0, .int .u64 0]) (t := 128) ?hr ?_; (case hr => go_simp <;> rfl)
        intro gb154 hg w48 hbox hb
        have BK154 := aA_ (hbox)
        have GW154 := gW_ hg (by repeat (with_reducible first | exact HB.out | apply bA_ | apply bN_ | apply bD_ | refine bS_ ?_ GE148.out))
        have GE154 := GW154
        replace HB := bB_ (by repeat (with_reducible first | exact HB.out | apply bA_ | apply bN_ | apply bD_ | refine bS_ ?_ GE148.out)) hb
        have NB148_154 := nE_ hg BK148
        have NB154_148 := aA_ NB148_154.out.symm
        replace BK148 := bK_ BK148 hb
        clear hb hbox hg
        refine hK.out _ _ ⟨(blk_cell BK148.out 0).trans rfl, (blk_cell BK148.out 1).trans rfl⟩ (fun hHeld => ?_)
        clear hK K
        refine norm_ (by show Act.put _ (some 10) _ = _; simp only [Act.put, sT_, sZ_, sS_, i64_w, i32_w] <;> rfl) ?_
        refine one_ (i := 8) (N := some 32) (round_Part.ups 15 4607) rfl rfl (one_of HT_.out (by kernel_rfl)) (by decide) (fun K hK => ?_)
        refine goes_ Try.func76 (by kernel_rfl) rfl #[.agg #[.int .u64 t149, .int .u64 t150], .int .u64 (IntKind.u64.wrap (a2_0))] (by rfl) rfl rfl (by (try simp only [mT_, mC_, mN_]); first | done | rfl) ?_
        with_reducible refine (wide_Times.calls t149 t150 (IntKind.u64.wrap (a2_0)) t151 t152 t153 _ A11.out).mono ?_
        rintro e w49 ⟨rfl, hb⟩
        refine ⟨_, rfl, ?_⟩
        replace BK148 := bK_ BK148 hb
        replace BK154 := bK_ BK154 hb
        replace HB := bB_ (by repeat (with_reducible first | exact HB.out | apply bA_ | apply bN_ | apply bD_ | refine bS_ ?_ GE148.out | refine bS_ ?_ GE154.out)) hb
        (try clear hb)
        (try clear hb2)
        (try clear hk)
        (try clear hi)
        refine hK.out _ _ ⟨(blk_cell BK148.out 0).trans rfl, (blk_cell BK148.out 1).trans rfl⟩ (fun hHeld => ?_)
        clear hK K
        refine norm_ (by show Act.put _ (some 32) _ = _; simp only [Act.put, sT_, sZ_, sS_, i64_w, i32_w] <;> rfl) ?_
        refine pure_ (i := 9) (N := some 23) (v := ?_) (a' := ?_) (round_Part.ups 15 5119) rfl rfl (any_of HT_.out (by kernel_rfl)) (fun _ _ _ h => h) (Or.inl ⟨by rfl, ?_⟩) ?_ ?_
        rotate_left
        ·intro w'
         go_simp
         with_reducible rfl
        rotate_left
        ·simp only [Act.put, sT_, sZ_, sS_, i64_w, i32_w]
         rfl
        refine pure_ (i := 10) (N := some 33) (v := ?_) (a' := ?_) (round_Part.ups 15 6143) rfl rfl (any_of HT_.out (by kernel_rfl)) (fun _ _ _ h => h) (Or.inl ⟨by rfl, ?_⟩) ?_ ?_
        rotate_left
        ·intro w'
         go_simp
         with_reducible rfl
        rotate_left
        ·simp only [Act.put, sT_, sZ_, sS_, i64_w, i32_w]
         rfl
        refine pure_ (i := 11) (N := some 34) (v := ?_) (a' := ?_) (round_Part.ups 15 8191) rfl rfl (any_of HT_.out (by kernel_rfl)) (fun _ _ _ h => h) (Or.inl ⟨by rfl, ?_⟩) ?_ ?_
        rotate_left
        ·intro w'
         go_simp
         with_reducible rfl
        rotate_left
        ·simp only [Act.put, sT_, sZ_, sS_, i64_w, i32_w]
         rfl
        exact norm_ (by simp only [putAll, Act.put, sT_, sZ_, sS_]) (hCont (gb154) _ ⟨hHeld, BK148.out, BK154.out, GW154.out, GE154.out, NB148_154.out, NB154_148.out, (by repeat (with_reducible first | exact HB.out | apply bA_ | apply bN_ | apply bD_ | refine bS_ ?_ GE148.out | refine bS_ ?_ GE154.out))⟩)
      ·skip
       refine box_step rfl (N := 10) rfl (cs := #[.int .u64 0, .int .u64 0]) (t := 128) ?hr ?_; (case hr => go_simp <;> rfl)
       intro gb154 hg w47 hbox hb
       have BK154 := aA_ (hbox)
       have GW154 := gW_ hg (by repeat (with_reducible first | exact HB.out | apply bA_ | apply bN_ | apply bD_ | refine bS_ ?_ GE148.out))
       have GE154 := GW154
       replace HB := bB_ (by repeat (with_reducible first | exact HB.out | apply bA_ | apply bN_ | apply bD_ | refine bS_ ?_ GE148.out)) hb
       have NB148_154 := nE_ hg BK148
       have NB154_148 := aA_ NB148_154.out.symm
       replace BK148 := bK_ BK148 hb
       clear hb hbox hg
       refine hK.out _ _ ⟨(blk_cell BK148.out 0).trans rfl, (blk_cell BK148.out 1).trans rfl⟩ (fun hHeld => ?_)
       clear hK K
       refine norm_ (by show Act.put _ (some 10) _ = _; simp only [Act.put, sT_, sZ_, sS_, i64_w, i32_w] <;> rfl) ?_
       refine one_ (i := 4) (N := some 28) (round_Part.ups 15 4351) rfl rfl (one_of HT_.out (by kernel_rfl)) (by decide) (fun K hK => ?_)
       refine goes_ Try.func77 (by kernel_rfl) rfl #[.int .u64 (IntKind.u64.wrap (a0)), .int .u64 (IntKind.u64.wrap (a1))] (by rfl) rfl rfl (by (try simp only [mT_, mC_, mN_]); first | done | rfl) ?_
       with_reducible refine (wide_Mul.calls (IntKind.u64.wrap (a0)) (IntKind.u64.wrap (a1)) t149 t150 _ A10.out).mono ?_
       rintro e w48 ⟨rfl, hb⟩
       refine ⟨_, rfl, ?_⟩
       replace BK148 := bK_ BK148 hb
       replace BK154 := bK_ BK154 hb
       replace HB := bB_ (by repeat (with_reducible first | exact HB.out | apply bA_ | apply bN_ | apply bD_ | refine bS_ ?_ GE148.out | refine bS_ ?_ GE154.out)) hb
       (try clear hb)
       (try clear hb2)
       (try clear hk)
       (try clear hi)
       refine hK.out _ _ ⟨(blk_cell BK148.out 0).trans rfl, (blk_cell BK148.out 1).trans rfl⟩ (fun hHeld => ?_)
       clear hK K
       refine norm_ (by show Act.put _ (some 28) _ = _; simp only [Act.put, sT_, sZ_, sS_, i64_w, i32_w] <;> rfl) ?_
       refine one_ (i := 8) (N := some 32) (round_Part.ups 15 4607) rfl rfl (one_of HT_.out (by kernel_rfl)) (by decide) (fun K hK => ?_)
       refine goes_ Try.func76 (by kernel_rfl) rfl #[.agg #[.int .u64 t149, .int .u64 t150], .int .u64 (IntKind.u64.wrap (a2_0))] (by rfl) rfl rfl (by (try simp only [mT_, mC_, mN_]); first | done | rfl) ?_
       with_reducible refine (wide_Times.calls t149 t150 (IntKind.u64.wrap (a2_0)) t151 t152 t153 _ A11.out).mono ?_
       rintro e w49 ⟨rfl, hb⟩
       refine ⟨_, rfl, ?_⟩
       replace BK148 := bK_ BK148 hb
       replace BK154 := bK_ BK154 hb
       replace HB := bB_ (by repeat (with_reducible first | exact HB.out | apply bA_ | apply bN_ | apply bD_ | refine bS_ ?_ GE148.out | refine bS_ ?_ GE154.out)) hb
       (try clear hb)
       (try clear hb2)
       (try clear hk)
       (try clear hi)
       refine hK.out _ _ ⟨(blk_cell BK148.out 0).trans rfl, (blk_cell BK148.out 1).trans rfl⟩ (fun hHeld => ?_)
       clear hK K
       refine norm_ (by show Act.put _ (some 32) _ = _; simp only [Act.put, sT_, sZ_, sS_, i64_w, i32_w] <;> rfl) ?_
       refine pure_ (i := 9) (N := some 23) (v := ?_) (a' := ?_) (round_Part.ups 15 5119) rfl rfl (any_of HT_.out (by kernel_rfl)) (fun _ _ _ h => h) (Or.inl ⟨by rfl, ?_⟩) ?_ ?_
       rotate_left
       ·intro w'
        go_simp
        with_reducible rfl
       rotate_left
       ·simp only [Act.put, sT_, sZ_, sS_, i64_w, i32_w]
        rfl
       refine pure_ (i := 10) (N := some 33) (v := ?_) (a' := ?_) (round_Part.ups 15 6143) rfl rfl (any_of HT_.out (by kernel_rfl)) (fun _ _ _ h => h) (Or.inl ⟨by rfl, ?_⟩) ?_ ?_
       rotate_left
       ·intro w'
        go_simp
        with_reducible rfl
       rotate_left
       ·simp only [Act.put, sT_, sZ_, sS_, i64_w, i32_w]
        rfl
       refine pure_ (i := 11) (N := some 34) (v := ?_) (a' := ?_) (round_Part.ups 15 8191) rfl rfl (any_of HT_.out (by kernel_rfl)) (fun _ _ _ h => h) (Or.inl ⟨by rfl, ?_⟩) ?_ ?_
       rotate_left
       ·intro w'
        go_simp
        with_reducible rfl
       rotate_left
       ·simp only [Act.put, sT_, sZ_, sS_, i64_w, i32_w]
        rfl
       exact norm_ (by simp only [putAll, Act.put, sT_, sZ_, sS_]) (hCont (gb154) _ ⟨hHeld, BK148.out, BK154.out, GW154.out, GE154.out, NB148_154.out, NB154_148.out, (by repeat (with_reducible first | exact HB.out | apply bA_ | apply bN_ | apply bD_ | refine bS_ ?_ GE148.out | refine bS_ ?_ GE154.out))⟩)
     rintro gb154 w50 ⟨hS_, h0_, h1_, h2_, h3_, h4_, h5_, h6_⟩
     (try dsimp only at h0_ h1_ h2_ h3_ h4_ h5_ h6_)
     clear BK148 HB
     have BK148 := aA_ h0_
     have BK154 := aA_ h1_
     have GW154 := aA_ h2_
     have GE154 := aA_ h3_
     have NB148_154 := aA_ h4_
     have NB154_148 := aA_ h5_
     have HB := aA_ h6_
     clear h0_ h1_ h2_ h3_ h4_ h5_ h6_
     have hHeld : w50.cell? ⟨gb148, 0, none⟩ = some (.int .i64 a2_0) ∧ w50.cell? ⟨gb148, 1, none⟩ = some (.int .i64 a2_1) := hS_
     refine norm_ (a' := ?_) ?_ ?_
     rotate_left
     ·simp only [putAll, Act.put, sT_, sZ_, sS_]
      rfl
     refine one_ (i := 13) (N := none) (round_Part.ups 15 16383) rfl rfl (one_of HT_.out (by kernel_rfl)) (by decide) (fun K hK => ?_)
     have hs51 : w50.cell? ⟨gb154, 0, none⟩ = some (.int .u64 0) := (blk_cell BK154.out 0).trans rfl
     have hfs51 := blk_frozen BK154.out 0
     have hns51_0 := NB148_154.out
     have hms51_0 := NB154_148.out
     have hs52 : w50.cell? ⟨gb154, 1, none⟩ = some (.int .u64 0) := (blk_cell BK154.out 1).trans rfl
     have hfs52 := blk_frozen BK154.out 1
     have hns52_0 := NB148_154.out
     have hms52_0 := NB154_148.out
     refine skip_ (w1 := ?_) (by rfl) rfl ?_ ?_
     rotate_left
     ·go_simp
      rfl
     refine hK.out _ _ ⟨((cell_far (p := ⟨gb154, _, none⟩) NB148_154.out _).trans (((cell_far (p := ⟨gb154, _, none⟩) NB148_154.out _).trans (hHeld.1)))), ((cell_far (p := ⟨gb154, _, none⟩) NB148_154.out _).trans (((cell_far (p := ⟨gb154, _, none⟩) NB148_154.out _).trans (hHeld.2))))⟩ (fun hHeld => ?_)
     clear hK K
     refine pure_ (i := 14) (N := some 11) (v := ?_) (a' := ?_) (round_Part.ups 15 32767) rfl rfl (any_of HT_.out (by kernel_rfl)) (fun _ _ _ h => h) (Or.inl ⟨by rfl, ?_⟩) ?_ ?_
     rotate_left
     ·intro w'
      go_simp
      with_reducible rfl
     rotate_left
     ·simp only [Act.put, sT_, sZ_, sS_, i64_w, i32_w]
      rfl
     refine done_ (done_of HT_.out (by kernel_rfl)) ?_
     have hnb53 := NB148_154.out
     have hnc53 := NB154_148.out
     have hcz54_0 : w50.cell? ⟨gb148, 0, none⟩ = some (.int .i64 a2_0) := (blk_cell BK148.out 0).trans rfl
     have hcz54_1 : w50.cell? ⟨gb148, 1, none⟩ = some (.int .i64 a2_1) := (blk_cell BK148.out 1).trans rfl
     have hfz54_0 := blk_frozen BK148.out 0
     have hfz54_1 := blk_frozen BK148.out 1
     try go_wp2_with (first | (refine goesL_ (some 40) rfl rfl Try.func77 (by kernel_rfl) rfl #[.int .u64 (IntKind.u64.wrap (a3)), .int .u64 (IntKind.u64.wrap (a2_1))] rfl (by (try simp only [mT_, mC_, mN_]); first | done | rfl) ?_; (with_reducible refine (wide_Mul.calls (IntKind.u64.wrap (a3)) (IntKind.u64.wrap (a2_1)) t155 t156 _ A12.out).mono ?_); rintro e w55 ⟨rfl, hb⟩; refine ⟨_, rfl, ?_⟩; replace BK148 := aA_ (blk_below (g := gb148) (o := .cells #[.int .i64 a2_0, .int .i64 a2_1] 56 (0, 0)) (by refine blk_far ?_ NB148_154.out _; refine blk_far ?_ NB148_154.out _; exact BK148.out) hb); replace BK154 := aA_ (blk_below (g := gb154) (o := .cells #[.int .u64 t151, .int .u64 t152] 128 (0, 0)) (by refine blk_put (cs := #[.int .u64 t151, .int .u64 0]) ?_ 1 _ rfl; refine blk_put (cs := #[.int .u64 0, .int .u64 0]) ?_ 0 _ rfl; exact BK154.out) hb); replace HB := bB_ (by repeat (with_reducible first | exact HB.out | apply bA_ | apply bN_ | apply bD_ | refine bS_ ?_ GE148.out | refine bS_ ?_ GE154.out)) hb; (try clear hb)) | (refine box_event rfl (N := 12) rfl (cs := #[.int .u64 0, .int .u64 0]) (t := 128) ?hr ?_; (case hr => go_simp <;> rfl); intro gb157 hg w56 hbox hb; have BK157 := aA_ (hbox); have GW157 := gW_ hg (by repeat (with_reducible first | exact HB.out | apply bA_ | apply bN_ | apply bD_ | refine bS_ ?_ GE148.out | refine bS_ ?_ GE154.out)); have GE157 := GW157; replace HB := bB_ (by repeat (with_reducible first | exact HB.out | apply bA_ | apply bN_ | apply bD_ | refine bS_ ?_ GE148.out | refine bS_ ?_ GE154.out)) hb; have NB148_157 := nE_ hg BK148; have NB157_148 := aA_ NB148_157.out.symm; replace BK148 := bK_ BK148 hb; have NB154_157 := nE_ hg BK154; have NB157_154 := aA_ NB154_157.out.symm; replace BK154 := bK_ BK154 hb; clear hb hbox hg; have hnb57 := NB157_148.out; have hnc57 := NB148_157.out; have hnb58 := NB157_154.out; have hnc58 := NB154_157.out; have hcz59_0 : w56.cell? ⟨gb157, 0, none⟩ = some (.int .u64 0) := (blk_cell BK157.out 0).trans rfl; have hcz59_1 : w56.cell? ⟨gb157, 1, none⟩ = some (.int .u64 0) := (blk_cell BK157.out 1).trans rfl; have hfz59_0 := blk_frozen BK157.out 0; have hfz59_1 := blk_frozen BK157.out 1))
     go_ret2
     exact ⟨by rfl, by repeat (with_reducible first | exact HB.out | apply bA_ | apply bN_ | apply bD_ | refine bS_ ?_ GE148.out | refine bS_ ?_ GE154.out | refine bS_ ?_ GE157.out)⟩

end Go.Proofs.Yteikafepdkijdaa.X
