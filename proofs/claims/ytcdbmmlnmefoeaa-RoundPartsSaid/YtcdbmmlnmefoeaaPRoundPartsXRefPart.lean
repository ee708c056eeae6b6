-- CUT by prune.py, a program of this session, to what the claim reaches (out of a text that the kit's printer, the session's programs or the session wrote)
import Derived.Test.YtcdbmmlnmefoeaaPRoundPartsX0
import Derived.Test.YtcdbmmlnmefoeaaPRoundPartsXBig
import Derived.Test.YtcdbmmlnmefoeaaPRoundPartsXQuot
import Derived.Test.YtcdbmmlnmefoeaaPRoundPartsXRefThree
namespace Go.Proofs.Ytcdbmmlnmefoeaa.X
open Go.RowKit Go.Proofs.YtcdbmmlnmefoeaaW.PrintWords Go.Proofs.YtcdbmmlnmefoeaaW.PrintLast Go.Proofs.YtcdbmmlnmefoeaaW.PrintMore
set_option linter.unusedVariables false
set_option linter.unusedSimpArgs false

def demurrageref03_Part.upsl : Nat → Nat → List Bool
  | 0, _ => []
  | n + 1, m => (m % 2 == 1) :: demurrageref03_Part.upsl n (m / 2)
def demurrageref03_Part.ups (n m : Nat) : Array Bool := ⟨demurrageref03_Part.upsl n m⟩
mutual
def demurrageref03_Part.j0 : Nat → Int → Int → Int → Bool → Int → Int → Option (Int × Int)
  | 0, _, _, _, _, _, _ => none
  | k + 1, x0, x1, x3, x22, x5752000, x5752001 => if x22 = true then (some (0, 1)) else ((demurrageref01_From.f k x0).bind fun t5752 => ((demurrageref01_From.f k x1).bind fun t5755 => ((demurrageref01_Prod.f k t5752 t5755).bind fun t5758 => ((demurrageref01_From.f k x5752000).bind fun t5761 => ((demurrageref01_Prod.f k t5758 t5761).bind fun t5764 => ((demurrageref01_From.f k x3).bind fun t5768 => ((demurrageref01_From.f k x5752001).bind fun t5771 => ((demurrageref01_Prod.f k t5768 t5771).bind fun t5774 => ((demurrageref01_FromU.f k 4294967296).bind fun t5778 => ((demurrageref01_Limit.f k).bind fun t5782 => ((demurrageref01_Cmp.f k t5764 t5782).bind fun t5785 => (if t5785 ≥ 0 then (demurrageref03_Part.j1 k true t5764 t5774) else ((demurrageref01_Prod.f k t5778 t5778).bind fun t5786 => ((demurrageref01_Cmp.f k t5774 t5786).bind fun t5789 => (demurrageref03_Part.j1 k (decide (t5789 ≥ 0)) t5764 t5774)))))))))))))))
def demurrageref03_Part.j1 : Nat → Bool → List Int → List Int → Option (Int × Int)
  | 0, _, _, _ => none
  | k + 1, x50, x5768000, x5778000 => if x50 = true then (some (0, 6)) else ((demurrageref03_Near.f k x5768000 x5778000).bind fun t5790 => ((demurrageref03_told.f k t5790).bind fun bt5793 => (some (bt5793.1, bt5793.2))))
end
def demurrageref03_Part.f (k : Nat) (a0 : Int) (a1 : Int) (a2_0 : Int) (a2_1 : Int) (a3 : Int) : Option (Int × Int) := if a0 < 0 then (demurrageref03_Part.j0 k a0 a1 a3 true a2_0 a2_1) else (if a1 < 0 then (demurrageref03_Part.j0 k a0 a1 a3 true a2_0 a2_1) else (demurrageref03_Part.j0 k a0 a1 a3 (decide (a3 < 1)) a2_0 a2_1))
def demurrageref03_Part.T3 : Bool × List (List Nat × List Nat) := (true, [([], []), ([0], [0]), ([], []), ([2, 1], [2]), ([1, 3, 3], [1, 3]), ([], []), ([5], [5]), ([6, 4], [6]), ([4, 7, 7], [4, 7]), ([], []), ([9, 8, 8, 0, 1, 2, 3, 4, 5, 6, 7, 8, 9], [8, 9])])
def demurrageref03_Part.B3 : List Nat := [0, 1, 0, 7, 15, 0, 32, 127, 255, 0, 1023]
theorem demurrageref03_Part.tab3 : rtab .any (opsOf Try.f59 3) = demurrageref03_Part.T3 := by kernel_rfl
theorem demurrageref03_Part.bits3 : waitsOk demurrageref03_Part.T3.2 demurrageref03_Part.B3 = true := by kernel_rfl
def demurrageref03_Part.T4 : Bool × List (List Nat × List Nat) := (true, [([], []), ([0], [0]), ([], []), ([2], [2]), ([3, 1], [3]), ([1, 4, 4], [1, 4]), ([], []), ([6, 5, 5, 0, 1, 2, 3, 4, 5, 6], [5, 6])])
def demurrageref03_Part.B4 : List Nat := [0, 1, 0, 4, 15, 31, 0, 127]
theorem demurrageref03_Part.tab4 : rtab .any (opsOf Try.f59 4) = demurrageref03_Part.T4 := by kernel_rfl
theorem demurrageref03_Part.bits4 : waitsOk demurrageref03_Part.T4.2 demurrageref03_Part.B4 = true := by kernel_rfl
def demurrageref03_Part.T6 : Bool × List (List Nat × List Nat) := (true, [([], []), ([], []), ([0, 1, 1], [0, 1]), ([2], [2]), ([3, 2], [3]), ([4], [4]), ([4], [4]), ([4], [4]), ([6, 7, 4, 4], [4, 6, 7]), ([5, 8, 8, 4], [4, 5, 8]), ([9, 4], [4, 9]), ([4, 10], [4, 10])])
def demurrageref03_Part.B6 : List Nat := [0, 0, 3, 7, 15, 31, 31, 31, 223, 511, 1023, 2047]
theorem demurrageref03_Part.tab6 : rtab .any (opsOf Try.f59 6) = demurrageref03_Part.T6 := by kernel_rfl
theorem demurrageref03_Part.bits6 : waitsOk demurrageref03_Part.T6.2 demurrageref03_Part.B6 = true := by kernel_rfl
set_option maxHeartbeats 8000000 in
set_option maxRecDepth 100000 in
theorem demurrageref03_Part.calls (k : Nat) (a0 : Int) (a1 : Int) (a2_0 : Int) (a2_1 : Int) (a3 : Int) (r1 : Int) (r2 : Int) (w : World) (h : demurrageref03_Part.f k a0 a1 a2_0 a2_1 a3 = some (r1, r2)) :
    Calls Try.prog 59 #[.int .i64 a0, .int .i64 a1, .agg #[.int .i64 a2_0, .int .i64 a2_1], .int .i64 a3] w fun e w' => e = .returned (.tuple #[.int .i64 r1, .int .i64 r2]) ∧ Below w.heap.size w w' := by
  have hu57 := Try.underlying57
  have hu28 := Try.underlying28
  have HB := Aside0.mk (Below.refl w.heap.size w)
  have H : (if a0 < 0 then (demurrageref03_Part.j0 k a0 a1 a3 true a2_0 a2_1) else (if a1 < 0 then (demurrageref03_Part.j0 k a0 a1 a3 true a2_0 a2_1) else (demurrageref03_Part.j0 k a0 a1 a3 (decide (a3 < 1)) a2_0 a2_1))) = some (r1, r2) := h
  clear h
  have HC5 := Aside0.mk H
  clear H
  go_enter Try.func59, Try.ntmps59
  go_upto_region 1 with (first | ((with_reducible refine gate_dst (N := 6) rfl ?_); refine box_event ?hg (N := 6) ?hd (cs := #[.int .i64 a2_0, .int .i64 a2_1]) (t := 57) ?hr ?_; (case hd => rfl); (case hg => rfl); (case hr => go_simp); intro gb5751 hg w6 hbox hb; have n0_ := Aside0.mk (below_step (by repeat (first | (with_reducible first | exact HB.out | apply below_alloc | apply pw_below_drewN | apply below_drew1) | exact HB.out)) hb); have n1_ := Aside0.mk (hbox); have n2_ := Aside0.mk ((by rw [hg]; exact (below_size (by repeat (first | (with_reducible first | exact HB.out | apply below_alloc | apply pw_below_drewN | apply below_drew1) | exact HB.out))) : w.heap.size ≤ gb5751)); have n3_ := Aside0.mk ((by rw [hg]; exact (below_size (by repeat (first | (with_reducible first | exact HB.out | apply below_alloc | apply pw_below_drewN | apply below_drew1) | exact HB.out))) : w.heap.size ≤ gb5751)); clear HB; have HB := n0_; have BK5751 := n1_; have GW5751 := n2_; have GE5751 := n3_; clear n0_ n1_ n2_ n3_; clear hb hbox hg))
  (try simp only [Act.put, List.setIfInBounds_toArray, List.set_cons_zero, List.set_cons_succ])
  go_cut [22] (fun v22 wc => ∃ (kq : Nat) (x22_4 : Bool), v22 = .bool x22_4 ∧ Aside0 (demurrageref03_Part.j0 kq a0 a1 a3 x22_4 a2_0 a2_1 = some (r1, r2)) ∧ Aside0 (kq ≤ k) ∧ Aside0 (wc.heap[gb5751]? = some (.cells #[.int .i64 a2_0, .int .i64 a2_1] 57 (0, 0))) ∧ Aside0 (Below w.heap.size w wc))
  case first =>
    have H := HC5.out
    clear HC5
    by_cases c7 : a0 < 0
    · rw [if_pos c7] at H
      have c7b0 : decide (a0 < 0) = true := decide_eq_true c7
      clear c7
      (first | rw [c7b0] | (simp only [i64_w, i32_w]; rw [c7b0]) | rw [c7b1] | skip)
      have H' := Aside0.mk H
      clear H
      go_wp2
      go_meet
      case rel => exact ⟨_, (true), (by first | rfl | (simp; done) | (simp [*]; done)), H', ⟨by first | omega | exact Nat.le_refl _⟩, BK5751, ⟨by repeat (first | (with_reducible first | exact HB.out | apply below_alloc | apply pw_below_drewN | apply below_drew1 | refine below_set ?_ GE5751.out) | exact HB.out)⟩⟩
    · rw [if_neg c7] at H
      have c7b0 : decide (a0 < 0) = false := decide_eq_false c7
      clear c7
      (first | rw [c7b0] | (simp only [i64_w, i32_w]; rw [c7b0]) | rw [c7b1] | skip)
      by_cases c8 : a1 < 0
      · rw [if_pos c8] at H
        have c8b0 : decide (a1 < 0) = true := decide_eq_true c8
        clear c8
        have H' := Aside0.mk H
        clear H
        go_wp2
        go_meet
        case rel => exact ⟨_, (true), (by first | rfl | (simp; done) | (simp [*]; done)), H', ⟨by first | omega | exact Nat.le_refl _⟩, BK5751, ⟨by repeat (first | (with_reducible first | exact HB.out | apply below_alloc | apply pw_below_drewN | apply below_drew1 | refine below_set ?_ GE5751.out) | exact HB.out)⟩⟩
      · rw [if_neg c8] at H
        have c8b0 : decide (a1 < 0) = false := decide_eq_false c8
        clear c8
        have H' := Aside0.mk H
        clear H
        go_wp2
        go_meet
        case rel => exact ⟨_, (decide (a3 < 1)), (by first | rfl | (simp; done) | (simp [*]; done)), H', ⟨by first | omega | exact Nat.le_refl _⟩, BK5751, ⟨by repeat (first | (with_reducible first | exact HB.out | apply below_alloc | apply pw_below_drewN | apply below_drew1 | refine below_set ?_ GE5751.out) | exact HB.out)⟩⟩
  case rest =>
    clear HC5
    try clear p2
    try clear c5
    try clear c7
    try clear c7b0
    try clear c7b1
    try clear c8
    try clear c8b0
    obtain ⟨kq, x22_4, rfl, HA, HJ4, BK5751, HB⟩ := hcut
    cases kq with
    | zero => exact absurd HA.out (by simp [demurrageref03_Part.j0])
    | succ kj4 =>
      have H := HA.out
      clear HA
      simp only [demurrageref03_Part.j0] at H
      by_cases c9 : x22_4 = true
      · subst c9
        have H1 : (some (0, 1)) = some (r1, r2) := by rw [if_pos rfl] at H; exact H
        clear H
        have H := H1
        clear H1
        simp only [Option.some.injEq, Prod.mk.injEq] at H
        obtain ⟨rfl, rfl⟩ := H
        go_wp2
        go_ret2
        exact ⟨by rfl, by repeat (first | (with_reducible first | exact HB.out | apply below_alloc | apply pw_below_drewN | apply below_drew1 | refine below_set ?_ GE5751.out) | exact HB.out)⟩
      · replace c9 := Bool.eq_false_iff.mpr c9
        subst c9
        have H1 : ((demurrageref01_From.f kj4 a0).bind fun t5752 => ((demurrageref01_From.f kj4 a1).bind fun t5755 => ((demurrageref01_Prod.f kj4 t5752 t5755).bind fun t5758 => ((demurrageref01_From.f kj4 a2_0).bind fun t5761 => ((demurrageref01_Prod.f kj4 t5758 t5761).bind fun t5764 => ((demurrageref01_From.f kj4 a3).bind fun t5768 => ((demurrageref01_From.f kj4 a2_1).bind fun t5771 => ((demurrageref01_Prod.f kj4 t5768 t5771).bind fun t5774 => ((demurrageref01_FromU.f kj4 4294967296).bind fun t5778 => ((demurrageref01_Limit.f kj4).bind fun t5782 => ((demurrageref01_Cmp.f kj4 t5764 t5782).bind fun t5785 => (if t5785 ≥ 0 then (demurrageref03_Part.j1 kj4 true t5764 t5774) else ((demurrageref01_Prod.f kj4 t5778 t5778).bind fun t5786 => ((demurrageref01_Cmp.f kj4 t5774 t5786).bind fun t5789 => (demurrageref03_Part.j1 kj4 (decide (t5789 ≥ 0)) t5764 t5774))))))))))))))) = some (r1, r2) := by rw [if_neg (show ¬ (false = true) by decide)] at H; exact H
        clear H
        have H := H1
        clear H1
        replace H := Option.bind_eq_some_iff.mp H
        obtain ⟨t5752, A100, H⟩ := H
        replace H : ((demurrageref01_From.f kj4 a1).bind fun t5755 => ((demurrageref01_Prod.f kj4 t5752 t5755).bind fun t5758 => ((demurrageref01_From.f kj4 a2_0).bind fun t5761 => ((demurrageref01_Prod.f kj4 t5758 t5761).bind fun t5764 => ((demurrageref01_From.f kj4 a3).bind fun t5768 => ((demurrageref01_From.f kj4 a2_1).bind fun t5771 => ((demurrageref01_Prod.f kj4 t5768 t5771).bind fun t5774 => ((demurrageref01_FromU.f kj4 4294967296).bind fun t5778 => ((demurrageref01_Limit.f kj4).bind fun t5782 => ((demurrageref01_Cmp.f kj4 t5764 t5782).bind fun t5785 => (if t5785 ≥ 0 then (demurrageref03_Part.j1 kj4 true t5764 t5774) else ((demurrageref01_Prod.f kj4 t5778 t5778).bind fun t5786 => ((demurrageref01_Cmp.f kj4 t5774 t5786).bind fun t5789 => (demurrageref03_Part.j1 kj4 (decide (t5789 ≥ 0)) t5764 t5774)))))))))))))) = some (r1, r2) := H
        have A10 := Aside0.mk A100
        clear A100
        replace H := Option.bind_eq_some_iff.mp H
        obtain ⟨t5755, A110, H⟩ := H
        replace H : ((demurrageref01_Prod.f kj4 t5752 t5755).bind fun t5758 => ((demurrageref01_From.f kj4 a2_0).bind fun t5761 => ((demurrageref01_Prod.f kj4 t5758 t5761).bind fun t5764 => ((demurrageref01_From.f kj4 a3).bind fun t5768 => ((demurrageref01_From.f kj4 a2_1).bind fun t5771 => ((demurrageref01_Prod.f kj4 t5768 t5771).bind fun t5774 => ((demurrageref01_FromU.f kj4 4294967296).bind fun t5778 => ((demurrageref01_Limit.f kj4).bind fun t5782 => ((demurrageref01_Cmp.f kj4 t5764 t5782).bind fun t5785 => (if t5785 ≥ 0 then (demurrageref03_Part.j1 kj4 true t5764 t5774) else ((demurrageref01_Prod.f kj4 t5778 t5778).bind fun t5786 => ((demurrageref01_Cmp.f kj4 t5774 t5786).bind fun t5789 => (demurrageref03_Part.j1 kj4 (decide (t5789 ≥ 0)) t5764 t5774))))))))))))) = some (r1, r2) := H
        have A11 := Aside0.mk A110
        clear A110
        replace H := Option.bind_eq_some_iff.mp H
        obtain ⟨t5758, A120, H⟩ := H
        replace H : ((demurrageref01_From.f kj4 a2_0).bind fun t5761 => ((demurrageref01_Prod.f kj4 t5758 t5761).bind fun t5764 => ((demurrageref01_From.f kj4 a3).bind fun t5768 => ((demurrageref01_From.f kj4 a2_1).bind fun t5771 => ((demurrageref01_Prod.f kj4 t5768 t5771).bind fun t5774 => ((demurrageref01_FromU.f kj4 4294967296).bind fun t5778 => ((demurrageref01_Limit.f kj4).bind fun t5782 => ((demurrageref01_Cmp.f kj4 t5764 t5782).bind fun t5785 => (if t5785 ≥ 0 then (demurrageref03_Part.j1 kj4 true t5764 t5774) else ((demurrageref01_Prod.f kj4 t5778 t5778).bind fun t5786 => ((demurrageref01_Cmp.f kj4 t5774 t5786).bind fun t5789 => (demurrageref03_Part.j1 kj4 (decide (t5789 ≥ 0)) t5764 t5774)))))))))))) = some (r1, r2) := H
        have A12 := Aside0.mk A120
        clear A120
        replace H := Option.bind_eq_some_iff.mp H
        obtain ⟨t5761, A130, H⟩ := H
        replace H : ((demurrageref01_Prod.f kj4 t5758 t5761).bind fun t5764 => ((demurrageref01_From.f kj4 a3).bind fun t5768 => ((demurrageref01_From.f kj4 a2_1).bind fun t5771 => ((demurrageref01_Prod.f kj4 t5768 t5771).bind fun t5774 => ((demurrageref01_FromU.f kj4 4294967296).bind fun t5778 => ((demurrageref01_Limit.f kj4).bind fun t5782 => ((demurrageref01_Cmp.f kj4 t5764 t5782).bind fun t5785 => (if t5785 ≥ 0 then (demurrageref03_Part.j1 kj4 true t5764 t5774) else ((demurrageref01_Prod.f kj4 t5778 t5778).bind fun t5786 => ((demurrageref01_Cmp.f kj4 t5774 t5786).bind fun t5789 => (demurrageref03_Part.j1 kj4 (decide (t5789 ≥ 0)) t5764 t5774))))))))))) = some (r1, r2) := H
        have A13 := Aside0.mk A130
        clear A130
        replace H := Option.bind_eq_some_iff.mp H
        obtain ⟨t5764, A140, H⟩ := H
        replace H : ((demurrageref01_From.f kj4 a3).bind fun t5768 => ((demurrageref01_From.f kj4 a2_1).bind fun t5771 => ((demurrageref01_Prod.f kj4 t5768 t5771).bind fun t5774 => ((demurrageref01_FromU.f kj4 4294967296).bind fun t5778 => ((demurrageref01_Limit.f kj4).bind fun t5782 => ((demurrageref01_Cmp.f kj4 t5764 t5782).bind fun t5785 => (if t5785 ≥ 0 then (demurrageref03_Part.j1 kj4 true t5764 t5774) else ((demurrageref01_Prod.f kj4 t5778 t5778).bind fun t5786 => ((demurrageref01_Cmp.f kj4 t5774 t5786).bind fun t5789 => (demurrageref03_Part.j1 kj4 (decide (t5789 ≥ 0)) t5764 t5774)))))))))) = some (r1, r2) := H
        have A14 := Aside0.mk A140
        clear A140
        replace H := Option.bind_eq_some_iff.mp H
        obtain ⟨t5768, A150, H⟩ := H
        replace H : ((demurrageref01_From.f kj4 a2_1).bind fun t5771 => ((demurrageref01_Prod.f kj4 t5768 t5771).bind fun t5774 => ((demurrageref01_FromU.f kj4 4294967296).bind fun t5778 => ((demurrageref01_Limit.f kj4).bind fun t5782 => ((demurrageref01_Cmp.f kj4 t5764 t5782).bind fun t5785 => (if t5785 ≥ 0 then (demurrageref03_Part.j1 kj4 true t5764 t5774) else ((demurrageref01_Prod.f kj4 t5778 t5778).bind fun t5786 => ((demurrageref01_Cmp.f kj4 t5774 t5786).bind fun t5789 => (demurrageref03_Part.j1 kj4 (decide (t5789 ≥ 0)) t5764 t5774))))))))) = some (r1, r2) := H
        have A15 := Aside0.mk A150
        clear A150
        replace H := Option.bind_eq_some_iff.mp H
        obtain ⟨t5771, A160, H⟩ := H
        replace H : ((demurrageref01_Prod.f kj4 t5768 t5771).bind fun t5774 => ((demurrageref01_FromU.f kj4 4294967296).bind fun t5778 => ((demurrageref01_Limit.f kj4).bind fun t5782 => ((demurrageref01_Cmp.f kj4 t5764 t5782).bind fun t5785 => (if t5785 ≥ 0 then (demurrageref03_Part.j1 kj4 true t5764 t5774) else ((demurrageref01_Prod.f kj4 t5778 t5778).bind fun t5786 => ((demurrageref01_Cmp.f kj4 t5774 t5786).bind fun t5789 => (demurrageref03_Part.j1 kj4 (decide (t5789 ≥ 0)) t5764 t5774)))))))) = some (r1, r2) := H
        have A16 := Aside0.mk A160
        clear A160
        replace H := Option.bind_eq_some_iff.mp H
        obtain ⟨t5774, A170, H⟩ := H
        replace H : ((demurrageref01_FromU.f kj4 4294967296).bind fun t5778 => ((demurrageref01_Limit.f kj4).bind fun t5782 => ((demurrageref01_Cmp.f kj4 t5764 t5782).bind fun t5785 => (if t5785 ≥ 0 then (demurrageref03_Part.j1 kj4 true t5764 t5774) else ((demurrageref01_Prod.f kj4 t5778 t5778).bind fun t5786 => ((demurrageref01_Cmp.f kj4 t5774 t5786).bind fun t5789 => (demurrageref03_Part.j1 kj4 (decide (t5789 ≥ 0)) t5764 t5774))))))) = some (r1, r2) := H
        have A17 := Aside0.mk A170
        clear A170
        replace H := Option.bind_eq_some_iff.mp H
        obtain ⟨t5778, A180, H⟩ := H
        replace H : ((demurrageref01_Limit.f kj4).bind fun t5782 => ((demurrageref01_Cmp.f kj4 t5764 t5782).bind fun t5785 => (if t5785 ≥ 0 then (demurrageref03_Part.j1 kj4 true t5764 t5774) else ((demurrageref01_Prod.f kj4 t5778 t5778).bind fun t5786 => ((demurrageref01_Cmp.f kj4 t5774 t5786).bind fun t5789 => (demurrageref03_Part.j1 kj4 (decide (t5789 ≥ 0)) t5764 t5774)))))) = some (r1, r2) := H
        have A18 := Aside0.mk A180
        clear A180
        have HC19 := Aside0.mk H
        clear H
        try go_wp2
        have n0_ := Aside0.mk (blk_drew BK5751.out)
        have n1_ := Aside0.mk (below_drew1 HB.out)
        clear BK5751 HB
        have BK5751 := n0_
        have HB := n1_
        clear n0_ n1_
        refine start_ (n := 11) (S := fun w' => w'.cell? ⟨gb5751, 0, none⟩ = some (.int .i64 a2_0) ∧ w'.cell? ⟨gb5751, 1, none⟩ = some (.int .i64 a2_1)) (ds := []) (demurrageref03_Part.ups 11 0) (by kernel_rfl) rfl rfl ⟨(blk_cell BK5751.out 0).trans rfl, (blk_cell BK5751.out 1).trans rfl⟩ (fun hHeld => ?_); refine with_tabW demurrageref03_Part.tab3 demurrageref03_Part.bits3 (fun HT_ HW_ => ?_)
        generalize wc.drew = w20 at BK5751 HB hHeld ⊢
        refine pure_ (i := 0) (N := some 23) (v := ?_) (a' := ?_) (demurrageref03_Part.ups 11 1) rfl rfl (any_of HT_.out (by kernel_rfl)) (fun _ _ _ h => h) (Or.inl ⟨by rfl, ?_⟩) ?_ ?_
        rotate_left
        · intro w'
          go_simp
          with_reducible rfl
        rotate_left
        · simp only [Act.put, List.setIfInBounds_toArray, List.set_cons_zero, List.set_cons_succ, i64_w, i32_w]
          rfl
        refine pure_ (i := 2) (N := some 25) (v := ?_) (a' := ?_) (demurrageref03_Part.ups 11 5) rfl rfl (any_of HT_.out (by kernel_rfl)) (fun _ _ _ h => h) (Or.inl ⟨by rfl, ?_⟩) ?_ ?_
        rotate_left
        · intro w'
          go_simp
          with_reducible rfl
        rotate_left
        · simp only [Act.put, List.setIfInBounds_toArray, List.set_cons_zero, List.set_cons_succ, i64_w, i32_w]
          rfl
        refine pure_ (i := 5) (N := some 28) (v := ?_) (a' := ?_) (demurrageref03_Part.ups 11 37) rfl rfl (any_of HT_.out (by kernel_rfl)) (fun _ _ _ h => h) (Or.inl ⟨by rfl, ?_⟩) ?_ ?_
        rotate_left
        · intro w'
          go_simp
          with_reducible rfl
        rotate_left
        · simp only [Act.put, List.setIfInBounds_toArray, List.set_cons_zero, List.set_cons_succ, i64_w, i32_w]
          rfl
        refine take_ (i := 6) (N := some 29) (v := ?_) (a' := ?_) (demurrageref03_Part.ups 11 101) rfl rfl (take_ofW HT_.out HW_.out (by kernel_rfl)) (fun _ _ _ h => h) (Or.inl ⟨by rfl, ?_⟩) hHeld ?_ ?_
        rotate_left
        · rintro w' ⟨s0, s1⟩
          go_simp
          with_reducible rfl
        rotate_left
        · simp only [Act.put, List.setIfInBounds_toArray, List.set_cons_zero, List.set_cons_succ, i64_w, i32_w]
          rfl
        refine join_ (σ := Value × Value × Value × Value × Value × Nat) 1 (demurrageref03_Part.ups 11 1023) (fun s_ => [(24, .agg #[s_.1]), (26, .agg #[s_.2.1]), (27, .agg #[s_.2.2.1]), (30, .agg #[s_.2.2.2.1]), (31, .agg #[s_.2.2.2.2.1]), (10, .pointer (some ⟨s_.2.2.2.2.2, 0, none⟩))]) (fun s_ w' => (w'.cell? ⟨gb5751, 0, none⟩ = some (.int .i64 a2_0) ∧ w'.cell? ⟨gb5751, 1, none⟩ = some (.int .i64 a2_1)) ∧ (Kd.R (Kd.int .i64) 3 w' w.heap.size (fun k_ => some k_ ≠ (s_.2.1 : Value).ownBlock ∧ some k_ ≠ (s_.2.2.1 : Value).ownBlock ∧ some k_ ≠ (s_.2.2.2.1 : Value).ownBlock ∧ some k_ ≠ (s_.2.2.2.2.1 : Value).ownBlock) s_.1 t5752) ∧ (Kd.R (Kd.int .i64) 3 w' w.heap.size (fun k_ => some k_ ≠ (s_.1 : Value).ownBlock ∧ some k_ ≠ (s_.2.2.1 : Value).ownBlock ∧ some k_ ≠ (s_.2.2.2.1 : Value).ownBlock ∧ some k_ ≠ (s_.2.2.2.2.1 : Value).ownBlock) s_.2.1 t5755) ∧ (Kd.R (Kd.int .i64) 3 w' w.heap.size (fun k_ => some k_ ≠ (s_.1 : Value).ownBlock ∧ some k_ ≠ (s_.2.1 : Value).ownBlock ∧ some k_ ≠ (s_.2.2.2.1 : Value).ownBlock ∧ some k_ ≠ (s_.2.2.2.2.1 : Value).ownBlock) s_.2.2.1 t5758) ∧ (Kd.R (Kd.int .i64) 3 w' w.heap.size (fun k_ => some k_ ≠ (s_.1 : Value).ownBlock ∧ some k_ ≠ (s_.2.1 : Value).ownBlock ∧ some k_ ≠ (s_.2.2.1 : Value).ownBlock ∧ some k_ ≠ (s_.2.2.2.2.1 : Value).ownBlock) s_.2.2.2.1 t5761) ∧ (Kd.R (Kd.int .i64) 3 w' w.heap.size (fun k_ => some k_ ≠ (s_.1 : Value).ownBlock ∧ some k_ ≠ (s_.2.1 : Value).ownBlock ∧ some k_ ≠ (s_.2.2.1 : Value).ownBlock ∧ some k_ ≠ (s_.2.2.2.1 : Value).ownBlock) s_.2.2.2.2.1 t5764) ∧ (w'.heap[gb5751]? = some (.cells #[.int .i64 a2_0, .int .i64 a2_1] 57 (0, 0))) ∧ (w'.heap[s_.2.2.2.2.2]? = some (.cells #[.slice none 0 0] 28 (0, 0))) ∧ (w.heap.size ≤ s_.2.2.2.2.2) ∧ (w.heap.size ≤ s_.2.2.2.2.2) ∧ (gb5751 ≠ s_.2.2.2.2.2) ∧ (s_.2.2.2.2.2 ≠ gb5751) ∧ (Below w.heap.size w w')) ?_ ?_
        rotate_left
        · intro hJ1_3_4_7_8_9
          refine join_ (σ := Value × Value × Value × Value × Value) 2 (demurrageref03_Part.ups 11 511) (fun s_ => [(24, .agg #[s_.1]), (26, .agg #[s_.2.1]), (27, .agg #[s_.2.2.1]), (30, .agg #[s_.2.2.2.1]), (31, .agg #[s_.2.2.2.2])]) (fun s_ w' => (w'.cell? ⟨gb5751, 0, none⟩ = some (.int .i64 a2_0) ∧ w'.cell? ⟨gb5751, 1, none⟩ = some (.int .i64 a2_1)) ∧ (Kd.R (Kd.int .i64) 3 w' w.heap.size (fun k_ => some k_ ≠ (s_.2.1 : Value).ownBlock ∧ some k_ ≠ (s_.2.2.1 : Value).ownBlock ∧ some k_ ≠ (s_.2.2.2.1 : Value).ownBlock ∧ some k_ ≠ (s_.2.2.2.2 : Value).ownBlock) s_.1 t5752) ∧ (Kd.R (Kd.int .i64) 3 w' w.heap.size (fun k_ => some k_ ≠ (s_.1 : Value).ownBlock ∧ some k_ ≠ (s_.2.2.1 : Value).ownBlock ∧ some k_ ≠ (s_.2.2.2.1 : Value).ownBlock ∧ some k_ ≠ (s_.2.2.2.2 : Value).ownBlock) s_.2.1 t5755) ∧ (Kd.R (Kd.int .i64) 3 w' w.heap.size (fun k_ => some k_ ≠ (s_.1 : Value).ownBlock ∧ some k_ ≠ (s_.2.1 : Value).ownBlock ∧ some k_ ≠ (s_.2.2.2.1 : Value).ownBlock ∧ some k_ ≠ (s_.2.2.2.2 : Value).ownBlock) s_.2.2.1 t5758) ∧ (Kd.R (Kd.int .i64) 3 w' w.heap.size (fun k_ => some k_ ≠ (s_.1 : Value).ownBlock ∧ some k_ ≠ (s_.2.1 : Value).ownBlock ∧ some k_ ≠ (s_.2.2.1 : Value).ownBlock ∧ some k_ ≠ (s_.2.2.2.2 : Value).ownBlock) s_.2.2.2.1 t5761) ∧ (Kd.R (Kd.int .i64) 3 w' w.heap.size (fun k_ => some k_ ≠ (s_.1 : Value).ownBlock ∧ some k_ ≠ (s_.2.1 : Value).ownBlock ∧ some k_ ≠ (s_.2.2.1 : Value).ownBlock ∧ some k_ ≠ (s_.2.2.2.1 : Value).ownBlock) s_.2.2.2.2 t5764) ∧ (w'.heap[gb5751]? = some (.cells #[.int .i64 a2_0, .int .i64 a2_1] 57 (0, 0))) ∧ (Below w.heap.size w w')) ?_ ?_
          rotate_left
          · intro hJ1_3_4_7_8
            refine join_ (σ := Value × Value × Value × Value × Nat) 2 (demurrageref03_Part.ups 11 767) (fun s_ => [(24, .agg #[s_.1]), (26, .agg #[s_.2.1]), (27, .agg #[s_.2.2.1]), (30, .agg #[s_.2.2.2.1]), (10, .pointer (some ⟨s_.2.2.2.2, 0, none⟩))]) (fun s_ w' => (w'.cell? ⟨gb5751, 0, none⟩ = some (.int .i64 a2_0) ∧ w'.cell? ⟨gb5751, 1, none⟩ = some (.int .i64 a2_1)) ∧ (Kd.R (Kd.int .i64) 3 w' w.heap.size (fun k_ => some k_ ≠ (s_.2.1 : Value).ownBlock ∧ some k_ ≠ (s_.2.2.1 : Value).ownBlock ∧ some k_ ≠ (s_.2.2.2.1 : Value).ownBlock) s_.1 t5752) ∧ (Kd.R (Kd.int .i64) 3 w' w.heap.size (fun k_ => some k_ ≠ (s_.1 : Value).ownBlock ∧ some k_ ≠ (s_.2.2.1 : Value).ownBlock ∧ some k_ ≠ (s_.2.2.2.1 : Value).ownBlock) s_.2.1 t5755) ∧ (Kd.R (Kd.int .i64) 3 w' w.heap.size (fun k_ => some k_ ≠ (s_.1 : Value).ownBlock ∧ some k_ ≠ (s_.2.1 : Value).ownBlock ∧ some k_ ≠ (s_.2.2.2.1 : Value).ownBlock) s_.2.2.1 t5758) ∧ (Kd.R (Kd.int .i64) 3 w' w.heap.size (fun k_ => some k_ ≠ (s_.1 : Value).ownBlock ∧ some k_ ≠ (s_.2.1 : Value).ownBlock ∧ some k_ ≠ (s_.2.2.1 : Value).ownBlock) s_.2.2.2.1 t5761) ∧ (w'.heap[gb5751]? = some (.cells #[.int .i64 a2_0, .int .i64 a2_1] 57 (0, 0))) ∧ (w'.heap[s_.2.2.2.2]? = some (.cells #[.slice none 0 0] 28 (0, 0))) ∧ (w.heap.size ≤ s_.2.2.2.2) ∧ (w.heap.size ≤ s_.2.2.2.2) ∧ (gb5751 ≠ s_.2.2.2.2) ∧ (s_.2.2.2.2 ≠ gb5751) ∧ (Below w.heap.size w w')) ?_ ?_
            rotate_left
            · intro hJ1_3_4_7_9
              refine join_ (σ := Value × Value × Value × Value) 3 (demurrageref03_Part.ups 11 255) (fun s_ => [(24, .agg #[s_.1]), (26, .agg #[s_.2.1]), (27, .agg #[s_.2.2.1]), (30, .agg #[s_.2.2.2])]) (fun s_ w' => (w'.cell? ⟨gb5751, 0, none⟩ = some (.int .i64 a2_0) ∧ w'.cell? ⟨gb5751, 1, none⟩ = some (.int .i64 a2_1)) ∧ (Kd.R (Kd.int .i64) 3 w' w.heap.size (fun k_ => some k_ ≠ (s_.2.1 : Value).ownBlock ∧ some k_ ≠ (s_.2.2.1 : Value).ownBlock ∧ some k_ ≠ (s_.2.2.2 : Value).ownBlock) s_.1 t5752) ∧ (Kd.R (Kd.int .i64) 3 w' w.heap.size (fun k_ => some k_ ≠ (s_.1 : Value).ownBlock ∧ some k_ ≠ (s_.2.2.1 : Value).ownBlock ∧ some k_ ≠ (s_.2.2.2 : Value).ownBlock) s_.2.1 t5755) ∧ (Kd.R (Kd.int .i64) 3 w' w.heap.size (fun k_ => some k_ ≠ (s_.1 : Value).ownBlock ∧ some k_ ≠ (s_.2.1 : Value).ownBlock ∧ some k_ ≠ (s_.2.2.2 : Value).ownBlock) s_.2.2.1 t5758) ∧ (Kd.R (Kd.int .i64) 3 w' w.heap.size (fun k_ => some k_ ≠ (s_.1 : Value).ownBlock ∧ some k_ ≠ (s_.2.1 : Value).ownBlock ∧ some k_ ≠ (s_.2.2.1 : Value).ownBlock) s_.2.2.2 t5761) ∧ (w'.heap[gb5751]? = some (.cells #[.int .i64 a2_0, .int .i64 a2_1] 57 (0, 0))) ∧ (Below w.heap.size w w')) ?_ ?_
              rotate_left
              · intro hJ1_3_4_7
                refine join_ (σ := Value × Value × Value × Nat) 3 (demurrageref03_Part.ups 11 639) (fun s_ => [(24, .agg #[s_.1]), (26, .agg #[s_.2.1]), (27, .agg #[s_.2.2.1]), (10, .pointer (some ⟨s_.2.2.2, 0, none⟩))]) (fun s_ w' => (w'.cell? ⟨gb5751, 0, none⟩ = some (.int .i64 a2_0) ∧ w'.cell? ⟨gb5751, 1, none⟩ = some (.int .i64 a2_1)) ∧ (Kd.R (Kd.int .i64) 3 w' w.heap.size (fun k_ => some k_ ≠ (s_.2.1 : Value).ownBlock ∧ some k_ ≠ (s_.2.2.1 : Value).ownBlock) s_.1 t5752) ∧ (Kd.R (Kd.int .i64) 3 w' w.heap.size (fun k_ => some k_ ≠ (s_.1 : Value).ownBlock ∧ some k_ ≠ (s_.2.2.1 : Value).ownBlock) s_.2.1 t5755) ∧ (Kd.R (Kd.int .i64) 3 w' w.heap.size (fun k_ => some k_ ≠ (s_.1 : Value).ownBlock ∧ some k_ ≠ (s_.2.1 : Value).ownBlock) s_.2.2.1 t5758) ∧ (w'.heap[gb5751]? = some (.cells #[.int .i64 a2_0, .int .i64 a2_1] 57 (0, 0))) ∧ (w'.heap[s_.2.2.2]? = some (.cells #[.slice none 0 0] 28 (0, 0))) ∧ (w.heap.size ≤ s_.2.2.2) ∧ (w.heap.size ≤ s_.2.2.2) ∧ (gb5751 ≠ s_.2.2.2) ∧ (s_.2.2.2 ≠ gb5751) ∧ (Below w.heap.size w w')) ?_ ?_
                rotate_left
                · intro hJ1_3_4_9
                  refine join_ (σ := Value × Value × Value) 4 (demurrageref03_Part.ups 11 127) (fun s_ => [(24, .agg #[s_.1]), (26, .agg #[s_.2.1]), (27, .agg #[s_.2.2])]) (fun s_ w' => (w'.cell? ⟨gb5751, 0, none⟩ = some (.int .i64 a2_0) ∧ w'.cell? ⟨gb5751, 1, none⟩ = some (.int .i64 a2_1)) ∧ (Kd.R (Kd.int .i64) 3 w' w.heap.size (fun k_ => some k_ ≠ (s_.2.1 : Value).ownBlock ∧ some k_ ≠ (s_.2.2 : Value).ownBlock) s_.1 t5752) ∧ (Kd.R (Kd.int .i64) 3 w' w.heap.size (fun k_ => some k_ ≠ (s_.1 : Value).ownBlock ∧ some k_ ≠ (s_.2.2 : Value).ownBlock) s_.2.1 t5755) ∧ (Kd.R (Kd.int .i64) 3 w' w.heap.size (fun k_ => some k_ ≠ (s_.1 : Value).ownBlock ∧ some k_ ≠ (s_.2.1 : Value).ownBlock) s_.2.2 t5758) ∧ (w'.heap[gb5751]? = some (.cells #[.int .i64 a2_0, .int .i64 a2_1] 57 (0, 0))) ∧ (Below w.heap.size w w')) ?_ ?_
                  rotate_left
                  · intro hJ1_3_4
                    refine join_ (σ := Value × Value × Nat) 4 (demurrageref03_Part.ups 11 623) (fun s_ => [(24, .agg #[s_.1]), (26, .agg #[s_.2.1]), (10, .pointer (some ⟨s_.2.2, 0, none⟩))]) (fun s_ w' => (w'.cell? ⟨gb5751, 0, none⟩ = some (.int .i64 a2_0) ∧ w'.cell? ⟨gb5751, 1, none⟩ = some (.int .i64 a2_1)) ∧ (Kd.R (Kd.int .i64) 3 w' w.heap.size (fun k_ => some k_ ≠ (s_.2.1 : Value).ownBlock) s_.1 t5752) ∧ (Kd.R (Kd.int .i64) 3 w' w.heap.size (fun k_ => some k_ ≠ (s_.1 : Value).ownBlock) s_.2.1 t5755) ∧ (w'.heap[gb5751]? = some (.cells #[.int .i64 a2_0, .int .i64 a2_1] 57 (0, 0))) ∧ (w'.heap[s_.2.2]? = some (.cells #[.slice none 0 0] 28 (0, 0))) ∧ (w.heap.size ≤ s_.2.2) ∧ (w.heap.size ≤ s_.2.2) ∧ (gb5751 ≠ s_.2.2) ∧ (s_.2.2 ≠ gb5751) ∧ (Below w.heap.size w w')) ?_ ?_
                    rotate_left
                    · intro hJ1_3_9
                      refine join_ (σ := Value × Value) 5 (demurrageref03_Part.ups 11 111) (fun s_ => [(24, .agg #[s_.1]), (26, .agg #[s_.2])]) (fun s_ w' => (w'.cell? ⟨gb5751, 0, none⟩ = some (.int .i64 a2_0) ∧ w'.cell? ⟨gb5751, 1, none⟩ = some (.int .i64 a2_1)) ∧ (Kd.R (Kd.int .i64) 3 w' w.heap.size (fun k_ => some k_ ≠ (s_.2 : Value).ownBlock) s_.1 t5752) ∧ (Kd.R (Kd.int .i64) 3 w' w.heap.size (fun k_ => some k_ ≠ (s_.1 : Value).ownBlock) s_.2 t5755) ∧ (w'.heap[gb5751]? = some (.cells #[.int .i64 a2_0, .int .i64 a2_1] 57 (0, 0))) ∧ (Below w.heap.size w w')) ?_ ?_
                      rotate_left
                      · intro hJ1_3
                        refine join_ (σ := Value × Nat) 5 (demurrageref03_Part.ups 11 615) (fun s_ => [(24, .agg #[s_.1]), (10, .pointer (some ⟨s_.2, 0, none⟩))]) (fun s_ w' => (w'.cell? ⟨gb5751, 0, none⟩ = some (.int .i64 a2_0) ∧ w'.cell? ⟨gb5751, 1, none⟩ = some (.int .i64 a2_1)) ∧ (Kd.R (Kd.int .i64) 3 w' w.heap.size (fun _ => True) s_.1 t5752) ∧ (w'.heap[gb5751]? = some (.cells #[.int .i64 a2_0, .int .i64 a2_1] 57 (0, 0))) ∧ (w'.heap[s_.2]? = some (.cells #[.slice none 0 0] 28 (0, 0))) ∧ (w.heap.size ≤ s_.2) ∧ (w.heap.size ≤ s_.2) ∧ (gb5751 ≠ s_.2) ∧ (s_.2 ≠ gb5751) ∧ (Below w.heap.size w w')) ?_ ?_
                        rotate_left
                        · intro hJ1_9
                          refine join_ (σ := Value) 6 (demurrageref03_Part.ups 11 103) (fun s_ => [(24, .agg #[s_])]) (fun s_ w' => (w'.cell? ⟨gb5751, 0, none⟩ = some (.int .i64 a2_0) ∧ w'.cell? ⟨gb5751, 1, none⟩ = some (.int .i64 a2_1)) ∧ (Kd.R (Kd.int .i64) 3 w' w.heap.size (fun _ => True) s_ t5752) ∧ (w'.heap[gb5751]? = some (.cells #[.int .i64 a2_0, .int .i64 a2_1] 57 (0, 0))) ∧ (Below w.heap.size w w')) ?_ ?_
                          rotate_left
                          · intro hJ1
                            refine join_ (σ := Nat) 6 (demurrageref03_Part.ups 11 613) (fun s_ => [(10, .pointer (some ⟨s_, 0, none⟩))]) (fun s_ w' => (w'.cell? ⟨gb5751, 0, none⟩ = some (.int .i64 a2_0) ∧ w'.cell? ⟨gb5751, 1, none⟩ = some (.int .i64 a2_1)) ∧ (w'.heap[gb5751]? = some (.cells #[.int .i64 a2_0, .int .i64 a2_1] 57 (0, 0))) ∧ (w'.heap[s_]? = some (.cells #[.slice none 0 0] 28 (0, 0))) ∧ (w.heap.size ≤ s_) ∧ (w.heap.size ≤ s_) ∧ (gb5751 ≠ s_) ∧ (s_ ≠ gb5751) ∧ (Below w.heap.size w w')) ?_ ?_
                            rotate_left
                            · intro hJ9
                              refine two_ (i := 1) (j := 9) (Ni := some 24) (Nj := some 10) (demurrageref03_Part.ups 11 103) (demurrageref03_Part.ups 11 613) rfl rfl rfl rfl (two_of HT_.out (by kernel_rfl)) (by decide) (by decide) (fun K hK => ?_) (fun K hK => ?_)
                              · skip
                                refine goes_ Try.func71 (by kernel_rfl) rfl #[.int .i64 a0] (by rfl) rfl rfl (by (try simp only [List.map_toArray, List.map_cons, List.map_nil]); first | done | rfl) ?_
                                with_reducible refine (demurrageref01_From.calls kj4 a0 t5752 _ A10.out).mono ?_
                                rintro e w21 ⟨v5753, rfl, ho0, hb⟩
                                refine ⟨_, rfl, ?_⟩
                                have n0_ := Aside0.mk (Kd.R_lower ho0 (below_size (by repeat (first | (with_reducible first | exact HB.out | apply below_alloc | apply pw_below_drewN | apply below_drew1 | refine below_set ?_ GE5751.out) | exact HB.out))))
                                have n1_ := Aside0.mk (blk_below BK5751.out hb)
                                have n2_ := Aside0.mk (below_step (by repeat (first | (with_reducible first | exact HB.out | apply below_alloc | apply pw_below_drewN | apply below_drew1 | refine below_set ?_ GE5751.out) | exact HB.out)) hb)
                                clear BK5751 HB
                                have HO5754 := n0_
                                have BK5751 := n1_
                                have HB := n2_
                                clear n0_ n1_ n2_
                                (try clear hb)
                                (try clear hb2)
                                (try clear hk)
                                (try clear hi)
                                (try clear ho0)
                                refine hK.out _ _ ⟨(blk_cell BK5751.out 0).trans rfl, (blk_cell BK5751.out 1).trans rfl⟩ (fun hHeld => ?_)
                                clear hK K
                                refine norm_ (a' := ?_) ?_ ?_
                                rotate_left
                                · show Act.put _ (some 24) _ = _
                                  simp only [Act.put, List.setIfInBounds_toArray, List.set_cons_zero, List.set_cons_succ, i64_w, i32_w]
                                  rfl
                                exact norm_ (by first | (simp only [putAll, Act.put, List.setIfInBounds_toArray, List.set_cons_zero, List.set_cons_succ]; done) | (simp only [putAll, Act.put, List.setIfInBounds_toArray, List.set_cons_zero, List.set_cons_succ]; rfl)) (hJ1 (_) _ ⟨hHeld, HO5754.out, BK5751.out, (by repeat (first | (with_reducible first | exact HB.out | apply below_alloc | apply pw_below_drewN | apply below_drew1 | refine below_set ?_ GE5751.out) | exact HB.out))⟩)
                              · skip
                                refine box_step ?hg (N := 10) ?hd (cs := #[.slice none 0 0]) (t := 28) ?hr ?_; (case hd => rfl); (case hg => rfl); (case hr => go_simp)
                                intro gb5767 hg w21 hbox hb
                                have n0_ := Aside0.mk (blk_below BK5751.out hb)
                                have n1_ := Aside0.mk (below_step (by repeat (first | (with_reducible first | exact HB.out | apply below_alloc | apply pw_below_drewN | apply below_drew1 | refine below_set ?_ GE5751.out) | exact HB.out)) hb)
                                have n2_ := Aside0.mk (hbox)
                                have n3_ := Aside0.mk ((by rw [hg]; exact (below_size (by repeat (first | (with_reducible first | exact HB.out | apply below_alloc | apply pw_below_drewN | apply below_drew1 | refine below_set ?_ GE5751.out) | exact HB.out))) : w.heap.size ≤ gb5767))
                                have n4_ := Aside0.mk ((by rw [hg]; exact (below_size (by repeat (first | (with_reducible first | exact HB.out | apply below_alloc | apply pw_below_drewN | apply below_drew1 | refine below_set ?_ GE5751.out) | exact HB.out))) : w.heap.size ≤ gb5767))
                                have n5_ := Aside0.mk ((by rw [hg]; exact Nat.ne_of_lt (blk_lt (g := gb5751) (o := .cells #[.int .i64 a2_0, .int .i64 a2_1] 57 (0, 0)) BK5751.out) : gb5751 ≠ gb5767))
                                have n6_ := Aside0.mk ((by rw [hg]; exact Nat.ne_of_gt (blk_lt (g := gb5751) (o := .cells #[.int .i64 a2_0, .int .i64 a2_1] 57 (0, 0)) BK5751.out) : gb5767 ≠ gb5751))
                                clear BK5751 HB
                                have BK5751 := n0_
                                have HB := n1_
                                have BK5767 := n2_
                                have GW5767 := n3_
                                have GE5767 := n4_
                                have NB5751_5767 := n5_
                                have NB5767_5751 := n6_
                                clear n0_ n1_ n2_ n3_ n4_ n5_ n6_ hb hbox hg
                                refine hK.out _ _ ⟨(blk_cell BK5751.out 0).trans rfl, (blk_cell BK5751.out 1).trans rfl⟩ (fun hHeld => ?_)
                                clear hK K
                                refine norm_ (a' := ?_) ?_ ?_
                                rotate_left
                                · show Act.put _ (some 10) _ = _
                                  simp only [Act.put, List.setIfInBounds_toArray, List.set_cons_zero, List.set_cons_succ, i64_w, i32_w]
                                  rfl
                                exact norm_ (by first | (simp only [putAll, Act.put, List.setIfInBounds_toArray, List.set_cons_zero, List.set_cons_succ]; done) | (simp only [putAll, Act.put, List.setIfInBounds_toArray, List.set_cons_zero, List.set_cons_succ]; rfl)) (hJ9 (gb5767) _ ⟨hHeld, BK5751.out, BK5767.out, GW5767.out, GE5767.out, NB5751_5767.out, NB5767_5751.out, (by repeat (first | (with_reducible first | exact HB.out | apply below_alloc | apply pw_below_drewN | apply below_drew1 | refine below_set ?_ GE5751.out | refine below_set ?_ GE5767.out) | exact HB.out))⟩)
                            · skip
                              rintro gb5767 w22 ⟨hS_, h0_, h1_, h2_, h3_, h4_, h5_, h6_⟩
                              have n0_ : Aside0 (w22.heap[gb5751]? = some (.cells #[.int .i64 a2_0, .int .i64 a2_1] 57 (0, 0))) := ⟨h0_⟩
                              have n1_ : Aside0 (w22.heap[gb5767]? = some (.cells #[.slice none 0 0] 28 (0, 0))) := ⟨h1_⟩
                              have n2_ : Aside0 (w.heap.size ≤ gb5767) := ⟨h2_⟩
                              have n3_ : Aside0 (w.heap.size ≤ gb5767) := ⟨h3_⟩
                              have n4_ : Aside0 (gb5751 ≠ gb5767) := ⟨h4_⟩
                              have n5_ : Aside0 (gb5767 ≠ gb5751) := ⟨h5_⟩
                              have n6_ : Aside0 (Below w.heap.size w w22) := ⟨h6_⟩
                              clear BK5751 HB h0_ h1_ h2_ h3_ h4_ h5_ h6_
                              have BK5751 := n0_
                              have BK5767 := n1_
                              have GW5767 := n2_
                              have GE5767 := n3_
                              have NB5751_5767 := n4_
                              have NB5767_5751 := n5_
                              have HB := n6_
                              clear n0_ n1_ n2_ n3_ n4_ n5_ n6_
                              have hHeld : w22.cell? ⟨gb5751, 0, none⟩ = some (.int .i64 a2_0) ∧ w22.cell? ⟨gb5751, 1, none⟩ = some (.int .i64 a2_1) := hS_
                              refine norm_ (a' := ?_) ?_ ?_
                              rotate_left
                              · simp only [putAll, Act.put, List.setIfInBounds_toArray, List.set_cons_zero, List.set_cons_succ]
                                rfl
                              refine one_ (i := 1) (N := some 24) (demurrageref03_Part.ups 11 615) rfl rfl (one_of HT_.out (by kernel_rfl)) (by decide) (fun K hK => ?_)
                              refine goes_ Try.func71 (by kernel_rfl) rfl #[.int .i64 a0] (by rfl) rfl rfl (by (try simp only [List.map_toArray, List.map_cons, List.map_nil]); first | done | rfl) ?_
                              with_reducible refine (demurrageref01_From.calls kj4 a0 t5752 _ A10.out).mono ?_
                              rintro e w23 ⟨v5753, rfl, ho0, hb⟩
                              refine ⟨_, rfl, ?_⟩
                              have n0_ := Aside0.mk (Kd.R_lower ho0 (below_size (by repeat (first | (with_reducible first | exact HB.out | apply below_alloc | apply pw_below_drewN | apply below_drew1 | refine below_set ?_ GE5751.out | refine below_set ?_ GE5767.out) | exact HB.out))))
                              have n1_ := Aside0.mk (blk_below BK5751.out hb)
                              have n2_ := Aside0.mk (blk_below BK5767.out hb)
                              have n3_ := Aside0.mk (below_step (by repeat (first | (with_reducible first | exact HB.out | apply below_alloc | apply pw_below_drewN | apply below_drew1 | refine below_set ?_ GE5751.out | refine below_set ?_ GE5767.out) | exact HB.out)) hb)
                              clear BK5751 BK5767 HB
                              have HO5754 := n0_
                              have BK5751 := n1_
                              have BK5767 := n2_
                              have HB := n3_
                              clear n0_ n1_ n2_ n3_
                              (try clear hb)
                              (try clear hb2)
                              (try clear hk)
                              (try clear hi)
                              (try clear ho0)
                              refine hK.out _ _ ⟨(blk_cell BK5751.out 0).trans rfl, (blk_cell BK5751.out 1).trans rfl⟩ (fun hHeld => ?_)
                              clear hK K
                              refine norm_ (a' := ?_) ?_ ?_
                              rotate_left
                              · show Act.put _ (some 24) _ = _
                                simp only [Act.put, List.setIfInBounds_toArray, List.set_cons_zero, List.set_cons_succ, i64_w, i32_w]
                                rfl
                              exact norm_ (by first | (simp only [putAll, Act.put, List.setIfInBounds_toArray, List.set_cons_zero, List.set_cons_succ]; done) | (simp only [putAll, Act.put, List.setIfInBounds_toArray, List.set_cons_zero, List.set_cons_succ]; rfl)) (hJ1_9 (_, gb5767) _ ⟨hHeld, HO5754.out, BK5751.out, BK5767.out, GW5767.out, GE5767.out, NB5751_5767.out, NB5767_5751.out, (by repeat (first | (with_reducible first | exact HB.out | apply below_alloc | apply pw_below_drewN | apply below_drew1 | refine below_set ?_ GE5751.out | refine below_set ?_ GE5767.out) | exact HB.out))⟩)
                          · skip
                            rintro v5753 w22 ⟨hS_, h0_, h1_, h2_⟩
                            have n0_ : Aside0 (Kd.R (Kd.int .i64) 3 w22 w.heap.size (fun _ => True) v5753 t5752) := ⟨h0_⟩
                            have n1_ : Aside0 (w22.heap[gb5751]? = some (.cells #[.int .i64 a2_0, .int .i64 a2_1] 57 (0, 0))) := ⟨h1_⟩
                            have n2_ : Aside0 (Below w.heap.size w w22) := ⟨h2_⟩
                            clear BK5751 HB h0_ h1_ h2_
                            have HO5754 := n0_
                            have BK5751 := n1_
                            have HB := n2_
                            clear n0_ n1_ n2_
                            have hHeld : w22.cell? ⟨gb5751, 0, none⟩ = some (.int .i64 a2_0) ∧ w22.cell? ⟨gb5751, 1, none⟩ = some (.int .i64 a2_1) := hS_
                            refine norm_ (a' := ?_) ?_ ?_
                            rotate_left
                            · simp only [putAll, Act.put, List.setIfInBounds_toArray, List.set_cons_zero, List.set_cons_succ]
                              rfl
                            refine two_ (i := 3) (j := 9) (Ni := some 26) (Nj := some 10) (demurrageref03_Part.ups 11 111) (demurrageref03_Part.ups 11 615) rfl rfl rfl rfl (two_of HT_.out (by kernel_rfl)) (by decide) (by decide) (fun K hK => ?_) (fun K hK => ?_)
                            · skip
                              refine goes_ Try.func71 (by kernel_rfl) rfl #[.int .i64 a1] (by rfl) rfl rfl (by (try simp only [List.map_toArray, List.map_cons, List.map_nil]); first | done | rfl) ?_
                              with_reducible refine (demurrageref01_From.calls kj4 a1 t5755 _ A11.out).mono ?_
                              rintro e w23 ⟨v5756, rfl, ho0, hb⟩
                              refine ⟨_, rfl, ?_⟩
                              have n0_ := Aside0.mk (Kd.R_elder' HO5754.out (Kd.R_base ho0) hb)
                              have n1_ := Aside0.mk (Kd.R_lower (Kd.R_new' ho0 (Kd.R_lt HO5754.out)) (below_size (by repeat (first | (with_reducible first | exact HB.out | apply below_alloc | apply pw_below_drewN | apply below_drew1 | refine below_set ?_ GE5751.out) | exact HB.out))))
                              have n2_ := Aside0.mk (blk_below BK5751.out hb)
                              have n3_ := Aside0.mk (below_step (by repeat (first | (with_reducible first | exact HB.out | apply below_alloc | apply pw_below_drewN | apply below_drew1 | refine below_set ?_ GE5751.out) | exact HB.out)) hb)
                              clear HO5754 BK5751 HB
                              have HO5754 := n0_
                              have HO5757 := n1_
                              have BK5751 := n2_
                              have HB := n3_
                              clear n0_ n1_ n2_ n3_
                              (try clear hb)
                              (try clear hb2)
                              (try clear hk)
                              (try clear hi)
                              (try clear ho0)
                              refine hK.out _ _ ⟨(blk_cell BK5751.out 0).trans rfl, (blk_cell BK5751.out 1).trans rfl⟩ (fun hHeld => ?_)
                              clear hK K
                              refine norm_ (a' := ?_) ?_ ?_
                              rotate_left
                              · show Act.put _ (some 26) _ = _
                                simp only [Act.put, List.setIfInBounds_toArray, List.set_cons_zero, List.set_cons_succ, i64_w, i32_w]
                                rfl
                              exact norm_ (by first | (simp only [putAll, Act.put, List.setIfInBounds_toArray, List.set_cons_zero, List.set_cons_succ]; done) | (simp only [putAll, Act.put, List.setIfInBounds_toArray, List.set_cons_zero, List.set_cons_succ]; rfl)) (hJ1_3 (_, _) _ ⟨hHeld, (by (with_reducible repeat (first | apply Kd.R_alloc | apply Kd.R_drewN | apply Kd.R_drew)); exact Kd.R_mono HO5754.out (fun _ hk => hk.2)), (by (with_reducible repeat (first | apply Kd.R_alloc | apply Kd.R_drewN | apply Kd.R_drew)); exact Kd.R_mono HO5757.out (fun _ hk => hk.2)), BK5751.out, (by repeat (first | (with_reducible first | exact HB.out | apply below_alloc | apply pw_below_drewN | apply below_drew1 | refine below_set ?_ GE5751.out) | exact HB.out))⟩)
                            · skip
                              refine box_step ?hg (N := 10) ?hd (cs := #[.slice none 0 0]) (t := 28) ?hr ?_; (case hd => rfl); (case hg => rfl); (case hr => go_simp)
                              intro gb5767 hg w23 hbox hb
                              have n0_ := Aside0.mk (Kd.R_below HO5754.out hb)
                              have n1_ := Aside0.mk (blk_below BK5751.out hb)
                              have n2_ := Aside0.mk (below_step (by repeat (first | (with_reducible first | exact HB.out | apply below_alloc | apply pw_below_drewN | apply below_drew1 | refine below_set ?_ GE5751.out) | exact HB.out)) hb)
                              have n3_ := Aside0.mk (hbox)
                              have n4_ := Aside0.mk ((by rw [hg]; exact (below_size (by repeat (first | (with_reducible first | exact HB.out | apply below_alloc | apply pw_below_drewN | apply below_drew1 | refine below_set ?_ GE5751.out) | exact HB.out))) : w.heap.size ≤ gb5767))
                              have n5_ := Aside0.mk ((by rw [hg]; exact (below_size (by repeat (first | (with_reducible first | exact HB.out | apply below_alloc | apply pw_below_drewN | apply below_drew1 | refine below_set ?_ GE5751.out) | exact HB.out))) : w.heap.size ≤ gb5767))
                              have n6_ := Aside0.mk ((by rw [hg]; exact Nat.ne_of_lt (blk_lt (g := gb5751) (o := .cells #[.int .i64 a2_0, .int .i64 a2_1] 57 (0, 0)) BK5751.out) : gb5751 ≠ gb5767))
                              have n7_ := Aside0.mk ((by rw [hg]; exact Nat.ne_of_gt (blk_lt (g := gb5751) (o := .cells #[.int .i64 a2_0, .int .i64 a2_1] 57 (0, 0)) BK5751.out) : gb5767 ≠ gb5751))
                              clear HO5754 BK5751 HB
                              have HO5754 := n0_
                              have BK5751 := n1_
                              have HB := n2_
                              have BK5767 := n3_
                              have GW5767 := n4_
                              have GE5767 := n5_
                              have NB5751_5767 := n6_
                              have NB5767_5751 := n7_
                              clear n0_ n1_ n2_ n3_ n4_ n5_ n6_ n7_ hb hbox hg
                              refine hK.out _ _ ⟨(blk_cell BK5751.out 0).trans rfl, (blk_cell BK5751.out 1).trans rfl⟩ (fun hHeld => ?_)
                              clear hK K
                              refine norm_ (a' := ?_) ?_ ?_
                              rotate_left
                              · show Act.put _ (some 10) _ = _
                                simp only [Act.put, List.setIfInBounds_toArray, List.set_cons_zero, List.set_cons_succ, i64_w, i32_w]
                                rfl
                              exact norm_ (by first | (simp only [putAll, Act.put, List.setIfInBounds_toArray, List.set_cons_zero, List.set_cons_succ]; done) | (simp only [putAll, Act.put, List.setIfInBounds_toArray, List.set_cons_zero, List.set_cons_succ]; rfl)) (hJ1_9 (_, gb5767) _ ⟨hHeld, HO5754.out, BK5751.out, BK5767.out, GW5767.out, GE5767.out, NB5751_5767.out, NB5767_5751.out, (by repeat (first | (with_reducible first | exact HB.out | apply below_alloc | apply pw_below_drewN | apply below_drew1 | refine below_set ?_ GE5751.out | refine below_set ?_ GE5767.out) | exact HB.out))⟩)
                        · skip
                          rintro ⟨v5753, gb5767⟩ w23 ⟨hS_, h0_, h1_, h2_, h3_, h4_, h5_, h6_, h7_⟩
                          have n0_ : Aside0 (Kd.R (Kd.int .i64) 3 w23 w.heap.size (fun _ => True) v5753 t5752) := ⟨h0_⟩
                          have n1_ : Aside0 (w23.heap[gb5751]? = some (.cells #[.int .i64 a2_0, .int .i64 a2_1] 57 (0, 0))) := ⟨h1_⟩
                          have n2_ : Aside0 (w23.heap[gb5767]? = some (.cells #[.slice none 0 0] 28 (0, 0))) := ⟨h2_⟩
                          have n3_ : Aside0 (w.heap.size ≤ gb5767) := ⟨h3_⟩
                          have n4_ : Aside0 (w.heap.size ≤ gb5767) := ⟨h4_⟩
                          have n5_ : Aside0 (gb5751 ≠ gb5767) := ⟨h5_⟩
                          have n6_ : Aside0 (gb5767 ≠ gb5751) := ⟨h6_⟩
                          have n7_ : Aside0 (Below w.heap.size w w23) := ⟨h7_⟩
                          clear BK5751 HB h0_ h1_ h2_ h3_ h4_ h5_ h6_ h7_
                          have HO5754 := n0_
                          have BK5751 := n1_
                          have BK5767 := n2_
                          have GW5767 := n3_
                          have GE5767 := n4_
                          have NB5751_5767 := n5_
                          have NB5767_5751 := n6_
                          have HB := n7_
                          clear n0_ n1_ n2_ n3_ n4_ n5_ n6_ n7_
                          have hHeld : w23.cell? ⟨gb5751, 0, none⟩ = some (.int .i64 a2_0) ∧ w23.cell? ⟨gb5751, 1, none⟩ = some (.int .i64 a2_1) := hS_
                          refine norm_ (a' := ?_) ?_ ?_
                          rotate_left
                          · simp only [putAll, Act.put, List.setIfInBounds_toArray, List.set_cons_zero, List.set_cons_succ]
                            rfl
                          refine one_ (i := 3) (N := some 26) (demurrageref03_Part.ups 11 623) rfl rfl (one_of HT_.out (by kernel_rfl)) (by decide) (fun K hK => ?_)
                          refine goes_ Try.func71 (by kernel_rfl) rfl #[.int .i64 a1] (by rfl) rfl rfl (by (try simp only [List.map_toArray, List.map_cons, List.map_nil]); first | done | rfl) ?_
                          with_reducible refine (demurrageref01_From.calls kj4 a1 t5755 _ A11.out).mono ?_
                          rintro e w24 ⟨v5756, rfl, ho0, hb⟩
                          refine ⟨_, rfl, ?_⟩
                          have n0_ := Aside0.mk (Kd.R_elder' HO5754.out (Kd.R_base ho0) hb)
                          have n1_ := Aside0.mk (Kd.R_lower (Kd.R_new' ho0 (Kd.R_lt HO5754.out)) (below_size (by repeat (first | (with_reducible first | exact HB.out | apply below_alloc | apply pw_below_drewN | apply below_drew1 | refine below_set ?_ GE5751.out | refine below_set ?_ GE5767.out) | exact HB.out))))
                          have n2_ := Aside0.mk (blk_below BK5751.out hb)
                          have n3_ := Aside0.mk (blk_below BK5767.out hb)
                          have n4_ := Aside0.mk (below_step (by repeat (first | (with_reducible first | exact HB.out | apply below_alloc | apply pw_below_drewN | apply below_drew1 | refine below_set ?_ GE5751.out | refine below_set ?_ GE5767.out) | exact HB.out)) hb)
                          clear HO5754 BK5751 BK5767 HB
                          have HO5754 := n0_
                          have HO5757 := n1_
                          have BK5751 := n2_
                          have BK5767 := n3_
                          have HB := n4_
                          clear n0_ n1_ n2_ n3_ n4_
                          (try clear hb)
                          (try clear hb2)
                          (try clear hk)
                          (try clear hi)
                          (try clear ho0)
                          refine hK.out _ _ ⟨(blk_cell BK5751.out 0).trans rfl, (blk_cell BK5751.out 1).trans rfl⟩ (fun hHeld => ?_)
                          clear hK K
                          refine norm_ (a' := ?_) ?_ ?_
                          rotate_left
                          · show Act.put _ (some 26) _ = _
                            simp only [Act.put, List.setIfInBounds_toArray, List.set_cons_zero, List.set_cons_succ, i64_w, i32_w]
                            rfl
                          exact norm_ (by first | (simp only [putAll, Act.put, List.setIfInBounds_toArray, List.set_cons_zero, List.set_cons_succ]; done) | (simp only [putAll, Act.put, List.setIfInBounds_toArray, List.set_cons_zero, List.set_cons_succ]; rfl)) (hJ1_3_9 (_, _, gb5767) _ ⟨hHeld, (by (with_reducible repeat (first | apply Kd.R_alloc | apply Kd.R_drewN | apply Kd.R_drew)); exact Kd.R_mono HO5754.out (fun _ hk => hk.2)), (by (with_reducible repeat (first | apply Kd.R_alloc | apply Kd.R_drewN | apply Kd.R_drew)); exact Kd.R_mono HO5757.out (fun _ hk => hk.2)), BK5751.out, BK5767.out, GW5767.out, GE5767.out, NB5751_5767.out, NB5767_5751.out, (by repeat (first | (with_reducible first | exact HB.out | apply below_alloc | apply pw_below_drewN | apply below_drew1 | refine below_set ?_ GE5751.out | refine below_set ?_ GE5767.out) | exact HB.out))⟩)
                      · skip
                        rintro ⟨v5753, v5756⟩ w23 ⟨hS_, h0_, h1_, h2_, h3_⟩
                        have n0_ : Aside0 (Kd.R (Kd.int .i64) 3 w23 w.heap.size (fun k_ => some k_ ≠ (v5756 : Value).ownBlock) v5753 t5752) := ⟨h0_⟩
                        have n1_ : Aside0 (Kd.R (Kd.int .i64) 3 w23 w.heap.size (fun k_ => some k_ ≠ (v5753 : Value).ownBlock) v5756 t5755) := ⟨h1_⟩
                        have n2_ : Aside0 (w23.heap[gb5751]? = some (.cells #[.int .i64 a2_0, .int .i64 a2_1] 57 (0, 0))) := ⟨h2_⟩
                        have n3_ : Aside0 (Below w.heap.size w w23) := ⟨h3_⟩
                        clear BK5751 HB h0_ h1_ h2_ h3_
                        have HO5754 := n0_
                        have HO5757 := n1_
                        have BK5751 := n2_
                        have HB := n3_
                        clear n0_ n1_ n2_ n3_
                        have hHeld : w23.cell? ⟨gb5751, 0, none⟩ = some (.int .i64 a2_0) ∧ w23.cell? ⟨gb5751, 1, none⟩ = some (.int .i64 a2_1) := hS_
                        obtain ⟨Ao24, co24, eo24⟩ := Kd.R_slice HO5754.out
                        (first | subst eo24 | (injection eo24 with f1_ f2_ f3_; have f4_ := f1_.symm; have f5_ := f3_.symm; clear f1_ f2_ f3_; subst f4_; subst f5_))
                        obtain ⟨Ao25, co25, eo25⟩ := Kd.R_slice HO5757.out
                        (first | subst eo25 | (injection eo25 with f1_ f2_ f3_; have f4_ := f1_.symm; have f5_ := f3_.symm; clear f1_ f2_ f3_; subst f4_; subst f5_))
                        refine norm_ (a' := ?_) ?_ ?_
                        rotate_left
                        · simp only [putAll, Act.put, List.setIfInBounds_toArray, List.set_cons_zero, List.set_cons_succ]
                          rfl
                        refine two_ (i := 4) (j := 9) (Ni := some 27) (Nj := some 10) (demurrageref03_Part.ups 11 127) (demurrageref03_Part.ups 11 623) rfl rfl rfl rfl (two_of HT_.out (by kernel_rfl)) (by decide) (by decide) (fun K hK => ?_) (fun K hK => ?_)
                        · skip
                          refine goes_ Try.func29 (by kernel_rfl) rfl #[.agg #[.slice Ao24 t5752.length co24], .agg #[.slice Ao25 t5755.length co25]] (by rfl) rfl rfl (by (try simp only [List.map_toArray, List.map_cons, List.map_nil]); first | done | rfl) ?_
                          with_reducible refine (demurrageref01_Prod.calls kj4 _ _ t5752 _ _ t5755 t5758 _ ?side1 ?side2 ?side3 ?side4 A12.out).mono ?_
                          (case side1 => repeat (first | exact (Kd.R_reads' HO5754.out).2.2 | (with_reducible refine Kd.C_alloc ?_ _) | (with_reducible refine Kd.C_drewN ?_ _) | (with_reducible refine Kd.C_drew ?_)))
                          (case side2 => exact (Kd.R_reads' HO5754.out).2.1)
                          (case side3 => repeat (first | exact (Kd.R_reads' HO5757.out).2.2 | (with_reducible refine Kd.C_alloc ?_ _) | (with_reducible refine Kd.C_drewN ?_ _) | (with_reducible refine Kd.C_drew ?_)))
                          (case side4 => exact (Kd.R_reads' HO5757.out).2.1)
                          rintro e w26 ⟨v5759, rfl, ho0, hb⟩
                          refine ⟨_, rfl, ?_⟩
                          have n0_ := Aside0.mk (Kd.R_elder' HO5754.out (Kd.R_base ho0) hb)
                          have n1_ := Aside0.mk (Kd.R_elder' HO5757.out (Kd.R_base ho0) hb)
                          have n2_ := Aside0.mk (Kd.R_lower (Kd.R_new' (Kd.R_new' ho0 (Kd.R_lt HO5754.out)) (Kd.R_lt HO5757.out)) (below_size (by repeat (first | (with_reducible first | exact HB.out | apply below_alloc | apply pw_below_drewN | apply below_drew1 | refine below_set ?_ GE5751.out) | exact HB.out))))
                          have n3_ := Aside0.mk (blk_below BK5751.out hb)
                          have n4_ := Aside0.mk (below_step (by repeat (first | (with_reducible first | exact HB.out | apply below_alloc | apply pw_below_drewN | apply below_drew1 | refine below_set ?_ GE5751.out) | exact HB.out)) hb)
                          clear HO5754 HO5757 BK5751 HB
                          have HO5754 := n0_
                          have HO5757 := n1_
                          have HO5760 := n2_
                          have BK5751 := n3_
                          have HB := n4_
                          clear n0_ n1_ n2_ n3_ n4_
                          (try clear hb)
                          (try clear hb2)
                          (try clear hk)
                          (try clear hi)
                          (try clear ho0)
                          refine hK.out _ _ ⟨(blk_cell BK5751.out 0).trans rfl, (blk_cell BK5751.out 1).trans rfl⟩ (fun hHeld => ?_)
                          clear hK K
                          refine norm_ (a' := ?_) ?_ ?_
                          rotate_left
                          · show Act.put _ (some 27) _ = _
                            simp only [Act.put, List.setIfInBounds_toArray, List.set_cons_zero, List.set_cons_succ, i64_w, i32_w]
                            rfl
                          exact norm_ (by first | (simp only [putAll, Act.put, List.setIfInBounds_toArray, List.set_cons_zero, List.set_cons_succ]; done) | (simp only [putAll, Act.put, List.setIfInBounds_toArray, List.set_cons_zero, List.set_cons_succ]; rfl)) (hJ1_3_4 (.slice Ao24 t5752.length co24, .slice Ao25 t5755.length co25, _) _ ⟨hHeld, HO5754.out, HO5757.out, (by (with_reducible repeat (first | apply Kd.R_alloc | apply Kd.R_drewN | apply Kd.R_drew)); exact Kd.R_mono HO5760.out (fun _ hk => (And.intro (hk.1.2) (hk.2)))), BK5751.out, (by repeat (first | (with_reducible first | exact HB.out | apply below_alloc | apply pw_below_drewN | apply below_drew1 | refine below_set ?_ GE5751.out) | exact HB.out))⟩)
                        · skip
                          refine box_step ?hg (N := 10) ?hd (cs := #[.slice none 0 0]) (t := 28) ?hr ?_; (case hd => rfl); (case hg => rfl); (case hr => go_simp)
                          intro gb5767 hg w24 hbox hb
                          have n0_ := Aside0.mk (Kd.R_below HO5754.out hb)
                          have n1_ := Aside0.mk (Kd.R_below HO5757.out hb)
                          have n2_ := Aside0.mk (blk_below BK5751.out hb)
                          have n3_ := Aside0.mk (below_step (by repeat (first | (with_reducible first | exact HB.out | apply below_alloc | apply pw_below_drewN | apply below_drew1 | refine below_set ?_ GE5751.out) | exact HB.out)) hb)
                          have n4_ := Aside0.mk (hbox)
                          have n5_ := Aside0.mk ((by rw [hg]; exact (below_size (by repeat (first | (with_reducible first | exact HB.out | apply below_alloc | apply pw_below_drewN | apply below_drew1 | refine below_set ?_ GE5751.out) | exact HB.out))) : w.heap.size ≤ gb5767))
                          have n6_ := Aside0.mk ((by rw [hg]; exact (below_size (by repeat (first | (with_reducible first | exact HB.out | apply below_alloc | apply pw_below_drewN | apply below_drew1 | refine below_set ?_ GE5751.out) | exact HB.out))) : w.heap.size ≤ gb5767))
                          have n7_ := Aside0.mk ((by rw [hg]; exact Nat.ne_of_lt (blk_lt (g := gb5751) (o := .cells #[.int .i64 a2_0, .int .i64 a2_1] 57 (0, 0)) BK5751.out) : gb5751 ≠ gb5767))
                          have n8_ := Aside0.mk ((by rw [hg]; exact Nat.ne_of_gt (blk_lt (g := gb5751) (o := .cells #[.int .i64 a2_0, .int .i64 a2_1] 57 (0, 0)) BK5751.out) : gb5767 ≠ gb5751))
                          clear HO5754 HO5757 BK5751 HB
                          have HO5754 := n0_
                          have HO5757 := n1_
                          have BK5751 := n2_
                          have HB := n3_
                          have BK5767 := n4_
                          have GW5767 := n5_
                          have GE5767 := n6_
                          have NB5751_5767 := n7_
                          have NB5767_5751 := n8_
                          clear n0_ n1_ n2_ n3_ n4_ n5_ n6_ n7_ n8_ hb hbox hg
                          refine hK.out _ _ ⟨(blk_cell BK5751.out 0).trans rfl, (blk_cell BK5751.out 1).trans rfl⟩ (fun hHeld => ?_)
                          clear hK K
                          refine norm_ (a' := ?_) ?_ ?_
                          rotate_left
                          · show Act.put _ (some 10) _ = _
                            simp only [Act.put, List.setIfInBounds_toArray, List.set_cons_zero, List.set_cons_succ, i64_w, i32_w]
                            rfl
                          exact norm_ (by first | (simp only [putAll, Act.put, List.setIfInBounds_toArray, List.set_cons_zero, List.set_cons_succ]; done) | (simp only [putAll, Act.put, List.setIfInBounds_toArray, List.set_cons_zero, List.set_cons_succ]; rfl)) (hJ1_3_9 (_, _, gb5767) _ ⟨hHeld, HO5754.out, HO5757.out, BK5751.out, BK5767.out, GW5767.out, GE5767.out, NB5751_5767.out, NB5767_5751.out, (by repeat (first | (with_reducible first | exact HB.out | apply below_alloc | apply pw_below_drewN | apply below_drew1 | refine below_set ?_ GE5751.out | refine below_set ?_ GE5767.out) | exact HB.out))⟩)
                    · skip
                      rintro ⟨v5753, v5756, gb5767⟩ w24 ⟨hS_, h0_, h1_, h2_, h3_, h4_, h5_, h6_, h7_, h8_⟩
                      have n0_ : Aside0 (Kd.R (Kd.int .i64) 3 w24 w.heap.size (fun k_ => some k_ ≠ (v5756 : Value).ownBlock) v5753 t5752) := ⟨h0_⟩
                      have n1_ : Aside0 (Kd.R (Kd.int .i64) 3 w24 w.heap.size (fun k_ => some k_ ≠ (v5753 : Value).ownBlock) v5756 t5755) := ⟨h1_⟩
                      have n2_ : Aside0 (w24.heap[gb5751]? = some (.cells #[.int .i64 a2_0, .int .i64 a2_1] 57 (0, 0))) := ⟨h2_⟩
                      have n3_ : Aside0 (w24.heap[gb5767]? = some (.cells #[.slice none 0 0] 28 (0, 0))) := ⟨h3_⟩
                      have n4_ : Aside0 (w.heap.size ≤ gb5767) := ⟨h4_⟩
                      have n5_ : Aside0 (w.heap.size ≤ gb5767) := ⟨h5_⟩
                      have n6_ : Aside0 (gb5751 ≠ gb5767) := ⟨h6_⟩
                      have n7_ : Aside0 (gb5767 ≠ gb5751) := ⟨h7_⟩
                      have n8_ : Aside0 (Below w.heap.size w w24) := ⟨h8_⟩
                      clear BK5751 HB h0_ h1_ h2_ h3_ h4_ h5_ h6_ h7_ h8_
                      have HO5754 := n0_
                      have HO5757 := n1_
                      have BK5751 := n2_
                      have BK5767 := n3_
                      have GW5767 := n4_
                      have GE5767 := n5_
                      have NB5751_5767 := n6_
                      have NB5767_5751 := n7_
                      have HB := n8_
                      clear n0_ n1_ n2_ n3_ n4_ n5_ n6_ n7_ n8_
                      have hHeld : w24.cell? ⟨gb5751, 0, none⟩ = some (.int .i64 a2_0) ∧ w24.cell? ⟨gb5751, 1, none⟩ = some (.int .i64 a2_1) := hS_
                      obtain ⟨Ao25, co25, eo25⟩ := Kd.R_slice HO5754.out
                      (first | subst eo25 | (injection eo25 with f1_ f2_ f3_; have f4_ := f1_.symm; have f5_ := f3_.symm; clear f1_ f2_ f3_; subst f4_; subst f5_))
                      obtain ⟨Ao26, co26, eo26⟩ := Kd.R_slice HO5757.out
                      (first | subst eo26 | (injection eo26 with f1_ f2_ f3_; have f4_ := f1_.symm; have f5_ := f3_.symm; clear f1_ f2_ f3_; subst f4_; subst f5_))
                      refine norm_ (a' := ?_) ?_ ?_
                      rotate_left
                      · simp only [putAll, Act.put, List.setIfInBounds_toArray, List.set_cons_zero, List.set_cons_succ]
                        rfl
                      refine one_ (i := 4) (N := some 27) (demurrageref03_Part.ups 11 639) rfl rfl (one_of HT_.out (by kernel_rfl)) (by decide) (fun K hK => ?_)
                      refine goes_ Try.func29 (by kernel_rfl) rfl #[.agg #[.slice Ao25 t5752.length co25], .agg #[.slice Ao26 t5755.length co26]] (by rfl) rfl rfl (by (try simp only [List.map_toArray, List.map_cons, List.map_nil]); first | done | rfl) ?_
                      with_reducible refine (demurrageref01_Prod.calls kj4 _ _ t5752 _ _ t5755 t5758 _ ?side1 ?side2 ?side3 ?side4 A12.out).mono ?_
                      (case side1 => repeat (first | exact (Kd.R_reads' HO5754.out).2.2 | (with_reducible refine Kd.C_alloc ?_ _) | (with_reducible refine Kd.C_drewN ?_ _) | (with_reducible refine Kd.C_drew ?_)))
                      (case side2 => exact (Kd.R_reads' HO5754.out).2.1)
                      (case side3 => repeat (first | exact (Kd.R_reads' HO5757.out).2.2 | (with_reducible refine Kd.C_alloc ?_ _) | (with_reducible refine Kd.C_drewN ?_ _) | (with_reducible refine Kd.C_drew ?_)))
                      (case side4 => exact (Kd.R_reads' HO5757.out).2.1)
                      rintro e w27 ⟨v5759, rfl, ho0, hb⟩
                      refine ⟨_, rfl, ?_⟩
                      have n0_ := Aside0.mk (Kd.R_elder' HO5754.out (Kd.R_base ho0) hb)
                      have n1_ := Aside0.mk (Kd.R_elder' HO5757.out (Kd.R_base ho0) hb)
                      have n2_ := Aside0.mk (Kd.R_lower (Kd.R_new' (Kd.R_new' ho0 (Kd.R_lt HO5754.out)) (Kd.R_lt HO5757.out)) (below_size (by repeat (first | (with_reducible first | exact HB.out | apply below_alloc | apply pw_below_drewN | apply below_drew1 | refine below_set ?_ GE5751.out | refine below_set ?_ GE5767.out) | exact HB.out))))
                      have n3_ := Aside0.mk (blk_below BK5751.out hb)
                      have n4_ := Aside0.mk (blk_below BK5767.out hb)
                      have n5_ := Aside0.mk (below_step (by repeat (first | (with_reducible first | exact HB.out | apply below_alloc | apply pw_below_drewN | apply below_drew1 | refine below_set ?_ GE5751.out | refine below_set ?_ GE5767.out) | exact HB.out)) hb)
                      clear HO5754 HO5757 BK5751 BK5767 HB
                      have HO5754 := n0_
                      have HO5757 := n1_
                      have HO5760 := n2_
                      have BK5751 := n3_
                      have BK5767 := n4_
                      have HB := n5_
                      clear n0_ n1_ n2_ n3_ n4_ n5_
                      (try clear hb)
                      (try clear hb2)
                      (try clear hk)
                      (try clear hi)
                      (try clear ho0)
                      refine hK.out _ _ ⟨(blk_cell BK5751.out 0).trans rfl, (blk_cell BK5751.out 1).trans rfl⟩ (fun hHeld => ?_)
                      clear hK K
                      refine norm_ (a' := ?_) ?_ ?_
                      rotate_left
                      · show Act.put _ (some 27) _ = _
                        simp only [Act.put, List.setIfInBounds_toArray, List.set_cons_zero, List.set_cons_succ, i64_w, i32_w]
                        rfl
                      exact norm_ (by first | (simp only [putAll, Act.put, List.setIfInBounds_toArray, List.set_cons_zero, List.set_cons_succ]; done) | (simp only [putAll, Act.put, List.setIfInBounds_toArray, List.set_cons_zero, List.set_cons_succ]; rfl)) (hJ1_3_4_9 (.slice Ao25 t5752.length co25, .slice Ao26 t5755.length co26, _, gb5767) _ ⟨hHeld, HO5754.out, HO5757.out, (by (with_reducible repeat (first | apply Kd.R_alloc | apply Kd.R_drewN | apply Kd.R_drew)); exact Kd.R_mono HO5760.out (fun _ hk => (And.intro (hk.1.2) (hk.2)))), BK5751.out, BK5767.out, GW5767.out, GE5767.out, NB5751_5767.out, NB5767_5751.out, (by repeat (first | (with_reducible first | exact HB.out | apply below_alloc | apply pw_below_drewN | apply below_drew1 | refine below_set ?_ GE5751.out | refine below_set ?_ GE5767.out) | exact HB.out))⟩)
                  · skip
                    rintro ⟨v5753, v5756, v5759⟩ w26 ⟨hS_, h0_, h1_, h2_, h3_, h4_⟩
                    have n0_ : Aside0 (Kd.R (Kd.int .i64) 3 w26 w.heap.size (fun k_ => some k_ ≠ (v5756 : Value).ownBlock ∧ some k_ ≠ (v5759 : Value).ownBlock) v5753 t5752) := ⟨h0_⟩
                    have n1_ : Aside0 (Kd.R (Kd.int .i64) 3 w26 w.heap.size (fun k_ => some k_ ≠ (v5753 : Value).ownBlock ∧ some k_ ≠ (v5759 : Value).ownBlock) v5756 t5755) := ⟨h1_⟩
                    have n2_ : Aside0 (Kd.R (Kd.int .i64) 3 w26 w.heap.size (fun k_ => some k_ ≠ (v5753 : Value).ownBlock ∧ some k_ ≠ (v5756 : Value).ownBlock) v5759 t5758) := ⟨h2_⟩
                    have n3_ : Aside0 (w26.heap[gb5751]? = some (.cells #[.int .i64 a2_0, .int .i64 a2_1] 57 (0, 0))) := ⟨h3_⟩
                    have n4_ : Aside0 (Below w.heap.size w w26) := ⟨h4_⟩
                    clear BK5751 HB h0_ h1_ h2_ h3_ h4_
                    have HO5754 := n0_
                    have HO5757 := n1_
                    have HO5760 := n2_
                    have BK5751 := n3_
                    have HB := n4_
                    clear n0_ n1_ n2_ n3_ n4_
                    have hHeld : w26.cell? ⟨gb5751, 0, none⟩ = some (.int .i64 a2_0) ∧ w26.cell? ⟨gb5751, 1, none⟩ = some (.int .i64 a2_1) := hS_
                    refine norm_ (a' := ?_) ?_ ?_
                    rotate_left
                    · simp only [putAll, Act.put, List.setIfInBounds_toArray, List.set_cons_zero, List.set_cons_succ]
                      rfl
                    refine two_ (i := 7) (j := 9) (Ni := some 30) (Nj := some 10) (demurrageref03_Part.ups 11 255) (demurrageref03_Part.ups 11 639) rfl rfl rfl rfl (two_of HT_.out (by kernel_rfl)) (by decide) (by decide) (fun K hK => ?_) (fun K hK => ?_)
                    · skip
                      refine goes_ Try.func71 (by kernel_rfl) rfl #[.int .i64 a2_0] (by rfl) rfl rfl (by (try simp only [List.map_toArray, List.map_cons, List.map_nil]); first | done | rfl) ?_
                      with_reducible refine (demurrageref01_From.calls kj4 a2_0 t5761 _ A13.out).mono ?_
                      rintro e w27 ⟨v5762, rfl, ho0, hb⟩
                      refine ⟨_, rfl, ?_⟩
                      have n0_ := Aside0.mk (Kd.R_elder' HO5754.out (Kd.R_base ho0) hb)
                      have n1_ := Aside0.mk (Kd.R_elder' HO5757.out (Kd.R_base ho0) hb)
                      have n2_ := Aside0.mk (Kd.R_elder' HO5760.out (Kd.R_base ho0) hb)
                      have n3_ := Aside0.mk (Kd.R_lower (Kd.R_new' (Kd.R_new' (Kd.R_new' ho0 (Kd.R_lt HO5754.out)) (Kd.R_lt HO5757.out)) (Kd.R_lt HO5760.out)) (below_size (by repeat (first | (with_reducible first | exact HB.out | apply below_alloc | apply pw_below_drewN | apply below_drew1 | refine below_set ?_ GE5751.out) | exact HB.out))))
                      have n4_ := Aside0.mk (blk_below BK5751.out hb)
                      have n5_ := Aside0.mk (below_step (by repeat (first | (with_reducible first | exact HB.out | apply below_alloc | apply pw_below_drewN | apply below_drew1 | refine below_set ?_ GE5751.out) | exact HB.out)) hb)
                      clear HO5754 HO5757 HO5760 BK5751 HB
                      have HO5754 := n0_
                      have HO5757 := n1_
                      have HO5760 := n2_
                      have HO5763 := n3_
                      have BK5751 := n4_
                      have HB := n5_
                      clear n0_ n1_ n2_ n3_ n4_ n5_
                      (try clear hb)
                      (try clear hb2)
                      (try clear hk)
                      (try clear hi)
                      (try clear ho0)
                      refine hK.out _ _ ⟨(blk_cell BK5751.out 0).trans rfl, (blk_cell BK5751.out 1).trans rfl⟩ (fun hHeld => ?_)
                      clear hK K
                      refine norm_ (a' := ?_) ?_ ?_
                      rotate_left
                      · show Act.put _ (some 30) _ = _
                        simp only [Act.put, List.setIfInBounds_toArray, List.set_cons_zero, List.set_cons_succ, i64_w, i32_w]
                        rfl
                      exact norm_ (by first | (simp only [putAll, Act.put, List.setIfInBounds_toArray, List.set_cons_zero, List.set_cons_succ]; done) | (simp only [putAll, Act.put, List.setIfInBounds_toArray, List.set_cons_zero, List.set_cons_succ]; rfl)) (hJ1_3_4_7 (_, _, _, _) _ ⟨hHeld, (by (with_reducible repeat (first | apply Kd.R_alloc | apply Kd.R_drewN | apply Kd.R_drew)); exact Kd.R_mono HO5754.out (fun _ hk => (And.intro (hk.1.1) ((And.intro (hk.1.2) (hk.2)))))), (by (with_reducible repeat (first | apply Kd.R_alloc | apply Kd.R_drewN | apply Kd.R_drew)); exact Kd.R_mono HO5757.out (fun _ hk => (And.intro (hk.1.1) ((And.intro (hk.1.2) (hk.2)))))), (by (with_reducible repeat (first | apply Kd.R_alloc | apply Kd.R_drewN | apply Kd.R_drew)); exact Kd.R_mono HO5760.out (fun _ hk => (And.intro (hk.1.1) ((And.intro (hk.1.2) (hk.2)))))), (by (with_reducible repeat (first | apply Kd.R_alloc | apply Kd.R_drewN | apply Kd.R_drew)); exact Kd.R_mono HO5763.out (fun _ hk => (And.intro (hk.1.1.2) ((And.intro (hk.1.2) (hk.2)))))), BK5751.out, (by repeat (first | (with_reducible first | exact HB.out | apply below_alloc | apply pw_below_drewN | apply below_drew1 | refine below_set ?_ GE5751.out) | exact HB.out))⟩)
                    · skip
                      refine box_step ?hg (N := 10) ?hd (cs := #[.slice none 0 0]) (t := 28) ?hr ?_; (case hd => rfl); (case hg => rfl); (case hr => go_simp)
                      intro gb5767 hg w27 hbox hb
                      have n0_ := Aside0.mk (Kd.R_below HO5754.out hb)
                      have n1_ := Aside0.mk (Kd.R_below HO5757.out hb)
                      have n2_ := Aside0.mk (Kd.R_below HO5760.out hb)
                      have n3_ := Aside0.mk (blk_below BK5751.out hb)
                      have n4_ := Aside0.mk (below_step (by repeat (first | (with_reducible first | exact HB.out | apply below_alloc | apply pw_below_drewN | apply below_drew1 | refine below_set ?_ GE5751.out) | exact HB.out)) hb)
                      have n5_ := Aside0.mk (hbox)
                      have n6_ := Aside0.mk ((by rw [hg]; exact (below_size (by repeat (first | (with_reducible first | exact HB.out | apply below_alloc | apply pw_below_drewN | apply below_drew1 | refine below_set ?_ GE5751.out) | exact HB.out))) : w.heap.size ≤ gb5767))
                      have n7_ := Aside0.mk ((by rw [hg]; exact (below_size (by repeat (first | (with_reducible first | exact HB.out | apply below_alloc | apply pw_below_drewN | apply below_drew1 | refine below_set ?_ GE5751.out) | exact HB.out))) : w.heap.size ≤ gb5767))
                      have n8_ := Aside0.mk ((by rw [hg]; exact Nat.ne_of_lt (blk_lt (g := gb5751) (o := .cells #[.int .i64 a2_0, .int .i64 a2_1] 57 (0, 0)) BK5751.out) : gb5751 ≠ gb5767))
                      have n9_ := Aside0.mk ((by rw [hg]; exact Nat.ne_of_gt (blk_lt (g := gb5751) (o := .cells #[.int .i64 a2_0, .int .i64 a2_1] 57 (0, 0)) BK5751.out) : gb5767 ≠ gb5751))
                      clear HO5754 HO5757 HO5760 BK5751 HB
                      have HO5754 := n0_
                      have HO5757 := n1_
                      have HO5760 := n2_
                      have BK5751 := n3_
                      have HB := n4_
                      have BK5767 := n5_
                      have GW5767 := n6_
                      have GE5767 := n7_
                      have NB5751_5767 := n8_
                      have NB5767_5751 := n9_
                      clear n0_ n1_ n2_ n3_ n4_ n5_ n6_ n7_ n8_ n9_ hb hbox hg
                      refine hK.out _ _ ⟨(blk_cell BK5751.out 0).trans rfl, (blk_cell BK5751.out 1).trans rfl⟩ (fun hHeld => ?_)
                      clear hK K
                      refine norm_ (a' := ?_) ?_ ?_
                      rotate_left
                      · show Act.put _ (some 10) _ = _
                        simp only [Act.put, List.setIfInBounds_toArray, List.set_cons_zero, List.set_cons_succ, i64_w, i32_w]
                        rfl
                      exact norm_ (by first | (simp only [putAll, Act.put, List.setIfInBounds_toArray, List.set_cons_zero, List.set_cons_succ]; done) | (simp only [putAll, Act.put, List.setIfInBounds_toArray, List.set_cons_zero, List.set_cons_succ]; rfl)) (hJ1_3_4_9 (_, _, _, gb5767) _ ⟨hHeld, HO5754.out, HO5757.out, HO5760.out, BK5751.out, BK5767.out, GW5767.out, GE5767.out, NB5751_5767.out, NB5767_5751.out, (by repeat (first | (with_reducible first | exact HB.out | apply below_alloc | apply pw_below_drewN | apply below_drew1 | refine below_set ?_ GE5751.out | refine below_set ?_ GE5767.out) | exact HB.out))⟩)
                · skip
                  rintro ⟨v5753, v5756, v5759, gb5767⟩ w27 ⟨hS_, h0_, h1_, h2_, h3_, h4_, h5_, h6_, h7_, h8_, h9_⟩
                  have n0_ : Aside0 (Kd.R (Kd.int .i64) 3 w27 w.heap.size (fun k_ => some k_ ≠ (v5756 : Value).ownBlock ∧ some k_ ≠ (v5759 : Value).ownBlock) v5753 t5752) := ⟨h0_⟩
                  have n1_ : Aside0 (Kd.R (Kd.int .i64) 3 w27 w.heap.size (fun k_ => some k_ ≠ (v5753 : Value).ownBlock ∧ some k_ ≠ (v5759 : Value).ownBlock) v5756 t5755) := ⟨h1_⟩
                  have n2_ : Aside0 (Kd.R (Kd.int .i64) 3 w27 w.heap.size (fun k_ => some k_ ≠ (v5753 : Value).ownBlock ∧ some k_ ≠ (v5756 : Value).ownBlock) v5759 t5758) := ⟨h2_⟩
                  have n3_ : Aside0 (w27.heap[gb5751]? = some (.cells #[.int .i64 a2_0, .int .i64 a2_1] 57 (0, 0))) := ⟨h3_⟩
                  have n4_ : Aside0 (w27.heap[gb5767]? = some (.cells #[.slice none 0 0] 28 (0, 0))) := ⟨h4_⟩
                  have n5_ : Aside0 (w.heap.size ≤ gb5767) := ⟨h5_⟩
                  have n6_ : Aside0 (w.heap.size ≤ gb5767) := ⟨h6_⟩
                  have n7_ : Aside0 (gb5751 ≠ gb5767) := ⟨h7_⟩
                  have n8_ : Aside0 (gb5767 ≠ gb5751) := ⟨h8_⟩
                  have n9_ : Aside0 (Below w.heap.size w w27) := ⟨h9_⟩
                  clear BK5751 HB h0_ h1_ h2_ h3_ h4_ h5_ h6_ h7_ h8_ h9_
                  have HO5754 := n0_
                  have HO5757 := n1_
                  have HO5760 := n2_
                  have BK5751 := n3_
                  have BK5767 := n4_
                  have GW5767 := n5_
                  have GE5767 := n6_
                  have NB5751_5767 := n7_
                  have NB5767_5751 := n8_
                  have HB := n9_
                  clear n0_ n1_ n2_ n3_ n4_ n5_ n6_ n7_ n8_ n9_
                  have hHeld : w27.cell? ⟨gb5751, 0, none⟩ = some (.int .i64 a2_0) ∧ w27.cell? ⟨gb5751, 1, none⟩ = some (.int .i64 a2_1) := hS_
                  refine norm_ (a' := ?_) ?_ ?_
                  rotate_left
                  · simp only [putAll, Act.put, List.setIfInBounds_toArray, List.set_cons_zero, List.set_cons_succ]
                    rfl
                  refine one_ (i := 7) (N := some 30) (demurrageref03_Part.ups 11 767) rfl rfl (one_of HT_.out (by kernel_rfl)) (by decide) (fun K hK => ?_)
                  refine goes_ Try.func71 (by kernel_rfl) rfl #[.int .i64 a2_0] (by rfl) rfl rfl (by (try simp only [List.map_toArray, List.map_cons, List.map_nil]); first | done | rfl) ?_
                  with_reducible refine (demurrageref01_From.calls kj4 a2_0 t5761 _ A13.out).mono ?_
                  rintro e w28 ⟨v5762, rfl, ho0, hb⟩
                  refine ⟨_, rfl, ?_⟩
                  have n0_ := Aside0.mk (Kd.R_elder' HO5754.out (Kd.R_base ho0) hb)
                  have n1_ := Aside0.mk (Kd.R_elder' HO5757.out (Kd.R_base ho0) hb)
                  have n2_ := Aside0.mk (Kd.R_elder' HO5760.out (Kd.R_base ho0) hb)
                  have n3_ := Aside0.mk (Kd.R_lower (Kd.R_new' (Kd.R_new' (Kd.R_new' ho0 (Kd.R_lt HO5754.out)) (Kd.R_lt HO5757.out)) (Kd.R_lt HO5760.out)) (below_size (by repeat (first | (with_reducible first | exact HB.out | apply below_alloc | apply pw_below_drewN | apply below_drew1 | refine below_set ?_ GE5751.out | refine below_set ?_ GE5767.out) | exact HB.out))))
                  have n4_ := Aside0.mk (blk_below BK5751.out hb)
                  have n5_ := Aside0.mk (blk_below BK5767.out hb)
                  have n6_ := Aside0.mk (below_step (by repeat (first | (with_reducible first | exact HB.out | apply below_alloc | apply pw_below_drewN | apply below_drew1 | refine below_set ?_ GE5751.out | refine below_set ?_ GE5767.out) | exact HB.out)) hb)
                  clear HO5754 HO5757 HO5760 BK5751 BK5767 HB
                  have HO5754 := n0_
                  have HO5757 := n1_
                  have HO5760 := n2_
                  have HO5763 := n3_
                  have BK5751 := n4_
                  have BK5767 := n5_
                  have HB := n6_
                  clear n0_ n1_ n2_ n3_ n4_ n5_ n6_
                  (try clear hb)
                  (try clear hb2)
                  (try clear hk)
                  (try clear hi)
                  (try clear ho0)
                  refine hK.out _ _ ⟨(blk_cell BK5751.out 0).trans rfl, (blk_cell BK5751.out 1).trans rfl⟩ (fun hHeld => ?_)
                  clear hK K
                  refine norm_ (a' := ?_) ?_ ?_
                  rotate_left
                  · show Act.put _ (some 30) _ = _
                    simp only [Act.put, List.setIfInBounds_toArray, List.set_cons_zero, List.set_cons_succ, i64_w, i32_w]
                    rfl
                  exact norm_ (by first | (simp only [putAll, Act.put, List.setIfInBounds_toArray, List.set_cons_zero, List.set_cons_succ]; done) | (simp only [putAll, Act.put, List.setIfInBounds_toArray, List.set_cons_zero, List.set_cons_succ]; rfl)) (hJ1_3_4_7_9 (_, _, _, _, gb5767) _ ⟨hHeld, (by (with_reducible repeat (first | apply Kd.R_alloc | apply Kd.R_drewN | apply Kd.R_drew)); exact Kd.R_mono HO5754.out (fun _ hk => (And.intro (hk.1.1) ((And.intro (hk.1.2) (hk.2)))))), (by (with_reducible repeat (first | apply Kd.R_alloc | apply Kd.R_drewN | apply Kd.R_drew)); exact Kd.R_mono HO5757.out (fun _ hk => (And.intro (hk.1.1) ((And.intro (hk.1.2) (hk.2)))))), (by (with_reducible repeat (first | apply Kd.R_alloc | apply Kd.R_drewN | apply Kd.R_drew)); exact Kd.R_mono HO5760.out (fun _ hk => (And.intro (hk.1.1) ((And.intro (hk.1.2) (hk.2)))))), (by (with_reducible repeat (first | apply Kd.R_alloc | apply Kd.R_drewN | apply Kd.R_drew)); exact Kd.R_mono HO5763.out (fun _ hk => (And.intro (hk.1.1.2) ((And.intro (hk.1.2) (hk.2)))))), BK5751.out, BK5767.out, GW5767.out, GE5767.out, NB5751_5767.out, NB5767_5751.out, (by repeat (first | (with_reducible first | exact HB.out | apply below_alloc | apply pw_below_drewN | apply below_drew1 | refine below_set ?_ GE5751.out | refine below_set ?_ GE5767.out) | exact HB.out))⟩)
              · skip
                rintro ⟨v5753, v5756, v5759, v5762⟩ w27 ⟨hS_, h0_, h1_, h2_, h3_, h4_, h5_⟩
                have n0_ : Aside0 (Kd.R (Kd.int .i64) 3 w27 w.heap.size (fun k_ => some k_ ≠ (v5756 : Value).ownBlock ∧ some k_ ≠ (v5759 : Value).ownBlock ∧ some k_ ≠ (v5762 : Value).ownBlock) v5753 t5752) := ⟨h0_⟩
                have n1_ : Aside0 (Kd.R (Kd.int .i64) 3 w27 w.heap.size (fun k_ => some k_ ≠ (v5753 : Value).ownBlock ∧ some k_ ≠ (v5759 : Value).ownBlock ∧ some k_ ≠ (v5762 : Value).ownBlock) v5756 t5755) := ⟨h1_⟩
                have n2_ : Aside0 (Kd.R (Kd.int .i64) 3 w27 w.heap.size (fun k_ => some k_ ≠ (v5753 : Value).ownBlock ∧ some k_ ≠ (v5756 : Value).ownBlock ∧ some k_ ≠ (v5762 : Value).ownBlock) v5759 t5758) := ⟨h2_⟩
                have n3_ : Aside0 (Kd.R (Kd.int .i64) 3 w27 w.heap.size (fun k_ => some k_ ≠ (v5753 : Value).ownBlock ∧ some k_ ≠ (v5756 : Value).ownBlock ∧ some k_ ≠ (v5759 : Value).ownBlock) v5762 t5761) := ⟨h3_⟩
                have n4_ : Aside0 (w27.heap[gb5751]? = some (.cells #[.int .i64 a2_0, .int .i64 a2_1] 57 (0, 0))) := ⟨h4_⟩
                have n5_ : Aside0 (Below w.heap.size w w27) := ⟨h5_⟩
                clear BK5751 HB h0_ h1_ h2_ h3_ h4_ h5_
                have HO5754 := n0_
                have HO5757 := n1_
                have HO5760 := n2_
                have HO5763 := n3_
                have BK5751 := n4_
                have HB := n5_
                clear n0_ n1_ n2_ n3_ n4_ n5_
                have hHeld : w27.cell? ⟨gb5751, 0, none⟩ = some (.int .i64 a2_0) ∧ w27.cell? ⟨gb5751, 1, none⟩ = some (.int .i64 a2_1) := hS_
                obtain ⟨Ao28, co28, eo28⟩ := Kd.R_slice HO5760.out
                (first | subst eo28 | (injection eo28 with f1_ f2_ f3_; have f4_ := f1_.symm; have f5_ := f3_.symm; clear f1_ f2_ f3_; subst f4_; subst f5_))
                obtain ⟨Ao29, co29, eo29⟩ := Kd.R_slice HO5763.out
                (first | subst eo29 | (injection eo29 with f1_ f2_ f3_; have f4_ := f1_.symm; have f5_ := f3_.symm; clear f1_ f2_ f3_; subst f4_; subst f5_))
                refine norm_ (a' := ?_) ?_ ?_
                rotate_left
                · simp only [putAll, Act.put, List.setIfInBounds_toArray, List.set_cons_zero, List.set_cons_succ]
                  rfl
                refine two_ (i := 8) (j := 9) (Ni := some 31) (Nj := some 10) (demurrageref03_Part.ups 11 511) (demurrageref03_Part.ups 11 767) rfl rfl rfl rfl (two_of HT_.out (by kernel_rfl)) (by decide) (by decide) (fun K hK => ?_) (fun K hK => ?_)
                · skip
                  refine goes_ Try.func29 (by kernel_rfl) rfl #[.agg #[.slice Ao28 t5758.length co28], .agg #[.slice Ao29 t5761.length co29]] (by rfl) rfl rfl (by (try simp only [List.map_toArray, List.map_cons, List.map_nil]); first | done | rfl) ?_
                  with_reducible refine (demurrageref01_Prod.calls kj4 _ _ t5758 _ _ t5761 t5764 _ ?side1 ?side2 ?side3 ?side4 A14.out).mono ?_
                  (case side1 => repeat (first | exact (Kd.R_reads' HO5760.out).2.2 | (with_reducible refine Kd.C_alloc ?_ _) | (with_reducible refine Kd.C_drewN ?_ _) | (with_reducible refine Kd.C_drew ?_)))
                  (case side2 => exact (Kd.R_reads' HO5760.out).2.1)
                  (case side3 => repeat (first | exact (Kd.R_reads' HO5763.out).2.2 | (with_reducible refine Kd.C_alloc ?_ _) | (with_reducible refine Kd.C_drewN ?_ _) | (with_reducible refine Kd.C_drew ?_)))
                  (case side4 => exact (Kd.R_reads' HO5763.out).2.1)
                  rintro e w30 ⟨v5765, rfl, ho0, hb⟩
                  refine ⟨_, rfl, ?_⟩
                  have n0_ := Aside0.mk (Kd.R_elder' HO5754.out (Kd.R_base ho0) hb)
                  have n1_ := Aside0.mk (Kd.R_elder' HO5757.out (Kd.R_base ho0) hb)
                  have n2_ := Aside0.mk (Kd.R_elder' HO5760.out (Kd.R_base ho0) hb)
                  have n3_ := Aside0.mk (Kd.R_elder' HO5763.out (Kd.R_base ho0) hb)
                  have n4_ := Aside0.mk (Kd.R_lower (Kd.R_new' (Kd.R_new' (Kd.R_new' (Kd.R_new' ho0 (Kd.R_lt HO5754.out)) (Kd.R_lt HO5757.out)) (Kd.R_lt HO5760.out)) (Kd.R_lt HO5763.out)) (below_size (by repeat (first | (with_reducible first | exact HB.out | apply below_alloc | apply pw_below_drewN | apply below_drew1 | refine below_set ?_ GE5751.out) | exact HB.out))))
                  have n5_ := Aside0.mk (blk_below BK5751.out hb)
                  have n6_ := Aside0.mk (below_step (by repeat (first | (with_reducible first | exact HB.out | apply below_alloc | apply pw_below_drewN | apply below_drew1 | refine below_set ?_ GE5751.out) | exact HB.out)) hb)
                  clear HO5754 HO5757 HO5760 HO5763 BK5751 HB
                  have HO5754 := n0_
                  have HO5757 := n1_
                  have HO5760 := n2_
                  have HO5763 := n3_
                  have HO5766 := n4_
                  have BK5751 := n5_
                  have HB := n6_
                  clear n0_ n1_ n2_ n3_ n4_ n5_ n6_
                  (try clear hb)
                  (try clear hb2)
                  (try clear hk)
                  (try clear hi)
                  (try clear ho0)
                  refine hK.out _ _ ⟨(blk_cell BK5751.out 0).trans rfl, (blk_cell BK5751.out 1).trans rfl⟩ (fun hHeld => ?_)
                  clear hK K
                  refine norm_ (a' := ?_) ?_ ?_
                  rotate_left
                  · show Act.put _ (some 31) _ = _
                    simp only [Act.put, List.setIfInBounds_toArray, List.set_cons_zero, List.set_cons_succ, i64_w, i32_w]
                    rfl
                  exact norm_ (by first | (simp only [putAll, Act.put, List.setIfInBounds_toArray, List.set_cons_zero, List.set_cons_succ]; done) | (simp only [putAll, Act.put, List.setIfInBounds_toArray, List.set_cons_zero, List.set_cons_succ]; rfl)) (hJ1_3_4_7_8 (_, _, .slice Ao28 t5758.length co28, .slice Ao29 t5761.length co29, _) _ ⟨hHeld, (by (with_reducible repeat (first | apply Kd.R_alloc | apply Kd.R_drewN | apply Kd.R_drew)); exact Kd.R_mono HO5754.out (fun _ hk => (And.intro (hk.1.1) ((And.intro (hk.1.2.1) ((And.intro (hk.1.2.2) (hk.2)))))))), (by (with_reducible repeat (first | apply Kd.R_alloc | apply Kd.R_drewN | apply Kd.R_drew)); exact Kd.R_mono HO5757.out (fun _ hk => (And.intro (hk.1.1) ((And.intro (hk.1.2.1) ((And.intro (hk.1.2.2) (hk.2)))))))), (by (with_reducible repeat (first | apply Kd.R_alloc | apply Kd.R_drewN | apply Kd.R_drew)); exact Kd.R_mono HO5760.out (fun _ hk => (And.intro (hk.1.1) ((And.intro (hk.1.2.1) ((And.intro (hk.1.2.2) (hk.2)))))))), (by (with_reducible repeat (first | apply Kd.R_alloc | apply Kd.R_drewN | apply Kd.R_drew)); exact Kd.R_mono HO5763.out (fun _ hk => (And.intro (hk.1.1) ((And.intro (hk.1.2.1) ((And.intro (hk.1.2.2) (hk.2)))))))), (by (with_reducible repeat (first | apply Kd.R_alloc | apply Kd.R_drewN | apply Kd.R_drew)); exact Kd.R_mono HO5766.out (fun _ hk => (And.intro (hk.1.1.1.2) ((And.intro (hk.1.1.2) ((And.intro (hk.1.2) (hk.2)))))))), BK5751.out, (by repeat (first | (with_reducible first | exact HB.out | apply below_alloc | apply pw_below_drewN | apply below_drew1 | refine below_set ?_ GE5751.out) | exact HB.out))⟩)
                · skip
                  refine box_step ?hg (N := 10) ?hd (cs := #[.slice none 0 0]) (t := 28) ?hr ?_; (case hd => rfl); (case hg => rfl); (case hr => go_simp)
                  intro gb5767 hg w28 hbox hb
                  have n0_ := Aside0.mk (Kd.R_below HO5754.out hb)
                  have n1_ := Aside0.mk (Kd.R_below HO5757.out hb)
                  have n2_ := Aside0.mk (Kd.R_below HO5760.out hb)
                  have n3_ := Aside0.mk (Kd.R_below HO5763.out hb)
                  have n4_ := Aside0.mk (blk_below BK5751.out hb)
                  have n5_ := Aside0.mk (below_step (by repeat (first | (with_reducible first | exact HB.out | apply below_alloc | apply pw_below_drewN | apply below_drew1 | refine below_set ?_ GE5751.out) | exact HB.out)) hb)
                  have n6_ := Aside0.mk (hbox)
                  have n7_ := Aside0.mk ((by rw [hg]; exact (below_size (by repeat (first | (with_reducible first | exact HB.out | apply below_alloc | apply pw_below_drewN | apply below_drew1 | refine below_set ?_ GE5751.out) | exact HB.out))) : w.heap.size ≤ gb5767))
                  have n8_ := Aside0.mk ((by rw [hg]; exact (below_size (by repeat (first | (with_reducible first | exact HB.out | apply below_alloc | apply pw_below_drewN | apply below_drew1 | refine below_set ?_ GE5751.out) | exact HB.out))) : w.heap.size ≤ gb5767))
                  have n9_ := Aside0.mk ((by rw [hg]; exact Nat.ne_of_lt (blk_lt (g := gb5751) (o := .cells #[.int .i64 a2_0, .int .i64 a2_1] 57 (0, 0)) BK5751.out) : gb5751 ≠ gb5767))
                  have n10_ := Aside0.mk ((by rw [hg]; exact Nat.ne_of_gt (blk_lt (g := gb5751) (o := .cells #[.int .i64 a2_0, .int .i64 a2_1] 57 (0, 0)) BK5751.out) : gb5767 ≠ gb5751))
                  clear HO5754 HO5757 HO5760 HO5763 BK5751 HB
                  have HO5754 := n0_
                  have HO5757 := n1_
                  have HO5760 := n2_
                  have HO5763 := n3_
                  have BK5751 := n4_
                  have HB := n5_
                  have BK5767 := n6_
                  have GW5767 := n7_
                  have GE5767 := n8_
                  have NB5751_5767 := n9_
                  have NB5767_5751 := n10_
                  clear n0_ n1_ n2_ n3_ n4_ n5_ n6_ n7_ n8_ n9_ n10_ hb hbox hg
                  refine hK.out _ _ ⟨(blk_cell BK5751.out 0).trans rfl, (blk_cell BK5751.out 1).trans rfl⟩ (fun hHeld => ?_)
                  clear hK K
                  refine norm_ (a' := ?_) ?_ ?_
                  rotate_left
                  · show Act.put _ (some 10) _ = _
                    simp only [Act.put, List.setIfInBounds_toArray, List.set_cons_zero, List.set_cons_succ, i64_w, i32_w]
                    rfl
                  exact norm_ (by first | (simp only [putAll, Act.put, List.setIfInBounds_toArray, List.set_cons_zero, List.set_cons_succ]; done) | (simp only [putAll, Act.put, List.setIfInBounds_toArray, List.set_cons_zero, List.set_cons_succ]; rfl)) (hJ1_3_4_7_9 (_, _, _, _, gb5767) _ ⟨hHeld, HO5754.out, HO5757.out, HO5760.out, HO5763.out, BK5751.out, BK5767.out, GW5767.out, GE5767.out, NB5751_5767.out, NB5767_5751.out, (by repeat (first | (with_reducible first | exact HB.out | apply below_alloc | apply pw_below_drewN | apply below_drew1 | refine below_set ?_ GE5751.out | refine below_set ?_ GE5767.out) | exact HB.out))⟩)
            · skip
              rintro ⟨v5753, v5756, v5759, v5762, gb5767⟩ w28 ⟨hS_, h0_, h1_, h2_, h3_, h4_, h5_, h6_, h7_, h8_, h9_, h10_⟩
              have n0_ : Aside0 (Kd.R (Kd.int .i64) 3 w28 w.heap.size (fun k_ => some k_ ≠ (v5756 : Value).ownBlock ∧ some k_ ≠ (v5759 : Value).ownBlock ∧ some k_ ≠ (v5762 : Value).ownBlock) v5753 t5752) := ⟨h0_⟩
              have n1_ : Aside0 (Kd.R (Kd.int .i64) 3 w28 w.heap.size (fun k_ => some k_ ≠ (v5753 : Value).ownBlock ∧ some k_ ≠ (v5759 : Value).ownBlock ∧ some k_ ≠ (v5762 : Value).ownBlock) v5756 t5755) := ⟨h1_⟩
              have n2_ : Aside0 (Kd.R (Kd.int .i64) 3 w28 w.heap.size (fun k_ => some k_ ≠ (v5753 : Value).ownBlock ∧ some k_ ≠ (v5756 : Value).ownBlock ∧ some k_ ≠ (v5762 : Value).ownBlock) v5759 t5758) := ⟨h2_⟩
              have n3_ : Aside0 (Kd.R (Kd.int .i64) 3 w28 w.heap.size (fun k_ => some k_ ≠ (v5753 : Value).ownBlock ∧ some k_ ≠ (v5756 : Value).ownBlock ∧ some k_ ≠ (v5759 : Value).ownBlock) v5762 t5761) := ⟨h3_⟩
              have n4_ : Aside0 (w28.heap[gb5751]? = some (.cells #[.int .i64 a2_0, .int .i64 a2_1] 57 (0, 0))) := ⟨h4_⟩
              have n5_ : Aside0 (w28.heap[gb5767]? = some (.cells #[.slice none 0 0] 28 (0, 0))) := ⟨h5_⟩
              have n6_ : Aside0 (w.heap.size ≤ gb5767) := ⟨h6_⟩
              have n7_ : Aside0 (w.heap.size ≤ gb5767) := ⟨h7_⟩
              have n8_ : Aside0 (gb5751 ≠ gb5767) := ⟨h8_⟩
              have n9_ : Aside0 (gb5767 ≠ gb5751) := ⟨h9_⟩
              have n10_ : Aside0 (Below w.heap.size w w28) := ⟨h10_⟩
              clear BK5751 HB h0_ h1_ h2_ h3_ h4_ h5_ h6_ h7_ h8_ h9_ h10_
              have HO5754 := n0_
              have HO5757 := n1_
              have HO5760 := n2_
              have HO5763 := n3_
              have BK5751 := n4_
              have BK5767 := n5_
              have GW5767 := n6_
              have GE5767 := n7_
              have NB5751_5767 := n8_
              have NB5767_5751 := n9_
              have HB := n10_
              clear n0_ n1_ n2_ n3_ n4_ n5_ n6_ n7_ n8_ n9_ n10_
              have hHeld : w28.cell? ⟨gb5751, 0, none⟩ = some (.int .i64 a2_0) ∧ w28.cell? ⟨gb5751, 1, none⟩ = some (.int .i64 a2_1) := hS_
              obtain ⟨Ao29, co29, eo29⟩ := Kd.R_slice HO5760.out
              (first | subst eo29 | (injection eo29 with f1_ f2_ f3_; have f4_ := f1_.symm; have f5_ := f3_.symm; clear f1_ f2_ f3_; subst f4_; subst f5_))
              obtain ⟨Ao30, co30, eo30⟩ := Kd.R_slice HO5763.out
              (first | subst eo30 | (injection eo30 with f1_ f2_ f3_; have f4_ := f1_.symm; have f5_ := f3_.symm; clear f1_ f2_ f3_; subst f4_; subst f5_))
              refine norm_ (a' := ?_) ?_ ?_
              rotate_left
              · simp only [putAll, Act.put, List.setIfInBounds_toArray, List.set_cons_zero, List.set_cons_succ]
                rfl
              refine one_ (i := 8) (N := some 31) (demurrageref03_Part.ups 11 1023) rfl rfl (one_of HT_.out (by kernel_rfl)) (by decide) (fun K hK => ?_)
              refine goes_ Try.func29 (by kernel_rfl) rfl #[.agg #[.slice Ao29 t5758.length co29], .agg #[.slice Ao30 t5761.length co30]] (by rfl) rfl rfl (by (try simp only [List.map_toArray, List.map_cons, List.map_nil]); first | done | rfl) ?_
              with_reducible refine (demurrageref01_Prod.calls kj4 _ _ t5758 _ _ t5761 t5764 _ ?side1 ?side2 ?side3 ?side4 A14.out).mono ?_
              (case side1 => repeat (first | exact (Kd.R_reads' HO5760.out).2.2 | (with_reducible refine Kd.C_alloc ?_ _) | (with_reducible refine Kd.C_drewN ?_ _) | (with_reducible refine Kd.C_drew ?_)))
              (case side2 => exact (Kd.R_reads' HO5760.out).2.1)
              (case side3 => repeat (first | exact (Kd.R_reads' HO5763.out).2.2 | (with_reducible refine Kd.C_alloc ?_ _) | (with_reducible refine Kd.C_drewN ?_ _) | (with_reducible refine Kd.C_drew ?_)))
              (case side4 => exact (Kd.R_reads' HO5763.out).2.1)
              rintro e w31 ⟨v5765, rfl, ho0, hb⟩
              refine ⟨_, rfl, ?_⟩
              have n0_ := Aside0.mk (Kd.R_elder' HO5754.out (Kd.R_base ho0) hb)
              have n1_ := Aside0.mk (Kd.R_elder' HO5757.out (Kd.R_base ho0) hb)
              have n2_ := Aside0.mk (Kd.R_elder' HO5760.out (Kd.R_base ho0) hb)
              have n3_ := Aside0.mk (Kd.R_elder' HO5763.out (Kd.R_base ho0) hb)
              have n4_ := Aside0.mk (Kd.R_lower (Kd.R_new' (Kd.R_new' (Kd.R_new' (Kd.R_new' ho0 (Kd.R_lt HO5754.out)) (Kd.R_lt HO5757.out)) (Kd.R_lt HO5760.out)) (Kd.R_lt HO5763.out)) (below_size (by repeat (first | (with_reducible first | exact HB.out | apply below_alloc | apply pw_below_drewN | apply below_drew1 | refine below_set ?_ GE5751.out | refine below_set ?_ GE5767.out) | exact HB.out))))
              have n5_ := Aside0.mk (blk_below BK5751.out hb)
              have n6_ := Aside0.mk (blk_below BK5767.out hb)
              have n7_ := Aside0.mk (below_step (by repeat (first | (with_reducible first | exact HB.out | apply below_alloc | apply pw_below_drewN | apply below_drew1 | refine below_set ?_ GE5751.out | refine below_set ?_ GE5767.out) | exact HB.out)) hb)
              clear HO5754 HO5757 HO5760 HO5763 BK5751 BK5767 HB
              have HO5754 := n0_
              have HO5757 := n1_
              have HO5760 := n2_
              have HO5763 := n3_
              have HO5766 := n4_
              have BK5751 := n5_
              have BK5767 := n6_
              have HB := n7_
              clear n0_ n1_ n2_ n3_ n4_ n5_ n6_ n7_
              (try clear hb)
              (try clear hb2)
              (try clear hk)
              (try clear hi)
              (try clear ho0)
              refine hK.out _ _ ⟨(blk_cell BK5751.out 0).trans rfl, (blk_cell BK5751.out 1).trans rfl⟩ (fun hHeld => ?_)
              clear hK K
              refine norm_ (a' := ?_) ?_ ?_
              rotate_left
              · show Act.put _ (some 31) _ = _
                simp only [Act.put, List.setIfInBounds_toArray, List.set_cons_zero, List.set_cons_succ, i64_w, i32_w]
                rfl
              exact norm_ (by first | (simp only [putAll, Act.put, List.setIfInBounds_toArray, List.set_cons_zero, List.set_cons_succ]; done) | (simp only [putAll, Act.put, List.setIfInBounds_toArray, List.set_cons_zero, List.set_cons_succ]; rfl)) (hJ1_3_4_7_8_9 (_, _, .slice Ao29 t5758.length co29, .slice Ao30 t5761.length co30, _, gb5767) _ ⟨hHeld, (by (with_reducible repeat (first | apply Kd.R_alloc | apply Kd.R_drewN | apply Kd.R_drew)); exact Kd.R_mono HO5754.out (fun _ hk => (And.intro (hk.1.1) ((And.intro (hk.1.2.1) ((And.intro (hk.1.2.2) (hk.2)))))))), (by (with_reducible repeat (first | apply Kd.R_alloc | apply Kd.R_drewN | apply Kd.R_drew)); exact Kd.R_mono HO5757.out (fun _ hk => (And.intro (hk.1.1) ((And.intro (hk.1.2.1) ((And.intro (hk.1.2.2) (hk.2)))))))), (by (with_reducible repeat (first | apply Kd.R_alloc | apply Kd.R_drewN | apply Kd.R_drew)); exact Kd.R_mono HO5760.out (fun _ hk => (And.intro (hk.1.1) ((And.intro (hk.1.2.1) ((And.intro (hk.1.2.2) (hk.2)))))))), (by (with_reducible repeat (first | apply Kd.R_alloc | apply Kd.R_drewN | apply Kd.R_drew)); exact Kd.R_mono HO5763.out (fun _ hk => (And.intro (hk.1.1) ((And.intro (hk.1.2.1) ((And.intro (hk.1.2.2) (hk.2)))))))), (by (with_reducible repeat (first | apply Kd.R_alloc | apply Kd.R_drewN | apply Kd.R_drew)); exact Kd.R_mono HO5766.out (fun _ hk => (And.intro (hk.1.1.1.2) ((And.intro (hk.1.1.2) ((And.intro (hk.1.2) (hk.2)))))))), BK5751.out, BK5767.out, GW5767.out, GE5767.out, NB5751_5767.out, NB5767_5751.out, (by repeat (first | (with_reducible first | exact HB.out | apply below_alloc | apply pw_below_drewN | apply below_drew1 | refine below_set ?_ GE5751.out | refine below_set ?_ GE5767.out) | exact HB.out))⟩)
          · skip
            rintro ⟨v5753, v5756, v5759, v5762, v5765⟩ w30 ⟨hS_, h0_, h1_, h2_, h3_, h4_, h5_, h6_⟩
            have n0_ : Aside0 (Kd.R (Kd.int .i64) 3 w30 w.heap.size (fun k_ => some k_ ≠ (v5756 : Value).ownBlock ∧ some k_ ≠ (v5759 : Value).ownBlock ∧ some k_ ≠ (v5762 : Value).ownBlock ∧ some k_ ≠ (v5765 : Value).ownBlock) v5753 t5752) := ⟨h0_⟩
            have n1_ : Aside0 (Kd.R (Kd.int .i64) 3 w30 w.heap.size (fun k_ => some k_ ≠ (v5753 : Value).ownBlock ∧ some k_ ≠ (v5759 : Value).ownBlock ∧ some k_ ≠ (v5762 : Value).ownBlock ∧ some k_ ≠ (v5765 : Value).ownBlock) v5756 t5755) := ⟨h1_⟩
            have n2_ : Aside0 (Kd.R (Kd.int .i64) 3 w30 w.heap.size (fun k_ => some k_ ≠ (v5753 : Value).ownBlock ∧ some k_ ≠ (v5756 : Value).ownBlock ∧ some k_ ≠ (v5762 : Value).ownBlock ∧ some k_ ≠ (v5765 : Value).ownBlock) v5759 t5758) := ⟨h2_⟩
            have n3_ : Aside0 (Kd.R (Kd.int .i64) 3 w30 w.heap.size (fun k_ => some k_ ≠ (v5753 : Value).ownBlock ∧ some k_ ≠ (v5756 : Value).ownBlock ∧ some k_ ≠ (v5759 : Value).ownBlock ∧ some k_ ≠ (v5765 : Value).ownBlock) v5762 t5761) := ⟨h3_⟩
            have n4_ : Aside0 (Kd.R (Kd.int .i64) 3 w30 w.heap.size (fun k_ => some k_ ≠ (v5753 : Value).ownBlock ∧ some k_ ≠ (v5756 : Value).ownBlock ∧ some k_ ≠ (v5759 : Value).ownBlock ∧ some k_ ≠ (v5762 : Value).ownBlock) v5765 t5764) := ⟨h4_⟩
            have n5_ : Aside0 (w30.heap[gb5751]? = some (.cells #[.int .i64 a2_0, .int .i64 a2_1] 57 (0, 0))) := ⟨h5_⟩
            have n6_ : Aside0 (Below w.heap.size w w30) := ⟨h6_⟩
            clear BK5751 HB h0_ h1_ h2_ h3_ h4_ h5_ h6_
            have HO5754 := n0_
            have HO5757 := n1_
            have HO5760 := n2_
            have HO5763 := n3_
            have HO5766 := n4_
            have BK5751 := n5_
            have HB := n6_
            clear n0_ n1_ n2_ n3_ n4_ n5_ n6_
            have hHeld : w30.cell? ⟨gb5751, 0, none⟩ = some (.int .i64 a2_0) ∧ w30.cell? ⟨gb5751, 1, none⟩ = some (.int .i64 a2_1) := hS_
            refine norm_ (a' := ?_) ?_ ?_
            rotate_left
            · simp only [putAll, Act.put, List.setIfInBounds_toArray, List.set_cons_zero, List.set_cons_succ]
              rfl
            refine one_ (i := 9) (N := some 10) (demurrageref03_Part.ups 11 1023) rfl rfl (one_of HT_.out (by kernel_rfl)) (by decide) (fun K hK => ?_)
            refine box_step ?hg (N := 10) ?hd (cs := #[.slice none 0 0]) (t := 28) ?hr ?_; (case hd => rfl); (case hg => rfl); (case hr => go_simp)
            intro gb5767 hg w31 hbox hb
            have n0_ := Aside0.mk (Kd.R_below HO5754.out hb)
            have n1_ := Aside0.mk (Kd.R_below HO5757.out hb)
            have n2_ := Aside0.mk (Kd.R_below HO5760.out hb)
            have n3_ := Aside0.mk (Kd.R_below HO5763.out hb)
            have n4_ := Aside0.mk (Kd.R_below HO5766.out hb)
            have n5_ := Aside0.mk (blk_below BK5751.out hb)
            have n6_ := Aside0.mk (below_step (by repeat (first | (with_reducible first | exact HB.out | apply below_alloc | apply pw_below_drewN | apply below_drew1 | refine below_set ?_ GE5751.out) | exact HB.out)) hb)
            have n7_ := Aside0.mk (hbox)
            have n8_ := Aside0.mk ((by rw [hg]; exact (below_size (by repeat (first | (with_reducible first | exact HB.out | apply below_alloc | apply pw_below_drewN | apply below_drew1 | refine below_set ?_ GE5751.out) | exact HB.out))) : w.heap.size ≤ gb5767))
            have n9_ := Aside0.mk ((by rw [hg]; exact (below_size (by repeat (first | (with_reducible first | exact HB.out | apply below_alloc | apply pw_below_drewN | apply below_drew1 | refine below_set ?_ GE5751.out) | exact HB.out))) : w.heap.size ≤ gb5767))
            have n10_ := Aside0.mk ((by rw [hg]; exact Nat.ne_of_lt (blk_lt (g := gb5751) (o := .cells #[.int .i64 a2_0, .int .i64 a2_1] 57 (0, 0)) BK5751.out) : gb5751 ≠ gb5767))
            have n11_ := Aside0.mk ((by rw [hg]; exact Nat.ne_of_gt (blk_lt (g := gb5751) (o := .cells #[.int .i64 a2_0, .int .i64 a2_1] 57 (0, 0)) BK5751.out) : gb5767 ≠ gb5751))
            clear HO5754 HO5757 HO5760 HO5763 HO5766 BK5751 HB
            have HO5754 := n0_
            have HO5757 := n1_
            have HO5760 := n2_
            have HO5763 := n3_
            have HO5766 := n4_
            have BK5751 := n5_
            have HB := n6_
            have BK5767 := n7_
            have GW5767 := n8_
            have GE5767 := n9_
            have NB5751_5767 := n10_
            have NB5767_5751 := n11_
            clear n0_ n1_ n2_ n3_ n4_ n5_ n6_ n7_ n8_ n9_ n10_ n11_ hb hbox hg
            refine hK.out _ _ ⟨(blk_cell BK5751.out 0).trans rfl, (blk_cell BK5751.out 1).trans rfl⟩ (fun hHeld => ?_)
            clear hK K
            refine norm_ (a' := ?_) ?_ ?_
            rotate_left
            · show Act.put _ (some 10) _ = _
              simp only [Act.put, List.setIfInBounds_toArray, List.set_cons_zero, List.set_cons_succ, i64_w, i32_w]
              rfl
            exact norm_ (by first | (simp only [putAll, Act.put, List.setIfInBounds_toArray, List.set_cons_zero, List.set_cons_succ]; done) | (simp only [putAll, Act.put, List.setIfInBounds_toArray, List.set_cons_zero, List.set_cons_succ]; rfl)) (hJ1_3_4_7_8_9 (_, _, _, _, _, gb5767) _ ⟨hHeld, HO5754.out, HO5757.out, HO5760.out, HO5763.out, HO5766.out, BK5751.out, BK5767.out, GW5767.out, GE5767.out, NB5751_5767.out, NB5767_5751.out, (by repeat (first | (with_reducible first | exact HB.out | apply below_alloc | apply pw_below_drewN | apply below_drew1 | refine below_set ?_ GE5751.out | refine below_set ?_ GE5767.out) | exact HB.out))⟩)
        rintro ⟨v5753, v5756, v5759, v5762, v5765, gb5767⟩ w31 ⟨hS_, h0_, h1_, h2_, h3_, h4_, h5_, h6_, h7_, h8_, h9_, h10_, h11_⟩
        have n0_ : Aside0 (Kd.R (Kd.int .i64) 3 w31 w.heap.size (fun k_ => some k_ ≠ (v5756 : Value).ownBlock ∧ some k_ ≠ (v5759 : Value).ownBlock ∧ some k_ ≠ (v5762 : Value).ownBlock ∧ some k_ ≠ (v5765 : Value).ownBlock) v5753 t5752) := ⟨h0_⟩
        have n1_ : Aside0 (Kd.R (Kd.int .i64) 3 w31 w.heap.size (fun k_ => some k_ ≠ (v5753 : Value).ownBlock ∧ some k_ ≠ (v5759 : Value).ownBlock ∧ some k_ ≠ (v5762 : Value).ownBlock ∧ some k_ ≠ (v5765 : Value).ownBlock) v5756 t5755) := ⟨h1_⟩
        have n2_ : Aside0 (Kd.R (Kd.int .i64) 3 w31 w.heap.size (fun k_ => some k_ ≠ (v5753 : Value).ownBlock ∧ some k_ ≠ (v5756 : Value).ownBlock ∧ some k_ ≠ (v5762 : Value).ownBlock ∧ some k_ ≠ (v5765 : Value).ownBlock) v5759 t5758) := ⟨h2_⟩
        have n3_ : Aside0 (Kd.R (Kd.int .i64) 3 w31 w.heap.size (fun k_ => some k_ ≠ (v5753 : Value).ownBlock ∧ some k_ ≠ (v5756 : Value).ownBlock ∧ some k_ ≠ (v5759 : Value).ownBlock ∧ some k_ ≠ (v5765 : Value).ownBlock) v5762 t5761) := ⟨h3_⟩
        have n4_ : Aside0 (Kd.R (Kd.int .i64) 3 w31 w.heap.size (fun k_ => some k_ ≠ (v5753 : Value).ownBlock ∧ some k_ ≠ (v5756 : Value).ownBlock ∧ some k_ ≠ (v5759 : Value).ownBlock ∧ some k_ ≠ (v5762 : Value).ownBlock) v5765 t5764) := ⟨h4_⟩
        have n5_ : Aside0 (w31.heap[gb5751]? = some (.cells #[.int .i64 a2_0, .int .i64 a2_1] 57 (0, 0))) := ⟨h5_⟩
        have n6_ : Aside0 (w31.heap[gb5767]? = some (.cells #[.slice none 0 0] 28 (0, 0))) := ⟨h6_⟩
        have n7_ : Aside0 (w.heap.size ≤ gb5767) := ⟨h7_⟩
        have n8_ : Aside0 (w.heap.size ≤ gb5767) := ⟨h8_⟩
        have n9_ : Aside0 (gb5751 ≠ gb5767) := ⟨h9_⟩
        have n10_ : Aside0 (gb5767 ≠ gb5751) := ⟨h10_⟩
        have n11_ : Aside0 (Below w.heap.size w w31) := ⟨h11_⟩
        clear BK5751 HB h0_ h1_ h2_ h3_ h4_ h5_ h6_ h7_ h8_ h9_ h10_ h11_
        have HO5754 := n0_
        have HO5757 := n1_
        have HO5760 := n2_
        have HO5763 := n3_
        have HO5766 := n4_
        have BK5751 := n5_
        have BK5767 := n6_
        have GW5767 := n7_
        have GE5767 := n8_
        have NB5751_5767 := n9_
        have NB5767_5751 := n10_
        have HB := n11_
        clear n0_ n1_ n2_ n3_ n4_ n5_ n6_ n7_ n8_ n9_ n10_ n11_
        have hHeld : w31.cell? ⟨gb5751, 0, none⟩ = some (.int .i64 a2_0) ∧ w31.cell? ⟨gb5751, 1, none⟩ = some (.int .i64 a2_1) := hS_
        obtain ⟨Ao32, co32, eo32⟩ := Kd.R_slice HO5766.out
        (first | subst eo32 | (injection eo32 with f1_ f2_ f3_; have f4_ := f1_.symm; have f5_ := f3_.symm; clear f1_ f2_ f3_; subst f4_; subst f5_))
        refine norm_ (a' := ?_) ?_ ?_
        rotate_left
        · simp only [putAll, Act.put, List.setIfInBounds_toArray, List.set_cons_zero, List.set_cons_succ]
          rfl
        refine one_ (i := 10) (N := none) (demurrageref03_Part.ups 11 2047) rfl rfl (one_of HT_.out (by kernel_rfl)) (by decide) (fun K hK => ?_)
        have hs33 : w31.cell? ⟨gb5767, 0, none⟩ = some (.slice none 0 0) := (blk_cell BK5767.out 0).trans rfl
        have hfs33 := blk_frozen BK5767.out 0
        have hns33_0 := NB5751_5767.out
        have hms33_0 := NB5767_5751.out
        refine skip_ (w1 := ?_) (by rfl) rfl ?_ ?_
        rotate_left
        · go_simp
          rfl
        refine hK.out _ _ ⟨((cell_far (p := ⟨gb5767, _, none⟩) NB5751_5767.out _).trans (hHeld.1)), ((cell_far (p := ⟨gb5767, _, none⟩) NB5751_5767.out _).trans (hHeld.2))⟩ (fun hHeld => ?_)
        clear hK K
        refine done_ (done_of HT_.out (by kernel_rfl)) ?_
        try go_wp2
        have n0_ : Aside0 (Kd.R (Kd.int .i64) 3 (w31.setCell ⟨gb5767, 0, none⟩ (.slice Ao32 t5764.length co32)) w.heap.size (fun k_ => some k_ ≠ (v5756 : Value).ownBlock ∧ some k_ ≠ (v5759 : Value).ownBlock ∧ some k_ ≠ (v5762 : Value).ownBlock ∧ some k_ ≠ (.slice Ao32 t5764.length co32 : Value).ownBlock) v5753 t5752) := ⟨by (with_reducible repeat (first | apply Kd.R_alloc | apply Kd.R_drewN | apply Kd.R_drew)); exact Kd.R_mono (Kd.R_far (p := ⟨gb5767, 0, none⟩) (Kd.R_types HO5754.out BK5767.out (by decide)) (fun _ hk => hk.2) (.slice Ao32 t5764.length co32)) (fun _ hk => (And.intro (hk.1.1) ((And.intro (hk.1.2.1) ((And.intro (hk.1.2.2.1) (hk.1.2.2.2)))))))⟩
        have n1_ : Aside0 (Kd.R (Kd.int .i64) 3 (w31.setCell ⟨gb5767, 0, none⟩ (.slice Ao32 t5764.length co32)) w.heap.size (fun k_ => some k_ ≠ (v5753 : Value).ownBlock ∧ some k_ ≠ (v5759 : Value).ownBlock ∧ some k_ ≠ (v5762 : Value).ownBlock ∧ some k_ ≠ (.slice Ao32 t5764.length co32 : Value).ownBlock) v5756 t5755) := ⟨by (with_reducible repeat (first | apply Kd.R_alloc | apply Kd.R_drewN | apply Kd.R_drew)); exact Kd.R_mono (Kd.R_far (p := ⟨gb5767, 0, none⟩) (Kd.R_types HO5757.out BK5767.out (by decide)) (fun _ hk => hk.2) (.slice Ao32 t5764.length co32)) (fun _ hk => (And.intro (hk.1.1) ((And.intro (hk.1.2.1) ((And.intro (hk.1.2.2.1) (hk.1.2.2.2)))))))⟩
        have n2_ : Aside0 (Kd.R (Kd.int .i64) 3 (w31.setCell ⟨gb5767, 0, none⟩ (.slice Ao32 t5764.length co32)) w.heap.size (fun k_ => some k_ ≠ (v5753 : Value).ownBlock ∧ some k_ ≠ (v5756 : Value).ownBlock ∧ some k_ ≠ (v5762 : Value).ownBlock ∧ some k_ ≠ (.slice Ao32 t5764.length co32 : Value).ownBlock) v5759 t5758) := ⟨by (with_reducible repeat (first | apply Kd.R_alloc | apply Kd.R_drewN | apply Kd.R_drew)); exact Kd.R_mono (Kd.R_far (p := ⟨gb5767, 0, none⟩) (Kd.R_types HO5760.out BK5767.out (by decide)) (fun _ hk => hk.2) (.slice Ao32 t5764.length co32)) (fun _ hk => (And.intro (hk.1.1) ((And.intro (hk.1.2.1) ((And.intro (hk.1.2.2.1) (hk.1.2.2.2)))))))⟩
        have n3_ : Aside0 (Kd.R (Kd.int .i64) 3 (w31.setCell ⟨gb5767, 0, none⟩ (.slice Ao32 t5764.length co32)) w.heap.size (fun k_ => some k_ ≠ (v5753 : Value).ownBlock ∧ some k_ ≠ (v5756 : Value).ownBlock ∧ some k_ ≠ (v5759 : Value).ownBlock ∧ some k_ ≠ (.slice Ao32 t5764.length co32 : Value).ownBlock) v5762 t5761) := ⟨by (with_reducible repeat (first | apply Kd.R_alloc | apply Kd.R_drewN | apply Kd.R_drew)); exact Kd.R_mono (Kd.R_far (p := ⟨gb5767, 0, none⟩) (Kd.R_types HO5763.out BK5767.out (by decide)) (fun _ hk => hk.2) (.slice Ao32 t5764.length co32)) (fun _ hk => (And.intro (hk.1.1) ((And.intro (hk.1.2.1) ((And.intro (hk.1.2.2.1) (hk.1.2.2.2)))))))⟩
        have n4_ : Aside0 (Kd.R (Kd.int .i64) 3 (w31.setCell ⟨gb5767, 0, none⟩ (.slice Ao32 t5764.length co32)) w.heap.size (fun k_ => some k_ ≠ (v5753 : Value).ownBlock ∧ some k_ ≠ (v5756 : Value).ownBlock ∧ some k_ ≠ (v5759 : Value).ownBlock ∧ some k_ ≠ (v5762 : Value).ownBlock) (.slice Ao32 t5764.length co32) t5764) := ⟨by (with_reducible repeat (first | apply Kd.R_alloc | apply Kd.R_drewN | apply Kd.R_drew)); exact Kd.R_mono (Kd.R_far (p := ⟨gb5767, 0, none⟩) (Kd.R_types HO5766.out BK5767.out (by decide)) (fun _ hk => hk.2) (.slice Ao32 t5764.length co32)) (fun _ hk => (And.intro (hk.1.1) ((And.intro (hk.1.2.1) ((And.intro (hk.1.2.2.1) (hk.1.2.2.2)))))))⟩
        have n5_ : Aside0 ((w31.setCell ⟨gb5767, 0, none⟩ (.slice Ao32 t5764.length co32)).heap[gb5751]? = some (.cells #[.int .i64 a2_0, .int .i64 a2_1] 57 (0, 0))) := ⟨by refine blk_far ?_ NB5751_5767.out _; exact BK5751.out⟩
        have n6_ : Aside0 ((w31.setCell ⟨gb5767, 0, none⟩ (.slice Ao32 t5764.length co32)).heap[gb5767]? = some (.cells #[.slice Ao32 t5764.length co32] 28 (0, 0))) := ⟨by refine blk_put (cs := #[.slice none 0 0]) ?_ 0 _ rfl; exact BK5767.out⟩
        have n7_ : Aside0 (Below w.heap.size w (w31.setCell ⟨gb5767, 0, none⟩ (.slice Ao32 t5764.length co32))) := ⟨by repeat (first | (with_reducible first | exact HB.out | apply below_alloc | apply pw_below_drewN | apply below_drew1 | refine below_set ?_ GE5751.out | refine below_set ?_ GE5767.out) | exact HB.out)⟩
        (try clear HO5754)
        (try clear HO5757)
        (try clear HO5760)
        (try clear HO5763)
        (try clear HO5766)
        (try clear BK5751)
        (try clear BK5767)
        (try clear HB)
        generalize (w31.setCell ⟨gb5767, 0, none⟩ (.slice Ao32 t5764.length co32)) = w34 at n0_ n1_ n2_ n3_ n4_ n5_ n6_ n7_ ⊢
        have HO5754 := n0_
        have HO5757 := n1_
        have HO5760 := n2_
        have HO5763 := n3_
        have HO5766 := n4_
        have BK5751 := n5_
        have BK5767 := n6_
        have HB := n7_
        clear n0_ n1_ n2_ n3_ n4_ n5_ n6_ n7_
        have n0_ := Aside0.mk (Kd.R_drew HO5754.out)
        have n1_ := Aside0.mk (Kd.R_drew HO5757.out)
        have n2_ := Aside0.mk (Kd.R_drew HO5760.out)
        have n3_ := Aside0.mk (Kd.R_drew HO5763.out)
        have n4_ := Aside0.mk (Kd.R_drew HO5766.out)
        have n5_ := Aside0.mk (blk_drew BK5751.out)
        have n6_ := Aside0.mk (blk_drew BK5767.out)
        have n7_ := Aside0.mk (below_drew1 HB.out)
        clear HO5754 HO5757 HO5760 HO5763 HO5766 BK5751 BK5767 HB
        have HO5754 := n0_
        have HO5757 := n1_
        have HO5760 := n2_
        have HO5763 := n3_
        have HO5766 := n4_
        have BK5751 := n5_
        have BK5767 := n6_
        have HB := n7_
        clear n0_ n1_ n2_ n3_ n4_ n5_ n6_ n7_
        refine start_ (n := 8) (S := fun w' => w'.cell? ⟨gb5751, 0, none⟩ = some (.int .i64 a2_0) ∧ w'.cell? ⟨gb5751, 1, none⟩ = some (.int .i64 a2_1)) (ds := []) (demurrageref03_Part.ups 8 0) (by kernel_rfl) rfl rfl ⟨(blk_cell BK5751.out 0).trans rfl, (blk_cell BK5751.out 1).trans rfl⟩ (fun hHeld => ?_); refine with_tabW demurrageref03_Part.tab4 demurrageref03_Part.bits4 (fun HT_ HW_ => ?_)
        generalize w34.drew = w35 at HO5754 HO5757 HO5760 HO5763 HO5766 BK5751 BK5767 HB hHeld ⊢
        refine pure_ (i := 0) (N := some 32) (v := ?_) (a' := ?_) (demurrageref03_Part.ups 8 1) rfl rfl (any_of HT_.out (by kernel_rfl)) (fun _ _ _ h => h) (Or.inl ⟨by rfl, ?_⟩) ?_ ?_
        rotate_left
        · intro w'
          go_simp
          with_reducible rfl
        rotate_left
        · simp only [Act.put, List.setIfInBounds_toArray, List.set_cons_zero, List.set_cons_succ, i64_w, i32_w]
          rfl
        refine pure_ (i := 2) (N := some 34) (v := ?_) (a' := ?_) (demurrageref03_Part.ups 8 5) rfl rfl (any_of HT_.out (by kernel_rfl)) (fun _ _ _ h => h) (Or.inl ⟨by rfl, ?_⟩) ?_ ?_
        rotate_left
        · intro w'
          go_simp
          with_reducible rfl
        rotate_left
        · simp only [Act.put, List.setIfInBounds_toArray, List.set_cons_zero, List.set_cons_succ, i64_w, i32_w]
          rfl
        refine take_ (i := 3) (N := some 35) (v := ?_) (a' := ?_) (demurrageref03_Part.ups 8 13) rfl rfl (take_ofW HT_.out HW_.out (by kernel_rfl)) (fun _ _ _ h => h) (Or.inl ⟨by rfl, ?_⟩) hHeld ?_ ?_
        rotate_left
        · rintro w' ⟨s0, s1⟩
          go_simp
          with_reducible rfl
        rotate_left
        · simp only [Act.put, List.setIfInBounds_toArray, List.set_cons_zero, List.set_cons_succ, i64_w, i32_w]
          rfl
        refine join_ (σ := Value × Value × Value × Nat) 1 (demurrageref03_Part.ups 8 127) (fun s_ => [(33, .agg #[s_.1]), (36, .agg #[s_.2.1]), (37, .agg #[s_.2.2.1]), (11, .pointer (some ⟨s_.2.2.2, 0, none⟩))]) (fun s_ w' => (w'.cell? ⟨gb5751, 0, none⟩ = some (.int .i64 a2_0) ∧ w'.cell? ⟨gb5751, 1, none⟩ = some (.int .i64 a2_1)) ∧ (Kd.R (Kd.int .i64) 3 w' w.heap.size (fun k_ => some k_ ≠ (v5756 : Value).ownBlock ∧ some k_ ≠ (v5759 : Value).ownBlock ∧ some k_ ≠ (v5762 : Value).ownBlock ∧ some k_ ≠ (.slice Ao32 t5764.length co32 : Value).ownBlock ∧ some k_ ≠ (s_.1 : Value).ownBlock ∧ some k_ ≠ (s_.2.1 : Value).ownBlock ∧ some k_ ≠ (s_.2.2.1 : Value).ownBlock) v5753 t5752) ∧ (Kd.R (Kd.int .i64) 3 w' w.heap.size (fun k_ => some k_ ≠ (v5753 : Value).ownBlock ∧ some k_ ≠ (v5759 : Value).ownBlock ∧ some k_ ≠ (v5762 : Value).ownBlock ∧ some k_ ≠ (.slice Ao32 t5764.length co32 : Value).ownBlock ∧ some k_ ≠ (s_.1 : Value).ownBlock ∧ some k_ ≠ (s_.2.1 : Value).ownBlock ∧ some k_ ≠ (s_.2.2.1 : Value).ownBlock) v5756 t5755) ∧ (Kd.R (Kd.int .i64) 3 w' w.heap.size (fun k_ => some k_ ≠ (v5753 : Value).ownBlock ∧ some k_ ≠ (v5756 : Value).ownBlock ∧ some k_ ≠ (v5762 : Value).ownBlock ∧ some k_ ≠ (.slice Ao32 t5764.length co32 : Value).ownBlock ∧ some k_ ≠ (s_.1 : Value).ownBlock ∧ some k_ ≠ (s_.2.1 : Value).ownBlock ∧ some k_ ≠ (s_.2.2.1 : Value).ownBlock) v5759 t5758) ∧ (Kd.R (Kd.int .i64) 3 w' w.heap.size (fun k_ => some k_ ≠ (v5753 : Value).ownBlock ∧ some k_ ≠ (v5756 : Value).ownBlock ∧ some k_ ≠ (v5759 : Value).ownBlock ∧ some k_ ≠ (.slice Ao32 t5764.length co32 : Value).ownBlock ∧ some k_ ≠ (s_.1 : Value).ownBlock ∧ some k_ ≠ (s_.2.1 : Value).ownBlock ∧ some k_ ≠ (s_.2.2.1 : Value).ownBlock) v5762 t5761) ∧ (Kd.R (Kd.int .i64) 3 w' w.heap.size (fun k_ => some k_ ≠ (v5753 : Value).ownBlock ∧ some k_ ≠ (v5756 : Value).ownBlock ∧ some k_ ≠ (v5759 : Value).ownBlock ∧ some k_ ≠ (v5762 : Value).ownBlock ∧ some k_ ≠ (s_.1 : Value).ownBlock ∧ some k_ ≠ (s_.2.1 : Value).ownBlock ∧ some k_ ≠ (s_.2.2.1 : Value).ownBlock) (.slice Ao32 t5764.length co32) t5764) ∧ (Kd.R (Kd.int .i64) 3 w' w.heap.size (fun k_ => some k_ ≠ (v5753 : Value).ownBlock ∧ some k_ ≠ (v5756 : Value).ownBlock ∧ some k_ ≠ (v5759 : Value).ownBlock ∧ some k_ ≠ (v5762 : Value).ownBlock ∧ some k_ ≠ (.slice Ao32 t5764.length co32 : Value).ownBlock ∧ some k_ ≠ (s_.2.1 : Value).ownBlock ∧ some k_ ≠ (s_.2.2.1 : Value).ownBlock) s_.1 t5768) ∧ (Kd.R (Kd.int .i64) 3 w' w.heap.size (fun k_ => some k_ ≠ (v5753 : Value).ownBlock ∧ some k_ ≠ (v5756 : Value).ownBlock ∧ some k_ ≠ (v5759 : Value).ownBlock ∧ some k_ ≠ (v5762 : Value).ownBlock ∧ some k_ ≠ (.slice Ao32 t5764.length co32 : Value).ownBlock ∧ some k_ ≠ (s_.1 : Value).ownBlock ∧ some k_ ≠ (s_.2.2.1 : Value).ownBlock) s_.2.1 t5771) ∧ (Kd.R (Kd.int .i64) 3 w' w.heap.size (fun k_ => some k_ ≠ (v5753 : Value).ownBlock ∧ some k_ ≠ (v5756 : Value).ownBlock ∧ some k_ ≠ (v5759 : Value).ownBlock ∧ some k_ ≠ (v5762 : Value).ownBlock ∧ some k_ ≠ (.slice Ao32 t5764.length co32 : Value).ownBlock ∧ some k_ ≠ (s_.1 : Value).ownBlock ∧ some k_ ≠ (s_.2.1 : Value).ownBlock) s_.2.2.1 t5774) ∧ (w'.heap[gb5751]? = some (.cells #[.int .i64 a2_0, .int .i64 a2_1] 57 (0, 0))) ∧ (w'.heap[gb5767]? = some (.cells #[.slice Ao32 t5764.length co32] 28 (0, 0))) ∧ (w'.heap[s_.2.2.2]? = some (.cells #[.slice none 0 0] 28 (0, 0))) ∧ (w.heap.size ≤ s_.2.2.2) ∧ (w.heap.size ≤ s_.2.2.2) ∧ (gb5751 ≠ s_.2.2.2) ∧ (s_.2.2.2 ≠ gb5751) ∧ (gb5767 ≠ s_.2.2.2) ∧ (s_.2.2.2 ≠ gb5767) ∧ (Below w.heap.size w w')) ?_ ?_
        rotate_left
        · intro hCont
          refine two_ (i := 1) (j := 6) (Ni := some 33) (Nj := some 11) (demurrageref03_Part.ups 8 15) (demurrageref03_Part.ups 8 77) rfl rfl rfl rfl (two_of HT_.out (by kernel_rfl)) (by decide) (by decide) (fun K hK => ?_) (fun K hK => ?_)
          · skip
            refine goes_ Try.func71 (by kernel_rfl) rfl #[.int .i64 a3] (by rfl) rfl rfl (by (try simp only [List.map_toArray, List.map_cons, List.map_nil]); first | done | rfl) ?_
            with_reducible refine (demurrageref01_From.calls kj4 a3 t5768 _ A15.out).mono ?_
            rintro e w36 ⟨v5769, rfl, ho0, hb⟩
            refine ⟨_, rfl, ?_⟩
            have n0_ := Aside0.mk (Kd.R_elder' HO5754.out (Kd.R_base ho0) hb)
            have n1_ := Aside0.mk (Kd.R_elder' HO5757.out (Kd.R_base ho0) hb)
            have n2_ := Aside0.mk (Kd.R_elder' HO5760.out (Kd.R_base ho0) hb)
            have n3_ := Aside0.mk (Kd.R_elder' HO5763.out (Kd.R_base ho0) hb)
            have n4_ := Aside0.mk (Kd.R_elder' HO5766.out (Kd.R_base ho0) hb)
            have n5_ := Aside0.mk (Kd.R_lower (Kd.R_new' (Kd.R_new' (Kd.R_new' (Kd.R_new' (Kd.R_new' ho0 (Kd.R_lt HO5754.out)) (Kd.R_lt HO5757.out)) (Kd.R_lt HO5760.out)) (Kd.R_lt HO5763.out)) (Kd.R_lt HO5766.out)) (below_size (by repeat (first | (with_reducible first | exact HB.out | apply below_alloc | apply pw_below_drewN | apply below_drew1 | refine below_set ?_ GE5751.out | refine below_set ?_ GE5767.out) | exact HB.out))))
            have n6_ := Aside0.mk (blk_below BK5751.out hb)
            have n7_ := Aside0.mk (blk_below BK5767.out hb)
            have n8_ := Aside0.mk (below_step (by repeat (first | (with_reducible first | exact HB.out | apply below_alloc | apply pw_below_drewN | apply below_drew1 | refine below_set ?_ GE5751.out | refine below_set ?_ GE5767.out) | exact HB.out)) hb)
            clear HO5754 HO5757 HO5760 HO5763 HO5766 BK5751 BK5767 HB
            have HO5754 := n0_
            have HO5757 := n1_
            have HO5760 := n2_
            have HO5763 := n3_
            have HO5766 := n4_
            have HO5770 := n5_
            have BK5751 := n6_
            have BK5767 := n7_
            have HB := n8_
            clear n0_ n1_ n2_ n3_ n4_ n5_ n6_ n7_ n8_
            (try clear hb)
            (try clear hb2)
            (try clear hk)
            (try clear hi)
            (try clear ho0)
            refine hK.out _ _ ⟨(blk_cell BK5751.out 0).trans rfl, (blk_cell BK5751.out 1).trans rfl⟩ (fun hHeld => ?_)
            clear hK K
            refine norm_ (a' := ?_) ?_ ?_
            rotate_left
            · show Act.put _ (some 33) _ = _
              simp only [Act.put, List.setIfInBounds_toArray, List.set_cons_zero, List.set_cons_succ, i64_w, i32_w]
              rfl
            refine two_ (i := 4) (j := 6) (Ni := some 36) (Nj := some 11) (demurrageref03_Part.ups 8 31) (demurrageref03_Part.ups 8 79) rfl rfl rfl rfl (two_of HT_.out (by kernel_rfl)) (by decide) (by decide) (fun K hK => ?_) (fun K hK => ?_)
            · skip
              refine goes_ Try.func71 (by kernel_rfl) rfl #[.int .i64 a2_1] (by rfl) rfl rfl (by (try simp only [List.map_toArray, List.map_cons, List.map_nil]); first | done | rfl) ?_
              with_reducible refine (demurrageref01_From.calls kj4 a2_1 t5771 _ A16.out).mono ?_
              rintro e w37 ⟨v5772, rfl, ho0, hb⟩
              refine ⟨_, rfl, ?_⟩
              have n0_ := Aside0.mk (Kd.R_elder' HO5754.out (Kd.R_base ho0) hb)
              have n1_ := Aside0.mk (Kd.R_elder' HO5757.out (Kd.R_base ho0) hb)
              have n2_ := Aside0.mk (Kd.R_elder' HO5760.out (Kd.R_base ho0) hb)
              have n3_ := Aside0.mk (Kd.R_elder' HO5763.out (Kd.R_base ho0) hb)
              have n4_ := Aside0.mk (Kd.R_elder' HO5766.out (Kd.R_base ho0) hb)
              have n5_ := Aside0.mk (Kd.R_elder' HO5770.out (Kd.R_base ho0) hb)
              have n6_ := Aside0.mk (Kd.R_lower (Kd.R_new' (Kd.R_new' (Kd.R_new' (Kd.R_new' (Kd.R_new' (Kd.R_new' ho0 (Kd.R_lt HO5754.out)) (Kd.R_lt HO5757.out)) (Kd.R_lt HO5760.out)) (Kd.R_lt HO5763.out)) (Kd.R_lt HO5766.out)) (Kd.R_lt HO5770.out)) (below_size (by repeat (first | (with_reducible first | exact HB.out | apply below_alloc | apply pw_below_drewN | apply below_drew1 | refine below_set ?_ GE5751.out | refine below_set ?_ GE5767.out) | exact HB.out))))
              have n7_ := Aside0.mk (blk_below BK5751.out hb)
              have n8_ := Aside0.mk (blk_below BK5767.out hb)
              have n9_ := Aside0.mk (below_step (by repeat (first | (with_reducible first | exact HB.out | apply below_alloc | apply pw_below_drewN | apply below_drew1 | refine below_set ?_ GE5751.out | refine below_set ?_ GE5767.out) | exact HB.out)) hb)
              clear HO5754 HO5757 HO5760 HO5763 HO5766 HO5770 BK5751 BK5767 HB
              have HO5754 := n0_
              have HO5757 := n1_
              have HO5760 := n2_
              have HO5763 := n3_
              have HO5766 := n4_
              have HO5770 := n5_
              have HO5773 := n6_
              have BK5751 := n7_
              have BK5767 := n8_
              have HB := n9_
              clear n0_ n1_ n2_ n3_ n4_ n5_ n6_ n7_ n8_ n9_
              (try clear hb)
              (try clear hb2)
              (try clear hk)
              (try clear hi)
              (try clear ho0)
              obtain ⟨Ao38, co38, eo38⟩ := Kd.R_slice HO5770.out
              (first | subst eo38 | (injection eo38 with f1_ f2_ f3_; have f4_ := f1_.symm; have f5_ := f3_.symm; clear f1_ f2_ f3_; subst f4_; subst f5_))
              obtain ⟨Ao39, co39, eo39⟩ := Kd.R_slice HO5773.out
              (first | subst eo39 | (injection eo39 with f1_ f2_ f3_; have f4_ := f1_.symm; have f5_ := f3_.symm; clear f1_ f2_ f3_; subst f4_; subst f5_))
              refine hK.out _ _ ⟨(blk_cell BK5751.out 0).trans rfl, (blk_cell BK5751.out 1).trans rfl⟩ (fun hHeld => ?_)
              clear hK K
              refine norm_ (a' := ?_) ?_ ?_
              rotate_left
              · show Act.put _ (some 36) _ = _
                simp only [Act.put, List.setIfInBounds_toArray, List.set_cons_zero, List.set_cons_succ, i64_w, i32_w]
                rfl
              refine two_ (i := 5) (j := 6) (Ni := some 37) (Nj := some 11) (demurrageref03_Part.ups 8 63) (demurrageref03_Part.ups 8 95) rfl rfl rfl rfl (two_of HT_.out (by kernel_rfl)) (by decide) (by decide) (fun K hK => ?_) (fun K hK => ?_)
              · skip
                refine goes_ Try.func29 (by kernel_rfl) rfl #[.agg #[.slice Ao38 t5768.length co38], .agg #[.slice Ao39 t5771.length co39]] (by rfl) rfl rfl (by (try simp only [List.map_toArray, List.map_cons, List.map_nil]); first | done | rfl) ?_
                with_reducible refine (demurrageref01_Prod.calls kj4 _ _ t5768 _ _ t5771 t5774 _ ?side1 ?side2 ?side3 ?side4 A17.out).mono ?_
                (case side1 => repeat (first | exact (Kd.R_reads' HO5770.out).2.2 | (with_reducible refine Kd.C_alloc ?_ _) | (with_reducible refine Kd.C_drewN ?_ _) | (with_reducible refine Kd.C_drew ?_)))
                (case side2 => exact (Kd.R_reads' HO5770.out).2.1)
                (case side3 => repeat (first | exact (Kd.R_reads' HO5773.out).2.2 | (with_reducible refine Kd.C_alloc ?_ _) | (with_reducible refine Kd.C_drewN ?_ _) | (with_reducible refine Kd.C_drew ?_)))
                (case side4 => exact (Kd.R_reads' HO5773.out).2.1)
                rintro e w40 ⟨v5775, rfl, ho0, hb⟩
                refine ⟨_, rfl, ?_⟩
                have n0_ := Aside0.mk (Kd.R_elder' HO5754.out (Kd.R_base ho0) hb)
                have n1_ := Aside0.mk (Kd.R_elder' HO5757.out (Kd.R_base ho0) hb)
                have n2_ := Aside0.mk (Kd.R_elder' HO5760.out (Kd.R_base ho0) hb)
                have n3_ := Aside0.mk (Kd.R_elder' HO5763.out (Kd.R_base ho0) hb)
                have n4_ := Aside0.mk (Kd.R_elder' HO5766.out (Kd.R_base ho0) hb)
                have n5_ := Aside0.mk (Kd.R_elder' HO5770.out (Kd.R_base ho0) hb)
                have n6_ := Aside0.mk (Kd.R_elder' HO5773.out (Kd.R_base ho0) hb)
                have n7_ := Aside0.mk (Kd.R_lower (Kd.R_new' (Kd.R_new' (Kd.R_new' (Kd.R_new' (Kd.R_new' (Kd.R_new' (Kd.R_new' ho0 (Kd.R_lt HO5754.out)) (Kd.R_lt HO5757.out)) (Kd.R_lt HO5760.out)) (Kd.R_lt HO5763.out)) (Kd.R_lt HO5766.out)) (Kd.R_lt HO5770.out)) (Kd.R_lt HO5773.out)) (below_size (by repeat (first | (with_reducible first | exact HB.out | apply below_alloc | apply pw_below_drewN | apply below_drew1 | refine below_set ?_ GE5751.out | refine below_set ?_ GE5767.out) | exact HB.out))))
                have n8_ := Aside0.mk (blk_below BK5751.out hb)
                have n9_ := Aside0.mk (blk_below BK5767.out hb)
                have n10_ := Aside0.mk (below_step (by repeat (first | (with_reducible first | exact HB.out | apply below_alloc | apply pw_below_drewN | apply below_drew1 | refine below_set ?_ GE5751.out | refine below_set ?_ GE5767.out) | exact HB.out)) hb)
                clear HO5754 HO5757 HO5760 HO5763 HO5766 HO5770 HO5773 BK5751 BK5767 HB
                have HO5754 := n0_
                have HO5757 := n1_
                have HO5760 := n2_
                have HO5763 := n3_
                have HO5766 := n4_
                have HO5770 := n5_
                have HO5773 := n6_
                have HO5776 := n7_
                have BK5751 := n8_
                have BK5767 := n9_
                have HB := n10_
                clear n0_ n1_ n2_ n3_ n4_ n5_ n6_ n7_ n8_ n9_ n10_
                (try clear hb)
                (try clear hb2)
                (try clear hk)
                (try clear hi)
                (try clear ho0)
                refine hK.out _ _ ⟨(blk_cell BK5751.out 0).trans rfl, (blk_cell BK5751.out 1).trans rfl⟩ (fun hHeld => ?_)
                clear hK K
                refine norm_ (a' := ?_) ?_ ?_
                rotate_left
                · show Act.put _ (some 37) _ = _
                  simp only [Act.put, List.setIfInBounds_toArray, List.set_cons_zero, List.set_cons_succ, i64_w, i32_w]
                  rfl
                refine one_ (i := 6) (N := some 11) (demurrageref03_Part.ups 8 127) rfl rfl (one_of HT_.out (by kernel_rfl)) (by decide) (fun K hK => ?_)
                refine box_step ?hg (N := 11) ?hd (cs := #[.slice none 0 0]) (t := 28) ?hr ?_; (case hd => rfl); (case hg => rfl); (case hr => go_simp)
                intro gb5777 hg w41 hbox hb
                have n0_ := Aside0.mk (Kd.R_below HO5754.out hb)
                have n1_ := Aside0.mk (Kd.R_below HO5757.out hb)
                have n2_ := Aside0.mk (Kd.R_below HO5760.out hb)
                have n3_ := Aside0.mk (Kd.R_below HO5763.out hb)
                have n4_ := Aside0.mk (Kd.R_below HO5766.out hb)
                have n5_ := Aside0.mk (Kd.R_below HO5770.out hb)
                have n6_ := Aside0.mk (Kd.R_below HO5773.out hb)
                have n7_ := Aside0.mk (Kd.R_below HO5776.out hb)
                have n8_ := Aside0.mk (blk_below BK5751.out hb)
                have n9_ := Aside0.mk (blk_below BK5767.out hb)
                have n10_ := Aside0.mk (below_step (by repeat (first | (with_reducible first | exact HB.out | apply below_alloc | apply pw_below_drewN | apply below_drew1 | refine below_set ?_ GE5751.out | refine below_set ?_ GE5767.out) | exact HB.out)) hb)
                have n11_ := Aside0.mk (hbox)
                have n12_ := Aside0.mk ((by rw [hg]; exact (below_size (by repeat (first | (with_reducible first | exact HB.out | apply below_alloc | apply pw_below_drewN | apply below_drew1 | refine below_set ?_ GE5751.out | refine below_set ?_ GE5767.out) | exact HB.out))) : w.heap.size ≤ gb5777))
                have n13_ := Aside0.mk ((by rw [hg]; exact (below_size (by repeat (first | (with_reducible first | exact HB.out | apply below_alloc | apply pw_below_drewN | apply below_drew1 | refine below_set ?_ GE5751.out | refine below_set ?_ GE5767.out) | exact HB.out))) : w.heap.size ≤ gb5777))
                have n14_ := Aside0.mk ((by rw [hg]; exact Nat.ne_of_lt (blk_lt (g := gb5751) (o := .cells #[.int .i64 a2_0, .int .i64 a2_1] 57 (0, 0)) BK5751.out) : gb5751 ≠ gb5777))
                have n15_ := Aside0.mk ((by rw [hg]; exact Nat.ne_of_gt (blk_lt (g := gb5751) (o := .cells #[.int .i64 a2_0, .int .i64 a2_1] 57 (0, 0)) BK5751.out) : gb5777 ≠ gb5751))
                have n16_ := Aside0.mk ((by rw [hg]; exact Nat.ne_of_lt (blk_lt (g := gb5767) (o := .cells #[.slice Ao32 t5764.length co32] 28 (0, 0)) BK5767.out) : gb5767 ≠ gb5777))
                have n17_ := Aside0.mk ((by rw [hg]; exact Nat.ne_of_gt (blk_lt (g := gb5767) (o := .cells #[.slice Ao32 t5764.length co32] 28 (0, 0)) BK5767.out) : gb5777 ≠ gb5767))
                clear HO5754 HO5757 HO5760 HO5763 HO5766 HO5770 HO5773 HO5776 BK5751 BK5767 HB
                have HO5754 := n0_
                have HO5757 := n1_
                have HO5760 := n2_
                have HO5763 := n3_
                have HO5766 := n4_
                have HO5770 := n5_
                have HO5773 := n6_
                have HO5776 := n7_
                have BK5751 := n8_
                have BK5767 := n9_
                have HB := n10_
                have BK5777 := n11_
                have GW5777 := n12_
                have GE5777 := n13_
                have NB5751_5777 := n14_
                have NB5777_5751 := n15_
                have NB5767_5777 := n16_
                have NB5777_5767 := n17_
                clear n0_ n1_ n2_ n3_ n4_ n5_ n6_ n7_ n8_ n9_ n10_ n11_ n12_ n13_ n14_ n15_ n16_ n17_ hb hbox hg
                refine hK.out _ _ ⟨(blk_cell BK5751.out 0).trans rfl, (blk_cell BK5751.out 1).trans rfl⟩ (fun hHeld => ?_)
                clear hK K
                refine norm_ (a' := ?_) ?_ ?_
                rotate_left
                · show Act.put _ (some 11) _ = _
                  simp only [Act.put, List.setIfInBounds_toArray, List.set_cons_zero, List.set_cons_succ, i64_w, i32_w]
                  rfl
                exact norm_ (by simp only [putAll, Act.put, List.setIfInBounds_toArray, List.set_cons_zero, List.set_cons_succ]) (hCont (.slice Ao38 t5768.length co38, .slice Ao39 t5771.length co39, v5775, gb5777) _ ⟨hHeld, (by (with_reducible repeat (first | apply Kd.R_alloc | apply Kd.R_drewN | apply Kd.R_drew)); exact Kd.R_mono HO5754.out (fun _ hk => (And.intro (hk.1.1.1.1) ((And.intro (hk.1.1.1.2.1) ((And.intro (hk.1.1.1.2.2.1) ((And.intro (hk.1.1.1.2.2.2) ((And.intro (hk.1.1.2) ((And.intro (hk.1.2) (hk.2)))))))))))))), (by (with_reducible repeat (first | apply Kd.R_alloc | apply Kd.R_drewN | apply Kd.R_drew)); exact Kd.R_mono HO5757.out (fun _ hk => (And.intro (hk.1.1.1.1) ((And.intro (hk.1.1.1.2.1) ((And.intro (hk.1.1.1.2.2.1) ((And.intro (hk.1.1.1.2.2.2) ((And.intro (hk.1.1.2) ((And.intro (hk.1.2) (hk.2)))))))))))))), (by (with_reducible repeat (first | apply Kd.R_alloc | apply Kd.R_drewN | apply Kd.R_drew)); exact Kd.R_mono HO5760.out (fun _ hk => (And.intro (hk.1.1.1.1) ((And.intro (hk.1.1.1.2.1) ((And.intro (hk.1.1.1.2.2.1) ((And.intro (hk.1.1.1.2.2.2) ((And.intro (hk.1.1.2) ((And.intro (hk.1.2) (hk.2)))))))))))))), (by (with_reducible repeat (first | apply Kd.R_alloc | apply Kd.R_drewN | apply Kd.R_drew)); exact Kd.R_mono HO5763.out (fun _ hk => (And.intro (hk.1.1.1.1) ((And.intro (hk.1.1.1.2.1) ((And.intro (hk.1.1.1.2.2.1) ((And.intro (hk.1.1.1.2.2.2) ((And.intro (hk.1.1.2) ((And.intro (hk.1.2) (hk.2)))))))))))))), (by (with_reducible repeat (first | apply Kd.R_alloc | apply Kd.R_drewN | apply Kd.R_drew)); exact Kd.R_mono HO5766.out (fun _ hk => (And.intro (hk.1.1.1.1) ((And.intro (hk.1.1.1.2.1) ((And.intro (hk.1.1.1.2.2.1) ((And.intro (hk.1.1.1.2.2.2) ((And.intro (hk.1.1.2) ((And.intro (hk.1.2) (hk.2)))))))))))))), (by (with_reducible repeat (first | apply Kd.R_alloc | apply Kd.R_drewN | apply Kd.R_drew)); exact Kd.R_mono HO5770.out (fun _ hk => (And.intro (hk.1.1.1.1.1.1.2) ((And.intro (hk.1.1.1.1.1.2) ((And.intro (hk.1.1.1.1.2) ((And.intro (hk.1.1.1.2) ((And.intro (hk.1.1.2) ((And.intro (hk.1.2) (hk.2)))))))))))))), (by (with_reducible repeat (first | apply Kd.R_alloc | apply Kd.R_drewN | apply Kd.R_drew)); exact Kd.R_mono HO5773.out (fun _ hk => (And.intro (hk.1.1.1.1.1.1.2) ((And.intro (hk.1.1.1.1.1.2) ((And.intro (hk.1.1.1.1.2) ((And.intro (hk.1.1.1.2) ((And.intro (hk.1.1.2) ((And.intro (hk.1.2) (hk.2)))))))))))))), (by (with_reducible repeat (first | apply Kd.R_alloc | apply Kd.R_drewN | apply Kd.R_drew)); exact Kd.R_mono HO5776.out (fun _ hk => (And.intro (hk.1.1.1.1.1.1.2) ((And.intro (hk.1.1.1.1.1.2) ((And.intro (hk.1.1.1.1.2) ((And.intro (hk.1.1.1.2) ((And.intro (hk.1.1.2) ((And.intro (hk.1.2) (hk.2)))))))))))))), BK5751.out, BK5767.out, BK5777.out, GW5777.out, GE5777.out, NB5751_5777.out, NB5777_5751.out, NB5767_5777.out, NB5777_5767.out, (by repeat (first | (with_reducible first | exact HB.out | apply below_alloc | apply pw_below_drewN | apply below_drew1 | refine below_set ?_ GE5751.out | refine below_set ?_ GE5767.out | refine below_set ?_ GE5777.out) | exact HB.out))⟩)
              · skip
                refine box_step ?hg (N := 11) ?hd (cs := #[.slice none 0 0]) (t := 28) ?hr ?_; (case hd => rfl); (case hg => rfl); (case hr => go_simp)
                intro gb5777 hg w38 hbox hb
                have n0_ := Aside0.mk (Kd.R_below HO5754.out hb)
                have n1_ := Aside0.mk (Kd.R_below HO5757.out hb)
                have n2_ := Aside0.mk (Kd.R_below HO5760.out hb)
                have n3_ := Aside0.mk (Kd.R_below HO5763.out hb)
                have n4_ := Aside0.mk (Kd.R_below HO5766.out hb)
                have n5_ := Aside0.mk (Kd.R_below HO5770.out hb)
                have n6_ := Aside0.mk (Kd.R_below HO5773.out hb)
                have n7_ := Aside0.mk (blk_below BK5751.out hb)
                have n8_ := Aside0.mk (blk_below BK5767.out hb)
                have n9_ := Aside0.mk (below_step (by repeat (first | (with_reducible first | exact HB.out | apply below_alloc | apply pw_below_drewN | apply below_drew1 | refine below_set ?_ GE5751.out | refine below_set ?_ GE5767.out) | exact HB.out)) hb)
                have n10_ := Aside0.mk (hbox)
                have n11_ := Aside0.mk ((by rw [hg]; exact (below_size (by repeat (first | (with_reducible first | exact HB.out | apply below_alloc | apply pw_below_drewN | apply below_drew1 | refine below_set ?_ GE5751.out | refine below_set ?_ GE5767.out) | exact HB.out))) : w.heap.size ≤ gb5777))
                have n12_ := Aside0.mk ((by rw [hg]; exact (below_size (by repeat (first | (with_reducible first | exact HB.out | apply below_alloc | apply pw_below_drewN | apply below_drew1 | refine below_set ?_ GE5751.out | refine below_set ?_ GE5767.out) | exact HB.out))) : w.heap.size ≤ gb5777))
                have n13_ := Aside0.mk ((by rw [hg]; exact Nat.ne_of_lt (blk_lt (g := gb5751) (o := .cells #[.int .i64 a2_0, .int .i64 a2_1] 57 (0, 0)) BK5751.out) : gb5751 ≠ gb5777))
                have n14_ := Aside0.mk ((by rw [hg]; exact Nat.ne_of_gt (blk_lt (g := gb5751) (o := .cells #[.int .i64 a2_0, .int .i64 a2_1] 57 (0, 0)) BK5751.out) : gb5777 ≠ gb5751))
                have n15_ := Aside0.mk ((by rw [hg]; exact Nat.ne_of_lt (blk_lt (g := gb5767) (o := .cells #[.slice Ao32 t5764.length co32] 28 (0, 0)) BK5767.out) : gb5767 ≠ gb5777))
                have n16_ := Aside0.mk ((by rw [hg]; exact Nat.ne_of_gt (blk_lt (g := gb5767) (o := .cells #[.slice Ao32 t5764.length co32] 28 (0, 0)) BK5767.out) : gb5777 ≠ gb5767))
                clear HO5754 HO5757 HO5760 HO5763 HO5766 HO5770 HO5773 BK5751 BK5767 HB
                have HO5754 := n0_
                have HO5757 := n1_
                have HO5760 := n2_
                have HO5763 := n3_
                have HO5766 := n4_
                have HO5770 := n5_
                have HO5773 := n6_
                have BK5751 := n7_
                have BK5767 := n8_
                have HB := n9_
                have BK5777 := n10_
                have GW5777 := n11_
                have GE5777 := n12_
                have NB5751_5777 := n13_
                have NB5777_5751 := n14_
                have NB5767_5777 := n15_
                have NB5777_5767 := n16_
                clear n0_ n1_ n2_ n3_ n4_ n5_ n6_ n7_ n8_ n9_ n10_ n11_ n12_ n13_ n14_ n15_ n16_ hb hbox hg
                obtain ⟨Ao39, co39, eo39⟩ := Kd.R_slice HO5770.out
                (first | subst eo39 | (injection eo39 with f1_ f2_ f3_; have f4_ := f1_.symm; have f5_ := f3_.symm; clear f1_ f2_ f3_; subst f4_; subst f5_))
                obtain ⟨Ao40, co40, eo40⟩ := Kd.R_slice HO5773.out
                (first | subst eo40 | (injection eo40 with f1_ f2_ f3_; have f4_ := f1_.symm; have f5_ := f3_.symm; clear f1_ f2_ f3_; subst f4_; subst f5_))
                refine hK.out _ _ ⟨(blk_cell BK5751.out 0).trans rfl, (blk_cell BK5751.out 1).trans rfl⟩ (fun hHeld => ?_)
                clear hK K
                refine norm_ (a' := ?_) ?_ ?_
                rotate_left
                · show Act.put _ (some 11) _ = _
                  simp only [Act.put, List.setIfInBounds_toArray, List.set_cons_zero, List.set_cons_succ, i64_w, i32_w]
                  rfl
                refine one_ (i := 5) (N := some 37) (demurrageref03_Part.ups 8 127) rfl rfl (one_of HT_.out (by kernel_rfl)) (by decide) (fun K hK => ?_)
                refine goes_ Try.func29 (by kernel_rfl) rfl #[.agg #[.slice Ao39 t5768.length co39], .agg #[.slice Ao40 t5771.length co40]] (by rfl) rfl rfl (by (try simp only [List.map_toArray, List.map_cons, List.map_nil]); first | done | rfl) ?_
                with_reducible refine (demurrageref01_Prod.calls kj4 _ _ t5768 _ _ t5771 t5774 _ ?side1 ?side2 ?side3 ?side4 A17.out).mono ?_
                (case side1 => repeat (first | exact (Kd.R_reads' HO5770.out).2.2 | (with_reducible refine Kd.C_alloc ?_ _) | (with_reducible refine Kd.C_drewN ?_ _) | (with_reducible refine Kd.C_drew ?_)))
                (case side2 => exact (Kd.R_reads' HO5770.out).2.1)
                (case side3 => repeat (first | exact (Kd.R_reads' HO5773.out).2.2 | (with_reducible refine Kd.C_alloc ?_ _) | (with_reducible refine Kd.C_drewN ?_ _) | (with_reducible refine Kd.C_drew ?_)))
                (case side4 => exact (Kd.R_reads' HO5773.out).2.1)
                rintro e w41 ⟨v5775, rfl, ho0, hb⟩
                refine ⟨_, rfl, ?_⟩
                have n0_ := Aside0.mk (Kd.R_elder' HO5754.out (Kd.R_base ho0) hb)
                have n1_ := Aside0.mk (Kd.R_elder' HO5757.out (Kd.R_base ho0) hb)
                have n2_ := Aside0.mk (Kd.R_elder' HO5760.out (Kd.R_base ho0) hb)
                have n3_ := Aside0.mk (Kd.R_elder' HO5763.out (Kd.R_base ho0) hb)
                have n4_ := Aside0.mk (Kd.R_elder' HO5766.out (Kd.R_base ho0) hb)
                have n5_ := Aside0.mk (Kd.R_elder' HO5770.out (Kd.R_base ho0) hb)
                have n6_ := Aside0.mk (Kd.R_elder' HO5773.out (Kd.R_base ho0) hb)
                have n7_ := Aside0.mk (Kd.R_lower (Kd.R_new' (Kd.R_new' (Kd.R_new' (Kd.R_new' (Kd.R_new' (Kd.R_new' (Kd.R_new' ho0 (Kd.R_lt HO5754.out)) (Kd.R_lt HO5757.out)) (Kd.R_lt HO5760.out)) (Kd.R_lt HO5763.out)) (Kd.R_lt HO5766.out)) (Kd.R_lt HO5770.out)) (Kd.R_lt HO5773.out)) (below_size (by repeat (first | (with_reducible first | exact HB.out | apply below_alloc | apply pw_below_drewN | apply below_drew1 | refine below_set ?_ GE5751.out | refine below_set ?_ GE5767.out | refine below_set ?_ GE5777.out) | exact HB.out))))
                have n8_ := Aside0.mk (blk_below BK5751.out hb)
                have n9_ := Aside0.mk (blk_below BK5767.out hb)
                have n10_ := Aside0.mk (blk_below BK5777.out hb)
                have n11_ := Aside0.mk (below_step (by repeat (first | (with_reducible first | exact HB.out | apply below_alloc | apply pw_below_drewN | apply below_drew1 | refine below_set ?_ GE5751.out | refine below_set ?_ GE5767.out | refine below_set ?_ GE5777.out) | exact HB.out)) hb)
                clear HO5754 HO5757 HO5760 HO5763 HO5766 HO5770 HO5773 BK5751 BK5767 BK5777 HB
                have HO5754 := n0_
                have HO5757 := n1_
                have HO5760 := n2_
                have HO5763 := n3_
                have HO5766 := n4_
                have HO5770 := n5_
                have HO5773 := n6_
                have HO5776 := n7_
                have BK5751 := n8_
                have BK5767 := n9_
                have BK5777 := n10_
                have HB := n11_
                clear n0_ n1_ n2_ n3_ n4_ n5_ n6_ n7_ n8_ n9_ n10_ n11_
                (try clear hb)
                (try clear hb2)
                (try clear hk)
                (try clear hi)
                (try clear ho0)
                refine hK.out _ _ ⟨(blk_cell BK5751.out 0).trans rfl, (blk_cell BK5751.out 1).trans rfl⟩ (fun hHeld => ?_)
                clear hK K
                refine norm_ (a' := ?_) ?_ ?_
                rotate_left
                · show Act.put _ (some 37) _ = _
                  simp only [Act.put, List.setIfInBounds_toArray, List.set_cons_zero, List.set_cons_succ, i64_w, i32_w]
                  rfl
                exact norm_ (by simp only [putAll, Act.put, List.setIfInBounds_toArray, List.set_cons_zero, List.set_cons_succ]) (hCont (.slice Ao39 t5768.length co39, .slice Ao40 t5771.length co40, v5775, gb5777) _ ⟨hHeld, (by (with_reducible repeat (first | apply Kd.R_alloc | apply Kd.R_drewN | apply Kd.R_drew)); exact Kd.R_mono HO5754.out (fun _ hk => (And.intro (hk.1.1.1.1) ((And.intro (hk.1.1.1.2.1) ((And.intro (hk.1.1.1.2.2.1) ((And.intro (hk.1.1.1.2.2.2) ((And.intro (hk.1.1.2) ((And.intro (hk.1.2) (hk.2)))))))))))))), (by (with_reducible repeat (first | apply Kd.R_alloc | apply Kd.R_drewN | apply Kd.R_drew)); exact Kd.R_mono HO5757.out (fun _ hk => (And.intro (hk.1.1.1.1) ((And.intro (hk.1.1.1.2.1) ((And.intro (hk.1.1.1.2.2.1) ((And.intro (hk.1.1.1.2.2.2) ((And.intro (hk.1.1.2) ((And.intro (hk.1.2) (hk.2)))))))))))))), (by (with_reducible repeat (first | apply Kd.R_alloc | apply Kd.R_drewN | apply Kd.R_drew)); exact Kd.R_mono HO5760.out (fun _ hk => (And.intro (hk.1.1.1.1) ((And.intro (hk.1.1.1.2.1) ((And.intro (hk.1.1.1.2.2.1) ((And.intro (hk.1.1.1.2.2.2) ((And.intro (hk.1.1.2) ((And.intro (hk.1.2) (hk.2)))))))))))))), (by (with_reducible repeat (first | apply Kd.R_alloc | apply Kd.R_drewN | apply Kd.R_drew)); exact Kd.R_mono HO5763.out (fun _ hk => (And.intro (hk.1.1.1.1) ((And.intro (hk.1.1.1.2.1) ((And.intro (hk.1.1.1.2.2.1) ((And.intro (hk.1.1.1.2.2.2) ((And.intro (hk.1.1.2) ((And.intro (hk.1.2) (hk.2)))))))))))))), (by (with_reducible repeat (first | apply Kd.R_alloc | apply Kd.R_drewN | apply Kd.R_drew)); exact Kd.R_mono HO5766.out (fun _ hk => (And.intro (hk.1.1.1.1) ((And.intro (hk.1.1.1.2.1) ((And.intro (hk.1.1.1.2.2.1) ((And.intro (hk.1.1.1.2.2.2) ((And.intro (hk.1.1.2) ((And.intro (hk.1.2) (hk.2)))))))))))))), (by (with_reducible repeat (first | apply Kd.R_alloc | apply Kd.R_drewN | apply Kd.R_drew)); exact Kd.R_mono HO5770.out (fun _ hk => (And.intro (hk.1.1.1.1.1.1.2) ((And.intro (hk.1.1.1.1.1.2) ((And.intro (hk.1.1.1.1.2) ((And.intro (hk.1.1.1.2) ((And.intro (hk.1.1.2) ((And.intro (hk.1.2) (hk.2)))))))))))))), (by (with_reducible repeat (first | apply Kd.R_alloc | apply Kd.R_drewN | apply Kd.R_drew)); exact Kd.R_mono HO5773.out (fun _ hk => (And.intro (hk.1.1.1.1.1.1.2) ((And.intro (hk.1.1.1.1.1.2) ((And.intro (hk.1.1.1.1.2) ((And.intro (hk.1.1.1.2) ((And.intro (hk.1.1.2) ((And.intro (hk.1.2) (hk.2)))))))))))))), (by (with_reducible repeat (first | apply Kd.R_alloc | apply Kd.R_drewN | apply Kd.R_drew)); exact Kd.R_mono HO5776.out (fun _ hk => (And.intro (hk.1.1.1.1.1.1.2) ((And.intro (hk.1.1.1.1.1.2) ((And.intro (hk.1.1.1.1.2) ((And.intro (hk.1.1.1.2) ((And.intro (hk.1.1.2) ((And.intro (hk.1.2) (hk.2)))))))))))))), BK5751.out, BK5767.out, BK5777.out, GW5777.out, GE5777.out, NB5751_5777.out, NB5777_5751.out, NB5767_5777.out, NB5777_5767.out, (by repeat (first | (with_reducible first | exact HB.out | apply below_alloc | apply pw_below_drewN | apply below_drew1 | refine below_set ?_ GE5751.out | refine below_set ?_ GE5767.out | refine below_set ?_ GE5777.out) | exact HB.out))⟩)
            · skip
              refine box_step ?hg (N := 11) ?hd (cs := #[.slice none 0 0]) (t := 28) ?hr ?_; (case hd => rfl); (case hg => rfl); (case hr => go_simp)
              intro gb5777 hg w37 hbox hb
              have n0_ := Aside0.mk (Kd.R_below HO5754.out hb)
              have n1_ := Aside0.mk (Kd.R_below HO5757.out hb)
              have n2_ := Aside0.mk (Kd.R_below HO5760.out hb)
              have n3_ := Aside0.mk (Kd.R_below HO5763.out hb)
              have n4_ := Aside0.mk (Kd.R_below HO5766.out hb)
              have n5_ := Aside0.mk (Kd.R_below HO5770.out hb)
              have n6_ := Aside0.mk (blk_below BK5751.out hb)
              have n7_ := Aside0.mk (blk_below BK5767.out hb)
              have n8_ := Aside0.mk (below_step (by repeat (first | (with_reducible first | exact HB.out | apply below_alloc | apply pw_below_drewN | apply below_drew1 | refine below_set ?_ GE5751.out | refine below_set ?_ GE5767.out) | exact HB.out)) hb)
              have n9_ := Aside0.mk (hbox)
              have n10_ := Aside0.mk ((by rw [hg]; exact (below_size (by repeat (first | (with_reducible first | exact HB.out | apply below_alloc | apply pw_below_drewN | apply below_drew1 | refine below_set ?_ GE5751.out | refine below_set ?_ GE5767.out) | exact HB.out))) : w.heap.size ≤ gb5777))
              have n11_ := Aside0.mk ((by rw [hg]; exact (below_size (by repeat (first | (with_reducible first | exact HB.out | apply below_alloc | apply pw_below_drewN | apply below_drew1 | refine below_set ?_ GE5751.out | refine below_set ?_ GE5767.out) | exact HB.out))) : w.heap.size ≤ gb5777))
              have n12_ := Aside0.mk ((by rw [hg]; exact Nat.ne_of_lt (blk_lt (g := gb5751) (o := .cells #[.int .i64 a2_0, .int .i64 a2_1] 57 (0, 0)) BK5751.out) : gb5751 ≠ gb5777))
              have n13_ := Aside0.mk ((by rw [hg]; exact Nat.ne_of_gt (blk_lt (g := gb5751) (o := .cells #[.int .i64 a2_0, .int .i64 a2_1] 57 (0, 0)) BK5751.out) : gb5777 ≠ gb5751))
              have n14_ := Aside0.mk ((by rw [hg]; exact Nat.ne_of_lt (blk_lt (g := gb5767) (o := .cells #[.slice Ao32 t5764.length co32] 28 (0, 0)) BK5767.out) : gb5767 ≠ gb5777))
              have n15_ := Aside0.mk ((by rw [hg]; exact Nat.ne_of_gt (blk_lt (g := gb5767) (o := .cells #[.slice Ao32 t5764.length co32] 28 (0, 0)) BK5767.out) : gb5777 ≠ gb5767))
              clear HO5754 HO5757 HO5760 HO5763 HO5766 HO5770 BK5751 BK5767 HB
              have HO5754 := n0_
              have HO5757 := n1_
              have HO5760 := n2_
              have HO5763 := n3_
              have HO5766 := n4_
              have HO5770 := n5_
              have BK5751 := n6_
              have BK5767 := n7_
              have HB := n8_
              have BK5777 := n9_
              have GW5777 := n10_
              have GE5777 := n11_
              have NB5751_5777 := n12_
              have NB5777_5751 := n13_
              have NB5767_5777 := n14_
              have NB5777_5767 := n15_
              clear n0_ n1_ n2_ n3_ n4_ n5_ n6_ n7_ n8_ n9_ n10_ n11_ n12_ n13_ n14_ n15_ hb hbox hg
              refine hK.out _ _ ⟨(blk_cell BK5751.out 0).trans rfl, (blk_cell BK5751.out 1).trans rfl⟩ (fun hHeld => ?_)
              clear hK K
              refine norm_ (a' := ?_) ?_ ?_
              rotate_left
              · show Act.put _ (some 11) _ = _
                simp only [Act.put, List.setIfInBounds_toArray, List.set_cons_zero, List.set_cons_succ, i64_w, i32_w]
                rfl
              refine one_ (i := 4) (N := some 36) (demurrageref03_Part.ups 8 95) rfl rfl (one_of HT_.out (by kernel_rfl)) (by decide) (fun K hK => ?_)
              refine goes_ Try.func71 (by kernel_rfl) rfl #[.int .i64 a2_1] (by rfl) rfl rfl (by (try simp only [List.map_toArray, List.map_cons, List.map_nil]); first | done | rfl) ?_
              with_reducible refine (demurrageref01_From.calls kj4 a2_1 t5771 _ A16.out).mono ?_
              rintro e w38 ⟨v5772, rfl, ho0, hb⟩
              refine ⟨_, rfl, ?_⟩
              have n0_ := Aside0.mk (Kd.R_elder' HO5754.out (Kd.R_base ho0) hb)
              have n1_ := Aside0.mk (Kd.R_elder' HO5757.out (Kd.R_base ho0) hb)
              have n2_ := Aside0.mk (Kd.R_elder' HO5760.out (Kd.R_base ho0) hb)
              have n3_ := Aside0.mk (Kd.R_elder' HO5763.out (Kd.R_base ho0) hb)
              have n4_ := Aside0.mk (Kd.R_elder' HO5766.out (Kd.R_base ho0) hb)
              have n5_ := Aside0.mk (Kd.R_elder' HO5770.out (Kd.R_base ho0) hb)
              have n6_ := Aside0.mk (Kd.R_lower (Kd.R_new' (Kd.R_new' (Kd.R_new' (Kd.R_new' (Kd.R_new' (Kd.R_new' ho0 (Kd.R_lt HO5754.out)) (Kd.R_lt HO5757.out)) (Kd.R_lt HO5760.out)) (Kd.R_lt HO5763.out)) (Kd.R_lt HO5766.out)) (Kd.R_lt HO5770.out)) (below_size (by repeat (first | (with_reducible first | exact HB.out | apply below_alloc | apply pw_below_drewN | apply below_drew1 | refine below_set ?_ GE5751.out | refine below_set ?_ GE5767.out | refine below_set ?_ GE5777.out) | exact HB.out))))
              have n7_ := Aside0.mk (blk_below BK5751.out hb)
              have n8_ := Aside0.mk (blk_below BK5767.out hb)
              have n9_ := Aside0.mk (blk_below BK5777.out hb)
              have n10_ := Aside0.mk (below_step (by repeat (first | (with_reducible first | exact HB.out | apply below_alloc | apply pw_below_drewN | apply below_drew1 | refine below_set ?_ GE5751.out | refine below_set ?_ GE5767.out | refine below_set ?_ GE5777.out) | exact HB.out)) hb)
              clear HO5754 HO5757 HO5760 HO5763 HO5766 HO5770 BK5751 BK5767 BK5777 HB
              have HO5754 := n0_
              have HO5757 := n1_
              have HO5760 := n2_
              have HO5763 := n3_
              have HO5766 := n4_
              have HO5770 := n5_
              have HO5773 := n6_
              have BK5751 := n7_
              have BK5767 := n8_
              have BK5777 := n9_
              have HB := n10_
              clear n0_ n1_ n2_ n3_ n4_ n5_ n6_ n7_ n8_ n9_ n10_
              (try clear hb)
              (try clear hb2)
              (try clear hk)
              (try clear hi)
              (try clear ho0)
              obtain ⟨Ao39, co39, eo39⟩ := Kd.R_slice HO5770.out
              (first | subst eo39 | (injection eo39 with f1_ f2_ f3_; have f4_ := f1_.symm; have f5_ := f3_.symm; clear f1_ f2_ f3_; subst f4_; subst f5_))
              obtain ⟨Ao40, co40, eo40⟩ := Kd.R_slice HO5773.out
              (first | subst eo40 | (injection eo40 with f1_ f2_ f3_; have f4_ := f1_.symm; have f5_ := f3_.symm; clear f1_ f2_ f3_; subst f4_; subst f5_))
              refine hK.out _ _ ⟨(blk_cell BK5751.out 0).trans rfl, (blk_cell BK5751.out 1).trans rfl⟩ (fun hHeld => ?_)
              clear hK K
              refine norm_ (a' := ?_) ?_ ?_
              rotate_left
              · show Act.put _ (some 36) _ = _
                simp only [Act.put, List.setIfInBounds_toArray, List.set_cons_zero, List.set_cons_succ, i64_w, i32_w]
                rfl
              refine one_ (i := 5) (N := some 37) (demurrageref03_Part.ups 8 127) rfl rfl (one_of HT_.out (by kernel_rfl)) (by decide) (fun K hK => ?_)
              refine goes_ Try.func29 (by kernel_rfl) rfl #[.agg #[.slice Ao39 t5768.length co39], .agg #[.slice Ao40 t5771.length co40]] (by rfl) rfl rfl (by (try simp only [List.map_toArray, List.map_cons, List.map_nil]); first | done | rfl) ?_
              with_reducible refine (demurrageref01_Prod.calls kj4 _ _ t5768 _ _ t5771 t5774 _ ?side1 ?side2 ?side3 ?side4 A17.out).mono ?_
              (case side1 => repeat (first | exact (Kd.R_reads' HO5770.out).2.2 | (with_reducible refine Kd.C_alloc ?_ _) | (with_reducible refine Kd.C_drewN ?_ _) | (with_reducible refine Kd.C_drew ?_)))
              (case side2 => exact (Kd.R_reads' HO5770.out).2.1)
              (case side3 => repeat (first | exact (Kd.R_reads' HO5773.out).2.2 | (with_reducible refine Kd.C_alloc ?_ _) | (with_reducible refine Kd.C_drewN ?_ _) | (with_reducible refine Kd.C_drew ?_)))
              (case side4 => exact (Kd.R_reads' HO5773.out).2.1)
              rintro e w41 ⟨v5775, rfl, ho0, hb⟩
              refine ⟨_, rfl, ?_⟩
              have n0_ := Aside0.mk (Kd.R_elder' HO5754.out (Kd.R_base ho0) hb)
              have n1_ := Aside0.mk (Kd.R_elder' HO5757.out (Kd.R_base ho0) hb)
              have n2_ := Aside0.mk (Kd.R_elder' HO5760.out (Kd.R_base ho0) hb)
              have n3_ := Aside0.mk (Kd.R_elder' HO5763.out (Kd.R_base ho0) hb)
              have n4_ := Aside0.mk (Kd.R_elder' HO5766.out (Kd.R_base ho0) hb)
              have n5_ := Aside0.mk (Kd.R_elder' HO5770.out (Kd.R_base ho0) hb)
              have n6_ := Aside0.mk (Kd.R_elder' HO5773.out (Kd.R_base ho0) hb)
              have n7_ := Aside0.mk (Kd.R_lower (Kd.R_new' (Kd.R_new' (Kd.R_new' (Kd.R_new' (Kd.R_new' (Kd.R_new' (Kd.R_new' ho0 (Kd.R_lt HO5754.out)) (Kd.R_lt HO5757.out)) (Kd.R_lt HO5760.out)) (Kd.R_lt HO5763.out)) (Kd.R_lt HO5766.out)) (Kd.R_lt HO5770.out)) (Kd.R_lt HO5773.out)) (below_size (by repeat (first | (with_reducible first | exact HB.out | apply below_alloc | apply pw_below_drewN | apply below_drew1 | refine below_set ?_ GE5751.out | refine below_set ?_ GE5767.out | refine below_set ?_ GE5777.out) | exact HB.out))))
              have n8_ := Aside0.mk (blk_below BK5751.out hb)
              have n9_ := Aside0.mk (blk_below BK5767.out hb)
              have n10_ := Aside0.mk (blk_below BK5777.out hb)
              have n11_ := Aside0.mk (below_step (by repeat (first | (with_reducible first | exact HB.out | apply below_alloc | apply pw_below_drewN | apply below_drew1 | refine below_set ?_ GE5751.out | refine below_set ?_ GE5767.out | refine below_set ?_ GE5777.out) | exact HB.out)) hb)
              clear HO5754 HO5757 HO5760 HO5763 HO5766 HO5770 HO5773 BK5751 BK5767 BK5777 HB
              have HO5754 := n0_
              have HO5757 := n1_
              have HO5760 := n2_
              have HO5763 := n3_
              have HO5766 := n4_
              have HO5770 := n5_
              have HO5773 := n6_
              have HO5776 := n7_
              have BK5751 := n8_
              have BK5767 := n9_
              have BK5777 := n10_
              have HB := n11_
              clear n0_ n1_ n2_ n3_ n4_ n5_ n6_ n7_ n8_ n9_ n10_ n11_
              (try clear hb)
              (try clear hb2)
              (try clear hk)
              (try clear hi)
              (try clear ho0)
              refine hK.out _ _ ⟨(blk_cell BK5751.out 0).trans rfl, (blk_cell BK5751.out 1).trans rfl⟩ (fun hHeld => ?_)
              clear hK K
              refine norm_ (a' := ?_) ?_ ?_
              rotate_left
              · show Act.put _ (some 37) _ = _
                simp only [Act.put, List.setIfInBounds_toArray, List.set_cons_zero, List.set_cons_succ, i64_w, i32_w]
                rfl
              exact norm_ (by simp only [putAll, Act.put, List.setIfInBounds_toArray, List.set_cons_zero, List.set_cons_succ]) (hCont (.slice Ao39 t5768.length co39, .slice Ao40 t5771.length co40, v5775, gb5777) _ ⟨hHeld, (by (with_reducible repeat (first | apply Kd.R_alloc | apply Kd.R_drewN | apply Kd.R_drew)); exact Kd.R_mono HO5754.out (fun _ hk => (And.intro (hk.1.1.1.1) ((And.intro (hk.1.1.1.2.1) ((And.intro (hk.1.1.1.2.2.1) ((And.intro (hk.1.1.1.2.2.2) ((And.intro (hk.1.1.2) ((And.intro (hk.1.2) (hk.2)))))))))))))), (by (with_reducible repeat (first | apply Kd.R_alloc | apply Kd.R_drewN | apply Kd.R_drew)); exact Kd.R_mono HO5757.out (fun _ hk => (And.intro (hk.1.1.1.1) ((And.intro (hk.1.1.1.2.1) ((And.intro (hk.1.1.1.2.2.1) ((And.intro (hk.1.1.1.2.2.2) ((And.intro (hk.1.1.2) ((And.intro (hk.1.2) (hk.2)))))))))))))), (by (with_reducible repeat (first | apply Kd.R_alloc | apply Kd.R_drewN | apply Kd.R_drew)); exact Kd.R_mono HO5760.out (fun _ hk => (And.intro (hk.1.1.1.1) ((And.intro (hk.1.1.1.2.1) ((And.intro (hk.1.1.1.2.2.1) ((And.intro (hk.1.1.1.2.2.2) ((And.intro (hk.1.1.2) ((And.intro (hk.1.2) (hk.2)))))))))))))), (by (with_reducible repeat (first | apply Kd.R_alloc | apply Kd.R_drewN | apply Kd.R_drew)); exact Kd.R_mono HO5763.out (fun _ hk => (And.intro (hk.1.1.1.1) ((And.intro (hk.1.1.1.2.1) ((And.intro (hk.1.1.1.2.2.1) ((And.intro (hk.1.1.1.2.2.2) ((And.intro (hk.1.1.2) ((And.intro (hk.1.2) (hk.2)))))))))))))), (by (with_reducible repeat (first | apply Kd.R_alloc | apply Kd.R_drewN | apply Kd.R_drew)); exact Kd.R_mono HO5766.out (fun _ hk => (And.intro (hk.1.1.1.1) ((And.intro (hk.1.1.1.2.1) ((And.intro (hk.1.1.1.2.2.1) ((And.intro (hk.1.1.1.2.2.2) ((And.intro (hk.1.1.2) ((And.intro (hk.1.2) (hk.2)))))))))))))), (by (with_reducible repeat (first | apply Kd.R_alloc | apply Kd.R_drewN | apply Kd.R_drew)); exact Kd.R_mono HO5770.out (fun _ hk => (And.intro (hk.1.1.1.1.1.1.2) ((And.intro (hk.1.1.1.1.1.2) ((And.intro (hk.1.1.1.1.2) ((And.intro (hk.1.1.1.2) ((And.intro (hk.1.1.2) ((And.intro (hk.1.2) (hk.2)))))))))))))), (by (with_reducible repeat (first | apply Kd.R_alloc | apply Kd.R_drewN | apply Kd.R_drew)); exact Kd.R_mono HO5773.out (fun _ hk => (And.intro (hk.1.1.1.1.1.1.2) ((And.intro (hk.1.1.1.1.1.2) ((And.intro (hk.1.1.1.1.2) ((And.intro (hk.1.1.1.2) ((And.intro (hk.1.1.2) ((And.intro (hk.1.2) (hk.2)))))))))))))), (by (with_reducible repeat (first | apply Kd.R_alloc | apply Kd.R_drewN | apply Kd.R_drew)); exact Kd.R_mono HO5776.out (fun _ hk => (And.intro (hk.1.1.1.1.1.1.2) ((And.intro (hk.1.1.1.1.1.2) ((And.intro (hk.1.1.1.1.2) ((And.intro (hk.1.1.1.2) ((And.intro (hk.1.1.2) ((And.intro (hk.1.2) (hk.2)))))))))))))), BK5751.out, BK5767.out, BK5777.out, GW5777.out, GE5777.out, NB5751_5777.out, NB5777_5751.out, NB5767_5777.out, NB5777_5767.out, (by repeat (first | (with_reducible first | exact HB.out | apply below_alloc | apply pw_below_drewN | apply below_drew1 | refine below_set ?_ GE5751.out | refine below_set ?_ GE5767.out | refine below_set ?_ GE5777.out) | exact HB.out))⟩)
          · skip
            refine box_step ?hg (N := 11) ?hd (cs := #[.slice none 0 0]) (t := 28) ?hr ?_; (case hd => rfl); (case hg => rfl); (case hr => go_simp)
            intro gb5777 hg w36 hbox hb
            have n0_ := Aside0.mk (Kd.R_below HO5754.out hb)
            have n1_ := Aside0.mk (Kd.R_below HO5757.out hb)
            have n2_ := Aside0.mk (Kd.R_below HO5760.out hb)
            have n3_ := Aside0.mk (Kd.R_below HO5763.out hb)
            have n4_ := Aside0.mk (Kd.R_below HO5766.out hb)
            have n5_ := Aside0.mk (blk_below BK5751.out hb)
            have n6_ := Aside0.mk (blk_below BK5767.out hb)
            have n7_ := Aside0.mk (below_step (by repeat (first | (with_reducible first | exact HB.out | apply below_alloc | apply pw_below_drewN | apply below_drew1 | refine below_set ?_ GE5751.out | refine below_set ?_ GE5767.out) | exact HB.out)) hb)
            have n8_ := Aside0.mk (hbox)
            have n9_ := Aside0.mk ((by rw [hg]; exact (below_size (by repeat (first | (with_reducible first | exact HB.out | apply below_alloc | apply pw_below_drewN | apply below_drew1 | refine below_set ?_ GE5751.out | refine below_set ?_ GE5767.out) | exact HB.out))) : w.heap.size ≤ gb5777))
            have n10_ := Aside0.mk ((by rw [hg]; exact (below_size (by repeat (first | (with_reducible first | exact HB.out | apply below_alloc | apply pw_below_drewN | apply below_drew1 | refine below_set ?_ GE5751.out | refine below_set ?_ GE5767.out) | exact HB.out))) : w.heap.size ≤ gb5777))
            have n11_ := Aside0.mk ((by rw [hg]; exact Nat.ne_of_lt (blk_lt (g := gb5751) (o := .cells #[.int .i64 a2_0, .int .i64 a2_1] 57 (0, 0)) BK5751.out) : gb5751 ≠ gb5777))
            have n12_ := Aside0.mk ((by rw [hg]; exact Nat.ne_of_gt (blk_lt (g := gb5751) (o := .cells #[.int .i64 a2_0, .int .i64 a2_1] 57 (0, 0)) BK5751.out) : gb5777 ≠ gb5751))
            have n13_ := Aside0.mk ((by rw [hg]; exact Nat.ne_of_lt (blk_lt (g := gb5767) (o := .cells #[.slice Ao32 t5764.length co32] 28 (0, 0)) BK5767.out) : gb5767 ≠ gb5777))
            have n14_ := Aside0.mk ((by rw [hg]; exact Nat.ne_of_gt (blk_lt (g := gb5767) (o := .cells #[.slice Ao32 t5764.length co32] 28 (0, 0)) BK5767.out) : gb5777 ≠ gb5767))
            clear HO5754 HO5757 HO5760 HO5763 HO5766 BK5751 BK5767 HB
            have HO5754 := n0_
            have HO5757 := n1_
            have HO5760 := n2_
            have HO5763 := n3_
            have HO5766 := n4_
            have BK5751 := n5_
            have BK5767 := n6_
            have HB := n7_
            have BK5777 := n8_
            have GW5777 := n9_
            have GE5777 := n10_
            have NB5751_5777 := n11_
            have NB5777_5751 := n12_
            have NB5767_5777 := n13_
            have NB5777_5767 := n14_
            clear n0_ n1_ n2_ n3_ n4_ n5_ n6_ n7_ n8_ n9_ n10_ n11_ n12_ n13_ n14_ hb hbox hg
            refine hK.out _ _ ⟨(blk_cell BK5751.out 0).trans rfl, (blk_cell BK5751.out 1).trans rfl⟩ (fun hHeld => ?_)
            clear hK K
            refine norm_ (a' := ?_) ?_ ?_
            rotate_left
            · show Act.put _ (some 11) _ = _
              simp only [Act.put, List.setIfInBounds_toArray, List.set_cons_zero, List.set_cons_succ, i64_w, i32_w]
              rfl
            refine one_ (i := 1) (N := some 33) (demurrageref03_Part.ups 8 79) rfl rfl (one_of HT_.out (by kernel_rfl)) (by decide) (fun K hK => ?_)
            refine goes_ Try.func71 (by kernel_rfl) rfl #[.int .i64 a3] (by rfl) rfl rfl (by (try simp only [List.map_toArray, List.map_cons, List.map_nil]); first | done | rfl) ?_
            with_reducible refine (demurrageref01_From.calls kj4 a3 t5768 _ A15.out).mono ?_
            rintro e w37 ⟨v5769, rfl, ho0, hb⟩
            refine ⟨_, rfl, ?_⟩
            have n0_ := Aside0.mk (Kd.R_elder' HO5754.out (Kd.R_base ho0) hb)
            have n1_ := Aside0.mk (Kd.R_elder' HO5757.out (Kd.R_base ho0) hb)
            have n2_ := Aside0.mk (Kd.R_elder' HO5760.out (Kd.R_base ho0) hb)
            have n3_ := Aside0.mk (Kd.R_elder' HO5763.out (Kd.R_base ho0) hb)
            have n4_ := Aside0.mk (Kd.R_elder' HO5766.out (Kd.R_base ho0) hb)
            have n5_ := Aside0.mk (Kd.R_lower (Kd.R_new' (Kd.R_new' (Kd.R_new' (Kd.R_new' (Kd.R_new' ho0 (Kd.R_lt HO5754.out)) (Kd.R_lt HO5757.out)) (Kd.R_lt HO5760.out)) (Kd.R_lt HO5763.out)) (Kd.R_lt HO5766.out)) (below_size (by repeat (first | (with_reducible first | exact HB.out | apply below_alloc | apply pw_below_drewN | apply below_drew1 | refine below_set ?_ GE5751.out | refine below_set ?_ GE5767.out | refine below_set ?_ GE5777.out) | exact HB.out))))
            have n6_ := Aside0.mk (blk_below BK5751.out hb)
            have n7_ := Aside0.mk (blk_below BK5767.out hb)
            have n8_ := Aside0.mk (blk_below BK5777.out hb)
            have n9_ := Aside0.mk (below_step (by repeat (first | (with_reducible first | exact HB.out | apply below_alloc | apply pw_below_drewN | apply below_drew1 | refine below_set ?_ GE5751.out | refine below_set ?_ GE5767.out | refine below_set ?_ GE5777.out) | exact HB.out)) hb)
            clear HO5754 HO5757 HO5760 HO5763 HO5766 BK5751 BK5767 BK5777 HB
            have HO5754 := n0_
            have HO5757 := n1_
            have HO5760 := n2_
            have HO5763 := n3_
            have HO5766 := n4_
            have HO5770 := n5_
            have BK5751 := n6_
            have BK5767 := n7_
            have BK5777 := n8_
            have HB := n9_
            clear n0_ n1_ n2_ n3_ n4_ n5_ n6_ n7_ n8_ n9_
            (try clear hb)
            (try clear hb2)
            (try clear hk)
            (try clear hi)
            (try clear ho0)
            refine hK.out _ _ ⟨(blk_cell BK5751.out 0).trans rfl, (blk_cell BK5751.out 1).trans rfl⟩ (fun hHeld => ?_)
            clear hK K
            refine norm_ (a' := ?_) ?_ ?_
            rotate_left
            · show Act.put _ (some 33) _ = _
              simp only [Act.put, List.setIfInBounds_toArray, List.set_cons_zero, List.set_cons_succ, i64_w, i32_w]
              rfl
            refine one_ (i := 4) (N := some 36) (demurrageref03_Part.ups 8 95) rfl rfl (one_of HT_.out (by kernel_rfl)) (by decide) (fun K hK => ?_)
            refine goes_ Try.func71 (by kernel_rfl) rfl #[.int .i64 a2_1] (by rfl) rfl rfl (by (try simp only [List.map_toArray, List.map_cons, List.map_nil]); first | done | rfl) ?_
            with_reducible refine (demurrageref01_From.calls kj4 a2_1 t5771 _ A16.out).mono ?_
            rintro e w38 ⟨v5772, rfl, ho0, hb⟩
            refine ⟨_, rfl, ?_⟩
            have n0_ := Aside0.mk (Kd.R_elder' HO5754.out (Kd.R_base ho0) hb)
            have n1_ := Aside0.mk (Kd.R_elder' HO5757.out (Kd.R_base ho0) hb)
            have n2_ := Aside0.mk (Kd.R_elder' HO5760.out (Kd.R_base ho0) hb)
            have n3_ := Aside0.mk (Kd.R_elder' HO5763.out (Kd.R_base ho0) hb)
            have n4_ := Aside0.mk (Kd.R_elder' HO5766.out (Kd.R_base ho0) hb)
            have n5_ := Aside0.mk (Kd.R_elder' HO5770.out (Kd.R_base ho0) hb)
            have n6_ := Aside0.mk (Kd.R_lower (Kd.R_new' (Kd.R_new' (Kd.R_new' (Kd.R_new' (Kd.R_new' (Kd.R_new' ho0 (Kd.R_lt HO5754.out)) (Kd.R_lt HO5757.out)) (Kd.R_lt HO5760.out)) (Kd.R_lt HO5763.out)) (Kd.R_lt HO5766.out)) (Kd.R_lt HO5770.out)) (below_size (by repeat (first | (with_reducible first | exact HB.out | apply below_alloc | apply pw_below_drewN | apply below_drew1 | refine below_set ?_ GE5751.out | refine below_set ?_ GE5767.out | refine below_set ?_ GE5777.out) | exact HB.out))))
            have n7_ := Aside0.mk (blk_below BK5751.out hb)
            have n8_ := Aside0.mk (blk_below BK5767.out hb)
            have n9_ := Aside0.mk (blk_below BK5777.out hb)
            have n10_ := Aside0.mk (below_step (by repeat (first | (with_reducible first | exact HB.out | apply below_alloc | apply pw_below_drewN | apply below_drew1 | refine below_set ?_ GE5751.out | refine below_set ?_ GE5767.out | refine below_set ?_ GE5777.out) | exact HB.out)) hb)
            clear HO5754 HO5757 HO5760 HO5763 HO5766 HO5770 BK5751 BK5767 BK5777 HB
            have HO5754 := n0_
            have HO5757 := n1_
            have HO5760 := n2_
            have HO5763 := n3_
            have HO5766 := n4_
            have HO5770 := n5_
            have HO5773 := n6_
            have BK5751 := n7_
            have BK5767 := n8_
            have BK5777 := n9_
            have HB := n10_
            clear n0_ n1_ n2_ n3_ n4_ n5_ n6_ n7_ n8_ n9_ n10_
            (try clear hb)
            (try clear hb2)
            (try clear hk)
            (try clear hi)
            (try clear ho0)
            obtain ⟨Ao39, co39, eo39⟩ := Kd.R_slice HO5770.out
            (first | subst eo39 | (injection eo39 with f1_ f2_ f3_; have f4_ := f1_.symm; have f5_ := f3_.symm; clear f1_ f2_ f3_; subst f4_; subst f5_))
            obtain ⟨Ao40, co40, eo40⟩ := Kd.R_slice HO5773.out
            (first | subst eo40 | (injection eo40 with f1_ f2_ f3_; have f4_ := f1_.symm; have f5_ := f3_.symm; clear f1_ f2_ f3_; subst f4_; subst f5_))
            refine hK.out _ _ ⟨(blk_cell BK5751.out 0).trans rfl, (blk_cell BK5751.out 1).trans rfl⟩ (fun hHeld => ?_)
            clear hK K
            refine norm_ (a' := ?_) ?_ ?_
            rotate_left
            · show Act.put _ (some 36) _ = _
              simp only [Act.put, List.setIfInBounds_toArray, List.set_cons_zero, List.set_cons_succ, i64_w, i32_w]
              rfl
            refine one_ (i := 5) (N := some 37) (demurrageref03_Part.ups 8 127) rfl rfl (one_of HT_.out (by kernel_rfl)) (by decide) (fun K hK => ?_)
            refine goes_ Try.func29 (by kernel_rfl) rfl #[.agg #[.slice Ao39 t5768.length co39], .agg #[.slice Ao40 t5771.length co40]] (by rfl) rfl rfl (by (try simp only [List.map_toArray, List.map_cons, List.map_nil]); first | done | rfl) ?_
            with_reducible refine (demurrageref01_Prod.calls kj4 _ _ t5768 _ _ t5771 t5774 _ ?side1 ?side2 ?side3 ?side4 A17.out).mono ?_
            (case side1 => repeat (first | exact (Kd.R_reads' HO5770.out).2.2 | (with_reducible refine Kd.C_alloc ?_ _) | (with_reducible refine Kd.C_drewN ?_ _) | (with_reducible refine Kd.C_drew ?_)))
            (case side2 => exact (Kd.R_reads' HO5770.out).2.1)
            (case side3 => repeat (first | exact (Kd.R_reads' HO5773.out).2.2 | (with_reducible refine Kd.C_alloc ?_ _) | (with_reducible refine Kd.C_drewN ?_ _) | (with_reducible refine Kd.C_drew ?_)))
            (case side4 => exact (Kd.R_reads' HO5773.out).2.1)
            rintro e w41 ⟨v5775, rfl, ho0, hb⟩
            refine ⟨_, rfl, ?_⟩
            have n0_ := Aside0.mk (Kd.R_elder' HO5754.out (Kd.R_base ho0) hb)
            have n1_ := Aside0.mk (Kd.R_elder' HO5757.out (Kd.R_base ho0) hb)
            have n2_ := Aside0.mk (Kd.R_elder' HO5760.out (Kd.R_base ho0) hb)
            have n3_ := Aside0.mk (Kd.R_elder' HO5763.out (Kd.R_base ho0) hb)
            have n4_ := Aside0.mk (Kd.R_elder' HO5766.out (Kd.R_base ho0) hb)
            have n5_ := Aside0.mk (Kd.R_elder' HO5770.out (Kd.R_base ho0) hb)
            have n6_ := Aside0.mk (Kd.R_elder' HO5773.out (Kd.R_base ho0) hb)
            have n7_ := Aside0.mk (Kd.R_lower (Kd.R_new' (Kd.R_new' (Kd.R_new' (Kd.R_new' (Kd.R_new' (Kd.R_new' (Kd.R_new' ho0 (Kd.R_lt HO5754.out)) (Kd.R_lt HO5757.out)) (Kd.R_lt HO5760.out)) (Kd.R_lt HO5763.out)) (Kd.R_lt HO5766.out)) (Kd.R_lt HO5770.out)) (Kd.R_lt HO5773.out)) (below_size (by repeat (first | (with_reducible first | exact HB.out | apply below_alloc | apply pw_below_drewN | apply below_drew1 | refine below_set ?_ GE5751.out | refine below_set ?_ GE5767.out | refine below_set ?_ GE5777.out) | exact HB.out))))
            have n8_ := Aside0.mk (blk_below BK5751.out hb)
            have n9_ := Aside0.mk (blk_below BK5767.out hb)
            have n10_ := Aside0.mk (blk_below BK5777.out hb)
            have n11_ := Aside0.mk (below_step (by repeat (first | (with_reducible first | exact HB.out | apply below_alloc | apply pw_below_drewN | apply below_drew1 | refine below_set ?_ GE5751.out | refine below_set ?_ GE5767.out | refine below_set ?_ GE5777.out) | exact HB.out)) hb)
            clear HO5754 HO5757 HO5760 HO5763 HO5766 HO5770 HO5773 BK5751 BK5767 BK5777 HB
            have HO5754 := n0_
            have HO5757 := n1_
            have HO5760 := n2_
            have HO5763 := n3_
            have HO5766 := n4_
            have HO5770 := n5_
            have HO5773 := n6_
            have HO5776 := n7_
            have BK5751 := n8_
            have BK5767 := n9_
            have BK5777 := n10_
            have HB := n11_
            clear n0_ n1_ n2_ n3_ n4_ n5_ n6_ n7_ n8_ n9_ n10_ n11_
            (try clear hb)
            (try clear hb2)
            (try clear hk)
            (try clear hi)
            (try clear ho0)
            refine hK.out _ _ ⟨(blk_cell BK5751.out 0).trans rfl, (blk_cell BK5751.out 1).trans rfl⟩ (fun hHeld => ?_)
            clear hK K
            refine norm_ (a' := ?_) ?_ ?_
            rotate_left
            · show Act.put _ (some 37) _ = _
              simp only [Act.put, List.setIfInBounds_toArray, List.set_cons_zero, List.set_cons_succ, i64_w, i32_w]
              rfl
            exact norm_ (by simp only [putAll, Act.put, List.setIfInBounds_toArray, List.set_cons_zero, List.set_cons_succ]) (hCont (.slice Ao39 t5768.length co39, .slice Ao40 t5771.length co40, v5775, gb5777) _ ⟨hHeld, (by (with_reducible repeat (first | apply Kd.R_alloc | apply Kd.R_drewN | apply Kd.R_drew)); exact Kd.R_mono HO5754.out (fun _ hk => (And.intro (hk.1.1.1.1) ((And.intro (hk.1.1.1.2.1) ((And.intro (hk.1.1.1.2.2.1) ((And.intro (hk.1.1.1.2.2.2) ((And.intro (hk.1.1.2) ((And.intro (hk.1.2) (hk.2)))))))))))))), (by (with_reducible repeat (first | apply Kd.R_alloc | apply Kd.R_drewN | apply Kd.R_drew)); exact Kd.R_mono HO5757.out (fun _ hk => (And.intro (hk.1.1.1.1) ((And.intro (hk.1.1.1.2.1) ((And.intro (hk.1.1.1.2.2.1) ((And.intro (hk.1.1.1.2.2.2) ((And.intro (hk.1.1.2) ((And.intro (hk.1.2) (hk.2)))))))))))))), (by (with_reducible repeat (first | apply Kd.R_alloc | apply Kd.R_drewN | apply Kd.R_drew)); exact Kd.R_mono HO5760.out (fun _ hk => (And.intro (hk.1.1.1.1) ((And.intro (hk.1.1.1.2.1) ((And.intro (hk.1.1.1.2.2.1) ((And.intro (hk.1.1.1.2.2.2) ((And.intro (hk.1.1.2) ((And.intro (hk.1.2) (hk.2)))))))))))))), (by (with_reducible repeat (first | apply Kd.R_alloc | apply Kd.R_drewN | apply Kd.R_drew)); exact Kd.R_mono HO5763.out (fun _ hk => (And.intro (hk.1.1.1.1) ((And.intro (hk.1.1.1.2.1) ((And.intro (hk.1.1.1.2.2.1) ((And.intro (hk.1.1.1.2.2.2) ((And.intro (hk.1.1.2) ((And.intro (hk.1.2) (hk.2)))))))))))))), (by (with_reducible repeat (first | apply Kd.R_alloc | apply Kd.R_drewN | apply Kd.R_drew)); exact Kd.R_mono HO5766.out (fun _ hk => (And.intro (hk.1.1.1.1) ((And.intro (hk.1.1.1.2.1) ((And.intro (hk.1.1.1.2.2.1) ((And.intro (hk.1.1.1.2.2.2) ((And.intro (hk.1.1.2) ((And.intro (hk.1.2) (hk.2)))))))))))))), (by (with_reducible repeat (first | apply Kd.R_alloc | apply Kd.R_drewN | apply Kd.R_drew)); exact Kd.R_mono HO5770.out (fun _ hk => (And.intro (hk.1.1.1.1.1.1.2) ((And.intro (hk.1.1.1.1.1.2) ((And.intro (hk.1.1.1.1.2) ((And.intro (hk.1.1.1.2) ((And.intro (hk.1.1.2) ((And.intro (hk.1.2) (hk.2)))))))))))))), (by (with_reducible repeat (first | apply Kd.R_alloc | apply Kd.R_drewN | apply Kd.R_drew)); exact Kd.R_mono HO5773.out (fun _ hk => (And.intro (hk.1.1.1.1.1.1.2) ((And.intro (hk.1.1.1.1.1.2) ((And.intro (hk.1.1.1.1.2) ((And.intro (hk.1.1.1.2) ((And.intro (hk.1.1.2) ((And.intro (hk.1.2) (hk.2)))))))))))))), (by (with_reducible repeat (first | apply Kd.R_alloc | apply Kd.R_drewN | apply Kd.R_drew)); exact Kd.R_mono HO5776.out (fun _ hk => (And.intro (hk.1.1.1.1.1.1.2) ((And.intro (hk.1.1.1.1.1.2) ((And.intro (hk.1.1.1.1.2) ((And.intro (hk.1.1.1.2) ((And.intro (hk.1.1.2) ((And.intro (hk.1.2) (hk.2)))))))))))))), BK5751.out, BK5767.out, BK5777.out, GW5777.out, GE5777.out, NB5751_5777.out, NB5777_5751.out, NB5767_5777.out, NB5777_5767.out, (by repeat (first | (with_reducible first | exact HB.out | apply below_alloc | apply pw_below_drewN | apply below_drew1 | refine below_set ?_ GE5751.out | refine below_set ?_ GE5767.out | refine below_set ?_ GE5777.out) | exact HB.out))⟩)
        rintro ⟨v5769, v5772, v5775, gb5777⟩ w42 ⟨hS_, h0_, h1_, h2_, h3_, h4_, h5_, h6_, h7_, h8_, h9_, h10_, h11_, h12_, h13_, h14_, h15_, h16_, h17_⟩
        have n0_ : Aside0 (Kd.R (Kd.int .i64) 3 w42 w.heap.size (fun k_ => some k_ ≠ (v5756 : Value).ownBlock ∧ some k_ ≠ (v5759 : Value).ownBlock ∧ some k_ ≠ (v5762 : Value).ownBlock ∧ some k_ ≠ (.slice Ao32 t5764.length co32 : Value).ownBlock ∧ some k_ ≠ (v5769 : Value).ownBlock ∧ some k_ ≠ (v5772 : Value).ownBlock ∧ some k_ ≠ (v5775 : Value).ownBlock) v5753 t5752) := ⟨h0_⟩
        have n1_ : Aside0 (Kd.R (Kd.int .i64) 3 w42 w.heap.size (fun k_ => some k_ ≠ (v5753 : Value).ownBlock ∧ some k_ ≠ (v5759 : Value).ownBlock ∧ some k_ ≠ (v5762 : Value).ownBlock ∧ some k_ ≠ (.slice Ao32 t5764.length co32 : Value).ownBlock ∧ some k_ ≠ (v5769 : Value).ownBlock ∧ some k_ ≠ (v5772 : Value).ownBlock ∧ some k_ ≠ (v5775 : Value).ownBlock) v5756 t5755) := ⟨h1_⟩
        have n2_ : Aside0 (Kd.R (Kd.int .i64) 3 w42 w.heap.size (fun k_ => some k_ ≠ (v5753 : Value).ownBlock ∧ some k_ ≠ (v5756 : Value).ownBlock ∧ some k_ ≠ (v5762 : Value).ownBlock ∧ some k_ ≠ (.slice Ao32 t5764.length co32 : Value).ownBlock ∧ some k_ ≠ (v5769 : Value).ownBlock ∧ some k_ ≠ (v5772 : Value).ownBlock ∧ some k_ ≠ (v5775 : Value).ownBlock) v5759 t5758) := ⟨h2_⟩
        have n3_ : Aside0 (Kd.R (Kd.int .i64) 3 w42 w.heap.size (fun k_ => some k_ ≠ (v5753 : Value).ownBlock ∧ some k_ ≠ (v5756 : Value).ownBlock ∧ some k_ ≠ (v5759 : Value).ownBlock ∧ some k_ ≠ (.slice Ao32 t5764.length co32 : Value).ownBlock ∧ some k_ ≠ (v5769 : Value).ownBlock ∧ some k_ ≠ (v5772 : Value).ownBlock ∧ some k_ ≠ (v5775 : Value).ownBlock) v5762 t5761) := ⟨h3_⟩
        have n4_ : Aside0 (Kd.R (Kd.int .i64) 3 w42 w.heap.size (fun k_ => some k_ ≠ (v5753 : Value).ownBlock ∧ some k_ ≠ (v5756 : Value).ownBlock ∧ some k_ ≠ (v5759 : Value).ownBlock ∧ some k_ ≠ (v5762 : Value).ownBlock ∧ some k_ ≠ (v5769 : Value).ownBlock ∧ some k_ ≠ (v5772 : Value).ownBlock ∧ some k_ ≠ (v5775 : Value).ownBlock) (.slice Ao32 t5764.length co32) t5764) := ⟨h4_⟩
        have n5_ : Aside0 (Kd.R (Kd.int .i64) 3 w42 w.heap.size (fun k_ => some k_ ≠ (v5753 : Value).ownBlock ∧ some k_ ≠ (v5756 : Value).ownBlock ∧ some k_ ≠ (v5759 : Value).ownBlock ∧ some k_ ≠ (v5762 : Value).ownBlock ∧ some k_ ≠ (.slice Ao32 t5764.length co32 : Value).ownBlock ∧ some k_ ≠ (v5772 : Value).ownBlock ∧ some k_ ≠ (v5775 : Value).ownBlock) v5769 t5768) := ⟨h5_⟩
        have n6_ : Aside0 (Kd.R (Kd.int .i64) 3 w42 w.heap.size (fun k_ => some k_ ≠ (v5753 : Value).ownBlock ∧ some k_ ≠ (v5756 : Value).ownBlock ∧ some k_ ≠ (v5759 : Value).ownBlock ∧ some k_ ≠ (v5762 : Value).ownBlock ∧ some k_ ≠ (.slice Ao32 t5764.length co32 : Value).ownBlock ∧ some k_ ≠ (v5769 : Value).ownBlock ∧ some k_ ≠ (v5775 : Value).ownBlock) v5772 t5771) := ⟨h6_⟩
        have n7_ : Aside0 (Kd.R (Kd.int .i64) 3 w42 w.heap.size (fun k_ => some k_ ≠ (v5753 : Value).ownBlock ∧ some k_ ≠ (v5756 : Value).ownBlock ∧ some k_ ≠ (v5759 : Value).ownBlock ∧ some k_ ≠ (v5762 : Value).ownBlock ∧ some k_ ≠ (.slice Ao32 t5764.length co32 : Value).ownBlock ∧ some k_ ≠ (v5769 : Value).ownBlock ∧ some k_ ≠ (v5772 : Value).ownBlock) v5775 t5774) := ⟨h7_⟩
        have n8_ : Aside0 (w42.heap[gb5751]? = some (.cells #[.int .i64 a2_0, .int .i64 a2_1] 57 (0, 0))) := ⟨h8_⟩
        have n9_ : Aside0 (w42.heap[gb5767]? = some (.cells #[.slice Ao32 t5764.length co32] 28 (0, 0))) := ⟨h9_⟩
        have n10_ : Aside0 (w42.heap[gb5777]? = some (.cells #[.slice none 0 0] 28 (0, 0))) := ⟨h10_⟩
        have n11_ : Aside0 (w.heap.size ≤ gb5777) := ⟨h11_⟩
        have n12_ : Aside0 (w.heap.size ≤ gb5777) := ⟨h12_⟩
        have n13_ : Aside0 (gb5751 ≠ gb5777) := ⟨h13_⟩
        have n14_ : Aside0 (gb5777 ≠ gb5751) := ⟨h14_⟩
        have n15_ : Aside0 (gb5767 ≠ gb5777) := ⟨h15_⟩
        have n16_ : Aside0 (gb5777 ≠ gb5767) := ⟨h16_⟩
        have n17_ : Aside0 (Below w.heap.size w w42) := ⟨h17_⟩
        clear HO5754 HO5757 HO5760 HO5763 HO5766 BK5751 BK5767 HB h0_ h1_ h2_ h3_ h4_ h5_ h6_ h7_ h8_ h9_ h10_ h11_ h12_ h13_ h14_ h15_ h16_ h17_
        have HO5754 := n0_
        have HO5757 := n1_
        have HO5760 := n2_
        have HO5763 := n3_
        have HO5766 := n4_
        have HO5770 := n5_
        have HO5773 := n6_
        have HO5776 := n7_
        have BK5751 := n8_
        have BK5767 := n9_
        have BK5777 := n10_
        have GW5777 := n11_
        have GE5777 := n12_
        have NB5751_5777 := n13_
        have NB5777_5751 := n14_
        have NB5767_5777 := n15_
        have NB5777_5767 := n16_
        have HB := n17_
        clear n0_ n1_ n2_ n3_ n4_ n5_ n6_ n7_ n8_ n9_ n10_ n11_ n12_ n13_ n14_ n15_ n16_ n17_
        have hHeld : w42.cell? ⟨gb5751, 0, none⟩ = some (.int .i64 a2_0) ∧ w42.cell? ⟨gb5751, 1, none⟩ = some (.int .i64 a2_1) := hS_
        obtain ⟨Ao43, co43, eo43⟩ := Kd.R_slice HO5776.out
        (first | subst eo43 | (injection eo43 with f1_ f2_ f3_; have f4_ := f1_.symm; have f5_ := f3_.symm; clear f1_ f2_ f3_; subst f4_; subst f5_))
        refine norm_ (a' := ?_) ?_ ?_
        rotate_left
        · simp only [putAll, Act.put, List.setIfInBounds_toArray, List.set_cons_zero, List.set_cons_succ]
          rfl
        refine one_ (i := 7) (N := none) (demurrageref03_Part.ups 8 255) rfl rfl (one_of HT_.out (by kernel_rfl)) (by decide) (fun K hK => ?_)
        have hs44 : w42.cell? ⟨gb5777, 0, none⟩ = some (.slice none 0 0) := (blk_cell BK5777.out 0).trans rfl
        have hfs44 := blk_frozen BK5777.out 0
        have hns44_0 := NB5751_5777.out
        have hns44_1 := NB5767_5777.out
        have hms44_0 := NB5777_5751.out
        have hms44_1 := NB5777_5767.out
        refine skip_ (w1 := ?_) (by rfl) rfl ?_ ?_
        rotate_left
        · go_simp
          rfl
        refine hK.out _ _ ⟨((cell_far (p := ⟨gb5777, _, none⟩) NB5751_5777.out _).trans (hHeld.1)), ((cell_far (p := ⟨gb5777, _, none⟩) NB5751_5777.out _).trans (hHeld.2))⟩ (fun hHeld => ?_)
        clear hK K
        refine done_ (done_of HT_.out (by kernel_rfl)) ?_
        go_upto_region 6 with (first | ((with_reducible refine gate_callee (f := 24) rfl ?_); refine goesL_ (some 38) rfl rfl Try.func24 (by kernel_rfl) rfl #[.int .u64 4294967296] rfl (by (try simp only [List.map_toArray, List.map_cons, List.map_nil]); first | done | rfl) ?_; (with_reducible refine (demurrageref01_FromU.calls kj4 4294967296 t5778 _ A18.out).mono ?_); rintro e w45 ⟨v5779, rfl, ho0, hb⟩; refine ⟨_, rfl, ?_⟩; have n0_ := Aside0.mk (Kd.R_elder' (by (with_reducible repeat (first | apply Kd.R_alloc | apply Kd.R_drewN | apply Kd.R_drew)); exact (Kd.R_mono (Kd.R_far (p := ⟨gb5777, 0, none⟩) (Kd.R_types HO5754.out BK5777.out (by decide)) (fun _ hk => hk.2) (.slice Ao43 t5774.length co43)) (fun _ h_ => h_.1))) (Kd.R_base ho0) hb); have n1_ := Aside0.mk (Kd.R_elder' (by (with_reducible repeat (first | apply Kd.R_alloc | apply Kd.R_drewN | apply Kd.R_drew)); exact (Kd.R_mono (Kd.R_far (p := ⟨gb5777, 0, none⟩) (Kd.R_types HO5757.out BK5777.out (by decide)) (fun _ hk => hk.2) (.slice Ao43 t5774.length co43)) (fun _ h_ => h_.1))) (Kd.R_base ho0) hb); have n2_ := Aside0.mk (Kd.R_elder' (by (with_reducible repeat (first | apply Kd.R_alloc | apply Kd.R_drewN | apply Kd.R_drew)); exact (Kd.R_mono (Kd.R_far (p := ⟨gb5777, 0, none⟩) (Kd.R_types HO5760.out BK5777.out (by decide)) (fun _ hk => hk.2) (.slice Ao43 t5774.length co43)) (fun _ h_ => h_.1))) (Kd.R_base ho0) hb); have n3_ := Aside0.mk (Kd.R_elder' (by (with_reducible repeat (first | apply Kd.R_alloc | apply Kd.R_drewN | apply Kd.R_drew)); exact (Kd.R_mono (Kd.R_far (p := ⟨gb5777, 0, none⟩) (Kd.R_types HO5763.out BK5777.out (by decide)) (fun _ hk => hk.2) (.slice Ao43 t5774.length co43)) (fun _ h_ => h_.1))) (Kd.R_base ho0) hb); have n4_ := Aside0.mk (Kd.R_elder' (by (with_reducible repeat (first | apply Kd.R_alloc | apply Kd.R_drewN | apply Kd.R_drew)); exact (Kd.R_mono (Kd.R_far (p := ⟨gb5777, 0, none⟩) (Kd.R_types HO5766.out BK5777.out (by decide)) (fun _ hk => hk.2) (.slice Ao43 t5774.length co43)) (fun _ h_ => h_.1))) (Kd.R_base ho0) hb); have n5_ := Aside0.mk (Kd.R_elder' (by (with_reducible repeat (first | apply Kd.R_alloc | apply Kd.R_drewN | apply Kd.R_drew)); exact (Kd.R_mono (Kd.R_far (p := ⟨gb5777, 0, none⟩) (Kd.R_types HO5770.out BK5777.out (by decide)) (fun _ hk => hk.2) (.slice Ao43 t5774.length co43)) (fun _ h_ => h_.1))) (Kd.R_base ho0) hb); have n6_ := Aside0.mk (Kd.R_elder' (by (with_reducible repeat (first | apply Kd.R_alloc | apply Kd.R_drewN | apply Kd.R_drew)); exact (Kd.R_mono (Kd.R_far (p := ⟨gb5777, 0, none⟩) (Kd.R_types HO5773.out BK5777.out (by decide)) (fun _ hk => hk.2) (.slice Ao43 t5774.length co43)) (fun _ h_ => h_.1))) (Kd.R_base ho0) hb); have n7_ := Aside0.mk (Kd.R_elder' (by (with_reducible repeat (first | apply Kd.R_alloc | apply Kd.R_drewN | apply Kd.R_drew)); exact (Kd.R_mono (Kd.R_far (p := ⟨gb5777, 0, none⟩) (Kd.R_types HO5776.out BK5777.out (by decide)) (fun _ hk => hk.2) (.slice Ao43 t5774.length co43)) (fun _ h_ => h_.1))) (Kd.R_base ho0) hb); have n8_ := Aside0.mk (Kd.R_lower (Kd.R_new' (Kd.R_new' (Kd.R_new' (Kd.R_new' (Kd.R_new' (Kd.R_new' (Kd.R_new' (Kd.R_new' ho0 (Kd.R_lt (by (with_reducible repeat (first | apply Kd.R_alloc | apply Kd.R_drewN | apply Kd.R_drew)); exact (Kd.R_mono (Kd.R_far (p := ⟨gb5777, 0, none⟩) (Kd.R_types HO5754.out BK5777.out (by decide)) (fun _ hk => hk.2) (.slice Ao43 t5774.length co43)) (fun _ h_ => h_.1))))) (Kd.R_lt (by (with_reducible repeat (first | apply Kd.R_alloc | apply Kd.R_drewN | apply Kd.R_drew)); exact (Kd.R_mono (Kd.R_far (p := ⟨gb5777, 0, none⟩) (Kd.R_types HO5757.out BK5777.out (by decide)) (fun _ hk => hk.2) (.slice Ao43 t5774.length co43)) (fun _ h_ => h_.1))))) (Kd.R_lt (by (with_reducible repeat (first | apply Kd.R_alloc | apply Kd.R_drewN | apply Kd.R_drew)); exact (Kd.R_mono (Kd.R_far (p := ⟨gb5777, 0, none⟩) (Kd.R_types HO5760.out BK5777.out (by decide)) (fun _ hk => hk.2) (.slice Ao43 t5774.length co43)) (fun _ h_ => h_.1))))) (Kd.R_lt (by (with_reducible repeat (first | apply Kd.R_alloc | apply Kd.R_drewN | apply Kd.R_drew)); exact (Kd.R_mono (Kd.R_far (p := ⟨gb5777, 0, none⟩) (Kd.R_types HO5763.out BK5777.out (by decide)) (fun _ hk => hk.2) (.slice Ao43 t5774.length co43)) (fun _ h_ => h_.1))))) (Kd.R_lt (by (with_reducible repeat (first | apply Kd.R_alloc | apply Kd.R_drewN | apply Kd.R_drew)); exact (Kd.R_mono (Kd.R_far (p := ⟨gb5777, 0, none⟩) (Kd.R_types HO5766.out BK5777.out (by decide)) (fun _ hk => hk.2) (.slice Ao43 t5774.length co43)) (fun _ h_ => h_.1))))) (Kd.R_lt (by (with_reducible repeat (first | apply Kd.R_alloc | apply Kd.R_drewN | apply Kd.R_drew)); exact (Kd.R_mono (Kd.R_far (p := ⟨gb5777, 0, none⟩) (Kd.R_types HO5770.out BK5777.out (by decide)) (fun _ hk => hk.2) (.slice Ao43 t5774.length co43)) (fun _ h_ => h_.1))))) (Kd.R_lt (by (with_reducible repeat (first | apply Kd.R_alloc | apply Kd.R_drewN | apply Kd.R_drew)); exact (Kd.R_mono (Kd.R_far (p := ⟨gb5777, 0, none⟩) (Kd.R_types HO5773.out BK5777.out (by decide)) (fun _ hk => hk.2) (.slice Ao43 t5774.length co43)) (fun _ h_ => h_.1))))) (Kd.R_lt (by (with_reducible repeat (first | apply Kd.R_alloc | apply Kd.R_drewN | apply Kd.R_drew)); exact (Kd.R_mono (Kd.R_far (p := ⟨gb5777, 0, none⟩) (Kd.R_types HO5776.out BK5777.out (by decide)) (fun _ hk => hk.2) (.slice Ao43 t5774.length co43)) (fun _ h_ => h_.1))))) (below_size (by repeat (first | (with_reducible first | exact HB.out | apply below_alloc | apply pw_below_drewN | apply below_drew1 | refine below_set ?_ GE5751.out | refine below_set ?_ GE5767.out | refine below_set ?_ GE5777.out) | exact HB.out)))); have n9_ := Aside0.mk (blk_below (g := gb5751) (o := .cells #[.int .i64 a2_0, .int .i64 a2_1] 57 (0, 0)) (by refine blk_far ?_ NB5751_5777.out _; exact BK5751.out) hb); have n10_ := Aside0.mk (blk_below (g := gb5767) (o := .cells #[.slice Ao32 t5764.length co32] 28 (0, 0)) (by refine blk_far ?_ NB5767_5777.out _; exact BK5767.out) hb); have n11_ := Aside0.mk (blk_below (g := gb5777) (o := .cells #[.slice Ao43 t5774.length co43] 28 (0, 0)) (by refine blk_put (cs := #[.slice none 0 0]) ?_ 0 _ rfl; exact BK5777.out) hb); have n12_ := Aside0.mk (below_step (by repeat (first | (with_reducible first | exact HB.out | apply below_alloc | apply pw_below_drewN | apply below_drew1 | refine below_set ?_ GE5751.out | refine below_set ?_ GE5767.out | refine below_set ?_ GE5777.out) | exact HB.out)) hb); clear HO5754 HO5757 HO5760 HO5763; clear HO5766 HO5770 HO5773 HO5776; clear BK5751 BK5767 BK5777 HB; have HO5754 := n0_; have HO5757 := n1_; have HO5760 := n2_; have HO5763 := n3_; have HO5766 := n4_; have HO5770 := n5_; have HO5773 := n6_; have HO5776 := n7_; have HO5780 := n8_; have BK5751 := n9_; have BK5767 := n10_; have BK5777 := n11_; have HB := n12_; clear n0_ n1_ n2_ n3_ n4_ n5_ n6_ n7_ n8_ n9_ n10_ n11_ n12_; (try clear hb); (try clear ho0)) | ((with_reducible refine gate_dst (N := 12) rfl ?_); refine box_event ?hg (N := 12) ?hd (cs := #[.slice none 0 0]) (t := 28) ?hr ?_; (case hd => rfl); (case hg => rfl); (case hr => go_simp); intro gb5781 hg w46 hbox hb; have n0_ := Aside0.mk (Kd.R_below HO5754.out hb); have n1_ := Aside0.mk (Kd.R_below HO5757.out hb); have n2_ := Aside0.mk (Kd.R_below HO5760.out hb); have n3_ := Aside0.mk (Kd.R_below HO5763.out hb); have n4_ := Aside0.mk (Kd.R_below HO5766.out hb); have n5_ := Aside0.mk (Kd.R_below HO5770.out hb); have n6_ := Aside0.mk (Kd.R_below HO5773.out hb); have n7_ := Aside0.mk (Kd.R_below HO5776.out hb); have n8_ := Aside0.mk (Kd.R_below HO5780.out hb); have n9_ := Aside0.mk (blk_below BK5751.out hb); have n10_ := Aside0.mk (blk_below BK5767.out hb); have n11_ := Aside0.mk (blk_below BK5777.out hb); have n12_ := Aside0.mk (below_step (by repeat (first | (with_reducible first | exact HB.out | apply below_alloc | apply pw_below_drewN | apply below_drew1 | refine below_set ?_ GE5751.out | refine below_set ?_ GE5767.out | refine below_set ?_ GE5777.out) | exact HB.out)) hb); have n13_ := Aside0.mk (hbox); have n14_ := Aside0.mk ((by rw [hg]; exact (below_size (by repeat (first | (with_reducible first | exact HB.out | apply below_alloc | apply pw_below_drewN | apply below_drew1 | refine below_set ?_ GE5751.out | refine below_set ?_ GE5767.out | refine below_set ?_ GE5777.out) | exact HB.out))) : w.heap.size ≤ gb5781)); have n15_ := Aside0.mk ((by rw [hg]; exact (below_size (by repeat (first | (with_reducible first | exact HB.out | apply below_alloc | apply pw_below_drewN | apply below_drew1 | refine below_set ?_ GE5751.out | refine below_set ?_ GE5767.out | refine below_set ?_ GE5777.out) | exact HB.out))) : w.heap.size ≤ gb5781)); have n16_ := Aside0.mk ((by rw [hg]; exact Nat.ne_of_lt (blk_lt (g := gb5751) (o := .cells #[.int .i64 a2_0, .int .i64 a2_1] 57 (0, 0)) BK5751.out) : gb5751 ≠ gb5781)); have n17_ := Aside0.mk ((by rw [hg]; exact Nat.ne_of_gt (blk_lt (g := gb5751) (o := .cells #[.int .i64 a2_0, .int .i64 a2_1] 57 (0, 0)) BK5751.out) : gb5781 ≠ gb5751)); have n18_ := Aside0.mk ((by rw [hg]; exact Nat.ne_of_lt (blk_lt (g := gb5767) (o := .cells #[.slice Ao32 t5764.length co32] 28 (0, 0)) BK5767.out) : gb5767 ≠ gb5781)); have n19_ := Aside0.mk ((by rw [hg]; exact Nat.ne_of_gt (blk_lt (g := gb5767) (o := .cells #[.slice Ao32 t5764.length co32] 28 (0, 0)) BK5767.out) : gb5781 ≠ gb5767)); have n20_ := Aside0.mk ((by rw [hg]; exact Nat.ne_of_lt (blk_lt (g := gb5777) (o := .cells #[.slice Ao43 t5774.length co43] 28 (0, 0)) BK5777.out) : gb5777 ≠ gb5781)); have n21_ := Aside0.mk ((by rw [hg]; exact Nat.ne_of_gt (blk_lt (g := gb5777) (o := .cells #[.slice Ao43 t5774.length co43] 28 (0, 0)) BK5777.out) : gb5781 ≠ gb5777)); clear HO5754 HO5757 HO5760 HO5763; clear HO5766 HO5770 HO5773 HO5776; clear HO5780 BK5751 BK5767 BK5777; clear HB; have HO5754 := n0_; have HO5757 := n1_; have HO5760 := n2_; have HO5763 := n3_; have HO5766 := n4_; have HO5770 := n5_; have HO5773 := n6_; have HO5776 := n7_; have HO5780 := n8_; have BK5751 := n9_; have BK5767 := n10_; have BK5777 := n11_; have HB := n12_; have BK5781 := n13_; have GW5781 := n14_; have GE5781 := n15_; have NB5751_5781 := n16_; have NB5781_5751 := n17_; have NB5767_5781 := n18_; have NB5781_5767 := n19_; have NB5777_5781 := n20_; have NB5781_5777 := n21_; clear n0_ n1_ n2_ n3_ n4_ n5_ n6_ n7_ n8_ n9_ n10_ n11_ n12_ n13_ n14_ n15_ n16_ n17_ n18_ n19_ n20_ n21_; clear hb hbox hg; obtain ⟨Ao47, co47, eo47⟩ := Kd.R_slice HO5780.out; subst eo47; have hnb48 := NB5781_5751.out; have hnc48 := NB5751_5781.out; have hnb49 := NB5781_5767.out; have hnc49 := NB5767_5781.out; have hnb50 := NB5781_5777.out; have hnc50 := NB5777_5781.out; have hcz51_0 : w46.cell? ⟨gb5781, 0, none⟩ = some (.slice none 0 0) := (blk_cell BK5781.out 0).trans rfl; have hfz51_0 := blk_frozen BK5781.out 0))
        (try simp only [Act.put, List.setIfInBounds_toArray, List.set_cons_zero, List.set_cons_succ])
        go_cut [50] (fun v50 wc => ∃ (kq : Nat) (x50_18 : Bool), v50 = .bool x50_18 ∧ Aside0 (demurrageref03_Part.j1 kq x50_18 t5764 t5774 = some (r1, r2)) ∧ Aside0 (kq ≤ kj4) ∧ Aside0 (Kd.R (Kd.int .i64) 3 wc w.heap.size (fun k_ => some k_ ≠ ((.slice Ao43 t5774.length co43) : Value).ownBlock ∧ some k_ ≠ ((.slice Ao47 t5778.length co47) : Value).ownBlock) (.slice Ao32 t5764.length co32) t5764) ∧ Aside0 (Kd.R (Kd.int .i64) 3 wc w.heap.size (fun k_ => some k_ ≠ ((.slice Ao32 t5764.length co32) : Value).ownBlock ∧ some k_ ≠ ((.slice Ao47 t5778.length co47) : Value).ownBlock) (.slice Ao43 t5774.length co43) t5774) ∧ Aside0 (Kd.R (Kd.int .i64) 3 wc w.heap.size (fun k_ => some k_ ≠ ((.slice Ao32 t5764.length co32) : Value).ownBlock ∧ some k_ ≠ ((.slice Ao43 t5774.length co43) : Value).ownBlock) (.slice Ao47 t5778.length co47) t5778) ∧ Aside0 (wc.heap[gb5751]? = some (.cells #[.int .i64 a2_0, .int .i64 a2_1] 57 (0, 0))) ∧ Aside0 (wc.heap[gb5767]? = some (.cells #[(.slice Ao32 t5764.length co32)] 28 (0, 0))) ∧ Aside0 (wc.heap[gb5777]? = some (.cells #[(.slice Ao43 t5774.length co43)] 28 (0, 0))) ∧ Aside0 (wc.heap[gb5781]? = some (.cells #[(.slice Ao47 t5778.length co47)] 28 (0, 0))) ∧ Aside0 (Below w.heap.size w wc))
        case first =>
          have H := HC19.out
          clear HC19
          replace H := Option.bind_eq_some_iff.mp H
          obtain ⟨t5782, A520, H⟩ := H
          replace H : ((demurrageref01_Cmp.f kj4 t5764 t5782).bind fun t5785 => (if t5785 ≥ 0 then (demurrageref03_Part.j1 kj4 true t5764 t5774) else ((demurrageref01_Prod.f kj4 t5778 t5778).bind fun t5786 => ((demurrageref01_Cmp.f kj4 t5774 t5786).bind fun t5789 => (demurrageref03_Part.j1 kj4 (decide (t5789 ≥ 0)) t5764 t5774))))) = some (r1, r2) := H
          have A52 := Aside0.mk A520
          clear A520
          replace H := Option.bind_eq_some_iff.mp H
          obtain ⟨t5785, A530, H⟩ := H
          replace H : (if t5785 ≥ 0 then (demurrageref03_Part.j1 kj4 true t5764 t5774) else ((demurrageref01_Prod.f kj4 t5778 t5778).bind fun t5786 => ((demurrageref01_Cmp.f kj4 t5774 t5786).bind fun t5789 => (demurrageref03_Part.j1 kj4 (decide (t5789 ≥ 0)) t5764 t5774)))) = some (r1, r2) := H
          have A53 := Aside0.mk A530
          clear A530
          by_cases c54 : t5785 ≥ 0
          · rw [if_pos c54] at H
            have c54b0 : decide (0 ≤ t5785) = true := decide_eq_true c54
            clear c54
            (first | rw [c54b0] | (simp only [i64_w, i32_w]; rw [c54b0]) | rw [c54b1] | skip)
            have H' := Aside0.mk H
            clear H
            try go_wp2
            have n0_ : Aside0 (Kd.R (Kd.int .i64) 3 (w46.setCell ⟨gb5781, 0, none⟩ (.slice Ao47 t5778.length co47)) w.heap.size (fun k_ => some k_ ≠ (v5756 : Value).ownBlock ∧ some k_ ≠ (v5759 : Value).ownBlock ∧ some k_ ≠ (v5762 : Value).ownBlock ∧ some k_ ≠ (.slice Ao32 t5764.length co32 : Value).ownBlock ∧ some k_ ≠ (v5769 : Value).ownBlock ∧ some k_ ≠ (v5772 : Value).ownBlock ∧ some k_ ≠ (.slice Ao43 t5774.length co43 : Value).ownBlock ∧ some k_ ≠ (.slice Ao47 t5778.length co47 : Value).ownBlock) v5753 t5752) := ⟨by (with_reducible repeat (first | apply Kd.R_alloc | apply Kd.R_drewN | apply Kd.R_drew)); exact Kd.R_mono (Kd.R_far (p := ⟨gb5781, 0, none⟩) (Kd.R_types HO5754.out BK5781.out (by decide)) (fun _ hk => hk.2) (.slice Ao47 t5778.length co47)) (fun _ hk => (And.intro (hk.1.1.1) ((And.intro (hk.1.1.2.1) ((And.intro (hk.1.1.2.2.1) ((And.intro (hk.1.1.2.2.2.1) ((And.intro (hk.1.1.2.2.2.2.1) ((And.intro (hk.1.1.2.2.2.2.2.1) ((And.intro (hk.1.1.2.2.2.2.2.2) (hk.1.2)))))))))))))))⟩
            have n1_ : Aside0 (Kd.R (Kd.int .i64) 3 (w46.setCell ⟨gb5781, 0, none⟩ (.slice Ao47 t5778.length co47)) w.heap.size (fun k_ => some k_ ≠ (v5753 : Value).ownBlock ∧ some k_ ≠ (v5759 : Value).ownBlock ∧ some k_ ≠ (v5762 : Value).ownBlock ∧ some k_ ≠ (.slice Ao32 t5764.length co32 : Value).ownBlock ∧ some k_ ≠ (v5769 : Value).ownBlock ∧ some k_ ≠ (v5772 : Value).ownBlock ∧ some k_ ≠ (.slice Ao43 t5774.length co43 : Value).ownBlock ∧ some k_ ≠ (.slice Ao47 t5778.length co47 : Value).ownBlock) v5756 t5755) := ⟨by (with_reducible repeat (first | apply Kd.R_alloc | apply Kd.R_drewN | apply Kd.R_drew)); exact Kd.R_mono (Kd.R_far (p := ⟨gb5781, 0, none⟩) (Kd.R_types HO5757.out BK5781.out (by decide)) (fun _ hk => hk.2) (.slice Ao47 t5778.length co47)) (fun _ hk => (And.intro (hk.1.1.1) ((And.intro (hk.1.1.2.1) ((And.intro (hk.1.1.2.2.1) ((And.intro (hk.1.1.2.2.2.1) ((And.intro (hk.1.1.2.2.2.2.1) ((And.intro (hk.1.1.2.2.2.2.2.1) ((And.intro (hk.1.1.2.2.2.2.2.2) (hk.1.2)))))))))))))))⟩
            have n2_ : Aside0 (Kd.R (Kd.int .i64) 3 (w46.setCell ⟨gb5781, 0, none⟩ (.slice Ao47 t5778.length co47)) w.heap.size (fun k_ => some k_ ≠ (v5753 : Value).ownBlock ∧ some k_ ≠ (v5756 : Value).ownBlock ∧ some k_ ≠ (v5762 : Value).ownBlock ∧ some k_ ≠ (.slice Ao32 t5764.length co32 : Value).ownBlock ∧ some k_ ≠ (v5769 : Value).ownBlock ∧ some k_ ≠ (v5772 : Value).ownBlock ∧ some k_ ≠ (.slice Ao43 t5774.length co43 : Value).ownBlock ∧ some k_ ≠ (.slice Ao47 t5778.length co47 : Value).ownBlock) v5759 t5758) := ⟨by (with_reducible repeat (first | apply Kd.R_alloc | apply Kd.R_drewN | apply Kd.R_drew)); exact Kd.R_mono (Kd.R_far (p := ⟨gb5781, 0, none⟩) (Kd.R_types HO5760.out BK5781.out (by decide)) (fun _ hk => hk.2) (.slice Ao47 t5778.length co47)) (fun _ hk => (And.intro (hk.1.1.1) ((And.intro (hk.1.1.2.1) ((And.intro (hk.1.1.2.2.1) ((And.intro (hk.1.1.2.2.2.1) ((And.intro (hk.1.1.2.2.2.2.1) ((And.intro (hk.1.1.2.2.2.2.2.1) ((And.intro (hk.1.1.2.2.2.2.2.2) (hk.1.2)))))))))))))))⟩
            have n3_ : Aside0 (Kd.R (Kd.int .i64) 3 (w46.setCell ⟨gb5781, 0, none⟩ (.slice Ao47 t5778.length co47)) w.heap.size (fun k_ => some k_ ≠ (v5753 : Value).ownBlock ∧ some k_ ≠ (v5756 : Value).ownBlock ∧ some k_ ≠ (v5759 : Value).ownBlock ∧ some k_ ≠ (.slice Ao32 t5764.length co32 : Value).ownBlock ∧ some k_ ≠ (v5769 : Value).ownBlock ∧ some k_ ≠ (v5772 : Value).ownBlock ∧ some k_ ≠ (.slice Ao43 t5774.length co43 : Value).ownBlock ∧ some k_ ≠ (.slice Ao47 t5778.length co47 : Value).ownBlock) v5762 t5761) := ⟨by (with_reducible repeat (first | apply Kd.R_alloc | apply Kd.R_drewN | apply Kd.R_drew)); exact Kd.R_mono (Kd.R_far (p := ⟨gb5781, 0, none⟩) (Kd.R_types HO5763.out BK5781.out (by decide)) (fun _ hk => hk.2) (.slice Ao47 t5778.length co47)) (fun _ hk => (And.intro (hk.1.1.1) ((And.intro (hk.1.1.2.1) ((And.intro (hk.1.1.2.2.1) ((And.intro (hk.1.1.2.2.2.1) ((And.intro (hk.1.1.2.2.2.2.1) ((And.intro (hk.1.1.2.2.2.2.2.1) ((And.intro (hk.1.1.2.2.2.2.2.2) (hk.1.2)))))))))))))))⟩
            have n4_ : Aside0 (Kd.R (Kd.int .i64) 3 (w46.setCell ⟨gb5781, 0, none⟩ (.slice Ao47 t5778.length co47)) w.heap.size (fun k_ => some k_ ≠ (v5753 : Value).ownBlock ∧ some k_ ≠ (v5756 : Value).ownBlock ∧ some k_ ≠ (v5759 : Value).ownBlock ∧ some k_ ≠ (v5762 : Value).ownBlock ∧ some k_ ≠ (v5769 : Value).ownBlock ∧ some k_ ≠ (v5772 : Value).ownBlock ∧ some k_ ≠ (.slice Ao43 t5774.length co43 : Value).ownBlock ∧ some k_ ≠ (.slice Ao47 t5778.length co47 : Value).ownBlock) (.slice Ao32 t5764.length co32) t5764) := ⟨by (with_reducible repeat (first | apply Kd.R_alloc | apply Kd.R_drewN | apply Kd.R_drew)); exact Kd.R_mono (Kd.R_far (p := ⟨gb5781, 0, none⟩) (Kd.R_types HO5766.out BK5781.out (by decide)) (fun _ hk => hk.2) (.slice Ao47 t5778.length co47)) (fun _ hk => (And.intro (hk.1.1.1) ((And.intro (hk.1.1.2.1) ((And.intro (hk.1.1.2.2.1) ((And.intro (hk.1.1.2.2.2.1) ((And.intro (hk.1.1.2.2.2.2.1) ((And.intro (hk.1.1.2.2.2.2.2.1) ((And.intro (hk.1.1.2.2.2.2.2.2) (hk.1.2)))))))))))))))⟩
            have n5_ : Aside0 (Kd.R (Kd.int .i64) 3 (w46.setCell ⟨gb5781, 0, none⟩ (.slice Ao47 t5778.length co47)) w.heap.size (fun k_ => some k_ ≠ (v5753 : Value).ownBlock ∧ some k_ ≠ (v5756 : Value).ownBlock ∧ some k_ ≠ (v5759 : Value).ownBlock ∧ some k_ ≠ (v5762 : Value).ownBlock ∧ some k_ ≠ (.slice Ao32 t5764.length co32 : Value).ownBlock ∧ some k_ ≠ (v5772 : Value).ownBlock ∧ some k_ ≠ (.slice Ao43 t5774.length co43 : Value).ownBlock ∧ some k_ ≠ (.slice Ao47 t5778.length co47 : Value).ownBlock) v5769 t5768) := ⟨by (with_reducible repeat (first | apply Kd.R_alloc | apply Kd.R_drewN | apply Kd.R_drew)); exact Kd.R_mono (Kd.R_far (p := ⟨gb5781, 0, none⟩) (Kd.R_types HO5770.out BK5781.out (by decide)) (fun _ hk => hk.2) (.slice Ao47 t5778.length co47)) (fun _ hk => (And.intro (hk.1.1.1) ((And.intro (hk.1.1.2.1) ((And.intro (hk.1.1.2.2.1) ((And.intro (hk.1.1.2.2.2.1) ((And.intro (hk.1.1.2.2.2.2.1) ((And.intro (hk.1.1.2.2.2.2.2.1) ((And.intro (hk.1.1.2.2.2.2.2.2) (hk.1.2)))))))))))))))⟩
            have n6_ : Aside0 (Kd.R (Kd.int .i64) 3 (w46.setCell ⟨gb5781, 0, none⟩ (.slice Ao47 t5778.length co47)) w.heap.size (fun k_ => some k_ ≠ (v5753 : Value).ownBlock ∧ some k_ ≠ (v5756 : Value).ownBlock ∧ some k_ ≠ (v5759 : Value).ownBlock ∧ some k_ ≠ (v5762 : Value).ownBlock ∧ some k_ ≠ (.slice Ao32 t5764.length co32 : Value).ownBlock ∧ some k_ ≠ (v5769 : Value).ownBlock ∧ some k_ ≠ (.slice Ao43 t5774.length co43 : Value).ownBlock ∧ some k_ ≠ (.slice Ao47 t5778.length co47 : Value).ownBlock) v5772 t5771) := ⟨by (with_reducible repeat (first | apply Kd.R_alloc | apply Kd.R_drewN | apply Kd.R_drew)); exact Kd.R_mono (Kd.R_far (p := ⟨gb5781, 0, none⟩) (Kd.R_types HO5773.out BK5781.out (by decide)) (fun _ hk => hk.2) (.slice Ao47 t5778.length co47)) (fun _ hk => (And.intro (hk.1.1.1) ((And.intro (hk.1.1.2.1) ((And.intro (hk.1.1.2.2.1) ((And.intro (hk.1.1.2.2.2.1) ((And.intro (hk.1.1.2.2.2.2.1) ((And.intro (hk.1.1.2.2.2.2.2.1) ((And.intro (hk.1.1.2.2.2.2.2.2) (hk.1.2)))))))))))))))⟩
            have n7_ : Aside0 (Kd.R (Kd.int .i64) 3 (w46.setCell ⟨gb5781, 0, none⟩ (.slice Ao47 t5778.length co47)) w.heap.size (fun k_ => some k_ ≠ (v5753 : Value).ownBlock ∧ some k_ ≠ (v5756 : Value).ownBlock ∧ some k_ ≠ (v5759 : Value).ownBlock ∧ some k_ ≠ (v5762 : Value).ownBlock ∧ some k_ ≠ (.slice Ao32 t5764.length co32 : Value).ownBlock ∧ some k_ ≠ (v5769 : Value).ownBlock ∧ some k_ ≠ (v5772 : Value).ownBlock ∧ some k_ ≠ (.slice Ao47 t5778.length co47 : Value).ownBlock) (.slice Ao43 t5774.length co43) t5774) := ⟨by (with_reducible repeat (first | apply Kd.R_alloc | apply Kd.R_drewN | apply Kd.R_drew)); exact Kd.R_mono (Kd.R_far (p := ⟨gb5781, 0, none⟩) (Kd.R_types HO5776.out BK5781.out (by decide)) (fun _ hk => hk.2) (.slice Ao47 t5778.length co47)) (fun _ hk => (And.intro (hk.1.1.1) ((And.intro (hk.1.1.2.1) ((And.intro (hk.1.1.2.2.1) ((And.intro (hk.1.1.2.2.2.1) ((And.intro (hk.1.1.2.2.2.2.1) ((And.intro (hk.1.1.2.2.2.2.2.1) ((And.intro (hk.1.1.2.2.2.2.2.2) (hk.1.2)))))))))))))))⟩
            have n8_ : Aside0 (Kd.R (Kd.int .i64) 3 (w46.setCell ⟨gb5781, 0, none⟩ (.slice Ao47 t5778.length co47)) w.heap.size (fun k_ => some k_ ≠ (v5753 : Value).ownBlock ∧ some k_ ≠ (v5756 : Value).ownBlock ∧ some k_ ≠ (v5759 : Value).ownBlock ∧ some k_ ≠ (v5762 : Value).ownBlock ∧ some k_ ≠ (.slice Ao32 t5764.length co32 : Value).ownBlock ∧ some k_ ≠ (v5769 : Value).ownBlock ∧ some k_ ≠ (v5772 : Value).ownBlock ∧ some k_ ≠ (.slice Ao43 t5774.length co43 : Value).ownBlock) (.slice Ao47 t5778.length co47) t5778) := ⟨by (with_reducible repeat (first | apply Kd.R_alloc | apply Kd.R_drewN | apply Kd.R_drew)); exact Kd.R_mono (Kd.R_far (p := ⟨gb5781, 0, none⟩) (Kd.R_types HO5780.out BK5781.out (by decide)) (fun _ hk => hk.2) (.slice Ao47 t5778.length co47)) (fun _ hk => (And.intro (hk.1.1.1.1.1.1.1.1.2) ((And.intro (hk.1.1.1.1.1.1.1.2) ((And.intro (hk.1.1.1.1.1.1.2) ((And.intro (hk.1.1.1.1.1.2) ((And.intro (hk.1.1.1.1.2) ((And.intro (hk.1.1.1.2) ((And.intro (hk.1.1.2) (hk.1.2)))))))))))))))⟩
            have n9_ : Aside0 ((w46.setCell ⟨gb5781, 0, none⟩ (.slice Ao47 t5778.length co47)).heap[gb5751]? = some (.cells #[.int .i64 a2_0, .int .i64 a2_1] 57 (0, 0))) := ⟨by refine blk_far ?_ NB5751_5781.out _; exact BK5751.out⟩
            have n10_ : Aside0 ((w46.setCell ⟨gb5781, 0, none⟩ (.slice Ao47 t5778.length co47)).heap[gb5767]? = some (.cells #[.slice Ao32 t5764.length co32] 28 (0, 0))) := ⟨by refine blk_far ?_ NB5767_5781.out _; exact BK5767.out⟩
            have n11_ : Aside0 ((w46.setCell ⟨gb5781, 0, none⟩ (.slice Ao47 t5778.length co47)).heap[gb5777]? = some (.cells #[.slice Ao43 t5774.length co43] 28 (0, 0))) := ⟨by refine blk_far ?_ NB5777_5781.out _; exact BK5777.out⟩
            have n12_ : Aside0 ((w46.setCell ⟨gb5781, 0, none⟩ (.slice Ao47 t5778.length co47)).heap[gb5781]? = some (.cells #[.slice Ao47 t5778.length co47] 28 (0, 0))) := ⟨by refine blk_put (cs := #[.slice none 0 0]) ?_ 0 _ rfl; exact BK5781.out⟩
            have n13_ : Aside0 (Below w.heap.size w (w46.setCell ⟨gb5781, 0, none⟩ (.slice Ao47 t5778.length co47))) := ⟨by repeat (first | (with_reducible first | exact HB.out | apply below_alloc | apply pw_below_drewN | apply below_drew1 | refine below_set ?_ GE5751.out | refine below_set ?_ GE5767.out | refine below_set ?_ GE5777.out | refine below_set ?_ GE5781.out) | exact HB.out)⟩
            (try clear HO5754)
            (try clear HO5757)
            (try clear HO5760)
            (try clear HO5763)
            (try clear HO5766)
            (try clear HO5770)
            (try clear HO5773)
            (try clear HO5776)
            (try clear HO5780)
            (try clear BK5751)
            (try clear BK5767)
            (try clear BK5777)
            (try clear BK5781)
            (try clear HB)
            generalize (w46.setCell ⟨gb5781, 0, none⟩ (.slice Ao47 t5778.length co47)) = w55 at n0_ n1_ n2_ n3_ n4_ n5_ n6_ n7_ n8_ n9_ n10_ n11_ n12_ n13_ ⊢
            have HO5754 := n0_
            have HO5757 := n1_
            have HO5760 := n2_
            have HO5763 := n3_
            have HO5766 := n4_
            have HO5770 := n5_
            have HO5773 := n6_
            have HO5776 := n7_
            have HO5780 := n8_
            have BK5751 := n9_
            have BK5767 := n10_
            have BK5777 := n11_
            have BK5781 := n12_
            have HB := n13_
            clear n0_ n1_ n2_ n3_ n4_ n5_ n6_ n7_ n8_ n9_ n10_ n11_ n12_ n13_
            have n0_ := Aside0.mk (Kd.R_drew HO5754.out)
            have n1_ := Aside0.mk (Kd.R_drew HO5757.out)
            have n2_ := Aside0.mk (Kd.R_drew HO5760.out)
            have n3_ := Aside0.mk (Kd.R_drew HO5763.out)
            have n4_ := Aside0.mk (Kd.R_drew HO5766.out)
            have n5_ := Aside0.mk (Kd.R_drew HO5770.out)
            have n6_ := Aside0.mk (Kd.R_drew HO5773.out)
            have n7_ := Aside0.mk (Kd.R_drew HO5776.out)
            have n8_ := Aside0.mk (Kd.R_drew HO5780.out)
            have n9_ := Aside0.mk (blk_drew BK5751.out)
            have n10_ := Aside0.mk (blk_drew BK5767.out)
            have n11_ := Aside0.mk (blk_drew BK5777.out)
            have n12_ := Aside0.mk (blk_drew BK5781.out)
            have n13_ := Aside0.mk (below_drew1 HB.out)
            clear HO5754 HO5757 HO5760 HO5763 HO5766 HO5770 HO5773 HO5776 HO5780 BK5751 BK5767 BK5777 BK5781 HB
            have HO5754 := n0_
            have HO5757 := n1_
            have HO5760 := n2_
            have HO5763 := n3_
            have HO5766 := n4_
            have HO5770 := n5_
            have HO5773 := n6_
            have HO5776 := n7_
            have HO5780 := n8_
            have BK5751 := n9_
            have BK5767 := n10_
            have BK5777 := n11_
            have BK5781 := n12_
            have HB := n13_
            clear n0_ n1_ n2_ n3_ n4_ n5_ n6_ n7_ n8_ n9_ n10_ n11_ n12_ n13_
            refine start_ (n := 12) (S := fun w' => w'.cell? ⟨gb5767, 0, none⟩ = some (.slice Ao32 t5764.length co32)) (ds := []) (demurrageref03_Part.ups 12 0) (by kernel_rfl) rfl rfl ((blk_cell BK5767.out 0).trans rfl) (fun hHeld => ?_); refine with_tabW demurrageref03_Part.tab6 demurrageref03_Part.bits6 (fun HT_ HW_ => ?_)
            generalize w55.drew = w56 at HO5754 HO5757 HO5760 HO5763 HO5766 HO5770 HO5773 HO5776 HO5780 BK5751 BK5767 BK5777 BK5781 HB hHeld ⊢
            refine take_ (i := 0) (N := some 39) (v := ?_) (a' := ?_) (demurrageref03_Part.ups 12 1) rfl rfl (take_ofW HT_.out HW_.out (by kernel_rfl)) (fun _ _ _ h => h) (Or.inl ⟨by rfl, ?_⟩) hHeld ?_ ?_
            rotate_left
            · intro w' s0
              go_simp
              with_reducible rfl
            rotate_left
            · simp only [Act.put, List.setIfInBounds_toArray, List.set_cons_zero, List.set_cons_succ, i64_w, i32_w]
              rfl
            refine one_ (i := 1) (N := some 40) (demurrageref03_Part.ups 12 3) rfl rfl (one_of HT_.out (by kernel_rfl)) (by decide) (fun K hK => ?_)
            refine goes_ Try.func25 (by kernel_rfl) rfl #[] (by rfl) rfl rfl (by (try simp only [List.map_toArray, List.map_cons, List.map_nil]); first | done | rfl) ?_
            with_reducible refine (demurrageref01_Limit.calls kj4  t5782 _ A52.out).mono ?_
            rintro e w57 ⟨v5783, rfl, ho0, hb⟩
            refine ⟨_, rfl, ?_⟩
            have n0_ := Aside0.mk (Kd.R_elder' HO5754.out (Kd.R_base ho0) hb)
            have n1_ := Aside0.mk (Kd.R_elder' HO5757.out (Kd.R_base ho0) hb)
            have n2_ := Aside0.mk (Kd.R_elder' HO5760.out (Kd.R_base ho0) hb)
            have n3_ := Aside0.mk (Kd.R_elder' HO5763.out (Kd.R_base ho0) hb)
            have n4_ := Aside0.mk (Kd.R_elder' HO5766.out (Kd.R_base ho0) hb)
            have n5_ := Aside0.mk (Kd.R_elder' HO5770.out (Kd.R_base ho0) hb)
            have n6_ := Aside0.mk (Kd.R_elder' HO5773.out (Kd.R_base ho0) hb)
            have n7_ := Aside0.mk (Kd.R_elder' HO5776.out (Kd.R_base ho0) hb)
            have n8_ := Aside0.mk (Kd.R_elder' HO5780.out (Kd.R_base ho0) hb)
            have n9_ := Aside0.mk (Kd.R_lower (Kd.R_new' (Kd.R_new' (Kd.R_new' (Kd.R_new' (Kd.R_new' (Kd.R_new' (Kd.R_new' (Kd.R_new' (Kd.R_new' ho0 (Kd.R_lt HO5754.out)) (Kd.R_lt HO5757.out)) (Kd.R_lt HO5760.out)) (Kd.R_lt HO5763.out)) (Kd.R_lt HO5766.out)) (Kd.R_lt HO5770.out)) (Kd.R_lt HO5773.out)) (Kd.R_lt HO5776.out)) (Kd.R_lt HO5780.out)) (below_size (by repeat (first | (with_reducible first | exact HB.out | apply below_alloc | apply pw_below_drewN | apply below_drew1 | refine below_set ?_ GE5751.out | refine below_set ?_ GE5767.out | refine below_set ?_ GE5777.out | refine below_set ?_ GE5781.out) | exact HB.out))))
            have n10_ := Aside0.mk (blk_below BK5751.out hb)
            have n11_ := Aside0.mk (blk_below BK5767.out hb)
            have n12_ := Aside0.mk (blk_below BK5777.out hb)
            have n13_ := Aside0.mk (blk_below BK5781.out hb)
            have n14_ := Aside0.mk (below_step (by repeat (first | (with_reducible first | exact HB.out | apply below_alloc | apply pw_below_drewN | apply below_drew1 | refine below_set ?_ GE5751.out | refine below_set ?_ GE5767.out | refine below_set ?_ GE5777.out | refine below_set ?_ GE5781.out) | exact HB.out)) hb)
            clear HO5754 HO5757 HO5760 HO5763 HO5766 HO5770 HO5773 HO5776 HO5780 BK5751 BK5767 BK5777 BK5781 HB
            have HO5754 := n0_
            have HO5757 := n1_
            have HO5760 := n2_
            have HO5763 := n3_
            have HO5766 := n4_
            have HO5770 := n5_
            have HO5773 := n6_
            have HO5776 := n7_
            have HO5780 := n8_
            have HO5784 := n9_
            have BK5751 := n10_
            have BK5767 := n11_
            have BK5777 := n12_
            have BK5781 := n13_
            have HB := n14_
            clear n0_ n1_ n2_ n3_ n4_ n5_ n6_ n7_ n8_ n9_ n10_ n11_ n12_ n13_ n14_
            (try clear hb)
            (try clear hb2)
            (try clear hk)
            (try clear hi)
            (try clear ho0)
            obtain ⟨Ao58, co58, eo58⟩ := Kd.R_slice HO5784.out
            (first | subst eo58 | (injection eo58 with f1_ f2_ f3_; have f4_ := f1_.symm; have f5_ := f3_.symm; clear f1_ f2_ f3_; subst f4_; subst f5_))
            refine hK.out _ _ ((blk_cell BK5767.out 0).trans rfl) (fun hHeld => ?_)
            clear hK K
            refine norm_ (a' := ?_) ?_ ?_
            rotate_left
            · show Act.put _ (some 40) _ = _
              simp only [Act.put, List.setIfInBounds_toArray, List.set_cons_zero, List.set_cons_succ, i64_w, i32_w]
              rfl
            refine one_ (i := 2) (N := some 41) (demurrageref03_Part.ups 12 7) rfl rfl (one_of HT_.out (by kernel_rfl)) (by decide) (fun K hK => ?_)
            refine goes_ Try.func31 (by kernel_rfl) rfl #[.agg #[.slice Ao32 t5764.length co32], .agg #[.slice Ao58 t5782.length co58]] (by rfl) rfl rfl (by (try simp only [List.map_toArray, List.map_cons, List.map_nil]); first | done | rfl) ?_
            with_reducible refine (demurrageref01_Cmp.calls kj4 _ _ t5764 _ _ t5782 t5785 _ ?side1 ?side2 ?side3 ?side4 A53.out).mono ?_
            (case side1 => repeat (first | exact (Kd.R_reads' HO5766.out).2.2 | (with_reducible refine Kd.C_alloc ?_ _) | (with_reducible refine Kd.C_drewN ?_ _) | (with_reducible refine Kd.C_drew ?_)))
            (case side2 => exact (Kd.R_reads' HO5766.out).2.1)
            (case side3 => repeat (first | exact (Kd.R_reads' HO5784.out).2.2 | (with_reducible refine Kd.C_alloc ?_ _) | (with_reducible refine Kd.C_drewN ?_ _) | (with_reducible refine Kd.C_drew ?_)))
            (case side4 => exact (Kd.R_reads' HO5784.out).2.1)
            rintro e w59 ⟨rfl, hb⟩
            refine ⟨_, rfl, ?_⟩
            have n0_ := Aside0.mk (Kd.R_below HO5754.out hb)
            have n1_ := Aside0.mk (Kd.R_below HO5757.out hb)
            have n2_ := Aside0.mk (Kd.R_below HO5760.out hb)
            have n3_ := Aside0.mk (Kd.R_below HO5763.out hb)
            have n4_ := Aside0.mk (Kd.R_below HO5766.out hb)
            have n5_ := Aside0.mk (Kd.R_below HO5770.out hb)
            have n6_ := Aside0.mk (Kd.R_below HO5773.out hb)
            have n7_ := Aside0.mk (Kd.R_below HO5776.out hb)
            have n8_ := Aside0.mk (Kd.R_below HO5780.out hb)
            have n9_ := Aside0.mk (Kd.R_below HO5784.out hb)
            have n10_ := Aside0.mk (blk_below BK5751.out hb)
            have n11_ := Aside0.mk (blk_below BK5767.out hb)
            have n12_ := Aside0.mk (blk_below BK5777.out hb)
            have n13_ := Aside0.mk (blk_below BK5781.out hb)
            have n14_ := Aside0.mk (below_step (by repeat (first | (with_reducible first | exact HB.out | apply below_alloc | apply pw_below_drewN | apply below_drew1 | refine below_set ?_ GE5751.out | refine below_set ?_ GE5767.out | refine below_set ?_ GE5777.out | refine below_set ?_ GE5781.out) | exact HB.out)) hb)
            clear HO5754 HO5757 HO5760 HO5763 HO5766 HO5770 HO5773 HO5776 HO5780 HO5784 BK5751 BK5767 BK5777 BK5781 HB
            have HO5754 := n0_
            have HO5757 := n1_
            have HO5760 := n2_
            have HO5763 := n3_
            have HO5766 := n4_
            have HO5770 := n5_
            have HO5773 := n6_
            have HO5776 := n7_
            have HO5780 := n8_
            have HO5784 := n9_
            have BK5751 := n10_
            have BK5767 := n11_
            have BK5777 := n12_
            have BK5781 := n13_
            have HB := n14_
            clear n0_ n1_ n2_ n3_ n4_ n5_ n6_ n7_ n8_ n9_ n10_ n11_ n12_ n13_ n14_
            (try clear hb)
            (try clear hb2)
            (try clear hk)
            (try clear hi)
            refine hK.out _ _ ((blk_cell BK5767.out 0).trans rfl) (fun hHeld => ?_)
            clear hK K
            refine norm_ (a' := ?_) ?_ ?_
            rotate_left
            · show Act.put _ (some 41) _ = _
              simp only [Act.put, List.setIfInBounds_toArray, List.set_cons_zero, List.set_cons_succ, i64_w, i32_w]
              rfl
            refine pure_ (i := 3) (N := some 42) (v := ?_) (a' := ?_) (demurrageref03_Part.ups 12 15) rfl rfl (any_of HT_.out (by kernel_rfl)) (fun _ _ _ h => h) (Or.inl ⟨by rfl, ?_⟩) ?_ ?_
            rotate_left
            · intro w'
              go_simp
              with_reducible rfl
            rotate_left
            · simp only [Act.put, List.setIfInBounds_toArray, List.set_cons_zero, List.set_cons_succ, i64_w, i32_w]
              rfl
            refine pure_ (i := 4) (N := some 43) (v := ?_) (a' := ?_) (demurrageref03_Part.ups 12 31) rfl rfl (any_of HT_.out (by kernel_rfl)) (fun _ _ _ h => h) (Or.inl ⟨by rfl, ?_⟩) ?_ ?_
            rotate_left
            · intro w'
              go_simp
              with_reducible rfl
            rotate_left
            · simp only [Act.put, List.setIfInBounds_toArray, List.set_cons_zero, List.set_cons_succ, i64_w, i32_w]
              rfl
            refine pure_ (i := 5) (N := some 44) (v := undef) (a' := ?_) (demurrageref03_Part.ups 12 63) rfl rfl (any_of HT_.out (by kernel_rfl)) (fun _ _ _ h => h) (Or.inr ⟨by rfl, rfl⟩) ?_ ?_
            rotate_left
            · simp only [Act.put, List.setIfInBounds_toArray, List.set_cons_zero, List.set_cons_succ, i64_w, i32_w]
              rfl
            refine pure_ (i := 6) (N := some 45) (v := undef) (a' := ?_) (demurrageref03_Part.ups 12 127) rfl rfl (any_of HT_.out (by kernel_rfl)) (fun _ _ _ h => h) (Or.inr ⟨by rfl, rfl⟩) ?_ ?_
            rotate_left
            · simp only [Act.put, List.setIfInBounds_toArray, List.set_cons_zero, List.set_cons_succ, i64_w, i32_w]
              rfl
            refine pure_ (i := 7) (N := some 46) (v := undef) (a' := ?_) (demurrageref03_Part.ups 12 255) rfl rfl (any_of HT_.out (by kernel_rfl)) (fun _ _ _ h => h) (Or.inr ⟨by rfl, rfl⟩) ?_ ?_
            rotate_left
            · simp only [Act.put, List.setIfInBounds_toArray, List.set_cons_zero, List.set_cons_succ, i64_w, i32_w]
              rfl
            refine pure_ (i := 8) (N := some 47) (v := undef) (a' := ?_) (demurrageref03_Part.ups 12 511) rfl rfl (any_of HT_.out (by kernel_rfl)) (fun _ _ _ h => h) (Or.inr ⟨by rfl, rfl⟩) ?_ ?_
            rotate_left
            · simp only [Act.put, List.setIfInBounds_toArray, List.set_cons_zero, List.set_cons_succ, i64_w, i32_w]
              rfl
            refine pure_ (i := 9) (N := some 48) (v := undef) (a' := ?_) (demurrageref03_Part.ups 12 1023) rfl rfl (any_of HT_.out (by kernel_rfl)) (fun _ _ _ h => h) (Or.inr ⟨by rfl, rfl⟩) ?_ ?_
            rotate_left
            · simp only [Act.put, List.setIfInBounds_toArray, List.set_cons_zero, List.set_cons_succ, i64_w, i32_w]
              rfl
            refine pure_ (i := 10) (N := some 49) (v := undef) (a' := ?_) (demurrageref03_Part.ups 12 2047) rfl rfl (any_of HT_.out (by kernel_rfl)) (fun _ _ _ h => h) (Or.inr ⟨by rfl, rfl⟩) ?_ ?_
            rotate_left
            · simp only [Act.put, List.setIfInBounds_toArray, List.set_cons_zero, List.set_cons_succ, i64_w, i32_w]
              rfl
            refine pure_ (i := 11) (N := some 50) (v := ?_) (a' := ?_) (demurrageref03_Part.ups 12 4095) rfl rfl (any_of HT_.out (by kernel_rfl)) (fun _ _ _ h => h) (Or.inl ⟨by rfl, ?_⟩) ?_ ?_
            rotate_left
            · intro w'
              go_simp
              with_reducible rfl
            rotate_left
            · simp only [Act.put, List.setIfInBounds_toArray, List.set_cons_zero, List.set_cons_succ, i64_w, i32_w]
              rfl
            refine done_ (done_of HT_.out (by kernel_rfl)) ?_
            try go_wp2
            go_meet
            case rel => exact ⟨_, (true), (by first | rfl | (simp; done) | (simp [*]; done)), H', ⟨by have := HJ4.out; first | omega | exact Nat.le_refl _⟩, ⟨by (with_reducible repeat (first | apply Kd.R_alloc | apply Kd.R_drewN | apply Kd.R_drew)); exact Kd.R_mono HO5766.out (fun _ hk => (And.intro (hk.1.2.2.2.2.2.2.1) (hk.1.2.2.2.2.2.2.2)))⟩, ⟨by (with_reducible repeat (first | apply Kd.R_alloc | apply Kd.R_drewN | apply Kd.R_drew)); exact Kd.R_mono HO5776.out (fun _ hk => (And.intro (hk.1.2.2.2.2.1) (hk.1.2.2.2.2.2.2.2)))⟩, ⟨by (with_reducible repeat (first | apply Kd.R_alloc | apply Kd.R_drewN | apply Kd.R_drew)); exact Kd.R_mono HO5780.out (fun _ hk => (And.intro (hk.1.2.2.2.2.1) (hk.1.2.2.2.2.2.2.2)))⟩, BK5751, BK5767, BK5777, BK5781, ⟨by repeat (first | (with_reducible first | exact HB.out | apply below_alloc | apply pw_below_drewN | apply below_drew1 | refine below_set ?_ GE5751.out | refine below_set ?_ GE5767.out | refine below_set ?_ GE5777.out | refine below_set ?_ GE5781.out) | exact HB.out)⟩⟩
          · rw [if_neg c54] at H
            have c54b0 : decide (0 ≤ t5785) = false := decide_eq_false c54
            clear c54
            (first | rw [c54b0] | (simp only [i64_w, i32_w]; rw [c54b0]) | rw [c54b1] | skip)
            replace H := Option.bind_eq_some_iff.mp H
            obtain ⟨t5786, A600, H⟩ := H
            replace H : ((demurrageref01_Cmp.f kj4 t5774 t5786).bind fun t5789 => (demurrageref03_Part.j1 kj4 (decide (t5789 ≥ 0)) t5764 t5774)) = some (r1, r2) := H
            have A60 := Aside0.mk A600
            clear A600
            replace H := Option.bind_eq_some_iff.mp H
            obtain ⟨t5789, A610, H⟩ := H
            replace H : (demurrageref03_Part.j1 kj4 (decide (t5789 ≥ 0)) t5764 t5774) = some (r1, r2) := H
            have A61 := Aside0.mk A610
            clear A610
            have H' := Aside0.mk H
            clear H
            try go_wp2
            have n0_ : Aside0 (Kd.R (Kd.int .i64) 3 (w46.setCell ⟨gb5781, 0, none⟩ (.slice Ao47 t5778.length co47)) w.heap.size (fun k_ => some k_ ≠ (v5756 : Value).ownBlock ∧ some k_ ≠ (v5759 : Value).ownBlock ∧ some k_ ≠ (v5762 : Value).ownBlock ∧ some k_ ≠ (.slice Ao32 t5764.length co32 : Value).ownBlock ∧ some k_ ≠ (v5769 : Value).ownBlock ∧ some k_ ≠ (v5772 : Value).ownBlock ∧ some k_ ≠ (.slice Ao43 t5774.length co43 : Value).ownBlock ∧ some k_ ≠ (.slice Ao47 t5778.length co47 : Value).ownBlock) v5753 t5752) := ⟨by (with_reducible repeat (first | apply Kd.R_alloc | apply Kd.R_drewN | apply Kd.R_drew)); exact Kd.R_mono (Kd.R_far (p := ⟨gb5781, 0, none⟩) (Kd.R_types HO5754.out BK5781.out (by decide)) (fun _ hk => hk.2) (.slice Ao47 t5778.length co47)) (fun _ hk => (And.intro (hk.1.1.1) ((And.intro (hk.1.1.2.1) ((And.intro (hk.1.1.2.2.1) ((And.intro (hk.1.1.2.2.2.1) ((And.intro (hk.1.1.2.2.2.2.1) ((And.intro (hk.1.1.2.2.2.2.2.1) ((And.intro (hk.1.1.2.2.2.2.2.2) (hk.1.2)))))))))))))))⟩
            have n1_ : Aside0 (Kd.R (Kd.int .i64) 3 (w46.setCell ⟨gb5781, 0, none⟩ (.slice Ao47 t5778.length co47)) w.heap.size (fun k_ => some k_ ≠ (v5753 : Value).ownBlock ∧ some k_ ≠ (v5759 : Value).ownBlock ∧ some k_ ≠ (v5762 : Value).ownBlock ∧ some k_ ≠ (.slice Ao32 t5764.length co32 : Value).ownBlock ∧ some k_ ≠ (v5769 : Value).ownBlock ∧ some k_ ≠ (v5772 : Value).ownBlock ∧ some k_ ≠ (.slice Ao43 t5774.length co43 : Value).ownBlock ∧ some k_ ≠ (.slice Ao47 t5778.length co47 : Value).ownBlock) v5756 t5755) := ⟨by (with_reducible repeat (first | apply Kd.R_alloc | apply Kd.R_drewN | apply Kd.R_drew)); exact Kd.R_mono (Kd.R_far (p := ⟨gb5781, 0, none⟩) (Kd.R_types HO5757.out BK5781.out (by decide)) (fun _ hk => hk.2) (.slice Ao47 t5778.length co47)) (fun _ hk => (And.intro (hk.1.1.1) ((And.intro (hk.1.1.2.1) ((And.intro (hk.1.1.2.2.1) ((And.intro (hk.1.1.2.2.2.1) ((And.intro (hk.1.1.2.2.2.2.1) ((And.intro (hk.1.1.2.2.2.2.2.1) ((And.intro (hk.1.1.2.2.2.2.2.2) (hk.1.2)))))))))))))))⟩
            have n2_ : Aside0 (Kd.R (Kd.int .i64) 3 (w46.setCell ⟨gb5781, 0, none⟩ (.slice Ao47 t5778.length co47)) w.heap.size (fun k_ => some k_ ≠ (v5753 : Value).ownBlock ∧ some k_ ≠ (v5756 : Value).ownBlock ∧ some k_ ≠ (v5762 : Value).ownBlock ∧ some k_ ≠ (.slice Ao32 t5764.length co32 : Value).ownBlock ∧ some k_ ≠ (v5769 : Value).ownBlock ∧ some k_ ≠ (v5772 : Value).ownBlock ∧ some k_ ≠ (.slice Ao43 t5774.length co43 : Value).ownBlock ∧ some k_ ≠ (.slice Ao47 t5778.length co47 : Value).ownBlock) v5759 t5758) := ⟨by (with_reducible repeat (first | apply Kd.R_alloc | apply Kd.R_drewN | apply Kd.R_drew)); exact Kd.R_mono (Kd.R_far (p := ⟨gb5781, 0, none⟩) (Kd.R_types HO5760.out BK5781.out (by decide)) (fun _ hk => hk.2) (.slice Ao47 t5778.length co47)) (fun _ hk => (And.intro (hk.1.1.1) ((And.intro (hk.1.1.2.1) ((And.intro (hk.1.1.2.2.1) ((And.intro (hk.1.1.2.2.2.1) ((And.intro (hk.1.1.2.2.2.2.1) ((And.intro (hk.1.1.2.2.2.2.2.1) ((And.intro (hk.1.1.2.2.2.2.2.2) (hk.1.2)))))))))))))))⟩
            have n3_ : Aside0 (Kd.R (Kd.int .i64) 3 (w46.setCell ⟨gb5781, 0, none⟩ (.slice Ao47 t5778.length co47)) w.heap.size (fun k_ => some k_ ≠ (v5753 : Value).ownBlock ∧ some k_ ≠ (v5756 : Value).ownBlock ∧ some k_ ≠ (v5759 : Value).ownBlock ∧ some k_ ≠ (.slice Ao32 t5764.length co32 : Value).ownBlock ∧ some k_ ≠ (v5769 : Value).ownBlock ∧ some k_ ≠ (v5772 : Value).ownBlock ∧ some k_ ≠ (.slice Ao43 t5774.length co43 : Value).ownBlock ∧ some k_ ≠ (.slice Ao47 t5778.length co47 : Value).ownBlock) v5762 t5761) := ⟨by (with_reducible repeat (first | apply Kd.R_alloc | apply Kd.R_drewN | apply Kd.R_drew)); exact Kd.R_mono (Kd.R_far (p := ⟨gb5781, 0, none⟩) (Kd.R_types HO5763.out BK5781.out (by decide)) (fun _ hk => hk.2) (.slice Ao47 t5778.length co47)) (fun _ hk => (And.intro (hk.1.1.1) ((And.intro (hk.1.1.2.1) ((And.intro (hk.1.1.2.2.1) ((And.intro (hk.1.1.2.2.2.1) ((And.intro (hk.1.1.2.2.2.2.1) ((And.intro (hk.1.1.2.2.2.2.2.1) ((And.intro (hk.1.1.2.2.2.2.2.2) (hk.1.2)))))))))))))))⟩
            have n4_ : Aside0 (Kd.R (Kd.int .i64) 3 (w46.setCell ⟨gb5781, 0, none⟩ (.slice Ao47 t5778.length co47)) w.heap.size (fun k_ => some k_ ≠ (v5753 : Value).ownBlock ∧ some k_ ≠ (v5756 : Value).ownBlock ∧ some k_ ≠ (v5759 : Value).ownBlock ∧ some k_ ≠ (v5762 : Value).ownBlock ∧ some k_ ≠ (v5769 : Value).ownBlock ∧ some k_ ≠ (v5772 : Value).ownBlock ∧ some k_ ≠ (.slice Ao43 t5774.length co43 : Value).ownBlock ∧ some k_ ≠ (.slice Ao47 t5778.length co47 : Value).ownBlock) (.slice Ao32 t5764.length co32) t5764) := ⟨by (with_reducible repeat (first | apply Kd.R_alloc | apply Kd.R_drewN | apply Kd.R_drew)); exact Kd.R_mono (Kd.R_far (p := ⟨gb5781, 0, none⟩) (Kd.R_types HO5766.out BK5781.out (by decide)) (fun _ hk => hk.2) (.slice Ao47 t5778.length co47)) (fun _ hk => (And.intro (hk.1.1.1) ((And.intro (hk.1.1.2.1) ((And.intro (hk.1.1.2.2.1) ((And.intro (hk.1.1.2.2.2.1) ((And.intro (hk.1.1.2.2.2.2.1) ((And.intro (hk.1.1.2.2.2.2.2.1) ((And.intro (hk.1.1.2.2.2.2.2.2) (hk.1.2)))))))))))))))⟩
            have n5_ : Aside0 (Kd.R (Kd.int .i64) 3 (w46.setCell ⟨gb5781, 0, none⟩ (.slice Ao47 t5778.length co47)) w.heap.size (fun k_ => some k_ ≠ (v5753 : Value).ownBlock ∧ some k_ ≠ (v5756 : Value).ownBlock ∧ some k_ ≠ (v5759 : Value).ownBlock ∧ some k_ ≠ (v5762 : Value).ownBlock ∧ some k_ ≠ (.slice Ao32 t5764.length co32 : Value).ownBlock ∧ some k_ ≠ (v5772 : Value).ownBlock ∧ some k_ ≠ (.slice Ao43 t5774.length co43 : Value).ownBlock ∧ some k_ ≠ (.slice Ao47 t5778.length co47 : Value).ownBlock) v5769 t5768) := ⟨by (with_reducible repeat (first | apply Kd.R_alloc | apply Kd.R_drewN | apply Kd.R_drew)); exact Kd.R_mono (Kd.R_far (p := ⟨gb5781, 0, none⟩) (Kd.R_types HO5770.out BK5781.out (by decide)) (fun _ hk => hk.2) (.slice Ao47 t5778.length co47)) (fun _ hk => (And.intro (hk.1.1.1) ((And.intro (hk.1.1.2.1) ((And.intro (hk.1.1.2.2.1) ((And.intro (hk.1.1.2.2.2.1) ((And.intro (hk.1.1.2.2.2.2.1) ((And.intro (hk.1.1.2.2.2.2.2.1) ((And.intro (hk.1.1.2.2.2.2.2.2) (hk.1.2)))))))))))))))⟩
            have n6_ : Aside0 (Kd.R (Kd.int .i64) 3 (w46.setCell ⟨gb5781, 0, none⟩ (.slice Ao47 t5778.length co47)) w.heap.size (fun k_ => some k_ ≠ (v5753 : Value).ownBlock ∧ some k_ ≠ (v5756 : Value).ownBlock ∧ some k_ ≠ (v5759 : Value).ownBlock ∧ some k_ ≠ (v5762 : Value).ownBlock ∧ some k_ ≠ (.slice Ao32 t5764.length co32 : Value).ownBlock ∧ some k_ ≠ (v5769 : Value).ownBlock ∧ some k_ ≠ (.slice Ao43 t5774.length co43 : Value).ownBlock ∧ some k_ ≠ (.slice Ao47 t5778.length co47 : Value).ownBlock) v5772 t5771) := ⟨by (with_reducible repeat (first | apply Kd.R_alloc | apply Kd.R_drewN | apply Kd.R_drew)); exact Kd.R_mono (Kd.R_far (p := ⟨gb5781, 0, none⟩) (Kd.R_types HO5773.out BK5781.out (by decide)) (fun _ hk => hk.2) (.slice Ao47 t5778.length co47)) (fun _ hk => (And.intro (hk.1.1.1) ((And.intro (hk.1.1.2.1) ((And.intro (hk.1.1.2.2.1) ((And.intro (hk.1.1.2.2.2.1) ((And.intro (hk.1.1.2.2.2.2.1) ((And.intro (hk.1.1.2.2.2.2.2.1) ((And.intro (hk.1.1.2.2.2.2.2.2) (hk.1.2)))))))))))))))⟩
            have n7_ : Aside0 (Kd.R (Kd.int .i64) 3 (w46.setCell ⟨gb5781, 0, none⟩ (.slice Ao47 t5778.length co47)) w.heap.size (fun k_ => some k_ ≠ (v5753 : Value).ownBlock ∧ some k_ ≠ (v5756 : Value).ownBlock ∧ some k_ ≠ (v5759 : Value).ownBlock ∧ some k_ ≠ (v5762 : Value).ownBlock ∧ some k_ ≠ (.slice Ao32 t5764.length co32 : Value).ownBlock ∧ some k_ ≠ (v5769 : Value).ownBlock ∧ some k_ ≠ (v5772 : Value).ownBlock ∧ some k_ ≠ (.slice Ao47 t5778.length co47 : Value).ownBlock) (.slice Ao43 t5774.length co43) t5774) := ⟨by (with_reducible repeat (first | apply Kd.R_alloc | apply Kd.R_drewN | apply Kd.R_drew)); exact Kd.R_mono (Kd.R_far (p := ⟨gb5781, 0, none⟩) (Kd.R_types HO5776.out BK5781.out (by decide)) (fun _ hk => hk.2) (.slice Ao47 t5778.length co47)) (fun _ hk => (And.intro (hk.1.1.1) ((And.intro (hk.1.1.2.1) ((And.intro (hk.1.1.2.2.1) ((And.intro (hk.1.1.2.2.2.1) ((And.intro (hk.1.1.2.2.2.2.1) ((And.intro (hk.1.1.2.2.2.2.2.1) ((And.intro (hk.1.1.2.2.2.2.2.2) (hk.1.2)))))))))))))))⟩
            have n8_ : Aside0 (Kd.R (Kd.int .i64) 3 (w46.setCell ⟨gb5781, 0, none⟩ (.slice Ao47 t5778.length co47)) w.heap.size (fun k_ => some k_ ≠ (v5753 : Value).ownBlock ∧ some k_ ≠ (v5756 : Value).ownBlock ∧ some k_ ≠ (v5759 : Value).ownBlock ∧ some k_ ≠ (v5762 : Value).ownBlock ∧ some k_ ≠ (.slice Ao32 t5764.length co32 : Value).ownBlock ∧ some k_ ≠ (v5769 : Value).ownBlock ∧ some k_ ≠ (v5772 : Value).ownBlock ∧ some k_ ≠ (.slice Ao43 t5774.length co43 : Value).ownBlock) (.slice Ao47 t5778.length co47) t5778) := ⟨by (with_reducible repeat (first | apply Kd.R_alloc | apply Kd.R_drewN | apply Kd.R_drew)); exact Kd.R_mono (Kd.R_far (p := ⟨gb5781, 0, none⟩) (Kd.R_types HO5780.out BK5781.out (by decide)) (fun _ hk => hk.2) (.slice Ao47 t5778.length co47)) (fun _ hk => (And.intro (hk.1.1.1.1.1.1.1.1.2) ((And.intro (hk.1.1.1.1.1.1.1.2) ((And.intro (hk.1.1.1.1.1.1.2) ((And.intro (hk.1.1.1.1.1.2) ((And.intro (hk.1.1.1.1.2) ((And.intro (hk.1.1.1.2) ((And.intro (hk.1.1.2) (hk.1.2)))))))))))))))⟩
            have n9_ : Aside0 ((w46.setCell ⟨gb5781, 0, none⟩ (.slice Ao47 t5778.length co47)).heap[gb5751]? = some (.cells #[.int .i64 a2_0, .int .i64 a2_1] 57 (0, 0))) := ⟨by refine blk_far ?_ NB5751_5781.out _; exact BK5751.out⟩
            have n10_ : Aside0 ((w46.setCell ⟨gb5781, 0, none⟩ (.slice Ao47 t5778.length co47)).heap[gb5767]? = some (.cells #[.slice Ao32 t5764.length co32] 28 (0, 0))) := ⟨by refine blk_far ?_ NB5767_5781.out _; exact BK5767.out⟩
            have n11_ : Aside0 ((w46.setCell ⟨gb5781, 0, none⟩ (.slice Ao47 t5778.length co47)).heap[gb5777]? = some (.cells #[.slice Ao43 t5774.length co43] 28 (0, 0))) := ⟨by refine blk_far ?_ NB5777_5781.out _; exact BK5777.out⟩
            have n12_ : Aside0 ((w46.setCell ⟨gb5781, 0, none⟩ (.slice Ao47 t5778.length co47)).heap[gb5781]? = some (.cells #[.slice Ao47 t5778.length co47] 28 (0, 0))) := ⟨by refine blk_put (cs := #[.slice none 0 0]) ?_ 0 _ rfl; exact BK5781.out⟩
            have n13_ : Aside0 (Below w.heap.size w (w46.setCell ⟨gb5781, 0, none⟩ (.slice Ao47 t5778.length co47))) := ⟨by repeat (first | (with_reducible first | exact HB.out | apply below_alloc | apply pw_below_drewN | apply below_drew1 | refine below_set ?_ GE5751.out | refine below_set ?_ GE5767.out | refine below_set ?_ GE5777.out | refine below_set ?_ GE5781.out) | exact HB.out)⟩
            (try clear HO5754)
            (try clear HO5757)
            (try clear HO5760)
            (try clear HO5763)
            (try clear HO5766)
            (try clear HO5770)
            (try clear HO5773)
            (try clear HO5776)
            (try clear HO5780)
            (try clear BK5751)
            (try clear BK5767)
            (try clear BK5777)
            (try clear BK5781)
            (try clear HB)
            generalize (w46.setCell ⟨gb5781, 0, none⟩ (.slice Ao47 t5778.length co47)) = w62 at n0_ n1_ n2_ n3_ n4_ n5_ n6_ n7_ n8_ n9_ n10_ n11_ n12_ n13_ ⊢
            have HO5754 := n0_
            have HO5757 := n1_
            have HO5760 := n2_
            have HO5763 := n3_
            have HO5766 := n4_
            have HO5770 := n5_
            have HO5773 := n6_
            have HO5776 := n7_
            have HO5780 := n8_
            have BK5751 := n9_
            have BK5767 := n10_
            have BK5777 := n11_
            have BK5781 := n12_
            have HB := n13_
            clear n0_ n1_ n2_ n3_ n4_ n5_ n6_ n7_ n8_ n9_ n10_ n11_ n12_ n13_
            have n0_ := Aside0.mk (Kd.R_drew HO5754.out)
            have n1_ := Aside0.mk (Kd.R_drew HO5757.out)
            have n2_ := Aside0.mk (Kd.R_drew HO5760.out)
            have n3_ := Aside0.mk (Kd.R_drew HO5763.out)
            have n4_ := Aside0.mk (Kd.R_drew HO5766.out)
            have n5_ := Aside0.mk (Kd.R_drew HO5770.out)
            have n6_ := Aside0.mk (Kd.R_drew HO5773.out)
            have n7_ := Aside0.mk (Kd.R_drew HO5776.out)
            have n8_ := Aside0.mk (Kd.R_drew HO5780.out)
            have n9_ := Aside0.mk (blk_drew BK5751.out)
            have n10_ := Aside0.mk (blk_drew BK5767.out)
            have n11_ := Aside0.mk (blk_drew BK5777.out)
            have n12_ := Aside0.mk (blk_drew BK5781.out)
            have n13_ := Aside0.mk (below_drew1 HB.out)
            clear HO5754 HO5757 HO5760 HO5763 HO5766 HO5770 HO5773 HO5776 HO5780 BK5751 BK5767 BK5777 BK5781 HB
            have HO5754 := n0_
            have HO5757 := n1_
            have HO5760 := n2_
            have HO5763 := n3_
            have HO5766 := n4_
            have HO5770 := n5_
            have HO5773 := n6_
            have HO5776 := n7_
            have HO5780 := n8_
            have BK5751 := n9_
            have BK5767 := n10_
            have BK5777 := n11_
            have BK5781 := n12_
            have HB := n13_
            clear n0_ n1_ n2_ n3_ n4_ n5_ n6_ n7_ n8_ n9_ n10_ n11_ n12_ n13_
            refine start_ (n := 12) (S := fun w' => w'.cell? ⟨gb5767, 0, none⟩ = some (.slice Ao32 t5764.length co32) ∧ w'.cell? ⟨gb5777, 0, none⟩ = some (.slice Ao43 t5774.length co43) ∧ w'.cell? ⟨gb5781, 0, none⟩ = some (.slice Ao47 t5778.length co47)) (ds := []) (demurrageref03_Part.ups 12 0) (by kernel_rfl) rfl rfl ⟨(blk_cell BK5767.out 0).trans rfl, (blk_cell BK5777.out 0).trans rfl, (blk_cell BK5781.out 0).trans rfl⟩ (fun hHeld => ?_); refine with_tabW demurrageref03_Part.tab6 demurrageref03_Part.bits6 (fun HT_ HW_ => ?_)
            generalize w62.drew = w63 at HO5754 HO5757 HO5760 HO5763 HO5766 HO5770 HO5773 HO5776 HO5780 BK5751 BK5767 BK5777 BK5781 HB hHeld ⊢
            refine take_ (i := 0) (N := some 39) (v := ?_) (a' := ?_) (demurrageref03_Part.ups 12 1) rfl rfl (take_ofW HT_.out HW_.out (by kernel_rfl)) (fun _ _ _ h => h) (Or.inl ⟨by rfl, ?_⟩) hHeld ?_ ?_
            rotate_left
            · rintro w' ⟨s0, s1, s2⟩
              go_simp
              with_reducible rfl
            rotate_left
            · simp only [Act.put, List.setIfInBounds_toArray, List.set_cons_zero, List.set_cons_succ, i64_w, i32_w]
              rfl
            refine one_ (i := 1) (N := some 40) (demurrageref03_Part.ups 12 3) rfl rfl (one_of HT_.out (by kernel_rfl)) (by decide) (fun K hK => ?_)
            refine goes_ Try.func25 (by kernel_rfl) rfl #[] (by rfl) rfl rfl (by (try simp only [List.map_toArray, List.map_cons, List.map_nil]); first | done | rfl) ?_
            with_reducible refine (demurrageref01_Limit.calls kj4  t5782 _ A52.out).mono ?_
            rintro e w64 ⟨v5783, rfl, ho0, hb⟩
            refine ⟨_, rfl, ?_⟩
            have n0_ := Aside0.mk (Kd.R_elder' HO5754.out (Kd.R_base ho0) hb)
            have n1_ := Aside0.mk (Kd.R_elder' HO5757.out (Kd.R_base ho0) hb)
            have n2_ := Aside0.mk (Kd.R_elder' HO5760.out (Kd.R_base ho0) hb)
            have n3_ := Aside0.mk (Kd.R_elder' HO5763.out (Kd.R_base ho0) hb)
            have n4_ := Aside0.mk (Kd.R_elder' HO5766.out (Kd.R_base ho0) hb)
            have n5_ := Aside0.mk (Kd.R_elder' HO5770.out (Kd.R_base ho0) hb)
            have n6_ := Aside0.mk (Kd.R_elder' HO5773.out (Kd.R_base ho0) hb)
            have n7_ := Aside0.mk (Kd.R_elder' HO5776.out (Kd.R_base ho0) hb)
            have n8_ := Aside0.mk (Kd.R_elder' HO5780.out (Kd.R_base ho0) hb)
            have n9_ := Aside0.mk (Kd.R_lower (Kd.R_new' (Kd.R_new' (Kd.R_new' (Kd.R_new' (Kd.R_new' (Kd.R_new' (Kd.R_new' (Kd.R_new' (Kd.R_new' ho0 (Kd.R_lt HO5754.out)) (Kd.R_lt HO5757.out)) (Kd.R_lt HO5760.out)) (Kd.R_lt HO5763.out)) (Kd.R_lt HO5766.out)) (Kd.R_lt HO5770.out)) (Kd.R_lt HO5773.out)) (Kd.R_lt HO5776.out)) (Kd.R_lt HO5780.out)) (below_size (by repeat (first | (with_reducible first | exact HB.out | apply below_alloc | apply pw_below_drewN | apply below_drew1 | refine below_set ?_ GE5751.out | refine below_set ?_ GE5767.out | refine below_set ?_ GE5777.out | refine below_set ?_ GE5781.out) | exact HB.out))))
            have n10_ := Aside0.mk (blk_below BK5751.out hb)
            have n11_ := Aside0.mk (blk_below BK5767.out hb)
            have n12_ := Aside0.mk (blk_below BK5777.out hb)
            have n13_ := Aside0.mk (blk_below BK5781.out hb)
            have n14_ := Aside0.mk (below_step (by repeat (first | (with_reducible first | exact HB.out | apply below_alloc | apply pw_below_drewN | apply below_drew1 | refine below_set ?_ GE5751.out | refine below_set ?_ GE5767.out | refine below_set ?_ GE5777.out | refine below_set ?_ GE5781.out) | exact HB.out)) hb)
            clear HO5754 HO5757 HO5760 HO5763 HO5766 HO5770 HO5773 HO5776 HO5780 BK5751 BK5767 BK5777 BK5781 HB
            have HO5754 := n0_
            have HO5757 := n1_
            have HO5760 := n2_
            have HO5763 := n3_
            have HO5766 := n4_
            have HO5770 := n5_
            have HO5773 := n6_
            have HO5776 := n7_
            have HO5780 := n8_
            have HO5784 := n9_
            have BK5751 := n10_
            have BK5767 := n11_
            have BK5777 := n12_
            have BK5781 := n13_
            have HB := n14_
            clear n0_ n1_ n2_ n3_ n4_ n5_ n6_ n7_ n8_ n9_ n10_ n11_ n12_ n13_ n14_
            (try clear hb)
            (try clear hb2)
            (try clear hk)
            (try clear hi)
            (try clear ho0)
            obtain ⟨Ao65, co65, eo65⟩ := Kd.R_slice HO5784.out
            (first | subst eo65 | (injection eo65 with f1_ f2_ f3_; have f4_ := f1_.symm; have f5_ := f3_.symm; clear f1_ f2_ f3_; subst f4_; subst f5_))
            refine hK.out _ _ ⟨(blk_cell BK5767.out 0).trans rfl, (blk_cell BK5777.out 0).trans rfl, (blk_cell BK5781.out 0).trans rfl⟩ (fun hHeld => ?_)
            clear hK K
            refine norm_ (a' := ?_) ?_ ?_
            rotate_left
            · show Act.put _ (some 40) _ = _
              simp only [Act.put, List.setIfInBounds_toArray, List.set_cons_zero, List.set_cons_succ, i64_w, i32_w]
              rfl
            refine one_ (i := 2) (N := some 41) (demurrageref03_Part.ups 12 7) rfl rfl (one_of HT_.out (by kernel_rfl)) (by decide) (fun K hK => ?_)
            refine goes_ Try.func31 (by kernel_rfl) rfl #[.agg #[.slice Ao32 t5764.length co32], .agg #[.slice Ao65 t5782.length co65]] (by rfl) rfl rfl (by (try simp only [List.map_toArray, List.map_cons, List.map_nil]); first | done | rfl) ?_
            with_reducible refine (demurrageref01_Cmp.calls kj4 _ _ t5764 _ _ t5782 t5785 _ ?side1 ?side2 ?side3 ?side4 A53.out).mono ?_
            (case side1 => repeat (first | exact (Kd.R_reads' HO5766.out).2.2 | (with_reducible refine Kd.C_alloc ?_ _) | (with_reducible refine Kd.C_drewN ?_ _) | (with_reducible refine Kd.C_drew ?_)))
            (case side2 => exact (Kd.R_reads' HO5766.out).2.1)
            (case side3 => repeat (first | exact (Kd.R_reads' HO5784.out).2.2 | (with_reducible refine Kd.C_alloc ?_ _) | (with_reducible refine Kd.C_drewN ?_ _) | (with_reducible refine Kd.C_drew ?_)))
            (case side4 => exact (Kd.R_reads' HO5784.out).2.1)
            rintro e w66 ⟨rfl, hb⟩
            refine ⟨_, rfl, ?_⟩
            have n0_ := Aside0.mk (Kd.R_below HO5754.out hb)
            have n1_ := Aside0.mk (Kd.R_below HO5757.out hb)
            have n2_ := Aside0.mk (Kd.R_below HO5760.out hb)
            have n3_ := Aside0.mk (Kd.R_below HO5763.out hb)
            have n4_ := Aside0.mk (Kd.R_below HO5766.out hb)
            have n5_ := Aside0.mk (Kd.R_below HO5770.out hb)
            have n6_ := Aside0.mk (Kd.R_below HO5773.out hb)
            have n7_ := Aside0.mk (Kd.R_below HO5776.out hb)
            have n8_ := Aside0.mk (Kd.R_below HO5780.out hb)
            have n9_ := Aside0.mk (Kd.R_below HO5784.out hb)
            have n10_ := Aside0.mk (blk_below BK5751.out hb)
            have n11_ := Aside0.mk (blk_below BK5767.out hb)
            have n12_ := Aside0.mk (blk_below BK5777.out hb)
            have n13_ := Aside0.mk (blk_below BK5781.out hb)
            have n14_ := Aside0.mk (below_step (by repeat (first | (with_reducible first | exact HB.out | apply below_alloc | apply pw_below_drewN | apply below_drew1 | refine below_set ?_ GE5751.out | refine below_set ?_ GE5767.out | refine below_set ?_ GE5777.out | refine below_set ?_ GE5781.out) | exact HB.out)) hb)
            clear HO5754 HO5757 HO5760 HO5763 HO5766 HO5770 HO5773 HO5776 HO5780 HO5784 BK5751 BK5767 BK5777 BK5781 HB
            have HO5754 := n0_
            have HO5757 := n1_
            have HO5760 := n2_
            have HO5763 := n3_
            have HO5766 := n4_
            have HO5770 := n5_
            have HO5773 := n6_
            have HO5776 := n7_
            have HO5780 := n8_
            have HO5784 := n9_
            have BK5751 := n10_
            have BK5767 := n11_
            have BK5777 := n12_
            have BK5781 := n13_
            have HB := n14_
            clear n0_ n1_ n2_ n3_ n4_ n5_ n6_ n7_ n8_ n9_ n10_ n11_ n12_ n13_ n14_
            (try clear hb)
            (try clear hb2)
            (try clear hk)
            (try clear hi)
            refine hK.out _ _ ⟨(blk_cell BK5767.out 0).trans rfl, (blk_cell BK5777.out 0).trans rfl, (blk_cell BK5781.out 0).trans rfl⟩ (fun hHeld => ?_)
            clear hK K
            refine norm_ (a' := ?_) ?_ ?_
            rotate_left
            · show Act.put _ (some 41) _ = _
              simp only [Act.put, List.setIfInBounds_toArray, List.set_cons_zero, List.set_cons_succ, i64_w, i32_w]
              rfl
            refine pure_ (i := 3) (N := some 42) (v := ?_) (a' := ?_) (demurrageref03_Part.ups 12 15) rfl rfl (any_of HT_.out (by kernel_rfl)) (fun _ _ _ h => h) (Or.inl ⟨by rfl, ?_⟩) ?_ ?_
            rotate_left
            · intro w'
              go_simp
              with_reducible rfl
            rotate_left
            · simp only [Act.put, List.setIfInBounds_toArray, List.set_cons_zero, List.set_cons_succ, i64_w, i32_w]
              rfl
            refine pure_ (i := 4) (N := some 43) (v := ?_) (a' := ?_) (demurrageref03_Part.ups 12 31) rfl rfl (any_of HT_.out (by kernel_rfl)) (fun _ _ _ h => h) (Or.inl ⟨by rfl, ?_⟩) ?_ ?_
            rotate_left
            · intro w'
              go_simp
              with_reducible rfl
            rotate_left
            · simp only [Act.put, List.setIfInBounds_toArray, List.set_cons_zero, List.set_cons_succ, i64_w, i32_w]
              rfl
            refine take_ (i := 5) (N := some 44) (v := ?_) (a' := ?_) (demurrageref03_Part.ups 12 63) rfl rfl (take_ofW HT_.out HW_.out (by kernel_rfl)) (fun _ _ _ h => h) (Or.inl ⟨by rfl, ?_⟩) hHeld ?_ ?_
            rotate_left
            · rintro w' ⟨s0, s1, s2⟩
              go_simp
              with_reducible rfl
            rotate_left
            · simp only [Act.put, List.setIfInBounds_toArray, List.set_cons_zero, List.set_cons_succ, i64_w, i32_w]
              rfl
            refine take_ (i := 6) (N := some 45) (v := ?_) (a' := ?_) (demurrageref03_Part.ups 12 127) rfl rfl (take_ofW HT_.out HW_.out (by kernel_rfl)) (fun _ _ _ h => h) (Or.inl ⟨by rfl, ?_⟩) hHeld ?_ ?_
            rotate_left
            · rintro w' ⟨s0, s1, s2⟩
              go_simp
              with_reducible rfl
            rotate_left
            · simp only [Act.put, List.setIfInBounds_toArray, List.set_cons_zero, List.set_cons_succ, i64_w, i32_w]
              rfl
            refine take_ (i := 7) (N := some 46) (v := ?_) (a' := ?_) (demurrageref03_Part.ups 12 255) rfl rfl (take_ofW HT_.out HW_.out (by kernel_rfl)) (fun _ _ _ h => h) (Or.inl ⟨by rfl, ?_⟩) hHeld ?_ ?_
            rotate_left
            · rintro w' ⟨s0, s1, s2⟩
              go_simp
              with_reducible rfl
            rotate_left
            · simp only [Act.put, List.setIfInBounds_toArray, List.set_cons_zero, List.set_cons_succ, i64_w, i32_w]
              rfl
            refine one_ (i := 8) (N := some 47) (demurrageref03_Part.ups 12 511) rfl rfl (one_of HT_.out (by kernel_rfl)) (by decide) (fun K hK => ?_)
            refine goes_ Try.func29 (by kernel_rfl) rfl #[.agg #[.slice Ao47 t5778.length co47], .agg #[.slice Ao47 t5778.length co47]] (by rfl) rfl rfl (by (try simp only [List.map_toArray, List.map_cons, List.map_nil]); first | done | rfl) ?_
            with_reducible refine (demurrageref01_Prod.calls kj4 _ _ t5778 _ _ t5778 t5786 _ ?side1 ?side2 ?side3 ?side4 A60.out).mono ?_
            (case side1 => repeat (first | exact (Kd.R_reads' HO5780.out).2.2 | (with_reducible refine Kd.C_alloc ?_ _) | (with_reducible refine Kd.C_drewN ?_ _) | (with_reducible refine Kd.C_drew ?_)))
            (case side2 => exact (Kd.R_reads' HO5780.out).2.1)
            (case side3 => repeat (first | exact (Kd.R_reads' HO5780.out).2.2 | (with_reducible refine Kd.C_alloc ?_ _) | (with_reducible refine Kd.C_drewN ?_ _) | (with_reducible refine Kd.C_drew ?_)))
            (case side4 => exact (Kd.R_reads' HO5780.out).2.1)
            rintro e w67 ⟨v5787, rfl, ho0, hb⟩
            refine ⟨_, rfl, ?_⟩
            have n0_ := Aside0.mk (Kd.R_elder' HO5754.out (Kd.R_base ho0) hb)
            have n1_ := Aside0.mk (Kd.R_elder' HO5757.out (Kd.R_base ho0) hb)
            have n2_ := Aside0.mk (Kd.R_elder' HO5760.out (Kd.R_base ho0) hb)
            have n3_ := Aside0.mk (Kd.R_elder' HO5763.out (Kd.R_base ho0) hb)
            have n4_ := Aside0.mk (Kd.R_elder' HO5766.out (Kd.R_base ho0) hb)
            have n5_ := Aside0.mk (Kd.R_elder' HO5770.out (Kd.R_base ho0) hb)
            have n6_ := Aside0.mk (Kd.R_elder' HO5773.out (Kd.R_base ho0) hb)
            have n7_ := Aside0.mk (Kd.R_elder' HO5776.out (Kd.R_base ho0) hb)
            have n8_ := Aside0.mk (Kd.R_elder' HO5780.out (Kd.R_base ho0) hb)
            have n9_ := Aside0.mk (Kd.R_elder' HO5784.out (Kd.R_base ho0) hb)
            have n10_ := Aside0.mk (Kd.R_lower (Kd.R_new' (Kd.R_new' (Kd.R_new' (Kd.R_new' (Kd.R_new' (Kd.R_new' (Kd.R_new' (Kd.R_new' (Kd.R_new' (Kd.R_new' ho0 (Kd.R_lt HO5754.out)) (Kd.R_lt HO5757.out)) (Kd.R_lt HO5760.out)) (Kd.R_lt HO5763.out)) (Kd.R_lt HO5766.out)) (Kd.R_lt HO5770.out)) (Kd.R_lt HO5773.out)) (Kd.R_lt HO5776.out)) (Kd.R_lt HO5780.out)) (Kd.R_lt HO5784.out)) (below_size (by repeat (first | (with_reducible first | exact HB.out | apply below_alloc | apply pw_below_drewN | apply below_drew1 | refine below_set ?_ GE5751.out | refine below_set ?_ GE5767.out | refine below_set ?_ GE5777.out | refine below_set ?_ GE5781.out) | exact HB.out))))
            have n11_ := Aside0.mk (blk_below BK5751.out hb)
            have n12_ := Aside0.mk (blk_below BK5767.out hb)
            have n13_ := Aside0.mk (blk_below BK5777.out hb)
            have n14_ := Aside0.mk (blk_below BK5781.out hb)
            have n15_ := Aside0.mk (below_step (by repeat (first | (with_reducible first | exact HB.out | apply below_alloc | apply pw_below_drewN | apply below_drew1 | refine below_set ?_ GE5751.out | refine below_set ?_ GE5767.out | refine below_set ?_ GE5777.out | refine below_set ?_ GE5781.out) | exact HB.out)) hb)
            clear HO5754 HO5757 HO5760 HO5763 HO5766 HO5770 HO5773 HO5776 HO5780 HO5784 BK5751 BK5767 BK5777 BK5781 HB
            have HO5754 := n0_
            have HO5757 := n1_
            have HO5760 := n2_
            have HO5763 := n3_
            have HO5766 := n4_
            have HO5770 := n5_
            have HO5773 := n6_
            have HO5776 := n7_
            have HO5780 := n8_
            have HO5784 := n9_
            have HO5788 := n10_
            have BK5751 := n11_
            have BK5767 := n12_
            have BK5777 := n13_
            have BK5781 := n14_
            have HB := n15_
            clear n0_ n1_ n2_ n3_ n4_ n5_ n6_ n7_ n8_ n9_ n10_ n11_ n12_ n13_ n14_ n15_
            (try clear hb)
            (try clear hb2)
            (try clear hk)
            (try clear hi)
            (try clear ho0)
            obtain ⟨Ao68, co68, eo68⟩ := Kd.R_slice HO5788.out
            (first | subst eo68 | (injection eo68 with f1_ f2_ f3_; have f4_ := f1_.symm; have f5_ := f3_.symm; clear f1_ f2_ f3_; subst f4_; subst f5_))
            refine hK.out _ _ ⟨(blk_cell BK5767.out 0).trans rfl, (blk_cell BK5777.out 0).trans rfl, (blk_cell BK5781.out 0).trans rfl⟩ (fun hHeld => ?_)
            clear hK K
            refine norm_ (a' := ?_) ?_ ?_
            rotate_left
            · show Act.put _ (some 47) _ = _
              simp only [Act.put, List.setIfInBounds_toArray, List.set_cons_zero, List.set_cons_succ, i64_w, i32_w]
              rfl
            refine one_ (i := 9) (N := some 48) (demurrageref03_Part.ups 12 1023) rfl rfl (one_of HT_.out (by kernel_rfl)) (by decide) (fun K hK => ?_)
            refine goes_ Try.func31 (by kernel_rfl) rfl #[.agg #[.slice Ao43 t5774.length co43], .agg #[.slice Ao68 t5786.length co68]] (by rfl) rfl rfl (by (try simp only [List.map_toArray, List.map_cons, List.map_nil]); first | done | rfl) ?_
            with_reducible refine (demurrageref01_Cmp.calls kj4 _ _ t5774 _ _ t5786 t5789 _ ?side1 ?side2 ?side3 ?side4 A61.out).mono ?_
            (case side1 => repeat (first | exact (Kd.R_reads' HO5776.out).2.2 | (with_reducible refine Kd.C_alloc ?_ _) | (with_reducible refine Kd.C_drewN ?_ _) | (with_reducible refine Kd.C_drew ?_)))
            (case side2 => exact (Kd.R_reads' HO5776.out).2.1)
            (case side3 => repeat (first | exact (Kd.R_reads' HO5788.out).2.2 | (with_reducible refine Kd.C_alloc ?_ _) | (with_reducible refine Kd.C_drewN ?_ _) | (with_reducible refine Kd.C_drew ?_)))
            (case side4 => exact (Kd.R_reads' HO5788.out).2.1)
            rintro e w69 ⟨rfl, hb⟩
            refine ⟨_, rfl, ?_⟩
            have n0_ := Aside0.mk (Kd.R_below HO5754.out hb)
            have n1_ := Aside0.mk (Kd.R_below HO5757.out hb)
            have n2_ := Aside0.mk (Kd.R_below HO5760.out hb)
            have n3_ := Aside0.mk (Kd.R_below HO5763.out hb)
            have n4_ := Aside0.mk (Kd.R_below HO5766.out hb)
            have n5_ := Aside0.mk (Kd.R_below HO5770.out hb)
            have n6_ := Aside0.mk (Kd.R_below HO5773.out hb)
            have n7_ := Aside0.mk (Kd.R_below HO5776.out hb)
            have n8_ := Aside0.mk (Kd.R_below HO5780.out hb)
            have n9_ := Aside0.mk (Kd.R_below HO5784.out hb)
            have n10_ := Aside0.mk (Kd.R_below HO5788.out hb)
            have n11_ := Aside0.mk (blk_below BK5751.out hb)
            have n12_ := Aside0.mk (blk_below BK5767.out hb)
            have n13_ := Aside0.mk (blk_below BK5777.out hb)
            have n14_ := Aside0.mk (blk_below BK5781.out hb)
            have n15_ := Aside0.mk (below_step (by repeat (first | (with_reducible first | exact HB.out | apply below_alloc | apply pw_below_drewN | apply below_drew1 | refine below_set ?_ GE5751.out | refine below_set ?_ GE5767.out | refine below_set ?_ GE5777.out | refine below_set ?_ GE5781.out) | exact HB.out)) hb)
            clear HO5754 HO5757 HO5760 HO5763 HO5766 HO5770 HO5773 HO5776 HO5780 HO5784 HO5788 BK5751 BK5767 BK5777 BK5781 HB
            have HO5754 := n0_
            have HO5757 := n1_
            have HO5760 := n2_
            have HO5763 := n3_
            have HO5766 := n4_
            have HO5770 := n5_
            have HO5773 := n6_
            have HO5776 := n7_
            have HO5780 := n8_
            have HO5784 := n9_
            have HO5788 := n10_
            have BK5751 := n11_
            have BK5767 := n12_
            have BK5777 := n13_
            have BK5781 := n14_
            have HB := n15_
            clear n0_ n1_ n2_ n3_ n4_ n5_ n6_ n7_ n8_ n9_ n10_ n11_ n12_ n13_ n14_ n15_
            (try clear hb)
            (try clear hb2)
            (try clear hk)
            (try clear hi)
            refine hK.out _ _ ⟨(blk_cell BK5767.out 0).trans rfl, (blk_cell BK5777.out 0).trans rfl, (blk_cell BK5781.out 0).trans rfl⟩ (fun hHeld => ?_)
            clear hK K
            refine norm_ (a' := ?_) ?_ ?_
            rotate_left
            · show Act.put _ (some 48) _ = _
              simp only [Act.put, List.setIfInBounds_toArray, List.set_cons_zero, List.set_cons_succ, i64_w, i32_w]
              rfl
            refine pure_ (i := 10) (N := some 49) (v := ?_) (a' := ?_) (demurrageref03_Part.ups 12 2047) rfl rfl (any_of HT_.out (by kernel_rfl)) (fun _ _ _ h => h) (Or.inl ⟨by rfl, ?_⟩) ?_ ?_
            rotate_left
            · intro w'
              go_simp
              with_reducible rfl
            rotate_left
            · simp only [Act.put, List.setIfInBounds_toArray, List.set_cons_zero, List.set_cons_succ, i64_w, i32_w]
              rfl
            refine pure_ (i := 11) (N := some 50) (v := ?_) (a' := ?_) (demurrageref03_Part.ups 12 4095) rfl rfl (any_of HT_.out (by kernel_rfl)) (fun _ _ _ h => h) (Or.inl ⟨by rfl, ?_⟩) ?_ ?_
            rotate_left
            · intro w'
              go_simp
              with_reducible rfl
            rotate_left
            · simp only [Act.put, List.setIfInBounds_toArray, List.set_cons_zero, List.set_cons_succ, i64_w, i32_w]
              rfl
            refine done_ (done_of HT_.out (by kernel_rfl)) ?_
            try go_wp2
            go_meet
            case rel => exact ⟨_, (decide (t5789 ≥ 0)), (by first | rfl | (simp; done) | (simp [*]; done)), H', ⟨by have := HJ4.out; first | omega | exact Nat.le_refl _⟩, ⟨by (with_reducible repeat (first | apply Kd.R_alloc | apply Kd.R_drewN | apply Kd.R_drew)); exact Kd.R_mono HO5766.out (fun _ hk => (And.intro (hk.1.1.2.2.2.2.2.2.1) (hk.1.1.2.2.2.2.2.2.2)))⟩, ⟨by (with_reducible repeat (first | apply Kd.R_alloc | apply Kd.R_drewN | apply Kd.R_drew)); exact Kd.R_mono HO5776.out (fun _ hk => (And.intro (hk.1.1.2.2.2.2.1) (hk.1.1.2.2.2.2.2.2.2)))⟩, ⟨by (with_reducible repeat (first | apply Kd.R_alloc | apply Kd.R_drewN | apply Kd.R_drew)); exact Kd.R_mono HO5780.out (fun _ hk => (And.intro (hk.1.1.2.2.2.2.1) (hk.1.1.2.2.2.2.2.2.2)))⟩, BK5751, BK5767, BK5777, BK5781, ⟨by repeat (first | (with_reducible first | exact HB.out | apply below_alloc | apply pw_below_drewN | apply below_drew1 | refine below_set ?_ GE5751.out | refine below_set ?_ GE5767.out | refine below_set ?_ GE5777.out | refine below_set ?_ GE5781.out) | exact HB.out)⟩⟩
        case rest =>
          clear HC19
          try clear c2
          try clear p2
          try clear c3
          try clear c5
          try clear c25
          try clear c29
          try clear c31
          try clear c54
          try clear c54b0
          try clear c54b1
          obtain ⟨kq, x50_18, rfl, HA, HJ18, HO_5768000, HO_5778000, HO_5782000, BK5751, BK5767, BK5777, BK5781, HB⟩ := hcut
          cases kq with
          | zero => exact absurd HA.out (by simp [demurrageref03_Part.j1])
          | succ kj18 =>
            have H := HA.out
            clear HA
            simp only [demurrageref03_Part.j1] at H
            by_cases c70 : x50_18 = true
            · subst c70
              have H1 : (some (0, 6)) = some (r1, r2) := by rw [if_pos rfl] at H; exact H
              clear H
              have H := H1
              clear H1
              simp only [Option.some.injEq, Prod.mk.injEq] at H
              obtain ⟨rfl, rfl⟩ := H
              go_wp2
              go_ret2
              exact ⟨by rfl, by repeat (first | (with_reducible first | exact HB.out | apply below_alloc | apply pw_below_drewN | apply below_drew1 | refine below_set ?_ GE5751.out | refine below_set ?_ GE5767.out | refine below_set ?_ GE5777.out | refine below_set ?_ GE5781.out) | exact HB.out)⟩
            · replace c70 := Bool.eq_false_iff.mpr c70
              subst c70
              have H1 : ((demurrageref03_Near.f kj18 t5764 t5774).bind fun t5790 => ((demurrageref03_told.f kj18 t5790).bind fun bt5793 => (some (bt5793.1, bt5793.2)))) = some (r1, r2) := by rw [if_neg (show ¬ (false = true) by decide)] at H; exact H
              clear H
              have H := H1
              clear H1
              replace H := Option.bind_eq_some_iff.mp H
              obtain ⟨t5790, A710, H⟩ := H
              replace H : ((demurrageref03_told.f kj18 t5790).bind fun bt5793 => (some (bt5793.1, bt5793.2))) = some (r1, r2) := H
              have A71 := Aside0.mk A710
              clear A710
              replace H := Option.bind_eq_some_iff.mp H
              obtain ⟨⟨t5793, t5794⟩, A720, H⟩ := H
              replace H : (some (t5793, t5794)) = some (r1, r2) := H
              have A72 := Aside0.mk A720
              clear A720
              simp only [Option.some.injEq, Prod.mk.injEq] at H
              obtain ⟨rfl, rfl⟩ := H
              have hnb73 := NB5767_5751.out
              have hnc73 := NB5751_5767.out
              have hnb74 := NB5767_5777.out
              have hnc74 := NB5777_5767.out
              have hnb75 := NB5767_5781.out
              have hnc75 := NB5781_5767.out
              have hcz76_0 : wc.cell? ⟨gb5767, 0, none⟩ = some (.slice Ao32 t5764.length co32) := (blk_cell BK5767.out 0).trans rfl
              have hfz76_0 := blk_frozen BK5767.out 0
              have hnb77 := NB5777_5751.out
              have hnc77 := NB5751_5777.out
              have hnb78 := NB5777_5781.out
              have hnc78 := NB5781_5777.out
              have hcz79_0 : wc.cell? ⟨gb5777, 0, none⟩ = some (.slice Ao43 t5774.length co43) := (blk_cell BK5777.out 0).trans rfl
              have hfz79_0 := blk_frozen BK5777.out 0
              go_wp2_with (first | ((with_reducible refine gate_callee (f := 79) rfl ?_); refine goesL_ (some 53) rfl rfl Try.func79 (by kernel_rfl) rfl #[.agg #[.slice Ao32 t5764.length co32], .agg #[.slice Ao43 t5774.length co43]] rfl (by (try simp only [List.map_toArray, List.map_cons, List.map_nil]); first | done | rfl) ?_; (with_reducible refine (demurrageref03_Near.calls kj18 _ _ t5764 _ _ t5774 t5790 _ ?side1 ?side2 ?side3 ?side4 A71.out).mono ?_); (case side1 => repeat (first | exact (Kd.R_reads' HO_5768000.out).2.2 | (with_reducible refine Kd.C_alloc ?_ _) | (with_reducible refine Kd.C_drewN ?_ _) | (with_reducible refine Kd.C_drew ?_))); (case side2 => exact (Kd.R_reads' HO_5768000.out).2.1); (case side3 => repeat (first | exact (Kd.R_reads' HO_5778000.out).2.2 | (with_reducible refine Kd.C_alloc ?_ _) | (with_reducible refine Kd.C_drewN ?_ _) | (with_reducible refine Kd.C_drew ?_))); (case side4 => exact (Kd.R_reads' HO_5778000.out).2.1); rintro e w80 ⟨v5791, rfl, ho0, hb⟩; refine ⟨_, rfl, ?_⟩; have n0_ := Aside0.mk (Kd.R_elder' HO_5768000.out (Kd.R_base ho0) hb); have n1_ := Aside0.mk (Kd.R_elder' HO_5778000.out (Kd.R_base ho0) hb); have n2_ := Aside0.mk (Kd.R_elder' HO_5782000.out (Kd.R_base ho0) hb); have n3_ := Aside0.mk (Kd.R_lower (Kd.R_new' (Kd.R_new' (Kd.R_new' ho0 (Kd.R_lt HO_5768000.out)) (Kd.R_lt HO_5778000.out)) (Kd.R_lt HO_5782000.out)) (below_size (by repeat (first | (with_reducible first | exact HB.out | apply below_alloc | apply pw_below_drewN | apply below_drew1 | refine below_set ?_ GE5751.out | refine below_set ?_ GE5767.out | refine below_set ?_ GE5777.out | refine below_set ?_ GE5781.out) | exact HB.out)))); have n4_ := Aside0.mk (blk_below BK5751.out hb); have n5_ := Aside0.mk (blk_below BK5767.out hb); have n6_ := Aside0.mk (blk_below BK5777.out hb); have n7_ := Aside0.mk (blk_below BK5781.out hb); have n8_ := Aside0.mk (below_step (by repeat (first | (with_reducible first | exact HB.out | apply below_alloc | apply pw_below_drewN | apply below_drew1 | refine below_set ?_ GE5751.out | refine below_set ?_ GE5767.out | refine below_set ?_ GE5777.out | refine below_set ?_ GE5781.out) | exact HB.out)) hb); clear HO_5768000 HO_5778000 HO_5782000 BK5751; clear BK5767 BK5777 BK5781 HB; have HO_5768000 := n0_; have HO_5778000 := n1_; have HO_5782000 := n2_; have HO5792 := n3_; have BK5751 := n4_; have BK5767 := n5_; have BK5777 := n6_; have BK5781 := n7_; have HB := n8_; clear n0_ n1_ n2_ n3_ n4_ n5_ n6_ n7_ n8_; (try clear hb); (try clear ho0); obtain ⟨Ao81, co81, eo81⟩ := Kd.R_slice HO5792.out; subst eo81) | ((with_reducible refine gate_callee (f := 77) rfl ?_); refine goesL_ (some 54) rfl rfl Try.func77 (by kernel_rfl) rfl #[.agg #[.slice Ao81 t5790.length co81]] rfl (by (try simp only [List.map_toArray, List.map_cons, List.map_nil]); first | done | rfl) ?_; (with_reducible refine (demurrageref03_told.calls kj18 _ _ t5790 t5793 t5794 _ ?side1 ?side2 A72.out).mono ?_); (case side1 => repeat (first | exact (Kd.R_reads' HO5792.out).2.2 | (with_reducible refine Kd.C_alloc ?_ _) | (with_reducible refine Kd.C_drewN ?_ _) | (with_reducible refine Kd.C_drew ?_))); (case side2 => exact (Kd.R_reads' HO5792.out).2.1); rintro e w82 ⟨rfl, hb⟩; refine ⟨_, rfl, ?_⟩; have n0_ := Aside0.mk (Kd.R_below HO_5768000.out hb); have n1_ := Aside0.mk (Kd.R_below HO_5778000.out hb); have n2_ := Aside0.mk (Kd.R_below HO_5782000.out hb); have n3_ := Aside0.mk (Kd.R_below HO5792.out hb); have n4_ := Aside0.mk (blk_below BK5751.out hb); have n5_ := Aside0.mk (blk_below BK5767.out hb); have n6_ := Aside0.mk (blk_below BK5777.out hb); have n7_ := Aside0.mk (blk_below BK5781.out hb); have n8_ := Aside0.mk (below_step (by repeat (first | (with_reducible first | exact HB.out | apply below_alloc | apply pw_below_drewN | apply below_drew1 | refine below_set ?_ GE5751.out | refine below_set ?_ GE5767.out | refine below_set ?_ GE5777.out | refine below_set ?_ GE5781.out) | exact HB.out)) hb); clear HO_5768000 HO_5778000 HO_5782000 HO5792; clear BK5751 BK5767 BK5777 BK5781; clear HB; have HO_5768000 := n0_; have HO_5778000 := n1_; have HO_5782000 := n2_; have HO5792 := n3_; have BK5751 := n4_; have BK5767 := n5_; have BK5777 := n6_; have BK5781 := n7_; have HB := n8_; clear n0_ n1_ n2_ n3_ n4_ n5_ n6_ n7_ n8_; (try clear hb)))
              go_ret2
              exact ⟨by rfl, by repeat (first | (with_reducible first | exact HB.out | apply below_alloc | apply pw_below_drewN | apply below_drew1 | refine below_set ?_ GE5751.out | refine below_set ?_ GE5767.out | refine below_set ?_ GE5777.out | refine below_set ?_ GE5781.out) | exact HB.out)⟩

end Go.Proofs.Ytcdbmmlnmefoeaa.X
