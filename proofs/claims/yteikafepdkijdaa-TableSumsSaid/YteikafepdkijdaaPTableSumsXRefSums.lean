-- cut by prune.py, a program of this session
import Derived.Test.YteikafepdkijdaaPTableSumsX0
import Derived.Test.YteikafepdkijdaaPTableSumsXBig
import Derived.Test.YteikafepdkijdaaPTableSumsXQuot
namespace Go.Proofs.Yteikafepdkijdaa.X
open Go.RowKit Go.Proofs.YteikafepdkijdaaW.PrintWords Go.Proofs.YteikafepdkijdaaW.PrintLast Go.Proofs.YteikafepdkijdaaW.PrintMore
attribute [local go_sem] max2_int min2_int max_two min_two
set_option linter.unusedVariables false
set_option linter.unusedSimpArgs false

def demurrageref21_Sums.upsl : Nat → Nat → List Bool
 | 0, _ => []
 | n + 1, m => (m % 2 == 1) :: demurrageref21_Sums.upsl n (m / 2)
def demurrageref21_Sums.ups (n m : Nat) : Array Bool := ⟨demurrageref21_Sums.upsl n m⟩
mutual
def demurrageref21_Sums.l0 : Nat → List (S48) → Int → List Int → List Int → List Int → Int → Int → Int → Int → Int → Option (Int × Int × Int × Int × Int × Int)
 | 0, _, _, _, _, _, _, _, _, _, _ => none
 | k + 1, x0, x8, x1536000, x1537000, x1538000, x1539000, x1539001, x1539002, x1539003, x1539004 => if x8 < (x0.length : Int) then (if 0 ≤ x8 then (if ((rd_T48 x0 x8).f1) < 0 then (demurrageref21_Sums.j1 k x0 x8 true x1536000 x1537000 x1538000 x1539000 x1539001 x1539002 x1539003 x1539004) else (if ((rd_T48 x0 x8).f2) < 0 then (demurrageref21_Sums.j1 k x0 x8 true x1536000 x1537000 x1538000 x1539000 x1539001 x1539002 x1539003 x1539004) else (demurrageref21_Sums.j1 k x0 x8 (decide (((rd_T48 x0 x8).f3) < 0)) x1536000 x1537000 x1538000 x1539000 x1539001 x1539002 x1539003 x1539004))) else (none)) else ((demurrageref01_From.f k 4611686018427387904).bind fun t1566 => ((demurrageref01_Cmp.f k x1536000 t1566).bind fun t1570 => (if t1570 > 0 then (demurrageref21_Sums.j2 k x0 true x1539000 x1539001 x1539002 x1539003 x1539004) else ((demurrageref01_Cmp.f k x1537000 t1566).bind fun t1571 => (if t1571 > 0 then (demurrageref21_Sums.j2 k x0 true x1539000 x1539001 x1539002 x1539003 x1539004) else ((demurrageref01_Cmp.f k x1538000 t1566).bind fun t1572 => (demurrageref21_Sums.j2 k x0 (decide (t1572 > 0)) x1539000 x1539001 x1539002 x1539003 x1539004)))))))
def demurrageref21_Sums.j1 : Nat → List (S48) → Int → Bool → List Int → List Int → List Int → Int → Int → Int → Int → Int → Option (Int × Int × Int × Int × Int × Int)
 | 0, _, _, _, _, _, _, _, _, _, _, _ => none
 | k + 1, x0, x8, x38, x1536000, x1537000, x1538000, x1539000, x1539001, x1539002, x1539003, x1539004 => if x38 = true then (some (0, 0, 0, 0, 0, 1)) else (if 0 ≤ x8 then (if x8 < (x0.length : Int) then ((demurrageref01_From.f k ((rd_T48 x0 x8).f1)).bind fun t1543 => ((demurrageref01_Plus.f k x1536000 t1543).bind fun t1546 => ((demurrageref01_From.f k ((rd_T48 x0 x8).f2)).bind fun t1550 => ((demurrageref01_Plus.f k x1537000 t1550).bind fun t1553 => ((demurrageref01_From.f k ((rd_T48 x0 x8).f3)).bind fun t1557 => ((demurrageref01_Plus.f k x1538000 t1557).bind fun t1560 => (demurrageref21_Sums.l0 k x0 (wrap64 (x8 + 1)) t1546 t1553 t1560 x1539000 (wrap64 (x1539001 + ((rd_T48 x0 x8).f1))) (wrap64 (x1539002 + ((rd_T48 x0 x8).f2))) (wrap64 (x1539003 + ((rd_T48 x0 x8).f3))) x1539004))))))) else (none)) else (none))
def demurrageref21_Sums.j2 : Nat → List (S48) → Bool → Int → Int → Int → Int → Int → Option (Int × Int × Int × Int × Int × Int)
 | 0, _, _, _, _, _, _, _ => none
 | k + 1, x0, x107, x1539000, x1539001, x1539002, x1539003, x1539004 => if x107 = true then (some (0, 0, 0, 0, 0, 6)) else (if (x0.length : Int) > 0 then (if 0 < (x0.length : Int) then (if 0 ≤ (wrap64 ((x0.length : Int) - 1)) then (if (wrap64 ((x0.length : Int) - 1)) < (x0.length : Int) then (some ((rd_T48 x0 0).f0, x1539001, x1539002, x1539003, (rd_T48 x0 (wrap64 ((x0.length : Int) - 1))).f4, 0)) else (none)) else (none)) else (none)) else (some (x1539000, x1539001, x1539002, x1539003, x1539004, 0)))
end
def demurrageref21_Sums.f (k : Nat) (l0 : List (S48)) : Option (Int × Int × Int × Int × Int × Int) := demurrageref21_Sums.l0 k l0 0 ([] : List Int) ([] : List Int) ([] : List Int) 0 0 0 0 0
def demurrageref21_Sums.T10 : Bool × List (List Nat × List Nat) := (true, [([], []), ([], []), ([], []), ([1, 2], [1, 2]), ([3], [3]), ([4], [4]), ([5], [5]), ([0, 6, 6], [0, 6]), ([7, 7, 0, 1, 2, 3, 4, 5, 6, 7], [7])])
def demurrageref21_Sums.B10 : List Nat := [0, 0, 0, 6, 14, 30, 62, 127, 255]
theorem demurrageref21_Sums.tab10 : rtab .any (opsOf Try.f31 10) = demurrageref21_Sums.T10 := by kernel_rfl
theorem demurrageref21_Sums.bits10 : waitsOk demurrageref21_Sums.T10.2 demurrageref21_Sums.B10 = true := by kernel_rfl
def demurrageref21_Sums.T11 : Bool × List (List Nat × List Nat) := (true, [([], []), ([], []), ([], []), ([1, 2], [1, 2]), ([3], [3]), ([4], [4]), ([5], [5]), ([0, 6, 6], [0, 6]), ([7, 7, 0, 1, 2, 3, 4, 5, 6, 7], [7])])
def demurrageref21_Sums.B11 : List Nat := [0, 0, 0, 6, 14, 30, 62, 127, 255]
theorem demurrageref21_Sums.tab11 : rtab .any (opsOf Try.f31 11) = demurrageref21_Sums.T11 := by kernel_rfl
theorem demurrageref21_Sums.bits11 : waitsOk demurrageref21_Sums.T11.2 demurrageref21_Sums.B11 = true := by kernel_rfl
def demurrageref21_Sums.T12 : Bool × List (List Nat × List Nat) := (true, [([], []), ([], []), ([], []), ([1, 2], [1, 2]), ([3], [3]), ([4], [4]), ([5], [5]), ([0, 6, 6], [0, 6]), ([7, 7, 0, 1, 2, 3, 4, 5, 6, 7], [7])])
def demurrageref21_Sums.B12 : List Nat := [0, 0, 0, 6, 14, 30, 62, 127, 255]
theorem demurrageref21_Sums.tab12 : rtab .any (opsOf Try.f31 12) = demurrageref21_Sums.T12 := by kernel_rfl
theorem demurrageref21_Sums.bits12 : waitsOk demurrageref21_Sums.T12.2 demurrageref21_Sums.B12 = true := by kernel_rfl
def demurrageref21_Sums.T13 : Bool × List (List Nat × List Nat) := (true, [([], []), ([0], [0]), ([], []), ([], []), ([2, 3], [2, 3]), ([4], [4]), ([5], [5]), ([1, 6], [1, 6]), ([0, 1, 2, 3, 4, 5, 6, 7], []), ([8, 7, 0, 1, 2, 3, 4, 5, 6, 7], [7, 8])])
def demurrageref21_Sums.B13 : List Nat := [0, 1, 0, 0, 12, 28, 60, 127, 255, 511]
theorem demurrageref21_Sums.tab13 : rtab .any (opsOf Try.f31 13) = demurrageref21_Sums.T13 := by kernel_rfl
theorem demurrageref21_Sums.bits13 : waitsOk demurrageref21_Sums.T13.2 demurrageref21_Sums.B13 = true := by kernel_rfl
def demurrageref21_Sums.T14 : Bool × List (List Nat × List Nat) := (true, [([], []), ([0], [0]), ([], []), ([], []), ([2, 3], [2, 3]), ([4], [4]), ([5], [5]), ([1, 6], [1, 6]), ([0, 1, 2, 3, 4, 5, 6, 7], []), ([8, 7, 0, 1, 2, 3, 4, 5, 6, 7], [7, 8])])
def demurrageref21_Sums.B14 : List Nat := [0, 1, 0, 0, 12, 28, 60, 127, 255, 511]
theorem demurrageref21_Sums.tab14 : rtab .any (opsOf Try.f31 14) = demurrageref21_Sums.T14 := by kernel_rfl
theorem demurrageref21_Sums.bits14 : waitsOk demurrageref21_Sums.T14.2 demurrageref21_Sums.B14 = true := by kernel_rfl
def demurrageref21_Sums.T15 : Bool × List (List Nat × List Nat) := (true, [([], []), ([0], [0]), ([], []), ([], []), ([2, 3], [2, 3]), ([4], [4]), ([5], [5]), ([1, 6], [1, 6]), ([0, 1, 2, 3, 4, 5, 6, 7], []), ([8, 7, 0, 1, 2, 3, 4, 5, 6, 7], [7, 8])])
def demurrageref21_Sums.B15 : List Nat := [0, 1, 0, 0, 12, 28, 60, 127, 255, 511]
theorem demurrageref21_Sums.tab15 : rtab .any (opsOf Try.f31 15) = demurrageref21_Sums.T15 := by kernel_rfl
theorem demurrageref21_Sums.bits15 : waitsOk demurrageref21_Sums.T15.2 demurrageref21_Sums.B15 = true := by kernel_rfl
set_option maxHeartbeats 8000000 in
set_option maxRecDepth 100000 in
theorem demurrageref21_Sums.calls (k : Nat) (A0 : Option Addr) (c0 : Nat) (l0 : List (S48)) (r1 : Int) (r2 : Int) (r3 : Int) (r4 : Int) (r5 : Int) (r6 : Int) (w : World) (hr0 : Kd.C k48 w A0 l0.length l0) (hc0 : l0.length ≤ c0) (h : demurrageref21_Sums.f k l0 = some (r1, r2, r3, r4, r5, r6)) :
  Calls Try.prog 31 #[.slice A0 l0.length c0] w fun e w' => e = .returned (.tuple #[.agg #[.int .i64 r1, .int .i64 r2, .int .i64 r3, .int .i64 r4, .int .i64 r5], .int .i64 r6]) ∧ Below w.heap.size w w' := by
 have hu48 := Try.underlying48
 have hu98 := Try.underlying98
 have HR0 := aA_ hr0
 have HC0 := aA_ hc0
 clear hr0 hc0
 have HB := aA_ (Below.refl w.heap.size w)
 have H : (demurrageref21_Sums.l0 k l0 0 ([] : List Int) ([] : List Int) ([] : List Int) 0 0 0 0 0) = some (r1, r2, r3, r4, r5, r6) := h
 clear h
 have H' := aA_ H
 clear H
 go_enter Try.func31, Try.ntmps31
 go_wp2_with (first | (refine box_event rfl (N := 2) rfl (cs := #[.int .i64 0, .int .i64 0, .int .i64 0, .int .i64 0, .int .i64 0]) (t := 48) ?hr ?_; (case hr => go_simp <;> rfl); intro gb1534 hg w2 hbox hb; have BK1534 := aA_ (hbox); have GW1534 := gW_ hg (by repeat (with_reducible first | exact HB.out | apply bA_ | apply bN_ | apply bD_)); have GE1534 := GW1534; replace HB := bB_ (by repeat (with_reducible first | exact HB.out | apply bA_ | apply bN_ | apply bD_)) hb; clear hb hbox hg) | (refine box_event rfl (N := 4) rfl (cs := #[.slice none 0 0]) (t := 98) ?hr ?_; (case hr => go_simp <;> rfl); intro gb1535 hg w3 hbox hb; have BK1535 := aA_ (hbox); have GW1535 := gW_ hg (by repeat (with_reducible first | exact HB.out | apply bA_ | apply bN_ | apply bD_ | refine bS_ ?_ GE1534.out)); have GE1535 := GW1535; replace HB := bB_ (by repeat (with_reducible first | exact HB.out | apply bA_ | apply bN_ | apply bD_ | refine bS_ ?_ GE1534.out)) hb; have NB1534_1535 := nE_ hg BK1534; have NB1535_1534 := aA_ NB1534_1535.out.symm; replace BK1534 := bK_ BK1534 hb; clear hb hbox hg) | (refine box_event rfl (N := 5) rfl (cs := #[.slice none 0 0]) (t := 98) ?hr ?_; (case hr => go_simp <;> rfl); intro gb1536 hg w4 hbox hb; have BK1536 := aA_ (hbox); have GW1536 := gW_ hg (by repeat (with_reducible first | exact HB.out | apply bA_ | apply bN_ | apply bD_ | refine bS_ ?_ GE1534.out | refine bS_ ?_ GE1535.out)); have GE1536 := GW1536; replace HB := bB_ (by repeat (with_reducible first | exact HB.out | apply bA_ | apply bN_ | apply bD_ | refine bS_ ?_ GE1534.out | refine bS_ ?_ GE1535.out)) hb; have NB1534_1536 := nE_ hg BK1534; have NB1536_1534 := aA_ NB1534_1536.out.symm; replace BK1534 := bK_ BK1534 hb; have NB1535_1536 := nE_ hg BK1535; have NB1536_1535 := aA_ NB1535_1536.out.symm; replace BK1535 := bK_ BK1535 hb; clear hb hbox hg) | (refine box_event rfl (N := 6) rfl (cs := #[.slice none 0 0]) (t := 98) ?hr ?_; (case hr => go_simp <;> rfl); intro gb1537 hg w5 hbox hb; have BK1537 := aA_ (hbox); have GW1537 := gW_ hg (by repeat (with_reducible first | exact HB.out | apply bA_ | apply bN_ | apply bD_ | refine bS_ ?_ GE1534.out | refine bS_ ?_ GE1535.out | refine bS_ ?_ GE1536.out)); have GE1537 := GW1537; replace HB := bB_ (by repeat (with_reducible first | exact HB.out | apply bA_ | apply bN_ | apply bD_ | refine bS_ ?_ GE1534.out | refine bS_ ?_ GE1535.out | refine bS_ ?_ GE1536.out)) hb; have NB1534_1537 := nE_ hg BK1534; have NB1537_1534 := aA_ NB1534_1537.out.symm; replace BK1534 := bK_ BK1534 hb; have NB1535_1537 := nE_ hg BK1535; have NB1537_1535 := aA_ NB1535_1537.out.symm; replace BK1535 := bK_ BK1535 hb; have NB1536_1537 := nE_ hg BK1536; have NB1537_1536 := aA_ NB1536_1537.out.symm; replace BK1536 := bK_ BK1536 hb; clear hb hbox hg) | (refine box_event rfl (N := 7) rfl (cs := #[.int .i64 0, .int .i64 0, .int .i64 0, .int .i64 0, .int .i64 0]) (t := 48) ?hr ?_; (case hr => go_simp <;> rfl); intro gb1538 hg w6 hbox hb; have BK1538 := aA_ (hbox); have GW1538 := gW_ hg (by repeat (with_reducible first | exact HB.out | apply bA_ | apply bN_ | apply bD_ | refine bS_ ?_ GE1534.out | refine bS_ ?_ GE1535.out | refine bS_ ?_ GE1536.out | refine bS_ ?_ GE1537.out)); have GE1538 := GW1538; replace HB := bB_ (by repeat (with_reducible first | exact HB.out | apply bA_ | apply bN_ | apply bD_ | refine bS_ ?_ GE1534.out | refine bS_ ?_ GE1535.out | refine bS_ ?_ GE1536.out | refine bS_ ?_ GE1537.out)) hb; have NB1534_1538 := nE_ hg BK1534; have NB1538_1534 := aA_ NB1534_1538.out.symm; replace BK1534 := bK_ BK1534 hb; have NB1535_1538 := nE_ hg BK1535; have NB1538_1535 := aA_ NB1535_1538.out.symm; replace BK1535 := bK_ BK1535 hb; have NB1536_1538 := nE_ hg BK1536; have NB1538_1536 := aA_ NB1536_1538.out.symm; replace BK1536 := bK_ BK1536 hb; have NB1537_1538 := nE_ hg BK1537; have NB1538_1537 := aA_ NB1537_1538.out.symm; replace BK1537 := bK_ BK1537 hb; clear hb hbox hg; have hnb7 := NB1538_1534.out; have hnc7 := NB1534_1538.out; have hnb8 := NB1538_1535.out; have hnc8 := NB1535_1538.out; have hnb9 := NB1538_1536.out; have hnc9 := NB1536_1538.out; have hnb10 := NB1538_1537.out; have hnc10 := NB1537_1538.out; have hcz11_0 : w6.cell? ⟨gb1538, 0, none⟩ = some (.int .i64 0) := (blk_cell BK1538.out 0).trans rfl; have hcz11_1 : w6.cell? ⟨gb1538, 1, none⟩ = some (.int .i64 0) := (blk_cell BK1538.out 1).trans rfl; have hcz11_2 : w6.cell? ⟨gb1538, 2, none⟩ = some (.int .i64 0) := (blk_cell BK1538.out 2).trans rfl; have hcz11_3 : w6.cell? ⟨gb1538, 3, none⟩ = some (.int .i64 0) := (blk_cell BK1538.out 3).trans rfl; have hcz11_4 : w6.cell? ⟨gb1538, 4, none⟩ = some (.int .i64 0) := (blk_cell BK1538.out 4).trans rfl; have hfz11_0 := blk_frozen BK1538.out 0; have hfz11_1 := blk_frozen BK1538.out 1; have hfz11_2 := blk_frozen BK1538.out 2; have hfz11_3 := blk_frozen BK1538.out 3; have hfz11_4 := blk_frozen BK1538.out 4))
 (try simp only [Act.put, sT_, sZ_, sS_])
 go_loopg [8] k (fun kq v8 w' => ∃ (x8_1 : Int) (x1535000_1 : Int) (x1535001_1 : Int) (x1535002_1 : Int) (x1535003_1 : Int) (x1535004_1 : Int) (x1536000_1 : List Int) (x1537000_1 : List Int) (x1538000_1 : List Int) (x1539001_1 : Int) (x1539002_1 : Int) (x1539003_1 : Int) (u1536000 : Value) (u1537000 : Value) (u1538000 : Value), v8 = .int .i64 x8_1 ∧ Aside0 (demurrageref21_Sums.l0 kq l0 x8_1 x1536000_1 x1537000_1 x1538000_1 0 x1539001_1 x1539002_1 x1539003_1 0 = some (r1, r2, r3, r4, r5, r6)) ∧ Aside0 (kq ≤ k) ∧ Aside0 (Kd.R (Kd.int .i64) 3 w' w.heap.size (fun k_ => some k_ ≠ (u1537000 : Value).ownBlock ∧ some k_ ≠ (u1538000 : Value).ownBlock) u1536000 x1536000_1) ∧ Aside0 (Kd.R (Kd.int .i64) 3 w' w.heap.size (fun k_ => some k_ ≠ (u1536000 : Value).ownBlock ∧ some k_ ≠ (u1538000 : Value).ownBlock) u1537000 x1537000_1) ∧ Aside0 (Kd.R (Kd.int .i64) 3 w' w.heap.size (fun k_ => some k_ ≠ (u1536000 : Value).ownBlock ∧ some k_ ≠ (u1537000 : Value).ownBlock) u1538000 x1538000_1) ∧ Aside0 (w'.heap[gb1534]? = some (.cells #[.int .i64 x1535000_1, .int .i64 x1535001_1, .int .i64 x1535002_1, .int .i64 x1535003_1, .int .i64 x1535004_1] 48 (0, 0))) ∧ Aside0 (w'.heap[gb1535]? = some (.cells #[u1536000] 98 (0, 0))) ∧ Aside0 (w'.heap[gb1536]? = some (.cells #[u1537000] 98 (0, 0))) ∧ Aside0 (w'.heap[gb1537]? = some (.cells #[u1538000] 98 (0, 0))) ∧ Aside0 (w'.heap[gb1538]? = some (.cells #[.int .i64 0, .int .i64 x1539001_1, .int .i64 x1539002_1, .int .i64 x1539003_1, .int .i64 0] 48 (0, 0))) ∧ Aside0 (Below w.heap.size w w'))
 case atStart => exact ⟨(0), (0), (0), (0), (0), (0), (([] : List Int)), (([] : List Int)), (([] : List Int)), (0), (0), (0), (.slice none 0 0), (.slice none 0 0), (.slice none 0 0), (by first | rfl | simp | simp [*]), H', ⟨Nat.le_refl _⟩, ⟨by first | exact Kd.R_nil _ _ _ _ _ | exact Kd.N_nil _ _ _ _ _ | exact Kd.V_nil _ _ _ _ _ | exact Kd.Q_nil _ _ _ _ _ | exact Kd.S_nil _ _ _ _ _⟩, ⟨by first | exact Kd.R_nil _ _ _ _ _ | exact Kd.N_nil _ _ _ _ _ | exact Kd.V_nil _ _ _ _ _ | exact Kd.Q_nil _ _ _ _ _ | exact Kd.S_nil _ _ _ _ _⟩, ⟨by first | exact Kd.R_nil _ _ _ _ _ | exact Kd.N_nil _ _ _ _ _ | exact Kd.V_nil _ _ _ _ _ | exact Kd.Q_nil _ _ _ _ _ | exact Kd.S_nil _ _ _ _ _⟩, ⟨by refine blk_far ?_ NB1534_1538.out _; refine blk_far ?_ NB1534_1538.out _; refine blk_far ?_ NB1534_1538.out _; refine blk_far ?_ NB1534_1538.out _; refine blk_far ?_ NB1534_1538.out _; exact BK1534.out⟩, ⟨by refine blk_far ?_ NB1535_1538.out _; refine blk_far ?_ NB1535_1538.out _; refine blk_far ?_ NB1535_1538.out _; refine blk_far ?_ NB1535_1538.out _; refine blk_far ?_ NB1535_1538.out _; exact BK1535.out⟩, ⟨by refine blk_far ?_ NB1536_1538.out _; refine blk_far ?_ NB1536_1538.out _; refine blk_far ?_ NB1536_1538.out _; refine blk_far ?_ NB1536_1538.out _; refine blk_far ?_ NB1536_1538.out _; exact BK1536.out⟩, ⟨by refine blk_far ?_ NB1537_1538.out _; refine blk_far ?_ NB1537_1538.out _; refine blk_far ?_ NB1537_1538.out _; refine blk_far ?_ NB1537_1538.out _; refine blk_far ?_ NB1537_1538.out _; exact BK1537.out⟩, ⟨by refine blk_put (cs := #[.int .i64 0, .int .i64 0, .int .i64 0, .int .i64 0, .int .i64 0]) ?_ 4 _ rfl; refine blk_put (cs := #[.int .i64 0, .int .i64 0, .int .i64 0, .int .i64 0, .int .i64 0]) ?_ 3 _ rfl; refine blk_put (cs := #[.int .i64 0, .int .i64 0, .int .i64 0, .int .i64 0, .int .i64 0]) ?_ 2 _ rfl; refine blk_put (cs := #[.int .i64 0, .int .i64 0, .int .i64 0, .int .i64 0, .int .i64 0]) ?_ 1 _ rfl; refine blk_put (cs := #[.int .i64 0, .int .i64 0, .int .i64 0, .int .i64 0, .int .i64 0]) ?_ 0 _ rfl; exact BK1538.out⟩, ⟨by repeat (with_reducible first | exact HB.out | apply bA_ | apply bN_ | apply bD_ | refine bS_ ?_ GE1534.out | refine bS_ ?_ GE1535.out | refine bS_ ?_ GE1536.out | refine bS_ ?_ GE1537.out | refine bS_ ?_ GE1538.out)⟩⟩
 case round =>
  clear H'
  try clear c1
  try clear p2
  try clear c3
  try clear c7
  try clear c8
  try clear c9
  try clear c10
  try clear hcz11_0
  try clear hcz11_1
  try clear hcz11_2
  try clear hcz11_3
  try clear hcz11_4
  try clear hfz11_0
  try clear hfz11_1
  try clear hfz11_2
  try clear hfz11_3
  try clear hfz11_4
  obtain ⟨x8_1, x1535000_1, x1535001_1, x1535002_1, x1535003_1, x1535004_1, x1536000_1, x1537000_1, x1538000_1, x1539001_1, x1539002_1, x1539003_1, u1536000, u1537000, u1538000, rfl, HA, HK1, HO_1536000, HO_1537000, HO_1538000, BK1534, BK1535, BK1536, BK1537, BK1538, HB⟩ := hrel
  cases gk with
  | zero => exact absurd HA.out (by simp [demurrageref21_Sums.l0])
  | succ k1 =>
   have H := HA.out
   clear HA
   simp only [demurrageref21_Sums.l0] at H
   by_cases c12 : x8_1 < (l0.length : Int)
   ·rw [if_pos c12] at H
    have c12b0 : decide (x8_1 < (l0.length : Int)) = true := decide_eq_true c12
    clear c12
    have HC13 := aA_ H
    clear H
    go_upto_region 8 with (fail)
    go_cut [38] (fun v38 wc => ∃ (kq : Nat) (x38_12 : Bool), v38 = .bool x38_12 ∧ Aside0 (demurrageref21_Sums.j1 kq l0 x8_1 x38_12 x1536000_1 x1537000_1 x1538000_1 0 x1539001_1 x1539002_1 x1539003_1 0 = some (r1, r2, r3, r4, r5, r6)) ∧ Aside0 (kq ≤ k1) ∧ Aside0 (Kd.R (Kd.int .i64) 3 wc w.heap.size (fun k_ => some k_ ≠ (u1537000 : Value).ownBlock ∧ some k_ ≠ (u1538000 : Value).ownBlock) u1536000 x1536000_1) ∧ Aside0 (Kd.R (Kd.int .i64) 3 wc w.heap.size (fun k_ => some k_ ≠ (u1536000 : Value).ownBlock ∧ some k_ ≠ (u1538000 : Value).ownBlock) u1537000 x1537000_1) ∧ Aside0 (Kd.R (Kd.int .i64) 3 wc w.heap.size (fun k_ => some k_ ≠ (u1536000 : Value).ownBlock ∧ some k_ ≠ (u1537000 : Value).ownBlock) u1538000 x1538000_1) ∧ Aside0 (wc.heap[gb1534]? = some (.cells #[.int .i64 x1535000_1, .int .i64 x1535001_1, .int .i64 x1535002_1, .int .i64 x1535003_1, .int .i64 x1535004_1] 48 (0, 0))) ∧ Aside0 (wc.heap[gb1535]? = some (.cells #[u1536000] 98 (0, 0))) ∧ Aside0 (wc.heap[gb1536]? = some (.cells #[u1537000] 98 (0, 0))) ∧ Aside0 (wc.heap[gb1537]? = some (.cells #[u1538000] 98 (0, 0))) ∧ Aside0 (wc.heap[gb1538]? = some (.cells #[.int .i64 0, .int .i64 x1539001_1, .int .i64 x1539002_1, .int .i64 x1539003_1, .int .i64 0] 48 (0, 0))) ∧ Aside0 (Below w.heap.size w wc))
    case first =>
     have H := HC13.out
     clear HC13
     by_cases c14 : 0 ≤ x8_1
     ·rw [if_pos c14] at H
      have c14b0 : decide (0 ≤ x8_1) = true := decide_eq_true c14
      clear c14
      (first | rw [c14b0] | (simp only [i64_w, i32_w]; rw [c14b0]) | rw [c14b1] | skip)
      by_cases c15 : ((rd_T48 l0 x8_1).f1) < 0
      ·rw [if_pos c15] at H
       have c15b0 : decide (((rd_T48 l0 x8_1).f1) < 0) = true := decide_eq_true c15
       clear c15
       have H' := aA_ H
       clear H
       have p1539 : 0 ≤ (x8_1 : Int) := of_decide_eq_true (by first | (with_reducible assumption) | assumption)
       have q1539 : x8_1 < (l0.length : Int) := of_decide_eq_true (by first | (with_reducible assumption) | assumption)
       obtain ⟨ad1539, e1539, hx1539_0, hx1539_1, hx1539_2, hx1539_3, hx1539_4⟩ := at_T48 HR0.out x8_1 p1539 q1539
       cases e1539
       replace hx1539_0 := cC_ HB hx1539_0
       replace hx1539_1 := cC_ HB hx1539_1
       replace hx1539_2 := cC_ HB hx1539_2
       replace hx1539_3 := cC_ HB hx1539_3
       replace hx1539_4 := cC_ HB hx1539_4
       replace p1539 := eq_true p1539
       replace q1539 := eq_true q1539
       go_wp2
       go_meet
       case rel => exact ⟨_, _, (by first | rfl | simp | simp [*]), H', ⟨by have := HK1.out; first | omega | exact Nat.le_refl _⟩, ⟨by (with_reducible repeat (first | apply Kd.R_alloc | apply Kd.R_drewN | apply Kd.R_drew)); exact HO_1536000.out⟩, ⟨by (with_reducible repeat (first | apply Kd.R_alloc | apply Kd.R_drewN | apply Kd.R_drew)); exact HO_1537000.out⟩, ⟨by (with_reducible repeat (first | apply Kd.R_alloc | apply Kd.R_drewN | apply Kd.R_drew)); exact HO_1538000.out⟩, ⟨by exact BK1534.out⟩, ⟨by exact BK1535.out⟩, ⟨by exact BK1536.out⟩, ⟨by exact BK1537.out⟩, ⟨by exact BK1538.out⟩, ⟨by repeat (with_reducible first | exact HB.out | apply bA_ | apply bN_ | apply bD_ | refine bS_ ?_ GE1534.out | refine bS_ ?_ GE1535.out | refine bS_ ?_ GE1536.out | refine bS_ ?_ GE1537.out | refine bS_ ?_ GE1538.out)⟩⟩
      ·rw [if_neg c15] at H
       have c15b0 : decide (((rd_T48 l0 x8_1).f1) < 0) = false := decide_eq_false c15
       clear c15
       by_cases c16 : ((rd_T48 l0 x8_1).f2) < 0
       ·rw [if_pos c16] at H
        have c16b0 : decide (((rd_T48 l0 x8_1).f2) < 0) = true := decide_eq_true c16
        clear c16
        have H' := aA_ H
        clear H
        have p1539 : 0 ≤ (x8_1 : Int) := of_decide_eq_true (by first | (with_reducible assumption) | assumption)
        have q1539 : x8_1 < (l0.length : Int) := of_decide_eq_true (by first | (with_reducible assumption) | assumption)
        obtain ⟨ad1539, e1539, hx1539_0, hx1539_1, hx1539_2, hx1539_3, hx1539_4⟩ := at_T48 HR0.out x8_1 p1539 q1539
        cases e1539
        replace hx1539_0 := cC_ HB hx1539_0
        replace hx1539_1 := cC_ HB hx1539_1
        replace hx1539_2 := cC_ HB hx1539_2
        replace hx1539_3 := cC_ HB hx1539_3
        replace hx1539_4 := cC_ HB hx1539_4
        replace p1539 := eq_true p1539
        replace q1539 := eq_true q1539
        have p1540 : 0 ≤ (x8_1 : Int) := of_decide_eq_true (by first | (with_reducible assumption) | assumption)
        have q1540 : x8_1 < (l0.length : Int) := of_decide_eq_true (by first | (with_reducible assumption) | assumption)
        obtain ⟨ad1540, e1540, hx1540_0, hx1540_1, hx1540_2, hx1540_3, hx1540_4⟩ := at_T48 HR0.out x8_1 p1540 q1540
        obtain rfl : ad1539 = ad1540 := (by injection e1540)
        replace hx1540_0 := cC_ HB hx1540_0
        replace hx1540_1 := cC_ HB hx1540_1
        replace hx1540_2 := cC_ HB hx1540_2
        replace hx1540_3 := cC_ HB hx1540_3
        replace hx1540_4 := cC_ HB hx1540_4
        replace p1540 := eq_true p1540
        replace q1540 := eq_true q1540
        go_wp2
        go_meet
        case rel => exact ⟨_, _, (by first | rfl | simp | simp [*]), H', ⟨by have := HK1.out; first | omega | exact Nat.le_refl _⟩, ⟨by (with_reducible repeat (first | apply Kd.R_alloc | apply Kd.R_drewN | apply Kd.R_drew)); exact HO_1536000.out⟩, ⟨by (with_reducible repeat (first | apply Kd.R_alloc | apply Kd.R_drewN | apply Kd.R_drew)); exact HO_1537000.out⟩, ⟨by (with_reducible repeat (first | apply Kd.R_alloc | apply Kd.R_drewN | apply Kd.R_drew)); exact HO_1538000.out⟩, ⟨by exact BK1534.out⟩, ⟨by exact BK1535.out⟩, ⟨by exact BK1536.out⟩, ⟨by exact BK1537.out⟩, ⟨by exact BK1538.out⟩, ⟨by repeat (with_reducible first | exact HB.out | apply bA_ | apply bN_ | apply bD_ | refine bS_ ?_ GE1534.out | refine bS_ ?_ GE1535.out | refine bS_ ?_ GE1536.out | refine bS_ ?_ GE1537.out | refine bS_ ?_ GE1538.out)⟩⟩
       ·rw [if_neg c16] at H
        have c16b0 : decide (((rd_T48 l0 x8_1).f2) < 0) = false := decide_eq_false c16
        clear c16
        have H' := aA_ H
        clear H
        have p1539 : 0 ≤ (x8_1 : Int) := of_decide_eq_true (by first | (with_reducible assumption) | assumption)
        have q1539 : x8_1 < (l0.length : Int) := of_decide_eq_true (by first | (with_reducible assumption) | assumption)
        obtain ⟨ad1539, e1539, hx1539_0, hx1539_1, hx1539_2, hx1539_3, hx1539_4⟩ := at_T48 HR0.out x8_1 p1539 q1539
        cases e1539
        replace hx1539_0 := cC_ HB hx1539_0
        replace hx1539_1 := cC_ HB hx1539_1
        replace hx1539_2 := cC_ HB hx1539_2
        replace hx1539_3 := cC_ HB hx1539_3
        replace hx1539_4 := cC_ HB hx1539_4
        replace p1539 := eq_true p1539
        replace q1539 := eq_true q1539
        have p1540 : 0 ≤ (x8_1 : Int) := of_decide_eq_true (by first | (with_reducible assumption) | assumption)
        have q1540 : x8_1 < (l0.length : Int) := of_decide_eq_true (by first | (with_reducible assumption) | assumption)
        obtain ⟨ad1540, e1540, hx1540_0, hx1540_1, hx1540_2, hx1540_3, hx1540_4⟩ := at_T48 HR0.out x8_1 p1540 q1540
        obtain rfl : ad1539 = ad1540 := (by injection e1540)
        replace hx1540_0 := cC_ HB hx1540_0
        replace hx1540_1 := cC_ HB hx1540_1
        replace hx1540_2 := cC_ HB hx1540_2
        replace hx1540_3 := cC_ HB hx1540_3
        replace hx1540_4 := cC_ HB hx1540_4
        replace p1540 := eq_true p1540
        replace q1540 := eq_true q1540
        have p1541 : 0 ≤ (x8_1 : Int) := of_decide_eq_true (by first | (with_reducible assumption) | assumption)
        have q1541 : x8_1 < (l0.length : Int) := of_decide_eq_true (by first | (with_reducible assumption) | assumption)
        obtain ⟨ad1541, e1541, hx1541_0, hx1541_1, hx1541_2, hx1541_3, hx1541_4⟩ := at_T48 HR0.out x8_1 p1541 q1541
        obtain rfl : ad1539 = ad1541 := (by injection e1541)
        replace hx1541_0 := cC_ HB hx1541_0
        replace hx1541_1 := cC_ HB hx1541_1
        replace hx1541_2 := cC_ HB hx1541_2
        replace hx1541_3 := cC_ HB hx1541_3
        replace hx1541_4 := cC_ HB hx1541_4
        replace p1541 := eq_true p1541
        replace q1541 := eq_true q1541
        go_wp2
        go_meet
        case rel => exact ⟨_, (decide (((rd_T48 l0 x8_1).f3) < 0)), (by first | rfl | simp | simp [*]), H', ⟨by have := HK1.out; first | omega | exact Nat.le_refl _⟩, ⟨by (with_reducible repeat (first | apply Kd.R_alloc | apply Kd.R_drewN | apply Kd.R_drew)); exact HO_1536000.out⟩, ⟨by (with_reducible repeat (first | apply Kd.R_alloc | apply Kd.R_drewN | apply Kd.R_drew)); exact HO_1537000.out⟩, ⟨by (with_reducible repeat (first | apply Kd.R_alloc | apply Kd.R_drewN | apply Kd.R_drew)); exact HO_1538000.out⟩, ⟨by exact BK1534.out⟩, ⟨by exact BK1535.out⟩, ⟨by exact BK1536.out⟩, ⟨by exact BK1537.out⟩, ⟨by exact BK1538.out⟩, ⟨by repeat (with_reducible first | exact HB.out | apply bA_ | apply bN_ | apply bD_ | refine bS_ ?_ GE1534.out | refine bS_ ?_ GE1535.out | refine bS_ ?_ GE1536.out | refine bS_ ?_ GE1537.out | refine bS_ ?_ GE1538.out)⟩⟩
     ·rw [if_neg c14] at H
      exact absurd H (by simp)
    case rest =>
     clear HC13
     try clear c1
     try clear p1
     try clear q1
     try clear hx1
     try clear p2
     try clear c3
     try clear c7
     try clear c8
     try clear c9
     try clear c10
     try clear c12
     try clear c12b0
     try clear c14
     try clear c14b0
     try clear c14b1
     try clear c15
     try clear c15b0
     try clear p15
     try clear q15
     try clear hx15
     try clear c16
     try clear c16b0
     try clear hcz11_0
     try clear hcz11_1
     try clear hcz11_2
     try clear hcz11_3
     try clear hcz11_4
     try clear hfz11_0
     try clear hfz11_1
     try clear hfz11_2
     try clear hfz11_3
     try clear hfz11_4
     try clear hx1539_0
     try clear hx1539_1
     try clear hx1539_2
     try clear hx1539_3
     try clear hx1539_4
     try clear hx1540_0
     try clear hx1540_1
     try clear hx1540_2
     try clear hx1540_3
     try clear hx1540_4
     try clear hx1541_0
     try clear hx1541_1
     try clear hx1541_2
     try clear hx1541_3
     try clear hx1541_4
     try clear p1539
     try clear p1540
     try clear p1541
     try clear p2
     try clear q1539
     try clear q1540
     try clear q1541
     obtain ⟨kq, x38_12, rfl, HA, HJ12, HO_1536000, HO_1537000, HO_1538000, BK1534, BK1535, BK1536, BK1537, BK1538, HB⟩ := hcut
     cases kq with
     | zero => exact absurd HA.out (by simp [demurrageref21_Sums.j1])
     | succ kj12 =>
      have H := HA.out
      clear HA
      simp only [demurrageref21_Sums.j1] at H
      by_cases c17 : x38_12 = true
      ·subst c17
       rw [if_pos rfl] at H
       simp only [Option.some.injEq, Prod.mk.injEq] at H
       obtain ⟨rfl, rfl, rfl, rfl, rfl, rfl⟩ := H
       have hnb18 := NB1534_1535.out
       have hnc18 := NB1535_1534.out
       have hnb19 := NB1534_1536.out
       have hnc19 := NB1536_1534.out
       have hnb20 := NB1534_1537.out
       have hnc20 := NB1537_1534.out
       have hnb21 := NB1534_1538.out
       have hnc21 := NB1538_1534.out
       have hcz22_0 : wc.cell? ⟨gb1534, 0, none⟩ = some (.int .i64 x1535000_1) := (blk_cell BK1534.out 0).trans rfl
       have hcz22_1 : wc.cell? ⟨gb1534, 1, none⟩ = some (.int .i64 x1535001_1) := (blk_cell BK1534.out 1).trans rfl
       have hcz22_2 : wc.cell? ⟨gb1534, 2, none⟩ = some (.int .i64 x1535002_1) := (blk_cell BK1534.out 2).trans rfl
       have hcz22_3 : wc.cell? ⟨gb1534, 3, none⟩ = some (.int .i64 x1535003_1) := (blk_cell BK1534.out 3).trans rfl
       have hcz22_4 : wc.cell? ⟨gb1534, 4, none⟩ = some (.int .i64 x1535004_1) := (blk_cell BK1534.out 4).trans rfl
       have hfz22_0 := blk_frozen BK1534.out 0
       have hfz22_1 := blk_frozen BK1534.out 1
       have hfz22_2 := blk_frozen BK1534.out 2
       have hfz22_3 := blk_frozen BK1534.out 3
       have hfz22_4 := blk_frozen BK1534.out 4
       go_wp2
       refine bodyPost_ret (results_ct rfl _ _ gb1534 48 #[.int .i64 0, .int .i64 0, .int .i64 0, .int .i64 0, .int .i64 0] (0, 0) _ rfl (by refine blk_put (cs := #[.int .i64 0, .int .i64 0, .int .i64 0, .int .i64 0, .int .i64 x1535004_1]) ?_ 4 _ rfl; refine blk_put (cs := #[.int .i64 0, .int .i64 0, .int .i64 0, .int .i64 x1535003_1, .int .i64 x1535004_1]) ?_ 3 _ rfl; refine blk_put (cs := #[.int .i64 0, .int .i64 0, .int .i64 x1535002_1, .int .i64 x1535003_1, .int .i64 x1535004_1]) ?_ 2 _ rfl; refine blk_put (cs := #[.int .i64 0, .int .i64 x1535001_1, .int .i64 x1535002_1, .int .i64 x1535003_1, .int .i64 x1535004_1]) ?_ 1 _ rfl; refine blk_put (cs := #[.int .i64 x1535000_1, .int .i64 x1535001_1, .int .i64 x1535002_1, .int .i64 x1535003_1, .int .i64 x1535004_1]) ?_ 0 _ rfl; exact BK1534.out) Try.underlying48 rfl (by kernel_rfl)) rfl ?_
       exact ⟨by rfl, by repeat (with_reducible first | exact HB.out | apply bA_ | apply bN_ | apply bD_ | refine bS_ ?_ GE1534.out | refine bS_ ?_ GE1535.out | refine bS_ ?_ GE1536.out | refine bS_ ?_ GE1537.out | refine bS_ ?_ GE1538.out)⟩
      ·replace c17 := Bool.eq_false_iff.mpr c17
       subst c17
       rw [if_neg (show ¬ (false = true) by decide)] at H
       by_cases c23 : 0 ≤ x8_1
       ·rw [if_pos c23] at H
        have c23b0 : decide (0 ≤ x8_1) = true := decide_eq_true c23
        clear c23
        by_cases c24 : x8_1 < (l0.length : Int)
        ·rw [if_pos c24] at H
         have c24b0 : decide (x8_1 < (l0.length : Int)) = true := decide_eq_true c24
         clear c24
         replace H := bI_ H
         obtain ⟨t1543, A250, H⟩ := H
         (try dsimp only at H)
         have A25 := aA_ A250
         clear A250
         replace H := bI_ H
         obtain ⟨t1546, A260, H⟩ := H
         (try dsimp only at H)
         have A26 := aA_ A260
         clear A260
         replace H := bI_ H
         obtain ⟨t1550, A270, H⟩ := H
         (try dsimp only at H)
         have A27 := aA_ A270
         clear A270
         replace H := bI_ H
         obtain ⟨t1553, A280, H⟩ := H
         (try dsimp only at H)
         have A28 := aA_ A280
         clear A280
         replace H := bI_ H
         obtain ⟨t1557, A290, H⟩ := H
         (try dsimp only at H)
         have A29 := aA_ A290
         clear A290
         replace H := bI_ H
         obtain ⟨t1560, A300, H⟩ := H
         (try dsimp only at H)
         have A30 := aA_ A300
         clear A300
         have H' := aA_ H
         clear H
         try go_wp2
         replace HO_1536000 := aA_ (Kd.R_drew HO_1536000.out)
         replace HO_1537000 := aA_ (Kd.R_drew HO_1537000.out)
         replace HO_1538000 := aA_ (Kd.R_drew HO_1538000.out)
         replace BK1534 := aA_ (blk_drew BK1534.out)
         replace BK1535 := aA_ (blk_drew BK1535.out)
         replace BK1536 := aA_ (blk_drew BK1536.out)
         replace BK1537 := aA_ (blk_drew BK1537.out)
         replace BK1538 := aA_ (blk_drew BK1538.out)
         replace HB := aA_ (below_drew1 HB.out)
         have p1542 : 0 ≤ (x8_1 : Int) := of_decide_eq_true (by first | (with_reducible assumption) | assumption)
         have q1542 : x8_1 < (l0.length : Int) := of_decide_eq_true (by first | (with_reducible assumption) | assumption)
         obtain ⟨ad1542, e1542, hx1542_0, hx1542_1, hx1542_2, hx1542_3, hx1542_4⟩ := at_T48 HR0.out x8_1 p1542 q1542
         have hw1542_4 := hx1542_4
         have hw1542_3 := hx1542_3
         have hw1542_2 := hx1542_2
         have hw1542_1 := hx1542_1
         have hw1542_0 := hx1542_0
         cases e1542
         replace hx1542_0 := cC_ HB hx1542_0
         replace hx1542_1 := cC_ HB hx1542_1
         replace hx1542_2 := cC_ HB hx1542_2
         replace hx1542_3 := cC_ HB hx1542_3
         replace hx1542_4 := cC_ HB hx1542_4
         replace p1542 := eq_true p1542
         replace q1542 := eq_true q1542
         refine start_ (n := 9) (S := fun w' => w'.cell? ⟨gb1535, 0, none⟩ = some (u1536000) ∧ w'.cell? (ad1542.add ((x8_1).toNat * 5)) = some (.int .i64 ((rd_T48 l0 x8_1).f0)) ∧ w'.cell? ⟨(ad1542.add ((x8_1).toNat * 5)).block, (ad1542.add ((x8_1).toNat * 5)).off + 1, none⟩ = some (.int .i64 ((rd_T48 l0 x8_1).f1)) ∧ w'.cell? ⟨(ad1542.add ((x8_1).toNat * 5)).block, (ad1542.add ((x8_1).toNat * 5)).off + 2, none⟩ = some (.int .i64 ((rd_T48 l0 x8_1).f2)) ∧ w'.cell? ⟨(ad1542.add ((x8_1).toNat * 5)).block, (ad1542.add ((x8_1).toNat * 5)).off + 3, none⟩ = some (.int .i64 ((rd_T48 l0 x8_1).f3)) ∧ w'.cell? ⟨(ad1542.add ((x8_1).toNat * 5)).block, (ad1542.add ((x8_1).toNat * 5)).off + 4, none⟩ = some (.int .i64 ((rd_T48 l0 x8_1).f4))) (ds := [8]) (demurrageref21_Sums.ups 9 0) (by kernel_rfl) rfl rfl ⟨(blk_cell BK1535.out 0).trans rfl, ((HB.out.cell (World.block_lt_of_cell? w _ hw1542_0)).trans hw1542_0), ((HB.out.cell (World.block_lt_of_cell? w _ hw1542_1)).trans hw1542_1), ((HB.out.cell (World.block_lt_of_cell? w _ hw1542_2)).trans hw1542_2), ((HB.out.cell (World.block_lt_of_cell? w _ hw1542_3)).trans hw1542_3), ((HB.out.cell (World.block_lt_of_cell? w _ hw1542_4)).trans hw1542_4)⟩ (fun hHeld => ?_); refine with_tabW demurrageref21_Sums.tab10 demurrageref21_Sums.bits10 (fun HT_ HW_ => ?_)
         generalize wc.drew = w31 at HO_1536000 HO_1537000 HO_1538000 BK1534 BK1535 BK1536 BK1537 BK1538 HB hx1542_0 hx1542_1 hx1542_2 hx1542_3 hx1542_4 hHeld ⊢
         refine pure_ (i := 1) (N := some 41) (v := ?_) (a' := ?_) (demurrageref21_Sums.ups 9 2) rfl rfl (any_of HT_.out (by kernel_rfl)) (fun _ _ _ h => h) (Or.inl ⟨by rfl, ?_⟩) ?_ ?_
         rotate_left
         ·intro w'
          go_simp
          with_reducible rfl
         rotate_left
         ·simp only [Act.put, sT_, sZ_, sS_, i64_w, i32_w]
          rfl
         refine pure_ (i := 2) (N := some 42) (v := ?_) (a' := ?_) (demurrageref21_Sums.ups 9 6) rfl rfl (any_of HT_.out (by kernel_rfl)) (fun _ _ _ h => h) (Or.inl ⟨by rfl, ?_⟩) ?_ ?_
         rotate_left
         ·intro w'
          go_simp
          with_reducible rfl
         rotate_left
         ·simp only [Act.put, sT_, sZ_, sS_, i64_w, i32_w]
          rfl
         refine pure_ (i := 3) (N := some 43) (v := ?_) (a' := ?_) (demurrageref21_Sums.ups 9 14) rfl rfl (any_of HT_.out (by kernel_rfl)) (fun _ _ _ h => h) (Or.inl ⟨by rfl, ?_⟩) ?_ ?_
         rotate_left
         ·intro w'
          go_simp
          with_reducible rfl
         rotate_left
         ·simp only [Act.put, sT_, sZ_, sS_, i64_w, i32_w]
          rfl
         refine pure_ (i := 4) (N := some 44) (v := ?_) (a' := ?_) (demurrageref21_Sums.ups 9 30) rfl rfl (any_of HT_.out (by kernel_rfl)) (fun _ _ _ h => h) (Or.inl ⟨by rfl, ?_⟩) ?_ ?_
         rotate_left
         ·intro w'
          go_simp
          with_reducible rfl
         rotate_left
         ·simp only [Act.put, sT_, sZ_, sS_, i64_w, i32_w]
          rfl
         refine take_ (i := 0) (N := some 40) (v := ?_) (a' := ?_) (demurrageref21_Sums.ups 9 31) rfl rfl (take_ofW HT_.out HW_.out (by kernel_rfl)) (fun _ _ _ h => h) (Or.inl ⟨by rfl, ?_⟩) hHeld ?_ ?_
         rotate_left
         ·rintro w' ⟨s0, s1, s2, s3, s4, s5⟩
          go_simp
          with_reducible rfl
         rotate_left
         ·simp only [Act.put, sT_, sZ_, sS_, i64_w, i32_w]
          rfl
         refine take_ (i := 5) (N := some 45) (v := ?_) (a' := ?_) (demurrageref21_Sums.ups 9 63) rfl rfl (take_ofW HT_.out HW_.out (by kernel_rfl)) (fun _ _ _ h => h) (Or.inl ⟨by rfl, ?_⟩) hHeld ?_ ?_
         rotate_left
         ·rintro w' ⟨s0, s1, s2, s3, s4, s5⟩
          go_simp
          with_reducible rfl
         rotate_left
         ·simp only [Act.put, sT_, sZ_, sS_, i64_w, i32_w]
          rfl
         refine one_ (i := 6) (N := some 46) (demurrageref21_Sums.ups 9 127) rfl rfl (one_of HT_.out (by kernel_rfl)) (by decide) (fun K hK => ?_)
         refine goes_ Try.func49 (by kernel_rfl) rfl #[.int .i64 ((rd_T48 l0 x8_1).f1)] (by rfl) rfl rfl (by (try simp only [mT_, mC_, mN_]); first | done | rfl) ?_
         with_reducible refine (demurrageref01_From.calls kj12 ((rd_T48 l0 x8_1).f1) t1543 _ A25.out).mono ?_
         rintro e w32 ⟨v1544, rfl, ho0, hb⟩
         refine ⟨_, rfl, ?_⟩
         have HO1545 := aA_ (Kd.R_lower (Kd.R_new' (Kd.R_new' (Kd.R_new' ho0 (Kd.R_lt HO_1536000.out)) (Kd.R_lt HO_1537000.out)) (Kd.R_lt HO_1538000.out)) (below_size (by repeat (with_reducible first | exact HB.out | apply bA_ | apply bN_ | apply bD_ | refine bS_ ?_ GE1534.out | refine bS_ ?_ GE1535.out | refine bS_ ?_ GE1536.out | refine bS_ ?_ GE1537.out | refine bS_ ?_ GE1538.out))))
         replace HO_1536000 := aA_ (Kd.R_elder' HO_1536000.out (Kd.R_base ho0) hb)
         replace HO_1537000 := aA_ (Kd.R_elder' HO_1537000.out (Kd.R_base ho0) hb)
         replace HO_1538000 := aA_ (Kd.R_elder' HO_1538000.out (Kd.R_base ho0) hb)
         replace BK1534 := bK_ BK1534 hb
         replace BK1535 := bK_ BK1535 hb
         replace BK1536 := bK_ BK1536 hb
         replace BK1537 := bK_ BK1537 hb
         replace BK1538 := bK_ BK1538 hb
         replace HB := bB_ (by repeat (with_reducible first | exact HB.out | apply bA_ | apply bN_ | apply bD_ | refine bS_ ?_ GE1534.out | refine bS_ ?_ GE1535.out | refine bS_ ?_ GE1536.out | refine bS_ ?_ GE1537.out | refine bS_ ?_ GE1538.out)) hb
         (try clear hb)
         (try clear hb2)
         (try clear hk)
         (try clear hi)
         (try clear ho0)
         obtain ⟨Ao33, co33, eo33⟩ := Kd.R_slice HO_1536000.out
         (first | subst eo33 | (injection eo33 with f1_ f2_ f3_; have f4_ := f1_.symm; have f5_ := f3_.symm; clear f1_ f2_ f3_; subst f4_; subst f5_))
         obtain ⟨Ao34, co34, eo34⟩ := Kd.R_slice HO1545.out
         (first | subst eo34 | (injection eo34 with f1_ f2_ f3_; have f4_ := f1_.symm; have f5_ := f3_.symm; clear f1_ f2_ f3_; subst f4_; subst f5_))
         refine hK.out _ _ ⟨(blk_cell BK1535.out 0).trans rfl, ((HB.out.cell (World.block_lt_of_cell? w _ hw1542_0)).trans hw1542_0), ((HB.out.cell (World.block_lt_of_cell? w _ hw1542_1)).trans hw1542_1), ((HB.out.cell (World.block_lt_of_cell? w _ hw1542_2)).trans hw1542_2), ((HB.out.cell (World.block_lt_of_cell? w _ hw1542_3)).trans hw1542_3), ((HB.out.cell (World.block_lt_of_cell? w _ hw1542_4)).trans hw1542_4)⟩ (fun hHeld => ?_)
         clear hK K
         refine norm_ (by show Act.put _ (some 46) _ = _; simp only [Act.put, sT_, sZ_, sS_, i64_w, i32_w] <;> rfl) ?_
         refine one_ (i := 7) (N := some 47) (demurrageref21_Sums.ups 9 255) rfl rfl (one_of HT_.out (by kernel_rfl)) (by decide) (fun K hK => ?_)
         refine goes_ Try.func48 (by kernel_rfl) rfl #[.agg #[.slice Ao33 x1536000_1.length co33], .agg #[.slice Ao34 t1543.length co34]] (by rfl) rfl rfl (by (try simp only [mT_, mC_, mN_]); first | done | rfl) ?_
         with_reducible refine (demurrageref01_Plus.calls kj12 _ _ x1536000_1 _ _ t1543 t1546 _ ?side1 ?side2 ?side3 ?side4 A26.out).mono ?_
         (case side1 => repeat (first | exact (Kd.R_reads' HO_1536000.out).2.2 | (with_reducible first | refine Kd.C_alloc ?_ _ | refine Kd.C_drewN ?_ _ | refine Kd.C_drew ?_)))
         (case side2 => exact (Kd.R_reads' HO_1536000.out).2.1)
         (case side3 => repeat (first | exact (Kd.R_reads' HO1545.out).2.2 | (with_reducible first | refine Kd.C_alloc ?_ _ | refine Kd.C_drewN ?_ _ | refine Kd.C_drew ?_)))
         (case side4 => exact (Kd.R_reads' HO1545.out).2.1)
         rintro e w35 ⟨v1547, rfl, ho0, hb⟩
         refine ⟨_, rfl, ?_⟩
         have HO1548 := aA_ (Kd.R_lower (Kd.R_new' (Kd.R_new' (Kd.R_new' (Kd.R_new' ho0 (Kd.R_lt HO_1536000.out)) (Kd.R_lt HO_1537000.out)) (Kd.R_lt HO_1538000.out)) (Kd.R_lt HO1545.out)) (below_size (by repeat (with_reducible first | exact HB.out | apply bA_ | apply bN_ | apply bD_ | refine bS_ ?_ GE1534.out | refine bS_ ?_ GE1535.out | refine bS_ ?_ GE1536.out | refine bS_ ?_ GE1537.out | refine bS_ ?_ GE1538.out))))
         replace HO_1536000 := aA_ (Kd.R_elder' HO_1536000.out (Kd.R_base ho0) hb)
         replace HO_1537000 := aA_ (Kd.R_elder' HO_1537000.out (Kd.R_base ho0) hb)
         replace HO_1538000 := aA_ (Kd.R_elder' HO_1538000.out (Kd.R_base ho0) hb)
         replace HO1545 := aA_ (Kd.R_elder' HO1545.out (Kd.R_base ho0) hb)
         replace BK1534 := bK_ BK1534 hb
         replace BK1535 := bK_ BK1535 hb
         replace BK1536 := bK_ BK1536 hb
         replace BK1537 := bK_ BK1537 hb
         replace BK1538 := bK_ BK1538 hb
         replace HB := bB_ (by repeat (with_reducible first | exact HB.out | apply bA_ | apply bN_ | apply bD_ | refine bS_ ?_ GE1534.out | refine bS_ ?_ GE1535.out | refine bS_ ?_ GE1536.out | refine bS_ ?_ GE1537.out | refine bS_ ?_ GE1538.out)) hb
         (try clear hb)
         (try clear hb2)
         (try clear hk)
         (try clear hi)
         (try clear ho0)
         obtain ⟨Ao36, co36, eo36⟩ := Kd.R_slice HO1548.out
         (first | subst eo36 | (injection eo36 with f1_ f2_ f3_; have f4_ := f1_.symm; have f5_ := f3_.symm; clear f1_ f2_ f3_; subst f4_; subst f5_))
         refine hK.out _ _ ⟨(blk_cell BK1535.out 0).trans rfl, ((HB.out.cell (World.block_lt_of_cell? w _ hw1542_0)).trans hw1542_0), ((HB.out.cell (World.block_lt_of_cell? w _ hw1542_1)).trans hw1542_1), ((HB.out.cell (World.block_lt_of_cell? w _ hw1542_2)).trans hw1542_2), ((HB.out.cell (World.block_lt_of_cell? w _ hw1542_3)).trans hw1542_3), ((HB.out.cell (World.block_lt_of_cell? w _ hw1542_4)).trans hw1542_4)⟩ (fun hHeld => ?_)
         clear hK K
         refine norm_ (by show Act.put _ (some 47) _ = _; simp only [Act.put, sT_, sZ_, sS_, i64_w, i32_w] <;> rfl) ?_
         refine last_ (i := 8) (N := none) (demurrageref21_Sums.ups 9 511) rfl rfl (one_of HT_.out (by kernel_rfl)) (by decide) (fun K hK => ?_)
         have hs37 : w35.cell? ⟨gb1535, 0, none⟩ = some (.slice Ao33 x1536000_1.length co33) := (blk_cell BK1535.out 0).trans rfl
         have hfs37 := blk_frozen BK1535.out 0
         have hns37_0 := NB1534_1535.out
         have hns37_2 := NB1536_1535.out
         have hns37_3 := NB1537_1535.out
         have hns37_4 := NB1538_1535.out
         have hms37_0 := NB1535_1534.out
         have hms37_2 := NB1535_1536.out
         have hms37_3 := NB1535_1537.out
         have hms37_4 := NB1535_1538.out
         refine skip_ (w1 := ?_) (by rfl) rfl ?_ ?_
         rotate_left
         ·go_simp
          rfl
         refine hK.out _ _ ?_
         clear hK K
         refine done_ (done_of HT_.out (by kernel_rfl)) ?_
         try go_wp2
         have n0_ : Aside0 (Kd.R (Kd.int .i64) 3 (w35.setCell ⟨gb1535, 0, none⟩ (.slice Ao36 t1546.length co36)) w.heap.size (fun k_ => some k_ ≠ (u1537000 : Value).ownBlock ∧ some k_ ≠ (u1538000 : Value).ownBlock ∧ some k_ ≠ (.slice Ao34 t1543.length co34 : Value).ownBlock ∧ some k_ ≠ (.slice Ao36 t1546.length co36 : Value).ownBlock) (.slice Ao33 x1536000_1.length co33) x1536000_1) := ⟨by (with_reducible repeat (first | apply Kd.R_alloc | apply Kd.R_drewN | apply Kd.R_drew)); exact Kd.R_mono (Kd.R_far (p := ⟨gb1535, 0, none⟩) (Kd.R_types HO_1536000.out BK1535.out (by decide)) (fun _ hk => hk.2) (.slice Ao36 t1546.length co36)) (fun _ hk => (And.intro (hk.1.1.1.1) ((And.intro (hk.1.1.1.2) ((And.intro (hk.1.1.2) (hk.1.2)))))))⟩
         have n1_ : Aside0 (Kd.R (Kd.int .i64) 3 (w35.setCell ⟨gb1535, 0, none⟩ (.slice Ao36 t1546.length co36)) w.heap.size (fun k_ => some k_ ≠ (.slice Ao33 x1536000_1.length co33 : Value).ownBlock ∧ some k_ ≠ (u1538000 : Value).ownBlock ∧ some k_ ≠ (.slice Ao34 t1543.length co34 : Value).ownBlock ∧ some k_ ≠ (.slice Ao36 t1546.length co36 : Value).ownBlock) u1537000 x1537000_1) := ⟨by (with_reducible repeat (first | apply Kd.R_alloc | apply Kd.R_drewN | apply Kd.R_drew)); exact Kd.R_mono (Kd.R_far (p := ⟨gb1535, 0, none⟩) (Kd.R_types HO_1537000.out BK1535.out (by decide)) (fun _ hk => hk.2) (.slice Ao36 t1546.length co36)) (fun _ hk => (And.intro (hk.1.1.1.1) ((And.intro (hk.1.1.1.2) ((And.intro (hk.1.1.2) (hk.1.2)))))))⟩
         have n2_ : Aside0 (Kd.R (Kd.int .i64) 3 (w35.setCell ⟨gb1535, 0, none⟩ (.slice Ao36 t1546.length co36)) w.heap.size (fun k_ => some k_ ≠ (.slice Ao33 x1536000_1.length co33 : Value).ownBlock ∧ some k_ ≠ (u1537000 : Value).ownBlock ∧ some k_ ≠ (.slice Ao34 t1543.length co34 : Value).ownBlock ∧ some k_ ≠ (.slice Ao36 t1546.length co36 : Value).ownBlock) u1538000 x1538000_1) := ⟨by (with_reducible repeat (first | apply Kd.R_alloc | apply Kd.R_drewN | apply Kd.R_drew)); exact Kd.R_mono (Kd.R_far (p := ⟨gb1535, 0, none⟩) (Kd.R_types HO_1538000.out BK1535.out (by decide)) (fun _ hk => hk.2) (.slice Ao36 t1546.length co36)) (fun _ hk => (And.intro (hk.1.1.1.1) ((And.intro (hk.1.1.1.2) ((And.intro (hk.1.1.2) (hk.1.2)))))))⟩
         have n3_ : Aside0 (Kd.R (Kd.int .i64) 3 (w35.setCell ⟨gb1535, 0, none⟩ (.slice Ao36 t1546.length co36)) w.heap.size (fun k_ => some k_ ≠ (.slice Ao33 x1536000_1.length co33 : Value).ownBlock ∧ some k_ ≠ (u1537000 : Value).ownBlock ∧ some k_ ≠ (u1538000 : Value).ownBlock ∧ some k_ ≠ (.slice Ao36 t1546.length co36 : Value).ownBlock) (.slice Ao34 t1543.length co34) t1543) := ⟨by (with_reducible repeat (first | apply Kd.R_alloc | apply Kd.R_drewN | apply Kd.R_drew)); exact Kd.R_mono (Kd.R_far (p := ⟨gb1535, 0, none⟩) (Kd.R_types HO1545.out BK1535.out (by decide)) (fun _ hk => hk.2) (.slice Ao36 t1546.length co36)) (fun _ hk => (And.intro (hk.1.1.1.1.2) ((And.intro (hk.1.1.1.2) ((And.intro (hk.1.1.2) (hk.1.2)))))))⟩
         have n4_ : Aside0 (Kd.R (Kd.int .i64) 3 (w35.setCell ⟨gb1535, 0, none⟩ (.slice Ao36 t1546.length co36)) w.heap.size (fun k_ => some k_ ≠ (.slice Ao33 x1536000_1.length co33 : Value).ownBlock ∧ some k_ ≠ (u1537000 : Value).ownBlock ∧ some k_ ≠ (u1538000 : Value).ownBlock ∧ some k_ ≠ (.slice Ao34 t1543.length co34 : Value).ownBlock) (.slice Ao36 t1546.length co36) t1546) := ⟨by (with_reducible repeat (first | apply Kd.R_alloc | apply Kd.R_drewN | apply Kd.R_drew)); exact Kd.R_mono (Kd.R_far (p := ⟨gb1535, 0, none⟩) (Kd.R_types HO1548.out BK1535.out (by decide)) (fun _ hk => hk.2) (.slice Ao36 t1546.length co36)) (fun _ hk => (And.intro (hk.1.1.1.1.2) ((And.intro (hk.1.1.1.2) ((And.intro (hk.1.1.2) (hk.1.2)))))))⟩
         have n5_ : Aside0 ((w35.setCell ⟨gb1535, 0, none⟩ (.slice Ao36 t1546.length co36)).heap[gb1534]? = some (.cells #[.int .i64 x1535000_1, .int .i64 x1535001_1, .int .i64 x1535002_1, .int .i64 x1535003_1, .int .i64 x1535004_1] 48 (0, 0))) := ⟨by refine blk_far ?_ NB1534_1535.out _; exact BK1534.out⟩
         have n6_ : Aside0 ((w35.setCell ⟨gb1535, 0, none⟩ (.slice Ao36 t1546.length co36)).heap[gb1535]? = some (.cells #[.slice Ao36 t1546.length co36] 98 (0, 0))) := ⟨by refine blk_put (cs := #[.slice Ao33 x1536000_1.length co33]) ?_ 0 _ rfl; exact BK1535.out⟩
         have n7_ : Aside0 ((w35.setCell ⟨gb1535, 0, none⟩ (.slice Ao36 t1546.length co36)).heap[gb1536]? = some (.cells #[u1537000] 98 (0, 0))) := ⟨by refine blk_far ?_ NB1536_1535.out _; exact BK1536.out⟩
         have n8_ : Aside0 ((w35.setCell ⟨gb1535, 0, none⟩ (.slice Ao36 t1546.length co36)).heap[gb1537]? = some (.cells #[u1538000] 98 (0, 0))) := ⟨by refine blk_far ?_ NB1537_1535.out _; exact BK1537.out⟩
         have n9_ : Aside0 ((w35.setCell ⟨gb1535, 0, none⟩ (.slice Ao36 t1546.length co36)).heap[gb1538]? = some (.cells #[.int .i64 0, .int .i64 x1539001_1, .int .i64 x1539002_1, .int .i64 x1539003_1, .int .i64 0] 48 (0, 0))) := ⟨by refine blk_far ?_ NB1538_1535.out _; exact BK1538.out⟩
         have n10_ : Aside0 (Below w.heap.size w (w35.setCell ⟨gb1535, 0, none⟩ (.slice Ao36 t1546.length co36))) := ⟨by repeat (with_reducible first | exact HB.out | apply bA_ | apply bN_ | apply bD_ | refine bS_ ?_ GE1534.out | refine bS_ ?_ GE1535.out | refine bS_ ?_ GE1536.out | refine bS_ ?_ GE1537.out | refine bS_ ?_ GE1538.out)⟩
         (try clear HO_1536000)
         (try clear HO_1537000)
         (try clear HO_1538000)
         (try clear HO1545)
         (try clear HO1548)
         (try clear BK1534)
         (try clear BK1535)
         (try clear BK1536)
         (try clear BK1537)
         (try clear BK1538)
         (try clear HB)
         generalize (w35.setCell ⟨gb1535, 0, none⟩ (.slice Ao36 t1546.length co36)) = w38 at n0_ n1_ n2_ n3_ n4_ n5_ n6_ n7_ n8_ n9_ n10_ ⊢
         have HO_1536000 := n0_
         have HO_1537000 := n1_
         have HO_1538000 := n2_
         have HO1545 := n3_
         have HO1548 := n4_
         have BK1534 := n5_
         have BK1535 := n6_
         have BK1536 := n7_
         have BK1537 := n8_
         have BK1538 := n9_
         have HB := n10_
         clear n0_ n1_ n2_ n3_ n4_ n5_ n6_ n7_ n8_ n9_ n10_
         replace HO_1536000 := aA_ (Kd.R_drew HO_1536000.out)
         replace HO_1537000 := aA_ (Kd.R_drew HO_1537000.out)
         replace HO_1538000 := aA_ (Kd.R_drew HO_1538000.out)
         replace HO1545 := aA_ (Kd.R_drew HO1545.out)
         replace HO1548 := aA_ (Kd.R_drew HO1548.out)
         replace BK1534 := aA_ (blk_drew BK1534.out)
         replace BK1535 := aA_ (blk_drew BK1535.out)
         replace BK1536 := aA_ (blk_drew BK1536.out)
         replace BK1537 := aA_ (blk_drew BK1537.out)
         replace BK1538 := aA_ (blk_drew BK1538.out)
         replace HB := aA_ (below_drew1 HB.out)
         have p1549 : 0 ≤ (x8_1 : Int) := of_decide_eq_true (by first | (with_reducible assumption) | assumption)
         have q1549 : x8_1 < (l0.length : Int) := of_decide_eq_true (by first | (with_reducible assumption) | assumption)
         obtain ⟨ad1549, e1549, hx1549_0, hx1549_1, hx1549_2, hx1549_3, hx1549_4⟩ := at_T48 HR0.out x8_1 p1549 q1549
         have hw1549_4 := hx1549_4
         have hw1549_3 := hx1549_3
         have hw1549_2 := hx1549_2
         have hw1549_1 := hx1549_1
         have hw1549_0 := hx1549_0
         obtain rfl : ad1542 = ad1549 := (by injection e1549)
         replace hx1549_0 := cC_ HB hx1549_0
         replace hx1549_1 := cC_ HB hx1549_1
         replace hx1549_2 := cC_ HB hx1549_2
         replace hx1549_3 := cC_ HB hx1549_3
         replace hx1549_4 := cC_ HB hx1549_4
         replace p1549 := eq_true p1549
         replace q1549 := eq_true q1549
         refine start_ (n := 9) (S := fun w' => w'.cell? ⟨gb1536, 0, none⟩ = some (u1537000) ∧ w'.cell? (ad1542.add ((x8_1).toNat * 5)) = some (.int .i64 ((rd_T48 l0 x8_1).f0)) ∧ w'.cell? ⟨(ad1542.add ((x8_1).toNat * 5)).block, (ad1542.add ((x8_1).toNat * 5)).off + 1, none⟩ = some (.int .i64 ((rd_T48 l0 x8_1).f1)) ∧ w'.cell? ⟨(ad1542.add ((x8_1).toNat * 5)).block, (ad1542.add ((x8_1).toNat * 5)).off + 2, none⟩ = some (.int .i64 ((rd_T48 l0 x8_1).f2)) ∧ w'.cell? ⟨(ad1542.add ((x8_1).toNat * 5)).block, (ad1542.add ((x8_1).toNat * 5)).off + 3, none⟩ = some (.int .i64 ((rd_T48 l0 x8_1).f3)) ∧ w'.cell? ⟨(ad1542.add ((x8_1).toNat * 5)).block, (ad1542.add ((x8_1).toNat * 5)).off + 4, none⟩ = some (.int .i64 ((rd_T48 l0 x8_1).f4))) (ds := [8]) (demurrageref21_Sums.ups 9 0) (by kernel_rfl) rfl rfl ⟨(blk_cell BK1536.out 0).trans rfl, ((HB.out.cell (World.block_lt_of_cell? w _ hw1549_0)).trans hw1549_0), ((HB.out.cell (World.block_lt_of_cell? w _ hw1549_1)).trans hw1549_1), ((HB.out.cell (World.block_lt_of_cell? w _ hw1549_2)).trans hw1549_2), ((HB.out.cell (World.block_lt_of_cell? w _ hw1549_3)).trans hw1549_3), ((HB.out.cell (World.block_lt_of_cell? w _ hw1549_4)).trans hw1549_4)⟩ (fun hHeld => ?_); refine with_tabW demurrageref21_Sums.tab11 demurrageref21_Sums.bits11 (fun HT_ HW_ => ?_)
         generalize w38.drew = w39 at HO_1536000 HO_1537000 HO_1538000 HO1545 HO1548 BK1534 BK1535 BK1536 BK1537 BK1538 HB hx1549_0 hx1549_1 hx1549_2 hx1549_3 hx1549_4 hHeld ⊢
         refine pure_ (i := 1) (N := some 49) (v := ?_) (a' := ?_) (demurrageref21_Sums.ups 9 2) rfl rfl (any_of HT_.out (by kernel_rfl)) (fun _ _ _ h => h) (Or.inl ⟨by rfl, ?_⟩) ?_ ?_
         rotate_left
         ·intro w'
          go_simp
          with_reducible rfl
         rotate_left
         ·simp only [Act.put, sT_, sZ_, sS_, i64_w, i32_w]
          rfl
         refine pure_ (i := 2) (N := some 50) (v := ?_) (a' := ?_) (demurrageref21_Sums.ups 9 6) rfl rfl (any_of HT_.out (by kernel_rfl)) (fun _ _ _ h => h) (Or.inl ⟨by rfl, ?_⟩) ?_ ?_
         rotate_left
         ·intro w'
          go_simp
          with_reducible rfl
         rotate_left
         ·simp only [Act.put, sT_, sZ_, sS_, i64_w, i32_w]
          rfl
         refine pure_ (i := 3) (N := some 51) (v := ?_) (a' := ?_) (demurrageref21_Sums.ups 9 14) rfl rfl (any_of HT_.out (by kernel_rfl)) (fun _ _ _ h => h) (Or.inl ⟨by rfl, ?_⟩) ?_ ?_
         rotate_left
         ·intro w'
          go_simp
          with_reducible rfl
         rotate_left
         ·simp only [Act.put, sT_, sZ_, sS_, i64_w, i32_w]
          rfl
         refine pure_ (i := 4) (N := some 52) (v := ?_) (a' := ?_) (demurrageref21_Sums.ups 9 30) rfl rfl (any_of HT_.out (by kernel_rfl)) (fun _ _ _ h => h) (Or.inl ⟨by rfl, ?_⟩) ?_ ?_
         rotate_left
         ·intro w'
          go_simp
          with_reducible rfl
         rotate_left
         ·simp only [Act.put, sT_, sZ_, sS_, i64_w, i32_w]
          rfl
         refine take_ (i := 0) (N := some 48) (v := ?_) (a' := ?_) (demurrageref21_Sums.ups 9 31) rfl rfl (take_ofW HT_.out HW_.out (by kernel_rfl)) (fun _ _ _ h => h) (Or.inl ⟨by rfl, ?_⟩) hHeld ?_ ?_
         rotate_left
         ·rintro w' ⟨s0, s1, s2, s3, s4, s5⟩
          go_simp
          with_reducible rfl
         rotate_left
         ·simp only [Act.put, sT_, sZ_, sS_, i64_w, i32_w]
          rfl
         refine take_ (i := 5) (N := some 53) (v := ?_) (a' := ?_) (demurrageref21_Sums.ups 9 63) rfl rfl (take_ofW HT_.out HW_.out (by kernel_rfl)) (fun _ _ _ h => h) (Or.inl ⟨by rfl, ?_⟩) hHeld ?_ ?_
         rotate_left
         ·rintro w' ⟨s0, s1, s2, s3, s4, s5⟩
          go_simp
          with_reducible rfl
         rotate_left
         ·simp only [Act.put, sT_, sZ_, sS_, i64_w, i32_w]
          rfl
         refine one_ (i := 6) (N := some 54) (demurrageref21_Sums.ups 9 127) rfl rfl (one_of HT_.out (by kernel_rfl)) (by decide) (fun K hK => ?_)
         refine goes_ Try.func49 (by kernel_rfl) rfl #[.int .i64 ((rd_T48 l0 x8_1).f2)] (by rfl) rfl rfl (by (try simp only [mT_, mC_, mN_]); first | done | rfl) ?_
         with_reducible refine (demurrageref01_From.calls kj12 ((rd_T48 l0 x8_1).f2) t1550 _ A27.out).mono ?_
         rintro e w40 ⟨v1551, rfl, ho0, hb⟩
         refine ⟨_, rfl, ?_⟩
         have HO1552 := aA_ (Kd.R_lower (Kd.R_new' (Kd.R_new' (Kd.R_new' (Kd.R_new' (Kd.R_new' ho0 (Kd.R_lt HO_1536000.out)) (Kd.R_lt HO_1537000.out)) (Kd.R_lt HO_1538000.out)) (Kd.R_lt HO1545.out)) (Kd.R_lt HO1548.out)) (below_size (by repeat (with_reducible first | exact HB.out | apply bA_ | apply bN_ | apply bD_ | refine bS_ ?_ GE1534.out | refine bS_ ?_ GE1535.out | refine bS_ ?_ GE1536.out | refine bS_ ?_ GE1537.out | refine bS_ ?_ GE1538.out))))
         replace HO_1536000 := aA_ (Kd.R_elder' HO_1536000.out (Kd.R_base ho0) hb)
         replace HO_1537000 := aA_ (Kd.R_elder' HO_1537000.out (Kd.R_base ho0) hb)
         replace HO_1538000 := aA_ (Kd.R_elder' HO_1538000.out (Kd.R_base ho0) hb)
         replace HO1545 := aA_ (Kd.R_elder' HO1545.out (Kd.R_base ho0) hb)
         replace HO1548 := aA_ (Kd.R_elder' HO1548.out (Kd.R_base ho0) hb)
         replace BK1534 := bK_ BK1534 hb
         replace BK1535 := bK_ BK1535 hb
         replace BK1536 := bK_ BK1536 hb
         replace BK1537 := bK_ BK1537 hb
         replace BK1538 := bK_ BK1538 hb
         replace HB := bB_ (by repeat (with_reducible first | exact HB.out | apply bA_ | apply bN_ | apply bD_ | refine bS_ ?_ GE1534.out | refine bS_ ?_ GE1535.out | refine bS_ ?_ GE1536.out | refine bS_ ?_ GE1537.out | refine bS_ ?_ GE1538.out)) hb
         (try clear hb)
         (try clear hb2)
         (try clear hk)
         (try clear hi)
         (try clear ho0)
         obtain ⟨Ao41, co41, eo41⟩ := Kd.R_slice HO_1537000.out
         (first | subst eo41 | (injection eo41 with f1_ f2_ f3_; have f4_ := f1_.symm; have f5_ := f3_.symm; clear f1_ f2_ f3_; subst f4_; subst f5_))
         obtain ⟨Ao42, co42, eo42⟩ := Kd.R_slice HO1552.out
         (first | subst eo42 | (injection eo42 with f1_ f2_ f3_; have f4_ := f1_.symm; have f5_ := f3_.symm; clear f1_ f2_ f3_; subst f4_; subst f5_))
         refine hK.out _ _ ⟨(blk_cell BK1536.out 0).trans rfl, ((HB.out.cell (World.block_lt_of_cell? w _ hw1549_0)).trans hw1549_0), ((HB.out.cell (World.block_lt_of_cell? w _ hw1549_1)).trans hw1549_1), ((HB.out.cell (World.block_lt_of_cell? w _ hw1549_2)).trans hw1549_2), ((HB.out.cell (World.block_lt_of_cell? w _ hw1549_3)).trans hw1549_3), ((HB.out.cell (World.block_lt_of_cell? w _ hw1549_4)).trans hw1549_4)⟩ (fun hHeld => ?_)
         clear hK K
         refine norm_ (by show Act.put _ (some 54) _ = _; simp only [Act.put, sT_, sZ_, sS_, i64_w, i32_w] <;> rfl) ?_
         refine one_ (i := 7) (N := some 55) (demurrageref21_Sums.ups 9 255) rfl rfl (one_of HT_.out (by kernel_rfl)) (by decide) (fun K hK => ?_)
         refine goes_ Try.func48 (by kernel_rfl) rfl #[.agg #[.slice Ao41 x1537000_1.length co41], .agg #[.slice Ao42 t1550.length co42]] (by rfl) rfl rfl (by (try simp only [mT_, mC_, mN_]); first | done | rfl) ?_
         with_reducible refine (demurrageref01_Plus.calls kj12 _ _ x1537000_1 _ _ t1550 t1553 _ ?side1 ?side2 ?side3 ?side4 A28.out).mono ?_
         (case side1 => repeat (first | exact (Kd.R_reads' HO_1537000.out).2.2 | (with_reducible first | refine Kd.C_alloc ?_ _ | refine Kd.C_drewN ?_ _ | refine Kd.C_drew ?_)))
         (case side2 => exact (Kd.R_reads' HO_1537000.out).2.1)
         (case side3 => repeat (first | exact (Kd.R_reads' HO1552.out).2.2 | (with_reducible first | refine Kd.C_alloc ?_ _ | refine Kd.C_drewN ?_ _ | refine Kd.C_drew ?_)))
         (case side4 => exact (Kd.R_reads' HO1552.out).2.1)
         rintro e w43 ⟨v1554, rfl, ho0, hb⟩
         refine ⟨_, rfl, ?_⟩
         have HO1555 := aA_ (Kd.R_lower (Kd.R_new' (Kd.R_new' (Kd.R_new' (Kd.R_new' (Kd.R_new' (Kd.R_new' ho0 (Kd.R_lt HO_1536000.out)) (Kd.R_lt HO_1537000.out)) (Kd.R_lt HO_1538000.out)) (Kd.R_lt HO1545.out)) (Kd.R_lt HO1548.out)) (Kd.R_lt HO1552.out)) (below_size (by repeat (with_reducible first | exact HB.out | apply bA_ | apply bN_ | apply bD_ | refine bS_ ?_ GE1534.out | refine bS_ ?_ GE1535.out | refine bS_ ?_ GE1536.out | refine bS_ ?_ GE1537.out | refine bS_ ?_ GE1538.out))))
         replace HO_1536000 := aA_ (Kd.R_elder' HO_1536000.out (Kd.R_base ho0) hb)
         replace HO_1537000 := aA_ (Kd.R_elder' HO_1537000.out (Kd.R_base ho0) hb)
         replace HO_1538000 := aA_ (Kd.R_elder' HO_1538000.out (Kd.R_base ho0) hb)
         replace HO1545 := aA_ (Kd.R_elder' HO1545.out (Kd.R_base ho0) hb)
         replace HO1548 := aA_ (Kd.R_elder' HO1548.out (Kd.R_base ho0) hb)
         replace HO1552 := aA_ (Kd.R_elder' HO1552.out (Kd.R_base ho0) hb)
         replace BK1534 := bK_ BK1534 hb
         replace BK1535 := bK_ BK1535 hb
         replace BK1536 := bK_ BK1536 hb
         replace BK1537 := bK_ BK1537 hb
         replace BK1538 := bK_ BK1538 hb
         replace HB := bB_ (by repeat (with_reducible first | exact HB.out | apply bA_ | apply bN_ | apply bD_ | refine bS_ ?_ GE1534.out | refine bS_ ?_ GE1535.out | refine bS_ ?_ GE1536.out | refine bS_ ?_ GE1537.out | refine bS_ ?_ GE1538.out)) hb
         (try clear hb)
         (try clear hb2)
         (try clear hk)
         (try clear hi)
         (try clear ho0)
         obtain ⟨Ao44, co44, eo44⟩ := Kd.R_slice HO1555.out
         (first | subst eo44 | (injection eo44 with f1_ f2_ f3_; have f4_ := f1_.symm; have f5_ := f3_.symm; clear f1_ f2_ f3_; subst f4_; subst f5_))
         refine hK.out _ _ ⟨(blk_cell BK1536.out 0).trans rfl, ((HB.out.cell (World.block_lt_of_cell? w _ hw1549_0)).trans hw1549_0), ((HB.out.cell (World.block_lt_of_cell? w _ hw1549_1)).trans hw1549_1), ((HB.out.cell (World.block_lt_of_cell? w _ hw1549_2)).trans hw1549_2), ((HB.out.cell (World.block_lt_of_cell? w _ hw1549_3)).trans hw1549_3), ((HB.out.cell (World.block_lt_of_cell? w _ hw1549_4)).trans hw1549_4)⟩ (fun hHeld => ?_)
         clear hK K
         refine norm_ (by show Act.put _ (some 55) _ = _; simp only [Act.put, sT_, sZ_, sS_, i64_w, i32_w] <;> rfl) ?_
         refine last_ (i := 8) (N := none) (demurrageref21_Sums.ups 9 511) rfl rfl (one_of HT_.out (by kernel_rfl)) (by decide) (fun K hK => ?_)
         have hs45 : w43.cell? ⟨gb1536, 0, none⟩ = some (.slice Ao41 x1537000_1.length co41) := (blk_cell BK1536.out 0).trans rfl
         have hfs45 := blk_frozen BK1536.out 0
         have hns45_0 := NB1534_1536.out
         have hns45_1 := NB1535_1536.out
         have hns45_3 := NB1537_1536.out
         have hns45_4 := NB1538_1536.out
         have hms45_0 := NB1536_1534.out
         have hms45_1 := NB1536_1535.out
         have hms45_3 := NB1536_1537.out
         have hms45_4 := NB1536_1538.out
         refine skip_ (w1 := ?_) (by rfl) rfl ?_ ?_
         rotate_left
         ·go_simp
          rfl
         refine hK.out _ _ ?_
         clear hK K
         refine done_ (done_of HT_.out (by kernel_rfl)) ?_
         try go_wp2
         have n0_ : Aside0 (Kd.R (Kd.int .i64) 3 (w43.setCell ⟨gb1536, 0, none⟩ (.slice Ao44 t1553.length co44)) w.heap.size (fun k_ => some k_ ≠ (.slice Ao41 x1537000_1.length co41 : Value).ownBlock ∧ some k_ ≠ (u1538000 : Value).ownBlock ∧ some k_ ≠ (.slice Ao34 t1543.length co34 : Value).ownBlock ∧ some k_ ≠ (.slice Ao36 t1546.length co36 : Value).ownBlock ∧ some k_ ≠ (.slice Ao42 t1550.length co42 : Value).ownBlock ∧ some k_ ≠ (.slice Ao44 t1553.length co44 : Value).ownBlock) (.slice Ao33 x1536000_1.length co33) x1536000_1) := ⟨by (with_reducible repeat (first | apply Kd.R_alloc | apply Kd.R_drewN | apply Kd.R_drew)); exact Kd.R_mono (Kd.R_far (p := ⟨gb1536, 0, none⟩) (Kd.R_types HO_1536000.out BK1536.out (by decide)) (fun _ hk => hk.2) (.slice Ao44 t1553.length co44)) (fun _ hk => (And.intro (hk.1.1.1.1) ((And.intro (hk.1.1.1.2.1) ((And.intro (hk.1.1.1.2.2.1) ((And.intro (hk.1.1.1.2.2.2) ((And.intro (hk.1.1.2) (hk.1.2)))))))))))⟩
         have n1_ : Aside0 (Kd.R (Kd.int .i64) 3 (w43.setCell ⟨gb1536, 0, none⟩ (.slice Ao44 t1553.length co44)) w.heap.size (fun k_ => some k_ ≠ (.slice Ao33 x1536000_1.length co33 : Value).ownBlock ∧ some k_ ≠ (u1538000 : Value).ownBlock ∧ some k_ ≠ (.slice Ao34 t1543.length co34 : Value).ownBlock ∧ some k_ ≠ (.slice Ao36 t1546.length co36 : Value).ownBlock ∧ some k_ ≠ (.slice Ao42 t1550.length co42 : Value).ownBlock ∧ some k_ ≠ (.slice Ao44 t1553.length co44 : Value).ownBlock) (.slice Ao41 x1537000_1.length co41) x1537000_1) := ⟨by (with_reducible repeat (first | apply Kd.R_alloc | apply Kd.R_drewN | apply Kd.R_drew)); exact Kd.R_mono (Kd.R_far (p := ⟨gb1536, 0, none⟩) (Kd.R_types HO_1537000.out BK1536.out (by decide)) (fun _ hk => hk.2) (.slice Ao44 t1553.length co44)) (fun _ hk => (And.intro (hk.1.1.1.1) ((And.intro (hk.1.1.1.2.1) ((And.intro (hk.1.1.1.2.2.1) ((And.intro (hk.1.1.1.2.2.2) ((And.intro (hk.1.1.2) (hk.1.2)))))))))))⟩
         have n2_ : Aside0 (Kd.R (Kd.int .i64) 3 (w43.setCell ⟨gb1536, 0, none⟩ (.slice Ao44 t1553.length co44)) w.heap.size (fun k_ => some k_ ≠ (.slice Ao33 x1536000_1.length co33 : Value).ownBlock ∧ some k_ ≠ (.slice Ao41 x1537000_1.length co41 : Value).ownBlock ∧ some k_ ≠ (.slice Ao34 t1543.length co34 : Value).ownBlock ∧ some k_ ≠ (.slice Ao36 t1546.length co36 : Value).ownBlock ∧ some k_ ≠ (.slice Ao42 t1550.length co42 : Value).ownBlock ∧ some k_ ≠ (.slice Ao44 t1553.length co44 : Value).ownBlock) u1538000 x1538000_1) := ⟨by (with_reducible repeat (first | apply Kd.R_alloc | apply Kd.R_drewN | apply Kd.R_drew)); exact Kd.R_mono (Kd.R_far (p := ⟨gb1536, 0, none⟩) (Kd.R_types HO_1538000.out BK1536.out (by decide)) (fun _ hk => hk.2) (.slice Ao44 t1553.length co44)) (fun _ hk => (And.intro (hk.1.1.1.1) ((And.intro (hk.1.1.1.2.1) ((And.intro (hk.1.1.1.2.2.1) ((And.intro (hk.1.1.1.2.2.2) ((And.intro (hk.1.1.2) (hk.1.2)))))))))))⟩
         have n3_ : Aside0 (Kd.R (Kd.int .i64) 3 (w43.setCell ⟨gb1536, 0, none⟩ (.slice Ao44 t1553.length co44)) w.heap.size (fun k_ => some k_ ≠ (.slice Ao33 x1536000_1.length co33 : Value).ownBlock ∧ some k_ ≠ (.slice Ao41 x1537000_1.length co41 : Value).ownBlock ∧ some k_ ≠ (u1538000 : Value).ownBlock ∧ some k_ ≠ (.slice Ao36 t1546.length co36 : Value).ownBlock ∧ some k_ ≠ (.slice Ao42 t1550.length co42 : Value).ownBlock ∧ some k_ ≠ (.slice Ao44 t1553.length co44 : Value).ownBlock) (.slice Ao34 t1543.length co34) t1543) := ⟨by (with_reducible repeat (first | apply Kd.R_alloc | apply Kd.R_drewN | apply Kd.R_drew)); exact Kd.R_mono (Kd.R_far (p := ⟨gb1536, 0, none⟩) (Kd.R_types HO1545.out BK1536.out (by decide)) (fun _ hk => hk.2) (.slice Ao44 t1553.length co44)) (fun _ hk => (And.intro (hk.1.1.1.1) ((And.intro (hk.1.1.1.2.1) ((And.intro (hk.1.1.1.2.2.1) ((And.intro (hk.1.1.1.2.2.2) ((And.intro (hk.1.1.2) (hk.1.2)))))))))))⟩
         have n4_ : Aside0 (Kd.R (Kd.int .i64) 3 (w43.setCell ⟨gb1536, 0, none⟩ (.slice Ao44 t1553.length co44)) w.heap.size (fun k_ => some k_ ≠ (.slice Ao33 x1536000_1.length co33 : Value).ownBlock ∧ some k_ ≠ (.slice Ao41 x1537000_1.length co41 : Value).ownBlock ∧ some k_ ≠ (u1538000 : Value).ownBlock ∧ some k_ ≠ (.slice Ao34 t1543.length co34 : Value).ownBlock ∧ some k_ ≠ (.slice Ao42 t1550.length co42 : Value).ownBlock ∧ some k_ ≠ (.slice Ao44 t1553.length co44 : Value).ownBlock) (.slice Ao36 t1546.length co36) t1546) := ⟨by (with_reducible repeat (first | apply Kd.R_alloc | apply Kd.R_drewN | apply Kd.R_drew)); exact Kd.R_mono (Kd.R_far (p := ⟨gb1536, 0, none⟩) (Kd.R_types HO1548.out BK1536.out (by decide)) (fun _ hk => hk.2) (.slice Ao44 t1553.length co44)) (fun _ hk => (And.intro (hk.1.1.1.1) ((And.intro (hk.1.1.1.2.1) ((And.intro (hk.1.1.1.2.2.1) ((And.intro (hk.1.1.1.2.2.2) ((And.intro (hk.1.1.2) (hk.1.2)))))))))))⟩
         have n5_ : Aside0 (Kd.R (Kd.int .i64) 3 (w43.setCell ⟨gb1536, 0, none⟩ (.slice Ao44 t1553.length co44)) w.heap.size (fun k_ => some k_ ≠ (.slice Ao33 x1536000_1.length co33 : Value).ownBlock ∧ some k_ ≠ (.slice Ao41 x1537000_1.length co41 : Value).ownBlock ∧ some k_ ≠ (u1538000 : Value).ownBlock ∧ some k_ ≠ (.slice Ao34 t1543.length co34 : Value).ownBlock ∧ some k_ ≠ (.slice Ao36 t1546.length co36 : Value).ownBlock ∧ some k_ ≠ (.slice Ao44 t1553.length co44 : Value).ownBlock) (.slice Ao42 t1550.length co42) t1550) := ⟨by (with_reducible repeat (first | apply Kd.R_alloc | apply Kd.R_drewN | apply Kd.R_drew)); exact Kd.R_mono (Kd.R_far (p := ⟨gb1536, 0, none⟩) (Kd.R_types HO1552.out BK1536.out (by decide)) (fun _ hk => hk.2) (.slice Ao44 t1553.length co44)) (fun _ hk => (And.intro (hk.1.1.1.1.1.1.2) ((And.intro (hk.1.1.1.1.1.2) ((And.intro (hk.1.1.1.1.2) ((And.intro (hk.1.1.1.2) ((And.intro (hk.1.1.2) (hk.1.2)))))))))))⟩
         have n6_ : Aside0 (Kd.R (Kd.int .i64) 3 (w43.setCell ⟨gb1536, 0, none⟩ (.slice Ao44 t1553.length co44)) w.heap.size (fun k_ => some k_ ≠ (.slice Ao33 x1536000_1.length co33 : Value).ownBlock ∧ some k_ ≠ (.slice Ao41 x1537000_1.length co41 : Value).ownBlock ∧ some k_ ≠ (u1538000 : Value).ownBlock ∧ some k_ ≠ (.slice Ao34 t1543.length co34 : Value).ownBlock ∧ some k_ ≠ (.slice Ao36 t1546.length co36 : Value).ownBlock ∧ some k_ ≠ (.slice Ao42 t1550.length co42 : Value).ownBlock) (.slice Ao44 t1553.length co44) t1553) := ⟨by (with_reducible repeat (first | apply Kd.R_alloc | apply Kd.R_drewN | apply Kd.R_drew)); exact Kd.R_mono (Kd.R_far (p := ⟨gb1536, 0, none⟩) (Kd.R_types HO1555.out BK1536.out (by decide)) (fun _ hk => hk.2) (.slice Ao44 t1553.length co44)) (fun _ hk => (And.intro (hk.1.1.1.1.1.1.2) ((And.intro (hk.1.1.1.1.1.2) ((And.intro (hk.1.1.1.1.2) ((And.intro (hk.1.1.1.2) ((And.intro (hk.1.1.2) (hk.1.2)))))))))))⟩
         have n7_ : Aside0 ((w43.setCell ⟨gb1536, 0, none⟩ (.slice Ao44 t1553.length co44)).heap[gb1534]? = some (.cells #[.int .i64 x1535000_1, .int .i64 x1535001_1, .int .i64 x1535002_1, .int .i64 x1535003_1, .int .i64 x1535004_1] 48 (0, 0))) := ⟨by refine blk_far ?_ NB1534_1536.out _; exact BK1534.out⟩
         have n8_ : Aside0 ((w43.setCell ⟨gb1536, 0, none⟩ (.slice Ao44 t1553.length co44)).heap[gb1535]? = some (.cells #[.slice Ao36 t1546.length co36] 98 (0, 0))) := ⟨by refine blk_far ?_ NB1535_1536.out _; exact BK1535.out⟩
         have n9_ : Aside0 ((w43.setCell ⟨gb1536, 0, none⟩ (.slice Ao44 t1553.length co44)).heap[gb1536]? = some (.cells #[.slice Ao44 t1553.length co44] 98 (0, 0))) := ⟨by refine blk_put (cs := #[.slice Ao41 x1537000_1.length co41]) ?_ 0 _ rfl; exact BK1536.out⟩
         have n10_ : Aside0 ((w43.setCell ⟨gb1536, 0, none⟩ (.slice Ao44 t1553.length co44)).heap[gb1537]? = some (.cells #[u1538000] 98 (0, 0))) := ⟨by refine blk_far ?_ NB1537_1536.out _; exact BK1537.out⟩
         have n11_ : Aside0 ((w43.setCell ⟨gb1536, 0, none⟩ (.slice Ao44 t1553.length co44)).heap[gb1538]? = some (.cells #[.int .i64 0, .int .i64 x1539001_1, .int .i64 x1539002_1, .int .i64 x1539003_1, .int .i64 0] 48 (0, 0))) := ⟨by refine blk_far ?_ NB1538_1536.out _; exact BK1538.out⟩
         have n12_ : Aside0 (Below w.heap.size w (w43.setCell ⟨gb1536, 0, none⟩ (.slice Ao44 t1553.length co44))) := ⟨by repeat (with_reducible first | exact HB.out | apply bA_ | apply bN_ | apply bD_ | refine bS_ ?_ GE1534.out | refine bS_ ?_ GE1535.out | refine bS_ ?_ GE1536.out | refine bS_ ?_ GE1537.out | refine bS_ ?_ GE1538.out)⟩
         (try clear HO_1536000)
         (try clear HO_1537000)
         (try clear HO_1538000)
         (try clear HO1545)
         (try clear HO1548)
         (try clear HO1552)
         (try clear HO1555)
         (try clear BK1534)
         (try clear BK1535)
         (try clear BK1536)
         (try clear BK1537)
         (try clear BK1538)
         (try clear HB)
         generalize (w43.setCell ⟨gb1536, 0, none⟩ (.slice Ao44 t1553.length co44)) = w46 at n0_ n1_ n2_ n3_ n4_ n5_ n6_ n7_ n8_ n9_ n10_ n11_ n12_ ⊢
         have HO_1536000 := n0_
         have HO_1537000 := n1_
         have HO_1538000 := n2_
         have HO1545 := n3_
         have HO1548 := n4_
         have HO1552 := n5_
         have HO1555 := n6_
         have BK1534 := n7_
         have BK1535 := n8_
         have BK1536 := n9_
         have BK1537 := n10_
         have BK1538 := n11_
         have HB := n12_
         clear n0_ n1_ n2_ n3_ n4_ n5_ n6_ n7_ n8_ n9_ n10_ n11_ n12_
         replace HO_1536000 := aA_ (Kd.R_drew HO_1536000.out)
         replace HO_1537000 := aA_ (Kd.R_drew HO_1537000.out)
         replace HO_1538000 := aA_ (Kd.R_drew HO_1538000.out)
         replace HO1545 := aA_ (Kd.R_drew HO1545.out)
         replace HO1548 := aA_ (Kd.R_drew HO1548.out)
         replace HO1552 := aA_ (Kd.R_drew HO1552.out)
         replace HO1555 := aA_ (Kd.R_drew HO1555.out)
         replace BK1534 := aA_ (blk_drew BK1534.out)
         replace BK1535 := aA_ (blk_drew BK1535.out)
         replace BK1536 := aA_ (blk_drew BK1536.out)
         replace BK1537 := aA_ (blk_drew BK1537.out)
         replace BK1538 := aA_ (blk_drew BK1538.out)
         replace HB := aA_ (below_drew1 HB.out)
         have p1556 : 0 ≤ (x8_1 : Int) := of_decide_eq_true (by first | (with_reducible assumption) | assumption)
         have q1556 : x8_1 < (l0.length : Int) := of_decide_eq_true (by first | (with_reducible assumption) | assumption)
         obtain ⟨ad1556, e1556, hx1556_0, hx1556_1, hx1556_2, hx1556_3, hx1556_4⟩ := at_T48 HR0.out x8_1 p1556 q1556
         have hw1556_4 := hx1556_4
         have hw1556_3 := hx1556_3
         have hw1556_2 := hx1556_2
         have hw1556_1 := hx1556_1
         have hw1556_0 := hx1556_0
         obtain rfl : ad1542 = ad1556 := (by injection e1556)
         replace hx1556_0 := cC_ HB hx1556_0
         replace hx1556_1 := cC_ HB hx1556_1
         replace hx1556_2 := cC_ HB hx1556_2
         replace hx1556_3 := cC_ HB hx1556_3
         replace hx1556_4 := cC_ HB hx1556_4
         replace p1556 := eq_true p1556
         replace q1556 := eq_true q1556
         refine start_ (n := 9) (S := fun w' => w'.cell? ⟨gb1537, 0, none⟩ = some (u1538000) ∧ w'.cell? (ad1542.add ((x8_1).toNat * 5)) = some (.int .i64 ((rd_T48 l0 x8_1).f0)) ∧ w'.cell? ⟨(ad1542.add ((x8_1).toNat * 5)).block, (ad1542.add ((x8_1).toNat * 5)).off + 1, none⟩ = some (.int .i64 ((rd_T48 l0 x8_1).f1)) ∧ w'.cell? ⟨(ad1542.add ((x8_1).toNat * 5)).block, (ad1542.add ((x8_1).toNat * 5)).off + 2, none⟩ = some (.int .i64 ((rd_T48 l0 x8_1).f2)) ∧ w'.cell? ⟨(ad1542.add ((x8_1).toNat * 5)).block, (ad1542.add ((x8_1).toNat * 5)).off + 3, none⟩ = some (.int .i64 ((rd_T48 l0 x8_1).f3)) ∧ w'.cell? ⟨(ad1542.add ((x8_1).toNat * 5)).block, (ad1542.add ((x8_1).toNat * 5)).off + 4, none⟩ = some (.int .i64 ((rd_T48 l0 x8_1).f4))) (ds := [8]) (demurrageref21_Sums.ups 9 0) (by kernel_rfl) rfl rfl ⟨(blk_cell BK1537.out 0).trans rfl, ((HB.out.cell (World.block_lt_of_cell? w _ hw1556_0)).trans hw1556_0), ((HB.out.cell (World.block_lt_of_cell? w _ hw1556_1)).trans hw1556_1), ((HB.out.cell (World.block_lt_of_cell? w _ hw1556_2)).trans hw1556_2), ((HB.out.cell (World.block_lt_of_cell? w _ hw1556_3)).trans hw1556_3), ((HB.out.cell (World.block_lt_of_cell? w _ hw1556_4)).trans hw1556_4)⟩ (fun hHeld => ?_); refine with_tabW demurrageref21_Sums.tab12 demurrageref21_Sums.bits12 (fun HT_ HW_ => ?_)
         generalize w46.drew = w47 at HO_1536000 HO_1537000 HO_1538000 HO1545 HO1548 HO1552 HO1555 BK1534 BK1535 BK1536 BK1537 BK1538 HB hx1556_0 hx1556_1 hx1556_2 hx1556_3 hx1556_4 hHeld ⊢
         refine pure_ (i := 1) (N := some 57) (v := ?_) (a' := ?_) (demurrageref21_Sums.ups 9 2) rfl rfl (any_of HT_.out (by kernel_rfl)) (fun _ _ _ h => h) (Or.inl ⟨by rfl, ?_⟩) ?_ ?_
         rotate_left
         ·intro w'
          go_simp
          with_reducible rfl
         rotate_left
         ·simp only [Act.put, sT_, sZ_, sS_, i64_w, i32_w]
          rfl
         refine pure_ (i := 2) (N := some 58) (v := ?_) (a' := ?_) (demurrageref21_Sums.ups 9 6) rfl rfl (any_of HT_.out (by kernel_rfl)) (fun _ _ _ h => h) (Or.inl ⟨by rfl, ?_⟩) ?_ ?_
         rotate_left
         ·intro w'
          go_simp
          with_reducible rfl
         rotate_left
         ·simp only [Act.put, sT_, sZ_, sS_, i64_w, i32_w]
          rfl
         refine pure_ (i := 3) (N := some 59) (v := ?_) (a' := ?_) (demurrageref21_Sums.ups 9 14) rfl rfl (any_of HT_.out (by kernel_rfl)) (fun _ _ _ h => h) (Or.inl ⟨by rfl, ?_⟩) ?_ ?_
         rotate_left
         ·intro w'
          go_simp
          with_reducible rfl
         rotate_left
         ·simp only [Act.put, sT_, sZ_, sS_, i64_w, i32_w]
          rfl
         refine pure_ (i := 4) (N := some 60) (v := ?_) (a' := ?_) (demurrageref21_Sums.ups 9 30) rfl rfl (any_of HT_.out (by kernel_rfl)) (fun _ _ _ h => h) (Or.inl ⟨by rfl, ?_⟩) ?_ ?_
         rotate_left
         ·intro w'
          go_simp
          with_reducible rfl
         rotate_left
         ·simp only [Act.put, sT_, sZ_, sS_, i64_w, i32_w]
          rfl
         refine take_ (i := 0) (N := some 56) (v := ?_) (a' := ?_) (demurrageref21_Sums.ups 9 31) rfl rfl (take_ofW HT_.out HW_.out (by kernel_rfl)) (fun _ _ _ h => h) (Or.inl ⟨by rfl, ?_⟩) hHeld ?_ ?_
         rotate_left
         ·rintro w' ⟨s0, s1, s2, s3, s4, s5⟩
          go_simp
          with_reducible rfl
         rotate_left
         ·simp only [Act.put, sT_, sZ_, sS_, i64_w, i32_w]
          rfl
         refine take_ (i := 5) (N := some 61) (v := ?_) (a' := ?_) (demurrageref21_Sums.ups 9 63) rfl rfl (take_ofW HT_.out HW_.out (by kernel_rfl)) (fun _ _ _ h => h) (Or.inl ⟨by rfl, ?_⟩) hHeld ?_ ?_
         rotate_left
         ·rintro w' ⟨s0, s1, s2, s3, s4, s5⟩
          go_simp
          with_reducible rfl
         rotate_left
         ·simp only [Act.put, sT_, sZ_, sS_, i64_w, i32_w]
          rfl
         refine one_ (i := 6) (N := some 62) (demurrageref21_Sums.ups 9 127) rfl rfl (one_of HT_.out (by kernel_rfl)) (by decide) (fun K hK => ?_)
         refine goes_ Try.func49 (by kernel_rfl) rfl #[.int .i64 ((rd_T48 l0 x8_1).f3)] (by rfl) rfl rfl (by (try simp only [mT_, mC_, mN_]); first | done | rfl) ?_
         with_reducible refine (demurrageref01_From.calls kj12 ((rd_T48 l0 x8_1).f3) t1557 _ A29.out).mono ?_
         rintro e w48 ⟨v1558, rfl, ho0, hb⟩
         refine ⟨_, rfl, ?_⟩
         have HO1559 := aA_ (Kd.R_lower (Kd.R_new' (Kd.R_new' (Kd.R_new' (Kd.R_new' (Kd.R_new' (Kd.R_new' (Kd.R_new' ho0 (Kd.R_lt HO_1536000.out)) (Kd.R_lt HO_1537000.out)) (Kd.R_lt HO_1538000.out)) (Kd.R_lt HO1545.out)) (Kd.R_lt HO1548.out)) (Kd.R_lt HO1552.out)) (Kd.R_lt HO1555.out)) (below_size (by repeat (with_reducible first | exact HB.out | apply bA_ | apply bN_ | apply bD_ | refine bS_ ?_ GE1534.out | refine bS_ ?_ GE1535.out | refine bS_ ?_ GE1536.out | refine bS_ ?_ GE1537.out | refine bS_ ?_ GE1538.out))))
         replace HO_1536000 := aA_ (Kd.R_elder' HO_1536000.out (Kd.R_base ho0) hb)
         replace HO_1537000 := aA_ (Kd.R_elder' HO_1537000.out (Kd.R_base ho0) hb)
         replace HO_1538000 := aA_ (Kd.R_elder' HO_1538000.out (Kd.R_base ho0) hb)
         replace HO1545 := aA_ (Kd.R_elder' HO1545.out (Kd.R_base ho0) hb)
         replace HO1548 := aA_ (Kd.R_elder' HO1548.out (Kd.R_base ho0) hb)
         replace HO1552 := aA_ (Kd.R_elder' HO1552.out (Kd.R_base ho0) hb)
         replace HO1555 := aA_ (Kd.R_elder' HO1555.out (Kd.R_base ho0) hb)
         replace BK1534 := bK_ BK1534 hb
         replace BK1535 := bK_ BK1535 hb
         replace BK1536 := bK_ BK1536 hb
         replace BK1537 := bK_ BK1537 hb
         replace BK1538 := bK_ BK1538 hb
         replace HB := bB_ (by repeat (with_reducible first | exact HB.out | apply bA_ | apply bN_ | apply bD_ | refine bS_ ?_ GE1534.out | refine bS_ ?_ GE1535.out | refine bS_ ?_ GE1536.out | refine bS_ ?_ GE1537.out | refine bS_ ?_ GE1538.out)) hb
         (try clear hb)
         (try clear hb2)
         (try clear hk)
         (try clear hi)
         (try clear ho0)
         obtain ⟨Ao49, co49, eo49⟩ := Kd.R_slice HO_1538000.out
         (first | subst eo49 | (injection eo49 with f1_ f2_ f3_; have f4_ := f1_.symm; have f5_ := f3_.symm; clear f1_ f2_ f3_; subst f4_; subst f5_))
         obtain ⟨Ao50, co50, eo50⟩ := Kd.R_slice HO1559.out
         (first | subst eo50 | (injection eo50 with f1_ f2_ f3_; have f4_ := f1_.symm; have f5_ := f3_.symm; clear f1_ f2_ f3_; subst f4_; subst f5_))
         refine hK.out _ _ ⟨(blk_cell BK1537.out 0).trans rfl, ((HB.out.cell (World.block_lt_of_cell? w _ hw1556_0)).trans hw1556_0), ((HB.out.cell (World.block_lt_of_cell? w _ hw1556_1)).trans hw1556_1), ((HB.out.cell (World.block_lt_of_cell? w _ hw1556_2)).trans hw1556_2), ((HB.out.cell (World.block_lt_of_cell? w _ hw1556_3)).trans hw1556_3), ((HB.out.cell (World.block_lt_of_cell? w _ hw1556_4)).trans hw1556_4)⟩ (fun hHeld => ?_)
         clear hK K
         refine norm_ (by show Act.put _ (some 62) _ = _; simp only [Act.put, sT_, sZ_, sS_, i64_w, i32_w] <;> rfl) ?_
         refine one_ (i := 7) (N := some 63) (demurrageref21_Sums.ups 9 255) rfl rfl (one_of HT_.out (by kernel_rfl)) (by decide) (fun K hK => ?_)
         refine goes_ Try.func48 (by kernel_rfl) rfl #[.agg #[.slice Ao49 x1538000_1.length co49], .agg #[.slice Ao50 t1557.length co50]] (by rfl) rfl rfl (by (try simp only [mT_, mC_, mN_]); first | done | rfl) ?_
         with_reducible refine (demurrageref01_Plus.calls kj12 _ _ x1538000_1 _ _ t1557 t1560 _ ?side1 ?side2 ?side3 ?side4 A30.out).mono ?_
         (case side1 => repeat (first | exact (Kd.R_reads' HO_1538000.out).2.2 | (with_reducible first | refine Kd.C_alloc ?_ _ | refine Kd.C_drewN ?_ _ | refine Kd.C_drew ?_)))
         (case side2 => exact (Kd.R_reads' HO_1538000.out).2.1)
         (case side3 => repeat (first | exact (Kd.R_reads' HO1559.out).2.2 | (with_reducible first | refine Kd.C_alloc ?_ _ | refine Kd.C_drewN ?_ _ | refine Kd.C_drew ?_)))
         (case side4 => exact (Kd.R_reads' HO1559.out).2.1)
         rintro e w51 ⟨v1561, rfl, ho0, hb⟩
         refine ⟨_, rfl, ?_⟩
         have HO1562 := aA_ (Kd.R_lower (Kd.R_new' (Kd.R_new' (Kd.R_new' (Kd.R_new' (Kd.R_new' (Kd.R_new' (Kd.R_new' (Kd.R_new' ho0 (Kd.R_lt HO_1536000.out)) (Kd.R_lt HO_1537000.out)) (Kd.R_lt HO_1538000.out)) (Kd.R_lt HO1545.out)) (Kd.R_lt HO1548.out)) (Kd.R_lt HO1552.out)) (Kd.R_lt HO1555.out)) (Kd.R_lt HO1559.out)) (below_size (by repeat (with_reducible first | exact HB.out | apply bA_ | apply bN_ | apply bD_ | refine bS_ ?_ GE1534.out | refine bS_ ?_ GE1535.out | refine bS_ ?_ GE1536.out | refine bS_ ?_ GE1537.out | refine bS_ ?_ GE1538.out))))
         replace HO_1536000 := aA_ (Kd.R_elder' HO_1536000.out (Kd.R_base ho0) hb)
         replace HO_1537000 := aA_ (Kd.R_elder' HO_1537000.out (Kd.R_base ho0) hb)
         replace HO_1538000 := aA_ (Kd.R_elder' HO_1538000.out (Kd.R_base ho0) hb)
         replace HO1545 := aA_ (Kd.R_elder' HO1545.out (Kd.R_base ho0) hb)
         replace HO1548 := aA_ (Kd.R_elder' HO1548.out (Kd.R_base ho0) hb)
         replace HO1552 := aA_ (Kd.R_elder' HO1552.out (Kd.R_base ho0) hb)
         replace HO1555 := aA_ (Kd.R_elder' HO1555.out (Kd.R_base ho0) hb)
         replace HO1559 := aA_ (Kd.R_elder' HO1559.out (Kd.R_base ho0) hb)
         replace BK1534 := bK_ BK1534 hb
         replace BK1535 := bK_ BK1535 hb
         replace BK1536 := bK_ BK1536 hb
         replace BK1537 := bK_ BK1537 hb
         replace BK1538 := bK_ BK1538 hb
         replace HB := bB_ (by repeat (with_reducible first | exact HB.out | apply bA_ | apply bN_ | apply bD_ | refine bS_ ?_ GE1534.out | refine bS_ ?_ GE1535.out | refine bS_ ?_ GE1536.out | refine bS_ ?_ GE1537.out | refine bS_ ?_ GE1538.out)) hb
         (try clear hb)
         (try clear hb2)
         (try clear hk)
         (try clear hi)
         (try clear ho0)
         obtain ⟨Ao52, co52, eo52⟩ := Kd.R_slice HO1562.out
         (first | subst eo52 | (injection eo52 with f1_ f2_ f3_; have f4_ := f1_.symm; have f5_ := f3_.symm; clear f1_ f2_ f3_; subst f4_; subst f5_))
         refine hK.out _ _ ⟨(blk_cell BK1537.out 0).trans rfl, ((HB.out.cell (World.block_lt_of_cell? w _ hw1556_0)).trans hw1556_0), ((HB.out.cell (World.block_lt_of_cell? w _ hw1556_1)).trans hw1556_1), ((HB.out.cell (World.block_lt_of_cell? w _ hw1556_2)).trans hw1556_2), ((HB.out.cell (World.block_lt_of_cell? w _ hw1556_3)).trans hw1556_3), ((HB.out.cell (World.block_lt_of_cell? w _ hw1556_4)).trans hw1556_4)⟩ (fun hHeld => ?_)
         clear hK K
         refine norm_ (by show Act.put _ (some 63) _ = _; simp only [Act.put, sT_, sZ_, sS_, i64_w, i32_w] <;> rfl) ?_
         refine last_ (i := 8) (N := none) (demurrageref21_Sums.ups 9 511) rfl rfl (one_of HT_.out (by kernel_rfl)) (by decide) (fun K hK => ?_)
         have hs53 : w51.cell? ⟨gb1537, 0, none⟩ = some (.slice Ao49 x1538000_1.length co49) := (blk_cell BK1537.out 0).trans rfl
         have hfs53 := blk_frozen BK1537.out 0
         have hns53_0 := NB1534_1537.out
         have hns53_1 := NB1535_1537.out
         have hns53_2 := NB1536_1537.out
         have hns53_4 := NB1538_1537.out
         have hms53_0 := NB1537_1534.out
         have hms53_1 := NB1537_1535.out
         have hms53_2 := NB1537_1536.out
         have hms53_4 := NB1537_1538.out
         refine skip_ (w1 := ?_) (by rfl) rfl ?_ ?_
         rotate_left
         ·go_simp
          rfl
         refine hK.out _ _ ?_
         clear hK K
         refine done_ (done_of HT_.out (by kernel_rfl)) ?_
         try go_wp2
         have n0_ : Aside0 (Kd.R (Kd.int .i64) 3 (w51.setCell ⟨gb1537, 0, none⟩ (.slice Ao52 t1560.length co52)) w.heap.size (fun k_ => some k_ ≠ (.slice Ao41 x1537000_1.length co41 : Value).ownBlock ∧ some k_ ≠ (.slice Ao49 x1538000_1.length co49 : Value).ownBlock ∧ some k_ ≠ (.slice Ao34 t1543.length co34 : Value).ownBlock ∧ some k_ ≠ (.slice Ao36 t1546.length co36 : Value).ownBlock ∧ some k_ ≠ (.slice Ao42 t1550.length co42 : Value).ownBlock ∧ some k_ ≠ (.slice Ao44 t1553.length co44 : Value).ownBlock ∧ some k_ ≠ (.slice Ao50 t1557.length co50 : Value).ownBlock ∧ some k_ ≠ (.slice Ao52 t1560.length co52 : Value).ownBlock) (.slice Ao33 x1536000_1.length co33) x1536000_1) := ⟨by (with_reducible repeat (first | apply Kd.R_alloc | apply Kd.R_drewN | apply Kd.R_drew)); exact Kd.R_mono (Kd.R_far (p := ⟨gb1537, 0, none⟩) (Kd.R_types HO_1536000.out BK1537.out (by decide)) (fun _ hk => hk.2) (.slice Ao52 t1560.length co52)) (fun _ hk => (And.intro (hk.1.1.1.1) ((And.intro (hk.1.1.1.2.1) ((And.intro (hk.1.1.1.2.2.1) ((And.intro (hk.1.1.1.2.2.2.1) ((And.intro (hk.1.1.1.2.2.2.2.1) ((And.intro (hk.1.1.1.2.2.2.2.2) ((And.intro (hk.1.1.2) (hk.1.2)))))))))))))))⟩
         have n1_ : Aside0 (Kd.R (Kd.int .i64) 3 (w51.setCell ⟨gb1537, 0, none⟩ (.slice Ao52 t1560.length co52)) w.heap.size (fun k_ => some k_ ≠ (.slice Ao33 x1536000_1.length co33 : Value).ownBlock ∧ some k_ ≠ (.slice Ao49 x1538000_1.length co49 : Value).ownBlock ∧ some k_ ≠ (.slice Ao34 t1543.length co34 : Value).ownBlock ∧ some k_ ≠ (.slice Ao36 t1546.length co36 : Value).ownBlock ∧ some k_ ≠ (.slice Ao42 t1550.length co42 : Value).ownBlock ∧ some k_ ≠ (.slice Ao44 t1553.length co44 : Value).ownBlock ∧ some k_ ≠ (.slice Ao50 t1557.length co50 : Value).ownBlock ∧ some k_ ≠ (.slice Ao52 t1560.length co52 : Value).ownBlock) (.slice Ao41 x1537000_1.length co41) x1537000_1) := ⟨by (with_reducible repeat (first | apply Kd.R_alloc | apply Kd.R_drewN | apply Kd.R_drew)); exact Kd.R_mono (Kd.R_far (p := ⟨gb1537, 0, none⟩) (Kd.R_types HO_1537000.out BK1537.out (by decide)) (fun _ hk => hk.2) (.slice Ao52 t1560.length co52)) (fun _ hk => (And.intro (hk.1.1.1.1) ((And.intro (hk.1.1.1.2.1) ((And.intro (hk.1.1.1.2.2.1) ((And.intro (hk.1.1.1.2.2.2.1) ((And.intro (hk.1.1.1.2.2.2.2.1) ((And.intro (hk.1.1.1.2.2.2.2.2) ((And.intro (hk.1.1.2) (hk.1.2)))))))))))))))⟩
         have n2_ : Aside0 (Kd.R (Kd.int .i64) 3 (w51.setCell ⟨gb1537, 0, none⟩ (.slice Ao52 t1560.length co52)) w.heap.size (fun k_ => some k_ ≠ (.slice Ao33 x1536000_1.length co33 : Value).ownBlock ∧ some k_ ≠ (.slice Ao41 x1537000_1.length co41 : Value).ownBlock ∧ some k_ ≠ (.slice Ao34 t1543.length co34 : Value).ownBlock ∧ some k_ ≠ (.slice Ao36 t1546.length co36 : Value).ownBlock ∧ some k_ ≠ (.slice Ao42 t1550.length co42 : Value).ownBlock ∧ some k_ ≠ (.slice Ao44 t1553.length co44 : Value).ownBlock ∧ some k_ ≠ (.slice Ao50 t1557.length co50 : Value).ownBlock ∧ some k_ ≠ (.slice Ao52 t1560.length co52 : Value).ownBlock) (.slice Ao49 x1538000_1.length co49) x1538000_1) := ⟨by (with_reducible repeat (first | apply Kd.R_alloc | apply Kd.R_drewN | apply Kd.R_drew)); exact Kd.R_mono (Kd.R_far (p := ⟨gb1537, 0, none⟩) (Kd.R_types HO_1538000.out BK1537.out (by decide)) (fun _ hk => hk.2) (.slice Ao52 t1560.length co52)) (fun _ hk => (And.intro (hk.1.1.1.1) ((And.intro (hk.1.1.1.2.1) ((And.intro (hk.1.1.1.2.2.1) ((And.intro (hk.1.1.1.2.2.2.1) ((And.intro (hk.1.1.1.2.2.2.2.1) ((And.intro (hk.1.1.1.2.2.2.2.2) ((And.intro (hk.1.1.2) (hk.1.2)))))))))))))))⟩
         have n3_ : Aside0 (Kd.R (Kd.int .i64) 3 (w51.setCell ⟨gb1537, 0, none⟩ (.slice Ao52 t1560.length co52)) w.heap.size (fun k_ => some k_ ≠ (.slice Ao33 x1536000_1.length co33 : Value).ownBlock ∧ some k_ ≠ (.slice Ao41 x1537000_1.length co41 : Value).ownBlock ∧ some k_ ≠ (.slice Ao49 x1538000_1.length co49 : Value).ownBlock ∧ some k_ ≠ (.slice Ao36 t1546.length co36 : Value).ownBlock ∧ some k_ ≠ (.slice Ao42 t1550.length co42 : Value).ownBlock ∧ some k_ ≠ (.slice Ao44 t1553.length co44 : Value).ownBlock ∧ some k_ ≠ (.slice Ao50 t1557.length co50 : Value).ownBlock ∧ some k_ ≠ (.slice Ao52 t1560.length co52 : Value).ownBlock) (.slice Ao34 t1543.length co34) t1543) := ⟨by (with_reducible repeat (first | apply Kd.R_alloc | apply Kd.R_drewN | apply Kd.R_drew)); exact Kd.R_mono (Kd.R_far (p := ⟨gb1537, 0, none⟩) (Kd.R_types HO1545.out BK1537.out (by decide)) (fun _ hk => hk.2) (.slice Ao52 t1560.length co52)) (fun _ hk => (And.intro (hk.1.1.1.1) ((And.intro (hk.1.1.1.2.1) ((And.intro (hk.1.1.1.2.2.1) ((And.intro (hk.1.1.1.2.2.2.1) ((And.intro (hk.1.1.1.2.2.2.2.1) ((And.intro (hk.1.1.1.2.2.2.2.2) ((And.intro (hk.1.1.2) (hk.1.2)))))))))))))))⟩
         have n4_ : Aside0 (Kd.R (Kd.int .i64) 3 (w51.setCell ⟨gb1537, 0, none⟩ (.slice Ao52 t1560.length co52)) w.heap.size (fun k_ => some k_ ≠ (.slice Ao33 x1536000_1.length co33 : Value).ownBlock ∧ some k_ ≠ (.slice Ao41 x1537000_1.length co41 : Value).ownBlock ∧ some k_ ≠ (.slice Ao49 x1538000_1.length co49 : Value).ownBlock ∧ some k_ ≠ (.slice Ao34 t1543.length co34 : Value).ownBlock ∧ some k_ ≠ (.slice Ao42 t1550.length co42 : Value).ownBlock ∧ some k_ ≠ (.slice Ao44 t1553.length co44 : Value).ownBlock ∧ some k_ ≠ (.slice Ao50 t1557.length co50 : Value).ownBlock ∧ some k_ ≠ (.slice Ao52 t1560.length co52 : Value).ownBlock) (.slice Ao36 t1546.length co36) t1546) := ⟨by (with_reducible repeat (first | apply Kd.R_alloc | apply Kd.R_drewN | apply Kd.R_drew)); exact Kd.R_mono (Kd.R_far (p := ⟨gb1537, 0, none⟩) (Kd.R_types HO1548.out BK1537.out (by decide)) (fun _ hk => hk.2) (.slice Ao52 t1560.length co52)) (fun _ hk => (And.intro (hk.1.1.1.1) ((And.intro (hk.1.1.1.2.1) ((And.intro (hk.1.1.1.2.2.1) ((And.intro (hk.1.1.1.2.2.2.1) ((And.intro (hk.1.1.1.2.2.2.2.1) ((And.intro (hk.1.1.1.2.2.2.2.2) ((And.intro (hk.1.1.2) (hk.1.2)))))))))))))))⟩
         have n5_ : Aside0 (Kd.R (Kd.int .i64) 3 (w51.setCell ⟨gb1537, 0, none⟩ (.slice Ao52 t1560.length co52)) w.heap.size (fun k_ => some k_ ≠ (.slice Ao33 x1536000_1.length co33 : Value).ownBlock ∧ some k_ ≠ (.slice Ao41 x1537000_1.length co41 : Value).ownBlock ∧ some k_ ≠ (.slice Ao49 x1538000_1.length co49 : Value).ownBlock ∧ some k_ ≠ (.slice Ao34 t1543.length co34 : Value).ownBlock ∧ some k_ ≠ (.slice Ao36 t1546.length co36 : Value).ownBlock ∧ some k_ ≠ (.slice Ao44 t1553.length co44 : Value).ownBlock ∧ some k_ ≠ (.slice Ao50 t1557.length co50 : Value).ownBlock ∧ some k_ ≠ (.slice Ao52 t1560.length co52 : Value).ownBlock) (.slice Ao42 t1550.length co42) t1550) := ⟨by (with_reducible repeat (first | apply Kd.R_alloc | apply Kd.R_drewN | apply Kd.R_drew)); exact Kd.R_mono (Kd.R_far (p := ⟨gb1537, 0, none⟩) (Kd.R_types HO1552.out BK1537.out (by decide)) (fun _ hk => hk.2) (.slice Ao52 t1560.length co52)) (fun _ hk => (And.intro (hk.1.1.1.1) ((And.intro (hk.1.1.1.2.1) ((And.intro (hk.1.1.1.2.2.1) ((And.intro (hk.1.1.1.2.2.2.1) ((And.intro (hk.1.1.1.2.2.2.2.1) ((And.intro (hk.1.1.1.2.2.2.2.2) ((And.intro (hk.1.1.2) (hk.1.2)))))))))))))))⟩
         have n6_ : Aside0 (Kd.R (Kd.int .i64) 3 (w51.setCell ⟨gb1537, 0, none⟩ (.slice Ao52 t1560.length co52)) w.heap.size (fun k_ => some k_ ≠ (.slice Ao33 x1536000_1.length co33 : Value).ownBlock ∧ some k_ ≠ (.slice Ao41 x1537000_1.length co41 : Value).ownBlock ∧ some k_ ≠ (.slice Ao49 x1538000_1.length co49 : Value).ownBlock ∧ some k_ ≠ (.slice Ao34 t1543.length co34 : Value).ownBlock ∧ some k_ ≠ (.slice Ao36 t1546.length co36 : Value).ownBlock ∧ some k_ ≠ (.slice Ao42 t1550.length co42 : Value).ownBlock ∧ some k_ ≠ (.slice Ao50 t1557.length co50 : Value).ownBlock ∧ some k_ ≠ (.slice Ao52 t1560.length co52 : Value).ownBlock) (.slice Ao44 t1553.length co44) t1553) := ⟨by (with_reducible repeat (first | apply Kd.R_alloc | apply Kd.R_drewN | apply Kd.R_drew)); exact Kd.R_mono (Kd.R_far (p := ⟨gb1537, 0, none⟩) (Kd.R_types HO1555.out BK1537.out (by decide)) (fun _ hk => hk.2) (.slice Ao52 t1560.length co52)) (fun _ hk => (And.intro (hk.1.1.1.1) ((And.intro (hk.1.1.1.2.1) ((And.intro (hk.1.1.1.2.2.1) ((And.intro (hk.1.1.1.2.2.2.1) ((And.intro (hk.1.1.1.2.2.2.2.1) ((And.intro (hk.1.1.1.2.2.2.2.2) ((And.intro (hk.1.1.2) (hk.1.2)))))))))))))))⟩
         have n7_ : Aside0 (Kd.R (Kd.int .i64) 3 (w51.setCell ⟨gb1537, 0, none⟩ (.slice Ao52 t1560.length co52)) w.heap.size (fun k_ => some k_ ≠ (.slice Ao33 x1536000_1.length co33 : Value).ownBlock ∧ some k_ ≠ (.slice Ao41 x1537000_1.length co41 : Value).ownBlock ∧ some k_ ≠ (.slice Ao49 x1538000_1.length co49 : Value).ownBlock ∧ some k_ ≠ (.slice Ao34 t1543.length co34 : Value).ownBlock ∧ some k_ ≠ (.slice Ao36 t1546.length co36 : Value).ownBlock ∧ some k_ ≠ (.slice Ao42 t1550.length co42 : Value).ownBlock ∧ some k_ ≠ (.slice Ao44 t1553.length co44 : Value).ownBlock ∧ some k_ ≠ (.slice Ao52 t1560.length co52 : Value).ownBlock) (.slice Ao50 t1557.length co50) t1557) := ⟨by (with_reducible repeat (first | apply Kd.R_alloc | apply Kd.R_drewN | apply Kd.R_drew)); exact Kd.R_mono (Kd.R_far (p := ⟨gb1537, 0, none⟩) (Kd.R_types HO1559.out BK1537.out (by decide)) (fun _ hk => hk.2) (.slice Ao52 t1560.length co52)) (fun _ hk => (And.intro (hk.1.1.1.1.1.1.1.1.2) ((And.intro (hk.1.1.1.1.1.1.1.2) ((And.intro (hk.1.1.1.1.1.1.2) ((And.intro (hk.1.1.1.1.1.2) ((And.intro (hk.1.1.1.1.2) ((And.intro (hk.1.1.1.2) ((And.intro (hk.1.1.2) (hk.1.2)))))))))))))))⟩
         have n8_ : Aside0 (Kd.R (Kd.int .i64) 3 (w51.setCell ⟨gb1537, 0, none⟩ (.slice Ao52 t1560.length co52)) w.heap.size (fun k_ => some k_ ≠ (.slice Ao33 x1536000_1.length co33 : Value).ownBlock ∧ some k_ ≠ (.slice Ao41 x1537000_1.length co41 : Value).ownBlock ∧ some k_ ≠ (.slice Ao49 x1538000_1.length co49 : Value).ownBlock ∧ some k_ ≠ (.slice Ao34 t1543.length co34 : Value).ownBlock ∧ some k_ ≠ (.slice Ao36 t1546.length co36 : Value).ownBlock ∧ some k_ ≠ (.slice Ao42 t1550.length co42 : Value).ownBlock ∧ some k_ ≠ (.slice Ao44 t1553.length co44 : Value).ownBlock ∧ some k_ ≠ (.slice Ao50 t1557.length co50 : Value).ownBlock) (.slice Ao52 t1560.length co52) t1560) := ⟨by (with_reducible repeat (first | apply Kd.R_alloc | apply Kd.R_drewN | apply Kd.R_drew)); exact Kd.R_mono (Kd.R_far (p := ⟨gb1537, 0, none⟩) (Kd.R_types HO1562.out BK1537.out (by decide)) (fun _ hk => hk.2) (.slice Ao52 t1560.length co52)) (fun _ hk => (And.intro (hk.1.1.1.1.1.1.1.1.2) ((And.intro (hk.1.1.1.1.1.1.1.2) ((And.intro (hk.1.1.1.1.1.1.2) ((And.intro (hk.1.1.1.1.1.2) ((And.intro (hk.1.1.1.1.2) ((And.intro (hk.1.1.1.2) ((And.intro (hk.1.1.2) (hk.1.2)))))))))))))))⟩
         have n9_ : Aside0 ((w51.setCell ⟨gb1537, 0, none⟩ (.slice Ao52 t1560.length co52)).heap[gb1534]? = some (.cells #[.int .i64 x1535000_1, .int .i64 x1535001_1, .int .i64 x1535002_1, .int .i64 x1535003_1, .int .i64 x1535004_1] 48 (0, 0))) := ⟨by refine blk_far ?_ NB1534_1537.out _; exact BK1534.out⟩
         have n10_ : Aside0 ((w51.setCell ⟨gb1537, 0, none⟩ (.slice Ao52 t1560.length co52)).heap[gb1535]? = some (.cells #[.slice Ao36 t1546.length co36] 98 (0, 0))) := ⟨by refine blk_far ?_ NB1535_1537.out _; exact BK1535.out⟩
         have n11_ : Aside0 ((w51.setCell ⟨gb1537, 0, none⟩ (.slice Ao52 t1560.length co52)).heap[gb1536]? = some (.cells #[.slice Ao44 t1553.length co44] 98 (0, 0))) := ⟨by refine blk_far ?_ NB1536_1537.out _; exact BK1536.out⟩
         have n12_ : Aside0 ((w51.setCell ⟨gb1537, 0, none⟩ (.slice Ao52 t1560.length co52)).heap[gb1537]? = some (.cells #[.slice Ao52 t1560.length co52] 98 (0, 0))) := ⟨by refine blk_put (cs := #[.slice Ao49 x1538000_1.length co49]) ?_ 0 _ rfl; exact BK1537.out⟩
         have n13_ : Aside0 ((w51.setCell ⟨gb1537, 0, none⟩ (.slice Ao52 t1560.length co52)).heap[gb1538]? = some (.cells #[.int .i64 0, .int .i64 x1539001_1, .int .i64 x1539002_1, .int .i64 x1539003_1, .int .i64 0] 48 (0, 0))) := ⟨by refine blk_far ?_ NB1538_1537.out _; exact BK1538.out⟩
         have n14_ : Aside0 (Below w.heap.size w (w51.setCell ⟨gb1537, 0, none⟩ (.slice Ao52 t1560.length co52))) := ⟨by repeat (with_reducible first | exact HB.out | apply bA_ | apply bN_ | apply bD_ | refine bS_ ?_ GE1534.out | refine bS_ ?_ GE1535.out | refine bS_ ?_ GE1536.out | refine bS_ ?_ GE1537.out | refine bS_ ?_ GE1538.out)⟩
         (try clear HO_1536000)
         (try clear HO_1537000)
         (try clear HO_1538000)
         (try clear HO1545)
         (try clear HO1548)
         (try clear HO1552)
         (try clear HO1555)
         (try clear HO1559)
         (try clear HO1562)
         (try clear BK1534)
         (try clear BK1535)
         (try clear BK1536)
         (try clear BK1537)
         (try clear BK1538)
         (try clear HB)
         generalize (w51.setCell ⟨gb1537, 0, none⟩ (.slice Ao52 t1560.length co52)) = w54 at n0_ n1_ n2_ n3_ n4_ n5_ n6_ n7_ n8_ n9_ n10_ n11_ n12_ n13_ n14_ ⊢
         have HO_1536000 := n0_
         have HO_1537000 := n1_
         have HO_1538000 := n2_
         have HO1545 := n3_
         have HO1548 := n4_
         have HO1552 := n5_
         have HO1555 := n6_
         have HO1559 := n7_
         have HO1562 := n8_
         have BK1534 := n9_
         have BK1535 := n10_
         have BK1536 := n11_
         have BK1537 := n12_
         have BK1538 := n13_
         have HB := n14_
         clear n0_ n1_ n2_ n3_ n4_ n5_ n6_ n7_ n8_ n9_ n10_ n11_ n12_ n13_ n14_
         replace HO_1536000 := aA_ (Kd.R_drew HO_1536000.out)
         replace HO_1537000 := aA_ (Kd.R_drew HO_1537000.out)
         replace HO_1538000 := aA_ (Kd.R_drew HO_1538000.out)
         replace HO1545 := aA_ (Kd.R_drew HO1545.out)
         replace HO1548 := aA_ (Kd.R_drew HO1548.out)
         replace HO1552 := aA_ (Kd.R_drew HO1552.out)
         replace HO1555 := aA_ (Kd.R_drew HO1555.out)
         replace HO1559 := aA_ (Kd.R_drew HO1559.out)
         replace HO1562 := aA_ (Kd.R_drew HO1562.out)
         replace BK1534 := aA_ (blk_drew BK1534.out)
         replace BK1535 := aA_ (blk_drew BK1535.out)
         replace BK1536 := aA_ (blk_drew BK1536.out)
         replace BK1537 := aA_ (blk_drew BK1537.out)
         replace BK1538 := aA_ (blk_drew BK1538.out)
         replace HB := aA_ (below_drew1 HB.out)
         have p1563 : 0 ≤ (x8_1 : Int) := of_decide_eq_true (by first | (with_reducible assumption) | assumption)
         have q1563 : x8_1 < (l0.length : Int) := of_decide_eq_true (by first | (with_reducible assumption) | assumption)
         obtain ⟨ad1563, e1563, hx1563_0, hx1563_1, hx1563_2, hx1563_3, hx1563_4⟩ := at_T48 HR0.out x8_1 p1563 q1563
         have hw1563_4 := hx1563_4
         have hw1563_3 := hx1563_3
         have hw1563_2 := hx1563_2
         have hw1563_1 := hx1563_1
         have hw1563_0 := hx1563_0
         obtain rfl : ad1542 = ad1563 := (by injection e1563)
         replace hx1563_0 := cC_ HB hx1563_0
         replace hx1563_1 := cC_ HB hx1563_1
         replace hx1563_2 := cC_ HB hx1563_2
         replace hx1563_3 := cC_ HB hx1563_3
         replace hx1563_4 := cC_ HB hx1563_4
         replace p1563 := eq_true p1563
         replace q1563 := eq_true q1563
         refine start_ (n := 10) (S := fun w' => w'.cell? ⟨gb1538, 0, none⟩ = some (.int .i64 0) ∧ w'.cell? ⟨gb1538, 1, none⟩ = some (.int .i64 x1539001_1) ∧ w'.cell? ⟨gb1538, 2, none⟩ = some (.int .i64 x1539002_1) ∧ w'.cell? ⟨gb1538, 3, none⟩ = some (.int .i64 x1539003_1) ∧ w'.cell? ⟨gb1538, 4, none⟩ = some (.int .i64 0) ∧ w'.cell? (ad1542.add ((x8_1).toNat * 5)) = some (.int .i64 ((rd_T48 l0 x8_1).f0)) ∧ w'.cell? ⟨(ad1542.add ((x8_1).toNat * 5)).block, (ad1542.add ((x8_1).toNat * 5)).off + 1, none⟩ = some (.int .i64 ((rd_T48 l0 x8_1).f1)) ∧ w'.cell? ⟨(ad1542.add ((x8_1).toNat * 5)).block, (ad1542.add ((x8_1).toNat * 5)).off + 2, none⟩ = some (.int .i64 ((rd_T48 l0 x8_1).f2)) ∧ w'.cell? ⟨(ad1542.add ((x8_1).toNat * 5)).block, (ad1542.add ((x8_1).toNat * 5)).off + 3, none⟩ = some (.int .i64 ((rd_T48 l0 x8_1).f3)) ∧ w'.cell? ⟨(ad1542.add ((x8_1).toNat * 5)).block, (ad1542.add ((x8_1).toNat * 5)).off + 4, none⟩ = some (.int .i64 ((rd_T48 l0 x8_1).f4))) (ds := [9]) (demurrageref21_Sums.ups 10 0) (by kernel_rfl) rfl rfl ⟨(blk_cell BK1538.out 0).trans rfl, (blk_cell BK1538.out 1).trans rfl, (blk_cell BK1538.out 2).trans rfl, (blk_cell BK1538.out 3).trans rfl, (blk_cell BK1538.out 4).trans rfl, ((HB.out.cell (World.block_lt_of_cell? w _ hw1563_0)).trans hw1563_0), ((HB.out.cell (World.block_lt_of_cell? w _ hw1563_1)).trans hw1563_1), ((HB.out.cell (World.block_lt_of_cell? w _ hw1563_2)).trans hw1563_2), ((HB.out.cell (World.block_lt_of_cell? w _ hw1563_3)).trans hw1563_3), ((HB.out.cell (World.block_lt_of_cell? w _ hw1563_4)).trans hw1563_4)⟩ (fun hHeld => ?_); refine with_tabW demurrageref21_Sums.tab13 demurrageref21_Sums.bits13 (fun HT_ HW_ => ?_)
         generalize w54.drew = w55 at HO_1536000 HO_1537000 HO_1538000 HO1545 HO1548 HO1552 HO1555 HO1559 HO1562 BK1534 BK1535 BK1536 BK1537 BK1538 HB hx1563_0 hx1563_1 hx1563_2 hx1563_3 hx1563_4 hHeld ⊢
         refine pure_ (i := 0) (N := some 64) (v := ?_) (a' := ?_) (demurrageref21_Sums.ups 10 1) rfl rfl (any_of HT_.out (by kernel_rfl)) (fun _ _ _ h => h) (Or.inl ⟨by rfl, ?_⟩) ?_ ?_
         rotate_left
         ·intro w'
          go_simp
          with_reducible rfl
         rotate_left
         ·simp only [Act.put, sT_, sZ_, sS_, i64_w, i32_w]
          rfl
         refine pure_ (i := 2) (N := some 66) (v := ?_) (a' := ?_) (demurrageref21_Sums.ups 10 5) rfl rfl (any_of HT_.out (by kernel_rfl)) (fun _ _ _ h => h) (Or.inl ⟨by rfl, ?_⟩) ?_ ?_
         rotate_left
         ·intro w'
          go_simp
          with_reducible rfl
         rotate_left
         ·simp only [Act.put, sT_, sZ_, sS_, i64_w, i32_w]
          rfl
         refine pure_ (i := 3) (N := some 67) (v := ?_) (a' := ?_) (demurrageref21_Sums.ups 10 13) rfl rfl (any_of HT_.out (by kernel_rfl)) (fun _ _ _ h => h) (Or.inl ⟨by rfl, ?_⟩) ?_ ?_
         rotate_left
         ·intro w'
          go_simp
          with_reducible rfl
         rotate_left
         ·simp only [Act.put, sT_, sZ_, sS_, i64_w, i32_w]
          rfl
         refine pure_ (i := 4) (N := some 68) (v := ?_) (a' := ?_) (demurrageref21_Sums.ups 10 29) rfl rfl (any_of HT_.out (by kernel_rfl)) (fun _ _ _ h => h) (Or.inl ⟨by rfl, ?_⟩) ?_ ?_
         rotate_left
         ·intro w'
          go_simp
          with_reducible rfl
         rotate_left
         ·simp only [Act.put, sT_, sZ_, sS_, i64_w, i32_w]
          rfl
         refine pure_ (i := 5) (N := some 69) (v := ?_) (a' := ?_) (demurrageref21_Sums.ups 10 61) rfl rfl (any_of HT_.out (by kernel_rfl)) (fun _ _ _ h => h) (Or.inl ⟨by rfl, ?_⟩) ?_ ?_
         rotate_left
         ·intro w'
          go_simp
          with_reducible rfl
         rotate_left
         ·simp only [Act.put, sT_, sZ_, sS_, i64_w, i32_w]
          rfl
         refine take_ (i := 1) (N := some 65) (v := ?_) (a' := ?_) (demurrageref21_Sums.ups 10 63) rfl rfl (take_ofW HT_.out HW_.out (by kernel_rfl)) (fun _ _ _ h => h) (Or.inl ⟨by rfl, ?_⟩) hHeld ?_ ?_
         rotate_left
         ·rintro w' ⟨s0, s1, s2, s3, s4, s5, s6, s7, s8, s9⟩
          go_simp
          with_reducible rfl
         rotate_left
         ·simp only [Act.put, sT_, sZ_, sS_, i64_w, i32_w]
          rfl
         refine take_ (i := 6) (N := some 70) (v := ?_) (a' := ?_) (demurrageref21_Sums.ups 10 127) rfl rfl (take_ofW HT_.out HW_.out (by kernel_rfl)) (fun _ _ _ h => h) (Or.inl ⟨by rfl, ?_⟩) hHeld ?_ ?_
         rotate_left
         ·rintro w' ⟨s0, s1, s2, s3, s4, s5, s6, s7, s8, s9⟩
          go_simp
          with_reducible rfl
         rotate_left
         ·simp only [Act.put, sT_, sZ_, sS_, i64_w, i32_w]
          rfl
         refine pure_ (i := 7) (N := some 71) (v := ?_) (a' := ?_) (demurrageref21_Sums.ups 10 255) rfl rfl (any_of HT_.out (by kernel_rfl)) (fun _ _ _ h => h) (Or.inl ⟨by rfl, ?_⟩) ?_ ?_
         rotate_left
         ·intro w'
          go_simp
          with_reducible rfl
         rotate_left
         ·simp only [Act.put, sT_, sZ_, sS_, i64_w, i32_w]
          rfl
         refine pure_ (i := 8) (N := some 72) (v := ?_) (a' := ?_) (demurrageref21_Sums.ups 10 511) rfl rfl (any_of HT_.out (by kernel_rfl)) (fun _ _ _ h => h) (Or.inl ⟨by rfl, ?_⟩) ?_ ?_
         rotate_left
         ·intro w'
          go_simp
          with_reducible rfl
         rotate_left
         ·simp only [Act.put, sT_, sZ_, sS_, i64_w, i32_w]
          rfl
         refine last_ (i := 9) (N := none) (demurrageref21_Sums.ups 10 1023) rfl rfl (one_of HT_.out (by kernel_rfl)) (by decide) (fun K hK => ?_)
         have hs56 : w55.cell? ⟨gb1538, 1, none⟩ = some (.int .i64 x1539001_1) := (blk_cell BK1538.out 1).trans rfl
         have hfs56 := blk_frozen BK1538.out 1
         have hns56_0 := NB1534_1538.out
         have hns56_1 := NB1535_1538.out
         have hns56_2 := NB1536_1538.out
         have hns56_3 := NB1537_1538.out
         have hms56_0 := NB1538_1534.out
         have hms56_1 := NB1538_1535.out
         have hms56_2 := NB1538_1536.out
         have hms56_3 := NB1538_1537.out
         refine skip_ (w1 := ?_) (by rfl) rfl ?_ ?_
         rotate_left
         ·go_simp
          rfl
         refine hK.out _ _ ?_
         clear hK K
         refine done_ (done_of HT_.out (by kernel_rfl)) ?_
         try go_wp2
         have n0_ : Aside0 (Kd.R (Kd.int .i64) 3 (w55.setCell ⟨gb1538, 1, none⟩ (.int .i64 (wrap64 (x1539001_1 + ((rd_T48 l0 x8_1).f1))))) w.heap.size (fun k_ => some k_ ≠ (.slice Ao41 x1537000_1.length co41 : Value).ownBlock ∧ some k_ ≠ (.slice Ao49 x1538000_1.length co49 : Value).ownBlock ∧ some k_ ≠ (.slice Ao34 t1543.length co34 : Value).ownBlock ∧ some k_ ≠ (.slice Ao36 t1546.length co36 : Value).ownBlock ∧ some k_ ≠ (.slice Ao42 t1550.length co42 : Value).ownBlock ∧ some k_ ≠ (.slice Ao44 t1553.length co44 : Value).ownBlock ∧ some k_ ≠ (.slice Ao50 t1557.length co50 : Value).ownBlock ∧ some k_ ≠ (.slice Ao52 t1560.length co52 : Value).ownBlock) (.slice Ao33 x1536000_1.length co33) x1536000_1) := ⟨by (with_reducible repeat (first | apply Kd.R_alloc | apply Kd.R_drewN | apply Kd.R_drew)); exact Kd.R_mono (Kd.R_far (p := ⟨gb1538, 1, none⟩) (Kd.R_types HO_1536000.out BK1538.out (by decide)) (fun _ hk => hk.2) (.int .i64 (wrap64 (x1539001_1 + ((rd_T48 l0 x8_1).f1))))) (fun _ hk => (And.intro (hk.1.1) ((And.intro (hk.1.2.1) ((And.intro (hk.1.2.2.1) ((And.intro (hk.1.2.2.2.1) ((And.intro (hk.1.2.2.2.2.1) ((And.intro (hk.1.2.2.2.2.2.1) ((And.intro (hk.1.2.2.2.2.2.2.1) (hk.1.2.2.2.2.2.2.2)))))))))))))))⟩
         have n1_ : Aside0 (Kd.R (Kd.int .i64) 3 (w55.setCell ⟨gb1538, 1, none⟩ (.int .i64 (wrap64 (x1539001_1 + ((rd_T48 l0 x8_1).f1))))) w.heap.size (fun k_ => some k_ ≠ (.slice Ao33 x1536000_1.length co33 : Value).ownBlock ∧ some k_ ≠ (.slice Ao49 x1538000_1.length co49 : Value).ownBlock ∧ some k_ ≠ (.slice Ao34 t1543.length co34 : Value).ownBlock ∧ some k_ ≠ (.slice Ao36 t1546.length co36 : Value).ownBlock ∧ some k_ ≠ (.slice Ao42 t1550.length co42 : Value).ownBlock ∧ some k_ ≠ (.slice Ao44 t1553.length co44 : Value).ownBlock ∧ some k_ ≠ (.slice Ao50 t1557.length co50 : Value).ownBlock ∧ some k_ ≠ (.slice Ao52 t1560.length co52 : Value).ownBlock) (.slice Ao41 x1537000_1.length co41) x1537000_1) := ⟨by (with_reducible repeat (first | apply Kd.R_alloc | apply Kd.R_drewN | apply Kd.R_drew)); exact Kd.R_mono (Kd.R_far (p := ⟨gb1538, 1, none⟩) (Kd.R_types HO_1537000.out BK1538.out (by decide)) (fun _ hk => hk.2) (.int .i64 (wrap64 (x1539001_1 + ((rd_T48 l0 x8_1).f1))))) (fun _ hk => (And.intro (hk.1.1) ((And.intro (hk.1.2.1) ((And.intro (hk.1.2.2.1) ((And.intro (hk.1.2.2.2.1) ((And.intro (hk.1.2.2.2.2.1) ((And.intro (hk.1.2.2.2.2.2.1) ((And.intro (hk.1.2.2.2.2.2.2.1) (hk.1.2.2.2.2.2.2.2)))))))))))))))⟩
         have n2_ : Aside0 (Kd.R (Kd.int .i64) 3 (w55.setCell ⟨gb1538, 1, none⟩ (.int .i64 (wrap64 (x1539001_1 + ((rd_T48 l0 x8_1).f1))))) w.heap.size (fun k_ => some k_ ≠ (.slice Ao33 x1536000_1.length co33 : Value).ownBlock ∧ some k_ ≠ (.slice Ao41 x1537000_1.length co41 : Value).ownBlock ∧ some k_ ≠ (.slice Ao34 t1543.length co34 : Value).ownBlock ∧ some k_ ≠ (.slice Ao36 t1546.length co36 : Value).ownBlock ∧ some k_ ≠ (.slice Ao42 t1550.length co42 : Value).ownBlock ∧ some k_ ≠ (.slice Ao44 t1553.length co44 : Value).ownBlock ∧ some k_ ≠ (.slice Ao50 t1557.length co50 : Value).ownBlock ∧ some k_ ≠ (.slice Ao52 t1560.length co52 : Value).ownBlock) (.slice Ao49 x1538000_1.length co49) x1538000_1) := ⟨by (with_reducible repeat (first | apply Kd.R_alloc | apply Kd.R_drewN | apply Kd.R_drew)); exact Kd.R_mono (Kd.R_far (p := ⟨gb1538, 1, none⟩) (Kd.R_types HO_1538000.out BK1538.out (by decide)) (fun _ hk => hk.2) (.int .i64 (wrap64 (x1539001_1 + ((rd_T48 l0 x8_1).f1))))) (fun _ hk => (And.intro (hk.1.1) ((And.intro (hk.1.2.1) ((And.intro (hk.1.2.2.1) ((And.intro (hk.1.2.2.2.1) ((And.intro (hk.1.2.2.2.2.1) ((And.intro (hk.1.2.2.2.2.2.1) ((And.intro (hk.1.2.2.2.2.2.2.1) (hk.1.2.2.2.2.2.2.2)))))))))))))))⟩
         have n3_ : Aside0 (Kd.R (Kd.int .i64) 3 (w55.setCell ⟨gb1538, 1, none⟩ (.int .i64 (wrap64 (x1539001_1 + ((rd_T48 l0 x8_1).f1))))) w.heap.size (fun k_ => some k_ ≠ (.slice Ao33 x1536000_1.length co33 : Value).ownBlock ∧ some k_ ≠ (.slice Ao41 x1537000_1.length co41 : Value).ownBlock ∧ some k_ ≠ (.slice Ao49 x1538000_1.length co49 : Value).ownBlock ∧ some k_ ≠ (.slice Ao36 t1546.length co36 : Value).ownBlock ∧ some k_ ≠ (.slice Ao42 t1550.length co42 : Value).ownBlock ∧ some k_ ≠ (.slice Ao44 t1553.length co44 : Value).ownBlock ∧ some k_ ≠ (.slice Ao50 t1557.length co50 : Value).ownBlock ∧ some k_ ≠ (.slice Ao52 t1560.length co52 : Value).ownBlock) (.slice Ao34 t1543.length co34) t1543) := ⟨by (with_reducible repeat (first | apply Kd.R_alloc | apply Kd.R_drewN | apply Kd.R_drew)); exact Kd.R_mono (Kd.R_far (p := ⟨gb1538, 1, none⟩) (Kd.R_types HO1545.out BK1538.out (by decide)) (fun _ hk => hk.2) (.int .i64 (wrap64 (x1539001_1 + ((rd_T48 l0 x8_1).f1))))) (fun _ hk => (And.intro (hk.1.1) ((And.intro (hk.1.2.1) ((And.intro (hk.1.2.2.1) ((And.intro (hk.1.2.2.2.1) ((And.intro (hk.1.2.2.2.2.1) ((And.intro (hk.1.2.2.2.2.2.1) ((And.intro (hk.1.2.2.2.2.2.2.1) (hk.1.2.2.2.2.2.2.2)))))))))))))))⟩
         have n4_ : Aside0 (Kd.R (Kd.int .i64) 3 (w55.setCell ⟨gb1538, 1, none⟩ (.int .i64 (wrap64 (x1539001_1 + ((rd_T48 l0 x8_1).f1))))) w.heap.size (fun k_ => some k_ ≠ (.slice Ao33 x1536000_1.length co33 : Value).ownBlock ∧ some k_ ≠ (.slice Ao41 x1537000_1.length co41 : Value).ownBlock ∧ some k_ ≠ (.slice Ao49 x1538000_1.length co49 : Value).ownBlock ∧ some k_ ≠ (.slice Ao34 t1543.length co34 : Value).ownBlock ∧ some k_ ≠ (.slice Ao42 t1550.length co42 : Value).ownBlock ∧ some k_ ≠ (.slice Ao44 t1553.length co44 : Value).ownBlock ∧ some k_ ≠ (.slice Ao50 t1557.length co50 : Value).ownBlock ∧ some k_ ≠ (.slice Ao52 t1560.length co52 : Value).ownBlock) (.slice Ao36 t1546.length co36) t1546) := ⟨by (with_reducible repeat (first | apply Kd.R_alloc | apply Kd.R_drewN | apply Kd.R_drew)); exact Kd.R_mono (Kd.R_far (p := ⟨gb1538, 1, none⟩) (Kd.R_types HO1548.out BK1538.out (by decide)) (fun _ hk => hk.2) (.int .i64 (wrap64 (x1539001_1 + ((rd_T48 l0 x8_1).f1))))) (fun _ hk => (And.intro (hk.1.1) ((And.intro (hk.1.2.1) ((And.intro (hk.1.2.2.1) ((And.intro (hk.1.2.2.2.1) ((And.intro (hk.1.2.2.2.2.1) ((And.intro (hk.1.2.2.2.2.2.1) ((And.intro (hk.1.2.2.2.2.2.2.1) (hk.1.2.2.2.2.2.2.2)))))))))))))))⟩
         have n5_ : Aside0 (Kd.R (Kd.int .i64) 3 (w55.setCell ⟨gb1538, 1, none⟩ (.int .i64 (wrap64 (x1539001_1 + ((rd_T48 l0 x8_1).f1))))) w.heap.size (fun k_ => some k_ ≠ (.slice Ao33 x1536000_1.length co33 : Value).ownBlock ∧ some k_ ≠ (.slice Ao41 x1537000_1.length co41 : Value).ownBlock ∧ some k_ ≠ (.slice Ao49 x1538000_1.length co49 : Value).ownBlock ∧ some k_ ≠ (.slice Ao34 t1543.length co34 : Value).ownBlock ∧ some k_ ≠ (.slice Ao36 t1546.length co36 : Value).ownBlock ∧ some k_ ≠ (.slice Ao44 t1553.length co44 : Value).ownBlock ∧ some k_ ≠ (.slice Ao50 t1557.length co50 : Value).ownBlock ∧ some k_ ≠ (.slice Ao52 t1560.length co52 : Value).ownBlock) (.slice Ao42 t1550.length co42) t1550) := ⟨by (with_reducible repeat (first | apply Kd.R_alloc | apply Kd.R_drewN | apply Kd.R_drew)); exact Kd.R_mono (Kd.R_far (p := ⟨gb1538, 1, none⟩) (Kd.R_types HO1552.out BK1538.out (by decide)) (fun _ hk => hk.2) (.int .i64 (wrap64 (x1539001_1 + ((rd_T48 l0 x8_1).f1))))) (fun _ hk => (And.intro (hk.1.1) ((And.intro (hk.1.2.1) ((And.intro (hk.1.2.2.1) ((And.intro (hk.1.2.2.2.1) ((And.intro (hk.1.2.2.2.2.1) ((And.intro (hk.1.2.2.2.2.2.1) ((And.intro (hk.1.2.2.2.2.2.2.1) (hk.1.2.2.2.2.2.2.2)))))))))))))))⟩
         have n6_ : Aside0 (Kd.R (Kd.int .i64) 3 (w55.setCell ⟨gb1538, 1, none⟩ (.int .i64 (wrap64 (x1539001_1 + ((rd_T48 l0 x8_1).f1))))) w.heap.size (fun k_ => some k_ ≠ (.slice Ao33 x1536000_1.length co33 : Value).ownBlock ∧ some k_ ≠ (.slice Ao41 x1537000_1.length co41 : Value).ownBlock ∧ some k_ ≠ (.slice Ao49 x1538000_1.length co49 : Value).ownBlock ∧ some k_ ≠ (.slice Ao34 t1543.length co34 : Value).ownBlock ∧ some k_ ≠ (.slice Ao36 t1546.length co36 : Value).ownBlock ∧ some k_ ≠ (.slice Ao42 t1550.length co42 : Value).ownBlock ∧ some k_ ≠ (.slice Ao50 t1557.length co50 : Value).ownBlock ∧ some k_ ≠ (.slice Ao52 t1560.length co52 : Value).ownBlock) (.slice Ao44 t1553.length co44) t1553) := ⟨by (with_reducible repeat (first | apply Kd.R_alloc | apply Kd.R_drewN | apply Kd.R_drew)); exact Kd.R_mono (Kd.R_far (p := ⟨gb1538, 1, none⟩) (Kd.R_types HO1555.out BK1538.out (by decide)) (fun _ hk => hk.2) (.int .i64 (wrap64 (x1539001_1 + ((rd_T48 l0 x8_1).f1))))) (fun _ hk => (And.intro (hk.1.1) ((And.intro (hk.1.2.1) ((And.intro (hk.1.2.2.1) ((And.intro (hk.1.2.2.2.1) ((And.intro (hk.1.2.2.2.2.1) ((And.intro (hk.1.2.2.2.2.2.1) ((And.intro (hk.1.2.2.2.2.2.2.1) (hk.1.2.2.2.2.2.2.2)))))))))))))))⟩
         have n7_ : Aside0 (Kd.R (Kd.int .i64) 3 (w55.setCell ⟨gb1538, 1, none⟩ (.int .i64 (wrap64 (x1539001_1 + ((rd_T48 l0 x8_1).f1))))) w.heap.size (fun k_ => some k_ ≠ (.slice Ao33 x1536000_1.length co33 : Value).ownBlock ∧ some k_ ≠ (.slice Ao41 x1537000_1.length co41 : Value).ownBlock ∧ some k_ ≠ (.slice Ao49 x1538000_1.length co49 : Value).ownBlock ∧ some k_ ≠ (.slice Ao34 t1543.length co34 : Value).ownBlock ∧ some k_ ≠ (.slice Ao36 t1546.length co36 : Value).ownBlock ∧ some k_ ≠ (.slice Ao42 t1550.length co42 : Value).ownBlock ∧ some k_ ≠ (.slice Ao44 t1553.length co44 : Value).ownBlock ∧ some k_ ≠ (.slice Ao52 t1560.length co52 : Value).ownBlock) (.slice Ao50 t1557.length co50) t1557) := ⟨by (with_reducible repeat (first | apply Kd.R_alloc | apply Kd.R_drewN | apply Kd.R_drew)); exact Kd.R_mono (Kd.R_far (p := ⟨gb1538, 1, none⟩) (Kd.R_types HO1559.out BK1538.out (by decide)) (fun _ hk => hk.2) (.int .i64 (wrap64 (x1539001_1 + ((rd_T48 l0 x8_1).f1))))) (fun _ hk => (And.intro (hk.1.1) ((And.intro (hk.1.2.1) ((And.intro (hk.1.2.2.1) ((And.intro (hk.1.2.2.2.1) ((And.intro (hk.1.2.2.2.2.1) ((And.intro (hk.1.2.2.2.2.2.1) ((And.intro (hk.1.2.2.2.2.2.2.1) (hk.1.2.2.2.2.2.2.2)))))))))))))))⟩
         have n8_ : Aside0 (Kd.R (Kd.int .i64) 3 (w55.setCell ⟨gb1538, 1, none⟩ (.int .i64 (wrap64 (x1539001_1 + ((rd_T48 l0 x8_1).f1))))) w.heap.size (fun k_ => some k_ ≠ (.slice Ao33 x1536000_1.length co33 : Value).ownBlock ∧ some k_ ≠ (.slice Ao41 x1537000_1.length co41 : Value).ownBlock ∧ some k_ ≠ (.slice Ao49 x1538000_1.length co49 : Value).ownBlock ∧ some k_ ≠ (.slice Ao34 t1543.length co34 : Value).ownBlock ∧ some k_ ≠ (.slice Ao36 t1546.length co36 : Value).ownBlock ∧ some k_ ≠ (.slice Ao42 t1550.length co42 : Value).ownBlock ∧ some k_ ≠ (.slice Ao44 t1553.length co44 : Value).ownBlock ∧ some k_ ≠ (.slice Ao50 t1557.length co50 : Value).ownBlock) (.slice Ao52 t1560.length co52) t1560) := ⟨by (with_reducible repeat (first | apply Kd.R_alloc | apply Kd.R_drewN | apply Kd.R_drew)); exact Kd.R_mono (Kd.R_far (p := ⟨gb1538, 1, none⟩) (Kd.R_types HO1562.out BK1538.out (by decide)) (fun _ hk => hk.2) (.int .i64 (wrap64 (x1539001_1 + ((rd_T48 l0 x8_1).f1))))) (fun _ hk => (And.intro (hk.1.1) ((And.intro (hk.1.2.1) ((And.intro (hk.1.2.2.1) ((And.intro (hk.1.2.2.2.1) ((And.intro (hk.1.2.2.2.2.1) ((And.intro (hk.1.2.2.2.2.2.1) ((And.intro (hk.1.2.2.2.2.2.2.1) (hk.1.2.2.2.2.2.2.2)))))))))))))))⟩
         have n9_ : Aside0 ((w55.setCell ⟨gb1538, 1, none⟩ (.int .i64 (wrap64 (x1539001_1 + ((rd_T48 l0 x8_1).f1))))).heap[gb1534]? = some (.cells #[.int .i64 x1535000_1, .int .i64 x1535001_1, .int .i64 x1535002_1, .int .i64 x1535003_1, .int .i64 x1535004_1] 48 (0, 0))) := ⟨by refine blk_far ?_ NB1534_1538.out _; exact BK1534.out⟩
         have n10_ : Aside0 ((w55.setCell ⟨gb1538, 1, none⟩ (.int .i64 (wrap64 (x1539001_1 + ((rd_T48 l0 x8_1).f1))))).heap[gb1535]? = some (.cells #[.slice Ao36 t1546.length co36] 98 (0, 0))) := ⟨by refine blk_far ?_ NB1535_1538.out _; exact BK1535.out⟩
         have n11_ : Aside0 ((w55.setCell ⟨gb1538, 1, none⟩ (.int .i64 (wrap64 (x1539001_1 + ((rd_T48 l0 x8_1).f1))))).heap[gb1536]? = some (.cells #[.slice Ao44 t1553.length co44] 98 (0, 0))) := ⟨by refine blk_far ?_ NB1536_1538.out _; exact BK1536.out⟩
         have n12_ : Aside0 ((w55.setCell ⟨gb1538, 1, none⟩ (.int .i64 (wrap64 (x1539001_1 + ((rd_T48 l0 x8_1).f1))))).heap[gb1537]? = some (.cells #[.slice Ao52 t1560.length co52] 98 (0, 0))) := ⟨by refine blk_far ?_ NB1537_1538.out _; exact BK1537.out⟩
         have n13_ : Aside0 ((w55.setCell ⟨gb1538, 1, none⟩ (.int .i64 (wrap64 (x1539001_1 + ((rd_T48 l0 x8_1).f1))))).heap[gb1538]? = some (.cells #[.int .i64 0, .int .i64 (wrap64 (x1539001_1 + ((rd_T48 l0 x8_1).f1))), .int .i64 x1539002_1, .int .i64 x1539003_1, .int .i64 0] 48 (0, 0))) := ⟨by refine blk_put (cs := #[.int .i64 0, .int .i64 x1539001_1, .int .i64 x1539002_1, .int .i64 x1539003_1, .int .i64 0]) ?_ 1 _ rfl; exact BK1538.out⟩
         have n14_ : Aside0 (Below w.heap.size w (w55.setCell ⟨gb1538, 1, none⟩ (.int .i64 (wrap64 (x1539001_1 + ((rd_T48 l0 x8_1).f1)))))) := ⟨by repeat (with_reducible first | exact HB.out | apply bA_ | apply bN_ | apply bD_ | refine bS_ ?_ GE1534.out | refine bS_ ?_ GE1535.out | refine bS_ ?_ GE1536.out | refine bS_ ?_ GE1537.out | refine bS_ ?_ GE1538.out)⟩
         (try clear HO_1536000)
         (try clear HO_1537000)
         (try clear HO_1538000)
         (try clear HO1545)
         (try clear HO1548)
         (try clear HO1552)
         (try clear HO1555)
         (try clear HO1559)
         (try clear HO1562)
         (try clear BK1534)
         (try clear BK1535)
         (try clear BK1536)
         (try clear BK1537)
         (try clear BK1538)
         (try clear HB)
         generalize (w55.setCell ⟨gb1538, 1, none⟩ (.int .i64 (wrap64 (x1539001_1 + ((rd_T48 l0 x8_1).f1))))) = w57 at n0_ n1_ n2_ n3_ n4_ n5_ n6_ n7_ n8_ n9_ n10_ n11_ n12_ n13_ n14_ ⊢
         have HO_1536000 := n0_
         have HO_1537000 := n1_
         have HO_1538000 := n2_
         have HO1545 := n3_
         have HO1548 := n4_
         have HO1552 := n5_
         have HO1555 := n6_
         have HO1559 := n7_
         have HO1562 := n8_
         have BK1534 := n9_
         have BK1535 := n10_
         have BK1536 := n11_
         have BK1537 := n12_
         have BK1538 := n13_
         have HB := n14_
         clear n0_ n1_ n2_ n3_ n4_ n5_ n6_ n7_ n8_ n9_ n10_ n11_ n12_ n13_ n14_
         replace HO_1536000 := aA_ (Kd.R_drew HO_1536000.out)
         replace HO_1537000 := aA_ (Kd.R_drew HO_1537000.out)
         replace HO_1538000 := aA_ (Kd.R_drew HO_1538000.out)
         replace HO1545 := aA_ (Kd.R_drew HO1545.out)
         replace HO1548 := aA_ (Kd.R_drew HO1548.out)
         replace HO1552 := aA_ (Kd.R_drew HO1552.out)
         replace HO1555 := aA_ (Kd.R_drew HO1555.out)
         replace HO1559 := aA_ (Kd.R_drew HO1559.out)
         replace HO1562 := aA_ (Kd.R_drew HO1562.out)
         replace BK1534 := aA_ (blk_drew BK1534.out)
         replace BK1535 := aA_ (blk_drew BK1535.out)
         replace BK1536 := aA_ (blk_drew BK1536.out)
         replace BK1537 := aA_ (blk_drew BK1537.out)
         replace BK1538 := aA_ (blk_drew BK1538.out)
         replace HB := aA_ (below_drew1 HB.out)
         have p1564 : 0 ≤ (x8_1 : Int) := of_decide_eq_true (by first | (with_reducible assumption) | assumption)
         have q1564 : x8_1 < (l0.length : Int) := of_decide_eq_true (by first | (with_reducible assumption) | assumption)
         obtain ⟨ad1564, e1564, hx1564_0, hx1564_1, hx1564_2, hx1564_3, hx1564_4⟩ := at_T48 HR0.out x8_1 p1564 q1564
         have hw1564_4 := hx1564_4
         have hw1564_3 := hx1564_3
         have hw1564_2 := hx1564_2
         have hw1564_1 := hx1564_1
         have hw1564_0 := hx1564_0
         obtain rfl : ad1542 = ad1564 := (by injection e1564)
         replace hx1564_0 := cC_ HB hx1564_0
         replace hx1564_1 := cC_ HB hx1564_1
         replace hx1564_2 := cC_ HB hx1564_2
         replace hx1564_3 := cC_ HB hx1564_3
         replace hx1564_4 := cC_ HB hx1564_4
         replace p1564 := eq_true p1564
         replace q1564 := eq_true q1564
         refine start_ (n := 10) (S := fun w' => w'.cell? ⟨gb1538, 0, none⟩ = some (.int .i64 0) ∧ w'.cell? ⟨gb1538, 1, none⟩ = some (.int .i64 (wrap64 (x1539001_1 + ((rd_T48 l0 x8_1).f1)))) ∧ w'.cell? ⟨gb1538, 2, none⟩ = some (.int .i64 x1539002_1) ∧ w'.cell? ⟨gb1538, 3, none⟩ = some (.int .i64 x1539003_1) ∧ w'.cell? ⟨gb1538, 4, none⟩ = some (.int .i64 0) ∧ w'.cell? (ad1542.add ((x8_1).toNat * 5)) = some (.int .i64 ((rd_T48 l0 x8_1).f0)) ∧ w'.cell? ⟨(ad1542.add ((x8_1).toNat * 5)).block, (ad1542.add ((x8_1).toNat * 5)).off + 1, none⟩ = some (.int .i64 ((rd_T48 l0 x8_1).f1)) ∧ w'.cell? ⟨(ad1542.add ((x8_1).toNat * 5)).block, (ad1542.add ((x8_1).toNat * 5)).off + 2, none⟩ = some (.int .i64 ((rd_T48 l0 x8_1).f2)) ∧ w'.cell? ⟨(ad1542.add ((x8_1).toNat * 5)).block, (ad1542.add ((x8_1).toNat * 5)).off + 3, none⟩ = some (.int .i64 ((rd_T48 l0 x8_1).f3)) ∧ w'.cell? ⟨(ad1542.add ((x8_1).toNat * 5)).block, (ad1542.add ((x8_1).toNat * 5)).off + 4, none⟩ = some (.int .i64 ((rd_T48 l0 x8_1).f4))) (ds := [9]) (demurrageref21_Sums.ups 10 0) (by kernel_rfl) rfl rfl ⟨(blk_cell BK1538.out 0).trans rfl, (blk_cell BK1538.out 1).trans rfl, (blk_cell BK1538.out 2).trans rfl, (blk_cell BK1538.out 3).trans rfl, (blk_cell BK1538.out 4).trans rfl, ((HB.out.cell (World.block_lt_of_cell? w _ hw1564_0)).trans hw1564_0), ((HB.out.cell (World.block_lt_of_cell? w _ hw1564_1)).trans hw1564_1), ((HB.out.cell (World.block_lt_of_cell? w _ hw1564_2)).trans hw1564_2), ((HB.out.cell (World.block_lt_of_cell? w _ hw1564_3)).trans hw1564_3), ((HB.out.cell (World.block_lt_of_cell? w _ hw1564_4)).trans hw1564_4)⟩ (fun hHeld => ?_); refine with_tabW demurrageref21_Sums.tab14 demurrageref21_Sums.bits14 (fun HT_ HW_ => ?_)
         generalize w57.drew = w58 at HO_1536000 HO_1537000 HO_1538000 HO1545 HO1548 HO1552 HO1555 HO1559 HO1562 BK1534 BK1535 BK1536 BK1537 BK1538 HB hx1564_0 hx1564_1 hx1564_2 hx1564_3 hx1564_4 hHeld ⊢
         refine pure_ (i := 0) (N := some 73) (v := ?_) (a' := ?_) (demurrageref21_Sums.ups 10 1) rfl rfl (any_of HT_.out (by kernel_rfl)) (fun _ _ _ h => h) (Or.inl ⟨by rfl, ?_⟩) ?_ ?_
         rotate_left
         ·intro w'
          go_simp
          with_reducible rfl
         rotate_left
         ·simp only [Act.put, sT_, sZ_, sS_, i64_w, i32_w]
          rfl
         refine pure_ (i := 2) (N := some 75) (v := ?_) (a' := ?_) (demurrageref21_Sums.ups 10 5) rfl rfl (any_of HT_.out (by kernel_rfl)) (fun _ _ _ h => h) (Or.inl ⟨by rfl, ?_⟩) ?_ ?_
         rotate_left
         ·intro w'
          go_simp
          with_reducible rfl
         rotate_left
         ·simp only [Act.put, sT_, sZ_, sS_, i64_w, i32_w]
          rfl
         refine pure_ (i := 3) (N := some 76) (v := ?_) (a' := ?_) (demurrageref21_Sums.ups 10 13) rfl rfl (any_of HT_.out (by kernel_rfl)) (fun _ _ _ h => h) (Or.inl ⟨by rfl, ?_⟩) ?_ ?_
         rotate_left
         ·intro w'
          go_simp
          with_reducible rfl
         rotate_left
         ·simp only [Act.put, sT_, sZ_, sS_, i64_w, i32_w]
          rfl
         refine pure_ (i := 4) (N := some 77) (v := ?_) (a' := ?_) (demurrageref21_Sums.ups 10 29) rfl rfl (any_of HT_.out (by kernel_rfl)) (fun _ _ _ h => h) (Or.inl ⟨by rfl, ?_⟩) ?_ ?_
         rotate_left
         ·intro w'
          go_simp
          with_reducible rfl
         rotate_left
         ·simp only [Act.put, sT_, sZ_, sS_, i64_w, i32_w]
          rfl
         refine pure_ (i := 5) (N := some 78) (v := ?_) (a' := ?_) (demurrageref21_Sums.ups 10 61) rfl rfl (any_of HT_.out (by kernel_rfl)) (fun _ _ _ h => h) (Or.inl ⟨by rfl, ?_⟩) ?_ ?_
         rotate_left
         ·intro w'
          go_simp
          with_reducible rfl
         rotate_left
         ·simp only [Act.put, sT_, sZ_, sS_, i64_w, i32_w]
          rfl
         refine take_ (i := 1) (N := some 74) (v := ?_) (a' := ?_) (demurrageref21_Sums.ups 10 63) rfl rfl (take_ofW HT_.out HW_.out (by kernel_rfl)) (fun _ _ _ h => h) (Or.inl ⟨by rfl, ?_⟩) hHeld ?_ ?_
         rotate_left
         ·rintro w' ⟨s0, s1, s2, s3, s4, s5, s6, s7, s8, s9⟩
          go_simp
          with_reducible rfl
         rotate_left
         ·simp only [Act.put, sT_, sZ_, sS_, i64_w, i32_w]
          rfl
         refine take_ (i := 6) (N := some 79) (v := ?_) (a' := ?_) (demurrageref21_Sums.ups 10 127) rfl rfl (take_ofW HT_.out HW_.out (by kernel_rfl)) (fun _ _ _ h => h) (Or.inl ⟨by rfl, ?_⟩) hHeld ?_ ?_
         rotate_left
         ·rintro w' ⟨s0, s1, s2, s3, s4, s5, s6, s7, s8, s9⟩
          go_simp
          with_reducible rfl
         rotate_left
         ·simp only [Act.put, sT_, sZ_, sS_, i64_w, i32_w]
          rfl
         refine pure_ (i := 7) (N := some 80) (v := ?_) (a' := ?_) (demurrageref21_Sums.ups 10 255) rfl rfl (any_of HT_.out (by kernel_rfl)) (fun _ _ _ h => h) (Or.inl ⟨by rfl, ?_⟩) ?_ ?_
         rotate_left
         ·intro w'
          go_simp
          with_reducible rfl
         rotate_left
         ·simp only [Act.put, sT_, sZ_, sS_, i64_w, i32_w]
          rfl
         refine pure_ (i := 8) (N := some 81) (v := ?_) (a' := ?_) (demurrageref21_Sums.ups 10 511) rfl rfl (any_of HT_.out (by kernel_rfl)) (fun _ _ _ h => h) (Or.inl ⟨by rfl, ?_⟩) ?_ ?_
         rotate_left
         ·intro w'
          go_simp
          with_reducible rfl
         rotate_left
         ·simp only [Act.put, sT_, sZ_, sS_, i64_w, i32_w]
          rfl
         refine last_ (i := 9) (N := none) (demurrageref21_Sums.ups 10 1023) rfl rfl (one_of HT_.out (by kernel_rfl)) (by decide) (fun K hK => ?_)
         have hs59 : w58.cell? ⟨gb1538, 2, none⟩ = some (.int .i64 x1539002_1) := (blk_cell BK1538.out 2).trans rfl
         have hfs59 := blk_frozen BK1538.out 2
         have hns59_0 := NB1534_1538.out
         have hns59_1 := NB1535_1538.out
         have hns59_2 := NB1536_1538.out
         have hns59_3 := NB1537_1538.out
         have hms59_0 := NB1538_1534.out
         have hms59_1 := NB1538_1535.out
         have hms59_2 := NB1538_1536.out
         have hms59_3 := NB1538_1537.out
         refine skip_ (w1 := ?_) (by rfl) rfl ?_ ?_
         rotate_left
         ·go_simp
          rfl
         refine hK.out _ _ ?_
         clear hK K
         refine done_ (done_of HT_.out (by kernel_rfl)) ?_
         try go_wp2
         have n0_ : Aside0 (Kd.R (Kd.int .i64) 3 (w58.setCell ⟨gb1538, 2, none⟩ (.int .i64 (wrap64 (x1539002_1 + ((rd_T48 l0 x8_1).f2))))) w.heap.size (fun k_ => some k_ ≠ (.slice Ao41 x1537000_1.length co41 : Value).ownBlock ∧ some k_ ≠ (.slice Ao49 x1538000_1.length co49 : Value).ownBlock ∧ some k_ ≠ (.slice Ao34 t1543.length co34 : Value).ownBlock ∧ some k_ ≠ (.slice Ao36 t1546.length co36 : Value).ownBlock ∧ some k_ ≠ (.slice Ao42 t1550.length co42 : Value).ownBlock ∧ some k_ ≠ (.slice Ao44 t1553.length co44 : Value).ownBlock ∧ some k_ ≠ (.slice Ao50 t1557.length co50 : Value).ownBlock ∧ some k_ ≠ (.slice Ao52 t1560.length co52 : Value).ownBlock) (.slice Ao33 x1536000_1.length co33) x1536000_1) := ⟨by (with_reducible repeat (first | apply Kd.R_alloc | apply Kd.R_drewN | apply Kd.R_drew)); exact Kd.R_mono (Kd.R_far (p := ⟨gb1538, 2, none⟩) (Kd.R_types HO_1536000.out BK1538.out (by decide)) (fun _ hk => hk.2) (.int .i64 (wrap64 (x1539002_1 + ((rd_T48 l0 x8_1).f2))))) (fun _ hk => (And.intro (hk.1.1) ((And.intro (hk.1.2.1) ((And.intro (hk.1.2.2.1) ((And.intro (hk.1.2.2.2.1) ((And.intro (hk.1.2.2.2.2.1) ((And.intro (hk.1.2.2.2.2.2.1) ((And.intro (hk.1.2.2.2.2.2.2.1) (hk.1.2.2.2.2.2.2.2)))))))))))))))⟩
         have n1_ : Aside0 (Kd.R (Kd.int .i64) 3 (w58.setCell ⟨gb1538, 2, none⟩ (.int .i64 (wrap64 (x1539002_1 + ((rd_T48 l0 x8_1).f2))))) w.heap.size (fun k_ => some k_ ≠ (.slice Ao33 x1536000_1.length co33 : Value).ownBlock ∧ some k_ ≠ (.slice Ao49 x1538000_1.length co49 : Value).ownBlock ∧ some k_ ≠ (.slice Ao34 t1543.length co34 : Value).ownBlock ∧ some k_ ≠ (.slice Ao36 t1546.length co36 : Value).ownBlock ∧ some k_ ≠ (.slice Ao42 t1550.length co42 : Value).ownBlock ∧ some k_ ≠ (.slice Ao44 t1553.length co44 : Value).ownBlock ∧ some k_ ≠ (.slice Ao50 t1557.length co50 : Value).ownBlock ∧ some k_ ≠ (.slice Ao52 t1560.length co52 : Value).ownBlock) (.slice Ao41 x1537000_1.length co41) x1537000_1) := ⟨by (with_reducible repeat (first | apply Kd.R_alloc | apply Kd.R_drewN | apply Kd.R_drew)); exact Kd.R_mono (Kd.R_far (p := ⟨gb1538, 2, none⟩) (Kd.R_types HO_1537000.out BK1538.out (by decide)) (fun _ hk => hk.2) (.int .i64 (wrap64 (x1539002_1 + ((rd_T48 l0 x8_1).f2))))) (fun _ hk => (And.intro (hk.1.1) ((And.intro (hk.1.2.1) ((And.intro (hk.1.2.2.1) ((And.intro (hk.1.2.2.2.1) ((And.intro (hk.1.2.2.2.2.1) ((And.intro (hk.1.2.2.2.2.2.1) ((And.intro (hk.1.2.2.2.2.2.2.1) (hk.1.2.2.2.2.2.2.2)))))))))))))))⟩
         have n2_ : Aside0 (Kd.R (Kd.int .i64) 3 (w58.setCell ⟨gb1538, 2, none⟩ (.int .i64 (wrap64 (x1539002_1 + ((rd_T48 l0 x8_1).f2))))) w.heap.size (fun k_ => some k_ ≠ (.slice Ao33 x1536000_1.length co33 : Value).ownBlock ∧ some k_ ≠ (.slice Ao41 x1537000_1.length co41 : Value).ownBlock ∧ some k_ ≠ (.slice Ao34 t1543.length co34 : Value).ownBlock ∧ some k_ ≠ (.slice Ao36 t1546.length co36 : Value).ownBlock ∧ some k_ ≠ (.slice Ao42 t1550.length co42 : Value).ownBlock ∧ some k_ ≠ (.slice Ao44 t1553.length co44 : Value).ownBlock ∧ some k_ ≠ (.slice Ao50 t1557.length co50 : Value).ownBlock ∧ some k_ ≠ (.slice Ao52 t1560.length co52 : Value).ownBlock) (.slice Ao49 x1538000_1.length co49) x1538000_1) := ⟨by (with_reducible repeat (first | apply Kd.R_alloc | apply Kd.R_drewN | apply Kd.R_drew)); exact Kd.R_mono (Kd.R_far (p := ⟨gb1538, 2, none⟩) (Kd.R_types HO_1538000.out BK1538.out (by decide)) (fun _ hk => hk.2) (.int .i64 (wrap64 (x1539002_1 + ((rd_T48 l0 x8_1).f2))))) (fun _ hk => (And.intro (hk.1.1) ((And.intro (hk.1.2.1) ((And.intro (hk.1.2.2.1) ((And.intro (hk.1.2.2.2.1) ((And.intro (hk.1.2.2.2.2.1) ((And.intro (hk.1.2.2.2.2.2.1) ((And.intro (hk.1.2.2.2.2.2.2.1) (hk.1.2.2.2.2.2.2.2)))))))))))))))⟩
         have n3_ : Aside0 (Kd.R (Kd.int .i64) 3 (w58.setCell ⟨gb1538, 2, none⟩ (.int .i64 (wrap64 (x1539002_1 + ((rd_T48 l0 x8_1).f2))))) w.heap.size (fun k_ => some k_ ≠ (.slice Ao33 x1536000_1.length co33 : Value).ownBlock ∧ some k_ ≠ (.slice Ao41 x1537000_1.length co41 : Value).ownBlock ∧ some k_ ≠ (.slice Ao49 x1538000_1.length co49 : Value).ownBlock ∧ some k_ ≠ (.slice Ao36 t1546.length co36 : Value).ownBlock ∧ some k_ ≠ (.slice Ao42 t1550.length co42 : Value).ownBlock ∧ some k_ ≠ (.slice Ao44 t1553.length co44 : Value).ownBlock ∧ some k_ ≠ (.slice Ao50 t1557.length co50 : Value).ownBlock ∧ some k_ ≠ (.slice Ao52 t1560.length co52 : Value).ownBlock) (.slice Ao34 t1543.length co34) t1543) := ⟨by (with_reducible repeat (first | apply Kd.R_alloc | apply Kd.R_drewN | apply Kd.R_drew)); exact Kd.R_mono (Kd.R_far (p := ⟨gb1538, 2, none⟩) (Kd.R_types HO1545.out BK1538.out (by decide)) (fun _ hk => hk.2) (.int .i64 (wrap64 (x1539002_1 + ((rd_T48 l0 x8_1).f2))))) (fun _ hk => (And.intro (hk.1.1) ((And.intro (hk.1.2.1) ((And.intro (hk.1.2.2.1) ((And.intro (hk.1.2.2.2.1) ((And.intro (hk.1.2.2.2.2.1) ((And.intro (hk.1.2.2.2.2.2.1) ((And.intro (hk.1.2.2.2.2.2.2.1) (hk.1.2.2.2.2.2.2.2)))))))))))))))⟩
         have n4_ : Aside0 (Kd.R (Kd.int .i64) 3 (w58.setCell ⟨gb1538, 2, none⟩ (.int .i64 (wrap64 (x1539002_1 + ((rd_T48 l0 x8_1).f2))))) w.heap.size (fun k_ => some k_ ≠ (.slice Ao33 x1536000_1.length co33 : Value).ownBlock ∧ some k_ ≠ (.slice Ao41 x1537000_1.length co41 : Value).ownBlock ∧ some k_ ≠ (.slice Ao49 x1538000_1.length co49 : Value).ownBlock ∧ some k_ ≠ (.slice Ao34 t1543.length co34 : Value).ownBlock ∧ some k_ ≠ (.slice Ao42 t1550.length co42 : Value).ownBlock ∧ some k_ ≠ (.slice Ao44 t1553.length co44 : Value).ownBlock ∧ some k_ ≠ (.slice Ao50 t1557.length co50 : Value).ownBlock ∧ some k_ ≠ (.slice Ao52 t1560.length co52 : Value).ownBlock) (.slice Ao36 t1546.length co36) t1546) := ⟨by (with_reducible repeat (first | apply Kd.R_alloc | apply Kd.R_drewN | apply Kd.R_drew)); exact Kd.R_mono (Kd.R_far (p := ⟨gb1538, 2, none⟩) (Kd.R_types HO1548.out BK1538.out (by decide)) (fun _ hk => hk.2) (.int .i64 (wrap64 (x1539002_1 + ((rd_T48 l0 x8_1).f2))))) (fun _ hk => (And.intro (hk.1.1) ((And.intro (hk.1.2.1) ((And.intro (hk.1.2.2.1) ((And.intro (hk.1.2.2.2.1) ((And.intro (hk.1.2.2.2.2.1) ((And.intro (hk.1.2.2.2.2.2.1) ((And.intro (hk.1.2.2.2.2.2.2.1) (hk.1.2.2.2.2.2.2.2)))))))))))))))⟩
         have n5_ : Aside0 (Kd.R (Kd.int .i64) 3 (w58.setCell ⟨gb1538, 2, none⟩ (.int .i64 (wrap64 (x1539002_1 + ((rd_T48 l0 x8_1).f2))))) w.heap.size (fun k_ => some k_ ≠ (.slice Ao33 x1536000_1.length co33 : Value).ownBlock ∧ some k_ ≠ (.slice Ao41 x1537000_1.length co41 : Value).ownBlock ∧ some k_ ≠ (.slice Ao49 x1538000_1.length co49 : Value).ownBlock ∧ some k_ ≠ (.slice Ao34 t1543.length co34 : Value).ownBlock ∧ some k_ ≠ (.slice Ao36 t1546.length co36 : Value).ownBlock ∧ some k_ ≠ (.slice Ao44 t1553.length co44 : Value).ownBlock ∧ some k_ ≠ (.slice Ao50 t1557.length co50 : Value).ownBlock ∧ some k_ ≠ (.slice Ao52 t1560.length co52 : Value).ownBlock) (.slice Ao42 t1550.length co42) t1550) := ⟨by (with_reducible repeat (first | apply Kd.R_alloc | apply Kd.R_drewN | apply Kd.R_drew)); exact Kd.R_mono (Kd.R_far (p := ⟨gb1538, 2, none⟩) (Kd.R_types HO1552.out BK1538.out (by decide)) (fun _ hk => hk.2) (.int .i64 (wrap64 (x1539002_1 + ((rd_T48 l0 x8_1).f2))))) (fun _ hk => (And.intro (hk.1.1) ((And.intro (hk.1.2.1) ((And.intro (hk.1.2.2.1) ((And.intro (hk.1.2.2.2.1) ((And.intro (hk.1.2.2.2.2.1) ((And.intro (hk.1.2.2.2.2.2.1) ((And.intro (hk.1.2.2.2.2.2.2.1) (hk.1.2.2.2.2.2.2.2)))))))))))))))⟩
         have n6_ : Aside0 (Kd.R (Kd.int .i64) 3 (w58.setCell ⟨gb1538, 2, none⟩ (.int .i64 (wrap64 (x1539002_1 + ((rd_T48 l0 x8_1).f2))))) w.heap.size (fun k_ => some k_ ≠ (.slice Ao33 x1536000_1.length co33 : Value).ownBlock ∧ some k_ ≠ (.slice Ao41 x1537000_1.length co41 : Value).ownBlock ∧ some k_ ≠ (.slice Ao49 x1538000_1.length co49 : Value).ownBlock ∧ some k_ ≠ (.slice Ao34 t1543.length co34 : Value).ownBlock ∧ some k_ ≠ (.slice Ao36 t1546.length co36 : Value).ownBlock ∧ some k_ ≠ (.slice Ao42 t1550.length co42 : Value).ownBlock ∧ some k_ ≠ (.slice Ao50 t1557.length co50 : Value).ownBlock ∧ some k_ ≠ (.slice Ao52 t1560.length co52 : Value).ownBlock) (.slice Ao44 t1553.length co44) t1553) := ⟨by (with_reducible repeat (first | apply Kd.R_alloc | apply Kd.R_drewN | apply Kd.R_drew)); exact Kd.R_mono (Kd.R_far (p := ⟨gb1538, 2, none⟩) (Kd.R_types HO1555.out BK1538.out (by decide)) (fun _ hk => hk.2) (.int .i64 (wrap64 (x1539002_1 + ((rd_T48 l0 x8_1).f2))))) (fun _ hk => (And.intro (hk.1.1) ((And.intro (hk.1.2.1) ((And.intro (hk.1.2.2.1) ((And.intro (hk.1.2.2.2.1) ((And.intro (hk.1.2.2.2.2.1) ((And.intro (hk.1.2.2.2.2.2.1) ((And.intro (hk.1.2.2.2.2.2.2.1) (hk.1.2.2.2.2.2.2.2)))))))))))))))⟩
         have n7_ : Aside0 (Kd.R (Kd.int .i64) 3 (w58.setCell ⟨gb1538, 2, none⟩ (.int .i64 (wrap64 (x1539002_1 + ((rd_T48 l0 x8_1).f2))))) w.heap.size (fun k_ => some k_ ≠ (.slice Ao33 x1536000_1.length co33 : Value).ownBlock ∧ some k_ ≠ (.slice Ao41 x1537000_1.length co41 : Value).ownBlock ∧ some k_ ≠ (.slice Ao49 x1538000_1.length co49 : Value).ownBlock ∧ some k_ ≠ (.slice Ao34 t1543.length co34 : Value).ownBlock ∧ some k_ ≠ (.slice Ao36 t1546.length co36 : Value).ownBlock ∧ some k_ ≠ (.slice Ao42 t1550.length co42 : Value).ownBlock ∧ some k_ ≠ (.slice Ao44 t1553.length co44 : Value).ownBlock ∧ some k_ ≠ (.slice Ao52 t1560.length co52 : Value).ownBlock) (.slice Ao50 t1557.length co50) t1557) := ⟨by (with_reducible repeat (first | apply Kd.R_alloc | apply Kd.R_drewN | apply Kd.R_drew)); exact Kd.R_mono (Kd.R_far (p := ⟨gb1538, 2, none⟩) (Kd.R_types HO1559.out BK1538.out (by decide)) (fun _ hk => hk.2) (.int .i64 (wrap64 (x1539002_1 + ((rd_T48 l0 x8_1).f2))))) (fun _ hk => (And.intro (hk.1.1) ((And.intro (hk.1.2.1) ((And.intro (hk.1.2.2.1) ((And.intro (hk.1.2.2.2.1) ((And.intro (hk.1.2.2.2.2.1) ((And.intro (hk.1.2.2.2.2.2.1) ((And.intro (hk.1.2.2.2.2.2.2.1) (hk.1.2.2.2.2.2.2.2)))))))))))))))⟩
         have n8_ : Aside0 (Kd.R (Kd.int .i64) 3 (w58.setCell ⟨gb1538, 2, none⟩ (.int .i64 (wrap64 (x1539002_1 + ((rd_T48 l0 x8_1).f2))))) w.heap.size (fun k_ => some k_ ≠ (.slice Ao33 x1536000_1.length co33 : Value).ownBlock ∧ some k_ ≠ (.slice Ao41 x1537000_1.length co41 : Value).ownBlock ∧ some k_ ≠ (.slice Ao49 x1538000_1.length co49 : Value).ownBlock ∧ some k_ ≠ (.slice Ao34 t1543.length co34 : Value).ownBlock ∧ some k_ ≠ (.slice Ao36 t1546.length co36 : Value).ownBlock ∧ some k_ ≠ (.slice Ao42 t1550.length co42 : Value).ownBlock ∧ some k_ ≠ (.slice Ao44 t1553.length co44 : Value).ownBlock ∧ some k_ ≠ (.slice Ao50 t1557.length co50 : Value).ownBlock) (.slice Ao52 t1560.length co52) t1560) := ⟨by (with_reducible repeat (first | apply Kd.R_alloc | apply Kd.R_drewN | apply Kd.R_drew)); exact Kd.R_mono (Kd.R_far (p := ⟨gb1538, 2, none⟩) (Kd.R_types HO1562.out BK1538.out (by decide)) (fun _ hk => hk.2) (.int .i64 (wrap64 (x1539002_1 + ((rd_T48 l0 x8_1).f2))))) (fun _ hk => (And.intro (hk.1.1) ((And.intro (hk.1.2.1) ((And.intro (hk.1.2.2.1) ((And.intro (hk.1.2.2.2.1) ((And.intro (hk.1.2.2.2.2.1) ((And.intro (hk.1.2.2.2.2.2.1) ((And.intro (hk.1.2.2.2.2.2.2.1) (hk.1.2.2.2.2.2.2.2)))))))))))))))⟩
         have n9_ : Aside0 ((w58.setCell ⟨gb1538, 2, none⟩ (.int .i64 (wrap64 (x1539002_1 + ((rd_T48 l0 x8_1).f2))))).heap[gb1534]? = some (.cells #[.int .i64 x1535000_1, .int .i64 x1535001_1, .int .i64 x1535002_1, .int .i64 x1535003_1, .int .i64 x1535004_1] 48 (0, 0))) := ⟨by refine blk_far ?_ NB1534_1538.out _; exact BK1534.out⟩
         have n10_ : Aside0 ((w58.setCell ⟨gb1538, 2, none⟩ (.int .i64 (wrap64 (x1539002_1 + ((rd_T48 l0 x8_1).f2))))).heap[gb1535]? = some (.cells #[.slice Ao36 t1546.length co36] 98 (0, 0))) := ⟨by refine blk_far ?_ NB1535_1538.out _; exact BK1535.out⟩
         have n11_ : Aside0 ((w58.setCell ⟨gb1538, 2, none⟩ (.int .i64 (wrap64 (x1539002_1 + ((rd_T48 l0 x8_1).f2))))).heap[gb1536]? = some (.cells #[.slice Ao44 t1553.length co44] 98 (0, 0))) := ⟨by refine blk_far ?_ NB1536_1538.out _; exact BK1536.out⟩
         have n12_ : Aside0 ((w58.setCell ⟨gb1538, 2, none⟩ (.int .i64 (wrap64 (x1539002_1 + ((rd_T48 l0 x8_1).f2))))).heap[gb1537]? = some (.cells #[.slice Ao52 t1560.length co52] 98 (0, 0))) := ⟨by refine blk_far ?_ NB1537_1538.out _; exact BK1537.out⟩
         have n13_ : Aside0 ((w58.setCell ⟨gb1538, 2, none⟩ (.int .i64 (wrap64 (x1539002_1 + ((rd_T48 l0 x8_1).f2))))).heap[gb1538]? = some (.cells #[.int .i64 0, .int .i64 (wrap64 (x1539001_1 + ((rd_T48 l0 x8_1).f1))), .int .i64 (wrap64 (x1539002_1 + ((rd_T48 l0 x8_1).f2))), .int .i64 x1539003_1, .int .i64 0] 48 (0, 0))) := ⟨by refine blk_put (cs := #[.int .i64 0, .int .i64 (wrap64 (x1539001_1 + ((rd_T48 l0 x8_1).f1))), .int .i64 x1539002_1, .int .i64 x1539003_1, .int .i64 0]) ?_ 2 _ rfl; exact BK1538.out⟩
         have n14_ : Aside0 (Below w.heap.size w (w58.setCell ⟨gb1538, 2, none⟩ (.int .i64 (wrap64 (x1539002_1 + ((rd_T48 l0 x8_1).f2)))))) := ⟨by repeat (with_reducible first | exact HB.out | apply bA_ | apply bN_ | apply bD_ | refine bS_ ?_ GE1534.out | refine bS_ ?_ GE1535.out | refine bS_ ?_ GE1536.out | refine bS_ ?_ GE1537.out | refine bS_ ?_ GE1538.out)⟩
         (try clear HO_1536000)
         (try clear HO_1537000)
         (try clear HO_1538000)
         (try clear HO1545)
         (try clear HO1548)
         (try clear HO1552)
         (try clear HO1555)
         (try clear HO1559)
         (try clear HO1562)
         (try clear BK1534)
         (try clear BK1535)
         (try clear BK1536)
         (try clear BK1537)
         (try clear BK1538)
         (try clear HB)
         generalize (w58.setCell ⟨gb1538, 2, none⟩ (.int .i64 (wrap64 (x1539002_1 + ((rd_T48 l0 x8_1).f2))))) = w60 at n0_ n1_ n2_ n3_ n4_ n5_ n6_ n7_ n8_ n9_ n10_ n11_ n12_ n13_ n14_ ⊢
         have HO_1536000 := n0_
         have HO_1537000 := n1_
         have HO_1538000 := n2_
         have HO1545 := n3_
         have HO1548 := n4_
         have HO1552 := n5_
         have HO1555 := n6_
         have HO1559 := n7_
         have HO1562 := n8_
         have BK1534 := n9_
         have BK1535 := n10_
         have BK1536 := n11_
         have BK1537 := n12_
         have BK1538 := n13_
         have HB := n14_
         clear n0_ n1_ n2_ n3_ n4_ n5_ n6_ n7_ n8_ n9_ n10_ n11_ n12_ n13_ n14_
         replace HO_1536000 := aA_ (Kd.R_drew HO_1536000.out)
         replace HO_1537000 := aA_ (Kd.R_drew HO_1537000.out)
         replace HO_1538000 := aA_ (Kd.R_drew HO_1538000.out)
         replace HO1545 := aA_ (Kd.R_drew HO1545.out)
         replace HO1548 := aA_ (Kd.R_drew HO1548.out)
         replace HO1552 := aA_ (Kd.R_drew HO1552.out)
         replace HO1555 := aA_ (Kd.R_drew HO1555.out)
         replace HO1559 := aA_ (Kd.R_drew HO1559.out)
         replace HO1562 := aA_ (Kd.R_drew HO1562.out)
         replace BK1534 := aA_ (blk_drew BK1534.out)
         replace BK1535 := aA_ (blk_drew BK1535.out)
         replace BK1536 := aA_ (blk_drew BK1536.out)
         replace BK1537 := aA_ (blk_drew BK1537.out)
         replace BK1538 := aA_ (blk_drew BK1538.out)
         replace HB := aA_ (below_drew1 HB.out)
         have p1565 : 0 ≤ (x8_1 : Int) := of_decide_eq_true (by first | (with_reducible assumption) | assumption)
         have q1565 : x8_1 < (l0.length : Int) := of_decide_eq_true (by first | (with_reducible assumption) | assumption)
         obtain ⟨ad1565, e1565, hx1565_0, hx1565_1, hx1565_2, hx1565_3, hx1565_4⟩ := at_T48 HR0.out x8_1 p1565 q1565
         have hw1565_4 := hx1565_4
         have hw1565_3 := hx1565_3
         have hw1565_2 := hx1565_2
         have hw1565_1 := hx1565_1
         have hw1565_0 := hx1565_0
         obtain rfl : ad1542 = ad1565 := (by injection e1565)
         replace hx1565_0 := cC_ HB hx1565_0
         replace hx1565_1 := cC_ HB hx1565_1
         replace hx1565_2 := cC_ HB hx1565_2
         replace hx1565_3 := cC_ HB hx1565_3
         replace hx1565_4 := cC_ HB hx1565_4
         replace p1565 := eq_true p1565
         replace q1565 := eq_true q1565
         refine start_ (n := 10) (S := fun w' => w'.cell? ⟨gb1538, 0, none⟩ = some (.int .i64 0) ∧ w'.cell? ⟨gb1538, 1, none⟩ = some (.int .i64 (wrap64 (x1539001_1 + ((rd_T48 l0 x8_1).f1)))) ∧ w'.cell? ⟨gb1538, 2, none⟩ = some (.int .i64 (wrap64 (x1539002_1 + ((rd_T48 l0 x8_1).f2)))) ∧ w'.cell? ⟨gb1538, 3, none⟩ = some (.int .i64 x1539003_1) ∧ w'.cell? ⟨gb1538, 4, none⟩ = some (.int .i64 0) ∧ w'.cell? (ad1542.add ((x8_1).toNat * 5)) = some (.int .i64 ((rd_T48 l0 x8_1).f0)) ∧ w'.cell? ⟨(ad1542.add ((x8_1).toNat * 5)).block, (ad1542.add ((x8_1).toNat * 5)).off + 1, none⟩ = some (.int .i64 ((rd_T48 l0 x8_1).f1)) ∧ w'.cell? ⟨(ad1542.add ((x8_1).toNat * 5)).block, (ad1542.add ((x8_1).toNat * 5)).off + 2, none⟩ = some (.int .i64 ((rd_T48 l0 x8_1).f2)) ∧ w'.cell? ⟨(ad1542.add ((x8_1).toNat * 5)).block, (ad1542.add ((x8_1).toNat * 5)).off + 3, none⟩ = some (.int .i64 ((rd_T48 l0 x8_1).f3)) ∧ w'.cell? ⟨(ad1542.add ((x8_1).toNat * 5)).block, (ad1542.add ((x8_1).toNat * 5)).off + 4, none⟩ = some (.int .i64 ((rd_T48 l0 x8_1).f4))) (ds := [9]) (demurrageref21_Sums.ups 10 0) (by kernel_rfl) rfl rfl ⟨(blk_cell BK1538.out 0).trans rfl, (blk_cell BK1538.out 1).trans rfl, (blk_cell BK1538.out 2).trans rfl, (blk_cell BK1538.out 3).trans rfl, (blk_cell BK1538.out 4).trans rfl, ((HB.out.cell (World.block_lt_of_cell? w _ hw1565_0)).trans hw1565_0), ((HB.out.cell (World.block_lt_of_cell? w _ hw1565_1)).trans hw1565_1), ((HB.out.cell (World.block_lt_of_cell? w _ hw1565_2)).trans hw1565_2), ((HB.out.cell (World.block_lt_of_cell? w _ hw1565_3)).trans hw1565_3), ((HB.out.cell (World.block_lt_of_cell? w _ hw1565_4)).trans hw1565_4)⟩ (fun hHeld => ?_); refine with_tabW demurrageref21_Sums.tab15 demurrageref21_Sums.bits15 (fun HT_ HW_ => ?_)
         generalize w60.drew = w61 at HO_1536000 HO_1537000 HO_1538000 HO1545 HO1548 HO1552 HO1555 HO1559 HO1562 BK1534 BK1535 BK1536 BK1537 BK1538 HB hx1565_0 hx1565_1 hx1565_2 hx1565_3 hx1565_4 hHeld ⊢
         refine pure_ (i := 0) (N := some 82) (v := ?_) (a' := ?_) (demurrageref21_Sums.ups 10 1) rfl rfl (any_of HT_.out (by kernel_rfl)) (fun _ _ _ h => h) (Or.inl ⟨by rfl, ?_⟩) ?_ ?_
         rotate_left
         ·intro w'
          go_simp
          with_reducible rfl
         rotate_left
         ·simp only [Act.put, sT_, sZ_, sS_, i64_w, i32_w]
          rfl
         refine pure_ (i := 2) (N := some 84) (v := ?_) (a' := ?_) (demurrageref21_Sums.ups 10 5) rfl rfl (any_of HT_.out (by kernel_rfl)) (fun _ _ _ h => h) (Or.inl ⟨by rfl, ?_⟩) ?_ ?_
         rotate_left
         ·intro w'
          go_simp
          with_reducible rfl
         rotate_left
         ·simp only [Act.put, sT_, sZ_, sS_, i64_w, i32_w]
          rfl
         refine pure_ (i := 3) (N := some 85) (v := ?_) (a' := ?_) (demurrageref21_Sums.ups 10 13) rfl rfl (any_of HT_.out (by kernel_rfl)) (fun _ _ _ h => h) (Or.inl ⟨by rfl, ?_⟩) ?_ ?_
         rotate_left
         ·intro w'
          go_simp
          with_reducible rfl
         rotate_left
         ·simp only [Act.put, sT_, sZ_, sS_, i64_w, i32_w]
          rfl
         refine pure_ (i := 4) (N := some 86) (v := ?_) (a' := ?_) (demurrageref21_Sums.ups 10 29) rfl rfl (any_of HT_.out (by kernel_rfl)) (fun _ _ _ h => h) (Or.inl ⟨by rfl, ?_⟩) ?_ ?_
         rotate_left
         ·intro w'
          go_simp
          with_reducible rfl
         rotate_left
         ·simp only [Act.put, sT_, sZ_, sS_, i64_w, i32_w]
          rfl
         refine pure_ (i := 5) (N := some 87) (v := ?_) (a' := ?_) (demurrageref21_Sums.ups 10 61) rfl rfl (any_of HT_.out (by kernel_rfl)) (fun _ _ _ h => h) (Or.inl ⟨by rfl, ?_⟩) ?_ ?_
         rotate_left
         ·intro w'
          go_simp
          with_reducible rfl
         rotate_left
         ·simp only [Act.put, sT_, sZ_, sS_, i64_w, i32_w]
          rfl
         refine take_ (i := 1) (N := some 83) (v := ?_) (a' := ?_) (demurrageref21_Sums.ups 10 63) rfl rfl (take_ofW HT_.out HW_.out (by kernel_rfl)) (fun _ _ _ h => h) (Or.inl ⟨by rfl, ?_⟩) hHeld ?_ ?_
         rotate_left
         ·rintro w' ⟨s0, s1, s2, s3, s4, s5, s6, s7, s8, s9⟩
          go_simp
          with_reducible rfl
         rotate_left
         ·simp only [Act.put, sT_, sZ_, sS_, i64_w, i32_w]
          rfl
         refine take_ (i := 6) (N := some 88) (v := ?_) (a' := ?_) (demurrageref21_Sums.ups 10 127) rfl rfl (take_ofW HT_.out HW_.out (by kernel_rfl)) (fun _ _ _ h => h) (Or.inl ⟨by rfl, ?_⟩) hHeld ?_ ?_
         rotate_left
         ·rintro w' ⟨s0, s1, s2, s3, s4, s5, s6, s7, s8, s9⟩
          go_simp
          with_reducible rfl
         rotate_left
         ·simp only [Act.put, sT_, sZ_, sS_, i64_w, i32_w]
          rfl
         refine pure_ (i := 7) (N := some 89) (v := ?_) (a' := ?_) (demurrageref21_Sums.ups 10 255) rfl rfl (any_of HT_.out (by kernel_rfl)) (fun _ _ _ h => h) (Or.inl ⟨by rfl, ?_⟩) ?_ ?_
         rotate_left
         ·intro w'
          go_simp
          with_reducible rfl
         rotate_left
         ·simp only [Act.put, sT_, sZ_, sS_, i64_w, i32_w]
          rfl
         refine pure_ (i := 8) (N := some 90) (v := ?_) (a' := ?_) (demurrageref21_Sums.ups 10 511) rfl rfl (any_of HT_.out (by kernel_rfl)) (fun _ _ _ h => h) (Or.inl ⟨by rfl, ?_⟩) ?_ ?_
         rotate_left
         ·intro w'
          go_simp
          with_reducible rfl
         rotate_left
         ·simp only [Act.put, sT_, sZ_, sS_, i64_w, i32_w]
          rfl
         refine last_ (i := 9) (N := none) (demurrageref21_Sums.ups 10 1023) rfl rfl (one_of HT_.out (by kernel_rfl)) (by decide) (fun K hK => ?_)
         have hs62 : w61.cell? ⟨gb1538, 3, none⟩ = some (.int .i64 x1539003_1) := (blk_cell BK1538.out 3).trans rfl
         have hfs62 := blk_frozen BK1538.out 3
         have hns62_0 := NB1534_1538.out
         have hns62_1 := NB1535_1538.out
         have hns62_2 := NB1536_1538.out
         have hns62_3 := NB1537_1538.out
         have hms62_0 := NB1538_1534.out
         have hms62_1 := NB1538_1535.out
         have hms62_2 := NB1538_1536.out
         have hms62_3 := NB1538_1537.out
         refine skip_ (w1 := ?_) (by rfl) rfl ?_ ?_
         rotate_left
         ·go_simp
          rfl
         refine hK.out _ _ ?_
         clear hK K
         refine done_ (done_of HT_.out (by kernel_rfl)) ?_
         try go_wp2
         go_roundg kj12
         case measure => have := HK1.out; have := HJ12.out; omega
         case rel => exact ⟨(wrap64 (x8_1 + 1)), (x1535000_1), (x1535001_1), (x1535002_1), (x1535003_1), (x1535004_1), (t1546), (t1553), (t1560), (wrap64 (x1539001_1 + ((rd_T48 l0 x8_1).f1))), (wrap64 (x1539002_1 + ((rd_T48 l0 x8_1).f2))), (wrap64 (x1539003_1 + ((rd_T48 l0 x8_1).f3))), (.slice Ao36 t1546.length co36), (.slice Ao44 t1553.length co44), (.slice Ao52 t1560.length co52), (by first | rfl | simp | simp [*]), H', ⟨by have := HK1.out; have := HJ12.out; omega⟩, ⟨by (with_reducible repeat (first | apply Kd.R_alloc | apply Kd.R_drewN | apply Kd.R_drew)); exact Kd.R_mono (Kd.R_far (p := ⟨gb1538, 3, none⟩) (Kd.R_types HO1548.out BK1538.out (by decide)) (fun _ hk => hk.2) (.int .i64 (wrap64 (x1539003_1 + ((rd_T48 l0 x8_1).f3))))) (fun _ hk => (And.intro (hk.1.2.2.2.2.2.1) (hk.1.2.2.2.2.2.2.2)))⟩, ⟨by (with_reducible repeat (first | apply Kd.R_alloc | apply Kd.R_drewN | apply Kd.R_drew)); exact Kd.R_mono (Kd.R_far (p := ⟨gb1538, 3, none⟩) (Kd.R_types HO1555.out BK1538.out (by decide)) (fun _ hk => hk.2) (.int .i64 (wrap64 (x1539003_1 + ((rd_T48 l0 x8_1).f3))))) (fun _ hk => (And.intro (hk.1.2.2.2.2.1) (hk.1.2.2.2.2.2.2.2)))⟩, ⟨by (with_reducible repeat (first | apply Kd.R_alloc | apply Kd.R_drewN | apply Kd.R_drew)); exact Kd.R_mono (Kd.R_far (p := ⟨gb1538, 3, none⟩) (Kd.R_types HO1562.out BK1538.out (by decide)) (fun _ hk => hk.2) (.int .i64 (wrap64 (x1539003_1 + ((rd_T48 l0 x8_1).f3))))) (fun _ hk => (And.intro (hk.1.2.2.2.2.1) (hk.1.2.2.2.2.2.2.1)))⟩, ⟨by refine blk_far ?_ NB1534_1538.out _; exact BK1534.out⟩, ⟨by refine blk_far ?_ NB1535_1538.out _; exact BK1535.out⟩, ⟨by refine blk_far ?_ NB1536_1538.out _; exact BK1536.out⟩, ⟨by refine blk_far ?_ NB1537_1538.out _; exact BK1537.out⟩, ⟨by refine blk_put (cs := #[.int .i64 0, .int .i64 (wrap64 (x1539001_1 + ((rd_T48 l0 x8_1).f1))), .int .i64 (wrap64 (x1539002_1 + ((rd_T48 l0 x8_1).f2))), .int .i64 x1539003_1, .int .i64 0]) ?_ 3 _ rfl; exact BK1538.out⟩, ⟨by repeat (with_reducible first | exact HB.out | apply bA_ | apply bN_ | apply bD_ | refine bS_ ?_ GE1534.out | refine bS_ ?_ GE1535.out | refine bS_ ?_ GE1536.out | refine bS_ ?_ GE1537.out | refine bS_ ?_ GE1538.out)⟩⟩
        ·rw [if_neg c24] at H
         exact absurd H (by simp)
       ·rw [if_neg c23] at H
        exact absurd H (by simp)
   ·rw [if_neg c12] at H
    have c12b0 : decide (x8_1 < (l0.length : Int)) = false := decide_eq_false c12
    clear c12
    replace H := bI_ H
    obtain ⟨t1566, A630, H⟩ := H
    (try dsimp only at H)
    have A63 := aA_ A630
    clear A630
    have HC64 := aA_ H
    clear H
    go_upto_region 17 with (first | (refine goesL_ (some 91) rfl rfl Try.func49 (by kernel_rfl) rfl #[.int .i64 4611686018427387904] rfl (by (try simp only [mT_, mC_, mN_]); first | done | rfl) ?_; (with_reducible refine (demurrageref01_From.calls k1 4611686018427387904 t1566 _ A63.out).mono ?_); rintro e w65 ⟨v1567, rfl, ho0, hb⟩; refine ⟨_, rfl, ?_⟩; have HO1568 := aA_ (Kd.R_lower (Kd.R_new' (Kd.R_new' (Kd.R_new' ho0 (Kd.R_lt HO_1536000.out)) (Kd.R_lt HO_1537000.out)) (Kd.R_lt HO_1538000.out)) (below_size (by repeat (with_reducible first | exact HB.out | apply bA_ | apply bN_ | apply bD_ | refine bS_ ?_ GE1534.out | refine bS_ ?_ GE1535.out | refine bS_ ?_ GE1536.out | refine bS_ ?_ GE1537.out | refine bS_ ?_ GE1538.out)))); replace HO_1536000 := aA_ (Kd.R_elder' HO_1536000.out (Kd.R_base ho0) hb); replace HO_1537000 := aA_ (Kd.R_elder' HO_1537000.out (Kd.R_base ho0) hb); replace HO_1538000 := aA_ (Kd.R_elder' HO_1538000.out (Kd.R_base ho0) hb); replace BK1534 := bK_ BK1534 hb; replace BK1535 := bK_ BK1535 hb; replace BK1536 := bK_ BK1536 hb; replace BK1537 := bK_ BK1537 hb; replace BK1538 := bK_ BK1538 hb; replace HB := bB_ (by repeat (with_reducible first | exact HB.out | apply bA_ | apply bN_ | apply bD_ | refine bS_ ?_ GE1534.out | refine bS_ ?_ GE1535.out | refine bS_ ?_ GE1536.out | refine bS_ ?_ GE1537.out | refine bS_ ?_ GE1538.out)) hb; (try clear hb); (try clear ho0)) | (refine box_event rfl (N := 9) rfl (cs := #[.slice none 0 0]) (t := 98) ?hr ?_; (case hr => go_simp <;> rfl); intro gb1569 hg w66 hbox hb; replace HO_1536000 := aA_ (Kd.R_below HO_1536000.out hb); replace HO_1537000 := aA_ (Kd.R_below HO_1537000.out hb); replace HO_1538000 := aA_ (Kd.R_below HO_1538000.out hb); replace HO1568 := aA_ (Kd.R_below HO1568.out hb); have BK1569 := aA_ (hbox); have GW1569 := gW_ hg (by repeat (with_reducible first | exact HB.out | apply bA_ | apply bN_ | apply bD_ | refine bS_ ?_ GE1534.out | refine bS_ ?_ GE1535.out | refine bS_ ?_ GE1536.out | refine bS_ ?_ GE1537.out | refine bS_ ?_ GE1538.out)); have GE1569 := GW1569; replace HB := bB_ (by repeat (with_reducible first | exact HB.out | apply bA_ | apply bN_ | apply bD_ | refine bS_ ?_ GE1534.out | refine bS_ ?_ GE1535.out | refine bS_ ?_ GE1536.out | refine bS_ ?_ GE1537.out | refine bS_ ?_ GE1538.out)) hb; have NB1534_1569 := nE_ hg BK1534; have NB1569_1534 := aA_ NB1534_1569.out.symm; replace BK1534 := bK_ BK1534 hb; have NB1535_1569 := nE_ hg BK1535; have NB1569_1535 := aA_ NB1535_1569.out.symm; replace BK1535 := bK_ BK1535 hb; have NB1536_1569 := nE_ hg BK1536; have NB1569_1536 := aA_ NB1536_1569.out.symm; replace BK1536 := bK_ BK1536 hb; have NB1537_1569 := nE_ hg BK1537; have NB1569_1537 := aA_ NB1537_1569.out.symm; replace BK1537 := bK_ BK1537 hb; have NB1538_1569 := nE_ hg BK1538; have NB1569_1538 := aA_ NB1538_1569.out.symm; replace BK1538 := bK_ BK1538 hb; clear hb hbox hg; obtain ⟨Ao67, co67, eo67⟩ := Kd.R_slice HO1568.out; subst eo67; have hnb68 := NB1569_1534.out; have hnc68 := NB1534_1569.out; have hnb69 := NB1569_1535.out; have hnc69 := NB1535_1569.out; have hnb70 := NB1569_1536.out; have hnc70 := NB1536_1569.out; have hnb71 := NB1569_1537.out; have hnc71 := NB1537_1569.out; have hnb72 := NB1569_1538.out; have hnc72 := NB1538_1569.out; have hcz73_0 : w66.cell? ⟨gb1569, 0, none⟩ = some (.slice none 0 0) := (blk_cell BK1569.out 0).trans rfl; have hfz73_0 := blk_frozen BK1569.out 0))
    (try simp only [Act.put, sT_, sZ_, sS_])
    go_cut [107] (fun v107 wc => ∃ (kq : Nat) (x107_63 : Bool), v107 = .bool x107_63 ∧ Aside0 (demurrageref21_Sums.j2 kq l0 x107_63 0 x1539001_1 x1539002_1 x1539003_1 0 = some (r1, r2, r3, r4, r5, r6)) ∧ Aside0 (kq ≤ k1) ∧ Aside0 (Kd.R (Kd.int .i64) 3 wc w.heap.size (fun k_ => some k_ ≠ (u1537000 : Value).ownBlock ∧ some k_ ≠ (u1538000 : Value).ownBlock ∧ some k_ ≠ ((.slice Ao67 t1566.length co67) : Value).ownBlock) u1536000 x1536000_1) ∧ Aside0 (Kd.R (Kd.int .i64) 3 wc w.heap.size (fun k_ => some k_ ≠ (u1536000 : Value).ownBlock ∧ some k_ ≠ (u1538000 : Value).ownBlock ∧ some k_ ≠ ((.slice Ao67 t1566.length co67) : Value).ownBlock) u1537000 x1537000_1) ∧ Aside0 (Kd.R (Kd.int .i64) 3 wc w.heap.size (fun k_ => some k_ ≠ (u1536000 : Value).ownBlock ∧ some k_ ≠ (u1537000 : Value).ownBlock ∧ some k_ ≠ ((.slice Ao67 t1566.length co67) : Value).ownBlock) u1538000 x1538000_1) ∧ Aside0 (Kd.R (Kd.int .i64) 3 wc w.heap.size (fun k_ => some k_ ≠ (u1536000 : Value).ownBlock ∧ some k_ ≠ (u1537000 : Value).ownBlock ∧ some k_ ≠ (u1538000 : Value).ownBlock) (.slice Ao67 t1566.length co67) t1566) ∧ Aside0 (wc.heap[gb1534]? = some (.cells #[.int .i64 x1535000_1, .int .i64 x1535001_1, .int .i64 x1535002_1, .int .i64 x1535003_1, .int .i64 x1535004_1] 48 (0, 0))) ∧ Aside0 (wc.heap[gb1535]? = some (.cells #[u1536000] 98 (0, 0))) ∧ Aside0 (wc.heap[gb1536]? = some (.cells #[u1537000] 98 (0, 0))) ∧ Aside0 (wc.heap[gb1537]? = some (.cells #[u1538000] 98 (0, 0))) ∧ Aside0 (wc.heap[gb1538]? = some (.cells #[.int .i64 0, .int .i64 x1539001_1, .int .i64 x1539002_1, .int .i64 x1539003_1, .int .i64 0] 48 (0, 0))) ∧ Aside0 (wc.heap[gb1569]? = some (.cells #[(.slice Ao67 t1566.length co67)] 98 (0, 0))) ∧ Aside0 (Below w.heap.size w wc))
    case first =>
     have H := HC64.out
     clear HC64
     replace H := bI_ H
     obtain ⟨t1570, A740, H⟩ := H
     (try dsimp only at H)
     have A74 := aA_ A740
     clear A740
     by_cases c75 : t1570 > 0
     ·rw [if_pos c75] at H
      have c75b0 : decide (0 < t1570) = true := decide_eq_true c75
      clear c75
      (first | rw [c75b0] | (simp only [i64_w, i32_w]; rw [c75b0]) | rw [c75b1] | skip)
      have H' := aA_ H
      clear H
      have hnb76 := NB1535_1534.out
      have hnc76 := NB1534_1535.out
      have hnb77 := NB1535_1536.out
      have hnc77 := NB1536_1535.out
      have hnb78 := NB1535_1537.out
      have hnc78 := NB1537_1535.out
      have hnb79 := NB1535_1538.out
      have hnc79 := NB1538_1535.out
      have hnb80 := NB1535_1569.out
      have hnc80 := NB1569_1535.out
      have hcz81_0 : w66.cell? ⟨gb1535, 0, none⟩ = some (u1536000) := (blk_cell BK1535.out 0).trans rfl
      have hfz81_0 := blk_frozen BK1535.out 0
      have hnb82 := NB1569_1534.out
      have hnc82 := NB1534_1569.out
      have hnb83 := NB1569_1536.out
      have hnc83 := NB1536_1569.out
      have hnb84 := NB1569_1537.out
      have hnc84 := NB1537_1569.out
      have hnb85 := NB1569_1538.out
      have hnc85 := NB1538_1569.out
      have hcz86_0 : w66.cell? ⟨gb1569, 0, none⟩ = some (.slice none 0 0) := (blk_cell BK1569.out 0).trans rfl
      have hfz86_0 := blk_frozen BK1569.out 0
      obtain ⟨Ao87, co87, eo87⟩ := Kd.R_slice HO_1536000.out
      subst eo87
      go_wp2_with (first | (refine goesL_ (some 94) rfl rfl Try.func50 (by kernel_rfl) rfl #[.agg #[.slice Ao87 x1536000_1.length co87], .agg #[.slice Ao67 t1566.length co67]] rfl (by (try simp only [mT_, mC_, mN_]); first | done | rfl) ?_; (with_reducible refine (demurrageref01_Cmp.calls k1 _ _ x1536000_1 _ _ t1566 t1570 _ ?side1 ?side2 ?side3 ?side4 A74.out).mono ?_); (case side1 => refine (Kd.R_reads' (e := 3) (base := w.heap.size) (ok := fun k_ => ((some k_ ≠ (u1537000 : Value).ownBlock ∧ some k_ ≠ (u1538000 : Value).ownBlock) ∧ some k_ ≠ (.slice Ao67 t1566.length co67 : Value).ownBlock)) (n := x1536000_1.length) (c := co87) ?_).2.2; exact (by (with_reducible repeat (first | apply Kd.R_alloc | apply Kd.R_drewN | apply Kd.R_drew)); exact (Kd.R_mono (Kd.R_far (p := ⟨gb1569, 0, none⟩) (Kd.R_types HO_1536000.out BK1569.out (by decide)) (fun _ hk => hk.2) (.slice Ao67 t1566.length co67)) (fun _ h_ => h_.1)))); (case side2 => exact (Kd.R_reads' HO_1536000.out).2.1); (case side3 => refine (Kd.R_reads' (e := 3) (base := w.heap.size) (ok := fun k_ => (((True ∧ some k_ ≠ (.slice Ao87 x1536000_1.length co87 : Value).ownBlock) ∧ some k_ ≠ (u1537000 : Value).ownBlock) ∧ some k_ ≠ (u1538000 : Value).ownBlock)) (n := t1566.length) (c := co67) ?_).2.2; exact (by (with_reducible repeat (first | apply Kd.R_alloc | apply Kd.R_drewN | apply Kd.R_drew)); exact (Kd.R_mono (Kd.R_far (p := ⟨gb1569, 0, none⟩) (Kd.R_types HO1568.out BK1569.out (by decide)) (fun _ hk => hk.2) (.slice Ao67 t1566.length co67)) (fun _ h_ => h_.1)))); (case side4 => exact (Kd.R_reads' HO1568.out).2.1); rintro e w88 ⟨rfl, hb⟩; refine ⟨_, rfl, ?_⟩; replace HO_1536000 := aA_ (Kd.R_below (by (with_reducible repeat (first | apply Kd.R_alloc | apply Kd.R_drewN | apply Kd.R_drew)); exact (Kd.R_mono (Kd.R_far (p := ⟨gb1569, 0, none⟩) (Kd.R_types HO_1536000.out BK1569.out (by decide)) (fun _ hk => hk.2) (.slice Ao67 t1566.length co67)) (fun _ h_ => h_.1))) hb); replace HO_1537000 := aA_ (Kd.R_below (by (with_reducible repeat (first | apply Kd.R_alloc | apply Kd.R_drewN | apply Kd.R_drew)); exact (Kd.R_mono (Kd.R_far (p := ⟨gb1569, 0, none⟩) (Kd.R_types HO_1537000.out BK1569.out (by decide)) (fun _ hk => hk.2) (.slice Ao67 t1566.length co67)) (fun _ h_ => h_.1))) hb); replace HO_1538000 := aA_ (Kd.R_below (by (with_reducible repeat (first | apply Kd.R_alloc | apply Kd.R_drewN | apply Kd.R_drew)); exact (Kd.R_mono (Kd.R_far (p := ⟨gb1569, 0, none⟩) (Kd.R_types HO_1538000.out BK1569.out (by decide)) (fun _ hk => hk.2) (.slice Ao67 t1566.length co67)) (fun _ h_ => h_.1))) hb); replace HO1568 := aA_ (Kd.R_below (by (with_reducible repeat (first | apply Kd.R_alloc | apply Kd.R_drewN | apply Kd.R_drew)); exact (Kd.R_mono (Kd.R_far (p := ⟨gb1569, 0, none⟩) (Kd.R_types HO1568.out BK1569.out (by decide)) (fun _ hk => hk.2) (.slice Ao67 t1566.length co67)) (fun _ h_ => h_.1))) hb); replace BK1534 := aA_ (blk_below (g := gb1534) (o := .cells #[.int .i64 x1535000_1, .int .i64 x1535001_1, .int .i64 x1535002_1, .int .i64 x1535003_1, .int .i64 x1535004_1] 48 (0, 0)) (by refine blk_far ?_ NB1534_1569.out _; exact BK1534.out) hb); replace BK1535 := aA_ (blk_below (g := gb1535) (o := .cells #[.slice Ao87 x1536000_1.length co87] 98 (0, 0)) (by refine blk_far ?_ NB1535_1569.out _; exact BK1535.out) hb); replace BK1536 := aA_ (blk_below (g := gb1536) (o := .cells #[u1537000] 98 (0, 0)) (by refine blk_far ?_ NB1536_1569.out _; exact BK1536.out) hb); replace BK1537 := aA_ (blk_below (g := gb1537) (o := .cells #[u1538000] 98 (0, 0)) (by refine blk_far ?_ NB1537_1569.out _; exact BK1537.out) hb); replace BK1538 := aA_ (blk_below (g := gb1538) (o := .cells #[.int .i64 0, .int .i64 x1539001_1, .int .i64 x1539002_1, .int .i64 x1539003_1, .int .i64 0] 48 (0, 0)) (by refine blk_far ?_ NB1538_1569.out _; exact BK1538.out) hb); replace BK1569 := aA_ (blk_below (g := gb1569) (o := .cells #[.slice Ao67 t1566.length co67] 98 (0, 0)) (by refine blk_put (cs := #[.slice none 0 0]) ?_ 0 _ rfl; exact BK1569.out) hb); replace HB := bB_ (by repeat (with_reducible first | exact HB.out | apply bA_ | apply bN_ | apply bD_ | refine bS_ ?_ GE1534.out | refine bS_ ?_ GE1535.out | refine bS_ ?_ GE1536.out | refine bS_ ?_ GE1537.out | refine bS_ ?_ GE1538.out | refine bS_ ?_ GE1569.out)) hb; (try clear hb)))
      go_meet
      case rel => exact ⟨_, _, (by first | rfl | simp | simp [*]), H', ⟨by have := HK1.out; first | omega | exact Nat.le_refl _⟩, ⟨by (with_reducible repeat (first | apply Kd.R_alloc | apply Kd.R_drewN | apply Kd.R_drew)); exact Kd.R_mono HO_1536000.out (fun _ hk => (And.intro (hk.1.1) ((And.intro (hk.1.2) (hk.2)))))⟩, ⟨by (with_reducible repeat (first | apply Kd.R_alloc | apply Kd.R_drewN | apply Kd.R_drew)); exact Kd.R_mono HO_1537000.out (fun _ hk => (And.intro (hk.1.1) ((And.intro (hk.1.2) (hk.2)))))⟩, ⟨by (with_reducible repeat (first | apply Kd.R_alloc | apply Kd.R_drewN | apply Kd.R_drew)); exact Kd.R_mono HO_1538000.out (fun _ hk => (And.intro (hk.1.1) ((And.intro (hk.1.2) (hk.2)))))⟩, ⟨by (with_reducible repeat (first | apply Kd.R_alloc | apply Kd.R_drewN | apply Kd.R_drew)); exact Kd.R_mono HO1568.out (fun _ hk => (And.intro (hk.1.1.2) ((And.intro (hk.1.2) (hk.2)))))⟩, ⟨by exact BK1534.out⟩, ⟨by exact BK1535.out⟩, ⟨by exact BK1536.out⟩, ⟨by exact BK1537.out⟩, ⟨by exact BK1538.out⟩, ⟨by exact BK1569.out⟩, ⟨by repeat (with_reducible first | exact HB.out | apply bA_ | apply bN_ | apply bD_ | refine bS_ ?_ GE1534.out | refine bS_ ?_ GE1535.out | refine bS_ ?_ GE1536.out | refine bS_ ?_ GE1537.out | refine bS_ ?_ GE1538.out | refine bS_ ?_ GE1569.out)⟩⟩
     ·rw [if_neg c75] at H
      have c75b0 : decide (0 < t1570) = false := decide_eq_false c75
      clear c75
      (first | rw [c75b0] | (simp only [i64_w, i32_w]; rw [c75b0]) | rw [c75b1] | skip)
      replace H := bI_ H
      obtain ⟨t1571, A890, H⟩ := H
      (try dsimp only at H)
      have A89 := aA_ A890
      clear A890
      by_cases c90 : t1571 > 0
      ·rw [if_pos c90] at H
       have c90b0 : decide (0 < t1571) = true := decide_eq_true c90
       clear c90
       have H' := aA_ H
       clear H
       have hnb91 := NB1535_1534.out
       have hnc91 := NB1534_1535.out
       have hnb92 := NB1535_1536.out
       have hnc92 := NB1536_1535.out
       have hnb93 := NB1535_1537.out
       have hnc93 := NB1537_1535.out
       have hnb94 := NB1535_1538.out
       have hnc94 := NB1538_1535.out
       have hnb95 := NB1535_1569.out
       have hnc95 := NB1569_1535.out
       have hcz96_0 : w66.cell? ⟨gb1535, 0, none⟩ = some (u1536000) := (blk_cell BK1535.out 0).trans rfl
       have hfz96_0 := blk_frozen BK1535.out 0
       have hnb97 := NB1569_1534.out
       have hnc97 := NB1534_1569.out
       have hnb98 := NB1569_1536.out
       have hnc98 := NB1536_1569.out
       have hnb99 := NB1569_1537.out
       have hnc99 := NB1537_1569.out
       have hnb100 := NB1569_1538.out
       have hnc100 := NB1538_1569.out
       have hcz101_0 : w66.cell? ⟨gb1569, 0, none⟩ = some (.slice none 0 0) := (blk_cell BK1569.out 0).trans rfl
       have hfz101_0 := blk_frozen BK1569.out 0
       obtain ⟨Ao102, co102, eo102⟩ := Kd.R_slice HO_1536000.out
       subst eo102
       go_wp2_with (first | (refine goesL_ (some 94) rfl rfl Try.func50 (by kernel_rfl) rfl #[.agg #[.slice Ao102 x1536000_1.length co102], .agg #[.slice Ao67 t1566.length co67]] rfl (by (try simp only [mT_, mC_, mN_]); first | done | rfl) ?_; (with_reducible refine (demurrageref01_Cmp.calls k1 _ _ x1536000_1 _ _ t1566 t1570 _ ?side1 ?side2 ?side3 ?side4 A74.out).mono ?_); (case side1 => refine (Kd.R_reads' (e := 3) (base := w.heap.size) (ok := fun k_ => ((some k_ ≠ (u1537000 : Value).ownBlock ∧ some k_ ≠ (u1538000 : Value).ownBlock) ∧ some k_ ≠ (.slice Ao67 t1566.length co67 : Value).ownBlock)) (n := x1536000_1.length) (c := co102) ?_).2.2; exact (by (with_reducible repeat (first | apply Kd.R_alloc | apply Kd.R_drewN | apply Kd.R_drew)); exact (Kd.R_mono (Kd.R_far (p := ⟨gb1569, 0, none⟩) (Kd.R_types HO_1536000.out BK1569.out (by decide)) (fun _ hk => hk.2) (.slice Ao67 t1566.length co67)) (fun _ h_ => h_.1)))); (case side2 => exact (Kd.R_reads' HO_1536000.out).2.1); (case side3 => refine (Kd.R_reads' (e := 3) (base := w.heap.size) (ok := fun k_ => (((True ∧ some k_ ≠ (.slice Ao102 x1536000_1.length co102 : Value).ownBlock) ∧ some k_ ≠ (u1537000 : Value).ownBlock) ∧ some k_ ≠ (u1538000 : Value).ownBlock)) (n := t1566.length) (c := co67) ?_).2.2; exact (by (with_reducible repeat (first | apply Kd.R_alloc | apply Kd.R_drewN | apply Kd.R_drew)); exact (Kd.R_mono (Kd.R_far (p := ⟨gb1569, 0, none⟩) (Kd.R_types HO1568.out BK1569.out (by decide)) (fun _ hk => hk.2) (.slice Ao67 t1566.length co67)) (fun _ h_ => h_.1)))); (case side4 => exact (Kd.R_reads' HO1568.out).2.1); rintro e w103 ⟨rfl, hb⟩; refine ⟨_, rfl, ?_⟩; replace HO_1536000 := aA_ (Kd.R_below (by (with_reducible repeat (first | apply Kd.R_alloc | apply Kd.R_drewN | apply Kd.R_drew)); exact (Kd.R_mono (Kd.R_far (p := ⟨gb1569, 0, none⟩) (Kd.R_types HO_1536000.out BK1569.out (by decide)) (fun _ hk => hk.2) (.slice Ao67 t1566.length co67)) (fun _ h_ => h_.1))) hb); replace HO_1537000 := aA_ (Kd.R_below (by (with_reducible repeat (first | apply Kd.R_alloc | apply Kd.R_drewN | apply Kd.R_drew)); exact (Kd.R_mono (Kd.R_far (p := ⟨gb1569, 0, none⟩) (Kd.R_types HO_1537000.out BK1569.out (by decide)) (fun _ hk => hk.2) (.slice Ao67 t1566.length co67)) (fun _ h_ => h_.1))) hb); replace HO_1538000 := aA_ (Kd.R_below (by (with_reducible repeat (first | apply Kd.R_alloc | apply Kd.R_drewN | apply Kd.R_drew)); exact (Kd.R_mono (Kd.R_far (p := ⟨gb1569, 0, none⟩) (Kd.R_types HO_1538000.out BK1569.out (by decide)) (fun _ hk => hk.2) (.slice Ao67 t1566.length co67)) (fun _ h_ => h_.1))) hb); replace HO1568 := aA_ (Kd.R_below (by (with_reducible repeat (first | apply Kd.R_alloc | apply Kd.R_drewN | apply Kd.R_drew)); exact (Kd.R_mono (Kd.R_far (p := ⟨gb1569, 0, none⟩) (Kd.R_types HO1568.out BK1569.out (by decide)) (fun _ hk => hk.2) (.slice Ao67 t1566.length co67)) (fun _ h_ => h_.1))) hb); replace BK1534 := aA_ (blk_below (g := gb1534) (o := .cells #[.int .i64 x1535000_1, .int .i64 x1535001_1, .int .i64 x1535002_1, .int .i64 x1535003_1, .int .i64 x1535004_1] 48 (0, 0)) (by refine blk_far ?_ NB1534_1569.out _; exact BK1534.out) hb); replace BK1535 := aA_ (blk_below (g := gb1535) (o := .cells #[.slice Ao102 x1536000_1.length co102] 98 (0, 0)) (by refine blk_far ?_ NB1535_1569.out _; exact BK1535.out) hb); replace BK1536 := aA_ (blk_below (g := gb1536) (o := .cells #[u1537000] 98 (0, 0)) (by refine blk_far ?_ NB1536_1569.out _; exact BK1536.out) hb); replace BK1537 := aA_ (blk_below (g := gb1537) (o := .cells #[u1538000] 98 (0, 0)) (by refine blk_far ?_ NB1537_1569.out _; exact BK1537.out) hb); replace BK1538 := aA_ (blk_below (g := gb1538) (o := .cells #[.int .i64 0, .int .i64 x1539001_1, .int .i64 x1539002_1, .int .i64 x1539003_1, .int .i64 0] 48 (0, 0)) (by refine blk_far ?_ NB1538_1569.out _; exact BK1538.out) hb); replace BK1569 := aA_ (blk_below (g := gb1569) (o := .cells #[.slice Ao67 t1566.length co67] 98 (0, 0)) (by refine blk_put (cs := #[.slice none 0 0]) ?_ 0 _ rfl; exact BK1569.out) hb); replace HB := bB_ (by repeat (with_reducible first | exact HB.out | apply bA_ | apply bN_ | apply bD_ | refine bS_ ?_ GE1534.out | refine bS_ ?_ GE1535.out | refine bS_ ?_ GE1536.out | refine bS_ ?_ GE1537.out | refine bS_ ?_ GE1538.out | refine bS_ ?_ GE1569.out)) hb; (try clear hb); have hnb104 := NB1536_1534.out; have hnc104 := NB1534_1536.out; have hnb105 := NB1536_1537.out; have hnc105 := NB1537_1536.out; have hnb106 := NB1536_1538.out; have hnc106 := NB1538_1536.out; have hcz107_0 : w103.cell? ⟨gb1536, 0, none⟩ = some (u1537000) := (blk_cell BK1536.out 0).trans rfl; have hfz107_0 := blk_frozen BK1536.out 0; have hcz108_0 : w103.cell? ⟨gb1569, 0, none⟩ = some (.slice Ao67 t1566.length co67) := (blk_cell BK1569.out 0).trans rfl; have hfz108_0 := blk_frozen BK1569.out 0; obtain ⟨Ao109, co109, eo109⟩ := Kd.R_slice HO_1537000.out; subst eo109) | (go_at_call 50; (with_reducible refine (demurrageref01_Cmp.calls k1 _ _ x1537000_1 _ _ t1566 t1571 _ ?side1 ?side2 ?side3 ?side4 A89.out).mono ?_); (case side1 => repeat (first | exact (Kd.R_reads' HO_1537000.out).2.2 | (with_reducible first | refine Kd.C_alloc ?_ _ | refine Kd.C_drewN ?_ _ | refine Kd.C_drew ?_))); (case side2 => exact (Kd.R_reads' HO_1537000.out).2.1); (case side3 => repeat (first | exact (Kd.R_reads' HO1568.out).2.2 | (with_reducible first | refine Kd.C_alloc ?_ _ | refine Kd.C_drewN ?_ _ | refine Kd.C_drew ?_))); (case side4 => exact (Kd.R_reads' HO1568.out).2.1); rintro e w110 ⟨rfl, hb⟩; replace HO_1536000 := aA_ (Kd.R_below HO_1536000.out hb); replace HO_1537000 := aA_ (Kd.R_below HO_1537000.out hb); replace HO_1538000 := aA_ (Kd.R_below HO_1538000.out hb); replace HO1568 := aA_ (Kd.R_below HO1568.out hb); replace BK1534 := bK_ BK1534 hb; replace BK1535 := bK_ BK1535 hb; replace BK1536 := bK_ BK1536 hb; replace BK1537 := bK_ BK1537 hb; replace BK1538 := bK_ BK1538 hb; replace BK1569 := bK_ BK1569 hb; replace HB := bB_ (by repeat (with_reducible first | exact HB.out | apply bA_ | apply bN_ | apply bD_ | refine bS_ ?_ GE1534.out | refine bS_ ?_ GE1535.out | refine bS_ ?_ GE1536.out | refine bS_ ?_ GE1537.out | refine bS_ ?_ GE1538.out | refine bS_ ?_ GE1569.out)) hb; (try clear hb)))
       go_meet
       case rel => exact ⟨_, _, (by first | rfl | simp | simp [*]), H', ⟨by have := HK1.out; first | omega | exact Nat.le_refl _⟩, ⟨by (with_reducible repeat (first | apply Kd.R_alloc | apply Kd.R_drewN | apply Kd.R_drew)); exact Kd.R_mono HO_1536000.out (fun _ hk => (And.intro (hk.1.1) ((And.intro (hk.1.2) (hk.2)))))⟩, ⟨by (with_reducible repeat (first | apply Kd.R_alloc | apply Kd.R_drewN | apply Kd.R_drew)); exact Kd.R_mono HO_1537000.out (fun _ hk => (And.intro (hk.1.1) ((And.intro (hk.1.2) (hk.2)))))⟩, ⟨by (with_reducible repeat (first | apply Kd.R_alloc | apply Kd.R_drewN | apply Kd.R_drew)); exact Kd.R_mono HO_1538000.out (fun _ hk => (And.intro (hk.1.1) ((And.intro (hk.1.2) (hk.2)))))⟩, ⟨by (with_reducible repeat (first | apply Kd.R_alloc | apply Kd.R_drewN | apply Kd.R_drew)); exact Kd.R_mono HO1568.out (fun _ hk => (And.intro (hk.1.1.2) ((And.intro (hk.1.2) (hk.2)))))⟩, ⟨by exact BK1534.out⟩, ⟨by exact BK1535.out⟩, ⟨by exact BK1536.out⟩, ⟨by exact BK1537.out⟩, ⟨by exact BK1538.out⟩, ⟨by exact BK1569.out⟩, ⟨by repeat (with_reducible first | exact HB.out | apply bA_ | apply bN_ | apply bD_ | refine bS_ ?_ GE1534.out | refine bS_ ?_ GE1535.out | refine bS_ ?_ GE1536.out | refine bS_ ?_ GE1537.out | refine bS_ ?_ GE1538.out | refine bS_ ?_ GE1569.out)⟩⟩
      ·rw [if_neg c90] at H
       have c90b0 : decide (0 < t1571) = false := decide_eq_false c90
       clear c90
       replace H := bI_ H
       obtain ⟨t1572, A1110, H⟩ := H
       (try dsimp only at H)
       have A111 := aA_ A1110
       clear A1110
       have H' := aA_ H
       clear H
       have hnb112 := NB1535_1534.out
       have hnc112 := NB1534_1535.out
       have hnb113 := NB1535_1536.out
       have hnc113 := NB1536_1535.out
       have hnb114 := NB1535_1537.out
       have hnc114 := NB1537_1535.out
       have hnb115 := NB1535_1538.out
       have hnc115 := NB1538_1535.out
       have hnb116 := NB1535_1569.out
       have hnc116 := NB1569_1535.out
       have hcz117_0 : w66.cell? ⟨gb1535, 0, none⟩ = some (u1536000) := (blk_cell BK1535.out 0).trans rfl
       have hfz117_0 := blk_frozen BK1535.out 0
       have hnb118 := NB1569_1534.out
       have hnc118 := NB1534_1569.out
       have hnb119 := NB1569_1536.out
       have hnc119 := NB1536_1569.out
       have hnb120 := NB1569_1537.out
       have hnc120 := NB1537_1569.out
       have hnb121 := NB1569_1538.out
       have hnc121 := NB1538_1569.out
       have hcz122_0 : w66.cell? ⟨gb1569, 0, none⟩ = some (.slice none 0 0) := (blk_cell BK1569.out 0).trans rfl
       have hfz122_0 := blk_frozen BK1569.out 0
       obtain ⟨Ao123, co123, eo123⟩ := Kd.R_slice HO_1536000.out
       subst eo123
       go_wp2_with (first | (refine goesL_ (some 94) rfl rfl Try.func50 (by kernel_rfl) rfl #[.agg #[.slice Ao123 x1536000_1.length co123], .agg #[.slice Ao67 t1566.length co67]] rfl (by (try simp only [mT_, mC_, mN_]); first | done | rfl) ?_; (with_reducible refine (demurrageref01_Cmp.calls k1 _ _ x1536000_1 _ _ t1566 t1570 _ ?side1 ?side2 ?side3 ?side4 A74.out).mono ?_); (case side1 => refine (Kd.R_reads' (e := 3) (base := w.heap.size) (ok := fun k_ => ((some k_ ≠ (u1537000 : Value).ownBlock ∧ some k_ ≠ (u1538000 : Value).ownBlock) ∧ some k_ ≠ (.slice Ao67 t1566.length co67 : Value).ownBlock)) (n := x1536000_1.length) (c := co123) ?_).2.2; exact (by (with_reducible repeat (first | apply Kd.R_alloc | apply Kd.R_drewN | apply Kd.R_drew)); exact (Kd.R_mono (Kd.R_far (p := ⟨gb1569, 0, none⟩) (Kd.R_types HO_1536000.out BK1569.out (by decide)) (fun _ hk => hk.2) (.slice Ao67 t1566.length co67)) (fun _ h_ => h_.1)))); (case side2 => exact (Kd.R_reads' HO_1536000.out).2.1); (case side3 => refine (Kd.R_reads' (e := 3) (base := w.heap.size) (ok := fun k_ => (((True ∧ some k_ ≠ (.slice Ao123 x1536000_1.length co123 : Value).ownBlock) ∧ some k_ ≠ (u1537000 : Value).ownBlock) ∧ some k_ ≠ (u1538000 : Value).ownBlock)) (n := t1566.length) (c := co67) ?_).2.2; exact (by (with_reducible repeat (first | apply Kd.R_alloc | apply Kd.R_drewN | apply Kd.R_drew)); exact (Kd.R_mono (Kd.R_far (p := ⟨gb1569, 0, none⟩) (Kd.R_types HO1568.out BK1569.out (by decide)) (fun _ hk => hk.2) (.slice Ao67 t1566.length co67)) (fun _ h_ => h_.1)))); (case side4 => exact (Kd.R_reads' HO1568.out).2.1); rintro e w124 ⟨rfl, hb⟩; refine ⟨_, rfl, ?_⟩; replace HO_1536000 := aA_ (Kd.R_below (by (with_reducible repeat (first | apply Kd.R_alloc | apply Kd.R_drewN | apply Kd.R_drew)); exact (Kd.R_mono (Kd.R_far (p := ⟨gb1569, 0, none⟩) (Kd.R_types HO_1536000.out BK1569.out (by decide)) (fun _ hk => hk.2) (.slice Ao67 t1566.length co67)) (fun _ h_ => h_.1))) hb); replace HO_1537000 := aA_ (Kd.R_below (by (with_reducible repeat (first | apply Kd.R_alloc | apply Kd.R_drewN | apply Kd.R_drew)); exact (Kd.R_mono (Kd.R_far (p := ⟨gb1569, 0, none⟩) (Kd.R_types HO_1537000.out BK1569.out (by decide)) (fun _ hk => hk.2) (.slice Ao67 t1566.length co67)) (fun _ h_ => h_.1))) hb); replace HO_1538000 := aA_ (Kd.R_below (by (with_reducible repeat (first | apply Kd.R_alloc | apply Kd.R_drewN | apply Kd.R_drew)); exact (Kd.R_mono (Kd.R_far (p := ⟨gb1569, 0, none⟩) (Kd.R_types HO_1538000.out BK1569.out (by decide)) (fun _ hk => hk.2) (.slice Ao67 t1566.length co67)) (fun _ h_ => h_.1))) hb); replace HO1568 := aA_ (Kd.R_below (by (with_reducible repeat (first | apply Kd.R_alloc | apply Kd.R_drewN | apply Kd.R_drew)); exact (Kd.R_mono (Kd.R_far (p := ⟨gb1569, 0, none⟩) (Kd.R_types HO1568.out BK1569.out (by decide)) (fun _ hk => hk.2) (.slice Ao67 t1566.length co67)) (fun _ h_ => h_.1))) hb); replace BK1534 := aA_ (blk_below (g := gb1534) (o := .cells #[.int .i64 x1535000_1, .int .i64 x1535001_1, .int .i64 x1535002_1, .int .i64 x1535003_1, .int .i64 x1535004_1] 48 (0, 0)) (by refine blk_far ?_ NB1534_1569.out _; exact BK1534.out) hb); replace BK1535 := aA_ (blk_below (g := gb1535) (o := .cells #[.slice Ao123 x1536000_1.length co123] 98 (0, 0)) (by refine blk_far ?_ NB1535_1569.out _; exact BK1535.out) hb); replace BK1536 := aA_ (blk_below (g := gb1536) (o := .cells #[u1537000] 98 (0, 0)) (by refine blk_far ?_ NB1536_1569.out _; exact BK1536.out) hb); replace BK1537 := aA_ (blk_below (g := gb1537) (o := .cells #[u1538000] 98 (0, 0)) (by refine blk_far ?_ NB1537_1569.out _; exact BK1537.out) hb); replace BK1538 := aA_ (blk_below (g := gb1538) (o := .cells #[.int .i64 0, .int .i64 x1539001_1, .int .i64 x1539002_1, .int .i64 x1539003_1, .int .i64 0] 48 (0, 0)) (by refine blk_far ?_ NB1538_1569.out _; exact BK1538.out) hb); replace BK1569 := aA_ (blk_below (g := gb1569) (o := .cells #[.slice Ao67 t1566.length co67] 98 (0, 0)) (by refine blk_put (cs := #[.slice none 0 0]) ?_ 0 _ rfl; exact BK1569.out) hb); replace HB := bB_ (by repeat (with_reducible first | exact HB.out | apply bA_ | apply bN_ | apply bD_ | refine bS_ ?_ GE1534.out | refine bS_ ?_ GE1535.out | refine bS_ ?_ GE1536.out | refine bS_ ?_ GE1537.out | refine bS_ ?_ GE1538.out | refine bS_ ?_ GE1569.out)) hb; (try clear hb); have hnb125 := NB1536_1534.out; have hnc125 := NB1534_1536.out; have hnb126 := NB1536_1537.out; have hnc126 := NB1537_1536.out; have hnb127 := NB1536_1538.out; have hnc127 := NB1538_1536.out; have hcz128_0 : w124.cell? ⟨gb1536, 0, none⟩ = some (u1537000) := (blk_cell BK1536.out 0).trans rfl; have hfz128_0 := blk_frozen BK1536.out 0; have hcz129_0 : w124.cell? ⟨gb1569, 0, none⟩ = some (.slice Ao67 t1566.length co67) := (blk_cell BK1569.out 0).trans rfl; have hfz129_0 := blk_frozen BK1569.out 0; obtain ⟨Ao130, co130, eo130⟩ := Kd.R_slice HO_1537000.out; subst eo130) | (go_at_call 50; (with_reducible refine (demurrageref01_Cmp.calls k1 _ _ x1537000_1 _ _ t1566 t1571 _ ?side1 ?side2 ?side3 ?side4 A89.out).mono ?_); (case side1 => repeat (first | exact (Kd.R_reads' HO_1537000.out).2.2 | (with_reducible first | refine Kd.C_alloc ?_ _ | refine Kd.C_drewN ?_ _ | refine Kd.C_drew ?_))); (case side2 => exact (Kd.R_reads' HO_1537000.out).2.1); (case side3 => repeat (first | exact (Kd.R_reads' HO1568.out).2.2 | (with_reducible first | refine Kd.C_alloc ?_ _ | refine Kd.C_drewN ?_ _ | refine Kd.C_drew ?_))); (case side4 => exact (Kd.R_reads' HO1568.out).2.1); rintro e w131 ⟨rfl, hb⟩; replace HO_1536000 := aA_ (Kd.R_below HO_1536000.out hb); replace HO_1537000 := aA_ (Kd.R_below HO_1537000.out hb); replace HO_1538000 := aA_ (Kd.R_below HO_1538000.out hb); replace HO1568 := aA_ (Kd.R_below HO1568.out hb); replace BK1534 := bK_ BK1534 hb; replace BK1535 := bK_ BK1535 hb; replace BK1536 := bK_ BK1536 hb; replace BK1537 := bK_ BK1537 hb; replace BK1538 := bK_ BK1538 hb; replace BK1569 := bK_ BK1569 hb; replace HB := bB_ (by repeat (with_reducible first | exact HB.out | apply bA_ | apply bN_ | apply bD_ | refine bS_ ?_ GE1534.out | refine bS_ ?_ GE1535.out | refine bS_ ?_ GE1536.out | refine bS_ ?_ GE1537.out | refine bS_ ?_ GE1538.out | refine bS_ ?_ GE1569.out)) hb; (try clear hb); have hnb132 := NB1537_1534.out; have hnc132 := NB1534_1537.out; have hnb133 := NB1537_1538.out; have hnc133 := NB1538_1537.out; have hcz134_0 : w131.cell? ⟨gb1537, 0, none⟩ = some (u1538000) := (blk_cell BK1537.out 0).trans rfl; have hfz134_0 := blk_frozen BK1537.out 0; have hcz135_0 : w131.cell? ⟨gb1569, 0, none⟩ = some (.slice Ao67 t1566.length co67) := (blk_cell BK1569.out 0).trans rfl; have hfz135_0 := blk_frozen BK1569.out 0; obtain ⟨Ao136, co136, eo136⟩ := Kd.R_slice HO_1538000.out; subst eo136) | (go_at_call 50; (with_reducible refine (demurrageref01_Cmp.calls k1 _ _ x1538000_1 _ _ t1566 t1572 _ ?side1 ?side2 ?side3 ?side4 A111.out).mono ?_); (case side1 => repeat (first | exact (Kd.R_reads' HO_1538000.out).2.2 | (with_reducible first | refine Kd.C_alloc ?_ _ | refine Kd.C_drewN ?_ _ | refine Kd.C_drew ?_))); (case side2 => exact (Kd.R_reads' HO_1538000.out).2.1); (case side3 => repeat (first | exact (Kd.R_reads' HO1568.out).2.2 | (with_reducible first | refine Kd.C_alloc ?_ _ | refine Kd.C_drewN ?_ _ | refine Kd.C_drew ?_))); (case side4 => exact (Kd.R_reads' HO1568.out).2.1); rintro e w137 ⟨rfl, hb⟩; replace HO_1536000 := aA_ (Kd.R_below HO_1536000.out hb); replace HO_1537000 := aA_ (Kd.R_below HO_1537000.out hb); replace HO_1538000 := aA_ (Kd.R_below HO_1538000.out hb); replace HO1568 := aA_ (Kd.R_below HO1568.out hb); replace BK1534 := bK_ BK1534 hb; replace BK1535 := bK_ BK1535 hb; replace BK1536 := bK_ BK1536 hb; replace BK1537 := bK_ BK1537 hb; replace BK1538 := bK_ BK1538 hb; replace BK1569 := bK_ BK1569 hb; replace HB := bB_ (by repeat (with_reducible first | exact HB.out | apply bA_ | apply bN_ | apply bD_ | refine bS_ ?_ GE1534.out | refine bS_ ?_ GE1535.out | refine bS_ ?_ GE1536.out | refine bS_ ?_ GE1537.out | refine bS_ ?_ GE1538.out | refine bS_ ?_ GE1569.out)) hb; (try clear hb)))
       go_meet
       case rel => exact ⟨_, (decide (t1572 > 0)), (by first | rfl | simp | simp [*]), H', ⟨by have := HK1.out; first | omega | exact Nat.le_refl _⟩, ⟨by (with_reducible repeat (first | apply Kd.R_alloc | apply Kd.R_drewN | apply Kd.R_drew)); exact Kd.R_mono HO_1536000.out (fun _ hk => (And.intro (hk.1.1) ((And.intro (hk.1.2) (hk.2)))))⟩, ⟨by (with_reducible repeat (first | apply Kd.R_alloc | apply Kd.R_drewN | apply Kd.R_drew)); exact Kd.R_mono HO_1537000.out (fun _ hk => (And.intro (hk.1.1) ((And.intro (hk.1.2) (hk.2)))))⟩, ⟨by (with_reducible repeat (first | apply Kd.R_alloc | apply Kd.R_drewN | apply Kd.R_drew)); exact Kd.R_mono HO_1538000.out (fun _ hk => (And.intro (hk.1.1) ((And.intro (hk.1.2) (hk.2)))))⟩, ⟨by (with_reducible repeat (first | apply Kd.R_alloc | apply Kd.R_drewN | apply Kd.R_drew)); exact Kd.R_mono HO1568.out (fun _ hk => (And.intro (hk.1.1.2) ((And.intro (hk.1.2) (hk.2)))))⟩, ⟨by exact BK1534.out⟩, ⟨by exact BK1535.out⟩, ⟨by exact BK1536.out⟩, ⟨by exact BK1537.out⟩, ⟨by exact BK1538.out⟩, ⟨by exact BK1569.out⟩, ⟨by repeat (with_reducible first | exact HB.out | apply bA_ | apply bN_ | apply bD_ | refine bS_ ?_ GE1534.out | refine bS_ ?_ GE1535.out | refine bS_ ?_ GE1536.out | refine bS_ ?_ GE1537.out | refine bS_ ?_ GE1538.out | refine bS_ ?_ GE1569.out)⟩⟩
    case rest =>
     clear HC64
     try clear c1
     try clear p1
     try clear q1
     try clear hx1
     try clear c2
     try clear p2
     try clear c4
     try clear c5
     try clear c6
     try clear p6
     try clear c7
     try clear c8
     try clear c9
     try clear c10
     try clear c11
     try clear c12
     try clear c12b0
     try clear c13
     try clear p15
     try clear q15
     try clear hx15
     try clear c23
     try clear c24
     try clear c49
     try clear c50
     try clear p64
     try clear c68
     try clear c69
     try clear c70
     try clear c71
     try clear c72
     try clear c75
     try clear c75b0
     try clear c75b1
     try clear c76
     try clear c77
     try clear c78
     try clear c79
     try clear c80
     try clear c82
     try clear c83
     try clear c84
     try clear c85
     try clear c90
     try clear c90b0
     try clear c91
     try clear c92
     try clear c93
     try clear c94
     try clear c95
     try clear c97
     try clear c98
     try clear c99
     try clear c100
     try clear c104
     try clear c105
     try clear c106
     try clear c112
     try clear c113
     try clear c114
     try clear c115
     try clear c116
     try clear c118
     try clear c119
     try clear c120
     try clear c121
     try clear c125
     try clear c126
     try clear c127
     try clear c132
     try clear c133
     try clear hcz101_0
     try clear hcz107_0
     try clear hcz108_0
     try clear hcz117_0
     try clear hcz122_0
     try clear hcz128_0
     try clear hcz129_0
     try clear hcz134_0
     try clear hcz135_0
     try clear hcz73_0
     try clear hcz81_0
     try clear hcz86_0
     try clear hcz96_0
     try clear hfz101_0
     try clear hfz107_0
     try clear hfz108_0
     try clear hfz117_0
     try clear hfz122_0
     try clear hfz128_0
     try clear hfz129_0
     try clear hfz134_0
     try clear hfz135_0
     try clear hfz73_0
     try clear hfz81_0
     try clear hfz86_0
     try clear hfz96_0
     try clear hx1564_0
     try clear hx1564_1
     try clear hx1564_2
     try clear hx1564_3
     try clear hx1564_4
     try clear hx1565_0
     try clear hx1565_1
     try clear hx1565_2
     try clear hx1565_3
     try clear hx1565_4
     try clear p1564
     try clear p1565
     try clear q1564
     try clear q1565
     obtain ⟨kq, x107_63, rfl, HA, HJ63, HO_1536000, HO_1537000, HO_1538000, HO_1570000, BK1534, BK1535, BK1536, BK1537, BK1538, BK1569, HB⟩ := hcut
     cases kq with
     | zero => exact absurd HA.out (by simp [demurrageref21_Sums.j2])
     | succ kj63 =>
      have H := HA.out
      clear HA
      simp only [demurrageref21_Sums.j2] at H
      by_cases c138 : x107_63 = true
      ·subst c138
       rw [if_pos rfl] at H
       simp only [Option.some.injEq, Prod.mk.injEq] at H
       obtain ⟨rfl, rfl, rfl, rfl, rfl, rfl⟩ := H
       have hnb139 := NB1534_1535.out
       have hnc139 := NB1535_1534.out
       have hnb140 := NB1534_1536.out
       have hnc140 := NB1536_1534.out
       have hnb141 := NB1534_1537.out
       have hnc141 := NB1537_1534.out
       have hnb142 := NB1534_1538.out
       have hnc142 := NB1538_1534.out
       have hnb143 := NB1534_1569.out
       have hnc143 := NB1569_1534.out
       have hcz144_0 : wc.cell? ⟨gb1534, 0, none⟩ = some (.int .i64 x1535000_1) := (blk_cell BK1534.out 0).trans rfl
       have hcz144_1 : wc.cell? ⟨gb1534, 1, none⟩ = some (.int .i64 x1535001_1) := (blk_cell BK1534.out 1).trans rfl
       have hcz144_2 : wc.cell? ⟨gb1534, 2, none⟩ = some (.int .i64 x1535002_1) := (blk_cell BK1534.out 2).trans rfl
       have hcz144_3 : wc.cell? ⟨gb1534, 3, none⟩ = some (.int .i64 x1535003_1) := (blk_cell BK1534.out 3).trans rfl
       have hcz144_4 : wc.cell? ⟨gb1534, 4, none⟩ = some (.int .i64 x1535004_1) := (blk_cell BK1534.out 4).trans rfl
       have hfz144_0 := blk_frozen BK1534.out 0
       have hfz144_1 := blk_frozen BK1534.out 1
       have hfz144_2 := blk_frozen BK1534.out 2
       have hfz144_3 := blk_frozen BK1534.out 3
       have hfz144_4 := blk_frozen BK1534.out 4
       go_wp2
       refine bodyPost_ret (results_ct rfl _ _ gb1534 48 #[.int .i64 0, .int .i64 0, .int .i64 0, .int .i64 0, .int .i64 0] (0, 0) _ rfl (by refine blk_put (cs := #[.int .i64 0, .int .i64 0, .int .i64 0, .int .i64 0, .int .i64 x1535004_1]) ?_ 4 _ rfl; refine blk_put (cs := #[.int .i64 0, .int .i64 0, .int .i64 0, .int .i64 x1535003_1, .int .i64 x1535004_1]) ?_ 3 _ rfl; refine blk_put (cs := #[.int .i64 0, .int .i64 0, .int .i64 x1535002_1, .int .i64 x1535003_1, .int .i64 x1535004_1]) ?_ 2 _ rfl; refine blk_put (cs := #[.int .i64 0, .int .i64 x1535001_1, .int .i64 x1535002_1, .int .i64 x1535003_1, .int .i64 x1535004_1]) ?_ 1 _ rfl; refine blk_put (cs := #[.int .i64 x1535000_1, .int .i64 x1535001_1, .int .i64 x1535002_1, .int .i64 x1535003_1, .int .i64 x1535004_1]) ?_ 0 _ rfl; exact BK1534.out) Try.underlying48 rfl (by kernel_rfl)) rfl ?_
       exact ⟨by rfl, by repeat (with_reducible first | exact HB.out | apply bA_ | apply bN_ | apply bD_ | refine bS_ ?_ GE1534.out | refine bS_ ?_ GE1535.out | refine bS_ ?_ GE1536.out | refine bS_ ?_ GE1537.out | refine bS_ ?_ GE1538.out | refine bS_ ?_ GE1569.out)⟩
      ·replace c138 := Bool.eq_false_iff.mpr c138
       subst c138
       rw [if_neg (show ¬ (false = true) by decide)] at H
       by_cases c145 : (l0.length : Int) > 0
       ·rw [if_pos c145] at H
        have c145b0 : decide (0 < (l0.length : Int)) = true := decide_eq_true c145
        have c145b1 : decide (0 < l0.length) = true := decide_eq_true (by omega)
        clear c145
        by_cases c146 : 0 < (l0.length : Int)
        ·rw [if_pos c146] at H
         have c146b0 : decide (0 < (l0.length : Int)) = true := decide_eq_true c146
         have c146b1 : decide (0 < l0.length) = true := decide_eq_true (by omega)
         clear c146
         obtain ⟨ji147, hji147⟩ : ∃ j_ : Int, (wrap64 ((l0.length : Int) - 1)) = j_ := ⟨_, rfl⟩
         replace H : (if 0 ≤ (ji147) then (if (ji147) < (l0.length : Int) then (some ((rd_T48 l0 0).f0, x1539001_1, x1539002_1, x1539003_1, (rd_T48 l0 (ji147)).f4, 0)) else (none)) else (none)) = some (r1, r2, r3, r4, r5, r6) := by first | (rw [hji147] at H; exact H) | (simp only [hji147] at H ⊢; exact H)
         have hji147w : (IntKind.i64.wrap ((l0.length : Int) - 1)) = ji147 := (i64_w _).trans hji147
         by_cases c148 : 0 ≤ (ji147)
         ·rw [if_pos c148] at H
          have c148b0 : decide (0 ≤ (ji147)) = true := decide_eq_true c148
          clear c148
          by_cases c149 : (ji147) < (l0.length : Int)
          ·rw [if_pos c149] at H
           have c149b0 : decide ((ji147) < (l0.length : Int)) = true := decide_eq_true c149
           clear c149
           simp only [Option.some.injEq, Prod.mk.injEq] at H
           obtain ⟨rfl, rfl, rfl, rfl, rfl, rfl⟩ := H
           have p1573 : 0 ≤ (0 : Int) := (by omega)
           have q1573 : 0 < (l0.length : Int) := of_decide_eq_true (by first | (with_reducible assumption) | assumption)
           obtain ⟨ad1573, e1573, hx1573_0, hx1573_1, hx1573_2, hx1573_3, hx1573_4⟩ := at_T48 HR0.out 0 p1573 q1573
           cases e1573
           have qi1573 : (0 < l0.length) = True := eq_true (by omega)
           (try rw [show ((0 : Int)).toNat = 0 from rfl] at hx1573_0)
           (try rw [show 0 * 5 = 0 from rfl] at hx1573_0)
           (try rw [Addr.add_zero'] at hx1573_0)
           (try rw [show ((0 : Int)).toNat = 0 from rfl] at hx1573_1)
           (try rw [show 0 * 5 = 0 from rfl] at hx1573_1)
           (try rw [Addr.add_zero'] at hx1573_1)
           (try rw [show ((0 : Int)).toNat = 0 from rfl] at hx1573_2)
           (try rw [show 0 * 5 = 0 from rfl] at hx1573_2)
           (try rw [Addr.add_zero'] at hx1573_2)
           (try rw [show ((0 : Int)).toNat = 0 from rfl] at hx1573_3)
           (try rw [show 0 * 5 = 0 from rfl] at hx1573_3)
           (try rw [Addr.add_zero'] at hx1573_3)
           (try rw [show ((0 : Int)).toNat = 0 from rfl] at hx1573_4)
           (try rw [show 0 * 5 = 0 from rfl] at hx1573_4)
           (try rw [Addr.add_zero'] at hx1573_4)
           replace hx1573_0 := cC_ HB hx1573_0
           replace hx1573_1 := cC_ HB hx1573_1
           replace hx1573_2 := cC_ HB hx1573_2
           replace hx1573_3 := cC_ HB hx1573_3
           replace hx1573_4 := cC_ HB hx1573_4
           replace p1573 := eq_true p1573
           replace q1573 := eq_true q1573
           have hnb150 := NB1538_1534.out
           have hnc150 := NB1534_1538.out
           have hnb151 := NB1538_1535.out
           have hnc151 := NB1535_1538.out
           have hnb152 := NB1538_1536.out
           have hnc152 := NB1536_1538.out
           have hnb153 := NB1538_1537.out
           have hnc153 := NB1537_1538.out
           have hnb154 := NB1538_1569.out
           have hnc154 := NB1569_1538.out
           have hcz155_0 : wc.cell? ⟨gb1538, 0, none⟩ = some (.int .i64 0) := (blk_cell BK1538.out 0).trans rfl
           have hcz155_1 : wc.cell? ⟨gb1538, 1, none⟩ = some (.int .i64 x1539001_1) := (blk_cell BK1538.out 1).trans rfl
           have hcz155_2 : wc.cell? ⟨gb1538, 2, none⟩ = some (.int .i64 x1539002_1) := (blk_cell BK1538.out 2).trans rfl
           have hcz155_3 : wc.cell? ⟨gb1538, 3, none⟩ = some (.int .i64 x1539003_1) := (blk_cell BK1538.out 3).trans rfl
           have hcz155_4 : wc.cell? ⟨gb1538, 4, none⟩ = some (.int .i64 0) := (blk_cell BK1538.out 4).trans rfl
           have hfz155_0 := blk_frozen BK1538.out 0
           have hfz155_1 := blk_frozen BK1538.out 1
           have hfz155_2 := blk_frozen BK1538.out 2
           have hfz155_3 := blk_frozen BK1538.out 3
           have hfz155_4 := blk_frozen BK1538.out 4
           have p1574 : 0 ≤ ((ji147) : Int) := of_decide_eq_true (by first | (with_reducible assumption) | assumption)
           have q1574 : (ji147) < (l0.length : Int) := of_decide_eq_true (by first | (with_reducible assumption) | assumption)
           obtain ⟨ad1574, e1574, hx1574_0, hx1574_1, hx1574_2, hx1574_3, hx1574_4⟩ := at_T48 HR0.out (ji147) p1574 q1574
           obtain rfl : ad1573 = ad1574 := (by injection e1574)
           have hn1574_0 : ad1573.block ≠ gb1538 := Nat.ne_of_lt (Nat.lt_of_lt_of_le (by have := World.block_lt_of_cell? _ _ hx1574_0; first | rwa [add_block] at this | exact this) GW1538.out)
           replace hx1574_0 := cC_ HB hx1574_0
           replace hx1574_1 := cC_ HB hx1574_1
           replace hx1574_2 := cC_ HB hx1574_2
           replace hx1574_3 := cC_ HB hx1574_3
           replace hx1574_4 := cC_ HB hx1574_4
           replace hx1574_0 := (cell_far (p := ⟨gb1538, 0, none⟩) (by first | (rw [add_block]; exact hn1574_0) | (show (Addr.add _ _).block ≠ _; rw [add_block]; exact hn1574_0) | exact hn1574_0) (.int .i64 ((rd_T48 l0 0).f0))).trans hx1574_0
           replace hx1574_1 := (cell_far (p := ⟨gb1538, 0, none⟩) (by first | (rw [add_block]; exact hn1574_0) | (show (Addr.add _ _).block ≠ _; rw [add_block]; exact hn1574_0) | exact hn1574_0) (.int .i64 ((rd_T48 l0 0).f0))).trans hx1574_1
           replace hx1574_2 := (cell_far (p := ⟨gb1538, 0, none⟩) (by first | (rw [add_block]; exact hn1574_0) | (show (Addr.add _ _).block ≠ _; rw [add_block]; exact hn1574_0) | exact hn1574_0) (.int .i64 ((rd_T48 l0 0).f0))).trans hx1574_2
           replace hx1574_3 := (cell_far (p := ⟨gb1538, 0, none⟩) (by first | (rw [add_block]; exact hn1574_0) | (show (Addr.add _ _).block ≠ _; rw [add_block]; exact hn1574_0) | exact hn1574_0) (.int .i64 ((rd_T48 l0 0).f0))).trans hx1574_3
           replace hx1574_4 := (cell_far (p := ⟨gb1538, 0, none⟩) (by first | (rw [add_block]; exact hn1574_0) | (show (Addr.add _ _).block ≠ _; rw [add_block]; exact hn1574_0) | exact hn1574_0) (.int .i64 ((rd_T48 l0 0).f0))).trans hx1574_4
           clear hn1574_0
           replace p1574 := eq_true p1574
           replace q1574 := eq_true q1574
           have hnb156 := NB1534_1535.out
           have hnc156 := NB1535_1534.out
           have hnb157 := NB1534_1536.out
           have hnc157 := NB1536_1534.out
           have hnb158 := NB1534_1537.out
           have hnc158 := NB1537_1534.out
           have hnb159 := NB1534_1569.out
           have hnc159 := NB1569_1534.out
           have hcz160_0 : wc.cell? ⟨gb1534, 0, none⟩ = some (.int .i64 x1535000_1) := (blk_cell BK1534.out 0).trans rfl
           have hcz160_1 : wc.cell? ⟨gb1534, 1, none⟩ = some (.int .i64 x1535001_1) := (blk_cell BK1534.out 1).trans rfl
           have hcz160_2 : wc.cell? ⟨gb1534, 2, none⟩ = some (.int .i64 x1535002_1) := (blk_cell BK1534.out 2).trans rfl
           have hcz160_3 : wc.cell? ⟨gb1534, 3, none⟩ = some (.int .i64 x1535003_1) := (blk_cell BK1534.out 3).trans rfl
           have hcz160_4 : wc.cell? ⟨gb1534, 4, none⟩ = some (.int .i64 x1535004_1) := (blk_cell BK1534.out 4).trans rfl
           have hfz160_0 := blk_frozen BK1534.out 0
           have hfz160_1 := blk_frozen BK1534.out 1
           have hfz160_2 := blk_frozen BK1534.out 2
           have hfz160_3 := blk_frozen BK1534.out 3
           have hfz160_4 := blk_frozen BK1534.out 4
           go_wp2
           refine bodyPost_ret (results_ct rfl _ _ gb1534 48 #[.int .i64 ((rd_T48 l0 0).f0), .int .i64 x1539001_1, .int .i64 x1539002_1, .int .i64 x1539003_1, .int .i64 ((rd_T48 l0 (ji147)).f4)] (0, 0) _ rfl (by refine blk_put (cs := #[.int .i64 ((rd_T48 l0 0).f0), .int .i64 x1539001_1, .int .i64 x1539002_1, .int .i64 x1539003_1, .int .i64 x1535004_1]) ?_ 4 _ rfl; refine blk_put (cs := #[.int .i64 ((rd_T48 l0 0).f0), .int .i64 x1539001_1, .int .i64 x1539002_1, .int .i64 x1535003_1, .int .i64 x1535004_1]) ?_ 3 _ rfl; refine blk_put (cs := #[.int .i64 ((rd_T48 l0 0).f0), .int .i64 x1539001_1, .int .i64 x1535002_1, .int .i64 x1535003_1, .int .i64 x1535004_1]) ?_ 2 _ rfl; refine blk_put (cs := #[.int .i64 ((rd_T48 l0 0).f0), .int .i64 x1535001_1, .int .i64 x1535002_1, .int .i64 x1535003_1, .int .i64 x1535004_1]) ?_ 1 _ rfl; refine blk_put (cs := #[.int .i64 x1535000_1, .int .i64 x1535001_1, .int .i64 x1535002_1, .int .i64 x1535003_1, .int .i64 x1535004_1]) ?_ 0 _ rfl; refine blk_far ?_ NB1534_1538.out _; refine blk_far ?_ NB1534_1538.out _; exact BK1534.out) Try.underlying48 rfl (by kernel_rfl)) rfl ?_
           exact ⟨by first | rfl | (simp [errW_none, errW_some] <;> rfl) | (simp only [← hji147]; first | rfl | (simp [errW_none, errW_some] <;> rfl)) | (simp [*, errW_none, errW_some] <;> rfl), by repeat (with_reducible first | exact HB.out | apply bA_ | apply bN_ | apply bD_ | refine bS_ ?_ GE1534.out | refine bS_ ?_ GE1535.out | refine bS_ ?_ GE1536.out | refine bS_ ?_ GE1537.out | refine bS_ ?_ GE1538.out | refine bS_ ?_ GE1569.out)⟩
          ·rw [if_neg c149] at H
           exact absurd H (by simp)
         ·rw [if_neg c148] at H
          exact absurd H (by simp)
        ·rw [if_neg c146] at H
         exact absurd H (by simp)
       ·rw [if_neg c145] at H
        have c145b0 : decide (0 < (l0.length : Int)) = false := decide_eq_false c145
        have c145b1 : decide (0 < l0.length) = false := decide_eq_false (by omega)
        clear c145
        simp only [Option.some.injEq, Prod.mk.injEq] at H
        obtain ⟨rfl, rfl, rfl, rfl, rfl, rfl⟩ := H
        have hnb161 := NB1538_1534.out
        have hnc161 := NB1534_1538.out
        have hnb162 := NB1538_1535.out
        have hnc162 := NB1535_1538.out
        have hnb163 := NB1538_1536.out
        have hnc163 := NB1536_1538.out
        have hnb164 := NB1538_1537.out
        have hnc164 := NB1537_1538.out
        have hnb165 := NB1538_1569.out
        have hnc165 := NB1569_1538.out
        have hcz166_0 : wc.cell? ⟨gb1538, 0, none⟩ = some (.int .i64 0) := (blk_cell BK1538.out 0).trans rfl
        have hcz166_1 : wc.cell? ⟨gb1538, 1, none⟩ = some (.int .i64 x1539001_1) := (blk_cell BK1538.out 1).trans rfl
        have hcz166_2 : wc.cell? ⟨gb1538, 2, none⟩ = some (.int .i64 x1539002_1) := (blk_cell BK1538.out 2).trans rfl
        have hcz166_3 : wc.cell? ⟨gb1538, 3, none⟩ = some (.int .i64 x1539003_1) := (blk_cell BK1538.out 3).trans rfl
        have hcz166_4 : wc.cell? ⟨gb1538, 4, none⟩ = some (.int .i64 0) := (blk_cell BK1538.out 4).trans rfl
        have hfz166_0 := blk_frozen BK1538.out 0
        have hfz166_1 := blk_frozen BK1538.out 1
        have hfz166_2 := blk_frozen BK1538.out 2
        have hfz166_3 := blk_frozen BK1538.out 3
        have hfz166_4 := blk_frozen BK1538.out 4
        have hnb167 := NB1534_1535.out
        have hnc167 := NB1535_1534.out
        have hnb168 := NB1534_1536.out
        have hnc168 := NB1536_1534.out
        have hnb169 := NB1534_1537.out
        have hnc169 := NB1537_1534.out
        have hnb170 := NB1534_1569.out
        have hnc170 := NB1569_1534.out
        have hcz171_0 : wc.cell? ⟨gb1534, 0, none⟩ = some (.int .i64 x1535000_1) := (blk_cell BK1534.out 0).trans rfl
        have hcz171_1 : wc.cell? ⟨gb1534, 1, none⟩ = some (.int .i64 x1535001_1) := (blk_cell BK1534.out 1).trans rfl
        have hcz171_2 : wc.cell? ⟨gb1534, 2, none⟩ = some (.int .i64 x1535002_1) := (blk_cell BK1534.out 2).trans rfl
        have hcz171_3 : wc.cell? ⟨gb1534, 3, none⟩ = some (.int .i64 x1535003_1) := (blk_cell BK1534.out 3).trans rfl
        have hcz171_4 : wc.cell? ⟨gb1534, 4, none⟩ = some (.int .i64 x1535004_1) := (blk_cell BK1534.out 4).trans rfl
        have hfz171_0 := blk_frozen BK1534.out 0
        have hfz171_1 := blk_frozen BK1534.out 1
        have hfz171_2 := blk_frozen BK1534.out 2
        have hfz171_3 := blk_frozen BK1534.out 3
        have hfz171_4 := blk_frozen BK1534.out 4
        go_wp2
        refine bodyPost_ret (results_ct rfl _ _ gb1534 48 #[.int .i64 0, .int .i64 x1539001_1, .int .i64 x1539002_1, .int .i64 x1539003_1, .int .i64 0] (0, 0) _ rfl (by refine blk_put (cs := #[.int .i64 0, .int .i64 x1539001_1, .int .i64 x1539002_1, .int .i64 x1539003_1, .int .i64 x1535004_1]) ?_ 4 _ rfl; refine blk_put (cs := #[.int .i64 0, .int .i64 x1539001_1, .int .i64 x1539002_1, .int .i64 x1535003_1, .int .i64 x1535004_1]) ?_ 3 _ rfl; refine blk_put (cs := #[.int .i64 0, .int .i64 x1539001_1, .int .i64 x1535002_1, .int .i64 x1535003_1, .int .i64 x1535004_1]) ?_ 2 _ rfl; refine blk_put (cs := #[.int .i64 0, .int .i64 x1535001_1, .int .i64 x1535002_1, .int .i64 x1535003_1, .int .i64 x1535004_1]) ?_ 1 _ rfl; refine blk_put (cs := #[.int .i64 x1535000_1, .int .i64 x1535001_1, .int .i64 x1535002_1, .int .i64 x1535003_1, .int .i64 x1535004_1]) ?_ 0 _ rfl; exact BK1534.out) Try.underlying48 rfl (by kernel_rfl)) rfl ?_
        exact ⟨by rfl, by repeat (with_reducible first | exact HB.out | apply bA_ | apply bN_ | apply bD_ | refine bS_ ?_ GE1534.out | refine bS_ ?_ GE1535.out | refine bS_ ?_ GE1536.out | refine bS_ ?_ GE1537.out | refine bS_ ?_ GE1538.out | refine bS_ ?_ GE1569.out)⟩

end Go.Proofs.Yteikafepdkijdaa.X
