-- CUT by prune.py, a program of this session, to what the claim reaches (out of a text that the kit's printer, the session's programs or the session wrote)
import Derived.Test.YtcdbmmlnmefoeaaPRoundPartsX0
import Derived.Test.YtcdbmmlnmefoeaaPRoundPartsXBig
import Derived.Test.YtcdbmmlnmefoeaaPRoundPartsHTrim
namespace Go.Proofs.Ytcdbmmlnmefoeaa.X
open Go.RowKit Go.Proofs.YtcdbmmlnmefoeaaW.PrintWords Go.Proofs.YtcdbmmlnmefoeaaW.PrintLast Go.Proofs.YtcdbmmlnmefoeaaW.PrintMore
set_option linter.unusedVariables false
set_option linter.unusedSimpArgs false

def demurrageref01_Quot.upsl : Nat → Nat → List Bool
  | 0, _ => []
  | n + 1, m => (m % 2 == 1) :: demurrageref01_Quot.upsl n (m / 2)
def demurrageref01_Quot.ups (n m : Nat) : Array Bool := ⟨demurrageref01_Quot.upsl n m⟩
def demurrageref01_From.f (k : Nat) (a0 : Int) : Option (List Int) := (demurrageref01_FromU.f k (IntKind.u64.wrap (a0))).bind fun t1745 => (some t1745)
set_option maxHeartbeats 8000000 in
set_option maxRecDepth 100000 in
theorem demurrageref01_From.calls (k : Nat) (a0 : Int) (r : List Int) (w : World) (h : demurrageref01_From.f k a0 = some r) :
    Calls Try.prog 71 #[.int .i64 a0] w fun e w' => ∃ v0_ : Value, e = .returned (.agg #[v0_]) ∧ Kd.R (Kd.int .i64) 3 w' w.heap.size (fun _ => True) v0_ r ∧ Below w.heap.size w w' := by
  have hu28 := Try.underlying28
  have HB := Aside0.mk (Below.refl w.heap.size w)
  have H : ((demurrageref01_FromU.f k (IntKind.u64.wrap (a0))).bind fun t1745 => (some t1745)) = some r := h
  clear h
  replace H := Option.bind_eq_some_iff.mp H
  obtain ⟨t1745, A20, H⟩ := H
  replace H : (some t1745) = some r := H
  have A2 := Aside0.mk A20
  clear A20
  obtain rfl := Option.some.inj H
  go_enter Try.func71, Try.ntmps71
  go_wp2_with (first | ((with_reducible refine gate_dst (N := 2) rfl ?_); refine box_event ?hg (N := 2) ?hd (cs := #[.slice none 0 0]) (t := 28) ?hr ?_; (case hd => rfl); (case hg => rfl); (case hr => go_simp); intro gb1744 hg w3 hbox hb; have n0_ := Aside0.mk (below_step (by repeat (first | (with_reducible first | exact HB.out | apply below_alloc | apply pw_below_drewN | apply below_drew1) | exact HB.out)) hb); have n1_ := Aside0.mk (hbox); have n2_ := Aside0.mk ((by rw [hg]; exact (below_size (by repeat (first | (with_reducible first | exact HB.out | apply below_alloc | apply pw_below_drewN | apply below_drew1) | exact HB.out))) : w.heap.size ≤ gb1744)); have n3_ := Aside0.mk ((by rw [hg]; exact (below_size (by repeat (first | (with_reducible first | exact HB.out | apply below_alloc | apply pw_below_drewN | apply below_drew1) | exact HB.out))) : w.heap.size ≤ gb1744)); clear HB; have HB := n0_; have BK1744 := n1_; have GW1744 := n2_; have GE1744 := n3_; clear n0_ n1_ n2_ n3_; clear hb hbox hg) | ((with_reducible refine gate_callee (f := 24) rfl ?_); refine goesL_ (some 5) rfl rfl Try.func24 (by kernel_rfl) rfl #[.int .u64 (IntKind.u64.wrap (a0))] rfl (by (try simp only [List.map_toArray, List.map_cons, List.map_nil]); first | done | rfl) ?_; (with_reducible refine (demurrageref01_FromU.calls k (IntKind.u64.wrap (a0)) t1745 _ A2.out).mono ?_); rintro e w4 ⟨v1746, rfl, ho0, hb⟩; refine ⟨_, rfl, ?_⟩; have n0_ := Aside0.mk (Kd.R_lower ho0 (below_size (by repeat (first | (with_reducible first | exact HB.out | apply below_alloc | apply pw_below_drewN | apply below_drew1 | refine below_set ?_ GE1744.out) | exact HB.out)))); have n1_ := Aside0.mk (blk_below BK1744.out hb); have n2_ := Aside0.mk (below_step (by repeat (first | (with_reducible first | exact HB.out | apply below_alloc | apply pw_below_drewN | apply below_drew1 | refine below_set ?_ GE1744.out) | exact HB.out)) hb); clear BK1744 HB; have HO1747 := n0_; have BK1744 := n1_; have HB := n2_; clear n0_ n1_ n2_; (try clear hb); (try clear ho0); obtain ⟨Ao5, co5, eo5⟩ := Kd.R_slice HO1747.out; subst eo5; have hcz6_0 : w4.cell? ⟨gb1744, 0, none⟩ = some (.slice none 0 0) := (blk_cell BK1744.out 0).trans rfl; have hfz6_0 := blk_frozen BK1744.out 0))
  refine bodyPost_ret (results_cell_row rfl _ _ gb1744 28 #[.slice Ao5 t1745.length co5] (0, 0) _ rfl (by refine blk_put (cs := #[.slice none 0 0]) ?_ 0 _ rfl; exact BK1744.out) Try.underlying28 rfl (by kernel_rfl)) rfl ?_
  exact ⟨_, by rfl, by (with_reducible repeat (first | apply Kd.R_alloc | apply Kd.R_drewN | apply Kd.R_drew)); exact Kd.R_mono (Kd.R_far (p := ⟨gb1744, 0, none⟩) (Kd.R_types HO1747.out BK1744.out (by decide)) (fun _ hk => hk.2) (.slice Ao5 t1745.length co5)) (fun _ hk => trivial), by repeat (first | (with_reducible first | exact HB.out | apply below_alloc | apply pw_below_drewN | apply below_drew1 | refine below_set ?_ GE1744.out) | exact HB.out)⟩

mutual
def demurrageref01_Quot.l0 : Nat → List Int → Int → List Int → List Int → List Int → Option (List Int × List Int)
  | 0, _, _, _, _, _ => none
  | k + 1, x6, x8, x1749000, x1750000, x1756000 => if x8 ≥ 0 then (if 0 ≤ x8 then (if x8 < (x1749000.length : Int) then ((some (([rd x1749000 x8] : List Int) : List Int)).bind fun y1760 => (if y1760.length + x1756000.length < 17592186044416 then ((demurrageref01_trim.f (y1760 ++ x1756000)).bind fun t1766 => (demurrageref01_Quot.l1 k x6 x8 0 10000 x1749000 x1750000 t1766)) else (none))) else (none)) else (none)) else ((demurrageref01_trim.f x6).bind fun t1756 => (some (t1756, x1756000)))
def demurrageref01_Quot.l1 : Nat → List Int → Int → Int → Int → List Int → List Int → List Int → Option (List Int × List Int)
  | 0, _, _, _, _, _, _, _ => none
  | k + 1, x6, x8, x9, x10, x1749000, x1750000, x1756000 => if (wrap64 (x10 - x9)) > 1 then ((demurrageref01_From.f k (wrap64 (Int.tdiv (wrap64 (x9 + x10)) 2))).bind fun t1779 => ((demurrageref01_Prod.f k x1750000 t1779).bind fun t1782 => ((demurrageref01_Cmp.f k t1782 x1756000).bind fun t1785 => (if t1785 ≤ 0 then (demurrageref01_Quot.l1 k x6 x8 (wrap64 (Int.tdiv (wrap64 (x9 + x10)) 2)) x10 x1749000 x1750000 x1756000) else (demurrageref01_Quot.l1 k x6 x8 x9 (wrap64 (Int.tdiv (wrap64 (x9 + x10)) 2)) x1749000 x1750000 x1756000))))) else (if 0 ≤ x8 then (if x8 < (x6.length : Int) then ((demurrageref01_From.f k x9).bind fun t1770 => ((demurrageref01_Prod.f k x1750000 t1770).bind fun t1773 => ((demurrageref01_Less.f k x1756000 t1773).bind fun t1776 => (demurrageref01_Quot.l0 k (x6.set (x8 : Int).toNat x9) (wrap64 (x8 - 1)) x1749000 x1750000 t1776)))) else (none)) else (none))
end
def demurrageref01_Quot.f (k : Nat) (l0_0 : List Int) (l1_0 : List Int) : Option (List Int × List Int) := if 0 ≤ (l0_0.length : Int) then (if ((l0_0.length : Int) : Int).toNat ≤ 35184372088832 then (demurrageref01_Quot.l0 k (List.replicate ((l0_0.length : Int) : Int).toNat 0) (wrap64 ((l0_0.length : Int) - 1)) l0_0 l1_0 ([] : List Int)) else (none)) else (none)
def demurrageref01_Quot.T6 : Bool × List (List Nat × List Nat) := (true, [([], []), ([0], [0]), ([], []), ([1, 2], [1, 2]), ([3], [3]), ([4], [4]), ([], []), ([6], [6]), ([5, 7], [5, 7]), ([8, 8], [8]), ([9, 9, 0, 1, 2, 3, 4, 5, 6, 7, 8, 9], [9])])
def demurrageref01_Quot.B6 : List Nat := [0, 1, 0, 7, 15, 31, 0, 64, 255, 511, 1023]
theorem demurrageref01_Quot.tab6 : rtab .any (opsOf Try.f38 6) = demurrageref01_Quot.T6 := by kernel_rfl
theorem demurrageref01_Quot.bits6 : waitsOk demurrageref01_Quot.T6.2 demurrageref01_Quot.B6 = true := by kernel_rfl
set_option maxHeartbeats 8000000 in
set_option maxRecDepth 100000 in
theorem demurrageref01_Quot.calls (k : Nat) (A0_0 : Option Addr) (c0_0 : Nat) (l0_0 : List Int) (A1_0 : Option Addr) (c1_0 : Nat) (l1_0 : List Int) (r1 : List Int) (r2 : List Int) (w : World) (hr0_0 : Kd.C (Kd.int .i64) w A0_0 l0_0.length l0_0) (hc0_0 : l0_0.length ≤ c0_0) (hr1_0 : Kd.C (Kd.int .i64) w A1_0 l1_0.length l1_0) (hc1_0 : l1_0.length ≤ c1_0) (h : demurrageref01_Quot.f k l0_0 l1_0 = some (r1, r2)) :
    Calls Try.prog 38 #[.agg #[.slice A0_0 l0_0.length c0_0], .agg #[.slice A1_0 l1_0.length c1_0]] w fun e w' => ∃ v0_ v1_ : Value, e = .returned (.tuple #[.agg #[v0_], .agg #[v1_]]) ∧ Kd.R (Kd.int .i64) 3 w' w.heap.size (fun k_ => some k_ ≠ (v1_ : Value).ownBlock) v0_ r1 ∧ Kd.R (Kd.int .i64) 3 w' w.heap.size (fun k_ => some k_ ≠ (v0_ : Value).ownBlock) v1_ r2 ∧ Below w.heap.size w w' := by
  have hu28 := Try.underlying28
  have HR0_0 := Aside0.mk hr0_0
  have HC0_0 := Aside0.mk hc0_0
  clear hr0_0 hc0_0
  have HR1_0 := Aside0.mk hr1_0
  have HC1_0 := Aside0.mk hc1_0
  clear hr1_0 hc1_0
  have HB := Aside0.mk (Below.refl w.heap.size w)
  have H : (if 0 ≤ (l0_0.length : Int) then (if ((l0_0.length : Int) : Int).toNat ≤ 35184372088832 then (demurrageref01_Quot.l0 k (List.replicate ((l0_0.length : Int) : Int).toNat 0) (wrap64 ((l0_0.length : Int) - 1)) l0_0 l1_0 ([] : List Int)) else (none)) else (none)) = some (r1, r2) := h
  clear h
  by_cases c3 : 0 ≤ (l0_0.length : Int)
  · rw [if_pos c3] at H
    have c3b0 := eq_true c3
    have c3b1 : decide (0 ≤ (l0_0.length : Int)) = true := decide_eq_true c3
    clear c3
    by_cases c4 : ((l0_0.length : Int) : Int).toNat ≤ 35184372088832
    · rw [if_pos c4] at H
      have c4b0 := eq_true c4
      have c4b1 : decide (((l0_0.length : Int) : Int).toNat ≤ 35184372088832) = true := decide_eq_true c4
      clear c4
      obtain ⟨y1752, hy1752⟩ : ∃ y_ : List Int, y_ = (List.replicate ((l0_0.length : Int) : Int).toNat 0) := ⟨_, rfl⟩
      replace H : (demurrageref01_Quot.l0 k y1752 (wrap64 ((l0_0.length : Int) - 1)) l0_0 l1_0 ([] : List Int)) = some (r1, r2) := by first | (rw [hy1752]; with_reducible exact H) | (have H2_ := (Option.bind_some _ _).symm.trans H; rw [hy1752]; with_reducible exact H2_) | (have H2_ := (Option.bind_some _ _).symm.trans H; with_reducible exact H2_) | with_reducible exact H | (rw [hy1752]; exact H) | exact H
      have Ny1752 := Aside0.mk hy1752
      clear hy1752
      have H' := Aside0.mk H
      clear H
      go_enter Try.func38, Try.ntmps38
      go_wp2_with (first | ((with_reducible refine gate_dst (N := 2) rfl ?_); refine box_event ?hg (N := 2) ?hd (cs := #[.slice A0_0 l0_0.length c0_0]) (t := 28) ?hr ?_; (case hd => rfl); (case hg => rfl); (case hr => go_simp); intro gb1748 hg w5 hbox hb; have n0_ := Aside0.mk (below_step (by repeat (first | (with_reducible first | exact HB.out | apply below_alloc | apply pw_below_drewN | apply below_drew1) | exact HB.out)) hb); have n1_ := Aside0.mk (hbox); have n2_ := Aside0.mk ((by rw [hg]; exact (below_size (by repeat (first | (with_reducible first | exact HB.out | apply below_alloc | apply pw_below_drewN | apply below_drew1) | exact HB.out))) : w.heap.size ≤ gb1748)); have n3_ := Aside0.mk ((by rw [hg]; exact (below_size (by repeat (first | (with_reducible first | exact HB.out | apply below_alloc | apply pw_below_drewN | apply below_drew1) | exact HB.out))) : w.heap.size ≤ gb1748)); clear HB; have HB := n0_; have BK1748 := n1_; have GW1748 := n2_; have GE1748 := n3_; clear n0_ n1_ n2_ n3_; clear hb hbox hg) | ((with_reducible refine gate_dst (N := 3) rfl ?_); refine box_event ?hg (N := 3) ?hd (cs := #[.slice A1_0 l1_0.length c1_0]) (t := 28) ?hr ?_; (case hd => rfl); (case hg => rfl); (case hr => go_simp); intro gb1749 hg w6 hbox hb; have n0_ := Aside0.mk (blk_below BK1748.out hb); have n1_ := Aside0.mk (below_step (by repeat (first | (with_reducible first | exact HB.out | apply below_alloc | apply pw_below_drewN | apply below_drew1 | refine below_set ?_ GE1748.out) | exact HB.out)) hb); have n2_ := Aside0.mk (hbox); have n3_ := Aside0.mk ((by rw [hg]; exact (below_size (by repeat (first | (with_reducible first | exact HB.out | apply below_alloc | apply pw_below_drewN | apply below_drew1 | refine below_set ?_ GE1748.out) | exact HB.out))) : w.heap.size ≤ gb1749)); have n4_ := Aside0.mk ((by rw [hg]; exact (below_size (by repeat (first | (with_reducible first | exact HB.out | apply below_alloc | apply pw_below_drewN | apply below_drew1 | refine below_set ?_ GE1748.out) | exact HB.out))) : w.heap.size ≤ gb1749)); have n5_ := Aside0.mk ((by rw [hg]; exact Nat.ne_of_lt (blk_lt (g := gb1748) (o := .cells #[.slice A0_0 l0_0.length c0_0] 28 (0, 0)) BK1748.out) : gb1748 ≠ gb1749)); have n6_ := Aside0.mk ((by rw [hg]; exact Nat.ne_of_gt (blk_lt (g := gb1748) (o := .cells #[.slice A0_0 l0_0.length c0_0] 28 (0, 0)) BK1748.out) : gb1749 ≠ gb1748)); clear BK1748 HB; have BK1748 := n0_; have HB := n1_; have BK1749 := n2_; have GW1749 := n3_; have GE1749 := n4_; have NB1748_1749 := n5_; have NB1749_1748 := n6_; clear n0_ n1_ n2_ n3_ n4_ n5_ n6_; clear hb hbox hg) | ((with_reducible refine gate_dst (N := 4) rfl ?_); refine box_event ?hg (N := 4) ?hd (cs := #[.slice none 0 0]) (t := 28) ?hr ?_; (case hd => rfl); (case hg => rfl); (case hr => go_simp); intro gb1750 hg w7 hbox hb; have n0_ := Aside0.mk (blk_below BK1748.out hb); have n1_ := Aside0.mk (blk_below BK1749.out hb); have n2_ := Aside0.mk (below_step (by repeat (first | (with_reducible first | exact HB.out | apply below_alloc | apply pw_below_drewN | apply below_drew1 | refine below_set ?_ GE1748.out | refine below_set ?_ GE1749.out) | exact HB.out)) hb); have n3_ := Aside0.mk (hbox); have n4_ := Aside0.mk ((by rw [hg]; exact (below_size (by repeat (first | (with_reducible first | exact HB.out | apply below_alloc | apply pw_below_drewN | apply below_drew1 | refine below_set ?_ GE1748.out | refine below_set ?_ GE1749.out) | exact HB.out))) : w.heap.size ≤ gb1750)); have n5_ := Aside0.mk ((by rw [hg]; exact (below_size (by repeat (first | (with_reducible first | exact HB.out | apply below_alloc | apply pw_below_drewN | apply below_drew1 | refine below_set ?_ GE1748.out | refine below_set ?_ GE1749.out) | exact HB.out))) : w.heap.size ≤ gb1750)); have n6_ := Aside0.mk ((by rw [hg]; exact Nat.ne_of_lt (blk_lt (g := gb1748) (o := .cells #[.slice A0_0 l0_0.length c0_0] 28 (0, 0)) BK1748.out) : gb1748 ≠ gb1750)); have n7_ := Aside0.mk ((by rw [hg]; exact Nat.ne_of_gt (blk_lt (g := gb1748) (o := .cells #[.slice A0_0 l0_0.length c0_0] 28 (0, 0)) BK1748.out) : gb1750 ≠ gb1748)); have n8_ := Aside0.mk ((by rw [hg]; exact Nat.ne_of_lt (blk_lt (g := gb1749) (o := .cells #[.slice A1_0 l1_0.length c1_0] 28 (0, 0)) BK1749.out) : gb1749 ≠ gb1750)); have n9_ := Aside0.mk ((by rw [hg]; exact Nat.ne_of_gt (blk_lt (g := gb1749) (o := .cells #[.slice A1_0 l1_0.length c1_0] 28 (0, 0)) BK1749.out) : gb1750 ≠ gb1749)); clear BK1748 BK1749; clear HB; have BK1748 := n0_; have BK1749 := n1_; have HB := n2_; have BK1750 := n3_; have GW1750 := n4_; have GE1750 := n5_; have NB1748_1750 := n6_; have NB1750_1748 := n7_; have NB1749_1750 := n8_; have NB1750_1749 := n9_; clear n0_ n1_ n2_ n3_ n4_ n5_ n6_ n7_ n8_ n9_; clear hb hbox hg) | ((with_reducible refine gate_dst (N := 5) rfl ?_); refine box_event ?hg (N := 5) ?hd (cs := #[.slice none 0 0]) (t := 28) ?hr ?_; (case hd => rfl); (case hg => rfl); (case hr => go_simp); intro gb1751 hg w8 hbox hb; have n0_ := Aside0.mk (blk_below BK1748.out hb); have n1_ := Aside0.mk (blk_below BK1749.out hb); have n2_ := Aside0.mk (blk_below BK1750.out hb); have n3_ := Aside0.mk (below_step (by repeat (first | (with_reducible first | exact HB.out | apply below_alloc | apply pw_below_drewN | apply below_drew1 | refine below_set ?_ GE1748.out | refine below_set ?_ GE1749.out | refine below_set ?_ GE1750.out) | exact HB.out)) hb); have n4_ := Aside0.mk (hbox); have n5_ := Aside0.mk ((by rw [hg]; exact (below_size (by repeat (first | (with_reducible first | exact HB.out | apply below_alloc | apply pw_below_drewN | apply below_drew1 | refine below_set ?_ GE1748.out | refine below_set ?_ GE1749.out | refine below_set ?_ GE1750.out) | exact HB.out))) : w.heap.size ≤ gb1751)); have n6_ := Aside0.mk ((by rw [hg]; exact (below_size (by repeat (first | (with_reducible first | exact HB.out | apply below_alloc | apply pw_below_drewN | apply below_drew1 | refine below_set ?_ GE1748.out | refine below_set ?_ GE1749.out | refine below_set ?_ GE1750.out) | exact HB.out))) : w.heap.size ≤ gb1751)); have n7_ := Aside0.mk ((by rw [hg]; exact Nat.ne_of_lt (blk_lt (g := gb1748) (o := .cells #[.slice A0_0 l0_0.length c0_0] 28 (0, 0)) BK1748.out) : gb1748 ≠ gb1751)); have n8_ := Aside0.mk ((by rw [hg]; exact Nat.ne_of_gt (blk_lt (g := gb1748) (o := .cells #[.slice A0_0 l0_0.length c0_0] 28 (0, 0)) BK1748.out) : gb1751 ≠ gb1748)); have n9_ := Aside0.mk ((by rw [hg]; exact Nat.ne_of_lt (blk_lt (g := gb1749) (o := .cells #[.slice A1_0 l1_0.length c1_0] 28 (0, 0)) BK1749.out) : gb1749 ≠ gb1751)); have n10_ := Aside0.mk ((by rw [hg]; exact Nat.ne_of_gt (blk_lt (g := gb1749) (o := .cells #[.slice A1_0 l1_0.length c1_0] 28 (0, 0)) BK1749.out) : gb1751 ≠ gb1749)); have n11_ := Aside0.mk ((by rw [hg]; exact Nat.ne_of_lt (blk_lt (g := gb1750) (o := .cells #[.slice none 0 0] 28 (0, 0)) BK1750.out) : gb1750 ≠ gb1751)); have n12_ := Aside0.mk ((by rw [hg]; exact Nat.ne_of_gt (blk_lt (g := gb1750) (o := .cells #[.slice none 0 0] 28 (0, 0)) BK1750.out) : gb1751 ≠ gb1750)); clear BK1748 BK1749 BK1750 HB; have BK1748 := n0_; have BK1749 := n1_; have BK1750 := n2_; have HB := n3_; have BK1751 := n4_; have GW1751 := n5_; have GE1751 := n6_; have NB1748_1751 := n7_; have NB1751_1748 := n8_; have NB1749_1751 := n9_; have NB1751_1749 := n10_; have NB1750_1751 := n11_; have NB1751_1750 := n12_; clear n0_ n1_ n2_ n3_ n4_ n5_ n6_ n7_ n8_ n9_ n10_ n11_ n12_; clear hb hbox hg; have hnb9 := NB1748_1749.out; have hnc9 := NB1749_1748.out; have hnb10 := NB1748_1750.out; have hnc10 := NB1750_1748.out; have hnb11 := NB1748_1751.out; have hnc11 := NB1751_1748.out; have hcz12_0 : w8.cell? ⟨gb1748, 0, none⟩ = some (.slice A0_0 l0_0.length c0_0) := (blk_cell BK1748.out 0).trans rfl; have hfz12_0 := blk_frozen BK1748.out 0) | ((with_reducible refine gate_dst (N := 15) rfl ?_); refine Kd.R_make (Kd.int .i64) _ 3 rfl (N := 15) rfl 26 _ _ rfl (l0_0.length : Int) rfl rfl Try.underlying26 (.int .i64 0) 8 info3 rfl (by decide) (by omega) 0 (ok := fun _ => True) (okp := fun _ => True) rfl (fun _ hk => hk) trivial (of_decide_eq_true (by first | (with_reducible assumption) | assumption)) (Nat.le_trans (Nat.mul_le_mul_right _ (of_decide_eq_true (by first | (with_reducible assumption) | assumption) : (l0_0.length : Int).toNat ≤ 35184372088832)) (by omega)) (Below.refl _ _) (Nat.le_refl _) ?_; intro v1753 w13 ho14 hb hg_ hnew_; clear hg_ hnew_; (first | rw [← Ny1752.out] at ho14 | (simp only [Int.reduceToNat] at ho14; rw [← Ny1752.out] at ho14)); have n0_ := Aside0.mk (Kd.R_lower ho14 (below_size (by repeat (first | (with_reducible first | exact HB.out | apply below_alloc | apply pw_below_drewN | apply below_drew1 | refine below_set ?_ GE1748.out | refine below_set ?_ GE1749.out | refine below_set ?_ GE1750.out | refine below_set ?_ GE1751.out) | exact HB.out)))); have n1_ := Aside0.mk (blk_below BK1748.out hb); have n2_ := Aside0.mk (blk_below BK1749.out hb); have n3_ := Aside0.mk (blk_below BK1750.out hb); have n4_ := Aside0.mk (blk_below BK1751.out hb); have n5_ := Aside0.mk (below_step (by repeat (first | (with_reducible first | exact HB.out | apply below_alloc | apply pw_below_drewN | apply below_drew1 | refine below_set ?_ GE1748.out | refine below_set ?_ GE1749.out | refine below_set ?_ GE1750.out | refine below_set ?_ GE1751.out) | exact HB.out)) hb); clear BK1748 BK1749 BK1750 BK1751; clear HB; have HO1754 := n0_; have BK1748 := n1_; have BK1749 := n2_; have BK1750 := n3_; have BK1751 := n4_; have HB := n5_; clear n0_ n1_ n2_ n3_ n4_ n5_; clear hb ho14) | ((with_reducible refine gate_dst (N := 7) rfl ?_); refine box_event ?hg (N := 7) ?hd (cs := #[.slice none 0 0]) (t := 28) ?hr ?_; (case hd => rfl); (case hg => rfl); (case hr => go_simp); intro gb1755 hg w15 hbox hb; have n0_ := Aside0.mk (Kd.R_below HO1754.out hb); have n1_ := Aside0.mk (blk_below BK1748.out hb); have n2_ := Aside0.mk (blk_below BK1749.out hb); have n3_ := Aside0.mk (blk_below BK1750.out hb); have n4_ := Aside0.mk (blk_below BK1751.out hb); have n5_ := Aside0.mk (below_step (by repeat (first | (with_reducible first | exact HB.out | apply below_alloc | apply pw_below_drewN | apply below_drew1 | refine below_set ?_ GE1748.out | refine below_set ?_ GE1749.out | refine below_set ?_ GE1750.out | refine below_set ?_ GE1751.out) | exact HB.out)) hb); have n6_ := Aside0.mk (hbox); have n7_ := Aside0.mk ((by rw [hg]; exact (below_size (by repeat (first | (with_reducible first | exact HB.out | apply below_alloc | apply pw_below_drewN | apply below_drew1 | refine below_set ?_ GE1748.out | refine below_set ?_ GE1749.out | refine below_set ?_ GE1750.out | refine below_set ?_ GE1751.out) | exact HB.out))) : w.heap.size ≤ gb1755)); have n8_ := Aside0.mk ((by rw [hg]; exact (below_size (by repeat (first | (with_reducible first | exact HB.out | apply below_alloc | apply pw_below_drewN | apply below_drew1 | refine below_set ?_ GE1748.out | refine below_set ?_ GE1749.out | refine below_set ?_ GE1750.out | refine below_set ?_ GE1751.out) | exact HB.out))) : w.heap.size ≤ gb1755)); have n9_ := Aside0.mk ((by rw [hg]; exact Nat.ne_of_lt (blk_lt (g := gb1748) (o := .cells #[.slice A0_0 l0_0.length c0_0] 28 (0, 0)) BK1748.out) : gb1748 ≠ gb1755)); have n10_ := Aside0.mk ((by rw [hg]; exact Nat.ne_of_gt (blk_lt (g := gb1748) (o := .cells #[.slice A0_0 l0_0.length c0_0] 28 (0, 0)) BK1748.out) : gb1755 ≠ gb1748)); have n11_ := Aside0.mk ((by rw [hg]; exact Nat.ne_of_lt (blk_lt (g := gb1749) (o := .cells #[.slice A1_0 l1_0.length c1_0] 28 (0, 0)) BK1749.out) : gb1749 ≠ gb1755)); have n12_ := Aside0.mk ((by rw [hg]; exact Nat.ne_of_gt (blk_lt (g := gb1749) (o := .cells #[.slice A1_0 l1_0.length c1_0] 28 (0, 0)) BK1749.out) : gb1755 ≠ gb1749)); have n13_ := Aside0.mk ((by rw [hg]; exact Nat.ne_of_lt (blk_lt (g := gb1750) (o := .cells #[.slice none 0 0] 28 (0, 0)) BK1750.out) : gb1750 ≠ gb1755)); have n14_ := Aside0.mk ((by rw [hg]; exact Nat.ne_of_gt (blk_lt (g := gb1750) (o := .cells #[.slice none 0 0] 28 (0, 0)) BK1750.out) : gb1755 ≠ gb1750)); have n15_ := Aside0.mk ((by rw [hg]; exact Nat.ne_of_lt (blk_lt (g := gb1751) (o := .cells #[.slice none 0 0] 28 (0, 0)) BK1751.out) : gb1751 ≠ gb1755)); have n16_ := Aside0.mk ((by rw [hg]; exact Nat.ne_of_gt (blk_lt (g := gb1751) (o := .cells #[.slice none 0 0] 28 (0, 0)) BK1751.out) : gb1755 ≠ gb1751)); clear HO1754 BK1748 BK1749 BK1750; clear BK1751 HB; have HO1754 := n0_; have BK1748 := n1_; have BK1749 := n2_; have BK1750 := n3_; have BK1751 := n4_; have HB := n5_; have BK1755 := n6_; have GW1755 := n7_; have GE1755 := n8_; have NB1748_1755 := n9_; have NB1755_1748 := n10_; have NB1749_1755 := n11_; have NB1755_1749 := n12_; have NB1750_1755 := n13_; have NB1755_1750 := n14_; have NB1751_1755 := n15_; have NB1755_1751 := n16_; clear n0_ n1_ n2_ n3_ n4_ n5_ n6_ n7_ n8_ n9_ n10_ n11_ n12_ n13_ n14_ n15_ n16_; clear hb hbox hg; have hnb16 := NB1755_1748.out; have hnc16 := NB1748_1755.out; have hnb17 := NB1755_1749.out; have hnc17 := NB1749_1755.out; have hnb18 := NB1755_1750.out; have hnc18 := NB1750_1755.out; have hnb19 := NB1755_1751.out; have hnc19 := NB1751_1755.out; have hcz20_0 : w15.cell? ⟨gb1755, 0, none⟩ = some (.slice none 0 0) := (blk_cell BK1755.out 0).trans rfl; have hfz20_0 := blk_frozen BK1755.out 0; have hcz21_0 : w15.cell? ⟨gb1748, 0, none⟩ = some (.slice A0_0 l0_0.length c0_0) := (blk_cell BK1748.out 0).trans rfl; have hfz21_0 := blk_frozen BK1748.out 0))
      (try simp only [Act.put, List.setIfInBounds_toArray, List.set_cons_zero, List.set_cons_succ])
      go_loopg [8] k (fun kq v8 w' => ∃ (x6_1 : List Int) (x8_1 : Int) (x1756000_1 : List Int) (u1756000 : Value), v8 = .int .i64 x8_1 ∧ Aside0 (demurrageref01_Quot.l0 kq x6_1 x8_1 l0_0 l1_0 x1756000_1 = some (r1, r2)) ∧ Aside0 (kq ≤ k) ∧ Aside0 (Kd.R (Kd.int .i64) 3 w' w.heap.size (fun k_ => some k_ ≠ (u1756000 : Value).ownBlock) v1753 x6_1) ∧ Aside0 (Kd.R (Kd.int .i64) 3 w' w.heap.size (fun k_ => some k_ ≠ (v1753 : Value).ownBlock) u1756000 x1756000_1) ∧ Aside0 (w'.heap[gb1748]? = some (.cells #[(.slice A0_0 l0_0.length c0_0)] 28 (0, 0))) ∧ Aside0 (w'.heap[gb1749]? = some (.cells #[(.slice A1_0 l1_0.length c1_0)] 28 (0, 0))) ∧ Aside0 (w'.heap[gb1750]? = some (.cells #[(.slice none 0 0)] 28 (0, 0))) ∧ Aside0 (w'.heap[gb1751]? = some (.cells #[(.slice none 0 0)] 28 (0, 0))) ∧ Aside0 (w'.heap[gb1755]? = some (.cells #[u1756000] 28 (0, 0))) ∧ Aside0 (Below w.heap.size w w'))
      case atStart => exact ⟨(y1752), (wrap64 ((l0_0.length : Int) - 1)), (([] : List Int)), (.slice none 0 0), (by first | rfl | (simp; done) | (simp [*]; done)), H', ⟨Nat.le_refl _⟩, ⟨by (with_reducible repeat (first | apply Kd.R_alloc | apply Kd.R_drewN | apply Kd.R_drew)); exact Kd.R_mono (Kd.R_far (p := ⟨gb1755, 0, none⟩) (Kd.R_types HO1754.out BK1755.out (by decide)) (fun _ hk => hk.2) (.slice none 0 0)) (fun _ hk => (by simp [Value.ownBlock]))⟩, ⟨by first | exact Kd.R_nil _ _ _ _ _ | exact Kd.N_nil _ _ _ _ _ | exact Kd.V_nil _ _ _ _ _ | exact Kd.Q_nil _ _ _ _ _ | exact Kd.S_nil _ _ _ _ _⟩, ⟨by refine blk_far ?_ NB1748_1755.out _; exact BK1748.out⟩, ⟨by refine blk_far ?_ NB1749_1755.out _; exact BK1749.out⟩, ⟨by refine blk_far ?_ NB1750_1755.out _; exact BK1750.out⟩, ⟨by refine blk_far ?_ NB1751_1755.out _; exact BK1751.out⟩, ⟨by refine blk_put (cs := #[.slice none 0 0]) ?_ 0 _ rfl; exact BK1755.out⟩, ⟨by repeat (first | (with_reducible first | exact HB.out | apply below_alloc | apply pw_below_drewN | apply below_drew1 | refine below_set ?_ GE1748.out | refine below_set ?_ GE1749.out | refine below_set ?_ GE1750.out | refine below_set ?_ GE1751.out | refine below_set ?_ GE1755.out) | exact HB.out)⟩⟩
      case round =>
        clear H'
        try clear c1
        try clear p2
        try clear c3
        try clear c3b0
        try clear c3b1
        try clear c4
        try clear c4b0
        try clear c4b1
        try clear p6
        try clear c9
        try clear c10
        try clear c11
        try clear c16
        try clear c17
        try clear c18
        try clear c19
        try clear hcz12_0
        try clear hcz20_0
        try clear hcz21_0
        try clear hfz12_0
        try clear hfz20_0
        try clear hfz21_0
        obtain ⟨x6_1, x8_1, x1756000_1, u1756000, rfl, HA, HK1, HO_6, HO_1756000, BK1748, BK1749, BK1750, BK1751, BK1755, HB⟩ := hrel
        cases gk with
        | zero => exact absurd HA.out (by simp [demurrageref01_Quot.l0])
        | succ k1 =>
          have H := HA.out
          clear HA
          simp only [demurrageref01_Quot.l0] at H
          by_cases c22 : x8_1 ≥ 0
          · rw [if_pos c22] at H
            have c22b0 : decide (0 ≤ x8_1) = true := decide_eq_true c22
            clear c22
            by_cases c23 : 0 ≤ x8_1
            · rw [if_pos c23] at H
              have c23b0 : decide (0 ≤ x8_1) = true := decide_eq_true c23
              clear c23
              by_cases c24 : x8_1 < (l0_0.length : Int)
              · rw [if_pos c24] at H
                have c24b0 : decide (x8_1 < (l0_0.length : Int)) = true := decide_eq_true c24
                clear c24
                obtain ⟨y1760, hy1760⟩ : ∃ y_ : List Int, y_ = (([rd l0_0 x8_1] : List Int)) := ⟨_, rfl⟩
                replace H : (if y1760.length + x1756000_1.length < 17592186044416 then ((demurrageref01_trim.f (y1760 ++ x1756000_1)).bind fun t1766 => (demurrageref01_Quot.l1 k1 x6_1 x8_1 0 10000 l0_0 l1_0 t1766)) else (none)) = some (r1, r2) := by first | (rw [hy1760]; with_reducible exact H) | (have H2_ := (Option.bind_some _ _).symm.trans H; rw [hy1760]; with_reducible exact H2_) | (have H2_ := (Option.bind_some _ _).symm.trans H; with_reducible exact H2_) | with_reducible exact H | (rw [hy1760]; exact H) | exact H
                have Ny1760 := Aside0.mk hy1760
                clear hy1760
                by_cases c25 : y1760.length + x1756000_1.length < 17592186044416
                · rw [if_pos c25] at H
                  have LMc25 := Aside0.mk c25
                  clear c25
                  obtain ⟨y1763, hy1763⟩ : ∃ y_ : List Int, y_ = (y1760 ++ x1756000_1) := ⟨_, rfl⟩
                  replace H : ((demurrageref01_trim.f y1763).bind fun t1766 => (demurrageref01_Quot.l1 k1 x6_1 x8_1 0 10000 l0_0 l1_0 t1766)) = some (r1, r2) := by first | (rw [hy1763]; with_reducible exact H) | (have H2_ := (Option.bind_some _ _).symm.trans H; rw [hy1763]; with_reducible exact H2_) | (have H2_ := (Option.bind_some _ _).symm.trans H; with_reducible exact H2_) | with_reducible exact H | (rw [hy1763]; exact H) | exact H
                  have Ny1763 := Aside0.mk hy1763
                  clear hy1763
                  replace H := Option.bind_eq_some_iff.mp H
                  obtain ⟨t1766, A260, H⟩ := H
                  replace H : (demurrageref01_Quot.l1 k1 x6_1 x8_1 0 10000 l0_0 l1_0 t1766) = some (r1, r2) := H
                  have A26 := Aside0.mk A260
                  clear A260
                  have H' := Aside0.mk H
                  clear H
                  try go_wp2
                  have n0_ := Aside0.mk (Kd.R_drew HO_6.out)
                  have n1_ := Aside0.mk (Kd.R_drew HO_1756000.out)
                  have n2_ := Aside0.mk (blk_drew BK1748.out)
                  have n3_ := Aside0.mk (blk_drew BK1749.out)
                  have n4_ := Aside0.mk (blk_drew BK1750.out)
                  have n5_ := Aside0.mk (blk_drew BK1751.out)
                  have n6_ := Aside0.mk (blk_drew BK1755.out)
                  have n7_ := Aside0.mk (below_drew1 HB.out)
                  clear HO_6 HO_1756000 BK1748 BK1749 BK1750 BK1751 BK1755 HB
                  have HO_6 := n0_
                  have HO_1756000 := n1_
                  have BK1748 := n2_
                  have BK1749 := n3_
                  have BK1750 := n4_
                  have BK1751 := n5_
                  have BK1755 := n6_
                  have HB := n7_
                  clear n0_ n1_ n2_ n3_ n4_ n5_ n6_ n7_
                  have p1759 : 0 ≤ (x8_1 : Int) := of_decide_eq_true (by first | (with_reducible assumption) | assumption)
                  have q1759 : x8_1 < (l0_0.length : Int) := of_decide_eq_true (by first | (with_reducible assumption) | assumption)
                  obtain ⟨ad1759, e1759, hx1759_0⟩ := Kd.at_int HR0_0.out x8_1 p1759 q1759
                  have hw1759_0 := hx1759_0
                  cases e1759
                  replace hx1759_0 := (HB.out.cell (World.block_lt_of_cell? w _ hx1759_0)).trans hx1759_0
                  replace p1759 := eq_true p1759
                  replace q1759 := eq_true q1759
                  refine start_ (n := 11) (S := fun w' => w'.cell? ⟨gb1748, 0, none⟩ = some (.slice (some ad1759) l0_0.length c0_0) ∧ w'.cell? ⟨gb1755, 0, none⟩ = some (u1756000) ∧ w'.cell? (ad1759.add (x8_1).toNat) = some (.int .i64 (rd l0_0 x8_1))) (ds := [10]) (demurrageref01_Quot.ups 11 0) (by kernel_rfl) rfl rfl ⟨(blk_cell BK1748.out 0).trans rfl, (blk_cell BK1755.out 0).trans rfl, ((HB.out.cell (World.block_lt_of_cell? w _ hw1759_0)).trans hw1759_0)⟩ (fun hHeld => ?_); refine with_tabW demurrageref01_Quot.tab6 demurrageref01_Quot.bits6 (fun HT_ HW_ => ?_)
                  generalize wr.drew = w27 at HO_6 HO_1756000 BK1748 BK1749 BK1750 BK1751 BK1755 HB hx1759_0 hHeld ⊢
                  refine pure_ (i := 0) (N := some 25) (v := ?_) (a' := ?_) (demurrageref01_Quot.ups 11 1) rfl rfl (any_of HT_.out (by kernel_rfl)) (fun _ _ _ h => h) (Or.inl ⟨by rfl, ?_⟩) ?_ ?_
                  rotate_left
                  · intro w'
                    go_simp
                    with_reducible rfl
                  rotate_left
                  · simp only [Act.put, List.setIfInBounds_toArray, List.set_cons_zero, List.set_cons_succ, i64_w, i32_w]
                    rfl
                  refine pure_ (i := 2) (N := some 27) (v := ?_) (a' := ?_) (demurrageref01_Quot.ups 11 5) rfl rfl (any_of HT_.out (by kernel_rfl)) (fun _ _ _ h => h) (Or.inl ⟨by rfl, ?_⟩) ?_ ?_
                  rotate_left
                  · intro w'
                    go_simp
                    with_reducible rfl
                  rotate_left
                  · simp only [Act.put, List.setIfInBounds_toArray, List.set_cons_zero, List.set_cons_succ, i64_w, i32_w]
                    rfl
                  refine pure_ (i := 6) (N := some 31) (v := ?_) (a' := ?_) (demurrageref01_Quot.ups 11 69) rfl rfl (any_of HT_.out (by kernel_rfl)) (fun _ _ _ h => h) (Or.inl ⟨by rfl, ?_⟩) ?_ ?_
                  rotate_left
                  · intro w'
                    go_simp
                    with_reducible rfl
                  rotate_left
                  · simp only [Act.put, List.setIfInBounds_toArray, List.set_cons_zero, List.set_cons_succ, i64_w, i32_w]
                    rfl
                  refine take_ (i := 1) (N := some 26) (v := ?_) (a' := ?_) (demurrageref01_Quot.ups 11 71) rfl rfl (take_ofW HT_.out HW_.out (by kernel_rfl)) (fun _ _ _ h => h) (Or.inl ⟨by rfl, ?_⟩) hHeld ?_ ?_
                  rotate_left
                  · rintro w' ⟨s0, s1, s2⟩
                    go_simp
                    with_reducible rfl
                  rotate_left
                  · simp only [Act.put, List.setIfInBounds_toArray, List.set_cons_zero, List.set_cons_succ, i64_w, i32_w]
                    rfl
                  refine pure_ (i := 3) (N := some 28) (v := ?_) (a' := ?_) (demurrageref01_Quot.ups 11 79) rfl rfl (any_of HT_.out (by kernel_rfl)) (fun _ _ _ h => h) (Or.inl ⟨by rfl, ?_⟩) ?_ ?_
                  rotate_left
                  · intro w'
                    go_simp
                    with_reducible rfl
                  rotate_left
                  · simp only [Act.put, List.setIfInBounds_toArray, List.set_cons_zero, List.set_cons_succ, i64_w, i32_w]
                    rfl
                  refine take_ (i := 4) (N := some 29) (v := ?_) (a' := ?_) (demurrageref01_Quot.ups 11 95) rfl rfl (take_ofW HT_.out HW_.out (by kernel_rfl)) (fun _ _ _ h => h) (Or.inl ⟨by rfl, ?_⟩) hHeld ?_ ?_
                  rotate_left
                  · rintro w' ⟨s0, s1, s2⟩
                    go_simp
                    with_reducible rfl
                  rotate_left
                  · simp only [Act.put, List.setIfInBounds_toArray, List.set_cons_zero, List.set_cons_succ, i64_w, i32_w]
                    rfl
                  refine take_ (i := 7) (N := some 32) (v := ?_) (a' := ?_) (demurrageref01_Quot.ups 11 223) rfl rfl (take_ofW HT_.out HW_.out (by kernel_rfl)) (fun _ _ _ h => h) (Or.inl ⟨by rfl, ?_⟩) hHeld ?_ ?_
                  rotate_left
                  · rintro w' ⟨s0, s1, s2⟩
                    go_simp
                    with_reducible rfl
                  rotate_left
                  · simp only [Act.put, List.setIfInBounds_toArray, List.set_cons_zero, List.set_cons_succ, i64_w, i32_w]
                    rfl
                  refine one_ (i := 5) (N := some 30) (demurrageref01_Quot.ups 11 255) rfl rfl (one_of HT_.out (by kernel_rfl)) (by decide) (fun K hK => ?_)
                  refine Kd.R_lit_step (Kd.int .i64) _ 3 ?hg (N := 30) ?hd (xs := ([rd l0_0 x8_1] : List Int)) (inner := [.int .i64 (rd l0_0 x8_1)]) (ok := fun _ => True) (okp := fun _ => True) ?hr ?hp (fun _ hk => hk) trivial (Below.refl _ _) (Nat.le_refl _) (by simp) ?_; (case hd => rfl); (case hg => rfl); (case hr => go_simp); (case hp => exact (Reps.one (show Kd.M (Kd.int .i64) _ _ _ (rd l0_0 x8_1) [.int .i64 (rd l0_0 x8_1)] from rfl) (Reps.none _ _)))
                  intro v1761 w28 ho29 hb hg_ hnew_
                  clear hg_ hnew_
                  (first | rw [← Ny1760.out] at ho29 | (simp only [Int.reduceToNat] at ho29; rw [← Ny1760.out] at ho29))
                  have n0_ := Aside0.mk (Kd.R_elder' HO_6.out (Kd.R_base ho29) hb)
                  have n1_ := Aside0.mk (Kd.R_elder' HO_1756000.out (Kd.R_base ho29) hb)
                  have n2_ := Aside0.mk (Kd.R_lower (Kd.R_new' (Kd.R_new' ho29 (Kd.R_lt HO_6.out)) (Kd.R_lt HO_1756000.out)) (below_size (by repeat (first | (with_reducible first | exact HB.out | apply below_alloc | apply pw_below_drewN | apply below_drew1 | refine below_set ?_ GE1748.out | refine below_set ?_ GE1749.out | refine below_set ?_ GE1750.out | refine below_set ?_ GE1751.out | refine below_set ?_ GE1755.out) | exact HB.out))))
                  have n3_ := Aside0.mk (blk_below BK1748.out hb)
                  have n4_ := Aside0.mk (blk_below BK1749.out hb)
                  have n5_ := Aside0.mk (blk_below BK1750.out hb)
                  have n6_ := Aside0.mk (blk_below BK1751.out hb)
                  have n7_ := Aside0.mk (blk_below BK1755.out hb)
                  have n8_ := Aside0.mk (below_step (by repeat (first | (with_reducible first | exact HB.out | apply below_alloc | apply pw_below_drewN | apply below_drew1 | refine below_set ?_ GE1748.out | refine below_set ?_ GE1749.out | refine below_set ?_ GE1750.out | refine below_set ?_ GE1751.out | refine below_set ?_ GE1755.out) | exact HB.out)) hb)
                  clear HO_6 HO_1756000 BK1748 BK1749 BK1750 BK1751 BK1755 HB
                  have HO_6 := n0_
                  have HO_1756000 := n1_
                  have HO1762 := n2_
                  have BK1748 := n3_
                  have BK1749 := n4_
                  have BK1750 := n5_
                  have BK1751 := n6_
                  have BK1755 := n7_
                  have HB := n8_
                  clear n0_ n1_ n2_ n3_ n4_ n5_ n6_ n7_ n8_ hb ho29
                  obtain ⟨Ao31, co31, eo31⟩ := Kd.R_slice HO_1756000.out
                  (first | subst eo31 | (injection eo31 with f1_ f2_ f3_; have f4_ := f1_.symm; have f5_ := f3_.symm; clear f1_ f2_ f3_; subst f4_; subst f5_))
                  refine hK.out _ _ ⟨(blk_cell BK1748.out 0).trans rfl, (blk_cell BK1755.out 0).trans rfl, ((HB.out.cell (World.block_lt_of_cell? w _ hw1759_0)).trans hw1759_0)⟩ (fun hHeld => ?_)
                  clear hK K
                  refine norm_ (a' := ?_) ?_ ?_
                  rotate_left
                  · show Act.put _ (some 30) _ = _
                    simp only [Act.put, List.setIfInBounds_toArray, List.set_cons_zero, List.set_cons_succ, i64_w, i32_w]
                    rfl
                  refine one_ (i := 8) (N := some 33) (demurrageref01_Quot.ups 11 511) rfl rfl (one_of HT_.out (by kernel_rfl)) (by decide) (fun K hK => ?_)
                  refine Kd.R_append_rows_step (Kd.int .i64) (w0 := w) w.heap.size (by rfl) (.tmp 30) (.tmp 32) 26 3 (.int .i64 0) 8 rfl Try.underlying26 info3 rfl (by decide) (by omega) v1761 y1760 x1756000_1 _ _ _ (fun k_ => some k_ ≠ (v1753 : Value).ownBlock ∧ some k_ ≠ (.slice Ao31 x1756000_1.length co31 : Value).ownBlock) (fun _ => False) rfl rfl ?aO ?aR (fun _ _ h => h) (fun _ h => h.elim) ?aF ?aB ?aS ?aL ?_
                  (case aR => repeat (first | exact (Kd.R_reads' HO_1756000.out).2.2 | (with_reducible refine Kd.C_alloc ?_ _) | (with_reducible refine Kd.C_drewN ?_ _) | (with_reducible refine Kd.C_drew ?_)))
                  (case aB => exact (by repeat (first | (with_reducible first | exact HB.out | apply below_alloc | apply pw_below_drewN | apply below_drew1 | refine below_set ?_ GE1748.out | refine below_set ?_ GE1749.out | refine below_set ?_ GE1750.out | refine below_set ?_ GE1751.out | refine below_set ?_ GE1755.out) | exact HB.out)))
                  (case aF => exact (fun k_ hk => ⟨Kd.fresh' (Kd.R_lt HO_6.out) k_ hk, Kd.fresh' (Kd.R_lt HO_1756000.out) k_ hk⟩))
                  (case aO => exact (by (with_reducible repeat (first | apply Kd.R_alloc | apply Kd.R_drewN | apply Kd.R_drew)); exact Kd.R_mono HO1762.out (fun _ hk => (And.intro (hk.1.2) (hk.2)))))
                  (case aS => exact (below_size (by repeat (first | (with_reducible first | exact HB.out | apply below_alloc | apply pw_below_drewN | apply below_drew1 | refine below_set ?_ GE1748.out | refine below_set ?_ GE1749.out | refine below_set ?_ GE1750.out | refine below_set ?_ GE1751.out | refine below_set ?_ GE1755.out) | exact HB.out))))
                  (case aL => have := LMc25.out; omega)
                  intro v1764 w30 ho hb hg hat
                  rw [← Ny1763.out] at ho
                  have n0_ := Aside0.mk (Kd.R_after (ok := (fun k_ => some k_ ≠ (.slice Ao31 x1756000_1.length co31 : Value).ownBlock)) HO_6.out hg hat)
                  have n1_ := Aside0.mk (Kd.R_after (ok := (fun k_ => some k_ ≠ (v1753 : Value).ownBlock)) HO_1756000.out hg hat)
                  have n2_ := Aside0.mk (blk_grown BK1748.out hg (Kd.R_ne HO1762.out BK1748.out (by decide)))
                  have n3_ := Aside0.mk (blk_grown BK1749.out hg (Kd.R_ne HO1762.out BK1749.out (by decide)))
                  have n4_ := Aside0.mk (blk_grown BK1750.out hg (Kd.R_ne HO1762.out BK1750.out (by decide)))
                  have n5_ := Aside0.mk (blk_grown BK1751.out hg (Kd.R_ne HO1762.out BK1751.out (by decide)))
                  have n6_ := Aside0.mk (blk_grown BK1755.out hg (Kd.R_ne HO1762.out BK1755.out (by decide)))
                  have n7_ := Aside0.mk (hb)
                  have n8_ := Aside0.mk (ho)
                  clear HO_6 HO_1756000 BK1748 BK1749 BK1750 BK1751 BK1755 HB HO1762
                  have HO_6 := n0_
                  have HO_1756000 := n1_
                  have BK1748 := n2_
                  have BK1749 := n3_
                  have BK1750 := n4_
                  have BK1751 := n5_
                  have BK1755 := n6_
                  have HB := n7_
                  have HO1765 := n8_
                  clear n0_ n1_ n2_ n3_ n4_ n5_ n6_ n7_ n8_ ho hb hg hat
                  obtain ⟨Ao32, co32, eo32⟩ := Kd.R_slice HO1765.out
                  (first | subst eo32 | (injection eo32 with f1_ f2_ f3_; have f4_ := f1_.symm; have f5_ := f3_.symm; clear f1_ f2_ f3_; subst f4_; subst f5_))
                  refine hK.out _ _ ⟨(blk_cell BK1748.out 0).trans rfl, (blk_cell BK1755.out 0).trans rfl, ((HB.out.cell (World.block_lt_of_cell? w _ hw1759_0)).trans hw1759_0)⟩ (fun hHeld => ?_)
                  clear hK K
                  refine norm_ (a' := ?_) ?_ ?_
                  rotate_left
                  · show Act.put _ (some 33) _ = _
                    simp only [Act.put, List.setIfInBounds_toArray, List.set_cons_zero, List.set_cons_succ, i64_w, i32_w]
                    rfl
                  refine one_ (i := 9) (N := some 34) (demurrageref01_Quot.ups 11 1023) rfl rfl (one_of HT_.out (by kernel_rfl)) (by decide) (fun K hK => ?_)
                  refine goes_ Try.func66 (by kernel_rfl) rfl #[.slice Ao32 y1763.length co32] (by rfl) rfl rfl (by (try simp only [List.map_toArray, List.map_cons, List.map_nil]); first | done | rfl) ?_
                  with_reducible refine (demurrageref01_trim.calls _ _ y1763 t1766 _ ?side1 ?side2 A26.out).mono ?_
                  (case side1 => repeat (first | exact (Kd.R_reads' HO1765.out).2.2 | (with_reducible refine Kd.C_alloc ?_ _) | (with_reducible refine Kd.C_drewN ?_ _) | (with_reducible refine Kd.C_drew ?_)))
                  (case side2 => exact (Kd.R_reads' HO1765.out).2.1)
                  rintro e w33 ⟨v1767, rfl, ho0, hb⟩
                  refine ⟨_, rfl, ?_⟩
                  have n0_ := Aside0.mk (Kd.R_elder' HO_6.out (Kd.R_base ho0) hb)
                  have n1_ := Aside0.mk (Kd.R_elder' HO_1756000.out (Kd.R_base ho0) hb)
                  have n2_ := Aside0.mk (Kd.R_elder' HO1765.out (Kd.R_base ho0) hb)
                  have n3_ := Aside0.mk (Kd.R_lower (Kd.R_new' (Kd.R_new' (Kd.R_new' ho0 (Kd.R_lt HO_6.out)) (Kd.R_lt HO_1756000.out)) (Kd.R_lt HO1765.out)) (below_size (by repeat (first | (with_reducible first | exact HB.out | apply below_alloc | apply pw_below_drewN | apply below_drew1 | refine below_set ?_ GE1748.out | refine below_set ?_ GE1749.out | refine below_set ?_ GE1750.out | refine below_set ?_ GE1751.out | refine below_set ?_ GE1755.out) | exact HB.out))))
                  have n4_ := Aside0.mk (blk_below BK1748.out hb)
                  have n5_ := Aside0.mk (blk_below BK1749.out hb)
                  have n6_ := Aside0.mk (blk_below BK1750.out hb)
                  have n7_ := Aside0.mk (blk_below BK1751.out hb)
                  have n8_ := Aside0.mk (blk_below BK1755.out hb)
                  have n9_ := Aside0.mk (below_step (by repeat (first | (with_reducible first | exact HB.out | apply below_alloc | apply pw_below_drewN | apply below_drew1 | refine below_set ?_ GE1748.out | refine below_set ?_ GE1749.out | refine below_set ?_ GE1750.out | refine below_set ?_ GE1751.out | refine below_set ?_ GE1755.out) | exact HB.out)) hb)
                  clear HO_6 HO_1756000 HO1765 BK1748 BK1749 BK1750 BK1751 BK1755 HB
                  have HO_6 := n0_
                  have HO_1756000 := n1_
                  have HO1765 := n2_
                  have HO1768 := n3_
                  have BK1748 := n4_
                  have BK1749 := n5_
                  have BK1750 := n6_
                  have BK1751 := n7_
                  have BK1755 := n8_
                  have HB := n9_
                  clear n0_ n1_ n2_ n3_ n4_ n5_ n6_ n7_ n8_ n9_
                  (try clear hb)
                  (try clear hb2)
                  (try clear hk)
                  (try clear hi)
                  (try clear ho0)
                  obtain ⟨Ao34, co34, eo34⟩ := Kd.R_slice HO1768.out
                  (first | subst eo34 | (injection eo34 with f1_ f2_ f3_; have f4_ := f1_.symm; have f5_ := f3_.symm; clear f1_ f2_ f3_; subst f4_; subst f5_))
                  refine hK.out _ _ ⟨(blk_cell BK1748.out 0).trans rfl, (blk_cell BK1755.out 0).trans rfl, ((HB.out.cell (World.block_lt_of_cell? w _ hw1759_0)).trans hw1759_0)⟩ (fun hHeld => ?_)
                  clear hK K
                  refine norm_ (a' := ?_) ?_ ?_
                  rotate_left
                  · show Act.put _ (some 34) _ = _
                    simp only [Act.put, List.setIfInBounds_toArray, List.set_cons_zero, List.set_cons_succ, i64_w, i32_w]
                    rfl
                  refine last_ (i := 10) (N := none) (demurrageref01_Quot.ups 11 2047) rfl rfl (one_of HT_.out (by kernel_rfl)) (by decide) (fun K hK => ?_)
                  have hs35 : w33.cell? ⟨gb1755, 0, none⟩ = some (.slice Ao31 x1756000_1.length co31) := (blk_cell BK1755.out 0).trans rfl
                  have hfs35 := blk_frozen BK1755.out 0
                  have hns35_0 := NB1748_1755.out
                  have hns35_1 := NB1749_1755.out
                  have hns35_2 := NB1750_1755.out
                  have hns35_3 := NB1751_1755.out
                  have hms35_0 := NB1755_1748.out
                  have hms35_1 := NB1755_1749.out
                  have hms35_2 := NB1755_1750.out
                  have hms35_3 := NB1755_1751.out
                  refine skip_ (w1 := ?_) (by rfl) rfl ?_ ?_
                  rotate_left
                  · go_simp
                    rfl
                  refine hK.out _ _ ?_
                  clear hK K
                  refine done_ (done_of HT_.out (by kernel_rfl)) ?_
                  try go_wp2
                  (try simp only [Act.put, List.setIfInBounds_toArray, List.set_cons_zero, List.set_cons_succ])
                  go_loopg [9, 10] k1 (fun kq v9 v10 w' => ∃ (x9_2 : Int) (x10_2 : Int), v9 = .int .i64 x9_2 ∧ v10 = .int .i64 x10_2 ∧ Aside0 (demurrageref01_Quot.l1 kq x6_1 x8_1 x9_2 x10_2 l0_0 l1_0 t1766 = some (r1, r2)) ∧ Aside0 (kq ≤ k1) ∧ Aside0 (Kd.R (Kd.int .i64) 3 w' w.heap.size (fun k_ => some k_ ≠ ((.slice Ao34 t1766.length co34) : Value).ownBlock) v1753 x6_1) ∧ Aside0 (Kd.R (Kd.int .i64) 3 w' w.heap.size (fun k_ => some k_ ≠ (v1753 : Value).ownBlock) (.slice Ao34 t1766.length co34) t1766) ∧ Aside0 (w'.heap[gb1748]? = some (.cells #[(.slice (some ad1759) l0_0.length c0_0)] 28 (0, 0))) ∧ Aside0 (w'.heap[gb1749]? = some (.cells #[(.slice A1_0 l1_0.length c1_0)] 28 (0, 0))) ∧ Aside0 (w'.heap[gb1750]? = some (.cells #[(.slice none 0 0)] 28 (0, 0))) ∧ Aside0 (w'.heap[gb1751]? = some (.cells #[(.slice none 0 0)] 28 (0, 0))) ∧ Aside0 (w'.heap[gb1755]? = some (.cells #[(.slice Ao34 t1766.length co34)] 28 (0, 0))) ∧ Aside0 (Below w.heap.size w w'))
                  case atStart => exact ⟨(0), (10000), (by first | rfl | (simp; done) | (simp [*]; done)), (by first | rfl | (simp; done) | (simp [*]; done)), H', ⟨Nat.le_refl _⟩, ⟨by (with_reducible repeat (first | apply Kd.R_alloc | apply Kd.R_drewN | apply Kd.R_drew)); exact Kd.R_mono (Kd.R_far (p := ⟨gb1755, 0, none⟩) (Kd.R_types HO_6.out BK1755.out (by decide)) (fun _ hk => hk.2) (.slice Ao34 t1766.length co34)) (fun _ hk => hk.1.2)⟩, ⟨by (with_reducible repeat (first | apply Kd.R_alloc | apply Kd.R_drewN | apply Kd.R_drew)); exact Kd.R_mono (Kd.R_far (p := ⟨gb1755, 0, none⟩) (Kd.R_types HO1768.out BK1755.out (by decide)) (fun _ hk => hk.2) (.slice Ao34 t1766.length co34)) (fun _ hk => hk.1.1.1.2)⟩, ⟨by refine blk_far ?_ NB1748_1755.out _; exact BK1748.out⟩, ⟨by refine blk_far ?_ NB1749_1755.out _; exact BK1749.out⟩, ⟨by refine blk_far ?_ NB1750_1755.out _; exact BK1750.out⟩, ⟨by refine blk_far ?_ NB1751_1755.out _; exact BK1751.out⟩, ⟨by refine blk_put (cs := #[.slice Ao31 x1756000_1.length co31]) ?_ 0 _ rfl; exact BK1755.out⟩, ⟨by repeat (first | (with_reducible first | exact HB.out | apply below_alloc | apply pw_below_drewN | apply below_drew1 | refine below_set ?_ GE1748.out | refine below_set ?_ GE1749.out | refine below_set ?_ GE1750.out | refine below_set ?_ GE1751.out | refine below_set ?_ GE1755.out) | exact HB.out)⟩⟩
                  case round =>
                    clear H'
                    try clear c1
                    try clear p1
                    try clear q1
                    try clear hx1
                    try clear c2
                    try clear p2
                    try clear c3
                    try clear c3b0
                    try clear c3b1
                    try clear c4
                    try clear c4b0
                    try clear c4b1
                    try clear c6
                    try clear p6
                    try clear c9
                    try clear c10
                    try clear c11
                    try clear c16
                    try clear c17
                    try clear p17
                    try clear q17
                    try clear hx17
                    try clear c18
                    try clear c19
                    try clear c22
                    try clear c22b0
                    try clear c23
                    try clear c23b0
                    try clear c24
                    try clear c24b0
                    try clear c25
                    try clear hcz12_0
                    try clear hcz20_0
                    try clear hcz21_0
                    try clear hfz12_0
                    try clear hfz20_0
                    try clear hfz21_0
                    try clear hx1759_0
                    try clear p1759
                    try clear p2
                    try clear p6
                    try clear q1759
                    obtain ⟨x9_2, x10_2, rfl, rfl, HA, HK2, HO_6, HO_1756000, BK1748, BK1749, BK1750, BK1751, BK1755, HB⟩ := hrel
                    cases gk with
                    | zero => exact absurd HA.out (by simp [demurrageref01_Quot.l1])
                    | succ k2 =>
                      have H := HA.out
                      clear HA
                      simp only [demurrageref01_Quot.l1] at H
                      by_cases c36 : (wrap64 (x10_2 - x9_2)) > 1
                      · rw [if_pos c36] at H
                        have c36b0 : decide (1 < (wrap64 (x10_2 - x9_2))) = true := decide_eq_true c36
                        clear c36
                        replace H := Option.bind_eq_some_iff.mp H
                        obtain ⟨t1779, A370, H⟩ := H
                        replace H : ((demurrageref01_Prod.f k2 l1_0 t1779).bind fun t1782 => ((demurrageref01_Cmp.f k2 t1782 t1766).bind fun t1785 => (if t1785 ≤ 0 then (demurrageref01_Quot.l1 k2 x6_1 x8_1 (wrap64 (Int.tdiv (wrap64 (x9_2 + x10_2)) 2)) x10_2 l0_0 l1_0 t1766) else (demurrageref01_Quot.l1 k2 x6_1 x8_1 x9_2 (wrap64 (Int.tdiv (wrap64 (x9_2 + x10_2)) 2)) l0_0 l1_0 t1766)))) = some (r1, r2) := H
                        have A37 := Aside0.mk A370
                        clear A370
                        replace H := Option.bind_eq_some_iff.mp H
                        obtain ⟨t1782, A380, H⟩ := H
                        replace H : ((demurrageref01_Cmp.f k2 t1782 t1766).bind fun t1785 => (if t1785 ≤ 0 then (demurrageref01_Quot.l1 k2 x6_1 x8_1 (wrap64 (Int.tdiv (wrap64 (x9_2 + x10_2)) 2)) x10_2 l0_0 l1_0 t1766) else (demurrageref01_Quot.l1 k2 x6_1 x8_1 x9_2 (wrap64 (Int.tdiv (wrap64 (x9_2 + x10_2)) 2)) l0_0 l1_0 t1766))) = some (r1, r2) := H
                        have A38 := Aside0.mk A380
                        clear A380
                        replace H := Option.bind_eq_some_iff.mp H
                        obtain ⟨t1785, A390, H⟩ := H
                        replace H : (if t1785 ≤ 0 then (demurrageref01_Quot.l1 k2 x6_1 x8_1 (wrap64 (Int.tdiv (wrap64 (x9_2 + x10_2)) 2)) x10_2 l0_0 l1_0 t1766) else (demurrageref01_Quot.l1 k2 x6_1 x8_1 x9_2 (wrap64 (Int.tdiv (wrap64 (x9_2 + x10_2)) 2)) l0_0 l1_0 t1766)) = some (r1, r2) := H
                        have A39 := Aside0.mk A390
                        clear A390
                        by_cases c40 : t1785 ≤ 0
                        · rw [if_pos c40] at H
                          have c40b0 : decide (t1785 ≤ 0) = true := decide_eq_true c40
                          clear c40
                          have H' := Aside0.mk H
                          clear H
                          try go_wp2
                          have n0_ := Aside0.mk (Kd.R_drew HO_6.out)
                          have n1_ := Aside0.mk (Kd.R_drew HO_1756000.out)
                          have n2_ := Aside0.mk (blk_drew BK1748.out)
                          have n3_ := Aside0.mk (blk_drew BK1749.out)
                          have n4_ := Aside0.mk (blk_drew BK1750.out)
                          have n5_ := Aside0.mk (blk_drew BK1751.out)
                          have n6_ := Aside0.mk (blk_drew BK1755.out)
                          have n7_ := Aside0.mk (below_drew1 HB.out)
                          clear HO_6 HO_1756000 BK1748 BK1749 BK1750 BK1751 BK1755 HB
                          have HO_6 := n0_
                          have HO_1756000 := n1_
                          have BK1748 := n2_
                          have BK1749 := n3_
                          have BK1750 := n4_
                          have BK1751 := n5_
                          have BK1755 := n6_
                          have HB := n7_
                          clear n0_ n1_ n2_ n3_ n4_ n5_ n6_ n7_
                          refine start_ (n := 7) (S := fun w' => w'.cell? ⟨gb1749, 0, none⟩ = some (.slice A1_0 l1_0.length c1_0) ∧ w'.cell? ⟨gb1755, 0, none⟩ = some (.slice Ao34 t1766.length co34)) (ds := []) (demurrageref01_Quot.ups 7 0) (by kernel_rfl) rfl rfl ⟨(blk_cell BK1749.out 0).trans rfl, (blk_cell BK1755.out 0).trans rfl⟩ (fun hHeld => ?_)
                          generalize wr.drew = w41 at HO_6 HO_1756000 BK1748 BK1749 BK1750 BK1751 BK1755 HB hHeld ⊢
                          refine pure_ (i := 1) (N := some 44) (v := ?_) (a' := ?_) (demurrageref01_Quot.ups 7 2) rfl rfl (by kernel_rfl) (fun _ _ _ h => h) (Or.inl ⟨by rfl, ?_⟩) ?_ ?_
                          rotate_left
                          · intro w'
                            go_simp
                            with_reducible rfl
                          rotate_left
                          · simp only [Act.put, List.setIfInBounds_toArray, List.set_cons_zero, List.set_cons_succ, i64_w, i32_w]
                            rfl
                          refine take_ (i := 0) (N := some 43) (v := ?_) (a' := ?_) (demurrageref01_Quot.ups 7 3) rfl rfl (by kernel_rfl) (fun _ _ _ h => h) (Or.inl ⟨by rfl, ?_⟩) hHeld ?_ ?_
                          rotate_left
                          · rintro w' ⟨s0, s1⟩
                            go_simp
                            with_reducible rfl
                          rotate_left
                          · simp only [Act.put, List.setIfInBounds_toArray, List.set_cons_zero, List.set_cons_succ, i64_w, i32_w]
                            rfl
                          refine take_ (i := 4) (N := some 47) (v := ?_) (a' := ?_) (demurrageref01_Quot.ups 7 19) rfl rfl (by kernel_rfl) (fun _ _ _ h => h) (Or.inl ⟨by rfl, ?_⟩) hHeld ?_ ?_
                          rotate_left
                          · rintro w' ⟨s0, s1⟩
                            go_simp
                            with_reducible rfl
                          rotate_left
                          · simp only [Act.put, List.setIfInBounds_toArray, List.set_cons_zero, List.set_cons_succ, i64_w, i32_w]
                            rfl
                          refine one_ (i := 2) (N := some 45) (demurrageref01_Quot.ups 7 23) rfl rfl (by kernel_rfl) (by decide) (fun K hK => ?_)
                          refine goes_ Try.func71 (by kernel_rfl) rfl #[.int .i64 (wrap64 (Int.tdiv (wrap64 (x9_2 + x10_2)) 2))] (by rfl) rfl rfl (by (try simp only [List.map_toArray, List.map_cons, List.map_nil]); first | done | rfl) ?_
                          with_reducible refine (demurrageref01_From.calls k2 (wrap64 (Int.tdiv (wrap64 (x9_2 + x10_2)) 2)) t1779 _ A37.out).mono ?_
                          rintro e w42 ⟨v1780, rfl, ho0, hb⟩
                          refine ⟨_, rfl, ?_⟩
                          have n0_ := Aside0.mk (Kd.R_elder' HO_6.out (Kd.R_base ho0) hb)
                          have n1_ := Aside0.mk (Kd.R_elder' HO_1756000.out (Kd.R_base ho0) hb)
                          have n2_ := Aside0.mk (Kd.R_lower (Kd.R_new' (Kd.R_new' ho0 (Kd.R_lt HO_6.out)) (Kd.R_lt HO_1756000.out)) (below_size (by repeat (first | (with_reducible first | exact HB.out | apply below_alloc | apply pw_below_drewN | apply below_drew1 | refine below_set ?_ GE1748.out | refine below_set ?_ GE1749.out | refine below_set ?_ GE1750.out | refine below_set ?_ GE1751.out | refine below_set ?_ GE1755.out) | exact HB.out))))
                          have n3_ := Aside0.mk (blk_below BK1748.out hb)
                          have n4_ := Aside0.mk (blk_below BK1749.out hb)
                          have n5_ := Aside0.mk (blk_below BK1750.out hb)
                          have n6_ := Aside0.mk (blk_below BK1751.out hb)
                          have n7_ := Aside0.mk (blk_below BK1755.out hb)
                          have n8_ := Aside0.mk (below_step (by repeat (first | (with_reducible first | exact HB.out | apply below_alloc | apply pw_below_drewN | apply below_drew1 | refine below_set ?_ GE1748.out | refine below_set ?_ GE1749.out | refine below_set ?_ GE1750.out | refine below_set ?_ GE1751.out | refine below_set ?_ GE1755.out) | exact HB.out)) hb)
                          clear HO_6 HO_1756000 BK1748 BK1749 BK1750 BK1751 BK1755 HB
                          have HO_6 := n0_
                          have HO_1756000 := n1_
                          have HO1781 := n2_
                          have BK1748 := n3_
                          have BK1749 := n4_
                          have BK1750 := n5_
                          have BK1751 := n6_
                          have BK1755 := n7_
                          have HB := n8_
                          clear n0_ n1_ n2_ n3_ n4_ n5_ n6_ n7_ n8_
                          (try clear hb)
                          (try clear hb2)
                          (try clear hk)
                          (try clear hi)
                          (try clear ho0)
                          obtain ⟨Ao43, co43, eo43⟩ := Kd.R_slice HO1781.out
                          (first | subst eo43 | (injection eo43 with f1_ f2_ f3_; have f4_ := f1_.symm; have f5_ := f3_.symm; clear f1_ f2_ f3_; subst f4_; subst f5_))
                          refine hK.out _ _ ⟨(blk_cell BK1749.out 0).trans rfl, (blk_cell BK1755.out 0).trans rfl⟩ (fun hHeld => ?_)
                          clear hK K
                          refine norm_ (a' := ?_) ?_ ?_
                          rotate_left
                          · show Act.put _ (some 45) _ = _
                            simp only [Act.put, List.setIfInBounds_toArray, List.set_cons_zero, List.set_cons_succ, i64_w, i32_w]
                            rfl
                          refine one_ (i := 3) (N := some 46) (demurrageref01_Quot.ups 7 31) rfl rfl (by kernel_rfl) (by decide) (fun K hK => ?_)
                          refine goes_ Try.func29 (by kernel_rfl) rfl #[.agg #[.slice A1_0 l1_0.length c1_0], .agg #[.slice Ao43 t1779.length co43]] (by rfl) rfl rfl (by (try simp only [List.map_toArray, List.map_cons, List.map_nil]); first | done | rfl) ?_
                          with_reducible refine (demurrageref01_Prod.calls k2 _ _ l1_0 _ _ t1779 t1782 _ ?side1 ?side2 ?side3 ?side4 A38.out).mono ?_
                          (case side1 => repeat (first | exact (Kd.C_below HR1_0.out HB.out) | (with_reducible refine Kd.C_alloc ?_ _) | (with_reducible refine Kd.C_drewN ?_ _) | (with_reducible refine Kd.C_drew ?_)))
                          (case side2 => exact HC1_0.out)
                          (case side3 => repeat (first | exact (Kd.R_reads' HO1781.out).2.2 | (with_reducible refine Kd.C_alloc ?_ _) | (with_reducible refine Kd.C_drewN ?_ _) | (with_reducible refine Kd.C_drew ?_)))
                          (case side4 => exact (Kd.R_reads' HO1781.out).2.1)
                          rintro e w44 ⟨v1783, rfl, ho0, hb⟩
                          refine ⟨_, rfl, ?_⟩
                          have n0_ := Aside0.mk (Kd.R_elder' HO_6.out (Kd.R_base ho0) hb)
                          have n1_ := Aside0.mk (Kd.R_elder' HO_1756000.out (Kd.R_base ho0) hb)
                          have n2_ := Aside0.mk (Kd.R_elder' HO1781.out (Kd.R_base ho0) hb)
                          have n3_ := Aside0.mk (Kd.R_lower (Kd.R_new' (Kd.R_new' (Kd.R_new' ho0 (Kd.R_lt HO_6.out)) (Kd.R_lt HO_1756000.out)) (Kd.R_lt HO1781.out)) (below_size (by repeat (first | (with_reducible first | exact HB.out | apply below_alloc | apply pw_below_drewN | apply below_drew1 | refine below_set ?_ GE1748.out | refine below_set ?_ GE1749.out | refine below_set ?_ GE1750.out | refine below_set ?_ GE1751.out | refine below_set ?_ GE1755.out) | exact HB.out))))
                          have n4_ := Aside0.mk (blk_below BK1748.out hb)
                          have n5_ := Aside0.mk (blk_below BK1749.out hb)
                          have n6_ := Aside0.mk (blk_below BK1750.out hb)
                          have n7_ := Aside0.mk (blk_below BK1751.out hb)
                          have n8_ := Aside0.mk (blk_below BK1755.out hb)
                          have n9_ := Aside0.mk (below_step (by repeat (first | (with_reducible first | exact HB.out | apply below_alloc | apply pw_below_drewN | apply below_drew1 | refine below_set ?_ GE1748.out | refine below_set ?_ GE1749.out | refine below_set ?_ GE1750.out | refine below_set ?_ GE1751.out | refine below_set ?_ GE1755.out) | exact HB.out)) hb)
                          clear HO_6 HO_1756000 HO1781 BK1748 BK1749 BK1750 BK1751 BK1755 HB
                          have HO_6 := n0_
                          have HO_1756000 := n1_
                          have HO1781 := n2_
                          have HO1784 := n3_
                          have BK1748 := n4_
                          have BK1749 := n5_
                          have BK1750 := n6_
                          have BK1751 := n7_
                          have BK1755 := n8_
                          have HB := n9_
                          clear n0_ n1_ n2_ n3_ n4_ n5_ n6_ n7_ n8_ n9_
                          (try clear hb)
                          (try clear hb2)
                          (try clear hk)
                          (try clear hi)
                          (try clear ho0)
                          obtain ⟨Ao45, co45, eo45⟩ := Kd.R_slice HO1784.out
                          (first | subst eo45 | (injection eo45 with f1_ f2_ f3_; have f4_ := f1_.symm; have f5_ := f3_.symm; clear f1_ f2_ f3_; subst f4_; subst f5_))
                          refine hK.out _ _ ⟨(blk_cell BK1749.out 0).trans rfl, (blk_cell BK1755.out 0).trans rfl⟩ (fun hHeld => ?_)
                          clear hK K
                          refine norm_ (a' := ?_) ?_ ?_
                          rotate_left
                          · show Act.put _ (some 46) _ = _
                            simp only [Act.put, List.setIfInBounds_toArray, List.set_cons_zero, List.set_cons_succ, i64_w, i32_w]
                            rfl
                          refine one_ (i := 5) (N := some 48) (demurrageref01_Quot.ups 7 63) rfl rfl (by kernel_rfl) (by decide) (fun K hK => ?_)
                          refine goes_ Try.func31 (by kernel_rfl) rfl #[.agg #[.slice Ao45 t1782.length co45], .agg #[.slice Ao34 t1766.length co34]] (by rfl) rfl rfl (by (try simp only [List.map_toArray, List.map_cons, List.map_nil]); first | done | rfl) ?_
                          with_reducible refine (demurrageref01_Cmp.calls k2 _ _ t1782 _ _ t1766 t1785 _ ?side1 ?side2 ?side3 ?side4 A39.out).mono ?_
                          (case side1 => repeat (first | exact (Kd.R_reads' HO1784.out).2.2 | (with_reducible refine Kd.C_alloc ?_ _) | (with_reducible refine Kd.C_drewN ?_ _) | (with_reducible refine Kd.C_drew ?_)))
                          (case side2 => exact (Kd.R_reads' HO1784.out).2.1)
                          (case side3 => repeat (first | exact (Kd.R_reads' HO_1756000.out).2.2 | (with_reducible refine Kd.C_alloc ?_ _) | (with_reducible refine Kd.C_drewN ?_ _) | (with_reducible refine Kd.C_drew ?_)))
                          (case side4 => exact (Kd.R_reads' HO_1756000.out).2.1)
                          rintro e w46 ⟨rfl, hb⟩
                          refine ⟨_, rfl, ?_⟩
                          have n0_ := Aside0.mk (Kd.R_below HO_6.out hb)
                          have n1_ := Aside0.mk (Kd.R_below HO_1756000.out hb)
                          have n2_ := Aside0.mk (Kd.R_below HO1781.out hb)
                          have n3_ := Aside0.mk (Kd.R_below HO1784.out hb)
                          have n4_ := Aside0.mk (blk_below BK1748.out hb)
                          have n5_ := Aside0.mk (blk_below BK1749.out hb)
                          have n6_ := Aside0.mk (blk_below BK1750.out hb)
                          have n7_ := Aside0.mk (blk_below BK1751.out hb)
                          have n8_ := Aside0.mk (blk_below BK1755.out hb)
                          have n9_ := Aside0.mk (below_step (by repeat (first | (with_reducible first | exact HB.out | apply below_alloc | apply pw_below_drewN | apply below_drew1 | refine below_set ?_ GE1748.out | refine below_set ?_ GE1749.out | refine below_set ?_ GE1750.out | refine below_set ?_ GE1751.out | refine below_set ?_ GE1755.out) | exact HB.out)) hb)
                          clear HO_6 HO_1756000 HO1781 HO1784 BK1748 BK1749 BK1750 BK1751 BK1755 HB
                          have HO_6 := n0_
                          have HO_1756000 := n1_
                          have HO1781 := n2_
                          have HO1784 := n3_
                          have BK1748 := n4_
                          have BK1749 := n5_
                          have BK1750 := n6_
                          have BK1751 := n7_
                          have BK1755 := n8_
                          have HB := n9_
                          clear n0_ n1_ n2_ n3_ n4_ n5_ n6_ n7_ n8_ n9_
                          (try clear hb)
                          (try clear hb2)
                          (try clear hk)
                          (try clear hi)
                          refine hK.out _ _ ⟨(blk_cell BK1749.out 0).trans rfl, (blk_cell BK1755.out 0).trans rfl⟩ (fun hHeld => ?_)
                          clear hK K
                          refine norm_ (a' := ?_) ?_ ?_
                          rotate_left
                          · show Act.put _ (some 48) _ = _
                            simp only [Act.put, List.setIfInBounds_toArray, List.set_cons_zero, List.set_cons_succ, i64_w, i32_w]
                            rfl
                          refine pure_ (i := 6) (N := some 49) (v := ?_) (a' := ?_) (demurrageref01_Quot.ups 7 127) rfl rfl (by kernel_rfl) (fun _ _ _ h => h) (Or.inl ⟨by rfl, ?_⟩) ?_ ?_
                          rotate_left
                          · intro w'
                            go_simp
                            with_reducible rfl
                          rotate_left
                          · simp only [Act.put, List.setIfInBounds_toArray, List.set_cons_zero, List.set_cons_succ, i64_w, i32_w]
                            rfl
                          refine done_ (by kernel_rfl) ?_
                          try go_wp2
                          go_roundg k2
                          case measure => have := HK1.out; have := HK2.out; omega
                          case rel => exact ⟨(wrap64 (Int.tdiv (wrap64 (x9_2 + x10_2)) 2)), (x10_2), (by first | rfl | (simp; done) | (simp [*]; done)), (by first | rfl | (simp; done) | (simp [*]; done)), H', ⟨by have := HK1.out; have := HK2.out; omega⟩, ⟨by (with_reducible repeat (first | apply Kd.R_alloc | apply Kd.R_drewN | apply Kd.R_drew)); exact Kd.R_mono HO_6.out (fun _ hk => hk.1.1)⟩, ⟨by (with_reducible repeat (first | apply Kd.R_alloc | apply Kd.R_drewN | apply Kd.R_drew)); exact Kd.R_mono HO_1756000.out (fun _ hk => hk.1.1)⟩, BK1748, BK1749, BK1750, BK1751, BK1755, ⟨by repeat (first | (with_reducible first | exact HB.out | apply below_alloc | apply pw_below_drewN | apply below_drew1 | refine below_set ?_ GE1748.out | refine below_set ?_ GE1749.out | refine below_set ?_ GE1750.out | refine below_set ?_ GE1751.out | refine below_set ?_ GE1755.out) | exact HB.out)⟩⟩
                        · rw [if_neg c40] at H
                          have c40b0 : decide (t1785 ≤ 0) = false := decide_eq_false c40
                          clear c40
                          have H' := Aside0.mk H
                          clear H
                          try go_wp2
                          have n0_ := Aside0.mk (Kd.R_drew HO_6.out)
                          have n1_ := Aside0.mk (Kd.R_drew HO_1756000.out)
                          have n2_ := Aside0.mk (blk_drew BK1748.out)
                          have n3_ := Aside0.mk (blk_drew BK1749.out)
                          have n4_ := Aside0.mk (blk_drew BK1750.out)
                          have n5_ := Aside0.mk (blk_drew BK1751.out)
                          have n6_ := Aside0.mk (blk_drew BK1755.out)
                          have n7_ := Aside0.mk (below_drew1 HB.out)
                          clear HO_6 HO_1756000 BK1748 BK1749 BK1750 BK1751 BK1755 HB
                          have HO_6 := n0_
                          have HO_1756000 := n1_
                          have BK1748 := n2_
                          have BK1749 := n3_
                          have BK1750 := n4_
                          have BK1751 := n5_
                          have BK1755 := n6_
                          have HB := n7_
                          clear n0_ n1_ n2_ n3_ n4_ n5_ n6_ n7_
                          refine start_ (n := 7) (S := fun w' => w'.cell? ⟨gb1749, 0, none⟩ = some (.slice A1_0 l1_0.length c1_0) ∧ w'.cell? ⟨gb1755, 0, none⟩ = some (.slice Ao34 t1766.length co34)) (ds := []) (demurrageref01_Quot.ups 7 0) (by kernel_rfl) rfl rfl ⟨(blk_cell BK1749.out 0).trans rfl, (blk_cell BK1755.out 0).trans rfl⟩ (fun hHeld => ?_)
                          generalize wr.drew = w47 at HO_6 HO_1756000 BK1748 BK1749 BK1750 BK1751 BK1755 HB hHeld ⊢
                          refine pure_ (i := 1) (N := some 44) (v := ?_) (a' := ?_) (demurrageref01_Quot.ups 7 2) rfl rfl (by kernel_rfl) (fun _ _ _ h => h) (Or.inl ⟨by rfl, ?_⟩) ?_ ?_
                          rotate_left
                          · intro w'
                            go_simp
                            with_reducible rfl
                          rotate_left
                          · simp only [Act.put, List.setIfInBounds_toArray, List.set_cons_zero, List.set_cons_succ, i64_w, i32_w]
                            rfl
                          refine take_ (i := 0) (N := some 43) (v := ?_) (a' := ?_) (demurrageref01_Quot.ups 7 3) rfl rfl (by kernel_rfl) (fun _ _ _ h => h) (Or.inl ⟨by rfl, ?_⟩) hHeld ?_ ?_
                          rotate_left
                          · rintro w' ⟨s0, s1⟩
                            go_simp
                            with_reducible rfl
                          rotate_left
                          · simp only [Act.put, List.setIfInBounds_toArray, List.set_cons_zero, List.set_cons_succ, i64_w, i32_w]
                            rfl
                          refine take_ (i := 4) (N := some 47) (v := ?_) (a' := ?_) (demurrageref01_Quot.ups 7 19) rfl rfl (by kernel_rfl) (fun _ _ _ h => h) (Or.inl ⟨by rfl, ?_⟩) hHeld ?_ ?_
                          rotate_left
                          · rintro w' ⟨s0, s1⟩
                            go_simp
                            with_reducible rfl
                          rotate_left
                          · simp only [Act.put, List.setIfInBounds_toArray, List.set_cons_zero, List.set_cons_succ, i64_w, i32_w]
                            rfl
                          refine one_ (i := 2) (N := some 45) (demurrageref01_Quot.ups 7 23) rfl rfl (by kernel_rfl) (by decide) (fun K hK => ?_)
                          refine goes_ Try.func71 (by kernel_rfl) rfl #[.int .i64 (wrap64 (Int.tdiv (wrap64 (x9_2 + x10_2)) 2))] (by rfl) rfl rfl (by (try simp only [List.map_toArray, List.map_cons, List.map_nil]); first | done | rfl) ?_
                          with_reducible refine (demurrageref01_From.calls k2 (wrap64 (Int.tdiv (wrap64 (x9_2 + x10_2)) 2)) t1779 _ A37.out).mono ?_
                          rintro e w48 ⟨v1780, rfl, ho0, hb⟩
                          refine ⟨_, rfl, ?_⟩
                          have n0_ := Aside0.mk (Kd.R_elder' HO_6.out (Kd.R_base ho0) hb)
                          have n1_ := Aside0.mk (Kd.R_elder' HO_1756000.out (Kd.R_base ho0) hb)
                          have n2_ := Aside0.mk (Kd.R_lower (Kd.R_new' (Kd.R_new' ho0 (Kd.R_lt HO_6.out)) (Kd.R_lt HO_1756000.out)) (below_size (by repeat (first | (with_reducible first | exact HB.out | apply below_alloc | apply pw_below_drewN | apply below_drew1 | refine below_set ?_ GE1748.out | refine below_set ?_ GE1749.out | refine below_set ?_ GE1750.out | refine below_set ?_ GE1751.out | refine below_set ?_ GE1755.out) | exact HB.out))))
                          have n3_ := Aside0.mk (blk_below BK1748.out hb)
                          have n4_ := Aside0.mk (blk_below BK1749.out hb)
                          have n5_ := Aside0.mk (blk_below BK1750.out hb)
                          have n6_ := Aside0.mk (blk_below BK1751.out hb)
                          have n7_ := Aside0.mk (blk_below BK1755.out hb)
                          have n8_ := Aside0.mk (below_step (by repeat (first | (with_reducible first | exact HB.out | apply below_alloc | apply pw_below_drewN | apply below_drew1 | refine below_set ?_ GE1748.out | refine below_set ?_ GE1749.out | refine below_set ?_ GE1750.out | refine below_set ?_ GE1751.out | refine below_set ?_ GE1755.out) | exact HB.out)) hb)
                          clear HO_6 HO_1756000 BK1748 BK1749 BK1750 BK1751 BK1755 HB
                          have HO_6 := n0_
                          have HO_1756000 := n1_
                          have HO1781 := n2_
                          have BK1748 := n3_
                          have BK1749 := n4_
                          have BK1750 := n5_
                          have BK1751 := n6_
                          have BK1755 := n7_
                          have HB := n8_
                          clear n0_ n1_ n2_ n3_ n4_ n5_ n6_ n7_ n8_
                          (try clear hb)
                          (try clear hb2)
                          (try clear hk)
                          (try clear hi)
                          (try clear ho0)
                          obtain ⟨Ao49, co49, eo49⟩ := Kd.R_slice HO1781.out
                          (first | subst eo49 | (injection eo49 with f1_ f2_ f3_; have f4_ := f1_.symm; have f5_ := f3_.symm; clear f1_ f2_ f3_; subst f4_; subst f5_))
                          refine hK.out _ _ ⟨(blk_cell BK1749.out 0).trans rfl, (blk_cell BK1755.out 0).trans rfl⟩ (fun hHeld => ?_)
                          clear hK K
                          refine norm_ (a' := ?_) ?_ ?_
                          rotate_left
                          · show Act.put _ (some 45) _ = _
                            simp only [Act.put, List.setIfInBounds_toArray, List.set_cons_zero, List.set_cons_succ, i64_w, i32_w]
                            rfl
                          refine one_ (i := 3) (N := some 46) (demurrageref01_Quot.ups 7 31) rfl rfl (by kernel_rfl) (by decide) (fun K hK => ?_)
                          refine goes_ Try.func29 (by kernel_rfl) rfl #[.agg #[.slice A1_0 l1_0.length c1_0], .agg #[.slice Ao49 t1779.length co49]] (by rfl) rfl rfl (by (try simp only [List.map_toArray, List.map_cons, List.map_nil]); first | done | rfl) ?_
                          with_reducible refine (demurrageref01_Prod.calls k2 _ _ l1_0 _ _ t1779 t1782 _ ?side1 ?side2 ?side3 ?side4 A38.out).mono ?_
                          (case side1 => repeat (first | exact (Kd.C_below HR1_0.out HB.out) | (with_reducible refine Kd.C_alloc ?_ _) | (with_reducible refine Kd.C_drewN ?_ _) | (with_reducible refine Kd.C_drew ?_)))
                          (case side2 => exact HC1_0.out)
                          (case side3 => repeat (first | exact (Kd.R_reads' HO1781.out).2.2 | (with_reducible refine Kd.C_alloc ?_ _) | (with_reducible refine Kd.C_drewN ?_ _) | (with_reducible refine Kd.C_drew ?_)))
                          (case side4 => exact (Kd.R_reads' HO1781.out).2.1)
                          rintro e w50 ⟨v1783, rfl, ho0, hb⟩
                          refine ⟨_, rfl, ?_⟩
                          have n0_ := Aside0.mk (Kd.R_elder' HO_6.out (Kd.R_base ho0) hb)
                          have n1_ := Aside0.mk (Kd.R_elder' HO_1756000.out (Kd.R_base ho0) hb)
                          have n2_ := Aside0.mk (Kd.R_elder' HO1781.out (Kd.R_base ho0) hb)
                          have n3_ := Aside0.mk (Kd.R_lower (Kd.R_new' (Kd.R_new' (Kd.R_new' ho0 (Kd.R_lt HO_6.out)) (Kd.R_lt HO_1756000.out)) (Kd.R_lt HO1781.out)) (below_size (by repeat (first | (with_reducible first | exact HB.out | apply below_alloc | apply pw_below_drewN | apply below_drew1 | refine below_set ?_ GE1748.out | refine below_set ?_ GE1749.out | refine below_set ?_ GE1750.out | refine below_set ?_ GE1751.out | refine below_set ?_ GE1755.out) | exact HB.out))))
                          have n4_ := Aside0.mk (blk_below BK1748.out hb)
                          have n5_ := Aside0.mk (blk_below BK1749.out hb)
                          have n6_ := Aside0.mk (blk_below BK1750.out hb)
                          have n7_ := Aside0.mk (blk_below BK1751.out hb)
                          have n8_ := Aside0.mk (blk_below BK1755.out hb)
                          have n9_ := Aside0.mk (below_step (by repeat (first | (with_reducible first | exact HB.out | apply below_alloc | apply pw_below_drewN | apply below_drew1 | refine below_set ?_ GE1748.out | refine below_set ?_ GE1749.out | refine below_set ?_ GE1750.out | refine below_set ?_ GE1751.out | refine below_set ?_ GE1755.out) | exact HB.out)) hb)
                          clear HO_6 HO_1756000 HO1781 BK1748 BK1749 BK1750 BK1751 BK1755 HB
                          have HO_6 := n0_
                          have HO_1756000 := n1_
                          have HO1781 := n2_
                          have HO1784 := n3_
                          have BK1748 := n4_
                          have BK1749 := n5_
                          have BK1750 := n6_
                          have BK1751 := n7_
                          have BK1755 := n8_
                          have HB := n9_
                          clear n0_ n1_ n2_ n3_ n4_ n5_ n6_ n7_ n8_ n9_
                          (try clear hb)
                          (try clear hb2)
                          (try clear hk)
                          (try clear hi)
                          (try clear ho0)
                          obtain ⟨Ao51, co51, eo51⟩ := Kd.R_slice HO1784.out
                          (first | subst eo51 | (injection eo51 with f1_ f2_ f3_; have f4_ := f1_.symm; have f5_ := f3_.symm; clear f1_ f2_ f3_; subst f4_; subst f5_))
                          refine hK.out _ _ ⟨(blk_cell BK1749.out 0).trans rfl, (blk_cell BK1755.out 0).trans rfl⟩ (fun hHeld => ?_)
                          clear hK K
                          refine norm_ (a' := ?_) ?_ ?_
                          rotate_left
                          · show Act.put _ (some 46) _ = _
                            simp only [Act.put, List.setIfInBounds_toArray, List.set_cons_zero, List.set_cons_succ, i64_w, i32_w]
                            rfl
                          refine one_ (i := 5) (N := some 48) (demurrageref01_Quot.ups 7 63) rfl rfl (by kernel_rfl) (by decide) (fun K hK => ?_)
                          refine goes_ Try.func31 (by kernel_rfl) rfl #[.agg #[.slice Ao51 t1782.length co51], .agg #[.slice Ao34 t1766.length co34]] (by rfl) rfl rfl (by (try simp only [List.map_toArray, List.map_cons, List.map_nil]); first | done | rfl) ?_
                          with_reducible refine (demurrageref01_Cmp.calls k2 _ _ t1782 _ _ t1766 t1785 _ ?side1 ?side2 ?side3 ?side4 A39.out).mono ?_
                          (case side1 => repeat (first | exact (Kd.R_reads' HO1784.out).2.2 | (with_reducible refine Kd.C_alloc ?_ _) | (with_reducible refine Kd.C_drewN ?_ _) | (with_reducible refine Kd.C_drew ?_)))
                          (case side2 => exact (Kd.R_reads' HO1784.out).2.1)
                          (case side3 => repeat (first | exact (Kd.R_reads' HO_1756000.out).2.2 | (with_reducible refine Kd.C_alloc ?_ _) | (with_reducible refine Kd.C_drewN ?_ _) | (with_reducible refine Kd.C_drew ?_)))
                          (case side4 => exact (Kd.R_reads' HO_1756000.out).2.1)
                          rintro e w52 ⟨rfl, hb⟩
                          refine ⟨_, rfl, ?_⟩
                          have n0_ := Aside0.mk (Kd.R_below HO_6.out hb)
                          have n1_ := Aside0.mk (Kd.R_below HO_1756000.out hb)
                          have n2_ := Aside0.mk (Kd.R_below HO1781.out hb)
                          have n3_ := Aside0.mk (Kd.R_below HO1784.out hb)
                          have n4_ := Aside0.mk (blk_below BK1748.out hb)
                          have n5_ := Aside0.mk (blk_below BK1749.out hb)
                          have n6_ := Aside0.mk (blk_below BK1750.out hb)
                          have n7_ := Aside0.mk (blk_below BK1751.out hb)
                          have n8_ := Aside0.mk (blk_below BK1755.out hb)
                          have n9_ := Aside0.mk (below_step (by repeat (first | (with_reducible first | exact HB.out | apply below_alloc | apply pw_below_drewN | apply below_drew1 | refine below_set ?_ GE1748.out | refine below_set ?_ GE1749.out | refine below_set ?_ GE1750.out | refine below_set ?_ GE1751.out | refine below_set ?_ GE1755.out) | exact HB.out)) hb)
                          clear HO_6 HO_1756000 HO1781 HO1784 BK1748 BK1749 BK1750 BK1751 BK1755 HB
                          have HO_6 := n0_
                          have HO_1756000 := n1_
                          have HO1781 := n2_
                          have HO1784 := n3_
                          have BK1748 := n4_
                          have BK1749 := n5_
                          have BK1750 := n6_
                          have BK1751 := n7_
                          have BK1755 := n8_
                          have HB := n9_
                          clear n0_ n1_ n2_ n3_ n4_ n5_ n6_ n7_ n8_ n9_
                          (try clear hb)
                          (try clear hb2)
                          (try clear hk)
                          (try clear hi)
                          refine hK.out _ _ ⟨(blk_cell BK1749.out 0).trans rfl, (blk_cell BK1755.out 0).trans rfl⟩ (fun hHeld => ?_)
                          clear hK K
                          refine norm_ (a' := ?_) ?_ ?_
                          rotate_left
                          · show Act.put _ (some 48) _ = _
                            simp only [Act.put, List.setIfInBounds_toArray, List.set_cons_zero, List.set_cons_succ, i64_w, i32_w]
                            rfl
                          refine pure_ (i := 6) (N := some 49) (v := ?_) (a' := ?_) (demurrageref01_Quot.ups 7 127) rfl rfl (by kernel_rfl) (fun _ _ _ h => h) (Or.inl ⟨by rfl, ?_⟩) ?_ ?_
                          rotate_left
                          · intro w'
                            go_simp
                            with_reducible rfl
                          rotate_left
                          · simp only [Act.put, List.setIfInBounds_toArray, List.set_cons_zero, List.set_cons_succ, i64_w, i32_w]
                            rfl
                          refine done_ (by kernel_rfl) ?_
                          try go_wp2
                          go_roundg k2
                          case measure => have := HK1.out; have := HK2.out; omega
                          case rel => exact ⟨(x9_2), (wrap64 (Int.tdiv (wrap64 (x9_2 + x10_2)) 2)), (by first | rfl | (simp; done) | (simp [*]; done)), (by first | rfl | (simp; done) | (simp [*]; done)), H', ⟨by have := HK1.out; have := HK2.out; omega⟩, ⟨by (with_reducible repeat (first | apply Kd.R_alloc | apply Kd.R_drewN | apply Kd.R_drew)); exact Kd.R_mono HO_6.out (fun _ hk => hk.1.1)⟩, ⟨by (with_reducible repeat (first | apply Kd.R_alloc | apply Kd.R_drewN | apply Kd.R_drew)); exact Kd.R_mono HO_1756000.out (fun _ hk => hk.1.1)⟩, BK1748, BK1749, BK1750, BK1751, BK1755, ⟨by repeat (first | (with_reducible first | exact HB.out | apply below_alloc | apply pw_below_drewN | apply below_drew1 | refine below_set ?_ GE1748.out | refine below_set ?_ GE1749.out | refine below_set ?_ GE1750.out | refine below_set ?_ GE1751.out | refine below_set ?_ GE1755.out) | exact HB.out)⟩⟩
                      · rw [if_neg c36] at H
                        have c36b0 : decide (1 < (wrap64 (x10_2 - x9_2))) = false := decide_eq_false c36
                        clear c36
                        by_cases c53 : 0 ≤ x8_1
                        · rw [if_pos c53] at H
                          have c53b0 : decide (0 ≤ x8_1) = true := decide_eq_true c53
                          clear c53
                          by_cases c54 : x8_1 < (x6_1.length : Int)
                          · rw [if_pos c54] at H
                            have c54b0 : decide (x8_1 < (x6_1.length : Int)) = true := decide_eq_true c54
                            clear c54
                            obtain ⟨y1769, hy1769⟩ : ∃ y_ : List Int, y_ = (x6_1.set (x8_1 : Int).toNat x9_2) := ⟨_, rfl⟩
                            replace H : ((demurrageref01_From.f k2 x9_2).bind fun t1770 => ((demurrageref01_Prod.f k2 l1_0 t1770).bind fun t1773 => ((demurrageref01_Less.f k2 t1766 t1773).bind fun t1776 => (demurrageref01_Quot.l0 k2 y1769 (wrap64 (x8_1 - 1)) l0_0 l1_0 t1776)))) = some (r1, r2) := by first | (rw [hy1769]; with_reducible exact H) | (have H2_ := (Option.bind_some _ _).symm.trans H; rw [hy1769]; with_reducible exact H2_) | (have H2_ := (Option.bind_some _ _).symm.trans H; with_reducible exact H2_) | with_reducible exact H | (rw [hy1769]; exact H) | exact H
                            have Ny1769 := Aside0.mk hy1769
                            clear hy1769
                            replace H := Option.bind_eq_some_iff.mp H
                            obtain ⟨t1770, A560, H⟩ := H
                            replace H : ((demurrageref01_Prod.f k2 l1_0 t1770).bind fun t1773 => ((demurrageref01_Less.f k2 t1766 t1773).bind fun t1776 => (demurrageref01_Quot.l0 k2 y1769 (wrap64 (x8_1 - 1)) l0_0 l1_0 t1776))) = some (r1, r2) := H
                            have A56 := Aside0.mk A560
                            clear A560
                            replace H := Option.bind_eq_some_iff.mp H
                            obtain ⟨t1773, A570, H⟩ := H
                            replace H : ((demurrageref01_Less.f k2 t1766 t1773).bind fun t1776 => (demurrageref01_Quot.l0 k2 y1769 (wrap64 (x8_1 - 1)) l0_0 l1_0 t1776)) = some (r1, r2) := H
                            have A57 := Aside0.mk A570
                            clear A570
                            replace H := Option.bind_eq_some_iff.mp H
                            obtain ⟨t1776, A580, H⟩ := H
                            replace H : (demurrageref01_Quot.l0 k2 y1769 (wrap64 (x8_1 - 1)) l0_0 l1_0 t1776) = some (r1, r2) := H
                            have A58 := Aside0.mk A580
                            clear A580
                            have H' := Aside0.mk H
                            clear H
                            have p55 : 0 ≤ (x8_1 : Int) := of_decide_eq_true (by first | (with_reducible assumption) | assumption)
                            have q55 : (x8_1 : Int) < ((x6_1.length : Int) : Int) := of_decide_eq_true (by first | (with_reducible assumption) | assumption)
                            obtain ⟨go55, co55, eo55, gb55, gl55, cl55, HG55⟩ := Kd.R_form HO_6.out (by omega)
                            (first | cases eo55 | (injection eo55 with ea_ en_ ec_; (first | subst ea_ | (injection ea_ with ea_; subst ea_)); subst ec_; clear en_))
                            have GB55 := Aside0.mk gb55
                            have GG55 := Aside0.mk HG55
                            clear gb55 gl55 HG55
                            obtain ⟨hx55_0, hf55_0⟩ := Kd.R_celln 0 HO_6.out (x8_1 : Int) p55 q55
                            replace p55 := eq_true p55
                            replace q55 := eq_true q55
                            have HP59 := Kd.R_putg HO_6.out (x8_1 : Int) x9_2
                            try go_wp2_with (first | ((with_reducible refine gate_store (t := 3) (p := 55) rfl ?_); refine store_event (t := 3) (p := 55) (v := ?vo_w60) (w1 := (wr.setCell ⟨go55, (x8_1 : Int).toNat, none⟩ (.int .i64 x9_2))) ?hg ?ho ?hn ?hr ?_; (case ho => rfl); (case hg => rfl); (case hn => rfl); (case hr => go_simp); intro w60 hw; have hg : wr.grownBy w60 (some go55) := (by rw [hw]; exact HP59.2); have hp_ : Kd.R (Kd.int .i64) 3 w60 w.heap.size (fun k_ => some k_ ≠ (.slice Ao34 t1766.length co34 : Value).ownBlock) (.slice (some ⟨go55, 0, none⟩) x6_1.length co55) y1769 := (by rw [hw, Ny1769.out]; exact HP59.1); clear HP59; have n0_ := Aside0.mk (hp_); have n1_ := Aside0.mk (Kd.R_after (v := (.slice (some ⟨go55, 0, none⟩) x6_1.length co55)) (v1 := (.slice (some ⟨go55, 0, none⟩) x6_1.length co55)) (ok := (fun _ => True)) (by (with_reducible repeat (first | apply Kd.R_alloc | apply Kd.R_drewN | apply Kd.R_drew)); exact Kd.R_mono HO_1756000.out (fun _ hk => (And.intro (trivial) (hk)))) hg (.inl rfl)); have n2_ := Aside0.mk (blk_grown BK1748.out hg (Kd.R_ne HO_6.out BK1748.out (by decide))); have n3_ := Aside0.mk (blk_grown BK1749.out hg (Kd.R_ne HO_6.out BK1749.out (by decide))); have n4_ := Aside0.mk (blk_grown BK1750.out hg (Kd.R_ne HO_6.out BK1750.out (by decide))); have n5_ := Aside0.mk (blk_grown BK1751.out hg (Kd.R_ne HO_6.out BK1751.out (by decide))); have n6_ := Aside0.mk (blk_grown BK1755.out hg (Kd.R_ne HO_6.out BK1755.out (by decide))); have n7_ := Aside0.mk ((by rw [hw]; exact below_set (HB.out) GB55.out : Below w.heap.size w w60)); clear HO_6 HO_1756000 BK1748 BK1749; clear BK1750 BK1751 BK1755 HB; have HO_6 := n0_; have HO_1756000 := n1_; have BK1748 := n2_; have BK1749 := n3_; have BK1750 := n4_; have BK1751 := n5_; have BK1755 := n6_; have HB := n7_; clear n0_ n1_ n2_ n3_ n4_ n5_ n6_ n7_; clear hg hw hp_))
                            have n0_ := Aside0.mk (Kd.R_drew HO_6.out)
                            have n1_ := Aside0.mk (Kd.R_drew HO_1756000.out)
                            have n2_ := Aside0.mk (blk_drew BK1748.out)
                            have n3_ := Aside0.mk (blk_drew BK1749.out)
                            have n4_ := Aside0.mk (blk_drew BK1750.out)
                            have n5_ := Aside0.mk (blk_drew BK1751.out)
                            have n6_ := Aside0.mk (blk_drew BK1755.out)
                            have n7_ := Aside0.mk (below_drew1 HB.out)
                            clear HO_6 HO_1756000 BK1748 BK1749 BK1750 BK1751 BK1755 HB
                            have HO_6 := n0_
                            have HO_1756000 := n1_
                            have BK1748 := n2_
                            have BK1749 := n3_
                            have BK1750 := n4_
                            have BK1751 := n5_
                            have BK1755 := n6_
                            have HB := n7_
                            clear n0_ n1_ n2_ n3_ n4_ n5_ n6_ n7_
                            refine start_ (n := 7) (S := fun w' => w'.cell? ⟨gb1755, 0, none⟩ = some (.slice Ao34 t1766.length co34) ∧ w'.cell? ⟨gb1749, 0, none⟩ = some (.slice A1_0 l1_0.length c1_0)) (ds := [6]) (demurrageref01_Quot.ups 7 0) (by kernel_rfl) rfl rfl ⟨(blk_cell BK1755.out 0).trans rfl, (blk_cell BK1749.out 0).trans rfl⟩ (fun hHeld => ?_)
                            generalize w60.drew = w61 at HO_6 HO_1756000 BK1748 BK1749 BK1750 BK1751 BK1755 HB hHeld ⊢
                            refine pure_ (i := 2) (N := some 58) (v := ?_) (a' := ?_) (demurrageref01_Quot.ups 7 4) rfl rfl (by kernel_rfl) (fun _ _ _ h => h) (Or.inl ⟨by rfl, ?_⟩) ?_ ?_
                            rotate_left
                            · intro w'
                              go_simp
                              with_reducible rfl
                            rotate_left
                            · simp only [Act.put, List.setIfInBounds_toArray, List.set_cons_zero, List.set_cons_succ, i64_w, i32_w]
                              rfl
                            refine take_ (i := 0) (N := some 56) (v := ?_) (a' := ?_) (demurrageref01_Quot.ups 7 5) rfl rfl (by kernel_rfl) (fun _ _ _ h => h) (Or.inl ⟨by rfl, ?_⟩) hHeld ?_ ?_
                            rotate_left
                            · rintro w' ⟨s0, s1⟩
                              go_simp
                              with_reducible rfl
                            rotate_left
                            · simp only [Act.put, List.setIfInBounds_toArray, List.set_cons_zero, List.set_cons_succ, i64_w, i32_w]
                              rfl
                            refine take_ (i := 1) (N := some 57) (v := ?_) (a' := ?_) (demurrageref01_Quot.ups 7 7) rfl rfl (by kernel_rfl) (fun _ _ _ h => h) (Or.inl ⟨by rfl, ?_⟩) hHeld ?_ ?_
                            rotate_left
                            · rintro w' ⟨s0, s1⟩
                              go_simp
                              with_reducible rfl
                            rotate_left
                            · simp only [Act.put, List.setIfInBounds_toArray, List.set_cons_zero, List.set_cons_succ, i64_w, i32_w]
                              rfl
                            refine one_ (i := 3) (N := some 59) (demurrageref01_Quot.ups 7 15) rfl rfl (by kernel_rfl) (by decide) (fun K hK => ?_)
                            refine goes_ Try.func71 (by kernel_rfl) rfl #[.int .i64 x9_2] (by rfl) rfl rfl (by (try simp only [List.map_toArray, List.map_cons, List.map_nil]); first | done | rfl) ?_
                            with_reducible refine (demurrageref01_From.calls k2 x9_2 t1770 _ A56.out).mono ?_
                            rintro e w62 ⟨v1771, rfl, ho0, hb⟩
                            refine ⟨_, rfl, ?_⟩
                            have n0_ := Aside0.mk (Kd.R_elder' HO_6.out (Kd.R_base ho0) hb)
                            have n1_ := Aside0.mk (Kd.R_elder' HO_1756000.out (Kd.R_base ho0) hb)
                            have n2_ := Aside0.mk (Kd.R_lower (Kd.R_new' (Kd.R_new' ho0 (Kd.R_lt HO_6.out)) (Kd.R_lt HO_1756000.out)) (below_size (by repeat (first | (with_reducible first | exact HB.out | apply below_alloc | apply pw_below_drewN | apply below_drew1 | refine below_set ?_ GE1748.out | refine below_set ?_ GE1749.out | refine below_set ?_ GE1750.out | refine below_set ?_ GE1751.out | refine below_set ?_ GE1755.out) | exact HB.out))))
                            have n3_ := Aside0.mk (blk_below BK1748.out hb)
                            have n4_ := Aside0.mk (blk_below BK1749.out hb)
                            have n5_ := Aside0.mk (blk_below BK1750.out hb)
                            have n6_ := Aside0.mk (blk_below BK1751.out hb)
                            have n7_ := Aside0.mk (blk_below BK1755.out hb)
                            have n8_ := Aside0.mk (below_step (by repeat (first | (with_reducible first | exact HB.out | apply below_alloc | apply pw_below_drewN | apply below_drew1 | refine below_set ?_ GE1748.out | refine below_set ?_ GE1749.out | refine below_set ?_ GE1750.out | refine below_set ?_ GE1751.out | refine below_set ?_ GE1755.out) | exact HB.out)) hb)
                            clear HO_6 HO_1756000 BK1748 BK1749 BK1750 BK1751 BK1755 HB
                            have HO_6 := n0_
                            have HO_1756000 := n1_
                            have HO1772 := n2_
                            have BK1748 := n3_
                            have BK1749 := n4_
                            have BK1750 := n5_
                            have BK1751 := n6_
                            have BK1755 := n7_
                            have HB := n8_
                            clear n0_ n1_ n2_ n3_ n4_ n5_ n6_ n7_ n8_
                            (try clear hb)
                            (try clear hb2)
                            (try clear hk)
                            (try clear hi)
                            (try clear ho0)
                            obtain ⟨Ao63, co63, eo63⟩ := Kd.R_slice HO1772.out
                            (first | subst eo63 | (injection eo63 with f1_ f2_ f3_; have f4_ := f1_.symm; have f5_ := f3_.symm; clear f1_ f2_ f3_; subst f4_; subst f5_))
                            refine hK.out _ _ ⟨(blk_cell BK1755.out 0).trans rfl, (blk_cell BK1749.out 0).trans rfl⟩ (fun hHeld => ?_)
                            clear hK K
                            refine norm_ (a' := ?_) ?_ ?_
                            rotate_left
                            · show Act.put _ (some 59) _ = _
                              simp only [Act.put, List.setIfInBounds_toArray, List.set_cons_zero, List.set_cons_succ, i64_w, i32_w]
                              rfl
                            refine one_ (i := 4) (N := some 60) (demurrageref01_Quot.ups 7 31) rfl rfl (by kernel_rfl) (by decide) (fun K hK => ?_)
                            refine goes_ Try.func29 (by kernel_rfl) rfl #[.agg #[.slice A1_0 l1_0.length c1_0], .agg #[.slice Ao63 t1770.length co63]] (by rfl) rfl rfl (by (try simp only [List.map_toArray, List.map_cons, List.map_nil]); first | done | rfl) ?_
                            with_reducible refine (demurrageref01_Prod.calls k2 _ _ l1_0 _ _ t1770 t1773 _ ?side1 ?side2 ?side3 ?side4 A57.out).mono ?_
                            (case side1 => repeat (first | exact (Kd.C_below HR1_0.out HB.out) | (with_reducible refine Kd.C_alloc ?_ _) | (with_reducible refine Kd.C_drewN ?_ _) | (with_reducible refine Kd.C_drew ?_)))
                            (case side2 => exact HC1_0.out)
                            (case side3 => repeat (first | exact (Kd.R_reads' HO1772.out).2.2 | (with_reducible refine Kd.C_alloc ?_ _) | (with_reducible refine Kd.C_drewN ?_ _) | (with_reducible refine Kd.C_drew ?_)))
                            (case side4 => exact (Kd.R_reads' HO1772.out).2.1)
                            rintro e w64 ⟨v1774, rfl, ho0, hb⟩
                            refine ⟨_, rfl, ?_⟩
                            have n0_ := Aside0.mk (Kd.R_elder' HO_6.out (Kd.R_base ho0) hb)
                            have n1_ := Aside0.mk (Kd.R_elder' HO_1756000.out (Kd.R_base ho0) hb)
                            have n2_ := Aside0.mk (Kd.R_elder' HO1772.out (Kd.R_base ho0) hb)
                            have n3_ := Aside0.mk (Kd.R_lower (Kd.R_new' (Kd.R_new' (Kd.R_new' ho0 (Kd.R_lt HO_6.out)) (Kd.R_lt HO_1756000.out)) (Kd.R_lt HO1772.out)) (below_size (by repeat (first | (with_reducible first | exact HB.out | apply below_alloc | apply pw_below_drewN | apply below_drew1 | refine below_set ?_ GE1748.out | refine below_set ?_ GE1749.out | refine below_set ?_ GE1750.out | refine below_set ?_ GE1751.out | refine below_set ?_ GE1755.out) | exact HB.out))))
                            have n4_ := Aside0.mk (blk_below BK1748.out hb)
                            have n5_ := Aside0.mk (blk_below BK1749.out hb)
                            have n6_ := Aside0.mk (blk_below BK1750.out hb)
                            have n7_ := Aside0.mk (blk_below BK1751.out hb)
                            have n8_ := Aside0.mk (blk_below BK1755.out hb)
                            have n9_ := Aside0.mk (below_step (by repeat (first | (with_reducible first | exact HB.out | apply below_alloc | apply pw_below_drewN | apply below_drew1 | refine below_set ?_ GE1748.out | refine below_set ?_ GE1749.out | refine below_set ?_ GE1750.out | refine below_set ?_ GE1751.out | refine below_set ?_ GE1755.out) | exact HB.out)) hb)
                            clear HO_6 HO_1756000 HO1772 BK1748 BK1749 BK1750 BK1751 BK1755 HB
                            have HO_6 := n0_
                            have HO_1756000 := n1_
                            have HO1772 := n2_
                            have HO1775 := n3_
                            have BK1748 := n4_
                            have BK1749 := n5_
                            have BK1750 := n6_
                            have BK1751 := n7_
                            have BK1755 := n8_
                            have HB := n9_
                            clear n0_ n1_ n2_ n3_ n4_ n5_ n6_ n7_ n8_ n9_
                            (try clear hb)
                            (try clear hb2)
                            (try clear hk)
                            (try clear hi)
                            (try clear ho0)
                            obtain ⟨Ao65, co65, eo65⟩ := Kd.R_slice HO1775.out
                            (first | subst eo65 | (injection eo65 with f1_ f2_ f3_; have f4_ := f1_.symm; have f5_ := f3_.symm; clear f1_ f2_ f3_; subst f4_; subst f5_))
                            refine hK.out _ _ ⟨(blk_cell BK1755.out 0).trans rfl, (blk_cell BK1749.out 0).trans rfl⟩ (fun hHeld => ?_)
                            clear hK K
                            refine norm_ (a' := ?_) ?_ ?_
                            rotate_left
                            · show Act.put _ (some 60) _ = _
                              simp only [Act.put, List.setIfInBounds_toArray, List.set_cons_zero, List.set_cons_succ, i64_w, i32_w]
                              rfl
                            refine one_ (i := 5) (N := some 61) (demurrageref01_Quot.ups 7 63) rfl rfl (by kernel_rfl) (by decide) (fun K hK => ?_)
                            refine goes_ Try.func36 (by kernel_rfl) rfl #[.agg #[.slice Ao34 t1766.length co34], .agg #[.slice Ao65 t1773.length co65]] (by rfl) rfl rfl (by (try simp only [List.map_toArray, List.map_cons, List.map_nil]); first | done | rfl) ?_
                            with_reducible refine (demurrageref01_Less.calls k2 _ _ t1766 _ _ t1773 t1776 _ ?side1 ?side2 ?side3 ?side4 A58.out).mono ?_
                            (case side1 => repeat (first | exact (Kd.R_reads' HO_1756000.out).2.2 | (with_reducible refine Kd.C_alloc ?_ _) | (with_reducible refine Kd.C_drewN ?_ _) | (with_reducible refine Kd.C_drew ?_)))
                            (case side2 => exact (Kd.R_reads' HO_1756000.out).2.1)
                            (case side3 => repeat (first | exact (Kd.R_reads' HO1775.out).2.2 | (with_reducible refine Kd.C_alloc ?_ _) | (with_reducible refine Kd.C_drewN ?_ _) | (with_reducible refine Kd.C_drew ?_)))
                            (case side4 => exact (Kd.R_reads' HO1775.out).2.1)
                            rintro e w66 ⟨v1777, rfl, ho0, hb⟩
                            refine ⟨_, rfl, ?_⟩
                            have n0_ := Aside0.mk (Kd.R_elder' HO_6.out (Kd.R_base ho0) hb)
                            have n1_ := Aside0.mk (Kd.R_elder' HO_1756000.out (Kd.R_base ho0) hb)
                            have n2_ := Aside0.mk (Kd.R_elder' HO1772.out (Kd.R_base ho0) hb)
                            have n3_ := Aside0.mk (Kd.R_elder' HO1775.out (Kd.R_base ho0) hb)
                            have n4_ := Aside0.mk (Kd.R_lower (Kd.R_new' (Kd.R_new' (Kd.R_new' (Kd.R_new' ho0 (Kd.R_lt HO_6.out)) (Kd.R_lt HO_1756000.out)) (Kd.R_lt HO1772.out)) (Kd.R_lt HO1775.out)) (below_size (by repeat (first | (with_reducible first | exact HB.out | apply below_alloc | apply pw_below_drewN | apply below_drew1 | refine below_set ?_ GE1748.out | refine below_set ?_ GE1749.out | refine below_set ?_ GE1750.out | refine below_set ?_ GE1751.out | refine below_set ?_ GE1755.out) | exact HB.out))))
                            have n5_ := Aside0.mk (blk_below BK1748.out hb)
                            have n6_ := Aside0.mk (blk_below BK1749.out hb)
                            have n7_ := Aside0.mk (blk_below BK1750.out hb)
                            have n8_ := Aside0.mk (blk_below BK1751.out hb)
                            have n9_ := Aside0.mk (blk_below BK1755.out hb)
                            have n10_ := Aside0.mk (below_step (by repeat (first | (with_reducible first | exact HB.out | apply below_alloc | apply pw_below_drewN | apply below_drew1 | refine below_set ?_ GE1748.out | refine below_set ?_ GE1749.out | refine below_set ?_ GE1750.out | refine below_set ?_ GE1751.out | refine below_set ?_ GE1755.out) | exact HB.out)) hb)
                            clear HO_6 HO_1756000 HO1772 HO1775 BK1748 BK1749 BK1750 BK1751 BK1755 HB
                            have HO_6 := n0_
                            have HO_1756000 := n1_
                            have HO1772 := n2_
                            have HO1775 := n3_
                            have HO1778 := n4_
                            have BK1748 := n5_
                            have BK1749 := n6_
                            have BK1750 := n7_
                            have BK1751 := n8_
                            have BK1755 := n9_
                            have HB := n10_
                            clear n0_ n1_ n2_ n3_ n4_ n5_ n6_ n7_ n8_ n9_ n10_
                            (try clear hb)
                            (try clear hb2)
                            (try clear hk)
                            (try clear hi)
                            (try clear ho0)
                            obtain ⟨Ao67, co67, eo67⟩ := Kd.R_slice HO1778.out
                            (first | subst eo67 | (injection eo67 with f1_ f2_ f3_; have f4_ := f1_.symm; have f5_ := f3_.symm; clear f1_ f2_ f3_; subst f4_; subst f5_))
                            refine hK.out _ _ ⟨(blk_cell BK1755.out 0).trans rfl, (blk_cell BK1749.out 0).trans rfl⟩ (fun hHeld => ?_)
                            clear hK K
                            refine norm_ (a' := ?_) ?_ ?_
                            rotate_left
                            · show Act.put _ (some 61) _ = _
                              simp only [Act.put, List.setIfInBounds_toArray, List.set_cons_zero, List.set_cons_succ, i64_w, i32_w]
                              rfl
                            refine last_ (i := 6) (N := none) (demurrageref01_Quot.ups 7 127) rfl rfl (by kernel_rfl) (by decide) (fun K hK => ?_)
                            have hs68 : w66.cell? ⟨gb1755, 0, none⟩ = some (.slice Ao34 t1766.length co34) := (blk_cell BK1755.out 0).trans rfl
                            have hfs68 := blk_frozen BK1755.out 0
                            have hns68_0 := NB1748_1755.out
                            have hns68_1 := NB1749_1755.out
                            have hns68_2 := NB1750_1755.out
                            have hns68_3 := NB1751_1755.out
                            have hms68_0 := NB1755_1748.out
                            have hms68_1 := NB1755_1749.out
                            have hms68_2 := NB1755_1750.out
                            have hms68_3 := NB1755_1751.out
                            refine skip_ (w1 := ?_) (by rfl) rfl ?_ ?_
                            rotate_left
                            · go_simp
                              rfl
                            refine hK.out _ _ ?_
                            clear hK K
                            refine done_ (by kernel_rfl) ?_
                            try go_wp2
                            go_roundg k2
                            case measure => have := HK1.out; have := HK2.out; omega
                            case rel => exact ⟨(y1769), (wrap64 (x8_1 - 1)), (t1776), (.slice Ao67 t1776.length co67), (by first | rfl | (simp; done) | (simp [*]; done)), H', ⟨by have := HK1.out; have := HK2.out; omega⟩, ⟨by (with_reducible repeat (first | apply Kd.R_alloc | apply Kd.R_drewN | apply Kd.R_drew)); exact Kd.R_mono (Kd.R_far (p := ⟨gb1755, 0, none⟩) (Kd.R_types HO_6.out BK1755.out (by decide)) (fun _ hk => hk.2) (.slice Ao67 t1776.length co67)) (fun _ hk => hk.1.2)⟩, ⟨by (with_reducible repeat (first | apply Kd.R_alloc | apply Kd.R_drewN | apply Kd.R_drew)); exact Kd.R_mono (Kd.R_far (p := ⟨gb1755, 0, none⟩) (Kd.R_types HO1778.out BK1755.out (by decide)) (fun _ hk => hk.2) (.slice Ao67 t1776.length co67)) (fun _ hk => hk.1.1.1.1.2)⟩, ⟨by refine blk_far ?_ NB1748_1755.out _; exact BK1748.out⟩, ⟨by refine blk_far ?_ NB1749_1755.out _; exact BK1749.out⟩, ⟨by refine blk_far ?_ NB1750_1755.out _; exact BK1750.out⟩, ⟨by refine blk_far ?_ NB1751_1755.out _; exact BK1751.out⟩, ⟨by refine blk_put (cs := #[.slice Ao34 t1766.length co34]) ?_ 0 _ rfl; exact BK1755.out⟩, ⟨by repeat (first | (with_reducible first | exact HB.out | apply below_alloc | apply pw_below_drewN | apply below_drew1 | refine below_set ?_ GE1748.out | refine below_set ?_ GE1749.out | refine below_set ?_ GE1750.out | refine below_set ?_ GE1751.out | refine below_set ?_ GE1755.out) | exact HB.out)⟩⟩
                          · rw [if_neg c54] at H
                            exact absurd H (by simp)
                        · rw [if_neg c53] at H
                          exact absurd H (by simp)
                · rw [if_neg c25] at H
                  exact absurd H (by simp)
              · rw [if_neg c24] at H
                exact absurd H (by simp)
            · rw [if_neg c23] at H
              exact absurd H (by simp)
          · rw [if_neg c22] at H
            have c22b0 : decide (0 ≤ x8_1) = false := decide_eq_false c22
            clear c22
            replace H := Option.bind_eq_some_iff.mp H
            obtain ⟨t1756, A690, H⟩ := H
            replace H : (some (t1756, x1756000_1)) = some (r1, r2) := H
            have A69 := Aside0.mk A690
            clear A690
            simp only [Option.some.injEq, Prod.mk.injEq] at H
            obtain ⟨rfl, rfl⟩ := H
            try go_wp2
            have n0_ := Aside0.mk (Kd.R_drew HO_6.out)
            have n1_ := Aside0.mk (Kd.R_drew HO_1756000.out)
            have n2_ := Aside0.mk (blk_drew BK1748.out)
            have n3_ := Aside0.mk (blk_drew BK1749.out)
            have n4_ := Aside0.mk (blk_drew BK1750.out)
            have n5_ := Aside0.mk (blk_drew BK1751.out)
            have n6_ := Aside0.mk (blk_drew BK1755.out)
            have n7_ := Aside0.mk (below_drew1 HB.out)
            clear HO_6 HO_1756000 BK1748 BK1749 BK1750 BK1751 BK1755 HB
            have HO_6 := n0_
            have HO_1756000 := n1_
            have BK1748 := n2_
            have BK1749 := n3_
            have BK1750 := n4_
            have BK1751 := n5_
            have BK1755 := n6_
            have HB := n7_
            clear n0_ n1_ n2_ n3_ n4_ n5_ n6_ n7_
            obtain ⟨Ao71, co71, eo71⟩ := Kd.R_slice HO_6.out
            (first | subst eo71 | (injection eo71 with f1_ f2_ f3_; have f4_ := f1_.symm; have f5_ := f3_.symm; clear f1_ f2_ f3_; subst f4_; subst f5_))
            refine start_ (n := 5) (S := fun w' => w'.cell? ⟨gb1755, 0, none⟩ = some (u1756000)) (ds := []) #[false, false, false, false, false] (by kernel_rfl) rfl rfl ((blk_cell BK1755.out 0).trans rfl) (fun hHeld => ?_)
            generalize wr.drew = w70 at HO_6 HO_1756000 BK1748 BK1749 BK1750 BK1751 BK1755 HB hHeld ⊢
            refine pure_ (i := 0) (N := some 62) (v := ?_) (a' := ?_) #[true, false, false, false, false] rfl rfl (by kernel_rfl) (fun _ _ _ h => h) (Or.inl ⟨by rfl, ?_⟩) ?_ ?_
            rotate_left
            · intro w'
              go_simp
              with_reducible rfl
            rotate_left
            · simp only [Act.put, List.setIfInBounds_toArray, List.set_cons_zero, List.set_cons_succ, i64_w, i32_w]
              rfl
            refine take_ (i := 2) (N := some 64) (v := ?_) (a' := ?_) #[true, false, true, false, false] rfl rfl (by kernel_rfl) (fun _ _ _ h => h) (Or.inl ⟨by rfl, ?_⟩) hHeld ?_ ?_
            rotate_left
            · intro w' s0
              go_simp
              with_reducible rfl
            rotate_left
            · simp only [Act.put, List.setIfInBounds_toArray, List.set_cons_zero, List.set_cons_succ, i64_w, i32_w]
              rfl
            refine one_ (i := 1) (N := some 63) #[true, true, true, false, false] rfl rfl (by kernel_rfl) (by decide) (fun K hK => ?_)
            refine goes_ Try.func66 (by kernel_rfl) rfl #[.slice Ao71 x6_1.length co71] (by rfl) rfl rfl (by (try simp only [List.map_toArray, List.map_cons, List.map_nil]); first | done | rfl) ?_
            with_reducible refine (demurrageref01_trim.calls _ _ x6_1 t1756 _ ?side1 ?side2 A69.out).mono ?_
            (case side1 => repeat (first | exact (Kd.R_reads' HO_6.out).2.2 | (with_reducible refine Kd.C_alloc ?_ _) | (with_reducible refine Kd.C_drewN ?_ _) | (with_reducible refine Kd.C_drew ?_)))
            (case side2 => exact (Kd.R_reads' HO_6.out).2.1)
            rintro e w72 ⟨v1757, rfl, ho0, hb⟩
            refine ⟨_, rfl, ?_⟩
            have n0_ := Aside0.mk (Kd.R_elder' HO_6.out (Kd.R_base ho0) hb)
            have n1_ := Aside0.mk (Kd.R_elder' HO_1756000.out (Kd.R_base ho0) hb)
            have n2_ := Aside0.mk (Kd.R_lower (Kd.R_new' (Kd.R_new' ho0 (Kd.R_lt HO_6.out)) (Kd.R_lt HO_1756000.out)) (below_size (by repeat (first | (with_reducible first | exact HB.out | apply below_alloc | apply pw_below_drewN | apply below_drew1 | refine below_set ?_ GE1748.out | refine below_set ?_ GE1749.out | refine below_set ?_ GE1750.out | refine below_set ?_ GE1751.out | refine below_set ?_ GE1755.out) | exact HB.out))))
            have n3_ := Aside0.mk (blk_below BK1748.out hb)
            have n4_ := Aside0.mk (blk_below BK1749.out hb)
            have n5_ := Aside0.mk (blk_below BK1750.out hb)
            have n6_ := Aside0.mk (blk_below BK1751.out hb)
            have n7_ := Aside0.mk (blk_below BK1755.out hb)
            have n8_ := Aside0.mk (below_step (by repeat (first | (with_reducible first | exact HB.out | apply below_alloc | apply pw_below_drewN | apply below_drew1 | refine below_set ?_ GE1748.out | refine below_set ?_ GE1749.out | refine below_set ?_ GE1750.out | refine below_set ?_ GE1751.out | refine below_set ?_ GE1755.out) | exact HB.out)) hb)
            clear HO_6 HO_1756000 BK1748 BK1749 BK1750 BK1751 BK1755 HB
            have HO_6 := n0_
            have HO_1756000 := n1_
            have HO1758 := n2_
            have BK1748 := n3_
            have BK1749 := n4_
            have BK1750 := n5_
            have BK1751 := n6_
            have BK1755 := n7_
            have HB := n8_
            clear n0_ n1_ n2_ n3_ n4_ n5_ n6_ n7_ n8_
            (try clear hb)
            (try clear hb2)
            (try clear hk)
            (try clear hi)
            (try clear ho0)
            obtain ⟨Ao73, co73, eo73⟩ := Kd.R_slice HO1758.out
            (first | subst eo73 | (injection eo73 with f1_ f2_ f3_; have f4_ := f1_.symm; have f5_ := f3_.symm; clear f1_ f2_ f3_; subst f4_; subst f5_))
            obtain ⟨Ao75, co75, eo75⟩ := Kd.R_slice HO_1756000.out
            (first | subst eo75 | (injection eo75 with f1_ f2_ f3_; have f4_ := f1_.symm; have f5_ := f3_.symm; clear f1_ f2_ f3_; subst f4_; subst f5_))
            refine hK.out _ _ ((blk_cell BK1755.out 0).trans rfl) (fun hHeld => ?_)
            clear hK K
            refine norm_ (a' := ?_) ?_ ?_
            rotate_left
            · show Act.put _ (some 63) _ = _
              simp only [Act.put, List.setIfInBounds_toArray, List.set_cons_zero, List.set_cons_succ, i64_w, i32_w]
              rfl
            refine one_ (i := 3) (N := none) #[true, true, true, true, false] rfl rfl (by kernel_rfl) (by decide) (fun K hK => ?_)
            have hs74 : w72.cell? ⟨gb1750, 0, none⟩ = some (.slice none 0 0) := (blk_cell BK1750.out 0).trans rfl
            have hfs74 := blk_frozen BK1750.out 0
            have hns74_0 := NB1748_1750.out
            have hns74_1 := NB1749_1750.out
            have hns74_3 := NB1751_1750.out
            have hns74_4 := NB1755_1750.out
            have hms74_0 := NB1750_1748.out
            have hms74_1 := NB1750_1749.out
            have hms74_3 := NB1750_1751.out
            have hms74_4 := NB1750_1755.out
            refine skip_ (w1 := ?_) (by rfl) rfl ?_ ?_
            rotate_left
            · go_simp
              rfl
            refine hK.out _ _ (((cell_far (p := ⟨gb1750, _, none⟩) NB1755_1750.out _).trans (hHeld))) (fun hHeld => ?_)
            clear hK K
            refine one_ (i := 4) (N := none) #[true, true, true, true, true] rfl rfl (by kernel_rfl) (by decide) (fun K hK => ?_)
            have hs76 : w72.cell? ⟨gb1751, 0, none⟩ = some (.slice none 0 0) := (blk_cell BK1751.out 0).trans rfl
            have hfs76 := blk_frozen BK1751.out 0
            have hns76_0 := NB1748_1751.out
            have hns76_1 := NB1749_1751.out
            have hns76_2 := NB1750_1751.out
            have hns76_4 := NB1755_1751.out
            have hms76_0 := NB1751_1748.out
            have hms76_1 := NB1751_1749.out
            have hms76_2 := NB1751_1750.out
            have hms76_4 := NB1751_1755.out
            refine skip_ (w1 := ?_) (by rfl) rfl ?_ ?_
            rotate_left
            · go_simp
              rfl
            refine hK.out _ _ (((cell_far (p := ⟨gb1751, _, none⟩) NB1755_1751.out _).trans (hHeld))) (fun hHeld => ?_)
            clear hK K
            refine done_ (by kernel_rfl) ?_
            try go_wp2
            refine bodyPost_ret (results_cc rfl _ _ gb1750 gb1751 28 28 #[.slice Ao73 t1756.length co73] #[.slice Ao75 x1756000_1.length co75] (0, 0) (0, 0) _ _ rfl (by refine blk_far ?_ NB1750_1751.out _; refine blk_put (cs := #[.slice none 0 0]) ?_ 0 _ rfl; exact BK1750.out) Try.underlying28 rfl (by kernel_rfl) rfl (by refine blk_put (cs := #[.slice none 0 0]) ?_ 0 _ rfl; refine blk_far ?_ NB1751_1750.out _; exact BK1751.out) Try.underlying28 rfl (by kernel_rfl)) rfl ?_
            exact ⟨_, _, by rfl, by (with_reducible repeat (first | apply Kd.R_alloc | apply Kd.R_drewN | apply Kd.R_drew)); exact Kd.R_mono (Kd.R_far (p := ⟨gb1751, 0, none⟩) (Kd.R_far (p := ⟨gb1750, 0, none⟩) (Kd.R_types (Kd.R_types HO1758.out BK1750.out (by decide)) BK1751.out (by decide)) (fun _ hk => hk.1.2) (.slice Ao73 t1756.length co73)) (fun _ hk => hk.2) (.slice Ao75 x1756000_1.length co75)) (fun _ hk => hk.1.1.2), by (with_reducible repeat (first | apply Kd.R_alloc | apply Kd.R_drewN | apply Kd.R_drew)); exact Kd.R_mono (Kd.R_far (p := ⟨gb1751, 0, none⟩) (Kd.R_far (p := ⟨gb1750, 0, none⟩) (Kd.R_types (Kd.R_types HO_1756000.out BK1750.out (by decide)) BK1751.out (by decide)) (fun _ hk => hk.1.2) (.slice Ao73 t1756.length co73)) (fun _ hk => hk.2) (.slice Ao75 x1756000_1.length co75)) (fun _ hk => hk.1.1.2), by repeat (first | (with_reducible first | exact HB.out | apply below_alloc | apply pw_below_drewN | apply below_drew1 | refine below_set ?_ GE1748.out | refine below_set ?_ GE1749.out | refine below_set ?_ GE1750.out | refine below_set ?_ GE1751.out | refine below_set ?_ GE1755.out) | exact HB.out)⟩
    · rw [if_neg c4] at H
      exact absurd H (by simp)
  · rw [if_neg c3] at H
    exact absurd H (by simp)

end Go.Proofs.Ytcdbmmlnmefoeaa.X
