-- CUT by prune.py, a program of this session, to what the claim reaches (out of a text that the kit's printer, the session's programs or the session wrote)
import Derived.Test.YtcdbmmlnmefoeaaPRatioExactX0
import Derived.Test.YtcdbmmlnmefoeaaPRatioExactXBig
import Derived.Test.YtcdbmmlnmefoeaaPRatioExactXQuot
namespace Go.Proofs.Ytcdbmmlnmefoeaa.X
open Go.RowKit Go.Proofs.YtcdbmmlnmefoeaaW.PrintWords Go.Proofs.YtcdbmmlnmefoeaaW.PrintLast Go.Proofs.YtcdbmmlnmefoeaaW.PrintMore
set_option linter.unusedVariables false
set_option linter.unusedSimpArgs false

def demurrageref02_New.upsl : Nat → Nat → List Bool
  | 0, _ => []
  | n + 1, m => (m % 2 == 1) :: demurrageref02_New.upsl n (m / 2)
def demurrageref02_New.ups (n m : Nat) : Array Bool := ⟨demurrageref02_New.upsl n m⟩
def demurrageref02_Gcd.l0 : Nat → List Int → List Int → Option (List Int)
  | 0, _, _ => none
  | k + 1, x4550000, x4551000 => if (x4551000.length : Int) > 0 then ((demurrageref01_Quot.f k x4550000 x4551000).bind fun bt4552 => (demurrageref02_Gcd.l0 k x4551000 bt4552.2)) else (some x4550000)
def demurrageref02_Gcd.f (k : Nat) (l0_0 : List Int) (l1_0 : List Int) : Option (List Int) := demurrageref02_Gcd.l0 k l0_0 l1_0
set_option maxHeartbeats 8000000 in
set_option maxRecDepth 100000 in
theorem demurrageref02_Gcd.calls (k : Nat) (P0_0_ : Nat → Prop) (A0_0 : Option Addr) (c0_0 : Nat) (l0_0 : List Int) (P1_0_ : Nat → Prop) (A1_0 : Option Addr) (c1_0 : Nat) (l1_0 : List Int) (r : List Int) (w : World) (hs0_0 : Kd.V (Kd.int .i64) 3 w w.heap.size (fun k_ => P0_0_ k_) (.slice A0_0 l0_0.length c0_0) l0_0) (hs1_0 : Kd.V (Kd.int .i64) 3 w w.heap.size (fun k_ => P1_0_ k_) (.slice A1_0 l1_0.length c1_0) l1_0) (h : demurrageref02_Gcd.f k l0_0 l1_0 = some r) :
    Calls Try.prog 42 #[.agg #[.slice A0_0 l0_0.length c0_0], .agg #[.slice A1_0 l1_0.length c1_0]] w fun e w' => ∃ v0_ : Value, e = .returned (.agg #[v0_]) ∧ Kd.V (Kd.int .i64) 3 w' w.heap.size (fun k_ => ((P0_0_ k_ ∨ P1_0_ k_) ∨ w.heap.size ≤ k_)) v0_ r ∧ Below w.heap.size w w' := by
  have hu28 := Try.underlying28
  have HO0_0 := Aside0.mk (show Kd.V (Kd.int .i64) 3 w w.heap.size (fun k_ => ((P0_0_ k_ ∨ P1_0_ k_) ∨ w.heap.size ≤ k_)) (.slice A0_0 l0_0.length c0_0) l0_0 from Kd.V_mono hs0_0 (fun k_ hk => .inl (.inl hk)))
  have HO1_0 := Aside0.mk (show Kd.V (Kd.int .i64) 3 w w.heap.size (fun k_ => ((P0_0_ k_ ∨ P1_0_ k_) ∨ w.heap.size ≤ k_)) (.slice A1_0 l1_0.length c1_0) l1_0 from Kd.V_mono hs1_0 (fun k_ hk => .inl (.inr hk)))
  have HB := Aside0.mk (Below.refl w.heap.size w)
  have H : (demurrageref02_Gcd.l0 k l0_0 l1_0) = some r := h
  clear h
  have H' := Aside0.mk H
  clear H
  go_enter Try.func42, Try.ntmps42
  go_wp2_with (first | ((with_reducible refine gate_dst (N := 2) rfl ?_); refine box_event ?hg (N := 2) ?hd (cs := #[.slice A0_0 l0_0.length c0_0]) (t := 28) ?hr ?_; (case hd => rfl); (case hg => rfl); (case hr => go_simp); intro gb4549 hg w3 hbox hb; have n0_ := Aside0.mk (Kd.V_below (Kd.V_elderB HO0_0.out gb4549 (Nat.le_of_eq hg.symm)) hb); have n1_ := Aside0.mk (Kd.V_below (Kd.V_elderB HO1_0.out gb4549 (Nat.le_of_eq hg.symm)) hb); have n2_ := Aside0.mk (below_step (by repeat (first | (with_reducible first | exact HB.out | apply below_alloc | apply pw_below_drewN | apply below_drew1) | exact HB.out)) hb); have n3_ := Aside0.mk (hbox); have n4_ := Aside0.mk ((by rw [hg]; exact (below_size (by repeat (first | (with_reducible first | exact HB.out | apply below_alloc | apply pw_below_drewN | apply below_drew1) | exact HB.out))) : w.heap.size ≤ gb4549)); have n5_ := Aside0.mk ((by rw [hg]; exact (below_size (by repeat (first | (with_reducible first | exact HB.out | apply below_alloc | apply pw_below_drewN | apply below_drew1) | exact HB.out))) : w.heap.size ≤ gb4549)); clear HO0_0 HO1_0; clear HB; have HO0_0 := n0_; have HO1_0 := n1_; have HB := n2_; have BK4549 := n3_; have GW4549 := n4_; have GE4549 := n5_; clear n0_ n1_ n2_ n3_ n4_ n5_; clear hb hbox hg) | ((with_reducible refine gate_dst (N := 3) rfl ?_); refine box_event ?hg (N := 3) ?hd (cs := #[.slice A1_0 l1_0.length c1_0]) (t := 28) ?hr ?_; (case hd => rfl); (case hg => rfl); (case hr => go_simp); intro gb4550 hg w4 hbox hb; have n0_ := Aside0.mk (Kd.V_below (Kd.V_elderB HO0_0.out gb4550 (Nat.le_of_eq hg.symm)) hb); have n1_ := Aside0.mk (Kd.V_below (Kd.V_elderB HO1_0.out gb4550 (Nat.le_of_eq hg.symm)) hb); have n2_ := Aside0.mk (blk_below BK4549.out hb); have n3_ := Aside0.mk (below_step (by repeat (first | (with_reducible first | exact HB.out | apply below_alloc | apply pw_below_drewN | apply below_drew1 | refine below_set ?_ GE4549.out) | exact HB.out)) hb); have n4_ := Aside0.mk (hbox); have n5_ := Aside0.mk ((by rw [hg]; exact (below_size (by repeat (first | (with_reducible first | exact HB.out | apply below_alloc | apply pw_below_drewN | apply below_drew1 | refine below_set ?_ GE4549.out) | exact HB.out))) : w.heap.size ≤ gb4550)); have n6_ := Aside0.mk ((by rw [hg]; exact (below_size (by repeat (first | (with_reducible first | exact HB.out | apply below_alloc | apply pw_below_drewN | apply below_drew1 | refine below_set ?_ GE4549.out) | exact HB.out))) : w.heap.size ≤ gb4550)); have n7_ := Aside0.mk ((by rw [hg]; exact Nat.ne_of_lt (blk_lt (g := gb4549) (o := .cells #[.slice A0_0 l0_0.length c0_0] 28 (0, 0)) BK4549.out) : gb4549 ≠ gb4550)); have n8_ := Aside0.mk ((by rw [hg]; exact Nat.ne_of_gt (blk_lt (g := gb4549) (o := .cells #[.slice A0_0 l0_0.length c0_0] 28 (0, 0)) BK4549.out) : gb4550 ≠ gb4549)); clear HO0_0 HO1_0 BK4549 HB; have HO0_0 := n0_; have HO1_0 := n1_; have BK4549 := n2_; have HB := n3_; have BK4550 := n4_; have GW4550 := n5_; have GE4550 := n6_; have NB4549_4550 := n7_; have NB4550_4549 := n8_; clear n0_ n1_ n2_ n3_ n4_ n5_ n6_ n7_ n8_; clear hb hbox hg) | ((with_reducible refine gate_dst (N := 4) rfl ?_); refine box_event ?hg (N := 4) ?hd (cs := #[.slice none 0 0]) (t := 28) ?hr ?_; (case hd => rfl); (case hg => rfl); (case hr => go_simp); intro gb4551 hg w5 hbox hb; have n0_ := Aside0.mk (Kd.V_below (Kd.V_elderB HO0_0.out gb4551 (Nat.le_of_eq hg.symm)) hb); have n1_ := Aside0.mk (Kd.V_below (Kd.V_elderB HO1_0.out gb4551 (Nat.le_of_eq hg.symm)) hb); have n2_ := Aside0.mk (blk_below BK4549.out hb); have n3_ := Aside0.mk (blk_below BK4550.out hb); have n4_ := Aside0.mk (below_step (by repeat (first | (with_reducible first | exact HB.out | apply below_alloc | apply pw_below_drewN | apply below_drew1 | refine below_set ?_ GE4549.out | refine below_set ?_ GE4550.out) | exact HB.out)) hb); have n5_ := Aside0.mk (hbox); have n6_ := Aside0.mk ((by rw [hg]; exact (below_size (by repeat (first | (with_reducible first | exact HB.out | apply below_alloc | apply pw_below_drewN | apply below_drew1 | refine below_set ?_ GE4549.out | refine below_set ?_ GE4550.out) | exact HB.out))) : w.heap.size ≤ gb4551)); have n7_ := Aside0.mk ((by rw [hg]; exact (below_size (by repeat (first | (with_reducible first | exact HB.out | apply below_alloc | apply pw_below_drewN | apply below_drew1 | refine below_set ?_ GE4549.out | refine below_set ?_ GE4550.out) | exact HB.out))) : w.heap.size ≤ gb4551)); have n8_ := Aside0.mk ((by rw [hg]; exact Nat.ne_of_lt (blk_lt (g := gb4549) (o := .cells #[.slice A0_0 l0_0.length c0_0] 28 (0, 0)) BK4549.out) : gb4549 ≠ gb4551)); have n9_ := Aside0.mk ((by rw [hg]; exact Nat.ne_of_gt (blk_lt (g := gb4549) (o := .cells #[.slice A0_0 l0_0.length c0_0] 28 (0, 0)) BK4549.out) : gb4551 ≠ gb4549)); have n10_ := Aside0.mk ((by rw [hg]; exact Nat.ne_of_lt (blk_lt (g := gb4550) (o := .cells #[.slice A1_0 l1_0.length c1_0] 28 (0, 0)) BK4550.out) : gb4550 ≠ gb4551)); have n11_ := Aside0.mk ((by rw [hg]; exact Nat.ne_of_gt (blk_lt (g := gb4550) (o := .cells #[.slice A1_0 l1_0.length c1_0] 28 (0, 0)) BK4550.out) : gb4551 ≠ gb4550)); clear HO0_0 HO1_0 BK4549 BK4550; clear HB; have HO0_0 := n0_; have HO1_0 := n1_; have BK4549 := n2_; have BK4550 := n3_; have HB := n4_; have BK4551 := n5_; have GW4551 := n6_; have GE4551 := n7_; have NB4549_4551 := n8_; have NB4551_4549 := n9_; have NB4550_4551 := n10_; have NB4551_4550 := n11_; clear n0_ n1_ n2_ n3_ n4_ n5_ n6_ n7_ n8_ n9_ n10_ n11_; clear hb hbox hg))
  (try simp only [Act.put, List.setIfInBounds_toArray, List.set_cons_zero, List.set_cons_succ])
  go_loopg [] k (fun kq w' => ∃ (x4550000_1 : List Int) (x4551000_1 : List Int) (u4550000 : Value) (u4551000 : Value), Aside0 (demurrageref02_Gcd.l0 kq x4550000_1 x4551000_1 = some r) ∧ Aside0 (kq ≤ k) ∧ Aside0 (Kd.V (Kd.int .i64) 3 w' w.heap.size (fun k_ => ((P0_0_ k_ ∨ P1_0_ k_) ∨ w.heap.size ≤ k_) ∧ k_ ≠ gb4549 ∧ k_ ≠ gb4550 ∧ k_ ≠ gb4551) u4550000 x4550000_1) ∧ Aside0 (Kd.V (Kd.int .i64) 3 w' w.heap.size (fun k_ => ((P0_0_ k_ ∨ P1_0_ k_) ∨ w.heap.size ≤ k_) ∧ k_ ≠ gb4549 ∧ k_ ≠ gb4550 ∧ k_ ≠ gb4551) u4551000 x4551000_1) ∧ Aside0 (w'.heap[gb4549]? = some (.cells #[u4550000] 28 (0, 0))) ∧ Aside0 (w'.heap[gb4550]? = some (.cells #[u4551000] 28 (0, 0))) ∧ Aside0 (w'.heap[gb4551]? = some (.cells #[(.slice none 0 0)] 28 (0, 0))) ∧ Aside0 (Below w.heap.size w w'))
  case atStart => exact ⟨(l0_0), (l1_0), (.slice A0_0 l0_0.length c0_0), (.slice A1_0 l1_0.length c1_0), H', ⟨Nat.le_refl _⟩, ⟨by (with_reducible repeat (first | apply Kd.V_alloc | apply Kd.V_drewN | apply Kd.V_drew)); exact Kd.V_mono HO0_0.out (fun _ hk => (And.intro (hk.1.1.1) ((And.intro (hk.1.1.2) ((And.intro (hk.1.2) (hk.2)))))))⟩, ⟨by (with_reducible repeat (first | apply Kd.V_alloc | apply Kd.V_drewN | apply Kd.V_drew)); exact Kd.V_mono HO1_0.out (fun _ hk => (And.intro (hk.1.1.1) ((And.intro (hk.1.1.2) ((And.intro (hk.1.2) (hk.2)))))))⟩, BK4549, BK4550, BK4551, ⟨by repeat (first | (with_reducible first | exact HB.out | apply below_alloc | apply pw_below_drewN | apply below_drew1 | refine below_set ?_ GE4549.out | refine below_set ?_ GE4550.out | refine below_set ?_ GE4551.out) | exact HB.out)⟩⟩
  case round =>
    clear H'
    try clear c1
    try clear p2
    try clear c4
    obtain ⟨x4550000_1, x4551000_1, u4550000, u4551000, HA, HK1, HO_4550000, HO_4551000, BK4549, BK4550, BK4551, HB⟩ := hrel
    cases gk with
    | zero => exact absurd HA.out (by simp [demurrageref02_Gcd.l0])
    | succ k1 =>
      have H := HA.out
      clear HA
      simp only [demurrageref02_Gcd.l0] at H
      by_cases c6 : (x4551000_1.length : Int) > 0
      · rw [if_pos c6] at H
        have c6b0 : decide (0 < (x4551000_1.length : Int)) = true := decide_eq_true c6
        have c6b1 : decide (0 < x4551000_1.length) = true := decide_eq_true (by omega)
        clear c6
        replace H := Option.bind_eq_some_iff.mp H
        obtain ⟨⟨t4552, t4555⟩, A70, H⟩ := H
        replace H : (demurrageref02_Gcd.l0 k1 x4551000_1 t4555) = some r := H
        have A7 := Aside0.mk A70
        clear A70
        have H' := Aside0.mk H
        clear H
        have hnb8 := NB4550_4549.out
        have hnc8 := NB4549_4550.out
        have hnb9 := NB4550_4551.out
        have hnc9 := NB4551_4550.out
        have hcz10_0 : wr.cell? ⟨gb4550, 0, none⟩ = some (u4551000) := (blk_cell BK4550.out 0).trans rfl
        have hfz10_0 := blk_frozen BK4550.out 0
        obtain ⟨Ao11, co11, eo11⟩ := Kd.V_slice HO_4551000.out
        subst eo11
        have hnb12 := NB4549_4551.out
        have hnc12 := NB4551_4549.out
        have hcz13_0 : wr.cell? ⟨gb4549, 0, none⟩ = some (u4550000) := (blk_cell BK4549.out 0).trans rfl
        have hfz13_0 := blk_frozen BK4549.out 0
        obtain ⟨Ao14, co14, eo14⟩ := Kd.V_slice HO_4550000.out
        subst eo14
        go_wp2_with (first | ((with_reducible refine gate_callee (f := 38) rfl ?_); refine goesL_ (some 14) rfl rfl Try.func38 (by kernel_rfl) rfl #[.agg #[.slice Ao14 x4550000_1.length co14], .agg #[.slice Ao11 x4551000_1.length co11]] rfl (by (try simp only [List.map_toArray, List.map_cons, List.map_nil]); first | done | rfl) ?_; (with_reducible refine (demurrageref01_Quot.calls k1 _ _ x4550000_1 _ _ x4551000_1 t4552 t4555 _ ?side1 ?side2 ?side3 ?side4 A7.out).mono ?_); (case side1 => repeat (first | exact (Kd.V_reads' HO_4550000.out).2.2 | (with_reducible refine Kd.C_alloc ?_ _) | (with_reducible refine Kd.C_drewN ?_ _) | (with_reducible refine Kd.C_drew ?_))); (case side2 => exact (Kd.V_reads' HO_4550000.out).2.1); (case side3 => repeat (first | exact (Kd.V_reads' HO_4551000.out).2.2 | (with_reducible refine Kd.C_alloc ?_ _) | (with_reducible refine Kd.C_drewN ?_ _) | (with_reducible refine Kd.C_drew ?_))); (case side4 => exact (Kd.V_reads' HO_4551000.out).2.1); rintro e w15 ⟨v4553, v4556, rfl, ho0, ho1, hb⟩; refine ⟨_, rfl, ?_⟩; have n0_ := Aside0.mk (Kd.V_mono (Kd.V_told (Kd.V_told (Kd.V_old HO_4550000.out hb) (Kd.R_base ho0)) (Kd.R_base ho1)) (fun _ h_ => h_.1)); have n1_ := Aside0.mk (Kd.V_mono (Kd.V_told (Kd.V_told (Kd.V_old HO_4551000.out hb) (Kd.R_base ho0)) (Kd.R_base ho1)) (fun _ h_ => h_.1)); have n2_ := Aside0.mk (Kd.R_lower (Kd.R_newM (M := fun k_ => (w.heap.size ≤ k_)) ho0 (below_size (by repeat (first | (with_reducible first | exact HB.out | apply below_alloc | apply pw_below_drewN | apply below_drew1 | refine below_set ?_ GE4549.out | refine below_set ?_ GE4550.out | refine below_set ?_ GE4551.out) | exact HB.out))) (fun k_ h_ => h_)) (below_size (by repeat (first | (with_reducible first | exact HB.out | apply below_alloc | apply pw_below_drewN | apply below_drew1 | refine below_set ?_ GE4549.out | refine below_set ?_ GE4550.out | refine below_set ?_ GE4551.out) | exact HB.out)))); have n3_ := Aside0.mk (Kd.R_lower (Kd.R_newM (M := fun k_ => (w.heap.size ≤ k_)) ho1 (below_size (by repeat (first | (with_reducible first | exact HB.out | apply below_alloc | apply pw_below_drewN | apply below_drew1 | refine below_set ?_ GE4549.out | refine below_set ?_ GE4550.out | refine below_set ?_ GE4551.out) | exact HB.out))) (fun k_ h_ => h_)) (below_size (by repeat (first | (with_reducible first | exact HB.out | apply below_alloc | apply pw_below_drewN | apply below_drew1 | refine below_set ?_ GE4549.out | refine below_set ?_ GE4550.out | refine below_set ?_ GE4551.out) | exact HB.out)))); have n4_ := Aside0.mk (blk_below BK4549.out hb); have n5_ := Aside0.mk (blk_below BK4550.out hb); have n6_ := Aside0.mk (blk_below BK4551.out hb); have n7_ := Aside0.mk (below_step (by repeat (first | (with_reducible first | exact HB.out | apply below_alloc | apply pw_below_drewN | apply below_drew1 | refine below_set ?_ GE4549.out | refine below_set ?_ GE4550.out | refine below_set ?_ GE4551.out) | exact HB.out)) hb); clear HO_4550000 HO_4551000 BK4549 BK4550; clear BK4551 HB; have HO_4550000 := n0_; have HO_4551000 := n1_; have HO4554 := n2_; have HO4557 := n3_; have BK4549 := n4_; have BK4550 := n5_; have BK4551 := n6_; have HB := n7_; clear n0_ n1_ n2_ n3_ n4_ n5_ n6_ n7_; (try clear hb); (try clear ho0); (try clear ho1)) | ((with_reducible refine gate_dst (N := 5) rfl ?_); refine box_event ?hg (N := 5) ?hd (cs := #[.slice none 0 0]) (t := 28) ?hr ?_; (case hd => rfl); (case hg => rfl); (case hr => go_simp); intro gb4558 hg w16 hbox hb; have n0_ := Aside0.mk (Kd.V_below (Kd.V_elderB HO_4550000.out gb4558 (Nat.le_of_eq hg.symm)) hb); have n1_ := Aside0.mk (Kd.V_below (Kd.V_elderB HO_4551000.out gb4558 (Nat.le_of_eq hg.symm)) hb); have n2_ := Aside0.mk (Kd.R_below HO4554.out hb); have n3_ := Aside0.mk (Kd.R_below HO4557.out hb); have n4_ := Aside0.mk (blk_below BK4549.out hb); have n5_ := Aside0.mk (blk_below BK4550.out hb); have n6_ := Aside0.mk (blk_below BK4551.out hb); have n7_ := Aside0.mk (below_step (by repeat (first | (with_reducible first | exact HB.out | apply below_alloc | apply pw_below_drewN | apply below_drew1 | refine below_set ?_ GE4549.out | refine below_set ?_ GE4550.out | refine below_set ?_ GE4551.out) | exact HB.out)) hb); have n8_ := Aside0.mk (hbox); have n9_ := Aside0.mk ((by rw [hg]; exact (below_size (by repeat (first | (with_reducible first | exact HB.out | apply below_alloc | apply pw_below_drewN | apply below_drew1 | refine below_set ?_ GE4549.out | refine below_set ?_ GE4550.out | refine below_set ?_ GE4551.out) | exact HB.out))) : w.heap.size ≤ gb4558)); have n10_ := Aside0.mk ((by rw [hg]; exact (below_size (by repeat (first | (with_reducible first | exact HB.out | apply below_alloc | apply pw_below_drewN | apply below_drew1 | refine below_set ?_ GE4549.out | refine below_set ?_ GE4550.out | refine below_set ?_ GE4551.out) | exact HB.out))) : w.heap.size ≤ gb4558)); have n11_ := Aside0.mk ((by rw [hg]; exact Nat.ne_of_lt (blk_lt (g := gb4549) (o := .cells #[.slice Ao14 x4550000_1.length co14] 28 (0, 0)) BK4549.out) : gb4549 ≠ gb4558)); have n12_ := Aside0.mk ((by rw [hg]; exact Nat.ne_of_gt (blk_lt (g := gb4549) (o := .cells #[.slice Ao14 x4550000_1.length co14] 28 (0, 0)) BK4549.out) : gb4558 ≠ gb4549)); have n13_ := Aside0.mk ((by rw [hg]; exact Nat.ne_of_lt (blk_lt (g := gb4550) (o := .cells #[.slice Ao11 x4551000_1.length co11] 28 (0, 0)) BK4550.out) : gb4550 ≠ gb4558)); have n14_ := Aside0.mk ((by rw [hg]; exact Nat.ne_of_gt (blk_lt (g := gb4550) (o := .cells #[.slice Ao11 x4551000_1.length co11] 28 (0, 0)) BK4550.out) : gb4558 ≠ gb4550)); have n15_ := Aside0.mk ((by rw [hg]; exact Nat.ne_of_lt (blk_lt (g := gb4551) (o := .cells #[.slice none 0 0] 28 (0, 0)) BK4551.out) : gb4551 ≠ gb4558)); have n16_ := Aside0.mk ((by rw [hg]; exact Nat.ne_of_gt (blk_lt (g := gb4551) (o := .cells #[.slice none 0 0] 28 (0, 0)) BK4551.out) : gb4558 ≠ gb4551)); clear HO_4550000 HO_4551000 HO4554 HO4557; clear BK4549 BK4550 BK4551 HB; have HO_4550000 := n0_; have HO_4551000 := n1_; have HO4554 := n2_; have HO4557 := n3_; have BK4549 := n4_; have BK4550 := n5_; have BK4551 := n6_; have HB := n7_; have BK4558 := n8_; have GW4558 := n9_; have GE4558 := n10_; have NB4549_4558 := n11_; have NB4558_4549 := n12_; have NB4550_4558 := n13_; have NB4558_4550 := n14_; have NB4551_4558 := n15_; have NB4558_4551 := n16_; clear n0_ n1_ n2_ n3_ n4_ n5_ n6_ n7_ n8_ n9_ n10_ n11_ n12_ n13_ n14_ n15_ n16_; clear hb hbox hg) | ((with_reducible refine gate_dst (N := 6) rfl ?_); refine box_event ?hg (N := 6) ?hd (cs := #[.slice none 0 0]) (t := 28) ?hr ?_; (case hd => rfl); (case hg => rfl); (case hr => go_simp); intro gb4559 hg w17 hbox hb; have n0_ := Aside0.mk (Kd.V_below (Kd.V_elderB HO_4550000.out gb4559 (Nat.le_of_eq hg.symm)) hb); have n1_ := Aside0.mk (Kd.V_below (Kd.V_elderB HO_4551000.out gb4559 (Nat.le_of_eq hg.symm)) hb); have n2_ := Aside0.mk (Kd.R_below HO4554.out hb); have n3_ := Aside0.mk (Kd.R_below HO4557.out hb); have n4_ := Aside0.mk (blk_below BK4549.out hb); have n5_ := Aside0.mk (blk_below BK4550.out hb); have n6_ := Aside0.mk (blk_below BK4551.out hb); have n7_ := Aside0.mk (blk_below BK4558.out hb); have n8_ := Aside0.mk (below_step (by repeat (first | (with_reducible first | exact HB.out | apply below_alloc | apply pw_below_drewN | apply below_drew1 | refine below_set ?_ GE4549.out | refine below_set ?_ GE4550.out | refine below_set ?_ GE4551.out | refine below_set ?_ GE4558.out) | exact HB.out)) hb); have n9_ := Aside0.mk (hbox); have n10_ := Aside0.mk ((by rw [hg]; exact (below_size (by repeat (first | (with_reducible first | exact HB.out | apply below_alloc | apply pw_below_drewN | apply below_drew1 | refine below_set ?_ GE4549.out | refine below_set ?_ GE4550.out | refine below_set ?_ GE4551.out | refine below_set ?_ GE4558.out) | exact HB.out))) : w.heap.size ≤ gb4559)); have n11_ := Aside0.mk ((by rw [hg]; exact (below_size (by repeat (first | (with_reducible first | exact HB.out | apply below_alloc | apply pw_below_drewN | apply below_drew1 | refine below_set ?_ GE4549.out | refine below_set ?_ GE4550.out | refine below_set ?_ GE4551.out | refine below_set ?_ GE4558.out) | exact HB.out))) : w.heap.size ≤ gb4559)); have n12_ := Aside0.mk ((by rw [hg]; exact Nat.ne_of_lt (blk_lt (g := gb4549) (o := .cells #[.slice Ao14 x4550000_1.length co14] 28 (0, 0)) BK4549.out) : gb4549 ≠ gb4559)); have n13_ := Aside0.mk ((by rw [hg]; exact Nat.ne_of_gt (blk_lt (g := gb4549) (o := .cells #[.slice Ao14 x4550000_1.length co14] 28 (0, 0)) BK4549.out) : gb4559 ≠ gb4549)); have n14_ := Aside0.mk ((by rw [hg]; exact Nat.ne_of_lt (blk_lt (g := gb4550) (o := .cells #[.slice Ao11 x4551000_1.length co11] 28 (0, 0)) BK4550.out) : gb4550 ≠ gb4559)); have n15_ := Aside0.mk ((by rw [hg]; exact Nat.ne_of_gt (blk_lt (g := gb4550) (o := .cells #[.slice Ao11 x4551000_1.length co11] 28 (0, 0)) BK4550.out) : gb4559 ≠ gb4550)); have n16_ := Aside0.mk ((by rw [hg]; exact Nat.ne_of_lt (blk_lt (g := gb4551) (o := .cells #[.slice none 0 0] 28 (0, 0)) BK4551.out) : gb4551 ≠ gb4559)); have n17_ := Aside0.mk ((by rw [hg]; exact Nat.ne_of_gt (blk_lt (g := gb4551) (o := .cells #[.slice none 0 0] 28 (0, 0)) BK4551.out) : gb4559 ≠ gb4551)); have n18_ := Aside0.mk ((by rw [hg]; exact Nat.ne_of_lt (blk_lt (g := gb4558) (o := .cells #[.slice none 0 0] 28 (0, 0)) BK4558.out) : gb4558 ≠ gb4559)); have n19_ := Aside0.mk ((by rw [hg]; exact Nat.ne_of_gt (blk_lt (g := gb4558) (o := .cells #[.slice none 0 0] 28 (0, 0)) BK4558.out) : gb4559 ≠ gb4558)); clear HO_4550000 HO_4551000 HO4554 HO4557; clear BK4549 BK4550 BK4551 BK4558; clear HB; have HO_4550000 := n0_; have HO_4551000 := n1_; have HO4554 := n2_; have HO4557 := n3_; have BK4549 := n4_; have BK4550 := n5_; have BK4551 := n6_; have BK4558 := n7_; have HB := n8_; have BK4559 := n9_; have GW4559 := n10_; have GE4559 := n11_; have NB4549_4559 := n12_; have NB4559_4549 := n13_; have NB4550_4559 := n14_; have NB4559_4550 := n15_; have NB4551_4559 := n16_; have NB4559_4551 := n17_; have NB4558_4559 := n18_; have NB4559_4558 := n19_; clear n0_ n1_ n2_ n3_ n4_ n5_ n6_ n7_ n8_ n9_ n10_ n11_ n12_ n13_ n14_ n15_ n16_ n17_ n18_ n19_; clear hb hbox hg; obtain ⟨Ao18, co18, eo18⟩ := Kd.R_slice HO4554.out; subst eo18; have hnb19 := NB4558_4549.out; have hnc19 := NB4549_4558.out; have hnb20 := NB4558_4550.out; have hnc20 := NB4550_4558.out; have hnb21 := NB4558_4551.out; have hnc21 := NB4551_4558.out; have hnb22 := NB4558_4559.out; have hnc22 := NB4559_4558.out; have hcz23_0 : w17.cell? ⟨gb4558, 0, none⟩ = some (.slice none 0 0) := (blk_cell BK4558.out 0).trans rfl; have hfz23_0 := blk_frozen BK4558.out 0; obtain ⟨Ao24, co24, eo24⟩ := Kd.R_slice HO4557.out; subst eo24; have hnb25 := NB4559_4549.out; have hnc25 := NB4549_4559.out; have hnb26 := NB4559_4550.out; have hnc26 := NB4550_4559.out; have hnb27 := NB4559_4551.out; have hnc27 := NB4551_4559.out; have hcz28_0 : w17.cell? ⟨gb4559, 0, none⟩ = some (.slice none 0 0) := (blk_cell BK4559.out 0).trans rfl; have hfz28_0 := blk_frozen BK4559.out 0; have hcz29_0 : w17.cell? ⟨gb4550, 0, none⟩ = some (.slice Ao11 x4551000_1.length co11) := (blk_cell BK4550.out 0).trans rfl; have hfz29_0 := blk_frozen BK4550.out 0; have hcz30_0 : w17.cell? ⟨gb4549, 0, none⟩ = some (.slice Ao14 x4550000_1.length co14) := (blk_cell BK4549.out 0).trans rfl; have hfz30_0 := blk_frozen BK4549.out 0))
        go_roundg k1
        case measure => have := HK1.out; omega
        case rel => exact ⟨(x4551000_1), (t4555), (.slice Ao11 x4551000_1.length co11), (.slice Ao24 t4555.length co24), H', ⟨by have := HK1.out; omega⟩, ⟨by (with_reducible repeat (first | apply Kd.V_alloc | apply Kd.V_drewN | apply Kd.V_drew)); exact Kd.V_mono (Kd.V_far (p := ⟨gb4550, 0, none⟩) (Kd.V_far (p := ⟨gb4549, 0, none⟩) (Kd.V_far (p := ⟨gb4559, 0, none⟩) (Kd.V_far (p := ⟨gb4558, 0, none⟩) (Kd.V_mono (Kd.V_mono (Kd.V_mono (Kd.V_mono HO_4551000.out (fun k_ hk => (⟨hk, hk.1.2⟩ : _ ∧ k_ ≠ gb4558))) (fun k_ hk => (⟨hk, hk.1.2⟩ : _ ∧ k_ ≠ gb4559))) (fun k_ hk => (⟨hk, hk.1.1.1.1.1.1.2.1⟩ : _ ∧ k_ ≠ gb4549))) (fun k_ hk => (⟨hk, hk.1.1.1.1.1.1.1.2.2.1⟩ : _ ∧ k_ ≠ gb4550))) (fun _ hk => hk.1.1.1.2) (.slice Ao18 t4552.length co18)) (fun _ hk => hk.1.1.2) (.slice Ao24 t4555.length co24)) (fun _ hk => hk.1.2) (.slice Ao11 x4551000_1.length co11)) (fun _ hk => hk.2) (.slice Ao24 t4555.length co24)) (fun _ hk => (And.intro (hk.1.1.1.1.1.1.1.1.1) ((And.intro (hk.1.1.1.1.1.1.1.1.2.1) ((And.intro (hk.1.1.1.1.1.1.1.1.2.2.1) (hk.1.1.1.1.1.1.1.1.2.2.2)))))))⟩, ⟨Kd.V_mono (Kd.R_V (by (with_reducible repeat (first | apply Kd.R_alloc | apply Kd.R_drewN | apply Kd.R_drew)); exact Kd.R_mono (Kd.R_far (p := ⟨gb4550, 0, none⟩) (Kd.R_far (p := ⟨gb4549, 0, none⟩) (Kd.R_far (p := ⟨gb4559, 0, none⟩) (Kd.R_far (p := ⟨gb4558, 0, none⟩) (Kd.R_types (Kd.R_types (Kd.R_types (Kd.R_types (Kd.R_types (Kd.R_types (Kd.R_types HO4557.out BK4549.out (by decide)) BK4550.out (by decide)) BK4551.out (by decide)) BK4558.out (by decide)) BK4559.out (by decide)) BK4549.out (by decide)) BK4550.out (by decide)) (fun _ hk => hk.1.1.1.2) (.slice Ao18 t4552.length co18)) (fun _ hk => hk.1.1.2) (.slice Ao24 t4555.length co24)) (fun _ hk => hk.1.2) (.slice Ao11 x4551000_1.length co11)) (fun _ hk => hk.2) (.slice Ao24 t4555.length co24)) (fun _ hk => (And.intro (hk.1.1.1.1.1.1.1.1) ((And.intro (hk.1.1.1.1.1.1.2) ((And.intro (hk.1.1.1.1.1.2) (hk.1.1.1.1.2))))))))) (fun k_ hk => by first | exact ⟨(.inr (hk.1)), hk.2⟩ | exact (.inr (hk)))⟩, ⟨by refine blk_far ?_ NB4549_4550.out _; refine blk_put (cs := #[.slice Ao14 x4550000_1.length co14]) ?_ 0 _ rfl; refine blk_far ?_ NB4549_4559.out _; refine blk_far ?_ NB4549_4558.out _; exact BK4549.out⟩, ⟨by refine blk_put (cs := #[.slice Ao11 x4551000_1.length co11]) ?_ 0 _ rfl; refine blk_far ?_ NB4550_4549.out _; refine blk_far ?_ NB4550_4559.out _; refine blk_far ?_ NB4550_4558.out _; exact BK4550.out⟩, ⟨by refine blk_far ?_ NB4551_4550.out _; refine blk_far ?_ NB4551_4549.out _; refine blk_far ?_ NB4551_4559.out _; refine blk_far ?_ NB4551_4558.out _; exact BK4551.out⟩, ⟨by repeat (first | (with_reducible first | exact HB.out | apply below_alloc | apply pw_below_drewN | apply below_drew1 | refine below_set ?_ GE4549.out | refine below_set ?_ GE4550.out | refine below_set ?_ GE4551.out | refine below_set ?_ GE4558.out | refine below_set ?_ GE4559.out) | exact HB.out)⟩⟩
      · rw [if_neg c6] at H
        have c6b0 : decide (0 < (x4551000_1.length : Int)) = false := decide_eq_false c6
        have c6b1 : decide (0 < x4551000_1.length) = false := decide_eq_false (by omega)
        clear c6
        obtain rfl := Option.some.inj H
        have hnb31 := NB4550_4549.out
        have hnc31 := NB4549_4550.out
        have hnb32 := NB4550_4551.out
        have hnc32 := NB4551_4550.out
        have hcz33_0 : wr.cell? ⟨gb4550, 0, none⟩ = some (u4551000) := (blk_cell BK4550.out 0).trans rfl
        have hfz33_0 := blk_frozen BK4550.out 0
        obtain ⟨Ao34, co34, eo34⟩ := Kd.V_slice HO_4551000.out
        subst eo34
        have hnb35 := NB4549_4551.out
        have hnc35 := NB4551_4549.out
        have hcz36_0 : wr.cell? ⟨gb4549, 0, none⟩ = some (u4550000) := (blk_cell BK4549.out 0).trans rfl
        have hfz36_0 := blk_frozen BK4549.out 0
        obtain ⟨Ao37, co37, eo37⟩ := Kd.V_slice HO_4550000.out
        subst eo37
        have hcz38_0 : wr.cell? ⟨gb4551, 0, none⟩ = some (.slice none 0 0) := (blk_cell BK4551.out 0).trans rfl
        have hfz38_0 := blk_frozen BK4551.out 0
        go_wp2
        refine bodyPost_ret (results_cell_row rfl _ _ gb4551 28 #[.slice Ao37 x4550000_1.length co37] (0, 0) _ rfl (by refine blk_put (cs := #[.slice none 0 0]) ?_ 0 _ rfl; exact BK4551.out) Try.underlying28 rfl (by kernel_rfl)) rfl ?_
        exact ⟨_, by rfl, by (with_reducible repeat (first | apply Kd.V_alloc | apply Kd.V_drewN | apply Kd.V_drew)); exact Kd.V_mono (Kd.V_far (p := ⟨gb4551, 0, none⟩) (Kd.V_mono HO_4550000.out (fun k_ hk => (⟨hk, hk.2.2.2⟩ : _ ∧ k_ ≠ gb4551))) (fun _ hk => hk.2) (.slice Ao37 x4550000_1.length co37)) (fun _ hk => hk.1.1), by repeat (first | (with_reducible first | exact HB.out | apply below_alloc | apply pw_below_drewN | apply below_drew1 | refine below_set ?_ GE4549.out | refine below_set ?_ GE4550.out | refine below_set ?_ GE4551.out) | exact HB.out)⟩

def demurrageref02_value.l0 : Nat → Int → Int → List Int → Option (Int)
  | 0, _, _, _ => none
  | k + 1, x3, x4, x4561000 => if x4 ≥ 0 then (if 0 ≤ x4 then (if x4 < (x4561000.length : Int) then (demurrageref02_value.l0 k (wrap64 ((wrap64 (10000 * x3)) + (rd x4561000 x4))) (wrap64 (x4 - 1)) x4561000) else (none)) else (none)) else (some x3)
def demurrageref02_value.f (k : Nat) (l0_0 : List Int) : Option (Int) := demurrageref02_value.l0 k 0 (wrap64 ((l0_0.length : Int) - 1)) l0_0
set_option maxHeartbeats 8000000 in
set_option maxRecDepth 100000 in
theorem demurrageref02_value.calls (k : Nat) (A0_0 : Option Addr) (c0_0 : Nat) (l0_0 : List Int) (r : Int) (w : World) (hr0_0 : Kd.C (Kd.int .i64) w A0_0 l0_0.length l0_0) (hc0_0 : l0_0.length ≤ c0_0) (h : demurrageref02_value.f k l0_0 = some r) :
    Calls Try.prog 83 #[.agg #[.slice A0_0 l0_0.length c0_0]] w fun e w' => e = .returned (.int .i64 r) ∧ Below w.heap.size w w' := by
  have hu28 := Try.underlying28
  have HR0_0 := Aside0.mk hr0_0
  have HC0_0 := Aside0.mk hc0_0
  clear hr0_0 hc0_0
  have HB := Aside0.mk (Below.refl w.heap.size w)
  have H : (demurrageref02_value.l0 k 0 (wrap64 ((l0_0.length : Int) - 1)) l0_0) = some r := h
  clear h
  have H' := Aside0.mk H
  clear H
  go_enter Try.func83, Try.ntmps83
  go_wp2_with (first | ((with_reducible refine gate_dst (N := 1) rfl ?_); refine box_event ?hg (N := 1) ?hd (cs := #[.slice A0_0 l0_0.length c0_0]) (t := 28) ?hr ?_; (case hd => rfl); (case hg => rfl); (case hr => go_simp); intro gb4560 hg w2 hbox hb; have n0_ := Aside0.mk (below_step (by repeat (first | (with_reducible first | exact HB.out | apply below_alloc | apply pw_below_drewN | apply below_drew1) | exact HB.out)) hb); have n1_ := Aside0.mk (hbox); have n2_ := Aside0.mk ((by rw [hg]; exact (below_size (by repeat (first | (with_reducible first | exact HB.out | apply below_alloc | apply pw_below_drewN | apply below_drew1) | exact HB.out))) : w.heap.size ≤ gb4560)); have n3_ := Aside0.mk ((by rw [hg]; exact (below_size (by repeat (first | (with_reducible first | exact HB.out | apply below_alloc | apply pw_below_drewN | apply below_drew1) | exact HB.out))) : w.heap.size ≤ gb4560)); clear HB; have HB := n0_; have BK4560 := n1_; have GW4560 := n2_; have GE4560 := n3_; clear n0_ n1_ n2_ n3_; clear hb hbox hg; have hcz3_0 : w2.cell? ⟨gb4560, 0, none⟩ = some (.slice A0_0 l0_0.length c0_0) := (blk_cell BK4560.out 0).trans rfl; have hfz3_0 := blk_frozen BK4560.out 0))
  (try simp only [Act.put, List.setIfInBounds_toArray, List.set_cons_zero, List.set_cons_succ])
  go_loopg [3, 4] k (fun kq v3 v4 w' => ∃ (x3_1 : Int) (x4_1 : Int), v3 = .int .i64 x3_1 ∧ v4 = .int .i64 x4_1 ∧ Aside0 (demurrageref02_value.l0 kq x3_1 x4_1 l0_0 = some r) ∧ Aside0 (kq ≤ k) ∧ Aside0 (w'.heap[gb4560]? = some (.cells #[(.slice A0_0 l0_0.length c0_0)] 28 (0, 0))) ∧ Aside0 (Below w.heap.size w w'))
  case atStart => exact ⟨(0), (wrap64 ((l0_0.length : Int) - 1)), (by first | rfl | (simp; done) | (simp [*]; done)), (by first | rfl | (simp; done) | (simp [*]; done)), H', ⟨Nat.le_refl _⟩, BK4560, ⟨by repeat (first | (with_reducible first | exact HB.out | apply below_alloc | apply pw_below_drewN | apply below_drew1 | refine below_set ?_ GE4560.out) | exact HB.out)⟩⟩
  case round =>
    clear H'
    try clear p2
    try clear hcz3_0
    try clear hfz3_0
    obtain ⟨x3_1, x4_1, rfl, rfl, HA, HK1, BK4560, HB⟩ := hrel
    cases gk with
    | zero => exact absurd HA.out (by simp [demurrageref02_value.l0])
    | succ k1 =>
      have H := HA.out
      clear HA
      simp only [demurrageref02_value.l0] at H
      by_cases c4 : x4_1 ≥ 0
      · rw [if_pos c4] at H
        have c4b0 : decide (0 ≤ x4_1) = true := decide_eq_true c4
        clear c4
        by_cases c5 : 0 ≤ x4_1
        · rw [if_pos c5] at H
          have c5b0 : decide (0 ≤ x4_1) = true := decide_eq_true c5
          clear c5
          by_cases c6 : x4_1 < (l0_0.length : Int)
          · rw [if_pos c6] at H
            have c6b0 : decide (x4_1 < (l0_0.length : Int)) = true := decide_eq_true c6
            clear c6
            have H' := Aside0.mk H
            clear H
            have hcz7_0 : wr.cell? ⟨gb4560, 0, none⟩ = some (.slice A0_0 l0_0.length c0_0) := (blk_cell BK4560.out 0).trans rfl
            have hfz7_0 := blk_frozen BK4560.out 0
            have p4561 : 0 ≤ (x4_1 : Int) := of_decide_eq_true (by first | (with_reducible assumption) | assumption)
            have q4561 : x4_1 < (l0_0.length : Int) := of_decide_eq_true (by first | (with_reducible assumption) | assumption)
            obtain ⟨ad4561, e4561, hx4561_0⟩ := Kd.at_int HR0_0.out x4_1 p4561 q4561
            cases e4561
            replace hx4561_0 := (HB.out.cell (World.block_lt_of_cell? w _ hx4561_0)).trans hx4561_0
            replace p4561 := eq_true p4561
            replace q4561 := eq_true q4561
            go_wp2
            go_roundg k1
            case measure => have := HK1.out; omega
            case rel => exact ⟨(wrap64 ((wrap64 (10000 * x3_1)) + (rd l0_0 x4_1))), (wrap64 (x4_1 - 1)), (by first | rfl | (simp; done) | (simp [*]; done)), (by first | rfl | (simp; done) | (simp [*]; done)), H', ⟨by have := HK1.out; omega⟩, BK4560, ⟨by repeat (first | (with_reducible first | exact HB.out | apply below_alloc | apply pw_below_drewN | apply below_drew1 | refine below_set ?_ GE4560.out) | exact HB.out)⟩⟩
          · rw [if_neg c6] at H
            exact absurd H (by simp)
        · rw [if_neg c5] at H
          exact absurd H (by simp)
      · rw [if_neg c4] at H
        have c4b0 : decide (0 ≤ x4_1) = false := decide_eq_false c4
        clear c4
        obtain rfl := Option.some.inj H
        go_wp2
        go_ret
        exact ⟨by rfl, by repeat (first | (with_reducible first | exact HB.out | apply below_alloc | apply pw_below_drewN | apply below_drew1 | refine below_set ?_ GE4560.out) | exact HB.out)⟩

def demurrageref02_Made.j0 : Nat → Bool → List Int → List Int → Option (Int × Int × Int)
  | 0, _, _, _ => none
  | k + 1, x37, x4576000, x4584000 => if x37 = true then (some (0, 0, 6)) else ((demurrageref02_value.f k x4576000).bind fun t4591 => ((demurrageref02_value.f k x4584000).bind fun t4592 => (some (t4591, t4592, 0))))
def demurrageref02_Made.f (k : Nat) (l0_0 : List Int) (l1_0 : List Int) : Option (Int × Int × Int) := (demurrageref02_Gcd.f k l0_0 l1_0).bind fun t4565 => ((demurrageref01_Quot.f k l0_0 t4565).bind fun bt4569 => ((demurrageref01_Quot.f k l1_0 t4565).bind fun bt4577 => ((demurrageref01_FromU.f k 4611686018427387904).bind fun t4585 => ((demurrageref01_Cmp.f k bt4569.1 t4585).bind fun t4589 => (if t4589 > 0 then (demurrageref02_Made.j0 k true bt4569.1 bt4577.1) else ((demurrageref01_Cmp.f k bt4577.1 t4585).bind fun t4590 => (demurrageref02_Made.j0 k (decide (t4590 > 0)) bt4569.1 bt4577.1)))))))
set_option maxHeartbeats 8000000 in
set_option maxRecDepth 100000 in
theorem demurrageref02_Made.calls (k : Nat) (A0_0 : Option Addr) (c0_0 : Nat) (l0_0 : List Int) (A1_0 : Option Addr) (c1_0 : Nat) (l1_0 : List Int) (r1 : Int) (r2 : Int) (r3 : Int) (w : World) (hr0_0 : Kd.C (Kd.int .i64) w A0_0 l0_0.length l0_0) (hc0_0 : l0_0.length ≤ c0_0) (hr1_0 : Kd.C (Kd.int .i64) w A1_0 l1_0.length l1_0) (hc1_0 : l1_0.length ≤ c1_0) (h : demurrageref02_Made.f k l0_0 l1_0 = some (r1, r2, r3)) :
    Calls Try.prog 73 #[.agg #[.slice A0_0 l0_0.length c0_0], .agg #[.slice A1_0 l1_0.length c1_0]] w fun e w' => e = .returned (.tuple #[.agg #[.int .i64 r1, .int .i64 r2], .int .i64 r3]) ∧ Below w.heap.size w w' := by
  have hu28 := Try.underlying28
  have hu57 := Try.underlying57
  have HR0_0 := Aside0.mk hr0_0
  have HC0_0 := Aside0.mk hc0_0
  clear hr0_0 hc0_0
  have HR1_0 := Aside0.mk hr1_0
  have HC1_0 := Aside0.mk hc1_0
  clear hr1_0 hc1_0
  have HB := Aside0.mk (Below.refl w.heap.size w)
  have H : ((demurrageref02_Gcd.f k l0_0 l1_0).bind fun t4565 => ((demurrageref01_Quot.f k l0_0 t4565).bind fun bt4569 => ((demurrageref01_Quot.f k l1_0 t4565).bind fun bt4577 => ((demurrageref01_FromU.f k 4611686018427387904).bind fun t4585 => ((demurrageref01_Cmp.f k bt4569.1 t4585).bind fun t4589 => (if t4589 > 0 then (demurrageref02_Made.j0 k true bt4569.1 bt4577.1) else ((demurrageref01_Cmp.f k bt4577.1 t4585).bind fun t4590 => (demurrageref02_Made.j0 k (decide (t4590 > 0)) bt4569.1 bt4577.1)))))))) = some (r1, r2, r3) := h
  clear h
  replace H := Option.bind_eq_some_iff.mp H
  obtain ⟨t4565, A30, H⟩ := H
  replace H : ((demurrageref01_Quot.f k l0_0 t4565).bind fun bt4569 => ((demurrageref01_Quot.f k l1_0 t4565).bind fun bt4577 => ((demurrageref01_FromU.f k 4611686018427387904).bind fun t4585 => ((demurrageref01_Cmp.f k bt4569.1 t4585).bind fun t4589 => (if t4589 > 0 then (demurrageref02_Made.j0 k true bt4569.1 bt4577.1) else ((demurrageref01_Cmp.f k bt4577.1 t4585).bind fun t4590 => (demurrageref02_Made.j0 k (decide (t4590 > 0)) bt4569.1 bt4577.1))))))) = some (r1, r2, r3) := H
  have A3 := Aside0.mk A30
  clear A30
  replace H := Option.bind_eq_some_iff.mp H
  obtain ⟨⟨t4569, t4572⟩, A40, H⟩ := H
  replace H : ((demurrageref01_Quot.f k l1_0 t4565).bind fun bt4577 => ((demurrageref01_FromU.f k 4611686018427387904).bind fun t4585 => ((demurrageref01_Cmp.f k t4569 t4585).bind fun t4589 => (if t4589 > 0 then (demurrageref02_Made.j0 k true t4569 bt4577.1) else ((demurrageref01_Cmp.f k bt4577.1 t4585).bind fun t4590 => (demurrageref02_Made.j0 k (decide (t4590 > 0)) t4569 bt4577.1)))))) = some (r1, r2, r3) := H
  have A4 := Aside0.mk A40
  clear A40
  replace H := Option.bind_eq_some_iff.mp H
  obtain ⟨⟨t4577, t4580⟩, A50, H⟩ := H
  replace H : ((demurrageref01_FromU.f k 4611686018427387904).bind fun t4585 => ((demurrageref01_Cmp.f k t4569 t4585).bind fun t4589 => (if t4589 > 0 then (demurrageref02_Made.j0 k true t4569 t4577) else ((demurrageref01_Cmp.f k t4577 t4585).bind fun t4590 => (demurrageref02_Made.j0 k (decide (t4590 > 0)) t4569 t4577))))) = some (r1, r2, r3) := H
  have A5 := Aside0.mk A50
  clear A50
  replace H := Option.bind_eq_some_iff.mp H
  obtain ⟨t4585, A60, H⟩ := H
  replace H : ((demurrageref01_Cmp.f k t4569 t4585).bind fun t4589 => (if t4589 > 0 then (demurrageref02_Made.j0 k true t4569 t4577) else ((demurrageref01_Cmp.f k t4577 t4585).bind fun t4590 => (demurrageref02_Made.j0 k (decide (t4590 > 0)) t4569 t4577)))) = some (r1, r2, r3) := H
  have A6 := Aside0.mk A60
  clear A60
  have HC7 := Aside0.mk H
  clear H
  go_enter Try.func73, Try.ntmps73
  go_upto_region 5 with (first | ((with_reducible refine gate_dst (N := 2) rfl ?_); refine box_event ?hg (N := 2) ?hd (cs := #[.slice A0_0 l0_0.length c0_0]) (t := 28) ?hr ?_; (case hd => rfl); (case hg => rfl); (case hr => go_simp); intro gb4562 hg w8 hbox hb; have n0_ := Aside0.mk (below_step (by repeat (first | (with_reducible first | exact HB.out | apply below_alloc | apply pw_below_drewN | apply below_drew1) | exact HB.out)) hb); have n1_ := Aside0.mk (hbox); have n2_ := Aside0.mk ((by rw [hg]; exact (below_size (by repeat (first | (with_reducible first | exact HB.out | apply below_alloc | apply pw_below_drewN | apply below_drew1) | exact HB.out))) : w.heap.size ≤ gb4562)); have n3_ := Aside0.mk ((by rw [hg]; exact (below_size (by repeat (first | (with_reducible first | exact HB.out | apply below_alloc | apply pw_below_drewN | apply below_drew1) | exact HB.out))) : w.heap.size ≤ gb4562)); clear HB; have HB := n0_; have BK4562 := n1_; have GW4562 := n2_; have GE4562 := n3_; clear n0_ n1_ n2_ n3_; clear hb hbox hg) | ((with_reducible refine gate_dst (N := 3) rfl ?_); refine box_event ?hg (N := 3) ?hd (cs := #[.slice A1_0 l1_0.length c1_0]) (t := 28) ?hr ?_; (case hd => rfl); (case hg => rfl); (case hr => go_simp); intro gb4563 hg w9 hbox hb; have n0_ := Aside0.mk (blk_below BK4562.out hb); have n1_ := Aside0.mk (below_step (by repeat (first | (with_reducible first | exact HB.out | apply below_alloc | apply pw_below_drewN | apply below_drew1 | refine below_set ?_ GE4562.out) | exact HB.out)) hb); have n2_ := Aside0.mk (hbox); have n3_ := Aside0.mk ((by rw [hg]; exact (below_size (by repeat (first | (with_reducible first | exact HB.out | apply below_alloc | apply pw_below_drewN | apply below_drew1 | refine below_set ?_ GE4562.out) | exact HB.out))) : w.heap.size ≤ gb4563)); have n4_ := Aside0.mk ((by rw [hg]; exact (below_size (by repeat (first | (with_reducible first | exact HB.out | apply below_alloc | apply pw_below_drewN | apply below_drew1 | refine below_set ?_ GE4562.out) | exact HB.out))) : w.heap.size ≤ gb4563)); have n5_ := Aside0.mk ((by rw [hg]; exact Nat.ne_of_lt (blk_lt (g := gb4562) (o := .cells #[.slice A0_0 l0_0.length c0_0] 28 (0, 0)) BK4562.out) : gb4562 ≠ gb4563)); have n6_ := Aside0.mk ((by rw [hg]; exact Nat.ne_of_gt (blk_lt (g := gb4562) (o := .cells #[.slice A0_0 l0_0.length c0_0] 28 (0, 0)) BK4562.out) : gb4563 ≠ gb4562)); clear BK4562 HB; have BK4562 := n0_; have HB := n1_; have BK4563 := n2_; have GW4563 := n3_; have GE4563 := n4_; have NB4562_4563 := n5_; have NB4563_4562 := n6_; clear n0_ n1_ n2_ n3_ n4_ n5_ n6_; clear hb hbox hg) | ((with_reducible refine gate_dst (N := 4) rfl ?_); refine box_event ?hg (N := 4) ?hd (cs := #[.int .i64 0, .int .i64 0]) (t := 57) ?hr ?_; (case hd => rfl); (case hg => rfl); (case hr => go_simp); intro gb4564 hg w10 hbox hb; have n0_ := Aside0.mk (blk_below BK4562.out hb); have n1_ := Aside0.mk (blk_below BK4563.out hb); have n2_ := Aside0.mk (below_step (by repeat (first | (with_reducible first | exact HB.out | apply below_alloc | apply pw_below_drewN | apply below_drew1 | refine below_set ?_ GE4562.out | refine below_set ?_ GE4563.out) | exact HB.out)) hb); have n3_ := Aside0.mk (hbox); have n4_ := Aside0.mk ((by rw [hg]; exact (below_size (by repeat (first | (with_reducible first | exact HB.out | apply below_alloc | apply pw_below_drewN | apply below_drew1 | refine below_set ?_ GE4562.out | refine below_set ?_ GE4563.out) | exact HB.out))) : w.heap.size ≤ gb4564)); have n5_ := Aside0.mk ((by rw [hg]; exact (below_size (by repeat (first | (with_reducible first | exact HB.out | apply below_alloc | apply pw_below_drewN | apply below_drew1 | refine below_set ?_ GE4562.out | refine below_set ?_ GE4563.out) | exact HB.out))) : w.heap.size ≤ gb4564)); have n6_ := Aside0.mk ((by rw [hg]; exact Nat.ne_of_lt (blk_lt (g := gb4562) (o := .cells #[.slice A0_0 l0_0.length c0_0] 28 (0, 0)) BK4562.out) : gb4562 ≠ gb4564)); have n7_ := Aside0.mk ((by rw [hg]; exact Nat.ne_of_gt (blk_lt (g := gb4562) (o := .cells #[.slice A0_0 l0_0.length c0_0] 28 (0, 0)) BK4562.out) : gb4564 ≠ gb4562)); have n8_ := Aside0.mk ((by rw [hg]; exact Nat.ne_of_lt (blk_lt (g := gb4563) (o := .cells #[.slice A1_0 l1_0.length c1_0] 28 (0, 0)) BK4563.out) : gb4563 ≠ gb4564)); have n9_ := Aside0.mk ((by rw [hg]; exact Nat.ne_of_gt (blk_lt (g := gb4563) (o := .cells #[.slice A1_0 l1_0.length c1_0] 28 (0, 0)) BK4563.out) : gb4564 ≠ gb4563)); clear BK4562 BK4563; clear HB; have BK4562 := n0_; have BK4563 := n1_; have HB := n2_; have BK4564 := n3_; have GW4564 := n4_; have GE4564 := n5_; have NB4562_4564 := n6_; have NB4564_4562 := n7_; have NB4563_4564 := n8_; have NB4564_4563 := n9_; clear n0_ n1_ n2_ n3_ n4_ n5_ n6_ n7_ n8_ n9_; clear hb hbox hg; have hnb11 := NB4562_4563.out; have hnc11 := NB4563_4562.out; have hnb12 := NB4562_4564.out; have hnc12 := NB4564_4562.out; have hcz13_0 : w10.cell? ⟨gb4562, 0, none⟩ = some (.slice A0_0 l0_0.length c0_0) := (blk_cell BK4562.out 0).trans rfl; have hfz13_0 := blk_frozen BK4562.out 0; have hnb14 := NB4563_4564.out; have hnc14 := NB4564_4563.out; have hcz15_0 : w10.cell? ⟨gb4563, 0, none⟩ = some (.slice A1_0 l1_0.length c1_0) := (blk_cell BK4563.out 0).trans rfl; have hfz15_0 := blk_frozen BK4563.out 0) | ((with_reducible refine gate_callee (f := 42) rfl ?_); refine goesL_ (some 14) rfl rfl Try.func42 (by kernel_rfl) rfl #[.agg #[.slice A0_0 l0_0.length c0_0], .agg #[.slice A1_0 l1_0.length c1_0]] rfl (by (try simp only [List.map_toArray, List.map_cons, List.map_nil]); first | done | rfl) ?_; (with_reducible refine (demurrageref02_Gcd.calls k (fun k_ => k_ < w.heap.size) _ _ l0_0 (fun k_ => k_ < w.heap.size) _ _ l1_0 t4565 _ ?side1 ?side2 A3.out).mono ?_); (case side1 => exact Kd.V_mk HC0_0.out (Kd.F_below (Kd.C_F (Kd.heap_int .i64) HR0_0.out) (by repeat (first | (with_reducible first | exact HB.out | apply below_alloc | apply pw_below_drewN | apply below_drew1 | refine below_set ?_ GE4562.out | refine below_set ?_ GE4563.out | refine below_set ?_ GE4564.out) | exact HB.out)))); (case side2 => exact Kd.V_mk HC1_0.out (Kd.F_below (Kd.C_F (Kd.heap_int .i64) HR1_0.out) (by repeat (first | (with_reducible first | exact HB.out | apply below_alloc | apply pw_below_drewN | apply below_drew1 | refine below_set ?_ GE4562.out | refine below_set ?_ GE4563.out | refine below_set ?_ GE4564.out) | exact HB.out)))); rintro e w16 ⟨v4566, rfl, ho0, hb⟩; refine ⟨_, rfl, ?_⟩; have n0_ := Aside0.mk (Kd.V_lower (Kd.V_mono (ok' := fun k_ => k_ ≠ gb4562 ∧ k_ ≠ gb4563 ∧ k_ ≠ gb4564) ho0 (fun k_ hk_ => ⟨Or.elim hk_ (fun hs_ => Or.elim hs_ (fun hs_ => fun e_ => Nat.not_le.2 hs_ (by rw [e_]; exact GW4562.out)) (fun hs_ => fun e_ => Nat.not_le.2 hs_ (by rw [e_]; exact GW4562.out))) (fun hn_ => (Kd.freshB BK4562.out k_ hn_)), Or.elim hk_ (fun hs_ => Or.elim hs_ (fun hs_ => fun e_ => Nat.not_le.2 hs_ (by rw [e_]; exact GW4563.out)) (fun hs_ => fun e_ => Nat.not_le.2 hs_ (by rw [e_]; exact GW4563.out))) (fun hn_ => (Kd.freshB BK4563.out k_ hn_)), Or.elim hk_ (fun hs_ => Or.elim hs_ (fun hs_ => fun e_ => Nat.not_le.2 hs_ (by rw [e_]; exact GW4564.out)) (fun hs_ => fun e_ => Nat.not_le.2 hs_ (by rw [e_]; exact GW4564.out))) (fun hn_ => (Kd.freshB BK4564.out k_ hn_))⟩)) (below_size (by repeat (first | (with_reducible first | exact HB.out | apply below_alloc | apply pw_below_drewN | apply below_drew1 | refine below_set ?_ GE4562.out | refine below_set ?_ GE4563.out | refine below_set ?_ GE4564.out) | exact HB.out)))); have n1_ := Aside0.mk (blk_below BK4562.out hb); have n2_ := Aside0.mk (blk_below BK4563.out hb); have n3_ := Aside0.mk (blk_below BK4564.out hb); have n4_ := Aside0.mk (below_step (by repeat (first | (with_reducible first | exact HB.out | apply below_alloc | apply pw_below_drewN | apply below_drew1 | refine below_set ?_ GE4562.out | refine below_set ?_ GE4563.out | refine below_set ?_ GE4564.out) | exact HB.out)) hb); clear BK4562 BK4563 BK4564 HB; have HO4567 := n0_; have BK4562 := n1_; have BK4563 := n2_; have BK4564 := n3_; have HB := n4_; clear n0_ n1_ n2_ n3_ n4_; (try clear hb); (try clear ho0)) | ((with_reducible refine gate_dst (N := 6) rfl ?_); refine box_event ?hg (N := 6) ?hd (cs := #[.slice none 0 0]) (t := 28) ?hr ?_; (case hd => rfl); (case hg => rfl); (case hr => go_simp); intro gb4568 hg w17 hbox hb; have n0_ := Aside0.mk (Kd.V_below (Kd.V_elderB HO4567.out gb4568 (Nat.le_of_eq hg.symm)) hb); have n1_ := Aside0.mk (blk_below BK4562.out hb); have n2_ := Aside0.mk (blk_below BK4563.out hb); have n3_ := Aside0.mk (blk_below BK4564.out hb); have n4_ := Aside0.mk (below_step (by repeat (first | (with_reducible first | exact HB.out | apply below_alloc | apply pw_below_drewN | apply below_drew1 | refine below_set ?_ GE4562.out | refine below_set ?_ GE4563.out | refine below_set ?_ GE4564.out) | exact HB.out)) hb); have n5_ := Aside0.mk (hbox); have n6_ := Aside0.mk ((by rw [hg]; exact (below_size (by repeat (first | (with_reducible first | exact HB.out | apply below_alloc | apply pw_below_drewN | apply below_drew1 | refine below_set ?_ GE4562.out | refine below_set ?_ GE4563.out | refine below_set ?_ GE4564.out) | exact HB.out))) : w.heap.size ≤ gb4568)); have n7_ := Aside0.mk ((by rw [hg]; exact (below_size (by repeat (first | (with_reducible first | exact HB.out | apply below_alloc | apply pw_below_drewN | apply below_drew1 | refine below_set ?_ GE4562.out | refine below_set ?_ GE4563.out | refine below_set ?_ GE4564.out) | exact HB.out))) : w.heap.size ≤ gb4568)); have n8_ := Aside0.mk ((by rw [hg]; exact Nat.ne_of_lt (blk_lt (g := gb4562) (o := .cells #[.slice A0_0 l0_0.length c0_0] 28 (0, 0)) BK4562.out) : gb4562 ≠ gb4568)); have n9_ := Aside0.mk ((by rw [hg]; exact Nat.ne_of_gt (blk_lt (g := gb4562) (o := .cells #[.slice A0_0 l0_0.length c0_0] 28 (0, 0)) BK4562.out) : gb4568 ≠ gb4562)); have n10_ := Aside0.mk ((by rw [hg]; exact Nat.ne_of_lt (blk_lt (g := gb4563) (o := .cells #[.slice A1_0 l1_0.length c1_0] 28 (0, 0)) BK4563.out) : gb4563 ≠ gb4568)); have n11_ := Aside0.mk ((by rw [hg]; exact Nat.ne_of_gt (blk_lt (g := gb4563) (o := .cells #[.slice A1_0 l1_0.length c1_0] 28 (0, 0)) BK4563.out) : gb4568 ≠ gb4563)); have n12_ := Aside0.mk ((by rw [hg]; exact Nat.ne_of_lt (blk_lt (g := gb4564) (o := .cells #[.int .i64 0, .int .i64 0] 57 (0, 0)) BK4564.out) : gb4564 ≠ gb4568)); have n13_ := Aside0.mk ((by rw [hg]; exact Nat.ne_of_gt (blk_lt (g := gb4564) (o := .cells #[.int .i64 0, .int .i64 0] 57 (0, 0)) BK4564.out) : gb4568 ≠ gb4564)); clear HO4567 BK4562 BK4563 BK4564; clear HB; have HO4567 := n0_; have BK4562 := n1_; have BK4563 := n2_; have BK4564 := n3_; have HB := n4_; have BK4568 := n5_; have GW4568 := n6_; have GE4568 := n7_; have NB4562_4568 := n8_; have NB4568_4562 := n9_; have NB4563_4568 := n10_; have NB4568_4563 := n11_; have NB4564_4568 := n12_; have NB4568_4564 := n13_; clear n0_ n1_ n2_ n3_ n4_ n5_ n6_ n7_ n8_ n9_ n10_ n11_ n12_ n13_; clear hb hbox hg; obtain ⟨Ao18, co18, eo18⟩ := Kd.V_slice HO4567.out; subst eo18; have hnb19 := NB4568_4562.out; have hnc19 := NB4562_4568.out; have hnb20 := NB4568_4563.out; have hnc20 := NB4563_4568.out; have hnb21 := NB4568_4564.out; have hnc21 := NB4564_4568.out; have hcz22_0 : w17.cell? ⟨gb4568, 0, none⟩ = some (.slice none 0 0) := (blk_cell BK4568.out 0).trans rfl; have hfz22_0 := blk_frozen BK4568.out 0; have hcz23_0 : w17.cell? ⟨gb4562, 0, none⟩ = some (.slice A0_0 l0_0.length c0_0) := (blk_cell BK4562.out 0).trans rfl; have hfz23_0 := blk_frozen BK4562.out 0) | ((with_reducible refine gate_callee (f := 38) rfl ?_); refine goesL_ (some 18) rfl rfl Try.func38 (by kernel_rfl) rfl #[.agg #[.slice A0_0 l0_0.length c0_0], .agg #[.slice Ao18 t4565.length co18]] rfl (by (try simp only [List.map_toArray, List.map_cons, List.map_nil]); first | done | rfl) ?_; (with_reducible refine (demurrageref01_Quot.calls k _ _ l0_0 _ _ t4565 t4569 t4572 _ ?side1 ?side2 ?side3 ?side4 A4.out).mono ?_); (case side1 => exact Kd.C_below HR0_0.out (by repeat (first | (with_reducible first | exact HB.out | apply below_alloc | apply pw_below_drewN | apply below_drew1 | refine below_set ?_ GE4562.out | refine below_set ?_ GE4563.out | refine below_set ?_ GE4564.out | refine below_set ?_ GE4568.out) | exact HB.out))); (case side2 => exact HC0_0.out); (case side3 => refine (Kd.V_reads' (e := 3) (base := w.heap.size) (ok := fun k_ => ((k_ ≠ gb4562 ∧ (k_ ≠ gb4563 ∧ k_ ≠ gb4564)) ∧ k_ ≠ gb4568)) (n := t4565.length) (c := co18) ?_).2.2; exact (by (with_reducible repeat (first | apply Kd.V_alloc | apply Kd.V_drewN | apply Kd.V_drew)); exact (Kd.V_mono (Kd.V_far (p := ⟨gb4568, 0, none⟩) (Kd.V_mono HO4567.out (fun k_ hk => (⟨hk, hk.2⟩ : _ ∧ k_ ≠ gb4568))) (fun _ hk => hk.2) (.slice Ao18 t4565.length co18)) (fun _ h_ => h_.1)))); (case side4 => exact (Kd.V_reads' HO4567.out).2.1); rintro e w24 ⟨v4570, v4573, rfl, ho0, ho1, hb⟩; refine ⟨_, rfl, ?_⟩; have n0_ := Aside0.mk (Kd.V_mono (Kd.V_told (Kd.V_told (Kd.V_old (by (with_reducible repeat (first | apply Kd.V_alloc | apply Kd.V_drewN | apply Kd.V_drew)); exact (Kd.V_mono (Kd.V_far (p := ⟨gb4568, 0, none⟩) (Kd.V_mono HO4567.out (fun k_ hk => (⟨hk, hk.2⟩ : _ ∧ k_ ≠ gb4568))) (fun _ hk => hk.2) (.slice Ao18 t4565.length co18)) (fun _ h_ => h_.1))) hb) (Kd.R_base ho0)) (Kd.R_base ho1)) (fun _ h_ => h_.1)); have n1_ := Aside0.mk (Kd.R_lower ho0 (below_size (by repeat (first | (with_reducible first | exact HB.out | apply below_alloc | apply pw_below_drewN | apply below_drew1 | refine below_set ?_ GE4562.out | refine below_set ?_ GE4563.out | refine below_set ?_ GE4564.out | refine below_set ?_ GE4568.out) | exact HB.out)))); have n2_ := Aside0.mk (Kd.R_lower ho1 (below_size (by repeat (first | (with_reducible first | exact HB.out | apply below_alloc | apply pw_below_drewN | apply below_drew1 | refine below_set ?_ GE4562.out | refine below_set ?_ GE4563.out | refine below_set ?_ GE4564.out | refine below_set ?_ GE4568.out) | exact HB.out)))); have n3_ := Aside0.mk (blk_below (g := gb4562) (o := .cells #[.slice A0_0 l0_0.length c0_0] 28 (0, 0)) (by refine blk_far ?_ NB4562_4568.out _; exact BK4562.out) hb); have n4_ := Aside0.mk (blk_below (g := gb4563) (o := .cells #[.slice A1_0 l1_0.length c1_0] 28 (0, 0)) (by refine blk_far ?_ NB4563_4568.out _; exact BK4563.out) hb); have n5_ := Aside0.mk (blk_below (g := gb4564) (o := .cells #[.int .i64 0, .int .i64 0] 57 (0, 0)) (by refine blk_far ?_ NB4564_4568.out _; exact BK4564.out) hb); have n6_ := Aside0.mk (blk_below (g := gb4568) (o := .cells #[.slice Ao18 t4565.length co18] 28 (0, 0)) (by refine blk_put (cs := #[.slice none 0 0]) ?_ 0 _ rfl; exact BK4568.out) hb); have n7_ := Aside0.mk (below_step (by repeat (first | (with_reducible first | exact HB.out | apply below_alloc | apply pw_below_drewN | apply below_drew1 | refine below_set ?_ GE4562.out | refine below_set ?_ GE4563.out | refine below_set ?_ GE4564.out | refine below_set ?_ GE4568.out) | exact HB.out)) hb); clear HO4567 BK4562 BK4563 BK4564; clear BK4568 HB; have HO4567 := n0_; have HO4571 := n1_; have HO4574 := n2_; have BK4562 := n3_; have BK4563 := n4_; have BK4564 := n5_; have BK4568 := n6_; have HB := n7_; clear n0_ n1_ n2_ n3_ n4_ n5_ n6_ n7_; (try clear hb); (try clear ho0); (try clear ho1)) | ((with_reducible refine gate_dst (N := 7) rfl ?_); refine box_event ?hg (N := 7) ?hd (cs := #[.slice none 0 0]) (t := 28) ?hr ?_; (case hd => rfl); (case hg => rfl); (case hr => go_simp); intro gb4575 hg w25 hbox hb; have n0_ := Aside0.mk (Kd.V_below (Kd.V_elderB HO4567.out gb4575 (Nat.le_of_eq hg.symm)) hb); have n1_ := Aside0.mk (Kd.R_below HO4571.out hb); have n2_ := Aside0.mk (Kd.R_below HO4574.out hb); have n3_ := Aside0.mk (blk_below BK4562.out hb); have n4_ := Aside0.mk (blk_below BK4563.out hb); have n5_ := Aside0.mk (blk_below BK4564.out hb); have n6_ := Aside0.mk (blk_below BK4568.out hb); have n7_ := Aside0.mk (below_step (by repeat (first | (with_reducible first | exact HB.out | apply below_alloc | apply pw_below_drewN | apply below_drew1 | refine below_set ?_ GE4562.out | refine below_set ?_ GE4563.out | refine below_set ?_ GE4564.out | refine below_set ?_ GE4568.out) | exact HB.out)) hb); have n8_ := Aside0.mk (hbox); have n9_ := Aside0.mk ((by rw [hg]; exact (below_size (by repeat (first | (with_reducible first | exact HB.out | apply below_alloc | apply pw_below_drewN | apply below_drew1 | refine below_set ?_ GE4562.out | refine below_set ?_ GE4563.out | refine below_set ?_ GE4564.out | refine below_set ?_ GE4568.out) | exact HB.out))) : w.heap.size ≤ gb4575)); have n10_ := Aside0.mk ((by rw [hg]; exact (below_size (by repeat (first | (with_reducible first | exact HB.out | apply below_alloc | apply pw_below_drewN | apply below_drew1 | refine below_set ?_ GE4562.out | refine below_set ?_ GE4563.out | refine below_set ?_ GE4564.out | refine below_set ?_ GE4568.out) | exact HB.out))) : w.heap.size ≤ gb4575)); have n11_ := Aside0.mk ((by rw [hg]; exact Nat.ne_of_lt (blk_lt (g := gb4562) (o := .cells #[.slice A0_0 l0_0.length c0_0] 28 (0, 0)) BK4562.out) : gb4562 ≠ gb4575)); have n12_ := Aside0.mk ((by rw [hg]; exact Nat.ne_of_gt (blk_lt (g := gb4562) (o := .cells #[.slice A0_0 l0_0.length c0_0] 28 (0, 0)) BK4562.out) : gb4575 ≠ gb4562)); have n13_ := Aside0.mk ((by rw [hg]; exact Nat.ne_of_lt (blk_lt (g := gb4563) (o := .cells #[.slice A1_0 l1_0.length c1_0] 28 (0, 0)) BK4563.out) : gb4563 ≠ gb4575)); have n14_ := Aside0.mk ((by rw [hg]; exact Nat.ne_of_gt (blk_lt (g := gb4563) (o := .cells #[.slice A1_0 l1_0.length c1_0] 28 (0, 0)) BK4563.out) : gb4575 ≠ gb4563)); have n15_ := Aside0.mk ((by rw [hg]; exact Nat.ne_of_lt (blk_lt (g := gb4564) (o := .cells #[.int .i64 0, .int .i64 0] 57 (0, 0)) BK4564.out) : gb4564 ≠ gb4575)); have n16_ := Aside0.mk ((by rw [hg]; exact Nat.ne_of_gt (blk_lt (g := gb4564) (o := .cells #[.int .i64 0, .int .i64 0] 57 (0, 0)) BK4564.out) : gb4575 ≠ gb4564)); have n17_ := Aside0.mk ((by rw [hg]; exact Nat.ne_of_lt (blk_lt (g := gb4568) (o := .cells #[.slice Ao18 t4565.length co18] 28 (0, 0)) BK4568.out) : gb4568 ≠ gb4575)); have n18_ := Aside0.mk ((by rw [hg]; exact Nat.ne_of_gt (blk_lt (g := gb4568) (o := .cells #[.slice Ao18 t4565.length co18] 28 (0, 0)) BK4568.out) : gb4575 ≠ gb4568)); clear HO4567 HO4571 HO4574 BK4562; clear BK4563 BK4564 BK4568 HB; have HO4567 := n0_; have HO4571 := n1_; have HO4574 := n2_; have BK4562 := n3_; have BK4563 := n4_; have BK4564 := n5_; have BK4568 := n6_; have HB := n7_; have BK4575 := n8_; have GW4575 := n9_; have GE4575 := n10_; have NB4562_4575 := n11_; have NB4575_4562 := n12_; have NB4563_4575 := n13_; have NB4575_4563 := n14_; have NB4564_4575 := n15_; have NB4575_4564 := n16_; have NB4568_4575 := n17_; have NB4575_4568 := n18_; clear n0_ n1_ n2_ n3_ n4_ n5_ n6_ n7_ n8_ n9_ n10_ n11_ n12_ n13_ n14_ n15_ n16_ n17_ n18_; clear hb hbox hg) | ((with_reducible refine gate_dst (N := 8) rfl ?_); refine box_event ?hg (N := 8) ?hd (cs := #[.slice none 0 0]) (t := 28) ?hr ?_; (case hd => rfl); (case hg => rfl); (case hr => go_simp); intro gb4576 hg w26 hbox hb; have n0_ := Aside0.mk (Kd.V_below (Kd.V_elderB HO4567.out gb4576 (Nat.le_of_eq hg.symm)) hb); have n1_ := Aside0.mk (Kd.R_below HO4571.out hb); have n2_ := Aside0.mk (Kd.R_below HO4574.out hb); have n3_ := Aside0.mk (blk_below BK4562.out hb); have n4_ := Aside0.mk (blk_below BK4563.out hb); have n5_ := Aside0.mk (blk_below BK4564.out hb); have n6_ := Aside0.mk (blk_below BK4568.out hb); have n7_ := Aside0.mk (blk_below BK4575.out hb); have n8_ := Aside0.mk (below_step (by repeat (first | (with_reducible first | exact HB.out | apply below_alloc | apply pw_below_drewN | apply below_drew1 | refine below_set ?_ GE4562.out | refine below_set ?_ GE4563.out | refine below_set ?_ GE4564.out | refine below_set ?_ GE4568.out | refine below_set ?_ GE4575.out) | exact HB.out)) hb); have n9_ := Aside0.mk (hbox); have n10_ := Aside0.mk ((by rw [hg]; exact (below_size (by repeat (first | (with_reducible first | exact HB.out | apply below_alloc | apply pw_below_drewN | apply below_drew1 | refine below_set ?_ GE4562.out | refine below_set ?_ GE4563.out | refine below_set ?_ GE4564.out | refine below_set ?_ GE4568.out | refine below_set ?_ GE4575.out) | exact HB.out))) : w.heap.size ≤ gb4576)); have n11_ := Aside0.mk ((by rw [hg]; exact (below_size (by repeat (first | (with_reducible first | exact HB.out | apply below_alloc | apply pw_below_drewN | apply below_drew1 | refine below_set ?_ GE4562.out | refine below_set ?_ GE4563.out | refine below_set ?_ GE4564.out | refine below_set ?_ GE4568.out | refine below_set ?_ GE4575.out) | exact HB.out))) : w.heap.size ≤ gb4576)); have n12_ := Aside0.mk ((by rw [hg]; exact Nat.ne_of_lt (blk_lt (g := gb4562) (o := .cells #[.slice A0_0 l0_0.length c0_0] 28 (0, 0)) BK4562.out) : gb4562 ≠ gb4576)); have n13_ := Aside0.mk ((by rw [hg]; exact Nat.ne_of_gt (blk_lt (g := gb4562) (o := .cells #[.slice A0_0 l0_0.length c0_0] 28 (0, 0)) BK4562.out) : gb4576 ≠ gb4562)); have n14_ := Aside0.mk ((by rw [hg]; exact Nat.ne_of_lt (blk_lt (g := gb4563) (o := .cells #[.slice A1_0 l1_0.length c1_0] 28 (0, 0)) BK4563.out) : gb4563 ≠ gb4576)); have n15_ := Aside0.mk ((by rw [hg]; exact Nat.ne_of_gt (blk_lt (g := gb4563) (o := .cells #[.slice A1_0 l1_0.length c1_0] 28 (0, 0)) BK4563.out) : gb4576 ≠ gb4563)); have n16_ := Aside0.mk ((by rw [hg]; exact Nat.ne_of_lt (blk_lt (g := gb4564) (o := .cells #[.int .i64 0, .int .i64 0] 57 (0, 0)) BK4564.out) : gb4564 ≠ gb4576)); have n17_ := Aside0.mk ((by rw [hg]; exact Nat.ne_of_gt (blk_lt (g := gb4564) (o := .cells #[.int .i64 0, .int .i64 0] 57 (0, 0)) BK4564.out) : gb4576 ≠ gb4564)); have n18_ := Aside0.mk ((by rw [hg]; exact Nat.ne_of_lt (blk_lt (g := gb4568) (o := .cells #[.slice Ao18 t4565.length co18] 28 (0, 0)) BK4568.out) : gb4568 ≠ gb4576)); have n19_ := Aside0.mk ((by rw [hg]; exact Nat.ne_of_gt (blk_lt (g := gb4568) (o := .cells #[.slice Ao18 t4565.length co18] 28 (0, 0)) BK4568.out) : gb4576 ≠ gb4568)); have n20_ := Aside0.mk ((by rw [hg]; exact Nat.ne_of_lt (blk_lt (g := gb4575) (o := .cells #[.slice none 0 0] 28 (0, 0)) BK4575.out) : gb4575 ≠ gb4576)); have n21_ := Aside0.mk ((by rw [hg]; exact Nat.ne_of_gt (blk_lt (g := gb4575) (o := .cells #[.slice none 0 0] 28 (0, 0)) BK4575.out) : gb4576 ≠ gb4575)); clear HO4567 HO4571 HO4574 BK4562; clear BK4563 BK4564 BK4568 BK4575; clear HB; have HO4567 := n0_; have HO4571 := n1_; have HO4574 := n2_; have BK4562 := n3_; have BK4563 := n4_; have BK4564 := n5_; have BK4568 := n6_; have BK4575 := n7_; have HB := n8_; have BK4576 := n9_; have GW4576 := n10_; have GE4576 := n11_; have NB4562_4576 := n12_; have NB4576_4562 := n13_; have NB4563_4576 := n14_; have NB4576_4563 := n15_; have NB4564_4576 := n16_; have NB4576_4564 := n17_; have NB4568_4576 := n18_; have NB4576_4568 := n19_; have NB4575_4576 := n20_; have NB4576_4575 := n21_; clear n0_ n1_ n2_ n3_ n4_ n5_ n6_ n7_ n8_ n9_ n10_ n11_ n12_ n13_ n14_ n15_ n16_ n17_ n18_ n19_ n20_ n21_; clear hb hbox hg; obtain ⟨Ao27, co27, eo27⟩ := Kd.R_slice HO4571.out; subst eo27; have hnb28 := NB4575_4562.out; have hnc28 := NB4562_4575.out; have hnb29 := NB4575_4563.out; have hnc29 := NB4563_4575.out; have hnb30 := NB4575_4564.out; have hnc30 := NB4564_4575.out; have hnb31 := NB4575_4568.out; have hnc31 := NB4568_4575.out; have hnb32 := NB4575_4576.out; have hnc32 := NB4576_4575.out; have hcz33_0 : w26.cell? ⟨gb4575, 0, none⟩ = some (.slice none 0 0) := (blk_cell BK4575.out 0).trans rfl; have hfz33_0 := blk_frozen BK4575.out 0; obtain ⟨Ao34, co34, eo34⟩ := Kd.R_slice HO4574.out; subst eo34; have hnb35 := NB4576_4562.out; have hnc35 := NB4562_4576.out; have hnb36 := NB4576_4563.out; have hnc36 := NB4563_4576.out; have hnb37 := NB4576_4564.out; have hnc37 := NB4564_4576.out; have hnb38 := NB4576_4568.out; have hnc38 := NB4568_4576.out; have hcz39_0 : w26.cell? ⟨gb4576, 0, none⟩ = some (.slice none 0 0) := (blk_cell BK4576.out 0).trans rfl; have hfz39_0 := blk_frozen BK4576.out 0; have hcz40_0 : w26.cell? ⟨gb4563, 0, none⟩ = some (.slice A1_0 l1_0.length c1_0) := (blk_cell BK4563.out 0).trans rfl; have hfz40_0 := blk_frozen BK4563.out 0; have hcz41_0 : w26.cell? ⟨gb4568, 0, none⟩ = some (.slice Ao18 t4565.length co18) := (blk_cell BK4568.out 0).trans rfl; have hfz41_0 := blk_frozen BK4568.out 0) | ((with_reducible refine gate_callee (f := 38) rfl ?_); refine goesL_ (some 24) rfl rfl Try.func38 (by kernel_rfl) rfl #[.agg #[.slice A1_0 l1_0.length c1_0], .agg #[.slice Ao18 t4565.length co18]] rfl (by (try simp only [List.map_toArray, List.map_cons, List.map_nil]); first | done | rfl) ?_; (with_reducible refine (demurrageref01_Quot.calls k _ _ l1_0 _ _ t4565 t4577 t4580 _ ?side1 ?side2 ?side3 ?side4 A5.out).mono ?_); (case side1 => exact Kd.C_below HR1_0.out (by repeat (first | (with_reducible first | exact HB.out | apply below_alloc | apply pw_below_drewN | apply below_drew1 | refine below_set ?_ GE4562.out | refine below_set ?_ GE4563.out | refine below_set ?_ GE4564.out | refine below_set ?_ GE4568.out | refine below_set ?_ GE4575.out | refine below_set ?_ GE4576.out) | exact HB.out))); (case side2 => exact HC1_0.out); (case side3 => refine (Kd.V_reads' (e := 3) (base := w.heap.size) (ok := fun k_ => ((((((k_ ≠ gb4562 ∧ (k_ ≠ gb4563 ∧ k_ ≠ gb4564)) ∧ k_ ≠ gb4568) ∧ some k_ ≠ (.slice Ao27 t4569.length co27 : Value).ownBlock) ∧ some k_ ≠ (.slice Ao34 t4572.length co34 : Value).ownBlock) ∧ k_ ≠ gb4575) ∧ k_ ≠ gb4576)) (n := t4565.length) (c := co18) ?_).2.2; exact (by (with_reducible repeat (first | apply Kd.V_alloc | apply Kd.V_drewN | apply Kd.V_drew)); exact (Kd.V_mono (Kd.V_mono (Kd.V_far (p := ⟨gb4576, 0, none⟩) (Kd.V_far (p := ⟨gb4575, 0, none⟩) (Kd.V_mono (Kd.V_mono HO4567.out (fun k_ hk => (⟨hk, hk.1.2⟩ : _ ∧ k_ ≠ gb4575))) (fun k_ hk => (⟨hk, hk.1.2⟩ : _ ∧ k_ ≠ gb4576))) (fun _ hk => hk.1.2) (.slice Ao27 t4569.length co27)) (fun _ hk => hk.2) (.slice Ao34 t4572.length co34)) (fun _ h_ => h_.1)) (fun _ h_ => h_.1)))); (case side4 => exact (Kd.V_reads' HO4567.out).2.1); rintro e w42 ⟨v4578, v4581, rfl, ho0, ho1, hb⟩; refine ⟨_, rfl, ?_⟩; have n0_ := Aside0.mk (Kd.V_mono (Kd.V_told (Kd.V_told (Kd.V_old (by (with_reducible repeat (first | apply Kd.V_alloc | apply Kd.V_drewN | apply Kd.V_drew)); exact (Kd.V_mono (Kd.V_mono (Kd.V_far (p := ⟨gb4576, 0, none⟩) (Kd.V_far (p := ⟨gb4575, 0, none⟩) (Kd.V_mono (Kd.V_mono HO4567.out (fun k_ hk => (⟨hk, hk.1.2⟩ : _ ∧ k_ ≠ gb4575))) (fun k_ hk => (⟨hk, hk.1.2⟩ : _ ∧ k_ ≠ gb4576))) (fun _ hk => hk.1.2) (.slice Ao27 t4569.length co27)) (fun _ hk => hk.2) (.slice Ao34 t4572.length co34)) (fun _ h_ => h_.1)) (fun _ h_ => h_.1))) hb) (Kd.R_base ho0)) (Kd.R_base ho1)) (fun _ h_ => h_.1)); have n1_ := Aside0.mk (Kd.R_mono (Kd.R_told (Kd.R_told (Kd.R_old (by (with_reducible repeat (first | apply Kd.R_alloc | apply Kd.R_drewN | apply Kd.R_drew)); exact (Kd.R_mono (Kd.R_mono (Kd.R_far (p := ⟨gb4576, 0, none⟩) (Kd.R_far (p := ⟨gb4575, 0, none⟩) (Kd.R_types (Kd.R_types HO4571.out BK4575.out (by decide)) BK4576.out (by decide)) (fun _ hk => hk.1.2) (.slice Ao27 t4569.length co27)) (fun _ hk => hk.2) (.slice Ao34 t4572.length co34)) (fun _ h_ => h_.1)) (fun _ h_ => h_.1))) hb) (Kd.R_base ho0)) (Kd.R_base ho1)) (fun _ h_ => h_.1)); have n2_ := Aside0.mk (Kd.R_mono (Kd.R_told (Kd.R_told (Kd.R_old (by (with_reducible repeat (first | apply Kd.R_alloc | apply Kd.R_drewN | apply Kd.R_drew)); exact (Kd.R_mono (Kd.R_mono (Kd.R_far (p := ⟨gb4576, 0, none⟩) (Kd.R_far (p := ⟨gb4575, 0, none⟩) (Kd.R_types (Kd.R_types HO4574.out BK4575.out (by decide)) BK4576.out (by decide)) (fun _ hk => hk.1.2) (.slice Ao27 t4569.length co27)) (fun _ hk => hk.2) (.slice Ao34 t4572.length co34)) (fun _ h_ => h_.1)) (fun _ h_ => h_.1))) hb) (Kd.R_base ho0)) (Kd.R_base ho1)) (fun _ h_ => h_.1)); have n3_ := Aside0.mk (Kd.R_lower (Kd.R_new' (Kd.R_new' ho0 (Kd.R_lt (by (with_reducible repeat (first | apply Kd.R_alloc | apply Kd.R_drewN | apply Kd.R_drew)); exact (Kd.R_mono (Kd.R_mono (Kd.R_far (p := ⟨gb4576, 0, none⟩) (Kd.R_far (p := ⟨gb4575, 0, none⟩) (Kd.R_types (Kd.R_types HO4571.out BK4575.out (by decide)) BK4576.out (by decide)) (fun _ hk => hk.1.2) (.slice Ao27 t4569.length co27)) (fun _ hk => hk.2) (.slice Ao34 t4572.length co34)) (fun _ h_ => h_.1)) (fun _ h_ => h_.1))))) (Kd.R_lt (by (with_reducible repeat (first | apply Kd.R_alloc | apply Kd.R_drewN | apply Kd.R_drew)); exact (Kd.R_mono (Kd.R_mono (Kd.R_far (p := ⟨gb4576, 0, none⟩) (Kd.R_far (p := ⟨gb4575, 0, none⟩) (Kd.R_types (Kd.R_types HO4574.out BK4575.out (by decide)) BK4576.out (by decide)) (fun _ hk => hk.1.2) (.slice Ao27 t4569.length co27)) (fun _ hk => hk.2) (.slice Ao34 t4572.length co34)) (fun _ h_ => h_.1)) (fun _ h_ => h_.1))))) (below_size (by repeat (first | (with_reducible first | exact HB.out | apply below_alloc | apply pw_below_drewN | apply below_drew1 | refine below_set ?_ GE4562.out | refine below_set ?_ GE4563.out | refine below_set ?_ GE4564.out | refine below_set ?_ GE4568.out | refine below_set ?_ GE4575.out | refine below_set ?_ GE4576.out) | exact HB.out)))); have n4_ := Aside0.mk (Kd.R_lower (Kd.R_new' (Kd.R_new' ho1 (Kd.R_lt (by (with_reducible repeat (first | apply Kd.R_alloc | apply Kd.R_drewN | apply Kd.R_drew)); exact (Kd.R_mono (Kd.R_mono (Kd.R_far (p := ⟨gb4576, 0, none⟩) (Kd.R_far (p := ⟨gb4575, 0, none⟩) (Kd.R_types (Kd.R_types HO4571.out BK4575.out (by decide)) BK4576.out (by decide)) (fun _ hk => hk.1.2) (.slice Ao27 t4569.length co27)) (fun _ hk => hk.2) (.slice Ao34 t4572.length co34)) (fun _ h_ => h_.1)) (fun _ h_ => h_.1))))) (Kd.R_lt (by (with_reducible repeat (first | apply Kd.R_alloc | apply Kd.R_drewN | apply Kd.R_drew)); exact (Kd.R_mono (Kd.R_mono (Kd.R_far (p := ⟨gb4576, 0, none⟩) (Kd.R_far (p := ⟨gb4575, 0, none⟩) (Kd.R_types (Kd.R_types HO4574.out BK4575.out (by decide)) BK4576.out (by decide)) (fun _ hk => hk.1.2) (.slice Ao27 t4569.length co27)) (fun _ hk => hk.2) (.slice Ao34 t4572.length co34)) (fun _ h_ => h_.1)) (fun _ h_ => h_.1))))) (below_size (by repeat (first | (with_reducible first | exact HB.out | apply below_alloc | apply pw_below_drewN | apply below_drew1 | refine below_set ?_ GE4562.out | refine below_set ?_ GE4563.out | refine below_set ?_ GE4564.out | refine below_set ?_ GE4568.out | refine below_set ?_ GE4575.out | refine below_set ?_ GE4576.out) | exact HB.out)))); have n5_ := Aside0.mk (blk_below (g := gb4562) (o := .cells #[.slice A0_0 l0_0.length c0_0] 28 (0, 0)) (by refine blk_far ?_ NB4562_4576.out _; refine blk_far ?_ NB4562_4575.out _; exact BK4562.out) hb); have n6_ := Aside0.mk (blk_below (g := gb4563) (o := .cells #[.slice A1_0 l1_0.length c1_0] 28 (0, 0)) (by refine blk_far ?_ NB4563_4576.out _; refine blk_far ?_ NB4563_4575.out _; exact BK4563.out) hb); have n7_ := Aside0.mk (blk_below (g := gb4564) (o := .cells #[.int .i64 0, .int .i64 0] 57 (0, 0)) (by refine blk_far ?_ NB4564_4576.out _; refine blk_far ?_ NB4564_4575.out _; exact BK4564.out) hb); have n8_ := Aside0.mk (blk_below (g := gb4568) (o := .cells #[.slice Ao18 t4565.length co18] 28 (0, 0)) (by refine blk_far ?_ NB4568_4576.out _; refine blk_far ?_ NB4568_4575.out _; exact BK4568.out) hb); have n9_ := Aside0.mk (blk_below (g := gb4575) (o := .cells #[.slice Ao27 t4569.length co27] 28 (0, 0)) (by refine blk_far ?_ NB4575_4576.out _; refine blk_put (cs := #[.slice none 0 0]) ?_ 0 _ rfl; exact BK4575.out) hb); have n10_ := Aside0.mk (blk_below (g := gb4576) (o := .cells #[.slice Ao34 t4572.length co34] 28 (0, 0)) (by refine blk_put (cs := #[.slice none 0 0]) ?_ 0 _ rfl; refine blk_far ?_ NB4576_4575.out _; exact BK4576.out) hb); have n11_ := Aside0.mk (below_step (by repeat (first | (with_reducible first | exact HB.out | apply below_alloc | apply pw_below_drewN | apply below_drew1 | refine below_set ?_ GE4562.out | refine below_set ?_ GE4563.out | refine below_set ?_ GE4564.out | refine below_set ?_ GE4568.out | refine below_set ?_ GE4575.out | refine below_set ?_ GE4576.out) | exact HB.out)) hb); clear HO4567 HO4571 HO4574 BK4562; clear BK4563 BK4564 BK4568 BK4575; clear BK4576 HB; have HO4567 := n0_; have HO4571 := n1_; have HO4574 := n2_; have HO4579 := n3_; have HO4582 := n4_; have BK4562 := n5_; have BK4563 := n6_; have BK4564 := n7_; have BK4568 := n8_; have BK4575 := n9_; have BK4576 := n10_; have HB := n11_; clear n0_ n1_ n2_ n3_ n4_ n5_ n6_ n7_ n8_ n9_ n10_ n11_; (try clear hb); (try clear ho0); (try clear ho1)) | ((with_reducible refine gate_dst (N := 9) rfl ?_); refine box_event ?hg (N := 9) ?hd (cs := #[.slice none 0 0]) (t := 28) ?hr ?_; (case hd => rfl); (case hg => rfl); (case hr => go_simp); intro gb4583 hg w43 hbox hb; have n0_ := Aside0.mk (Kd.V_below (Kd.V_elderB HO4567.out gb4583 (Nat.le_of_eq hg.symm)) hb); have n1_ := Aside0.mk (Kd.R_below HO4571.out hb); have n2_ := Aside0.mk (Kd.R_below HO4574.out hb); have n3_ := Aside0.mk (Kd.R_below HO4579.out hb); have n4_ := Aside0.mk (Kd.R_below HO4582.out hb); have n5_ := Aside0.mk (blk_below BK4562.out hb); have n6_ := Aside0.mk (blk_below BK4563.out hb); have n7_ := Aside0.mk (blk_below BK4564.out hb); have n8_ := Aside0.mk (blk_below BK4568.out hb); have n9_ := Aside0.mk (blk_below BK4575.out hb); have n10_ := Aside0.mk (blk_below BK4576.out hb); have n11_ := Aside0.mk (below_step (by repeat (first | (with_reducible first | exact HB.out | apply below_alloc | apply pw_below_drewN | apply below_drew1 | refine below_set ?_ GE4562.out | refine below_set ?_ GE4563.out | refine below_set ?_ GE4564.out | refine below_set ?_ GE4568.out | refine below_set ?_ GE4575.out | refine below_set ?_ GE4576.out) | exact HB.out)) hb); have n12_ := Aside0.mk (hbox); have n13_ := Aside0.mk ((by rw [hg]; exact (below_size (by repeat (first | (with_reducible first | exact HB.out | apply below_alloc | apply pw_below_drewN | apply below_drew1 | refine below_set ?_ GE4562.out | refine below_set ?_ GE4563.out | refine below_set ?_ GE4564.out | refine below_set ?_ GE4568.out | refine below_set ?_ GE4575.out | refine below_set ?_ GE4576.out) | exact HB.out))) : w.heap.size ≤ gb4583)); have n14_ := Aside0.mk ((by rw [hg]; exact (below_size (by repeat (first | (with_reducible first | exact HB.out | apply below_alloc | apply pw_below_drewN | apply below_drew1 | refine below_set ?_ GE4562.out | refine below_set ?_ GE4563.out | refine below_set ?_ GE4564.out | refine below_set ?_ GE4568.out | refine below_set ?_ GE4575.out | refine below_set ?_ GE4576.out) | exact HB.out))) : w.heap.size ≤ gb4583)); have n15_ := Aside0.mk ((by rw [hg]; exact Nat.ne_of_lt (blk_lt (g := gb4562) (o := .cells #[.slice A0_0 l0_0.length c0_0] 28 (0, 0)) BK4562.out) : gb4562 ≠ gb4583)); have n16_ := Aside0.mk ((by rw [hg]; exact Nat.ne_of_gt (blk_lt (g := gb4562) (o := .cells #[.slice A0_0 l0_0.length c0_0] 28 (0, 0)) BK4562.out) : gb4583 ≠ gb4562)); have n17_ := Aside0.mk ((by rw [hg]; exact Nat.ne_of_lt (blk_lt (g := gb4563) (o := .cells #[.slice A1_0 l1_0.length c1_0] 28 (0, 0)) BK4563.out) : gb4563 ≠ gb4583)); have n18_ := Aside0.mk ((by rw [hg]; exact Nat.ne_of_gt (blk_lt (g := gb4563) (o := .cells #[.slice A1_0 l1_0.length c1_0] 28 (0, 0)) BK4563.out) : gb4583 ≠ gb4563)); have n19_ := Aside0.mk ((by rw [hg]; exact Nat.ne_of_lt (blk_lt (g := gb4564) (o := .cells #[.int .i64 0, .int .i64 0] 57 (0, 0)) BK4564.out) : gb4564 ≠ gb4583)); have n20_ := Aside0.mk ((by rw [hg]; exact Nat.ne_of_gt (blk_lt (g := gb4564) (o := .cells #[.int .i64 0, .int .i64 0] 57 (0, 0)) BK4564.out) : gb4583 ≠ gb4564)); have n21_ := Aside0.mk ((by rw [hg]; exact Nat.ne_of_lt (blk_lt (g := gb4568) (o := .cells #[.slice Ao18 t4565.length co18] 28 (0, 0)) BK4568.out) : gb4568 ≠ gb4583)); have n22_ := Aside0.mk ((by rw [hg]; exact Nat.ne_of_gt (blk_lt (g := gb4568) (o := .cells #[.slice Ao18 t4565.length co18] 28 (0, 0)) BK4568.out) : gb4583 ≠ gb4568)); have n23_ := Aside0.mk ((by rw [hg]; exact Nat.ne_of_lt (blk_lt (g := gb4575) (o := .cells #[.slice Ao27 t4569.length co27] 28 (0, 0)) BK4575.out) : gb4575 ≠ gb4583)); have n24_ := Aside0.mk ((by rw [hg]; exact Nat.ne_of_gt (blk_lt (g := gb4575) (o := .cells #[.slice Ao27 t4569.length co27] 28 (0, 0)) BK4575.out) : gb4583 ≠ gb4575)); have n25_ := Aside0.mk ((by rw [hg]; exact Nat.ne_of_lt (blk_lt (g := gb4576) (o := .cells #[.slice Ao34 t4572.length co34] 28 (0, 0)) BK4576.out) : gb4576 ≠ gb4583)); have n26_ := Aside0.mk ((by rw [hg]; exact Nat.ne_of_gt (blk_lt (g := gb4576) (o := .cells #[.slice Ao34 t4572.length co34] 28 (0, 0)) BK4576.out) : gb4583 ≠ gb4576)); clear HO4567 HO4571 HO4574 HO4579; clear HO4582 BK4562 BK4563 BK4564; clear BK4568 BK4575 BK4576 HB; have HO4567 := n0_; have HO4571 := n1_; have HO4574 := n2_; have HO4579 := n3_; have HO4582 := n4_; have BK4562 := n5_; have BK4563 := n6_; have BK4564 := n7_; have BK4568 := n8_; have BK4575 := n9_; have BK4576 := n10_; have HB := n11_; have BK4583 := n12_; have GW4583 := n13_; have GE4583 := n14_; have NB4562_4583 := n15_; have NB4583_4562 := n16_; have NB4563_4583 := n17_; have NB4583_4563 := n18_; have NB4564_4583 := n19_; have NB4583_4564 := n20_; have NB4568_4583 := n21_; have NB4583_4568 := n22_; have NB4575_4583 := n23_; have NB4583_4575 := n24_; have NB4576_4583 := n25_; have NB4583_4576 := n26_; clear n0_ n1_ n2_ n3_ n4_ n5_ n6_ n7_ n8_ n9_ n10_ n11_ n12_ n13_ n14_ n15_ n16_ n17_ n18_ n19_ n20_ n21_ n22_ n23_ n24_ n25_ n26_; clear hb hbox hg) | ((with_reducible refine gate_dst (N := 10) rfl ?_); refine box_event ?hg (N := 10) ?hd (cs := #[.slice none 0 0]) (t := 28) ?hr ?_; (case hd => rfl); (case hg => rfl); (case hr => go_simp); intro gb4584 hg w44 hbox hb; have n0_ := Aside0.mk (Kd.V_below (Kd.V_elderB HO4567.out gb4584 (Nat.le_of_eq hg.symm)) hb); have n1_ := Aside0.mk (Kd.R_below HO4571.out hb); have n2_ := Aside0.mk (Kd.R_below HO4574.out hb); have n3_ := Aside0.mk (Kd.R_below HO4579.out hb); have n4_ := Aside0.mk (Kd.R_below HO4582.out hb); have n5_ := Aside0.mk (blk_below BK4562.out hb); have n6_ := Aside0.mk (blk_below BK4563.out hb); have n7_ := Aside0.mk (blk_below BK4564.out hb); have n8_ := Aside0.mk (blk_below BK4568.out hb); have n9_ := Aside0.mk (blk_below BK4575.out hb); have n10_ := Aside0.mk (blk_below BK4576.out hb); have n11_ := Aside0.mk (blk_below BK4583.out hb); have n12_ := Aside0.mk (below_step (by repeat (first | (with_reducible first | exact HB.out | apply below_alloc | apply pw_below_drewN | apply below_drew1 | refine below_set ?_ GE4562.out | refine below_set ?_ GE4563.out | refine below_set ?_ GE4564.out | refine below_set ?_ GE4568.out | refine below_set ?_ GE4575.out | refine below_set ?_ GE4576.out | refine below_set ?_ GE4583.out) | exact HB.out)) hb); have n13_ := Aside0.mk (hbox); have n14_ := Aside0.mk ((by rw [hg]; exact (below_size (by repeat (first | (with_reducible first | exact HB.out | apply below_alloc | apply pw_below_drewN | apply below_drew1 | refine below_set ?_ GE4562.out | refine below_set ?_ GE4563.out | refine below_set ?_ GE4564.out | refine below_set ?_ GE4568.out | refine below_set ?_ GE4575.out | refine below_set ?_ GE4576.out | refine below_set ?_ GE4583.out) | exact HB.out))) : w.heap.size ≤ gb4584)); have n15_ := Aside0.mk ((by rw [hg]; exact (below_size (by repeat (first | (with_reducible first | exact HB.out | apply below_alloc | apply pw_below_drewN | apply below_drew1 | refine below_set ?_ GE4562.out | refine below_set ?_ GE4563.out | refine below_set ?_ GE4564.out | refine below_set ?_ GE4568.out | refine below_set ?_ GE4575.out | refine below_set ?_ GE4576.out | refine below_set ?_ GE4583.out) | exact HB.out))) : w.heap.size ≤ gb4584)); have n16_ := Aside0.mk ((by rw [hg]; exact Nat.ne_of_lt (blk_lt (g := gb4562) (o := .cells #[.slice A0_0 l0_0.length c0_0] 28 (0, 0)) BK4562.out) : gb4562 ≠ gb4584)); have n17_ := Aside0.mk ((by rw [hg]; exact Nat.ne_of_gt (blk_lt (g := gb4562) (o := .cells #[.slice A0_0 l0_0.length c0_0] 28 (0, 0)) BK4562.out) : gb4584 ≠ gb4562)); have n18_ := Aside0.mk ((by rw [hg]; exact Nat.ne_of_lt (blk_lt (g := gb4563) (o := .cells #[.slice A1_0 l1_0.length c1_0] 28 (0, 0)) BK4563.out) : gb4563 ≠ gb4584)); have n19_ := Aside0.mk ((by rw [hg]; exact Nat.ne_of_gt (blk_lt (g := gb4563) (o := .cells #[.slice A1_0 l1_0.length c1_0] 28 (0, 0)) BK4563.out) : gb4584 ≠ gb4563)); have n20_ := Aside0.mk ((by rw [hg]; exact Nat.ne_of_lt (blk_lt (g := gb4564) (o := .cells #[.int .i64 0, .int .i64 0] 57 (0, 0)) BK4564.out) : gb4564 ≠ gb4584)); have n21_ := Aside0.mk ((by rw [hg]; exact Nat.ne_of_gt (blk_lt (g := gb4564) (o := .cells #[.int .i64 0, .int .i64 0] 57 (0, 0)) BK4564.out) : gb4584 ≠ gb4564)); have n22_ := Aside0.mk ((by rw [hg]; exact Nat.ne_of_lt (blk_lt (g := gb4568) (o := .cells #[.slice Ao18 t4565.length co18] 28 (0, 0)) BK4568.out) : gb4568 ≠ gb4584)); have n23_ := Aside0.mk ((by rw [hg]; exact Nat.ne_of_gt (blk_lt (g := gb4568) (o := .cells #[.slice Ao18 t4565.length co18] 28 (0, 0)) BK4568.out) : gb4584 ≠ gb4568)); have n24_ := Aside0.mk ((by rw [hg]; exact Nat.ne_of_lt (blk_lt (g := gb4575) (o := .cells #[.slice Ao27 t4569.length co27] 28 (0, 0)) BK4575.out) : gb4575 ≠ gb4584)); have n25_ := Aside0.mk ((by rw [hg]; exact Nat.ne_of_gt (blk_lt (g := gb4575) (o := .cells #[.slice Ao27 t4569.length co27] 28 (0, 0)) BK4575.out) : gb4584 ≠ gb4575)); have n26_ := Aside0.mk ((by rw [hg]; exact Nat.ne_of_lt (blk_lt (g := gb4576) (o := .cells #[.slice Ao34 t4572.length co34] 28 (0, 0)) BK4576.out) : gb4576 ≠ gb4584)); have n27_ := Aside0.mk ((by rw [hg]; exact Nat.ne_of_gt (blk_lt (g := gb4576) (o := .cells #[.slice Ao34 t4572.length co34] 28 (0, 0)) BK4576.out) : gb4584 ≠ gb4576)); have n28_ := Aside0.mk ((by rw [hg]; exact Nat.ne_of_lt (blk_lt (g := gb4583) (o := .cells #[.slice none 0 0] 28 (0, 0)) BK4583.out) : gb4583 ≠ gb4584)); have n29_ := Aside0.mk ((by rw [hg]; exact Nat.ne_of_gt (blk_lt (g := gb4583) (o := .cells #[.slice none 0 0] 28 (0, 0)) BK4583.out) : gb4584 ≠ gb4583)); clear HO4567 HO4571 HO4574 HO4579; clear HO4582 BK4562 BK4563 BK4564; clear BK4568 BK4575 BK4576 BK4583; clear HB; have HO4567 := n0_; have HO4571 := n1_; have HO4574 := n2_; have HO4579 := n3_; have HO4582 := n4_; have BK4562 := n5_; have BK4563 := n6_; have BK4564 := n7_; have BK4568 := n8_; have BK4575 := n9_; have BK4576 := n10_; have BK4583 := n11_; have HB := n12_; have BK4584 := n13_; have GW4584 := n14_; have GE4584 := n15_; have NB4562_4584 := n16_; have NB4584_4562 := n17_; have NB4563_4584 := n18_; have NB4584_4563 := n19_; have NB4564_4584 := n20_; have NB4584_4564 := n21_; have NB4568_4584 := n22_; have NB4584_4568 := n23_; have NB4575_4584 := n24_; have NB4584_4575 := n25_; have NB4576_4584 := n26_; have NB4584_4576 := n27_; have NB4583_4584 := n28_; have NB4584_4583 := n29_; clear n0_ n1_ n2_ n3_ n4_ n5_ n6_ n7_ n8_ n9_ n10_ n11_ n12_ n13_ n14_ n15_ n16_ n17_ n18_ n19_ n20_ n21_ n22_ n23_ n24_ n25_ n26_ n27_ n28_ n29_; clear hb hbox hg; obtain ⟨Ao45, co45, eo45⟩ := Kd.R_slice HO4579.out; subst eo45; have hnb46 := NB4583_4562.out; have hnc46 := NB4562_4583.out; have hnb47 := NB4583_4563.out; have hnc47 := NB4563_4583.out; have hnb48 := NB4583_4564.out; have hnc48 := NB4564_4583.out; have hnb49 := NB4583_4568.out; have hnc49 := NB4568_4583.out; have hnb50 := NB4583_4575.out; have hnc50 := NB4575_4583.out; have hnb51 := NB4583_4576.out; have hnc51 := NB4576_4583.out; have hnb52 := NB4583_4584.out; have hnc52 := NB4584_4583.out; have hcz53_0 : w44.cell? ⟨gb4583, 0, none⟩ = some (.slice none 0 0) := (blk_cell BK4583.out 0).trans rfl; have hfz53_0 := blk_frozen BK4583.out 0; obtain ⟨Ao54, co54, eo54⟩ := Kd.R_slice HO4582.out; subst eo54; have hnb55 := NB4584_4562.out; have hnc55 := NB4562_4584.out; have hnb56 := NB4584_4563.out; have hnc56 := NB4563_4584.out; have hnb57 := NB4584_4564.out; have hnc57 := NB4564_4584.out; have hnb58 := NB4584_4568.out; have hnc58 := NB4568_4584.out; have hnb59 := NB4584_4575.out; have hnc59 := NB4575_4584.out; have hnb60 := NB4584_4576.out; have hnc60 := NB4576_4584.out; have hcz61_0 : w44.cell? ⟨gb4584, 0, none⟩ = some (.slice none 0 0) := (blk_cell BK4584.out 0).trans rfl; have hfz61_0 := blk_frozen BK4584.out 0) | ((with_reducible refine gate_callee (f := 24) rfl ?_); refine goesL_ (some 27) rfl rfl Try.func24 (by kernel_rfl) rfl #[.int .u64 4611686018427387904] rfl (by (try simp only [List.map_toArray, List.map_cons, List.map_nil]); first | done | rfl) ?_; (with_reducible refine (demurrageref01_FromU.calls k 4611686018427387904 t4585 _ A6.out).mono ?_); rintro e w62 ⟨v4586, rfl, ho0, hb⟩; refine ⟨_, rfl, ?_⟩; have n0_ := Aside0.mk (Kd.V_elder' (by (with_reducible repeat (first | apply Kd.V_alloc | apply Kd.V_drewN | apply Kd.V_drew)); exact (Kd.V_mono (Kd.V_mono (Kd.V_far (p := ⟨gb4584, 0, none⟩) (Kd.V_far (p := ⟨gb4583, 0, none⟩) (Kd.V_mono (Kd.V_mono HO4567.out (fun k_ hk => (⟨hk, hk.1.2⟩ : _ ∧ k_ ≠ gb4583))) (fun k_ hk => (⟨hk, hk.1.2⟩ : _ ∧ k_ ≠ gb4584))) (fun _ hk => hk.1.2) (.slice Ao45 t4577.length co45)) (fun _ hk => hk.2) (.slice Ao54 t4580.length co54)) (fun _ h_ => h_.1)) (fun _ h_ => h_.1))) (Kd.R_base ho0) hb); have n1_ := Aside0.mk (Kd.R_elder' (by (with_reducible repeat (first | apply Kd.R_alloc | apply Kd.R_drewN | apply Kd.R_drew)); exact (Kd.R_mono (Kd.R_mono (Kd.R_far (p := ⟨gb4584, 0, none⟩) (Kd.R_far (p := ⟨gb4583, 0, none⟩) (Kd.R_types (Kd.R_types HO4571.out BK4583.out (by decide)) BK4584.out (by decide)) (fun _ hk => hk.1.2) (.slice Ao45 t4577.length co45)) (fun _ hk => hk.2) (.slice Ao54 t4580.length co54)) (fun _ h_ => h_.1)) (fun _ h_ => h_.1))) (Kd.R_base ho0) hb); have n2_ := Aside0.mk (Kd.R_elder' (by (with_reducible repeat (first | apply Kd.R_alloc | apply Kd.R_drewN | apply Kd.R_drew)); exact (Kd.R_mono (Kd.R_mono (Kd.R_far (p := ⟨gb4584, 0, none⟩) (Kd.R_far (p := ⟨gb4583, 0, none⟩) (Kd.R_types (Kd.R_types HO4574.out BK4583.out (by decide)) BK4584.out (by decide)) (fun _ hk => hk.1.2) (.slice Ao45 t4577.length co45)) (fun _ hk => hk.2) (.slice Ao54 t4580.length co54)) (fun _ h_ => h_.1)) (fun _ h_ => h_.1))) (Kd.R_base ho0) hb); have n3_ := Aside0.mk (Kd.R_elder' (by (with_reducible repeat (first | apply Kd.R_alloc | apply Kd.R_drewN | apply Kd.R_drew)); exact (Kd.R_mono (Kd.R_mono (Kd.R_far (p := ⟨gb4584, 0, none⟩) (Kd.R_far (p := ⟨gb4583, 0, none⟩) (Kd.R_types (Kd.R_types HO4579.out BK4583.out (by decide)) BK4584.out (by decide)) (fun _ hk => hk.1.2) (.slice Ao45 t4577.length co45)) (fun _ hk => hk.2) (.slice Ao54 t4580.length co54)) (fun _ h_ => h_.1)) (fun _ h_ => h_.1))) (Kd.R_base ho0) hb); have n4_ := Aside0.mk (Kd.R_elder' (by (with_reducible repeat (first | apply Kd.R_alloc | apply Kd.R_drewN | apply Kd.R_drew)); exact (Kd.R_mono (Kd.R_mono (Kd.R_far (p := ⟨gb4584, 0, none⟩) (Kd.R_far (p := ⟨gb4583, 0, none⟩) (Kd.R_types (Kd.R_types HO4582.out BK4583.out (by decide)) BK4584.out (by decide)) (fun _ hk => hk.1.2) (.slice Ao45 t4577.length co45)) (fun _ hk => hk.2) (.slice Ao54 t4580.length co54)) (fun _ h_ => h_.1)) (fun _ h_ => h_.1))) (Kd.R_base ho0) hb); have n5_ := Aside0.mk (Kd.R_lower (Kd.R_new' (Kd.R_new' (Kd.R_new' (Kd.R_new' ho0 (Kd.R_lt (by (with_reducible repeat (first | apply Kd.R_alloc | apply Kd.R_drewN | apply Kd.R_drew)); exact (Kd.R_mono (Kd.R_mono (Kd.R_far (p := ⟨gb4584, 0, none⟩) (Kd.R_far (p := ⟨gb4583, 0, none⟩) (Kd.R_types (Kd.R_types HO4571.out BK4583.out (by decide)) BK4584.out (by decide)) (fun _ hk => hk.1.2) (.slice Ao45 t4577.length co45)) (fun _ hk => hk.2) (.slice Ao54 t4580.length co54)) (fun _ h_ => h_.1)) (fun _ h_ => h_.1))))) (Kd.R_lt (by (with_reducible repeat (first | apply Kd.R_alloc | apply Kd.R_drewN | apply Kd.R_drew)); exact (Kd.R_mono (Kd.R_mono (Kd.R_far (p := ⟨gb4584, 0, none⟩) (Kd.R_far (p := ⟨gb4583, 0, none⟩) (Kd.R_types (Kd.R_types HO4574.out BK4583.out (by decide)) BK4584.out (by decide)) (fun _ hk => hk.1.2) (.slice Ao45 t4577.length co45)) (fun _ hk => hk.2) (.slice Ao54 t4580.length co54)) (fun _ h_ => h_.1)) (fun _ h_ => h_.1))))) (Kd.R_lt (by (with_reducible repeat (first | apply Kd.R_alloc | apply Kd.R_drewN | apply Kd.R_drew)); exact (Kd.R_mono (Kd.R_mono (Kd.R_far (p := ⟨gb4584, 0, none⟩) (Kd.R_far (p := ⟨gb4583, 0, none⟩) (Kd.R_types (Kd.R_types HO4579.out BK4583.out (by decide)) BK4584.out (by decide)) (fun _ hk => hk.1.2) (.slice Ao45 t4577.length co45)) (fun _ hk => hk.2) (.slice Ao54 t4580.length co54)) (fun _ h_ => h_.1)) (fun _ h_ => h_.1))))) (Kd.R_lt (by (with_reducible repeat (first | apply Kd.R_alloc | apply Kd.R_drewN | apply Kd.R_drew)); exact (Kd.R_mono (Kd.R_mono (Kd.R_far (p := ⟨gb4584, 0, none⟩) (Kd.R_far (p := ⟨gb4583, 0, none⟩) (Kd.R_types (Kd.R_types HO4582.out BK4583.out (by decide)) BK4584.out (by decide)) (fun _ hk => hk.1.2) (.slice Ao45 t4577.length co45)) (fun _ hk => hk.2) (.slice Ao54 t4580.length co54)) (fun _ h_ => h_.1)) (fun _ h_ => h_.1))))) (below_size (by repeat (first | (with_reducible first | exact HB.out | apply below_alloc | apply pw_below_drewN | apply below_drew1 | refine below_set ?_ GE4562.out | refine below_set ?_ GE4563.out | refine below_set ?_ GE4564.out | refine below_set ?_ GE4568.out | refine below_set ?_ GE4575.out | refine below_set ?_ GE4576.out | refine below_set ?_ GE4583.out | refine below_set ?_ GE4584.out) | exact HB.out)))); have n6_ := Aside0.mk (blk_below (g := gb4562) (o := .cells #[.slice A0_0 l0_0.length c0_0] 28 (0, 0)) (by refine blk_far ?_ NB4562_4584.out _; refine blk_far ?_ NB4562_4583.out _; exact BK4562.out) hb); have n7_ := Aside0.mk (blk_below (g := gb4563) (o := .cells #[.slice A1_0 l1_0.length c1_0] 28 (0, 0)) (by refine blk_far ?_ NB4563_4584.out _; refine blk_far ?_ NB4563_4583.out _; exact BK4563.out) hb); have n8_ := Aside0.mk (blk_below (g := gb4564) (o := .cells #[.int .i64 0, .int .i64 0] 57 (0, 0)) (by refine blk_far ?_ NB4564_4584.out _; refine blk_far ?_ NB4564_4583.out _; exact BK4564.out) hb); have n9_ := Aside0.mk (blk_below (g := gb4568) (o := .cells #[.slice Ao18 t4565.length co18] 28 (0, 0)) (by refine blk_far ?_ NB4568_4584.out _; refine blk_far ?_ NB4568_4583.out _; exact BK4568.out) hb); have n10_ := Aside0.mk (blk_below (g := gb4575) (o := .cells #[.slice Ao27 t4569.length co27] 28 (0, 0)) (by refine blk_far ?_ NB4575_4584.out _; refine blk_far ?_ NB4575_4583.out _; exact BK4575.out) hb); have n11_ := Aside0.mk (blk_below (g := gb4576) (o := .cells #[.slice Ao34 t4572.length co34] 28 (0, 0)) (by refine blk_far ?_ NB4576_4584.out _; refine blk_far ?_ NB4576_4583.out _; exact BK4576.out) hb); have n12_ := Aside0.mk (blk_below (g := gb4583) (o := .cells #[.slice Ao45 t4577.length co45] 28 (0, 0)) (by refine blk_far ?_ NB4583_4584.out _; refine blk_put (cs := #[.slice none 0 0]) ?_ 0 _ rfl; exact BK4583.out) hb); have n13_ := Aside0.mk (blk_below (g := gb4584) (o := .cells #[.slice Ao54 t4580.length co54] 28 (0, 0)) (by refine blk_put (cs := #[.slice none 0 0]) ?_ 0 _ rfl; refine blk_far ?_ NB4584_4583.out _; exact BK4584.out) hb); have n14_ := Aside0.mk (below_step (by repeat (first | (with_reducible first | exact HB.out | apply below_alloc | apply pw_below_drewN | apply below_drew1 | refine below_set ?_ GE4562.out | refine below_set ?_ GE4563.out | refine below_set ?_ GE4564.out | refine below_set ?_ GE4568.out | refine below_set ?_ GE4575.out | refine below_set ?_ GE4576.out | refine below_set ?_ GE4583.out | refine below_set ?_ GE4584.out) | exact HB.out)) hb); clear HO4567 HO4571 HO4574 HO4579; clear HO4582 BK4562 BK4563 BK4564; clear BK4568 BK4575 BK4576 BK4583; clear BK4584 HB; have HO4567 := n0_; have HO4571 := n1_; have HO4574 := n2_; have HO4579 := n3_; have HO4582 := n4_; have HO4587 := n5_; have BK4562 := n6_; have BK4563 := n7_; have BK4564 := n8_; have BK4568 := n9_; have BK4575 := n10_; have BK4576 := n11_; have BK4583 := n12_; have BK4584 := n13_; have HB := n14_; clear n0_ n1_ n2_ n3_ n4_ n5_ n6_ n7_ n8_ n9_ n10_ n11_ n12_ n13_ n14_; (try clear hb); (try clear ho0)) | ((with_reducible refine gate_dst (N := 11) rfl ?_); refine box_event ?hg (N := 11) ?hd (cs := #[.slice none 0 0]) (t := 28) ?hr ?_; (case hd => rfl); (case hg => rfl); (case hr => go_simp); intro gb4588 hg w63 hbox hb; have n0_ := Aside0.mk (Kd.V_below (Kd.V_elderB HO4567.out gb4588 (Nat.le_of_eq hg.symm)) hb); have n1_ := Aside0.mk (Kd.R_below HO4571.out hb); have n2_ := Aside0.mk (Kd.R_below HO4574.out hb); have n3_ := Aside0.mk (Kd.R_below HO4579.out hb); have n4_ := Aside0.mk (Kd.R_below HO4582.out hb); have n5_ := Aside0.mk (Kd.R_below HO4587.out hb); have n6_ := Aside0.mk (blk_below BK4562.out hb); have n7_ := Aside0.mk (blk_below BK4563.out hb); have n8_ := Aside0.mk (blk_below BK4564.out hb); have n9_ := Aside0.mk (blk_below BK4568.out hb); have n10_ := Aside0.mk (blk_below BK4575.out hb); have n11_ := Aside0.mk (blk_below BK4576.out hb); have n12_ := Aside0.mk (blk_below BK4583.out hb); have n13_ := Aside0.mk (blk_below BK4584.out hb); have n14_ := Aside0.mk (below_step (by repeat (first | (with_reducible first | exact HB.out | apply below_alloc | apply pw_below_drewN | apply below_drew1 | refine below_set ?_ GE4562.out | refine below_set ?_ GE4563.out | refine below_set ?_ GE4564.out | refine below_set ?_ GE4568.out | refine below_set ?_ GE4575.out | refine below_set ?_ GE4576.out | refine below_set ?_ GE4583.out | refine below_set ?_ GE4584.out) | exact HB.out)) hb); have n15_ := Aside0.mk (hbox); have n16_ := Aside0.mk ((by rw [hg]; exact (below_size (by repeat (first | (with_reducible first | exact HB.out | apply below_alloc | apply pw_below_drewN | apply below_drew1 | refine below_set ?_ GE4562.out | refine below_set ?_ GE4563.out | refine below_set ?_ GE4564.out | refine below_set ?_ GE4568.out | refine below_set ?_ GE4575.out | refine below_set ?_ GE4576.out | refine below_set ?_ GE4583.out | refine below_set ?_ GE4584.out) | exact HB.out))) : w.heap.size ≤ gb4588)); have n17_ := Aside0.mk ((by rw [hg]; exact (below_size (by repeat (first | (with_reducible first | exact HB.out | apply below_alloc | apply pw_below_drewN | apply below_drew1 | refine below_set ?_ GE4562.out | refine below_set ?_ GE4563.out | refine below_set ?_ GE4564.out | refine below_set ?_ GE4568.out | refine below_set ?_ GE4575.out | refine below_set ?_ GE4576.out | refine below_set ?_ GE4583.out | refine below_set ?_ GE4584.out) | exact HB.out))) : w.heap.size ≤ gb4588)); have n18_ := Aside0.mk ((by rw [hg]; exact Nat.ne_of_lt (blk_lt (g := gb4562) (o := .cells #[.slice A0_0 l0_0.length c0_0] 28 (0, 0)) BK4562.out) : gb4562 ≠ gb4588)); have n19_ := Aside0.mk ((by rw [hg]; exact Nat.ne_of_gt (blk_lt (g := gb4562) (o := .cells #[.slice A0_0 l0_0.length c0_0] 28 (0, 0)) BK4562.out) : gb4588 ≠ gb4562)); have n20_ := Aside0.mk ((by rw [hg]; exact Nat.ne_of_lt (blk_lt (g := gb4563) (o := .cells #[.slice A1_0 l1_0.length c1_0] 28 (0, 0)) BK4563.out) : gb4563 ≠ gb4588)); have n21_ := Aside0.mk ((by rw [hg]; exact Nat.ne_of_gt (blk_lt (g := gb4563) (o := .cells #[.slice A1_0 l1_0.length c1_0] 28 (0, 0)) BK4563.out) : gb4588 ≠ gb4563)); have n22_ := Aside0.mk ((by rw [hg]; exact Nat.ne_of_lt (blk_lt (g := gb4564) (o := .cells #[.int .i64 0, .int .i64 0] 57 (0, 0)) BK4564.out) : gb4564 ≠ gb4588)); have n23_ := Aside0.mk ((by rw [hg]; exact Nat.ne_of_gt (blk_lt (g := gb4564) (o := .cells #[.int .i64 0, .int .i64 0] 57 (0, 0)) BK4564.out) : gb4588 ≠ gb4564)); have n24_ := Aside0.mk ((by rw [hg]; exact Nat.ne_of_lt (blk_lt (g := gb4568) (o := .cells #[.slice Ao18 t4565.length co18] 28 (0, 0)) BK4568.out) : gb4568 ≠ gb4588)); have n25_ := Aside0.mk ((by rw [hg]; exact Nat.ne_of_gt (blk_lt (g := gb4568) (o := .cells #[.slice Ao18 t4565.length co18] 28 (0, 0)) BK4568.out) : gb4588 ≠ gb4568)); have n26_ := Aside0.mk ((by rw [hg]; exact Nat.ne_of_lt (blk_lt (g := gb4575) (o := .cells #[.slice Ao27 t4569.length co27] 28 (0, 0)) BK4575.out) : gb4575 ≠ gb4588)); have n27_ := Aside0.mk ((by rw [hg]; exact Nat.ne_of_gt (blk_lt (g := gb4575) (o := .cells #[.slice Ao27 t4569.length co27] 28 (0, 0)) BK4575.out) : gb4588 ≠ gb4575)); have n28_ := Aside0.mk ((by rw [hg]; exact Nat.ne_of_lt (blk_lt (g := gb4576) (o := .cells #[.slice Ao34 t4572.length co34] 28 (0, 0)) BK4576.out) : gb4576 ≠ gb4588)); have n29_ := Aside0.mk ((by rw [hg]; exact Nat.ne_of_gt (blk_lt (g := gb4576) (o := .cells #[.slice Ao34 t4572.length co34] 28 (0, 0)) BK4576.out) : gb4588 ≠ gb4576)); have n30_ := Aside0.mk ((by rw [hg]; exact Nat.ne_of_lt (blk_lt (g := gb4583) (o := .cells #[.slice Ao45 t4577.length co45] 28 (0, 0)) BK4583.out) : gb4583 ≠ gb4588)); have n31_ := Aside0.mk ((by rw [hg]; exact Nat.ne_of_gt (blk_lt (g := gb4583) (o := .cells #[.slice Ao45 t4577.length co45] 28 (0, 0)) BK4583.out) : gb4588 ≠ gb4583)); have n32_ := Aside0.mk ((by rw [hg]; exact Nat.ne_of_lt (blk_lt (g := gb4584) (o := .cells #[.slice Ao54 t4580.length co54] 28 (0, 0)) BK4584.out) : gb4584 ≠ gb4588)); have n33_ := Aside0.mk ((by rw [hg]; exact Nat.ne_of_gt (blk_lt (g := gb4584) (o := .cells #[.slice Ao54 t4580.length co54] 28 (0, 0)) BK4584.out) : gb4588 ≠ gb4584)); clear HO4567 HO4571 HO4574 HO4579; clear HO4582 HO4587 BK4562 BK4563; clear BK4564 BK4568 BK4575 BK4576; clear BK4583 BK4584; clear HB; have HO4567 := n0_; have HO4571 := n1_; have HO4574 := n2_; have HO4579 := n3_; have HO4582 := n4_; have HO4587 := n5_; have BK4562 := n6_; have BK4563 := n7_; have BK4564 := n8_; have BK4568 := n9_; have BK4575 := n10_; have BK4576 := n11_; have BK4583 := n12_; have BK4584 := n13_; have HB := n14_; have BK4588 := n15_; have GW4588 := n16_; have GE4588 := n17_; have NB4562_4588 := n18_; have NB4588_4562 := n19_; have NB4563_4588 := n20_; have NB4588_4563 := n21_; have NB4564_4588 := n22_; have NB4588_4564 := n23_; have NB4568_4588 := n24_; have NB4588_4568 := n25_; have NB4575_4588 := n26_; have NB4588_4575 := n27_; have NB4576_4588 := n28_; have NB4588_4576 := n29_; have NB4583_4588 := n30_; have NB4588_4583 := n31_; have NB4584_4588 := n32_; have NB4588_4584 := n33_; clear n0_ n1_ n2_ n3_ n4_ n5_ n6_ n7_ n8_ n9_ n10_ n11_ n12_ n13_ n14_ n15_ n16_ n17_ n18_ n19_ n20_ n21_ n22_ n23_ n24_ n25_ n26_ n27_ n28_ n29_ n30_ n31_ n32_ n33_; clear hb hbox hg; obtain ⟨Ao64, co64, eo64⟩ := Kd.R_slice HO4587.out; subst eo64; have hnb65 := NB4588_4562.out; have hnc65 := NB4562_4588.out; have hnb66 := NB4588_4563.out; have hnc66 := NB4563_4588.out; have hnb67 := NB4588_4564.out; have hnc67 := NB4564_4588.out; have hnb68 := NB4588_4568.out; have hnc68 := NB4568_4588.out; have hnb69 := NB4588_4575.out; have hnc69 := NB4575_4588.out; have hnb70 := NB4588_4576.out; have hnc70 := NB4576_4588.out; have hnb71 := NB4588_4583.out; have hnc71 := NB4583_4588.out; have hnb72 := NB4588_4584.out; have hnc72 := NB4584_4588.out; have hcz73_0 : w63.cell? ⟨gb4588, 0, none⟩ = some (.slice none 0 0) := (blk_cell BK4588.out 0).trans rfl; have hfz73_0 := blk_frozen BK4588.out 0))
  (try simp only [Act.put, List.setIfInBounds_toArray, List.set_cons_zero, List.set_cons_succ])
  go_cut [37] (fun v37 wc => ∃ (kq : Nat) (x37_6 : Bool), v37 = .bool x37_6 ∧ Aside0 (demurrageref02_Made.j0 kq x37_6 t4569 t4577 = some (r1, r2, r3)) ∧ Aside0 (kq ≤ k) ∧ Aside0 (Kd.V (Kd.int .i64) 3 wc w.heap.size (fun k_ => some k_ ≠ ((.slice Ao27 t4569.length co27) : Value).ownBlock ∧ some k_ ≠ ((.slice Ao34 t4572.length co34) : Value).ownBlock ∧ some k_ ≠ ((.slice Ao45 t4577.length co45) : Value).ownBlock ∧ some k_ ≠ ((.slice Ao54 t4580.length co54) : Value).ownBlock ∧ some k_ ≠ ((.slice Ao64 t4585.length co64) : Value).ownBlock ∧ k_ ≠ gb4562 ∧ k_ ≠ gb4563 ∧ k_ ≠ gb4564 ∧ k_ ≠ gb4568 ∧ k_ ≠ gb4575 ∧ k_ ≠ gb4576 ∧ k_ ≠ gb4583 ∧ k_ ≠ gb4584 ∧ k_ ≠ gb4588) (.slice Ao18 t4565.length co18) t4565) ∧ Aside0 (Kd.R (Kd.int .i64) 3 wc w.heap.size (fun k_ => some k_ ≠ ((.slice Ao34 t4572.length co34) : Value).ownBlock ∧ some k_ ≠ ((.slice Ao45 t4577.length co45) : Value).ownBlock ∧ some k_ ≠ ((.slice Ao54 t4580.length co54) : Value).ownBlock ∧ some k_ ≠ ((.slice Ao64 t4585.length co64) : Value).ownBlock) (.slice Ao27 t4569.length co27) t4569) ∧ Aside0 (Kd.R (Kd.int .i64) 3 wc w.heap.size (fun k_ => some k_ ≠ ((.slice Ao27 t4569.length co27) : Value).ownBlock ∧ some k_ ≠ ((.slice Ao45 t4577.length co45) : Value).ownBlock ∧ some k_ ≠ ((.slice Ao54 t4580.length co54) : Value).ownBlock ∧ some k_ ≠ ((.slice Ao64 t4585.length co64) : Value).ownBlock) (.slice Ao34 t4572.length co34) t4572) ∧ Aside0 (Kd.R (Kd.int .i64) 3 wc w.heap.size (fun k_ => some k_ ≠ ((.slice Ao27 t4569.length co27) : Value).ownBlock ∧ some k_ ≠ ((.slice Ao34 t4572.length co34) : Value).ownBlock ∧ some k_ ≠ ((.slice Ao54 t4580.length co54) : Value).ownBlock ∧ some k_ ≠ ((.slice Ao64 t4585.length co64) : Value).ownBlock) (.slice Ao45 t4577.length co45) t4577) ∧ Aside0 (Kd.R (Kd.int .i64) 3 wc w.heap.size (fun k_ => some k_ ≠ ((.slice Ao27 t4569.length co27) : Value).ownBlock ∧ some k_ ≠ ((.slice Ao34 t4572.length co34) : Value).ownBlock ∧ some k_ ≠ ((.slice Ao45 t4577.length co45) : Value).ownBlock ∧ some k_ ≠ ((.slice Ao64 t4585.length co64) : Value).ownBlock) (.slice Ao54 t4580.length co54) t4580) ∧ Aside0 (Kd.R (Kd.int .i64) 3 wc w.heap.size (fun k_ => some k_ ≠ ((.slice Ao27 t4569.length co27) : Value).ownBlock ∧ some k_ ≠ ((.slice Ao34 t4572.length co34) : Value).ownBlock ∧ some k_ ≠ ((.slice Ao45 t4577.length co45) : Value).ownBlock ∧ some k_ ≠ ((.slice Ao54 t4580.length co54) : Value).ownBlock) (.slice Ao64 t4585.length co64) t4585) ∧ Aside0 (wc.heap[gb4562]? = some (.cells #[(.slice A0_0 l0_0.length c0_0)] 28 (0, 0))) ∧ Aside0 (wc.heap[gb4563]? = some (.cells #[(.slice A1_0 l1_0.length c1_0)] 28 (0, 0))) ∧ Aside0 (wc.heap[gb4564]? = some (.cells #[.int .i64 0, .int .i64 0] 57 (0, 0))) ∧ Aside0 (wc.heap[gb4568]? = some (.cells #[(.slice Ao18 t4565.length co18)] 28 (0, 0))) ∧ Aside0 (wc.heap[gb4575]? = some (.cells #[(.slice Ao27 t4569.length co27)] 28 (0, 0))) ∧ Aside0 (wc.heap[gb4576]? = some (.cells #[(.slice Ao34 t4572.length co34)] 28 (0, 0))) ∧ Aside0 (wc.heap[gb4583]? = some (.cells #[(.slice Ao45 t4577.length co45)] 28 (0, 0))) ∧ Aside0 (wc.heap[gb4584]? = some (.cells #[(.slice Ao54 t4580.length co54)] 28 (0, 0))) ∧ Aside0 (wc.heap[gb4588]? = some (.cells #[(.slice Ao64 t4585.length co64)] 28 (0, 0))) ∧ Aside0 (Below w.heap.size w wc))
  case first =>
    have H := HC7.out
    clear HC7
    replace H := Option.bind_eq_some_iff.mp H
    obtain ⟨t4589, A740, H⟩ := H
    replace H : (if t4589 > 0 then (demurrageref02_Made.j0 k true t4569 t4577) else ((demurrageref01_Cmp.f k t4577 t4585).bind fun t4590 => (demurrageref02_Made.j0 k (decide (t4590 > 0)) t4569 t4577))) = some (r1, r2, r3) := H
    have A74 := Aside0.mk A740
    clear A740
    by_cases c75 : t4589 > 0
    · rw [if_pos c75] at H
      have c75b0 : decide (0 < t4589) = true := decide_eq_true c75
      clear c75
      (first | rw [c75b0] | (simp only [i64_w, i32_w]; rw [c75b0]) | rw [c75b1] | skip)
      have H' := Aside0.mk H
      clear H
      have hnb76 := NB4575_4562.out
      have hnc76 := NB4562_4575.out
      have hnb77 := NB4575_4563.out
      have hnc77 := NB4563_4575.out
      have hnb78 := NB4575_4564.out
      have hnc78 := NB4564_4575.out
      have hnb79 := NB4575_4568.out
      have hnc79 := NB4568_4575.out
      have hnb80 := NB4575_4576.out
      have hnc80 := NB4576_4575.out
      have hnb81 := NB4575_4583.out
      have hnc81 := NB4583_4575.out
      have hnb82 := NB4575_4584.out
      have hnc82 := NB4584_4575.out
      have hnb83 := NB4575_4588.out
      have hnc83 := NB4588_4575.out
      have hcz84_0 : w63.cell? ⟨gb4575, 0, none⟩ = some (.slice Ao27 t4569.length co27) := (blk_cell BK4575.out 0).trans rfl
      have hfz84_0 := blk_frozen BK4575.out 0
      have hnb85 := NB4588_4562.out
      have hnc85 := NB4562_4588.out
      have hnb86 := NB4588_4563.out
      have hnc86 := NB4563_4588.out
      have hnb87 := NB4588_4564.out
      have hnc87 := NB4564_4588.out
      have hnb88 := NB4588_4568.out
      have hnc88 := NB4568_4588.out
      have hnb89 := NB4588_4576.out
      have hnc89 := NB4576_4588.out
      have hnb90 := NB4588_4583.out
      have hnc90 := NB4583_4588.out
      have hnb91 := NB4588_4584.out
      have hnc91 := NB4584_4588.out
      have hcz92_0 : w63.cell? ⟨gb4588, 0, none⟩ = some (.slice none 0 0) := (blk_cell BK4588.out 0).trans rfl
      have hfz92_0 := blk_frozen BK4588.out 0
      go_wp2_with (first | ((with_reducible refine gate_callee (f := 31) rfl ?_); refine goesL_ (some 30) rfl rfl Try.func31 (by kernel_rfl) rfl #[.agg #[.slice Ao27 t4569.length co27], .agg #[.slice Ao64 t4585.length co64]] rfl (by (try simp only [List.map_toArray, List.map_cons, List.map_nil]); first | done | rfl) ?_; (with_reducible refine (demurrageref01_Cmp.calls k _ _ t4569 _ _ t4585 t4589 _ ?side1 ?side2 ?side3 ?side4 A74.out).mono ?_); (case side1 => refine (Kd.R_reads' (e := 3) (base := w.heap.size) (ok := fun k_ => (((some k_ ≠ (.slice Ao34 t4572.length co34 : Value).ownBlock ∧ some k_ ≠ (.slice Ao45 t4577.length co45 : Value).ownBlock) ∧ some k_ ≠ (.slice Ao54 t4580.length co54 : Value).ownBlock) ∧ some k_ ≠ (.slice Ao64 t4585.length co64 : Value).ownBlock)) (n := t4569.length) (c := co27) ?_).2.2; exact (by (with_reducible repeat (first | apply Kd.R_alloc | apply Kd.R_drewN | apply Kd.R_drew)); exact (Kd.R_mono (Kd.R_far (p := ⟨gb4588, 0, none⟩) (Kd.R_types HO4571.out BK4588.out (by decide)) (fun _ hk => hk.2) (.slice Ao64 t4585.length co64)) (fun _ h_ => h_.1)))); (case side2 => exact (Kd.R_reads' HO4571.out).2.1); (case side3 => refine (Kd.R_reads' (e := 3) (base := w.heap.size) (ok := fun k_ => ((((True ∧ some k_ ≠ (.slice Ao27 t4569.length co27 : Value).ownBlock) ∧ some k_ ≠ (.slice Ao34 t4572.length co34 : Value).ownBlock) ∧ some k_ ≠ (.slice Ao45 t4577.length co45 : Value).ownBlock) ∧ some k_ ≠ (.slice Ao54 t4580.length co54 : Value).ownBlock)) (n := t4585.length) (c := co64) ?_).2.2; exact (by (with_reducible repeat (first | apply Kd.R_alloc | apply Kd.R_drewN | apply Kd.R_drew)); exact (Kd.R_mono (Kd.R_far (p := ⟨gb4588, 0, none⟩) (Kd.R_types HO4587.out BK4588.out (by decide)) (fun _ hk => hk.2) (.slice Ao64 t4585.length co64)) (fun _ h_ => h_.1)))); (case side4 => exact (Kd.R_reads' HO4587.out).2.1); rintro e w93 ⟨rfl, hb⟩; refine ⟨_, rfl, ?_⟩; have n0_ := Aside0.mk (Kd.V_below (by (with_reducible repeat (first | apply Kd.V_alloc | apply Kd.V_drewN | apply Kd.V_drew)); exact (Kd.V_mono (Kd.V_far (p := ⟨gb4588, 0, none⟩) (Kd.V_mono HO4567.out (fun k_ hk => (⟨hk, hk.2⟩ : _ ∧ k_ ≠ gb4588))) (fun _ hk => hk.2) (.slice Ao64 t4585.length co64)) (fun _ h_ => h_.1))) hb); have n1_ := Aside0.mk (Kd.R_below (by (with_reducible repeat (first | apply Kd.R_alloc | apply Kd.R_drewN | apply Kd.R_drew)); exact (Kd.R_mono (Kd.R_far (p := ⟨gb4588, 0, none⟩) (Kd.R_types HO4571.out BK4588.out (by decide)) (fun _ hk => hk.2) (.slice Ao64 t4585.length co64)) (fun _ h_ => h_.1))) hb); have n2_ := Aside0.mk (Kd.R_below (by (with_reducible repeat (first | apply Kd.R_alloc | apply Kd.R_drewN | apply Kd.R_drew)); exact (Kd.R_mono (Kd.R_far (p := ⟨gb4588, 0, none⟩) (Kd.R_types HO4574.out BK4588.out (by decide)) (fun _ hk => hk.2) (.slice Ao64 t4585.length co64)) (fun _ h_ => h_.1))) hb); have n3_ := Aside0.mk (Kd.R_below (by (with_reducible repeat (first | apply Kd.R_alloc | apply Kd.R_drewN | apply Kd.R_drew)); exact (Kd.R_mono (Kd.R_far (p := ⟨gb4588, 0, none⟩) (Kd.R_types HO4579.out BK4588.out (by decide)) (fun _ hk => hk.2) (.slice Ao64 t4585.length co64)) (fun _ h_ => h_.1))) hb); have n4_ := Aside0.mk (Kd.R_below (by (with_reducible repeat (first | apply Kd.R_alloc | apply Kd.R_drewN | apply Kd.R_drew)); exact (Kd.R_mono (Kd.R_far (p := ⟨gb4588, 0, none⟩) (Kd.R_types HO4582.out BK4588.out (by decide)) (fun _ hk => hk.2) (.slice Ao64 t4585.length co64)) (fun _ h_ => h_.1))) hb); have n5_ := Aside0.mk (Kd.R_below (by (with_reducible repeat (first | apply Kd.R_alloc | apply Kd.R_drewN | apply Kd.R_drew)); exact (Kd.R_mono (Kd.R_far (p := ⟨gb4588, 0, none⟩) (Kd.R_types HO4587.out BK4588.out (by decide)) (fun _ hk => hk.2) (.slice Ao64 t4585.length co64)) (fun _ h_ => h_.1))) hb); have n6_ := Aside0.mk (blk_below (g := gb4562) (o := .cells #[.slice A0_0 l0_0.length c0_0] 28 (0, 0)) (by refine blk_far ?_ NB4562_4588.out _; exact BK4562.out) hb); have n7_ := Aside0.mk (blk_below (g := gb4563) (o := .cells #[.slice A1_0 l1_0.length c1_0] 28 (0, 0)) (by refine blk_far ?_ NB4563_4588.out _; exact BK4563.out) hb); have n8_ := Aside0.mk (blk_below (g := gb4564) (o := .cells #[.int .i64 0, .int .i64 0] 57 (0, 0)) (by refine blk_far ?_ NB4564_4588.out _; exact BK4564.out) hb); have n9_ := Aside0.mk (blk_below (g := gb4568) (o := .cells #[.slice Ao18 t4565.length co18] 28 (0, 0)) (by refine blk_far ?_ NB4568_4588.out _; exact BK4568.out) hb); have n10_ := Aside0.mk (blk_below (g := gb4575) (o := .cells #[.slice Ao27 t4569.length co27] 28 (0, 0)) (by refine blk_far ?_ NB4575_4588.out _; exact BK4575.out) hb); have n11_ := Aside0.mk (blk_below (g := gb4576) (o := .cells #[.slice Ao34 t4572.length co34] 28 (0, 0)) (by refine blk_far ?_ NB4576_4588.out _; exact BK4576.out) hb); have n12_ := Aside0.mk (blk_below (g := gb4583) (o := .cells #[.slice Ao45 t4577.length co45] 28 (0, 0)) (by refine blk_far ?_ NB4583_4588.out _; exact BK4583.out) hb); have n13_ := Aside0.mk (blk_below (g := gb4584) (o := .cells #[.slice Ao54 t4580.length co54] 28 (0, 0)) (by refine blk_far ?_ NB4584_4588.out _; exact BK4584.out) hb); have n14_ := Aside0.mk (blk_below (g := gb4588) (o := .cells #[.slice Ao64 t4585.length co64] 28 (0, 0)) (by refine blk_put (cs := #[.slice none 0 0]) ?_ 0 _ rfl; exact BK4588.out) hb); have n15_ := Aside0.mk (below_step (by repeat (first | (with_reducible first | exact HB.out | apply below_alloc | apply pw_below_drewN | apply below_drew1 | refine below_set ?_ GE4562.out | refine below_set ?_ GE4563.out | refine below_set ?_ GE4564.out | refine below_set ?_ GE4568.out | refine below_set ?_ GE4575.out | refine below_set ?_ GE4576.out | refine below_set ?_ GE4583.out | refine below_set ?_ GE4584.out | refine below_set ?_ GE4588.out) | exact HB.out)) hb); clear HO4567 HO4571 HO4574 HO4579; clear HO4582 HO4587 BK4562 BK4563; clear BK4564 BK4568 BK4575 BK4576; clear BK4583 BK4584 BK4588 HB; have HO4567 := n0_; have HO4571 := n1_; have HO4574 := n2_; have HO4579 := n3_; have HO4582 := n4_; have HO4587 := n5_; have BK4562 := n6_; have BK4563 := n7_; have BK4564 := n8_; have BK4568 := n9_; have BK4575 := n10_; have BK4576 := n11_; have BK4583 := n12_; have BK4584 := n13_; have BK4588 := n14_; have HB := n15_; clear n0_ n1_ n2_ n3_ n4_ n5_ n6_ n7_ n8_ n9_ n10_ n11_ n12_ n13_ n14_ n15_; (try clear hb)))
      go_meet
      case rel => exact ⟨_, (true), (by first | rfl | (simp; done) | (simp [*]; done)), H', ⟨by first | omega | exact Nat.le_refl _⟩, ⟨by (with_reducible repeat (first | apply Kd.V_alloc | apply Kd.V_drewN | apply Kd.V_drew)); exact Kd.V_mono HO4567.out (fun _ hk => (And.intro (hk.1.1.1.1.1.1.1.1.1.2) ((And.intro (hk.1.1.1.1.1.1.1.1.2) ((And.intro (hk.1.1.1.1.1.2) ((And.intro (hk.1.1.1.1.2) ((And.intro (hk.1.2) ((And.intro (hk.1.1.1.1.1.1.1.1.1.1.1.1) ((And.intro (hk.1.1.1.1.1.1.1.1.1.1.1.2.1) ((And.intro (hk.1.1.1.1.1.1.1.1.1.1.1.2.2) ((And.intro (hk.1.1.1.1.1.1.1.1.1.1.2) ((And.intro (hk.1.1.1.1.1.1.1.2) ((And.intro (hk.1.1.1.1.1.1.2) ((And.intro (hk.1.1.1.2) ((And.intro (hk.1.1.2) (hk.2)))))))))))))))))))))))))))⟩, ⟨by (with_reducible repeat (first | apply Kd.R_alloc | apply Kd.R_drewN | apply Kd.R_drew)); exact Kd.R_mono HO4571.out (fun _ hk => (And.intro (hk.1.1.1) ((And.intro (hk.1.1.2) ((And.intro (hk.1.2) (hk.2)))))))⟩, ⟨by (with_reducible repeat (first | apply Kd.R_alloc | apply Kd.R_drewN | apply Kd.R_drew)); exact Kd.R_mono HO4574.out (fun _ hk => (And.intro (hk.1.1.1) ((And.intro (hk.1.1.2) ((And.intro (hk.1.2) (hk.2)))))))⟩, ⟨by (with_reducible repeat (first | apply Kd.R_alloc | apply Kd.R_drewN | apply Kd.R_drew)); exact Kd.R_mono HO4579.out (fun _ hk => (And.intro (hk.1.1.2) ((And.intro (hk.1.2) ((And.intro (hk.1.1.1) (hk.2)))))))⟩, ⟨by (with_reducible repeat (first | apply Kd.R_alloc | apply Kd.R_drewN | apply Kd.R_drew)); exact Kd.R_mono HO4582.out (fun _ hk => (And.intro (hk.1.1.2) ((And.intro (hk.1.2) ((And.intro (hk.1.1.1) (hk.2)))))))⟩, ⟨by (with_reducible repeat (first | apply Kd.R_alloc | apply Kd.R_drewN | apply Kd.R_drew)); exact Kd.R_mono HO4587.out (fun _ hk => (And.intro (hk.1.1.1.2) ((And.intro (hk.1.1.2) ((And.intro (hk.1.2) (hk.2)))))))⟩, BK4562, BK4563, BK4564, BK4568, BK4575, BK4576, BK4583, BK4584, BK4588, ⟨by repeat (first | (with_reducible first | exact HB.out | apply below_alloc | apply pw_below_drewN | apply below_drew1 | refine below_set ?_ GE4562.out | refine below_set ?_ GE4563.out | refine below_set ?_ GE4564.out | refine below_set ?_ GE4568.out | refine below_set ?_ GE4575.out | refine below_set ?_ GE4576.out | refine below_set ?_ GE4583.out | refine below_set ?_ GE4584.out | refine below_set ?_ GE4588.out) | exact HB.out)⟩⟩
    · rw [if_neg c75] at H
      have c75b0 : decide (0 < t4589) = false := decide_eq_false c75
      clear c75
      (first | rw [c75b0] | (simp only [i64_w, i32_w]; rw [c75b0]) | rw [c75b1] | skip)
      replace H := Option.bind_eq_some_iff.mp H
      obtain ⟨t4590, A940, H⟩ := H
      replace H : (demurrageref02_Made.j0 k (decide (t4590 > 0)) t4569 t4577) = some (r1, r2, r3) := H
      have A94 := Aside0.mk A940
      clear A940
      have H' := Aside0.mk H
      clear H
      have hnb95 := NB4575_4562.out
      have hnc95 := NB4562_4575.out
      have hnb96 := NB4575_4563.out
      have hnc96 := NB4563_4575.out
      have hnb97 := NB4575_4564.out
      have hnc97 := NB4564_4575.out
      have hnb98 := NB4575_4568.out
      have hnc98 := NB4568_4575.out
      have hnb99 := NB4575_4576.out
      have hnc99 := NB4576_4575.out
      have hnb100 := NB4575_4583.out
      have hnc100 := NB4583_4575.out
      have hnb101 := NB4575_4584.out
      have hnc101 := NB4584_4575.out
      have hnb102 := NB4575_4588.out
      have hnc102 := NB4588_4575.out
      have hcz103_0 : w63.cell? ⟨gb4575, 0, none⟩ = some (.slice Ao27 t4569.length co27) := (blk_cell BK4575.out 0).trans rfl
      have hfz103_0 := blk_frozen BK4575.out 0
      have hnb104 := NB4588_4562.out
      have hnc104 := NB4562_4588.out
      have hnb105 := NB4588_4563.out
      have hnc105 := NB4563_4588.out
      have hnb106 := NB4588_4564.out
      have hnc106 := NB4564_4588.out
      have hnb107 := NB4588_4568.out
      have hnc107 := NB4568_4588.out
      have hnb108 := NB4588_4576.out
      have hnc108 := NB4576_4588.out
      have hnb109 := NB4588_4583.out
      have hnc109 := NB4583_4588.out
      have hnb110 := NB4588_4584.out
      have hnc110 := NB4584_4588.out
      have hcz111_0 : w63.cell? ⟨gb4588, 0, none⟩ = some (.slice none 0 0) := (blk_cell BK4588.out 0).trans rfl
      have hfz111_0 := blk_frozen BK4588.out 0
      go_wp2_with (first | ((with_reducible refine gate_callee (f := 31) rfl ?_); refine goesL_ (some 30) rfl rfl Try.func31 (by kernel_rfl) rfl #[.agg #[.slice Ao27 t4569.length co27], .agg #[.slice Ao64 t4585.length co64]] rfl (by (try simp only [List.map_toArray, List.map_cons, List.map_nil]); first | done | rfl) ?_; (with_reducible refine (demurrageref01_Cmp.calls k _ _ t4569 _ _ t4585 t4589 _ ?side1 ?side2 ?side3 ?side4 A74.out).mono ?_); (case side1 => refine (Kd.R_reads' (e := 3) (base := w.heap.size) (ok := fun k_ => (((some k_ ≠ (.slice Ao34 t4572.length co34 : Value).ownBlock ∧ some k_ ≠ (.slice Ao45 t4577.length co45 : Value).ownBlock) ∧ some k_ ≠ (.slice Ao54 t4580.length co54 : Value).ownBlock) ∧ some k_ ≠ (.slice Ao64 t4585.length co64 : Value).ownBlock)) (n := t4569.length) (c := co27) ?_).2.2; exact (by (with_reducible repeat (first | apply Kd.R_alloc | apply Kd.R_drewN | apply Kd.R_drew)); exact (Kd.R_mono (Kd.R_far (p := ⟨gb4588, 0, none⟩) (Kd.R_types HO4571.out BK4588.out (by decide)) (fun _ hk => hk.2) (.slice Ao64 t4585.length co64)) (fun _ h_ => h_.1)))); (case side2 => exact (Kd.R_reads' HO4571.out).2.1); (case side3 => refine (Kd.R_reads' (e := 3) (base := w.heap.size) (ok := fun k_ => ((((True ∧ some k_ ≠ (.slice Ao27 t4569.length co27 : Value).ownBlock) ∧ some k_ ≠ (.slice Ao34 t4572.length co34 : Value).ownBlock) ∧ some k_ ≠ (.slice Ao45 t4577.length co45 : Value).ownBlock) ∧ some k_ ≠ (.slice Ao54 t4580.length co54 : Value).ownBlock)) (n := t4585.length) (c := co64) ?_).2.2; exact (by (with_reducible repeat (first | apply Kd.R_alloc | apply Kd.R_drewN | apply Kd.R_drew)); exact (Kd.R_mono (Kd.R_far (p := ⟨gb4588, 0, none⟩) (Kd.R_types HO4587.out BK4588.out (by decide)) (fun _ hk => hk.2) (.slice Ao64 t4585.length co64)) (fun _ h_ => h_.1)))); (case side4 => exact (Kd.R_reads' HO4587.out).2.1); rintro e w112 ⟨rfl, hb⟩; refine ⟨_, rfl, ?_⟩; have n0_ := Aside0.mk (Kd.V_below (by (with_reducible repeat (first | apply Kd.V_alloc | apply Kd.V_drewN | apply Kd.V_drew)); exact (Kd.V_mono (Kd.V_far (p := ⟨gb4588, 0, none⟩) (Kd.V_mono HO4567.out (fun k_ hk => (⟨hk, hk.2⟩ : _ ∧ k_ ≠ gb4588))) (fun _ hk => hk.2) (.slice Ao64 t4585.length co64)) (fun _ h_ => h_.1))) hb); have n1_ := Aside0.mk (Kd.R_below (by (with_reducible repeat (first | apply Kd.R_alloc | apply Kd.R_drewN | apply Kd.R_drew)); exact (Kd.R_mono (Kd.R_far (p := ⟨gb4588, 0, none⟩) (Kd.R_types HO4571.out BK4588.out (by decide)) (fun _ hk => hk.2) (.slice Ao64 t4585.length co64)) (fun _ h_ => h_.1))) hb); have n2_ := Aside0.mk (Kd.R_below (by (with_reducible repeat (first | apply Kd.R_alloc | apply Kd.R_drewN | apply Kd.R_drew)); exact (Kd.R_mono (Kd.R_far (p := ⟨gb4588, 0, none⟩) (Kd.R_types HO4574.out BK4588.out (by decide)) (fun _ hk => hk.2) (.slice Ao64 t4585.length co64)) (fun _ h_ => h_.1))) hb); have n3_ := Aside0.mk (Kd.R_below (by (with_reducible repeat (first | apply Kd.R_alloc | apply Kd.R_drewN | apply Kd.R_drew)); exact (Kd.R_mono (Kd.R_far (p := ⟨gb4588, 0, none⟩) (Kd.R_types HO4579.out BK4588.out (by decide)) (fun _ hk => hk.2) (.slice Ao64 t4585.length co64)) (fun _ h_ => h_.1))) hb); have n4_ := Aside0.mk (Kd.R_below (by (with_reducible repeat (first | apply Kd.R_alloc | apply Kd.R_drewN | apply Kd.R_drew)); exact (Kd.R_mono (Kd.R_far (p := ⟨gb4588, 0, none⟩) (Kd.R_types HO4582.out BK4588.out (by decide)) (fun _ hk => hk.2) (.slice Ao64 t4585.length co64)) (fun _ h_ => h_.1))) hb); have n5_ := Aside0.mk (Kd.R_below (by (with_reducible repeat (first | apply Kd.R_alloc | apply Kd.R_drewN | apply Kd.R_drew)); exact (Kd.R_mono (Kd.R_far (p := ⟨gb4588, 0, none⟩) (Kd.R_types HO4587.out BK4588.out (by decide)) (fun _ hk => hk.2) (.slice Ao64 t4585.length co64)) (fun _ h_ => h_.1))) hb); have n6_ := Aside0.mk (blk_below (g := gb4562) (o := .cells #[.slice A0_0 l0_0.length c0_0] 28 (0, 0)) (by refine blk_far ?_ NB4562_4588.out _; exact BK4562.out) hb); have n7_ := Aside0.mk (blk_below (g := gb4563) (o := .cells #[.slice A1_0 l1_0.length c1_0] 28 (0, 0)) (by refine blk_far ?_ NB4563_4588.out _; exact BK4563.out) hb); have n8_ := Aside0.mk (blk_below (g := gb4564) (o := .cells #[.int .i64 0, .int .i64 0] 57 (0, 0)) (by refine blk_far ?_ NB4564_4588.out _; exact BK4564.out) hb); have n9_ := Aside0.mk (blk_below (g := gb4568) (o := .cells #[.slice Ao18 t4565.length co18] 28 (0, 0)) (by refine blk_far ?_ NB4568_4588.out _; exact BK4568.out) hb); have n10_ := Aside0.mk (blk_below (g := gb4575) (o := .cells #[.slice Ao27 t4569.length co27] 28 (0, 0)) (by refine blk_far ?_ NB4575_4588.out _; exact BK4575.out) hb); have n11_ := Aside0.mk (blk_below (g := gb4576) (o := .cells #[.slice Ao34 t4572.length co34] 28 (0, 0)) (by refine blk_far ?_ NB4576_4588.out _; exact BK4576.out) hb); have n12_ := Aside0.mk (blk_below (g := gb4583) (o := .cells #[.slice Ao45 t4577.length co45] 28 (0, 0)) (by refine blk_far ?_ NB4583_4588.out _; exact BK4583.out) hb); have n13_ := Aside0.mk (blk_below (g := gb4584) (o := .cells #[.slice Ao54 t4580.length co54] 28 (0, 0)) (by refine blk_far ?_ NB4584_4588.out _; exact BK4584.out) hb); have n14_ := Aside0.mk (blk_below (g := gb4588) (o := .cells #[.slice Ao64 t4585.length co64] 28 (0, 0)) (by refine blk_put (cs := #[.slice none 0 0]) ?_ 0 _ rfl; exact BK4588.out) hb); have n15_ := Aside0.mk (below_step (by repeat (first | (with_reducible first | exact HB.out | apply below_alloc | apply pw_below_drewN | apply below_drew1 | refine below_set ?_ GE4562.out | refine below_set ?_ GE4563.out | refine below_set ?_ GE4564.out | refine below_set ?_ GE4568.out | refine below_set ?_ GE4575.out | refine below_set ?_ GE4576.out | refine below_set ?_ GE4583.out | refine below_set ?_ GE4584.out | refine below_set ?_ GE4588.out) | exact HB.out)) hb); clear HO4567 HO4571 HO4574 HO4579; clear HO4582 HO4587 BK4562 BK4563; clear BK4564 BK4568 BK4575 BK4576; clear BK4583 BK4584 BK4588 HB; have HO4567 := n0_; have HO4571 := n1_; have HO4574 := n2_; have HO4579 := n3_; have HO4582 := n4_; have HO4587 := n5_; have BK4562 := n6_; have BK4563 := n7_; have BK4564 := n8_; have BK4568 := n9_; have BK4575 := n10_; have BK4576 := n11_; have BK4583 := n12_; have BK4584 := n13_; have BK4588 := n14_; have HB := n15_; clear n0_ n1_ n2_ n3_ n4_ n5_ n6_ n7_ n8_ n9_ n10_ n11_ n12_ n13_ n14_ n15_; (try clear hb); have hnb113 := NB4583_4562.out; have hnc113 := NB4562_4583.out; have hnb114 := NB4583_4563.out; have hnc114 := NB4563_4583.out; have hnb115 := NB4583_4564.out; have hnc115 := NB4564_4583.out; have hnb116 := NB4583_4568.out; have hnc116 := NB4568_4583.out; have hnb117 := NB4583_4576.out; have hnc117 := NB4576_4583.out; have hnb118 := NB4583_4584.out; have hnc118 := NB4584_4583.out; have hcz119_0 : w112.cell? ⟨gb4583, 0, none⟩ = some (.slice Ao45 t4577.length co45) := (blk_cell BK4583.out 0).trans rfl; have hfz119_0 := blk_frozen BK4583.out 0; have hcz120_0 : w112.cell? ⟨gb4588, 0, none⟩ = some (.slice Ao64 t4585.length co64) := (blk_cell BK4588.out 0).trans rfl; have hfz120_0 := blk_frozen BK4588.out 0) | (go_at_call 31; (with_reducible refine (demurrageref01_Cmp.calls k _ _ t4577 _ _ t4585 t4590 _ ?side1 ?side2 ?side3 ?side4 A94.out).mono ?_); (case side1 => repeat (first | exact (Kd.R_reads' HO4579.out).2.2 | (with_reducible refine Kd.C_alloc ?_ _) | (with_reducible refine Kd.C_drewN ?_ _) | (with_reducible refine Kd.C_drew ?_))); (case side2 => exact (Kd.R_reads' HO4579.out).2.1); (case side3 => repeat (first | exact (Kd.R_reads' HO4587.out).2.2 | (with_reducible refine Kd.C_alloc ?_ _) | (with_reducible refine Kd.C_drewN ?_ _) | (with_reducible refine Kd.C_drew ?_))); (case side4 => exact (Kd.R_reads' HO4587.out).2.1); rintro e w121 ⟨rfl, hb⟩; have n0_ := Aside0.mk (Kd.V_below HO4567.out hb); have n1_ := Aside0.mk (Kd.R_below HO4571.out hb); have n2_ := Aside0.mk (Kd.R_below HO4574.out hb); have n3_ := Aside0.mk (Kd.R_below HO4579.out hb); have n4_ := Aside0.mk (Kd.R_below HO4582.out hb); have n5_ := Aside0.mk (Kd.R_below HO4587.out hb); have n6_ := Aside0.mk (blk_below BK4562.out hb); have n7_ := Aside0.mk (blk_below BK4563.out hb); have n8_ := Aside0.mk (blk_below BK4564.out hb); have n9_ := Aside0.mk (blk_below BK4568.out hb); have n10_ := Aside0.mk (blk_below BK4575.out hb); have n11_ := Aside0.mk (blk_below BK4576.out hb); have n12_ := Aside0.mk (blk_below BK4583.out hb); have n13_ := Aside0.mk (blk_below BK4584.out hb); have n14_ := Aside0.mk (blk_below BK4588.out hb); have n15_ := Aside0.mk (below_step (by repeat (first | (with_reducible first | exact HB.out | apply below_alloc | apply pw_below_drewN | apply below_drew1 | refine below_set ?_ GE4562.out | refine below_set ?_ GE4563.out | refine below_set ?_ GE4564.out | refine below_set ?_ GE4568.out | refine below_set ?_ GE4575.out | refine below_set ?_ GE4576.out | refine below_set ?_ GE4583.out | refine below_set ?_ GE4584.out | refine below_set ?_ GE4588.out) | exact HB.out)) hb); clear HO4567 HO4571 HO4574 HO4579; clear HO4582 HO4587 BK4562 BK4563; clear BK4564 BK4568 BK4575 BK4576; clear BK4583 BK4584 BK4588 HB; have HO4567 := n0_; have HO4571 := n1_; have HO4574 := n2_; have HO4579 := n3_; have HO4582 := n4_; have HO4587 := n5_; have BK4562 := n6_; have BK4563 := n7_; have BK4564 := n8_; have BK4568 := n9_; have BK4575 := n10_; have BK4576 := n11_; have BK4583 := n12_; have BK4584 := n13_; have BK4588 := n14_; have HB := n15_; clear n0_ n1_ n2_ n3_ n4_ n5_ n6_ n7_ n8_ n9_ n10_ n11_ n12_ n13_ n14_ n15_; (try clear hb)))
      go_meet
      case rel => exact ⟨_, (decide (t4590 > 0)), (by first | rfl | (simp; done) | (simp [*]; done)), H', ⟨by first | omega | exact Nat.le_refl _⟩, ⟨by (with_reducible repeat (first | apply Kd.V_alloc | apply Kd.V_drewN | apply Kd.V_drew)); exact Kd.V_mono HO4567.out (fun _ hk => (And.intro (hk.1.1.1.1.1.1.1.1.1.2) ((And.intro (hk.1.1.1.1.1.1.1.1.2) ((And.intro (hk.1.1.1.1.1.2) ((And.intro (hk.1.1.1.1.2) ((And.intro (hk.1.2) ((And.intro (hk.1.1.1.1.1.1.1.1.1.1.1.1) ((And.intro (hk.1.1.1.1.1.1.1.1.1.1.1.2.1) ((And.intro (hk.1.1.1.1.1.1.1.1.1.1.1.2.2) ((And.intro (hk.1.1.1.1.1.1.1.1.1.1.2) ((And.intro (hk.1.1.1.1.1.1.1.2) ((And.intro (hk.1.1.1.1.1.1.2) ((And.intro (hk.1.1.1.2) ((And.intro (hk.1.1.2) (hk.2)))))))))))))))))))))))))))⟩, ⟨by (with_reducible repeat (first | apply Kd.R_alloc | apply Kd.R_drewN | apply Kd.R_drew)); exact Kd.R_mono HO4571.out (fun _ hk => (And.intro (hk.1.1.1) ((And.intro (hk.1.1.2) ((And.intro (hk.1.2) (hk.2)))))))⟩, ⟨by (with_reducible repeat (first | apply Kd.R_alloc | apply Kd.R_drewN | apply Kd.R_drew)); exact Kd.R_mono HO4574.out (fun _ hk => (And.intro (hk.1.1.1) ((And.intro (hk.1.1.2) ((And.intro (hk.1.2) (hk.2)))))))⟩, ⟨by (with_reducible repeat (first | apply Kd.R_alloc | apply Kd.R_drewN | apply Kd.R_drew)); exact Kd.R_mono HO4579.out (fun _ hk => (And.intro (hk.1.1.2) ((And.intro (hk.1.2) ((And.intro (hk.1.1.1) (hk.2)))))))⟩, ⟨by (with_reducible repeat (first | apply Kd.R_alloc | apply Kd.R_drewN | apply Kd.R_drew)); exact Kd.R_mono HO4582.out (fun _ hk => (And.intro (hk.1.1.2) ((And.intro (hk.1.2) ((And.intro (hk.1.1.1) (hk.2)))))))⟩, ⟨by (with_reducible repeat (first | apply Kd.R_alloc | apply Kd.R_drewN | apply Kd.R_drew)); exact Kd.R_mono HO4587.out (fun _ hk => (And.intro (hk.1.1.1.2) ((And.intro (hk.1.1.2) ((And.intro (hk.1.2) (hk.2)))))))⟩, BK4562, BK4563, BK4564, BK4568, BK4575, BK4576, BK4583, BK4584, BK4588, ⟨by repeat (first | (with_reducible first | exact HB.out | apply below_alloc | apply pw_below_drewN | apply below_drew1 | refine below_set ?_ GE4562.out | refine below_set ?_ GE4563.out | refine below_set ?_ GE4564.out | refine below_set ?_ GE4568.out | refine below_set ?_ GE4575.out | refine below_set ?_ GE4576.out | refine below_set ?_ GE4583.out | refine below_set ?_ GE4584.out | refine below_set ?_ GE4588.out) | exact HB.out)⟩⟩
  case rest =>
    clear HC7
    try clear c1
    try clear c2
    try clear p2
    try clear c3
    try clear c4
    try clear c5
    try clear c6
    try clear c7
    try clear c8
    try clear c9
    try clear c10
    try clear c11
    try clear c12
    try clear c14
    try clear c19
    try clear c20
    try clear c21
    try clear c24
    try clear c28
    try clear c29
    try clear c30
    try clear c31
    try clear c32
    try clear c35
    try clear c36
    try clear c37
    try clear c38
    try clear c42
    try clear c46
    try clear c47
    try clear c48
    try clear c49
    try clear c50
    try clear c51
    try clear c52
    try clear c55
    try clear c56
    try clear c57
    try clear c58
    try clear c59
    try clear c60
    try clear c65
    try clear c66
    try clear c67
    try clear c68
    try clear c69
    try clear c70
    try clear c71
    try clear c72
    try clear c73
    try clear c75
    try clear c75b0
    try clear c75b1
    try clear c76
    try clear c77
    try clear c78
    try clear c79
    try clear c80
    try clear c81
    try clear c82
    try clear c83
    try clear c85
    try clear c86
    try clear c87
    try clear c88
    try clear c89
    try clear c90
    try clear c91
    try clear c95
    try clear c96
    try clear c97
    try clear c98
    try clear c99
    try clear c100
    try clear c101
    try clear c102
    try clear c104
    try clear c105
    try clear c106
    try clear c107
    try clear c108
    try clear c109
    try clear c110
    try clear c113
    try clear c114
    try clear c115
    try clear c116
    try clear c117
    try clear c118
    try clear hcz103_0
    try clear hcz111_0
    try clear hcz119_0
    try clear hcz120_0
    try clear hcz13_0
    try clear hcz15_0
    try clear hcz22_0
    try clear hcz23_0
    try clear hcz33_0
    try clear hcz39_0
    try clear hcz40_0
    try clear hcz41_0
    try clear hcz53_0
    try clear hcz61_0
    try clear hcz73_0
    try clear hcz84_0
    try clear hcz92_0
    try clear hfz103_0
    try clear hfz111_0
    try clear hfz119_0
    try clear hfz120_0
    try clear hfz13_0
    try clear hfz15_0
    try clear hfz22_0
    try clear hfz23_0
    try clear hfz33_0
    try clear hfz39_0
    try clear hfz40_0
    try clear hfz41_0
    try clear hfz53_0
    try clear hfz61_0
    try clear hfz73_0
    try clear hfz84_0
    try clear hfz92_0
    obtain ⟨kq, x37_6, rfl, HA, HJ6, HO_4569000, HO_4576000, HO_4577000, HO_4584000, HO_4585000, HO_4589000, BK4562, BK4563, BK4564, BK4568, BK4575, BK4576, BK4583, BK4584, BK4588, HB⟩ := hcut
    cases kq with
    | zero => exact absurd HA.out (by simp [demurrageref02_Made.j0])
    | succ kj6 =>
      have H := HA.out
      clear HA
      simp only [demurrageref02_Made.j0] at H
      by_cases c122 : x37_6 = true
      · subst c122
        have H1 : (some (0, 0, 6)) = some (r1, r2, r3) := by rw [if_pos rfl] at H; exact H
        clear H
        have H := H1
        clear H1
        simp only [Option.some.injEq, Prod.mk.injEq] at H
        obtain ⟨rfl, rfl, rfl⟩ := H
        have hnb123 := NB4564_4562.out
        have hnc123 := NB4562_4564.out
        have hnb124 := NB4564_4563.out
        have hnc124 := NB4563_4564.out
        have hnb125 := NB4564_4568.out
        have hnc125 := NB4568_4564.out
        have hnb126 := NB4564_4575.out
        have hnc126 := NB4575_4564.out
        have hnb127 := NB4564_4576.out
        have hnc127 := NB4576_4564.out
        have hnb128 := NB4564_4583.out
        have hnc128 := NB4583_4564.out
        have hnb129 := NB4564_4584.out
        have hnc129 := NB4584_4564.out
        have hnb130 := NB4564_4588.out
        have hnc130 := NB4588_4564.out
        have hcz131_0 : wc.cell? ⟨gb4564, 0, none⟩ = some (.int .i64 0) := (blk_cell BK4564.out 0).trans rfl
        have hcz131_1 : wc.cell? ⟨gb4564, 1, none⟩ = some (.int .i64 0) := (blk_cell BK4564.out 1).trans rfl
        have hfz131_0 := blk_frozen BK4564.out 0
        have hfz131_1 := blk_frozen BK4564.out 1
        go_wp2
        refine bodyPost_ret (results_ct rfl _ _ gb4564 57 #[.int .i64 0, .int .i64 0] (0, 0) _ rfl (by refine blk_put (cs := #[.int .i64 0, .int .i64 0]) ?_ 1 _ rfl; refine blk_put (cs := #[.int .i64 0, .int .i64 0]) ?_ 0 _ rfl; exact BK4564.out) Try.underlying57 rfl (by kernel_rfl)) rfl ?_
        exact ⟨by rfl, by repeat (first | (with_reducible first | exact HB.out | apply below_alloc | apply pw_below_drewN | apply below_drew1 | refine below_set ?_ GE4562.out | refine below_set ?_ GE4563.out | refine below_set ?_ GE4564.out | refine below_set ?_ GE4568.out | refine below_set ?_ GE4575.out | refine below_set ?_ GE4576.out | refine below_set ?_ GE4583.out | refine below_set ?_ GE4584.out | refine below_set ?_ GE4588.out) | exact HB.out)⟩
      · replace c122 := Bool.eq_false_iff.mpr c122
        subst c122
        have H1 : ((demurrageref02_value.f kj6 t4569).bind fun t4591 => ((demurrageref02_value.f kj6 t4577).bind fun t4592 => (some (t4591, t4592, 0)))) = some (r1, r2, r3) := by rw [if_neg (show ¬ (false = true) by decide)] at H; exact H
        clear H
        have H := H1
        clear H1
        replace H := Option.bind_eq_some_iff.mp H
        obtain ⟨t4591, A1320, H⟩ := H
        replace H : ((demurrageref02_value.f kj6 t4577).bind fun t4592 => (some (t4591, t4592, 0))) = some (r1, r2, r3) := H
        have A132 := Aside0.mk A1320
        clear A1320
        replace H := Option.bind_eq_some_iff.mp H
        obtain ⟨t4592, A1330, H⟩ := H
        replace H : (some (t4591, t4592, 0)) = some (r1, r2, r3) := H
        have A133 := Aside0.mk A1330
        clear A1330
        simp only [Option.some.injEq, Prod.mk.injEq] at H
        obtain ⟨rfl, rfl, rfl⟩ := H
        try go_wp2
        have n0_ := Aside0.mk (Kd.V_drew HO_4569000.out)
        have n1_ := Aside0.mk (Kd.R_drew HO_4576000.out)
        have n2_ := Aside0.mk (Kd.R_drew HO_4577000.out)
        have n3_ := Aside0.mk (Kd.R_drew HO_4584000.out)
        have n4_ := Aside0.mk (Kd.R_drew HO_4585000.out)
        have n5_ := Aside0.mk (Kd.R_drew HO_4589000.out)
        have n6_ := Aside0.mk (blk_drew BK4562.out)
        have n7_ := Aside0.mk (blk_drew BK4563.out)
        have n8_ := Aside0.mk (blk_drew BK4564.out)
        have n9_ := Aside0.mk (blk_drew BK4568.out)
        have n10_ := Aside0.mk (blk_drew BK4575.out)
        have n11_ := Aside0.mk (blk_drew BK4576.out)
        have n12_ := Aside0.mk (blk_drew BK4583.out)
        have n13_ := Aside0.mk (blk_drew BK4584.out)
        have n14_ := Aside0.mk (blk_drew BK4588.out)
        have n15_ := Aside0.mk (below_drew1 HB.out)
        clear HO_4569000 HO_4576000 HO_4577000 HO_4584000 HO_4585000 HO_4589000 BK4562 BK4563 BK4564 BK4568 BK4575 BK4576 BK4583 BK4584 BK4588 HB
        have HO_4569000 := n0_
        have HO_4576000 := n1_
        have HO_4577000 := n2_
        have HO_4584000 := n3_
        have HO_4585000 := n4_
        have HO_4589000 := n5_
        have BK4562 := n6_
        have BK4563 := n7_
        have BK4564 := n8_
        have BK4568 := n9_
        have BK4575 := n10_
        have BK4576 := n11_
        have BK4583 := n12_
        have BK4584 := n13_
        have BK4588 := n14_
        have HB := n15_
        clear n0_ n1_ n2_ n3_ n4_ n5_ n6_ n7_ n8_ n9_ n10_ n11_ n12_ n13_ n14_ n15_
        refine start_ (n := 7) (S := fun w' => w'.cell? ⟨gb4575, 0, none⟩ = some (.slice Ao27 t4569.length co27) ∧ w'.cell? ⟨gb4583, 0, none⟩ = some (.slice Ao45 t4577.length co45)) (ds := []) (demurrageref02_New.ups 7 0) (by kernel_rfl) rfl rfl ⟨(blk_cell BK4575.out 0).trans rfl, (blk_cell BK4583.out 0).trans rfl⟩ (fun hHeld => ?_)
        generalize wc.drew = w134 at HO_4569000 HO_4576000 HO_4577000 HO_4584000 HO_4585000 HO_4589000 BK4562 BK4563 BK4564 BK4568 BK4575 BK4576 BK4583 BK4584 BK4588 HB hHeld ⊢
        refine take_ (i := 0) (N := some 39) (v := ?_) (a' := ?_) (demurrageref02_New.ups 7 1) rfl rfl (by kernel_rfl) (fun _ _ _ h => h) (Or.inl ⟨by rfl, ?_⟩) hHeld ?_ ?_
        rotate_left
        · rintro w' ⟨s0, s1⟩
          go_simp
          with_reducible rfl
        rotate_left
        · simp only [Act.put, List.setIfInBounds_toArray, List.set_cons_zero, List.set_cons_succ, i64_w, i32_w]
          rfl
        refine take_ (i := 2) (N := some 41) (v := ?_) (a' := ?_) (demurrageref02_New.ups 7 5) rfl rfl (by kernel_rfl) (fun _ _ _ h => h) (Or.inl ⟨by rfl, ?_⟩) hHeld ?_ ?_
        rotate_left
        · rintro w' ⟨s0, s1⟩
          go_simp
          with_reducible rfl
        rotate_left
        · simp only [Act.put, List.setIfInBounds_toArray, List.set_cons_zero, List.set_cons_succ, i64_w, i32_w]
          rfl
        refine one_ (i := 1) (N := some 40) (demurrageref02_New.ups 7 7) rfl rfl (by kernel_rfl) (by decide) (fun K hK => ?_)
        refine goes_ Try.func83 (by kernel_rfl) rfl #[.agg #[.slice Ao27 t4569.length co27]] (by rfl) rfl rfl (by (try simp only [List.map_toArray, List.map_cons, List.map_nil]); first | done | rfl) ?_
        with_reducible refine (demurrageref02_value.calls kj6 _ _ t4569 t4591 _ ?side1 ?side2 A132.out).mono ?_
        (case side1 => repeat (first | exact (Kd.R_reads' HO_4576000.out).2.2 | (with_reducible refine Kd.C_alloc ?_ _) | (with_reducible refine Kd.C_drewN ?_ _) | (with_reducible refine Kd.C_drew ?_)))
        (case side2 => exact (Kd.R_reads' HO_4576000.out).2.1)
        rintro e w135 ⟨rfl, hb⟩
        refine ⟨_, rfl, ?_⟩
        have n0_ := Aside0.mk (Kd.V_below HO_4569000.out hb)
        have n1_ := Aside0.mk (Kd.R_below HO_4576000.out hb)
        have n2_ := Aside0.mk (Kd.R_below HO_4577000.out hb)
        have n3_ := Aside0.mk (Kd.R_below HO_4584000.out hb)
        have n4_ := Aside0.mk (Kd.R_below HO_4585000.out hb)
        have n5_ := Aside0.mk (Kd.R_below HO_4589000.out hb)
        have n6_ := Aside0.mk (blk_below BK4562.out hb)
        have n7_ := Aside0.mk (blk_below BK4563.out hb)
        have n8_ := Aside0.mk (blk_below BK4564.out hb)
        have n9_ := Aside0.mk (blk_below BK4568.out hb)
        have n10_ := Aside0.mk (blk_below BK4575.out hb)
        have n11_ := Aside0.mk (blk_below BK4576.out hb)
        have n12_ := Aside0.mk (blk_below BK4583.out hb)
        have n13_ := Aside0.mk (blk_below BK4584.out hb)
        have n14_ := Aside0.mk (blk_below BK4588.out hb)
        have n15_ := Aside0.mk (below_step (by repeat (first | (with_reducible first | exact HB.out | apply below_alloc | apply pw_below_drewN | apply below_drew1 | refine below_set ?_ GE4562.out | refine below_set ?_ GE4563.out | refine below_set ?_ GE4564.out | refine below_set ?_ GE4568.out | refine below_set ?_ GE4575.out | refine below_set ?_ GE4576.out | refine below_set ?_ GE4583.out | refine below_set ?_ GE4584.out | refine below_set ?_ GE4588.out) | exact HB.out)) hb)
        clear HO_4569000 HO_4576000 HO_4577000 HO_4584000 HO_4585000 HO_4589000 BK4562 BK4563 BK4564 BK4568 BK4575 BK4576 BK4583 BK4584 BK4588 HB
        have HO_4569000 := n0_
        have HO_4576000 := n1_
        have HO_4577000 := n2_
        have HO_4584000 := n3_
        have HO_4585000 := n4_
        have HO_4589000 := n5_
        have BK4562 := n6_
        have BK4563 := n7_
        have BK4564 := n8_
        have BK4568 := n9_
        have BK4575 := n10_
        have BK4576 := n11_
        have BK4583 := n12_
        have BK4584 := n13_
        have BK4588 := n14_
        have HB := n15_
        clear n0_ n1_ n2_ n3_ n4_ n5_ n6_ n7_ n8_ n9_ n10_ n11_ n12_ n13_ n14_ n15_
        (try clear hb)
        (try clear hb2)
        (try clear hk)
        (try clear hi)
        refine hK.out _ _ ⟨(blk_cell BK4575.out 0).trans rfl, (blk_cell BK4583.out 0).trans rfl⟩ (fun hHeld => ?_)
        clear hK K
        refine norm_ (a' := ?_) ?_ ?_
        rotate_left
        · show Act.put _ (some 40) _ = _
          simp only [Act.put, List.setIfInBounds_toArray, List.set_cons_zero, List.set_cons_succ, i64_w, i32_w]
          rfl
        refine one_ (i := 3) (N := some 42) (demurrageref02_New.ups 7 15) rfl rfl (by kernel_rfl) (by decide) (fun K hK => ?_)
        refine goes_ Try.func83 (by kernel_rfl) rfl #[.agg #[.slice Ao45 t4577.length co45]] (by rfl) rfl rfl (by (try simp only [List.map_toArray, List.map_cons, List.map_nil]); first | done | rfl) ?_
        with_reducible refine (demurrageref02_value.calls kj6 _ _ t4577 t4592 _ ?side1 ?side2 A133.out).mono ?_
        (case side1 => repeat (first | exact (Kd.R_reads' HO_4584000.out).2.2 | (with_reducible refine Kd.C_alloc ?_ _) | (with_reducible refine Kd.C_drewN ?_ _) | (with_reducible refine Kd.C_drew ?_)))
        (case side2 => exact (Kd.R_reads' HO_4584000.out).2.1)
        rintro e w136 ⟨rfl, hb⟩
        refine ⟨_, rfl, ?_⟩
        have n0_ := Aside0.mk (Kd.V_below HO_4569000.out hb)
        have n1_ := Aside0.mk (Kd.R_below HO_4576000.out hb)
        have n2_ := Aside0.mk (Kd.R_below HO_4577000.out hb)
        have n3_ := Aside0.mk (Kd.R_below HO_4584000.out hb)
        have n4_ := Aside0.mk (Kd.R_below HO_4585000.out hb)
        have n5_ := Aside0.mk (Kd.R_below HO_4589000.out hb)
        have n6_ := Aside0.mk (blk_below BK4562.out hb)
        have n7_ := Aside0.mk (blk_below BK4563.out hb)
        have n8_ := Aside0.mk (blk_below BK4564.out hb)
        have n9_ := Aside0.mk (blk_below BK4568.out hb)
        have n10_ := Aside0.mk (blk_below BK4575.out hb)
        have n11_ := Aside0.mk (blk_below BK4576.out hb)
        have n12_ := Aside0.mk (blk_below BK4583.out hb)
        have n13_ := Aside0.mk (blk_below BK4584.out hb)
        have n14_ := Aside0.mk (blk_below BK4588.out hb)
        have n15_ := Aside0.mk (below_step (by repeat (first | (with_reducible first | exact HB.out | apply below_alloc | apply pw_below_drewN | apply below_drew1 | refine below_set ?_ GE4562.out | refine below_set ?_ GE4563.out | refine below_set ?_ GE4564.out | refine below_set ?_ GE4568.out | refine below_set ?_ GE4575.out | refine below_set ?_ GE4576.out | refine below_set ?_ GE4583.out | refine below_set ?_ GE4584.out | refine below_set ?_ GE4588.out) | exact HB.out)) hb)
        clear HO_4569000 HO_4576000 HO_4577000 HO_4584000 HO_4585000 HO_4589000 BK4562 BK4563 BK4564 BK4568 BK4575 BK4576 BK4583 BK4584 BK4588 HB
        have HO_4569000 := n0_
        have HO_4576000 := n1_
        have HO_4577000 := n2_
        have HO_4584000 := n3_
        have HO_4585000 := n4_
        have HO_4589000 := n5_
        have BK4562 := n6_
        have BK4563 := n7_
        have BK4564 := n8_
        have BK4568 := n9_
        have BK4575 := n10_
        have BK4576 := n11_
        have BK4583 := n12_
        have BK4584 := n13_
        have BK4588 := n14_
        have HB := n15_
        clear n0_ n1_ n2_ n3_ n4_ n5_ n6_ n7_ n8_ n9_ n10_ n11_ n12_ n13_ n14_ n15_
        (try clear hb)
        (try clear hb2)
        (try clear hk)
        (try clear hi)
        refine hK.out _ _ ⟨(blk_cell BK4575.out 0).trans rfl, (blk_cell BK4583.out 0).trans rfl⟩ (fun hHeld => ?_)
        clear hK K
        refine norm_ (a' := ?_) ?_ ?_
        rotate_left
        · show Act.put _ (some 42) _ = _
          simp only [Act.put, List.setIfInBounds_toArray, List.set_cons_zero, List.set_cons_succ, i64_w, i32_w]
          rfl
        refine pure_ (i := 4) (N := some 43) (v := ?_) (a' := ?_) (demurrageref02_New.ups 7 31) rfl rfl (by kernel_rfl) (fun _ _ _ h => h) (Or.inl ⟨by rfl, ?_⟩) ?_ ?_
        rotate_left
        · intro w'
          go_simp
          with_reducible rfl
        rotate_left
        · simp only [Act.put, List.setIfInBounds_toArray, List.set_cons_zero, List.set_cons_succ, i64_w, i32_w]
          rfl
        refine one_ (i := 5) (N := none) (demurrageref02_New.ups 7 63) rfl rfl (by kernel_rfl) (by decide) (fun K hK => ?_)
        have hs137 : w136.cell? ⟨gb4564, 0, none⟩ = some (.int .i64 0) := (blk_cell BK4564.out 0).trans rfl
        have hfs137 := blk_frozen BK4564.out 0
        have hns137_0 := NB4562_4564.out
        have hns137_1 := NB4563_4564.out
        have hns137_3 := NB4568_4564.out
        have hns137_4 := NB4575_4564.out
        have hns137_5 := NB4576_4564.out
        have hns137_6 := NB4583_4564.out
        have hns137_7 := NB4584_4564.out
        have hns137_8 := NB4588_4564.out
        have hms137_0 := NB4564_4562.out
        have hms137_1 := NB4564_4563.out
        have hms137_3 := NB4564_4568.out
        have hms137_4 := NB4564_4575.out
        have hms137_5 := NB4564_4576.out
        have hms137_6 := NB4564_4583.out
        have hms137_7 := NB4564_4584.out
        have hms137_8 := NB4564_4588.out
        have hs138 : w136.cell? ⟨gb4564, 1, none⟩ = some (.int .i64 0) := (blk_cell BK4564.out 1).trans rfl
        have hfs138 := blk_frozen BK4564.out 1
        have hns138_0 := NB4562_4564.out
        have hns138_1 := NB4563_4564.out
        have hns138_3 := NB4568_4564.out
        have hns138_4 := NB4575_4564.out
        have hns138_5 := NB4576_4564.out
        have hns138_6 := NB4583_4564.out
        have hns138_7 := NB4584_4564.out
        have hns138_8 := NB4588_4564.out
        have hms138_0 := NB4564_4562.out
        have hms138_1 := NB4564_4563.out
        have hms138_3 := NB4564_4568.out
        have hms138_4 := NB4564_4575.out
        have hms138_5 := NB4564_4576.out
        have hms138_6 := NB4564_4583.out
        have hms138_7 := NB4564_4584.out
        have hms138_8 := NB4564_4588.out
        refine skip_ (w1 := ?_) (by rfl) rfl ?_ ?_
        rotate_left
        · go_simp
          rfl
        refine hK.out _ _ ⟨((cell_far (p := ⟨gb4564, _, none⟩) NB4575_4564.out _).trans (((cell_far (p := ⟨gb4564, _, none⟩) NB4575_4564.out _).trans (hHeld.1)))), ((cell_far (p := ⟨gb4564, _, none⟩) NB4583_4564.out _).trans (((cell_far (p := ⟨gb4564, _, none⟩) NB4583_4564.out _).trans (hHeld.2))))⟩ (fun hHeld => ?_)
        clear hK K
        refine pure_ (i := 6) (N := some 5) (v := ?_) (a' := ?_) (demurrageref02_New.ups 7 127) rfl rfl (by kernel_rfl) (fun _ _ _ h => h) (Or.inl ⟨by rfl, ?_⟩) ?_ ?_
        rotate_left
        · intro w'
          go_simp
          with_reducible rfl
        rotate_left
        · simp only [Act.put, List.setIfInBounds_toArray, List.set_cons_zero, List.set_cons_succ, i64_w, i32_w]
          rfl
        refine done_ (by kernel_rfl) ?_
        try go_wp2
        refine bodyPost_ret (results_ct rfl _ _ gb4564 57 #[.int .i64 t4591, .int .i64 t4592] (0, 0) _ rfl (by refine blk_put (cs := #[.int .i64 t4591, .int .i64 0]) ?_ 1 _ rfl; refine blk_put (cs := #[.int .i64 0, .int .i64 0]) ?_ 0 _ rfl; exact BK4564.out) Try.underlying57 rfl (by kernel_rfl)) rfl ?_
        exact ⟨by rfl, by repeat (first | (with_reducible first | exact HB.out | apply below_alloc | apply pw_below_drewN | apply below_drew1 | refine below_set ?_ GE4562.out | refine below_set ?_ GE4563.out | refine below_set ?_ GE4564.out | refine below_set ?_ GE4568.out | refine below_set ?_ GE4575.out | refine below_set ?_ GE4576.out | refine below_set ?_ GE4583.out | refine below_set ?_ GE4584.out | refine below_set ?_ GE4588.out) | exact HB.out)⟩

end Go.Proofs.Ytcdbmmlnmefoeaa.X
