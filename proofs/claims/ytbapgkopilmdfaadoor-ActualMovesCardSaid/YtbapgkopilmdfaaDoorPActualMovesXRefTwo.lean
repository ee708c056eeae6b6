-- cut by prune.py, a program of this session
import Derived.Test.YtbapgkopilmdfaaDoorPActualMovesX0
import Derived.Test.YtbapgkopilmdfaaDoorPActualMovesXBig
import Derived.Test.YtbapgkopilmdfaaDoorPActualMovesXQuot
namespace Go.Proofs.YtbapgkopilmdfaaDoor.X
open Go.RowKit Go.Proofs.YtbapgkopilmdfaaDoorW.PrintWords Go.Proofs.YtbapgkopilmdfaaDoorW.PrintLast Go.Proofs.YtbapgkopilmdfaaDoorW.PrintMore
attribute [local go_sem] max2_int min2_int max_two min_two
set_option linter.unusedVariables false
set_option linter.unusedSimpArgs false

def demurrageref02_New.upsl : Nat → Nat → List Bool
 | 0, _ => []
 | n + 1, m => (m % 2 == 1) :: demurrageref02_New.upsl n (m / 2)
def demurrageref02_New.ups (n m : Nat) : Array Bool := ⟨demurrageref02_New.upsl n m⟩
def demurrageref02_Gcd.l0 : Nat → List Int → List Int → Option (List Int)
 | 0, _, _ => none
 | k + 1, x220000, x221000 => if (x221000.length : Int) > 0 then ((demurrageref01_Quot.f k x220000 x221000).bind fun bt222 => (demurrageref02_Gcd.l0 k x221000 bt222.2)) else (some x220000)
def demurrageref02_Gcd.f (k : Nat) (l0_0 : List Int) (l1_0 : List Int) : Option (List Int) := demurrageref02_Gcd.l0 k l0_0 l1_0
set_option maxHeartbeats 8000000 in
set_option maxRecDepth 100000 in
theorem demurrageref02_Gcd.calls (k : Nat) (P0_0_ : Nat → Prop) (A0_0 : Option Addr) (c0_0 : Nat) (l0_0 : List Int) (P1_0_ : Nat → Prop) (A1_0 : Option Addr) (c1_0 : Nat) (l1_0 : List Int) (r : List Int) (w : World) (hs0_0 : Kd.V (Kd.int .i64) 3 w w.heap.size (fun k_ => P0_0_ k_) (.slice A0_0 l0_0.length c0_0) l0_0) (hs1_0 : Kd.V (Kd.int .i64) 3 w w.heap.size (fun k_ => P1_0_ k_) (.slice A1_0 l1_0.length c1_0) l1_0) (h : demurrageref02_Gcd.f k l0_0 l1_0 = some r) :
  Calls Tryd.prog 52 #[.agg #[.slice A0_0 l0_0.length c0_0], .agg #[.slice A1_0 l1_0.length c1_0]] w fun e w' => ∃ v0_ : Value, e = .returned (.agg #[v0_]) ∧ Kd.V (Kd.int .i64) 3 w' w.heap.size (fun k_ => ((P0_0_ k_ ∨ P1_0_ k_) ∨ w.heap.size ≤ k_)) v0_ r ∧ Below w.heap.size w w' := by
 have hu56 := Tryd.underlying56
 have HO0_0 := aA_ (show Kd.V (Kd.int .i64) 3 w w.heap.size (fun k_ => ((P0_0_ k_ ∨ P1_0_ k_) ∨ w.heap.size ≤ k_)) (.slice A0_0 l0_0.length c0_0) l0_0 from Kd.V_mono hs0_0 (fun k_ hk => .inl (.inl hk)))
 have HO1_0 := aA_ (show Kd.V (Kd.int .i64) 3 w w.heap.size (fun k_ => ((P0_0_ k_ ∨ P1_0_ k_) ∨ w.heap.size ≤ k_)) (.slice A1_0 l1_0.length c1_0) l1_0 from Kd.V_mono hs1_0 (fun k_ hk => .inl (.inr hk)))
 have HB := aA_ (Below.refl w.heap.size w)
 have H : (demurrageref02_Gcd.l0 k l0_0 l1_0) = some r := h
 clear h
 have H' := aA_ H
 clear H
 go_enter Tryd.func52, Tryd.ntmps52
 go_wp2_with (first | ((with_reducible refine gate_dst (N := 2) rfl ?_); refine box_event rfl (N := 2) rfl (cs := #[.slice A0_0 l0_0.length c0_0]) (t := 56) ?hr ?_; (case hr => go_simp <;> rfl); intro gb219 hg w3 hbox hb; replace HO0_0 := aA_ (Kd.V_below (Kd.V_elderB HO0_0.out gb219 (Nat.le_of_eq hg.symm)) hb); replace HO1_0 := aA_ (Kd.V_below (Kd.V_elderB HO1_0.out gb219 (Nat.le_of_eq hg.symm)) hb); have BK219 := aA_ (hbox); have GW219 := gW_ hg (by repeat (with_reducible first | exact HB.out | apply bA_ | apply bN_ | apply bD_)); have GE219 := GW219; replace HB := bB_ (by repeat (with_reducible first | exact HB.out | apply bA_ | apply bN_ | apply bD_)) hb; clear hb hbox hg) | ((with_reducible refine gate_dst (N := 3) rfl ?_); refine box_event rfl (N := 3) rfl (cs := #[.slice A1_0 l1_0.length c1_0]) (t := 56) ?hr ?_; (case hr => go_simp <;> rfl); intro gb220 hg w4 hbox hb; replace HO0_0 := aA_ (Kd.V_below (Kd.V_elderB HO0_0.out gb220 (Nat.le_of_eq hg.symm)) hb); replace HO1_0 := aA_ (Kd.V_below (Kd.V_elderB HO1_0.out gb220 (Nat.le_of_eq hg.symm)) hb); have BK220 := aA_ (hbox); have GW220 := gW_ hg (by repeat (with_reducible first | exact HB.out | apply bA_ | apply bN_ | apply bD_ | refine bS_ ?_ GE219.out)); have GE220 := GW220; replace HB := bB_ (by repeat (with_reducible first | exact HB.out | apply bA_ | apply bN_ | apply bD_ | refine bS_ ?_ GE219.out)) hb; have NB219_220 := nE_ hg BK219; have NB220_219 := aA_ NB219_220.out.symm; replace BK219 := bK_ BK219 hb; clear hb hbox hg) | ((with_reducible refine gate_dst (N := 4) rfl ?_); refine box_event rfl (N := 4) rfl (cs := #[.slice none 0 0]) (t := 56) ?hr ?_; (case hr => go_simp <;> rfl); intro gb221 hg w5 hbox hb; replace HO0_0 := aA_ (Kd.V_below (Kd.V_elderB HO0_0.out gb221 (Nat.le_of_eq hg.symm)) hb); replace HO1_0 := aA_ (Kd.V_below (Kd.V_elderB HO1_0.out gb221 (Nat.le_of_eq hg.symm)) hb); have BK221 := aA_ (hbox); have GW221 := gW_ hg (by repeat (with_reducible first | exact HB.out | apply bA_ | apply bN_ | apply bD_ | refine bS_ ?_ GE219.out | refine bS_ ?_ GE220.out)); have GE221 := GW221; replace HB := bB_ (by repeat (with_reducible first | exact HB.out | apply bA_ | apply bN_ | apply bD_ | refine bS_ ?_ GE219.out | refine bS_ ?_ GE220.out)) hb; have NB219_221 := nE_ hg BK219; have NB221_219 := aA_ NB219_221.out.symm; replace BK219 := bK_ BK219 hb; have NB220_221 := nE_ hg BK220; have NB221_220 := aA_ NB220_221.out.symm; replace BK220 := bK_ BK220 hb; clear hb hbox hg))
 (try simp only [Act.put, sT_, sZ_, sS_])
 go_loopg [] k (fun kq w' => ∃ (x220000_1 : List Int) (x221000_1 : List Int) (u220000 : Value) (u221000 : Value), Aside0 (demurrageref02_Gcd.l0 kq x220000_1 x221000_1 = some r) ∧ Aside0 (kq ≤ k) ∧ Aside0 (Kd.V (Kd.int .i64) 3 w' w.heap.size (fun k_ => ((P0_0_ k_ ∨ P1_0_ k_) ∨ w.heap.size ≤ k_) ∧ k_ ≠ gb219 ∧ k_ ≠ gb220 ∧ k_ ≠ gb221) u220000 x220000_1) ∧ Aside0 (Kd.V (Kd.int .i64) 3 w' w.heap.size (fun k_ => ((P0_0_ k_ ∨ P1_0_ k_) ∨ w.heap.size ≤ k_) ∧ k_ ≠ gb219 ∧ k_ ≠ gb220 ∧ k_ ≠ gb221) u221000 x221000_1) ∧ Aside0 (w'.heap[gb219]? = some (.cells #[u220000] 56 (0, 0))) ∧ Aside0 (w'.heap[gb220]? = some (.cells #[u221000] 56 (0, 0))) ∧ Aside0 (w'.heap[gb221]? = some (.cells #[(.slice none 0 0)] 56 (0, 0))) ∧ Aside0 (Below w.heap.size w w'))
 case atStart => exact ⟨(l0_0), (l1_0), (.slice A0_0 l0_0.length c0_0), (.slice A1_0 l1_0.length c1_0), H', ⟨Nat.le_refl _⟩, ⟨by (with_reducible repeat (first | apply Kd.V_alloc | apply Kd.V_drewN | apply Kd.V_drew)); exact Kd.V_mono HO0_0.out (fun _ hk => (And.intro (hk.1.1.1) ((And.intro (hk.1.1.2) ((And.intro (hk.1.2) (hk.2)))))))⟩, ⟨by (with_reducible repeat (first | apply Kd.V_alloc | apply Kd.V_drewN | apply Kd.V_drew)); exact Kd.V_mono HO1_0.out (fun _ hk => (And.intro (hk.1.1.1) ((And.intro (hk.1.1.2) ((And.intro (hk.1.2) (hk.2)))))))⟩, ⟨by exact BK219.out⟩, ⟨by exact BK220.out⟩, ⟨by exact BK221.out⟩, ⟨by repeat (with_reducible first | exact HB.out | apply bA_ | apply bN_ | apply bD_ | refine bS_ ?_ GE219.out | refine bS_ ?_ GE220.out | refine bS_ ?_ GE221.out)⟩⟩
 case round =>
  clear H'
  try clear c1
  try clear p2
  try clear c5
  obtain ⟨x220000_1, x221000_1, u220000, u221000, HA, HK1, HO_220000, HO_221000, BK219, BK220, BK221, HB⟩ := hrel
  cases gk with
  | zero => exact absurd HA.out (by simp [demurrageref02_Gcd.l0])
  | succ k1 =>
   have H := HA.out
   clear HA
   simp only [demurrageref02_Gcd.l0] at H
   by_cases c6 : (x221000_1.length : Int) > 0
   ·rw [if_pos c6] at H
    have c6b0 : decide (0 < (x221000_1.length : Int)) = true := decide_eq_true c6
    have c6b1 : decide (0 < x221000_1.length) = true := decide_eq_true (by omega)
    clear c6
    replace H := bI_ H
    obtain ⟨⟨t222, t225⟩, A70, H⟩ := H
    (try dsimp only at H)
    have A7 := aA_ A70
    clear A70
    have H' := aA_ H
    clear H
    have hnb8 := NB220_219.out
    have hnc8 := NB219_220.out
    have hnb9 := NB220_221.out
    have hnc9 := NB221_220.out
    have hcz10_0 : wr.cell? ⟨gb220, 0, none⟩ = some (u221000) := (blk_cell BK220.out 0).trans rfl
    have hfz10_0 := blk_frozen BK220.out 0
    obtain ⟨Ao11, co11, eo11⟩ := Kd.V_slice HO_221000.out
    subst eo11
    have hnb12 := NB219_221.out
    have hnc12 := NB221_219.out
    have hcz13_0 : wr.cell? ⟨gb219, 0, none⟩ = some (u220000) := (blk_cell BK219.out 0).trans rfl
    have hfz13_0 := blk_frozen BK219.out 0
    obtain ⟨Ao14, co14, eo14⟩ := Kd.V_slice HO_220000.out
    subst eo14
    go_wp2_with (first | ((with_reducible refine gate_callee (f := 53) rfl ?_); refine goesL_ (some 14) rfl rfl Tryd.func53 (by kernel_rfl) rfl #[.agg #[.slice Ao14 x220000_1.length co14], .agg #[.slice Ao11 x221000_1.length co11]] rfl (by (try simp only [mT_, mC_, mN_]); first | done | rfl) ?_; (with_reducible refine (demurrageref01_Quot.calls k1 _ _ x220000_1 _ _ x221000_1 t222 t225 _ ?side1 ?side2 ?side3 ?side4 A7.out).mono ?_); (case side1 => repeat (first | exact (Kd.V_reads' HO_220000.out).2.2 | (with_reducible first | refine Kd.C_alloc ?_ _ | refine Kd.C_drewN ?_ _ | refine Kd.C_drew ?_))); (case side2 => exact (Kd.V_reads' HO_220000.out).2.1); (case side3 => repeat (first | exact (Kd.V_reads' HO_221000.out).2.2 | (with_reducible first | refine Kd.C_alloc ?_ _ | refine Kd.C_drewN ?_ _ | refine Kd.C_drew ?_))); (case side4 => exact (Kd.V_reads' HO_221000.out).2.1); rintro e w15 ⟨v223, v226, rfl, ho0, ho1, hb⟩; refine ⟨_, rfl, ?_⟩; replace HO_220000 := aA_ (Kd.V_mono (Kd.V_told (Kd.V_told (Kd.V_old HO_220000.out hb) (Kd.R_base ho0)) (Kd.R_base ho1)) (fun _ h_ => h_.1)); replace HO_221000 := aA_ (Kd.V_mono (Kd.V_told (Kd.V_told (Kd.V_old HO_221000.out hb) (Kd.R_base ho0)) (Kd.R_base ho1)) (fun _ h_ => h_.1)); have HO224 := aA_ (Kd.R_lower (Kd.R_newM (M := fun k_ => (w.heap.size ≤ k_)) ho0 (below_size (by repeat (with_reducible first | exact HB.out | apply bA_ | apply bN_ | apply bD_ | refine bS_ ?_ GE219.out | refine bS_ ?_ GE220.out | refine bS_ ?_ GE221.out))) (fun k_ h_ => h_)) (below_size (by repeat (with_reducible first | exact HB.out | apply bA_ | apply bN_ | apply bD_ | refine bS_ ?_ GE219.out | refine bS_ ?_ GE220.out | refine bS_ ?_ GE221.out)))); have HO227 := aA_ (Kd.R_lower (Kd.R_newM (M := fun k_ => (w.heap.size ≤ k_)) ho1 (below_size (by repeat (with_reducible first | exact HB.out | apply bA_ | apply bN_ | apply bD_ | refine bS_ ?_ GE219.out | refine bS_ ?_ GE220.out | refine bS_ ?_ GE221.out))) (fun k_ h_ => h_)) (below_size (by repeat (with_reducible first | exact HB.out | apply bA_ | apply bN_ | apply bD_ | refine bS_ ?_ GE219.out | refine bS_ ?_ GE220.out | refine bS_ ?_ GE221.out)))); replace BK219 := bK_ BK219 hb; replace BK220 := bK_ BK220 hb; replace BK221 := bK_ BK221 hb; replace HB := bB_ (by repeat (with_reducible first | exact HB.out | apply bA_ | apply bN_ | apply bD_ | refine bS_ ?_ GE219.out | refine bS_ ?_ GE220.out | refine bS_ ?_ GE221.out)) hb; (try clear hb); (try clear ho0); (try clear ho1)) | ((with_reducible refine gate_dst (N := 5) rfl ?_); refine box_event rfl (N := 5) rfl (cs := #[.slice none 0 0]) (t := 56) ?hr ?_; (case hr => go_simp <;> rfl); intro gb228 hg w16 hbox hb; replace HO_220000 := aA_ (Kd.V_below (Kd.V_elderB HO_220000.out gb228 (Nat.le_of_eq hg.symm)) hb); replace HO_221000 := aA_ (Kd.V_below (Kd.V_elderB HO_221000.out gb228 (Nat.le_of_eq hg.symm)) hb); replace HO224 := aA_ (Kd.R_below HO224.out hb); replace HO227 := aA_ (Kd.R_below HO227.out hb); have BK228 := aA_ (hbox); have GW228 := gW_ hg (by repeat (with_reducible first | exact HB.out | apply bA_ | apply bN_ | apply bD_ | refine bS_ ?_ GE219.out | refine bS_ ?_ GE220.out | refine bS_ ?_ GE221.out)); have GE228 := GW228; replace HB := bB_ (by repeat (with_reducible first | exact HB.out | apply bA_ | apply bN_ | apply bD_ | refine bS_ ?_ GE219.out | refine bS_ ?_ GE220.out | refine bS_ ?_ GE221.out)) hb; have NB219_228 := nE_ hg BK219; have NB228_219 := aA_ NB219_228.out.symm; replace BK219 := bK_ BK219 hb; have NB220_228 := nE_ hg BK220; have NB228_220 := aA_ NB220_228.out.symm; replace BK220 := bK_ BK220 hb; have NB221_228 := nE_ hg BK221; have NB228_221 := aA_ NB221_228.out.symm; replace BK221 := bK_ BK221 hb; clear hb hbox hg) | ((with_reducible refine gate_dst (N := 6) rfl ?_); refine box_event rfl (N := 6) rfl (cs := #[.slice none 0 0]) (t := 56) ?hr ?_; (case hr => go_simp <;> rfl); intro gb229 hg w17 hbox hb; replace HO_220000 := aA_ (Kd.V_below (Kd.V_elderB HO_220000.out gb229 (Nat.le_of_eq hg.symm)) hb); replace HO_221000 := aA_ (Kd.V_below (Kd.V_elderB HO_221000.out gb229 (Nat.le_of_eq hg.symm)) hb); replace HO224 := aA_ (Kd.R_below HO224.out hb); replace HO227 := aA_ (Kd.R_below HO227.out hb); have BK229 := aA_ (hbox); have GW229 := gW_ hg (by repeat (with_reducible first | exact HB.out | apply bA_ | apply bN_ | apply bD_ | refine bS_ ?_ GE219.out | refine bS_ ?_ GE220.out | refine bS_ ?_ GE221.out | refine bS_ ?_ GE228.out)); have GE229 := GW229; replace HB := bB_ (by repeat (with_reducible first | exact HB.out | apply bA_ | apply bN_ | apply bD_ | refine bS_ ?_ GE219.out | refine bS_ ?_ GE220.out | refine bS_ ?_ GE221.out | refine bS_ ?_ GE228.out)) hb; have NB219_229 := nE_ hg BK219; have NB229_219 := aA_ NB219_229.out.symm; replace BK219 := bK_ BK219 hb; have NB220_229 := nE_ hg BK220; have NB229_220 := aA_ NB220_229.out.symm; replace BK220 := bK_ BK220 hb; have NB221_229 := nE_ hg BK221; have NB229_221 := aA_ NB221_229.out.symm; replace BK221 := bK_ BK221 hb; have NB228_229 := nE_ hg BK228; have NB229_228 := aA_ NB228_229.out.symm; replace BK228 := bK_ BK228 hb; clear hb hbox hg; obtain ⟨Ao18, co18, eo18⟩ := Kd.R_slice HO224.out; subst eo18; have hnb19 := NB228_219.out; have hnc19 := NB219_228.out; have hnb20 := NB228_220.out; have hnc20 := NB220_228.out; have hnb21 := NB228_221.out; have hnc21 := NB221_228.out; have hnb22 := NB228_229.out; have hnc22 := NB229_228.out; have hcz23_0 : w17.cell? ⟨gb228, 0, none⟩ = some (.slice none 0 0) := (blk_cell BK228.out 0).trans rfl; have hfz23_0 := blk_frozen BK228.out 0; obtain ⟨Ao24, co24, eo24⟩ := Kd.R_slice HO227.out; subst eo24; have hnb25 := NB229_219.out; have hnc25 := NB219_229.out; have hnb26 := NB229_220.out; have hnc26 := NB220_229.out; have hnb27 := NB229_221.out; have hnc27 := NB221_229.out; have hcz28_0 : w17.cell? ⟨gb229, 0, none⟩ = some (.slice none 0 0) := (blk_cell BK229.out 0).trans rfl; have hfz28_0 := blk_frozen BK229.out 0; have hcz29_0 : w17.cell? ⟨gb220, 0, none⟩ = some (.slice Ao11 x221000_1.length co11) := (blk_cell BK220.out 0).trans rfl; have hfz29_0 := blk_frozen BK220.out 0; have hcz30_0 : w17.cell? ⟨gb219, 0, none⟩ = some (.slice Ao14 x220000_1.length co14) := (blk_cell BK219.out 0).trans rfl; have hfz30_0 := blk_frozen BK219.out 0))
    go_roundg k1
    case measure => have := HK1.out; omega
    case rel => exact ⟨(x221000_1), (t225), (.slice Ao11 x221000_1.length co11), (.slice Ao24 t225.length co24), H', ⟨by have := HK1.out; omega⟩, ⟨by (with_reducible repeat (first | apply Kd.V_alloc | apply Kd.V_drewN | apply Kd.V_drew)); exact Kd.V_mono (Kd.V_far (p := ⟨gb220, 0, none⟩) (Kd.V_far (p := ⟨gb219, 0, none⟩) (Kd.V_far (p := ⟨gb229, 0, none⟩) (Kd.V_far (p := ⟨gb228, 0, none⟩) (Kd.V_mono (Kd.V_mono (Kd.V_mono (Kd.V_mono HO_221000.out (fun k_ hk => (⟨hk, hk.1.2⟩ : _ ∧ k_ ≠ gb228))) (fun k_ hk => (⟨hk, hk.1.2⟩ : _ ∧ k_ ≠ gb229))) (fun k_ hk => (⟨hk, hk.1.1.1.1.1.1.2.1⟩ : _ ∧ k_ ≠ gb219))) (fun k_ hk => (⟨hk, hk.1.1.1.1.1.1.1.2.2.1⟩ : _ ∧ k_ ≠ gb220))) (fun _ hk => hk.1.1.1.2) (.slice Ao18 t222.length co18)) (fun _ hk => hk.1.1.2) (.slice Ao24 t225.length co24)) (fun _ hk => hk.1.2) (.slice Ao11 x221000_1.length co11)) (fun _ hk => hk.2) (.slice Ao24 t225.length co24)) (fun _ hk => (And.intro (hk.1.1.1.1.1.1.1.1.1) ((And.intro (hk.1.1.1.1.1.1.1.1.2.1) ((And.intro (hk.1.1.1.1.1.1.1.1.2.2.1) (hk.1.1.1.1.1.1.1.1.2.2.2)))))))⟩, ⟨Kd.V_mono (Kd.R_V (by (with_reducible repeat (first | apply Kd.R_alloc | apply Kd.R_drewN | apply Kd.R_drew)); exact Kd.R_mono (Kd.R_far (p := ⟨gb220, 0, none⟩) (Kd.R_far (p := ⟨gb219, 0, none⟩) (Kd.R_far (p := ⟨gb229, 0, none⟩) (Kd.R_far (p := ⟨gb228, 0, none⟩) (Kd.R_types (Kd.R_types (Kd.R_types (Kd.R_types (Kd.R_types (Kd.R_types (Kd.R_types HO227.out BK219.out (by decide)) BK220.out (by decide)) BK221.out (by decide)) BK228.out (by decide)) BK229.out (by decide)) BK219.out (by decide)) BK220.out (by decide)) (fun _ hk => hk.1.1.1.2) (.slice Ao18 t222.length co18)) (fun _ hk => hk.1.1.2) (.slice Ao24 t225.length co24)) (fun _ hk => hk.1.2) (.slice Ao11 x221000_1.length co11)) (fun _ hk => hk.2) (.slice Ao24 t225.length co24)) (fun _ hk => (And.intro (hk.1.1.1.1.1.1.1.1) ((And.intro (hk.1.1.1.1.1.1.2) ((And.intro (hk.1.1.1.1.1.2) (hk.1.1.1.1.2))))))))) (fun k_ hk => by first | exact ⟨(.inr (hk.1)), hk.2⟩ | exact (.inr (hk)))⟩, ⟨by refine blk_far ?_ NB219_220.out _; refine blk_put (cs := #[.slice Ao14 x220000_1.length co14]) ?_ 0 _ rfl; refine blk_far ?_ NB219_229.out _; refine blk_far ?_ NB219_228.out _; exact BK219.out⟩, ⟨by refine blk_put (cs := #[.slice Ao11 x221000_1.length co11]) ?_ 0 _ rfl; refine blk_far ?_ NB220_219.out _; refine blk_far ?_ NB220_229.out _; refine blk_far ?_ NB220_228.out _; exact BK220.out⟩, ⟨by refine blk_far ?_ NB221_220.out _; refine blk_far ?_ NB221_219.out _; refine blk_far ?_ NB221_229.out _; refine blk_far ?_ NB221_228.out _; exact BK221.out⟩, ⟨by repeat (with_reducible first | exact HB.out | apply bA_ | apply bN_ | apply bD_ | refine bS_ ?_ GE219.out | refine bS_ ?_ GE220.out | refine bS_ ?_ GE221.out | refine bS_ ?_ GE228.out | refine bS_ ?_ GE229.out)⟩⟩
   ·rw [if_neg c6] at H
    have c6b0 : decide (0 < (x221000_1.length : Int)) = false := decide_eq_false c6
    have c6b1 : decide (0 < x221000_1.length) = false := decide_eq_false (by omega)
    clear c6
    obtain rfl := Option.some.inj H
    have hnb31 := NB220_219.out
    have hnc31 := NB219_220.out
    have hnb32 := NB220_221.out
    have hnc32 := NB221_220.out
    have hcz33_0 : wr.cell? ⟨gb220, 0, none⟩ = some (u221000) := (blk_cell BK220.out 0).trans rfl
    have hfz33_0 := blk_frozen BK220.out 0
    obtain ⟨Ao34, co34, eo34⟩ := Kd.V_slice HO_221000.out
    subst eo34
    have hnb35 := NB219_221.out
    have hnc35 := NB221_219.out
    have hcz36_0 : wr.cell? ⟨gb219, 0, none⟩ = some (u220000) := (blk_cell BK219.out 0).trans rfl
    have hfz36_0 := blk_frozen BK219.out 0
    obtain ⟨Ao37, co37, eo37⟩ := Kd.V_slice HO_220000.out
    subst eo37
    have hcz38_0 : wr.cell? ⟨gb221, 0, none⟩ = some (.slice none 0 0) := (blk_cell BK221.out 0).trans rfl
    have hfz38_0 := blk_frozen BK221.out 0
    go_wp2
    refine bodyPost_ret (results_cell_row rfl _ _ gb221 56 #[.slice Ao37 x220000_1.length co37] (0, 0) _ rfl (by refine blk_put (cs := #[.slice none 0 0]) ?_ 0 _ rfl; exact BK221.out) Tryd.underlying56 rfl (by kernel_rfl)) rfl ?_
    exact ⟨_, by rfl, by (with_reducible repeat (first | apply Kd.V_alloc | apply Kd.V_drewN | apply Kd.V_drew)); exact Kd.V_mono (Kd.V_far (p := ⟨gb221, 0, none⟩) (Kd.V_mono HO_220000.out (fun k_ hk => (⟨hk, hk.2.2.2⟩ : _ ∧ k_ ≠ gb221))) (fun _ hk => hk.2) (.slice Ao37 x220000_1.length co37)) (fun _ hk => hk.1.1), by repeat (with_reducible first | exact HB.out | apply bA_ | apply bN_ | apply bD_ | refine bS_ ?_ GE219.out | refine bS_ ?_ GE220.out | refine bS_ ?_ GE221.out)⟩

def demurrageref02_value.l0 : Nat → Int → Int → List Int → Option (Int)
 | 0, _, _, _ => none
 | k + 1, x3, x4, x231000 => if x4 ≥ 0 then (if 0 ≤ x4 then (if x4 < (x231000.length : Int) then (demurrageref02_value.l0 k (wrap64 ((wrap64 (10000 * x3)) + (rd x231000 x4))) (wrap64 (x4 - 1)) x231000) else (none)) else (none)) else (some x3)
def demurrageref02_value.f (k : Nat) (l0_0 : List Int) : Option (Int) := demurrageref02_value.l0 k 0 (wrap64 ((l0_0.length : Int) - 1)) l0_0
set_option maxHeartbeats 8000000 in
set_option maxRecDepth 100000 in
theorem demurrageref02_value.calls (k : Nat) (A0_0 : Option Addr) (c0_0 : Nat) (l0_0 : List Int) (r : Int) (w : World) (hr0_0 : Kd.C (Kd.int .i64) w A0_0 l0_0.length l0_0) (hc0_0 : l0_0.length ≤ c0_0) (h : demurrageref02_value.f k l0_0 = some r) :
  Calls Tryd.prog 55 #[.agg #[.slice A0_0 l0_0.length c0_0]] w fun e w' => e = .returned (.int .i64 r) ∧ Below w.heap.size w w' := by
 have hu56 := Tryd.underlying56
 have HR0_0 := aA_ hr0_0
 have HC0_0 := aA_ hc0_0
 clear hr0_0 hc0_0
 have HB := aA_ (Below.refl w.heap.size w)
 have H : (demurrageref02_value.l0 k 0 (wrap64 ((l0_0.length : Int) - 1)) l0_0) = some r := h
 clear h
 have H' := aA_ H
 clear H
 go_enter Tryd.func55, Tryd.ntmps55
 go_wp2_with (first | ((with_reducible refine gate_dst (N := 1) rfl ?_); refine box_event rfl (N := 1) rfl (cs := #[.slice A0_0 l0_0.length c0_0]) (t := 56) ?hr ?_; (case hr => go_simp <;> rfl); intro gb230 hg w2 hbox hb; have BK230 := aA_ (hbox); have GW230 := gW_ hg (by repeat (with_reducible first | exact HB.out | apply bA_ | apply bN_ | apply bD_)); have GE230 := GW230; replace HB := bB_ (by repeat (with_reducible first | exact HB.out | apply bA_ | apply bN_ | apply bD_)) hb; clear hb hbox hg; have hcz3_0 : w2.cell? ⟨gb230, 0, none⟩ = some (.slice A0_0 l0_0.length c0_0) := (blk_cell BK230.out 0).trans rfl; have hfz3_0 := blk_frozen BK230.out 0))
 (try simp only [Act.put, sT_, sZ_, sS_])
 go_loopg [3, 4] k (fun kq v3 v4 w' => ∃ (x3_1 : Int) (x4_1 : Int), v3 = .int .i64 x3_1 ∧ v4 = .int .i64 x4_1 ∧ Aside0 (demurrageref02_value.l0 kq x3_1 x4_1 l0_0 = some r) ∧ Aside0 (kq ≤ k) ∧ Aside0 (w'.heap[gb230]? = some (.cells #[(.slice A0_0 l0_0.length c0_0)] 56 (0, 0))) ∧ Aside0 (Below w.heap.size w w'))
 case atStart => exact ⟨(0), (wrap64 ((l0_0.length : Int) - 1)), (by first | rfl | (simp; done) | (simp [*]; done)), (by first | rfl | (simp; done) | (simp [*]; done)), H', ⟨Nat.le_refl _⟩, ⟨by exact BK230.out⟩, ⟨by repeat (with_reducible first | exact HB.out | apply bA_ | apply bN_ | apply bD_ | refine bS_ ?_ GE230.out)⟩⟩
 case round =>
  clear H'
  try clear p2
  try clear hcz3_0
  try clear hfz3_0
  obtain ⟨x3_1, x4_1, rfl, rfl, HA, HK1, BK230, HB⟩ := hrel
  cases gk with
  | zero => exact absurd HA.out (by simp [demurrageref02_value.l0])
  | succ k1 =>
   have H := HA.out
   clear HA
   simp only [demurrageref02_value.l0] at H
   by_cases c4 : x4_1 ≥ 0
   ·rw [if_pos c4] at H
    have c4b0 : decide (0 ≤ x4_1) = true := decide_eq_true c4
    clear c4
    by_cases c5 : 0 ≤ x4_1
    ·rw [if_pos c5] at H
     have c5b0 : decide (0 ≤ x4_1) = true := decide_eq_true c5
     clear c5
     by_cases c6 : x4_1 < (l0_0.length : Int)
     ·rw [if_pos c6] at H
      have c6b0 : decide (x4_1 < (l0_0.length : Int)) = true := decide_eq_true c6
      clear c6
      have H' := aA_ H
      clear H
      have hcz7_0 : wr.cell? ⟨gb230, 0, none⟩ = some (.slice A0_0 l0_0.length c0_0) := (blk_cell BK230.out 0).trans rfl
      have hfz7_0 := blk_frozen BK230.out 0
      have p231 : 0 ≤ (x4_1 : Int) := of_decide_eq_true (by first | (with_reducible assumption) | assumption)
      have q231 : x4_1 < (l0_0.length : Int) := of_decide_eq_true (by first | (with_reducible assumption) | assumption)
      obtain ⟨ad231, e231, hx231_0⟩ := Kd.at_int HR0_0.out x4_1 p231 q231
      cases e231
      replace hx231_0 := cC_ HB hx231_0
      replace p231 := eq_true p231
      replace q231 := eq_true q231
      go_wp2
      go_roundg k1
      case measure => have := HK1.out; omega
      case rel => exact ⟨(wrap64 ((wrap64 (10000 * x3_1)) + (rd l0_0 x4_1))), (wrap64 (x4_1 - 1)), (by first | rfl | (simp; done) | (simp [*]; done)), (by first | rfl | (simp; done) | (simp [*]; done)), H', ⟨by have := HK1.out; omega⟩, ⟨by exact BK230.out⟩, ⟨by repeat (with_reducible first | exact HB.out | apply bA_ | apply bN_ | apply bD_ | refine bS_ ?_ GE230.out)⟩⟩
     ·rw [if_neg c6] at H
      exact absurd H (by simp)
    ·rw [if_neg c5] at H
     exact absurd H (by simp)
   ·rw [if_neg c4] at H
    have c4b0 : decide (0 ≤ x4_1) = false := decide_eq_false c4
    clear c4
    obtain rfl := Option.some.inj H
    go_wp2
    go_ret
    exact ⟨by rfl, by repeat (with_reducible first | exact HB.out | apply bA_ | apply bN_ | apply bD_ | refine bS_ ?_ GE230.out)⟩

def demurrageref02_Made.j0 : Nat → Bool → List Int → List Int → Option (Int × Int × Int)
 | 0, _, _, _ => none
 | k + 1, x37, x246000, x254000 => if x37 = true then (some (0, 0, 6)) else ((demurrageref02_value.f k x246000).bind fun t261 => ((demurrageref02_value.f k x254000).bind fun t262 => (some (t261, t262, 0))))
def demurrageref02_Made.f (k : Nat) (l0_0 : List Int) (l1_0 : List Int) : Option (Int × Int × Int) := (demurrageref02_Gcd.f k l0_0 l1_0).bind fun t235 => ((demurrageref01_Quot.f k l0_0 t235).bind fun bt239 => ((demurrageref01_Quot.f k l1_0 t235).bind fun bt247 => ((demurrageref01_FromU.f k 4611686018427387904).bind fun t255 => ((demurrageref01_Cmp.f k bt239.1 t255).bind fun t259 => (if t259 > 0 then (demurrageref02_Made.j0 k true bt239.1 bt247.1) else ((demurrageref01_Cmp.f k bt247.1 t255).bind fun t260 => (demurrageref02_Made.j0 k (decide (t260 > 0)) bt239.1 bt247.1)))))))
set_option maxHeartbeats 8000000 in
set_option maxRecDepth 100000 in
theorem demurrageref02_Made.calls (k : Nat) (A0_0 : Option Addr) (c0_0 : Nat) (l0_0 : List Int) (A1_0 : Option Addr) (c1_0 : Nat) (l1_0 : List Int) (r1 : Int) (r2 : Int) (r3 : Int) (w : World) (hr0_0 : Kd.C (Kd.int .i64) w A0_0 l0_0.length l0_0) (hc0_0 : l0_0.length ≤ c0_0) (hr1_0 : Kd.C (Kd.int .i64) w A1_0 l1_0.length l1_0) (hc1_0 : l1_0.length ≤ c1_0) (h : demurrageref02_Made.f k l0_0 l1_0 = some (r1, r2, r3)) :
  Calls Tryd.prog 33 #[.agg #[.slice A0_0 l0_0.length c0_0], .agg #[.slice A1_0 l1_0.length c1_0]] w fun e w' => e = .returned (.tuple #[.agg #[.int .i64 r1, .int .i64 r2], .int .i64 r3]) ∧ Below w.heap.size w w' := by
 have hu56 := Tryd.underlying56
 have hu24 := Tryd.underlying24
 have HR0_0 := aA_ hr0_0
 have HC0_0 := aA_ hc0_0
 clear hr0_0 hc0_0
 have HR1_0 := aA_ hr1_0
 have HC1_0 := aA_ hc1_0
 clear hr1_0 hc1_0
 have HB := aA_ (Below.refl w.heap.size w)
 have H : ((demurrageref02_Gcd.f k l0_0 l1_0).bind fun t235 => ((demurrageref01_Quot.f k l0_0 t235).bind fun bt239 => ((demurrageref01_Quot.f k l1_0 t235).bind fun bt247 => ((demurrageref01_FromU.f k 4611686018427387904).bind fun t255 => ((demurrageref01_Cmp.f k bt239.1 t255).bind fun t259 => (if t259 > 0 then (demurrageref02_Made.j0 k true bt239.1 bt247.1) else ((demurrageref01_Cmp.f k bt247.1 t255).bind fun t260 => (demurrageref02_Made.j0 k (decide (t260 > 0)) bt239.1 bt247.1)))))))) = some (r1, r2, r3) := h
 clear h
 replace H := bI_ H
 obtain ⟨t235, A30, H⟩ := H
 (try dsimp only at H)
 have A3 := aA_ A30
 clear A30
 replace H := bI_ H
 obtain ⟨⟨t239, t242⟩, A40, H⟩ := H
 (try dsimp only at H)
 have A4 := aA_ A40
 clear A40
 replace H := bI_ H
 obtain ⟨⟨t247, t250⟩, A50, H⟩ := H
 (try dsimp only at H)
 have A5 := aA_ A50
 clear A50
 replace H := bI_ H
 obtain ⟨t255, A60, H⟩ := H
 (try dsimp only at H)
 have A6 := aA_ A60
 clear A60
 have HC7 := aA_ H
 clear H
 go_enter Tryd.func33, Tryd.ntmps33
 go_upto_region 5 with (first | ((with_reducible refine gate_dst (N := 2) rfl ?_); refine box_event rfl (N := 2) rfl (cs := #[.slice A0_0 l0_0.length c0_0]) (t := 56) ?hr ?_; (case hr => go_simp <;> rfl); intro gb232 hg w8 hbox hb; have BK232 := aA_ (hbox); have GW232 := gW_ hg (by repeat (with_reducible first | exact HB.out | apply bA_ | apply bN_ | apply bD_)); have GE232 := GW232; replace HB := bB_ (by repeat (with_reducible first | exact HB.out | apply bA_ | apply bN_ | apply bD_)) hb; clear hb hbox hg) | ((with_reducible refine gate_dst (N := 3) rfl ?_); refine box_event rfl (N := 3) rfl (cs := #[.slice A1_0 l1_0.length c1_0]) (t := 56) ?hr ?_; (case hr => go_simp <;> rfl); intro gb233 hg w9 hbox hb; have BK233 := aA_ (hbox); have GW233 := gW_ hg (by repeat (with_reducible first | exact HB.out | apply bA_ | apply bN_ | apply bD_ | refine bS_ ?_ GE232.out)); have GE233 := GW233; replace HB := bB_ (by repeat (with_reducible first | exact HB.out | apply bA_ | apply bN_ | apply bD_ | refine bS_ ?_ GE232.out)) hb; have NB232_233 := nE_ hg BK232; have NB233_232 := aA_ NB232_233.out.symm; replace BK232 := bK_ BK232 hb; clear hb hbox hg) | ((with_reducible refine gate_dst (N := 4) rfl ?_); refine box_event rfl (N := 4) rfl (cs := #[.int .i64 0, .int .i64 0]) (t := 24) ?hr ?_; (case hr => go_simp <;> rfl); intro gb234 hg w10 hbox hb; have BK234 := aA_ (hbox); have GW234 := gW_ hg (by repeat (with_reducible first | exact HB.out | apply bA_ | apply bN_ | apply bD_ | refine bS_ ?_ GE232.out | refine bS_ ?_ GE233.out)); have GE234 := GW234; replace HB := bB_ (by repeat (with_reducible first | exact HB.out | apply bA_ | apply bN_ | apply bD_ | refine bS_ ?_ GE232.out | refine bS_ ?_ GE233.out)) hb; have NB232_234 := nE_ hg BK232; have NB234_232 := aA_ NB232_234.out.symm; replace BK232 := bK_ BK232 hb; have NB233_234 := nE_ hg BK233; have NB234_233 := aA_ NB233_234.out.symm; replace BK233 := bK_ BK233 hb; clear hb hbox hg; have hnb11 := NB232_233.out; have hnc11 := NB233_232.out; have hnb12 := NB232_234.out; have hnc12 := NB234_232.out; have hcz13_0 : w10.cell? ⟨gb232, 0, none⟩ = some (.slice A0_0 l0_0.length c0_0) := (blk_cell BK232.out 0).trans rfl; have hfz13_0 := blk_frozen BK232.out 0; have hnb14 := NB233_234.out; have hnc14 := NB234_233.out; have hcz15_0 : w10.cell? ⟨gb233, 0, none⟩ = some (.slice A1_0 l1_0.length c1_0) := (blk_cell BK233.out 0).trans rfl; have hfz15_0 := blk_frozen BK233.out 0) | ((with_reducible refine gate_callee (f := 52) rfl ?_); refine goesL_ (some 14) rfl rfl Tryd.func52 (by kernel_rfl) rfl #[.agg #[.slice A0_0 l0_0.length c0_0], .agg #[.slice A1_0 l1_0.length c1_0]] rfl (by (try simp only [mT_, mC_, mN_]); first | done | rfl) ?_; (with_reducible refine (demurrageref02_Gcd.calls k (fun k_ => k_ < w.heap.size) _ _ l0_0 (fun k_ => k_ < w.heap.size) _ _ l1_0 t235 _ ?side1 ?side2 A3.out).mono ?_); (case side1 => exact Kd.V_mk HC0_0.out (Kd.F_below (Kd.C_F (Kd.heap_int .i64) HR0_0.out) (by repeat (with_reducible first | exact HB.out | apply bA_ | apply bN_ | apply bD_ | refine bS_ ?_ GE232.out | refine bS_ ?_ GE233.out | refine bS_ ?_ GE234.out)))); (case side2 => exact Kd.V_mk HC1_0.out (Kd.F_below (Kd.C_F (Kd.heap_int .i64) HR1_0.out) (by repeat (with_reducible first | exact HB.out | apply bA_ | apply bN_ | apply bD_ | refine bS_ ?_ GE232.out | refine bS_ ?_ GE233.out | refine bS_ ?_ GE234.out)))); rintro e w16 ⟨v236, rfl, ho0, hb⟩; refine ⟨_, rfl, ?_⟩; have HO237 := aA_ (Kd.V_lower (Kd.V_mono (ok' := fun k_ => k_ ≠ gb232 ∧ k_ ≠ gb233 ∧ k_ ≠ gb234) ho0 (fun k_ hk_ => ⟨Or.elim hk_ (fun hs_ => Or.elim hs_ (fun hs_ => fun e_ => Nat.not_le.2 hs_ (by rw [e_]; exact GW232.out)) (fun hs_ => fun e_ => Nat.not_le.2 hs_ (by rw [e_]; exact GW232.out))) (fun hn_ => (Kd.freshB (g := gb232) (o := .cells #[.slice A0_0 l0_0.length c0_0] 56 (0, 0)) BK232.out k_ hn_)), Or.elim hk_ (fun hs_ => Or.elim hs_ (fun hs_ => fun e_ => Nat.not_le.2 hs_ (by rw [e_]; exact GW233.out)) (fun hs_ => fun e_ => Nat.not_le.2 hs_ (by rw [e_]; exact GW233.out))) (fun hn_ => (Kd.freshB (g := gb233) (o := .cells #[.slice A1_0 l1_0.length c1_0] 56 (0, 0)) BK233.out k_ hn_)), Or.elim hk_ (fun hs_ => Or.elim hs_ (fun hs_ => fun e_ => Nat.not_le.2 hs_ (by rw [e_]; exact GW234.out)) (fun hs_ => fun e_ => Nat.not_le.2 hs_ (by rw [e_]; exact GW234.out))) (fun hn_ => (Kd.freshB (g := gb234) (o := .cells #[.int .i64 0, .int .i64 0] 24 (0, 0)) BK234.out k_ hn_))⟩)) (below_size (by repeat (with_reducible first | exact HB.out | apply bA_ | apply bN_ | apply bD_ | refine bS_ ?_ GE232.out | refine bS_ ?_ GE233.out | refine bS_ ?_ GE234.out)))); replace BK232 := bK_ BK232 hb; replace BK233 := bK_ BK233 hb; replace BK234 := bK_ BK234 hb; replace HB := bB_ (by repeat (with_reducible first | exact HB.out | apply bA_ | apply bN_ | apply bD_ | refine bS_ ?_ GE232.out | refine bS_ ?_ GE233.out | refine bS_ ?_ GE234.out)) hb; (try clear hb); (try clear ho0)) | ((with_reducible refine gate_dst (N := 6) rfl ?_); refine box_event rfl (N := 6) rfl (cs := #[.slice none 0 0]) (t := 56) ?hr ?_; (case hr => go_simp <;> rfl); intro gb238 hg w17 hbox hb; replace HO237 := aA_ (Kd.V_below (Kd.V_elderB HO237.out gb238 (Nat.le_of_eq hg.symm)) hb); have BK238 := aA_ (hbox); have GW238 := gW_ hg (by repeat (with_reducible first | exact HB.out | apply bA_ | apply bN_ | apply bD_ | refine bS_ ?_ GE232.out | refine bS_ ?_ GE233.out | refine bS_ ?_ GE234.out)); have GE238 := GW238; replace HB := bB_ (by repeat (with_reducible first | exact HB.out | apply bA_ | apply bN_ | apply bD_ | refine bS_ ?_ GE232.out | refine bS_ ?_ GE233.out | refine bS_ ?_ GE234.out)) hb; have NB232_238 := nE_ hg BK232; have NB238_232 := aA_ NB232_238.out.symm; replace BK232 := bK_ BK232 hb; have NB233_238 := nE_ hg BK233; have NB238_233 := aA_ NB233_238.out.symm; replace BK233 := bK_ BK233 hb; have NB234_238 := nE_ hg BK234; have NB238_234 := aA_ NB234_238.out.symm; replace BK234 := bK_ BK234 hb; clear hb hbox hg; obtain ⟨Ao18, co18, eo18⟩ := Kd.V_slice HO237.out; subst eo18; have hnb19 := NB238_232.out; have hnc19 := NB232_238.out; have hnb20 := NB238_233.out; have hnc20 := NB233_238.out; have hnb21 := NB238_234.out; have hnc21 := NB234_238.out; have hcz22_0 : w17.cell? ⟨gb238, 0, none⟩ = some (.slice none 0 0) := (blk_cell BK238.out 0).trans rfl; have hfz22_0 := blk_frozen BK238.out 0; have hcz23_0 : w17.cell? ⟨gb232, 0, none⟩ = some (.slice A0_0 l0_0.length c0_0) := (blk_cell BK232.out 0).trans rfl; have hfz23_0 := blk_frozen BK232.out 0) | ((with_reducible refine gate_callee (f := 53) rfl ?_); refine goesL_ (some 18) rfl rfl Tryd.func53 (by kernel_rfl) rfl #[.agg #[.slice A0_0 l0_0.length c0_0], .agg #[.slice Ao18 t235.length co18]] rfl (by (try simp only [mT_, mC_, mN_]); first | done | rfl) ?_; (with_reducible refine (demurrageref01_Quot.calls k _ _ l0_0 _ _ t235 t239 t242 _ ?side1 ?side2 ?side3 ?side4 A4.out).mono ?_); (case side1 => exact Kd.C_below HR0_0.out (by repeat (with_reducible first | exact HB.out | apply bA_ | apply bN_ | apply bD_ | refine bS_ ?_ GE232.out | refine bS_ ?_ GE233.out | refine bS_ ?_ GE234.out | refine bS_ ?_ GE238.out))); (case side2 => exact HC0_0.out); (case side3 => refine (Kd.V_reads' (e := 3) (base := w.heap.size) (ok := fun k_ => ((k_ ≠ gb232 ∧ (k_ ≠ gb233 ∧ k_ ≠ gb234)) ∧ k_ ≠ gb238)) (n := t235.length) (c := co18) ?_).2.2; exact (by (with_reducible repeat (first | apply Kd.V_alloc | apply Kd.V_drewN | apply Kd.V_drew)); exact (Kd.V_mono (Kd.V_far (p := ⟨gb238, 0, none⟩) (Kd.V_mono HO237.out (fun k_ hk => (⟨hk, hk.2⟩ : _ ∧ k_ ≠ gb238))) (fun _ hk => hk.2) (.slice Ao18 t235.length co18)) (fun _ h_ => h_.1)))); (case side4 => exact (Kd.V_reads' HO237.out).2.1); rintro e w24 ⟨v240, v243, rfl, ho0, ho1, hb⟩; refine ⟨_, rfl, ?_⟩; replace HO237 := aA_ (Kd.V_mono (Kd.V_told (Kd.V_told (Kd.V_old (by (with_reducible repeat (first | apply Kd.V_alloc | apply Kd.V_drewN | apply Kd.V_drew)); exact (Kd.V_mono (Kd.V_far (p := ⟨gb238, 0, none⟩) (Kd.V_mono HO237.out (fun k_ hk => (⟨hk, hk.2⟩ : _ ∧ k_ ≠ gb238))) (fun _ hk => hk.2) (.slice Ao18 t235.length co18)) (fun _ h_ => h_.1))) hb) (Kd.R_base ho0)) (Kd.R_base ho1)) (fun _ h_ => h_.1)); have HO241 := aA_ (Kd.R_lower ho0 (below_size (by repeat (with_reducible first | exact HB.out | apply bA_ | apply bN_ | apply bD_ | refine bS_ ?_ GE232.out | refine bS_ ?_ GE233.out | refine bS_ ?_ GE234.out | refine bS_ ?_ GE238.out)))); have HO244 := aA_ (Kd.R_lower ho1 (below_size (by repeat (with_reducible first | exact HB.out | apply bA_ | apply bN_ | apply bD_ | refine bS_ ?_ GE232.out | refine bS_ ?_ GE233.out | refine bS_ ?_ GE234.out | refine bS_ ?_ GE238.out)))); replace BK232 := aA_ (blk_below (g := gb232) (o := .cells #[.slice A0_0 l0_0.length c0_0] 56 (0, 0)) (by refine blk_far ?_ NB232_238.out _; exact BK232.out) hb); replace BK233 := aA_ (blk_below (g := gb233) (o := .cells #[.slice A1_0 l1_0.length c1_0] 56 (0, 0)) (by refine blk_far ?_ NB233_238.out _; exact BK233.out) hb); replace BK234 := aA_ (blk_below (g := gb234) (o := .cells #[.int .i64 0, .int .i64 0] 24 (0, 0)) (by refine blk_far ?_ NB234_238.out _; exact BK234.out) hb); replace BK238 := aA_ (blk_below (g := gb238) (o := .cells #[.slice Ao18 t235.length co18] 56 (0, 0)) (by refine blk_put (cs := #[.slice none 0 0]) ?_ 0 _ rfl; exact BK238.out) hb); replace HB := bB_ (by repeat (with_reducible first | exact HB.out | apply bA_ | apply bN_ | apply bD_ | refine bS_ ?_ GE232.out | refine bS_ ?_ GE233.out | refine bS_ ?_ GE234.out | refine bS_ ?_ GE238.out)) hb; (try clear hb); (try clear ho0); (try clear ho1)) | ((with_reducible refine gate_dst (N := 7) rfl ?_); refine box_event rfl (N := 7) rfl (cs := #[.slice none 0 0]) (t := 56) ?hr ?_; (case hr => go_simp <;> rfl); intro gb245 hg w25 hbox hb; replace HO237 := aA_ (Kd.V_below (Kd.V_elderB HO237.out gb245 (Nat.le_of_eq hg.symm)) hb); replace HO241 := aA_ (Kd.R_below HO241.out hb); replace HO244 := aA_ (Kd.R_below HO244.out hb); have BK245 := aA_ (hbox); have GW245 := gW_ hg (by repeat (with_reducible first | exact HB.out | apply bA_ | apply bN_ | apply bD_ | refine bS_ ?_ GE232.out | refine bS_ ?_ GE233.out | refine bS_ ?_ GE234.out | refine bS_ ?_ GE238.out)); have GE245 := GW245; replace HB := bB_ (by repeat (with_reducible first | exact HB.out | apply bA_ | apply bN_ | apply bD_ | refine bS_ ?_ GE232.out | refine bS_ ?_ GE233.out | refine bS_ ?_ GE234.out | refine bS_ ?_ GE238.out)) hb; have NB232_245 := nE_ hg BK232; have NB245_232 := aA_ NB232_245.out.symm; replace BK232 := bK_ BK232 hb; have NB233_245 := nE_ hg BK233; have NB245_233 := aA_ NB233_245.out.symm; replace BK233 := bK_ BK233 hb; have NB234_245 := nE_ hg BK234; have NB245_234 := aA_ NB234_245.out.symm; replace BK234 := bK_ BK234 hb; have NB238_245 := nE_ hg BK238; have NB245_238 := aA_ NB238_245.out.symm; replace BK238 := bK_ BK238 hb; clear hb hbox hg) | ((with_reducible refine gate_dst (N := 8) rfl ?_); refine box_event rfl (N := 8) rfl (cs := #[.slice none 0 0]) (t := 56) ?hr ?_; (case hr => go_simp <;> rfl); intro gb246 hg w26 hbox hb; replace HO237 := aA_ (Kd.V_below (Kd.V_elderB HO237.out gb246 (Nat.le_of_eq hg.symm)) hb); replace HO241 := aA_ (Kd.R_below HO241.out hb); replace HO244 := aA_ (Kd.R_below HO244.out hb); have BK246 := aA_ (hbox); have GW246 := gW_ hg (by repeat (with_reducible first | exact HB.out | apply bA_ | apply bN_ | apply bD_ | refine bS_ ?_ GE232.out | refine bS_ ?_ GE233.out | refine bS_ ?_ GE234.out | refine bS_ ?_ GE238.out | refine bS_ ?_ GE245.out)); have GE246 := GW246; replace HB := bB_ (by repeat (with_reducible first | exact HB.out | apply bA_ | apply bN_ | apply bD_ | refine bS_ ?_ GE232.out | refine bS_ ?_ GE233.out | refine bS_ ?_ GE234.out | refine bS_ ?_ GE238.out | refine bS_ ?_ GE245.out)) hb; have NB232_246 := nE_ hg BK232; have NB246_232 := aA_ NB232_246.out.symm; replace BK232 := bK_ BK232 hb; have NB233_246 := nE_ hg BK233; have NB246_233 := aA_ NB233_246.out.symm; replace BK233 := bK_ BK233 hb; have NB234_246 := nE_ hg BK234; have NB246_234 := aA_ NB234_246.out.symm; replace BK234 := bK_ BK234 hb; have NB238_246 := nE_ hg BK238; have NB246_238 := aA_ NB238_246.out.symm; replace BK238 := bK_ BK238 hb; have NB245_246 := nE_ hg BK245; have NB246_245 := aA_ NB245_246.out.symm; replace BK245 := bK_ BK245 hb; clear hb hbox hg; obtain ⟨Ao27, co27, eo27⟩ := Kd.R_slice HO241.out; subst eo27; have hnb28 := NB245_232.out; have hnc28 := NB232_245.out; have hnb29 := NB245_233.out; have hnc29 := NB233_245.out; have hnb30 := NB245_234.out; have hnc30 := NB234_245.out; have hnb31 := NB245_238.out; have hnc31 := NB238_245.out; have hnb32 := NB245_246.out; have hnc32 := NB246_245.out; have hcz33_0 : w26.cell? ⟨gb245, 0, none⟩ = some (.slice none 0 0) := (blk_cell BK245.out 0).trans rfl; have hfz33_0 := blk_frozen BK245.out 0; obtain ⟨Ao34, co34, eo34⟩ := Kd.R_slice HO244.out; subst eo34; have hnb35 := NB246_232.out; have hnc35 := NB232_246.out; have hnb36 := NB246_233.out; have hnc36 := NB233_246.out; have hnb37 := NB246_234.out; have hnc37 := NB234_246.out; have hnb38 := NB246_238.out; have hnc38 := NB238_246.out; have hcz39_0 : w26.cell? ⟨gb246, 0, none⟩ = some (.slice none 0 0) := (blk_cell BK246.out 0).trans rfl; have hfz39_0 := blk_frozen BK246.out 0; have hcz40_0 : w26.cell? ⟨gb233, 0, none⟩ = some (.slice A1_0 l1_0.length c1_0) := (blk_cell BK233.out 0).trans rfl; have hfz40_0 := blk_frozen BK233.out 0; have hcz41_0 : w26.cell? ⟨gb238, 0, none⟩ = some (.slice Ao18 t235.length co18) := (blk_cell BK238.out 0).trans rfl; have hfz41_0 := blk_frozen BK238.out 0) | ((with_reducible refine gate_callee (f := 53) rfl ?_); refine goesL_ (some 24) rfl rfl Tryd.func53 (by kernel_rfl) rfl #[.agg #[.slice A1_0 l1_0.length c1_0], .agg #[.slice Ao18 t235.length co18]] rfl (by (try simp only [mT_, mC_, mN_]); first | done | rfl) ?_; (with_reducible refine (demurrageref01_Quot.calls k _ _ l1_0 _ _ t235 t247 t250 _ ?side1 ?side2 ?side3 ?side4 A5.out).mono ?_); (case side1 => exact Kd.C_below HR1_0.out (by repeat (with_reducible first | exact HB.out | apply bA_ | apply bN_ | apply bD_ | refine bS_ ?_ GE232.out | refine bS_ ?_ GE233.out | refine bS_ ?_ GE234.out | refine bS_ ?_ GE238.out | refine bS_ ?_ GE245.out | refine bS_ ?_ GE246.out))); (case side2 => exact HC1_0.out); (case side3 => refine (Kd.V_reads' (e := 3) (base := w.heap.size) (ok := fun k_ => ((((((k_ ≠ gb232 ∧ (k_ ≠ gb233 ∧ k_ ≠ gb234)) ∧ k_ ≠ gb238) ∧ some k_ ≠ (.slice Ao27 t239.length co27 : Value).ownBlock) ∧ some k_ ≠ (.slice Ao34 t242.length co34 : Value).ownBlock) ∧ k_ ≠ gb245) ∧ k_ ≠ gb246)) (n := t235.length) (c := co18) ?_).2.2; exact (by (with_reducible repeat (first | apply Kd.V_alloc | apply Kd.V_drewN | apply Kd.V_drew)); exact (Kd.V_mono (Kd.V_mono (Kd.V_far (p := ⟨gb246, 0, none⟩) (Kd.V_far (p := ⟨gb245, 0, none⟩) (Kd.V_mono (Kd.V_mono HO237.out (fun k_ hk => (⟨hk, hk.1.2⟩ : _ ∧ k_ ≠ gb245))) (fun k_ hk => (⟨hk, hk.1.2⟩ : _ ∧ k_ ≠ gb246))) (fun _ hk => hk.1.2) (.slice Ao27 t239.length co27)) (fun _ hk => hk.2) (.slice Ao34 t242.length co34)) (fun _ h_ => h_.1)) (fun _ h_ => h_.1)))); (case side4 => exact (Kd.V_reads' HO237.out).2.1); rintro e w42 ⟨v248, v251, rfl, ho0, ho1, hb⟩; refine ⟨_, rfl, ?_⟩; replace HO237 := aA_ (Kd.V_mono (Kd.V_told (Kd.V_told (Kd.V_old (by (with_reducible repeat (first | apply Kd.V_alloc | apply Kd.V_drewN | apply Kd.V_drew)); exact (Kd.V_mono (Kd.V_mono (Kd.V_far (p := ⟨gb246, 0, none⟩) (Kd.V_far (p := ⟨gb245, 0, none⟩) (Kd.V_mono (Kd.V_mono HO237.out (fun k_ hk => (⟨hk, hk.1.2⟩ : _ ∧ k_ ≠ gb245))) (fun k_ hk => (⟨hk, hk.1.2⟩ : _ ∧ k_ ≠ gb246))) (fun _ hk => hk.1.2) (.slice Ao27 t239.length co27)) (fun _ hk => hk.2) (.slice Ao34 t242.length co34)) (fun _ h_ => h_.1)) (fun _ h_ => h_.1))) hb) (Kd.R_base ho0)) (Kd.R_base ho1)) (fun _ h_ => h_.1)); have HO249 := aA_ (Kd.R_lower (Kd.R_new' (Kd.R_new' ho0 (Kd.R_lt (by (with_reducible repeat (first | apply Kd.R_alloc | apply Kd.R_drewN | apply Kd.R_drew)); exact (Kd.R_mono (Kd.R_mono (Kd.R_far (p := ⟨gb246, 0, none⟩) (Kd.R_far (p := ⟨gb245, 0, none⟩) (Kd.R_types (Kd.R_types HO241.out BK245.out (by decide)) BK246.out (by decide)) (fun _ hk => hk.1.2) (.slice Ao27 t239.length co27)) (fun _ hk => hk.2) (.slice Ao34 t242.length co34)) (fun _ h_ => h_.1)) (fun _ h_ => h_.1))))) (Kd.R_lt (by (with_reducible repeat (first | apply Kd.R_alloc | apply Kd.R_drewN | apply Kd.R_drew)); exact (Kd.R_mono (Kd.R_mono (Kd.R_far (p := ⟨gb246, 0, none⟩) (Kd.R_far (p := ⟨gb245, 0, none⟩) (Kd.R_types (Kd.R_types HO244.out BK245.out (by decide)) BK246.out (by decide)) (fun _ hk => hk.1.2) (.slice Ao27 t239.length co27)) (fun _ hk => hk.2) (.slice Ao34 t242.length co34)) (fun _ h_ => h_.1)) (fun _ h_ => h_.1))))) (below_size (by repeat (with_reducible first | exact HB.out | apply bA_ | apply bN_ | apply bD_ | refine bS_ ?_ GE232.out | refine bS_ ?_ GE233.out | refine bS_ ?_ GE234.out | refine bS_ ?_ GE238.out | refine bS_ ?_ GE245.out | refine bS_ ?_ GE246.out)))); have HO252 := aA_ (Kd.R_lower (Kd.R_new' (Kd.R_new' ho1 (Kd.R_lt (by (with_reducible repeat (first | apply Kd.R_alloc | apply Kd.R_drewN | apply Kd.R_drew)); exact (Kd.R_mono (Kd.R_mono (Kd.R_far (p := ⟨gb246, 0, none⟩) (Kd.R_far (p := ⟨gb245, 0, none⟩) (Kd.R_types (Kd.R_types HO241.out BK245.out (by decide)) BK246.out (by decide)) (fun _ hk => hk.1.2) (.slice Ao27 t239.length co27)) (fun _ hk => hk.2) (.slice Ao34 t242.length co34)) (fun _ h_ => h_.1)) (fun _ h_ => h_.1))))) (Kd.R_lt (by (with_reducible repeat (first | apply Kd.R_alloc | apply Kd.R_drewN | apply Kd.R_drew)); exact (Kd.R_mono (Kd.R_mono (Kd.R_far (p := ⟨gb246, 0, none⟩) (Kd.R_far (p := ⟨gb245, 0, none⟩) (Kd.R_types (Kd.R_types HO244.out BK245.out (by decide)) BK246.out (by decide)) (fun _ hk => hk.1.2) (.slice Ao27 t239.length co27)) (fun _ hk => hk.2) (.slice Ao34 t242.length co34)) (fun _ h_ => h_.1)) (fun _ h_ => h_.1))))) (below_size (by repeat (with_reducible first | exact HB.out | apply bA_ | apply bN_ | apply bD_ | refine bS_ ?_ GE232.out | refine bS_ ?_ GE233.out | refine bS_ ?_ GE234.out | refine bS_ ?_ GE238.out | refine bS_ ?_ GE245.out | refine bS_ ?_ GE246.out)))); replace HO241 := aA_ (Kd.R_mono (Kd.R_told (Kd.R_told (Kd.R_old (by (with_reducible repeat (first | apply Kd.R_alloc | apply Kd.R_drewN | apply Kd.R_drew)); exact (Kd.R_mono (Kd.R_mono (Kd.R_far (p := ⟨gb246, 0, none⟩) (Kd.R_far (p := ⟨gb245, 0, none⟩) (Kd.R_types (Kd.R_types HO241.out BK245.out (by decide)) BK246.out (by decide)) (fun _ hk => hk.1.2) (.slice Ao27 t239.length co27)) (fun _ hk => hk.2) (.slice Ao34 t242.length co34)) (fun _ h_ => h_.1)) (fun _ h_ => h_.1))) hb) (Kd.R_base ho0)) (Kd.R_base ho1)) (fun _ h_ => h_.1)); replace HO244 := aA_ (Kd.R_mono (Kd.R_told (Kd.R_told (Kd.R_old (by (with_reducible repeat (first | apply Kd.R_alloc | apply Kd.R_drewN | apply Kd.R_drew)); exact (Kd.R_mono (Kd.R_mono (Kd.R_far (p := ⟨gb246, 0, none⟩) (Kd.R_far (p := ⟨gb245, 0, none⟩) (Kd.R_types (Kd.R_types HO244.out BK245.out (by decide)) BK246.out (by decide)) (fun _ hk => hk.1.2) (.slice Ao27 t239.length co27)) (fun _ hk => hk.2) (.slice Ao34 t242.length co34)) (fun _ h_ => h_.1)) (fun _ h_ => h_.1))) hb) (Kd.R_base ho0)) (Kd.R_base ho1)) (fun _ h_ => h_.1)); replace BK232 := aA_ (blk_below (g := gb232) (o := .cells #[.slice A0_0 l0_0.length c0_0] 56 (0, 0)) (by refine blk_far ?_ NB232_246.out _; refine blk_far ?_ NB232_245.out _; exact BK232.out) hb); replace BK233 := aA_ (blk_below (g := gb233) (o := .cells #[.slice A1_0 l1_0.length c1_0] 56 (0, 0)) (by refine blk_far ?_ NB233_246.out _; refine blk_far ?_ NB233_245.out _; exact BK233.out) hb); replace BK234 := aA_ (blk_below (g := gb234) (o := .cells #[.int .i64 0, .int .i64 0] 24 (0, 0)) (by refine blk_far ?_ NB234_246.out _; refine blk_far ?_ NB234_245.out _; exact BK234.out) hb); replace BK238 := aA_ (blk_below (g := gb238) (o := .cells #[.slice Ao18 t235.length co18] 56 (0, 0)) (by refine blk_far ?_ NB238_246.out _; refine blk_far ?_ NB238_245.out _; exact BK238.out) hb); replace BK245 := aA_ (blk_below (g := gb245) (o := .cells #[.slice Ao27 t239.length co27] 56 (0, 0)) (by refine blk_far ?_ NB245_246.out _; refine blk_put (cs := #[.slice none 0 0]) ?_ 0 _ rfl; exact BK245.out) hb); replace BK246 := aA_ (blk_below (g := gb246) (o := .cells #[.slice Ao34 t242.length co34] 56 (0, 0)) (by refine blk_put (cs := #[.slice none 0 0]) ?_ 0 _ rfl; refine blk_far ?_ NB246_245.out _; exact BK246.out) hb); replace HB := bB_ (by repeat (with_reducible first | exact HB.out | apply bA_ | apply bN_ | apply bD_ | refine bS_ ?_ GE232.out | refine bS_ ?_ GE233.out | refine bS_ ?_ GE234.out | refine bS_ ?_ GE238.out | refine bS_ ?_ GE245.out | refine bS_ ?_ GE246.out)) hb; (try clear hb); (try clear ho0); (try clear ho1)) | ((with_reducible refine gate_dst (N := 9) rfl ?_); refine box_event rfl (N := 9) rfl (cs := #[.slice none 0 0]) (t := 56) ?hr ?_; (case hr => go_simp <;> rfl); intro gb253 hg w43 hbox hb; replace HO237 := aA_ (Kd.V_below (Kd.V_elderB HO237.out gb253 (Nat.le_of_eq hg.symm)) hb); replace HO241 := aA_ (Kd.R_below HO241.out hb); replace HO244 := aA_ (Kd.R_below HO244.out hb); replace HO249 := aA_ (Kd.R_below HO249.out hb); replace HO252 := aA_ (Kd.R_below HO252.out hb); have BK253 := aA_ (hbox); have GW253 := gW_ hg (by repeat (with_reducible first | exact HB.out | apply bA_ | apply bN_ | apply bD_ | refine bS_ ?_ GE232.out | refine bS_ ?_ GE233.out | refine bS_ ?_ GE234.out | refine bS_ ?_ GE238.out | refine bS_ ?_ GE245.out | refine bS_ ?_ GE246.out)); have GE253 := GW253; replace HB := bB_ (by repeat (with_reducible first | exact HB.out | apply bA_ | apply bN_ | apply bD_ | refine bS_ ?_ GE232.out | refine bS_ ?_ GE233.out | refine bS_ ?_ GE234.out | refine bS_ ?_ GE238.out | refine bS_ ?_ GE245.out | refine bS_ ?_ GE246.out)) hb; have NB232_253 := nE_ hg BK232; have NB253_232 := aA_ NB232_253.out.symm; replace BK232 := bK_ BK232 hb; have NB233_253 := nE_ hg BK233; have NB253_233 := aA_ NB233_253.out.symm; replace BK233 := bK_ BK233 hb; have NB234_253 := nE_ hg BK234; have NB253_234 := aA_ NB234_253.out.symm; replace BK234 := bK_ BK234 hb; have NB238_253 := nE_ hg BK238; have NB253_238 := aA_ NB238_253.out.symm; replace BK238 := bK_ BK238 hb; have NB245_253 := nE_ hg BK245; have NB253_245 := aA_ NB245_253.out.symm; replace BK245 := bK_ BK245 hb; have NB246_253 := nE_ hg BK246; have NB253_246 := aA_ NB246_253.out.symm; replace BK246 := bK_ BK246 hb; clear hb hbox hg) | ((with_reducible refine gate_dst (N := 10) rfl ?_); refine box_event rfl (N := 10) rfl (cs := #[.slice none 0 0]) (t := 56) ?hr ?_; (case hr => go_simp <;> rfl); intro gb254 hg w44 hbox hb; replace HO237 := aA_ (Kd.V_below (Kd.V_elderB HO237.out gb254 (Nat.le_of_eq hg.symm)) hb); replace HO241 := aA_ (Kd.R_below HO241.out hb); replace HO244 := aA_ (Kd.R_below HO244.out hb); replace HO249 := aA_ (Kd.R_below HO249.out hb); replace HO252 := aA_ (Kd.R_below HO252.out hb); have BK254 := aA_ (hbox); have GW254 := gW_ hg (by repeat (with_reducible first | exact HB.out | apply bA_ | apply bN_ | apply bD_ | refine bS_ ?_ GE232.out | refine bS_ ?_ GE233.out | refine bS_ ?_ GE234.out | refine bS_ ?_ GE238.out | refine bS_ ?_ GE245.out | refine bS_ ?_ GE246.out | refine bS_ ?_ GE253.out)); have GE254 := GW254; replace HB := bB_ (by repeat (with_reducible first | exact HB.out | apply bA_ | apply bN_ | apply bD_ | refine bS_ ?_ GE232.out | refine bS_ ?_ GE233.out | refine bS_ ?_ GE234.out | refine bS_ ?_ GE238.out | refine bS_ ?_ GE245.out | refine bS_ ?_ GE246.out | refine bS_ ?_ GE253.out)) hb; have NB232_254 := nE_ hg BK232; have NB254_232 := aA_ NB232_254.out.symm; replace BK232 := bK_ BK232 hb; have NB233_254 := nE_ hg BK233; have NB254_233 := aA_ NB233_254.out.symm; replace BK233 := bK_ BK233 hb; have NB234_254 := nE_ hg BK234; have NB254_234 := aA_ NB234_254.out.symm; replace BK234 := bK_ BK234 hb; have NB238_254 := nE_ hg BK238; have NB254_238 := aA_ NB238_254.out.symm; replace BK238 := bK_ BK238 hb; have NB245_254 := nE_ hg BK245; have NB254_245 := aA_ NB245_254.out.symm; replace BK245 := bK_ BK245 hb; have NB246_254 := nE_ hg BK246; have NB254_246 := aA_ NB246_254.out.symm; replace BK246 := bK_ BK246 hb; have NB253_254 := nE_ hg BK253; have NB254_253 := aA_ NB253_254.out.symm; replace BK253 := bK_ BK253 hb; clear hb hbox hg; obtain ⟨Ao45, co45, eo45⟩ := Kd.R_slice HO249.out; subst eo45; have hnb46 := NB253_232.out; have hnc46 := NB232_253.out; have hnb47 := NB253_233.out; have hnc47 := NB233_253.out; have hnb48 := NB253_234.out; have hnc48 := NB234_253.out; have hnb49 := NB253_238.out; have hnc49 := NB238_253.out; have hnb50 := NB253_245.out; have hnc50 := NB245_253.out; have hnb51 := NB253_246.out; have hnc51 := NB246_253.out; have hnb52 := NB253_254.out; have hnc52 := NB254_253.out; have hcz53_0 : w44.cell? ⟨gb253, 0, none⟩ = some (.slice none 0 0) := (blk_cell BK253.out 0).trans rfl; have hfz53_0 := blk_frozen BK253.out 0; obtain ⟨Ao54, co54, eo54⟩ := Kd.R_slice HO252.out; subst eo54; have hnb55 := NB254_232.out; have hnc55 := NB232_254.out; have hnb56 := NB254_233.out; have hnc56 := NB233_254.out; have hnb57 := NB254_234.out; have hnc57 := NB234_254.out; have hnb58 := NB254_238.out; have hnc58 := NB238_254.out; have hnb59 := NB254_245.out; have hnc59 := NB245_254.out; have hnb60 := NB254_246.out; have hnc60 := NB246_254.out; have hcz61_0 : w44.cell? ⟨gb254, 0, none⟩ = some (.slice none 0 0) := (blk_cell BK254.out 0).trans rfl; have hfz61_0 := blk_frozen BK254.out 0) | ((with_reducible refine gate_callee (f := 54) rfl ?_); refine goesL_ (some 27) rfl rfl Tryd.func54 (by kernel_rfl) rfl #[.int .u64 4611686018427387904] rfl (by (try simp only [mT_, mC_, mN_]); first | done | rfl) ?_; (with_reducible refine (demurrageref01_FromU.calls k 4611686018427387904 t255 _ A6.out).mono ?_); rintro e w62 ⟨v256, rfl, ho0, hb⟩; refine ⟨_, rfl, ?_⟩; replace HO237 := aA_ (Kd.V_elder' (by (with_reducible repeat (first | apply Kd.V_alloc | apply Kd.V_drewN | apply Kd.V_drew)); exact (Kd.V_mono (Kd.V_mono (Kd.V_far (p := ⟨gb254, 0, none⟩) (Kd.V_far (p := ⟨gb253, 0, none⟩) (Kd.V_mono (Kd.V_mono HO237.out (fun k_ hk => (⟨hk, hk.1.2⟩ : _ ∧ k_ ≠ gb253))) (fun k_ hk => (⟨hk, hk.1.2⟩ : _ ∧ k_ ≠ gb254))) (fun _ hk => hk.1.2) (.slice Ao45 t247.length co45)) (fun _ hk => hk.2) (.slice Ao54 t250.length co54)) (fun _ h_ => h_.1)) (fun _ h_ => h_.1))) (Kd.R_base ho0) hb); have HO257 := aA_ (Kd.R_lower (Kd.R_new' (Kd.R_new' (Kd.R_new' (Kd.R_new' ho0 (Kd.R_lt (by (with_reducible repeat (first | apply Kd.R_alloc | apply Kd.R_drewN | apply Kd.R_drew)); exact (Kd.R_mono (Kd.R_mono (Kd.R_far (p := ⟨gb254, 0, none⟩) (Kd.R_far (p := ⟨gb253, 0, none⟩) (Kd.R_types (Kd.R_types HO241.out BK253.out (by decide)) BK254.out (by decide)) (fun _ hk => hk.1.2) (.slice Ao45 t247.length co45)) (fun _ hk => hk.2) (.slice Ao54 t250.length co54)) (fun _ h_ => h_.1)) (fun _ h_ => h_.1))))) (Kd.R_lt (by (with_reducible repeat (first | apply Kd.R_alloc | apply Kd.R_drewN | apply Kd.R_drew)); exact (Kd.R_mono (Kd.R_mono (Kd.R_far (p := ⟨gb254, 0, none⟩) (Kd.R_far (p := ⟨gb253, 0, none⟩) (Kd.R_types (Kd.R_types HO244.out BK253.out (by decide)) BK254.out (by decide)) (fun _ hk => hk.1.2) (.slice Ao45 t247.length co45)) (fun _ hk => hk.2) (.slice Ao54 t250.length co54)) (fun _ h_ => h_.1)) (fun _ h_ => h_.1))))) (Kd.R_lt (by (with_reducible repeat (first | apply Kd.R_alloc | apply Kd.R_drewN | apply Kd.R_drew)); exact (Kd.R_mono (Kd.R_mono (Kd.R_far (p := ⟨gb254, 0, none⟩) (Kd.R_far (p := ⟨gb253, 0, none⟩) (Kd.R_types (Kd.R_types HO249.out BK253.out (by decide)) BK254.out (by decide)) (fun _ hk => hk.1.2) (.slice Ao45 t247.length co45)) (fun _ hk => hk.2) (.slice Ao54 t250.length co54)) (fun _ h_ => h_.1)) (fun _ h_ => h_.1))))) (Kd.R_lt (by (with_reducible repeat (first | apply Kd.R_alloc | apply Kd.R_drewN | apply Kd.R_drew)); exact (Kd.R_mono (Kd.R_mono (Kd.R_far (p := ⟨gb254, 0, none⟩) (Kd.R_far (p := ⟨gb253, 0, none⟩) (Kd.R_types (Kd.R_types HO252.out BK253.out (by decide)) BK254.out (by decide)) (fun _ hk => hk.1.2) (.slice Ao45 t247.length co45)) (fun _ hk => hk.2) (.slice Ao54 t250.length co54)) (fun _ h_ => h_.1)) (fun _ h_ => h_.1))))) (below_size (by repeat (with_reducible first | exact HB.out | apply bA_ | apply bN_ | apply bD_ | refine bS_ ?_ GE232.out | refine bS_ ?_ GE233.out | refine bS_ ?_ GE234.out | refine bS_ ?_ GE238.out | refine bS_ ?_ GE245.out | refine bS_ ?_ GE246.out | refine bS_ ?_ GE253.out | refine bS_ ?_ GE254.out)))); replace HO241 := aA_ (Kd.R_elder' (by (with_reducible repeat (first | apply Kd.R_alloc | apply Kd.R_drewN | apply Kd.R_drew)); exact (Kd.R_mono (Kd.R_mono (Kd.R_far (p := ⟨gb254, 0, none⟩) (Kd.R_far (p := ⟨gb253, 0, none⟩) (Kd.R_types (Kd.R_types HO241.out BK253.out (by decide)) BK254.out (by decide)) (fun _ hk => hk.1.2) (.slice Ao45 t247.length co45)) (fun _ hk => hk.2) (.slice Ao54 t250.length co54)) (fun _ h_ => h_.1)) (fun _ h_ => h_.1))) (Kd.R_base ho0) hb); replace HO244 := aA_ (Kd.R_elder' (by (with_reducible repeat (first | apply Kd.R_alloc | apply Kd.R_drewN | apply Kd.R_drew)); exact (Kd.R_mono (Kd.R_mono (Kd.R_far (p := ⟨gb254, 0, none⟩) (Kd.R_far (p := ⟨gb253, 0, none⟩) (Kd.R_types (Kd.R_types HO244.out BK253.out (by decide)) BK254.out (by decide)) (fun _ hk => hk.1.2) (.slice Ao45 t247.length co45)) (fun _ hk => hk.2) (.slice Ao54 t250.length co54)) (fun _ h_ => h_.1)) (fun _ h_ => h_.1))) (Kd.R_base ho0) hb); replace HO249 := aA_ (Kd.R_elder' (by (with_reducible repeat (first | apply Kd.R_alloc | apply Kd.R_drewN | apply Kd.R_drew)); exact (Kd.R_mono (Kd.R_mono (Kd.R_far (p := ⟨gb254, 0, none⟩) (Kd.R_far (p := ⟨gb253, 0, none⟩) (Kd.R_types (Kd.R_types HO249.out BK253.out (by decide)) BK254.out (by decide)) (fun _ hk => hk.1.2) (.slice Ao45 t247.length co45)) (fun _ hk => hk.2) (.slice Ao54 t250.length co54)) (fun _ h_ => h_.1)) (fun _ h_ => h_.1))) (Kd.R_base ho0) hb); replace HO252 := aA_ (Kd.R_elder' (by (with_reducible repeat (first | apply Kd.R_alloc | apply Kd.R_drewN | apply Kd.R_drew)); exact (Kd.R_mono (Kd.R_mono (Kd.R_far (p := ⟨gb254, 0, none⟩) (Kd.R_far (p := ⟨gb253, 0, none⟩) (Kd.R_types (Kd.R_types HO252.out BK253.out (by decide)) BK254.out (by decide)) (fun _ hk => hk.1.2) (.slice Ao45 t247.length co45)) (fun _ hk => hk.2) (.slice Ao54 t250.length co54)) (fun _ h_ => h_.1)) (fun _ h_ => h_.1))) (Kd.R_base ho0) hb); replace BK232 := aA_ (blk_below (g := gb232) (o := .cells #[.slice A0_0 l0_0.length c0_0] 56 (0, 0)) (by refine blk_far ?_ NB232_254.out _; refine blk_far ?_ NB232_253.out _; exact BK232.out) hb); replace BK233 := aA_ (blk_below (g := gb233) (o := .cells #[.slice A1_0 l1_0.length c1_0] 56 (0, 0)) (by refine blk_far ?_ NB233_254.out _; refine blk_far ?_ NB233_253.out _; exact BK233.out) hb); replace BK234 := aA_ (blk_below (g := gb234) (o := .cells #[.int .i64 0, .int .i64 0] 24 (0, 0)) (by refine blk_far ?_ NB234_254.out _; refine blk_far ?_ NB234_253.out _; exact BK234.out) hb); replace BK238 := aA_ (blk_below (g := gb238) (o := .cells #[.slice Ao18 t235.length co18] 56 (0, 0)) (by refine blk_far ?_ NB238_254.out _; refine blk_far ?_ NB238_253.out _; exact BK238.out) hb); replace BK245 := aA_ (blk_below (g := gb245) (o := .cells #[.slice Ao27 t239.length co27] 56 (0, 0)) (by refine blk_far ?_ NB245_254.out _; refine blk_far ?_ NB245_253.out _; exact BK245.out) hb); replace BK246 := aA_ (blk_below (g := gb246) (o := .cells #[.slice Ao34 t242.length co34] 56 (0, 0)) (by refine blk_far ?_ NB246_254.out _; refine blk_far ?_ NB246_253.out _; exact BK246.out) hb); replace BK253 := aA_ (blk_below (g := gb253) (o := .cells #[.slice Ao45 t247.length co45] 56 (0, 0)) (by refine blk_far ?_ NB253_254.out _; refine blk_put (cs := #[.slice none 0 0]) ?_ 0 _ rfl; exact BK253.out) hb); replace BK254 := aA_ (blk_below (g := gb254) (o := .cells #[.slice Ao54 t250.length co54] 56 (0, 0)) (by refine blk_put (cs := #[.slice none 0 0]) ?_ 0 _ rfl; refine blk_far ?_ NB254_253.out _; exact BK254.out) hb); replace HB := bB_ (by repeat (with_reducible first | exact HB.out | apply bA_ | apply bN_ | apply bD_ | refine bS_ ?_ GE232.out | refine bS_ ?_ GE233.out | refine bS_ ?_ GE234.out | refine bS_ ?_ GE238.out | refine bS_ ?_ GE245.out | refine bS_ ?_ GE246.out | refine bS_ ?_ GE253.out | refine bS_ ?_ GE254.out)) hb; (try clear hb); (try clear ho0)) | ((with_reducible refine gate_dst (N := 11) rfl ?_); refine box_event rfl (N := 11) rfl (cs := #[.slice none 0 0]) (t := 56) ?hr ?_; (case hr => go_simp <;> rfl); intro gb258 hg w63 hbox hb; replace HO237 := aA_ (Kd.V_below (Kd.V_elderB HO237.out gb258 (Nat.le_of_eq hg.symm)) hb); replace HO241 := aA_ (Kd.R_below HO241.out hb); replace HO244 := aA_ (Kd.R_below HO244.out hb); replace HO249 := aA_ (Kd.R_below HO249.out hb); replace HO252 := aA_ (Kd.R_below HO252.out hb); replace HO257 := aA_ (Kd.R_below HO257.out hb); have BK258 := aA_ (hbox); have GW258 := gW_ hg (by repeat (with_reducible first | exact HB.out | apply bA_ | apply bN_ | apply bD_ | refine bS_ ?_ GE232.out | refine bS_ ?_ GE233.out | refine bS_ ?_ GE234.out | refine bS_ ?_ GE238.out | refine bS_ ?_ GE245.out | refine bS_ ?_ GE246.out | refine bS_ ?_ GE253.out | refine bS_ ?_ GE254.out)); have GE258 := GW258; replace HB := bB_ (by repeat (with_reducible first | exact HB.out | apply bA_ | apply bN_ | apply bD_ | refine bS_ ?_ GE232.out | refine bS_ ?_ GE233.out | refine bS_ ?_ GE234.out | refine bS_ ?_ GE238.out | refine bS_ ?_ GE245.out | refine bS_ ?_ GE246.out | refine bS_ ?_ GE253.out | refine bS_ ?_ GE254.out)) hb; have NB232_258 := nE_ hg BK232; have NB258_232 := aA_ NB232_258.out.symm; replace BK232 := bK_ BK232 hb; have NB233_258 := nE_ hg BK233; have NB258_233 := aA_ NB233_258.out.symm; replace BK233 := bK_ BK233 hb; have NB234_258 := nE_ hg BK234; have NB258_234 := aA_ NB234_258.out.symm; replace BK234 := bK_ BK234 hb; have NB238_258 := nE_ hg BK238; have NB258_238 := aA_ NB238_258.out.symm; replace BK238 := bK_ BK238 hb; have NB245_258 := nE_ hg BK245; have NB258_245 := aA_ NB245_258.out.symm; replace BK245 := bK_ BK245 hb; have NB246_258 := nE_ hg BK246; have NB258_246 := aA_ NB246_258.out.symm; replace BK246 := bK_ BK246 hb; have NB253_258 := nE_ hg BK253; have NB258_253 := aA_ NB253_258.out.symm; replace BK253 := bK_ BK253 hb; have NB254_258 := nE_ hg BK254; have NB258_254 := aA_ NB254_258.out.symm; replace BK254 := bK_ BK254 hb; clear hb hbox hg; obtain ⟨Ao64, co64, eo64⟩ := Kd.R_slice HO257.out; subst eo64; have hnb65 := NB258_232.out; have hnc65 := NB232_258.out; have hnb66 := NB258_233.out; have hnc66 := NB233_258.out; have hnb67 := NB258_234.out; have hnc67 := NB234_258.out; have hnb68 := NB258_238.out; have hnc68 := NB238_258.out; have hnb69 := NB258_245.out; have hnc69 := NB245_258.out; have hnb70 := NB258_246.out; have hnc70 := NB246_258.out; have hnb71 := NB258_253.out; have hnc71 := NB253_258.out; have hnb72 := NB258_254.out; have hnc72 := NB254_258.out; have hcz73_0 : w63.cell? ⟨gb258, 0, none⟩ = some (.slice none 0 0) := (blk_cell BK258.out 0).trans rfl; have hfz73_0 := blk_frozen BK258.out 0))
 (try simp only [Act.put, sT_, sZ_, sS_])
 go_cut [37] (fun v37 wc => ∃ (kq : Nat) (x37_6 : Bool), v37 = .bool x37_6 ∧ Aside0 (demurrageref02_Made.j0 kq x37_6 t239 t247 = some (r1, r2, r3)) ∧ Aside0 (kq ≤ k) ∧ Aside0 (Kd.V (Kd.int .i64) 3 wc w.heap.size (fun k_ => some k_ ≠ ((.slice Ao27 t239.length co27) : Value).ownBlock ∧ some k_ ≠ ((.slice Ao34 t242.length co34) : Value).ownBlock ∧ some k_ ≠ ((.slice Ao45 t247.length co45) : Value).ownBlock ∧ some k_ ≠ ((.slice Ao54 t250.length co54) : Value).ownBlock ∧ some k_ ≠ ((.slice Ao64 t255.length co64) : Value).ownBlock ∧ k_ ≠ gb232 ∧ k_ ≠ gb233 ∧ k_ ≠ gb234 ∧ k_ ≠ gb238 ∧ k_ ≠ gb245 ∧ k_ ≠ gb246 ∧ k_ ≠ gb253 ∧ k_ ≠ gb254 ∧ k_ ≠ gb258) (.slice Ao18 t235.length co18) t235) ∧ Aside0 (Kd.R (Kd.int .i64) 3 wc w.heap.size (fun k_ => some k_ ≠ ((.slice Ao34 t242.length co34) : Value).ownBlock ∧ some k_ ≠ ((.slice Ao45 t247.length co45) : Value).ownBlock ∧ some k_ ≠ ((.slice Ao54 t250.length co54) : Value).ownBlock ∧ some k_ ≠ ((.slice Ao64 t255.length co64) : Value).ownBlock) (.slice Ao27 t239.length co27) t239) ∧ Aside0 (Kd.R (Kd.int .i64) 3 wc w.heap.size (fun k_ => some k_ ≠ ((.slice Ao27 t239.length co27) : Value).ownBlock ∧ some k_ ≠ ((.slice Ao45 t247.length co45) : Value).ownBlock ∧ some k_ ≠ ((.slice Ao54 t250.length co54) : Value).ownBlock ∧ some k_ ≠ ((.slice Ao64 t255.length co64) : Value).ownBlock) (.slice Ao34 t242.length co34) t242) ∧ Aside0 (Kd.R (Kd.int .i64) 3 wc w.heap.size (fun k_ => some k_ ≠ ((.slice Ao27 t239.length co27) : Value).ownBlock ∧ some k_ ≠ ((.slice Ao34 t242.length co34) : Value).ownBlock ∧ some k_ ≠ ((.slice Ao54 t250.length co54) : Value).ownBlock ∧ some k_ ≠ ((.slice Ao64 t255.length co64) : Value).ownBlock) (.slice Ao45 t247.length co45) t247) ∧ Aside0 (Kd.R (Kd.int .i64) 3 wc w.heap.size (fun k_ => some k_ ≠ ((.slice Ao27 t239.length co27) : Value).ownBlock ∧ some k_ ≠ ((.slice Ao34 t242.length co34) : Value).ownBlock ∧ some k_ ≠ ((.slice Ao45 t247.length co45) : Value).ownBlock ∧ some k_ ≠ ((.slice Ao64 t255.length co64) : Value).ownBlock) (.slice Ao54 t250.length co54) t250) ∧ Aside0 (Kd.R (Kd.int .i64) 3 wc w.heap.size (fun k_ => some k_ ≠ ((.slice Ao27 t239.length co27) : Value).ownBlock ∧ some k_ ≠ ((.slice Ao34 t242.length co34) : Value).ownBlock ∧ some k_ ≠ ((.slice Ao45 t247.length co45) : Value).ownBlock ∧ some k_ ≠ ((.slice Ao54 t250.length co54) : Value).ownBlock) (.slice Ao64 t255.length co64) t255) ∧ Aside0 (wc.heap[gb232]? = some (.cells #[(.slice A0_0 l0_0.length c0_0)] 56 (0, 0))) ∧ Aside0 (wc.heap[gb233]? = some (.cells #[(.slice A1_0 l1_0.length c1_0)] 56 (0, 0))) ∧ Aside0 (wc.heap[gb234]? = some (.cells #[.int .i64 0, .int .i64 0] 24 (0, 0))) ∧ Aside0 (wc.heap[gb238]? = some (.cells #[(.slice Ao18 t235.length co18)] 56 (0, 0))) ∧ Aside0 (wc.heap[gb245]? = some (.cells #[(.slice Ao27 t239.length co27)] 56 (0, 0))) ∧ Aside0 (wc.heap[gb246]? = some (.cells #[(.slice Ao34 t242.length co34)] 56 (0, 0))) ∧ Aside0 (wc.heap[gb253]? = some (.cells #[(.slice Ao45 t247.length co45)] 56 (0, 0))) ∧ Aside0 (wc.heap[gb254]? = some (.cells #[(.slice Ao54 t250.length co54)] 56 (0, 0))) ∧ Aside0 (wc.heap[gb258]? = some (.cells #[(.slice Ao64 t255.length co64)] 56 (0, 0))) ∧ Aside0 (Below w.heap.size w wc))
 case first =>
  have H := HC7.out
  clear HC7
  replace H := bI_ H
  obtain ⟨t259, A740, H⟩ := H
  (try dsimp only at H)
  have A74 := aA_ A740
  clear A740
  by_cases c75 : t259 > 0
  ·rw [if_pos c75] at H
   have c75b0 : decide (0 < t259) = true := decide_eq_true c75
   clear c75
   (first | rw [c75b0] | (simp only [i64_w, i32_w]; rw [c75b0]) | rw [c75b1] | skip)
   have H' := aA_ H
   clear H
   have hnb76 := NB245_232.out
   have hnc76 := NB232_245.out
   have hnb77 := NB245_233.out
   have hnc77 := NB233_245.out
   have hnb78 := NB245_234.out
   have hnc78 := NB234_245.out
   have hnb79 := NB245_238.out
   have hnc79 := NB238_245.out
   have hnb80 := NB245_246.out
   have hnc80 := NB246_245.out
   have hnb81 := NB245_253.out
   have hnc81 := NB253_245.out
   have hnb82 := NB245_254.out
   have hnc82 := NB254_245.out
   have hnb83 := NB245_258.out
   have hnc83 := NB258_245.out
   have hcz84_0 : w63.cell? ⟨gb245, 0, none⟩ = some (.slice Ao27 t239.length co27) := (blk_cell BK245.out 0).trans rfl
   have hfz84_0 := blk_frozen BK245.out 0
   have hnb85 := NB258_232.out
   have hnc85 := NB232_258.out
   have hnb86 := NB258_233.out
   have hnc86 := NB233_258.out
   have hnb87 := NB258_234.out
   have hnc87 := NB234_258.out
   have hnb88 := NB258_238.out
   have hnc88 := NB238_258.out
   have hnb89 := NB258_246.out
   have hnc89 := NB246_258.out
   have hnb90 := NB258_253.out
   have hnc90 := NB253_258.out
   have hnb91 := NB258_254.out
   have hnc91 := NB254_258.out
   have hcz92_0 : w63.cell? ⟨gb258, 0, none⟩ = some (.slice none 0 0) := (blk_cell BK258.out 0).trans rfl
   have hfz92_0 := blk_frozen BK258.out 0
   go_wp2_with (first | ((with_reducible refine gate_callee (f := 38) rfl ?_); refine goesL_ (some 30) rfl rfl Tryd.func38 (by kernel_rfl) rfl #[.agg #[.slice Ao27 t239.length co27], .agg #[.slice Ao64 t255.length co64]] rfl (by (try simp only [mT_, mC_, mN_]); first | done | rfl) ?_; (with_reducible refine (demurrageref01_Cmp.calls k _ _ t239 _ _ t255 t259 _ ?side1 ?side2 ?side3 ?side4 A74.out).mono ?_); (case side1 => refine (Kd.R_reads' (e := 3) (base := w.heap.size) (ok := fun k_ => (((some k_ ≠ (.slice Ao34 t242.length co34 : Value).ownBlock ∧ some k_ ≠ (.slice Ao45 t247.length co45 : Value).ownBlock) ∧ some k_ ≠ (.slice Ao54 t250.length co54 : Value).ownBlock) ∧ some k_ ≠ (.slice Ao64 t255.length co64 : Value).ownBlock)) (n := t239.length) (c := co27) ?_).2.2; exact (by (with_reducible repeat (first | apply Kd.R_alloc | apply Kd.R_drewN | apply Kd.R_drew)); exact (Kd.R_mono (Kd.R_far (p := ⟨gb258, 0, none⟩) (Kd.R_types HO241.out BK258.out (by decide)) (fun _ hk => hk.2) (.slice Ao64 t255.length co64)) (fun _ h_ => h_.1)))); (case side2 => exact (Kd.R_reads' HO241.out).2.1); (case side3 => refine (Kd.R_reads' (e := 3) (base := w.heap.size) (ok := fun k_ => ((((True ∧ some k_ ≠ (.slice Ao27 t239.length co27 : Value).ownBlock) ∧ some k_ ≠ (.slice Ao34 t242.length co34 : Value).ownBlock) ∧ some k_ ≠ (.slice Ao45 t247.length co45 : Value).ownBlock) ∧ some k_ ≠ (.slice Ao54 t250.length co54 : Value).ownBlock)) (n := t255.length) (c := co64) ?_).2.2; exact (by (with_reducible repeat (first | apply Kd.R_alloc | apply Kd.R_drewN | apply Kd.R_drew)); exact (Kd.R_mono (Kd.R_far (p := ⟨gb258, 0, none⟩) (Kd.R_types HO257.out BK258.out (by decide)) (fun _ hk => hk.2) (.slice Ao64 t255.length co64)) (fun _ h_ => h_.1)))); (case side4 => exact (Kd.R_reads' HO257.out).2.1); rintro e w93 ⟨rfl, hb⟩; refine ⟨_, rfl, ?_⟩; replace HO237 := aA_ (Kd.V_below (by (with_reducible repeat (first | apply Kd.V_alloc | apply Kd.V_drewN | apply Kd.V_drew)); exact (Kd.V_mono (Kd.V_far (p := ⟨gb258, 0, none⟩) (Kd.V_mono HO237.out (fun k_ hk => (⟨hk, hk.2⟩ : _ ∧ k_ ≠ gb258))) (fun _ hk => hk.2) (.slice Ao64 t255.length co64)) (fun _ h_ => h_.1))) hb); replace HO241 := aA_ (Kd.R_below (by (with_reducible repeat (first | apply Kd.R_alloc | apply Kd.R_drewN | apply Kd.R_drew)); exact (Kd.R_mono (Kd.R_far (p := ⟨gb258, 0, none⟩) (Kd.R_types HO241.out BK258.out (by decide)) (fun _ hk => hk.2) (.slice Ao64 t255.length co64)) (fun _ h_ => h_.1))) hb); replace HO244 := aA_ (Kd.R_below (by (with_reducible repeat (first | apply Kd.R_alloc | apply Kd.R_drewN | apply Kd.R_drew)); exact (Kd.R_mono (Kd.R_far (p := ⟨gb258, 0, none⟩) (Kd.R_types HO244.out BK258.out (by decide)) (fun _ hk => hk.2) (.slice Ao64 t255.length co64)) (fun _ h_ => h_.1))) hb); replace HO249 := aA_ (Kd.R_below (by (with_reducible repeat (first | apply Kd.R_alloc | apply Kd.R_drewN | apply Kd.R_drew)); exact (Kd.R_mono (Kd.R_far (p := ⟨gb258, 0, none⟩) (Kd.R_types HO249.out BK258.out (by decide)) (fun _ hk => hk.2) (.slice Ao64 t255.length co64)) (fun _ h_ => h_.1))) hb); replace HO252 := aA_ (Kd.R_below (by (with_reducible repeat (first | apply Kd.R_alloc | apply Kd.R_drewN | apply Kd.R_drew)); exact (Kd.R_mono (Kd.R_far (p := ⟨gb258, 0, none⟩) (Kd.R_types HO252.out BK258.out (by decide)) (fun _ hk => hk.2) (.slice Ao64 t255.length co64)) (fun _ h_ => h_.1))) hb); replace HO257 := aA_ (Kd.R_below (by (with_reducible repeat (first | apply Kd.R_alloc | apply Kd.R_drewN | apply Kd.R_drew)); exact (Kd.R_mono (Kd.R_far (p := ⟨gb258, 0, none⟩) (Kd.R_types HO257.out BK258.out (by decide)) (fun _ hk => hk.2) (.slice Ao64 t255.length co64)) (fun _ h_ => h_.1))) hb); replace BK232 := aA_ (blk_below (g := gb232) (o := .cells #[.slice A0_0 l0_0.length c0_0] 56 (0, 0)) (by refine blk_far ?_ NB232_258.out _; exact BK232.out) hb); replace BK233 := aA_ (blk_below (g := gb233) (o := .cells #[.slice A1_0 l1_0.length c1_0] 56 (0, 0)) (by refine blk_far ?_ NB233_258.out _; exact BK233.out) hb); replace BK234 := aA_ (blk_below (g := gb234) (o := .cells #[.int .i64 0, .int .i64 0] 24 (0, 0)) (by refine blk_far ?_ NB234_258.out _; exact BK234.out) hb); replace BK238 := aA_ (blk_below (g := gb238) (o := .cells #[.slice Ao18 t235.length co18] 56 (0, 0)) (by refine blk_far ?_ NB238_258.out _; exact BK238.out) hb); replace BK245 := aA_ (blk_below (g := gb245) (o := .cells #[.slice Ao27 t239.length co27] 56 (0, 0)) (by refine blk_far ?_ NB245_258.out _; exact BK245.out) hb); replace BK246 := aA_ (blk_below (g := gb246) (o := .cells #[.slice Ao34 t242.length co34] 56 (0, 0)) (by refine blk_far ?_ NB246_258.out _; exact BK246.out) hb); replace BK253 := aA_ (blk_below (g := gb253) (o := .cells #[.slice Ao45 t247.length co45] 56 (0, 0)) (by refine blk_far ?_ NB253_258.out _; exact BK253.out) hb); replace BK254 := aA_ (blk_below (g := gb254) (o := .cells #[.slice Ao54 t250.length co54] 56 (0, 0)) (by refine blk_far ?_ NB254_258.out _; exact BK254.out) hb); replace BK258 := aA_ (blk_below (g := gb258) (o := .cells #[.slice Ao64 t255.length co64] 56 (0, 0)) (by refine blk_put (cs := #[.slice none 0 0]) ?_ 0 _ rfl; exact BK258.out) hb); replace HB := bB_ (by repeat (with_reducible first | exact HB.out | apply bA_ | apply bN_ | apply bD_ | refine bS_ ?_ GE232.out | refine bS_ ?_ GE233.out | refine bS_ ?_ GE234.out | refine bS_ ?_ GE238.out | refine bS_ ?_ GE245.out | refine bS_ ?_ GE246.out | refine bS_ ?_ GE253.out | refine bS_ ?_ GE254.out | refine bS_ ?_ GE258.out)) hb; (try clear hb)))
   go_meet
   case rel => exact ⟨_, _, (by first | rfl | (simp; done) | (simp [*]; done)), H', ⟨by first | omega | exact Nat.le_refl _⟩, ⟨by (with_reducible repeat (first | apply Kd.V_alloc | apply Kd.V_drewN | apply Kd.V_drew)); exact Kd.V_mono HO237.out (fun _ hk => (And.intro (hk.1.1.1.1.1.1.1.1.1.2) ((And.intro (hk.1.1.1.1.1.1.1.1.2) ((And.intro (hk.1.1.1.1.1.2) ((And.intro (hk.1.1.1.1.2) ((And.intro (hk.1.2) ((And.intro (hk.1.1.1.1.1.1.1.1.1.1.1.1) ((And.intro (hk.1.1.1.1.1.1.1.1.1.1.1.2.1) ((And.intro (hk.1.1.1.1.1.1.1.1.1.1.1.2.2) ((And.intro (hk.1.1.1.1.1.1.1.1.1.1.2) ((And.intro (hk.1.1.1.1.1.1.1.2) ((And.intro (hk.1.1.1.1.1.1.2) ((And.intro (hk.1.1.1.2) ((And.intro (hk.1.1.2) (hk.2)))))))))))))))))))))))))))⟩, ⟨by (with_reducible repeat (first | apply Kd.R_alloc | apply Kd.R_drewN | apply Kd.R_drew)); exact Kd.R_mono HO241.out (fun _ hk => (And.intro (hk.1.1.1) ((And.intro (hk.1.1.2) ((And.intro (hk.1.2) (hk.2)))))))⟩, ⟨by (with_reducible repeat (first | apply Kd.R_alloc | apply Kd.R_drewN | apply Kd.R_drew)); exact Kd.R_mono HO244.out (fun _ hk => (And.intro (hk.1.1.1) ((And.intro (hk.1.1.2) ((And.intro (hk.1.2) (hk.2)))))))⟩, ⟨by (with_reducible repeat (first | apply Kd.R_alloc | apply Kd.R_drewN | apply Kd.R_drew)); exact Kd.R_mono HO249.out (fun _ hk => (And.intro (hk.1.1.2) ((And.intro (hk.1.2) ((And.intro (hk.1.1.1) (hk.2)))))))⟩, ⟨by (with_reducible repeat (first | apply Kd.R_alloc | apply Kd.R_drewN | apply Kd.R_drew)); exact Kd.R_mono HO252.out (fun _ hk => (And.intro (hk.1.1.2) ((And.intro (hk.1.2) ((And.intro (hk.1.1.1) (hk.2)))))))⟩, ⟨by (with_reducible repeat (first | apply Kd.R_alloc | apply Kd.R_drewN | apply Kd.R_drew)); exact Kd.R_mono HO257.out (fun _ hk => (And.intro (hk.1.1.1.2) ((And.intro (hk.1.1.2) ((And.intro (hk.1.2) (hk.2)))))))⟩, ⟨by exact BK232.out⟩, ⟨by exact BK233.out⟩, ⟨by exact BK234.out⟩, ⟨by exact BK238.out⟩, ⟨by exact BK245.out⟩, ⟨by exact BK246.out⟩, ⟨by exact BK253.out⟩, ⟨by exact BK254.out⟩, ⟨by exact BK258.out⟩, ⟨by repeat (with_reducible first | exact HB.out | apply bA_ | apply bN_ | apply bD_ | refine bS_ ?_ GE232.out | refine bS_ ?_ GE233.out | refine bS_ ?_ GE234.out | refine bS_ ?_ GE238.out | refine bS_ ?_ GE245.out | refine bS_ ?_ GE246.out | refine bS_ ?_ GE253.out | refine bS_ ?_ GE254.out | refine bS_ ?_ GE258.out)⟩⟩
  ·rw [if_neg c75] at H
   have c75b0 : decide (0 < t259) = false := decide_eq_false c75
   clear c75
   (first | rw [c75b0] | (simp only [i64_w, i32_w]; rw [c75b0]) | rw [c75b1] | skip)
   replace H := bI_ H
   obtain ⟨t260, A940, H⟩ := H
   (try dsimp only at H)
   have A94 := aA_ A940
   clear A940
   have H' := aA_ H
   clear H
   have hnb95 := NB245_232.out
   have hnc95 := NB232_245.out
   have hnb96 := NB245_233.out
   have hnc96 := NB233_245.out
   have hnb97 := NB245_234.out
   have hnc97 := NB234_245.out
   have hnb98 := NB245_238.out
   have hnc98 := NB238_245.out
   have hnb99 := NB245_246.out
   have hnc99 := NB246_245.out
   have hnb100 := NB245_253.out
   have hnc100 := NB253_245.out
   have hnb101 := NB245_254.out
   have hnc101 := NB254_245.out
   have hnb102 := NB245_258.out
   have hnc102 := NB258_245.out
   have hcz103_0 : w63.cell? ⟨gb245, 0, none⟩ = some (.slice Ao27 t239.length co27) := (blk_cell BK245.out 0).trans rfl
   have hfz103_0 := blk_frozen BK245.out 0
   have hnb104 := NB258_232.out
   have hnc104 := NB232_258.out
   have hnb105 := NB258_233.out
   have hnc105 := NB233_258.out
   have hnb106 := NB258_234.out
   have hnc106 := NB234_258.out
   have hnb107 := NB258_238.out
   have hnc107 := NB238_258.out
   have hnb108 := NB258_246.out
   have hnc108 := NB246_258.out
   have hnb109 := NB258_253.out
   have hnc109 := NB253_258.out
   have hnb110 := NB258_254.out
   have hnc110 := NB254_258.out
   have hcz111_0 : w63.cell? ⟨gb258, 0, none⟩ = some (.slice none 0 0) := (blk_cell BK258.out 0).trans rfl
   have hfz111_0 := blk_frozen BK258.out 0
   go_wp2_with (first | ((with_reducible refine gate_callee (f := 38) rfl ?_); refine goesL_ (some 30) rfl rfl Tryd.func38 (by kernel_rfl) rfl #[.agg #[.slice Ao27 t239.length co27], .agg #[.slice Ao64 t255.length co64]] rfl (by (try simp only [mT_, mC_, mN_]); first | done | rfl) ?_; (with_reducible refine (demurrageref01_Cmp.calls k _ _ t239 _ _ t255 t259 _ ?side1 ?side2 ?side3 ?side4 A74.out).mono ?_); (case side1 => refine (Kd.R_reads' (e := 3) (base := w.heap.size) (ok := fun k_ => (((some k_ ≠ (.slice Ao34 t242.length co34 : Value).ownBlock ∧ some k_ ≠ (.slice Ao45 t247.length co45 : Value).ownBlock) ∧ some k_ ≠ (.slice Ao54 t250.length co54 : Value).ownBlock) ∧ some k_ ≠ (.slice Ao64 t255.length co64 : Value).ownBlock)) (n := t239.length) (c := co27) ?_).2.2; exact (by (with_reducible repeat (first | apply Kd.R_alloc | apply Kd.R_drewN | apply Kd.R_drew)); exact (Kd.R_mono (Kd.R_far (p := ⟨gb258, 0, none⟩) (Kd.R_types HO241.out BK258.out (by decide)) (fun _ hk => hk.2) (.slice Ao64 t255.length co64)) (fun _ h_ => h_.1)))); (case side2 => exact (Kd.R_reads' HO241.out).2.1); (case side3 => refine (Kd.R_reads' (e := 3) (base := w.heap.size) (ok := fun k_ => ((((True ∧ some k_ ≠ (.slice Ao27 t239.length co27 : Value).ownBlock) ∧ some k_ ≠ (.slice Ao34 t242.length co34 : Value).ownBlock) ∧ some k_ ≠ (.slice Ao45 t247.length co45 : Value).ownBlock) ∧ some k_ ≠ (.slice Ao54 t250.length co54 : Value).ownBlock)) (n := t255.length) (c := co64) ?_).2.2; exact (by (with_reducible repeat (first | apply Kd.R_alloc | apply Kd.R_drewN | apply Kd.R_drew)); exact (Kd.R_mono (Kd.R_far (p := ⟨gb258, 0, none⟩) (Kd.R_types HO257.out BK258.out (by decide)) (fun _ hk => hk.2) (.slice Ao64 t255.length co64)) (fun _ h_ => h_.1)))); (case side4 => exact (Kd.R_reads' HO257.out).2.1); rintro e w112 ⟨rfl, hb⟩; refine ⟨_, rfl, ?_⟩; replace HO237 := aA_ (Kd.V_below (by (with_reducible repeat (first | apply Kd.V_alloc | apply Kd.V_drewN | apply Kd.V_drew)); exact (Kd.V_mono (Kd.V_far (p := ⟨gb258, 0, none⟩) (Kd.V_mono HO237.out (fun k_ hk => (⟨hk, hk.2⟩ : _ ∧ k_ ≠ gb258))) (fun _ hk => hk.2) (.slice Ao64 t255.length co64)) (fun _ h_ => h_.1))) hb); replace HO241 := aA_ (Kd.R_below (by (with_reducible repeat (first | apply Kd.R_alloc | apply Kd.R_drewN | apply Kd.R_drew)); exact (Kd.R_mono (Kd.R_far (p := ⟨gb258, 0, none⟩) (Kd.R_types HO241.out BK258.out (by decide)) (fun _ hk => hk.2) (.slice Ao64 t255.length co64)) (fun _ h_ => h_.1))) hb); replace HO244 := aA_ (Kd.R_below (by (with_reducible repeat (first | apply Kd.R_alloc | apply Kd.R_drewN | apply Kd.R_drew)); exact (Kd.R_mono (Kd.R_far (p := ⟨gb258, 0, none⟩) (Kd.R_types HO244.out BK258.out (by decide)) (fun _ hk => hk.2) (.slice Ao64 t255.length co64)) (fun _ h_ => h_.1))) hb); replace HO249 := aA_ (Kd.R_below (by (with_reducible repeat (first | apply Kd.R_alloc | apply Kd.R_drewN | apply Kd.R_drew)); exact (Kd.R_mono (Kd.R_far (p := ⟨gb258, 0, none⟩) (Kd.R_types HO249.out BK258.out (by decide)) (fun _ hk => hk.2) (.slice Ao64 t255.length co64)) (fun _ h_ => h_.1))) hb); replace HO252 := aA_ (Kd.R_below (by (with_reducible repeat (first | apply Kd.R_alloc | apply Kd.R_drewN | apply Kd.R_drew)); exact (Kd.R_mono (Kd.R_far (p := ⟨gb258, 0, none⟩) (Kd.R_types HO252.out BK258.out (by decide)) (fun _ hk => hk.2) (.slice Ao64 t255.length co64)) (fun _ h_ => h_.1))) hb); replace HO257 := aA_ (Kd.R_below (by (with_reducible repeat (first | apply Kd.R_alloc | apply Kd.R_drewN | apply Kd.R_drew)); exact (Kd.R_mono (Kd.R_far (p := ⟨gb258, 0, none⟩) (Kd.R_types HO257.out BK258.out (by decide)) (fun _ hk => hk.2) (.slice Ao64 t255.length co64)) (fun _ h_ => h_.1))) hb); replace BK232 := aA_ (blk_below (g := gb232) (o := .cells #[.slice A0_0 l0_0.length c0_0] 56 (0, 0)) (by refine blk_far ?_ NB232_258.out _; exact BK232.out) hb); replace BK233 := aA_ (blk_below (g := gb233) (o := .cells #[.slice A1_0 l1_0.length c1_0] 56 (0, 0)) (by refine blk_far ?_ NB233_258.out _; exact BK233.out) hb); replace BK234 := aA_ (blk_below (g := gb234) (o := .cells #[.int .i64 0, .int .i64 0] 24 (0, 0)) (by refine blk_far ?_ NB234_258.out _; exact BK234.out) hb); replace BK238 := aA_ (blk_below (g := gb238) (o := .cells #[.slice Ao18 t235.length co18] 56 (0, 0)) (by refine blk_far ?_ NB238_258.out _; exact BK238.out) hb); replace BK245 := aA_ (blk_below (g := gb245) (o := .cells #[.slice Ao27 t239.length co27] 56 (0, 0)) (by refine blk_far ?_ NB245_258.out _; exact BK245.out) hb); replace BK246 := aA_ (blk_below (g := gb246) (o := .cells #[.slice Ao34 t242.length co34] 56 (0, 0)) (by refine blk_far ?_ NB246_258.out _; exact BK246.out) hb); replace BK253 := aA_ (blk_below (g := gb253) (o := .cells #[.slice Ao45 t247.length co45] 56 (0, 0)) (by refine blk_far ?_ NB253_258.out _; exact BK253.out) hb); replace BK254 := aA_ (blk_below (g := gb254) (o := .cells #[.slice Ao54 t250.length co54] 56 (0, 0)) (by refine blk_far ?_ NB254_258.out _; exact BK254.out) hb); replace BK258 := aA_ (blk_below (g := gb258) (o := .cells #[.slice Ao64 t255.length co64] 56 (0, 0)) (by refine blk_put (cs := #[.slice none 0 0]) ?_ 0 _ rfl; exact BK258.out) hb); replace HB := bB_ (by repeat (with_reducible first | exact HB.out | apply bA_ | apply bN_ | apply bD_ | refine bS_ ?_ GE232.out | refine bS_ ?_ GE233.out | refine bS_ ?_ GE234.out | refine bS_ ?_ GE238.out | refine bS_ ?_ GE245.out | refine bS_ ?_ GE246.out | refine bS_ ?_ GE253.out | refine bS_ ?_ GE254.out | refine bS_ ?_ GE258.out)) hb; (try clear hb); have hnb113 := NB253_232.out; have hnc113 := NB232_253.out; have hnb114 := NB253_233.out; have hnc114 := NB233_253.out; have hnb115 := NB253_234.out; have hnc115 := NB234_253.out; have hnb116 := NB253_238.out; have hnc116 := NB238_253.out; have hnb117 := NB253_246.out; have hnc117 := NB246_253.out; have hnb118 := NB253_254.out; have hnc118 := NB254_253.out; have hcz119_0 : w112.cell? ⟨gb253, 0, none⟩ = some (.slice Ao45 t247.length co45) := (blk_cell BK253.out 0).trans rfl; have hfz119_0 := blk_frozen BK253.out 0; have hcz120_0 : w112.cell? ⟨gb258, 0, none⟩ = some (.slice Ao64 t255.length co64) := (blk_cell BK258.out 0).trans rfl; have hfz120_0 := blk_frozen BK258.out 0) | (go_at_call 38; (with_reducible refine (demurrageref01_Cmp.calls k _ _ t247 _ _ t255 t260 _ ?side1 ?side2 ?side3 ?side4 A94.out).mono ?_); (case side1 => repeat (first | exact (Kd.R_reads' HO249.out).2.2 | (with_reducible first | refine Kd.C_alloc ?_ _ | refine Kd.C_drewN ?_ _ | refine Kd.C_drew ?_))); (case side2 => exact (Kd.R_reads' HO249.out).2.1); (case side3 => repeat (first | exact (Kd.R_reads' HO257.out).2.2 | (with_reducible first | refine Kd.C_alloc ?_ _ | refine Kd.C_drewN ?_ _ | refine Kd.C_drew ?_))); (case side4 => exact (Kd.R_reads' HO257.out).2.1); rintro e w121 ⟨rfl, hb⟩; replace HO237 := aA_ (Kd.V_below HO237.out hb); replace HO241 := aA_ (Kd.R_below HO241.out hb); replace HO244 := aA_ (Kd.R_below HO244.out hb); replace HO249 := aA_ (Kd.R_below HO249.out hb); replace HO252 := aA_ (Kd.R_below HO252.out hb); replace HO257 := aA_ (Kd.R_below HO257.out hb); replace BK232 := bK_ BK232 hb; replace BK233 := bK_ BK233 hb; replace BK234 := bK_ BK234 hb; replace BK238 := bK_ BK238 hb; replace BK245 := bK_ BK245 hb; replace BK246 := bK_ BK246 hb; replace BK253 := bK_ BK253 hb; replace BK254 := bK_ BK254 hb; replace BK258 := bK_ BK258 hb; replace HB := bB_ (by repeat (with_reducible first | exact HB.out | apply bA_ | apply bN_ | apply bD_ | refine bS_ ?_ GE232.out | refine bS_ ?_ GE233.out | refine bS_ ?_ GE234.out | refine bS_ ?_ GE238.out | refine bS_ ?_ GE245.out | refine bS_ ?_ GE246.out | refine bS_ ?_ GE253.out | refine bS_ ?_ GE254.out | refine bS_ ?_ GE258.out)) hb; (try clear hb)))
   go_meet
   case rel => exact ⟨_, (decide (t260 > 0)), (by first | rfl | (simp; done) | (simp [*]; done)), H', ⟨by first | omega | exact Nat.le_refl _⟩, ⟨by (with_reducible repeat (first | apply Kd.V_alloc | apply Kd.V_drewN | apply Kd.V_drew)); exact Kd.V_mono HO237.out (fun _ hk => (And.intro (hk.1.1.1.1.1.1.1.1.1.2) ((And.intro (hk.1.1.1.1.1.1.1.1.2) ((And.intro (hk.1.1.1.1.1.2) ((And.intro (hk.1.1.1.1.2) ((And.intro (hk.1.2) ((And.intro (hk.1.1.1.1.1.1.1.1.1.1.1.1) ((And.intro (hk.1.1.1.1.1.1.1.1.1.1.1.2.1) ((And.intro (hk.1.1.1.1.1.1.1.1.1.1.1.2.2) ((And.intro (hk.1.1.1.1.1.1.1.1.1.1.2) ((And.intro (hk.1.1.1.1.1.1.1.2) ((And.intro (hk.1.1.1.1.1.1.2) ((And.intro (hk.1.1.1.2) ((And.intro (hk.1.1.2) (hk.2)))))))))))))))))))))))))))⟩, ⟨by (with_reducible repeat (first | apply Kd.R_alloc | apply Kd.R_drewN | apply Kd.R_drew)); exact Kd.R_mono HO241.out (fun _ hk => (And.intro (hk.1.1.1) ((And.intro (hk.1.1.2) ((And.intro (hk.1.2) (hk.2)))))))⟩, ⟨by (with_reducible repeat (first | apply Kd.R_alloc | apply Kd.R_drewN | apply Kd.R_drew)); exact Kd.R_mono HO244.out (fun _ hk => (And.intro (hk.1.1.1) ((And.intro (hk.1.1.2) ((And.intro (hk.1.2) (hk.2)))))))⟩, ⟨by (with_reducible repeat (first | apply Kd.R_alloc | apply Kd.R_drewN | apply Kd.R_drew)); exact Kd.R_mono HO249.out (fun _ hk => (And.intro (hk.1.1.2) ((And.intro (hk.1.2) ((And.intro (hk.1.1.1) (hk.2)))))))⟩, ⟨by (with_reducible repeat (first | apply Kd.R_alloc | apply Kd.R_drewN | apply Kd.R_drew)); exact Kd.R_mono HO252.out (fun _ hk => (And.intro (hk.1.1.2) ((And.intro (hk.1.2) ((And.intro (hk.1.1.1) (hk.2)))))))⟩, ⟨by (with_reducible repeat (first | apply Kd.R_alloc | apply Kd.R_drewN | apply Kd.R_drew)); exact Kd.R_mono HO257.out (fun _ hk => (And.intro (hk.1.1.1.2) ((And.intro (hk.1.1.2) ((And.intro (hk.1.2) (hk.2)))))))⟩, ⟨by exact BK232.out⟩, ⟨by exact BK233.out⟩, ⟨by exact BK234.out⟩, ⟨by exact BK238.out⟩, ⟨by exact BK245.out⟩, ⟨by exact BK246.out⟩, ⟨by exact BK253.out⟩, ⟨by exact BK254.out⟩, ⟨by exact BK258.out⟩, ⟨by repeat (with_reducible first | exact HB.out | apply bA_ | apply bN_ | apply bD_ | refine bS_ ?_ GE232.out | refine bS_ ?_ GE233.out | refine bS_ ?_ GE234.out | refine bS_ ?_ GE238.out | refine bS_ ?_ GE245.out | refine bS_ ?_ GE246.out | refine bS_ ?_ GE253.out | refine bS_ ?_ GE254.out | refine bS_ ?_ GE258.out)⟩⟩
 case rest =>
  clear HC7
  try clear c1
  try clear c2
  try clear p2
  try clear c3
  try clear c4
  try clear c5
  try clear c6
  try clear c7
  try clear c8
  try clear c9
  try clear c10
  try clear c11
  try clear c12
  try clear c14
  try clear c19
  try clear c20
  try clear c21
  try clear c28
  try clear c29
  try clear c30
  try clear c31
  try clear c32
  try clear c33
  try clear c35
  try clear c36
  try clear c37
  try clear c38
  try clear c46
  try clear c47
  try clear c48
  try clear c49
  try clear c50
  try clear c51
  try clear c52
  try clear c53
  try clear c54
  try clear c55
  try clear c56
  try clear c57
  try clear c58
  try clear c59
  try clear c60
  try clear c65
  try clear c66
  try clear c67
  try clear c68
  try clear c69
  try clear c70
  try clear c71
  try clear c72
  try clear c75
  try clear c75b0
  try clear c75b1
  try clear c76
  try clear c77
  try clear c78
  try clear c79
  try clear c80
  try clear c81
  try clear c82
  try clear c83
  try clear c85
  try clear c86
  try clear c87
  try clear c88
  try clear c89
  try clear c90
  try clear c91
  try clear c95
  try clear c96
  try clear c97
  try clear c98
  try clear c99
  try clear c100
  try clear c101
  try clear c102
  try clear c104
  try clear c105
  try clear c106
  try clear c107
  try clear c108
  try clear c109
  try clear c110
  try clear c113
  try clear c114
  try clear c115
  try clear c116
  try clear c117
  try clear c118
  try clear hcz103_0
  try clear hcz111_0
  try clear hcz119_0
  try clear hcz120_0
  try clear hcz13_0
  try clear hcz15_0
  try clear hcz22_0
  try clear hcz23_0
  try clear hcz33_0
  try clear hcz39_0
  try clear hcz40_0
  try clear hcz41_0
  try clear hcz53_0
  try clear hcz61_0
  try clear hcz73_0
  try clear hcz84_0
  try clear hcz92_0
  try clear hfz103_0
  try clear hfz111_0
  try clear hfz119_0
  try clear hfz120_0
  try clear hfz13_0
  try clear hfz15_0
  try clear hfz22_0
  try clear hfz23_0
  try clear hfz33_0
  try clear hfz39_0
  try clear hfz40_0
  try clear hfz41_0
  try clear hfz53_0
  try clear hfz61_0
  try clear hfz73_0
  try clear hfz84_0
  try clear hfz92_0
  obtain ⟨kq, x37_6, rfl, HA, HJ6, HO_239000, HO_246000, HO_247000, HO_254000, HO_255000, HO_259000, BK232, BK233, BK234, BK238, BK245, BK246, BK253, BK254, BK258, HB⟩ := hcut
  cases kq with
  | zero => exact absurd HA.out (by simp [demurrageref02_Made.j0])
  | succ kj6 =>
   have H := HA.out
   clear HA
   simp only [demurrageref02_Made.j0] at H
   by_cases c122 : x37_6 = true
   ·subst c122
    rw [if_pos rfl] at H
    simp only [Option.some.injEq, Prod.mk.injEq] at H
    obtain ⟨rfl, rfl, rfl⟩ := H
    have hnb123 := NB234_232.out
    have hnc123 := NB232_234.out
    have hnb124 := NB234_233.out
    have hnc124 := NB233_234.out
    have hnb125 := NB234_238.out
    have hnc125 := NB238_234.out
    have hnb126 := NB234_245.out
    have hnc126 := NB245_234.out
    have hnb127 := NB234_246.out
    have hnc127 := NB246_234.out
    have hnb128 := NB234_253.out
    have hnc128 := NB253_234.out
    have hnb129 := NB234_254.out
    have hnc129 := NB254_234.out
    have hnb130 := NB234_258.out
    have hnc130 := NB258_234.out
    have hcz131_0 : wc.cell? ⟨gb234, 0, none⟩ = some (.int .i64 0) := (blk_cell BK234.out 0).trans rfl
    have hcz131_1 : wc.cell? ⟨gb234, 1, none⟩ = some (.int .i64 0) := (blk_cell BK234.out 1).trans rfl
    have hfz131_0 := blk_frozen BK234.out 0
    have hfz131_1 := blk_frozen BK234.out 1
    go_wp2
    refine bodyPost_ret (results_ct rfl _ _ gb234 24 #[.int .i64 0, .int .i64 0] (0, 0) _ rfl (by refine blk_put (cs := #[.int .i64 0, .int .i64 0]) ?_ 1 _ rfl; refine blk_put (cs := #[.int .i64 0, .int .i64 0]) ?_ 0 _ rfl; exact BK234.out) Tryd.underlying24 rfl (by kernel_rfl)) rfl ?_
    exact ⟨by rfl, by repeat (with_reducible first | exact HB.out | apply bA_ | apply bN_ | apply bD_ | refine bS_ ?_ GE232.out | refine bS_ ?_ GE233.out | refine bS_ ?_ GE234.out | refine bS_ ?_ GE238.out | refine bS_ ?_ GE245.out | refine bS_ ?_ GE246.out | refine bS_ ?_ GE253.out | refine bS_ ?_ GE254.out | refine bS_ ?_ GE258.out)⟩
   ·replace c122 := Bool.eq_false_iff.mpr c122
    subst c122
    rw [if_neg (show ¬ (false = true) by decide)] at H
    replace H := bI_ H
    obtain ⟨t261, A1320, H⟩ := H
    (try dsimp only at H)
    have A132 := aA_ A1320
    clear A1320
    replace H := bI_ H
    obtain ⟨t262, A1330, H⟩ := H
    (try dsimp only at H)
    have A133 := aA_ A1330
    clear A1330
    simp only [Option.some.injEq, Prod.mk.injEq] at H
    obtain ⟨rfl, rfl, rfl⟩ := H
    try go_wp2
    replace HO_239000 := aA_ (Kd.V_drew HO_239000.out)
    replace HO_246000 := aA_ (Kd.R_drew HO_246000.out)
    replace HO_247000 := aA_ (Kd.R_drew HO_247000.out)
    replace HO_254000 := aA_ (Kd.R_drew HO_254000.out)
    replace HO_255000 := aA_ (Kd.R_drew HO_255000.out)
    replace HO_259000 := aA_ (Kd.R_drew HO_259000.out)
    replace BK232 := aA_ (blk_drew BK232.out)
    replace BK233 := aA_ (blk_drew BK233.out)
    replace BK234 := aA_ (blk_drew BK234.out)
    replace BK238 := aA_ (blk_drew BK238.out)
    replace BK245 := aA_ (blk_drew BK245.out)
    replace BK246 := aA_ (blk_drew BK246.out)
    replace BK253 := aA_ (blk_drew BK253.out)
    replace BK254 := aA_ (blk_drew BK254.out)
    replace BK258 := aA_ (blk_drew BK258.out)
    replace HB := aA_ (below_drew1 HB.out)
    refine start_ (n := 7) (S := fun w' => w'.cell? ⟨gb245, 0, none⟩ = some (.slice Ao27 t239.length co27) ∧ w'.cell? ⟨gb253, 0, none⟩ = some (.slice Ao45 t247.length co45)) (ds := []) (demurrageref02_New.ups 7 0) (by kernel_rfl) rfl rfl ⟨(blk_cell BK245.out 0).trans rfl, (blk_cell BK253.out 0).trans rfl⟩ (fun hHeld => ?_)
    generalize wc.drew = w134 at HO_239000 HO_246000 HO_247000 HO_254000 HO_255000 HO_259000 BK232 BK233 BK234 BK238 BK245 BK246 BK253 BK254 BK258 HB hHeld ⊢
    refine take_ (i := 0) (N := some 39) (v := ?_) (a' := ?_) (demurrageref02_New.ups 7 1) rfl rfl (by kernel_rfl) (fun _ _ _ h => h) (Or.inl ⟨by rfl, ?_⟩) hHeld ?_ ?_
    rotate_left
    ·rintro w' ⟨s0, s1⟩
     go_simp
     with_reducible rfl
    rotate_left
    ·simp only [Act.put, sT_, sZ_, sS_, i64_w, i32_w]
     rfl
    refine take_ (i := 2) (N := some 41) (v := ?_) (a' := ?_) (demurrageref02_New.ups 7 5) rfl rfl (by kernel_rfl) (fun _ _ _ h => h) (Or.inl ⟨by rfl, ?_⟩) hHeld ?_ ?_
    rotate_left
    ·rintro w' ⟨s0, s1⟩
     go_simp
     with_reducible rfl
    rotate_left
    ·simp only [Act.put, sT_, sZ_, sS_, i64_w, i32_w]
     rfl
    refine one_ (i := 1) (N := some 40) (demurrageref02_New.ups 7 7) rfl rfl (by kernel_rfl) (by decide) (fun K hK => ?_)
    refine goes_ Tryd.func55 (by kernel_rfl) rfl #[.agg #[.slice Ao27 t239.length co27]] (by rfl) rfl rfl (by (try simp only [mT_, mC_, mN_]); first | done | rfl) ?_
    with_reducible refine (demurrageref02_value.calls kj6 _ _ t239 t261 _ ?side1 ?side2 A132.out).mono ?_
    (case side1 => repeat (first | exact (Kd.R_reads' HO_246000.out).2.2 | (with_reducible first | refine Kd.C_alloc ?_ _ | refine Kd.C_drewN ?_ _ | refine Kd.C_drew ?_)))
    (case side2 => exact (Kd.R_reads' HO_246000.out).2.1)
    rintro e w135 ⟨rfl, hb⟩
    refine ⟨_, rfl, ?_⟩
    replace HO_239000 := aA_ (Kd.V_below HO_239000.out hb)
    replace HO_246000 := aA_ (Kd.R_below HO_246000.out hb)
    replace HO_247000 := aA_ (Kd.R_below HO_247000.out hb)
    replace HO_254000 := aA_ (Kd.R_below HO_254000.out hb)
    replace HO_255000 := aA_ (Kd.R_below HO_255000.out hb)
    replace HO_259000 := aA_ (Kd.R_below HO_259000.out hb)
    replace BK232 := bK_ BK232 hb
    replace BK233 := bK_ BK233 hb
    replace BK234 := bK_ BK234 hb
    replace BK238 := bK_ BK238 hb
    replace BK245 := bK_ BK245 hb
    replace BK246 := bK_ BK246 hb
    replace BK253 := bK_ BK253 hb
    replace BK254 := bK_ BK254 hb
    replace BK258 := bK_ BK258 hb
    replace HB := bB_ (by repeat (with_reducible first | exact HB.out | apply bA_ | apply bN_ | apply bD_ | refine bS_ ?_ GE232.out | refine bS_ ?_ GE233.out | refine bS_ ?_ GE234.out | refine bS_ ?_ GE238.out | refine bS_ ?_ GE245.out | refine bS_ ?_ GE246.out | refine bS_ ?_ GE253.out | refine bS_ ?_ GE254.out | refine bS_ ?_ GE258.out)) hb
    (try clear hb)
    (try clear hb2)
    (try clear hk)
    (try clear hi)
    refine hK.out _ _ ⟨(blk_cell BK245.out 0).trans rfl, (blk_cell BK253.out 0).trans rfl⟩ (fun hHeld => ?_)
    clear hK K
    refine norm_ (by show Act.put _ (some 40) _ = _; simp only [Act.put, sT_, sZ_, sS_, i64_w, i32_w] <;> rfl) ?_
    refine one_ (i := 3) (N := some 42) (demurrageref02_New.ups 7 15) rfl rfl (by kernel_rfl) (by decide) (fun K hK => ?_)
    refine goes_ Tryd.func55 (by kernel_rfl) rfl #[.agg #[.slice Ao45 t247.length co45]] (by rfl) rfl rfl (by (try simp only [mT_, mC_, mN_]); first | done | rfl) ?_
    with_reducible refine (demurrageref02_value.calls kj6 _ _ t247 t262 _ ?side1 ?side2 A133.out).mono ?_
    (case side1 => repeat (first | exact (Kd.R_reads' HO_254000.out).2.2 | (with_reducible first | refine Kd.C_alloc ?_ _ | refine Kd.C_drewN ?_ _ | refine Kd.C_drew ?_)))
    (case side2 => exact (Kd.R_reads' HO_254000.out).2.1)
    rintro e w136 ⟨rfl, hb⟩
    refine ⟨_, rfl, ?_⟩
    replace HO_239000 := aA_ (Kd.V_below HO_239000.out hb)
    replace HO_246000 := aA_ (Kd.R_below HO_246000.out hb)
    replace HO_247000 := aA_ (Kd.R_below HO_247000.out hb)
    replace HO_254000 := aA_ (Kd.R_below HO_254000.out hb)
    replace HO_255000 := aA_ (Kd.R_below HO_255000.out hb)
    replace HO_259000 := aA_ (Kd.R_below HO_259000.out hb)
    replace BK232 := bK_ BK232 hb
    replace BK233 := bK_ BK233 hb
    replace BK234 := bK_ BK234 hb
    replace BK238 := bK_ BK238 hb
    replace BK245 := bK_ BK245 hb
    replace BK246 := bK_ BK246 hb
    replace BK253 := bK_ BK253 hb
    replace BK254 := bK_ BK254 hb
    replace BK258 := bK_ BK258 hb
    replace HB := bB_ (by repeat (with_reducible first | exact HB.out | apply bA_ | apply bN_ | apply bD_ | refine bS_ ?_ GE232.out | refine bS_ ?_ GE233.out | refine bS_ ?_ GE234.out | refine bS_ ?_ GE238.out | refine bS_ ?_ GE245.out | refine bS_ ?_ GE246.out | refine bS_ ?_ GE253.out | refine bS_ ?_ GE254.out | refine bS_ ?_ GE258.out)) hb
    (try clear hb)
    (try clear hb2)
    (try clear hk)
    (try clear hi)
    refine hK.out _ _ ⟨(blk_cell BK245.out 0).trans rfl, (blk_cell BK253.out 0).trans rfl⟩ (fun hHeld => ?_)
    clear hK K
    refine norm_ (by show Act.put _ (some 42) _ = _; simp only [Act.put, sT_, sZ_, sS_, i64_w, i32_w] <;> rfl) ?_
    refine pure_ (i := 4) (N := some 43) (v := ?_) (a' := ?_) (demurrageref02_New.ups 7 31) rfl rfl (by kernel_rfl) (fun _ _ _ h => h) (Or.inl ⟨by rfl, ?_⟩) ?_ ?_
    rotate_left
    ·intro w'
     go_simp
     with_reducible rfl
    rotate_left
    ·simp only [Act.put, sT_, sZ_, sS_, i64_w, i32_w]
     rfl
    refine one_ (i := 5) (N := none) (demurrageref02_New.ups 7 63) rfl rfl (by kernel_rfl) (by decide) (fun K hK => ?_)
    have hs137 : w136.cell? ⟨gb234, 0, none⟩ = some (.int .i64 0) := (blk_cell BK234.out 0).trans rfl
    have hfs137 := blk_frozen BK234.out 0
    have hns137_0 := NB232_234.out
    have hns137_1 := NB233_234.out
    have hns137_3 := NB238_234.out
    have hns137_4 := NB245_234.out
    have hns137_5 := NB246_234.out
    have hns137_6 := NB253_234.out
    have hns137_7 := NB254_234.out
    have hns137_8 := NB258_234.out
    have hms137_0 := NB234_232.out
    have hms137_1 := NB234_233.out
    have hms137_3 := NB234_238.out
    have hms137_4 := NB234_245.out
    have hms137_5 := NB234_246.out
    have hms137_6 := NB234_253.out
    have hms137_7 := NB234_254.out
    have hms137_8 := NB234_258.out
    have hs138 : w136.cell? ⟨gb234, 1, none⟩ = some (.int .i64 0) := (blk_cell BK234.out 1).trans rfl
    have hfs138 := blk_frozen BK234.out 1
    have hns138_0 := NB232_234.out
    have hns138_1 := NB233_234.out
    have hns138_3 := NB238_234.out
    have hns138_4 := NB245_234.out
    have hns138_5 := NB246_234.out
    have hns138_6 := NB253_234.out
    have hns138_7 := NB254_234.out
    have hns138_8 := NB258_234.out
    have hms138_0 := NB234_232.out
    have hms138_1 := NB234_233.out
    have hms138_3 := NB234_238.out
    have hms138_4 := NB234_245.out
    have hms138_5 := NB234_246.out
    have hms138_6 := NB234_253.out
    have hms138_7 := NB234_254.out
    have hms138_8 := NB234_258.out
    refine skip_ (w1 := ?_) (by rfl) rfl ?_ ?_
    rotate_left
    ·go_simp
     rfl
    refine hK.out _ _ ⟨((cell_far (p := ⟨gb234, _, none⟩) NB245_234.out _).trans (((cell_far (p := ⟨gb234, _, none⟩) NB245_234.out _).trans (hHeld.1)))), ((cell_far (p := ⟨gb234, _, none⟩) NB253_234.out _).trans (((cell_far (p := ⟨gb234, _, none⟩) NB253_234.out _).trans (hHeld.2))))⟩ (fun hHeld => ?_)
    clear hK K
    refine pure_ (i := 6) (N := some 5) (v := ?_) (a' := ?_) (demurrageref02_New.ups 7 127) rfl rfl (by kernel_rfl) (fun _ _ _ h => h) (Or.inl ⟨by rfl, ?_⟩) ?_ ?_
    rotate_left
    ·intro w'
     go_simp
     with_reducible rfl
    rotate_left
    ·simp only [Act.put, sT_, sZ_, sS_, i64_w, i32_w]
     rfl
    refine done_ (by kernel_rfl) ?_
    try go_wp2
    refine bodyPost_ret (results_ct rfl _ _ gb234 24 #[.int .i64 t261, .int .i64 t262] (0, 0) _ rfl (by refine blk_put (cs := #[.int .i64 t261, .int .i64 0]) ?_ 1 _ rfl; refine blk_put (cs := #[.int .i64 0, .int .i64 0]) ?_ 0 _ rfl; exact BK234.out) Tryd.underlying24 rfl (by kernel_rfl)) rfl ?_
    exact ⟨by rfl, by repeat (with_reducible first | exact HB.out | apply bA_ | apply bN_ | apply bD_ | refine bS_ ?_ GE232.out | refine bS_ ?_ GE233.out | refine bS_ ?_ GE234.out | refine bS_ ?_ GE238.out | refine bS_ ?_ GE245.out | refine bS_ ?_ GE246.out | refine bS_ ?_ GE253.out | refine bS_ ?_ GE254.out | refine bS_ ?_ GE258.out)⟩

end Go.Proofs.YtbapgkopilmdfaaDoor.X
