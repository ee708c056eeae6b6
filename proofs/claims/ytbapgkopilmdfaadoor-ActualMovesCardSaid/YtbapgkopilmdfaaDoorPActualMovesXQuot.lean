-- cut by prune.py, a program of this session
import Derived.Test.YtbapgkopilmdfaaDoorPActualMovesX0
import Derived.Test.YtbapgkopilmdfaaDoorPActualMovesXBig
import Derived.Test.YtbapgkopilmdfaaDoorPActualMovesHTrim
namespace Go.Proofs.YtbapgkopilmdfaaDoor.X
open Go.RowKit Go.Proofs.YtbapgkopilmdfaaDoorW.PrintWords Go.Proofs.YtbapgkopilmdfaaDoorW.PrintLast Go.Proofs.YtbapgkopilmdfaaDoorW.PrintMore
attribute [local go_sem] max2_int min2_int max_two min_two
set_option linter.unusedVariables false
set_option linter.unusedSimpArgs false

def demurrageref01_Quot.upsl : Nat → Nat → List Bool
 | 0, _ => []
 | n + 1, m => (m % 2 == 1) :: demurrageref01_Quot.upsl n (m / 2)
def demurrageref01_Quot.ups (n m : Nat) : Array Bool := ⟨demurrageref01_Quot.upsl n m⟩
def demurrageref01_From.f (k : Nat) (a0 : Int) : Option (List Int) := (demurrageref01_FromU.f k (IntKind.u64.wrap (a0))).bind fun t164 => (some t164)
set_option maxHeartbeats 8000000 in
set_option maxRecDepth 100000 in
theorem demurrageref01_From.calls (k : Nat) (a0 : Int) (r : List Int) (w : World) (h : demurrageref01_From.f k a0 = some r) :
  Calls Tryd.prog 37 #[.int .i64 a0] w fun e w' => ∃ v0_ : Value, e = .returned (.agg #[v0_]) ∧ Kd.R (Kd.int .i64) 3 w' w.heap.size (fun _ => True) v0_ r ∧ Below w.heap.size w w' := by
 have hu56 := Tryd.underlying56
 have HB := aA_ (Below.refl w.heap.size w)
 have H : ((demurrageref01_FromU.f k (IntKind.u64.wrap (a0))).bind fun t164 => (some t164)) = some r := h
 clear h
 replace H := bI_ H
 obtain ⟨t164, A20, H⟩ := H
 (try dsimp only at H)
 have A2 := aA_ A20
 clear A20
 obtain rfl := Option.some.inj H
 go_enter Tryd.func37, Tryd.ntmps37
 go_wp2_with (first | (refine box_event rfl (N := 2) rfl (cs := #[.slice none 0 0]) (t := 56) ?hr ?_; (case hr => go_simp <;> rfl); intro gb163 hg w3 hbox hb; have BK163 := aA_ (hbox); have GW163 := gW_ hg (by repeat (with_reducible first | exact HB.out | apply bA_ | apply bN_ | apply bD_)); have GE163 := GW163; replace HB := bB_ (by repeat (with_reducible first | exact HB.out | apply bA_ | apply bN_ | apply bD_)) hb; clear hb hbox hg) | (refine goesL_ (some 5) rfl rfl Tryd.func54 (by kernel_rfl) rfl #[.int .u64 (IntKind.u64.wrap (a0))] rfl (by (try simp only [mT_, mC_, mN_]); first | done | rfl) ?_; (with_reducible refine (demurrageref01_FromU.calls k (IntKind.u64.wrap (a0)) t164 _ A2.out).mono ?_); rintro e w4 ⟨v165, rfl, ho0, hb⟩; refine ⟨_, rfl, ?_⟩; have HO166 := aA_ (Kd.R_lower ho0 (below_size (by repeat (with_reducible first | exact HB.out | apply bA_ | apply bN_ | apply bD_ | refine bS_ ?_ GE163.out)))); replace BK163 := bK_ BK163 hb; replace HB := bB_ (by repeat (with_reducible first | exact HB.out | apply bA_ | apply bN_ | apply bD_ | refine bS_ ?_ GE163.out)) hb; (try clear hb); (try clear ho0); obtain ⟨Ao5, co5, eo5⟩ := Kd.R_slice HO166.out; subst eo5; have hcz6_0 : w4.cell? ⟨gb163, 0, none⟩ = some (.slice none 0 0) := (blk_cell BK163.out 0).trans rfl; have hfz6_0 := blk_frozen BK163.out 0))
 refine bodyPost_ret (results_cell_row rfl _ _ gb163 56 #[.slice Ao5 t164.length co5] (0, 0) _ rfl (by refine blk_put (cs := #[.slice none 0 0]) ?_ 0 _ rfl; exact BK163.out) Tryd.underlying56 rfl (by kernel_rfl)) rfl ?_
 exact ⟨_, by rfl, by (with_reducible repeat (first | apply Kd.R_alloc | apply Kd.R_drewN | apply Kd.R_drew)); exact Kd.R_mono (Kd.R_far (p := ⟨gb163, 0, none⟩) (Kd.R_types HO166.out BK163.out (by decide)) (fun _ hk => hk.2) (.slice Ao5 t164.length co5)) (fun _ hk => trivial), by repeat (with_reducible first | exact HB.out | apply bA_ | apply bN_ | apply bD_ | refine bS_ ?_ GE163.out)⟩

mutual
def demurrageref01_Quot.l0 : Nat → List Int → Int → List Int → List Int → List Int → Option (List Int × List Int)
 | 0, _, _, _, _, _ => none
 | k + 1, x6, x8, x182000, x183000, x189000 => if x8 ≥ 0 then (if 0 ≤ x8 then (if x8 < (x182000.length : Int) then ((some (([rd x182000 x8] : List Int) : List Int)).bind fun y193 => (if y193.length + x189000.length < 17592186044416 then ((demurrageref01_trim.f (y193 ++ x189000)).bind fun t199 => (demurrageref01_Quot.l1 k x6 x8 0 10000 x182000 x183000 t199)) else (none))) else (none)) else (none)) else ((demurrageref01_trim.f x6).bind fun t189 => (some (t189, x189000)))
def demurrageref01_Quot.l1 : Nat → List Int → Int → Int → Int → List Int → List Int → List Int → Option (List Int × List Int)
 | 0, _, _, _, _, _, _, _ => none
 | k + 1, x6, x8, x9, x10, x182000, x183000, x189000 => if (wrap64 (x10 - x9)) > 1 then ((demurrageref01_From.f k (wrap64 (Int.tdiv (wrap64 (x9 + x10)) 2))).bind fun t212 => ((demurrageref01_Prod.f k x183000 t212).bind fun t215 => ((demurrageref01_Cmp.f k t215 x189000).bind fun t218 => (if t218 ≤ 0 then (demurrageref01_Quot.l1 k x6 x8 (wrap64 (Int.tdiv (wrap64 (x9 + x10)) 2)) x10 x182000 x183000 x189000) else (demurrageref01_Quot.l1 k x6 x8 x9 (wrap64 (Int.tdiv (wrap64 (x9 + x10)) 2)) x182000 x183000 x189000))))) else (if 0 ≤ x8 then (if x8 < (x6.length : Int) then ((demurrageref01_From.f k x9).bind fun t203 => ((demurrageref01_Prod.f k x183000 t203).bind fun t206 => ((demurrageref01_Less.f k x189000 t206).bind fun t209 => (demurrageref01_Quot.l0 k (x6.set (x8 : Int).toNat x9) (wrap64 (x8 - 1)) x182000 x183000 t209)))) else (none)) else (none))
end
def demurrageref01_Quot.f (k : Nat) (l0_0 : List Int) (l1_0 : List Int) : Option (List Int × List Int) := if 0 ≤ (l0_0.length : Int) then (if ((l0_0.length : Int) : Int).toNat ≤ 35184372088832 then (demurrageref01_Quot.l0 k (List.replicate ((l0_0.length : Int) : Int).toNat 0) (wrap64 ((l0_0.length : Int) - 1)) l0_0 l1_0 ([] : List Int)) else (none)) else (none)
def demurrageref01_Quot.T6 : Bool × List (List Nat × List Nat) := (true, [([], []), ([0], [0]), ([], []), ([1, 2], [1, 2]), ([3], [3]), ([4], [4]), ([], []), ([6], [6]), ([5, 7], [5, 7]), ([8, 8], [8]), ([9, 9, 0, 1, 2, 3, 4, 5, 6, 7, 8, 9], [9])])
def demurrageref01_Quot.B6 : List Nat := [0, 1, 0, 7, 15, 31, 0, 64, 255, 511, 1023]
theorem demurrageref01_Quot.tab6 : rtab .any (opsOf Tryd.f53 6) = demurrageref01_Quot.T6 := by kernel_rfl
theorem demurrageref01_Quot.bits6 : waitsOk demurrageref01_Quot.T6.2 demurrageref01_Quot.B6 = true := by kernel_rfl
set_option maxHeartbeats 8000000 in
set_option maxRecDepth 100000 in
theorem demurrageref01_Quot.calls (k : Nat) (A0_0 : Option Addr) (c0_0 : Nat) (l0_0 : List Int) (A1_0 : Option Addr) (c1_0 : Nat) (l1_0 : List Int) (r1 : List Int) (r2 : List Int) (w : World) (hr0_0 : Kd.C (Kd.int .i64) w A0_0 l0_0.length l0_0) (hc0_0 : l0_0.length ≤ c0_0) (hr1_0 : Kd.C (Kd.int .i64) w A1_0 l1_0.length l1_0) (hc1_0 : l1_0.length ≤ c1_0) (h : demurrageref01_Quot.f k l0_0 l1_0 = some (r1, r2)) :
  Calls Tryd.prog 53 #[.agg #[.slice A0_0 l0_0.length c0_0], .agg #[.slice A1_0 l1_0.length c1_0]] w fun e w' => ∃ v0_ v1_ : Value, e = .returned (.tuple #[.agg #[v0_], .agg #[v1_]]) ∧ Kd.R (Kd.int .i64) 3 w' w.heap.size (fun k_ => some k_ ≠ (v1_ : Value).ownBlock) v0_ r1 ∧ Kd.R (Kd.int .i64) 3 w' w.heap.size (fun k_ => some k_ ≠ (v0_ : Value).ownBlock) v1_ r2 ∧ Below w.heap.size w w' := by
 have hu56 := Tryd.underlying56
 have HR0_0 := aA_ hr0_0
 have HC0_0 := aA_ hc0_0
 clear hr0_0 hc0_0
 have HR1_0 := aA_ hr1_0
 have HC1_0 := aA_ hc1_0
 clear hr1_0 hc1_0
 have HB := aA_ (Below.refl w.heap.size w)
 have H : (if 0 ≤ (l0_0.length : Int) then (if ((l0_0.length : Int) : Int).toNat ≤ 35184372088832 then (demurrageref01_Quot.l0 k (List.replicate ((l0_0.length : Int) : Int).toNat 0) (wrap64 ((l0_0.length : Int) - 1)) l0_0 l1_0 ([] : List Int)) else (none)) else (none)) = some (r1, r2) := h
 clear h
 by_cases c3 : 0 ≤ (l0_0.length : Int)
 ·rw [if_pos c3] at H
  have c3b0 := eq_true c3
  have c3b1 : decide (0 ≤ (l0_0.length : Int)) = true := decide_eq_true c3
  clear c3
  by_cases c4 : ((l0_0.length : Int) : Int).toNat ≤ 35184372088832
  ·rw [if_pos c4] at H
   have c4b0 := eq_true c4
   have c4b1 : decide (((l0_0.length : Int) : Int).toNat ≤ 35184372088832) = true := decide_eq_true c4
   clear c4
   obtain ⟨y185, hy185⟩ : ∃ y_ : List Int, y_ = (List.replicate ((l0_0.length : Int) : Int).toNat 0) := ⟨_, rfl⟩
   replace H : (demurrageref01_Quot.l0 k y185 (wrap64 ((l0_0.length : Int) - 1)) l0_0 l1_0 ([] : List Int)) = some (r1, r2) := by first | (rw [hy185]; with_reducible exact H) | (have H2_ := (Option.bind_some _ _).symm.trans H; rw [hy185]; with_reducible exact H2_) | (have H2_ := (Option.bind_some _ _).symm.trans H; with_reducible exact H2_) | with_reducible exact H | (rw [hy185]; exact H) | exact H
   have Ny185 := aA_ hy185
   clear hy185
   have H' := aA_ H
   clear H
   go_enter Tryd.func53, Tryd.ntmps53
   go_wp2_with (first | (refine box_event rfl (N := 2) rfl (cs := #[.slice A0_0 l0_0.length c0_0]) (t := 56) ?hr ?_; (case hr => go_simp <;> rfl); intro gb181 hg w5 hbox hb; have BK181 := aA_ (hbox); have GW181 := gW_ hg (by repeat (with_reducible first | exact HB.out | apply bA_ | apply bN_ | apply bD_)); have GE181 := GW181; replace HB := bB_ (by repeat (with_reducible first | exact HB.out | apply bA_ | apply bN_ | apply bD_)) hb; clear hb hbox hg) | (refine box_event rfl (N := 3) rfl (cs := #[.slice A1_0 l1_0.length c1_0]) (t := 56) ?hr ?_; (case hr => go_simp <;> rfl); intro gb182 hg w6 hbox hb; have BK182 := aA_ (hbox); have GW182 := gW_ hg (by repeat (with_reducible first | exact HB.out | apply bA_ | apply bN_ | apply bD_ | refine bS_ ?_ GE181.out)); have GE182 := GW182; replace HB := bB_ (by repeat (with_reducible first | exact HB.out | apply bA_ | apply bN_ | apply bD_ | refine bS_ ?_ GE181.out)) hb; have NB181_182 := nE_ hg BK181; have NB182_181 := aA_ NB181_182.out.symm; replace BK181 := bK_ BK181 hb; clear hb hbox hg) | (refine box_event rfl (N := 4) rfl (cs := #[.slice none 0 0]) (t := 56) ?hr ?_; (case hr => go_simp <;> rfl); intro gb183 hg w7 hbox hb; have BK183 := aA_ (hbox); have GW183 := gW_ hg (by repeat (with_reducible first | exact HB.out | apply bA_ | apply bN_ | apply bD_ | refine bS_ ?_ GE181.out | refine bS_ ?_ GE182.out)); have GE183 := GW183; replace HB := bB_ (by repeat (with_reducible first | exact HB.out | apply bA_ | apply bN_ | apply bD_ | refine bS_ ?_ GE181.out | refine bS_ ?_ GE182.out)) hb; have NB181_183 := nE_ hg BK181; have NB183_181 := aA_ NB181_183.out.symm; replace BK181 := bK_ BK181 hb; have NB182_183 := nE_ hg BK182; have NB183_182 := aA_ NB182_183.out.symm; replace BK182 := bK_ BK182 hb; clear hb hbox hg) | (refine box_event rfl (N := 5) rfl (cs := #[.slice none 0 0]) (t := 56) ?hr ?_; (case hr => go_simp <;> rfl); intro gb184 hg w8 hbox hb; have BK184 := aA_ (hbox); have GW184 := gW_ hg (by repeat (with_reducible first | exact HB.out | apply bA_ | apply bN_ | apply bD_ | refine bS_ ?_ GE181.out | refine bS_ ?_ GE182.out | refine bS_ ?_ GE183.out)); have GE184 := GW184; replace HB := bB_ (by repeat (with_reducible first | exact HB.out | apply bA_ | apply bN_ | apply bD_ | refine bS_ ?_ GE181.out | refine bS_ ?_ GE182.out | refine bS_ ?_ GE183.out)) hb; have NB181_184 := nE_ hg BK181; have NB184_181 := aA_ NB181_184.out.symm; replace BK181 := bK_ BK181 hb; have NB182_184 := nE_ hg BK182; have NB184_182 := aA_ NB182_184.out.symm; replace BK182 := bK_ BK182 hb; have NB183_184 := nE_ hg BK183; have NB184_183 := aA_ NB183_184.out.symm; replace BK183 := bK_ BK183 hb; clear hb hbox hg; have hnb9 := NB181_182.out; have hnc9 := NB182_181.out; have hnb10 := NB181_183.out; have hnc10 := NB183_181.out; have hnb11 := NB181_184.out; have hnc11 := NB184_181.out; have hcz12_0 : w8.cell? ⟨gb181, 0, none⟩ = some (.slice A0_0 l0_0.length c0_0) := (blk_cell BK181.out 0).trans rfl; have hfz12_0 := blk_frozen BK181.out 0) | ((with_reducible refine gate_dst (N := 15) rfl ?_); refine Kd.R_make (Kd.int .i64) _ 3 rfl (N := 15) rfl 54 _ _ rfl (l0_0.length : Int) rfl rfl Tryd.underlying54 (.int .i64 0) 8 info3 rfl (by decide) (by omega) 0 (ok := fun _ => True) (okp := fun _ => True) rfl (fun _ hk => hk) trivial (of_decide_eq_true (by first | (with_reducible assumption) | assumption)) (Nat.le_trans (Nat.mul_le_mul_right _ (of_decide_eq_true (by first | (with_reducible assumption) | assumption) : (l0_0.length : Int).toNat ≤ 35184372088832)) (by omega)) (Below.refl _ _) (Nat.le_refl _) ?_; intro v186 w13 ho14 hb hg_ hnew_; clear hg_ hnew_; (first | rw [← Ny185.out] at ho14 | (simp only [Int.reduceToNat] at ho14; rw [← Ny185.out] at ho14)); have HO187 := aA_ (Kd.R_lower ho14 (below_size (by repeat (with_reducible first | exact HB.out | apply bA_ | apply bN_ | apply bD_ | refine bS_ ?_ GE181.out | refine bS_ ?_ GE182.out | refine bS_ ?_ GE183.out | refine bS_ ?_ GE184.out)))); replace BK181 := bK_ BK181 hb; replace BK182 := bK_ BK182 hb; replace BK183 := bK_ BK183 hb; replace BK184 := bK_ BK184 hb; replace HB := bB_ (by repeat (with_reducible first | exact HB.out | apply bA_ | apply bN_ | apply bD_ | refine bS_ ?_ GE181.out | refine bS_ ?_ GE182.out | refine bS_ ?_ GE183.out | refine bS_ ?_ GE184.out)) hb; clear hb ho14) | (refine box_event rfl (N := 7) rfl (cs := #[.slice none 0 0]) (t := 56) ?hr ?_; (case hr => go_simp <;> rfl); intro gb188 hg w15 hbox hb; replace HO187 := aA_ (Kd.R_below HO187.out hb); have BK188 := aA_ (hbox); have GW188 := gW_ hg (by repeat (with_reducible first | exact HB.out | apply bA_ | apply bN_ | apply bD_ | refine bS_ ?_ GE181.out | refine bS_ ?_ GE182.out | refine bS_ ?_ GE183.out | refine bS_ ?_ GE184.out)); have GE188 := GW188; replace HB := bB_ (by repeat (with_reducible first | exact HB.out | apply bA_ | apply bN_ | apply bD_ | refine bS_ ?_ GE181.out | refine bS_ ?_ GE182.out | refine bS_ ?_ GE183.out | refine bS_ ?_ GE184.out)) hb; have NB181_188 := nE_ hg BK181; have NB188_181 := aA_ NB181_188.out.symm; replace BK181 := bK_ BK181 hb; have NB182_188 := nE_ hg BK182; have NB188_182 := aA_ NB182_188.out.symm; replace BK182 := bK_ BK182 hb; have NB183_188 := nE_ hg BK183; have NB188_183 := aA_ NB183_188.out.symm; replace BK183 := bK_ BK183 hb; have NB184_188 := nE_ hg BK184; have NB188_184 := aA_ NB184_188.out.symm; replace BK184 := bK_ BK184 hb; clear hb hbox hg; have hnb16 := NB188_181.out; have hnc16 := NB181_188.out; have hnb17 := NB188_182.out; have hnc17 := NB182_188.out; have hnb18 := NB188_183.out; have hnc18 := NB183_188.out; have hnb19 := NB188_184.out; have hnc19 := NB184_188.out; have hcz20_0 : w15.cell? ⟨gb188, 0, none⟩ = some (.slice none 0 0) := (blk_cell BK188.out 0).trans rfl; have hfz20_0 := blk_frozen BK188.out 0; have hcz21_0 : w15.cell? ⟨gb181, 0, none⟩ = some (.slice A0_0 l0_0.length c0_0) := (blk_cell BK181.out 0).trans rfl; have hfz21_0 := blk_frozen BK181.out 0))
   (try simp only [Act.put, sT_, sZ_, sS_])
   go_loopg [8] k (fun kq v8 w' => ∃ (x6_1 : List Int) (x8_1 : Int) (x189000_1 : List Int) (u189000 : Value), v8 = .int .i64 x8_1 ∧ Aside0 (demurrageref01_Quot.l0 kq x6_1 x8_1 l0_0 l1_0 x189000_1 = some (r1, r2)) ∧ Aside0 (kq ≤ k) ∧ Aside0 (Kd.R (Kd.int .i64) 3 w' w.heap.size (fun k_ => some k_ ≠ (u189000 : Value).ownBlock) v186 x6_1) ∧ Aside0 (Kd.R (Kd.int .i64) 3 w' w.heap.size (fun k_ => some k_ ≠ (v186 : Value).ownBlock) u189000 x189000_1) ∧ Aside0 (w'.heap[gb181]? = some (.cells #[(.slice A0_0 l0_0.length c0_0)] 56 (0, 0))) ∧ Aside0 (w'.heap[gb182]? = some (.cells #[(.slice A1_0 l1_0.length c1_0)] 56 (0, 0))) ∧ Aside0 (w'.heap[gb183]? = some (.cells #[(.slice none 0 0)] 56 (0, 0))) ∧ Aside0 (w'.heap[gb184]? = some (.cells #[(.slice none 0 0)] 56 (0, 0))) ∧ Aside0 (w'.heap[gb188]? = some (.cells #[u189000] 56 (0, 0))) ∧ Aside0 (Below w.heap.size w w'))
   case atStart => exact ⟨(y185), (wrap64 ((l0_0.length : Int) - 1)), (([] : List Int)), (.slice none 0 0), (by first | rfl | (simp; done) | (simp [*]; done)), H', ⟨Nat.le_refl _⟩, ⟨by (with_reducible repeat (first | apply Kd.R_alloc | apply Kd.R_drewN | apply Kd.R_drew)); exact Kd.R_mono (Kd.R_far (p := ⟨gb188, 0, none⟩) (Kd.R_types HO187.out BK188.out (by decide)) (fun _ hk => hk.2) (.slice none 0 0)) (fun _ hk => (by simp [Value.ownBlock]))⟩, ⟨by first | exact Kd.R_nil _ _ _ _ _ | exact Kd.N_nil _ _ _ _ _ | exact Kd.V_nil _ _ _ _ _ | exact Kd.Q_nil _ _ _ _ _ | exact Kd.S_nil _ _ _ _ _⟩, ⟨by refine blk_far ?_ NB181_188.out _; exact BK181.out⟩, ⟨by refine blk_far ?_ NB182_188.out _; exact BK182.out⟩, ⟨by refine blk_far ?_ NB183_188.out _; exact BK183.out⟩, ⟨by refine blk_far ?_ NB184_188.out _; exact BK184.out⟩, ⟨by refine blk_put (cs := #[.slice none 0 0]) ?_ 0 _ rfl; exact BK188.out⟩, ⟨by repeat (with_reducible first | exact HB.out | apply bA_ | apply bN_ | apply bD_ | refine bS_ ?_ GE181.out | refine bS_ ?_ GE182.out | refine bS_ ?_ GE183.out | refine bS_ ?_ GE184.out | refine bS_ ?_ GE188.out)⟩⟩
   case round =>
    clear H'
    try clear c1
    try clear p2
    try clear c3
    try clear c3b0
    try clear c3b1
    try clear c4
    try clear c4b0
    try clear c4b1
    try clear c5
    try clear p6
    try clear c9
    try clear c10
    try clear c11
    try clear c16
    try clear c17
    try clear c18
    try clear c19
    try clear hcz12_0
    try clear hcz20_0
    try clear hcz21_0
    try clear hfz12_0
    try clear hfz20_0
    try clear hfz21_0
    obtain ⟨x6_1, x8_1, x189000_1, u189000, rfl, HA, HK1, HO_6, HO_189000, BK181, BK182, BK183, BK184, BK188, HB⟩ := hrel
    cases gk with
    | zero => exact absurd HA.out (by simp [demurrageref01_Quot.l0])
    | succ k1 =>
     have H := HA.out
     clear HA
     simp only [demurrageref01_Quot.l0] at H
     by_cases c22 : x8_1 ≥ 0
     ·rw [if_pos c22] at H
      have c22b0 : decide (0 ≤ x8_1) = true := decide_eq_true c22
      clear c22
      by_cases c23 : 0 ≤ x8_1
      ·rw [if_pos c23] at H
       have c23b0 : decide (0 ≤ x8_1) = true := decide_eq_true c23
       clear c23
       by_cases c24 : x8_1 < (l0_0.length : Int)
       ·rw [if_pos c24] at H
        have c24b0 : decide (x8_1 < (l0_0.length : Int)) = true := decide_eq_true c24
        clear c24
        obtain ⟨y193, hy193⟩ : ∃ y_ : List Int, y_ = (([rd l0_0 x8_1] : List Int)) := ⟨_, rfl⟩
        replace H : (if y193.length + x189000_1.length < 17592186044416 then ((demurrageref01_trim.f (y193 ++ x189000_1)).bind fun t199 => (demurrageref01_Quot.l1 k1 x6_1 x8_1 0 10000 l0_0 l1_0 t199)) else (none)) = some (r1, r2) := by first | (rw [hy193]; with_reducible exact H) | (have H2_ := (Option.bind_some _ _).symm.trans H; rw [hy193]; with_reducible exact H2_) | (have H2_ := (Option.bind_some _ _).symm.trans H; with_reducible exact H2_) | with_reducible exact H | (rw [hy193]; exact H) | exact H
        have Ny193 := aA_ hy193
        clear hy193
        by_cases c25 : y193.length + x189000_1.length < 17592186044416
        ·rw [if_pos c25] at H
         have LMc25 := aA_ c25
         clear c25
         obtain ⟨y196, hy196⟩ : ∃ y_ : List Int, y_ = (y193 ++ x189000_1) := ⟨_, rfl⟩
         replace H : ((demurrageref01_trim.f y196).bind fun t199 => (demurrageref01_Quot.l1 k1 x6_1 x8_1 0 10000 l0_0 l1_0 t199)) = some (r1, r2) := by first | (rw [hy196]; with_reducible exact H) | (have H2_ := (Option.bind_some _ _).symm.trans H; rw [hy196]; with_reducible exact H2_) | (have H2_ := (Option.bind_some _ _).symm.trans H; with_reducible exact H2_) | with_reducible exact H | (rw [hy196]; exact H) | exact H
         have Ny196 := aA_ hy196
         clear hy196
         replace H := bI_ H
         obtain ⟨t199, A260, H⟩ := H
         (try dsimp only at H)
         have A26 := aA_ A260
         clear A260
         have H' := aA_ H
         clear H
         try go_wp2
         replace HO_6 := aA_ (Kd.R_drew HO_6.out)
         replace HO_189000 := aA_ (Kd.R_drew HO_189000.out)
         replace BK181 := aA_ (blk_drew BK181.out)
         replace BK182 := aA_ (blk_drew BK182.out)
         replace BK183 := aA_ (blk_drew BK183.out)
         replace BK184 := aA_ (blk_drew BK184.out)
         replace BK188 := aA_ (blk_drew BK188.out)
         replace HB := aA_ (below_drew1 HB.out)
         have p192 : 0 ≤ (x8_1 : Int) := of_decide_eq_true (by first | (with_reducible assumption) | assumption)
         have q192 : x8_1 < (l0_0.length : Int) := of_decide_eq_true (by first | (with_reducible assumption) | assumption)
         obtain ⟨ad192, e192, hx192_0⟩ := Kd.at_int HR0_0.out x8_1 p192 q192
         have hw192_0 := hx192_0
         cases e192
         replace hx192_0 := cC_ HB hx192_0
         replace p192 := eq_true p192
         replace q192 := eq_true q192
         refine start_ (n := 11) (S := fun w' => w'.cell? ⟨gb181, 0, none⟩ = some (.slice (some ad192) l0_0.length c0_0) ∧ w'.cell? ⟨gb188, 0, none⟩ = some (u189000) ∧ w'.cell? (ad192.add (x8_1).toNat) = some (.int .i64 (rd l0_0 x8_1))) (ds := [10]) (demurrageref01_Quot.ups 11 0) (by kernel_rfl) rfl rfl ⟨(blk_cell BK181.out 0).trans rfl, (blk_cell BK188.out 0).trans rfl, ((HB.out.cell (World.block_lt_of_cell? w _ hw192_0)).trans hw192_0)⟩ (fun hHeld => ?_); refine with_tabW demurrageref01_Quot.tab6 demurrageref01_Quot.bits6 (fun HT_ HW_ => ?_)
         generalize wr.drew = w27 at HO_6 HO_189000 BK181 BK182 BK183 BK184 BK188 HB hx192_0 hHeld ⊢
         refine pure_ (i := 0) (N := some 25) (v := ?_) (a' := ?_) (demurrageref01_Quot.ups 11 1) rfl rfl (any_of HT_.out (by kernel_rfl)) (fun _ _ _ h => h) (Or.inl ⟨by rfl, ?_⟩) ?_ ?_
         rotate_left
         ·intro w'
          go_simp
          with_reducible rfl
         rotate_left
         ·simp only [Act.put, sT_, sZ_, sS_, i64_w, i32_w]
          rfl
         refine pure_ (i := 2) (N := some 27) (v := ?_) (a' := ?_) (demurrageref01_Quot.ups 11 5) rfl rfl (any_of HT_.out (by kernel_rfl)) (fun _ _ _ h => h) (Or.inl ⟨by rfl, ?_⟩) ?_ ?_
         rotate_left
         ·intro w'
          go_simp
          with_reducible rfl
         rotate_left
         ·simp only [Act.put, sT_, sZ_, sS_, i64_w, i32_w]
          rfl
         refine pure_ (i := 6) (N := some 31) (v := ?_) (a' := ?_) (demurrageref01_Quot.ups 11 69) rfl rfl (any_of HT_.out (by kernel_rfl)) (fun _ _ _ h => h) (Or.inl ⟨by rfl, ?_⟩) ?_ ?_
         rotate_left
         ·intro w'
          go_simp
          with_reducible rfl
         rotate_left
         ·simp only [Act.put, sT_, sZ_, sS_, i64_w, i32_w]
          rfl
         refine take_ (i := 1) (N := some 26) (v := ?_) (a' := ?_) (demurrageref01_Quot.ups 11 71) rfl rfl (take_ofW HT_.out HW_.out (by kernel_rfl)) (fun _ _ _ h => h) (Or.inl ⟨by rfl, ?_⟩) hHeld ?_ ?_
         rotate_left
         ·rintro w' ⟨s0, s1, s2⟩
          go_simp
          with_reducible rfl
         rotate_left
         ·simp only [Act.put, sT_, sZ_, sS_, i64_w, i32_w]
          rfl
         refine pure_ (i := 3) (N := some 28) (v := ?_) (a' := ?_) (demurrageref01_Quot.ups 11 79) rfl rfl (any_of HT_.out (by kernel_rfl)) (fun _ _ _ h => h) (Or.inl ⟨by rfl, ?_⟩) ?_ ?_
         rotate_left
         ·intro w'
          go_simp
          with_reducible rfl
         rotate_left
         ·simp only [Act.put, sT_, sZ_, sS_, i64_w, i32_w]
          rfl
         refine take_ (i := 4) (N := some 29) (v := ?_) (a' := ?_) (demurrageref01_Quot.ups 11 95) rfl rfl (take_ofW HT_.out HW_.out (by kernel_rfl)) (fun _ _ _ h => h) (Or.inl ⟨by rfl, ?_⟩) hHeld ?_ ?_
         rotate_left
         ·rintro w' ⟨s0, s1, s2⟩
          go_simp
          with_reducible rfl
         rotate_left
         ·simp only [Act.put, sT_, sZ_, sS_, i64_w, i32_w]
          rfl
         refine take_ (i := 7) (N := some 32) (v := ?_) (a' := ?_) (demurrageref01_Quot.ups 11 223) rfl rfl (take_ofW HT_.out HW_.out (by kernel_rfl)) (fun _ _ _ h => h) (Or.inl ⟨by rfl, ?_⟩) hHeld ?_ ?_
         rotate_left
         ·rintro w' ⟨s0, s1, s2⟩
          go_simp
          with_reducible rfl
         rotate_left
         ·simp only [Act.put, sT_, sZ_, sS_, i64_w, i32_w]
          rfl
         refine one_ (i := 5) (N := some 30) (demurrageref01_Quot.ups 11 255) rfl rfl (one_of HT_.out (by kernel_rfl)) (by decide) (fun K hK => ?_)
         refine Kd.R_lit_step (Kd.int .i64) _ 3 ?hg (N := 30) ?hd (xs := ([rd l0_0 x8_1] : List Int)) (inner := [.int .i64 (rd l0_0 x8_1)]) (ok := fun _ => True) (okp := fun _ => True) ?hr ?hp (fun _ hk => hk) trivial (Below.refl _ _) (Nat.le_refl _) (by simp) ?_; (case hd => rfl); (case hg => rfl); (case hr => go_simp <;> rfl); (case hp => exact (Reps.one (show Kd.M (Kd.int .i64) _ _ _ (rd l0_0 x8_1) [.int .i64 (rd l0_0 x8_1)] from rfl) (Reps.none _ _)))
         intro v194 w28 ho29 hb hg_ hnew_
         clear hg_ hnew_
         (first | rw [← Ny193.out] at ho29 | (simp only [Int.reduceToNat] at ho29; rw [← Ny193.out] at ho29))
         have HO195 := aA_ (Kd.R_lower (Kd.R_new' (Kd.R_new' ho29 (Kd.R_lt HO_6.out)) (Kd.R_lt HO_189000.out)) (below_size (by repeat (with_reducible first | exact HB.out | apply bA_ | apply bN_ | apply bD_ | refine bS_ ?_ GE181.out | refine bS_ ?_ GE182.out | refine bS_ ?_ GE183.out | refine bS_ ?_ GE184.out | refine bS_ ?_ GE188.out))))
         replace HO_6 := aA_ (Kd.R_elder' HO_6.out (Kd.R_base ho29) hb)
         replace HO_189000 := aA_ (Kd.R_elder' HO_189000.out (Kd.R_base ho29) hb)
         replace BK181 := bK_ BK181 hb
         replace BK182 := bK_ BK182 hb
         replace BK183 := bK_ BK183 hb
         replace BK184 := bK_ BK184 hb
         replace BK188 := bK_ BK188 hb
         replace HB := bB_ (by repeat (with_reducible first | exact HB.out | apply bA_ | apply bN_ | apply bD_ | refine bS_ ?_ GE181.out | refine bS_ ?_ GE182.out | refine bS_ ?_ GE183.out | refine bS_ ?_ GE184.out | refine bS_ ?_ GE188.out)) hb
         clear hb ho29
         obtain ⟨Ao31, co31, eo31⟩ := Kd.R_slice HO_189000.out
         (first | subst eo31 | (injection eo31 with f1_ f2_ f3_; have f4_ := f1_.symm; have f5_ := f3_.symm; clear f1_ f2_ f3_; subst f4_; subst f5_))
         refine hK.out _ _ ⟨(blk_cell BK181.out 0).trans rfl, (blk_cell BK188.out 0).trans rfl, ((HB.out.cell (World.block_lt_of_cell? w _ hw192_0)).trans hw192_0)⟩ (fun hHeld => ?_)
         clear hK K
         refine norm_ (by show Act.put _ (some 30) _ = _; simp only [Act.put, sT_, sZ_, sS_, i64_w, i32_w] <;> rfl) ?_
         refine one_ (i := 8) (N := some 33) (demurrageref01_Quot.ups 11 511) rfl rfl (one_of HT_.out (by kernel_rfl)) (by decide) (fun K hK => ?_)
         refine Kd.R_append_rows_step (Kd.int .i64) (w0 := w) w.heap.size (by rfl) (.tmp 30) (.tmp 32) 54 3 (.int .i64 0) 8 rfl Tryd.underlying54 info3 rfl (by decide) (by omega) v194 y193 x189000_1 _ _ _ (fun k_ => some k_ ≠ (v186 : Value).ownBlock ∧ some k_ ≠ (.slice Ao31 x189000_1.length co31 : Value).ownBlock) (fun _ => False) rfl rfl ?aO ?aR (fun _ _ h => h) (fun _ h => h.elim) ?aF ?aB ?aS ?aL ?_
         (case aR => repeat (first | exact (Kd.R_reads' HO_189000.out).2.2 | (with_reducible first | refine Kd.C_alloc ?_ _ | refine Kd.C_drewN ?_ _ | refine Kd.C_drew ?_)))
         (case aB => exact (by repeat (with_reducible first | exact HB.out | apply bA_ | apply bN_ | apply bD_ | refine bS_ ?_ GE181.out | refine bS_ ?_ GE182.out | refine bS_ ?_ GE183.out | refine bS_ ?_ GE184.out | refine bS_ ?_ GE188.out)))
         (case aF => exact (fun k_ hk => ⟨Kd.fresh' (Kd.R_lt (by (with_reducible repeat (first | apply Kd.R_alloc | apply Kd.R_drewN | apply Kd.R_drew)); exact HO_6.out)) k_ hk, Kd.fresh' (Kd.R_lt (by (with_reducible repeat (first | apply Kd.R_alloc | apply Kd.R_drewN | apply Kd.R_drew)); exact HO_189000.out)) k_ hk⟩))
         (case aO => exact (by (with_reducible repeat (first | apply Kd.R_alloc | apply Kd.R_drewN | apply Kd.R_drew)); exact Kd.R_mono HO195.out (fun _ hk => (And.intro (hk.1.2) (hk.2)))))
         (case aS => exact (below_size (by repeat (with_reducible first | exact HB.out | apply bA_ | apply bN_ | apply bD_ | refine bS_ ?_ GE181.out | refine bS_ ?_ GE182.out | refine bS_ ?_ GE183.out | refine bS_ ?_ GE184.out | refine bS_ ?_ GE188.out))))
         (case aL => have := LMc25.out; omega)
         intro v197 w30 ho hb hg hat
         rw [← Ny196.out] at ho
         replace HO_6 := aA_ (Kd.R_after (ok := (fun k_ => some k_ ≠ (.slice Ao31 x189000_1.length co31 : Value).ownBlock)) HO_6.out hg hat)
         replace HO_189000 := aA_ (Kd.R_after (ok := (fun k_ => some k_ ≠ (v186 : Value).ownBlock)) HO_189000.out hg hat)
         replace BK181 := aA_ (blk_grown (g := gb181) (o := .cells #[.slice (some ad192) l0_0.length c0_0] 56 (0, 0)) BK181.out hg (Kd.R_ne HO195.out BK181.out (by decide)))
         replace BK182 := aA_ (blk_grown (g := gb182) (o := .cells #[.slice A1_0 l1_0.length c1_0] 56 (0, 0)) BK182.out hg (Kd.R_ne HO195.out BK182.out (by decide)))
         replace BK183 := aA_ (blk_grown (g := gb183) (o := .cells #[.slice none 0 0] 56 (0, 0)) BK183.out hg (Kd.R_ne HO195.out BK183.out (by decide)))
         replace BK184 := aA_ (blk_grown (g := gb184) (o := .cells #[.slice none 0 0] 56 (0, 0)) BK184.out hg (Kd.R_ne HO195.out BK184.out (by decide)))
         replace BK188 := aA_ (blk_grown (g := gb188) (o := .cells #[.slice Ao31 x189000_1.length co31] 56 (0, 0)) BK188.out hg (Kd.R_ne HO195.out BK188.out (by decide)))
         replace HB := aA_ (hb)
         have HO198 := aA_ (ho)
         clear HO195 ho hb hg hat
         obtain ⟨Ao32, co32, eo32⟩ := Kd.R_slice HO198.out
         (first | subst eo32 | (injection eo32 with f1_ f2_ f3_; have f4_ := f1_.symm; have f5_ := f3_.symm; clear f1_ f2_ f3_; subst f4_; subst f5_))
         refine hK.out _ _ ⟨(blk_cell BK181.out 0).trans rfl, (blk_cell BK188.out 0).trans rfl, ((HB.out.cell (World.block_lt_of_cell? w _ hw192_0)).trans hw192_0)⟩ (fun hHeld => ?_)
         clear hK K
         refine norm_ (by show Act.put _ (some 33) _ = _; simp only [Act.put, sT_, sZ_, sS_, i64_w, i32_w] <;> rfl) ?_
         refine one_ (i := 9) (N := some 34) (demurrageref01_Quot.ups 11 1023) rfl rfl (one_of HT_.out (by kernel_rfl)) (by decide) (fun K hK => ?_)
         refine goes_ Tryd.func57 (by kernel_rfl) rfl #[.slice Ao32 y196.length co32] (by rfl) rfl rfl (by (try simp only [mT_, mC_, mN_]); first | done | rfl) ?_
         with_reducible refine (demurrageref01_trim.calls _ _ y196 t199 _ ?side1 ?side2 A26.out).mono ?_
         (case side1 => repeat (first | exact (Kd.R_reads' HO198.out).2.2 | (with_reducible first | refine Kd.C_alloc ?_ _ | refine Kd.C_drewN ?_ _ | refine Kd.C_drew ?_)))
         (case side2 => exact (Kd.R_reads' HO198.out).2.1)
         rintro e w33 ⟨v200, rfl, ho0, hb⟩
         refine ⟨_, rfl, ?_⟩
         have HO201 := aA_ (Kd.R_lower (Kd.R_new' (Kd.R_new' (Kd.R_new' ho0 (Kd.R_lt HO_6.out)) (Kd.R_lt HO_189000.out)) (Kd.R_lt HO198.out)) (below_size (by repeat (with_reducible first | exact HB.out | apply bA_ | apply bN_ | apply bD_ | refine bS_ ?_ GE181.out | refine bS_ ?_ GE182.out | refine bS_ ?_ GE183.out | refine bS_ ?_ GE184.out | refine bS_ ?_ GE188.out))))
         replace HO_6 := aA_ (Kd.R_elder' HO_6.out (Kd.R_base ho0) hb)
         replace HO_189000 := aA_ (Kd.R_elder' HO_189000.out (Kd.R_base ho0) hb)
         replace HO198 := aA_ (Kd.R_elder' HO198.out (Kd.R_base ho0) hb)
         replace BK181 := bK_ BK181 hb
         replace BK182 := bK_ BK182 hb
         replace BK183 := bK_ BK183 hb
         replace BK184 := bK_ BK184 hb
         replace BK188 := bK_ BK188 hb
         replace HB := bB_ (by repeat (with_reducible first | exact HB.out | apply bA_ | apply bN_ | apply bD_ | refine bS_ ?_ GE181.out | refine bS_ ?_ GE182.out | refine bS_ ?_ GE183.out | refine bS_ ?_ GE184.out | refine bS_ ?_ GE188.out)) hb
         (try clear hb)
         (try clear hb2)
         (try clear hk)
         (try clear hi)
         (try clear ho0)
         obtain ⟨Ao34, co34, eo34⟩ := Kd.R_slice HO201.out
         (first | subst eo34 | (injection eo34 with f1_ f2_ f3_; have f4_ := f1_.symm; have f5_ := f3_.symm; clear f1_ f2_ f3_; subst f4_; subst f5_))
         refine hK.out _ _ ⟨(blk_cell BK181.out 0).trans rfl, (blk_cell BK188.out 0).trans rfl, ((HB.out.cell (World.block_lt_of_cell? w _ hw192_0)).trans hw192_0)⟩ (fun hHeld => ?_)
         clear hK K
         refine norm_ (by show Act.put _ (some 34) _ = _; simp only [Act.put, sT_, sZ_, sS_, i64_w, i32_w] <;> rfl) ?_
         refine last_ (i := 10) (N := none) (demurrageref01_Quot.ups 11 2047) rfl rfl (one_of HT_.out (by kernel_rfl)) (by decide) (fun K hK => ?_)
         have hs35 : w33.cell? ⟨gb188, 0, none⟩ = some (.slice Ao31 x189000_1.length co31) := (blk_cell BK188.out 0).trans rfl
         have hfs35 := blk_frozen BK188.out 0
         have hns35_0 := NB181_188.out
         have hns35_1 := NB182_188.out
         have hns35_2 := NB183_188.out
         have hns35_3 := NB184_188.out
         have hms35_0 := NB188_181.out
         have hms35_1 := NB188_182.out
         have hms35_2 := NB188_183.out
         have hms35_3 := NB188_184.out
         refine skip_ (w1 := ?_) (by rfl) rfl ?_ ?_
         rotate_left
         ·go_simp
          rfl
         refine hK.out _ _ ?_
         clear hK K
         refine done_ (done_of HT_.out (by kernel_rfl)) ?_
         try go_wp2
         (try simp only [Act.put, sT_, sZ_, sS_])
         go_loopg [9, 10] k1 (fun kq v9 v10 w' => ∃ (x9_2 : Int) (x10_2 : Int), v9 = .int .i64 x9_2 ∧ v10 = .int .i64 x10_2 ∧ Aside0 (demurrageref01_Quot.l1 kq x6_1 x8_1 x9_2 x10_2 l0_0 l1_0 t199 = some (r1, r2)) ∧ Aside0 (kq ≤ k1) ∧ Aside0 (Kd.R (Kd.int .i64) 3 w' w.heap.size (fun k_ => some k_ ≠ ((.slice Ao34 t199.length co34) : Value).ownBlock) v186 x6_1) ∧ Aside0 (Kd.R (Kd.int .i64) 3 w' w.heap.size (fun k_ => some k_ ≠ (v186 : Value).ownBlock) (.slice Ao34 t199.length co34) t199) ∧ Aside0 (w'.heap[gb181]? = some (.cells #[(.slice (some ad192) l0_0.length c0_0)] 56 (0, 0))) ∧ Aside0 (w'.heap[gb182]? = some (.cells #[(.slice A1_0 l1_0.length c1_0)] 56 (0, 0))) ∧ Aside0 (w'.heap[gb183]? = some (.cells #[(.slice none 0 0)] 56 (0, 0))) ∧ Aside0 (w'.heap[gb184]? = some (.cells #[(.slice none 0 0)] 56 (0, 0))) ∧ Aside0 (w'.heap[gb188]? = some (.cells #[(.slice Ao34 t199.length co34)] 56 (0, 0))) ∧ Aside0 (Below w.heap.size w w'))
         case atStart => exact ⟨(0), (10000), (by first | rfl | (simp; done) | (simp [*]; done)), (by first | rfl | (simp; done) | (simp [*]; done)), H', ⟨Nat.le_refl _⟩, ⟨by (with_reducible repeat (first | apply Kd.R_alloc | apply Kd.R_drewN | apply Kd.R_drew)); exact Kd.R_mono (Kd.R_far (p := ⟨gb188, 0, none⟩) (Kd.R_types HO_6.out BK188.out (by decide)) (fun _ hk => hk.2) (.slice Ao34 t199.length co34)) (fun _ hk => hk.1.2)⟩, ⟨by (with_reducible repeat (first | apply Kd.R_alloc | apply Kd.R_drewN | apply Kd.R_drew)); exact Kd.R_mono (Kd.R_far (p := ⟨gb188, 0, none⟩) (Kd.R_types HO201.out BK188.out (by decide)) (fun _ hk => hk.2) (.slice Ao34 t199.length co34)) (fun _ hk => hk.1.1.1.2)⟩, ⟨by refine blk_far ?_ NB181_188.out _; exact BK181.out⟩, ⟨by refine blk_far ?_ NB182_188.out _; exact BK182.out⟩, ⟨by refine blk_far ?_ NB183_188.out _; exact BK183.out⟩, ⟨by refine blk_far ?_ NB184_188.out _; exact BK184.out⟩, ⟨by refine blk_put (cs := #[.slice Ao31 x189000_1.length co31]) ?_ 0 _ rfl; exact BK188.out⟩, ⟨by repeat (with_reducible first | exact HB.out | apply bA_ | apply bN_ | apply bD_ | refine bS_ ?_ GE181.out | refine bS_ ?_ GE182.out | refine bS_ ?_ GE183.out | refine bS_ ?_ GE184.out | refine bS_ ?_ GE188.out)⟩⟩
         case round =>
          clear H'
          try clear c1
          try clear p1
          try clear q1
          try clear hx1
          try clear c2
          try clear p2
          try clear c3
          try clear c3b0
          try clear c3b1
          try clear c4
          try clear c4b0
          try clear c4b1
          try clear c5
          try clear p6
          try clear c9
          try clear c10
          try clear c11
          try clear c16
          try clear c17
          try clear c18
          try clear c19
          try clear p19
          try clear q19
          try clear hx19
          try clear c22
          try clear c22b0
          try clear c23
          try clear c23b0
          try clear c24
          try clear c24b0
          try clear c25
          try clear hcz12_0
          try clear hcz20_0
          try clear hcz21_0
          try clear hfz12_0
          try clear hfz20_0
          try clear hfz21_0
          try clear hx192_0
          try clear p192
          try clear p2
          try clear p6
          try clear q192
          obtain ⟨x9_2, x10_2, rfl, rfl, HA, HK2, HO_6, HO_189000, BK181, BK182, BK183, BK184, BK188, HB⟩ := hrel
          cases gk with
          | zero => exact absurd HA.out (by simp [demurrageref01_Quot.l1])
          | succ k2 =>
           have H := HA.out
           clear HA
           simp only [demurrageref01_Quot.l1] at H
           by_cases c36 : (wrap64 (x10_2 - x9_2)) > 1
           ·rw [if_pos c36] at H
            have c36b0 : decide (1 < (wrap64 (x10_2 - x9_2))) = true := decide_eq_true c36
            clear c36
            replace H := bI_ H
            obtain ⟨t212, A370, H⟩ := H
            (try dsimp only at H)
            have A37 := aA_ A370
            clear A370
            replace H := bI_ H
            obtain ⟨t215, A380, H⟩ := H
            (try dsimp only at H)
            have A38 := aA_ A380
            clear A380
            replace H := bI_ H
            obtain ⟨t218, A390, H⟩ := H
            (try dsimp only at H)
            have A39 := aA_ A390
            clear A390
            by_cases c40 : t218 ≤ 0
            ·rw [if_pos c40] at H
             have c40b0 : decide (t218 ≤ 0) = true := decide_eq_true c40
             clear c40
             have H' := aA_ H
             clear H
             try go_wp2
             replace HO_6 := aA_ (Kd.R_drew HO_6.out)
             replace HO_189000 := aA_ (Kd.R_drew HO_189000.out)
             replace BK181 := aA_ (blk_drew BK181.out)
             replace BK182 := aA_ (blk_drew BK182.out)
             replace BK183 := aA_ (blk_drew BK183.out)
             replace BK184 := aA_ (blk_drew BK184.out)
             replace BK188 := aA_ (blk_drew BK188.out)
             replace HB := aA_ (below_drew1 HB.out)
             refine start_ (n := 7) (S := fun w' => w'.cell? ⟨gb182, 0, none⟩ = some (.slice A1_0 l1_0.length c1_0) ∧ w'.cell? ⟨gb188, 0, none⟩ = some (.slice Ao34 t199.length co34)) (ds := []) (demurrageref01_Quot.ups 7 0) (by kernel_rfl) rfl rfl ⟨(blk_cell BK182.out 0).trans rfl, (blk_cell BK188.out 0).trans rfl⟩ (fun hHeld => ?_)
             generalize wr.drew = w41 at HO_6 HO_189000 BK181 BK182 BK183 BK184 BK188 HB hHeld ⊢
             refine pure_ (i := 1) (N := some 44) (v := ?_) (a' := ?_) (demurrageref01_Quot.ups 7 2) rfl rfl (by kernel_rfl) (fun _ _ _ h => h) (Or.inl ⟨by rfl, ?_⟩) ?_ ?_
             rotate_left
             ·intro w'
              go_simp
              with_reducible rfl
             rotate_left
             ·simp only [Act.put, sT_, sZ_, sS_, i64_w, i32_w]
              rfl
             refine take_ (i := 0) (N := some 43) (v := ?_) (a' := ?_) (demurrageref01_Quot.ups 7 3) rfl rfl (by kernel_rfl) (fun _ _ _ h => h) (Or.inl ⟨by rfl, ?_⟩) hHeld ?_ ?_
             rotate_left
             ·rintro w' ⟨s0, s1⟩
              go_simp
              with_reducible rfl
             rotate_left
             ·simp only [Act.put, sT_, sZ_, sS_, i64_w, i32_w]
              rfl
             refine take_ (i := 4) (N := some 47) (v := ?_) (a' := ?_) (demurrageref01_Quot.ups 7 19) rfl rfl (by kernel_rfl) (fun _ _ _ h => h) (Or.inl ⟨by rfl, ?_⟩) hHeld ?_ ?_
             rotate_left
             ·rintro w' ⟨s0, s1⟩
              go_simp
              with_reducible rfl
             rotate_left
             ·simp only [Act.put, sT_, sZ_, sS_, i64_w, i32_w]
              rfl
             refine one_ (i := 2) (N := some 45) (demurrageref01_Quot.ups 7 23) rfl rfl (by kernel_rfl) (by decide) (fun K hK => ?_)
             refine goes_ Tryd.func37 (by kernel_rfl) rfl #[.int .i64 (wrap64 (Int.tdiv (wrap64 (x9_2 + x10_2)) 2))] (by rfl) rfl rfl (by (try simp only [mT_, mC_, mN_]); first | done | rfl) ?_
             with_reducible refine (demurrageref01_From.calls k2 (wrap64 (Int.tdiv (wrap64 (x9_2 + x10_2)) 2)) t212 _ A37.out).mono ?_
             rintro e w42 ⟨v213, rfl, ho0, hb⟩
             refine ⟨_, rfl, ?_⟩
             have HO214 := aA_ (Kd.R_lower (Kd.R_new' (Kd.R_new' ho0 (Kd.R_lt HO_6.out)) (Kd.R_lt HO_189000.out)) (below_size (by repeat (with_reducible first | exact HB.out | apply bA_ | apply bN_ | apply bD_ | refine bS_ ?_ GE181.out | refine bS_ ?_ GE182.out | refine bS_ ?_ GE183.out | refine bS_ ?_ GE184.out | refine bS_ ?_ GE188.out))))
             replace HO_6 := aA_ (Kd.R_elder' HO_6.out (Kd.R_base ho0) hb)
             replace HO_189000 := aA_ (Kd.R_elder' HO_189000.out (Kd.R_base ho0) hb)
             replace BK181 := bK_ BK181 hb
             replace BK182 := bK_ BK182 hb
             replace BK183 := bK_ BK183 hb
             replace BK184 := bK_ BK184 hb
             replace BK188 := bK_ BK188 hb
             replace HB := bB_ (by repeat (with_reducible first | exact HB.out | apply bA_ | apply bN_ | apply bD_ | refine bS_ ?_ GE181.out | refine bS_ ?_ GE182.out | refine bS_ ?_ GE183.out | refine bS_ ?_ GE184.out | refine bS_ ?_ GE188.out)) hb
             (try clear hb)
             (try clear hb2)
             (try clear hk)
             (try clear hi)
             (try clear ho0)
             obtain ⟨Ao43, co43, eo43⟩ := Kd.R_slice HO214.out
             (first | subst eo43 | (injection eo43 with f1_ f2_ f3_; have f4_ := f1_.symm; have f5_ := f3_.symm; clear f1_ f2_ f3_; subst f4_; subst f5_))
             refine hK.out _ _ ⟨(blk_cell BK182.out 0).trans rfl, (blk_cell BK188.out 0).trans rfl⟩ (fun hHeld => ?_)
             clear hK K
             refine norm_ (by show Act.put _ (some 45) _ = _; simp only [Act.put, sT_, sZ_, sS_, i64_w, i32_w] <;> rfl) ?_
             refine one_ (i := 3) (N := some 46) (demurrageref01_Quot.ups 7 31) rfl rfl (by kernel_rfl) (by decide) (fun K hK => ?_)
             refine goes_ Tryd.func35 (by kernel_rfl) rfl #[.agg #[.slice A1_0 l1_0.length c1_0], .agg #[.slice Ao43 t212.length co43]] (by rfl) rfl rfl (by (try simp only [mT_, mC_, mN_]); first | done | rfl) ?_
             with_reducible refine (demurrageref01_Prod.calls k2 _ _ l1_0 _ _ t212 t215 _ ?side1 ?side2 ?side3 ?side4 A38.out).mono ?_
             (case side1 => repeat (first | exact (Kd.C_below HR1_0.out HB.out) | (with_reducible first | refine Kd.C_alloc ?_ _ | refine Kd.C_drewN ?_ _ | refine Kd.C_drew ?_)))
             (case side2 => exact HC1_0.out)
             (case side3 => repeat (first | exact (Kd.R_reads' HO214.out).2.2 | (with_reducible first | refine Kd.C_alloc ?_ _ | refine Kd.C_drewN ?_ _ | refine Kd.C_drew ?_)))
             (case side4 => exact (Kd.R_reads' HO214.out).2.1)
             rintro e w44 ⟨v216, rfl, ho0, hb⟩
             refine ⟨_, rfl, ?_⟩
             have HO217 := aA_ (Kd.R_lower (Kd.R_new' (Kd.R_new' (Kd.R_new' ho0 (Kd.R_lt HO_6.out)) (Kd.R_lt HO_189000.out)) (Kd.R_lt HO214.out)) (below_size (by repeat (with_reducible first | exact HB.out | apply bA_ | apply bN_ | apply bD_ | refine bS_ ?_ GE181.out | refine bS_ ?_ GE182.out | refine bS_ ?_ GE183.out | refine bS_ ?_ GE184.out | refine bS_ ?_ GE188.out))))
             replace HO_6 := aA_ (Kd.R_elder' HO_6.out (Kd.R_base ho0) hb)
             replace HO_189000 := aA_ (Kd.R_elder' HO_189000.out (Kd.R_base ho0) hb)
             replace HO214 := aA_ (Kd.R_elder' HO214.out (Kd.R_base ho0) hb)
             replace BK181 := bK_ BK181 hb
             replace BK182 := bK_ BK182 hb
             replace BK183 := bK_ BK183 hb
             replace BK184 := bK_ BK184 hb
             replace BK188 := bK_ BK188 hb
             replace HB := bB_ (by repeat (with_reducible first | exact HB.out | apply bA_ | apply bN_ | apply bD_ | refine bS_ ?_ GE181.out | refine bS_ ?_ GE182.out | refine bS_ ?_ GE183.out | refine bS_ ?_ GE184.out | refine bS_ ?_ GE188.out)) hb
             (try clear hb)
             (try clear hb2)
             (try clear hk)
             (try clear hi)
             (try clear ho0)
             obtain ⟨Ao45, co45, eo45⟩ := Kd.R_slice HO217.out
             (first | subst eo45 | (injection eo45 with f1_ f2_ f3_; have f4_ := f1_.symm; have f5_ := f3_.symm; clear f1_ f2_ f3_; subst f4_; subst f5_))
             refine hK.out _ _ ⟨(blk_cell BK182.out 0).trans rfl, (blk_cell BK188.out 0).trans rfl⟩ (fun hHeld => ?_)
             clear hK K
             refine norm_ (by show Act.put _ (some 46) _ = _; simp only [Act.put, sT_, sZ_, sS_, i64_w, i32_w] <;> rfl) ?_
             refine one_ (i := 5) (N := some 48) (demurrageref01_Quot.ups 7 63) rfl rfl (by kernel_rfl) (by decide) (fun K hK => ?_)
             refine goes_ Tryd.func38 (by kernel_rfl) rfl #[.agg #[.slice Ao45 t215.length co45], .agg #[.slice Ao34 t199.length co34]] (by rfl) rfl rfl (by (try simp only [mT_, mC_, mN_]); first | done | rfl) ?_
             with_reducible refine (demurrageref01_Cmp.calls k2 _ _ t215 _ _ t199 t218 _ ?side1 ?side2 ?side3 ?side4 A39.out).mono ?_
             (case side1 => repeat (first | exact (Kd.R_reads' HO217.out).2.2 | (with_reducible first | refine Kd.C_alloc ?_ _ | refine Kd.C_drewN ?_ _ | refine Kd.C_drew ?_)))
             (case side2 => exact (Kd.R_reads' HO217.out).2.1)
             (case side3 => repeat (first | exact (Kd.R_reads' HO_189000.out).2.2 | (with_reducible first | refine Kd.C_alloc ?_ _ | refine Kd.C_drewN ?_ _ | refine Kd.C_drew ?_)))
             (case side4 => exact (Kd.R_reads' HO_189000.out).2.1)
             rintro e w46 ⟨rfl, hb⟩
             refine ⟨_, rfl, ?_⟩
             replace HO_6 := aA_ (Kd.R_below HO_6.out hb)
             replace HO_189000 := aA_ (Kd.R_below HO_189000.out hb)
             replace HO214 := aA_ (Kd.R_below HO214.out hb)
             replace HO217 := aA_ (Kd.R_below HO217.out hb)
             replace BK181 := bK_ BK181 hb
             replace BK182 := bK_ BK182 hb
             replace BK183 := bK_ BK183 hb
             replace BK184 := bK_ BK184 hb
             replace BK188 := bK_ BK188 hb
             replace HB := bB_ (by repeat (with_reducible first | exact HB.out | apply bA_ | apply bN_ | apply bD_ | refine bS_ ?_ GE181.out | refine bS_ ?_ GE182.out | refine bS_ ?_ GE183.out | refine bS_ ?_ GE184.out | refine bS_ ?_ GE188.out)) hb
             (try clear hb)
             (try clear hb2)
             (try clear hk)
             (try clear hi)
             refine hK.out _ _ ⟨(blk_cell BK182.out 0).trans rfl, (blk_cell BK188.out 0).trans rfl⟩ (fun hHeld => ?_)
             clear hK K
             refine norm_ (by show Act.put _ (some 48) _ = _; simp only [Act.put, sT_, sZ_, sS_, i64_w, i32_w] <;> rfl) ?_
             refine pure_ (i := 6) (N := some 49) (v := ?_) (a' := ?_) (demurrageref01_Quot.ups 7 127) rfl rfl (by kernel_rfl) (fun _ _ _ h => h) (Or.inl ⟨by rfl, ?_⟩) ?_ ?_
             rotate_left
             ·intro w'
              go_simp
              with_reducible rfl
             rotate_left
             ·simp only [Act.put, sT_, sZ_, sS_, i64_w, i32_w]
              rfl
             refine done_ (by kernel_rfl) ?_
             try go_wp2
             go_roundg k2
             case measure => have := HK1.out; have := HK2.out; omega
             case rel => exact ⟨(wrap64 (Int.tdiv (wrap64 (x9_2 + x10_2)) 2)), (x10_2), (by first | rfl | (simp; done) | (simp [*]; done)), (by first | rfl | (simp; done) | (simp [*]; done)), H', ⟨by have := HK1.out; have := HK2.out; omega⟩, ⟨by (with_reducible repeat (first | apply Kd.R_alloc | apply Kd.R_drewN | apply Kd.R_drew)); exact Kd.R_mono HO_6.out (fun _ hk => hk.1.1)⟩, ⟨by (with_reducible repeat (first | apply Kd.R_alloc | apply Kd.R_drewN | apply Kd.R_drew)); exact Kd.R_mono HO_189000.out (fun _ hk => hk.1.1)⟩, ⟨by exact BK181.out⟩, ⟨by exact BK182.out⟩, ⟨by exact BK183.out⟩, ⟨by exact BK184.out⟩, ⟨by exact BK188.out⟩, ⟨by repeat (with_reducible first | exact HB.out | apply bA_ | apply bN_ | apply bD_ | refine bS_ ?_ GE181.out | refine bS_ ?_ GE182.out | refine bS_ ?_ GE183.out | refine bS_ ?_ GE184.out | refine bS_ ?_ GE188.out)⟩⟩
            ·rw [if_neg c40] at H
             have c40b0 : decide (t218 ≤ 0) = false := decide_eq_false c40
             clear c40
             have H' := aA_ H
             clear H
             try go_wp2
             replace HO_6 := aA_ (Kd.R_drew HO_6.out)
             replace HO_189000 := aA_ (Kd.R_drew HO_189000.out)
             replace BK181 := aA_ (blk_drew BK181.out)
             replace BK182 := aA_ (blk_drew BK182.out)
             replace BK183 := aA_ (blk_drew BK183.out)
             replace BK184 := aA_ (blk_drew BK184.out)
             replace BK188 := aA_ (blk_drew BK188.out)
             replace HB := aA_ (below_drew1 HB.out)
             refine start_ (n := 7) (S := fun w' => w'.cell? ⟨gb182, 0, none⟩ = some (.slice A1_0 l1_0.length c1_0) ∧ w'.cell? ⟨gb188, 0, none⟩ = some (.slice Ao34 t199.length co34)) (ds := []) (demurrageref01_Quot.ups 7 0) (by kernel_rfl) rfl rfl ⟨(blk_cell BK182.out 0).trans rfl, (blk_cell BK188.out 0).trans rfl⟩ (fun hHeld => ?_)
             generalize wr.drew = w47 at HO_6 HO_189000 BK181 BK182 BK183 BK184 BK188 HB hHeld ⊢
             refine pure_ (i := 1) (N := some 44) (v := ?_) (a' := ?_) (demurrageref01_Quot.ups 7 2) rfl rfl (by kernel_rfl) (fun _ _ _ h => h) (Or.inl ⟨by rfl, ?_⟩) ?_ ?_
             rotate_left
             ·intro w'
              go_simp
              with_reducible rfl
             rotate_left
             ·simp only [Act.put, sT_, sZ_, sS_, i64_w, i32_w]
              rfl
             refine take_ (i := 0) (N := some 43) (v := ?_) (a' := ?_) (demurrageref01_Quot.ups 7 3) rfl rfl (by kernel_rfl) (fun _ _ _ h => h) (Or.inl ⟨by rfl, ?_⟩) hHeld ?_ ?_
             rotate_left
             ·rintro w' ⟨s0, s1⟩
              go_simp
              with_reducible rfl
             rotate_left
             ·simp only [Act.put, sT_, sZ_, sS_, i64_w, i32_w]
              rfl
             refine take_ (i := 4) (N := some 47) (v := ?_) (a' := ?_) (demurrageref01_Quot.ups 7 19) rfl rfl (by kernel_rfl) (fun _ _ _ h => h) (Or.inl ⟨by rfl, ?_⟩) hHeld ?_ ?_
             rotate_left
             ·rintro w' ⟨s0, s1⟩
              go_simp
              with_reducible rfl
             rotate_left
             ·simp only [Act.put, sT_, sZ_, sS_, i64_w, i32_w]
              rfl
             refine one_ (i := 2) (N := some 45) (demurrageref01_Quot.ups 7 23) rfl rfl (by kernel_rfl) (by decide) (fun K hK => ?_)
             refine goes_ Tryd.func37 (by kernel_rfl) rfl #[.int .i64 (wrap64 (Int.tdiv (wrap64 (x9_2 + x10_2)) 2))] (by rfl) rfl rfl (by (try simp only [mT_, mC_, mN_]); first | done | rfl) ?_
             with_reducible refine (demurrageref01_From.calls k2 (wrap64 (Int.tdiv (wrap64 (x9_2 + x10_2)) 2)) t212 _ A37.out).mono ?_
             rintro e w48 ⟨v213, rfl, ho0, hb⟩
             refine ⟨_, rfl, ?_⟩
             have HO214 := aA_ (Kd.R_lower (Kd.R_new' (Kd.R_new' ho0 (Kd.R_lt HO_6.out)) (Kd.R_lt HO_189000.out)) (below_size (by repeat (with_reducible first | exact HB.out | apply bA_ | apply bN_ | apply bD_ | refine bS_ ?_ GE181.out | refine bS_ ?_ GE182.out | refine bS_ ?_ GE183.out | refine bS_ ?_ GE184.out | refine bS_ ?_ GE188.out))))
             replace HO_6 := aA_ (Kd.R_elder' HO_6.out (Kd.R_base ho0) hb)
             replace HO_189000 := aA_ (Kd.R_elder' HO_189000.out (Kd.R_base ho0) hb)
             replace BK181 := bK_ BK181 hb
             replace BK182 := bK_ BK182 hb
             replace BK183 := bK_ BK183 hb
             replace BK184 := bK_ BK184 hb
             replace BK188 := bK_ BK188 hb
             replace HB := bB_ (by repeat (with_reducible first | exact HB.out | apply bA_ | apply bN_ | apply bD_ | refine bS_ ?_ GE181.out | refine bS_ ?_ GE182.out | refine bS_ ?_ GE183.out | refine bS_ ?_ GE184.out | refine bS_ ?_ GE188.out)) hb
             (try clear hb)
             (try clear hb2)
             (try clear hk)
             (try clear hi)
             (try clear ho0)
             obtain ⟨Ao49, co49, eo49⟩ := Kd.R_slice HO214.out
             (first | subst eo49 | (injection eo49 with f1_ f2_ f3_; have f4_ := f1_.symm; have f5_ := f3_.symm; clear f1_ f2_ f3_; subst f4_; subst f5_))
             refine hK.out _ _ ⟨(blk_cell BK182.out 0).trans rfl, (blk_cell BK188.out 0).trans rfl⟩ (fun hHeld => ?_)
             clear hK K
             refine norm_ (by show Act.put _ (some 45) _ = _; simp only [Act.put, sT_, sZ_, sS_, i64_w, i32_w] <;> rfl) ?_
             refine one_ (i := 3) (N := some 46) (demurrageref01_Quot.ups 7 31) rfl rfl (by kernel_rfl) (by decide) (fun K hK => ?_)
             refine goes_ Tryd.func35 (by kernel_rfl) rfl #[.agg #[.slice A1_0 l1_0.length c1_0], .agg #[.slice Ao49 t212.length co49]] (by rfl) rfl rfl (by (try simp only [mT_, mC_, mN_]); first | done | rfl) ?_
             with_reducible refine (demurrageref01_Prod.calls k2 _ _ l1_0 _ _ t212 t215 _ ?side1 ?side2 ?side3 ?side4 A38.out).mono ?_
             (case side1 => repeat (first | exact (Kd.C_below HR1_0.out HB.out) | (with_reducible first | refine Kd.C_alloc ?_ _ | refine Kd.C_drewN ?_ _ | refine Kd.C_drew ?_)))
             (case side2 => exact HC1_0.out)
             (case side3 => repeat (first | exact (Kd.R_reads' HO214.out).2.2 | (with_reducible first | refine Kd.C_alloc ?_ _ | refine Kd.C_drewN ?_ _ | refine Kd.C_drew ?_)))
             (case side4 => exact (Kd.R_reads' HO214.out).2.1)
             rintro e w50 ⟨v216, rfl, ho0, hb⟩
             refine ⟨_, rfl, ?_⟩
             have HO217 := aA_ (Kd.R_lower (Kd.R_new' (Kd.R_new' (Kd.R_new' ho0 (Kd.R_lt HO_6.out)) (Kd.R_lt HO_189000.out)) (Kd.R_lt HO214.out)) (below_size (by repeat (with_reducible first | exact HB.out | apply bA_ | apply bN_ | apply bD_ | refine bS_ ?_ GE181.out | refine bS_ ?_ GE182.out | refine bS_ ?_ GE183.out | refine bS_ ?_ GE184.out | refine bS_ ?_ GE188.out))))
             replace HO_6 := aA_ (Kd.R_elder' HO_6.out (Kd.R_base ho0) hb)
             replace HO_189000 := aA_ (Kd.R_elder' HO_189000.out (Kd.R_base ho0) hb)
             replace HO214 := aA_ (Kd.R_elder' HO214.out (Kd.R_base ho0) hb)
             replace BK181 := bK_ BK181 hb
             replace BK182 := bK_ BK182 hb
             replace BK183 := bK_ BK183 hb
             replace BK184 := bK_ BK184 hb
             replace BK188 := bK_ BK188 hb
             replace HB := bB_ (by repeat (with_reducible first | exact HB.out | apply bA_ | apply bN_ | apply bD_ | refine bS_ ?_ GE181.out | refine bS_ ?_ GE182.out | refine bS_ ?_ GE183.out | refine bS_ ?_ GE184.out | refine bS_ ?_ GE188.out)) hb
             (try clear hb)
             (try clear hb2)
             (try clear hk)
             (try clear hi)
             (try clear ho0)
             obtain ⟨Ao51, co51, eo51⟩ := Kd.R_slice HO217.out
             (first | subst eo51 | (injection eo51 with f1_ f2_ f3_; have f4_ := f1_.symm; have f5_ := f3_.symm; clear f1_ f2_ f3_; subst f4_; subst f5_))
             refine hK.out _ _ ⟨(blk_cell BK182.out 0).trans rfl, (blk_cell BK188.out 0).trans rfl⟩ (fun hHeld => ?_)
             clear hK K
             refine norm_ (by show Act.put _ (some 46) _ = _; simp only [Act.put, sT_, sZ_, sS_, i64_w, i32_w] <;> rfl) ?_
             refine one_ (i := 5) (N := some 48) (demurrageref01_Quot.ups 7 63) rfl rfl (by kernel_rfl) (by decide) (fun K hK => ?_)
             refine goes_ Tryd.func38 (by kernel_rfl) rfl #[.agg #[.slice Ao51 t215.length co51], .agg #[.slice Ao34 t199.length co34]] (by rfl) rfl rfl (by (try simp only [mT_, mC_, mN_]); first | done | rfl) ?_
             with_reducible refine (demurrageref01_Cmp.calls k2 _ _ t215 _ _ t199 t218 _ ?side1 ?side2 ?side3 ?side4 A39.out).mono ?_
             (case side1 => repeat (first | exact (Kd.R_reads' HO217.out).2.2 | (with_reducible first | refine Kd.C_alloc ?_ _ | refine Kd.C_drewN ?_ _ | refine Kd.C_drew ?_)))
             (case side2 => exact (Kd.R_reads' HO217.out).2.1)
             (case side3 => repeat (first | exact (Kd.R_reads' HO_189000.out).2.2 | (with_reducible first | refine Kd.C_alloc ?_ _ | refine Kd.C_drewN ?_ _ | refine Kd.C_drew ?_)))
             (case side4 => exact (Kd.R_reads' HO_189000.out).2.1)
             rintro e w52 ⟨rfl, hb⟩
             refine ⟨_, rfl, ?_⟩
             replace HO_6 := aA_ (Kd.R_below HO_6.out hb)
             replace HO_189000 := aA_ (Kd.R_below HO_189000.out hb)
             replace HO214 := aA_ (Kd.R_below HO214.out hb)
             replace HO217 := aA_ (Kd.R_below HO217.out hb)
             replace BK181 := bK_ BK181 hb
             replace BK182 := bK_ BK182 hb
             replace BK183 := bK_ BK183 hb
             replace BK184 := bK_ BK184 hb
             replace BK188 := bK_ BK188 hb
             replace HB := bB_ (by repeat (with_reducible first | exact HB.out | apply bA_ | apply bN_ | apply bD_ | refine bS_ ?_ GE181.out | refine bS_ ?_ GE182.out | refine bS_ ?_ GE183.out | refine bS_ ?_ GE184.out | refine bS_ ?_ GE188.out)) hb
             (try clear hb)
             (try clear hb2)
             (try clear hk)
             (try clear hi)
             refine hK.out _ _ ⟨(blk_cell BK182.out 0).trans rfl, (blk_cell BK188.out 0).trans rfl⟩ (fun hHeld => ?_)
             clear hK K
             refine norm_ (by show Act.put _ (some 48) _ = _; simp only [Act.put, sT_, sZ_, sS_, i64_w, i32_w] <;> rfl) ?_
             refine pure_ (i := 6) (N := some 49) (v := ?_) (a' := ?_) (demurrageref01_Quot.ups 7 127) rfl rfl (by kernel_rfl) (fun _ _ _ h => h) (Or.inl ⟨by rfl, ?_⟩) ?_ ?_
             rotate_left
             ·intro w'
              go_simp
              with_reducible rfl
             rotate_left
             ·simp only [Act.put, sT_, sZ_, sS_, i64_w, i32_w]
              rfl
             refine done_ (by kernel_rfl) ?_
             try go_wp2
             go_roundg k2
             case measure => have := HK1.out; have := HK2.out; omega
             case rel => exact ⟨(x9_2), (wrap64 (Int.tdiv (wrap64 (x9_2 + x10_2)) 2)), (by first | rfl | (simp; done) | (simp [*]; done)), (by first | rfl | (simp; done) | (simp [*]; done)), H', ⟨by have := HK1.out; have := HK2.out; omega⟩, ⟨by (with_reducible repeat (first | apply Kd.R_alloc | apply Kd.R_drewN | apply Kd.R_drew)); exact Kd.R_mono HO_6.out (fun _ hk => hk.1.1)⟩, ⟨by (with_reducible repeat (first | apply Kd.R_alloc | apply Kd.R_drewN | apply Kd.R_drew)); exact Kd.R_mono HO_189000.out (fun _ hk => hk.1.1)⟩, ⟨by exact BK181.out⟩, ⟨by exact BK182.out⟩, ⟨by exact BK183.out⟩, ⟨by exact BK184.out⟩, ⟨by exact BK188.out⟩, ⟨by repeat (with_reducible first | exact HB.out | apply bA_ | apply bN_ | apply bD_ | refine bS_ ?_ GE181.out | refine bS_ ?_ GE182.out | refine bS_ ?_ GE183.out | refine bS_ ?_ GE184.out | refine bS_ ?_ GE188.out)⟩⟩
           ·rw [if_neg c36] at H
            have c36b0 : decide (1 < (wrap64 (x10_2 - x9_2))) = false := decide_eq_false c36
            clear c36
            by_cases c53 : 0 ≤ x8_1
            ·rw [if_pos c53] at H
             have c53b0 : decide (0 ≤ x8_1) = true := decide_eq_true c53
             clear c53
             by_cases c54 : x8_1 < (x6_1.length : Int)
             ·rw [if_pos c54] at H
              have c54b0 : decide (x8_1 < (x6_1.length : Int)) = true := decide_eq_true c54
              clear c54
              obtain ⟨y202, hy202⟩ : ∃ y_ : List Int, y_ = (x6_1.set (x8_1 : Int).toNat x9_2) := ⟨_, rfl⟩
              replace H : ((demurrageref01_From.f k2 x9_2).bind fun t203 => ((demurrageref01_Prod.f k2 l1_0 t203).bind fun t206 => ((demurrageref01_Less.f k2 t199 t206).bind fun t209 => (demurrageref01_Quot.l0 k2 y202 (wrap64 (x8_1 - 1)) l0_0 l1_0 t209)))) = some (r1, r2) := by first | (rw [hy202]; with_reducible exact H) | (have H2_ := (Option.bind_some _ _).symm.trans H; rw [hy202]; with_reducible exact H2_) | (have H2_ := (Option.bind_some _ _).symm.trans H; with_reducible exact H2_) | with_reducible exact H | (rw [hy202]; exact H) | exact H
              have Ny202 := aA_ hy202
              clear hy202
              replace H := bI_ H
              obtain ⟨t203, A560, H⟩ := H
              (try dsimp only at H)
              have A56 := aA_ A560
              clear A560
              replace H := bI_ H
              obtain ⟨t206, A570, H⟩ := H
              (try dsimp only at H)
              have A57 := aA_ A570
              clear A570
              replace H := bI_ H
              obtain ⟨t209, A580, H⟩ := H
              (try dsimp only at H)
              have A58 := aA_ A580
              clear A580
              have H' := aA_ H
              clear H
              have p55 : 0 ≤ (x8_1 : Int) := of_decide_eq_true (by first | (with_reducible assumption) | assumption)
              have q55 : (x8_1 : Int) < ((x6_1.length : Int) : Int) := of_decide_eq_true (by first | (with_reducible assumption) | assumption)
              obtain ⟨go55, co55, eo55, gb55, gl55, cl55, HG55⟩ := Kd.R_form HO_6.out (by omega)
              (first | cases eo55 | (injection eo55 with ea_ en_ ec_; (first | subst ea_ | (injection ea_ with ea_; subst ea_)); subst ec_; clear en_))
              have GB55 := aA_ gb55
              have GG55 := aA_ HG55
              clear gb55 gl55 HG55
              obtain ⟨hx55_0, hf55_0⟩ := Kd.R_celln 0 HO_6.out (x8_1 : Int) p55 q55
              replace p55 := eq_true p55
              replace q55 := eq_true q55
              have HP59 := Kd.R_putg HO_6.out (x8_1 : Int) x9_2
              try go_wp2_with (first | ((with_reducible refine gate_store (t := 3) (p := 55) rfl ?_); refine store_event (t := 3) (p := 55) (v := ?vo_w60) (w1 := (wr.setCell ⟨go55, (x8_1 : Int).toNat, none⟩ (.int .i64 x9_2))) ?hg ?ho ?hn ?hr ?_; (case ho => rfl); (case hg => rfl); (case hn => rfl); (case hr => go_simp <;> rfl); intro w60 hw; have hg : wr.grownBy w60 (some go55) := (by rw [hw]; exact HP59.2); have hp_ : Kd.R (Kd.int .i64) 3 w60 w.heap.size (fun k_ => some k_ ≠ (.slice Ao34 t199.length co34 : Value).ownBlock) (.slice (some ⟨go55, 0, none⟩) x6_1.length co55) y202 := (by rw [hw, Ny202.out]; exact HP59.1); clear HP59; replace HO_189000 := aA_ (Kd.R_after (v := (.slice (some ⟨go55, 0, none⟩) x6_1.length co55)) (v1 := (.slice (some ⟨go55, 0, none⟩) x6_1.length co55)) (ok := (fun _ => True)) (by (with_reducible repeat (first | apply Kd.R_alloc | apply Kd.R_drewN | apply Kd.R_drew)); exact Kd.R_mono HO_189000.out (fun _ hk => (And.intro (trivial) (hk)))) hg (.inl rfl)); replace BK181 := aA_ (blk_grown (g := gb181) (o := .cells #[.slice (some ad192) l0_0.length c0_0] 56 (0, 0)) BK181.out hg (Kd.R_ne HO_6.out BK181.out (by decide))); replace BK182 := aA_ (blk_grown (g := gb182) (o := .cells #[.slice A1_0 l1_0.length c1_0] 56 (0, 0)) BK182.out hg (Kd.R_ne HO_6.out BK182.out (by decide))); replace BK183 := aA_ (blk_grown (g := gb183) (o := .cells #[.slice none 0 0] 56 (0, 0)) BK183.out hg (Kd.R_ne HO_6.out BK183.out (by decide))); replace BK184 := aA_ (blk_grown (g := gb184) (o := .cells #[.slice none 0 0] 56 (0, 0)) BK184.out hg (Kd.R_ne HO_6.out BK184.out (by decide))); replace BK188 := aA_ (blk_grown (g := gb188) (o := .cells #[.slice Ao34 t199.length co34] 56 (0, 0)) BK188.out hg (Kd.R_ne HO_6.out BK188.out (by decide))); replace HO_6 := aA_ (hp_); replace HB := aA_ ((by rw [hw]; exact below_set (HB.out) GB55.out : Below w.heap.size w w60)); clear hg hw hp_))
              replace HO_6 := aA_ (Kd.R_drew HO_6.out)
              replace HO_189000 := aA_ (Kd.R_drew HO_189000.out)
              replace BK181 := aA_ (blk_drew BK181.out)
              replace BK182 := aA_ (blk_drew BK182.out)
              replace BK183 := aA_ (blk_drew BK183.out)
              replace BK184 := aA_ (blk_drew BK184.out)
              replace BK188 := aA_ (blk_drew BK188.out)
              replace HB := aA_ (below_drew1 HB.out)
              refine start_ (n := 7) (S := fun w' => w'.cell? ⟨gb188, 0, none⟩ = some (.slice Ao34 t199.length co34) ∧ w'.cell? ⟨gb182, 0, none⟩ = some (.slice A1_0 l1_0.length c1_0)) (ds := [6]) (demurrageref01_Quot.ups 7 0) (by kernel_rfl) rfl rfl ⟨(blk_cell BK188.out 0).trans rfl, (blk_cell BK182.out 0).trans rfl⟩ (fun hHeld => ?_)
              generalize w60.drew = w61 at HO_6 HO_189000 BK181 BK182 BK183 BK184 BK188 HB hHeld ⊢
              refine pure_ (i := 2) (N := some 58) (v := ?_) (a' := ?_) (demurrageref01_Quot.ups 7 4) rfl rfl (by kernel_rfl) (fun _ _ _ h => h) (Or.inl ⟨by rfl, ?_⟩) ?_ ?_
              rotate_left
              ·intro w'
               go_simp
               with_reducible rfl
              rotate_left
              ·simp only [Act.put, sT_, sZ_, sS_, i64_w, i32_w]
               rfl
              refine take_ (i := 0) (N := some 56) (v := ?_) (a' := ?_) (demurrageref01_Quot.ups 7 5) rfl rfl (by kernel_rfl) (fun _ _ _ h => h) (Or.inl ⟨by rfl, ?_⟩) hHeld ?_ ?_
              rotate_left
              ·rintro w' ⟨s0, s1⟩
               go_simp
               with_reducible rfl
              rotate_left
              ·simp only [Act.put, sT_, sZ_, sS_, i64_w, i32_w]
               rfl
              refine take_ (i := 1) (N := some 57) (v := ?_) (a' := ?_) (demurrageref01_Quot.ups 7 7) rfl rfl (by kernel_rfl) (fun _ _ _ h => h) (Or.inl ⟨by rfl, ?_⟩) hHeld ?_ ?_
              rotate_left
              ·rintro w' ⟨s0, s1⟩
               go_simp
               with_reducible rfl
              rotate_left
              ·simp only [Act.put, sT_, sZ_, sS_, i64_w, i32_w]
               rfl
              refine one_ (i := 3) (N := some 59) (demurrageref01_Quot.ups 7 15) rfl rfl (by kernel_rfl) (by decide) (fun K hK => ?_)
              refine goes_ Tryd.func37 (by kernel_rfl) rfl #[.int .i64 x9_2] (by rfl) rfl rfl (by (try simp only [mT_, mC_, mN_]); first | done | rfl) ?_
              with_reducible refine (demurrageref01_From.calls k2 x9_2 t203 _ A56.out).mono ?_
              rintro e w62 ⟨v204, rfl, ho0, hb⟩
              refine ⟨_, rfl, ?_⟩
              have HO205 := aA_ (Kd.R_lower (Kd.R_new' (Kd.R_new' ho0 (Kd.R_lt HO_6.out)) (Kd.R_lt HO_189000.out)) (below_size (by repeat (with_reducible first | exact HB.out | apply bA_ | apply bN_ | apply bD_ | refine bS_ ?_ GE181.out | refine bS_ ?_ GE182.out | refine bS_ ?_ GE183.out | refine bS_ ?_ GE184.out | refine bS_ ?_ GE188.out))))
              replace HO_6 := aA_ (Kd.R_elder' HO_6.out (Kd.R_base ho0) hb)
              replace HO_189000 := aA_ (Kd.R_elder' HO_189000.out (Kd.R_base ho0) hb)
              replace BK181 := bK_ BK181 hb
              replace BK182 := bK_ BK182 hb
              replace BK183 := bK_ BK183 hb
              replace BK184 := bK_ BK184 hb
              replace BK188 := bK_ BK188 hb
              replace HB := bB_ (by repeat (with_reducible first | exact HB.out | apply bA_ | apply bN_ | apply bD_ | refine bS_ ?_ GE181.out | refine bS_ ?_ GE182.out | refine bS_ ?_ GE183.out | refine bS_ ?_ GE184.out | refine bS_ ?_ GE188.out)) hb
              (try clear hb)
              (try clear hb2)
              (try clear hk)
              (try clear hi)
              (try clear ho0)
              obtain ⟨Ao63, co63, eo63⟩ := Kd.R_slice HO205.out
              (first | subst eo63 | (injection eo63 with f1_ f2_ f3_; have f4_ := f1_.symm; have f5_ := f3_.symm; clear f1_ f2_ f3_; subst f4_; subst f5_))
              refine hK.out _ _ ⟨(blk_cell BK188.out 0).trans rfl, (blk_cell BK182.out 0).trans rfl⟩ (fun hHeld => ?_)
              clear hK K
              refine norm_ (by show Act.put _ (some 59) _ = _; simp only [Act.put, sT_, sZ_, sS_, i64_w, i32_w] <;> rfl) ?_
              refine one_ (i := 4) (N := some 60) (demurrageref01_Quot.ups 7 31) rfl rfl (by kernel_rfl) (by decide) (fun K hK => ?_)
              refine goes_ Tryd.func35 (by kernel_rfl) rfl #[.agg #[.slice A1_0 l1_0.length c1_0], .agg #[.slice Ao63 t203.length co63]] (by rfl) rfl rfl (by (try simp only [mT_, mC_, mN_]); first | done | rfl) ?_
              with_reducible refine (demurrageref01_Prod.calls k2 _ _ l1_0 _ _ t203 t206 _ ?side1 ?side2 ?side3 ?side4 A57.out).mono ?_
              (case side1 => repeat (first | exact (Kd.C_below HR1_0.out HB.out) | (with_reducible first | refine Kd.C_alloc ?_ _ | refine Kd.C_drewN ?_ _ | refine Kd.C_drew ?_)))
              (case side2 => exact HC1_0.out)
              (case side3 => repeat (first | exact (Kd.R_reads' HO205.out).2.2 | (with_reducible first | refine Kd.C_alloc ?_ _ | refine Kd.C_drewN ?_ _ | refine Kd.C_drew ?_)))
              (case side4 => exact (Kd.R_reads' HO205.out).2.1)
              rintro e w64 ⟨v207, rfl, ho0, hb⟩
              refine ⟨_, rfl, ?_⟩
              have HO208 := aA_ (Kd.R_lower (Kd.R_new' (Kd.R_new' (Kd.R_new' ho0 (Kd.R_lt HO_6.out)) (Kd.R_lt HO_189000.out)) (Kd.R_lt HO205.out)) (below_size (by repeat (with_reducible first | exact HB.out | apply bA_ | apply bN_ | apply bD_ | refine bS_ ?_ GE181.out | refine bS_ ?_ GE182.out | refine bS_ ?_ GE183.out | refine bS_ ?_ GE184.out | refine bS_ ?_ GE188.out))))
              replace HO_6 := aA_ (Kd.R_elder' HO_6.out (Kd.R_base ho0) hb)
              replace HO_189000 := aA_ (Kd.R_elder' HO_189000.out (Kd.R_base ho0) hb)
              replace HO205 := aA_ (Kd.R_elder' HO205.out (Kd.R_base ho0) hb)
              replace BK181 := bK_ BK181 hb
              replace BK182 := bK_ BK182 hb
              replace BK183 := bK_ BK183 hb
              replace BK184 := bK_ BK184 hb
              replace BK188 := bK_ BK188 hb
              replace HB := bB_ (by repeat (with_reducible first | exact HB.out | apply bA_ | apply bN_ | apply bD_ | refine bS_ ?_ GE181.out | refine bS_ ?_ GE182.out | refine bS_ ?_ GE183.out | refine bS_ ?_ GE184.out | refine bS_ ?_ GE188.out)) hb
              (try clear hb)
              (try clear hb2)
              (try clear hk)
              (try clear hi)
              (try clear ho0)
              obtain ⟨Ao65, co65, eo65⟩ := Kd.R_slice HO208.out
              (first | subst eo65 | (injection eo65 with f1_ f2_ f3_; have f4_ := f1_.symm; have f5_ := f3_.symm; clear f1_ f2_ f3_; subst f4_; subst f5_))
              refine hK.out _ _ ⟨(blk_cell BK188.out 0).trans rfl, (blk_cell BK182.out 0).trans rfl⟩ (fun hHeld => ?_)
              clear hK K
              refine norm_ (by show Act.put _ (some 60) _ = _; simp only [Act.put, sT_, sZ_, sS_, i64_w, i32_w] <;> rfl) ?_
              refine one_ (i := 5) (N := some 61) (demurrageref01_Quot.ups 7 63) rfl rfl (by kernel_rfl) (by decide) (fun K hK => ?_)
              refine goes_ Tryd.func68 (by kernel_rfl) rfl #[.agg #[.slice Ao34 t199.length co34], .agg #[.slice Ao65 t206.length co65]] (by rfl) rfl rfl (by (try simp only [mT_, mC_, mN_]); first | done | rfl) ?_
              with_reducible refine (demurrageref01_Less.calls k2 _ _ t199 _ _ t206 t209 _ ?side1 ?side2 ?side3 ?side4 A58.out).mono ?_
              (case side1 => repeat (first | exact (Kd.R_reads' HO_189000.out).2.2 | (with_reducible first | refine Kd.C_alloc ?_ _ | refine Kd.C_drewN ?_ _ | refine Kd.C_drew ?_)))
              (case side2 => exact (Kd.R_reads' HO_189000.out).2.1)
              (case side3 => repeat (first | exact (Kd.R_reads' HO208.out).2.2 | (with_reducible first | refine Kd.C_alloc ?_ _ | refine Kd.C_drewN ?_ _ | refine Kd.C_drew ?_)))
              (case side4 => exact (Kd.R_reads' HO208.out).2.1)
              rintro e w66 ⟨v210, rfl, ho0, hb⟩
              refine ⟨_, rfl, ?_⟩
              have HO211 := aA_ (Kd.R_lower (Kd.R_new' (Kd.R_new' (Kd.R_new' (Kd.R_new' ho0 (Kd.R_lt HO_6.out)) (Kd.R_lt HO_189000.out)) (Kd.R_lt HO205.out)) (Kd.R_lt HO208.out)) (below_size (by repeat (with_reducible first | exact HB.out | apply bA_ | apply bN_ | apply bD_ | refine bS_ ?_ GE181.out | refine bS_ ?_ GE182.out | refine bS_ ?_ GE183.out | refine bS_ ?_ GE184.out | refine bS_ ?_ GE188.out))))
              replace HO_6 := aA_ (Kd.R_elder' HO_6.out (Kd.R_base ho0) hb)
              replace HO_189000 := aA_ (Kd.R_elder' HO_189000.out (Kd.R_base ho0) hb)
              replace HO205 := aA_ (Kd.R_elder' HO205.out (Kd.R_base ho0) hb)
              replace HO208 := aA_ (Kd.R_elder' HO208.out (Kd.R_base ho0) hb)
              replace BK181 := bK_ BK181 hb
              replace BK182 := bK_ BK182 hb
              replace BK183 := bK_ BK183 hb
              replace BK184 := bK_ BK184 hb
              replace BK188 := bK_ BK188 hb
              replace HB := bB_ (by repeat (with_reducible first | exact HB.out | apply bA_ | apply bN_ | apply bD_ | refine bS_ ?_ GE181.out | refine bS_ ?_ GE182.out | refine bS_ ?_ GE183.out | refine bS_ ?_ GE184.out | refine bS_ ?_ GE188.out)) hb
              (try clear hb)
              (try clear hb2)
              (try clear hk)
              (try clear hi)
              (try clear ho0)
              obtain ⟨Ao67, co67, eo67⟩ := Kd.R_slice HO211.out
              (first | subst eo67 | (injection eo67 with f1_ f2_ f3_; have f4_ := f1_.symm; have f5_ := f3_.symm; clear f1_ f2_ f3_; subst f4_; subst f5_))
              refine hK.out _ _ ⟨(blk_cell BK188.out 0).trans rfl, (blk_cell BK182.out 0).trans rfl⟩ (fun hHeld => ?_)
              clear hK K
              refine norm_ (by show Act.put _ (some 61) _ = _; simp only [Act.put, sT_, sZ_, sS_, i64_w, i32_w] <;> rfl) ?_
              refine last_ (i := 6) (N := none) (demurrageref01_Quot.ups 7 127) rfl rfl (by kernel_rfl) (by decide) (fun K hK => ?_)
              have hs68 : w66.cell? ⟨gb188, 0, none⟩ = some (.slice Ao34 t199.length co34) := (blk_cell BK188.out 0).trans rfl
              have hfs68 := blk_frozen BK188.out 0
              have hns68_0 := NB181_188.out
              have hns68_1 := NB182_188.out
              have hns68_2 := NB183_188.out
              have hns68_3 := NB184_188.out
              have hms68_0 := NB188_181.out
              have hms68_1 := NB188_182.out
              have hms68_2 := NB188_183.out
              have hms68_3 := NB188_184.out
              refine skip_ (w1 := ?_) (by rfl) rfl ?_ ?_
              rotate_left
              ·go_simp
               rfl
              refine hK.out _ _ ?_
              clear hK K
              refine done_ (by kernel_rfl) ?_
              try go_wp2
              go_roundg k2
              case measure => have := HK1.out; have := HK2.out; omega
              case rel => exact ⟨(y202), (wrap64 (x8_1 - 1)), (t209), (.slice Ao67 t209.length co67), (by first | rfl | (simp; done) | (simp [*]; done)), H', ⟨by have := HK1.out; have := HK2.out; omega⟩, ⟨by (with_reducible repeat (first | apply Kd.R_alloc | apply Kd.R_drewN | apply Kd.R_drew)); exact Kd.R_mono (Kd.R_far (p := ⟨gb188, 0, none⟩) (Kd.R_types HO_6.out BK188.out (by decide)) (fun _ hk => hk.2) (.slice Ao67 t209.length co67)) (fun _ hk => hk.1.2)⟩, ⟨by (with_reducible repeat (first | apply Kd.R_alloc | apply Kd.R_drewN | apply Kd.R_drew)); exact Kd.R_mono (Kd.R_far (p := ⟨gb188, 0, none⟩) (Kd.R_types HO211.out BK188.out (by decide)) (fun _ hk => hk.2) (.slice Ao67 t209.length co67)) (fun _ hk => hk.1.1.1.1.2)⟩, ⟨by refine blk_far ?_ NB181_188.out _; exact BK181.out⟩, ⟨by refine blk_far ?_ NB182_188.out _; exact BK182.out⟩, ⟨by refine blk_far ?_ NB183_188.out _; exact BK183.out⟩, ⟨by refine blk_far ?_ NB184_188.out _; exact BK184.out⟩, ⟨by refine blk_put (cs := #[.slice Ao34 t199.length co34]) ?_ 0 _ rfl; exact BK188.out⟩, ⟨by repeat (with_reducible first | exact HB.out | apply bA_ | apply bN_ | apply bD_ | refine bS_ ?_ GE181.out | refine bS_ ?_ GE182.out | refine bS_ ?_ GE183.out | refine bS_ ?_ GE184.out | refine bS_ ?_ GE188.out)⟩⟩
             ·rw [if_neg c54] at H
              exact absurd H (by simp)
            ·rw [if_neg c53] at H
             exact absurd H (by simp)
        ·rw [if_neg c25] at H
         exact absurd H (by simp)
       ·rw [if_neg c24] at H
        exact absurd H (by simp)
      ·rw [if_neg c23] at H
       exact absurd H (by simp)
     ·rw [if_neg c22] at H
      have c22b0 : decide (0 ≤ x8_1) = false := decide_eq_false c22
      clear c22
      replace H := bI_ H
      obtain ⟨t189, A690, H⟩ := H
      (try dsimp only at H)
      have A69 := aA_ A690
      clear A690
      simp only [Option.some.injEq, Prod.mk.injEq] at H
      obtain ⟨rfl, rfl⟩ := H
      try go_wp2
      replace HO_6 := aA_ (Kd.R_drew HO_6.out)
      replace HO_189000 := aA_ (Kd.R_drew HO_189000.out)
      replace BK181 := aA_ (blk_drew BK181.out)
      replace BK182 := aA_ (blk_drew BK182.out)
      replace BK183 := aA_ (blk_drew BK183.out)
      replace BK184 := aA_ (blk_drew BK184.out)
      replace BK188 := aA_ (blk_drew BK188.out)
      replace HB := aA_ (below_drew1 HB.out)
      obtain ⟨Ao71, co71, eo71⟩ := Kd.R_slice HO_6.out
      (first | subst eo71 | (injection eo71 with f1_ f2_ f3_; have f4_ := f1_.symm; have f5_ := f3_.symm; clear f1_ f2_ f3_; subst f4_; subst f5_))
      refine start_ (n := 5) (S := fun w' => w'.cell? ⟨gb188, 0, none⟩ = some (u189000)) (ds := []) #[false, false, false, false, false] (by kernel_rfl) rfl rfl ((blk_cell BK188.out 0).trans rfl) (fun hHeld => ?_)
      generalize wr.drew = w70 at HO_6 HO_189000 BK181 BK182 BK183 BK184 BK188 HB hHeld ⊢
      refine pure_ (i := 0) (N := some 62) (v := ?_) (a' := ?_) #[true, false, false, false, false] rfl rfl (by kernel_rfl) (fun _ _ _ h => h) (Or.inl ⟨by rfl, ?_⟩) ?_ ?_
      rotate_left
      ·intro w'
       go_simp
       with_reducible rfl
      rotate_left
      ·simp only [Act.put, sT_, sZ_, sS_, i64_w, i32_w]
       rfl
      refine take_ (i := 2) (N := some 64) (v := ?_) (a' := ?_) #[true, false, true, false, false] rfl rfl (by kernel_rfl) (fun _ _ _ h => h) (Or.inl ⟨by rfl, ?_⟩) hHeld ?_ ?_
      rotate_left
      ·intro w' s0
       go_simp
       with_reducible rfl
      rotate_left
      ·simp only [Act.put, sT_, sZ_, sS_, i64_w, i32_w]
       rfl
      refine one_ (i := 1) (N := some 63) #[true, true, true, false, false] rfl rfl (by kernel_rfl) (by decide) (fun K hK => ?_)
      refine goes_ Tryd.func57 (by kernel_rfl) rfl #[.slice Ao71 x6_1.length co71] (by rfl) rfl rfl (by (try simp only [mT_, mC_, mN_]); first | done | rfl) ?_
      with_reducible refine (demurrageref01_trim.calls _ _ x6_1 t189 _ ?side1 ?side2 A69.out).mono ?_
      (case side1 => repeat (first | exact (Kd.R_reads' HO_6.out).2.2 | (with_reducible first | refine Kd.C_alloc ?_ _ | refine Kd.C_drewN ?_ _ | refine Kd.C_drew ?_)))
      (case side2 => exact (Kd.R_reads' HO_6.out).2.1)
      rintro e w72 ⟨v190, rfl, ho0, hb⟩
      refine ⟨_, rfl, ?_⟩
      have HO191 := aA_ (Kd.R_lower (Kd.R_new' (Kd.R_new' ho0 (Kd.R_lt HO_6.out)) (Kd.R_lt HO_189000.out)) (below_size (by repeat (with_reducible first | exact HB.out | apply bA_ | apply bN_ | apply bD_ | refine bS_ ?_ GE181.out | refine bS_ ?_ GE182.out | refine bS_ ?_ GE183.out | refine bS_ ?_ GE184.out | refine bS_ ?_ GE188.out))))
      replace HO_6 := aA_ (Kd.R_elder' HO_6.out (Kd.R_base ho0) hb)
      replace HO_189000 := aA_ (Kd.R_elder' HO_189000.out (Kd.R_base ho0) hb)
      replace BK181 := bK_ BK181 hb
      replace BK182 := bK_ BK182 hb
      replace BK183 := bK_ BK183 hb
      replace BK184 := bK_ BK184 hb
      replace BK188 := bK_ BK188 hb
      replace HB := bB_ (by repeat (with_reducible first | exact HB.out | apply bA_ | apply bN_ | apply bD_ | refine bS_ ?_ GE181.out | refine bS_ ?_ GE182.out | refine bS_ ?_ GE183.out | refine bS_ ?_ GE184.out | refine bS_ ?_ GE188.out)) hb
      (try clear hb)
      (try clear hb2)
      (try clear hk)
      (try clear hi)
      (try clear ho0)
      obtain ⟨Ao73, co73, eo73⟩ := Kd.R_slice HO191.out
      (first | subst eo73 | (injection eo73 with f1_ f2_ f3_; have f4_ := f1_.symm; have f5_ := f3_.symm; clear f1_ f2_ f3_; subst f4_; subst f5_))
      obtain ⟨Ao75, co75, eo75⟩ := Kd.R_slice HO_189000.out
      (first | subst eo75 | (injection eo75 with f1_ f2_ f3_; have f4_ := f1_.symm; have f5_ := f3_.symm; clear f1_ f2_ f3_; subst f4_; subst f5_))
      refine hK.out _ _ ((blk_cell BK188.out 0).trans rfl) (fun hHeld => ?_)
      clear hK K
      refine norm_ (by show Act.put _ (some 63) _ = _; simp only [Act.put, sT_, sZ_, sS_, i64_w, i32_w] <;> rfl) ?_
      refine one_ (i := 3) (N := none) #[true, true, true, true, false] rfl rfl (by kernel_rfl) (by decide) (fun K hK => ?_)
      have hs74 : w72.cell? ⟨gb183, 0, none⟩ = some (.slice none 0 0) := (blk_cell BK183.out 0).trans rfl
      have hfs74 := blk_frozen BK183.out 0
      have hns74_0 := NB181_183.out
      have hns74_1 := NB182_183.out
      have hns74_3 := NB184_183.out
      have hns74_4 := NB188_183.out
      have hms74_0 := NB183_181.out
      have hms74_1 := NB183_182.out
      have hms74_3 := NB183_184.out
      have hms74_4 := NB183_188.out
      refine skip_ (w1 := ?_) (by rfl) rfl ?_ ?_
      rotate_left
      ·go_simp
       rfl
      refine hK.out _ _ (((cell_far (p := ⟨gb183, _, none⟩) NB188_183.out _).trans (hHeld))) (fun hHeld => ?_)
      clear hK K
      refine one_ (i := 4) (N := none) #[true, true, true, true, true] rfl rfl (by kernel_rfl) (by decide) (fun K hK => ?_)
      have hs76 : w72.cell? ⟨gb184, 0, none⟩ = some (.slice none 0 0) := (blk_cell BK184.out 0).trans rfl
      have hfs76 := blk_frozen BK184.out 0
      have hns76_0 := NB181_184.out
      have hns76_1 := NB182_184.out
      have hns76_2 := NB183_184.out
      have hns76_4 := NB188_184.out
      have hms76_0 := NB184_181.out
      have hms76_1 := NB184_182.out
      have hms76_2 := NB184_183.out
      have hms76_4 := NB184_188.out
      refine skip_ (w1 := ?_) (by rfl) rfl ?_ ?_
      rotate_left
      ·go_simp
       rfl
      refine hK.out _ _ (((cell_far (p := ⟨gb184, _, none⟩) NB188_184.out _).trans (hHeld))) (fun hHeld => ?_)
      clear hK K
      refine done_ (by kernel_rfl) ?_
      try go_wp2
      refine bodyPost_ret (results_cc rfl _ _ gb183 gb184 56 56 #[.slice Ao73 t189.length co73] #[.slice Ao75 x189000_1.length co75] (0, 0) (0, 0) _ _ rfl (by refine blk_far ?_ NB183_184.out _; refine blk_put (cs := #[.slice none 0 0]) ?_ 0 _ rfl; exact BK183.out) Tryd.underlying56 rfl (by kernel_rfl) rfl (by refine blk_put (cs := #[.slice none 0 0]) ?_ 0 _ rfl; refine blk_far ?_ NB184_183.out _; exact BK184.out) Tryd.underlying56 rfl (by kernel_rfl)) rfl ?_
      exact ⟨_, _, by rfl, by (with_reducible repeat (first | apply Kd.R_alloc | apply Kd.R_drewN | apply Kd.R_drew)); exact Kd.R_mono (Kd.R_far (p := ⟨gb184, 0, none⟩) (Kd.R_far (p := ⟨gb183, 0, none⟩) (Kd.R_types (Kd.R_types HO191.out BK183.out (by decide)) BK184.out (by decide)) (fun _ hk => hk.1.2) (.slice Ao73 t189.length co73)) (fun _ hk => hk.2) (.slice Ao75 x189000_1.length co75)) (fun _ hk => hk.1.1.2), by (with_reducible repeat (first | apply Kd.R_alloc | apply Kd.R_drewN | apply Kd.R_drew)); exact Kd.R_mono (Kd.R_far (p := ⟨gb184, 0, none⟩) (Kd.R_far (p := ⟨gb183, 0, none⟩) (Kd.R_types (Kd.R_types HO_189000.out BK183.out (by decide)) BK184.out (by decide)) (fun _ hk => hk.1.2) (.slice Ao73 t189.length co73)) (fun _ hk => hk.2) (.slice Ao75 x189000_1.length co75)) (fun _ hk => hk.1.1.2), by repeat (with_reducible first | exact HB.out | apply bA_ | apply bN_ | apply bD_ | refine bS_ ?_ GE181.out | refine bS_ ?_ GE182.out | refine bS_ ?_ GE183.out | refine bS_ ?_ GE184.out | refine bS_ ?_ GE188.out)⟩
  ·rw [if_neg c4] at H
   exact absurd H (by simp)
 ·rw [if_neg c3] at H
  exact absurd H (by simp)

end Go.Proofs.YtbapgkopilmdfaaDoor.X
