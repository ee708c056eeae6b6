-- cut by prune.py, a program of this session
import Derived.Test.YteikafepdkijdaaPLevelTableX0
import Derived.Test.YteikafepdkijdaaPLevelTableXBig
import Derived.Test.YteikafepdkijdaaPLevelTableHTrim
namespace Go.Proofs.Yteikafepdkijdaa.X
open Go.RowKit Go.Proofs.YteikafepdkijdaaW.PrintWords Go.Proofs.YteikafepdkijdaaW.PrintLast Go.Proofs.YteikafepdkijdaaW.PrintMore
attribute [local go_sem] max2_int min2_int max_two min_two
set_option linter.unusedVariables false
set_option linter.unusedSimpArgs false

def demurrageref01_Quot.upsl : Nat → Nat → List Bool
 | 0, _ => []
 | n + 1, m => (m % 2 == 1) :: demurrageref01_Quot.upsl n (m / 2)
def demurrageref01_Quot.ups (n m : Nat) : Array Bool := ⟨demurrageref01_Quot.upsl n m⟩
def demurrageref01_From.f (k : Nat) (a0 : Int) : Option (List Int) := (demurrageref01_FromU.f k (IntKind.u64.wrap (a0))).bind fun t196 => (some t196)
set_option maxHeartbeats 8000000 in
set_option maxRecDepth 100000 in
theorem demurrageref01_From.calls (k : Nat) (a0 : Int) (r : List Int) (w : World) (h : demurrageref01_From.f k a0 = some r) :
  Calls Try.prog 49 #[.int .i64 a0] w fun e w' => ∃ v0_ : Value, e = .returned (.agg #[v0_]) ∧ Kd.R (Kd.int .i64) 3 w' w.heap.size (fun _ => True) v0_ r ∧ Below w.heap.size w w' := by
 have hu98 := Try.underlying98
 have HB := aA_ (Below.refl w.heap.size w)
 have H : ((demurrageref01_FromU.f k (IntKind.u64.wrap (a0))).bind fun t196 => (some t196)) = some r := h
 clear h
 replace H := bI_ H
 obtain ⟨t196, A20, H⟩ := H
 (try dsimp only at H)
 have A2 := aA_ A20
 clear A20
 obtain rfl := Option.some.inj H
 go_enter Try.func49, Try.ntmps49
 go_wp2_with (first | (refine box_event rfl (N := 2) rfl (cs := #[.slice none 0 0]) (t := 98) ?hr ?_; (case hr => go_simp <;> rfl); intro gb195 hg w3 hbox hb; have BK195 := aA_ (hbox); have GW195 := gW_ hg (by repeat (with_reducible first | exact HB.out | apply bA_ | apply bN_ | apply bD_)); have GE195 := GW195; replace HB := bB_ (by repeat (with_reducible first | exact HB.out | apply bA_ | apply bN_ | apply bD_)) hb; clear hb hbox hg) | (refine goesL_ (some 5) rfl rfl Try.func60 (by kernel_rfl) rfl #[.int .u64 (IntKind.u64.wrap (a0))] rfl (by (try simp only [mT_, mC_, mN_]); first | done | rfl) ?_; (with_reducible refine (demurrageref01_FromU.calls k (IntKind.u64.wrap (a0)) t196 _ A2.out).mono ?_); rintro e w4 ⟨v197, rfl, ho0, hb⟩; refine ⟨_, rfl, ?_⟩; have HO198 := aA_ (Kd.R_lower ho0 (below_size (by repeat (with_reducible first | exact HB.out | apply bA_ | apply bN_ | apply bD_ | refine bS_ ?_ GE195.out)))); replace BK195 := bK_ BK195 hb; replace HB := bB_ (by repeat (with_reducible first | exact HB.out | apply bA_ | apply bN_ | apply bD_ | refine bS_ ?_ GE195.out)) hb; (try clear hb); (try clear ho0); obtain ⟨Ao5, co5, eo5⟩ := Kd.R_slice HO198.out; subst eo5; have hcz6_0 : w4.cell? ⟨gb195, 0, none⟩ = some (.slice none 0 0) := (blk_cell BK195.out 0).trans rfl; have hfz6_0 := blk_frozen BK195.out 0))
 refine bodyPost_ret (results_cell_row rfl _ _ gb195 98 #[.slice Ao5 t196.length co5] (0, 0) _ rfl (by refine blk_put (cs := #[.slice none 0 0]) ?_ 0 _ rfl; exact BK195.out) Try.underlying98 rfl (by kernel_rfl)) rfl ?_
 exact ⟨_, by rfl, by (with_reducible repeat (first | apply Kd.R_alloc | apply Kd.R_drewN | apply Kd.R_drew)); exact Kd.R_mono (Kd.R_far (p := ⟨gb195, 0, none⟩) (Kd.R_types HO198.out BK195.out (by decide)) (fun _ hk => hk.2) (.slice Ao5 t196.length co5)) (fun _ hk => trivial), by repeat (with_reducible first | exact HB.out | apply bA_ | apply bN_ | apply bD_ | refine bS_ ?_ GE195.out)⟩

mutual
def demurrageref01_Quot.l0 : Nat → List Int → Int → List Int → List Int → List Int → Option (List Int × List Int)
 | 0, _, _, _, _, _ => none
 | k + 1, x6, x8, x265000, x266000, x272000 => if x8 ≥ 0 then (if 0 ≤ x8 then (if x8 < (x265000.length : Int) then ((some (([rd x265000 x8] : List Int) : List Int)).bind fun y276 => (if y276.length + x272000.length < 17592186044416 then ((demurrageref01_trim.f (y276 ++ x272000)).bind fun t282 => (demurrageref01_Quot.l1 k x6 x8 0 10000 x265000 x266000 t282)) else (none))) else (none)) else (none)) else ((demurrageref01_trim.f x6).bind fun t272 => (some (t272, x272000)))
def demurrageref01_Quot.l1 : Nat → List Int → Int → Int → Int → List Int → List Int → List Int → Option (List Int × List Int)
 | 0, _, _, _, _, _, _, _ => none
 | k + 1, x6, x8, x9, x10, x265000, x266000, x272000 => if (wrap64 (x10 - x9)) > 1 then ((demurrageref01_From.f k (wrap64 (Int.tdiv (wrap64 (x9 + x10)) 2))).bind fun t295 => ((demurrageref01_Prod.f k x266000 t295).bind fun t298 => ((demurrageref01_Cmp.f k t298 x272000).bind fun t301 => (if t301 ≤ 0 then (demurrageref01_Quot.l1 k x6 x8 (wrap64 (Int.tdiv (wrap64 (x9 + x10)) 2)) x10 x265000 x266000 x272000) else (demurrageref01_Quot.l1 k x6 x8 x9 (wrap64 (Int.tdiv (wrap64 (x9 + x10)) 2)) x265000 x266000 x272000))))) else (if 0 ≤ x8 then (if x8 < (x6.length : Int) then ((demurrageref01_From.f k x9).bind fun t286 => ((demurrageref01_Prod.f k x266000 t286).bind fun t289 => ((demurrageref01_Less.f k x272000 t289).bind fun t292 => (demurrageref01_Quot.l0 k (x6.set (x8 : Int).toNat x9) (wrap64 (x8 - 1)) x265000 x266000 t292)))) else (none)) else (none))
end
def demurrageref01_Quot.f (k : Nat) (l0_0 : List Int) (l1_0 : List Int) : Option (List Int × List Int) := if 0 ≤ (l0_0.length : Int) then (if ((l0_0.length : Int) : Int).toNat ≤ 35184372088832 then (demurrageref01_Quot.l0 k (List.replicate ((l0_0.length : Int) : Int).toNat 0) (wrap64 ((l0_0.length : Int) - 1)) l0_0 l1_0 ([] : List Int)) else (none)) else (none)
def demurrageref01_Quot.T6 : Bool × List (List Nat × List Nat) := (true, [([], []), ([0], [0]), ([], []), ([1, 2], [1, 2]), ([3], [3]), ([4], [4]), ([], []), ([6], [6]), ([5, 7], [5, 7]), ([8, 8], [8]), ([9, 9, 0, 1, 2, 3, 4, 5, 6, 7, 8, 9], [9])])
def demurrageref01_Quot.B6 : List Nat := [0, 1, 0, 7, 15, 31, 0, 64, 255, 511, 1023]
theorem demurrageref01_Quot.tab6 : rtab .any (opsOf Try.f74 6) = demurrageref01_Quot.T6 := by kernel_rfl
theorem demurrageref01_Quot.bits6 : waitsOk demurrageref01_Quot.T6.2 demurrageref01_Quot.B6 = true := by kernel_rfl
set_option maxHeartbeats 8000000 in
set_option maxRecDepth 100000 in
theorem demurrageref01_Quot.calls (k : Nat) (A0_0 : Option Addr) (c0_0 : Nat) (l0_0 : List Int) (A1_0 : Option Addr) (c1_0 : Nat) (l1_0 : List Int) (r1 : List Int) (r2 : List Int) (w : World) (hr0_0 : Kd.C (Kd.int .i64) w A0_0 l0_0.length l0_0) (hc0_0 : l0_0.length ≤ c0_0) (hr1_0 : Kd.C (Kd.int .i64) w A1_0 l1_0.length l1_0) (hc1_0 : l1_0.length ≤ c1_0) (h : demurrageref01_Quot.f k l0_0 l1_0 = some (r1, r2)) :
  Calls Try.prog 74 #[.agg #[.slice A0_0 l0_0.length c0_0], .agg #[.slice A1_0 l1_0.length c1_0]] w fun e w' => ∃ v0_ v1_ : Value, e = .returned (.tuple #[.agg #[v0_], .agg #[v1_]]) ∧ Kd.R (Kd.int .i64) 3 w' w.heap.size (fun k_ => some k_ ≠ (v1_ : Value).ownBlock) v0_ r1 ∧ Kd.R (Kd.int .i64) 3 w' w.heap.size (fun k_ => some k_ ≠ (v0_ : Value).ownBlock) v1_ r2 ∧ Below w.heap.size w w' := by
 have hu98 := Try.underlying98
 have HR0_0 := aA_ hr0_0
 have HC0_0 := aA_ hc0_0
 clear hr0_0 hc0_0
 have HR1_0 := aA_ hr1_0
 have HC1_0 := aA_ hc1_0
 clear hr1_0 hc1_0
 have HB := aA_ (Below.refl w.heap.size w)
 have H : (if 0 ≤ (l0_0.length : Int) then (if ((l0_0.length : Int) : Int).toNat ≤ 35184372088832 then (demurrageref01_Quot.l0 k (List.replicate ((l0_0.length : Int) : Int).toNat 0) (wrap64 ((l0_0.length : Int) - 1)) l0_0 l1_0 ([] : List Int)) else (none)) else (none)) = some (r1, r2) := h
 clear h
 by_cases c3 : 0 ≤ (l0_0.length : Int)
 ·rw [if_pos c3] at H
  have c3b0 := eq_true c3
  have c3b1 : decide (0 ≤ (l0_0.length : Int)) = true := decide_eq_true c3
  clear c3
  by_cases c4 : ((l0_0.length : Int) : Int).toNat ≤ 35184372088832
  ·rw [if_pos c4] at H
   have c4b0 := eq_true c4
   have c4b1 : decide (((l0_0.length : Int) : Int).toNat ≤ 35184372088832) = true := decide_eq_true c4
   clear c4
   obtain ⟨y268, hy268⟩ : ∃ y_ : List Int, y_ = (List.replicate ((l0_0.length : Int) : Int).toNat 0) := ⟨_, rfl⟩
   replace H : (demurrageref01_Quot.l0 k y268 (wrap64 ((l0_0.length : Int) - 1)) l0_0 l1_0 ([] : List Int)) = some (r1, r2) := by first | (rw [hy268]; with_reducible exact H) | (have H2_ := (Option.bind_some _ _).symm.trans H; rw [hy268]; with_reducible exact H2_) | (have H2_ := (Option.bind_some _ _).symm.trans H; with_reducible exact H2_) | with_reducible exact H | (rw [hy268]; exact H) | exact H
   have Ny268 := aA_ hy268
   clear hy268
   have H' := aA_ H
   clear H
   go_enter Try.func74, Try.ntmps74
   go_wp2_with (first | (refine box_event rfl (N := 2) rfl (cs := #[.slice A0_0 l0_0.length c0_0]) (t := 98) ?hr ?_; (case hr => go_simp <;> rfl); intro gb264 hg w5 hbox hb; have BK264 := aA_ (hbox); have GW264 := gW_ hg (by repeat (with_reducible first | exact HB.out | apply bA_ | apply bN_ | apply bD_)); have GE264 := GW264; replace HB := bB_ (by repeat (with_reducible first | exact HB.out | apply bA_ | apply bN_ | apply bD_)) hb; clear hb hbox hg) | (refine box_event rfl (N := 3) rfl (cs := #[.slice A1_0 l1_0.length c1_0]) (t := 98) ?hr ?_; (case hr => go_simp <;> rfl); intro gb265 hg w6 hbox hb; have BK265 := aA_ (hbox); have GW265 := gW_ hg (by repeat (with_reducible first | exact HB.out | apply bA_ | apply bN_ | apply bD_ | refine bS_ ?_ GE264.out)); have GE265 := GW265; replace HB := bB_ (by repeat (with_reducible first | exact HB.out | apply bA_ | apply bN_ | apply bD_ | refine bS_ ?_ GE264.out)) hb; have NB264_265 := nE_ hg BK264; have NB265_264 := aA_ NB264_265.out.symm; replace BK264 := bK_ BK264 hb; clear hb hbox hg) | (refine box_event rfl (N := 4) rfl (cs := #[.slice none 0 0]) (t := 98) ?hr ?_; (case hr => go_simp <;> rfl); intro gb266 hg w7 hbox hb; have BK266 := aA_ (hbox); have GW266 := gW_ hg (by repeat (with_reducible first | exact HB.out | apply bA_ | apply bN_ | apply bD_ | refine bS_ ?_ GE264.out | refine bS_ ?_ GE265.out)); have GE266 := GW266; replace HB := bB_ (by repeat (with_reducible first | exact HB.out | apply bA_ | apply bN_ | apply bD_ | refine bS_ ?_ GE264.out | refine bS_ ?_ GE265.out)) hb; have NB264_266 := nE_ hg BK264; have NB266_264 := aA_ NB264_266.out.symm; replace BK264 := bK_ BK264 hb; have NB265_266 := nE_ hg BK265; have NB266_265 := aA_ NB265_266.out.symm; replace BK265 := bK_ BK265 hb; clear hb hbox hg) | (refine box_event rfl (N := 5) rfl (cs := #[.slice none 0 0]) (t := 98) ?hr ?_; (case hr => go_simp <;> rfl); intro gb267 hg w8 hbox hb; have BK267 := aA_ (hbox); have GW267 := gW_ hg (by repeat (with_reducible first | exact HB.out | apply bA_ | apply bN_ | apply bD_ | refine bS_ ?_ GE264.out | refine bS_ ?_ GE265.out | refine bS_ ?_ GE266.out)); have GE267 := GW267; replace HB := bB_ (by repeat (with_reducible first | exact HB.out | apply bA_ | apply bN_ | apply bD_ | refine bS_ ?_ GE264.out | refine bS_ ?_ GE265.out | refine bS_ ?_ GE266.out)) hb; have NB264_267 := nE_ hg BK264; have NB267_264 := aA_ NB264_267.out.symm; replace BK264 := bK_ BK264 hb; have NB265_267 := nE_ hg BK265; have NB267_265 := aA_ NB265_267.out.symm; replace BK265 := bK_ BK265 hb; have NB266_267 := nE_ hg BK266; have NB267_266 := aA_ NB266_267.out.symm; replace BK266 := bK_ BK266 hb; clear hb hbox hg; have hnb9 := NB264_265.out; have hnc9 := NB265_264.out; have hnb10 := NB264_266.out; have hnc10 := NB266_264.out; have hnb11 := NB264_267.out; have hnc11 := NB267_264.out; have hcz12_0 : w8.cell? ⟨gb264, 0, none⟩ = some (.slice A0_0 l0_0.length c0_0) := (blk_cell BK264.out 0).trans rfl; have hfz12_0 := blk_frozen BK264.out 0) | ((with_reducible refine gate_dst (N := 15) rfl ?_); refine Kd.R_make (Kd.int .i64) _ 3 rfl (N := 15) rfl 80 _ _ rfl (l0_0.length : Int) rfl rfl Try.underlying80 (.int .i64 0) 8 info3 rfl (by decide) (by omega) 0 (ok := fun _ => True) (okp := fun _ => True) rfl (fun _ hk => hk) trivial (of_decide_eq_true (by first | (with_reducible assumption) | assumption)) (Nat.le_trans (Nat.mul_le_mul_right _ (of_decide_eq_true (by first | (with_reducible assumption) | assumption) : (l0_0.length : Int).toNat ≤ 35184372088832)) (by omega)) (Below.refl _ _) (Nat.le_refl _) ?_; intro v269 w13 ho14 hb hg_ hnew_; clear hg_ hnew_; (first | rw [← Ny268.out] at ho14 | (simp only [Int.reduceToNat] at ho14; rw [← Ny268.out] at ho14)); have HO270 := aA_ (Kd.R_lower ho14 (below_size (by repeat (with_reducible first | exact HB.out | apply bA_ | apply bN_ | apply bD_ | refine bS_ ?_ GE264.out | refine bS_ ?_ GE265.out | refine bS_ ?_ GE266.out | refine bS_ ?_ GE267.out)))); replace BK264 := bK_ BK264 hb; replace BK265 := bK_ BK265 hb; replace BK266 := bK_ BK266 hb; replace BK267 := bK_ BK267 hb; replace HB := bB_ (by repeat (with_reducible first | exact HB.out | apply bA_ | apply bN_ | apply bD_ | refine bS_ ?_ GE264.out | refine bS_ ?_ GE265.out | refine bS_ ?_ GE266.out | refine bS_ ?_ GE267.out)) hb; clear hb ho14) | (refine box_event rfl (N := 7) rfl (cs := #[.slice none 0 0]) (t := 98) ?hr ?_; (case hr => go_simp <;> rfl); intro gb271 hg w15 hbox hb; replace HO270 := aA_ (Kd.R_below HO270.out hb); have BK271 := aA_ (hbox); have GW271 := gW_ hg (by repeat (with_reducible first | exact HB.out | apply bA_ | apply bN_ | apply bD_ | refine bS_ ?_ GE264.out | refine bS_ ?_ GE265.out | refine bS_ ?_ GE266.out | refine bS_ ?_ GE267.out)); have GE271 := GW271; replace HB := bB_ (by repeat (with_reducible first | exact HB.out | apply bA_ | apply bN_ | apply bD_ | refine bS_ ?_ GE264.out | refine bS_ ?_ GE265.out | refine bS_ ?_ GE266.out | refine bS_ ?_ GE267.out)) hb; have NB264_271 := nE_ hg BK264; have NB271_264 := aA_ NB264_271.out.symm; replace BK264 := bK_ BK264 hb; have NB265_271 := nE_ hg BK265; have NB271_265 := aA_ NB265_271.out.symm; replace BK265 := bK_ BK265 hb; have NB266_271 := nE_ hg BK266; have NB271_266 := aA_ NB266_271.out.symm; replace BK266 := bK_ BK266 hb; have NB267_271 := nE_ hg BK267; have NB271_267 := aA_ NB267_271.out.symm; replace BK267 := bK_ BK267 hb; clear hb hbox hg; have hnb16 := NB271_264.out; have hnc16 := NB264_271.out; have hnb17 := NB271_265.out; have hnc17 := NB265_271.out; have hnb18 := NB271_266.out; have hnc18 := NB266_271.out; have hnb19 := NB271_267.out; have hnc19 := NB267_271.out; have hcz20_0 : w15.cell? ⟨gb271, 0, none⟩ = some (.slice none 0 0) := (blk_cell BK271.out 0).trans rfl; have hfz20_0 := blk_frozen BK271.out 0; have hcz21_0 : w15.cell? ⟨gb264, 0, none⟩ = some (.slice A0_0 l0_0.length c0_0) := (blk_cell BK264.out 0).trans rfl; have hfz21_0 := blk_frozen BK264.out 0))
   (try simp only [Act.put, sT_, sZ_, sS_])
   go_loopg [8] k (fun kq v8 w' => ∃ (x6_1 : List Int) (x8_1 : Int) (x272000_1 : List Int) (u272000 : Value), v8 = .int .i64 x8_1 ∧ Aside0 (demurrageref01_Quot.l0 kq x6_1 x8_1 l0_0 l1_0 x272000_1 = some (r1, r2)) ∧ Aside0 (kq ≤ k) ∧ Aside0 (Kd.R (Kd.int .i64) 3 w' w.heap.size (fun k_ => some k_ ≠ (u272000 : Value).ownBlock) v269 x6_1) ∧ Aside0 (Kd.R (Kd.int .i64) 3 w' w.heap.size (fun k_ => some k_ ≠ (v269 : Value).ownBlock) u272000 x272000_1) ∧ Aside0 (w'.heap[gb264]? = some (.cells #[(.slice A0_0 l0_0.length c0_0)] 98 (0, 0))) ∧ Aside0 (w'.heap[gb265]? = some (.cells #[(.slice A1_0 l1_0.length c1_0)] 98 (0, 0))) ∧ Aside0 (w'.heap[gb266]? = some (.cells #[(.slice none 0 0)] 98 (0, 0))) ∧ Aside0 (w'.heap[gb267]? = some (.cells #[(.slice none 0 0)] 98 (0, 0))) ∧ Aside0 (w'.heap[gb271]? = some (.cells #[u272000] 98 (0, 0))) ∧ Aside0 (Below w.heap.size w w'))
   case atStart => exact ⟨(y268), (wrap64 ((l0_0.length : Int) - 1)), (([] : List Int)), (.slice none 0 0), (by first | rfl | simp | simp [*]), H', ⟨Nat.le_refl _⟩, ⟨by (with_reducible repeat (first | apply Kd.R_alloc | apply Kd.R_drewN | apply Kd.R_drew)); exact Kd.R_mono (Kd.R_far (p := ⟨gb271, 0, none⟩) (Kd.R_types HO270.out BK271.out (by decide)) (fun _ hk => hk.2) (.slice none 0 0)) (fun _ hk => (by simp [Value.ownBlock]))⟩, ⟨by first | exact Kd.R_nil _ _ _ _ _ | exact Kd.N_nil _ _ _ _ _ | exact Kd.V_nil _ _ _ _ _ | exact Kd.Q_nil _ _ _ _ _ | exact Kd.S_nil _ _ _ _ _⟩, ⟨by refine blk_far ?_ NB264_271.out _; exact BK264.out⟩, ⟨by refine blk_far ?_ NB265_271.out _; exact BK265.out⟩, ⟨by refine blk_far ?_ NB266_271.out _; exact BK266.out⟩, ⟨by refine blk_far ?_ NB267_271.out _; exact BK267.out⟩, ⟨by refine blk_put (cs := #[.slice none 0 0]) ?_ 0 _ rfl; exact BK271.out⟩, ⟨by repeat (with_reducible first | exact HB.out | apply bA_ | apply bN_ | apply bD_ | refine bS_ ?_ GE264.out | refine bS_ ?_ GE265.out | refine bS_ ?_ GE266.out | refine bS_ ?_ GE267.out | refine bS_ ?_ GE271.out)⟩⟩
   case round =>
    clear H'
    try clear c1
    try clear p2
    try clear c3
    try clear c3b0
    try clear c3b1
    try clear c4
    try clear c4b0
    try clear c4b1
    try clear p6
    try clear c7
    try clear c9
    try clear c10
    try clear c11
    try clear c16
    try clear c17
    try clear c18
    try clear c19
    try clear hcz12_0
    try clear hcz20_0
    try clear hcz21_0
    try clear hfz12_0
    try clear hfz20_0
    try clear hfz21_0
    obtain ⟨x6_1, x8_1, x272000_1, u272000, rfl, HA, HK1, HO_6, HO_272000, BK264, BK265, BK266, BK267, BK271, HB⟩ := hrel
    cases gk with
    | zero => exact absurd HA.out (by simp [demurrageref01_Quot.l0])
    | succ k1 =>
     have H := HA.out
     clear HA
     simp only [demurrageref01_Quot.l0] at H
     by_cases c22 : x8_1 ≥ 0
     ·rw [if_pos c22] at H
      have c22b0 : decide (0 ≤ x8_1) = true := decide_eq_true c22
      clear c22
      by_cases c23 : 0 ≤ x8_1
      ·rw [if_pos c23] at H
       have c23b0 : decide (0 ≤ x8_1) = true := decide_eq_true c23
       clear c23
       by_cases c24 : x8_1 < (l0_0.length : Int)
       ·rw [if_pos c24] at H
        have c24b0 : decide (x8_1 < (l0_0.length : Int)) = true := decide_eq_true c24
        clear c24
        obtain ⟨y276, hy276⟩ : ∃ y_ : List Int, y_ = (([rd l0_0 x8_1] : List Int)) := ⟨_, rfl⟩
        replace H : (if y276.length + x272000_1.length < 17592186044416 then ((demurrageref01_trim.f (y276 ++ x272000_1)).bind fun t282 => (demurrageref01_Quot.l1 k1 x6_1 x8_1 0 10000 l0_0 l1_0 t282)) else (none)) = some (r1, r2) := by first | (rw [hy276]; with_reducible exact H) | (have H2_ := (Option.bind_some _ _).symm.trans H; rw [hy276]; with_reducible exact H2_) | (have H2_ := (Option.bind_some _ _).symm.trans H; with_reducible exact H2_) | with_reducible exact H | (rw [hy276]; exact H) | exact H
        have Ny276 := aA_ hy276
        clear hy276
        by_cases c25 : y276.length + x272000_1.length < 17592186044416
        ·rw [if_pos c25] at H
         have LMc25 := aA_ c25
         clear c25
         obtain ⟨y279, hy279⟩ : ∃ y_ : List Int, y_ = (y276 ++ x272000_1) := ⟨_, rfl⟩
         replace H : ((demurrageref01_trim.f y279).bind fun t282 => (demurrageref01_Quot.l1 k1 x6_1 x8_1 0 10000 l0_0 l1_0 t282)) = some (r1, r2) := by first | (rw [hy279]; with_reducible exact H) | (have H2_ := (Option.bind_some _ _).symm.trans H; rw [hy279]; with_reducible exact H2_) | (have H2_ := (Option.bind_some _ _).symm.trans H; with_reducible exact H2_) | with_reducible exact H | (rw [hy279]; exact H) | exact H
         have Ny279 := aA_ hy279
         clear hy279
         replace H := bI_ H
         obtain ⟨t282, A260, H⟩ := H
         (try dsimp only at H)
         have A26 := aA_ A260
         clear A260
         have H' := aA_ H
         clear H
         try go_wp2
         replace HO_6 := aA_ (Kd.R_drew HO_6.out)
         replace HO_272000 := aA_ (Kd.R_drew HO_272000.out)
         replace BK264 := aA_ (blk_drew BK264.out)
         replace BK265 := aA_ (blk_drew BK265.out)
         replace BK266 := aA_ (blk_drew BK266.out)
         replace BK267 := aA_ (blk_drew BK267.out)
         replace BK271 := aA_ (blk_drew BK271.out)
         replace HB := aA_ (below_drew1 HB.out)
         have p275 : 0 ≤ (x8_1 : Int) := of_decide_eq_true (by first | (with_reducible assumption) | assumption)
         have q275 : x8_1 < (l0_0.length : Int) := of_decide_eq_true (by first | (with_reducible assumption) | assumption)
         obtain ⟨ad275, e275, hx275_0⟩ := Kd.at_int HR0_0.out x8_1 p275 q275
         have hw275_0 := hx275_0
         cases e275
         replace hx275_0 := cC_ HB hx275_0
         replace p275 := eq_true p275
         replace q275 := eq_true q275
         refine start_ (n := 11) (S := fun w' => w'.cell? ⟨gb264, 0, none⟩ = some (.slice (some ad275) l0_0.length c0_0) ∧ w'.cell? ⟨gb271, 0, none⟩ = some (u272000) ∧ w'.cell? (ad275.add (x8_1).toNat) = some (.int .i64 (rd l0_0 x8_1))) (ds := [10]) (demurrageref01_Quot.ups 11 0) (by kernel_rfl) rfl rfl ⟨(blk_cell BK264.out 0).trans rfl, (blk_cell BK271.out 0).trans rfl, ((HB.out.cell (World.block_lt_of_cell? w _ hw275_0)).trans hw275_0)⟩ (fun hHeld => ?_); refine with_tabW demurrageref01_Quot.tab6 demurrageref01_Quot.bits6 (fun HT_ HW_ => ?_)
         generalize wr.drew = w27 at HO_6 HO_272000 BK264 BK265 BK266 BK267 BK271 HB hx275_0 hHeld ⊢
         refine pure_ (i := 0) (N := some 25) (v := ?_) (a' := ?_) (demurrageref01_Quot.ups 11 1) rfl rfl (any_of HT_.out (by kernel_rfl)) (fun _ _ _ h => h) (Or.inl ⟨by rfl, ?_⟩) ?_ ?_
         rotate_left
         ·intro w'
          go_simp
          with_reducible rfl
         rotate_left
         ·simp only [Act.put, sT_, sZ_, sS_, i64_w, i32_w]
          rfl
         refine pure_ (i := 2) (N := some 27) (v := ?_) (a' := ?_) (demurrageref01_Quot.ups 11 5) rfl rfl (any_of HT_.out (by kernel_rfl)) (fun _ _ _ h => h) (Or.inl ⟨by rfl, ?_⟩) ?_ ?_
         rotate_left
         ·intro w'
          go_simp
          with_reducible rfl
         rotate_left
         ·simp only [Act.put, sT_, sZ_, sS_, i64_w, i32_w]
          rfl
         refine pure_ (i := 6) (N := some 31) (v := ?_) (a' := ?_) (demurrageref01_Quot.ups 11 69) rfl rfl (any_of HT_.out (by kernel_rfl)) (fun _ _ _ h => h) (Or.inl ⟨by rfl, ?_⟩) ?_ ?_
         rotate_left
         ·intro w'
          go_simp
          with_reducible rfl
         rotate_left
         ·simp only [Act.put, sT_, sZ_, sS_, i64_w, i32_w]
          rfl
         refine take_ (i := 1) (N := some 26) (v := ?_) (a' := ?_) (demurrageref01_Quot.ups 11 71) rfl rfl (take_ofW HT_.out HW_.out (by kernel_rfl)) (fun _ _ _ h => h) (Or.inl ⟨by rfl, ?_⟩) hHeld ?_ ?_
         rotate_left
         ·rintro w' ⟨s0, s1, s2⟩
          go_simp
          with_reducible rfl
         rotate_left
         ·simp only [Act.put, sT_, sZ_, sS_, i64_w, i32_w]
          rfl
         refine pure_ (i := 3) (N := some 28) (v := ?_) (a' := ?_) (demurrageref01_Quot.ups 11 79) rfl rfl (any_of HT_.out (by kernel_rfl)) (fun _ _ _ h => h) (Or.inl ⟨by rfl, ?_⟩) ?_ ?_
         rotate_left
         ·intro w'
          go_simp
          with_reducible rfl
         rotate_left
         ·simp only [Act.put, sT_, sZ_, sS_, i64_w, i32_w]
          rfl
         refine take_ (i := 4) (N := some 29) (v := ?_) (a' := ?_) (demurrageref01_Quot.ups 11 95) rfl rfl (take_ofW HT_.out HW_.out (by kernel_rfl)) (fun _ _ _ h => h) (Or.inl ⟨by rfl, ?_⟩) hHeld ?_ ?_
         rotate_left
         ·rintro w' ⟨s0, s1, s2⟩
          go_simp
          with_reducible rfl
         rotate_left
         ·simp only [Act.put, sT_, sZ_, sS_, i64_w, i32_w]
          rfl
         refine take_ (i := 7) (N := some 32) (v := ?_) (a' := ?_) (demurrageref01_Quot.ups 11 223) rfl rfl (take_ofW HT_.out HW_.out (by kernel_rfl)) (fun _ _ _ h => h) (Or.inl ⟨by rfl, ?_⟩) hHeld ?_ ?_
         rotate_left
         ·rintro w' ⟨s0, s1, s2⟩
          go_simp
          with_reducible rfl
         rotate_left
         ·simp only [Act.put, sT_, sZ_, sS_, i64_w, i32_w]
          rfl
         refine one_ (i := 5) (N := some 30) (demurrageref01_Quot.ups 11 255) rfl rfl (one_of HT_.out (by kernel_rfl)) (by decide) (fun K hK => ?_)
         refine Kd.R_lit_step (Kd.int .i64) _ 3 ?hg (N := 30) ?hd (xs := ([rd l0_0 x8_1] : List Int)) (inner := [.int .i64 (rd l0_0 x8_1)]) (ok := fun _ => True) (okp := fun _ => True) ?hr ?hp (fun _ hk => hk) trivial (Below.refl _ _) (Nat.le_refl _) (by simp) ?_; (case hd => rfl); (case hg => rfl); (case hr => go_simp <;> rfl); (case hp => exact (Reps.one (show Kd.M (Kd.int .i64) _ _ _ (rd l0_0 x8_1) [.int .i64 (rd l0_0 x8_1)] from rfl) (Reps.none _ _)))
         intro v277 w28 ho29 hb hg_ hnew_
         clear hg_ hnew_
         (first | rw [← Ny276.out] at ho29 | (simp only [Int.reduceToNat] at ho29; rw [← Ny276.out] at ho29))
         have HO278 := aA_ (Kd.R_lower (Kd.R_new' (Kd.R_new' ho29 (Kd.R_lt HO_6.out)) (Kd.R_lt HO_272000.out)) (below_size (by repeat (with_reducible first | exact HB.out | apply bA_ | apply bN_ | apply bD_ | refine bS_ ?_ GE264.out | refine bS_ ?_ GE265.out | refine bS_ ?_ GE266.out | refine bS_ ?_ GE267.out | refine bS_ ?_ GE271.out))))
         replace HO_6 := aA_ (Kd.R_elder' HO_6.out (Kd.R_base ho29) hb)
         replace HO_272000 := aA_ (Kd.R_elder' HO_272000.out (Kd.R_base ho29) hb)
         replace BK264 := bK_ BK264 hb
         replace BK265 := bK_ BK265 hb
         replace BK266 := bK_ BK266 hb
         replace BK267 := bK_ BK267 hb
         replace BK271 := bK_ BK271 hb
         replace HB := bB_ (by repeat (with_reducible first | exact HB.out | apply bA_ | apply bN_ | apply bD_ | refine bS_ ?_ GE264.out | refine bS_ ?_ GE265.out | refine bS_ ?_ GE266.out | refine bS_ ?_ GE267.out | refine bS_ ?_ GE271.out)) hb
         clear hb ho29
         obtain ⟨Ao31, co31, eo31⟩ := Kd.R_slice HO_272000.out
         (first | subst eo31 | (injection eo31 with f1_ f2_ f3_; have f4_ := f1_.symm; have f5_ := f3_.symm; clear f1_ f2_ f3_; subst f4_; subst f5_))
         refine hK.out _ _ ⟨(blk_cell BK264.out 0).trans rfl, (blk_cell BK271.out 0).trans rfl, ((HB.out.cell (World.block_lt_of_cell? w _ hw275_0)).trans hw275_0)⟩ (fun hHeld => ?_)
         clear hK K
         refine norm_ (by show Act.put _ (some 30) _ = _; simp only [Act.put, sT_, sZ_, sS_, i64_w, i32_w] <;> rfl) ?_
         refine one_ (i := 8) (N := some 33) (demurrageref01_Quot.ups 11 511) rfl rfl (one_of HT_.out (by kernel_rfl)) (by decide) (fun K hK => ?_)
         refine Kd.R_append_rows_step (Kd.int .i64) (w0 := w) w.heap.size (by rfl) (.tmp 30) (.tmp 32) 80 3 (.int .i64 0) 8 rfl Try.underlying80 info3 rfl (by decide) (by omega) v277 y276 x272000_1 _ _ _ (fun k_ => some k_ ≠ (v269 : Value).ownBlock ∧ some k_ ≠ (.slice Ao31 x272000_1.length co31 : Value).ownBlock) (fun _ => False) rfl rfl ?aO ?aR (fun _ _ h => h) (fun _ h => h.elim) ?aF ?aB ?aS ?aL ?_
         (case aR => repeat (first | exact (Kd.R_reads' HO_272000.out).2.2 | (with_reducible first | refine Kd.C_alloc ?_ _ | refine Kd.C_drewN ?_ _ | refine Kd.C_drew ?_)))
         (case aB => exact (by repeat (with_reducible first | exact HB.out | apply bA_ | apply bN_ | apply bD_ | refine bS_ ?_ GE264.out | refine bS_ ?_ GE265.out | refine bS_ ?_ GE266.out | refine bS_ ?_ GE267.out | refine bS_ ?_ GE271.out)))
         (case aF => exact (fun k_ hk => ⟨Kd.fresh' (Kd.R_lt (by (with_reducible repeat (first | apply Kd.R_alloc | apply Kd.R_drewN | apply Kd.R_drew)); exact HO_6.out)) k_ hk, Kd.fresh' (Kd.R_lt (by (with_reducible repeat (first | apply Kd.R_alloc | apply Kd.R_drewN | apply Kd.R_drew)); exact HO_272000.out)) k_ hk⟩))
         (case aO => exact (by (with_reducible repeat (first | apply Kd.R_alloc | apply Kd.R_drewN | apply Kd.R_drew)); exact Kd.R_mono HO278.out (fun _ hk => (And.intro (hk.1.2) (hk.2)))))
         (case aS => exact (below_size (by repeat (with_reducible first | exact HB.out | apply bA_ | apply bN_ | apply bD_ | refine bS_ ?_ GE264.out | refine bS_ ?_ GE265.out | refine bS_ ?_ GE266.out | refine bS_ ?_ GE267.out | refine bS_ ?_ GE271.out))))
         (case aL => have := LMc25.out; omega)
         intro v280 w30 ho hb hg hat
         rw [← Ny279.out] at ho
         replace HO_6 := aA_ (Kd.R_after (ok := (fun k_ => some k_ ≠ (.slice Ao31 x272000_1.length co31 : Value).ownBlock)) HO_6.out hg hat)
         replace HO_272000 := aA_ (Kd.R_after (ok := (fun k_ => some k_ ≠ (v269 : Value).ownBlock)) HO_272000.out hg hat)
         replace BK264 := aA_ (blk_grown (g := gb264) (o := .cells #[.slice (some ad275) l0_0.length c0_0] 98 (0, 0)) BK264.out hg (Kd.R_ne HO278.out BK264.out (by decide)))
         replace BK265 := aA_ (blk_grown (g := gb265) (o := .cells #[.slice A1_0 l1_0.length c1_0] 98 (0, 0)) BK265.out hg (Kd.R_ne HO278.out BK265.out (by decide)))
         replace BK266 := aA_ (blk_grown (g := gb266) (o := .cells #[.slice none 0 0] 98 (0, 0)) BK266.out hg (Kd.R_ne HO278.out BK266.out (by decide)))
         replace BK267 := aA_ (blk_grown (g := gb267) (o := .cells #[.slice none 0 0] 98 (0, 0)) BK267.out hg (Kd.R_ne HO278.out BK267.out (by decide)))
         replace BK271 := aA_ (blk_grown (g := gb271) (o := .cells #[.slice Ao31 x272000_1.length co31] 98 (0, 0)) BK271.out hg (Kd.R_ne HO278.out BK271.out (by decide)))
         replace HB := aA_ (hb)
         have HO281 := aA_ (ho)
         clear HO278 ho hb hg hat
         obtain ⟨Ao32, co32, eo32⟩ := Kd.R_slice HO281.out
         (first | subst eo32 | (injection eo32 with f1_ f2_ f3_; have f4_ := f1_.symm; have f5_ := f3_.symm; clear f1_ f2_ f3_; subst f4_; subst f5_))
         refine hK.out _ _ ⟨(blk_cell BK264.out 0).trans rfl, (blk_cell BK271.out 0).trans rfl, ((HB.out.cell (World.block_lt_of_cell? w _ hw275_0)).trans hw275_0)⟩ (fun hHeld => ?_)
         clear hK K
         refine norm_ (by show Act.put _ (some 33) _ = _; simp only [Act.put, sT_, sZ_, sS_, i64_w, i32_w] <;> rfl) ?_
         refine one_ (i := 9) (N := some 34) (demurrageref01_Quot.ups 11 1023) rfl rfl (one_of HT_.out (by kernel_rfl)) (by decide) (fun K hK => ?_)
         refine goes_ Try.func73 (by kernel_rfl) rfl #[.slice Ao32 y279.length co32] (by rfl) rfl rfl (by (try simp only [mT_, mC_, mN_]); first | done | rfl) ?_
         with_reducible refine (demurrageref01_trim.calls _ _ y279 t282 _ ?side1 ?side2 A26.out).mono ?_
         (case side1 => repeat (first | exact (Kd.R_reads' HO281.out).2.2 | (with_reducible first | refine Kd.C_alloc ?_ _ | refine Kd.C_drewN ?_ _ | refine Kd.C_drew ?_)))
         (case side2 => exact (Kd.R_reads' HO281.out).2.1)
         rintro e w33 ⟨v283, rfl, ho0, hb⟩
         refine ⟨_, rfl, ?_⟩
         have HO284 := aA_ (Kd.R_lower (Kd.R_new' (Kd.R_new' (Kd.R_new' ho0 (Kd.R_lt HO_6.out)) (Kd.R_lt HO_272000.out)) (Kd.R_lt HO281.out)) (below_size (by repeat (with_reducible first | exact HB.out | apply bA_ | apply bN_ | apply bD_ | refine bS_ ?_ GE264.out | refine bS_ ?_ GE265.out | refine bS_ ?_ GE266.out | refine bS_ ?_ GE267.out | refine bS_ ?_ GE271.out))))
         replace HO_6 := aA_ (Kd.R_elder' HO_6.out (Kd.R_base ho0) hb)
         replace HO_272000 := aA_ (Kd.R_elder' HO_272000.out (Kd.R_base ho0) hb)
         replace HO281 := aA_ (Kd.R_elder' HO281.out (Kd.R_base ho0) hb)
         replace BK264 := bK_ BK264 hb
         replace BK265 := bK_ BK265 hb
         replace BK266 := bK_ BK266 hb
         replace BK267 := bK_ BK267 hb
         replace BK271 := bK_ BK271 hb
         replace HB := bB_ (by repeat (with_reducible first | exact HB.out | apply bA_ | apply bN_ | apply bD_ | refine bS_ ?_ GE264.out | refine bS_ ?_ GE265.out | refine bS_ ?_ GE266.out | refine bS_ ?_ GE267.out | refine bS_ ?_ GE271.out)) hb
         (try clear hb)
         (try clear hb2)
         (try clear hk)
         (try clear hi)
         (try clear ho0)
         obtain ⟨Ao34, co34, eo34⟩ := Kd.R_slice HO284.out
         (first | subst eo34 | (injection eo34 with f1_ f2_ f3_; have f4_ := f1_.symm; have f5_ := f3_.symm; clear f1_ f2_ f3_; subst f4_; subst f5_))
         refine hK.out _ _ ⟨(blk_cell BK264.out 0).trans rfl, (blk_cell BK271.out 0).trans rfl, ((HB.out.cell (World.block_lt_of_cell? w _ hw275_0)).trans hw275_0)⟩ (fun hHeld => ?_)
         clear hK K
         refine norm_ (by show Act.put _ (some 34) _ = _; simp only [Act.put, sT_, sZ_, sS_, i64_w, i32_w] <;> rfl) ?_
         refine last_ (i := 10) (N := none) (demurrageref01_Quot.ups 11 2047) rfl rfl (one_of HT_.out (by kernel_rfl)) (by decide) (fun K hK => ?_)
         have hs35 : w33.cell? ⟨gb271, 0, none⟩ = some (.slice Ao31 x272000_1.length co31) := (blk_cell BK271.out 0).trans rfl
         have hfs35 := blk_frozen BK271.out 0
         have hns35_0 := NB264_271.out
         have hns35_1 := NB265_271.out
         have hns35_2 := NB266_271.out
         have hns35_3 := NB267_271.out
         have hms35_0 := NB271_264.out
         have hms35_1 := NB271_265.out
         have hms35_2 := NB271_266.out
         have hms35_3 := NB271_267.out
         refine skip_ (w1 := ?_) (by rfl) rfl ?_ ?_
         rotate_left
         ·go_simp
          rfl
         refine hK.out _ _ ?_
         clear hK K
         refine done_ (done_of HT_.out (by kernel_rfl)) ?_
         try go_wp2
         (try simp only [Act.put, sT_, sZ_, sS_])
         go_loopg [9, 10] k1 (fun kq v9 v10 w' => ∃ (x9_2 : Int) (x10_2 : Int), v9 = .int .i64 x9_2 ∧ v10 = .int .i64 x10_2 ∧ Aside0 (demurrageref01_Quot.l1 kq x6_1 x8_1 x9_2 x10_2 l0_0 l1_0 t282 = some (r1, r2)) ∧ Aside0 (kq ≤ k1) ∧ Aside0 (Kd.R (Kd.int .i64) 3 w' w.heap.size (fun k_ => some k_ ≠ ((.slice Ao34 t282.length co34) : Value).ownBlock) v269 x6_1) ∧ Aside0 (Kd.R (Kd.int .i64) 3 w' w.heap.size (fun k_ => some k_ ≠ (v269 : Value).ownBlock) (.slice Ao34 t282.length co34) t282) ∧ Aside0 (w'.heap[gb264]? = some (.cells #[(.slice (some ad275) l0_0.length c0_0)] 98 (0, 0))) ∧ Aside0 (w'.heap[gb265]? = some (.cells #[(.slice A1_0 l1_0.length c1_0)] 98 (0, 0))) ∧ Aside0 (w'.heap[gb266]? = some (.cells #[(.slice none 0 0)] 98 (0, 0))) ∧ Aside0 (w'.heap[gb267]? = some (.cells #[(.slice none 0 0)] 98 (0, 0))) ∧ Aside0 (w'.heap[gb271]? = some (.cells #[(.slice Ao34 t282.length co34)] 98 (0, 0))) ∧ Aside0 (Below w.heap.size w w'))
         case atStart => exact ⟨(0), (10000), (by first | rfl | simp | simp [*]), (by first | rfl | simp | simp [*]), H', ⟨Nat.le_refl _⟩, ⟨by (with_reducible repeat (first | apply Kd.R_alloc | apply Kd.R_drewN | apply Kd.R_drew)); exact Kd.R_mono (Kd.R_far (p := ⟨gb271, 0, none⟩) (Kd.R_types HO_6.out BK271.out (by decide)) (fun _ hk => hk.2) (.slice Ao34 t282.length co34)) (fun _ hk => hk.1.2)⟩, ⟨by (with_reducible repeat (first | apply Kd.R_alloc | apply Kd.R_drewN | apply Kd.R_drew)); exact Kd.R_mono (Kd.R_far (p := ⟨gb271, 0, none⟩) (Kd.R_types HO284.out BK271.out (by decide)) (fun _ hk => hk.2) (.slice Ao34 t282.length co34)) (fun _ hk => hk.1.1.1.2)⟩, ⟨by refine blk_far ?_ NB264_271.out _; exact BK264.out⟩, ⟨by refine blk_far ?_ NB265_271.out _; exact BK265.out⟩, ⟨by refine blk_far ?_ NB266_271.out _; exact BK266.out⟩, ⟨by refine blk_far ?_ NB267_271.out _; exact BK267.out⟩, ⟨by refine blk_put (cs := #[.slice Ao31 x272000_1.length co31]) ?_ 0 _ rfl; exact BK271.out⟩, ⟨by repeat (with_reducible first | exact HB.out | apply bA_ | apply bN_ | apply bD_ | refine bS_ ?_ GE264.out | refine bS_ ?_ GE265.out | refine bS_ ?_ GE266.out | refine bS_ ?_ GE267.out | refine bS_ ?_ GE271.out)⟩⟩
         case round =>
          clear H'
          try clear c1
          try clear c2
          try clear p2
          try clear q2
          try clear hx2
          try clear c3
          try clear c3b0
          try clear c3b1
          try clear c4
          try clear c4b0
          try clear c4b1
          try clear p6
          try clear c7
          try clear c9
          try clear c10
          try clear c11
          try clear c16
          try clear c17
          try clear c18
          try clear c19
          try clear c22
          try clear c22b0
          try clear c23
          try clear c23b0
          try clear c24
          try clear c24b0
          try clear c25
          try clear p27
          try clear q27
          try clear hx27
          try clear hcz12_0
          try clear hcz20_0
          try clear hcz21_0
          try clear hfz12_0
          try clear hfz20_0
          try clear hfz21_0
          try clear hx275_0
          try clear p2
          try clear p275
          try clear p6
          try clear q275
          obtain ⟨x9_2, x10_2, rfl, rfl, HA, HK2, HO_6, HO_272000, BK264, BK265, BK266, BK267, BK271, HB⟩ := hrel
          cases gk with
          | zero => exact absurd HA.out (by simp [demurrageref01_Quot.l1])
          | succ k2 =>
           have H := HA.out
           clear HA
           simp only [demurrageref01_Quot.l1] at H
           by_cases c36 : (wrap64 (x10_2 - x9_2)) > 1
           ·rw [if_pos c36] at H
            have c36b0 : decide (1 < (wrap64 (x10_2 - x9_2))) = true := decide_eq_true c36
            clear c36
            replace H := bI_ H
            obtain ⟨t295, A370, H⟩ := H
            (try dsimp only at H)
            have A37 := aA_ A370
            clear A370
            replace H := bI_ H
            obtain ⟨t298, A380, H⟩ := H
            (try dsimp only at H)
            have A38 := aA_ A380
            clear A380
            replace H := bI_ H
            obtain ⟨t301, A390, H⟩ := H
            (try dsimp only at H)
            have A39 := aA_ A390
            clear A390
            by_cases c40 : t301 ≤ 0
            ·rw [if_pos c40] at H
             have c40b0 : decide (t301 ≤ 0) = true := decide_eq_true c40
             clear c40
             have H' := aA_ H
             clear H
             try go_wp2
             replace HO_6 := aA_ (Kd.R_drew HO_6.out)
             replace HO_272000 := aA_ (Kd.R_drew HO_272000.out)
             replace BK264 := aA_ (blk_drew BK264.out)
             replace BK265 := aA_ (blk_drew BK265.out)
             replace BK266 := aA_ (blk_drew BK266.out)
             replace BK267 := aA_ (blk_drew BK267.out)
             replace BK271 := aA_ (blk_drew BK271.out)
             replace HB := aA_ (below_drew1 HB.out)
             refine start_ (n := 7) (S := fun w' => w'.cell? ⟨gb265, 0, none⟩ = some (.slice A1_0 l1_0.length c1_0) ∧ w'.cell? ⟨gb271, 0, none⟩ = some (.slice Ao34 t282.length co34)) (ds := []) (demurrageref01_Quot.ups 7 0) (by kernel_rfl) rfl rfl ⟨(blk_cell BK265.out 0).trans rfl, (blk_cell BK271.out 0).trans rfl⟩ (fun hHeld => ?_)
             generalize wr.drew = w41 at HO_6 HO_272000 BK264 BK265 BK266 BK267 BK271 HB hHeld ⊢
             refine pure_ (i := 1) (N := some 44) (v := ?_) (a' := ?_) (demurrageref01_Quot.ups 7 2) rfl rfl (by kernel_rfl) (fun _ _ _ h => h) (Or.inl ⟨by rfl, ?_⟩) ?_ ?_
             rotate_left
             ·intro w'
              go_simp
              with_reducible rfl
             rotate_left
             ·simp only [Act.put, sT_, sZ_, sS_, i64_w, i32_w]
              rfl
             refine take_ (i := 0) (N := some 43) (v := ?_) (a' := ?_) (demurrageref01_Quot.ups 7 3) rfl rfl (by kernel_rfl) (fun _ _ _ h => h) (Or.inl ⟨by rfl, ?_⟩) hHeld ?_ ?_
             rotate_left
             ·rintro w' ⟨s0, s1⟩
              go_simp
              with_reducible rfl
             rotate_left
             ·simp only [Act.put, sT_, sZ_, sS_, i64_w, i32_w]
              rfl
             refine take_ (i := 4) (N := some 47) (v := ?_) (a' := ?_) (demurrageref01_Quot.ups 7 19) rfl rfl (by kernel_rfl) (fun _ _ _ h => h) (Or.inl ⟨by rfl, ?_⟩) hHeld ?_ ?_
             rotate_left
             ·rintro w' ⟨s0, s1⟩
              go_simp
              with_reducible rfl
             rotate_left
             ·simp only [Act.put, sT_, sZ_, sS_, i64_w, i32_w]
              rfl
             refine one_ (i := 2) (N := some 45) (demurrageref01_Quot.ups 7 23) rfl rfl (by kernel_rfl) (by decide) (fun K hK => ?_)
             refine goes_ Try.func49 (by kernel_rfl) rfl #[.int .i64 (wrap64 (Int.tdiv (wrap64 (x9_2 + x10_2)) 2))] (by rfl) rfl rfl (by (try simp only [mT_, mC_, mN_]); first | done | rfl) ?_
             with_reducible refine (demurrageref01_From.calls k2 (wrap64 (Int.tdiv (wrap64 (x9_2 + x10_2)) 2)) t295 _ A37.out).mono ?_
             rintro e w42 ⟨v296, rfl, ho0, hb⟩
             refine ⟨_, rfl, ?_⟩
             have HO297 := aA_ (Kd.R_lower (Kd.R_new' (Kd.R_new' ho0 (Kd.R_lt HO_6.out)) (Kd.R_lt HO_272000.out)) (below_size (by repeat (with_reducible first | exact HB.out | apply bA_ | apply bN_ | apply bD_ | refine bS_ ?_ GE264.out | refine bS_ ?_ GE265.out | refine bS_ ?_ GE266.out | refine bS_ ?_ GE267.out | refine bS_ ?_ GE271.out))))
             replace HO_6 := aA_ (Kd.R_elder' HO_6.out (Kd.R_base ho0) hb)
             replace HO_272000 := aA_ (Kd.R_elder' HO_272000.out (Kd.R_base ho0) hb)
             replace BK264 := bK_ BK264 hb
             replace BK265 := bK_ BK265 hb
             replace BK266 := bK_ BK266 hb
             replace BK267 := bK_ BK267 hb
             replace BK271 := bK_ BK271 hb
             replace HB := bB_ (by repeat (with_reducible first | exact HB.out | apply bA_ | apply bN_ | apply bD_ | refine bS_ ?_ GE264.out | refine bS_ ?_ GE265.out | refine bS_ ?_ GE266.out | refine bS_ ?_ GE267.out | refine bS_ ?_ GE271.out)) hb
             (try clear hb)
             (try clear hb2)
             (try clear hk)
             (try clear hi)
             (try clear ho0)
             obtain ⟨Ao43, co43, eo43⟩ := Kd.R_slice HO297.out
             (first | subst eo43 | (injection eo43 with f1_ f2_ f3_; have f4_ := f1_.symm; have f5_ := f3_.symm; clear f1_ f2_ f3_; subst f4_; subst f5_))
             refine hK.out _ _ ⟨(blk_cell BK265.out 0).trans rfl, (blk_cell BK271.out 0).trans rfl⟩ (fun hHeld => ?_)
             clear hK K
             refine norm_ (by show Act.put _ (some 45) _ = _; simp only [Act.put, sT_, sZ_, sS_, i64_w, i32_w] <;> rfl) ?_
             refine one_ (i := 3) (N := some 46) (demurrageref01_Quot.ups 7 31) rfl rfl (by kernel_rfl) (by decide) (fun K hK => ?_)
             refine goes_ Try.func59 (by kernel_rfl) rfl #[.agg #[.slice A1_0 l1_0.length c1_0], .agg #[.slice Ao43 t295.length co43]] (by rfl) rfl rfl (by (try simp only [mT_, mC_, mN_]); first | done | rfl) ?_
             with_reducible refine (demurrageref01_Prod.calls k2 _ _ l1_0 _ _ t295 t298 _ ?side1 ?side2 ?side3 ?side4 A38.out).mono ?_
             (case side1 => repeat (first | exact (Kd.C_below HR1_0.out HB.out) | (with_reducible first | refine Kd.C_alloc ?_ _ | refine Kd.C_drewN ?_ _ | refine Kd.C_drew ?_)))
             (case side2 => exact HC1_0.out)
             (case side3 => repeat (first | exact (Kd.R_reads' HO297.out).2.2 | (with_reducible first | refine Kd.C_alloc ?_ _ | refine Kd.C_drewN ?_ _ | refine Kd.C_drew ?_)))
             (case side4 => exact (Kd.R_reads' HO297.out).2.1)
             rintro e w44 ⟨v299, rfl, ho0, hb⟩
             refine ⟨_, rfl, ?_⟩
             have HO300 := aA_ (Kd.R_lower (Kd.R_new' (Kd.R_new' (Kd.R_new' ho0 (Kd.R_lt HO_6.out)) (Kd.R_lt HO_272000.out)) (Kd.R_lt HO297.out)) (below_size (by repeat (with_reducible first | exact HB.out | apply bA_ | apply bN_ | apply bD_ | refine bS_ ?_ GE264.out | refine bS_ ?_ GE265.out | refine bS_ ?_ GE266.out | refine bS_ ?_ GE267.out | refine bS_ ?_ GE271.out))))
             replace HO_6 := aA_ (Kd.R_elder' HO_6.out (Kd.R_base ho0) hb)
             replace HO_272000 := aA_ (Kd.R_elder' HO_272000.out (Kd.R_base ho0) hb)
             replace HO297 := aA_ (Kd.R_elder' HO297.out (Kd.R_base ho0) hb)
             replace BK264 := bK_ BK264 hb
             replace BK265 := bK_ BK265 hb
             replace BK266 := bK_ BK266 hb
             replace BK267 := bK_ BK267 hb
             replace BK271 := bK_ BK271 hb
             replace HB := bB_ (by repeat (with_reducible first | exact HB.out | apply bA_ | apply bN_ | apply bD_ | refine bS_ ?_ GE264.out | refine bS_ ?_ GE265.out | refine bS_ ?_ GE266.out | refine bS_ ?_ GE267.out | refine bS_ ?_ GE271.out)) hb
             (try clear hb)
             (try clear hb2)
             (try clear hk)
             (try clear hi)
             (try clear ho0)
             obtain ⟨Ao45, co45, eo45⟩ := Kd.R_slice HO300.out
             (first | subst eo45 | (injection eo45 with f1_ f2_ f3_; have f4_ := f1_.symm; have f5_ := f3_.symm; clear f1_ f2_ f3_; subst f4_; subst f5_))
             refine hK.out _ _ ⟨(blk_cell BK265.out 0).trans rfl, (blk_cell BK271.out 0).trans rfl⟩ (fun hHeld => ?_)
             clear hK K
             refine norm_ (by show Act.put _ (some 46) _ = _; simp only [Act.put, sT_, sZ_, sS_, i64_w, i32_w] <;> rfl) ?_
             refine one_ (i := 5) (N := some 48) (demurrageref01_Quot.ups 7 63) rfl rfl (by kernel_rfl) (by decide) (fun K hK => ?_)
             refine goes_ Try.func50 (by kernel_rfl) rfl #[.agg #[.slice Ao45 t298.length co45], .agg #[.slice Ao34 t282.length co34]] (by rfl) rfl rfl (by (try simp only [mT_, mC_, mN_]); first | done | rfl) ?_
             with_reducible refine (demurrageref01_Cmp.calls k2 _ _ t298 _ _ t282 t301 _ ?side1 ?side2 ?side3 ?side4 A39.out).mono ?_
             (case side1 => repeat (first | exact (Kd.R_reads' HO300.out).2.2 | (with_reducible first | refine Kd.C_alloc ?_ _ | refine Kd.C_drewN ?_ _ | refine Kd.C_drew ?_)))
             (case side2 => exact (Kd.R_reads' HO300.out).2.1)
             (case side3 => repeat (first | exact (Kd.R_reads' HO_272000.out).2.2 | (with_reducible first | refine Kd.C_alloc ?_ _ | refine Kd.C_drewN ?_ _ | refine Kd.C_drew ?_)))
             (case side4 => exact (Kd.R_reads' HO_272000.out).2.1)
             rintro e w46 ⟨rfl, hb⟩
             refine ⟨_, rfl, ?_⟩
             replace HO_6 := aA_ (Kd.R_below HO_6.out hb)
             replace HO_272000 := aA_ (Kd.R_below HO_272000.out hb)
             replace HO297 := aA_ (Kd.R_below HO297.out hb)
             replace HO300 := aA_ (Kd.R_below HO300.out hb)
             replace BK264 := bK_ BK264 hb
             replace BK265 := bK_ BK265 hb
             replace BK266 := bK_ BK266 hb
             replace BK267 := bK_ BK267 hb
             replace BK271 := bK_ BK271 hb
             replace HB := bB_ (by repeat (with_reducible first | exact HB.out | apply bA_ | apply bN_ | apply bD_ | refine bS_ ?_ GE264.out | refine bS_ ?_ GE265.out | refine bS_ ?_ GE266.out | refine bS_ ?_ GE267.out | refine bS_ ?_ GE271.out)) hb
             (try clear hb)
             (try clear hb2)
             (try clear hk)
             (try clear hi)
             refine hK.out _ _ ⟨(blk_cell BK265.out 0).trans rfl, (blk_cell BK271.out 0).trans rfl⟩ (fun hHeld => ?_)
             clear hK K
             refine norm_ (by show Act.put _ (some 48) _ = _; simp only [Act.put, sT_, sZ_, sS_, i64_w, i32_w] <;> rfl) ?_
             refine pure_ (i := 6) (N := some 49) (v := ?_) (a' := ?_) (demurrageref01_Quot.ups 7 127) rfl rfl (by kernel_rfl) (fun _ _ _ h => h) (Or.inl ⟨by rfl, ?_⟩) ?_ ?_
             rotate_left
             ·intro w'
              go_simp
              with_reducible rfl
             rotate_left
             ·simp only [Act.put, sT_, sZ_, sS_, i64_w, i32_w]
              rfl
             refine done_ (by kernel_rfl) ?_
             try go_wp2
             go_roundg k2
             case measure => have := HK1.out; have := HK2.out; omega
             case rel => exact ⟨(wrap64 (Int.tdiv (wrap64 (x9_2 + x10_2)) 2)), (x10_2), (by first | rfl | simp | simp [*]), (by first | rfl | simp | simp [*]), H', ⟨by have := HK1.out; have := HK2.out; omega⟩, ⟨by (with_reducible repeat (first | apply Kd.R_alloc | apply Kd.R_drewN | apply Kd.R_drew)); exact Kd.R_mono HO_6.out (fun _ hk => hk.1.1)⟩, ⟨by (with_reducible repeat (first | apply Kd.R_alloc | apply Kd.R_drewN | apply Kd.R_drew)); exact Kd.R_mono HO_272000.out (fun _ hk => hk.1.1)⟩, ⟨by exact BK264.out⟩, ⟨by exact BK265.out⟩, ⟨by exact BK266.out⟩, ⟨by exact BK267.out⟩, ⟨by exact BK271.out⟩, ⟨by repeat (with_reducible first | exact HB.out | apply bA_ | apply bN_ | apply bD_ | refine bS_ ?_ GE264.out | refine bS_ ?_ GE265.out | refine bS_ ?_ GE266.out | refine bS_ ?_ GE267.out | refine bS_ ?_ GE271.out)⟩⟩
            ·rw [if_neg c40] at H
             have c40b0 : decide (t301 ≤ 0) = false := decide_eq_false c40
             clear c40
             have H' := aA_ H
             clear H
             try go_wp2
             replace HO_6 := aA_ (Kd.R_drew HO_6.out)
             replace HO_272000 := aA_ (Kd.R_drew HO_272000.out)
             replace BK264 := aA_ (blk_drew BK264.out)
             replace BK265 := aA_ (blk_drew BK265.out)
             replace BK266 := aA_ (blk_drew BK266.out)
             replace BK267 := aA_ (blk_drew BK267.out)
             replace BK271 := aA_ (blk_drew BK271.out)
             replace HB := aA_ (below_drew1 HB.out)
             refine start_ (n := 7) (S := fun w' => w'.cell? ⟨gb265, 0, none⟩ = some (.slice A1_0 l1_0.length c1_0) ∧ w'.cell? ⟨gb271, 0, none⟩ = some (.slice Ao34 t282.length co34)) (ds := []) (demurrageref01_Quot.ups 7 0) (by kernel_rfl) rfl rfl ⟨(blk_cell BK265.out 0).trans rfl, (blk_cell BK271.out 0).trans rfl⟩ (fun hHeld => ?_)
             generalize wr.drew = w47 at HO_6 HO_272000 BK264 BK265 BK266 BK267 BK271 HB hHeld ⊢
             refine pure_ (i := 1) (N := some 44) (v := ?_) (a' := ?_) (demurrageref01_Quot.ups 7 2) rfl rfl (by kernel_rfl) (fun _ _ _ h => h) (Or.inl ⟨by rfl, ?_⟩) ?_ ?_
             rotate_left
             ·intro w'
              go_simp
              with_reducible rfl
             rotate_left
             ·simp only [Act.put, sT_, sZ_, sS_, i64_w, i32_w]
              rfl
             refine take_ (i := 0) (N := some 43) (v := ?_) (a' := ?_) (demurrageref01_Quot.ups 7 3) rfl rfl (by kernel_rfl) (fun _ _ _ h => h) (Or.inl ⟨by rfl, ?_⟩) hHeld ?_ ?_
             rotate_left
             ·rintro w' ⟨s0, s1⟩
              go_simp
              with_reducible rfl
             rotate_left
             ·simp only [Act.put, sT_, sZ_, sS_, i64_w, i32_w]
              rfl
             refine take_ (i := 4) (N := some 47) (v := ?_) (a' := ?_) (demurrageref01_Quot.ups 7 19) rfl rfl (by kernel_rfl) (fun _ _ _ h => h) (Or.inl ⟨by rfl, ?_⟩) hHeld ?_ ?_
             rotate_left
             ·rintro w' ⟨s0, s1⟩
              go_simp
              with_reducible rfl
             rotate_left
             ·simp only [Act.put, sT_, sZ_, sS_, i64_w, i32_w]
              rfl
             refine one_ (i := 2) (N := some 45) (demurrageref01_Quot.ups 7 23) rfl rfl (by kernel_rfl) (by decide) (fun K hK => ?_)
             refine goes_ Try.func49 (by kernel_rfl) rfl #[.int .i64 (wrap64 (Int.tdiv (wrap64 (x9_2 + x10_2)) 2))] (by rfl) rfl rfl (by (try simp only [mT_, mC_, mN_]); first | done | rfl) ?_
             with_reducible refine (demurrageref01_From.calls k2 (wrap64 (Int.tdiv (wrap64 (x9_2 + x10_2)) 2)) t295 _ A37.out).mono ?_
             rintro e w48 ⟨v296, rfl, ho0, hb⟩
             refine ⟨_, rfl, ?_⟩
             have HO297 := aA_ (Kd.R_lower (Kd.R_new' (Kd.R_new' ho0 (Kd.R_lt HO_6.out)) (Kd.R_lt HO_272000.out)) (below_size (by repeat (with_reducible first | exact HB.out | apply bA_ | apply bN_ | apply bD_ | refine bS_ ?_ GE264.out | refine bS_ ?_ GE265.out | refine bS_ ?_ GE266.out | refine bS_ ?_ GE267.out | refine bS_ ?_ GE271.out))))
             replace HO_6 := aA_ (Kd.R_elder' HO_6.out (Kd.R_base ho0) hb)
             replace HO_272000 := aA_ (Kd.R_elder' HO_272000.out (Kd.R_base ho0) hb)
             replace BK264 := bK_ BK264 hb
             replace BK265 := bK_ BK265 hb
             replace BK266 := bK_ BK266 hb
             replace BK267 := bK_ BK267 hb
             replace BK271 := bK_ BK271 hb
             replace HB := bB_ (by repeat (with_reducible first | exact HB.out | apply bA_ | apply bN_ | apply bD_ | refine bS_ ?_ GE264.out | refine bS_ ?_ GE265.out | refine bS_ ?_ GE266.out | refine bS_ ?_ GE267.out | refine bS_ ?_ GE271.out)) hb
             (try clear hb)
             (try clear hb2)
             (try clear hk)
             (try clear hi)
             (try clear ho0)
             obtain ⟨Ao49, co49, eo49⟩ := Kd.R_slice HO297.out
             (first | subst eo49 | (injection eo49 with f1_ f2_ f3_; have f4_ := f1_.symm; have f5_ := f3_.symm; clear f1_ f2_ f3_; subst f4_; subst f5_))
             refine hK.out _ _ ⟨(blk_cell BK265.out 0).trans rfl, (blk_cell BK271.out 0).trans rfl⟩ (fun hHeld => ?_)
             clear hK K
             refine norm_ (by show Act.put _ (some 45) _ = _; simp only [Act.put, sT_, sZ_, sS_, i64_w, i32_w] <;> rfl) ?_
             refine one_ (i := 3) (N := some 46) (demurrageref01_Quot.ups 7 31) rfl rfl (by kernel_rfl) (by decide) (fun K hK => ?_)
             refine goes_ Try.func59 (by kernel_rfl) rfl #[.agg #[.slice A1_0 l1_0.length c1_0], .agg #[.slice Ao49 t295.length co49]] (by rfl) rfl rfl (by (try simp only [mT_, mC_, mN_]); first | done | rfl) ?_
             with_reducible refine (demurrageref01_Prod.calls k2 _ _ l1_0 _ _ t295 t298 _ ?side1 ?side2 ?side3 ?side4 A38.out).mono ?_
             (case side1 => repeat (first | exact (Kd.C_below HR1_0.out HB.out) | (with_reducible first | refine Kd.C_alloc ?_ _ | refine Kd.C_drewN ?_ _ | refine Kd.C_drew ?_)))
             (case side2 => exact HC1_0.out)
             (case side3 => repeat (first | exact (Kd.R_reads' HO297.out).2.2 | (with_reducible first | refine Kd.C_alloc ?_ _ | refine Kd.C_drewN ?_ _ | refine Kd.C_drew ?_)))
             (case side4 => exact (Kd.R_reads' HO297.out).2.1)
             rintro e w50 ⟨v299, rfl, ho0, hb⟩
             refine ⟨_, rfl, ?_⟩
             have HO300 := aA_ (Kd.R_lower (Kd.R_new' (Kd.R_new' (Kd.R_new' ho0 (Kd.R_lt HO_6.out)) (Kd.R_lt HO_272000.out)) (Kd.R_lt HO297.out)) (below_size (by repeat (with_reducible first | exact HB.out | apply bA_ | apply bN_ | apply bD_ | refine bS_ ?_ GE264.out | refine bS_ ?_ GE265.out | refine bS_ ?_ GE266.out | refine bS_ ?_ GE267.out | refine bS_ ?_ GE271.out))))
             replace HO_6 := aA_ (Kd.R_elder' HO_6.out (Kd.R_base ho0) hb)
             replace HO_272000 := aA_ (Kd.R_elder' HO_272000.out (Kd.R_base ho0) hb)
             replace HO297 := aA_ (Kd.R_elder' HO297.out (Kd.R_base ho0) hb)
             replace BK264 := bK_ BK264 hb
             replace BK265 := bK_ BK265 hb
             replace BK266 := bK_ BK266 hb
             replace BK267 := bK_ BK267 hb
             replace BK271 := bK_ BK271 hb
             replace HB := bB_ (by repeat (with_reducible first | exact HB.out | apply bA_ | apply bN_ | apply bD_ | refine bS_ ?_ GE264.out | refine bS_ ?_ GE265.out | refine bS_ ?_ GE266.out | refine bS_ ?_ GE267.out | refine bS_ ?_ GE271.out)) hb
             (try clear hb)
             (try clear hb2)
             (try clear hk)
             (try clear hi)
             (try clear ho0)
             obtain ⟨Ao51, co51, eo51⟩ := Kd.R_slice HO300.out
             (first | subst eo51 | (injection eo51 with f1_ f2_ f3_; have f4_ := f1_.symm; have f5_ := f3_.symm; clear f1_ f2_ f3_; subst f4_; subst f5_))
             refine hK.out _ _ ⟨(blk_cell BK265.out 0).trans rfl, (blk_cell BK271.out 0).trans rfl⟩ (fun hHeld => ?_)
             clear hK K
             refine norm_ (by show Act.put _ (some 46) _ = _; simp only [Act.put, sT_, sZ_, sS_, i64_w, i32_w] <;> rfl) ?_
             refine one_ (i := 5) (N := some 48) (demurrageref01_Quot.ups 7 63) rfl rfl (by kernel_rfl) (by decide) (fun K hK => ?_)
             refine goes_ Try.func50 (by kernel_rfl) rfl #[.agg #[.slice Ao51 t298.length co51], .agg #[.slice Ao34 t282.length co34]] (by rfl) rfl rfl (by (try simp only [mT_, mC_, mN_]); first | done | rfl) ?_
             with_reducible refine (demurrageref01_Cmp.calls k2 _ _ t298 _ _ t282 t301 _ ?side1 ?side2 ?side3 ?side4 A39.out).mono ?_
             (case side1 => repeat (first | exact (Kd.R_reads' HO300.out).2.2 | (with_reducible first | refine Kd.C_alloc ?_ _ | refine Kd.C_drewN ?_ _ | refine Kd.C_drew ?_)))
             (case side2 => exact (Kd.R_reads' HO300.out).2.1)
             (case side3 => repeat (first | exact (Kd.R_reads' HO_272000.out).2.2 | (with_reducible first | refine Kd.C_alloc ?_ _ | refine Kd.C_drewN ?_ _ | refine Kd.C_drew ?_)))
             (case side4 => exact (Kd.R_reads' HO_272000.out).2.1)
             rintro e w52 ⟨rfl, hb⟩
             refine ⟨_, rfl, ?_⟩
             replace HO_6 := aA_ (Kd.R_below HO_6.out hb)
             replace HO_272000 := aA_ (Kd.R_below HO_272000.out hb)
             replace HO297 := aA_ (Kd.R_below HO297.out hb)
             replace HO300 := aA_ (Kd.R_below HO300.out hb)
             replace BK264 := bK_ BK264 hb
             replace BK265 := bK_ BK265 hb
             replace BK266 := bK_ BK266 hb
             replace BK267 := bK_ BK267 hb
             replace BK271 := bK_ BK271 hb
             replace HB := bB_ (by repeat (with_reducible first | exact HB.out | apply bA_ | apply bN_ | apply bD_ | refine bS_ ?_ GE264.out | refine bS_ ?_ GE265.out | refine bS_ ?_ GE266.out | refine bS_ ?_ GE267.out | refine bS_ ?_ GE271.out)) hb
             (try clear hb)
             (try clear hb2)
             (try clear hk)
             (try clear hi)
             refine hK.out _ _ ⟨(blk_cell BK265.out 0).trans rfl, (blk_cell BK271.out 0).trans rfl⟩ (fun hHeld => ?_)
             clear hK K
             refine norm_ (by show Act.put _ (some 48) _ = _; simp only [Act.put, sT_, sZ_, sS_, i64_w, i32_w] <;> rfl) ?_
             refine pure_ (i := 6) (N := some 49) (v := ?_) (a' := ?_) (demurrageref01_Quot.ups 7 127) rfl rfl (by kernel_rfl) (fun _ _ _ h => h) (Or.inl ⟨by rfl, ?_⟩) ?_ ?_
             rotate_left
             ·intro w'
              go_simp
              with_reducible rfl
             rotate_left
             ·simp only [Act.put, sT_, sZ_, sS_, i64_w, i32_w]
              rfl
             refine done_ (by kernel_rfl) ?_
             try go_wp2
             go_roundg k2
             case measure => have := HK1.out; have := HK2.out; omega
             case rel => exact ⟨(x9_2), (wrap64 (Int.tdiv (wrap64 (x9_2 + x10_2)) 2)), (by first | rfl | simp | simp [*]), (by first | rfl | simp | simp [*]), H', ⟨by have := HK1.out; have := HK2.out; omega⟩, ⟨by (with_reducible repeat (first | apply Kd.R_alloc | apply Kd.R_drewN | apply Kd.R_drew)); exact Kd.R_mono HO_6.out (fun _ hk => hk.1.1)⟩, ⟨by (with_reducible repeat (first | apply Kd.R_alloc | apply Kd.R_drewN | apply Kd.R_drew)); exact Kd.R_mono HO_272000.out (fun _ hk => hk.1.1)⟩, ⟨by exact BK264.out⟩, ⟨by exact BK265.out⟩, ⟨by exact BK266.out⟩, ⟨by exact BK267.out⟩, ⟨by exact BK271.out⟩, ⟨by repeat (with_reducible first | exact HB.out | apply bA_ | apply bN_ | apply bD_ | refine bS_ ?_ GE264.out | refine bS_ ?_ GE265.out | refine bS_ ?_ GE266.out | refine bS_ ?_ GE267.out | refine bS_ ?_ GE271.out)⟩⟩
           ·rw [if_neg c36] at H
            have c36b0 : decide (1 < (wrap64 (x10_2 - x9_2))) = false := decide_eq_false c36
            clear c36
            by_cases c53 : 0 ≤ x8_1
            ·rw [if_pos c53] at H
             have c53b0 : decide (0 ≤ x8_1) = true := decide_eq_true c53
             clear c53
             by_cases c54 : x8_1 < (x6_1.length : Int)
             ·rw [if_pos c54] at H
              have c54b0 : decide (x8_1 < (x6_1.length : Int)) = true := decide_eq_true c54
              clear c54
              obtain ⟨y285, hy285⟩ : ∃ y_ : List Int, y_ = (x6_1.set (x8_1 : Int).toNat x9_2) := ⟨_, rfl⟩
              replace H : ((demurrageref01_From.f k2 x9_2).bind fun t286 => ((demurrageref01_Prod.f k2 l1_0 t286).bind fun t289 => ((demurrageref01_Less.f k2 t282 t289).bind fun t292 => (demurrageref01_Quot.l0 k2 y285 (wrap64 (x8_1 - 1)) l0_0 l1_0 t292)))) = some (r1, r2) := by first | (rw [hy285]; with_reducible exact H) | (have H2_ := (Option.bind_some _ _).symm.trans H; rw [hy285]; with_reducible exact H2_) | (have H2_ := (Option.bind_some _ _).symm.trans H; with_reducible exact H2_) | with_reducible exact H | (rw [hy285]; exact H) | exact H
              have Ny285 := aA_ hy285
              clear hy285
              replace H := bI_ H
              obtain ⟨t286, A560, H⟩ := H
              (try dsimp only at H)
              have A56 := aA_ A560
              clear A560
              replace H := bI_ H
              obtain ⟨t289, A570, H⟩ := H
              (try dsimp only at H)
              have A57 := aA_ A570
              clear A570
              replace H := bI_ H
              obtain ⟨t292, A580, H⟩ := H
              (try dsimp only at H)
              have A58 := aA_ A580
              clear A580
              have H' := aA_ H
              clear H
              have p55 : 0 ≤ (x8_1 : Int) := of_decide_eq_true (by first | (with_reducible assumption) | assumption)
              have q55 : (x8_1 : Int) < ((x6_1.length : Int) : Int) := of_decide_eq_true (by first | (with_reducible assumption) | assumption)
              obtain ⟨go55, co55, eo55, gb55, gl55, cl55, HG55⟩ := Kd.R_form HO_6.out (by omega)
              (first | cases eo55 | (injection eo55 with ea_ en_ ec_; (first | subst ea_ | (injection ea_ with ea_; subst ea_)); subst ec_; clear en_))
              have GB55 := aA_ gb55
              have GG55 := aA_ HG55
              clear gb55 gl55 HG55
              obtain ⟨hx55_0, hf55_0⟩ := Kd.R_celln 0 HO_6.out (x8_1 : Int) p55 q55
              replace p55 := eq_true p55
              replace q55 := eq_true q55
              have HP59 := Kd.R_putg HO_6.out (x8_1 : Int) x9_2
              try go_wp2_with (first | ((with_reducible refine gate_store (t := 3) (p := 55) rfl ?_); refine store_event (t := 3) (p := 55) (v := ?vo_w60) (w1 := (wr.setCell ⟨go55, (x8_1 : Int).toNat, none⟩ (.int .i64 x9_2))) ?hg ?ho ?hn ?hr ?_; (case ho => rfl); (case hg => rfl); (case hn => rfl); (case hr => go_simp <;> rfl); intro w60 hw; have hg : wr.grownBy w60 (some go55) := (by rw [hw]; exact HP59.2); have hp_ : Kd.R (Kd.int .i64) 3 w60 w.heap.size (fun k_ => some k_ ≠ (.slice Ao34 t282.length co34 : Value).ownBlock) (.slice (some ⟨go55, 0, none⟩) x6_1.length co55) y285 := (by rw [hw, Ny285.out]; exact HP59.1); clear HP59; replace HO_272000 := aA_ (Kd.R_after (v := (.slice (some ⟨go55, 0, none⟩) x6_1.length co55)) (v1 := (.slice (some ⟨go55, 0, none⟩) x6_1.length co55)) (ok := (fun _ => True)) (by (with_reducible repeat (first | apply Kd.R_alloc | apply Kd.R_drewN | apply Kd.R_drew)); exact Kd.R_mono HO_272000.out (fun _ hk => (And.intro (trivial) (hk)))) hg (.inl rfl)); replace BK264 := aA_ (blk_grown (g := gb264) (o := .cells #[.slice (some ad275) l0_0.length c0_0] 98 (0, 0)) BK264.out hg (Kd.R_ne HO_6.out BK264.out (by decide))); replace BK265 := aA_ (blk_grown (g := gb265) (o := .cells #[.slice A1_0 l1_0.length c1_0] 98 (0, 0)) BK265.out hg (Kd.R_ne HO_6.out BK265.out (by decide))); replace BK266 := aA_ (blk_grown (g := gb266) (o := .cells #[.slice none 0 0] 98 (0, 0)) BK266.out hg (Kd.R_ne HO_6.out BK266.out (by decide))); replace BK267 := aA_ (blk_grown (g := gb267) (o := .cells #[.slice none 0 0] 98 (0, 0)) BK267.out hg (Kd.R_ne HO_6.out BK267.out (by decide))); replace BK271 := aA_ (blk_grown (g := gb271) (o := .cells #[.slice Ao34 t282.length co34] 98 (0, 0)) BK271.out hg (Kd.R_ne HO_6.out BK271.out (by decide))); replace HO_6 := aA_ (hp_); replace HB := aA_ ((by rw [hw]; exact below_set (HB.out) GB55.out : Below w.heap.size w w60)); clear hg hw hp_))
              replace HO_6 := aA_ (Kd.R_drew HO_6.out)
              replace HO_272000 := aA_ (Kd.R_drew HO_272000.out)
              replace BK264 := aA_ (blk_drew BK264.out)
              replace BK265 := aA_ (blk_drew BK265.out)
              replace BK266 := aA_ (blk_drew BK266.out)
              replace BK267 := aA_ (blk_drew BK267.out)
              replace BK271 := aA_ (blk_drew BK271.out)
              replace HB := aA_ (below_drew1 HB.out)
              refine start_ (n := 7) (S := fun w' => w'.cell? ⟨gb271, 0, none⟩ = some (.slice Ao34 t282.length co34) ∧ w'.cell? ⟨gb265, 0, none⟩ = some (.slice A1_0 l1_0.length c1_0)) (ds := [6]) (demurrageref01_Quot.ups 7 0) (by kernel_rfl) rfl rfl ⟨(blk_cell BK271.out 0).trans rfl, (blk_cell BK265.out 0).trans rfl⟩ (fun hHeld => ?_)
              generalize w60.drew = w61 at HO_6 HO_272000 BK264 BK265 BK266 BK267 BK271 HB hHeld ⊢
              refine pure_ (i := 2) (N := some 58) (v := ?_) (a' := ?_) (demurrageref01_Quot.ups 7 4) rfl rfl (by kernel_rfl) (fun _ _ _ h => h) (Or.inl ⟨by rfl, ?_⟩) ?_ ?_
              rotate_left
              ·intro w'
               go_simp
               with_reducible rfl
              rotate_left
              ·simp only [Act.put, sT_, sZ_, sS_, i64_w, i32_w]
               rfl
              refine take_ (i := 0) (N := some 56) (v := ?_) (a' := ?_) (demurrageref01_Quot.ups 7 5) rfl rfl (by kernel_rfl) (fun _ _ _ h => h) (Or.inl ⟨by rfl, ?_⟩) hHeld ?_ ?_
              rotate_left
              ·rintro w' ⟨s0, s1⟩
               go_simp
               with_reducible rfl
              rotate_left
              ·simp only [Act.put, sT_, sZ_, sS_, i64_w, i32_w]
               rfl
              refine take_ (i := 1) (N := some 57) (v := ?_) (a' := ?_) (demurrageref01_Quot.ups 7 7) rfl rfl (by kernel_rfl) (fun _ _ _ h => h) (Or.inl ⟨by rfl, ?_⟩) hHeld ?_ ?_
              rotate_left
              ·rintro w' ⟨s0, s1⟩
               go_simp
               with_reducible rfl
              rotate_left
              ·simp only [Act.put, sT_, sZ_, sS_, i64_w, i32_w]
               rfl
              refine one_ (i := 3) (N := some 59) (demurrageref01_Quot.ups 7 15) rfl rfl (by kernel_rfl) (by decide) (fun K hK => ?_)
              refine goes_ Try.func49 (by kernel_rfl) rfl #[.int .i64 x9_2] (by rfl) rfl rfl (by (try simp only [mT_, mC_, mN_]); first | done | rfl) ?_
              with_reducible refine (demurrageref01_From.calls k2 x9_2 t286 _ A56.out).mono ?_
              rintro e w62 ⟨v287, rfl, ho0, hb⟩
              refine ⟨_, rfl, ?_⟩
              have HO288 := aA_ (Kd.R_lower (Kd.R_new' (Kd.R_new' ho0 (Kd.R_lt HO_6.out)) (Kd.R_lt HO_272000.out)) (below_size (by repeat (with_reducible first | exact HB.out | apply bA_ | apply bN_ | apply bD_ | refine bS_ ?_ GE264.out | refine bS_ ?_ GE265.out | refine bS_ ?_ GE266.out | refine bS_ ?_ GE267.out | refine bS_ ?_ GE271.out))))
              replace HO_6 := aA_ (Kd.R_elder' HO_6.out (Kd.R_base ho0) hb)
              replace HO_272000 := aA_ (Kd.R_elder' HO_272000.out (Kd.R_base ho0) hb)
              replace BK264 := bK_ BK264 hb
              replace BK265 := bK_ BK265 hb
              replace BK266 := bK_ BK266 hb
              replace BK267 := bK_ BK267 hb
              replace BK271 := bK_ BK271 hb
              replace HB := bB_ (by repeat (with_reducible first | exact HB.out | apply bA_ | apply bN_ | apply bD_ | refine bS_ ?_ GE264.out | refine bS_ ?_ GE265.out | refine bS_ ?_ GE266.out | refine bS_ ?_ GE267.out | refine bS_ ?_ GE271.out)) hb
              (try clear hb)
              (try clear hb2)
              (try clear hk)
              (try clear hi)
              (try clear ho0)
              obtain ⟨Ao63, co63, eo63⟩ := Kd.R_slice HO288.out
              (first | subst eo63 | (injection eo63 with f1_ f2_ f3_; have f4_ := f1_.symm; have f5_ := f3_.symm; clear f1_ f2_ f3_; subst f4_; subst f5_))
              refine hK.out _ _ ⟨(blk_cell BK271.out 0).trans rfl, (blk_cell BK265.out 0).trans rfl⟩ (fun hHeld => ?_)
              clear hK K
              refine norm_ (by show Act.put _ (some 59) _ = _; simp only [Act.put, sT_, sZ_, sS_, i64_w, i32_w] <;> rfl) ?_
              refine one_ (i := 4) (N := some 60) (demurrageref01_Quot.ups 7 31) rfl rfl (by kernel_rfl) (by decide) (fun K hK => ?_)
              refine goes_ Try.func59 (by kernel_rfl) rfl #[.agg #[.slice A1_0 l1_0.length c1_0], .agg #[.slice Ao63 t286.length co63]] (by rfl) rfl rfl (by (try simp only [mT_, mC_, mN_]); first | done | rfl) ?_
              with_reducible refine (demurrageref01_Prod.calls k2 _ _ l1_0 _ _ t286 t289 _ ?side1 ?side2 ?side3 ?side4 A57.out).mono ?_
              (case side1 => repeat (first | exact (Kd.C_below HR1_0.out HB.out) | (with_reducible first | refine Kd.C_alloc ?_ _ | refine Kd.C_drewN ?_ _ | refine Kd.C_drew ?_)))
              (case side2 => exact HC1_0.out)
              (case side3 => repeat (first | exact (Kd.R_reads' HO288.out).2.2 | (with_reducible first | refine Kd.C_alloc ?_ _ | refine Kd.C_drewN ?_ _ | refine Kd.C_drew ?_)))
              (case side4 => exact (Kd.R_reads' HO288.out).2.1)
              rintro e w64 ⟨v290, rfl, ho0, hb⟩
              refine ⟨_, rfl, ?_⟩
              have HO291 := aA_ (Kd.R_lower (Kd.R_new' (Kd.R_new' (Kd.R_new' ho0 (Kd.R_lt HO_6.out)) (Kd.R_lt HO_272000.out)) (Kd.R_lt HO288.out)) (below_size (by repeat (with_reducible first | exact HB.out | apply bA_ | apply bN_ | apply bD_ | refine bS_ ?_ GE264.out | refine bS_ ?_ GE265.out | refine bS_ ?_ GE266.out | refine bS_ ?_ GE267.out | refine bS_ ?_ GE271.out))))
              replace HO_6 := aA_ (Kd.R_elder' HO_6.out (Kd.R_base ho0) hb)
              replace HO_272000 := aA_ (Kd.R_elder' HO_272000.out (Kd.R_base ho0) hb)
              replace HO288 := aA_ (Kd.R_elder' HO288.out (Kd.R_base ho0) hb)
              replace BK264 := bK_ BK264 hb
              replace BK265 := bK_ BK265 hb
              replace BK266 := bK_ BK266 hb
              replace BK267 := bK_ BK267 hb
              replace BK271 := bK_ BK271 hb
              replace HB := bB_ (by repeat (with_reducible first | exact HB.out | apply bA_ | apply bN_ | apply bD_ | refine bS_ ?_ GE264.out | refine bS_ ?_ GE265.out | refine bS_ ?_ GE266.out | refine bS_ ?_ GE267.out | refine bS_ ?_ GE271.out)) hb
              (try clear hb)
              (try clear hb2)
              (try clear hk)
              (try clear hi)
              (try clear ho0)
              obtain ⟨Ao65, co65, eo65⟩ := Kd.R_slice HO291.out
              (first | subst eo65 | (injection eo65 with f1_ f2_ f3_; have f4_ := f1_.symm; have f5_ := f3_.symm; clear f1_ f2_ f3_; subst f4_; subst f5_))
              refine hK.out _ _ ⟨(blk_cell BK271.out 0).trans rfl, (blk_cell BK265.out 0).trans rfl⟩ (fun hHeld => ?_)
              clear hK K
              refine norm_ (by show Act.put _ (some 60) _ = _; simp only [Act.put, sT_, sZ_, sS_, i64_w, i32_w] <;> rfl) ?_
              refine one_ (i := 5) (N := some 61) (demurrageref01_Quot.ups 7 63) rfl rfl (by kernel_rfl) (by decide) (fun K hK => ?_)
              refine goes_ Try.func79 (by kernel_rfl) rfl #[.agg #[.slice Ao34 t282.length co34], .agg #[.slice Ao65 t289.length co65]] (by rfl) rfl rfl (by (try simp only [mT_, mC_, mN_]); first | done | rfl) ?_
              with_reducible refine (demurrageref01_Less.calls k2 _ _ t282 _ _ t289 t292 _ ?side1 ?side2 ?side3 ?side4 A58.out).mono ?_
              (case side1 => repeat (first | exact (Kd.R_reads' HO_272000.out).2.2 | (with_reducible first | refine Kd.C_alloc ?_ _ | refine Kd.C_drewN ?_ _ | refine Kd.C_drew ?_)))
              (case side2 => exact (Kd.R_reads' HO_272000.out).2.1)
              (case side3 => repeat (first | exact (Kd.R_reads' HO291.out).2.2 | (with_reducible first | refine Kd.C_alloc ?_ _ | refine Kd.C_drewN ?_ _ | refine Kd.C_drew ?_)))
              (case side4 => exact (Kd.R_reads' HO291.out).2.1)
              rintro e w66 ⟨v293, rfl, ho0, hb⟩
              refine ⟨_, rfl, ?_⟩
              have HO294 := aA_ (Kd.R_lower (Kd.R_new' (Kd.R_new' (Kd.R_new' (Kd.R_new' ho0 (Kd.R_lt HO_6.out)) (Kd.R_lt HO_272000.out)) (Kd.R_lt HO288.out)) (Kd.R_lt HO291.out)) (below_size (by repeat (with_reducible first | exact HB.out | apply bA_ | apply bN_ | apply bD_ | refine bS_ ?_ GE264.out | refine bS_ ?_ GE265.out | refine bS_ ?_ GE266.out | refine bS_ ?_ GE267.out | refine bS_ ?_ GE271.out))))
              replace HO_6 := aA_ (Kd.R_elder' HO_6.out (Kd.R_base ho0) hb)
              replace HO_272000 := aA_ (Kd.R_elder' HO_272000.out (Kd.R_base ho0) hb)
              replace HO288 := aA_ (Kd.R_elder' HO288.out (Kd.R_base ho0) hb)
              replace HO291 := aA_ (Kd.R_elder' HO291.out (Kd.R_base ho0) hb)
              replace BK264 := bK_ BK264 hb
              replace BK265 := bK_ BK265 hb
              replace BK266 := bK_ BK266 hb
              replace BK267 := bK_ BK267 hb
              replace BK271 := bK_ BK271 hb
              replace HB := bB_ (by repeat (with_reducible first | exact HB.out | apply bA_ | apply bN_ | apply bD_ | refine bS_ ?_ GE264.out | refine bS_ ?_ GE265.out | refine bS_ ?_ GE266.out | refine bS_ ?_ GE267.out | refine bS_ ?_ GE271.out)) hb
              (try clear hb)
              (try clear hb2)
              (try clear hk)
              (try clear hi)
              (try clear ho0)
              obtain ⟨Ao67, co67, eo67⟩ := Kd.R_slice HO294.out
              (first | subst eo67 | (injection eo67 with f1_ f2_ f3_; have f4_ := f1_.symm; have f5_ := f3_.symm; clear f1_ f2_ f3_; subst f4_; subst f5_))
              refine hK.out _ _ ⟨(blk_cell BK271.out 0).trans rfl, (blk_cell BK265.out 0).trans rfl⟩ (fun hHeld => ?_)
              clear hK K
              refine norm_ (by show Act.put _ (some 61) _ = _; simp only [Act.put, sT_, sZ_, sS_, i64_w, i32_w] <;> rfl) ?_
              refine last_ (i := 6) (N := none) (demurrageref01_Quot.ups 7 127) rfl rfl (by kernel_rfl) (by decide) (fun K hK => ?_)
              have hs68 : w66.cell? ⟨gb271, 0, none⟩ = some (.slice Ao34 t282.length co34) := (blk_cell BK271.out 0).trans rfl
              have hfs68 := blk_frozen BK271.out 0
              have hns68_0 := NB264_271.out
              have hns68_1 := NB265_271.out
              have hns68_2 := NB266_271.out
              have hns68_3 := NB267_271.out
              have hms68_0 := NB271_264.out
              have hms68_1 := NB271_265.out
              have hms68_2 := NB271_266.out
              have hms68_3 := NB271_267.out
              refine skip_ (w1 := ?_) (by rfl) rfl ?_ ?_
              rotate_left
              ·go_simp
               rfl
              refine hK.out _ _ ?_
              clear hK K
              refine done_ (by kernel_rfl) ?_
              try go_wp2
              go_roundg k2
              case measure => have := HK1.out; have := HK2.out; omega
              case rel => exact ⟨(y285), (wrap64 (x8_1 - 1)), (t292), (.slice Ao67 t292.length co67), (by first | rfl | simp | simp [*]), H', ⟨by have := HK1.out; have := HK2.out; omega⟩, ⟨by (with_reducible repeat (first | apply Kd.R_alloc | apply Kd.R_drewN | apply Kd.R_drew)); exact Kd.R_mono (Kd.R_far (p := ⟨gb271, 0, none⟩) (Kd.R_types HO_6.out BK271.out (by decide)) (fun _ hk => hk.2) (.slice Ao67 t292.length co67)) (fun _ hk => hk.1.2)⟩, ⟨by (with_reducible repeat (first | apply Kd.R_alloc | apply Kd.R_drewN | apply Kd.R_drew)); exact Kd.R_mono (Kd.R_far (p := ⟨gb271, 0, none⟩) (Kd.R_types HO294.out BK271.out (by decide)) (fun _ hk => hk.2) (.slice Ao67 t292.length co67)) (fun _ hk => hk.1.1.1.1.2)⟩, ⟨by refine blk_far ?_ NB264_271.out _; exact BK264.out⟩, ⟨by refine blk_far ?_ NB265_271.out _; exact BK265.out⟩, ⟨by refine blk_far ?_ NB266_271.out _; exact BK266.out⟩, ⟨by refine blk_far ?_ NB267_271.out _; exact BK267.out⟩, ⟨by refine blk_put (cs := #[.slice Ao34 t282.length co34]) ?_ 0 _ rfl; exact BK271.out⟩, ⟨by repeat (with_reducible first | exact HB.out | apply bA_ | apply bN_ | apply bD_ | refine bS_ ?_ GE264.out | refine bS_ ?_ GE265.out | refine bS_ ?_ GE266.out | refine bS_ ?_ GE267.out | refine bS_ ?_ GE271.out)⟩⟩
             ·rw [if_neg c54] at H
              exact absurd H (by simp)
            ·rw [if_neg c53] at H
             exact absurd H (by simp)
        ·rw [if_neg c25] at H
         exact absurd H (by simp)
       ·rw [if_neg c24] at H
        exact absurd H (by simp)
      ·rw [if_neg c23] at H
       exact absurd H (by simp)
     ·rw [if_neg c22] at H
      have c22b0 : decide (0 ≤ x8_1) = false := decide_eq_false c22
      clear c22
      replace H := bI_ H
      obtain ⟨t272, A690, H⟩ := H
      (try dsimp only at H)
      have A69 := aA_ A690
      clear A690
      simp only [Option.some.injEq, Prod.mk.injEq] at H
      obtain ⟨rfl, rfl⟩ := H
      try go_wp2
      replace HO_6 := aA_ (Kd.R_drew HO_6.out)
      replace HO_272000 := aA_ (Kd.R_drew HO_272000.out)
      replace BK264 := aA_ (blk_drew BK264.out)
      replace BK265 := aA_ (blk_drew BK265.out)
      replace BK266 := aA_ (blk_drew BK266.out)
      replace BK267 := aA_ (blk_drew BK267.out)
      replace BK271 := aA_ (blk_drew BK271.out)
      replace HB := aA_ (below_drew1 HB.out)
      obtain ⟨Ao71, co71, eo71⟩ := Kd.R_slice HO_6.out
      (first | subst eo71 | (injection eo71 with f1_ f2_ f3_; have f4_ := f1_.symm; have f5_ := f3_.symm; clear f1_ f2_ f3_; subst f4_; subst f5_))
      refine start_ (n := 5) (S := fun w' => w'.cell? ⟨gb271, 0, none⟩ = some (u272000)) (ds := []) #[false, false, false, false, false] (by kernel_rfl) rfl rfl ((blk_cell BK271.out 0).trans rfl) (fun hHeld => ?_)
      generalize wr.drew = w70 at HO_6 HO_272000 BK264 BK265 BK266 BK267 BK271 HB hHeld ⊢
      refine pure_ (i := 0) (N := some 62) (v := ?_) (a' := ?_) #[true, false, false, false, false] rfl rfl (by kernel_rfl) (fun _ _ _ h => h) (Or.inl ⟨by rfl, ?_⟩) ?_ ?_
      rotate_left
      ·intro w'
       go_simp
       with_reducible rfl
      rotate_left
      ·simp only [Act.put, sT_, sZ_, sS_, i64_w, i32_w]
       rfl
      refine take_ (i := 2) (N := some 64) (v := ?_) (a' := ?_) #[true, false, true, false, false] rfl rfl (by kernel_rfl) (fun _ _ _ h => h) (Or.inl ⟨by rfl, ?_⟩) hHeld ?_ ?_
      rotate_left
      ·intro w' s0
       go_simp
       with_reducible rfl
      rotate_left
      ·simp only [Act.put, sT_, sZ_, sS_, i64_w, i32_w]
       rfl
      refine one_ (i := 1) (N := some 63) #[true, true, true, false, false] rfl rfl (by kernel_rfl) (by decide) (fun K hK => ?_)
      refine goes_ Try.func73 (by kernel_rfl) rfl #[.slice Ao71 x6_1.length co71] (by rfl) rfl rfl (by (try simp only [mT_, mC_, mN_]); first | done | rfl) ?_
      with_reducible refine (demurrageref01_trim.calls _ _ x6_1 t272 _ ?side1 ?side2 A69.out).mono ?_
      (case side1 => repeat (first | exact (Kd.R_reads' HO_6.out).2.2 | (with_reducible first | refine Kd.C_alloc ?_ _ | refine Kd.C_drewN ?_ _ | refine Kd.C_drew ?_)))
      (case side2 => exact (Kd.R_reads' HO_6.out).2.1)
      rintro e w72 ⟨v273, rfl, ho0, hb⟩
      refine ⟨_, rfl, ?_⟩
      have HO274 := aA_ (Kd.R_lower (Kd.R_new' (Kd.R_new' ho0 (Kd.R_lt HO_6.out)) (Kd.R_lt HO_272000.out)) (below_size (by repeat (with_reducible first | exact HB.out | apply bA_ | apply bN_ | apply bD_ | refine bS_ ?_ GE264.out | refine bS_ ?_ GE265.out | refine bS_ ?_ GE266.out | refine bS_ ?_ GE267.out | refine bS_ ?_ GE271.out))))
      replace HO_6 := aA_ (Kd.R_elder' HO_6.out (Kd.R_base ho0) hb)
      replace HO_272000 := aA_ (Kd.R_elder' HO_272000.out (Kd.R_base ho0) hb)
      replace BK264 := bK_ BK264 hb
      replace BK265 := bK_ BK265 hb
      replace BK266 := bK_ BK266 hb
      replace BK267 := bK_ BK267 hb
      replace BK271 := bK_ BK271 hb
      replace HB := bB_ (by repeat (with_reducible first | exact HB.out | apply bA_ | apply bN_ | apply bD_ | refine bS_ ?_ GE264.out | refine bS_ ?_ GE265.out | refine bS_ ?_ GE266.out | refine bS_ ?_ GE267.out | refine bS_ ?_ GE271.out)) hb
      (try clear hb)
      (try clear hb2)
      (try clear hk)
      (try clear hi)
      (try clear ho0)
      obtain ⟨Ao73, co73, eo73⟩ := Kd.R_slice HO274.out
      (first | subst eo73 | (injection eo73 with f1_ f2_ f3_; have f4_ := f1_.symm; have f5_ := f3_.symm; clear f1_ f2_ f3_; subst f4_; subst f5_))
      obtain ⟨Ao75, co75, eo75⟩ := Kd.R_slice HO_272000.out
      (first | subst eo75 | (injection eo75 with f1_ f2_ f3_; have f4_ := f1_.symm; have f5_ := f3_.symm; clear f1_ f2_ f3_; subst f4_; subst f5_))
      refine hK.out _ _ ((blk_cell BK271.out 0).trans rfl) (fun hHeld => ?_)
      clear hK K
      refine norm_ (by show Act.put _ (some 63) _ = _; simp only [Act.put, sT_, sZ_, sS_, i64_w, i32_w] <;> rfl) ?_
      refine one_ (i := 3) (N := none) #[true, true, true, true, false] rfl rfl (by kernel_rfl) (by decide) (fun K hK => ?_)
      have hs74 : w72.cell? ⟨gb266, 0, none⟩ = some (.slice none 0 0) := (blk_cell BK266.out 0).trans rfl
      have hfs74 := blk_frozen BK266.out 0
      have hns74_0 := NB264_266.out
      have hns74_1 := NB265_266.out
      have hns74_3 := NB267_266.out
      have hns74_4 := NB271_266.out
      have hms74_0 := NB266_264.out
      have hms74_1 := NB266_265.out
      have hms74_3 := NB266_267.out
      have hms74_4 := NB266_271.out
      refine skip_ (w1 := ?_) (by rfl) rfl ?_ ?_
      rotate_left
      ·go_simp
       rfl
      refine hK.out _ _ (((cell_far (p := ⟨gb266, _, none⟩) NB271_266.out _).trans (hHeld))) (fun hHeld => ?_)
      clear hK K
      refine one_ (i := 4) (N := none) #[true, true, true, true, true] rfl rfl (by kernel_rfl) (by decide) (fun K hK => ?_)
      have hs76 : w72.cell? ⟨gb267, 0, none⟩ = some (.slice none 0 0) := (blk_cell BK267.out 0).trans rfl
      have hfs76 := blk_frozen BK267.out 0
      have hns76_0 := NB264_267.out
      have hns76_1 := NB265_267.out
      have hns76_2 := NB266_267.out
      have hns76_4 := NB271_267.out
      have hms76_0 := NB267_264.out
      have hms76_1 := NB267_265.out
      have hms76_2 := NB267_266.out
      have hms76_4 := NB267_271.out
      refine skip_ (w1 := ?_) (by rfl) rfl ?_ ?_
      rotate_left
      ·go_simp
       rfl
      refine hK.out _ _ (((cell_far (p := ⟨gb267, _, none⟩) NB271_267.out _).trans (hHeld))) (fun hHeld => ?_)
      clear hK K
      refine done_ (by kernel_rfl) ?_
      try go_wp2
      refine bodyPost_ret (results_cc rfl _ _ gb266 gb267 98 98 #[.slice Ao73 t272.length co73] #[.slice Ao75 x272000_1.length co75] (0, 0) (0, 0) _ _ rfl (by refine blk_far ?_ NB266_267.out _; refine blk_put (cs := #[.slice none 0 0]) ?_ 0 _ rfl; exact BK266.out) Try.underlying98 rfl (by kernel_rfl) rfl (by refine blk_put (cs := #[.slice none 0 0]) ?_ 0 _ rfl; refine blk_far ?_ NB267_266.out _; exact BK267.out) Try.underlying98 rfl (by kernel_rfl)) rfl ?_
      exact ⟨_, _, by rfl, by (with_reducible repeat (first | apply Kd.R_alloc | apply Kd.R_drewN | apply Kd.R_drew)); exact Kd.R_mono (Kd.R_far (p := ⟨gb267, 0, none⟩) (Kd.R_far (p := ⟨gb266, 0, none⟩) (Kd.R_types (Kd.R_types HO274.out BK266.out (by decide)) BK267.out (by decide)) (fun _ hk => hk.1.2) (.slice Ao73 t272.length co73)) (fun _ hk => hk.2) (.slice Ao75 x272000_1.length co75)) (fun _ hk => hk.1.1.2), by (with_reducible repeat (first | apply Kd.R_alloc | apply Kd.R_drewN | apply Kd.R_drew)); exact Kd.R_mono (Kd.R_far (p := ⟨gb267, 0, none⟩) (Kd.R_far (p := ⟨gb266, 0, none⟩) (Kd.R_types (Kd.R_types HO_272000.out BK266.out (by decide)) BK267.out (by decide)) (fun _ hk => hk.1.2) (.slice Ao73 t272.length co73)) (fun _ hk => hk.2) (.slice Ao75 x272000_1.length co75)) (fun _ hk => hk.1.1.2), by repeat (with_reducible first | exact HB.out | apply bA_ | apply bN_ | apply bD_ | refine bS_ ?_ GE264.out | refine bS_ ?_ GE265.out | refine bS_ ?_ GE266.out | refine bS_ ?_ GE267.out | refine bS_ ?_ GE271.out)⟩
  ·rw [if_neg c4] at H
   exact absurd H (by simp)
 ·rw [if_neg c3] at H
  exact absurd H (by simp)

end Go.Proofs.Yteikafepdkijdaa.X
