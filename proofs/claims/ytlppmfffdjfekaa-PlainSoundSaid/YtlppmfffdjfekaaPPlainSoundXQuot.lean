-- cut by prune.py, a program of this session
import Derived.Test.YtlppmfffdjfekaaPPlainSoundX0
import Derived.Test.YtlppmfffdjfekaaPPlainSoundXBig
import Derived.Test.YtlppmfffdjfekaaPPlainSoundHTrim
namespace Go.Proofs.Ytlppmfffdjfekaa.X
open Go.RowKit Go.Proofs.YtlppmfffdjfekaaW.PrintWords Go.Proofs.YtlppmfffdjfekaaW.PrintLast Go.Proofs.YtlppmfffdjfekaaW.PrintMore
set_option linter.unusedVariables false
set_option linter.unusedSimpArgs false

def demurrageref01_Quot.upsl : Nat → Nat → List Bool
 | 0, _ => []
 | n + 1, m => (m % 2 == 1) :: demurrageref01_Quot.upsl n (m / 2)
def demurrageref01_Quot.ups (n m : Nat) : Array Bool := ⟨demurrageref01_Quot.upsl n m⟩
def demurrageref01_From.f (k : Nat) (a0 : Int) : Option (List Int) := (demurrageref01_FromU.f k (IntKind.u64.wrap (a0))).bind fun t166 => (some t166)
set_option maxHeartbeats 8000000 in
set_option maxRecDepth 100000 in
theorem demurrageref01_From.calls (k : Nat) (a0 : Int) (r : List Int) (w : World) (h : demurrageref01_From.f k a0 = some r) :
  Calls Try.prog 30 #[.int .i64 a0] w fun e w' => ∃ v0_ : Value, e = .returned (.agg #[v0_]) ∧ Kd.R (Kd.int .i64) 3 w' w.heap.size (fun _ => True) v0_ r ∧ Below w.heap.size w w' := by
 have hu61 := Try.underlying61
 have HB := Aside0.mk (Below.refl w.heap.size w)
 have H : ((demurrageref01_FromU.f k (IntKind.u64.wrap (a0))).bind fun t166 => (some t166)) = some r := h
 clear h
 replace H := Option.bind_eq_some_iff.mp H
 obtain ⟨t166, A20, H⟩ := H
 (try dsimp only at H)
 have A2 := Aside0.mk A20
 clear A20
 obtain rfl := Option.some.inj H
 go_enter Try.func30, Try.ntmps30
 go_wp2_with (first | ((with_reducible refine gate_dst (N := 2) rfl ?_); refine box_event ?hg (N := 2) ?hd (cs := #[.slice none 0 0]) (t := 61) ?hr ?_; (case hd => rfl); (case hg => rfl); (case hr => first | (go_simp; done) | (go_simp; rfl)); intro gb165 hg w3 hbox hb; have BK165 := Aside0.mk (hbox); have GW165 := Aside0.mk ((by rw [hg]; exact (below_size (by repeat (first | (with_reducible first | exact HB.out | apply bA_ | apply bN_ | apply bD_) | exact HB.out))) : w.heap.size ≤ gb165)); have GE165 := GW165; replace HB := Aside0.mk (below_step (by repeat (first | (with_reducible first | exact HB.out | apply bA_ | apply bN_ | apply bD_) | exact HB.out)) hb); clear hb hbox hg) | ((with_reducible refine gate_callee (f := 31) rfl ?_); refine goesL_ (some 5) rfl rfl Try.func31 (by kernel_rfl) rfl #[.int .u64 (IntKind.u64.wrap (a0))] rfl (by (try simp only [List.map_toArray, List.map_cons, List.map_nil]); first | done | rfl) ?_; (with_reducible refine (demurrageref01_FromU.calls k (IntKind.u64.wrap (a0)) t166 _ A2.out).mono ?_); rintro e w4 ⟨v167, rfl, ho0, hb⟩; refine ⟨_, rfl, ?_⟩; have HO168 := Aside0.mk (Kd.R_lower ho0 (below_size (by repeat (first | (with_reducible first | exact HB.out | apply bA_ | apply bN_ | apply bD_ | refine bS_ ?_ GE165.out) | exact HB.out)))); replace BK165 := bK_ BK165 hb; replace HB := Aside0.mk (below_step (by repeat (first | (with_reducible first | exact HB.out | apply bA_ | apply bN_ | apply bD_ | refine bS_ ?_ GE165.out) | exact HB.out)) hb); (try clear hb); (try clear ho0); obtain ⟨Ao5, co5, eo5⟩ := Kd.R_slice HO168.out; subst eo5; have hcz6_0 : w4.cell? ⟨gb165, 0, none⟩ = some (.slice none 0 0) := (blk_cell BK165.out 0).trans rfl; have hfz6_0 := blk_frozen BK165.out 0))
 refine bodyPost_ret (results_cell_row rfl _ _ gb165 61 #[.slice Ao5 t166.length co5] (0, 0) _ rfl (by refine blk_put (cs := #[.slice none 0 0]) ?_ 0 _ rfl; exact BK165.out) Try.underlying61 rfl (by kernel_rfl)) rfl ?_
 exact ⟨_, by rfl, by (with_reducible repeat (first | apply Kd.R_alloc | apply Kd.R_drewN | apply Kd.R_drew)); exact Kd.R_mono (Kd.R_far (p := ⟨gb165, 0, none⟩) (Kd.R_types HO168.out BK165.out (by decide)) (fun _ hk => hk.2) (.slice Ao5 t166.length co5)) (fun _ hk => trivial), by repeat (first | (with_reducible first | exact HB.out | apply bA_ | apply bN_ | apply bD_ | refine bS_ ?_ GE165.out) | exact HB.out)⟩

mutual
def demurrageref01_Quot.l0 : Nat → List Int → Int → List Int → List Int → List Int → Option (List Int × List Int)
 | 0, _, _, _, _, _ => none
 | k + 1, x6, x8, x208000, x209000, x215000 => if x8 ≥ 0 then (if 0 ≤ x8 then (if x8 < (x208000.length : Int) then ((some (([rd x208000 x8] : List Int) : List Int)).bind fun y219 => (if y219.length + x215000.length < 17592186044416 then ((demurrageref01_trim.f (y219 ++ x215000)).bind fun t225 => (demurrageref01_Quot.l1 k x6 x8 0 10000 x208000 x209000 t225)) else (none))) else (none)) else (none)) else ((demurrageref01_trim.f x6).bind fun t215 => (some (t215, x215000)))
def demurrageref01_Quot.l1 : Nat → List Int → Int → Int → Int → List Int → List Int → List Int → Option (List Int × List Int)
 | 0, _, _, _, _, _, _, _ => none
 | k + 1, x6, x8, x9, x10, x208000, x209000, x215000 => if (wrap64 (x10 - x9)) > 1 then ((demurrageref01_From.f k (wrap64 (Int.tdiv (wrap64 (x9 + x10)) 2))).bind fun t238 => ((demurrageref01_Prod.f k x209000 t238).bind fun t241 => ((demurrageref01_Cmp.f k t241 x215000).bind fun t244 => (if t244 ≤ 0 then (demurrageref01_Quot.l1 k x6 x8 (wrap64 (Int.tdiv (wrap64 (x9 + x10)) 2)) x10 x208000 x209000 x215000) else (demurrageref01_Quot.l1 k x6 x8 x9 (wrap64 (Int.tdiv (wrap64 (x9 + x10)) 2)) x208000 x209000 x215000))))) else (if 0 ≤ x8 then (if x8 < (x6.length : Int) then ((demurrageref01_From.f k x9).bind fun t229 => ((demurrageref01_Prod.f k x209000 t229).bind fun t232 => ((demurrageref01_Less.f k x215000 t232).bind fun t235 => (demurrageref01_Quot.l0 k (x6.set (x8 : Int).toNat x9) (wrap64 (x8 - 1)) x208000 x209000 t235)))) else (none)) else (none))
end
def demurrageref01_Quot.f (k : Nat) (l0_0 : List Int) (l1_0 : List Int) : Option (List Int × List Int) := if 0 ≤ (l0_0.length : Int) then (if ((l0_0.length : Int) : Int).toNat ≤ 35184372088832 then (demurrageref01_Quot.l0 k (List.replicate ((l0_0.length : Int) : Int).toNat 0) (wrap64 ((l0_0.length : Int) - 1)) l0_0 l1_0 ([] : List Int)) else (none)) else (none)
def demurrageref01_Quot.T6 : Bool × List (List Nat × List Nat) := (true, [([], []), ([0], [0]), ([], []), ([1, 2], [1, 2]), ([3], [3]), ([4], [4]), ([], []), ([6], [6]), ([5, 7], [5, 7]), ([8, 8], [8]), ([9, 9, 0, 1, 2, 3, 4, 5, 6, 7, 8, 9], [9])])
def demurrageref01_Quot.B6 : List Nat := [0, 1, 0, 7, 15, 31, 0, 64, 255, 511, 1023]
theorem demurrageref01_Quot.tab6 : rtab .any (opsOf Try.f42 6) = demurrageref01_Quot.T6 := by kernel_rfl
theorem demurrageref01_Quot.bits6 : waitsOk demurrageref01_Quot.T6.2 demurrageref01_Quot.B6 = true := by kernel_rfl
set_option maxHeartbeats 8000000 in
set_option maxRecDepth 100000 in
theorem demurrageref01_Quot.calls (k : Nat) (A0_0 : Option Addr) (c0_0 : Nat) (l0_0 : List Int) (A1_0 : Option Addr) (c1_0 : Nat) (l1_0 : List Int) (r1 : List Int) (r2 : List Int) (w : World) (hr0_0 : Kd.C (Kd.int .i64) w A0_0 l0_0.length l0_0) (hc0_0 : l0_0.length ≤ c0_0) (hr1_0 : Kd.C (Kd.int .i64) w A1_0 l1_0.length l1_0) (hc1_0 : l1_0.length ≤ c1_0) (h : demurrageref01_Quot.f k l0_0 l1_0 = some (r1, r2)) :
  Calls Try.prog 42 #[.agg #[.slice A0_0 l0_0.length c0_0], .agg #[.slice A1_0 l1_0.length c1_0]] w fun e w' => ∃ v0_ v1_ : Value, e = .returned (.tuple #[.agg #[v0_], .agg #[v1_]]) ∧ Kd.R (Kd.int .i64) 3 w' w.heap.size (fun k_ => some k_ ≠ (v1_ : Value).ownBlock) v0_ r1 ∧ Kd.R (Kd.int .i64) 3 w' w.heap.size (fun k_ => some k_ ≠ (v0_ : Value).ownBlock) v1_ r2 ∧ Below w.heap.size w w' := by
 have hu61 := Try.underlying61
 have HR0_0 := Aside0.mk hr0_0
 have HC0_0 := Aside0.mk hc0_0
 clear hr0_0 hc0_0
 have HR1_0 := Aside0.mk hr1_0
 have HC1_0 := Aside0.mk hc1_0
 clear hr1_0 hc1_0
 have HB := Aside0.mk (Below.refl w.heap.size w)
 have H : (if 0 ≤ (l0_0.length : Int) then (if ((l0_0.length : Int) : Int).toNat ≤ 35184372088832 then (demurrageref01_Quot.l0 k (List.replicate ((l0_0.length : Int) : Int).toNat 0) (wrap64 ((l0_0.length : Int) - 1)) l0_0 l1_0 ([] : List Int)) else (none)) else (none)) = some (r1, r2) := h
 clear h
 by_cases c3 : 0 ≤ (l0_0.length : Int)
 ·rw [if_pos c3] at H
  have c3b0 := eq_true c3
  have c3b1 : decide (0 ≤ (l0_0.length : Int)) = true := decide_eq_true c3
  clear c3
  by_cases c4 : ((l0_0.length : Int) : Int).toNat ≤ 35184372088832
  ·rw [if_pos c4] at H
   have c4b0 := eq_true c4
   have c4b1 : decide (((l0_0.length : Int) : Int).toNat ≤ 35184372088832) = true := decide_eq_true c4
   clear c4
   obtain ⟨y211, hy211⟩ : ∃ y_ : List Int, y_ = (List.replicate ((l0_0.length : Int) : Int).toNat 0) := ⟨_, rfl⟩
   replace H : (demurrageref01_Quot.l0 k y211 (wrap64 ((l0_0.length : Int) - 1)) l0_0 l1_0 ([] : List Int)) = some (r1, r2) := by first | (rw [hy211]; with_reducible exact H) | (have H2_ := (Option.bind_some _ _).symm.trans H; rw [hy211]; with_reducible exact H2_) | (have H2_ := (Option.bind_some _ _).symm.trans H; with_reducible exact H2_) | with_reducible exact H | (rw [hy211]; exact H) | exact H
   have Ny211 := Aside0.mk hy211
   clear hy211
   have H' := Aside0.mk H
   clear H
   go_enter Try.func42, Try.ntmps42
   go_wp2_with (first | ((with_reducible refine gate_dst (N := 2) rfl ?_); refine box_event ?hg (N := 2) ?hd (cs := #[.slice A0_0 l0_0.length c0_0]) (t := 61) ?hr ?_; (case hd => rfl); (case hg => rfl); (case hr => first | (go_simp; done) | (go_simp; rfl)); intro gb207 hg w5 hbox hb; have BK207 := Aside0.mk (hbox); have GW207 := Aside0.mk ((by rw [hg]; exact (below_size (by repeat (first | (with_reducible first | exact HB.out | apply bA_ | apply bN_ | apply bD_) | exact HB.out))) : w.heap.size ≤ gb207)); have GE207 := GW207; replace HB := Aside0.mk (below_step (by repeat (first | (with_reducible first | exact HB.out | apply bA_ | apply bN_ | apply bD_) | exact HB.out)) hb); clear hb hbox hg) | ((with_reducible refine gate_dst (N := 3) rfl ?_); refine box_event ?hg (N := 3) ?hd (cs := #[.slice A1_0 l1_0.length c1_0]) (t := 61) ?hr ?_; (case hd => rfl); (case hg => rfl); (case hr => first | (go_simp; done) | (go_simp; rfl)); intro gb208 hg w6 hbox hb; have BK208 := Aside0.mk (hbox); have GW208 := Aside0.mk ((by rw [hg]; exact (below_size (by repeat (first | (with_reducible first | exact HB.out | apply bA_ | apply bN_ | apply bD_ | refine bS_ ?_ GE207.out) | exact HB.out))) : w.heap.size ≤ gb208)); have GE208 := GW208; replace HB := Aside0.mk (below_step (by repeat (first | (with_reducible first | exact HB.out | apply bA_ | apply bN_ | apply bD_ | refine bS_ ?_ GE207.out) | exact HB.out)) hb); have NB207_208 := Aside0.mk ((by rw [hg]; exact Nat.ne_of_lt (blk_lt BK207.out) : gb207 ≠ gb208)); have NB208_207 := Aside0.mk NB207_208.out.symm; replace BK207 := bK_ BK207 hb; clear hb hbox hg) | ((with_reducible refine gate_dst (N := 4) rfl ?_); refine box_event ?hg (N := 4) ?hd (cs := #[.slice none 0 0]) (t := 61) ?hr ?_; (case hd => rfl); (case hg => rfl); (case hr => first | (go_simp; done) | (go_simp; rfl)); intro gb209 hg w7 hbox hb; have BK209 := Aside0.mk (hbox); have GW209 := Aside0.mk ((by rw [hg]; exact (below_size (by repeat (first | (with_reducible first | exact HB.out | apply bA_ | apply bN_ | apply bD_ | refine bS_ ?_ GE207.out | refine bS_ ?_ GE208.out) | exact HB.out))) : w.heap.size ≤ gb209)); have GE209 := GW209; replace HB := Aside0.mk (below_step (by repeat (first | (with_reducible first | exact HB.out | apply bA_ | apply bN_ | apply bD_ | refine bS_ ?_ GE207.out | refine bS_ ?_ GE208.out) | exact HB.out)) hb); have NB207_209 := Aside0.mk ((by rw [hg]; exact Nat.ne_of_lt (blk_lt BK207.out) : gb207 ≠ gb209)); have NB209_207 := Aside0.mk NB207_209.out.symm; replace BK207 := bK_ BK207 hb; have NB208_209 := Aside0.mk ((by rw [hg]; exact Nat.ne_of_lt (blk_lt BK208.out) : gb208 ≠ gb209)); have NB209_208 := Aside0.mk NB208_209.out.symm; replace BK208 := bK_ BK208 hb; clear hb hbox hg) | ((with_reducible refine gate_dst (N := 5) rfl ?_); refine box_event ?hg (N := 5) ?hd (cs := #[.slice none 0 0]) (t := 61) ?hr ?_; (case hd => rfl); (case hg => rfl); (case hr => first | (go_simp; done) | (go_simp; rfl)); intro gb210 hg w8 hbox hb; have BK210 := Aside0.mk (hbox); have GW210 := Aside0.mk ((by rw [hg]; exact (below_size (by repeat (first | (with_reducible first | exact HB.out | apply bA_ | apply bN_ | apply bD_ | refine bS_ ?_ GE207.out | refine bS_ ?_ GE208.out | refine bS_ ?_ GE209.out) | exact HB.out))) : w.heap.size ≤ gb210)); have GE210 := GW210; replace HB := Aside0.mk (below_step (by repeat (first | (with_reducible first | exact HB.out | apply bA_ | apply bN_ | apply bD_ | refine bS_ ?_ GE207.out | refine bS_ ?_ GE208.out | refine bS_ ?_ GE209.out) | exact HB.out)) hb); have NB207_210 := Aside0.mk ((by rw [hg]; exact Nat.ne_of_lt (blk_lt BK207.out) : gb207 ≠ gb210)); have NB210_207 := Aside0.mk NB207_210.out.symm; replace BK207 := bK_ BK207 hb; have NB208_210 := Aside0.mk ((by rw [hg]; exact Nat.ne_of_lt (blk_lt BK208.out) : gb208 ≠ gb210)); have NB210_208 := Aside0.mk NB208_210.out.symm; replace BK208 := bK_ BK208 hb; have NB209_210 := Aside0.mk ((by rw [hg]; exact Nat.ne_of_lt (blk_lt BK209.out) : gb209 ≠ gb210)); have NB210_209 := Aside0.mk NB209_210.out.symm; replace BK209 := bK_ BK209 hb; clear hb hbox hg; have hnb9 := NB207_208.out; have hnc9 := NB208_207.out; have hnb10 := NB207_209.out; have hnc10 := NB209_207.out; have hnb11 := NB207_210.out; have hnc11 := NB210_207.out; have hcz12_0 : w8.cell? ⟨gb207, 0, none⟩ = some (.slice A0_0 l0_0.length c0_0) := (blk_cell BK207.out 0).trans rfl; have hfz12_0 := blk_frozen BK207.out 0) | ((with_reducible refine gate_dst (N := 15) rfl ?_); refine Kd.R_make (Kd.int .i64) _ 3 rfl (N := 15) rfl 59 _ _ rfl (l0_0.length : Int) rfl rfl Try.underlying59 (.int .i64 0) 8 info3 rfl (by decide) (by omega) 0 (ok := fun _ => True) (okp := fun _ => True) rfl (fun _ hk => hk) trivial (of_decide_eq_true (by first | (with_reducible assumption) | assumption)) (Nat.le_trans (Nat.mul_le_mul_right _ (of_decide_eq_true (by first | (with_reducible assumption) | assumption) : (l0_0.length : Int).toNat ≤ 35184372088832)) (by omega)) (Below.refl _ _) (Nat.le_refl _) ?_; intro v212 w13 ho14 hb hg_ hnew_; clear hg_ hnew_; (first | rw [← Ny211.out] at ho14 | (simp only [Int.reduceToNat] at ho14; rw [← Ny211.out] at ho14)); have HO213 := Aside0.mk (Kd.R_lower ho14 (below_size (by repeat (first | (with_reducible first | exact HB.out | apply bA_ | apply bN_ | apply bD_ | refine bS_ ?_ GE207.out | refine bS_ ?_ GE208.out | refine bS_ ?_ GE209.out | refine bS_ ?_ GE210.out) | exact HB.out)))); replace BK207 := bK_ BK207 hb; replace BK208 := bK_ BK208 hb; replace BK209 := bK_ BK209 hb; replace BK210 := bK_ BK210 hb; replace HB := Aside0.mk (below_step (by repeat (first | (with_reducible first | exact HB.out | apply bA_ | apply bN_ | apply bD_ | refine bS_ ?_ GE207.out | refine bS_ ?_ GE208.out | refine bS_ ?_ GE209.out | refine bS_ ?_ GE210.out) | exact HB.out)) hb); clear hb ho14) | ((with_reducible refine gate_dst (N := 7) rfl ?_); refine box_event ?hg (N := 7) ?hd (cs := #[.slice none 0 0]) (t := 61) ?hr ?_; (case hd => rfl); (case hg => rfl); (case hr => first | (go_simp; done) | (go_simp; rfl)); intro gb214 hg w15 hbox hb; replace HO213 := Aside0.mk (Kd.R_below HO213.out hb); have BK214 := Aside0.mk (hbox); have GW214 := Aside0.mk ((by rw [hg]; exact (below_size (by repeat (first | (with_reducible first | exact HB.out | apply bA_ | apply bN_ | apply bD_ | refine bS_ ?_ GE207.out | refine bS_ ?_ GE208.out | refine bS_ ?_ GE209.out | refine bS_ ?_ GE210.out) | exact HB.out))) : w.heap.size ≤ gb214)); have GE214 := GW214; replace HB := Aside0.mk (below_step (by repeat (first | (with_reducible first | exact HB.out | apply bA_ | apply bN_ | apply bD_ | refine bS_ ?_ GE207.out | refine bS_ ?_ GE208.out | refine bS_ ?_ GE209.out | refine bS_ ?_ GE210.out) | exact HB.out)) hb); have NB207_214 := Aside0.mk ((by rw [hg]; exact Nat.ne_of_lt (blk_lt BK207.out) : gb207 ≠ gb214)); have NB214_207 := Aside0.mk NB207_214.out.symm; replace BK207 := bK_ BK207 hb; have NB208_214 := Aside0.mk ((by rw [hg]; exact Nat.ne_of_lt (blk_lt BK208.out) : gb208 ≠ gb214)); have NB214_208 := Aside0.mk NB208_214.out.symm; replace BK208 := bK_ BK208 hb; have NB209_214 := Aside0.mk ((by rw [hg]; exact Nat.ne_of_lt (blk_lt BK209.out) : gb209 ≠ gb214)); have NB214_209 := Aside0.mk NB209_214.out.symm; replace BK209 := bK_ BK209 hb; have NB210_214 := Aside0.mk ((by rw [hg]; exact Nat.ne_of_lt (blk_lt BK210.out) : gb210 ≠ gb214)); have NB214_210 := Aside0.mk NB210_214.out.symm; replace BK210 := bK_ BK210 hb; clear hb hbox hg; have hnb16 := NB214_207.out; have hnc16 := NB207_214.out; have hnb17 := NB214_208.out; have hnc17 := NB208_214.out; have hnb18 := NB214_209.out; have hnc18 := NB209_214.out; have hnb19 := NB214_210.out; have hnc19 := NB210_214.out; have hcz20_0 : w15.cell? ⟨gb214, 0, none⟩ = some (.slice none 0 0) := (blk_cell BK214.out 0).trans rfl; have hfz20_0 := blk_frozen BK214.out 0; have hcz21_0 : w15.cell? ⟨gb207, 0, none⟩ = some (.slice A0_0 l0_0.length c0_0) := (blk_cell BK207.out 0).trans rfl; have hfz21_0 := blk_frozen BK207.out 0))
   (try simp only [Act.put, sT_, sZ_, sS_])
   go_loopg [8] k (fun kq v8 w' => ∃ (x6_1 : List Int) (x8_1 : Int) (x215000_1 : List Int) (u215000 : Value), v8 = .int .i64 x8_1 ∧ Aside0 (demurrageref01_Quot.l0 kq x6_1 x8_1 l0_0 l1_0 x215000_1 = some (r1, r2)) ∧ Aside0 (kq ≤ k) ∧ Aside0 (Kd.R (Kd.int .i64) 3 w' w.heap.size (fun k_ => some k_ ≠ (u215000 : Value).ownBlock) v212 x6_1) ∧ Aside0 (Kd.R (Kd.int .i64) 3 w' w.heap.size (fun k_ => some k_ ≠ (v212 : Value).ownBlock) u215000 x215000_1) ∧ Aside0 (w'.heap[gb207]? = some (.cells #[(.slice A0_0 l0_0.length c0_0)] 61 (0, 0))) ∧ Aside0 (w'.heap[gb208]? = some (.cells #[(.slice A1_0 l1_0.length c1_0)] 61 (0, 0))) ∧ Aside0 (w'.heap[gb209]? = some (.cells #[(.slice none 0 0)] 61 (0, 0))) ∧ Aside0 (w'.heap[gb210]? = some (.cells #[(.slice none 0 0)] 61 (0, 0))) ∧ Aside0 (w'.heap[gb214]? = some (.cells #[u215000] 61 (0, 0))) ∧ Aside0 (Below w.heap.size w w'))
   case atStart => exact ⟨(y211), (wrap64 ((l0_0.length : Int) - 1)), (([] : List Int)), (.slice none 0 0), (by first | rfl | (simp; done) | (simp [*]; done)), H', ⟨Nat.le_refl _⟩, ⟨by (with_reducible repeat (first | apply Kd.R_alloc | apply Kd.R_drewN | apply Kd.R_drew)); exact Kd.R_mono (Kd.R_far (p := ⟨gb214, 0, none⟩) (Kd.R_types HO213.out BK214.out (by decide)) (fun _ hk => hk.2) (.slice none 0 0)) (fun _ hk => (by simp [Value.ownBlock]))⟩, ⟨by first | exact Kd.R_nil _ _ _ _ _ | exact Kd.N_nil _ _ _ _ _ | exact Kd.V_nil _ _ _ _ _ | exact Kd.Q_nil _ _ _ _ _ | exact Kd.S_nil _ _ _ _ _⟩, ⟨by refine blk_far ?_ NB207_214.out _; exact BK207.out⟩, ⟨by refine blk_far ?_ NB208_214.out _; exact BK208.out⟩, ⟨by refine blk_far ?_ NB209_214.out _; exact BK209.out⟩, ⟨by refine blk_far ?_ NB210_214.out _; exact BK210.out⟩, ⟨by refine blk_put (cs := #[.slice none 0 0]) ?_ 0 _ rfl; exact BK214.out⟩, ⟨by repeat (first | (with_reducible first | exact HB.out | apply bA_ | apply bN_ | apply bD_ | refine bS_ ?_ GE207.out | refine bS_ ?_ GE208.out | refine bS_ ?_ GE209.out | refine bS_ ?_ GE210.out | refine bS_ ?_ GE214.out) | exact HB.out)⟩⟩
   case round =>
    clear H'
    try clear c1
    try clear p2
    try clear c3
    try clear c3b0
    try clear c3b1
    try clear c4
    try clear c4b0
    try clear c4b1
    try clear p6
    try clear c9
    try clear c10
    try clear c11
    try clear c16
    try clear c17
    try clear c18
    try clear c19
    try clear hcz12_0
    try clear hcz20_0
    try clear hcz21_0
    try clear hfz12_0
    try clear hfz20_0
    try clear hfz21_0
    obtain ⟨x6_1, x8_1, x215000_1, u215000, rfl, HA, HK1, HO_6, HO_215000, BK207, BK208, BK209, BK210, BK214, HB⟩ := hrel
    cases gk with
    | zero => exact absurd HA.out (by simp [demurrageref01_Quot.l0])
    | succ k1 =>
     have H := HA.out
     clear HA
     simp only [demurrageref01_Quot.l0] at H
     by_cases c22 : x8_1 ≥ 0
     ·rw [if_pos c22] at H
      have c22b0 : decide (0 ≤ x8_1) = true := decide_eq_true c22
      clear c22
      by_cases c23 : 0 ≤ x8_1
      ·rw [if_pos c23] at H
       have c23b0 : decide (0 ≤ x8_1) = true := decide_eq_true c23
       clear c23
       by_cases c24 : x8_1 < (l0_0.length : Int)
       ·rw [if_pos c24] at H
        have c24b0 : decide (x8_1 < (l0_0.length : Int)) = true := decide_eq_true c24
        clear c24
        obtain ⟨y219, hy219⟩ : ∃ y_ : List Int, y_ = (([rd l0_0 x8_1] : List Int)) := ⟨_, rfl⟩
        replace H : (if y219.length + x215000_1.length < 17592186044416 then ((demurrageref01_trim.f (y219 ++ x215000_1)).bind fun t225 => (demurrageref01_Quot.l1 k1 x6_1 x8_1 0 10000 l0_0 l1_0 t225)) else (none)) = some (r1, r2) := by first | (rw [hy219]; with_reducible exact H) | (have H2_ := (Option.bind_some _ _).symm.trans H; rw [hy219]; with_reducible exact H2_) | (have H2_ := (Option.bind_some _ _).symm.trans H; with_reducible exact H2_) | with_reducible exact H | (rw [hy219]; exact H) | exact H
        have Ny219 := Aside0.mk hy219
        clear hy219
        by_cases c25 : y219.length + x215000_1.length < 17592186044416
        ·rw [if_pos c25] at H
         have LMc25 := Aside0.mk c25
         clear c25
         obtain ⟨y222, hy222⟩ : ∃ y_ : List Int, y_ = (y219 ++ x215000_1) := ⟨_, rfl⟩
         replace H : ((demurrageref01_trim.f y222).bind fun t225 => (demurrageref01_Quot.l1 k1 x6_1 x8_1 0 10000 l0_0 l1_0 t225)) = some (r1, r2) := by first | (rw [hy222]; with_reducible exact H) | (have H2_ := (Option.bind_some _ _).symm.trans H; rw [hy222]; with_reducible exact H2_) | (have H2_ := (Option.bind_some _ _).symm.trans H; with_reducible exact H2_) | with_reducible exact H | (rw [hy222]; exact H) | exact H
         have Ny222 := Aside0.mk hy222
         clear hy222
         replace H := Option.bind_eq_some_iff.mp H
         obtain ⟨t225, A260, H⟩ := H
         (try dsimp only at H)
         have A26 := Aside0.mk A260
         clear A260
         have H' := Aside0.mk H
         clear H
         try go_wp2
         replace HO_6 := Aside0.mk (Kd.R_drew HO_6.out)
         replace HO_215000 := Aside0.mk (Kd.R_drew HO_215000.out)
         replace BK207 := Aside0.mk (blk_drew BK207.out)
         replace BK208 := Aside0.mk (blk_drew BK208.out)
         replace BK209 := Aside0.mk (blk_drew BK209.out)
         replace BK210 := Aside0.mk (blk_drew BK210.out)
         replace BK214 := Aside0.mk (blk_drew BK214.out)
         replace HB := Aside0.mk (below_drew1 HB.out)
         have p218 : 0 ≤ (x8_1 : Int) := of_decide_eq_true (by first | (with_reducible assumption) | assumption)
         have q218 : x8_1 < (l0_0.length : Int) := of_decide_eq_true (by first | (with_reducible assumption) | assumption)
         obtain ⟨ad218, e218, hx218_0⟩ := Kd.at_int HR0_0.out x8_1 p218 q218
         have hw218_0 := hx218_0
         cases e218
         replace hx218_0 := (HB.out.cell (World.block_lt_of_cell? w _ hx218_0)).trans hx218_0
         replace p218 := eq_true p218
         replace q218 := eq_true q218
         refine start_ (n := 11) (S := fun w' => w'.cell? ⟨gb207, 0, none⟩ = some (.slice (some ad218) l0_0.length c0_0) ∧ w'.cell? ⟨gb214, 0, none⟩ = some (u215000) ∧ w'.cell? (ad218.add (x8_1).toNat) = some (.int .i64 (rd l0_0 x8_1))) (ds := [10]) (demurrageref01_Quot.ups 11 0) (by kernel_rfl) rfl rfl ⟨(blk_cell BK207.out 0).trans rfl, (blk_cell BK214.out 0).trans rfl, ((HB.out.cell (World.block_lt_of_cell? w _ hw218_0)).trans hw218_0)⟩ (fun hHeld => ?_); refine with_tabW demurrageref01_Quot.tab6 demurrageref01_Quot.bits6 (fun HT_ HW_ => ?_)
         generalize wr.drew = w27 at HO_6 HO_215000 BK207 BK208 BK209 BK210 BK214 HB hx218_0 hHeld ⊢
         refine pure_ (i := 0) (N := some 25) (v := ?_) (a' := ?_) (demurrageref01_Quot.ups 11 1) rfl rfl (any_of HT_.out (by kernel_rfl)) (fun _ _ _ h => h) (Or.inl ⟨by rfl, ?_⟩) ?_ ?_
         rotate_left
         ·intro w'
          go_simp
          with_reducible rfl
         rotate_left
         ·simp only [Act.put, sT_, sZ_, sS_, i64_w, i32_w]
          rfl
         refine pure_ (i := 2) (N := some 27) (v := ?_) (a' := ?_) (demurrageref01_Quot.ups 11 5) rfl rfl (any_of HT_.out (by kernel_rfl)) (fun _ _ _ h => h) (Or.inl ⟨by rfl, ?_⟩) ?_ ?_
         rotate_left
         ·intro w'
          go_simp
          with_reducible rfl
         rotate_left
         ·simp only [Act.put, sT_, sZ_, sS_, i64_w, i32_w]
          rfl
         refine pure_ (i := 6) (N := some 31) (v := ?_) (a' := ?_) (demurrageref01_Quot.ups 11 69) rfl rfl (any_of HT_.out (by kernel_rfl)) (fun _ _ _ h => h) (Or.inl ⟨by rfl, ?_⟩) ?_ ?_
         rotate_left
         ·intro w'
          go_simp
          with_reducible rfl
         rotate_left
         ·simp only [Act.put, sT_, sZ_, sS_, i64_w, i32_w]
          rfl
         refine take_ (i := 1) (N := some 26) (v := ?_) (a' := ?_) (demurrageref01_Quot.ups 11 71) rfl rfl (take_ofW HT_.out HW_.out (by kernel_rfl)) (fun _ _ _ h => h) (Or.inl ⟨by rfl, ?_⟩) hHeld ?_ ?_
         rotate_left
         ·rintro w' ⟨s0, s1, s2⟩
          go_simp
          with_reducible rfl
         rotate_left
         ·simp only [Act.put, sT_, sZ_, sS_, i64_w, i32_w]
          rfl
         refine pure_ (i := 3) (N := some 28) (v := ?_) (a' := ?_) (demurrageref01_Quot.ups 11 79) rfl rfl (any_of HT_.out (by kernel_rfl)) (fun _ _ _ h => h) (Or.inl ⟨by rfl, ?_⟩) ?_ ?_
         rotate_left
         ·intro w'
          go_simp
          with_reducible rfl
         rotate_left
         ·simp only [Act.put, sT_, sZ_, sS_, i64_w, i32_w]
          rfl
         refine take_ (i := 4) (N := some 29) (v := ?_) (a' := ?_) (demurrageref01_Quot.ups 11 95) rfl rfl (take_ofW HT_.out HW_.out (by kernel_rfl)) (fun _ _ _ h => h) (Or.inl ⟨by rfl, ?_⟩) hHeld ?_ ?_
         rotate_left
         ·rintro w' ⟨s0, s1, s2⟩
          go_simp
          with_reducible rfl
         rotate_left
         ·simp only [Act.put, sT_, sZ_, sS_, i64_w, i32_w]
          rfl
         refine take_ (i := 7) (N := some 32) (v := ?_) (a' := ?_) (demurrageref01_Quot.ups 11 223) rfl rfl (take_ofW HT_.out HW_.out (by kernel_rfl)) (fun _ _ _ h => h) (Or.inl ⟨by rfl, ?_⟩) hHeld ?_ ?_
         rotate_left
         ·rintro w' ⟨s0, s1, s2⟩
          go_simp
          with_reducible rfl
         rotate_left
         ·simp only [Act.put, sT_, sZ_, sS_, i64_w, i32_w]
          rfl
         refine one_ (i := 5) (N := some 30) (demurrageref01_Quot.ups 11 255) rfl rfl (one_of HT_.out (by kernel_rfl)) (by decide) (fun K hK => ?_)
         refine Kd.R_lit_step (Kd.int .i64) _ 3 ?hg (N := 30) ?hd (xs := ([rd l0_0 x8_1] : List Int)) (inner := [.int .i64 (rd l0_0 x8_1)]) (ok := fun _ => True) (okp := fun _ => True) ?hr ?hp (fun _ hk => hk) trivial (Below.refl _ _) (Nat.le_refl _) (by simp) ?_; (case hd => rfl); (case hg => rfl); (case hr => first | (go_simp; done) | (go_simp; rfl)); (case hp => exact (Reps.one (show Kd.M (Kd.int .i64) _ _ _ (rd l0_0 x8_1) [.int .i64 (rd l0_0 x8_1)] from rfl) (Reps.none _ _)))
         intro v220 w28 ho29 hb hg_ hnew_
         clear hg_ hnew_
         (first | rw [← Ny219.out] at ho29 | (simp only [Int.reduceToNat] at ho29; rw [← Ny219.out] at ho29))
         have HO221 := Aside0.mk (Kd.R_lower (Kd.R_new' (Kd.R_new' ho29 (Kd.R_lt HO_6.out)) (Kd.R_lt HO_215000.out)) (below_size (by repeat (first | (with_reducible first | exact HB.out | apply bA_ | apply bN_ | apply bD_ | refine bS_ ?_ GE207.out | refine bS_ ?_ GE208.out | refine bS_ ?_ GE209.out | refine bS_ ?_ GE210.out | refine bS_ ?_ GE214.out) | exact HB.out))))
         replace HO_6 := Aside0.mk (Kd.R_elder' HO_6.out (Kd.R_base ho29) hb)
         replace HO_215000 := Aside0.mk (Kd.R_elder' HO_215000.out (Kd.R_base ho29) hb)
         replace BK207 := bK_ BK207 hb
         replace BK208 := bK_ BK208 hb
         replace BK209 := bK_ BK209 hb
         replace BK210 := bK_ BK210 hb
         replace BK214 := bK_ BK214 hb
         replace HB := Aside0.mk (below_step (by repeat (first | (with_reducible first | exact HB.out | apply bA_ | apply bN_ | apply bD_ | refine bS_ ?_ GE207.out | refine bS_ ?_ GE208.out | refine bS_ ?_ GE209.out | refine bS_ ?_ GE210.out | refine bS_ ?_ GE214.out) | exact HB.out)) hb)
         clear hb ho29
         obtain ⟨Ao31, co31, eo31⟩ := Kd.R_slice HO_215000.out
         (first | subst eo31 | (injection eo31 with f1_ f2_ f3_; have f4_ := f1_.symm; have f5_ := f3_.symm; clear f1_ f2_ f3_; subst f4_; subst f5_))
         refine hK.out _ _ ⟨(blk_cell BK207.out 0).trans rfl, (blk_cell BK214.out 0).trans rfl, ((HB.out.cell (World.block_lt_of_cell? w _ hw218_0)).trans hw218_0)⟩ (fun hHeld => ?_)
         clear hK K
         refine norm_ (a' := ?_) ?_ ?_
         rotate_left
         ·show Act.put _ (some 30) _ = _
          simp only [Act.put, sT_, sZ_, sS_, i64_w, i32_w]
          rfl
         refine one_ (i := 8) (N := some 33) (demurrageref01_Quot.ups 11 511) rfl rfl (one_of HT_.out (by kernel_rfl)) (by decide) (fun K hK => ?_)
         refine Kd.R_append_rows_step (Kd.int .i64) (w0 := w) w.heap.size (by rfl) (.tmp 30) (.tmp 32) 59 3 (.int .i64 0) 8 rfl Try.underlying59 info3 rfl (by decide) (by omega) v220 y219 x215000_1 _ _ _ (fun k_ => some k_ ≠ (v212 : Value).ownBlock ∧ some k_ ≠ (.slice Ao31 x215000_1.length co31 : Value).ownBlock) (fun _ => False) rfl rfl ?aO ?aR (fun _ _ h => h) (fun _ h => h.elim) ?aF ?aB ?aS ?aL ?_
         (case aR => repeat (first | exact (Kd.R_reads' HO_215000.out).2.2 | (with_reducible refine Kd.C_alloc ?_ _) | (with_reducible refine Kd.C_drewN ?_ _) | (with_reducible refine Kd.C_drew ?_)))
         (case aB => exact (by repeat (first | (with_reducible first | exact HB.out | apply bA_ | apply bN_ | apply bD_ | refine bS_ ?_ GE207.out | refine bS_ ?_ GE208.out | refine bS_ ?_ GE209.out | refine bS_ ?_ GE210.out | refine bS_ ?_ GE214.out) | exact HB.out)))
         (case aF => exact (fun k_ hk => ⟨Kd.fresh' (Kd.R_lt (by (with_reducible repeat (first | apply Kd.R_alloc | apply Kd.R_drewN | apply Kd.R_drew)); exact HO_6.out)) k_ hk, Kd.fresh' (Kd.R_lt (by (with_reducible repeat (first | apply Kd.R_alloc | apply Kd.R_drewN | apply Kd.R_drew)); exact HO_215000.out)) k_ hk⟩))
         (case aO => exact (by (with_reducible repeat (first | apply Kd.R_alloc | apply Kd.R_drewN | apply Kd.R_drew)); exact Kd.R_mono HO221.out (fun _ hk => (And.intro (hk.1.2) (hk.2)))))
         (case aS => exact (below_size (by repeat (first | (with_reducible first | exact HB.out | apply bA_ | apply bN_ | apply bD_ | refine bS_ ?_ GE207.out | refine bS_ ?_ GE208.out | refine bS_ ?_ GE209.out | refine bS_ ?_ GE210.out | refine bS_ ?_ GE214.out) | exact HB.out))))
         (case aL => have := LMc25.out; omega)
         intro v223 w30 ho hb hg hat
         rw [← Ny222.out] at ho
         replace HO_6 := Aside0.mk (Kd.R_after (ok := (fun k_ => some k_ ≠ (.slice Ao31 x215000_1.length co31 : Value).ownBlock)) HO_6.out hg hat)
         replace HO_215000 := Aside0.mk (Kd.R_after (ok := (fun k_ => some k_ ≠ (v212 : Value).ownBlock)) HO_215000.out hg hat)
         replace BK207 := Aside0.mk (blk_grown (g := gb207) (o := .cells #[.slice (some ad218) l0_0.length c0_0] 61 (0, 0)) BK207.out hg (Kd.R_ne HO221.out BK207.out (by decide)))
         replace BK208 := Aside0.mk (blk_grown (g := gb208) (o := .cells #[.slice A1_0 l1_0.length c1_0] 61 (0, 0)) BK208.out hg (Kd.R_ne HO221.out BK208.out (by decide)))
         replace BK209 := Aside0.mk (blk_grown (g := gb209) (o := .cells #[.slice none 0 0] 61 (0, 0)) BK209.out hg (Kd.R_ne HO221.out BK209.out (by decide)))
         replace BK210 := Aside0.mk (blk_grown (g := gb210) (o := .cells #[.slice none 0 0] 61 (0, 0)) BK210.out hg (Kd.R_ne HO221.out BK210.out (by decide)))
         replace BK214 := Aside0.mk (blk_grown (g := gb214) (o := .cells #[.slice Ao31 x215000_1.length co31] 61 (0, 0)) BK214.out hg (Kd.R_ne HO221.out BK214.out (by decide)))
         replace HB := Aside0.mk (hb)
         have HO224 := Aside0.mk (ho)
         clear HO221 ho hb hg hat
         obtain ⟨Ao32, co32, eo32⟩ := Kd.R_slice HO224.out
         (first | subst eo32 | (injection eo32 with f1_ f2_ f3_; have f4_ := f1_.symm; have f5_ := f3_.symm; clear f1_ f2_ f3_; subst f4_; subst f5_))
         refine hK.out _ _ ⟨(blk_cell BK207.out 0).trans rfl, (blk_cell BK214.out 0).trans rfl, ((HB.out.cell (World.block_lt_of_cell? w _ hw218_0)).trans hw218_0)⟩ (fun hHeld => ?_)
         clear hK K
         refine norm_ (a' := ?_) ?_ ?_
         rotate_left
         ·show Act.put _ (some 33) _ = _
          simp only [Act.put, sT_, sZ_, sS_, i64_w, i32_w]
          rfl
         refine one_ (i := 9) (N := some 34) (demurrageref01_Quot.ups 11 1023) rfl rfl (one_of HT_.out (by kernel_rfl)) (by decide) (fun K hK => ?_)
         refine goes_ Try.func41 (by kernel_rfl) rfl #[.slice Ao32 y222.length co32] (by rfl) rfl rfl (by (try simp only [List.map_toArray, List.map_cons, List.map_nil]); first | done | rfl) ?_
         with_reducible refine (demurrageref01_trim.calls _ _ y222 t225 _ ?side1 ?side2 A26.out).mono ?_
         (case side1 => repeat (first | exact (Kd.R_reads' HO224.out).2.2 | (with_reducible refine Kd.C_alloc ?_ _) | (with_reducible refine Kd.C_drewN ?_ _) | (with_reducible refine Kd.C_drew ?_)))
         (case side2 => exact (Kd.R_reads' HO224.out).2.1)
         rintro e w33 ⟨v226, rfl, ho0, hb⟩
         refine ⟨_, rfl, ?_⟩
         have HO227 := Aside0.mk (Kd.R_lower (Kd.R_new' (Kd.R_new' (Kd.R_new' ho0 (Kd.R_lt HO_6.out)) (Kd.R_lt HO_215000.out)) (Kd.R_lt HO224.out)) (below_size (by repeat (first | (with_reducible first | exact HB.out | apply bA_ | apply bN_ | apply bD_ | refine bS_ ?_ GE207.out | refine bS_ ?_ GE208.out | refine bS_ ?_ GE209.out | refine bS_ ?_ GE210.out | refine bS_ ?_ GE214.out) | exact HB.out))))
         replace HO_6 := Aside0.mk (Kd.R_elder' HO_6.out (Kd.R_base ho0) hb)
         replace HO_215000 := Aside0.mk (Kd.R_elder' HO_215000.out (Kd.R_base ho0) hb)
         replace HO224 := Aside0.mk (Kd.R_elder' HO224.out (Kd.R_base ho0) hb)
         replace BK207 := bK_ BK207 hb
         replace BK208 := bK_ BK208 hb
         replace BK209 := bK_ BK209 hb
         replace BK210 := bK_ BK210 hb
         replace BK214 := bK_ BK214 hb
         replace HB := Aside0.mk (below_step (by repeat (first | (with_reducible first | exact HB.out | apply bA_ | apply bN_ | apply bD_ | refine bS_ ?_ GE207.out | refine bS_ ?_ GE208.out | refine bS_ ?_ GE209.out | refine bS_ ?_ GE210.out | refine bS_ ?_ GE214.out) | exact HB.out)) hb)
         (try clear hb)
         (try clear hb2)
         (try clear hk)
         (try clear hi)
         (try clear ho0)
         obtain ⟨Ao34, co34, eo34⟩ := Kd.R_slice HO227.out
         (first | subst eo34 | (injection eo34 with f1_ f2_ f3_; have f4_ := f1_.symm; have f5_ := f3_.symm; clear f1_ f2_ f3_; subst f4_; subst f5_))
         refine hK.out _ _ ⟨(blk_cell BK207.out 0).trans rfl, (blk_cell BK214.out 0).trans rfl, ((HB.out.cell (World.block_lt_of_cell? w _ hw218_0)).trans hw218_0)⟩ (fun hHeld => ?_)
         clear hK K
         refine norm_ (a' := ?_) ?_ ?_
         rotate_left
         ·show Act.put _ (some 34) _ = _
          simp only [Act.put, sT_, sZ_, sS_, i64_w, i32_w]
          rfl
         refine last_ (i := 10) (N := none) (demurrageref01_Quot.ups 11 2047) rfl rfl (one_of HT_.out (by kernel_rfl)) (by decide) (fun K hK => ?_)
         have hs35 : w33.cell? ⟨gb214, 0, none⟩ = some (.slice Ao31 x215000_1.length co31) := (blk_cell BK214.out 0).trans rfl
         have hfs35 := blk_frozen BK214.out 0
         have hns35_0 := NB207_214.out
         have hns35_1 := NB208_214.out
         have hns35_2 := NB209_214.out
         have hns35_3 := NB210_214.out
         have hms35_0 := NB214_207.out
         have hms35_1 := NB214_208.out
         have hms35_2 := NB214_209.out
         have hms35_3 := NB214_210.out
         refine skip_ (w1 := ?_) (by rfl) rfl ?_ ?_
         rotate_left
         ·go_simp
          rfl
         refine hK.out _ _ ?_
         clear hK K
         refine done_ (done_of HT_.out (by kernel_rfl)) ?_
         try go_wp2
         (try simp only [Act.put, sT_, sZ_, sS_])
         go_loopg [9, 10] k1 (fun kq v9 v10 w' => ∃ (x9_2 : Int) (x10_2 : Int), v9 = .int .i64 x9_2 ∧ v10 = .int .i64 x10_2 ∧ Aside0 (demurrageref01_Quot.l1 kq x6_1 x8_1 x9_2 x10_2 l0_0 l1_0 t225 = some (r1, r2)) ∧ Aside0 (kq ≤ k1) ∧ Aside0 (Kd.R (Kd.int .i64) 3 w' w.heap.size (fun k_ => some k_ ≠ ((.slice Ao34 t225.length co34) : Value).ownBlock) v212 x6_1) ∧ Aside0 (Kd.R (Kd.int .i64) 3 w' w.heap.size (fun k_ => some k_ ≠ (v212 : Value).ownBlock) (.slice Ao34 t225.length co34) t225) ∧ Aside0 (w'.heap[gb207]? = some (.cells #[(.slice (some ad218) l0_0.length c0_0)] 61 (0, 0))) ∧ Aside0 (w'.heap[gb208]? = some (.cells #[(.slice A1_0 l1_0.length c1_0)] 61 (0, 0))) ∧ Aside0 (w'.heap[gb209]? = some (.cells #[(.slice none 0 0)] 61 (0, 0))) ∧ Aside0 (w'.heap[gb210]? = some (.cells #[(.slice none 0 0)] 61 (0, 0))) ∧ Aside0 (w'.heap[gb214]? = some (.cells #[(.slice Ao34 t225.length co34)] 61 (0, 0))) ∧ Aside0 (Below w.heap.size w w'))
         case atStart => exact ⟨(0), (10000), (by first | rfl | (simp; done) | (simp [*]; done)), (by first | rfl | (simp; done) | (simp [*]; done)), H', ⟨Nat.le_refl _⟩, ⟨by (with_reducible repeat (first | apply Kd.R_alloc | apply Kd.R_drewN | apply Kd.R_drew)); exact Kd.R_mono (Kd.R_far (p := ⟨gb214, 0, none⟩) (Kd.R_types HO_6.out BK214.out (by decide)) (fun _ hk => hk.2) (.slice Ao34 t225.length co34)) (fun _ hk => hk.1.2)⟩, ⟨by (with_reducible repeat (first | apply Kd.R_alloc | apply Kd.R_drewN | apply Kd.R_drew)); exact Kd.R_mono (Kd.R_far (p := ⟨gb214, 0, none⟩) (Kd.R_types HO227.out BK214.out (by decide)) (fun _ hk => hk.2) (.slice Ao34 t225.length co34)) (fun _ hk => hk.1.1.1.2)⟩, ⟨by refine blk_far ?_ NB207_214.out _; exact BK207.out⟩, ⟨by refine blk_far ?_ NB208_214.out _; exact BK208.out⟩, ⟨by refine blk_far ?_ NB209_214.out _; exact BK209.out⟩, ⟨by refine blk_far ?_ NB210_214.out _; exact BK210.out⟩, ⟨by refine blk_put (cs := #[.slice Ao31 x215000_1.length co31]) ?_ 0 _ rfl; exact BK214.out⟩, ⟨by repeat (first | (with_reducible first | exact HB.out | apply bA_ | apply bN_ | apply bD_ | refine bS_ ?_ GE207.out | refine bS_ ?_ GE208.out | refine bS_ ?_ GE209.out | refine bS_ ?_ GE210.out | refine bS_ ?_ GE214.out) | exact HB.out)⟩⟩
         case round =>
          clear H'
          try clear c1
          try clear c2
          try clear p2
          try clear q2
          try clear hx2
          try clear c3
          try clear c3b0
          try clear c3b1
          try clear c4
          try clear c4b0
          try clear c4b1
          try clear p6
          try clear c9
          try clear c10
          try clear c11
          try clear c16
          try clear c17
          try clear c18
          try clear c19
          try clear p21
          try clear q21
          try clear hx21
          try clear c22
          try clear c22b0
          try clear c23
          try clear c23b0
          try clear c24
          try clear c24b0
          try clear c25
          try clear hcz12_0
          try clear hcz20_0
          try clear hcz21_0
          try clear hfz12_0
          try clear hfz20_0
          try clear hfz21_0
          try clear hx218_0
          try clear p2
          try clear p218
          try clear p6
          try clear q218
          obtain ⟨x9_2, x10_2, rfl, rfl, HA, HK2, HO_6, HO_215000, BK207, BK208, BK209, BK210, BK214, HB⟩ := hrel
          cases gk with
          | zero => exact absurd HA.out (by simp [demurrageref01_Quot.l1])
          | succ k2 =>
           have H := HA.out
           clear HA
           simp only [demurrageref01_Quot.l1] at H
           by_cases c36 : (wrap64 (x10_2 - x9_2)) > 1
           ·rw [if_pos c36] at H
            have c36b0 : decide (1 < (wrap64 (x10_2 - x9_2))) = true := decide_eq_true c36
            clear c36
            replace H := Option.bind_eq_some_iff.mp H
            obtain ⟨t238, A370, H⟩ := H
            (try dsimp only at H)
            have A37 := Aside0.mk A370
            clear A370
            replace H := Option.bind_eq_some_iff.mp H
            obtain ⟨t241, A380, H⟩ := H
            (try dsimp only at H)
            have A38 := Aside0.mk A380
            clear A380
            replace H := Option.bind_eq_some_iff.mp H
            obtain ⟨t244, A390, H⟩ := H
            (try dsimp only at H)
            have A39 := Aside0.mk A390
            clear A390
            by_cases c40 : t244 ≤ 0
            ·rw [if_pos c40] at H
             have c40b0 : decide (t244 ≤ 0) = true := decide_eq_true c40
             clear c40
             have H' := Aside0.mk H
             clear H
             try go_wp2
             replace HO_6 := Aside0.mk (Kd.R_drew HO_6.out)
             replace HO_215000 := Aside0.mk (Kd.R_drew HO_215000.out)
             replace BK207 := Aside0.mk (blk_drew BK207.out)
             replace BK208 := Aside0.mk (blk_drew BK208.out)
             replace BK209 := Aside0.mk (blk_drew BK209.out)
             replace BK210 := Aside0.mk (blk_drew BK210.out)
             replace BK214 := Aside0.mk (blk_drew BK214.out)
             replace HB := Aside0.mk (below_drew1 HB.out)
             refine start_ (n := 7) (S := fun w' => w'.cell? ⟨gb208, 0, none⟩ = some (.slice A1_0 l1_0.length c1_0) ∧ w'.cell? ⟨gb214, 0, none⟩ = some (.slice Ao34 t225.length co34)) (ds := []) (demurrageref01_Quot.ups 7 0) (by kernel_rfl) rfl rfl ⟨(blk_cell BK208.out 0).trans rfl, (blk_cell BK214.out 0).trans rfl⟩ (fun hHeld => ?_)
             generalize wr.drew = w41 at HO_6 HO_215000 BK207 BK208 BK209 BK210 BK214 HB hHeld ⊢
             refine pure_ (i := 1) (N := some 44) (v := ?_) (a' := ?_) (demurrageref01_Quot.ups 7 2) rfl rfl (by kernel_rfl) (fun _ _ _ h => h) (Or.inl ⟨by rfl, ?_⟩) ?_ ?_
             rotate_left
             ·intro w'
              go_simp
              with_reducible rfl
             rotate_left
             ·simp only [Act.put, sT_, sZ_, sS_, i64_w, i32_w]
              rfl
             refine take_ (i := 0) (N := some 43) (v := ?_) (a' := ?_) (demurrageref01_Quot.ups 7 3) rfl rfl (by kernel_rfl) (fun _ _ _ h => h) (Or.inl ⟨by rfl, ?_⟩) hHeld ?_ ?_
             rotate_left
             ·rintro w' ⟨s0, s1⟩
              go_simp
              with_reducible rfl
             rotate_left
             ·simp only [Act.put, sT_, sZ_, sS_, i64_w, i32_w]
              rfl
             refine take_ (i := 4) (N := some 47) (v := ?_) (a' := ?_) (demurrageref01_Quot.ups 7 19) rfl rfl (by kernel_rfl) (fun _ _ _ h => h) (Or.inl ⟨by rfl, ?_⟩) hHeld ?_ ?_
             rotate_left
             ·rintro w' ⟨s0, s1⟩
              go_simp
              with_reducible rfl
             rotate_left
             ·simp only [Act.put, sT_, sZ_, sS_, i64_w, i32_w]
              rfl
             refine one_ (i := 2) (N := some 45) (demurrageref01_Quot.ups 7 23) rfl rfl (by kernel_rfl) (by decide) (fun K hK => ?_)
             refine goes_ Try.func30 (by kernel_rfl) rfl #[.int .i64 (wrap64 (Int.tdiv (wrap64 (x9_2 + x10_2)) 2))] (by rfl) rfl rfl (by (try simp only [List.map_toArray, List.map_cons, List.map_nil]); first | done | rfl) ?_
             with_reducible refine (demurrageref01_From.calls k2 (wrap64 (Int.tdiv (wrap64 (x9_2 + x10_2)) 2)) t238 _ A37.out).mono ?_
             rintro e w42 ⟨v239, rfl, ho0, hb⟩
             refine ⟨_, rfl, ?_⟩
             have HO240 := Aside0.mk (Kd.R_lower (Kd.R_new' (Kd.R_new' ho0 (Kd.R_lt HO_6.out)) (Kd.R_lt HO_215000.out)) (below_size (by repeat (first | (with_reducible first | exact HB.out | apply bA_ | apply bN_ | apply bD_ | refine bS_ ?_ GE207.out | refine bS_ ?_ GE208.out | refine bS_ ?_ GE209.out | refine bS_ ?_ GE210.out | refine bS_ ?_ GE214.out) | exact HB.out))))
             replace HO_6 := Aside0.mk (Kd.R_elder' HO_6.out (Kd.R_base ho0) hb)
             replace HO_215000 := Aside0.mk (Kd.R_elder' HO_215000.out (Kd.R_base ho0) hb)
             replace BK207 := bK_ BK207 hb
             replace BK208 := bK_ BK208 hb
             replace BK209 := bK_ BK209 hb
             replace BK210 := bK_ BK210 hb
             replace BK214 := bK_ BK214 hb
             replace HB := Aside0.mk (below_step (by repeat (first | (with_reducible first | exact HB.out | apply bA_ | apply bN_ | apply bD_ | refine bS_ ?_ GE207.out | refine bS_ ?_ GE208.out | refine bS_ ?_ GE209.out | refine bS_ ?_ GE210.out | refine bS_ ?_ GE214.out) | exact HB.out)) hb)
             (try clear hb)
             (try clear hb2)
             (try clear hk)
             (try clear hi)
             (try clear ho0)
             obtain ⟨Ao43, co43, eo43⟩ := Kd.R_slice HO240.out
             (first | subst eo43 | (injection eo43 with f1_ f2_ f3_; have f4_ := f1_.symm; have f5_ := f3_.symm; clear f1_ f2_ f3_; subst f4_; subst f5_))
             refine hK.out _ _ ⟨(blk_cell BK208.out 0).trans rfl, (blk_cell BK214.out 0).trans rfl⟩ (fun hHeld => ?_)
             clear hK K
             refine norm_ (a' := ?_) ?_ ?_
             rotate_left
             ·show Act.put _ (some 45) _ = _
              simp only [Act.put, sT_, sZ_, sS_, i64_w, i32_w]
              rfl
             refine one_ (i := 3) (N := some 46) (demurrageref01_Quot.ups 7 31) rfl rfl (by kernel_rfl) (by decide) (fun K hK => ?_)
             refine goes_ Try.func29 (by kernel_rfl) rfl #[.agg #[.slice A1_0 l1_0.length c1_0], .agg #[.slice Ao43 t238.length co43]] (by rfl) rfl rfl (by (try simp only [List.map_toArray, List.map_cons, List.map_nil]); first | done | rfl) ?_
             with_reducible refine (demurrageref01_Prod.calls k2 _ _ l1_0 _ _ t238 t241 _ ?side1 ?side2 ?side3 ?side4 A38.out).mono ?_
             (case side1 => repeat (first | exact (Kd.C_below HR1_0.out HB.out) | (with_reducible refine Kd.C_alloc ?_ _) | (with_reducible refine Kd.C_drewN ?_ _) | (with_reducible refine Kd.C_drew ?_)))
             (case side2 => exact HC1_0.out)
             (case side3 => repeat (first | exact (Kd.R_reads' HO240.out).2.2 | (with_reducible refine Kd.C_alloc ?_ _) | (with_reducible refine Kd.C_drewN ?_ _) | (with_reducible refine Kd.C_drew ?_)))
             (case side4 => exact (Kd.R_reads' HO240.out).2.1)
             rintro e w44 ⟨v242, rfl, ho0, hb⟩
             refine ⟨_, rfl, ?_⟩
             have HO243 := Aside0.mk (Kd.R_lower (Kd.R_new' (Kd.R_new' (Kd.R_new' ho0 (Kd.R_lt HO_6.out)) (Kd.R_lt HO_215000.out)) (Kd.R_lt HO240.out)) (below_size (by repeat (first | (with_reducible first | exact HB.out | apply bA_ | apply bN_ | apply bD_ | refine bS_ ?_ GE207.out | refine bS_ ?_ GE208.out | refine bS_ ?_ GE209.out | refine bS_ ?_ GE210.out | refine bS_ ?_ GE214.out) | exact HB.out))))
             replace HO_6 := Aside0.mk (Kd.R_elder' HO_6.out (Kd.R_base ho0) hb)
             replace HO_215000 := Aside0.mk (Kd.R_elder' HO_215000.out (Kd.R_base ho0) hb)
             replace HO240 := Aside0.mk (Kd.R_elder' HO240.out (Kd.R_base ho0) hb)
             replace BK207 := bK_ BK207 hb
             replace BK208 := bK_ BK208 hb
             replace BK209 := bK_ BK209 hb
             replace BK210 := bK_ BK210 hb
             replace BK214 := bK_ BK214 hb
             replace HB := Aside0.mk (below_step (by repeat (first | (with_reducible first | exact HB.out | apply bA_ | apply bN_ | apply bD_ | refine bS_ ?_ GE207.out | refine bS_ ?_ GE208.out | refine bS_ ?_ GE209.out | refine bS_ ?_ GE210.out | refine bS_ ?_ GE214.out) | exact HB.out)) hb)
             (try clear hb)
             (try clear hb2)
             (try clear hk)
             (try clear hi)
             (try clear ho0)
             obtain ⟨Ao45, co45, eo45⟩ := Kd.R_slice HO243.out
             (first | subst eo45 | (injection eo45 with f1_ f2_ f3_; have f4_ := f1_.symm; have f5_ := f3_.symm; clear f1_ f2_ f3_; subst f4_; subst f5_))
             refine hK.out _ _ ⟨(blk_cell BK208.out 0).trans rfl, (blk_cell BK214.out 0).trans rfl⟩ (fun hHeld => ?_)
             clear hK K
             refine norm_ (a' := ?_) ?_ ?_
             rotate_left
             ·show Act.put _ (some 46) _ = _
              simp only [Act.put, sT_, sZ_, sS_, i64_w, i32_w]
              rfl
             refine one_ (i := 5) (N := some 48) (demurrageref01_Quot.ups 7 63) rfl rfl (by kernel_rfl) (by decide) (fun K hK => ?_)
             refine goes_ Try.func32 (by kernel_rfl) rfl #[.agg #[.slice Ao45 t241.length co45], .agg #[.slice Ao34 t225.length co34]] (by rfl) rfl rfl (by (try simp only [List.map_toArray, List.map_cons, List.map_nil]); first | done | rfl) ?_
             with_reducible refine (demurrageref01_Cmp.calls k2 _ _ t241 _ _ t225 t244 _ ?side1 ?side2 ?side3 ?side4 A39.out).mono ?_
             (case side1 => repeat (first | exact (Kd.R_reads' HO243.out).2.2 | (with_reducible refine Kd.C_alloc ?_ _) | (with_reducible refine Kd.C_drewN ?_ _) | (with_reducible refine Kd.C_drew ?_)))
             (case side2 => exact (Kd.R_reads' HO243.out).2.1)
             (case side3 => repeat (first | exact (Kd.R_reads' HO_215000.out).2.2 | (with_reducible refine Kd.C_alloc ?_ _) | (with_reducible refine Kd.C_drewN ?_ _) | (with_reducible refine Kd.C_drew ?_)))
             (case side4 => exact (Kd.R_reads' HO_215000.out).2.1)
             rintro e w46 ⟨rfl, hb⟩
             refine ⟨_, rfl, ?_⟩
             replace HO_6 := Aside0.mk (Kd.R_below HO_6.out hb)
             replace HO_215000 := Aside0.mk (Kd.R_below HO_215000.out hb)
             replace HO240 := Aside0.mk (Kd.R_below HO240.out hb)
             replace HO243 := Aside0.mk (Kd.R_below HO243.out hb)
             replace BK207 := bK_ BK207 hb
             replace BK208 := bK_ BK208 hb
             replace BK209 := bK_ BK209 hb
             replace BK210 := bK_ BK210 hb
             replace BK214 := bK_ BK214 hb
             replace HB := Aside0.mk (below_step (by repeat (first | (with_reducible first | exact HB.out | apply bA_ | apply bN_ | apply bD_ | refine bS_ ?_ GE207.out | refine bS_ ?_ GE208.out | refine bS_ ?_ GE209.out | refine bS_ ?_ GE210.out | refine bS_ ?_ GE214.out) | exact HB.out)) hb)
             (try clear hb)
             (try clear hb2)
             (try clear hk)
             (try clear hi)
             refine hK.out _ _ ⟨(blk_cell BK208.out 0).trans rfl, (blk_cell BK214.out 0).trans rfl⟩ (fun hHeld => ?_)
             clear hK K
             refine norm_ (a' := ?_) ?_ ?_
             rotate_left
             ·show Act.put _ (some 48) _ = _
              simp only [Act.put, sT_, sZ_, sS_, i64_w, i32_w]
              rfl
             refine pure_ (i := 6) (N := some 49) (v := ?_) (a' := ?_) (demurrageref01_Quot.ups 7 127) rfl rfl (by kernel_rfl) (fun _ _ _ h => h) (Or.inl ⟨by rfl, ?_⟩) ?_ ?_
             rotate_left
             ·intro w'
              go_simp
              with_reducible rfl
             rotate_left
             ·simp only [Act.put, sT_, sZ_, sS_, i64_w, i32_w]
              rfl
             refine done_ (by kernel_rfl) ?_
             try go_wp2
             go_roundg k2
             case measure => have := HK1.out; have := HK2.out; omega
             case rel => exact ⟨(wrap64 (Int.tdiv (wrap64 (x9_2 + x10_2)) 2)), (x10_2), (by first | rfl | (simp; done) | (simp [*]; done)), (by first | rfl | (simp; done) | (simp [*]; done)), H', ⟨by have := HK1.out; have := HK2.out; omega⟩, ⟨by (with_reducible repeat (first | apply Kd.R_alloc | apply Kd.R_drewN | apply Kd.R_drew)); exact Kd.R_mono HO_6.out (fun _ hk => hk.1.1)⟩, ⟨by (with_reducible repeat (first | apply Kd.R_alloc | apply Kd.R_drewN | apply Kd.R_drew)); exact Kd.R_mono HO_215000.out (fun _ hk => hk.1.1)⟩, ⟨by exact BK207.out⟩, ⟨by exact BK208.out⟩, ⟨by exact BK209.out⟩, ⟨by exact BK210.out⟩, ⟨by exact BK214.out⟩, ⟨by repeat (first | (with_reducible first | exact HB.out | apply bA_ | apply bN_ | apply bD_ | refine bS_ ?_ GE207.out | refine bS_ ?_ GE208.out | refine bS_ ?_ GE209.out | refine bS_ ?_ GE210.out | refine bS_ ?_ GE214.out) | exact HB.out)⟩⟩
            ·rw [if_neg c40] at H
             have c40b0 : decide (t244 ≤ 0) = false := decide_eq_false c40
             clear c40
             have H' := Aside0.mk H
             clear H
             try go_wp2
             replace HO_6 := Aside0.mk (Kd.R_drew HO_6.out)
             replace HO_215000 := Aside0.mk (Kd.R_drew HO_215000.out)
             replace BK207 := Aside0.mk (blk_drew BK207.out)
             replace BK208 := Aside0.mk (blk_drew BK208.out)
             replace BK209 := Aside0.mk (blk_drew BK209.out)
             replace BK210 := Aside0.mk (blk_drew BK210.out)
             replace BK214 := Aside0.mk (blk_drew BK214.out)
             replace HB := Aside0.mk (below_drew1 HB.out)
             refine start_ (n := 7) (S := fun w' => w'.cell? ⟨gb208, 0, none⟩ = some (.slice A1_0 l1_0.length c1_0) ∧ w'.cell? ⟨gb214, 0, none⟩ = some (.slice Ao34 t225.length co34)) (ds := []) (demurrageref01_Quot.ups 7 0) (by kernel_rfl) rfl rfl ⟨(blk_cell BK208.out 0).trans rfl, (blk_cell BK214.out 0).trans rfl⟩ (fun hHeld => ?_)
             generalize wr.drew = w47 at HO_6 HO_215000 BK207 BK208 BK209 BK210 BK214 HB hHeld ⊢
             refine pure_ (i := 1) (N := some 44) (v := ?_) (a' := ?_) (demurrageref01_Quot.ups 7 2) rfl rfl (by kernel_rfl) (fun _ _ _ h => h) (Or.inl ⟨by rfl, ?_⟩) ?_ ?_
             rotate_left
             ·intro w'
              go_simp
              with_reducible rfl
             rotate_left
             ·simp only [Act.put, sT_, sZ_, sS_, i64_w, i32_w]
              rfl
             refine take_ (i := 0) (N := some 43) (v := ?_) (a' := ?_) (demurrageref01_Quot.ups 7 3) rfl rfl (by kernel_rfl) (fun _ _ _ h => h) (Or.inl ⟨by rfl, ?_⟩) hHeld ?_ ?_
             rotate_left
             ·rintro w' ⟨s0, s1⟩
              go_simp
              with_reducible rfl
             rotate_left
             ·simp only [Act.put, sT_, sZ_, sS_, i64_w, i32_w]
              rfl
             refine take_ (i := 4) (N := some 47) (v := ?_) (a' := ?_) (demurrageref01_Quot.ups 7 19) rfl rfl (by kernel_rfl) (fun _ _ _ h => h) (Or.inl ⟨by rfl, ?_⟩) hHeld ?_ ?_
             rotate_left
             ·rintro w' ⟨s0, s1⟩
              go_simp
              with_reducible rfl
             rotate_left
             ·simp only [Act.put, sT_, sZ_, sS_, i64_w, i32_w]
              rfl
             refine one_ (i := 2) (N := some 45) (demurrageref01_Quot.ups 7 23) rfl rfl (by kernel_rfl) (by decide) (fun K hK => ?_)
             refine goes_ Try.func30 (by kernel_rfl) rfl #[.int .i64 (wrap64 (Int.tdiv (wrap64 (x9_2 + x10_2)) 2))] (by rfl) rfl rfl (by (try simp only [List.map_toArray, List.map_cons, List.map_nil]); first | done | rfl) ?_
             with_reducible refine (demurrageref01_From.calls k2 (wrap64 (Int.tdiv (wrap64 (x9_2 + x10_2)) 2)) t238 _ A37.out).mono ?_
             rintro e w48 ⟨v239, rfl, ho0, hb⟩
             refine ⟨_, rfl, ?_⟩
             have HO240 := Aside0.mk (Kd.R_lower (Kd.R_new' (Kd.R_new' ho0 (Kd.R_lt HO_6.out)) (Kd.R_lt HO_215000.out)) (below_size (by repeat (first | (with_reducible first | exact HB.out | apply bA_ | apply bN_ | apply bD_ | refine bS_ ?_ GE207.out | refine bS_ ?_ GE208.out | refine bS_ ?_ GE209.out | refine bS_ ?_ GE210.out | refine bS_ ?_ GE214.out) | exact HB.out))))
             replace HO_6 := Aside0.mk (Kd.R_elder' HO_6.out (Kd.R_base ho0) hb)
             replace HO_215000 := Aside0.mk (Kd.R_elder' HO_215000.out (Kd.R_base ho0) hb)
             replace BK207 := bK_ BK207 hb
             replace BK208 := bK_ BK208 hb
             replace BK209 := bK_ BK209 hb
             replace BK210 := bK_ BK210 hb
             replace BK214 := bK_ BK214 hb
             replace HB := Aside0.mk (below_step (by repeat (first | (with_reducible first | exact HB.out | apply bA_ | apply bN_ | apply bD_ | refine bS_ ?_ GE207.out | refine bS_ ?_ GE208.out | refine bS_ ?_ GE209.out | refine bS_ ?_ GE210.out | refine bS_ ?_ GE214.out) | exact HB.out)) hb)
             (try clear hb)
             (try clear hb2)
             (try clear hk)
             (try clear hi)
             (try clear ho0)
             obtain ⟨Ao49, co49, eo49⟩ := Kd.R_slice HO240.out
             (first | subst eo49 | (injection eo49 with f1_ f2_ f3_; have f4_ := f1_.symm; have f5_ := f3_.symm; clear f1_ f2_ f3_; subst f4_; subst f5_))
             refine hK.out _ _ ⟨(blk_cell BK208.out 0).trans rfl, (blk_cell BK214.out 0).trans rfl⟩ (fun hHeld => ?_)
             clear hK K
             refine norm_ (a' := ?_) ?_ ?_
             rotate_left
             ·show Act.put _ (some 45) _ = _
              simp only [Act.put, sT_, sZ_, sS_, i64_w, i32_w]
              rfl
             refine one_ (i := 3) (N := some 46) (demurrageref01_Quot.ups 7 31) rfl rfl (by kernel_rfl) (by decide) (fun K hK => ?_)
             refine goes_ Try.func29 (by kernel_rfl) rfl #[.agg #[.slice A1_0 l1_0.length c1_0], .agg #[.slice Ao49 t238.length co49]] (by rfl) rfl rfl (by (try simp only [List.map_toArray, List.map_cons, List.map_nil]); first | done | rfl) ?_
             with_reducible refine (demurrageref01_Prod.calls k2 _ _ l1_0 _ _ t238 t241 _ ?side1 ?side2 ?side3 ?side4 A38.out).mono ?_
             (case side1 => repeat (first | exact (Kd.C_below HR1_0.out HB.out) | (with_reducible refine Kd.C_alloc ?_ _) | (with_reducible refine Kd.C_drewN ?_ _) | (with_reducible refine Kd.C_drew ?_)))
             (case side2 => exact HC1_0.out)
             (case side3 => repeat (first | exact (Kd.R_reads' HO240.out).2.2 | (with_reducible refine Kd.C_alloc ?_ _) | (with_reducible refine Kd.C_drewN ?_ _) | (with_reducible refine Kd.C_drew ?_)))
             (case side4 => exact (Kd.R_reads' HO240.out).2.1)
             rintro e w50 ⟨v242, rfl, ho0, hb⟩
             refine ⟨_, rfl, ?_⟩
             have HO243 := Aside0.mk (Kd.R_lower (Kd.R_new' (Kd.R_new' (Kd.R_new' ho0 (Kd.R_lt HO_6.out)) (Kd.R_lt HO_215000.out)) (Kd.R_lt HO240.out)) (below_size (by repeat (first | (with_reducible first | exact HB.out | apply bA_ | apply bN_ | apply bD_ | refine bS_ ?_ GE207.out | refine bS_ ?_ GE208.out | refine bS_ ?_ GE209.out | refine bS_ ?_ GE210.out | refine bS_ ?_ GE214.out) | exact HB.out))))
             replace HO_6 := Aside0.mk (Kd.R_elder' HO_6.out (Kd.R_base ho0) hb)
             replace HO_215000 := Aside0.mk (Kd.R_elder' HO_215000.out (Kd.R_base ho0) hb)
             replace HO240 := Aside0.mk (Kd.R_elder' HO240.out (Kd.R_base ho0) hb)
             replace BK207 := bK_ BK207 hb
             replace BK208 := bK_ BK208 hb
             replace BK209 := bK_ BK209 hb
             replace BK210 := bK_ BK210 hb
             replace BK214 := bK_ BK214 hb
             replace HB := Aside0.mk (below_step (by repeat (first | (with_reducible first | exact HB.out | apply bA_ | apply bN_ | apply bD_ | refine bS_ ?_ GE207.out | refine bS_ ?_ GE208.out | refine bS_ ?_ GE209.out | refine bS_ ?_ GE210.out | refine bS_ ?_ GE214.out) | exact HB.out)) hb)
             (try clear hb)
             (try clear hb2)
             (try clear hk)
             (try clear hi)
             (try clear ho0)
             obtain ⟨Ao51, co51, eo51⟩ := Kd.R_slice HO243.out
             (first | subst eo51 | (injection eo51 with f1_ f2_ f3_; have f4_ := f1_.symm; have f5_ := f3_.symm; clear f1_ f2_ f3_; subst f4_; subst f5_))
             refine hK.out _ _ ⟨(blk_cell BK208.out 0).trans rfl, (blk_cell BK214.out 0).trans rfl⟩ (fun hHeld => ?_)
             clear hK K
             refine norm_ (a' := ?_) ?_ ?_
             rotate_left
             ·show Act.put _ (some 46) _ = _
              simp only [Act.put, sT_, sZ_, sS_, i64_w, i32_w]
              rfl
             refine one_ (i := 5) (N := some 48) (demurrageref01_Quot.ups 7 63) rfl rfl (by kernel_rfl) (by decide) (fun K hK => ?_)
             refine goes_ Try.func32 (by kernel_rfl) rfl #[.agg #[.slice Ao51 t241.length co51], .agg #[.slice Ao34 t225.length co34]] (by rfl) rfl rfl (by (try simp only [List.map_toArray, List.map_cons, List.map_nil]); first | done | rfl) ?_
             with_reducible refine (demurrageref01_Cmp.calls k2 _ _ t241 _ _ t225 t244 _ ?side1 ?side2 ?side3 ?side4 A39.out).mono ?_
             (case side1 => repeat (first | exact (Kd.R_reads' HO243.out).2.2 | (with_reducible refine Kd.C_alloc ?_ _) | (with_reducible refine Kd.C_drewN ?_ _) | (with_reducible refine Kd.C_drew ?_)))
             (case side2 => exact (Kd.R_reads' HO243.out).2.1)
             (case side3 => repeat (first | exact (Kd.R_reads' HO_215000.out).2.2 | (with_reducible refine Kd.C_alloc ?_ _) | (with_reducible refine Kd.C_drewN ?_ _) | (with_reducible refine Kd.C_drew ?_)))
             (case side4 => exact (Kd.R_reads' HO_215000.out).2.1)
             rintro e w52 ⟨rfl, hb⟩
             refine ⟨_, rfl, ?_⟩
             replace HO_6 := Aside0.mk (Kd.R_below HO_6.out hb)
             replace HO_215000 := Aside0.mk (Kd.R_below HO_215000.out hb)
             replace HO240 := Aside0.mk (Kd.R_below HO240.out hb)
             replace HO243 := Aside0.mk (Kd.R_below HO243.out hb)
             replace BK207 := bK_ BK207 hb
             replace BK208 := bK_ BK208 hb
             replace BK209 := bK_ BK209 hb
             replace BK210 := bK_ BK210 hb
             replace BK214 := bK_ BK214 hb
             replace HB := Aside0.mk (below_step (by repeat (first | (with_reducible first | exact HB.out | apply bA_ | apply bN_ | apply bD_ | refine bS_ ?_ GE207.out | refine bS_ ?_ GE208.out | refine bS_ ?_ GE209.out | refine bS_ ?_ GE210.out | refine bS_ ?_ GE214.out) | exact HB.out)) hb)
             (try clear hb)
             (try clear hb2)
             (try clear hk)
             (try clear hi)
             refine hK.out _ _ ⟨(blk_cell BK208.out 0).trans rfl, (blk_cell BK214.out 0).trans rfl⟩ (fun hHeld => ?_)
             clear hK K
             refine norm_ (a' := ?_) ?_ ?_
             rotate_left
             ·show Act.put _ (some 48) _ = _
              simp only [Act.put, sT_, sZ_, sS_, i64_w, i32_w]
              rfl
             refine pure_ (i := 6) (N := some 49) (v := ?_) (a' := ?_) (demurrageref01_Quot.ups 7 127) rfl rfl (by kernel_rfl) (fun _ _ _ h => h) (Or.inl ⟨by rfl, ?_⟩) ?_ ?_
             rotate_left
             ·intro w'
              go_simp
              with_reducible rfl
             rotate_left
             ·simp only [Act.put, sT_, sZ_, sS_, i64_w, i32_w]
              rfl
             refine done_ (by kernel_rfl) ?_
             try go_wp2
             go_roundg k2
             case measure => have := HK1.out; have := HK2.out; omega
             case rel => exact ⟨(x9_2), (wrap64 (Int.tdiv (wrap64 (x9_2 + x10_2)) 2)), (by first | rfl | (simp; done) | (simp [*]; done)), (by first | rfl | (simp; done) | (simp [*]; done)), H', ⟨by have := HK1.out; have := HK2.out; omega⟩, ⟨by (with_reducible repeat (first | apply Kd.R_alloc | apply Kd.R_drewN | apply Kd.R_drew)); exact Kd.R_mono HO_6.out (fun _ hk => hk.1.1)⟩, ⟨by (with_reducible repeat (first | apply Kd.R_alloc | apply Kd.R_drewN | apply Kd.R_drew)); exact Kd.R_mono HO_215000.out (fun _ hk => hk.1.1)⟩, ⟨by exact BK207.out⟩, ⟨by exact BK208.out⟩, ⟨by exact BK209.out⟩, ⟨by exact BK210.out⟩, ⟨by exact BK214.out⟩, ⟨by repeat (first | (with_reducible first | exact HB.out | apply bA_ | apply bN_ | apply bD_ | refine bS_ ?_ GE207.out | refine bS_ ?_ GE208.out | refine bS_ ?_ GE209.out | refine bS_ ?_ GE210.out | refine bS_ ?_ GE214.out) | exact HB.out)⟩⟩
           ·rw [if_neg c36] at H
            have c36b0 : decide (1 < (wrap64 (x10_2 - x9_2))) = false := decide_eq_false c36
            clear c36
            by_cases c53 : 0 ≤ x8_1
            ·rw [if_pos c53] at H
             have c53b0 : decide (0 ≤ x8_1) = true := decide_eq_true c53
             clear c53
             by_cases c54 : x8_1 < (x6_1.length : Int)
             ·rw [if_pos c54] at H
              have c54b0 : decide (x8_1 < (x6_1.length : Int)) = true := decide_eq_true c54
              clear c54
              obtain ⟨y228, hy228⟩ : ∃ y_ : List Int, y_ = (x6_1.set (x8_1 : Int).toNat x9_2) := ⟨_, rfl⟩
              replace H : ((demurrageref01_From.f k2 x9_2).bind fun t229 => ((demurrageref01_Prod.f k2 l1_0 t229).bind fun t232 => ((demurrageref01_Less.f k2 t225 t232).bind fun t235 => (demurrageref01_Quot.l0 k2 y228 (wrap64 (x8_1 - 1)) l0_0 l1_0 t235)))) = some (r1, r2) := by first | (rw [hy228]; with_reducible exact H) | (have H2_ := (Option.bind_some _ _).symm.trans H; rw [hy228]; with_reducible exact H2_) | (have H2_ := (Option.bind_some _ _).symm.trans H; with_reducible exact H2_) | with_reducible exact H | (rw [hy228]; exact H) | exact H
              have Ny228 := Aside0.mk hy228
              clear hy228
              replace H := Option.bind_eq_some_iff.mp H
              obtain ⟨t229, A560, H⟩ := H
              (try dsimp only at H)
              have A56 := Aside0.mk A560
              clear A560
              replace H := Option.bind_eq_some_iff.mp H
              obtain ⟨t232, A570, H⟩ := H
              (try dsimp only at H)
              have A57 := Aside0.mk A570
              clear A570
              replace H := Option.bind_eq_some_iff.mp H
              obtain ⟨t235, A580, H⟩ := H
              (try dsimp only at H)
              have A58 := Aside0.mk A580
              clear A580
              have H' := Aside0.mk H
              clear H
              have p55 : 0 ≤ (x8_1 : Int) := of_decide_eq_true (by first | (with_reducible assumption) | assumption)
              have q55 : (x8_1 : Int) < ((x6_1.length : Int) : Int) := of_decide_eq_true (by first | (with_reducible assumption) | assumption)
              obtain ⟨go55, co55, eo55, gb55, gl55, cl55, HG55⟩ := Kd.R_form HO_6.out (by omega)
              (first | cases eo55 | (injection eo55 with ea_ en_ ec_; (first | subst ea_ | (injection ea_ with ea_; subst ea_)); subst ec_; clear en_))
              have GB55 := Aside0.mk gb55
              have GG55 := Aside0.mk HG55
              clear gb55 gl55 HG55
              obtain ⟨hx55_0, hf55_0⟩ := Kd.R_celln 0 HO_6.out (x8_1 : Int) p55 q55
              replace p55 := eq_true p55
              replace q55 := eq_true q55
              have HP59 := Kd.R_putg HO_6.out (x8_1 : Int) x9_2
              try go_wp2_with (first | ((with_reducible refine gate_store (t := 3) (p := 55) rfl ?_); refine store_event (t := 3) (p := 55) (v := ?vo_w60) (w1 := (wr.setCell ⟨go55, (x8_1 : Int).toNat, none⟩ (.int .i64 x9_2))) ?hg ?ho ?hn ?hr ?_; (case ho => rfl); (case hg => rfl); (case hn => rfl); (case hr => first | (go_simp; done) | (go_simp; rfl)); intro w60 hw; have hg : wr.grownBy w60 (some go55) := (by rw [hw]; exact HP59.2); have hp_ : Kd.R (Kd.int .i64) 3 w60 w.heap.size (fun k_ => some k_ ≠ (.slice Ao34 t225.length co34 : Value).ownBlock) (.slice (some ⟨go55, 0, none⟩) x6_1.length co55) y228 := (by rw [hw, Ny228.out]; exact HP59.1); clear HP59; replace HO_215000 := Aside0.mk (Kd.R_after (v := (.slice (some ⟨go55, 0, none⟩) x6_1.length co55)) (v1 := (.slice (some ⟨go55, 0, none⟩) x6_1.length co55)) (ok := (fun _ => True)) (by (with_reducible repeat (first | apply Kd.R_alloc | apply Kd.R_drewN | apply Kd.R_drew)); exact Kd.R_mono HO_215000.out (fun _ hk => (And.intro (trivial) (hk)))) hg (.inl rfl)); replace BK207 := Aside0.mk (blk_grown (g := gb207) (o := .cells #[.slice (some ad218) l0_0.length c0_0] 61 (0, 0)) BK207.out hg (Kd.R_ne HO_6.out BK207.out (by decide))); replace BK208 := Aside0.mk (blk_grown (g := gb208) (o := .cells #[.slice A1_0 l1_0.length c1_0] 61 (0, 0)) BK208.out hg (Kd.R_ne HO_6.out BK208.out (by decide))); replace BK209 := Aside0.mk (blk_grown (g := gb209) (o := .cells #[.slice none 0 0] 61 (0, 0)) BK209.out hg (Kd.R_ne HO_6.out BK209.out (by decide))); replace BK210 := Aside0.mk (blk_grown (g := gb210) (o := .cells #[.slice none 0 0] 61 (0, 0)) BK210.out hg (Kd.R_ne HO_6.out BK210.out (by decide))); replace BK214 := Aside0.mk (blk_grown (g := gb214) (o := .cells #[.slice Ao34 t225.length co34] 61 (0, 0)) BK214.out hg (Kd.R_ne HO_6.out BK214.out (by decide))); replace HO_6 := Aside0.mk (hp_); replace HB := Aside0.mk ((by rw [hw]; exact below_set (HB.out) GB55.out : Below w.heap.size w w60)); clear hg hw hp_))
              replace HO_6 := Aside0.mk (Kd.R_drew HO_6.out)
              replace HO_215000 := Aside0.mk (Kd.R_drew HO_215000.out)
              replace BK207 := Aside0.mk (blk_drew BK207.out)
              replace BK208 := Aside0.mk (blk_drew BK208.out)
              replace BK209 := Aside0.mk (blk_drew BK209.out)
              replace BK210 := Aside0.mk (blk_drew BK210.out)
              replace BK214 := Aside0.mk (blk_drew BK214.out)
              replace HB := Aside0.mk (below_drew1 HB.out)
              refine start_ (n := 7) (S := fun w' => w'.cell? ⟨gb214, 0, none⟩ = some (.slice Ao34 t225.length co34) ∧ w'.cell? ⟨gb208, 0, none⟩ = some (.slice A1_0 l1_0.length c1_0)) (ds := [6]) (demurrageref01_Quot.ups 7 0) (by kernel_rfl) rfl rfl ⟨(blk_cell BK214.out 0).trans rfl, (blk_cell BK208.out 0).trans rfl⟩ (fun hHeld => ?_)
              generalize w60.drew = w61 at HO_6 HO_215000 BK207 BK208 BK209 BK210 BK214 HB hHeld ⊢
              refine pure_ (i := 2) (N := some 58) (v := ?_) (a' := ?_) (demurrageref01_Quot.ups 7 4) rfl rfl (by kernel_rfl) (fun _ _ _ h => h) (Or.inl ⟨by rfl, ?_⟩) ?_ ?_
              rotate_left
              ·intro w'
               go_simp
               with_reducible rfl
              rotate_left
              ·simp only [Act.put, sT_, sZ_, sS_, i64_w, i32_w]
               rfl
              refine take_ (i := 0) (N := some 56) (v := ?_) (a' := ?_) (demurrageref01_Quot.ups 7 5) rfl rfl (by kernel_rfl) (fun _ _ _ h => h) (Or.inl ⟨by rfl, ?_⟩) hHeld ?_ ?_
              rotate_left
              ·rintro w' ⟨s0, s1⟩
               go_simp
               with_reducible rfl
              rotate_left
              ·simp only [Act.put, sT_, sZ_, sS_, i64_w, i32_w]
               rfl
              refine take_ (i := 1) (N := some 57) (v := ?_) (a' := ?_) (demurrageref01_Quot.ups 7 7) rfl rfl (by kernel_rfl) (fun _ _ _ h => h) (Or.inl ⟨by rfl, ?_⟩) hHeld ?_ ?_
              rotate_left
              ·rintro w' ⟨s0, s1⟩
               go_simp
               with_reducible rfl
              rotate_left
              ·simp only [Act.put, sT_, sZ_, sS_, i64_w, i32_w]
               rfl
              refine one_ (i := 3) (N := some 59) (demurrageref01_Quot.ups 7 15) rfl rfl (by kernel_rfl) (by decide) (fun K hK => ?_)
              refine goes_ Try.func30 (by kernel_rfl) rfl #[.int .i64 x9_2] (by rfl) rfl rfl (by (try simp only [List.map_toArray, List.map_cons, List.map_nil]); first | done | rfl) ?_
              with_reducible refine (demurrageref01_From.calls k2 x9_2 t229 _ A56.out).mono ?_
              rintro e w62 ⟨v230, rfl, ho0, hb⟩
              refine ⟨_, rfl, ?_⟩
              have HO231 := Aside0.mk (Kd.R_lower (Kd.R_new' (Kd.R_new' ho0 (Kd.R_lt HO_6.out)) (Kd.R_lt HO_215000.out)) (below_size (by repeat (first | (with_reducible first | exact HB.out | apply bA_ | apply bN_ | apply bD_ | refine bS_ ?_ GE207.out | refine bS_ ?_ GE208.out | refine bS_ ?_ GE209.out | refine bS_ ?_ GE210.out | refine bS_ ?_ GE214.out) | exact HB.out))))
              replace HO_6 := Aside0.mk (Kd.R_elder' HO_6.out (Kd.R_base ho0) hb)
              replace HO_215000 := Aside0.mk (Kd.R_elder' HO_215000.out (Kd.R_base ho0) hb)
              replace BK207 := bK_ BK207 hb
              replace BK208 := bK_ BK208 hb
              replace BK209 := bK_ BK209 hb
              replace BK210 := bK_ BK210 hb
              replace BK214 := bK_ BK214 hb
              replace HB := Aside0.mk (below_step (by repeat (first | (with_reducible first | exact HB.out | apply bA_ | apply bN_ | apply bD_ | refine bS_ ?_ GE207.out | refine bS_ ?_ GE208.out | refine bS_ ?_ GE209.out | refine bS_ ?_ GE210.out | refine bS_ ?_ GE214.out) | exact HB.out)) hb)
              (try clear hb)
              (try clear hb2)
              (try clear hk)
              (try clear hi)
              (try clear ho0)
              obtain ⟨Ao63, co63, eo63⟩ := Kd.R_slice HO231.out
              (first | subst eo63 | (injection eo63 with f1_ f2_ f3_; have f4_ := f1_.symm; have f5_ := f3_.symm; clear f1_ f2_ f3_; subst f4_; subst f5_))
              refine hK.out _ _ ⟨(blk_cell BK214.out 0).trans rfl, (blk_cell BK208.out 0).trans rfl⟩ (fun hHeld => ?_)
              clear hK K
              refine norm_ (a' := ?_) ?_ ?_
              rotate_left
              ·show Act.put _ (some 59) _ = _
               simp only [Act.put, sT_, sZ_, sS_, i64_w, i32_w]
               rfl
              refine one_ (i := 4) (N := some 60) (demurrageref01_Quot.ups 7 31) rfl rfl (by kernel_rfl) (by decide) (fun K hK => ?_)
              refine goes_ Try.func29 (by kernel_rfl) rfl #[.agg #[.slice A1_0 l1_0.length c1_0], .agg #[.slice Ao63 t229.length co63]] (by rfl) rfl rfl (by (try simp only [List.map_toArray, List.map_cons, List.map_nil]); first | done | rfl) ?_
              with_reducible refine (demurrageref01_Prod.calls k2 _ _ l1_0 _ _ t229 t232 _ ?side1 ?side2 ?side3 ?side4 A57.out).mono ?_
              (case side1 => repeat (first | exact (Kd.C_below HR1_0.out HB.out) | (with_reducible refine Kd.C_alloc ?_ _) | (with_reducible refine Kd.C_drewN ?_ _) | (with_reducible refine Kd.C_drew ?_)))
              (case side2 => exact HC1_0.out)
              (case side3 => repeat (first | exact (Kd.R_reads' HO231.out).2.2 | (with_reducible refine Kd.C_alloc ?_ _) | (with_reducible refine Kd.C_drewN ?_ _) | (with_reducible refine Kd.C_drew ?_)))
              (case side4 => exact (Kd.R_reads' HO231.out).2.1)
              rintro e w64 ⟨v233, rfl, ho0, hb⟩
              refine ⟨_, rfl, ?_⟩
              have HO234 := Aside0.mk (Kd.R_lower (Kd.R_new' (Kd.R_new' (Kd.R_new' ho0 (Kd.R_lt HO_6.out)) (Kd.R_lt HO_215000.out)) (Kd.R_lt HO231.out)) (below_size (by repeat (first | (with_reducible first | exact HB.out | apply bA_ | apply bN_ | apply bD_ | refine bS_ ?_ GE207.out | refine bS_ ?_ GE208.out | refine bS_ ?_ GE209.out | refine bS_ ?_ GE210.out | refine bS_ ?_ GE214.out) | exact HB.out))))
              replace HO_6 := Aside0.mk (Kd.R_elder' HO_6.out (Kd.R_base ho0) hb)
              replace HO_215000 := Aside0.mk (Kd.R_elder' HO_215000.out (Kd.R_base ho0) hb)
              replace HO231 := Aside0.mk (Kd.R_elder' HO231.out (Kd.R_base ho0) hb)
              replace BK207 := bK_ BK207 hb
              replace BK208 := bK_ BK208 hb
              replace BK209 := bK_ BK209 hb
              replace BK210 := bK_ BK210 hb
              replace BK214 := bK_ BK214 hb
              replace HB := Aside0.mk (below_step (by repeat (first | (with_reducible first | exact HB.out | apply bA_ | apply bN_ | apply bD_ | refine bS_ ?_ GE207.out | refine bS_ ?_ GE208.out | refine bS_ ?_ GE209.out | refine bS_ ?_ GE210.out | refine bS_ ?_ GE214.out) | exact HB.out)) hb)
              (try clear hb)
              (try clear hb2)
              (try clear hk)
              (try clear hi)
              (try clear ho0)
              obtain ⟨Ao65, co65, eo65⟩ := Kd.R_slice HO234.out
              (first | subst eo65 | (injection eo65 with f1_ f2_ f3_; have f4_ := f1_.symm; have f5_ := f3_.symm; clear f1_ f2_ f3_; subst f4_; subst f5_))
              refine hK.out _ _ ⟨(blk_cell BK214.out 0).trans rfl, (blk_cell BK208.out 0).trans rfl⟩ (fun hHeld => ?_)
              clear hK K
              refine norm_ (a' := ?_) ?_ ?_
              rotate_left
              ·show Act.put _ (some 60) _ = _
               simp only [Act.put, sT_, sZ_, sS_, i64_w, i32_w]
               rfl
              refine one_ (i := 5) (N := some 61) (demurrageref01_Quot.ups 7 63) rfl rfl (by kernel_rfl) (by decide) (fun K hK => ?_)
              refine goes_ Try.func50 (by kernel_rfl) rfl #[.agg #[.slice Ao34 t225.length co34], .agg #[.slice Ao65 t232.length co65]] (by rfl) rfl rfl (by (try simp only [List.map_toArray, List.map_cons, List.map_nil]); first | done | rfl) ?_
              with_reducible refine (demurrageref01_Less.calls k2 _ _ t225 _ _ t232 t235 _ ?side1 ?side2 ?side3 ?side4 A58.out).mono ?_
              (case side1 => repeat (first | exact (Kd.R_reads' HO_215000.out).2.2 | (with_reducible refine Kd.C_alloc ?_ _) | (with_reducible refine Kd.C_drewN ?_ _) | (with_reducible refine Kd.C_drew ?_)))
              (case side2 => exact (Kd.R_reads' HO_215000.out).2.1)
              (case side3 => repeat (first | exact (Kd.R_reads' HO234.out).2.2 | (with_reducible refine Kd.C_alloc ?_ _) | (with_reducible refine Kd.C_drewN ?_ _) | (with_reducible refine Kd.C_drew ?_)))
              (case side4 => exact (Kd.R_reads' HO234.out).2.1)
              rintro e w66 ⟨v236, rfl, ho0, hb⟩
              refine ⟨_, rfl, ?_⟩
              have HO237 := Aside0.mk (Kd.R_lower (Kd.R_new' (Kd.R_new' (Kd.R_new' (Kd.R_new' ho0 (Kd.R_lt HO_6.out)) (Kd.R_lt HO_215000.out)) (Kd.R_lt HO231.out)) (Kd.R_lt HO234.out)) (below_size (by repeat (first | (with_reducible first | exact HB.out | apply bA_ | apply bN_ | apply bD_ | refine bS_ ?_ GE207.out | refine bS_ ?_ GE208.out | refine bS_ ?_ GE209.out | refine bS_ ?_ GE210.out | refine bS_ ?_ GE214.out) | exact HB.out))))
              replace HO_6 := Aside0.mk (Kd.R_elder' HO_6.out (Kd.R_base ho0) hb)
              replace HO_215000 := Aside0.mk (Kd.R_elder' HO_215000.out (Kd.R_base ho0) hb)
              replace HO231 := Aside0.mk (Kd.R_elder' HO231.out (Kd.R_base ho0) hb)
              replace HO234 := Aside0.mk (Kd.R_elder' HO234.out (Kd.R_base ho0) hb)
              replace BK207 := bK_ BK207 hb
              replace BK208 := bK_ BK208 hb
              replace BK209 := bK_ BK209 hb
              replace BK210 := bK_ BK210 hb
              replace BK214 := bK_ BK214 hb
              replace HB := Aside0.mk (below_step (by repeat (first | (with_reducible first | exact HB.out | apply bA_ | apply bN_ | apply bD_ | refine bS_ ?_ GE207.out | refine bS_ ?_ GE208.out | refine bS_ ?_ GE209.out | refine bS_ ?_ GE210.out | refine bS_ ?_ GE214.out) | exact HB.out)) hb)
              (try clear hb)
              (try clear hb2)
              (try clear hk)
              (try clear hi)
              (try clear ho0)
              obtain ⟨Ao67, co67, eo67⟩ := Kd.R_slice HO237.out
              (first | subst eo67 | (injection eo67 with f1_ f2_ f3_; have f4_ := f1_.symm; have f5_ := f3_.symm; clear f1_ f2_ f3_; subst f4_; subst f5_))
              refine hK.out _ _ ⟨(blk_cell BK214.out 0).trans rfl, (blk_cell BK208.out 0).trans rfl⟩ (fun hHeld => ?_)
              clear hK K
              refine norm_ (a' := ?_) ?_ ?_
              rotate_left
              ·show Act.put _ (some 61) _ = _
               simp only [Act.put, sT_, sZ_, sS_, i64_w, i32_w]
               rfl
              refine last_ (i := 6) (N := none) (demurrageref01_Quot.ups 7 127) rfl rfl (by kernel_rfl) (by decide) (fun K hK => ?_)
              have hs68 : w66.cell? ⟨gb214, 0, none⟩ = some (.slice Ao34 t225.length co34) := (blk_cell BK214.out 0).trans rfl
              have hfs68 := blk_frozen BK214.out 0
              have hns68_0 := NB207_214.out
              have hns68_1 := NB208_214.out
              have hns68_2 := NB209_214.out
              have hns68_3 := NB210_214.out
              have hms68_0 := NB214_207.out
              have hms68_1 := NB214_208.out
              have hms68_2 := NB214_209.out
              have hms68_3 := NB214_210.out
              refine skip_ (w1 := ?_) (by rfl) rfl ?_ ?_
              rotate_left
              ·go_simp
               rfl
              refine hK.out _ _ ?_
              clear hK K
              refine done_ (by kernel_rfl) ?_
              try go_wp2
              go_roundg k2
              case measure => have := HK1.out; have := HK2.out; omega
              case rel => exact ⟨(y228), (wrap64 (x8_1 - 1)), (t235), (.slice Ao67 t235.length co67), (by first | rfl | (simp; done) | (simp [*]; done)), H', ⟨by have := HK1.out; have := HK2.out; omega⟩, ⟨by (with_reducible repeat (first | apply Kd.R_alloc | apply Kd.R_drewN | apply Kd.R_drew)); exact Kd.R_mono (Kd.R_far (p := ⟨gb214, 0, none⟩) (Kd.R_types HO_6.out BK214.out (by decide)) (fun _ hk => hk.2) (.slice Ao67 t235.length co67)) (fun _ hk => hk.1.2)⟩, ⟨by (with_reducible repeat (first | apply Kd.R_alloc | apply Kd.R_drewN | apply Kd.R_drew)); exact Kd.R_mono (Kd.R_far (p := ⟨gb214, 0, none⟩) (Kd.R_types HO237.out BK214.out (by decide)) (fun _ hk => hk.2) (.slice Ao67 t235.length co67)) (fun _ hk => hk.1.1.1.1.2)⟩, ⟨by refine blk_far ?_ NB207_214.out _; exact BK207.out⟩, ⟨by refine blk_far ?_ NB208_214.out _; exact BK208.out⟩, ⟨by refine blk_far ?_ NB209_214.out _; exact BK209.out⟩, ⟨by refine blk_far ?_ NB210_214.out _; exact BK210.out⟩, ⟨by refine blk_put (cs := #[.slice Ao34 t225.length co34]) ?_ 0 _ rfl; exact BK214.out⟩, ⟨by repeat (first | (with_reducible first | exact HB.out | apply bA_ | apply bN_ | apply bD_ | refine bS_ ?_ GE207.out | refine bS_ ?_ GE208.out | refine bS_ ?_ GE209.out | refine bS_ ?_ GE210.out | refine bS_ ?_ GE214.out) | exact HB.out)⟩⟩
             ·rw [if_neg c54] at H
              exact absurd H (by simp)
            ·rw [if_neg c53] at H
             exact absurd H (by simp)
        ·rw [if_neg c25] at H
         exact absurd H (by simp)
       ·rw [if_neg c24] at H
        exact absurd H (by simp)
      ·rw [if_neg c23] at H
       exact absurd H (by simp)
     ·rw [if_neg c22] at H
      have c22b0 : decide (0 ≤ x8_1) = false := decide_eq_false c22
      clear c22
      replace H := Option.bind_eq_some_iff.mp H
      obtain ⟨t215, A690, H⟩ := H
      (try dsimp only at H)
      have A69 := Aside0.mk A690
      clear A690
      simp only [Option.some.injEq, Prod.mk.injEq] at H
      obtain ⟨rfl, rfl⟩ := H
      try go_wp2
      replace HO_6 := Aside0.mk (Kd.R_drew HO_6.out)
      replace HO_215000 := Aside0.mk (Kd.R_drew HO_215000.out)
      replace BK207 := Aside0.mk (blk_drew BK207.out)
      replace BK208 := Aside0.mk (blk_drew BK208.out)
      replace BK209 := Aside0.mk (blk_drew BK209.out)
      replace BK210 := Aside0.mk (blk_drew BK210.out)
      replace BK214 := Aside0.mk (blk_drew BK214.out)
      replace HB := Aside0.mk (below_drew1 HB.out)
      obtain ⟨Ao71, co71, eo71⟩ := Kd.R_slice HO_6.out
      (first | subst eo71 | (injection eo71 with f1_ f2_ f3_; have f4_ := f1_.symm; have f5_ := f3_.symm; clear f1_ f2_ f3_; subst f4_; subst f5_))
      refine start_ (n := 5) (S := fun w' => w'.cell? ⟨gb214, 0, none⟩ = some (u215000)) (ds := []) #[false, false, false, false, false] (by kernel_rfl) rfl rfl ((blk_cell BK214.out 0).trans rfl) (fun hHeld => ?_)
      generalize wr.drew = w70 at HO_6 HO_215000 BK207 BK208 BK209 BK210 BK214 HB hHeld ⊢
      refine pure_ (i := 0) (N := some 62) (v := ?_) (a' := ?_) #[true, false, false, false, false] rfl rfl (by kernel_rfl) (fun _ _ _ h => h) (Or.inl ⟨by rfl, ?_⟩) ?_ ?_
      rotate_left
      ·intro w'
       go_simp
       with_reducible rfl
      rotate_left
      ·simp only [Act.put, sT_, sZ_, sS_, i64_w, i32_w]
       rfl
      refine take_ (i := 2) (N := some 64) (v := ?_) (a' := ?_) #[true, false, true, false, false] rfl rfl (by kernel_rfl) (fun _ _ _ h => h) (Or.inl ⟨by rfl, ?_⟩) hHeld ?_ ?_
      rotate_left
      ·intro w' s0
       go_simp
       with_reducible rfl
      rotate_left
      ·simp only [Act.put, sT_, sZ_, sS_, i64_w, i32_w]
       rfl
      refine one_ (i := 1) (N := some 63) #[true, true, true, false, false] rfl rfl (by kernel_rfl) (by decide) (fun K hK => ?_)
      refine goes_ Try.func41 (by kernel_rfl) rfl #[.slice Ao71 x6_1.length co71] (by rfl) rfl rfl (by (try simp only [List.map_toArray, List.map_cons, List.map_nil]); first | done | rfl) ?_
      with_reducible refine (demurrageref01_trim.calls _ _ x6_1 t215 _ ?side1 ?side2 A69.out).mono ?_
      (case side1 => repeat (first | exact (Kd.R_reads' HO_6.out).2.2 | (with_reducible refine Kd.C_alloc ?_ _) | (with_reducible refine Kd.C_drewN ?_ _) | (with_reducible refine Kd.C_drew ?_)))
      (case side2 => exact (Kd.R_reads' HO_6.out).2.1)
      rintro e w72 ⟨v216, rfl, ho0, hb⟩
      refine ⟨_, rfl, ?_⟩
      have HO217 := Aside0.mk (Kd.R_lower (Kd.R_new' (Kd.R_new' ho0 (Kd.R_lt HO_6.out)) (Kd.R_lt HO_215000.out)) (below_size (by repeat (first | (with_reducible first | exact HB.out | apply bA_ | apply bN_ | apply bD_ | refine bS_ ?_ GE207.out | refine bS_ ?_ GE208.out | refine bS_ ?_ GE209.out | refine bS_ ?_ GE210.out | refine bS_ ?_ GE214.out) | exact HB.out))))
      replace HO_6 := Aside0.mk (Kd.R_elder' HO_6.out (Kd.R_base ho0) hb)
      replace HO_215000 := Aside0.mk (Kd.R_elder' HO_215000.out (Kd.R_base ho0) hb)
      replace BK207 := bK_ BK207 hb
      replace BK208 := bK_ BK208 hb
      replace BK209 := bK_ BK209 hb
      replace BK210 := bK_ BK210 hb
      replace BK214 := bK_ BK214 hb
      replace HB := Aside0.mk (below_step (by repeat (first | (with_reducible first | exact HB.out | apply bA_ | apply bN_ | apply bD_ | refine bS_ ?_ GE207.out | refine bS_ ?_ GE208.out | refine bS_ ?_ GE209.out | refine bS_ ?_ GE210.out | refine bS_ ?_ GE214.out) | exact HB.out)) hb)
      (try clear hb)
      (try clear hb2)
      (try clear hk)
      (try clear hi)
      (try clear ho0)
      obtain ⟨Ao73, co73, eo73⟩ := Kd.R_slice HO217.out
      (first | subst eo73 | (injection eo73 with f1_ f2_ f3_; have f4_ := f1_.symm; have f5_ := f3_.symm; clear f1_ f2_ f3_; subst f4_; subst f5_))
      obtain ⟨Ao75, co75, eo75⟩ := Kd.R_slice HO_215000.out
      (first | subst eo75 | (injection eo75 with f1_ f2_ f3_; have f4_ := f1_.symm; have f5_ := f3_.symm; clear f1_ f2_ f3_; subst f4_; subst f5_))
      refine hK.out _ _ ((blk_cell BK214.out 0).trans rfl) (fun hHeld => ?_)
      clear hK K
      refine norm_ (a' := ?_) ?_ ?_
      rotate_left
      ·show Act.put _ (some 63) _ = _
       simp only [Act.put, sT_, sZ_, sS_, i64_w, i32_w]
       rfl
      refine one_ (i := 3) (N := none) #[true, true, true, true, false] rfl rfl (by kernel_rfl) (by decide) (fun K hK => ?_)
      have hs74 : w72.cell? ⟨gb209, 0, none⟩ = some (.slice none 0 0) := (blk_cell BK209.out 0).trans rfl
      have hfs74 := blk_frozen BK209.out 0
      have hns74_0 := NB207_209.out
      have hns74_1 := NB208_209.out
      have hns74_3 := NB210_209.out
      have hns74_4 := NB214_209.out
      have hms74_0 := NB209_207.out
      have hms74_1 := NB209_208.out
      have hms74_3 := NB209_210.out
      have hms74_4 := NB209_214.out
      refine skip_ (w1 := ?_) (by rfl) rfl ?_ ?_
      rotate_left
      ·go_simp
       rfl
      refine hK.out _ _ (((cell_far (p := ⟨gb209, _, none⟩) NB214_209.out _).trans (hHeld))) (fun hHeld => ?_)
      clear hK K
      refine one_ (i := 4) (N := none) #[true, true, true, true, true] rfl rfl (by kernel_rfl) (by decide) (fun K hK => ?_)
      have hs76 : w72.cell? ⟨gb210, 0, none⟩ = some (.slice none 0 0) := (blk_cell BK210.out 0).trans rfl
      have hfs76 := blk_frozen BK210.out 0
      have hns76_0 := NB207_210.out
      have hns76_1 := NB208_210.out
      have hns76_2 := NB209_210.out
      have hns76_4 := NB214_210.out
      have hms76_0 := NB210_207.out
      have hms76_1 := NB210_208.out
      have hms76_2 := NB210_209.out
      have hms76_4 := NB210_214.out
      refine skip_ (w1 := ?_) (by rfl) rfl ?_ ?_
      rotate_left
      ·go_simp
       rfl
      refine hK.out _ _ (((cell_far (p := ⟨gb210, _, none⟩) NB214_210.out _).trans (hHeld))) (fun hHeld => ?_)
      clear hK K
      refine done_ (by kernel_rfl) ?_
      try go_wp2
      refine bodyPost_ret (results_cc rfl _ _ gb209 gb210 61 61 #[.slice Ao73 t215.length co73] #[.slice Ao75 x215000_1.length co75] (0, 0) (0, 0) _ _ rfl (by refine blk_far ?_ NB209_210.out _; refine blk_put (cs := #[.slice none 0 0]) ?_ 0 _ rfl; exact BK209.out) Try.underlying61 rfl (by kernel_rfl) rfl (by refine blk_put (cs := #[.slice none 0 0]) ?_ 0 _ rfl; refine blk_far ?_ NB210_209.out _; exact BK210.out) Try.underlying61 rfl (by kernel_rfl)) rfl ?_
      exact ⟨_, _, by rfl, by (with_reducible repeat (first | apply Kd.R_alloc | apply Kd.R_drewN | apply Kd.R_drew)); exact Kd.R_mono (Kd.R_far (p := ⟨gb210, 0, none⟩) (Kd.R_far (p := ⟨gb209, 0, none⟩) (Kd.R_types (Kd.R_types HO217.out BK209.out (by decide)) BK210.out (by decide)) (fun _ hk => hk.1.2) (.slice Ao73 t215.length co73)) (fun _ hk => hk.2) (.slice Ao75 x215000_1.length co75)) (fun _ hk => hk.1.1.2), by (with_reducible repeat (first | apply Kd.R_alloc | apply Kd.R_drewN | apply Kd.R_drew)); exact Kd.R_mono (Kd.R_far (p := ⟨gb210, 0, none⟩) (Kd.R_far (p := ⟨gb209, 0, none⟩) (Kd.R_types (Kd.R_types HO_215000.out BK209.out (by decide)) BK210.out (by decide)) (fun _ hk => hk.1.2) (.slice Ao73 t215.length co73)) (fun _ hk => hk.2) (.slice Ao75 x215000_1.length co75)) (fun _ hk => hk.1.1.2), by repeat (first | (with_reducible first | exact HB.out | apply bA_ | apply bN_ | apply bD_ | refine bS_ ?_ GE207.out | refine bS_ ?_ GE208.out | refine bS_ ?_ GE209.out | refine bS_ ?_ GE210.out | refine bS_ ?_ GE214.out) | exact HB.out)⟩
  ·rw [if_neg c4] at H
   exact absurd H (by simp)
 ·rw [if_neg c3] at H
  exact absurd H (by simp)

end Go.Proofs.Ytlppmfffdjfekaa.X
