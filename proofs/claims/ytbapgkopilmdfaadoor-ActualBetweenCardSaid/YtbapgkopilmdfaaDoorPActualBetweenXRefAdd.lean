-- cut by prune.py, a program of this session
import Derived.Test.YtbapgkopilmdfaaDoorPActualBetweenX0
import Derived.Test.YtbapgkopilmdfaaDoorPActualBetweenXBig
import Derived.Test.YtbapgkopilmdfaaDoorPActualBetweenXQuot
import Derived.Test.YtbapgkopilmdfaaDoorPActualBetweenXRefTwo
namespace Go.Proofs.YtbapgkopilmdfaaDoor.X
open Go.RowKit Go.Proofs.YtbapgkopilmdfaaDoorW.PrintWords Go.Proofs.YtbapgkopilmdfaaDoorW.PrintLast Go.Proofs.YtbapgkopilmdfaaDoorW.PrintMore
attribute [local go_sem] max2_int min2_int max_two min_two
set_option linter.unusedVariables false
set_option linter.unusedSimpArgs false

def demurrageref02_Cmp.upsl : Nat → Nat → List Bool
 | 0, _ => []
 | n + 1, m => (m % 2 == 1) :: demurrageref02_Cmp.upsl n (m / 2)
def demurrageref02_Cmp.ups (n m : Nat) : Array Bool := ⟨demurrageref02_Cmp.upsl n m⟩
def demurrageref02_big.f (k : Nat) (a0_0 : Int) (a0_1 : Int) : Option (List Int × List Int) := (demurrageref01_From.f k a0_0).bind fun t288 => ((demurrageref01_From.f k a0_1).bind fun t291 => (some (t288, t291)))
def demurrageref02_big.T1 : Bool × List (List Nat × List Nat) := (true, [([], []), ([0], [0]), ([1], [1]), ([], []), ([3], [3]), ([4, 2], [4]), ([2, 5, 0, 1, 2], [2]), ([5, 6, 0, 1, 2, 3, 4, 5, 6], [5])])
def demurrageref02_big.B1 : List Nat := [0, 1, 3, 0, 8, 31, 63, 127]
theorem demurrageref02_big.tab1 : rtab .any (opsOf Tryd.f32 1) = demurrageref02_big.T1 := by kernel_rfl
theorem demurrageref02_big.bits1 : waitsOk demurrageref02_big.T1.2 demurrageref02_big.B1 = true := by kernel_rfl
set_option maxHeartbeats 8000000 in
set_option maxRecDepth 100000 in
theorem demurrageref02_big.calls (k : Nat) (a0_0 : Int) (a0_1 : Int) (r1 : List Int) (r2 : List Int) (w : World) (h : demurrageref02_big.f k a0_0 a0_1 = some (r1, r2)) :
  Calls Tryd.prog 32 #[.agg #[.int .i64 a0_0, .int .i64 a0_1]] w fun e w' => ∃ v0_ v1_ : Value, e = .returned (.tuple #[.agg #[v0_], .agg #[v1_]]) ∧ Kd.R (Kd.int .i64) 3 w' w.heap.size (fun k_ => some k_ ≠ (v1_ : Value).ownBlock) v0_ r1 ∧ Kd.R (Kd.int .i64) 3 w' w.heap.size (fun k_ => some k_ ≠ (v0_ : Value).ownBlock) v1_ r2 ∧ Below w.heap.size w w' := by
 have hu24 := Tryd.underlying24
 have hu56 := Tryd.underlying56
 have HB := aA_ (Below.refl w.heap.size w)
 have H : ((demurrageref01_From.f k a0_0).bind fun t288 => ((demurrageref01_From.f k a0_1).bind fun t291 => (some (t288, t291)))) = some (r1, r2) := h
 clear h
 replace H := bI_ H
 obtain ⟨t288, A20, H⟩ := H
 (try dsimp only at H)
 have A2 := aA_ A20
 clear A20
 replace H := bI_ H
 obtain ⟨t291, A30, H⟩ := H
 (try dsimp only at H)
 have A3 := aA_ A30
 clear A30
 simp only [Option.some.injEq, Prod.mk.injEq] at H
 obtain ⟨rfl, rfl⟩ := H
 go_enter Tryd.func32, Tryd.ntmps32
 try go_wp2_with (first | (refine box_event rfl (N := 1) rfl (cs := #[.int .i64 a0_0, .int .i64 a0_1]) (t := 24) ?hr ?_; (case hr => go_simp <;> rfl); intro gb285 hg w4 hbox hb; have BK285 := aA_ (hbox); have GW285 := gW_ hg (by repeat (with_reducible first | exact HB.out | apply bA_ | apply bN_ | apply bD_)); have GE285 := GW285; replace HB := bB_ (by repeat (with_reducible first | exact HB.out | apply bA_ | apply bN_ | apply bD_)) hb; clear hb hbox hg) | (refine box_event rfl (N := 2) rfl (cs := #[.slice none 0 0]) (t := 56) ?hr ?_; (case hr => go_simp <;> rfl); intro gb286 hg w5 hbox hb; have BK286 := aA_ (hbox); have GW286 := gW_ hg (by repeat (with_reducible first | exact HB.out | apply bA_ | apply bN_ | apply bD_ | refine bS_ ?_ GE285.out)); have GE286 := GW286; replace HB := bB_ (by repeat (with_reducible first | exact HB.out | apply bA_ | apply bN_ | apply bD_ | refine bS_ ?_ GE285.out)) hb; have NB285_286 := nE_ hg BK285; have NB286_285 := aA_ NB285_286.out.symm; replace BK285 := bK_ BK285 hb; clear hb hbox hg) | (refine box_event rfl (N := 3) rfl (cs := #[.slice none 0 0]) (t := 56) ?hr ?_; (case hr => go_simp <;> rfl); intro gb287 hg w6 hbox hb; have BK287 := aA_ (hbox); have GW287 := gW_ hg (by repeat (with_reducible first | exact HB.out | apply bA_ | apply bN_ | apply bD_ | refine bS_ ?_ GE285.out | refine bS_ ?_ GE286.out)); have GE287 := GW287; replace HB := bB_ (by repeat (with_reducible first | exact HB.out | apply bA_ | apply bN_ | apply bD_ | refine bS_ ?_ GE285.out | refine bS_ ?_ GE286.out)) hb; have NB285_287 := nE_ hg BK285; have NB287_285 := aA_ NB285_287.out.symm; replace BK285 := bK_ BK285 hb; have NB286_287 := nE_ hg BK286; have NB287_286 := aA_ NB286_287.out.symm; replace BK286 := bK_ BK286 hb; clear hb hbox hg))
 replace BK285 := aA_ (blk_drew BK285.out)
 replace BK286 := aA_ (blk_drew BK286.out)
 replace BK287 := aA_ (blk_drew BK287.out)
 replace HB := aA_ (below_drew1 HB.out)
 refine start_ (n := 8) (S := fun w' => w'.cell? ⟨gb285, 0, none⟩ = some (.int .i64 a0_0) ∧ w'.cell? ⟨gb285, 1, none⟩ = some (.int .i64 a0_1)) (ds := []) (demurrageref02_Cmp.ups 8 0) (by kernel_rfl) rfl rfl ⟨(blk_cell BK285.out 0).trans rfl, (blk_cell BK285.out 1).trans rfl⟩ (fun hHeld => ?_); refine with_tabW demurrageref02_big.tab1 demurrageref02_big.bits1 (fun HT_ HW_ => ?_)
 generalize w6.drew = w7 at BK285 BK286 BK287 HB hHeld ⊢
 refine pure_ (i := 0) (N := some 4) (v := ?_) (a' := ?_) (demurrageref02_Cmp.ups 8 1) rfl rfl (any_of HT_.out (by kernel_rfl)) (fun _ _ _ h => h) (Or.inl ⟨by rfl, ?_⟩) ?_ ?_
 rotate_left
 ·intro w'
  go_simp
  with_reducible rfl
 rotate_left
 ·simp only [Act.put, sT_, sZ_, sS_, i64_w, i32_w]
  rfl
 refine pure_ (i := 3) (N := some 7) (v := ?_) (a' := ?_) (demurrageref02_Cmp.ups 8 9) rfl rfl (any_of HT_.out (by kernel_rfl)) (fun _ _ _ h => h) (Or.inl ⟨by rfl, ?_⟩) ?_ ?_
 rotate_left
 ·intro w'
  go_simp
  with_reducible rfl
 rotate_left
 ·simp only [Act.put, sT_, sZ_, sS_, i64_w, i32_w]
  rfl
 refine take_ (i := 1) (N := some 5) (v := ?_) (a' := ?_) (demurrageref02_Cmp.ups 8 11) rfl rfl (take_ofW HT_.out HW_.out (by kernel_rfl)) (fun _ _ _ h => h) (Or.inl ⟨by rfl, ?_⟩) hHeld ?_ ?_
 rotate_left
 ·rintro w' ⟨s0, s1⟩
  go_simp
  with_reducible rfl
 rotate_left
 ·simp only [Act.put, sT_, sZ_, sS_, i64_w, i32_w]
  rfl
 refine take_ (i := 4) (N := some 8) (v := ?_) (a' := ?_) (demurrageref02_Cmp.ups 8 27) rfl rfl (take_ofW HT_.out HW_.out (by kernel_rfl)) (fun _ _ _ h => h) (Or.inl ⟨by rfl, ?_⟩) hHeld ?_ ?_
 rotate_left
 ·rintro w' ⟨s0, s1⟩
  go_simp
  with_reducible rfl
 rotate_left
 ·simp only [Act.put, sT_, sZ_, sS_, i64_w, i32_w]
  rfl
 refine one_ (i := 2) (N := some 6) (demurrageref02_Cmp.ups 8 31) rfl rfl (one_of HT_.out (by kernel_rfl)) (by decide) (fun K hK => ?_)
 refine goes_ Tryd.func37 (by kernel_rfl) rfl #[.int .i64 a0_0] (by rfl) rfl rfl (by (try simp only [mT_, mC_, mN_]); first | done | rfl) ?_
 with_reducible refine (demurrageref01_From.calls k a0_0 t288 _ A2.out).mono ?_
 rintro e w8 ⟨v289, rfl, ho0, hb⟩
 refine ⟨_, rfl, ?_⟩
 have HO290 := aA_ (Kd.R_lower ho0 (below_size (by repeat (with_reducible first | exact HB.out | apply bA_ | apply bN_ | apply bD_ | refine bS_ ?_ GE285.out | refine bS_ ?_ GE286.out | refine bS_ ?_ GE287.out))))
 replace BK285 := bK_ BK285 hb
 replace BK286 := bK_ BK286 hb
 replace BK287 := bK_ BK287 hb
 replace HB := bB_ (by repeat (with_reducible first | exact HB.out | apply bA_ | apply bN_ | apply bD_ | refine bS_ ?_ GE285.out | refine bS_ ?_ GE286.out | refine bS_ ?_ GE287.out)) hb
 (try clear hb)
 (try clear hb2)
 (try clear hk)
 (try clear hi)
 (try clear ho0)
 refine hK.out _ _ ⟨(blk_cell BK285.out 0).trans rfl, (blk_cell BK285.out 1).trans rfl⟩ (fun hHeld => ?_)
 clear hK K
 refine norm_ (by show Act.put _ (some 6) _ = _; simp only [Act.put, sT_, sZ_, sS_, i64_w, i32_w] <;> rfl) ?_
 refine one_ (i := 5) (N := some 9) (demurrageref02_Cmp.ups 8 63) rfl rfl (one_of HT_.out (by kernel_rfl)) (by decide) (fun K hK => ?_)
 refine goes_ Tryd.func37 (by kernel_rfl) rfl #[.int .i64 a0_1] (by rfl) rfl rfl (by (try simp only [mT_, mC_, mN_]); first | done | rfl) ?_
 with_reducible refine (demurrageref01_From.calls k a0_1 t291 _ A3.out).mono ?_
 rintro e w9 ⟨v292, rfl, ho0, hb⟩
 refine ⟨_, rfl, ?_⟩
 have HO293 := aA_ (Kd.R_lower (Kd.R_new' ho0 (Kd.R_lt HO290.out)) (below_size (by repeat (with_reducible first | exact HB.out | apply bA_ | apply bN_ | apply bD_ | refine bS_ ?_ GE285.out | refine bS_ ?_ GE286.out | refine bS_ ?_ GE287.out))))
 replace HO290 := aA_ (Kd.R_elder' HO290.out (Kd.R_base ho0) hb)
 replace BK285 := bK_ BK285 hb
 replace BK286 := bK_ BK286 hb
 replace BK287 := bK_ BK287 hb
 replace HB := bB_ (by repeat (with_reducible first | exact HB.out | apply bA_ | apply bN_ | apply bD_ | refine bS_ ?_ GE285.out | refine bS_ ?_ GE286.out | refine bS_ ?_ GE287.out)) hb
 (try clear hb)
 (try clear hb2)
 (try clear hk)
 (try clear hi)
 (try clear ho0)
 obtain ⟨Ao10, co10, eo10⟩ := Kd.R_slice HO290.out
 (first | subst eo10 | (injection eo10 with f1_ f2_ f3_; have f4_ := f1_.symm; have f5_ := f3_.symm; clear f1_ f2_ f3_; subst f4_; subst f5_))
 obtain ⟨Ao12, co12, eo12⟩ := Kd.R_slice HO293.out
 (first | subst eo12 | (injection eo12 with f1_ f2_ f3_; have f4_ := f1_.symm; have f5_ := f3_.symm; clear f1_ f2_ f3_; subst f4_; subst f5_))
 refine hK.out _ _ ⟨(blk_cell BK285.out 0).trans rfl, (blk_cell BK285.out 1).trans rfl⟩ (fun hHeld => ?_)
 clear hK K
 refine norm_ (by show Act.put _ (some 9) _ = _; simp only [Act.put, sT_, sZ_, sS_, i64_w, i32_w] <;> rfl) ?_
 refine one_ (i := 6) (N := none) (demurrageref02_Cmp.ups 8 127) rfl rfl (one_of HT_.out (by kernel_rfl)) (by decide) (fun K hK => ?_)
 have hs11 : w9.cell? ⟨gb286, 0, none⟩ = some (.slice none 0 0) := (blk_cell BK286.out 0).trans rfl
 have hfs11 := blk_frozen BK286.out 0
 have hns11_0 := NB285_286.out
 have hns11_2 := NB287_286.out
 have hms11_0 := NB286_285.out
 have hms11_2 := NB286_287.out
 refine skip_ (w1 := ?_) (by rfl) rfl ?_ ?_
 rotate_left
 ·go_simp
  rfl
 refine hK.out _ _ ⟨((cell_far (p := ⟨gb286, _, none⟩) NB285_286.out _).trans (hHeld.1)), ((cell_far (p := ⟨gb286, _, none⟩) NB285_286.out _).trans (hHeld.2))⟩ (fun hHeld => ?_)
 clear hK K
 refine one_ (i := 7) (N := none) (demurrageref02_Cmp.ups 8 255) rfl rfl (one_of HT_.out (by kernel_rfl)) (by decide) (fun K hK => ?_)
 have hs13 : w9.cell? ⟨gb287, 0, none⟩ = some (.slice none 0 0) := (blk_cell BK287.out 0).trans rfl
 have hfs13 := blk_frozen BK287.out 0
 have hns13_0 := NB285_287.out
 have hns13_1 := NB286_287.out
 have hms13_0 := NB287_285.out
 have hms13_1 := NB287_286.out
 refine skip_ (w1 := ?_) (by rfl) rfl ?_ ?_
 rotate_left
 ·go_simp
  rfl
 refine hK.out _ _ ⟨((cell_far (p := ⟨gb287, _, none⟩) NB285_287.out _).trans (hHeld.1)), ((cell_far (p := ⟨gb287, _, none⟩) NB285_287.out _).trans (hHeld.2))⟩ (fun hHeld => ?_)
 clear hK K
 refine done_ (done_of HT_.out (by kernel_rfl)) ?_
 try go_wp2
 refine bodyPost_ret (results_cc rfl _ _ gb286 gb287 56 56 #[.slice Ao10 t288.length co10] #[.slice Ao12 t291.length co12] (0, 0) (0, 0) _ _ rfl (by refine blk_far ?_ NB286_287.out _; refine blk_put (cs := #[.slice none 0 0]) ?_ 0 _ rfl; exact BK286.out) Tryd.underlying56 rfl (by kernel_rfl) rfl (by refine blk_put (cs := #[.slice none 0 0]) ?_ 0 _ rfl; refine blk_far ?_ NB287_286.out _; exact BK287.out) Tryd.underlying56 rfl (by kernel_rfl)) rfl ?_
 exact ⟨_, _, by rfl, by (with_reducible repeat (first | apply Kd.R_alloc | apply Kd.R_drewN | apply Kd.R_drew)); exact Kd.R_mono (Kd.R_far (p := ⟨gb287, 0, none⟩) (Kd.R_far (p := ⟨gb286, 0, none⟩) (Kd.R_types (Kd.R_types HO290.out BK286.out (by decide)) BK287.out (by decide)) (fun _ hk => hk.1.2) (.slice Ao10 t288.length co10)) (fun _ hk => hk.2) (.slice Ao12 t291.length co12)) (fun _ hk => hk.1.1.2), by (with_reducible repeat (first | apply Kd.R_alloc | apply Kd.R_drewN | apply Kd.R_drew)); exact Kd.R_mono (Kd.R_far (p := ⟨gb287, 0, none⟩) (Kd.R_far (p := ⟨gb286, 0, none⟩) (Kd.R_types (Kd.R_types HO293.out BK286.out (by decide)) BK287.out (by decide)) (fun _ hk => hk.1.2) (.slice Ao10 t288.length co10)) (fun _ hk => hk.2) (.slice Ao12 t291.length co12)) (fun _ hk => hk.1.1.2), by repeat (with_reducible first | exact HB.out | apply bA_ | apply bN_ | apply bD_ | refine bS_ ?_ GE285.out | refine bS_ ?_ GE286.out | refine bS_ ?_ GE287.out)⟩

def demurrageref02_Cmp.f (k : Nat) (a0_0 : Int) (a0_1 : Int) (a1_0 : Int) (a1_1 : Int) : Option (Int) := (demurrageref02_big.f k a0_0 a0_1).bind fun bt712 => ((demurrageref02_big.f k a1_0 a1_1).bind fun bt720 => ((demurrageref01_Prod.f k bt712.1 bt720.2).bind fun t728 => ((demurrageref01_Prod.f k bt720.1 bt712.2).bind fun t731 => ((demurrageref01_Cmp.f k t728 t731).bind fun t734 => (some t734)))))
def demurrageref02_Cmp.T3 : Bool × List (List Nat × List Nat) := (true, [([], []), ([], []), ([0, 1], [0, 1]), ([], []), ([], []), ([3, 4, 2], [3, 4]), ([2, 5, 5], [2, 5]), ([6, 6, 0, 1, 2, 3, 4, 5, 6], [6])])
def demurrageref02_Cmp.B3 : List Nat := [0, 0, 3, 0, 0, 31, 63, 127]
theorem demurrageref02_Cmp.tab3 : rtab .any (opsOf Tryd.f20 3) = demurrageref02_Cmp.T3 := by kernel_rfl
theorem demurrageref02_Cmp.bits3 : waitsOk demurrageref02_Cmp.T3.2 demurrageref02_Cmp.B3 = true := by kernel_rfl
set_option maxHeartbeats 8000000 in
set_option maxRecDepth 100000 in
theorem demurrageref02_Cmp.calls (k : Nat) (a0_0 : Int) (a0_1 : Int) (a1_0 : Int) (a1_1 : Int) (r : Int) (w : World) (h : demurrageref02_Cmp.f k a0_0 a0_1 a1_0 a1_1 = some r) :
  Calls Tryd.prog 20 #[.agg #[.int .i64 a0_0, .int .i64 a0_1], .agg #[.int .i64 a1_0, .int .i64 a1_1]] w fun e w' => e = .returned (.int .i64 r) ∧ Below w.heap.size w w' := by
 have hu24 := Tryd.underlying24
 have hu56 := Tryd.underlying56
 have HB := aA_ (Below.refl w.heap.size w)
 have H : ((demurrageref02_big.f k a0_0 a0_1).bind fun bt712 => ((demurrageref02_big.f k a1_0 a1_1).bind fun bt720 => ((demurrageref01_Prod.f k bt712.1 bt720.2).bind fun t728 => ((demurrageref01_Prod.f k bt720.1 bt712.2).bind fun t731 => ((demurrageref01_Cmp.f k t728 t731).bind fun t734 => (some t734)))))) = some r := h
 clear h
 replace H := bI_ H
 obtain ⟨⟨t712, t715⟩, A30, H⟩ := H
 (try dsimp only at H)
 have A3 := aA_ A30
 clear A30
 replace H := bI_ H
 obtain ⟨⟨t720, t723⟩, A40, H⟩ := H
 (try dsimp only at H)
 have A4 := aA_ A40
 clear A40
 replace H := bI_ H
 obtain ⟨t728, A50, H⟩ := H
 (try dsimp only at H)
 have A5 := aA_ A50
 clear A50
 replace H := bI_ H
 obtain ⟨t731, A60, H⟩ := H
 (try dsimp only at H)
 have A6 := aA_ A60
 clear A60
 replace H := bI_ H
 obtain ⟨t734, A70, H⟩ := H
 (try dsimp only at H)
 have A7 := aA_ A70
 clear A70
 obtain rfl := Option.some.inj H
 go_enter Tryd.func20, Tryd.ntmps20
 try go_wp2_with (first | (refine box_event rfl (N := 2) rfl (cs := #[.int .i64 a0_0, .int .i64 a0_1]) (t := 24) ?hr ?_; (case hr => go_simp <;> rfl); intro gb710 hg w8 hbox hb; have BK710 := aA_ (hbox); have GW710 := gW_ hg (by repeat (with_reducible first | exact HB.out | apply bA_ | apply bN_ | apply bD_)); have GE710 := GW710; replace HB := bB_ (by repeat (with_reducible first | exact HB.out | apply bA_ | apply bN_ | apply bD_)) hb; clear hb hbox hg) | (refine box_event rfl (N := 3) rfl (cs := #[.int .i64 a1_0, .int .i64 a1_1]) (t := 24) ?hr ?_; (case hr => go_simp <;> rfl); intro gb711 hg w9 hbox hb; have BK711 := aA_ (hbox); have GW711 := gW_ hg (by repeat (with_reducible first | exact HB.out | apply bA_ | apply bN_ | apply bD_ | refine bS_ ?_ GE710.out)); have GE711 := GW711; replace HB := bB_ (by repeat (with_reducible first | exact HB.out | apply bA_ | apply bN_ | apply bD_ | refine bS_ ?_ GE710.out)) hb; have NB710_711 := nE_ hg BK710; have NB711_710 := aA_ NB710_711.out.symm; replace BK710 := bK_ BK710 hb; clear hb hbox hg; have hnb10 := NB710_711.out; have hnc10 := NB711_710.out; have hcz11_0 : w9.cell? ⟨gb710, 0, none⟩ = some (.int .i64 a0_0) := (blk_cell BK710.out 0).trans rfl; have hcz11_1 : w9.cell? ⟨gb710, 1, none⟩ = some (.int .i64 a0_1) := (blk_cell BK710.out 1).trans rfl; have hfz11_0 := blk_frozen BK710.out 0; have hfz11_1 := blk_frozen BK710.out 1) | (refine goesL_ (some 11) rfl rfl Tryd.func32 (by kernel_rfl) rfl #[.agg #[.int .i64 a0_0, .int .i64 a0_1]] rfl (by (try simp only [mT_, mC_, mN_]); first | done | rfl) ?_; (with_reducible refine (demurrageref02_big.calls k a0_0 a0_1 t712 t715 _ A3.out).mono ?_); rintro e w12 ⟨v713, v716, rfl, ho0, ho1, hb⟩; refine ⟨_, rfl, ?_⟩; have HO714 := aA_ (Kd.R_lower ho0 (below_size (by repeat (with_reducible first | exact HB.out | apply bA_ | apply bN_ | apply bD_ | refine bS_ ?_ GE710.out | refine bS_ ?_ GE711.out)))); have HO717 := aA_ (Kd.R_lower ho1 (below_size (by repeat (with_reducible first | exact HB.out | apply bA_ | apply bN_ | apply bD_ | refine bS_ ?_ GE710.out | refine bS_ ?_ GE711.out)))); replace BK710 := bK_ BK710 hb; replace BK711 := bK_ BK711 hb; replace HB := bB_ (by repeat (with_reducible first | exact HB.out | apply bA_ | apply bN_ | apply bD_ | refine bS_ ?_ GE710.out | refine bS_ ?_ GE711.out)) hb; (try clear hb); (try clear ho0); (try clear ho1)) | (refine box_event rfl (N := 5) rfl (cs := #[.slice none 0 0]) (t := 56) ?hr ?_; (case hr => go_simp <;> rfl); intro gb718 hg w13 hbox hb; replace HO714 := aA_ (Kd.R_below HO714.out hb); replace HO717 := aA_ (Kd.R_below HO717.out hb); have BK718 := aA_ (hbox); have GW718 := gW_ hg (by repeat (with_reducible first | exact HB.out | apply bA_ | apply bN_ | apply bD_ | refine bS_ ?_ GE710.out | refine bS_ ?_ GE711.out)); have GE718 := GW718; replace HB := bB_ (by repeat (with_reducible first | exact HB.out | apply bA_ | apply bN_ | apply bD_ | refine bS_ ?_ GE710.out | refine bS_ ?_ GE711.out)) hb; have NB710_718 := nE_ hg BK710; have NB718_710 := aA_ NB710_718.out.symm; replace BK710 := bK_ BK710 hb; have NB711_718 := nE_ hg BK711; have NB718_711 := aA_ NB711_718.out.symm; replace BK711 := bK_ BK711 hb; clear hb hbox hg) | (refine box_event rfl (N := 6) rfl (cs := #[.slice none 0 0]) (t := 56) ?hr ?_; (case hr => go_simp <;> rfl); intro gb719 hg w14 hbox hb; replace HO714 := aA_ (Kd.R_below HO714.out hb); replace HO717 := aA_ (Kd.R_below HO717.out hb); have BK719 := aA_ (hbox); have GW719 := gW_ hg (by repeat (with_reducible first | exact HB.out | apply bA_ | apply bN_ | apply bD_ | refine bS_ ?_ GE710.out | refine bS_ ?_ GE711.out | refine bS_ ?_ GE718.out)); have GE719 := GW719; replace HB := bB_ (by repeat (with_reducible first | exact HB.out | apply bA_ | apply bN_ | apply bD_ | refine bS_ ?_ GE710.out | refine bS_ ?_ GE711.out | refine bS_ ?_ GE718.out)) hb; have NB710_719 := nE_ hg BK710; have NB719_710 := aA_ NB710_719.out.symm; replace BK710 := bK_ BK710 hb; have NB711_719 := nE_ hg BK711; have NB719_711 := aA_ NB711_719.out.symm; replace BK711 := bK_ BK711 hb; have NB718_719 := nE_ hg BK718; have NB719_718 := aA_ NB718_719.out.symm; replace BK718 := bK_ BK718 hb; clear hb hbox hg; obtain ⟨Ao15, co15, eo15⟩ := Kd.R_slice HO714.out; subst eo15; have hnb16 := NB718_710.out; have hnc16 := NB710_718.out; have hnb17 := NB718_711.out; have hnc17 := NB711_718.out; have hnb18 := NB718_719.out; have hnc18 := NB719_718.out; have hcz19_0 : w14.cell? ⟨gb718, 0, none⟩ = some (.slice none 0 0) := (blk_cell BK718.out 0).trans rfl; have hfz19_0 := blk_frozen BK718.out 0; obtain ⟨Ao20, co20, eo20⟩ := Kd.R_slice HO717.out; subst eo20; have hnb21 := NB719_710.out; have hnc21 := NB710_719.out; have hnb22 := NB719_711.out; have hnc22 := NB711_719.out; have hcz23_0 : w14.cell? ⟨gb719, 0, none⟩ = some (.slice none 0 0) := (blk_cell BK719.out 0).trans rfl; have hfz23_0 := blk_frozen BK719.out 0; have hcz24_0 : w14.cell? ⟨gb711, 0, none⟩ = some (.int .i64 a1_0) := (blk_cell BK711.out 0).trans rfl; have hcz24_1 : w14.cell? ⟨gb711, 1, none⟩ = some (.int .i64 a1_1) := (blk_cell BK711.out 1).trans rfl; have hfz24_0 := blk_frozen BK711.out 0; have hfz24_1 := blk_frozen BK711.out 1) | (refine goesL_ (some 16) rfl rfl Tryd.func32 (by kernel_rfl) rfl #[.agg #[.int .i64 a1_0, .int .i64 a1_1]] rfl (by (try simp only [mT_, mC_, mN_]); first | done | rfl) ?_; (with_reducible refine (demurrageref02_big.calls k a1_0 a1_1 t720 t723 _ A4.out).mono ?_); rintro e w25 ⟨v721, v724, rfl, ho0, ho1, hb⟩; refine ⟨_, rfl, ?_⟩; have HO722 := aA_ (Kd.R_lower (Kd.R_new' (Kd.R_new' ho0 (Kd.R_lt (by (with_reducible repeat (first | apply Kd.R_alloc | apply Kd.R_drewN | apply Kd.R_drew)); exact (Kd.R_mono (Kd.R_mono (Kd.R_far (p := ⟨gb719, 0, none⟩) (Kd.R_far (p := ⟨gb718, 0, none⟩) (Kd.R_types (Kd.R_types HO714.out BK718.out (by decide)) BK719.out (by decide)) (fun _ hk => hk.1.2) (.slice Ao15 t712.length co15)) (fun _ hk => hk.2) (.slice Ao20 t715.length co20)) (fun _ h_ => h_.1)) (fun _ h_ => h_.1))))) (Kd.R_lt (by (with_reducible repeat (first | apply Kd.R_alloc | apply Kd.R_drewN | apply Kd.R_drew)); exact (Kd.R_mono (Kd.R_mono (Kd.R_far (p := ⟨gb719, 0, none⟩) (Kd.R_far (p := ⟨gb718, 0, none⟩) (Kd.R_types (Kd.R_types HO717.out BK718.out (by decide)) BK719.out (by decide)) (fun _ hk => hk.1.2) (.slice Ao15 t712.length co15)) (fun _ hk => hk.2) (.slice Ao20 t715.length co20)) (fun _ h_ => h_.1)) (fun _ h_ => h_.1))))) (below_size (by repeat (with_reducible first | exact HB.out | apply bA_ | apply bN_ | apply bD_ | refine bS_ ?_ GE710.out | refine bS_ ?_ GE711.out | refine bS_ ?_ GE718.out | refine bS_ ?_ GE719.out)))); have HO725 := aA_ (Kd.R_lower (Kd.R_new' (Kd.R_new' ho1 (Kd.R_lt (by (with_reducible repeat (first | apply Kd.R_alloc | apply Kd.R_drewN | apply Kd.R_drew)); exact (Kd.R_mono (Kd.R_mono (Kd.R_far (p := ⟨gb719, 0, none⟩) (Kd.R_far (p := ⟨gb718, 0, none⟩) (Kd.R_types (Kd.R_types HO714.out BK718.out (by decide)) BK719.out (by decide)) (fun _ hk => hk.1.2) (.slice Ao15 t712.length co15)) (fun _ hk => hk.2) (.slice Ao20 t715.length co20)) (fun _ h_ => h_.1)) (fun _ h_ => h_.1))))) (Kd.R_lt (by (with_reducible repeat (first | apply Kd.R_alloc | apply Kd.R_drewN | apply Kd.R_drew)); exact (Kd.R_mono (Kd.R_mono (Kd.R_far (p := ⟨gb719, 0, none⟩) (Kd.R_far (p := ⟨gb718, 0, none⟩) (Kd.R_types (Kd.R_types HO717.out BK718.out (by decide)) BK719.out (by decide)) (fun _ hk => hk.1.2) (.slice Ao15 t712.length co15)) (fun _ hk => hk.2) (.slice Ao20 t715.length co20)) (fun _ h_ => h_.1)) (fun _ h_ => h_.1))))) (below_size (by repeat (with_reducible first | exact HB.out | apply bA_ | apply bN_ | apply bD_ | refine bS_ ?_ GE710.out | refine bS_ ?_ GE711.out | refine bS_ ?_ GE718.out | refine bS_ ?_ GE719.out)))); replace HO714 := aA_ (Kd.R_mono (Kd.R_told (Kd.R_told (Kd.R_old (by (with_reducible repeat (first | apply Kd.R_alloc | apply Kd.R_drewN | apply Kd.R_drew)); exact (Kd.R_mono (Kd.R_mono (Kd.R_far (p := ⟨gb719, 0, none⟩) (Kd.R_far (p := ⟨gb718, 0, none⟩) (Kd.R_types (Kd.R_types HO714.out BK718.out (by decide)) BK719.out (by decide)) (fun _ hk => hk.1.2) (.slice Ao15 t712.length co15)) (fun _ hk => hk.2) (.slice Ao20 t715.length co20)) (fun _ h_ => h_.1)) (fun _ h_ => h_.1))) hb) (Kd.R_base ho0)) (Kd.R_base ho1)) (fun _ h_ => h_.1)); replace HO717 := aA_ (Kd.R_mono (Kd.R_told (Kd.R_told (Kd.R_old (by (with_reducible repeat (first | apply Kd.R_alloc | apply Kd.R_drewN | apply Kd.R_drew)); exact (Kd.R_mono (Kd.R_mono (Kd.R_far (p := ⟨gb719, 0, none⟩) (Kd.R_far (p := ⟨gb718, 0, none⟩) (Kd.R_types (Kd.R_types HO717.out BK718.out (by decide)) BK719.out (by decide)) (fun _ hk => hk.1.2) (.slice Ao15 t712.length co15)) (fun _ hk => hk.2) (.slice Ao20 t715.length co20)) (fun _ h_ => h_.1)) (fun _ h_ => h_.1))) hb) (Kd.R_base ho0)) (Kd.R_base ho1)) (fun _ h_ => h_.1)); replace BK710 := aA_ (blk_below (g := gb710) (o := .cells #[.int .i64 a0_0, .int .i64 a0_1] 24 (0, 0)) (by refine blk_far ?_ NB710_719.out _; refine blk_far ?_ NB710_718.out _; exact BK710.out) hb); replace BK711 := aA_ (blk_below (g := gb711) (o := .cells #[.int .i64 a1_0, .int .i64 a1_1] 24 (0, 0)) (by refine blk_far ?_ NB711_719.out _; refine blk_far ?_ NB711_718.out _; exact BK711.out) hb); replace BK718 := aA_ (blk_below (g := gb718) (o := .cells #[.slice Ao15 t712.length co15] 56 (0, 0)) (by refine blk_far ?_ NB718_719.out _; refine blk_put (cs := #[.slice none 0 0]) ?_ 0 _ rfl; exact BK718.out) hb); replace BK719 := aA_ (blk_below (g := gb719) (o := .cells #[.slice Ao20 t715.length co20] 56 (0, 0)) (by refine blk_put (cs := #[.slice none 0 0]) ?_ 0 _ rfl; refine blk_far ?_ NB719_718.out _; exact BK719.out) hb); replace HB := bB_ (by repeat (with_reducible first | exact HB.out | apply bA_ | apply bN_ | apply bD_ | refine bS_ ?_ GE710.out | refine bS_ ?_ GE711.out | refine bS_ ?_ GE718.out | refine bS_ ?_ GE719.out)) hb; (try clear hb); (try clear ho0); (try clear ho1)) | (refine box_event rfl (N := 7) rfl (cs := #[.slice none 0 0]) (t := 56) ?hr ?_; (case hr => go_simp <;> rfl); intro gb726 hg w26 hbox hb; replace HO714 := aA_ (Kd.R_below HO714.out hb); replace HO717 := aA_ (Kd.R_below HO717.out hb); replace HO722 := aA_ (Kd.R_below HO722.out hb); replace HO725 := aA_ (Kd.R_below HO725.out hb); have BK726 := aA_ (hbox); have GW726 := gW_ hg (by repeat (with_reducible first | exact HB.out | apply bA_ | apply bN_ | apply bD_ | refine bS_ ?_ GE710.out | refine bS_ ?_ GE711.out | refine bS_ ?_ GE718.out | refine bS_ ?_ GE719.out)); have GE726 := GW726; replace HB := bB_ (by repeat (with_reducible first | exact HB.out | apply bA_ | apply bN_ | apply bD_ | refine bS_ ?_ GE710.out | refine bS_ ?_ GE711.out | refine bS_ ?_ GE718.out | refine bS_ ?_ GE719.out)) hb; have NB710_726 := nE_ hg BK710; have NB726_710 := aA_ NB710_726.out.symm; replace BK710 := bK_ BK710 hb; have NB711_726 := nE_ hg BK711; have NB726_711 := aA_ NB711_726.out.symm; replace BK711 := bK_ BK711 hb; have NB718_726 := nE_ hg BK718; have NB726_718 := aA_ NB718_726.out.symm; replace BK718 := bK_ BK718 hb; have NB719_726 := nE_ hg BK719; have NB726_719 := aA_ NB719_726.out.symm; replace BK719 := bK_ BK719 hb; clear hb hbox hg) | (refine box_event rfl (N := 8) rfl (cs := #[.slice none 0 0]) (t := 56) ?hr ?_; (case hr => go_simp <;> rfl); intro gb727 hg w27 hbox hb; replace HO714 := aA_ (Kd.R_below HO714.out hb); replace HO717 := aA_ (Kd.R_below HO717.out hb); replace HO722 := aA_ (Kd.R_below HO722.out hb); replace HO725 := aA_ (Kd.R_below HO725.out hb); have BK727 := aA_ (hbox); have GW727 := gW_ hg (by repeat (with_reducible first | exact HB.out | apply bA_ | apply bN_ | apply bD_ | refine bS_ ?_ GE710.out | refine bS_ ?_ GE711.out | refine bS_ ?_ GE718.out | refine bS_ ?_ GE719.out | refine bS_ ?_ GE726.out)); have GE727 := GW727; replace HB := bB_ (by repeat (with_reducible first | exact HB.out | apply bA_ | apply bN_ | apply bD_ | refine bS_ ?_ GE710.out | refine bS_ ?_ GE711.out | refine bS_ ?_ GE718.out | refine bS_ ?_ GE719.out | refine bS_ ?_ GE726.out)) hb; have NB710_727 := nE_ hg BK710; have NB727_710 := aA_ NB710_727.out.symm; replace BK710 := bK_ BK710 hb; have NB711_727 := nE_ hg BK711; have NB727_711 := aA_ NB711_727.out.symm; replace BK711 := bK_ BK711 hb; have NB718_727 := nE_ hg BK718; have NB727_718 := aA_ NB718_727.out.symm; replace BK718 := bK_ BK718 hb; have NB719_727 := nE_ hg BK719; have NB727_719 := aA_ NB719_727.out.symm; replace BK719 := bK_ BK719 hb; have NB726_727 := nE_ hg BK726; have NB727_726 := aA_ NB726_727.out.symm; replace BK726 := bK_ BK726 hb; clear hb hbox hg; obtain ⟨Ao28, co28, eo28⟩ := Kd.R_slice HO722.out; subst eo28; have hnb29 := NB726_710.out; have hnc29 := NB710_726.out; have hnb30 := NB726_711.out; have hnc30 := NB711_726.out; have hnb31 := NB726_718.out; have hnc31 := NB718_726.out; have hnb32 := NB726_719.out; have hnc32 := NB719_726.out; have hnb33 := NB726_727.out; have hnc33 := NB727_726.out; have hcz34_0 : w27.cell? ⟨gb726, 0, none⟩ = some (.slice none 0 0) := (blk_cell BK726.out 0).trans rfl; have hfz34_0 := blk_frozen BK726.out 0; obtain ⟨Ao35, co35, eo35⟩ := Kd.R_slice HO725.out; subst eo35; have hnb36 := NB727_710.out; have hnc36 := NB710_727.out; have hnb37 := NB727_711.out; have hnc37 := NB711_727.out; have hnb38 := NB727_718.out; have hnc38 := NB718_727.out; have hnb39 := NB727_719.out; have hnc39 := NB719_727.out; have hcz40_0 : w27.cell? ⟨gb727, 0, none⟩ = some (.slice none 0 0) := (blk_cell BK727.out 0).trans rfl; have hfz40_0 := blk_frozen BK727.out 0))
 have n0_ : Aside0 (Kd.R (Kd.int .i64) 3 ((w27.setCell ⟨gb726, 0, none⟩ (.slice Ao28 t720.length co28)).setCell ⟨gb727, 0, none⟩ (.slice Ao35 t723.length co35)) w.heap.size (fun k_ => some k_ ≠ (.slice Ao20 t715.length co20 : Value).ownBlock ∧ some k_ ≠ (.slice Ao28 t720.length co28 : Value).ownBlock ∧ some k_ ≠ (.slice Ao35 t723.length co35 : Value).ownBlock) (.slice Ao15 t712.length co15) t712) := ⟨by (with_reducible repeat (first | apply Kd.R_alloc | apply Kd.R_drewN | apply Kd.R_drew)); exact Kd.R_mono (Kd.R_far (p := ⟨gb727, 0, none⟩) (Kd.R_far (p := ⟨gb726, 0, none⟩) (Kd.R_types (Kd.R_types HO714.out BK726.out (by decide)) BK727.out (by decide)) (fun _ hk => hk.1.2) (.slice Ao28 t720.length co28)) (fun _ hk => hk.2) (.slice Ao35 t723.length co35)) (fun _ hk => (And.intro (hk.1.1.1.1) ((And.intro (hk.1.1.1.2) (hk.1.1.2)))))⟩
 have n1_ : Aside0 (Kd.R (Kd.int .i64) 3 ((w27.setCell ⟨gb726, 0, none⟩ (.slice Ao28 t720.length co28)).setCell ⟨gb727, 0, none⟩ (.slice Ao35 t723.length co35)) w.heap.size (fun k_ => some k_ ≠ (.slice Ao15 t712.length co15 : Value).ownBlock ∧ some k_ ≠ (.slice Ao28 t720.length co28 : Value).ownBlock ∧ some k_ ≠ (.slice Ao35 t723.length co35 : Value).ownBlock) (.slice Ao20 t715.length co20) t715) := ⟨by (with_reducible repeat (first | apply Kd.R_alloc | apply Kd.R_drewN | apply Kd.R_drew)); exact Kd.R_mono (Kd.R_far (p := ⟨gb727, 0, none⟩) (Kd.R_far (p := ⟨gb726, 0, none⟩) (Kd.R_types (Kd.R_types HO717.out BK726.out (by decide)) BK727.out (by decide)) (fun _ hk => hk.1.2) (.slice Ao28 t720.length co28)) (fun _ hk => hk.2) (.slice Ao35 t723.length co35)) (fun _ hk => (And.intro (hk.1.1.1.1) ((And.intro (hk.1.1.1.2) (hk.1.1.2)))))⟩
 have n2_ : Aside0 (Kd.R (Kd.int .i64) 3 ((w27.setCell ⟨gb726, 0, none⟩ (.slice Ao28 t720.length co28)).setCell ⟨gb727, 0, none⟩ (.slice Ao35 t723.length co35)) w.heap.size (fun k_ => some k_ ≠ (.slice Ao15 t712.length co15 : Value).ownBlock ∧ some k_ ≠ (.slice Ao20 t715.length co20 : Value).ownBlock ∧ some k_ ≠ (.slice Ao35 t723.length co35 : Value).ownBlock) (.slice Ao28 t720.length co28) t720) := ⟨by (with_reducible repeat (first | apply Kd.R_alloc | apply Kd.R_drewN | apply Kd.R_drew)); exact Kd.R_mono (Kd.R_far (p := ⟨gb727, 0, none⟩) (Kd.R_far (p := ⟨gb726, 0, none⟩) (Kd.R_types (Kd.R_types HO722.out BK726.out (by decide)) BK727.out (by decide)) (fun _ hk => hk.1.2) (.slice Ao28 t720.length co28)) (fun _ hk => hk.2) (.slice Ao35 t723.length co35)) (fun _ hk => (And.intro (hk.1.1.1.2) ((And.intro (hk.1.1.2) (hk.1.1.1.1)))))⟩
 have n3_ : Aside0 (Kd.R (Kd.int .i64) 3 ((w27.setCell ⟨gb726, 0, none⟩ (.slice Ao28 t720.length co28)).setCell ⟨gb727, 0, none⟩ (.slice Ao35 t723.length co35)) w.heap.size (fun k_ => some k_ ≠ (.slice Ao15 t712.length co15 : Value).ownBlock ∧ some k_ ≠ (.slice Ao20 t715.length co20 : Value).ownBlock ∧ some k_ ≠ (.slice Ao28 t720.length co28 : Value).ownBlock) (.slice Ao35 t723.length co35) t723) := ⟨by (with_reducible repeat (first | apply Kd.R_alloc | apply Kd.R_drewN | apply Kd.R_drew)); exact Kd.R_mono (Kd.R_far (p := ⟨gb727, 0, none⟩) (Kd.R_far (p := ⟨gb726, 0, none⟩) (Kd.R_types (Kd.R_types HO725.out BK726.out (by decide)) BK727.out (by decide)) (fun _ hk => hk.1.2) (.slice Ao28 t720.length co28)) (fun _ hk => hk.2) (.slice Ao35 t723.length co35)) (fun _ hk => (And.intro (hk.1.1.1.2) ((And.intro (hk.1.1.2) (hk.1.1.1.1)))))⟩
 have n4_ : Aside0 (((w27.setCell ⟨gb726, 0, none⟩ (.slice Ao28 t720.length co28)).setCell ⟨gb727, 0, none⟩ (.slice Ao35 t723.length co35)).heap[gb710]? = some (.cells #[.int .i64 a0_0, .int .i64 a0_1] 24 (0, 0))) := ⟨by refine blk_far ?_ NB710_727.out _; refine blk_far ?_ NB710_726.out _; exact BK710.out⟩
 have n5_ : Aside0 (((w27.setCell ⟨gb726, 0, none⟩ (.slice Ao28 t720.length co28)).setCell ⟨gb727, 0, none⟩ (.slice Ao35 t723.length co35)).heap[gb711]? = some (.cells #[.int .i64 a1_0, .int .i64 a1_1] 24 (0, 0))) := ⟨by refine blk_far ?_ NB711_727.out _; refine blk_far ?_ NB711_726.out _; exact BK711.out⟩
 have n6_ : Aside0 (((w27.setCell ⟨gb726, 0, none⟩ (.slice Ao28 t720.length co28)).setCell ⟨gb727, 0, none⟩ (.slice Ao35 t723.length co35)).heap[gb718]? = some (.cells #[.slice Ao15 t712.length co15] 56 (0, 0))) := ⟨by refine blk_far ?_ NB718_727.out _; refine blk_far ?_ NB718_726.out _; exact BK718.out⟩
 have n7_ : Aside0 (((w27.setCell ⟨gb726, 0, none⟩ (.slice Ao28 t720.length co28)).setCell ⟨gb727, 0, none⟩ (.slice Ao35 t723.length co35)).heap[gb719]? = some (.cells #[.slice Ao20 t715.length co20] 56 (0, 0))) := ⟨by refine blk_far ?_ NB719_727.out _; refine blk_far ?_ NB719_726.out _; exact BK719.out⟩
 have n8_ : Aside0 (((w27.setCell ⟨gb726, 0, none⟩ (.slice Ao28 t720.length co28)).setCell ⟨gb727, 0, none⟩ (.slice Ao35 t723.length co35)).heap[gb726]? = some (.cells #[.slice Ao28 t720.length co28] 56 (0, 0))) := ⟨by refine blk_far ?_ NB726_727.out _; refine blk_put (cs := #[.slice none 0 0]) ?_ 0 _ rfl; exact BK726.out⟩
 have n9_ : Aside0 (((w27.setCell ⟨gb726, 0, none⟩ (.slice Ao28 t720.length co28)).setCell ⟨gb727, 0, none⟩ (.slice Ao35 t723.length co35)).heap[gb727]? = some (.cells #[.slice Ao35 t723.length co35] 56 (0, 0))) := ⟨by refine blk_put (cs := #[.slice none 0 0]) ?_ 0 _ rfl; refine blk_far ?_ NB727_726.out _; exact BK727.out⟩
 have n10_ : Aside0 (Below w.heap.size w ((w27.setCell ⟨gb726, 0, none⟩ (.slice Ao28 t720.length co28)).setCell ⟨gb727, 0, none⟩ (.slice Ao35 t723.length co35))) := ⟨by repeat (with_reducible first | exact HB.out | apply bA_ | apply bN_ | apply bD_ | refine bS_ ?_ GE710.out | refine bS_ ?_ GE711.out | refine bS_ ?_ GE718.out | refine bS_ ?_ GE719.out | refine bS_ ?_ GE726.out | refine bS_ ?_ GE727.out)⟩
 (try clear HO714)
 (try clear HO717)
 (try clear HO722)
 (try clear HO725)
 (try clear BK710)
 (try clear BK711)
 (try clear BK718)
 (try clear BK719)
 (try clear BK726)
 (try clear BK727)
 (try clear HB)
 generalize ((w27.setCell ⟨gb726, 0, none⟩ (.slice Ao28 t720.length co28)).setCell ⟨gb727, 0, none⟩ (.slice Ao35 t723.length co35)) = w41 at n0_ n1_ n2_ n3_ n4_ n5_ n6_ n7_ n8_ n9_ n10_ ⊢
 have HO714 := n0_
 have HO717 := n1_
 have HO722 := n2_
 have HO725 := n3_
 have BK710 := n4_
 have BK711 := n5_
 have BK718 := n6_
 have BK719 := n7_
 have BK726 := n8_
 have BK727 := n9_
 have HB := n10_
 clear n0_ n1_ n2_ n3_ n4_ n5_ n6_ n7_ n8_ n9_ n10_
 replace HO714 := aA_ (Kd.R_drew HO714.out)
 replace HO717 := aA_ (Kd.R_drew HO717.out)
 replace HO722 := aA_ (Kd.R_drew HO722.out)
 replace HO725 := aA_ (Kd.R_drew HO725.out)
 replace BK710 := aA_ (blk_drew BK710.out)
 replace BK711 := aA_ (blk_drew BK711.out)
 replace BK718 := aA_ (blk_drew BK718.out)
 replace BK719 := aA_ (blk_drew BK719.out)
 replace BK726 := aA_ (blk_drew BK726.out)
 replace BK727 := aA_ (blk_drew BK727.out)
 replace HB := aA_ (below_drew1 HB.out)
 refine start_ (n := 8) (S := fun w' => w'.cell? ⟨gb718, 0, none⟩ = some (.slice Ao15 t712.length co15) ∧ w'.cell? ⟨gb727, 0, none⟩ = some (.slice Ao35 t723.length co35) ∧ w'.cell? ⟨gb726, 0, none⟩ = some (.slice Ao28 t720.length co28) ∧ w'.cell? ⟨gb719, 0, none⟩ = some (.slice Ao20 t715.length co20)) (ds := []) (demurrageref02_Cmp.ups 8 0) (by kernel_rfl) rfl rfl ⟨(blk_cell BK718.out 0).trans rfl, (blk_cell BK727.out 0).trans rfl, (blk_cell BK726.out 0).trans rfl, (blk_cell BK719.out 0).trans rfl⟩ (fun hHeld => ?_); refine with_tabW demurrageref02_Cmp.tab3 demurrageref02_Cmp.bits3 (fun HT_ HW_ => ?_)
 generalize w41.drew = w42 at HO714 HO717 HO722 HO725 BK710 BK711 BK718 BK719 BK726 BK727 HB hHeld ⊢
 refine take_ (i := 0) (N := some 19) (v := ?_) (a' := ?_) (demurrageref02_Cmp.ups 8 1) rfl rfl (take_ofW HT_.out HW_.out (by kernel_rfl)) (fun _ _ _ h => h) (Or.inl ⟨by rfl, ?_⟩) hHeld ?_ ?_
 rotate_left
 ·rintro w' ⟨s0, s1, s2, s3⟩
  go_simp
  with_reducible rfl
 rotate_left
 ·simp only [Act.put, sT_, sZ_, sS_, i64_w, i32_w]
  rfl
 refine take_ (i := 1) (N := some 20) (v := ?_) (a' := ?_) (demurrageref02_Cmp.ups 8 3) rfl rfl (take_ofW HT_.out HW_.out (by kernel_rfl)) (fun _ _ _ h => h) (Or.inl ⟨by rfl, ?_⟩) hHeld ?_ ?_
 rotate_left
 ·rintro w' ⟨s0, s1, s2, s3⟩
  go_simp
  with_reducible rfl
 rotate_left
 ·simp only [Act.put, sT_, sZ_, sS_, i64_w, i32_w]
  rfl
 refine take_ (i := 3) (N := some 22) (v := ?_) (a' := ?_) (demurrageref02_Cmp.ups 8 11) rfl rfl (take_ofW HT_.out HW_.out (by kernel_rfl)) (fun _ _ _ h => h) (Or.inl ⟨by rfl, ?_⟩) hHeld ?_ ?_
 rotate_left
 ·rintro w' ⟨s0, s1, s2, s3⟩
  go_simp
  with_reducible rfl
 rotate_left
 ·simp only [Act.put, sT_, sZ_, sS_, i64_w, i32_w]
  rfl
 refine take_ (i := 4) (N := some 23) (v := ?_) (a' := ?_) (demurrageref02_Cmp.ups 8 27) rfl rfl (take_ofW HT_.out HW_.out (by kernel_rfl)) (fun _ _ _ h => h) (Or.inl ⟨by rfl, ?_⟩) hHeld ?_ ?_
 rotate_left
 ·rintro w' ⟨s0, s1, s2, s3⟩
  go_simp
  with_reducible rfl
 rotate_left
 ·simp only [Act.put, sT_, sZ_, sS_, i64_w, i32_w]
  rfl
 refine one_ (i := 2) (N := some 21) (demurrageref02_Cmp.ups 8 31) rfl rfl (one_of HT_.out (by kernel_rfl)) (by decide) (fun K hK => ?_)
 refine goes_ Tryd.func35 (by kernel_rfl) rfl #[.agg #[.slice Ao15 t712.length co15], .agg #[.slice Ao35 t723.length co35]] (by rfl) rfl rfl (by (try simp only [mT_, mC_, mN_]); first | done | rfl) ?_
 with_reducible refine (demurrageref01_Prod.calls k _ _ t712 _ _ t723 t728 _ ?side1 ?side2 ?side3 ?side4 A5.out).mono ?_
 (case side1 => repeat (first | exact (Kd.R_reads' HO714.out).2.2 | (with_reducible first | refine Kd.C_alloc ?_ _ | refine Kd.C_drewN ?_ _ | refine Kd.C_drew ?_)))
 (case side2 => exact (Kd.R_reads' HO714.out).2.1)
 (case side3 => repeat (first | exact (Kd.R_reads' HO725.out).2.2 | (with_reducible first | refine Kd.C_alloc ?_ _ | refine Kd.C_drewN ?_ _ | refine Kd.C_drew ?_)))
 (case side4 => exact (Kd.R_reads' HO725.out).2.1)
 rintro e w43 ⟨v729, rfl, ho0, hb⟩
 refine ⟨_, rfl, ?_⟩
 have HO730 := aA_ (Kd.R_lower (Kd.R_new' (Kd.R_new' (Kd.R_new' (Kd.R_new' ho0 (Kd.R_lt HO714.out)) (Kd.R_lt HO717.out)) (Kd.R_lt HO722.out)) (Kd.R_lt HO725.out)) (below_size (by repeat (with_reducible first | exact HB.out | apply bA_ | apply bN_ | apply bD_ | refine bS_ ?_ GE710.out | refine bS_ ?_ GE711.out | refine bS_ ?_ GE718.out | refine bS_ ?_ GE719.out | refine bS_ ?_ GE726.out | refine bS_ ?_ GE727.out))))
 replace HO714 := aA_ (Kd.R_elder' HO714.out (Kd.R_base ho0) hb)
 replace HO717 := aA_ (Kd.R_elder' HO717.out (Kd.R_base ho0) hb)
 replace HO722 := aA_ (Kd.R_elder' HO722.out (Kd.R_base ho0) hb)
 replace HO725 := aA_ (Kd.R_elder' HO725.out (Kd.R_base ho0) hb)
 replace BK710 := bK_ BK710 hb
 replace BK711 := bK_ BK711 hb
 replace BK718 := bK_ BK718 hb
 replace BK719 := bK_ BK719 hb
 replace BK726 := bK_ BK726 hb
 replace BK727 := bK_ BK727 hb
 replace HB := bB_ (by repeat (with_reducible first | exact HB.out | apply bA_ | apply bN_ | apply bD_ | refine bS_ ?_ GE710.out | refine bS_ ?_ GE711.out | refine bS_ ?_ GE718.out | refine bS_ ?_ GE719.out | refine bS_ ?_ GE726.out | refine bS_ ?_ GE727.out)) hb
 (try clear hb)
 (try clear hb2)
 (try clear hk)
 (try clear hi)
 (try clear ho0)
 refine hK.out _ _ ⟨(blk_cell BK718.out 0).trans rfl, (blk_cell BK727.out 0).trans rfl, (blk_cell BK726.out 0).trans rfl, (blk_cell BK719.out 0).trans rfl⟩ (fun hHeld => ?_)
 clear hK K
 refine norm_ (by show Act.put _ (some 21) _ = _; simp only [Act.put, sT_, sZ_, sS_, i64_w, i32_w] <;> rfl) ?_
 refine one_ (i := 5) (N := some 24) (demurrageref02_Cmp.ups 8 63) rfl rfl (one_of HT_.out (by kernel_rfl)) (by decide) (fun K hK => ?_)
 refine goes_ Tryd.func35 (by kernel_rfl) rfl #[.agg #[.slice Ao28 t720.length co28], .agg #[.slice Ao20 t715.length co20]] (by rfl) rfl rfl (by (try simp only [mT_, mC_, mN_]); first | done | rfl) ?_
 with_reducible refine (demurrageref01_Prod.calls k _ _ t720 _ _ t715 t731 _ ?side1 ?side2 ?side3 ?side4 A6.out).mono ?_
 (case side1 => repeat (first | exact (Kd.R_reads' HO722.out).2.2 | (with_reducible first | refine Kd.C_alloc ?_ _ | refine Kd.C_drewN ?_ _ | refine Kd.C_drew ?_)))
 (case side2 => exact (Kd.R_reads' HO722.out).2.1)
 (case side3 => repeat (first | exact (Kd.R_reads' HO717.out).2.2 | (with_reducible first | refine Kd.C_alloc ?_ _ | refine Kd.C_drewN ?_ _ | refine Kd.C_drew ?_)))
 (case side4 => exact (Kd.R_reads' HO717.out).2.1)
 rintro e w44 ⟨v732, rfl, ho0, hb⟩
 refine ⟨_, rfl, ?_⟩
 have HO733 := aA_ (Kd.R_lower (Kd.R_new' (Kd.R_new' (Kd.R_new' (Kd.R_new' (Kd.R_new' ho0 (Kd.R_lt HO714.out)) (Kd.R_lt HO717.out)) (Kd.R_lt HO722.out)) (Kd.R_lt HO725.out)) (Kd.R_lt HO730.out)) (below_size (by repeat (with_reducible first | exact HB.out | apply bA_ | apply bN_ | apply bD_ | refine bS_ ?_ GE710.out | refine bS_ ?_ GE711.out | refine bS_ ?_ GE718.out | refine bS_ ?_ GE719.out | refine bS_ ?_ GE726.out | refine bS_ ?_ GE727.out))))
 replace HO714 := aA_ (Kd.R_elder' HO714.out (Kd.R_base ho0) hb)
 replace HO717 := aA_ (Kd.R_elder' HO717.out (Kd.R_base ho0) hb)
 replace HO722 := aA_ (Kd.R_elder' HO722.out (Kd.R_base ho0) hb)
 replace HO725 := aA_ (Kd.R_elder' HO725.out (Kd.R_base ho0) hb)
 replace HO730 := aA_ (Kd.R_elder' HO730.out (Kd.R_base ho0) hb)
 replace BK710 := bK_ BK710 hb
 replace BK711 := bK_ BK711 hb
 replace BK718 := bK_ BK718 hb
 replace BK719 := bK_ BK719 hb
 replace BK726 := bK_ BK726 hb
 replace BK727 := bK_ BK727 hb
 replace HB := bB_ (by repeat (with_reducible first | exact HB.out | apply bA_ | apply bN_ | apply bD_ | refine bS_ ?_ GE710.out | refine bS_ ?_ GE711.out | refine bS_ ?_ GE718.out | refine bS_ ?_ GE719.out | refine bS_ ?_ GE726.out | refine bS_ ?_ GE727.out)) hb
 (try clear hb)
 (try clear hb2)
 (try clear hk)
 (try clear hi)
 (try clear ho0)
 obtain ⟨Ao45, co45, eo45⟩ := Kd.R_slice HO730.out
 (first | subst eo45 | (injection eo45 with f1_ f2_ f3_; have f4_ := f1_.symm; have f5_ := f3_.symm; clear f1_ f2_ f3_; subst f4_; subst f5_))
 obtain ⟨Ao46, co46, eo46⟩ := Kd.R_slice HO733.out
 (first | subst eo46 | (injection eo46 with f1_ f2_ f3_; have f4_ := f1_.symm; have f5_ := f3_.symm; clear f1_ f2_ f3_; subst f4_; subst f5_))
 refine hK.out _ _ ⟨(blk_cell BK718.out 0).trans rfl, (blk_cell BK727.out 0).trans rfl, (blk_cell BK726.out 0).trans rfl, (blk_cell BK719.out 0).trans rfl⟩ (fun hHeld => ?_)
 clear hK K
 refine norm_ (by show Act.put _ (some 24) _ = _; simp only [Act.put, sT_, sZ_, sS_, i64_w, i32_w] <;> rfl) ?_
 refine one_ (i := 6) (N := some 25) (demurrageref02_Cmp.ups 8 127) rfl rfl (one_of HT_.out (by kernel_rfl)) (by decide) (fun K hK => ?_)
 refine goes_ Tryd.func38 (by kernel_rfl) rfl #[.agg #[.slice Ao45 t728.length co45], .agg #[.slice Ao46 t731.length co46]] (by rfl) rfl rfl (by (try simp only [mT_, mC_, mN_]); first | done | rfl) ?_
 with_reducible refine (demurrageref01_Cmp.calls k _ _ t728 _ _ t731 t734 _ ?side1 ?side2 ?side3 ?side4 A7.out).mono ?_
 (case side1 => repeat (first | exact (Kd.R_reads' HO730.out).2.2 | (with_reducible first | refine Kd.C_alloc ?_ _ | refine Kd.C_drewN ?_ _ | refine Kd.C_drew ?_)))
 (case side2 => exact (Kd.R_reads' HO730.out).2.1)
 (case side3 => repeat (first | exact (Kd.R_reads' HO733.out).2.2 | (with_reducible first | refine Kd.C_alloc ?_ _ | refine Kd.C_drewN ?_ _ | refine Kd.C_drew ?_)))
 (case side4 => exact (Kd.R_reads' HO733.out).2.1)
 rintro e w47 ⟨rfl, hb⟩
 refine ⟨_, rfl, ?_⟩
 replace HO714 := aA_ (Kd.R_below HO714.out hb)
 replace HO717 := aA_ (Kd.R_below HO717.out hb)
 replace HO722 := aA_ (Kd.R_below HO722.out hb)
 replace HO725 := aA_ (Kd.R_below HO725.out hb)
 replace HO730 := aA_ (Kd.R_below HO730.out hb)
 replace HO733 := aA_ (Kd.R_below HO733.out hb)
 replace BK710 := bK_ BK710 hb
 replace BK711 := bK_ BK711 hb
 replace BK718 := bK_ BK718 hb
 replace BK719 := bK_ BK719 hb
 replace BK726 := bK_ BK726 hb
 replace BK727 := bK_ BK727 hb
 replace HB := bB_ (by repeat (with_reducible first | exact HB.out | apply bA_ | apply bN_ | apply bD_ | refine bS_ ?_ GE710.out | refine bS_ ?_ GE711.out | refine bS_ ?_ GE718.out | refine bS_ ?_ GE719.out | refine bS_ ?_ GE726.out | refine bS_ ?_ GE727.out)) hb
 (try clear hb)
 (try clear hb2)
 (try clear hk)
 (try clear hi)
 refine hK.out _ _ ⟨(blk_cell BK718.out 0).trans rfl, (blk_cell BK727.out 0).trans rfl, (blk_cell BK726.out 0).trans rfl, (blk_cell BK719.out 0).trans rfl⟩ (fun hHeld => ?_)
 clear hK K
 refine norm_ (by show Act.put _ (some 25) _ = _; simp only [Act.put, sT_, sZ_, sS_, i64_w, i32_w] <;> rfl) ?_
 refine pure_ (i := 7) (N := some 4) (v := ?_) (a' := ?_) (demurrageref02_Cmp.ups 8 255) rfl rfl (any_of HT_.out (by kernel_rfl)) (fun _ _ _ h => h) (Or.inl ⟨by rfl, ?_⟩) ?_ ?_
 rotate_left
 ·intro w'
  go_simp
  with_reducible rfl
 rotate_left
 ·simp only [Act.put, sT_, sZ_, sS_, i64_w, i32_w]
  rfl
 refine done_ (done_of HT_.out (by kernel_rfl)) ?_
 try go_wp2
 go_ret
 exact ⟨by rfl, by repeat (with_reducible first | exact HB.out | apply bA_ | apply bN_ | apply bD_ | refine bS_ ?_ GE710.out | refine bS_ ?_ GE711.out | refine bS_ ?_ GE718.out | refine bS_ ?_ GE719.out | refine bS_ ?_ GE726.out | refine bS_ ?_ GE727.out)⟩

end Go.Proofs.YtbapgkopilmdfaaDoor.X
