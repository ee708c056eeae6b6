-- cut by prune.py, a program of this session
import Derived.Test.YtbapgkopilmdfaaDoorPActualMovesX0
import Derived.Test.YtbapgkopilmdfaaDoorPActualMovesXBig
import Derived.Test.YtbapgkopilmdfaaDoorPActualMovesXQuot
import Derived.Test.YtbapgkopilmdfaaDoorPActualMovesXRefTwo
namespace Go.Proofs.YtbapgkopilmdfaaDoor.X
open Go.RowKit Go.Proofs.YtbapgkopilmdfaaDoorW.PrintWords Go.Proofs.YtbapgkopilmdfaaDoorW.PrintLast Go.Proofs.YtbapgkopilmdfaaDoorW.PrintMore
attribute [local go_sem] max2_int min2_int max_two min_two
set_option linter.unusedVariables false
set_option linter.unusedSimpArgs false

def demurrageref02_Cmp.upsl : Nat → Nat → List Bool
 | 0, _ => []
 | n + 1, m => (m % 2 == 1) :: demurrageref02_Cmp.upsl n (m / 2)
def demurrageref02_Cmp.ups (n m : Nat) : Array Bool := ⟨demurrageref02_Cmp.upsl n m⟩
def demurrageref02_big.f (k : Nat) (a0_0 : Int) (a0_1 : Int) : Option (List Int × List Int) := (demurrageref01_From.f k a0_0).bind fun t288 => ((demurrageref01_From.f k a0_1).bind fun t291 => (some (t288, t291)))
def demurrageref02_big.T1 : Bool × List (List Nat × List Nat) := (true, [([], []), ([0], [0]), ([1], [1]), ([], []), ([3], [3]), ([4, 2], [4]), ([2, 5, 0, 1, 2], [2]), ([5, 6, 0, 1, 2, 3, 4, 5, 6], [5])])
def demurrageref02_big.B1 : List Nat := [0, 1, 3, 0, 8, 31, 63, 127]
theorem demurrageref02_big.tab1 : rtab .any (opsOf Tryd.f32 1) = demurrageref02_big.T1 := by kernel_rfl
theorem demurrageref02_big.bits1 : waitsOk demurrageref02_big.T1.2 demurrageref02_big.B1 = true := by kernel_rfl
set_option maxHeartbeats 8000000 in
set_option maxRecDepth 100000 in
theorem demurrageref02_big.calls (k : Nat) (a0_0 : Int) (a0_1 : Int) (r1 : List Int) (r2 : List Int) (w : World) (h : demurrageref02_big.f k a0_0 a0_1 = some (r1, r2)) :
  Calls Tryd.prog 32 #[.agg #[.int .i64 a0_0, .int .i64 a0_1]] w fun e w' => ∃ v0_ v1_ : Value, e = .returned (.tuple #[.agg #[v0_], .agg #[v1_]]) ∧ Kd.R (Kd.int .i64) 3 w' w.heap.size (fun k_ => some k_ ≠ (v1_ : Value).ownBlock) v0_ r1 ∧ Kd.R (Kd.int .i64) 3 w' w.heap.size (fun k_ => some k_ ≠ (v0_ : Value).ownBlock) v1_ r2 ∧ Below w.heap.size w w' := by
 have hu24 := Tryd.underlying24
 have hu56 := Tryd.underlying56
 have HB := aA_ (Below.refl w.heap.size w)
 have H : ((demurrageref01_From.f k a0_0).bind fun t288 => ((demurrageref01_From.f k a0_1).bind fun t291 => (some (t288, t291)))) = some (r1, r2) := h
 clear h
 replace H := bI_ H
 obtain ⟨t288, A20, H⟩ := H
 (try dsimp only at H)
 have A2 := aA_ A20
 clear A20
 replace H := bI_ H
 obtain ⟨t291, A30, H⟩ := H
 (try dsimp only at H)
 have A3 := aA_ A30
 clear A30
 simp only [Option.some.injEq, Prod.mk.injEq] at H
 obtain ⟨rfl, rfl⟩ := H
 go_enter Tryd.func32, Tryd.ntmps32
 try go_wp2_with (first | (refine box_event rfl (N := 1) rfl (cs := #[.int .i64 a0_0, .int .i64 a0_1]) (t := 24) ?hr ?_; (case hr => go_simp <;> rfl); intro gb285 hg w4 hbox hb; have BK285 := aA_ (hbox); have GW285 := gW_ hg (by repeat (with_reducible first | exact HB.out | apply bA_ | apply bN_ | apply bD_)); have GE285 := GW285; replace HB := bB_ (by repeat (with_reducible first | exact HB.out | apply bA_ | apply bN_ | apply bD_)) hb; clear hb hbox hg) | (refine box_event rfl (N := 2) rfl (cs := #[.slice none 0 0]) (t := 56) ?hr ?_; (case hr => go_simp <;> rfl); intro gb286 hg w5 hbox hb; have BK286 := aA_ (hbox); have GW286 := gW_ hg (by repeat (with_reducible first | exact HB.out | apply bA_ | apply bN_ | apply bD_ | refine bS_ ?_ GE285.out)); have GE286 := GW286; replace HB := bB_ (by repeat (with_reducible first | exact HB.out | apply bA_ | apply bN_ | apply bD_ | refine bS_ ?_ GE285.out)) hb; have NB285_286 := nE_ hg BK285; have NB286_285 := aA_ NB285_286.out.symm; replace BK285 := bK_ BK285 hb; clear hb hbox hg) | (refine box_event rfl (N := 3) rfl (cs := #[.slice none 0 0]) (t := 56) ?hr ?_; (case hr => go_simp <;> rfl); intro gb287 hg w6 hbox hb; have BK287 := aA_ (hbox); have GW287 := gW_ hg (by repeat (with_reducible first | exact HB.out | apply bA_ | apply bN_ | apply bD_ | refine bS_ ?_ GE285.out | refine bS_ ?_ GE286.out)); have GE287 := GW287; replace HB := bB_ (by repeat (with_reducible first | exact HB.out | apply bA_ | apply bN_ | apply bD_ | refine bS_ ?_ GE285.out | refine bS_ ?_ GE286.out)) hb; have NB285_287 := nE_ hg BK285; have NB287_285 := aA_ NB285_287.out.symm; replace BK285 := bK_ BK285 hb; have NB286_287 := nE_ hg BK286; have NB287_286 := aA_ NB286_287.out.symm; replace BK286 := bK_ BK286 hb; clear hb hbox hg))
 replace BK285 := aA_ (blk_drew BK285.out)
 replace BK286 := aA_ (blk_drew BK286.out)
 replace BK287 := aA_ (blk_drew BK287.out)
 replace HB := aA_ (below_drew1 HB.out)
 refine start_ (n := 8) (S := fun w' => w'.cell? ⟨gb285, 0, none⟩ = some (.int .i64 a0_0) ∧ w'.cell? ⟨gb285, 1, none⟩ = some (.int .i64 a0_1)) (ds := []) (demurrageref02_Cmp.ups 8 0) (by kernel_rfl) rfl rfl ⟨(blk_cell BK285.out 0).trans rfl, (blk_cell BK285.out 1).trans rfl⟩ (fun hHeld => ?_); refine with_tabW demurrageref02_big.tab1 demurrageref02_big.bits1 (fun HT_ HW_ => ?_)
 generalize w6.drew = w7 at BK285 BK286 BK287 HB hHeld ⊢
 refine pure_ (i := 0) (N := some 4) (v := ?_) (a' := ?_) (demurrageref02_Cmp.ups 8 1) rfl rfl (any_of HT_.out (by kernel_rfl)) (fun _ _ _ h => h) (Or.inl ⟨by rfl, ?_⟩) ?_ ?_
 rotate_left
 ·intro w'
  go_simp
  with_reducible rfl
 rotate_left
 ·simp only [Act.put, sT_, sZ_, sS_, i64_w, i32_w]
  rfl
 refine pure_ (i := 3) (N := some 7) (v := ?_) (a' := ?_) (demurrageref02_Cmp.ups 8 9) rfl rfl (any_of HT_.out (by kernel_rfl)) (fun _ _ _ h => h) (Or.inl ⟨by rfl, ?_⟩) ?_ ?_
 rotate_left
 ·intro w'
  go_simp
  with_reducible rfl
 rotate_left
 ·simp only [Act.put, sT_, sZ_, sS_, i64_w, i32_w]
  rfl
 refine take_ (i := 1) (N := some 5) (v := ?_) (a' := ?_) (demurrageref02_Cmp.ups 8 11) rfl rfl (take_ofW HT_.out HW_.out (by kernel_rfl)) (fun _ _ _ h => h) (Or.inl ⟨by rfl, ?_⟩) hHeld ?_ ?_
 rotate_left
 ·rintro w' ⟨s0, s1⟩
  go_simp
  with_reducible rfl
 rotate_left
 ·simp only [Act.put, sT_, sZ_, sS_, i64_w, i32_w]
  rfl
 refine take_ (i := 4) (N := some 8) (v := ?_) (a' := ?_) (demurrageref02_Cmp.ups 8 27) rfl rfl (take_ofW HT_.out HW_.out (by kernel_rfl)) (fun _ _ _ h => h) (Or.inl ⟨by rfl, ?_⟩) hHeld ?_ ?_
 rotate_left
 ·rintro w' ⟨s0, s1⟩
  go_simp
  with_reducible rfl
 rotate_left
 ·simp only [Act.put, sT_, sZ_, sS_, i64_w, i32_w]
  rfl
 refine one_ (i := 2) (N := some 6) (demurrageref02_Cmp.ups 8 31) rfl rfl (one_of HT_.out (by kernel_rfl)) (by decide) (fun K hK => ?_)
 refine goes_ Tryd.func37 (by kernel_rfl) rfl #[.int .i64 a0_0] (by rfl) rfl rfl (by (try simp only [mT_, mC_, mN_]); first | done | rfl) ?_
 with_reducible refine (demurrageref01_From.calls k a0_0 t288 _ A2.out).mono ?_
 rintro e w8 ⟨v289, rfl, ho0, hb⟩
 refine ⟨_, rfl, ?_⟩
 have HO290 := aA_ (Kd.R_lower ho0 (below_size (by repeat (with_reducible first | exact HB.out | apply bA_ | apply bN_ | apply bD_ | refine bS_ ?_ GE285.out | refine bS_ ?_ GE286.out | refine bS_ ?_ GE287.out))))
 replace BK285 := bK_ BK285 hb
 replace BK286 := bK_ BK286 hb
 replace BK287 := bK_ BK287 hb
 replace HB := bB_ (by repeat (with_reducible first | exact HB.out | apply bA_ | apply bN_ | apply bD_ | refine bS_ ?_ GE285.out | refine bS_ ?_ GE286.out | refine bS_ ?_ GE287.out)) hb
 (try clear hb)
 (try clear hb2)
 (try clear hk)
 (try clear hi)
 (try clear ho0)
 refine hK.out _ _ ⟨(blk_cell BK285.out 0).trans rfl, (blk_cell BK285.out 1).trans rfl⟩ (fun hHeld => ?_)
 clear hK K
 refine norm_ (by show Act.put _ (some 6) _ = _; simp only [Act.put, sT_, sZ_, sS_, i64_w, i32_w] <;> rfl) ?_
 refine one_ (i := 5) (N := some 9) (demurrageref02_Cmp.ups 8 63) rfl rfl (one_of HT_.out (by kernel_rfl)) (by decide) (fun K hK => ?_)
 refine goes_ Tryd.func37 (by kernel_rfl) rfl #[.int .i64 a0_1] (by rfl) rfl rfl (by (try simp only [mT_, mC_, mN_]); first | done | rfl) ?_
 with_reducible refine (demurrageref01_From.calls k a0_1 t291 _ A3.out).mono ?_
 rintro e w9 ⟨v292, rfl, ho0, hb⟩
 refine ⟨_, rfl, ?_⟩
 have HO293 := aA_ (Kd.R_lower (Kd.R_new' ho0 (Kd.R_lt HO290.out)) (below_size (by repeat (with_reducible first | exact HB.out | apply bA_ | apply bN_ | apply bD_ | refine bS_ ?_ GE285.out | refine bS_ ?_ GE286.out | refine bS_ ?_ GE287.out))))
 replace HO290 := aA_ (Kd.R_elder' HO290.out (Kd.R_base ho0) hb)
 replace BK285 := bK_ BK285 hb
 replace BK286 := bK_ BK286 hb
 replace BK287 := bK_ BK287 hb
 replace HB := bB_ (by repeat (with_reducible first | exact HB.out | apply bA_ | apply bN_ | apply bD_ | refine bS_ ?_ GE285.out | refine bS_ ?_ GE286.out | refine bS_ ?_ GE287.out)) hb
 (try clear hb)
 (try clear hb2)
 (try clear hk)
 (try clear hi)
 (try clear ho0)
 obtain ⟨Ao10, co10, eo10⟩ := Kd.R_slice HO290.out
 (first | subst eo10 | (injection eo10 with f1_ f2_ f3_; have f4_ := f1_.symm; have f5_ := f3_.symm; clear f1_ f2_ f3_; subst f4_; subst f5_))
 obtain ⟨Ao12, co12, eo12⟩ := Kd.R_slice HO293.out
 (first | subst eo12 | (injection eo12 with f1_ f2_ f3_; have f4_ := f1_.symm; have f5_ := f3_.symm; clear f1_ f2_ f3_; subst f4_; subst f5_))
 refine hK.out _ _ ⟨(blk_cell BK285.out 0).trans rfl, (blk_cell BK285.out 1).trans rfl⟩ (fun hHeld => ?_)
 clear hK K
 refine norm_ (by show Act.put _ (some 9) _ = _; simp only [Act.put, sT_, sZ_, sS_, i64_w, i32_w] <;> rfl) ?_
 refine one_ (i := 6) (N := none) (demurrageref02_Cmp.ups 8 127) rfl rfl (one_of HT_.out (by kernel_rfl)) (by decide) (fun K hK => ?_)
 have hs11 : w9.cell? ⟨gb286, 0, none⟩ = some (.slice none 0 0) := (blk_cell BK286.out 0).trans rfl
 have hfs11 := blk_frozen BK286.out 0
 have hns11_0 := NB285_286.out
 have hns11_2 := NB287_286.out
 have hms11_0 := NB286_285.out
 have hms11_2 := NB286_287.out
 refine skip_ (w1 := ?_) (by rfl) rfl ?_ ?_
 rotate_left
 ·go_simp
  rfl
 refine hK.out _ _ ⟨((cell_far (p := ⟨gb286, _, none⟩) NB285_286.out _).trans (hHeld.1)), ((cell_far (p := ⟨gb286, _, none⟩) NB285_286.out _).trans (hHeld.2))⟩ (fun hHeld => ?_)
 clear hK K
 refine one_ (i := 7) (N := none) (demurrageref02_Cmp.ups 8 255) rfl rfl (one_of HT_.out (by kernel_rfl)) (by decide) (fun K hK => ?_)
 have hs13 : w9.cell? ⟨gb287, 0, none⟩ = some (.slice none 0 0) := (blk_cell BK287.out 0).trans rfl
 have hfs13 := blk_frozen BK287.out 0
 have hns13_0 := NB285_287.out
 have hns13_1 := NB286_287.out
 have hms13_0 := NB287_285.out
 have hms13_1 := NB287_286.out
 refine skip_ (w1 := ?_) (by rfl) rfl ?_ ?_
 rotate_left
 ·go_simp
  rfl
 refine hK.out _ _ ⟨((cell_far (p := ⟨gb287, _, none⟩) NB285_287.out _).trans (hHeld.1)), ((cell_far (p := ⟨gb287, _, none⟩) NB285_287.out _).trans (hHeld.2))⟩ (fun hHeld => ?_)
 clear hK K
 refine done_ (done_of HT_.out (by kernel_rfl)) ?_
 try go_wp2
 refine bodyPost_ret (results_cc rfl _ _ gb286 gb287 56 56 #[.slice Ao10 t288.length co10] #[.slice Ao12 t291.length co12] (0, 0) (0, 0) _ _ rfl (by refine blk_far ?_ NB286_287.out _; refine blk_put (cs := #[.slice none 0 0]) ?_ 0 _ rfl; exact BK286.out) Tryd.underlying56 rfl (by kernel_rfl) rfl (by refine blk_put (cs := #[.slice none 0 0]) ?_ 0 _ rfl; refine blk_far ?_ NB287_286.out _; exact BK287.out) Tryd.underlying56 rfl (by kernel_rfl)) rfl ?_
 exact ⟨_, _, by rfl, by (with_reducible repeat (first | apply Kd.R_alloc | apply Kd.R_drewN | apply Kd.R_drew)); exact Kd.R_mono (Kd.R_far (p := ⟨gb287, 0, none⟩) (Kd.R_far (p := ⟨gb286, 0, none⟩) (Kd.R_types (Kd.R_types HO290.out BK286.out (by decide)) BK287.out (by decide)) (fun _ hk => hk.1.2) (.slice Ao10 t288.length co10)) (fun _ hk => hk.2) (.slice Ao12 t291.length co12)) (fun _ hk => hk.1.1.2), by (with_reducible repeat (first | apply Kd.R_alloc | apply Kd.R_drewN | apply Kd.R_drew)); exact Kd.R_mono (Kd.R_far (p := ⟨gb287, 0, none⟩) (Kd.R_far (p := ⟨gb286, 0, none⟩) (Kd.R_types (Kd.R_types HO293.out BK286.out (by decide)) BK287.out (by decide)) (fun _ hk => hk.1.2) (.slice Ao10 t288.length co10)) (fun _ hk => hk.2) (.slice Ao12 t291.length co12)) (fun _ hk => hk.1.1.2), by repeat (with_reducible first | exact HB.out | apply bA_ | apply bN_ | apply bD_ | refine bS_ ?_ GE285.out | refine bS_ ?_ GE286.out | refine bS_ ?_ GE287.out)⟩

def demurrageref02_Add.f (k : Nat) (a0_0 : Int) (a0_1 : Int) (a1_0 : Int) (a1_1 : Int) : Option (Int × Int × Int) := (demurrageref02_big.f k a0_0 a0_1).bind fun bt305 => ((demurrageref02_big.f k a1_0 a1_1).bind fun bt313 => ((demurrageref01_Prod.f k bt305.1 bt313.2).bind fun t321 => ((demurrageref01_Prod.f k bt313.1 bt305.2).bind fun t324 => ((demurrageref01_Plus.f k t321 t324).bind fun t327 => ((demurrageref01_Prod.f k bt305.2 bt313.2).bind fun t330 => ((demurrageref02_Made.f k t327 t330).bind fun bt333 => (some (bt333.1, bt333.2.1, bt333.2.2))))))))
def demurrageref02_Add.T3 : Bool × List (List Nat × List Nat) := (true, [([], []), ([], []), ([0, 1], [0, 1]), ([], []), ([], []), ([3, 4, 2], [3, 4]), ([2, 5, 5], [2, 5]), ([], []), ([], []), ([7, 8, 6], [7, 8]), ([6, 9, 9], [6, 9]), ([10], [10]), ([10], [10]), ([11, 10, 0, 1, 2, 3, 4, 5, 6, 7, 8, 9, 10, 11, 12], [11]), ([12, 13, 0, 1, 2, 3, 4, 5, 6, 7, 8, 9, 10, 11, 12, 13], [12])])
def demurrageref02_Add.B3 : List Nat := [0, 0, 3, 0, 0, 31, 63, 0, 0, 511, 1023, 2047, 2047, 8191, 16383]
theorem demurrageref02_Add.tab3 : rtab .any (opsOf Tryd.f16 3) = demurrageref02_Add.T3 := by kernel_rfl
theorem demurrageref02_Add.bits3 : waitsOk demurrageref02_Add.T3.2 demurrageref02_Add.B3 = true := by kernel_rfl
set_option maxHeartbeats 8000000 in
set_option maxRecDepth 100000 in
theorem demurrageref02_Add.calls (k : Nat) (a0_0 : Int) (a0_1 : Int) (a1_0 : Int) (a1_1 : Int) (r1 : Int) (r2 : Int) (r3 : Int) (w : World) (h : demurrageref02_Add.f k a0_0 a0_1 a1_0 a1_1 = some (r1, r2, r3)) :
  Calls Tryd.prog 16 #[.agg #[.int .i64 a0_0, .int .i64 a0_1], .agg #[.int .i64 a1_0, .int .i64 a1_1]] w fun e w' => e = .returned (.tuple #[.agg #[.int .i64 r1, .int .i64 r2], .int .i64 r3]) ∧ Below w.heap.size w w' := by
 have hu24 := Tryd.underlying24
 have hu56 := Tryd.underlying56
 have HB := aA_ (Below.refl w.heap.size w)
 have H : ((demurrageref02_big.f k a0_0 a0_1).bind fun bt305 => ((demurrageref02_big.f k a1_0 a1_1).bind fun bt313 => ((demurrageref01_Prod.f k bt305.1 bt313.2).bind fun t321 => ((demurrageref01_Prod.f k bt313.1 bt305.2).bind fun t324 => ((demurrageref01_Plus.f k t321 t324).bind fun t327 => ((demurrageref01_Prod.f k bt305.2 bt313.2).bind fun t330 => ((demurrageref02_Made.f k t327 t330).bind fun bt333 => (some (bt333.1, bt333.2.1, bt333.2.2))))))))) = some (r1, r2, r3) := h
 clear h
 replace H := bI_ H
 obtain ⟨⟨t305, t308⟩, A30, H⟩ := H
 (try dsimp only at H)
 have A3 := aA_ A30
 clear A30
 replace H := bI_ H
 obtain ⟨⟨t313, t316⟩, A40, H⟩ := H
 (try dsimp only at H)
 have A4 := aA_ A40
 clear A40
 replace H := bI_ H
 obtain ⟨t321, A50, H⟩ := H
 (try dsimp only at H)
 have A5 := aA_ A50
 clear A50
 replace H := bI_ H
 obtain ⟨t324, A60, H⟩ := H
 (try dsimp only at H)
 have A6 := aA_ A60
 clear A60
 replace H := bI_ H
 obtain ⟨t327, A70, H⟩ := H
 (try dsimp only at H)
 have A7 := aA_ A70
 clear A70
 replace H := bI_ H
 obtain ⟨t330, A80, H⟩ := H
 (try dsimp only at H)
 have A8 := aA_ A80
 clear A80
 replace H := bI_ H
 obtain ⟨⟨t333, t334, t335⟩, A90, H⟩ := H
 (try dsimp only at H)
 have A9 := aA_ A90
 clear A90
 simp only [Option.some.injEq, Prod.mk.injEq] at H
 obtain ⟨rfl, rfl, rfl⟩ := H
 go_enter Tryd.func16, Tryd.ntmps16
 try go_wp2_with (first | (refine box_event rfl (N := 2) rfl (cs := #[.int .i64 a0_0, .int .i64 a0_1]) (t := 24) ?hr ?_; (case hr => go_simp <;> rfl); intro gb302 hg w10 hbox hb; have BK302 := aA_ (hbox); have GW302 := gW_ hg (by repeat (with_reducible first | exact HB.out | apply bA_ | apply bN_ | apply bD_)); have GE302 := GW302; replace HB := bB_ (by repeat (with_reducible first | exact HB.out | apply bA_ | apply bN_ | apply bD_)) hb; clear hb hbox hg) | (refine box_event rfl (N := 3) rfl (cs := #[.int .i64 a1_0, .int .i64 a1_1]) (t := 24) ?hr ?_; (case hr => go_simp <;> rfl); intro gb303 hg w11 hbox hb; have BK303 := aA_ (hbox); have GW303 := gW_ hg (by repeat (with_reducible first | exact HB.out | apply bA_ | apply bN_ | apply bD_ | refine bS_ ?_ GE302.out)); have GE303 := GW303; replace HB := bB_ (by repeat (with_reducible first | exact HB.out | apply bA_ | apply bN_ | apply bD_ | refine bS_ ?_ GE302.out)) hb; have NB302_303 := nE_ hg BK302; have NB303_302 := aA_ NB302_303.out.symm; replace BK302 := bK_ BK302 hb; clear hb hbox hg) | (refine box_event rfl (N := 4) rfl (cs := #[.int .i64 0, .int .i64 0]) (t := 24) ?hr ?_; (case hr => go_simp <;> rfl); intro gb304 hg w12 hbox hb; have BK304 := aA_ (hbox); have GW304 := gW_ hg (by repeat (with_reducible first | exact HB.out | apply bA_ | apply bN_ | apply bD_ | refine bS_ ?_ GE302.out | refine bS_ ?_ GE303.out)); have GE304 := GW304; replace HB := bB_ (by repeat (with_reducible first | exact HB.out | apply bA_ | apply bN_ | apply bD_ | refine bS_ ?_ GE302.out | refine bS_ ?_ GE303.out)) hb; have NB302_304 := nE_ hg BK302; have NB304_302 := aA_ NB302_304.out.symm; replace BK302 := bK_ BK302 hb; have NB303_304 := nE_ hg BK303; have NB304_303 := aA_ NB303_304.out.symm; replace BK303 := bK_ BK303 hb; clear hb hbox hg; have hnb13 := NB302_303.out; have hnc13 := NB303_302.out; have hnb14 := NB302_304.out; have hnc14 := NB304_302.out; have hcz15_0 : w12.cell? ⟨gb302, 0, none⟩ = some (.int .i64 a0_0) := (blk_cell BK302.out 0).trans rfl; have hcz15_1 : w12.cell? ⟨gb302, 1, none⟩ = some (.int .i64 a0_1) := (blk_cell BK302.out 1).trans rfl; have hfz15_0 := blk_frozen BK302.out 0; have hfz15_1 := blk_frozen BK302.out 1) | (refine goesL_ (some 12) rfl rfl Tryd.func32 (by kernel_rfl) rfl #[.agg #[.int .i64 a0_0, .int .i64 a0_1]] rfl (by (try simp only [mT_, mC_, mN_]); first | done | rfl) ?_; (with_reducible refine (demurrageref02_big.calls k a0_0 a0_1 t305 t308 _ A3.out).mono ?_); rintro e w16 ⟨v306, v309, rfl, ho0, ho1, hb⟩; refine ⟨_, rfl, ?_⟩; have HO307 := aA_ (Kd.R_lower ho0 (below_size (by repeat (with_reducible first | exact HB.out | apply bA_ | apply bN_ | apply bD_ | refine bS_ ?_ GE302.out | refine bS_ ?_ GE303.out | refine bS_ ?_ GE304.out)))); have HO310 := aA_ (Kd.R_lower ho1 (below_size (by repeat (with_reducible first | exact HB.out | apply bA_ | apply bN_ | apply bD_ | refine bS_ ?_ GE302.out | refine bS_ ?_ GE303.out | refine bS_ ?_ GE304.out)))); replace BK302 := bK_ BK302 hb; replace BK303 := bK_ BK303 hb; replace BK304 := bK_ BK304 hb; replace HB := bB_ (by repeat (with_reducible first | exact HB.out | apply bA_ | apply bN_ | apply bD_ | refine bS_ ?_ GE302.out | refine bS_ ?_ GE303.out | refine bS_ ?_ GE304.out)) hb; (try clear hb); (try clear ho0); (try clear ho1)) | (refine box_event rfl (N := 6) rfl (cs := #[.slice none 0 0]) (t := 56) ?hr ?_; (case hr => go_simp <;> rfl); intro gb311 hg w17 hbox hb; replace HO307 := aA_ (Kd.R_below HO307.out hb); replace HO310 := aA_ (Kd.R_below HO310.out hb); have BK311 := aA_ (hbox); have GW311 := gW_ hg (by repeat (with_reducible first | exact HB.out | apply bA_ | apply bN_ | apply bD_ | refine bS_ ?_ GE302.out | refine bS_ ?_ GE303.out | refine bS_ ?_ GE304.out)); have GE311 := GW311; replace HB := bB_ (by repeat (with_reducible first | exact HB.out | apply bA_ | apply bN_ | apply bD_ | refine bS_ ?_ GE302.out | refine bS_ ?_ GE303.out | refine bS_ ?_ GE304.out)) hb; have NB302_311 := nE_ hg BK302; have NB311_302 := aA_ NB302_311.out.symm; replace BK302 := bK_ BK302 hb; have NB303_311 := nE_ hg BK303; have NB311_303 := aA_ NB303_311.out.symm; replace BK303 := bK_ BK303 hb; have NB304_311 := nE_ hg BK304; have NB311_304 := aA_ NB304_311.out.symm; replace BK304 := bK_ BK304 hb; clear hb hbox hg) | (refine box_event rfl (N := 7) rfl (cs := #[.slice none 0 0]) (t := 56) ?hr ?_; (case hr => go_simp <;> rfl); intro gb312 hg w18 hbox hb; replace HO307 := aA_ (Kd.R_below HO307.out hb); replace HO310 := aA_ (Kd.R_below HO310.out hb); have BK312 := aA_ (hbox); have GW312 := gW_ hg (by repeat (with_reducible first | exact HB.out | apply bA_ | apply bN_ | apply bD_ | refine bS_ ?_ GE302.out | refine bS_ ?_ GE303.out | refine bS_ ?_ GE304.out | refine bS_ ?_ GE311.out)); have GE312 := GW312; replace HB := bB_ (by repeat (with_reducible first | exact HB.out | apply bA_ | apply bN_ | apply bD_ | refine bS_ ?_ GE302.out | refine bS_ ?_ GE303.out | refine bS_ ?_ GE304.out | refine bS_ ?_ GE311.out)) hb; have NB302_312 := nE_ hg BK302; have NB312_302 := aA_ NB302_312.out.symm; replace BK302 := bK_ BK302 hb; have NB303_312 := nE_ hg BK303; have NB312_303 := aA_ NB303_312.out.symm; replace BK303 := bK_ BK303 hb; have NB304_312 := nE_ hg BK304; have NB312_304 := aA_ NB304_312.out.symm; replace BK304 := bK_ BK304 hb; have NB311_312 := nE_ hg BK311; have NB312_311 := aA_ NB311_312.out.symm; replace BK311 := bK_ BK311 hb; clear hb hbox hg; obtain ⟨Ao19, co19, eo19⟩ := Kd.R_slice HO307.out; subst eo19; have hnb20 := NB311_302.out; have hnc20 := NB302_311.out; have hnb21 := NB311_303.out; have hnc21 := NB303_311.out; have hnb22 := NB311_304.out; have hnc22 := NB304_311.out; have hnb23 := NB311_312.out; have hnc23 := NB312_311.out; have hcz24_0 : w18.cell? ⟨gb311, 0, none⟩ = some (.slice none 0 0) := (blk_cell BK311.out 0).trans rfl; have hfz24_0 := blk_frozen BK311.out 0; obtain ⟨Ao25, co25, eo25⟩ := Kd.R_slice HO310.out; subst eo25; have hnb26 := NB312_302.out; have hnc26 := NB302_312.out; have hnb27 := NB312_303.out; have hnc27 := NB303_312.out; have hnb28 := NB312_304.out; have hnc28 := NB304_312.out; have hcz29_0 : w18.cell? ⟨gb312, 0, none⟩ = some (.slice none 0 0) := (blk_cell BK312.out 0).trans rfl; have hfz29_0 := blk_frozen BK312.out 0; have hnb30 := NB303_304.out; have hnc30 := NB304_303.out; have hcz31_0 : w18.cell? ⟨gb303, 0, none⟩ = some (.int .i64 a1_0) := (blk_cell BK303.out 0).trans rfl; have hcz31_1 : w18.cell? ⟨gb303, 1, none⟩ = some (.int .i64 a1_1) := (blk_cell BK303.out 1).trans rfl; have hfz31_0 := blk_frozen BK303.out 0; have hfz31_1 := blk_frozen BK303.out 1) | (refine goesL_ (some 17) rfl rfl Tryd.func32 (by kernel_rfl) rfl #[.agg #[.int .i64 a1_0, .int .i64 a1_1]] rfl (by (try simp only [mT_, mC_, mN_]); first | done | rfl) ?_; (with_reducible refine (demurrageref02_big.calls k a1_0 a1_1 t313 t316 _ A4.out).mono ?_); rintro e w32 ⟨v314, v317, rfl, ho0, ho1, hb⟩; refine ⟨_, rfl, ?_⟩; have HO315 := aA_ (Kd.R_lower (Kd.R_new' (Kd.R_new' ho0 (Kd.R_lt (by (with_reducible repeat (first | apply Kd.R_alloc | apply Kd.R_drewN | apply Kd.R_drew)); exact (Kd.R_mono (Kd.R_mono (Kd.R_far (p := ⟨gb312, 0, none⟩) (Kd.R_far (p := ⟨gb311, 0, none⟩) (Kd.R_types (Kd.R_types HO307.out BK311.out (by decide)) BK312.out (by decide)) (fun _ hk => hk.1.2) (.slice Ao19 t305.length co19)) (fun _ hk => hk.2) (.slice Ao25 t308.length co25)) (fun _ h_ => h_.1)) (fun _ h_ => h_.1))))) (Kd.R_lt (by (with_reducible repeat (first | apply Kd.R_alloc | apply Kd.R_drewN | apply Kd.R_drew)); exact (Kd.R_mono (Kd.R_mono (Kd.R_far (p := ⟨gb312, 0, none⟩) (Kd.R_far (p := ⟨gb311, 0, none⟩) (Kd.R_types (Kd.R_types HO310.out BK311.out (by decide)) BK312.out (by decide)) (fun _ hk => hk.1.2) (.slice Ao19 t305.length co19)) (fun _ hk => hk.2) (.slice Ao25 t308.length co25)) (fun _ h_ => h_.1)) (fun _ h_ => h_.1))))) (below_size (by repeat (with_reducible first | exact HB.out | apply bA_ | apply bN_ | apply bD_ | refine bS_ ?_ GE302.out | refine bS_ ?_ GE303.out | refine bS_ ?_ GE304.out | refine bS_ ?_ GE311.out | refine bS_ ?_ GE312.out)))); have HO318 := aA_ (Kd.R_lower (Kd.R_new' (Kd.R_new' ho1 (Kd.R_lt (by (with_reducible repeat (first | apply Kd.R_alloc | apply Kd.R_drewN | apply Kd.R_drew)); exact (Kd.R_mono (Kd.R_mono (Kd.R_far (p := ⟨gb312, 0, none⟩) (Kd.R_far (p := ⟨gb311, 0, none⟩) (Kd.R_types (Kd.R_types HO307.out BK311.out (by decide)) BK312.out (by decide)) (fun _ hk => hk.1.2) (.slice Ao19 t305.length co19)) (fun _ hk => hk.2) (.slice Ao25 t308.length co25)) (fun _ h_ => h_.1)) (fun _ h_ => h_.1))))) (Kd.R_lt (by (with_reducible repeat (first | apply Kd.R_alloc | apply Kd.R_drewN | apply Kd.R_drew)); exact (Kd.R_mono (Kd.R_mono (Kd.R_far (p := ⟨gb312, 0, none⟩) (Kd.R_far (p := ⟨gb311, 0, none⟩) (Kd.R_types (Kd.R_types HO310.out BK311.out (by decide)) BK312.out (by decide)) (fun _ hk => hk.1.2) (.slice Ao19 t305.length co19)) (fun _ hk => hk.2) (.slice Ao25 t308.length co25)) (fun _ h_ => h_.1)) (fun _ h_ => h_.1))))) (below_size (by repeat (with_reducible first | exact HB.out | apply bA_ | apply bN_ | apply bD_ | refine bS_ ?_ GE302.out | refine bS_ ?_ GE303.out | refine bS_ ?_ GE304.out | refine bS_ ?_ GE311.out | refine bS_ ?_ GE312.out)))); replace HO307 := aA_ (Kd.R_mono (Kd.R_told (Kd.R_told (Kd.R_old (by (with_reducible repeat (first | apply Kd.R_alloc | apply Kd.R_drewN | apply Kd.R_drew)); exact (Kd.R_mono (Kd.R_mono (Kd.R_far (p := ⟨gb312, 0, none⟩) (Kd.R_far (p := ⟨gb311, 0, none⟩) (Kd.R_types (Kd.R_types HO307.out BK311.out (by decide)) BK312.out (by decide)) (fun _ hk => hk.1.2) (.slice Ao19 t305.length co19)) (fun _ hk => hk.2) (.slice Ao25 t308.length co25)) (fun _ h_ => h_.1)) (fun _ h_ => h_.1))) hb) (Kd.R_base ho0)) (Kd.R_base ho1)) (fun _ h_ => h_.1)); replace HO310 := aA_ (Kd.R_mono (Kd.R_told (Kd.R_told (Kd.R_old (by (with_reducible repeat (first | apply Kd.R_alloc | apply Kd.R_drewN | apply Kd.R_drew)); exact (Kd.R_mono (Kd.R_mono (Kd.R_far (p := ⟨gb312, 0, none⟩) (Kd.R_far (p := ⟨gb311, 0, none⟩) (Kd.R_types (Kd.R_types HO310.out BK311.out (by decide)) BK312.out (by decide)) (fun _ hk => hk.1.2) (.slice Ao19 t305.length co19)) (fun _ hk => hk.2) (.slice Ao25 t308.length co25)) (fun _ h_ => h_.1)) (fun _ h_ => h_.1))) hb) (Kd.R_base ho0)) (Kd.R_base ho1)) (fun _ h_ => h_.1)); replace BK302 := aA_ (blk_below (g := gb302) (o := .cells #[.int .i64 a0_0, .int .i64 a0_1] 24 (0, 0)) (by refine blk_far ?_ NB302_312.out _; refine blk_far ?_ NB302_311.out _; exact BK302.out) hb); replace BK303 := aA_ (blk_below (g := gb303) (o := .cells #[.int .i64 a1_0, .int .i64 a1_1] 24 (0, 0)) (by refine blk_far ?_ NB303_312.out _; refine blk_far ?_ NB303_311.out _; exact BK303.out) hb); replace BK304 := aA_ (blk_below (g := gb304) (o := .cells #[.int .i64 0, .int .i64 0] 24 (0, 0)) (by refine blk_far ?_ NB304_312.out _; refine blk_far ?_ NB304_311.out _; exact BK304.out) hb); replace BK311 := aA_ (blk_below (g := gb311) (o := .cells #[.slice Ao19 t305.length co19] 56 (0, 0)) (by refine blk_far ?_ NB311_312.out _; refine blk_put (cs := #[.slice none 0 0]) ?_ 0 _ rfl; exact BK311.out) hb); replace BK312 := aA_ (blk_below (g := gb312) (o := .cells #[.slice Ao25 t308.length co25] 56 (0, 0)) (by refine blk_put (cs := #[.slice none 0 0]) ?_ 0 _ rfl; refine blk_far ?_ NB312_311.out _; exact BK312.out) hb); replace HB := bB_ (by repeat (with_reducible first | exact HB.out | apply bA_ | apply bN_ | apply bD_ | refine bS_ ?_ GE302.out | refine bS_ ?_ GE303.out | refine bS_ ?_ GE304.out | refine bS_ ?_ GE311.out | refine bS_ ?_ GE312.out)) hb; (try clear hb); (try clear ho0); (try clear ho1)) | (refine box_event rfl (N := 8) rfl (cs := #[.slice none 0 0]) (t := 56) ?hr ?_; (case hr => go_simp <;> rfl); intro gb319 hg w33 hbox hb; replace HO307 := aA_ (Kd.R_below HO307.out hb); replace HO310 := aA_ (Kd.R_below HO310.out hb); replace HO315 := aA_ (Kd.R_below HO315.out hb); replace HO318 := aA_ (Kd.R_below HO318.out hb); have BK319 := aA_ (hbox); have GW319 := gW_ hg (by repeat (with_reducible first | exact HB.out | apply bA_ | apply bN_ | apply bD_ | refine bS_ ?_ GE302.out | refine bS_ ?_ GE303.out | refine bS_ ?_ GE304.out | refine bS_ ?_ GE311.out | refine bS_ ?_ GE312.out)); have GE319 := GW319; replace HB := bB_ (by repeat (with_reducible first | exact HB.out | apply bA_ | apply bN_ | apply bD_ | refine bS_ ?_ GE302.out | refine bS_ ?_ GE303.out | refine bS_ ?_ GE304.out | refine bS_ ?_ GE311.out | refine bS_ ?_ GE312.out)) hb; have NB302_319 := nE_ hg BK302; have NB319_302 := aA_ NB302_319.out.symm; replace BK302 := bK_ BK302 hb; have NB303_319 := nE_ hg BK303; have NB319_303 := aA_ NB303_319.out.symm; replace BK303 := bK_ BK303 hb; have NB304_319 := nE_ hg BK304; have NB319_304 := aA_ NB304_319.out.symm; replace BK304 := bK_ BK304 hb; have NB311_319 := nE_ hg BK311; have NB319_311 := aA_ NB311_319.out.symm; replace BK311 := bK_ BK311 hb; have NB312_319 := nE_ hg BK312; have NB319_312 := aA_ NB312_319.out.symm; replace BK312 := bK_ BK312 hb; clear hb hbox hg) | (refine box_event rfl (N := 9) rfl (cs := #[.slice none 0 0]) (t := 56) ?hr ?_; (case hr => go_simp <;> rfl); intro gb320 hg w34 hbox hb; replace HO307 := aA_ (Kd.R_below HO307.out hb); replace HO310 := aA_ (Kd.R_below HO310.out hb); replace HO315 := aA_ (Kd.R_below HO315.out hb); replace HO318 := aA_ (Kd.R_below HO318.out hb); have BK320 := aA_ (hbox); have GW320 := gW_ hg (by repeat (with_reducible first | exact HB.out | apply bA_ | apply bN_ | apply bD_ | refine bS_ ?_ GE302.out | refine bS_ ?_ GE303.out | refine bS_ ?_ GE304.out | refine bS_ ?_ GE311.out | refine bS_ ?_ GE312.out | refine bS_ ?_ GE319.out)); have GE320 := GW320; replace HB := bB_ (by repeat (with_reducible first | exact HB.out | apply bA_ | apply bN_ | apply bD_ | refine bS_ ?_ GE302.out | refine bS_ ?_ GE303.out | refine bS_ ?_ GE304.out | refine bS_ ?_ GE311.out | refine bS_ ?_ GE312.out | refine bS_ ?_ GE319.out)) hb; have NB302_320 := nE_ hg BK302; have NB320_302 := aA_ NB302_320.out.symm; replace BK302 := bK_ BK302 hb; have NB303_320 := nE_ hg BK303; have NB320_303 := aA_ NB303_320.out.symm; replace BK303 := bK_ BK303 hb; have NB304_320 := nE_ hg BK304; have NB320_304 := aA_ NB304_320.out.symm; replace BK304 := bK_ BK304 hb; have NB311_320 := nE_ hg BK311; have NB320_311 := aA_ NB311_320.out.symm; replace BK311 := bK_ BK311 hb; have NB312_320 := nE_ hg BK312; have NB320_312 := aA_ NB312_320.out.symm; replace BK312 := bK_ BK312 hb; have NB319_320 := nE_ hg BK319; have NB320_319 := aA_ NB319_320.out.symm; replace BK319 := bK_ BK319 hb; clear hb hbox hg; obtain ⟨Ao35, co35, eo35⟩ := Kd.R_slice HO315.out; subst eo35; have hnb36 := NB319_302.out; have hnc36 := NB302_319.out; have hnb37 := NB319_303.out; have hnc37 := NB303_319.out; have hnb38 := NB319_304.out; have hnc38 := NB304_319.out; have hnb39 := NB319_311.out; have hnc39 := NB311_319.out; have hnb40 := NB319_312.out; have hnc40 := NB312_319.out; have hnb41 := NB319_320.out; have hnc41 := NB320_319.out; have hcz42_0 : w34.cell? ⟨gb319, 0, none⟩ = some (.slice none 0 0) := (blk_cell BK319.out 0).trans rfl; have hfz42_0 := blk_frozen BK319.out 0; obtain ⟨Ao43, co43, eo43⟩ := Kd.R_slice HO318.out; subst eo43; have hnb44 := NB320_302.out; have hnc44 := NB302_320.out; have hnb45 := NB320_303.out; have hnc45 := NB303_320.out; have hnb46 := NB320_304.out; have hnc46 := NB304_320.out; have hnb47 := NB320_311.out; have hnc47 := NB311_320.out; have hnb48 := NB320_312.out; have hnc48 := NB312_320.out; have hcz49_0 : w34.cell? ⟨gb320, 0, none⟩ = some (.slice none 0 0) := (blk_cell BK320.out 0).trans rfl; have hfz49_0 := blk_frozen BK320.out 0))
 have n0_ : Aside0 (Kd.R (Kd.int .i64) 3 ((w34.setCell ⟨gb319, 0, none⟩ (.slice Ao35 t313.length co35)).setCell ⟨gb320, 0, none⟩ (.slice Ao43 t316.length co43)) w.heap.size (fun k_ => some k_ ≠ (.slice Ao25 t308.length co25 : Value).ownBlock ∧ some k_ ≠ (.slice Ao35 t313.length co35 : Value).ownBlock ∧ some k_ ≠ (.slice Ao43 t316.length co43 : Value).ownBlock) (.slice Ao19 t305.length co19) t305) := ⟨by (with_reducible repeat (first | apply Kd.R_alloc | apply Kd.R_drewN | apply Kd.R_drew)); exact Kd.R_mono (Kd.R_far (p := ⟨gb320, 0, none⟩) (Kd.R_far (p := ⟨gb319, 0, none⟩) (Kd.R_types (Kd.R_types HO307.out BK319.out (by decide)) BK320.out (by decide)) (fun _ hk => hk.1.2) (.slice Ao35 t313.length co35)) (fun _ hk => hk.2) (.slice Ao43 t316.length co43)) (fun _ hk => (And.intro (hk.1.1.1.1) ((And.intro (hk.1.1.1.2) (hk.1.1.2)))))⟩
 have n1_ : Aside0 (Kd.R (Kd.int .i64) 3 ((w34.setCell ⟨gb319, 0, none⟩ (.slice Ao35 t313.length co35)).setCell ⟨gb320, 0, none⟩ (.slice Ao43 t316.length co43)) w.heap.size (fun k_ => some k_ ≠ (.slice Ao19 t305.length co19 : Value).ownBlock ∧ some k_ ≠ (.slice Ao35 t313.length co35 : Value).ownBlock ∧ some k_ ≠ (.slice Ao43 t316.length co43 : Value).ownBlock) (.slice Ao25 t308.length co25) t308) := ⟨by (with_reducible repeat (first | apply Kd.R_alloc | apply Kd.R_drewN | apply Kd.R_drew)); exact Kd.R_mono (Kd.R_far (p := ⟨gb320, 0, none⟩) (Kd.R_far (p := ⟨gb319, 0, none⟩) (Kd.R_types (Kd.R_types HO310.out BK319.out (by decide)) BK320.out (by decide)) (fun _ hk => hk.1.2) (.slice Ao35 t313.length co35)) (fun _ hk => hk.2) (.slice Ao43 t316.length co43)) (fun _ hk => (And.intro (hk.1.1.1.1) ((And.intro (hk.1.1.1.2) (hk.1.1.2)))))⟩
 have n2_ : Aside0 (Kd.R (Kd.int .i64) 3 ((w34.setCell ⟨gb319, 0, none⟩ (.slice Ao35 t313.length co35)).setCell ⟨gb320, 0, none⟩ (.slice Ao43 t316.length co43)) w.heap.size (fun k_ => some k_ ≠ (.slice Ao19 t305.length co19 : Value).ownBlock ∧ some k_ ≠ (.slice Ao25 t308.length co25 : Value).ownBlock ∧ some k_ ≠ (.slice Ao43 t316.length co43 : Value).ownBlock) (.slice Ao35 t313.length co35) t313) := ⟨by (with_reducible repeat (first | apply Kd.R_alloc | apply Kd.R_drewN | apply Kd.R_drew)); exact Kd.R_mono (Kd.R_far (p := ⟨gb320, 0, none⟩) (Kd.R_far (p := ⟨gb319, 0, none⟩) (Kd.R_types (Kd.R_types HO315.out BK319.out (by decide)) BK320.out (by decide)) (fun _ hk => hk.1.2) (.slice Ao35 t313.length co35)) (fun _ hk => hk.2) (.slice Ao43 t316.length co43)) (fun _ hk => (And.intro (hk.1.1.1.2) ((And.intro (hk.1.1.2) (hk.1.1.1.1)))))⟩
 have n3_ : Aside0 (Kd.R (Kd.int .i64) 3 ((w34.setCell ⟨gb319, 0, none⟩ (.slice Ao35 t313.length co35)).setCell ⟨gb320, 0, none⟩ (.slice Ao43 t316.length co43)) w.heap.size (fun k_ => some k_ ≠ (.slice Ao19 t305.length co19 : Value).ownBlock ∧ some k_ ≠ (.slice Ao25 t308.length co25 : Value).ownBlock ∧ some k_ ≠ (.slice Ao35 t313.length co35 : Value).ownBlock) (.slice Ao43 t316.length co43) t316) := ⟨by (with_reducible repeat (first | apply Kd.R_alloc | apply Kd.R_drewN | apply Kd.R_drew)); exact Kd.R_mono (Kd.R_far (p := ⟨gb320, 0, none⟩) (Kd.R_far (p := ⟨gb319, 0, none⟩) (Kd.R_types (Kd.R_types HO318.out BK319.out (by decide)) BK320.out (by decide)) (fun _ hk => hk.1.2) (.slice Ao35 t313.length co35)) (fun _ hk => hk.2) (.slice Ao43 t316.length co43)) (fun _ hk => (And.intro (hk.1.1.1.2) ((And.intro (hk.1.1.2) (hk.1.1.1.1)))))⟩
 have n4_ : Aside0 (((w34.setCell ⟨gb319, 0, none⟩ (.slice Ao35 t313.length co35)).setCell ⟨gb320, 0, none⟩ (.slice Ao43 t316.length co43)).heap[gb302]? = some (.cells #[.int .i64 a0_0, .int .i64 a0_1] 24 (0, 0))) := ⟨by refine blk_far ?_ NB302_320.out _; refine blk_far ?_ NB302_319.out _; exact BK302.out⟩
 have n5_ : Aside0 (((w34.setCell ⟨gb319, 0, none⟩ (.slice Ao35 t313.length co35)).setCell ⟨gb320, 0, none⟩ (.slice Ao43 t316.length co43)).heap[gb303]? = some (.cells #[.int .i64 a1_0, .int .i64 a1_1] 24 (0, 0))) := ⟨by refine blk_far ?_ NB303_320.out _; refine blk_far ?_ NB303_319.out _; exact BK303.out⟩
 have n6_ : Aside0 (((w34.setCell ⟨gb319, 0, none⟩ (.slice Ao35 t313.length co35)).setCell ⟨gb320, 0, none⟩ (.slice Ao43 t316.length co43)).heap[gb304]? = some (.cells #[.int .i64 0, .int .i64 0] 24 (0, 0))) := ⟨by refine blk_far ?_ NB304_320.out _; refine blk_far ?_ NB304_319.out _; exact BK304.out⟩
 have n7_ : Aside0 (((w34.setCell ⟨gb319, 0, none⟩ (.slice Ao35 t313.length co35)).setCell ⟨gb320, 0, none⟩ (.slice Ao43 t316.length co43)).heap[gb311]? = some (.cells #[.slice Ao19 t305.length co19] 56 (0, 0))) := ⟨by refine blk_far ?_ NB311_320.out _; refine blk_far ?_ NB311_319.out _; exact BK311.out⟩
 have n8_ : Aside0 (((w34.setCell ⟨gb319, 0, none⟩ (.slice Ao35 t313.length co35)).setCell ⟨gb320, 0, none⟩ (.slice Ao43 t316.length co43)).heap[gb312]? = some (.cells #[.slice Ao25 t308.length co25] 56 (0, 0))) := ⟨by refine blk_far ?_ NB312_320.out _; refine blk_far ?_ NB312_319.out _; exact BK312.out⟩
 have n9_ : Aside0 (((w34.setCell ⟨gb319, 0, none⟩ (.slice Ao35 t313.length co35)).setCell ⟨gb320, 0, none⟩ (.slice Ao43 t316.length co43)).heap[gb319]? = some (.cells #[.slice Ao35 t313.length co35] 56 (0, 0))) := ⟨by refine blk_far ?_ NB319_320.out _; refine blk_put (cs := #[.slice none 0 0]) ?_ 0 _ rfl; exact BK319.out⟩
 have n10_ : Aside0 (((w34.setCell ⟨gb319, 0, none⟩ (.slice Ao35 t313.length co35)).setCell ⟨gb320, 0, none⟩ (.slice Ao43 t316.length co43)).heap[gb320]? = some (.cells #[.slice Ao43 t316.length co43] 56 (0, 0))) := ⟨by refine blk_put (cs := #[.slice none 0 0]) ?_ 0 _ rfl; refine blk_far ?_ NB320_319.out _; exact BK320.out⟩
 have n11_ : Aside0 (Below w.heap.size w ((w34.setCell ⟨gb319, 0, none⟩ (.slice Ao35 t313.length co35)).setCell ⟨gb320, 0, none⟩ (.slice Ao43 t316.length co43))) := ⟨by repeat (with_reducible first | exact HB.out | apply bA_ | apply bN_ | apply bD_ | refine bS_ ?_ GE302.out | refine bS_ ?_ GE303.out | refine bS_ ?_ GE304.out | refine bS_ ?_ GE311.out | refine bS_ ?_ GE312.out | refine bS_ ?_ GE319.out | refine bS_ ?_ GE320.out)⟩
 (try clear HO307)
 (try clear HO310)
 (try clear HO315)
 (try clear HO318)
 (try clear BK302)
 (try clear BK303)
 (try clear BK304)
 (try clear BK311)
 (try clear BK312)
 (try clear BK319)
 (try clear BK320)
 (try clear HB)
 generalize ((w34.setCell ⟨gb319, 0, none⟩ (.slice Ao35 t313.length co35)).setCell ⟨gb320, 0, none⟩ (.slice Ao43 t316.length co43)) = w50 at n0_ n1_ n2_ n3_ n4_ n5_ n6_ n7_ n8_ n9_ n10_ n11_ ⊢
 have HO307 := n0_
 have HO310 := n1_
 have HO315 := n2_
 have HO318 := n3_
 have BK302 := n4_
 have BK303 := n5_
 have BK304 := n6_
 have BK311 := n7_
 have BK312 := n8_
 have BK319 := n9_
 have BK320 := n10_
 have HB := n11_
 clear n0_ n1_ n2_ n3_ n4_ n5_ n6_ n7_ n8_ n9_ n10_ n11_
 replace HO307 := aA_ (Kd.R_drew HO307.out)
 replace HO310 := aA_ (Kd.R_drew HO310.out)
 replace HO315 := aA_ (Kd.R_drew HO315.out)
 replace HO318 := aA_ (Kd.R_drew HO318.out)
 replace BK302 := aA_ (blk_drew BK302.out)
 replace BK303 := aA_ (blk_drew BK303.out)
 replace BK304 := aA_ (blk_drew BK304.out)
 replace BK311 := aA_ (blk_drew BK311.out)
 replace BK312 := aA_ (blk_drew BK312.out)
 replace BK319 := aA_ (blk_drew BK319.out)
 replace BK320 := aA_ (blk_drew BK320.out)
 replace HB := aA_ (below_drew1 HB.out)
 refine start_ (n := 15) (S := fun w' => w'.cell? ⟨gb311, 0, none⟩ = some (.slice Ao19 t305.length co19) ∧ w'.cell? ⟨gb320, 0, none⟩ = some (.slice Ao43 t316.length co43) ∧ w'.cell? ⟨gb319, 0, none⟩ = some (.slice Ao35 t313.length co35) ∧ w'.cell? ⟨gb312, 0, none⟩ = some (.slice Ao25 t308.length co25)) (ds := []) (demurrageref02_Cmp.ups 15 0) (by kernel_rfl) rfl rfl ⟨(blk_cell BK311.out 0).trans rfl, (blk_cell BK320.out 0).trans rfl, (blk_cell BK319.out 0).trans rfl, (blk_cell BK312.out 0).trans rfl⟩ (fun hHeld => ?_); refine with_tabW demurrageref02_Add.tab3 demurrageref02_Add.bits3 (fun HT_ HW_ => ?_)
 generalize w50.drew = w51 at HO307 HO310 HO315 HO318 BK302 BK303 BK304 BK311 BK312 BK319 BK320 HB hHeld ⊢
 refine take_ (i := 0) (N := some 20) (v := ?_) (a' := ?_) (demurrageref02_Cmp.ups 15 1) rfl rfl (take_ofW HT_.out HW_.out (by kernel_rfl)) (fun _ _ _ h => h) (Or.inl ⟨by rfl, ?_⟩) hHeld ?_ ?_
 rotate_left
 ·rintro w' ⟨s0, s1, s2, s3⟩
  go_simp
  with_reducible rfl
 rotate_left
 ·simp only [Act.put, sT_, sZ_, sS_, i64_w, i32_w]
  rfl
 refine take_ (i := 1) (N := some 21) (v := ?_) (a' := ?_) (demurrageref02_Cmp.ups 15 3) rfl rfl (take_ofW HT_.out HW_.out (by kernel_rfl)) (fun _ _ _ h => h) (Or.inl ⟨by rfl, ?_⟩) hHeld ?_ ?_
 rotate_left
 ·rintro w' ⟨s0, s1, s2, s3⟩
  go_simp
  with_reducible rfl
 rotate_left
 ·simp only [Act.put, sT_, sZ_, sS_, i64_w, i32_w]
  rfl
 refine take_ (i := 3) (N := some 23) (v := ?_) (a' := ?_) (demurrageref02_Cmp.ups 15 11) rfl rfl (take_ofW HT_.out HW_.out (by kernel_rfl)) (fun _ _ _ h => h) (Or.inl ⟨by rfl, ?_⟩) hHeld ?_ ?_
 rotate_left
 ·rintro w' ⟨s0, s1, s2, s3⟩
  go_simp
  with_reducible rfl
 rotate_left
 ·simp only [Act.put, sT_, sZ_, sS_, i64_w, i32_w]
  rfl
 refine take_ (i := 4) (N := some 24) (v := ?_) (a' := ?_) (demurrageref02_Cmp.ups 15 27) rfl rfl (take_ofW HT_.out HW_.out (by kernel_rfl)) (fun _ _ _ h => h) (Or.inl ⟨by rfl, ?_⟩) hHeld ?_ ?_
 rotate_left
 ·rintro w' ⟨s0, s1, s2, s3⟩
  go_simp
  with_reducible rfl
 rotate_left
 ·simp only [Act.put, sT_, sZ_, sS_, i64_w, i32_w]
  rfl
 refine take_ (i := 7) (N := some 27) (v := ?_) (a' := ?_) (demurrageref02_Cmp.ups 15 155) rfl rfl (take_ofW HT_.out HW_.out (by kernel_rfl)) (fun _ _ _ h => h) (Or.inl ⟨by rfl, ?_⟩) hHeld ?_ ?_
 rotate_left
 ·rintro w' ⟨s0, s1, s2, s3⟩
  go_simp
  with_reducible rfl
 rotate_left
 ·simp only [Act.put, sT_, sZ_, sS_, i64_w, i32_w]
  rfl
 refine take_ (i := 8) (N := some 28) (v := ?_) (a' := ?_) (demurrageref02_Cmp.ups 15 411) rfl rfl (take_ofW HT_.out HW_.out (by kernel_rfl)) (fun _ _ _ h => h) (Or.inl ⟨by rfl, ?_⟩) hHeld ?_ ?_
 rotate_left
 ·rintro w' ⟨s0, s1, s2, s3⟩
  go_simp
  with_reducible rfl
 rotate_left
 ·simp only [Act.put, sT_, sZ_, sS_, i64_w, i32_w]
  rfl
 refine one_ (i := 2) (N := some 22) (demurrageref02_Cmp.ups 15 415) rfl rfl (one_of HT_.out (by kernel_rfl)) (by decide) (fun K hK => ?_)
 refine goes_ Tryd.func35 (by kernel_rfl) rfl #[.agg #[.slice Ao19 t305.length co19], .agg #[.slice Ao43 t316.length co43]] (by rfl) rfl rfl (by (try simp only [mT_, mC_, mN_]); first | done | rfl) ?_
 with_reducible refine (demurrageref01_Prod.calls k _ _ t305 _ _ t316 t321 _ ?side1 ?side2 ?side3 ?side4 A5.out).mono ?_
 (case side1 => repeat (first | exact (Kd.R_reads' HO307.out).2.2 | (with_reducible first | refine Kd.C_alloc ?_ _ | refine Kd.C_drewN ?_ _ | refine Kd.C_drew ?_)))
 (case side2 => exact (Kd.R_reads' HO307.out).2.1)
 (case side3 => repeat (first | exact (Kd.R_reads' HO318.out).2.2 | (with_reducible first | refine Kd.C_alloc ?_ _ | refine Kd.C_drewN ?_ _ | refine Kd.C_drew ?_)))
 (case side4 => exact (Kd.R_reads' HO318.out).2.1)
 rintro e w52 ⟨v322, rfl, ho0, hb⟩
 refine ⟨_, rfl, ?_⟩
 have HO323 := aA_ (Kd.R_lower (Kd.R_new' (Kd.R_new' (Kd.R_new' (Kd.R_new' ho0 (Kd.R_lt HO307.out)) (Kd.R_lt HO310.out)) (Kd.R_lt HO315.out)) (Kd.R_lt HO318.out)) (below_size (by repeat (with_reducible first | exact HB.out | apply bA_ | apply bN_ | apply bD_ | refine bS_ ?_ GE302.out | refine bS_ ?_ GE303.out | refine bS_ ?_ GE304.out | refine bS_ ?_ GE311.out | refine bS_ ?_ GE312.out | refine bS_ ?_ GE319.out | refine bS_ ?_ GE320.out))))
 replace HO307 := aA_ (Kd.R_elder' HO307.out (Kd.R_base ho0) hb)
 replace HO310 := aA_ (Kd.R_elder' HO310.out (Kd.R_base ho0) hb)
 replace HO315 := aA_ (Kd.R_elder' HO315.out (Kd.R_base ho0) hb)
 replace HO318 := aA_ (Kd.R_elder' HO318.out (Kd.R_base ho0) hb)
 replace BK302 := bK_ BK302 hb
 replace BK303 := bK_ BK303 hb
 replace BK304 := bK_ BK304 hb
 replace BK311 := bK_ BK311 hb
 replace BK312 := bK_ BK312 hb
 replace BK319 := bK_ BK319 hb
 replace BK320 := bK_ BK320 hb
 replace HB := bB_ (by repeat (with_reducible first | exact HB.out | apply bA_ | apply bN_ | apply bD_ | refine bS_ ?_ GE302.out | refine bS_ ?_ GE303.out | refine bS_ ?_ GE304.out | refine bS_ ?_ GE311.out | refine bS_ ?_ GE312.out | refine bS_ ?_ GE319.out | refine bS_ ?_ GE320.out)) hb
 (try clear hb)
 (try clear hb2)
 (try clear hk)
 (try clear hi)
 (try clear ho0)
 refine hK.out _ _ ⟨(blk_cell BK311.out 0).trans rfl, (blk_cell BK320.out 0).trans rfl, (blk_cell BK319.out 0).trans rfl, (blk_cell BK312.out 0).trans rfl⟩ (fun hHeld => ?_)
 clear hK K
 refine norm_ (by show Act.put _ (some 22) _ = _; simp only [Act.put, sT_, sZ_, sS_, i64_w, i32_w] <;> rfl) ?_
 refine one_ (i := 5) (N := some 25) (demurrageref02_Cmp.ups 15 447) rfl rfl (one_of HT_.out (by kernel_rfl)) (by decide) (fun K hK => ?_)
 refine goes_ Tryd.func35 (by kernel_rfl) rfl #[.agg #[.slice Ao35 t313.length co35], .agg #[.slice Ao25 t308.length co25]] (by rfl) rfl rfl (by (try simp only [mT_, mC_, mN_]); first | done | rfl) ?_
 with_reducible refine (demurrageref01_Prod.calls k _ _ t313 _ _ t308 t324 _ ?side1 ?side2 ?side3 ?side4 A6.out).mono ?_
 (case side1 => repeat (first | exact (Kd.R_reads' HO315.out).2.2 | (with_reducible first | refine Kd.C_alloc ?_ _ | refine Kd.C_drewN ?_ _ | refine Kd.C_drew ?_)))
 (case side2 => exact (Kd.R_reads' HO315.out).2.1)
 (case side3 => repeat (first | exact (Kd.R_reads' HO310.out).2.2 | (with_reducible first | refine Kd.C_alloc ?_ _ | refine Kd.C_drewN ?_ _ | refine Kd.C_drew ?_)))
 (case side4 => exact (Kd.R_reads' HO310.out).2.1)
 rintro e w53 ⟨v325, rfl, ho0, hb⟩
 refine ⟨_, rfl, ?_⟩
 have HO326 := aA_ (Kd.R_lower (Kd.R_new' (Kd.R_new' (Kd.R_new' (Kd.R_new' (Kd.R_new' ho0 (Kd.R_lt HO307.out)) (Kd.R_lt HO310.out)) (Kd.R_lt HO315.out)) (Kd.R_lt HO318.out)) (Kd.R_lt HO323.out)) (below_size (by repeat (with_reducible first | exact HB.out | apply bA_ | apply bN_ | apply bD_ | refine bS_ ?_ GE302.out | refine bS_ ?_ GE303.out | refine bS_ ?_ GE304.out | refine bS_ ?_ GE311.out | refine bS_ ?_ GE312.out | refine bS_ ?_ GE319.out | refine bS_ ?_ GE320.out))))
 replace HO307 := aA_ (Kd.R_elder' HO307.out (Kd.R_base ho0) hb)
 replace HO310 := aA_ (Kd.R_elder' HO310.out (Kd.R_base ho0) hb)
 replace HO315 := aA_ (Kd.R_elder' HO315.out (Kd.R_base ho0) hb)
 replace HO318 := aA_ (Kd.R_elder' HO318.out (Kd.R_base ho0) hb)
 replace HO323 := aA_ (Kd.R_elder' HO323.out (Kd.R_base ho0) hb)
 replace BK302 := bK_ BK302 hb
 replace BK303 := bK_ BK303 hb
 replace BK304 := bK_ BK304 hb
 replace BK311 := bK_ BK311 hb
 replace BK312 := bK_ BK312 hb
 replace BK319 := bK_ BK319 hb
 replace BK320 := bK_ BK320 hb
 replace HB := bB_ (by repeat (with_reducible first | exact HB.out | apply bA_ | apply bN_ | apply bD_ | refine bS_ ?_ GE302.out | refine bS_ ?_ GE303.out | refine bS_ ?_ GE304.out | refine bS_ ?_ GE311.out | refine bS_ ?_ GE312.out | refine bS_ ?_ GE319.out | refine bS_ ?_ GE320.out)) hb
 (try clear hb)
 (try clear hb2)
 (try clear hk)
 (try clear hi)
 (try clear ho0)
 obtain ⟨Ao54, co54, eo54⟩ := Kd.R_slice HO323.out
 (first | subst eo54 | (injection eo54 with f1_ f2_ f3_; have f4_ := f1_.symm; have f5_ := f3_.symm; clear f1_ f2_ f3_; subst f4_; subst f5_))
 obtain ⟨Ao55, co55, eo55⟩ := Kd.R_slice HO326.out
 (first | subst eo55 | (injection eo55 with f1_ f2_ f3_; have f4_ := f1_.symm; have f5_ := f3_.symm; clear f1_ f2_ f3_; subst f4_; subst f5_))
 refine hK.out _ _ ⟨(blk_cell BK311.out 0).trans rfl, (blk_cell BK320.out 0).trans rfl, (blk_cell BK319.out 0).trans rfl, (blk_cell BK312.out 0).trans rfl⟩ (fun hHeld => ?_)
 clear hK K
 refine norm_ (by show Act.put _ (some 25) _ = _; simp only [Act.put, sT_, sZ_, sS_, i64_w, i32_w] <;> rfl) ?_
 refine one_ (i := 6) (N := some 26) (demurrageref02_Cmp.ups 15 511) rfl rfl (one_of HT_.out (by kernel_rfl)) (by decide) (fun K hK => ?_)
 refine goes_ Tryd.func34 (by kernel_rfl) rfl #[.agg #[.slice Ao54 t321.length co54], .agg #[.slice Ao55 t324.length co55]] (by rfl) rfl rfl (by (try simp only [mT_, mC_, mN_]); first | done | rfl) ?_
 with_reducible refine (demurrageref01_Plus.calls k _ _ t321 _ _ t324 t327 _ ?side1 ?side2 ?side3 ?side4 A7.out).mono ?_
 (case side1 => repeat (first | exact (Kd.R_reads' HO323.out).2.2 | (with_reducible first | refine Kd.C_alloc ?_ _ | refine Kd.C_drewN ?_ _ | refine Kd.C_drew ?_)))
 (case side2 => exact (Kd.R_reads' HO323.out).2.1)
 (case side3 => repeat (first | exact (Kd.R_reads' HO326.out).2.2 | (with_reducible first | refine Kd.C_alloc ?_ _ | refine Kd.C_drewN ?_ _ | refine Kd.C_drew ?_)))
 (case side4 => exact (Kd.R_reads' HO326.out).2.1)
 rintro e w56 ⟨v328, rfl, ho0, hb⟩
 refine ⟨_, rfl, ?_⟩
 have HO329 := aA_ (Kd.R_lower (Kd.R_new' (Kd.R_new' (Kd.R_new' (Kd.R_new' (Kd.R_new' (Kd.R_new' ho0 (Kd.R_lt HO307.out)) (Kd.R_lt HO310.out)) (Kd.R_lt HO315.out)) (Kd.R_lt HO318.out)) (Kd.R_lt HO323.out)) (Kd.R_lt HO326.out)) (below_size (by repeat (with_reducible first | exact HB.out | apply bA_ | apply bN_ | apply bD_ | refine bS_ ?_ GE302.out | refine bS_ ?_ GE303.out | refine bS_ ?_ GE304.out | refine bS_ ?_ GE311.out | refine bS_ ?_ GE312.out | refine bS_ ?_ GE319.out | refine bS_ ?_ GE320.out))))
 replace HO307 := aA_ (Kd.R_elder' HO307.out (Kd.R_base ho0) hb)
 replace HO310 := aA_ (Kd.R_elder' HO310.out (Kd.R_base ho0) hb)
 replace HO315 := aA_ (Kd.R_elder' HO315.out (Kd.R_base ho0) hb)
 replace HO318 := aA_ (Kd.R_elder' HO318.out (Kd.R_base ho0) hb)
 replace HO323 := aA_ (Kd.R_elder' HO323.out (Kd.R_base ho0) hb)
 replace HO326 := aA_ (Kd.R_elder' HO326.out (Kd.R_base ho0) hb)
 replace BK302 := bK_ BK302 hb
 replace BK303 := bK_ BK303 hb
 replace BK304 := bK_ BK304 hb
 replace BK311 := bK_ BK311 hb
 replace BK312 := bK_ BK312 hb
 replace BK319 := bK_ BK319 hb
 replace BK320 := bK_ BK320 hb
 replace HB := bB_ (by repeat (with_reducible first | exact HB.out | apply bA_ | apply bN_ | apply bD_ | refine bS_ ?_ GE302.out | refine bS_ ?_ GE303.out | refine bS_ ?_ GE304.out | refine bS_ ?_ GE311.out | refine bS_ ?_ GE312.out | refine bS_ ?_ GE319.out | refine bS_ ?_ GE320.out)) hb
 (try clear hb)
 (try clear hb2)
 (try clear hk)
 (try clear hi)
 (try clear ho0)
 refine hK.out _ _ ⟨(blk_cell BK311.out 0).trans rfl, (blk_cell BK320.out 0).trans rfl, (blk_cell BK319.out 0).trans rfl, (blk_cell BK312.out 0).trans rfl⟩ (fun hHeld => ?_)
 clear hK K
 refine norm_ (by show Act.put _ (some 26) _ = _; simp only [Act.put, sT_, sZ_, sS_, i64_w, i32_w] <;> rfl) ?_
 refine one_ (i := 9) (N := some 29) (demurrageref02_Cmp.ups 15 1023) rfl rfl (one_of HT_.out (by kernel_rfl)) (by decide) (fun K hK => ?_)
 refine goes_ Tryd.func35 (by kernel_rfl) rfl #[.agg #[.slice Ao25 t308.length co25], .agg #[.slice Ao43 t316.length co43]] (by rfl) rfl rfl (by (try simp only [mT_, mC_, mN_]); first | done | rfl) ?_
 with_reducible refine (demurrageref01_Prod.calls k _ _ t308 _ _ t316 t330 _ ?side1 ?side2 ?side3 ?side4 A8.out).mono ?_
 (case side1 => repeat (first | exact (Kd.R_reads' HO310.out).2.2 | (with_reducible first | refine Kd.C_alloc ?_ _ | refine Kd.C_drewN ?_ _ | refine Kd.C_drew ?_)))
 (case side2 => exact (Kd.R_reads' HO310.out).2.1)
 (case side3 => repeat (first | exact (Kd.R_reads' HO318.out).2.2 | (with_reducible first | refine Kd.C_alloc ?_ _ | refine Kd.C_drewN ?_ _ | refine Kd.C_drew ?_)))
 (case side4 => exact (Kd.R_reads' HO318.out).2.1)
 rintro e w57 ⟨v331, rfl, ho0, hb⟩
 refine ⟨_, rfl, ?_⟩
 have HO332 := aA_ (Kd.R_lower (Kd.R_new' (Kd.R_new' (Kd.R_new' (Kd.R_new' (Kd.R_new' (Kd.R_new' (Kd.R_new' ho0 (Kd.R_lt HO307.out)) (Kd.R_lt HO310.out)) (Kd.R_lt HO315.out)) (Kd.R_lt HO318.out)) (Kd.R_lt HO323.out)) (Kd.R_lt HO326.out)) (Kd.R_lt HO329.out)) (below_size (by repeat (with_reducible first | exact HB.out | apply bA_ | apply bN_ | apply bD_ | refine bS_ ?_ GE302.out | refine bS_ ?_ GE303.out | refine bS_ ?_ GE304.out | refine bS_ ?_ GE311.out | refine bS_ ?_ GE312.out | refine bS_ ?_ GE319.out | refine bS_ ?_ GE320.out))))
 replace HO307 := aA_ (Kd.R_elder' HO307.out (Kd.R_base ho0) hb)
 replace HO310 := aA_ (Kd.R_elder' HO310.out (Kd.R_base ho0) hb)
 replace HO315 := aA_ (Kd.R_elder' HO315.out (Kd.R_base ho0) hb)
 replace HO318 := aA_ (Kd.R_elder' HO318.out (Kd.R_base ho0) hb)
 replace HO323 := aA_ (Kd.R_elder' HO323.out (Kd.R_base ho0) hb)
 replace HO326 := aA_ (Kd.R_elder' HO326.out (Kd.R_base ho0) hb)
 replace HO329 := aA_ (Kd.R_elder' HO329.out (Kd.R_base ho0) hb)
 replace BK302 := bK_ BK302 hb
 replace BK303 := bK_ BK303 hb
 replace BK304 := bK_ BK304 hb
 replace BK311 := bK_ BK311 hb
 replace BK312 := bK_ BK312 hb
 replace BK319 := bK_ BK319 hb
 replace BK320 := bK_ BK320 hb
 replace HB := bB_ (by repeat (with_reducible first | exact HB.out | apply bA_ | apply bN_ | apply bD_ | refine bS_ ?_ GE302.out | refine bS_ ?_ GE303.out | refine bS_ ?_ GE304.out | refine bS_ ?_ GE311.out | refine bS_ ?_ GE312.out | refine bS_ ?_ GE319.out | refine bS_ ?_ GE320.out)) hb
 (try clear hb)
 (try clear hb2)
 (try clear hk)
 (try clear hi)
 (try clear ho0)
 obtain ⟨Ao58, co58, eo58⟩ := Kd.R_slice HO329.out
 (first | subst eo58 | (injection eo58 with f1_ f2_ f3_; have f4_ := f1_.symm; have f5_ := f3_.symm; clear f1_ f2_ f3_; subst f4_; subst f5_))
 obtain ⟨Ao59, co59, eo59⟩ := Kd.R_slice HO332.out
 (first | subst eo59 | (injection eo59 with f1_ f2_ f3_; have f4_ := f1_.symm; have f5_ := f3_.symm; clear f1_ f2_ f3_; subst f4_; subst f5_))
 refine hK.out _ _ ⟨(blk_cell BK311.out 0).trans rfl, (blk_cell BK320.out 0).trans rfl, (blk_cell BK319.out 0).trans rfl, (blk_cell BK312.out 0).trans rfl⟩ (fun hHeld => ?_)
 clear hK K
 refine norm_ (by show Act.put _ (some 29) _ = _; simp only [Act.put, sT_, sZ_, sS_, i64_w, i32_w] <;> rfl) ?_
 refine one_ (i := 10) (N := some 30) (demurrageref02_Cmp.ups 15 2047) rfl rfl (one_of HT_.out (by kernel_rfl)) (by decide) (fun K hK => ?_)
 refine goes_ Tryd.func33 (by kernel_rfl) rfl #[.agg #[.slice Ao58 t327.length co58], .agg #[.slice Ao59 t330.length co59]] (by rfl) rfl rfl (by (try simp only [mT_, mC_, mN_]); first | done | rfl) ?_
 with_reducible refine (demurrageref02_Made.calls k _ _ t327 _ _ t330 t333 t334 t335 _ ?side1 ?side2 ?side3 ?side4 A9.out).mono ?_
 (case side1 => repeat (first | exact (Kd.R_reads' HO329.out).2.2 | (with_reducible first | refine Kd.C_alloc ?_ _ | refine Kd.C_drewN ?_ _ | refine Kd.C_drew ?_)))
 (case side2 => exact (Kd.R_reads' HO329.out).2.1)
 (case side3 => repeat (first | exact (Kd.R_reads' HO332.out).2.2 | (with_reducible first | refine Kd.C_alloc ?_ _ | refine Kd.C_drewN ?_ _ | refine Kd.C_drew ?_)))
 (case side4 => exact (Kd.R_reads' HO332.out).2.1)
 rintro e w60 ⟨rfl, hb⟩
 refine ⟨_, rfl, ?_⟩
 replace HO307 := aA_ (Kd.R_below HO307.out hb)
 replace HO310 := aA_ (Kd.R_below HO310.out hb)
 replace HO315 := aA_ (Kd.R_below HO315.out hb)
 replace HO318 := aA_ (Kd.R_below HO318.out hb)
 replace HO323 := aA_ (Kd.R_below HO323.out hb)
 replace HO326 := aA_ (Kd.R_below HO326.out hb)
 replace HO329 := aA_ (Kd.R_below HO329.out hb)
 replace HO332 := aA_ (Kd.R_below HO332.out hb)
 replace BK302 := bK_ BK302 hb
 replace BK303 := bK_ BK303 hb
 replace BK304 := bK_ BK304 hb
 replace BK311 := bK_ BK311 hb
 replace BK312 := bK_ BK312 hb
 replace BK319 := bK_ BK319 hb
 replace BK320 := bK_ BK320 hb
 replace HB := bB_ (by repeat (with_reducible first | exact HB.out | apply bA_ | apply bN_ | apply bD_ | refine bS_ ?_ GE302.out | refine bS_ ?_ GE303.out | refine bS_ ?_ GE304.out | refine bS_ ?_ GE311.out | refine bS_ ?_ GE312.out | refine bS_ ?_ GE319.out | refine bS_ ?_ GE320.out)) hb
 (try clear hb)
 (try clear hb2)
 (try clear hk)
 (try clear hi)
 refine hK.out _ _ ⟨(blk_cell BK311.out 0).trans rfl, (blk_cell BK320.out 0).trans rfl, (blk_cell BK319.out 0).trans rfl, (blk_cell BK312.out 0).trans rfl⟩ (fun hHeld => ?_)
 clear hK K
 refine norm_ (by show Act.put _ (some 30) _ = _; simp only [Act.put, sT_, sZ_, sS_, i64_w, i32_w] <;> rfl) ?_
 refine pure_ (i := 11) (N := some 31) (v := ?_) (a' := ?_) (demurrageref02_Cmp.ups 15 4095) rfl rfl (any_of HT_.out (by kernel_rfl)) (fun _ _ _ h => h) (Or.inl ⟨by rfl, ?_⟩) ?_ ?_
 rotate_left
 ·intro w'
  go_simp
  with_reducible rfl
 rotate_left
 ·simp only [Act.put, sT_, sZ_, sS_, i64_w, i32_w]
  rfl
 refine pure_ (i := 12) (N := some 32) (v := ?_) (a' := ?_) (demurrageref02_Cmp.ups 15 8191) rfl rfl (any_of HT_.out (by kernel_rfl)) (fun _ _ _ h => h) (Or.inl ⟨by rfl, ?_⟩) ?_ ?_
 rotate_left
 ·intro w'
  go_simp
  with_reducible rfl
 rotate_left
 ·simp only [Act.put, sT_, sZ_, sS_, i64_w, i32_w]
  rfl
 refine one_ (i := 13) (N := none) (demurrageref02_Cmp.ups 15 16383) rfl rfl (one_of HT_.out (by kernel_rfl)) (by decide) (fun K hK => ?_)
 have hs61 : w60.cell? ⟨gb304, 0, none⟩ = some (.int .i64 0) := (blk_cell BK304.out 0).trans rfl
 have hfs61 := blk_frozen BK304.out 0
 have hns61_0 := NB302_304.out
 have hns61_1 := NB303_304.out
 have hns61_3 := NB311_304.out
 have hns61_4 := NB312_304.out
 have hns61_5 := NB319_304.out
 have hns61_6 := NB320_304.out
 have hms61_0 := NB304_302.out
 have hms61_1 := NB304_303.out
 have hms61_3 := NB304_311.out
 have hms61_4 := NB304_312.out
 have hms61_5 := NB304_319.out
 have hms61_6 := NB304_320.out
 have hs62 : w60.cell? ⟨gb304, 1, none⟩ = some (.int .i64 0) := (blk_cell BK304.out 1).trans rfl
 have hfs62 := blk_frozen BK304.out 1
 have hns62_0 := NB302_304.out
 have hns62_1 := NB303_304.out
 have hns62_3 := NB311_304.out
 have hns62_4 := NB312_304.out
 have hns62_5 := NB319_304.out
 have hns62_6 := NB320_304.out
 have hms62_0 := NB304_302.out
 have hms62_1 := NB304_303.out
 have hms62_3 := NB304_311.out
 have hms62_4 := NB304_312.out
 have hms62_5 := NB304_319.out
 have hms62_6 := NB304_320.out
 refine skip_ (w1 := ?_) (by rfl) rfl ?_ ?_
 rotate_left
 ·go_simp
  rfl
 refine hK.out _ _ ⟨((cell_far (p := ⟨gb304, _, none⟩) NB311_304.out _).trans (((cell_far (p := ⟨gb304, _, none⟩) NB311_304.out _).trans (hHeld.1)))), ((cell_far (p := ⟨gb304, _, none⟩) NB320_304.out _).trans (((cell_far (p := ⟨gb304, _, none⟩) NB320_304.out _).trans (hHeld.2.1)))), ((cell_far (p := ⟨gb304, _, none⟩) NB319_304.out _).trans (((cell_far (p := ⟨gb304, _, none⟩) NB319_304.out _).trans (hHeld.2.2.1)))), ((cell_far (p := ⟨gb304, _, none⟩) NB312_304.out _).trans (((cell_far (p := ⟨gb304, _, none⟩) NB312_304.out _).trans (hHeld.2.2.2))))⟩ (fun hHeld => ?_)
 clear hK K
 refine pure_ (i := 14) (N := some 5) (v := ?_) (a' := ?_) (demurrageref02_Cmp.ups 15 32767) rfl rfl (any_of HT_.out (by kernel_rfl)) (fun _ _ _ h => h) (Or.inl ⟨by rfl, ?_⟩) ?_ ?_
 rotate_left
 ·intro w'
  go_simp
  with_reducible rfl
 rotate_left
 ·simp only [Act.put, sT_, sZ_, sS_, i64_w, i32_w]
  rfl
 refine done_ (done_of HT_.out (by kernel_rfl)) ?_
 try go_wp2
 refine bodyPost_ret (results_ct rfl _ _ gb304 24 #[.int .i64 t333, .int .i64 t334] (0, 0) _ rfl (by refine blk_put (cs := #[.int .i64 t333, .int .i64 0]) ?_ 1 _ rfl; refine blk_put (cs := #[.int .i64 0, .int .i64 0]) ?_ 0 _ rfl; exact BK304.out) Tryd.underlying24 rfl (by kernel_rfl)) rfl ?_
 exact ⟨by rfl, by repeat (with_reducible first | exact HB.out | apply bA_ | apply bN_ | apply bD_ | refine bS_ ?_ GE302.out | refine bS_ ?_ GE303.out | refine bS_ ?_ GE304.out | refine bS_ ?_ GE311.out | refine bS_ ?_ GE312.out | refine bS_ ?_ GE319.out | refine bS_ ?_ GE320.out)⟩

end Go.Proofs.YtbapgkopilmdfaaDoor.X
