-- cut by prune.py, a program of this session
import Derived.Test.YteikafepdkijdaaPLevelTableX0
import Derived.Test.YteikafepdkijdaaPLevelTableXBig
import Derived.Test.YteikafepdkijdaaPLevelTableXQuot
namespace Go.Proofs.Yteikafepdkijdaa.X
open Go.RowKit Go.Proofs.YteikafepdkijdaaW.PrintWords Go.Proofs.YteikafepdkijdaaW.PrintLast Go.Proofs.YteikafepdkijdaaW.PrintMore
attribute [local go_sem] max2_int min2_int max_two min_two
set_option linter.unusedVariables false
set_option linter.unusedSimpArgs false

def demurrageref03_Near.upsl : Nat → Nat → List Bool
 | 0, _ => []
 | n + 1, m => (m % 2 == 1) :: demurrageref03_Near.upsl n (m / 2)
def demurrageref03_Near.ups (n m : Nat) : Array Bool := ⟨demurrageref03_Near.upsl n m⟩
def demurrageref03_told.l0 : Nat → Int → Int → List Int → Option (Int × Int)
 | 0, _, _, _ => none
 | k + 1, x4, x5, x237000 => if x5 ≥ 0 then (if 0 ≤ x5 then (if x5 < (x237000.length : Int) then (demurrageref03_told.l0 k (wrap64 ((wrap64 (10000 * x4)) + (rd x237000 x5))) (wrap64 (x5 - 1)) x237000) else (none)) else (none)) else (some (x4, 0))
def demurrageref03_told.f (k : Nat) (l0_0 : List Int) : Option (Int × Int) := (demurrageref01_FromU.f k 4611686018427387904).bind fun t237 => ((demurrageref01_Cmp.f k l0_0 t237).bind fun t240 => (if t240 > 0 then (some (0, 6)) else (demurrageref03_told.l0 k 0 (wrap64 ((l0_0.length : Int) - 1)) l0_0)))
set_option maxHeartbeats 8000000 in
set_option maxRecDepth 100000 in
theorem demurrageref03_told.calls (k : Nat) (A0_0 : Option Addr) (c0_0 : Nat) (l0_0 : List Int) (r1 : Int) (r2 : Int) (w : World) (hr0_0 : Kd.C (Kd.int .i64) w A0_0 l0_0.length l0_0) (hc0_0 : l0_0.length ≤ c0_0) (h : demurrageref03_told.f k l0_0 = some (r1, r2)) :
  Calls Try.prog 62 #[.agg #[.slice A0_0 l0_0.length c0_0]] w fun e w' => e = .returned (.tuple #[.int .i64 r1, .int .i64 r2]) ∧ Below w.heap.size w w' := by
 have hu98 := Try.underlying98
 have HR0_0 := aA_ hr0_0
 have HC0_0 := aA_ hc0_0
 clear hr0_0 hc0_0
 have HB := aA_ (Below.refl w.heap.size w)
 have H : ((demurrageref01_FromU.f k 4611686018427387904).bind fun t237 => ((demurrageref01_Cmp.f k l0_0 t237).bind fun t240 => (if t240 > 0 then (some (0, 6)) else (demurrageref03_told.l0 k 0 (wrap64 ((l0_0.length : Int) - 1)) l0_0)))) = some (r1, r2) := h
 clear h
 replace H := bI_ H
 obtain ⟨t237, A20, H⟩ := H
 (try dsimp only at H)
 have A2 := aA_ A20
 clear A20
 replace H := bI_ H
 obtain ⟨t240, A30, H⟩ := H
 (try dsimp only at H)
 have A3 := aA_ A30
 clear A30
 by_cases c4 : t240 > 0
 ·rw [if_pos c4] at H
  have c4b0 : decide (0 < t240) = true := decide_eq_true c4
  clear c4
  simp only [Option.some.injEq, Prod.mk.injEq] at H
  obtain ⟨rfl, rfl⟩ := H
  go_enter Try.func62, Try.ntmps62
  try go_wp2_with (first | (refine box_event rfl (N := 1) rfl (cs := #[.slice A0_0 l0_0.length c0_0]) (t := 98) ?hr ?_; (case hr => go_simp <;> rfl); intro gb236 hg w5 hbox hb; have BK236 := aA_ (hbox); have GW236 := gW_ hg (by repeat (with_reducible first | exact HB.out | apply bA_ | apply bN_ | apply bD_)); have GE236 := GW236; replace HB := bB_ (by repeat (with_reducible first | exact HB.out | apply bA_ | apply bN_ | apply bD_)) hb; clear hb hbox hg))
  replace BK236 := aA_ (blk_drew BK236.out)
  replace HB := aA_ (below_drew1 HB.out)
  refine start_ (n := 4) (S := fun w' => w'.cell? ⟨gb236, 0, none⟩ = some (.slice A0_0 l0_0.length c0_0)) (ds := []) #[false, false, false, false] (by kernel_rfl) rfl rfl ((blk_cell BK236.out 0).trans rfl) (fun hHeld => ?_)
  generalize w5.drew = w6 at BK236 HB hHeld ⊢
  refine take_ (i := 0) (N := some 6) (v := ?_) (a' := ?_) #[true, false, false, false] rfl rfl (by kernel_rfl) (fun _ _ _ h => h) (Or.inl ⟨by rfl, ?_⟩) hHeld ?_ ?_
  rotate_left
  ·intro w' s0
   go_simp
   with_reducible rfl
  rotate_left
  ·simp only [Act.put, sT_, sZ_, sS_, i64_w, i32_w]
   rfl
  refine one_ (i := 1) (N := some 7) #[true, true, false, false] rfl rfl (by kernel_rfl) (by decide) (fun K hK => ?_)
  refine goes_ Try.func60 (by kernel_rfl) rfl #[.int .u64 4611686018427387904] (by rfl) rfl rfl (by (try simp only [mT_, mC_, mN_]); first | done | rfl) ?_
  with_reducible refine (demurrageref01_FromU.calls k 4611686018427387904 t237 _ A2.out).mono ?_
  rintro e w7 ⟨v238, rfl, ho0, hb⟩
  refine ⟨_, rfl, ?_⟩
  have HO239 := aA_ (Kd.R_lower ho0 (below_size (by repeat (with_reducible first | exact HB.out | apply bA_ | apply bN_ | apply bD_ | refine bS_ ?_ GE236.out))))
  replace BK236 := bK_ BK236 hb
  replace HB := bB_ (by repeat (with_reducible first | exact HB.out | apply bA_ | apply bN_ | apply bD_ | refine bS_ ?_ GE236.out)) hb
  (try clear hb)
  (try clear hb2)
  (try clear hk)
  (try clear hi)
  (try clear ho0)
  obtain ⟨Ao8, co8, eo8⟩ := Kd.R_slice HO239.out
  (first | subst eo8 | (injection eo8 with f1_ f2_ f3_; have f4_ := f1_.symm; have f5_ := f3_.symm; clear f1_ f2_ f3_; subst f4_; subst f5_))
  refine hK.out _ _ ((blk_cell BK236.out 0).trans rfl) (fun hHeld => ?_)
  clear hK K
  refine norm_ (by show Act.put _ (some 7) _ = _; simp only [Act.put, sT_, sZ_, sS_, i64_w, i32_w] <;> rfl) ?_
  refine one_ (i := 2) (N := some 8) #[true, true, true, false] rfl rfl (by kernel_rfl) (by decide) (fun K hK => ?_)
  refine goes_ Try.func50 (by kernel_rfl) rfl #[.agg #[.slice A0_0 l0_0.length c0_0], .agg #[.slice Ao8 t237.length co8]] (by rfl) rfl rfl (by (try simp only [mT_, mC_, mN_]); first | done | rfl) ?_
  with_reducible refine (demurrageref01_Cmp.calls k _ _ l0_0 _ _ t237 t240 _ ?side1 ?side2 ?side3 ?side4 A3.out).mono ?_
  (case side1 => repeat (first | exact (Kd.C_below HR0_0.out HB.out) | (with_reducible first | refine Kd.C_alloc ?_ _ | refine Kd.C_drewN ?_ _ | refine Kd.C_drew ?_)))
  (case side2 => exact HC0_0.out)
  (case side3 => repeat (first | exact (Kd.R_reads' HO239.out).2.2 | (with_reducible first | refine Kd.C_alloc ?_ _ | refine Kd.C_drewN ?_ _ | refine Kd.C_drew ?_)))
  (case side4 => exact (Kd.R_reads' HO239.out).2.1)
  rintro e w9 ⟨rfl, hb⟩
  refine ⟨_, rfl, ?_⟩
  replace HO239 := aA_ (Kd.R_below HO239.out hb)
  replace BK236 := bK_ BK236 hb
  replace HB := bB_ (by repeat (with_reducible first | exact HB.out | apply bA_ | apply bN_ | apply bD_ | refine bS_ ?_ GE236.out)) hb
  (try clear hb)
  (try clear hb2)
  (try clear hk)
  (try clear hi)
  refine hK.out _ _ ((blk_cell BK236.out 0).trans rfl) (fun hHeld => ?_)
  clear hK K
  refine norm_ (by show Act.put _ (some 8) _ = _; simp only [Act.put, sT_, sZ_, sS_, i64_w, i32_w] <;> rfl) ?_
  refine pure_ (i := 3) (N := some 9) (v := ?_) (a' := ?_) #[true, true, true, true] rfl rfl (by kernel_rfl) (fun _ _ _ h => h) (Or.inl ⟨by rfl, ?_⟩) ?_ ?_
  rotate_left
  ·intro w'
   go_simp
   with_reducible rfl
  rotate_left
  ·simp only [Act.put, sT_, sZ_, sS_, i64_w, i32_w]
   rfl
  refine done_ (by kernel_rfl) ?_
  try go_wp2
  go_ret2
  exact ⟨by rfl, by repeat (with_reducible first | exact HB.out | apply bA_ | apply bN_ | apply bD_ | refine bS_ ?_ GE236.out)⟩
 ·rw [if_neg c4] at H
  have c4b0 : decide (0 < t240) = false := decide_eq_false c4
  clear c4
  have H' := aA_ H
  clear H
  go_enter Try.func62, Try.ntmps62
  try go_wp2_with (first | (refine box_event rfl (N := 1) rfl (cs := #[.slice A0_0 l0_0.length c0_0]) (t := 98) ?hr ?_; (case hr => go_simp <;> rfl); intro gb236 hg w10 hbox hb; have BK236 := aA_ (hbox); have GW236 := gW_ hg (by repeat (with_reducible first | exact HB.out | apply bA_ | apply bN_ | apply bD_)); have GE236 := GW236; replace HB := bB_ (by repeat (with_reducible first | exact HB.out | apply bA_ | apply bN_ | apply bD_)) hb; clear hb hbox hg))
  replace BK236 := aA_ (blk_drew BK236.out)
  replace HB := aA_ (below_drew1 HB.out)
  refine start_ (n := 4) (S := fun w' => w'.cell? ⟨gb236, 0, none⟩ = some (.slice A0_0 l0_0.length c0_0)) (ds := []) #[false, false, false, false] (by kernel_rfl) rfl rfl ((blk_cell BK236.out 0).trans rfl) (fun hHeld => ?_)
  generalize w10.drew = w11 at BK236 HB hHeld ⊢
  refine take_ (i := 0) (N := some 6) (v := ?_) (a' := ?_) #[true, false, false, false] rfl rfl (by kernel_rfl) (fun _ _ _ h => h) (Or.inl ⟨by rfl, ?_⟩) hHeld ?_ ?_
  rotate_left
  ·intro w' s0
   go_simp
   with_reducible rfl
  rotate_left
  ·simp only [Act.put, sT_, sZ_, sS_, i64_w, i32_w]
   rfl
  refine one_ (i := 1) (N := some 7) #[true, true, false, false] rfl rfl (by kernel_rfl) (by decide) (fun K hK => ?_)
  refine goes_ Try.func60 (by kernel_rfl) rfl #[.int .u64 4611686018427387904] (by rfl) rfl rfl (by (try simp only [mT_, mC_, mN_]); first | done | rfl) ?_
  with_reducible refine (demurrageref01_FromU.calls k 4611686018427387904 t237 _ A2.out).mono ?_
  rintro e w12 ⟨v238, rfl, ho0, hb⟩
  refine ⟨_, rfl, ?_⟩
  have HO239 := aA_ (Kd.R_lower ho0 (below_size (by repeat (with_reducible first | exact HB.out | apply bA_ | apply bN_ | apply bD_ | refine bS_ ?_ GE236.out))))
  replace BK236 := bK_ BK236 hb
  replace HB := bB_ (by repeat (with_reducible first | exact HB.out | apply bA_ | apply bN_ | apply bD_ | refine bS_ ?_ GE236.out)) hb
  (try clear hb)
  (try clear hb2)
  (try clear hk)
  (try clear hi)
  (try clear ho0)
  obtain ⟨Ao13, co13, eo13⟩ := Kd.R_slice HO239.out
  (first | subst eo13 | (injection eo13 with f1_ f2_ f3_; have f4_ := f1_.symm; have f5_ := f3_.symm; clear f1_ f2_ f3_; subst f4_; subst f5_))
  refine hK.out _ _ ((blk_cell BK236.out 0).trans rfl) (fun hHeld => ?_)
  clear hK K
  refine norm_ (by show Act.put _ (some 7) _ = _; simp only [Act.put, sT_, sZ_, sS_, i64_w, i32_w] <;> rfl) ?_
  refine one_ (i := 2) (N := some 8) #[true, true, true, false] rfl rfl (by kernel_rfl) (by decide) (fun K hK => ?_)
  refine goes_ Try.func50 (by kernel_rfl) rfl #[.agg #[.slice A0_0 l0_0.length c0_0], .agg #[.slice Ao13 t237.length co13]] (by rfl) rfl rfl (by (try simp only [mT_, mC_, mN_]); first | done | rfl) ?_
  with_reducible refine (demurrageref01_Cmp.calls k _ _ l0_0 _ _ t237 t240 _ ?side1 ?side2 ?side3 ?side4 A3.out).mono ?_
  (case side1 => repeat (first | exact (Kd.C_below HR0_0.out HB.out) | (with_reducible first | refine Kd.C_alloc ?_ _ | refine Kd.C_drewN ?_ _ | refine Kd.C_drew ?_)))
  (case side2 => exact HC0_0.out)
  (case side3 => repeat (first | exact (Kd.R_reads' HO239.out).2.2 | (with_reducible first | refine Kd.C_alloc ?_ _ | refine Kd.C_drewN ?_ _ | refine Kd.C_drew ?_)))
  (case side4 => exact (Kd.R_reads' HO239.out).2.1)
  rintro e w14 ⟨rfl, hb⟩
  refine ⟨_, rfl, ?_⟩
  replace HO239 := aA_ (Kd.R_below HO239.out hb)
  replace BK236 := bK_ BK236 hb
  replace HB := bB_ (by repeat (with_reducible first | exact HB.out | apply bA_ | apply bN_ | apply bD_ | refine bS_ ?_ GE236.out)) hb
  (try clear hb)
  (try clear hb2)
  (try clear hk)
  (try clear hi)
  refine hK.out _ _ ((blk_cell BK236.out 0).trans rfl) (fun hHeld => ?_)
  clear hK K
  refine norm_ (by show Act.put _ (some 8) _ = _; simp only [Act.put, sT_, sZ_, sS_, i64_w, i32_w] <;> rfl) ?_
  refine pure_ (i := 3) (N := some 9) (v := ?_) (a' := ?_) #[true, true, true, true] rfl rfl (by kernel_rfl) (fun _ _ _ h => h) (Or.inl ⟨by rfl, ?_⟩) ?_ ?_
  rotate_left
  ·intro w'
   go_simp
   with_reducible rfl
  rotate_left
  ·simp only [Act.put, sT_, sZ_, sS_, i64_w, i32_w]
   rfl
  refine done_ (by kernel_rfl) ?_
  have hcz15_0 : w14.cell? ⟨gb236, 0, none⟩ = some (.slice A0_0 l0_0.length c0_0) := (blk_cell BK236.out 0).trans rfl
  have hfz15_0 := blk_frozen BK236.out 0
  try go_wp2
  (try simp only [Act.put, sT_, sZ_, sS_])
  go_loopg [4, 5] k (fun kq v4 v5 w' => ∃ (x4_1 : Int) (x5_1 : Int), v4 = .int .i64 x4_1 ∧ v5 = .int .i64 x5_1 ∧ Aside0 (demurrageref03_told.l0 kq x4_1 x5_1 l0_0 = some (r1, r2)) ∧ Aside0 (kq ≤ k) ∧ Aside0 (w'.heap[gb236]? = some (.cells #[(.slice A0_0 l0_0.length c0_0)] 98 (0, 0))) ∧ Aside0 (Below w.heap.size w w'))
  case atStart => exact ⟨(0), (wrap64 ((l0_0.length : Int) - 1)), (by first | rfl | simp | simp [*]), (by first | rfl | simp | simp [*]), H', ⟨Nat.le_refl _⟩, ⟨by exact BK236.out⟩, ⟨by repeat (with_reducible first | exact HB.out | apply bA_ | apply bN_ | apply bD_ | refine bS_ ?_ GE236.out)⟩⟩
  case round =>
   clear H'
   try clear p2
   try clear c4
   try clear c4b0
   try clear c5
   try clear c6
   try clear p6
   try clear hcz15_0
   try clear hfz15_0
   obtain ⟨x4_1, x5_1, rfl, rfl, HA, HK1, BK236, HB⟩ := hrel
   cases gk with
   | zero => exact absurd HA.out (by simp [demurrageref03_told.l0])
   | succ k1 =>
    have H := HA.out
    clear HA
    simp only [demurrageref03_told.l0] at H
    by_cases c16 : x5_1 ≥ 0
    ·rw [if_pos c16] at H
     have c16b0 : decide (0 ≤ x5_1) = true := decide_eq_true c16
     clear c16
     by_cases c17 : 0 ≤ x5_1
     ·rw [if_pos c17] at H
      have c17b0 : decide (0 ≤ x5_1) = true := decide_eq_true c17
      clear c17
      by_cases c18 : x5_1 < (l0_0.length : Int)
      ·rw [if_pos c18] at H
       have c18b0 : decide (x5_1 < (l0_0.length : Int)) = true := decide_eq_true c18
       clear c18
       have H' := aA_ H
       clear H
       have hcz19_0 : wr.cell? ⟨gb236, 0, none⟩ = some (.slice A0_0 l0_0.length c0_0) := (blk_cell BK236.out 0).trans rfl
       have hfz19_0 := blk_frozen BK236.out 0
       have p241 : 0 ≤ (x5_1 : Int) := of_decide_eq_true (by first | (with_reducible assumption) | assumption)
       have q241 : x5_1 < (l0_0.length : Int) := of_decide_eq_true (by first | (with_reducible assumption) | assumption)
       obtain ⟨ad241, e241, hx241_0⟩ := Kd.at_int HR0_0.out x5_1 p241 q241
       cases e241
       replace hx241_0 := cC_ HB hx241_0
       replace p241 := eq_true p241
       replace q241 := eq_true q241
       go_wp2
       go_roundg k1
       case measure => have := HK1.out; omega
       case rel => exact ⟨(wrap64 ((wrap64 (10000 * x4_1)) + (rd l0_0 x5_1))), (wrap64 (x5_1 - 1)), (by first | rfl | simp | simp [*]), (by first | rfl | simp | simp [*]), H', ⟨by have := HK1.out; omega⟩, ⟨by exact BK236.out⟩, ⟨by repeat (with_reducible first | exact HB.out | apply bA_ | apply bN_ | apply bD_ | refine bS_ ?_ GE236.out)⟩⟩
      ·rw [if_neg c18] at H
       exact absurd H (by simp)
     ·rw [if_neg c17] at H
      exact absurd H (by simp)
    ·rw [if_neg c16] at H
     have c16b0 : decide (0 ≤ x5_1) = false := decide_eq_false c16
     clear c16
     simp only [Option.some.injEq, Prod.mk.injEq] at H
     obtain ⟨rfl, rfl⟩ := H
     go_wp2
     go_ret2
     exact ⟨by rfl, by repeat (with_reducible first | exact HB.out | apply bA_ | apply bN_ | apply bD_ | refine bS_ ?_ GE236.out)⟩

mutual
def demurrageref03_Near.j0 : Nat → Int → Bool → List Int → Option (List Int)
 | 0, _, _, _ => none
 | k + 1, x7, x8, x312000 => if x7 > 0 then (demurrageref03_Near.j1 k true x312000) else (if x7 = 0 then (demurrageref03_Near.j1 k x8 x312000) else (demurrageref03_Near.j1 k false x312000))
def demurrageref03_Near.j1 : Nat → Bool → List Int → Option (List Int)
 | 0, _, _ => none
 | k + 1, x40, x312000 => if x40 = true then ((demurrageref01_From.f k 1).bind fun t318 => ((demurrageref01_Plus.f k x312000 t318).bind fun t321 => (some t321))) else (some x312000)
end
def demurrageref03_Near.f (k : Nat) (l0_0 : List Int) (l1_0 : List Int) : Option (List Int) := (demurrageref01_Quot.f k l0_0 l1_0).bind fun bt305 => ((demurrageref01_Plus.f k bt305.2 bt305.2).bind fun t313 => ((demurrageref01_Cmp.f k t313 l1_0).bind fun t316 => (if (bt305.1.length : Int) > 0 then (if 0 < (bt305.1.length : Int) then (demurrageref03_Near.j0 k t316 ((Int.tmod (rd bt305.1 0) 2) == 1) bt305.1) else (none)) else (demurrageref03_Near.j0 k t316 false bt305.1))))
set_option maxHeartbeats 8000000 in
set_option maxRecDepth 100000 in
theorem demurrageref03_Near.calls (k : Nat) (A0_0 : Option Addr) (c0_0 : Nat) (l0_0 : List Int) (A1_0 : Option Addr) (c1_0 : Nat) (l1_0 : List Int) (r : List Int) (w : World) (hr0_0 : Kd.C (Kd.int .i64) w A0_0 l0_0.length l0_0) (hc0_0 : l0_0.length ≤ c0_0) (hr1_0 : Kd.C (Kd.int .i64) w A1_0 l1_0.length l1_0) (hc1_0 : l1_0.length ≤ c1_0) (h : demurrageref03_Near.f k l0_0 l1_0 = some r) :
  Calls Try.prog 63 #[.agg #[.slice A0_0 l0_0.length c0_0], .agg #[.slice A1_0 l1_0.length c1_0]] w fun e w' => ∃ v0_ : Value, e = .returned (.agg #[v0_]) ∧ Kd.R (Kd.int .i64) 3 w' w.heap.size (fun _ => True) v0_ r ∧ Below w.heap.size w w' := by
 have hu98 := Try.underlying98
 have HR0_0 := aA_ hr0_0
 have HC0_0 := aA_ hc0_0
 clear hr0_0 hc0_0
 have HR1_0 := aA_ hr1_0
 have HC1_0 := aA_ hc1_0
 clear hr1_0 hc1_0
 have HB := aA_ (Below.refl w.heap.size w)
 have H : ((demurrageref01_Quot.f k l0_0 l1_0).bind fun bt305 => ((demurrageref01_Plus.f k bt305.2 bt305.2).bind fun t313 => ((demurrageref01_Cmp.f k t313 l1_0).bind fun t316 => (if (bt305.1.length : Int) > 0 then (if 0 < (bt305.1.length : Int) then (demurrageref03_Near.j0 k t316 ((Int.tmod (rd bt305.1 0) 2) == 1) bt305.1) else (none)) else (demurrageref03_Near.j0 k t316 false bt305.1))))) = some r := h
 clear h
 replace H := bI_ H
 obtain ⟨⟨t305, t308⟩, A30, H⟩ := H
 (try dsimp only at H)
 have A3 := aA_ A30
 clear A30
 replace H := bI_ H
 obtain ⟨t313, A40, H⟩ := H
 (try dsimp only at H)
 have A4 := aA_ A40
 clear A40
 replace H := bI_ H
 obtain ⟨t316, A50, H⟩ := H
 (try dsimp only at H)
 have A5 := aA_ A50
 clear A50
 have HC6 := aA_ H
 clear H
 go_enter Try.func63, Try.ntmps63
 try go_wp2_with (first | (refine box_event rfl (N := 2) rfl (cs := #[.slice A0_0 l0_0.length c0_0]) (t := 98) ?hr ?_; (case hr => go_simp <;> rfl); intro gb302 hg w7 hbox hb; have BK302 := aA_ (hbox); have GW302 := gW_ hg (by repeat (with_reducible first | exact HB.out | apply bA_ | apply bN_ | apply bD_)); have GE302 := GW302; replace HB := bB_ (by repeat (with_reducible first | exact HB.out | apply bA_ | apply bN_ | apply bD_)) hb; clear hb hbox hg) | (refine box_event rfl (N := 3) rfl (cs := #[.slice A1_0 l1_0.length c1_0]) (t := 98) ?hr ?_; (case hr => go_simp <;> rfl); intro gb303 hg w8 hbox hb; have BK303 := aA_ (hbox); have GW303 := gW_ hg (by repeat (with_reducible first | exact HB.out | apply bA_ | apply bN_ | apply bD_ | refine bS_ ?_ GE302.out)); have GE303 := GW303; replace HB := bB_ (by repeat (with_reducible first | exact HB.out | apply bA_ | apply bN_ | apply bD_ | refine bS_ ?_ GE302.out)) hb; have NB302_303 := nE_ hg BK302; have NB303_302 := aA_ NB302_303.out.symm; replace BK302 := bK_ BK302 hb; clear hb hbox hg) | (refine box_event rfl (N := 4) rfl (cs := #[.slice none 0 0]) (t := 98) ?hr ?_; (case hr => go_simp <;> rfl); intro gb304 hg w9 hbox hb; have BK304 := aA_ (hbox); have GW304 := gW_ hg (by repeat (with_reducible first | exact HB.out | apply bA_ | apply bN_ | apply bD_ | refine bS_ ?_ GE302.out | refine bS_ ?_ GE303.out)); have GE304 := GW304; replace HB := bB_ (by repeat (with_reducible first | exact HB.out | apply bA_ | apply bN_ | apply bD_ | refine bS_ ?_ GE302.out | refine bS_ ?_ GE303.out)) hb; have NB302_304 := nE_ hg BK302; have NB304_302 := aA_ NB302_304.out.symm; replace BK302 := bK_ BK302 hb; have NB303_304 := nE_ hg BK303; have NB304_303 := aA_ NB303_304.out.symm; replace BK303 := bK_ BK303 hb; clear hb hbox hg; have hnb10 := NB302_303.out; have hnc10 := NB303_302.out; have hnb11 := NB302_304.out; have hnc11 := NB304_302.out; have hcz12_0 : w9.cell? ⟨gb302, 0, none⟩ = some (.slice A0_0 l0_0.length c0_0) := (blk_cell BK302.out 0).trans rfl; have hfz12_0 := blk_frozen BK302.out 0; have hnb13 := NB303_304.out; have hnc13 := NB304_303.out; have hcz14_0 : w9.cell? ⟨gb303, 0, none⟩ = some (.slice A1_0 l1_0.length c1_0) := (blk_cell BK303.out 0).trans rfl; have hfz14_0 := blk_frozen BK303.out 0) | (refine goesL_ (some 12) rfl rfl Try.func74 (by kernel_rfl) rfl #[.agg #[.slice A0_0 l0_0.length c0_0], .agg #[.slice A1_0 l1_0.length c1_0]] rfl (by (try simp only [mT_, mC_, mN_]); first | done | rfl) ?_; (with_reducible refine (demurrageref01_Quot.calls k _ _ l0_0 _ _ l1_0 t305 t308 _ ?side1 ?side2 ?side3 ?side4 A3.out).mono ?_); (case side1 => repeat (first | exact (Kd.C_below HR0_0.out HB.out) | (with_reducible first | refine Kd.C_alloc ?_ _ | refine Kd.C_drewN ?_ _ | refine Kd.C_drew ?_))); (case side2 => exact HC0_0.out); (case side3 => repeat (first | exact (Kd.C_below HR1_0.out HB.out) | (with_reducible first | refine Kd.C_alloc ?_ _ | refine Kd.C_drewN ?_ _ | refine Kd.C_drew ?_))); (case side4 => exact HC1_0.out); rintro e w15 ⟨v306, v309, rfl, ho0, ho1, hb⟩; refine ⟨_, rfl, ?_⟩; have HO307 := aA_ (Kd.R_lower ho0 (below_size (by repeat (with_reducible first | exact HB.out | apply bA_ | apply bN_ | apply bD_ | refine bS_ ?_ GE302.out | refine bS_ ?_ GE303.out | refine bS_ ?_ GE304.out)))); have HO310 := aA_ (Kd.R_lower ho1 (below_size (by repeat (with_reducible first | exact HB.out | apply bA_ | apply bN_ | apply bD_ | refine bS_ ?_ GE302.out | refine bS_ ?_ GE303.out | refine bS_ ?_ GE304.out)))); replace BK302 := bK_ BK302 hb; replace BK303 := bK_ BK303 hb; replace BK304 := bK_ BK304 hb; replace HB := bB_ (by repeat (with_reducible first | exact HB.out | apply bA_ | apply bN_ | apply bD_ | refine bS_ ?_ GE302.out | refine bS_ ?_ GE303.out | refine bS_ ?_ GE304.out)) hb; (try clear hb); (try clear ho0); (try clear ho1)) | (refine box_event rfl (N := 5) rfl (cs := #[.slice none 0 0]) (t := 98) ?hr ?_; (case hr => go_simp <;> rfl); intro gb311 hg w16 hbox hb; replace HO307 := aA_ (Kd.R_below HO307.out hb); replace HO310 := aA_ (Kd.R_below HO310.out hb); have BK311 := aA_ (hbox); have GW311 := gW_ hg (by repeat (with_reducible first | exact HB.out | apply bA_ | apply bN_ | apply bD_ | refine bS_ ?_ GE302.out | refine bS_ ?_ GE303.out | refine bS_ ?_ GE304.out)); have GE311 := GW311; replace HB := bB_ (by repeat (with_reducible first | exact HB.out | apply bA_ | apply bN_ | apply bD_ | refine bS_ ?_ GE302.out | refine bS_ ?_ GE303.out | refine bS_ ?_ GE304.out)) hb; have NB302_311 := nE_ hg BK302; have NB311_302 := aA_ NB302_311.out.symm; replace BK302 := bK_ BK302 hb; have NB303_311 := nE_ hg BK303; have NB311_303 := aA_ NB303_311.out.symm; replace BK303 := bK_ BK303 hb; have NB304_311 := nE_ hg BK304; have NB311_304 := aA_ NB304_311.out.symm; replace BK304 := bK_ BK304 hb; clear hb hbox hg) | (refine box_event rfl (N := 6) rfl (cs := #[.slice none 0 0]) (t := 98) ?hr ?_; (case hr => go_simp <;> rfl); intro gb312 hg w17 hbox hb; replace HO307 := aA_ (Kd.R_below HO307.out hb); replace HO310 := aA_ (Kd.R_below HO310.out hb); have BK312 := aA_ (hbox); have GW312 := gW_ hg (by repeat (with_reducible first | exact HB.out | apply bA_ | apply bN_ | apply bD_ | refine bS_ ?_ GE302.out | refine bS_ ?_ GE303.out | refine bS_ ?_ GE304.out | refine bS_ ?_ GE311.out)); have GE312 := GW312; replace HB := bB_ (by repeat (with_reducible first | exact HB.out | apply bA_ | apply bN_ | apply bD_ | refine bS_ ?_ GE302.out | refine bS_ ?_ GE303.out | refine bS_ ?_ GE304.out | refine bS_ ?_ GE311.out)) hb; have NB302_312 := nE_ hg BK302; have NB312_302 := aA_ NB302_312.out.symm; replace BK302 := bK_ BK302 hb; have NB303_312 := nE_ hg BK303; have NB312_303 := aA_ NB303_312.out.symm; replace BK303 := bK_ BK303 hb; have NB304_312 := nE_ hg BK304; have NB312_304 := aA_ NB304_312.out.symm; replace BK304 := bK_ BK304 hb; have NB311_312 := nE_ hg BK311; have NB312_311 := aA_ NB311_312.out.symm; replace BK311 := bK_ BK311 hb; clear hb hbox hg; obtain ⟨Ao18, co18, eo18⟩ := Kd.R_slice HO307.out; subst eo18; have hnb19 := NB311_302.out; have hnc19 := NB302_311.out; have hnb20 := NB311_303.out; have hnc20 := NB303_311.out; have hnb21 := NB311_304.out; have hnc21 := NB304_311.out; have hnb22 := NB311_312.out; have hnc22 := NB312_311.out; have hcz23_0 : w17.cell? ⟨gb311, 0, none⟩ = some (.slice none 0 0) := (blk_cell BK311.out 0).trans rfl; have hfz23_0 := blk_frozen BK311.out 0; obtain ⟨Ao24, co24, eo24⟩ := Kd.R_slice HO310.out; subst eo24; have hnb25 := NB312_302.out; have hnc25 := NB302_312.out; have hnb26 := NB312_303.out; have hnc26 := NB303_312.out; have hnb27 := NB312_304.out; have hnc27 := NB304_312.out; have hcz28_0 : w17.cell? ⟨gb312, 0, none⟩ = some (.slice none 0 0) := (blk_cell BK312.out 0).trans rfl; have hfz28_0 := blk_frozen BK312.out 0))
 have n0_ : Aside0 (Kd.R (Kd.int .i64) 3 ((w17.setCell ⟨gb311, 0, none⟩ (.slice Ao18 t305.length co18)).setCell ⟨gb312, 0, none⟩ (.slice Ao24 t308.length co24)) w.heap.size (fun k_ => some k_ ≠ (.slice Ao24 t308.length co24 : Value).ownBlock) (.slice Ao18 t305.length co18) t305) := ⟨by (with_reducible repeat (first | apply Kd.R_alloc | apply Kd.R_drewN | apply Kd.R_drew)); exact Kd.R_mono (Kd.R_far (p := ⟨gb312, 0, none⟩) (Kd.R_far (p := ⟨gb311, 0, none⟩) (Kd.R_types (Kd.R_types HO307.out BK311.out (by decide)) BK312.out (by decide)) (fun _ hk => hk.1.2) (.slice Ao18 t305.length co18)) (fun _ hk => hk.2) (.slice Ao24 t308.length co24)) (fun _ hk => hk.1.1)⟩
 have n1_ : Aside0 (Kd.R (Kd.int .i64) 3 ((w17.setCell ⟨gb311, 0, none⟩ (.slice Ao18 t305.length co18)).setCell ⟨gb312, 0, none⟩ (.slice Ao24 t308.length co24)) w.heap.size (fun k_ => some k_ ≠ (.slice Ao18 t305.length co18 : Value).ownBlock) (.slice Ao24 t308.length co24) t308) := ⟨by (with_reducible repeat (first | apply Kd.R_alloc | apply Kd.R_drewN | apply Kd.R_drew)); exact Kd.R_mono (Kd.R_far (p := ⟨gb312, 0, none⟩) (Kd.R_far (p := ⟨gb311, 0, none⟩) (Kd.R_types (Kd.R_types HO310.out BK311.out (by decide)) BK312.out (by decide)) (fun _ hk => hk.1.2) (.slice Ao18 t305.length co18)) (fun _ hk => hk.2) (.slice Ao24 t308.length co24)) (fun _ hk => hk.1.1)⟩
 have n2_ : Aside0 (((w17.setCell ⟨gb311, 0, none⟩ (.slice Ao18 t305.length co18)).setCell ⟨gb312, 0, none⟩ (.slice Ao24 t308.length co24)).heap[gb302]? = some (.cells #[.slice A0_0 l0_0.length c0_0] 98 (0, 0))) := ⟨by refine blk_far ?_ NB302_312.out _; refine blk_far ?_ NB302_311.out _; exact BK302.out⟩
 have n3_ : Aside0 (((w17.setCell ⟨gb311, 0, none⟩ (.slice Ao18 t305.length co18)).setCell ⟨gb312, 0, none⟩ (.slice Ao24 t308.length co24)).heap[gb303]? = some (.cells #[.slice A1_0 l1_0.length c1_0] 98 (0, 0))) := ⟨by refine blk_far ?_ NB303_312.out _; refine blk_far ?_ NB303_311.out _; exact BK303.out⟩
 have n4_ : Aside0 (((w17.setCell ⟨gb311, 0, none⟩ (.slice Ao18 t305.length co18)).setCell ⟨gb312, 0, none⟩ (.slice Ao24 t308.length co24)).heap[gb304]? = some (.cells #[.slice none 0 0] 98 (0, 0))) := ⟨by refine blk_far ?_ NB304_312.out _; refine blk_far ?_ NB304_311.out _; exact BK304.out⟩
 have n5_ : Aside0 (((w17.setCell ⟨gb311, 0, none⟩ (.slice Ao18 t305.length co18)).setCell ⟨gb312, 0, none⟩ (.slice Ao24 t308.length co24)).heap[gb311]? = some (.cells #[.slice Ao18 t305.length co18] 98 (0, 0))) := ⟨by refine blk_far ?_ NB311_312.out _; refine blk_put (cs := #[.slice none 0 0]) ?_ 0 _ rfl; exact BK311.out⟩
 have n6_ : Aside0 (((w17.setCell ⟨gb311, 0, none⟩ (.slice Ao18 t305.length co18)).setCell ⟨gb312, 0, none⟩ (.slice Ao24 t308.length co24)).heap[gb312]? = some (.cells #[.slice Ao24 t308.length co24] 98 (0, 0))) := ⟨by refine blk_put (cs := #[.slice none 0 0]) ?_ 0 _ rfl; refine blk_far ?_ NB312_311.out _; exact BK312.out⟩
 have n7_ : Aside0 (Below w.heap.size w ((w17.setCell ⟨gb311, 0, none⟩ (.slice Ao18 t305.length co18)).setCell ⟨gb312, 0, none⟩ (.slice Ao24 t308.length co24))) := ⟨by repeat (with_reducible first | exact HB.out | apply bA_ | apply bN_ | apply bD_ | refine bS_ ?_ GE302.out | refine bS_ ?_ GE303.out | refine bS_ ?_ GE304.out | refine bS_ ?_ GE311.out | refine bS_ ?_ GE312.out)⟩
 (try clear HO307)
 (try clear HO310)
 (try clear BK302)
 (try clear BK303)
 (try clear BK304)
 (try clear BK311)
 (try clear BK312)
 (try clear HB)
 generalize ((w17.setCell ⟨gb311, 0, none⟩ (.slice Ao18 t305.length co18)).setCell ⟨gb312, 0, none⟩ (.slice Ao24 t308.length co24)) = w29 at n0_ n1_ n2_ n3_ n4_ n5_ n6_ n7_ ⊢
 have HO307 := n0_
 have HO310 := n1_
 have BK302 := n2_
 have BK303 := n3_
 have BK304 := n4_
 have BK311 := n5_
 have BK312 := n6_
 have HB := n7_
 clear n0_ n1_ n2_ n3_ n4_ n5_ n6_ n7_
 replace HO307 := aA_ (Kd.R_drew HO307.out)
 replace HO310 := aA_ (Kd.R_drew HO310.out)
 replace BK302 := aA_ (blk_drew BK302.out)
 replace BK303 := aA_ (blk_drew BK303.out)
 replace BK304 := aA_ (blk_drew BK304.out)
 replace BK311 := aA_ (blk_drew BK311.out)
 replace BK312 := aA_ (blk_drew BK312.out)
 replace HB := aA_ (below_drew1 HB.out)
 refine start_ (n := 6) (S := fun w' => w'.cell? ⟨gb312, 0, none⟩ = some (.slice Ao24 t308.length co24) ∧ w'.cell? ⟨gb303, 0, none⟩ = some (.slice A1_0 l1_0.length c1_0)) (ds := []) (demurrageref03_Near.ups 6 0) (by kernel_rfl) rfl rfl ⟨(blk_cell BK312.out 0).trans rfl, (blk_cell BK303.out 0).trans rfl⟩ (fun hHeld => ?_)
 generalize w29.drew = w30 at HO307 HO310 BK302 BK303 BK304 BK311 BK312 HB hHeld ⊢
 refine take_ (i := 0) (N := some 15) (v := ?_) (a' := ?_) (demurrageref03_Near.ups 6 1) rfl rfl (by kernel_rfl) (fun _ _ _ h => h) (Or.inl ⟨by rfl, ?_⟩) hHeld ?_ ?_
 rotate_left
 ·rintro w' ⟨s0, s1⟩
  go_simp
  with_reducible rfl
 rotate_left
 ·simp only [Act.put, sT_, sZ_, sS_, i64_w, i32_w]
  rfl
 refine take_ (i := 1) (N := some 16) (v := ?_) (a' := ?_) (demurrageref03_Near.ups 6 3) rfl rfl (by kernel_rfl) (fun _ _ _ h => h) (Or.inl ⟨by rfl, ?_⟩) hHeld ?_ ?_
 rotate_left
 ·rintro w' ⟨s0, s1⟩
  go_simp
  with_reducible rfl
 rotate_left
 ·simp only [Act.put, sT_, sZ_, sS_, i64_w, i32_w]
  rfl
 refine take_ (i := 3) (N := some 18) (v := ?_) (a' := ?_) (demurrageref03_Near.ups 6 11) rfl rfl (by kernel_rfl) (fun _ _ _ h => h) (Or.inl ⟨by rfl, ?_⟩) hHeld ?_ ?_
 rotate_left
 ·rintro w' ⟨s0, s1⟩
  go_simp
  with_reducible rfl
 rotate_left
 ·simp only [Act.put, sT_, sZ_, sS_, i64_w, i32_w]
  rfl
 refine one_ (i := 2) (N := some 17) (demurrageref03_Near.ups 6 15) rfl rfl (by kernel_rfl) (by decide) (fun K hK => ?_)
 refine goes_ Try.func48 (by kernel_rfl) rfl #[.agg #[.slice Ao24 t308.length co24], .agg #[.slice Ao24 t308.length co24]] (by rfl) rfl rfl (by (try simp only [mT_, mC_, mN_]); first | done | rfl) ?_
 with_reducible refine (demurrageref01_Plus.calls k _ _ t308 _ _ t308 t313 _ ?side1 ?side2 ?side3 ?side4 A4.out).mono ?_
 (case side1 => repeat (first | exact (Kd.R_reads' HO310.out).2.2 | (with_reducible first | refine Kd.C_alloc ?_ _ | refine Kd.C_drewN ?_ _ | refine Kd.C_drew ?_)))
 (case side2 => exact (Kd.R_reads' HO310.out).2.1)
 (case side3 => repeat (first | exact (Kd.R_reads' HO310.out).2.2 | (with_reducible first | refine Kd.C_alloc ?_ _ | refine Kd.C_drewN ?_ _ | refine Kd.C_drew ?_)))
 (case side4 => exact (Kd.R_reads' HO310.out).2.1)
 rintro e w31 ⟨v314, rfl, ho0, hb⟩
 refine ⟨_, rfl, ?_⟩
 have HO315 := aA_ (Kd.R_lower (Kd.R_new' (Kd.R_new' ho0 (Kd.R_lt HO307.out)) (Kd.R_lt HO310.out)) (below_size (by repeat (with_reducible first | exact HB.out | apply bA_ | apply bN_ | apply bD_ | refine bS_ ?_ GE302.out | refine bS_ ?_ GE303.out | refine bS_ ?_ GE304.out | refine bS_ ?_ GE311.out | refine bS_ ?_ GE312.out))))
 replace HO307 := aA_ (Kd.R_elder' HO307.out (Kd.R_base ho0) hb)
 replace HO310 := aA_ (Kd.R_elder' HO310.out (Kd.R_base ho0) hb)
 replace BK302 := bK_ BK302 hb
 replace BK303 := bK_ BK303 hb
 replace BK304 := bK_ BK304 hb
 replace BK311 := bK_ BK311 hb
 replace BK312 := bK_ BK312 hb
 replace HB := bB_ (by repeat (with_reducible first | exact HB.out | apply bA_ | apply bN_ | apply bD_ | refine bS_ ?_ GE302.out | refine bS_ ?_ GE303.out | refine bS_ ?_ GE304.out | refine bS_ ?_ GE311.out | refine bS_ ?_ GE312.out)) hb
 (try clear hb)
 (try clear hb2)
 (try clear hk)
 (try clear hi)
 (try clear ho0)
 obtain ⟨Ao32, co32, eo32⟩ := Kd.R_slice HO315.out
 (first | subst eo32 | (injection eo32 with f1_ f2_ f3_; have f4_ := f1_.symm; have f5_ := f3_.symm; clear f1_ f2_ f3_; subst f4_; subst f5_))
 refine hK.out _ _ ⟨(blk_cell BK312.out 0).trans rfl, (blk_cell BK303.out 0).trans rfl⟩ (fun hHeld => ?_)
 clear hK K
 refine norm_ (by show Act.put _ (some 17) _ = _; simp only [Act.put, sT_, sZ_, sS_, i64_w, i32_w] <;> rfl) ?_
 refine one_ (i := 4) (N := some 19) (demurrageref03_Near.ups 6 31) rfl rfl (by kernel_rfl) (by decide) (fun K hK => ?_)
 refine goes_ Try.func50 (by kernel_rfl) rfl #[.agg #[.slice Ao32 t313.length co32], .agg #[.slice A1_0 l1_0.length c1_0]] (by rfl) rfl rfl (by (try simp only [mT_, mC_, mN_]); first | done | rfl) ?_
 with_reducible refine (demurrageref01_Cmp.calls k _ _ t313 _ _ l1_0 t316 _ ?side1 ?side2 ?side3 ?side4 A5.out).mono ?_
 (case side1 => repeat (first | exact (Kd.R_reads' HO315.out).2.2 | (with_reducible first | refine Kd.C_alloc ?_ _ | refine Kd.C_drewN ?_ _ | refine Kd.C_drew ?_)))
 (case side2 => exact (Kd.R_reads' HO315.out).2.1)
 (case side3 => repeat (first | exact (Kd.C_below HR1_0.out HB.out) | (with_reducible first | refine Kd.C_alloc ?_ _ | refine Kd.C_drewN ?_ _ | refine Kd.C_drew ?_)))
 (case side4 => exact HC1_0.out)
 rintro e w33 ⟨rfl, hb⟩
 refine ⟨_, rfl, ?_⟩
 replace HO307 := aA_ (Kd.R_below HO307.out hb)
 replace HO310 := aA_ (Kd.R_below HO310.out hb)
 replace HO315 := aA_ (Kd.R_below HO315.out hb)
 replace BK302 := bK_ BK302 hb
 replace BK303 := bK_ BK303 hb
 replace BK304 := bK_ BK304 hb
 replace BK311 := bK_ BK311 hb
 replace BK312 := bK_ BK312 hb
 replace HB := bB_ (by repeat (with_reducible first | exact HB.out | apply bA_ | apply bN_ | apply bD_ | refine bS_ ?_ GE302.out | refine bS_ ?_ GE303.out | refine bS_ ?_ GE304.out | refine bS_ ?_ GE311.out | refine bS_ ?_ GE312.out)) hb
 (try clear hb)
 (try clear hb2)
 (try clear hk)
 (try clear hi)
 refine hK.out _ _ ⟨(blk_cell BK312.out 0).trans rfl, (blk_cell BK303.out 0).trans rfl⟩ (fun hHeld => ?_)
 clear hK K
 refine norm_ (by show Act.put _ (some 19) _ = _; simp only [Act.put, sT_, sZ_, sS_, i64_w, i32_w] <;> rfl) ?_
 refine pure_ (i := 5) (N := some 7) (v := ?_) (a' := ?_) (demurrageref03_Near.ups 6 63) rfl rfl (by kernel_rfl) (fun _ _ _ h => h) (Or.inl ⟨by rfl, ?_⟩) ?_ ?_
 rotate_left
 ·intro w'
  go_simp
  with_reducible rfl
 rotate_left
 ·simp only [Act.put, sT_, sZ_, sS_, i64_w, i32_w]
  rfl
 refine done_ (by kernel_rfl) ?_
 go_upto_region 3 with (fail)
 go_cut [8] (fun v8 wc => ∃ (kq : Nat) (x8_5 : Bool), v8 = .bool x8_5 ∧ Aside0 (demurrageref03_Near.j0 kq t316 x8_5 t305 = some r) ∧ Aside0 (kq ≤ k) ∧ Aside0 (Kd.R (Kd.int .i64) 3 wc w.heap.size (fun k_ => some k_ ≠ ((.slice Ao24 t308.length co24) : Value).ownBlock) (.slice Ao18 t305.length co18) t305) ∧ Aside0 (Kd.R (Kd.int .i64) 3 wc w.heap.size (fun k_ => some k_ ≠ ((.slice Ao18 t305.length co18) : Value).ownBlock) (.slice Ao24 t308.length co24) t308) ∧ Aside0 (wc.heap[gb302]? = some (.cells #[(.slice A0_0 l0_0.length c0_0)] 98 (0, 0))) ∧ Aside0 (wc.heap[gb303]? = some (.cells #[(.slice A1_0 l1_0.length c1_0)] 98 (0, 0))) ∧ Aside0 (wc.heap[gb304]? = some (.cells #[(.slice none 0 0)] 98 (0, 0))) ∧ Aside0 (wc.heap[gb311]? = some (.cells #[(.slice Ao18 t305.length co18)] 98 (0, 0))) ∧ Aside0 (wc.heap[gb312]? = some (.cells #[(.slice Ao24 t308.length co24)] 98 (0, 0))) ∧ Aside0 (Below w.heap.size w wc))
 case first =>
  have H := HC6.out
  clear HC6
  by_cases c34 : (t305.length : Int) > 0
  ·rw [if_pos c34] at H
   have c34b0 : decide (0 < (t305.length : Int)) = true := decide_eq_true c34
   have c34b1 : decide (0 < t305.length) = true := decide_eq_true (by omega)
   clear c34
   (first | rw [c34b0] | (simp only [i64_w, i32_w]; rw [c34b0]) | rw [c34b1] | skip)
   by_cases c35 : 0 < (t305.length : Int)
   ·rw [if_pos c35] at H
    have c35b0 : decide (0 < (t305.length : Int)) = true := decide_eq_true c35
    have c35b1 : decide (0 < t305.length) = true := decide_eq_true (by omega)
    clear c35
    have H' := aA_ H
    clear H
    have hnb36 := NB311_302.out
    have hnc36 := NB302_311.out
    have hnb37 := NB311_303.out
    have hnc37 := NB303_311.out
    have hnb38 := NB311_304.out
    have hnc38 := NB304_311.out
    have hnb39 := NB311_312.out
    have hnc39 := NB312_311.out
    have hcz40_0 : w33.cell? ⟨gb311, 0, none⟩ = some (.slice Ao18 t305.length co18) := (blk_cell BK311.out 0).trans rfl
    have hfz40_0 := blk_frozen BK311.out 0
    have p317 : 0 ≤ (0 : Int) := (by omega)
    have q317 : 0 < (t305.length : Int) := of_decide_eq_true (by first | (with_reducible assumption) | assumption)
    obtain ⟨ad317, e317, hx317_0⟩ := Kd.at_int (Kd.R_reads' HO307.out).2.2 0 p317 q317
    cases e317
    have qi317 : (0 < t305.length) = True := eq_true (by omega)
    (try rw [show ((0 : Int)).toNat = 0 from rfl] at hx317_0)
    (try rw [Addr.add_zero'] at hx317_0)
    replace p317 := eq_true p317
    replace q317 := eq_true q317
    go_wp2
    go_meet
    case rel => exact ⟨_, (((Int.tmod (rd t305 0) 2) == 1)), (by first | rfl | simp | simp [*]), H', ⟨by first | omega | exact Nat.le_refl _⟩, ⟨by (with_reducible repeat (first | apply Kd.R_alloc | apply Kd.R_drewN | apply Kd.R_drew)); exact Kd.R_mono HO307.out (fun _ hk => hk.1)⟩, ⟨by (with_reducible repeat (first | apply Kd.R_alloc | apply Kd.R_drewN | apply Kd.R_drew)); exact Kd.R_mono HO310.out (fun _ hk => hk.1)⟩, ⟨by exact BK302.out⟩, ⟨by exact BK303.out⟩, ⟨by exact BK304.out⟩, ⟨by exact BK311.out⟩, ⟨by exact BK312.out⟩, ⟨by repeat (with_reducible first | exact HB.out | apply bA_ | apply bN_ | apply bD_ | refine bS_ ?_ GE302.out | refine bS_ ?_ GE303.out | refine bS_ ?_ GE304.out | refine bS_ ?_ GE311.out | refine bS_ ?_ GE312.out)⟩⟩
   ·rw [if_neg c35] at H
    exact absurd H (by simp)
  ·rw [if_neg c34] at H
   have c34b0 : decide (0 < (t305.length : Int)) = false := decide_eq_false c34
   have c34b1 : decide (0 < t305.length) = false := decide_eq_false (by omega)
   clear c34
   (first | rw [c34b0] | (simp only [i64_w, i32_w]; rw [c34b0]) | rw [c34b1] | skip)
   have H' := aA_ H
   clear H
   have hnb41 := NB311_302.out
   have hnc41 := NB302_311.out
   have hnb42 := NB311_303.out
   have hnc42 := NB303_311.out
   have hnb43 := NB311_304.out
   have hnc43 := NB304_311.out
   have hnb44 := NB311_312.out
   have hnc44 := NB312_311.out
   have hcz45_0 : w33.cell? ⟨gb311, 0, none⟩ = some (.slice Ao18 t305.length co18) := (blk_cell BK311.out 0).trans rfl
   have hfz45_0 := blk_frozen BK311.out 0
   go_wp2
   go_meet
   case rel => exact ⟨_, _, (by first | rfl | simp | simp [*]), H', ⟨by first | omega | exact Nat.le_refl _⟩, ⟨by (with_reducible repeat (first | apply Kd.R_alloc | apply Kd.R_drewN | apply Kd.R_drew)); exact Kd.R_mono HO307.out (fun _ hk => hk.1)⟩, ⟨by (with_reducible repeat (first | apply Kd.R_alloc | apply Kd.R_drewN | apply Kd.R_drew)); exact Kd.R_mono HO310.out (fun _ hk => hk.1)⟩, ⟨by exact BK302.out⟩, ⟨by exact BK303.out⟩, ⟨by exact BK304.out⟩, ⟨by exact BK311.out⟩, ⟨by exact BK312.out⟩, ⟨by repeat (with_reducible first | exact HB.out | apply bA_ | apply bN_ | apply bD_ | refine bS_ ?_ GE302.out | refine bS_ ?_ GE303.out | refine bS_ ?_ GE304.out | refine bS_ ?_ GE311.out | refine bS_ ?_ GE312.out)⟩⟩
 case rest =>
  clear HC6
  try clear c1
  try clear c2
  try clear p2
  try clear c3
  try clear p3
  try clear q3
  try clear hx3
  try clear qi3
  try clear c4
  try clear c5
  try clear c6
  try clear c7
  try clear c10
  try clear c11
  try clear c13
  try clear c19
  try clear c20
  try clear c21
  try clear c22
  try clear c25
  try clear c26
  try clear c27
  try clear p31
  try clear q31
  try clear hx31
  try clear qi31
  try clear c34
  try clear c34b0
  try clear c34b1
  try clear c35
  try clear c35b0
  try clear c35b1
  try clear c36
  try clear c37
  try clear c38
  try clear c39
  try clear c41
  try clear c42
  try clear c43
  try clear c44
  try clear hcz12_0
  try clear hcz14_0
  try clear hcz23_0
  try clear hcz28_0
  try clear hcz40_0
  try clear hcz45_0
  try clear hfz12_0
  try clear hfz14_0
  try clear hfz23_0
  try clear hfz28_0
  try clear hfz40_0
  try clear hfz45_0
  try clear hx317_0
  try clear p317
  try clear q317
  obtain ⟨kq, x8_5, rfl, HA, HJ5, HO_312000, HO_313000, BK302, BK303, BK304, BK311, BK312, HB⟩ := hcut
  cases kq with
  | zero => exact absurd HA.out (by simp [demurrageref03_Near.j0])
  | succ kj5 =>
   have H := HA.out
   clear HA
   simp only [demurrageref03_Near.j0] at H
   have HC46 := aA_ H
   clear H
   go_upto_region 4 with (fail)
   go_cut [40] (fun v40 wc => ∃ (kq : Nat) (x40_45 : Bool), v40 = .bool x40_45 ∧ Aside0 (demurrageref03_Near.j1 kq x40_45 t305 = some r) ∧ Aside0 (kq ≤ kj5) ∧ Aside0 (Kd.R (Kd.int .i64) 3 wc w.heap.size (fun k_ => some k_ ≠ ((.slice Ao24 t308.length co24) : Value).ownBlock) (.slice Ao18 t305.length co18) t305) ∧ Aside0 (Kd.R (Kd.int .i64) 3 wc w.heap.size (fun k_ => some k_ ≠ ((.slice Ao18 t305.length co18) : Value).ownBlock) (.slice Ao24 t308.length co24) t308) ∧ Aside0 (wc.heap[gb302]? = some (.cells #[(.slice A0_0 l0_0.length c0_0)] 98 (0, 0))) ∧ Aside0 (wc.heap[gb303]? = some (.cells #[(.slice A1_0 l1_0.length c1_0)] 98 (0, 0))) ∧ Aside0 (wc.heap[gb304]? = some (.cells #[(.slice none 0 0)] 98 (0, 0))) ∧ Aside0 (wc.heap[gb311]? = some (.cells #[(.slice Ao18 t305.length co18)] 98 (0, 0))) ∧ Aside0 (wc.heap[gb312]? = some (.cells #[(.slice Ao24 t308.length co24)] 98 (0, 0))) ∧ Aside0 (Below w.heap.size w wc))
   case first =>
    have H := HC46.out
    clear HC46
    by_cases c47 : t316 > 0
    ·rw [if_pos c47] at H
     have c47b0 : decide (0 < t316) = true := decide_eq_true c47
     clear c47
     (first | rw [c47b0] | (simp only [i64_w, i32_w]; rw [c47b0]) | rw [c47b1] | skip)
     have H' := aA_ H
     clear H
     go_wp2
     go_meet
     case rel => exact ⟨_, _, (by first | rfl | simp | simp [*]), H', ⟨by have := HJ5.out; first | omega | exact Nat.le_refl _⟩, ⟨by (with_reducible repeat (first | apply Kd.R_alloc | apply Kd.R_drewN | apply Kd.R_drew)); exact HO_312000.out⟩, ⟨by (with_reducible repeat (first | apply Kd.R_alloc | apply Kd.R_drewN | apply Kd.R_drew)); exact HO_313000.out⟩, ⟨by exact BK302.out⟩, ⟨by exact BK303.out⟩, ⟨by exact BK304.out⟩, ⟨by exact BK311.out⟩, ⟨by exact BK312.out⟩, ⟨by repeat (with_reducible first | exact HB.out | apply bA_ | apply bN_ | apply bD_ | refine bS_ ?_ GE302.out | refine bS_ ?_ GE303.out | refine bS_ ?_ GE304.out | refine bS_ ?_ GE311.out | refine bS_ ?_ GE312.out)⟩⟩
    ·rw [if_neg c47] at H
     have c47b0 : decide (0 < t316) = false := decide_eq_false c47
     clear c47
     (first | rw [c47b0] | (simp only [i64_w, i32_w]; rw [c47b0]) | rw [c47b1] | skip)
     by_cases c48 : t316 = 0
     ·rw [if_pos c48] at H
      have c48b0 : (t316 == 0) = true := beq_iff_eq.mpr c48
      have c48b1 : (t316 != 0) = false := bne_eq_false_iff_eq.mpr c48
      clear c48
      have H' := aA_ H
      clear H
      go_wp2
      go_meet
      case rel => exact ⟨_, _, (by first | rfl | simp | simp [*]), H', ⟨by have := HJ5.out; first | omega | exact Nat.le_refl _⟩, ⟨by (with_reducible repeat (first | apply Kd.R_alloc | apply Kd.R_drewN | apply Kd.R_drew)); exact HO_312000.out⟩, ⟨by (with_reducible repeat (first | apply Kd.R_alloc | apply Kd.R_drewN | apply Kd.R_drew)); exact HO_313000.out⟩, ⟨by exact BK302.out⟩, ⟨by exact BK303.out⟩, ⟨by exact BK304.out⟩, ⟨by exact BK311.out⟩, ⟨by exact BK312.out⟩, ⟨by repeat (with_reducible first | exact HB.out | apply bA_ | apply bN_ | apply bD_ | refine bS_ ?_ GE302.out | refine bS_ ?_ GE303.out | refine bS_ ?_ GE304.out | refine bS_ ?_ GE311.out | refine bS_ ?_ GE312.out)⟩⟩
     ·rw [if_neg c48] at H
      have c48b0 : (t316 == 0) = false := beq_eq_false_iff_ne.mpr c48
      have c48b1 : (t316 != 0) = true := bne_iff_ne.mpr c48
      have H' := aA_ H
      clear H
      go_wp2
      go_meet
      case rel => exact ⟨_, _, (by first | rfl | simp | simp [*]), H', ⟨by have := HJ5.out; first | omega | exact Nat.le_refl _⟩, ⟨by (with_reducible repeat (first | apply Kd.R_alloc | apply Kd.R_drewN | apply Kd.R_drew)); exact HO_312000.out⟩, ⟨by (with_reducible repeat (first | apply Kd.R_alloc | apply Kd.R_drewN | apply Kd.R_drew)); exact HO_313000.out⟩, ⟨by exact BK302.out⟩, ⟨by exact BK303.out⟩, ⟨by exact BK304.out⟩, ⟨by exact BK311.out⟩, ⟨by exact BK312.out⟩, ⟨by repeat (with_reducible first | exact HB.out | apply bA_ | apply bN_ | apply bD_ | refine bS_ ?_ GE302.out | refine bS_ ?_ GE303.out | refine bS_ ?_ GE304.out | refine bS_ ?_ GE311.out | refine bS_ ?_ GE312.out)⟩⟩
   case rest =>
    clear HC46
    try clear c1
    try clear c2
    try clear p2
    try clear c3
    try clear p3
    try clear q3
    try clear hx3
    try clear qi3
    try clear c4
    try clear c5
    try clear c6
    try clear c7
    try clear c10
    try clear c11
    try clear c13
    try clear c19
    try clear c20
    try clear c21
    try clear c22
    try clear c25
    try clear c26
    try clear c27
    try clear p31
    try clear q31
    try clear hx31
    try clear qi31
    try clear c34
    try clear c34b0
    try clear c34b1
    try clear c35
    try clear c35b0
    try clear c35b1
    try clear c36
    try clear c37
    try clear c38
    try clear c39
    try clear c41
    try clear c42
    try clear c43
    try clear c44
    try clear c47
    try clear c47b0
    try clear c47b1
    try clear c48
    try clear c48b0
    try clear c48b1
    try clear hcz12_0
    try clear hcz14_0
    try clear hcz23_0
    try clear hcz28_0
    try clear hcz40_0
    try clear hcz45_0
    try clear hfz12_0
    try clear hfz14_0
    try clear hfz23_0
    try clear hfz28_0
    try clear hfz40_0
    try clear hfz45_0
    try clear hx317_0
    try clear p2
    try clear p3
    try clear p31
    try clear p317
    try clear q3
    try clear q31
    try clear q317
    obtain ⟨kq, x40_45, rfl, HA, HJ45, HO_312000, HO_313000, BK302, BK303, BK304, BK311, BK312, HB⟩ := hcut
    cases kq with
    | zero => exact absurd HA.out (by simp [demurrageref03_Near.j1])
    | succ kj45 =>
     have H := HA.out
     clear HA
     simp only [demurrageref03_Near.j1] at H
     by_cases c49 : x40_45 = true
     ·subst c49
      rw [if_pos rfl] at H
      replace H := bI_ H
      obtain ⟨t318, A500, H⟩ := H
      (try dsimp only at H)
      have A50 := aA_ A500
      clear A500
      replace H := bI_ H
      obtain ⟨t321, A510, H⟩ := H
      (try dsimp only at H)
      have A51 := aA_ A510
      clear A510
      obtain rfl := Option.some.inj H
      try go_wp2
      replace HO_312000 := aA_ (Kd.R_drew HO_312000.out)
      replace HO_313000 := aA_ (Kd.R_drew HO_313000.out)
      replace BK302 := aA_ (blk_drew BK302.out)
      replace BK303 := aA_ (blk_drew BK303.out)
      replace BK304 := aA_ (blk_drew BK304.out)
      replace BK311 := aA_ (blk_drew BK311.out)
      replace BK312 := aA_ (blk_drew BK312.out)
      replace HB := aA_ (below_drew1 HB.out)
      refine start_ (n := 4) (S := fun w' => w'.cell? ⟨gb311, 0, none⟩ = some (.slice Ao18 t305.length co18)) (ds := []) #[false, false, false, false] (by kernel_rfl) rfl rfl ((blk_cell BK311.out 0).trans rfl) (fun hHeld => ?_)
      generalize wc.drew = w52 at HO_312000 HO_313000 BK302 BK303 BK304 BK311 BK312 HB hHeld ⊢
      refine take_ (i := 0) (N := some 41) (v := ?_) (a' := ?_) #[true, false, false, false] rfl rfl (by kernel_rfl) (fun _ _ _ h => h) (Or.inl ⟨by rfl, ?_⟩) hHeld ?_ ?_
      rotate_left
      ·intro w' s0
       go_simp
       with_reducible rfl
      rotate_left
      ·simp only [Act.put, sT_, sZ_, sS_, i64_w, i32_w]
       rfl
      refine one_ (i := 1) (N := some 42) #[true, true, false, false] rfl rfl (by kernel_rfl) (by decide) (fun K hK => ?_)
      refine goes_ Try.func49 (by kernel_rfl) rfl #[.int .i64 1] (by rfl) rfl rfl (by (try simp only [mT_, mC_, mN_]); first | done | rfl) ?_
      with_reducible refine (demurrageref01_From.calls kj45 1 t318 _ A50.out).mono ?_
      rintro e w53 ⟨v319, rfl, ho0, hb⟩
      refine ⟨_, rfl, ?_⟩
      have HO320 := aA_ (Kd.R_lower (Kd.R_new' (Kd.R_new' ho0 (Kd.R_lt HO_312000.out)) (Kd.R_lt HO_313000.out)) (below_size (by repeat (with_reducible first | exact HB.out | apply bA_ | apply bN_ | apply bD_ | refine bS_ ?_ GE302.out | refine bS_ ?_ GE303.out | refine bS_ ?_ GE304.out | refine bS_ ?_ GE311.out | refine bS_ ?_ GE312.out))))
      replace HO_312000 := aA_ (Kd.R_elder' HO_312000.out (Kd.R_base ho0) hb)
      replace HO_313000 := aA_ (Kd.R_elder' HO_313000.out (Kd.R_base ho0) hb)
      replace BK302 := bK_ BK302 hb
      replace BK303 := bK_ BK303 hb
      replace BK304 := bK_ BK304 hb
      replace BK311 := bK_ BK311 hb
      replace BK312 := bK_ BK312 hb
      replace HB := bB_ (by repeat (with_reducible first | exact HB.out | apply bA_ | apply bN_ | apply bD_ | refine bS_ ?_ GE302.out | refine bS_ ?_ GE303.out | refine bS_ ?_ GE304.out | refine bS_ ?_ GE311.out | refine bS_ ?_ GE312.out)) hb
      (try clear hb)
      (try clear hb2)
      (try clear hk)
      (try clear hi)
      (try clear ho0)
      obtain ⟨Ao54, co54, eo54⟩ := Kd.R_slice HO320.out
      (first | subst eo54 | (injection eo54 with f1_ f2_ f3_; have f4_ := f1_.symm; have f5_ := f3_.symm; clear f1_ f2_ f3_; subst f4_; subst f5_))
      refine hK.out _ _ ((blk_cell BK311.out 0).trans rfl) (fun hHeld => ?_)
      clear hK K
      refine norm_ (by show Act.put _ (some 42) _ = _; simp only [Act.put, sT_, sZ_, sS_, i64_w, i32_w] <;> rfl) ?_
      refine one_ (i := 2) (N := some 43) #[true, true, true, false] rfl rfl (by kernel_rfl) (by decide) (fun K hK => ?_)
      refine goes_ Try.func48 (by kernel_rfl) rfl #[.agg #[.slice Ao18 t305.length co18], .agg #[.slice Ao54 t318.length co54]] (by rfl) rfl rfl (by (try simp only [mT_, mC_, mN_]); first | done | rfl) ?_
      with_reducible refine (demurrageref01_Plus.calls kj45 _ _ t305 _ _ t318 t321 _ ?side1 ?side2 ?side3 ?side4 A51.out).mono ?_
      (case side1 => repeat (first | exact (Kd.R_reads' HO_312000.out).2.2 | (with_reducible first | refine Kd.C_alloc ?_ _ | refine Kd.C_drewN ?_ _ | refine Kd.C_drew ?_)))
      (case side2 => exact (Kd.R_reads' HO_312000.out).2.1)
      (case side3 => repeat (first | exact (Kd.R_reads' HO320.out).2.2 | (with_reducible first | refine Kd.C_alloc ?_ _ | refine Kd.C_drewN ?_ _ | refine Kd.C_drew ?_)))
      (case side4 => exact (Kd.R_reads' HO320.out).2.1)
      rintro e w55 ⟨v322, rfl, ho0, hb⟩
      refine ⟨_, rfl, ?_⟩
      have HO323 := aA_ (Kd.R_lower (Kd.R_new' (Kd.R_new' (Kd.R_new' ho0 (Kd.R_lt HO_312000.out)) (Kd.R_lt HO_313000.out)) (Kd.R_lt HO320.out)) (below_size (by repeat (with_reducible first | exact HB.out | apply bA_ | apply bN_ | apply bD_ | refine bS_ ?_ GE302.out | refine bS_ ?_ GE303.out | refine bS_ ?_ GE304.out | refine bS_ ?_ GE311.out | refine bS_ ?_ GE312.out))))
      replace HO_312000 := aA_ (Kd.R_elder' HO_312000.out (Kd.R_base ho0) hb)
      replace HO_313000 := aA_ (Kd.R_elder' HO_313000.out (Kd.R_base ho0) hb)
      replace HO320 := aA_ (Kd.R_elder' HO320.out (Kd.R_base ho0) hb)
      replace BK302 := bK_ BK302 hb
      replace BK303 := bK_ BK303 hb
      replace BK304 := bK_ BK304 hb
      replace BK311 := bK_ BK311 hb
      replace BK312 := bK_ BK312 hb
      replace HB := bB_ (by repeat (with_reducible first | exact HB.out | apply bA_ | apply bN_ | apply bD_ | refine bS_ ?_ GE302.out | refine bS_ ?_ GE303.out | refine bS_ ?_ GE304.out | refine bS_ ?_ GE311.out | refine bS_ ?_ GE312.out)) hb
      (try clear hb)
      (try clear hb2)
      (try clear hk)
      (try clear hi)
      (try clear ho0)
      obtain ⟨Ao56, co56, eo56⟩ := Kd.R_slice HO323.out
      (first | subst eo56 | (injection eo56 with f1_ f2_ f3_; have f4_ := f1_.symm; have f5_ := f3_.symm; clear f1_ f2_ f3_; subst f4_; subst f5_))
      refine hK.out _ _ ((blk_cell BK311.out 0).trans rfl) (fun hHeld => ?_)
      clear hK K
      refine norm_ (by show Act.put _ (some 43) _ = _; simp only [Act.put, sT_, sZ_, sS_, i64_w, i32_w] <;> rfl) ?_
      refine one_ (i := 3) (N := none) #[true, true, true, true] rfl rfl (by kernel_rfl) (by decide) (fun K hK => ?_)
      have hs57 : w55.cell? ⟨gb304, 0, none⟩ = some (.slice none 0 0) := (blk_cell BK304.out 0).trans rfl
      have hfs57 := blk_frozen BK304.out 0
      have hns57_0 := NB302_304.out
      have hns57_1 := NB303_304.out
      have hns57_3 := NB311_304.out
      have hns57_4 := NB312_304.out
      have hms57_0 := NB304_302.out
      have hms57_1 := NB304_303.out
      have hms57_3 := NB304_311.out
      have hms57_4 := NB304_312.out
      refine skip_ (w1 := ?_) (by rfl) rfl ?_ ?_
      rotate_left
      ·go_simp
       rfl
      refine hK.out _ _ (((cell_far (p := ⟨gb304, _, none⟩) NB311_304.out _).trans (hHeld))) (fun hHeld => ?_)
      clear hK K
      refine done_ (by kernel_rfl) ?_
      try go_wp2
      refine bodyPost_ret (results_cell_row rfl _ _ gb304 98 #[.slice Ao56 t321.length co56] (0, 0) _ rfl (by refine blk_put (cs := #[.slice none 0 0]) ?_ 0 _ rfl; exact BK304.out) Try.underlying98 rfl (by kernel_rfl)) rfl ?_
      exact ⟨_, by rfl, by (with_reducible repeat (first | apply Kd.R_alloc | apply Kd.R_drewN | apply Kd.R_drew)); exact Kd.R_mono (Kd.R_far (p := ⟨gb304, 0, none⟩) (Kd.R_types HO323.out BK304.out (by decide)) (fun _ hk => hk.2) (.slice Ao56 t321.length co56)) (fun _ hk => trivial), by repeat (with_reducible first | exact HB.out | apply bA_ | apply bN_ | apply bD_ | refine bS_ ?_ GE302.out | refine bS_ ?_ GE303.out | refine bS_ ?_ GE304.out | refine bS_ ?_ GE311.out | refine bS_ ?_ GE312.out)⟩
     ·replace c49 := Bool.eq_false_iff.mpr c49
      subst c49
      rw [if_neg (show ¬ (false = true) by decide)] at H
      obtain rfl := Option.some.inj H
      have hnb58 := NB311_302.out
      have hnc58 := NB302_311.out
      have hnb59 := NB311_303.out
      have hnc59 := NB303_311.out
      have hnb60 := NB311_304.out
      have hnc60 := NB304_311.out
      have hnb61 := NB311_312.out
      have hnc61 := NB312_311.out
      have hcz62_0 : wc.cell? ⟨gb311, 0, none⟩ = some (.slice Ao18 t305.length co18) := (blk_cell BK311.out 0).trans rfl
      have hfz62_0 := blk_frozen BK311.out 0
      have hnb63 := NB304_302.out
      have hnc63 := NB302_304.out
      have hnb64 := NB304_303.out
      have hnc64 := NB303_304.out
      have hnb65 := NB304_312.out
      have hnc65 := NB312_304.out
      have hcz66_0 : wc.cell? ⟨gb304, 0, none⟩ = some (.slice none 0 0) := (blk_cell BK304.out 0).trans rfl
      have hfz66_0 := blk_frozen BK304.out 0
      go_wp2
      refine bodyPost_ret (results_cell_row rfl _ _ gb304 98 #[.slice Ao18 t305.length co18] (0, 0) _ rfl (by refine blk_put (cs := #[.slice none 0 0]) ?_ 0 _ rfl; exact BK304.out) Try.underlying98 rfl (by kernel_rfl)) rfl ?_
      exact ⟨_, by rfl, by (with_reducible repeat (first | apply Kd.R_alloc | apply Kd.R_drewN | apply Kd.R_drew)); exact Kd.R_mono (Kd.R_far (p := ⟨gb304, 0, none⟩) (Kd.R_types HO_312000.out BK304.out (by decide)) (fun _ hk => hk.2) (.slice Ao18 t305.length co18)) (fun _ hk => trivial), by repeat (with_reducible first | exact HB.out | apply bA_ | apply bN_ | apply bD_ | refine bS_ ?_ GE302.out | refine bS_ ?_ GE303.out | refine bS_ ?_ GE304.out | refine bS_ ?_ GE311.out | refine bS_ ?_ GE312.out)⟩

end Go.Proofs.Yteikafepdkijdaa.X
