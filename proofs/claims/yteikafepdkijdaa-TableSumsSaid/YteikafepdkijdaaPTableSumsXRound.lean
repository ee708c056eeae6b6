-- cut by prune.py, a program of this session
import Derived.Test.YteikafepdkijdaaPTableSumsX0
import Derived.Test.YteikafepdkijdaaPTableSumsXWCmp
import Derived.Test.YteikafepdkijdaaPTableSumsHDiv
namespace Go.Proofs.Yteikafepdkijdaa.X
open Go.RowKit Go.Proofs.YteikafepdkijdaaW.PrintWords Go.Proofs.YteikafepdkijdaaW.PrintLast Go.Proofs.YteikafepdkijdaaW.PrintMore
attribute [local go_sem] max2_int min2_int max_two min_two
set_option linter.unusedVariables false
set_option linter.unusedSimpArgs false

def round_told.f (a0_0 : Int) (a0_1 : Int) : Option (Int × Int) := (wide_Of.f 4611686018427387904).bind fun bt132 => ((wide_Cmp.f a0_0 a0_1 bt132.1 bt132.2).bind fun t134 => (if t134 > 0 then (some (0, 6)) else (some (wrap64 (a0_1), 0))))
set_option maxHeartbeats 8000000 in
set_option maxRecDepth 100000 in
theorem round_told.calls (a0_0 : Int) (a0_1 : Int) (r1 : Int) (r2 : Int) (w : World) (h : round_told.f a0_0 a0_1 = some (r1, r2)) :
  Calls Try.prog 83 #[.agg #[.int .u64 a0_0, .int .u64 a0_1]] w fun e w' => e = .returned (.tuple #[.int .i64 r1, .int .i64 r2]) ∧ Below w.heap.size w w' := by
 have hu128 := Try.underlying128
 have HB := aA_ (Below.refl w.heap.size w)
 have H : ((wide_Of.f 4611686018427387904).bind fun bt132 => ((wide_Cmp.f a0_0 a0_1 bt132.1 bt132.2).bind fun t134 => (if t134 > 0 then (some (0, 6)) else (some (wrap64 (a0_1), 0))))) = some (r1, r2) := h
 clear h
 replace H := bI_ H
 obtain ⟨⟨t132, t133⟩, A20, H⟩ := H
 (try dsimp only at H)
 have A2 := aA_ A20
 clear A20
 replace H := bI_ H
 obtain ⟨t134, A30, H⟩ := H
 (try dsimp only at H)
 have A3 := aA_ A30
 clear A30
 by_cases c4 : t134 > 0
 ·rw [if_pos c4] at H
  have c4b0 : decide (0 < t134) = true := decide_eq_true c4
  clear c4
  simp only [Option.some.injEq, Prod.mk.injEq] at H
  obtain ⟨rfl, rfl⟩ := H
  go_enter Try.func83, Try.ntmps83
  try go_wp2_with (first | (refine box_event rfl (N := 1) rfl (cs := #[.int .u64 a0_0, .int .u64 a0_1]) (t := 128) ?hr ?_; (case hr => go_simp <;> rfl); intro gb131 hg w5 hbox hb; have BK131 := aA_ (hbox); have GW131 := gW_ hg (by repeat (with_reducible first | exact HB.out | apply bA_ | apply bN_ | apply bD_)); have GE131 := GW131; replace HB := bB_ (by repeat (with_reducible first | exact HB.out | apply bA_ | apply bN_ | apply bD_)) hb; clear hb hbox hg))
  replace BK131 := aA_ (blk_drew BK131.out)
  replace HB := aA_ (below_drew1 HB.out)
  refine start_ (n := 4) (S := fun w' => w'.cell? ⟨gb131, 0, none⟩ = some (.int .u64 a0_0) ∧ w'.cell? ⟨gb131, 1, none⟩ = some (.int .u64 a0_1)) (ds := []) #[false, false, false, false] (by kernel_rfl) rfl rfl ⟨(blk_cell BK131.out 0).trans rfl, (blk_cell BK131.out 1).trans rfl⟩ (fun hHeld => ?_)
  generalize w5.drew = w6 at BK131 HB hHeld ⊢
  refine take_ (i := 0) (N := some 4) (v := ?_) (a' := ?_) #[true, false, false, false] rfl rfl (by kernel_rfl) (fun _ _ _ h => h) (Or.inl ⟨by rfl, ?_⟩) hHeld ?_ ?_
  rotate_left
  ·rintro w' ⟨s0, s1⟩
   go_simp
   with_reducible rfl
  rotate_left
  ·simp only [Act.put, sT_, sZ_, sS_, i64_w, i32_w]
   rfl
  refine one_ (i := 1) (N := some 5) #[true, true, false, false] rfl rfl (by kernel_rfl) (by decide) (fun K hK => ?_)
  refine goes_ Try.func85 (by kernel_rfl) rfl #[.int .u64 4611686018427387904] (by rfl) rfl rfl (by (try simp only [mT_, mC_, mN_]); first | done | rfl) ?_
  with_reducible refine (wide_Of.calls 4611686018427387904 t132 t133 _ A2.out).mono ?_
  rintro e w7 ⟨rfl, hb⟩
  refine ⟨_, rfl, ?_⟩
  replace BK131 := bK_ BK131 hb
  replace HB := bB_ (by repeat (with_reducible first | exact HB.out | apply bA_ | apply bN_ | apply bD_ | refine bS_ ?_ GE131.out)) hb
  (try clear hb)
  (try clear hb2)
  (try clear hk)
  (try clear hi)
  refine hK.out _ _ ⟨(blk_cell BK131.out 0).trans rfl, (blk_cell BK131.out 1).trans rfl⟩ (fun hHeld => ?_)
  clear hK K
  refine norm_ (by show Act.put _ (some 5) _ = _; simp only [Act.put, sT_, sZ_, sS_, i64_w, i32_w] <;> rfl) ?_
  refine one_ (i := 2) (N := some 6) #[true, true, true, false] rfl rfl (by kernel_rfl) (by decide) (fun K hK => ?_)
  refine goes_ Try.func91 (by kernel_rfl) rfl #[.agg #[.int .u64 a0_0, .int .u64 a0_1], .agg #[.int .u64 t132, .int .u64 t133]] (by rfl) rfl rfl (by (try simp only [mT_, mC_, mN_]); first | done | rfl) ?_
  with_reducible refine (wide_Cmp.calls a0_0 a0_1 t132 t133 t134 _ A3.out).mono ?_
  rintro e w8 ⟨rfl, hb⟩
  refine ⟨_, rfl, ?_⟩
  replace BK131 := bK_ BK131 hb
  replace HB := bB_ (by repeat (with_reducible first | exact HB.out | apply bA_ | apply bN_ | apply bD_ | refine bS_ ?_ GE131.out)) hb
  (try clear hb)
  (try clear hb2)
  (try clear hk)
  (try clear hi)
  refine hK.out _ _ ⟨(blk_cell BK131.out 0).trans rfl, (blk_cell BK131.out 1).trans rfl⟩ (fun hHeld => ?_)
  clear hK K
  refine norm_ (by show Act.put _ (some 6) _ = _; simp only [Act.put, sT_, sZ_, sS_, i64_w, i32_w] <;> rfl) ?_
  refine pure_ (i := 3) (N := some 7) (v := ?_) (a' := ?_) #[true, true, true, true] rfl rfl (by kernel_rfl) (fun _ _ _ h => h) (Or.inl ⟨by rfl, ?_⟩) ?_ ?_
  rotate_left
  ·intro w'
   go_simp
   with_reducible rfl
  rotate_left
  ·simp only [Act.put, sT_, sZ_, sS_, i64_w, i32_w]
   rfl
  refine done_ (by kernel_rfl) ?_
  try go_wp2
  go_ret2
  exact ⟨by rfl, by repeat (with_reducible first | exact HB.out | apply bA_ | apply bN_ | apply bD_ | refine bS_ ?_ GE131.out)⟩
 ·rw [if_neg c4] at H
  have c4b0 : decide (0 < t134) = false := decide_eq_false c4
  clear c4
  simp only [Option.some.injEq, Prod.mk.injEq] at H
  obtain ⟨rfl, rfl⟩ := H
  go_enter Try.func83, Try.ntmps83
  try go_wp2_with (first | (refine box_event rfl (N := 1) rfl (cs := #[.int .u64 a0_0, .int .u64 a0_1]) (t := 128) ?hr ?_; (case hr => go_simp <;> rfl); intro gb131 hg w9 hbox hb; have BK131 := aA_ (hbox); have GW131 := gW_ hg (by repeat (with_reducible first | exact HB.out | apply bA_ | apply bN_ | apply bD_)); have GE131 := GW131; replace HB := bB_ (by repeat (with_reducible first | exact HB.out | apply bA_ | apply bN_ | apply bD_)) hb; clear hb hbox hg))
  replace BK131 := aA_ (blk_drew BK131.out)
  replace HB := aA_ (below_drew1 HB.out)
  refine start_ (n := 4) (S := fun w' => w'.cell? ⟨gb131, 0, none⟩ = some (.int .u64 a0_0) ∧ w'.cell? ⟨gb131, 1, none⟩ = some (.int .u64 a0_1)) (ds := []) #[false, false, false, false] (by kernel_rfl) rfl rfl ⟨(blk_cell BK131.out 0).trans rfl, (blk_cell BK131.out 1).trans rfl⟩ (fun hHeld => ?_)
  generalize w9.drew = w10 at BK131 HB hHeld ⊢
  refine take_ (i := 0) (N := some 4) (v := ?_) (a' := ?_) #[true, false, false, false] rfl rfl (by kernel_rfl) (fun _ _ _ h => h) (Or.inl ⟨by rfl, ?_⟩) hHeld ?_ ?_
  rotate_left
  ·rintro w' ⟨s0, s1⟩
   go_simp
   with_reducible rfl
  rotate_left
  ·simp only [Act.put, sT_, sZ_, sS_, i64_w, i32_w]
   rfl
  refine one_ (i := 1) (N := some 5) #[true, true, false, false] rfl rfl (by kernel_rfl) (by decide) (fun K hK => ?_)
  refine goes_ Try.func85 (by kernel_rfl) rfl #[.int .u64 4611686018427387904] (by rfl) rfl rfl (by (try simp only [mT_, mC_, mN_]); first | done | rfl) ?_
  with_reducible refine (wide_Of.calls 4611686018427387904 t132 t133 _ A2.out).mono ?_
  rintro e w11 ⟨rfl, hb⟩
  refine ⟨_, rfl, ?_⟩
  replace BK131 := bK_ BK131 hb
  replace HB := bB_ (by repeat (with_reducible first | exact HB.out | apply bA_ | apply bN_ | apply bD_ | refine bS_ ?_ GE131.out)) hb
  (try clear hb)
  (try clear hb2)
  (try clear hk)
  (try clear hi)
  refine hK.out _ _ ⟨(blk_cell BK131.out 0).trans rfl, (blk_cell BK131.out 1).trans rfl⟩ (fun hHeld => ?_)
  clear hK K
  refine norm_ (by show Act.put _ (some 5) _ = _; simp only [Act.put, sT_, sZ_, sS_, i64_w, i32_w] <;> rfl) ?_
  refine one_ (i := 2) (N := some 6) #[true, true, true, false] rfl rfl (by kernel_rfl) (by decide) (fun K hK => ?_)
  refine goes_ Try.func91 (by kernel_rfl) rfl #[.agg #[.int .u64 a0_0, .int .u64 a0_1], .agg #[.int .u64 t132, .int .u64 t133]] (by rfl) rfl rfl (by (try simp only [mT_, mC_, mN_]); first | done | rfl) ?_
  with_reducible refine (wide_Cmp.calls a0_0 a0_1 t132 t133 t134 _ A3.out).mono ?_
  rintro e w12 ⟨rfl, hb⟩
  refine ⟨_, rfl, ?_⟩
  replace BK131 := bK_ BK131 hb
  replace HB := bB_ (by repeat (with_reducible first | exact HB.out | apply bA_ | apply bN_ | apply bD_ | refine bS_ ?_ GE131.out)) hb
  (try clear hb)
  (try clear hb2)
  (try clear hk)
  (try clear hi)
  refine hK.out _ _ ⟨(blk_cell BK131.out 0).trans rfl, (blk_cell BK131.out 1).trans rfl⟩ (fun hHeld => ?_)
  clear hK K
  refine norm_ (by show Act.put _ (some 6) _ = _; simp only [Act.put, sT_, sZ_, sS_, i64_w, i32_w] <;> rfl) ?_
  refine pure_ (i := 3) (N := some 7) (v := ?_) (a' := ?_) #[true, true, true, true] rfl rfl (by kernel_rfl) (fun _ _ _ h => h) (Or.inl ⟨by rfl, ?_⟩) ?_ ?_
  rotate_left
  ·intro w'
   go_simp
   with_reducible rfl
  rotate_left
  ·simp only [Act.put, sT_, sZ_, sS_, i64_w, i32_w]
   rfl
  refine done_ (by kernel_rfl) ?_
  have hcz13_0 : w12.cell? ⟨gb131, 0, none⟩ = some (.int .u64 a0_0) := (blk_cell BK131.out 0).trans rfl
  have hcz13_1 : w12.cell? ⟨gb131, 1, none⟩ = some (.int .u64 a0_1) := (blk_cell BK131.out 1).trans rfl
  have hfz13_0 := blk_frozen BK131.out 0
  have hfz13_1 := blk_frozen BK131.out 1
  try go_wp2
  go_ret2
  exact ⟨by rfl, by repeat (with_reducible first | exact HB.out | apply bA_ | apply bN_ | apply bD_ | refine bS_ ?_ GE131.out)⟩

def round_up.j0 : Nat → Int → Bool → Int → Bool → Option (Bool)
 | 0, _, _, _, _ => none
 | k + 1, x0, x7, x8, x12 => if x12 = true then (some true) else (if x0 > x8 then (some true) else (some x7))
def round_up.f (k : Nat) (a0 : Int) (a1 : Int) (a2 : Bool) : Option (Bool) := if a0 = (IntKind.u64.wrap (a1 - a0)) then (round_up.j0 k a0 false (IntKind.u64.wrap (a1 - a0)) a2) else (round_up.j0 k a0 false (IntKind.u64.wrap (a1 - a0)) false)
theorem round_up.mono_l : ∀ k, (∀ y0 y1 y2 y3, LeO (round_up.j0 k y0 y1 y2 y3) (round_up.j0 (k + 1) y0 y1 y2 y3))
 | 0 => fun _ _ _ _ r h => by simp [round_up.j0] at h
 | k + 1 => by
  have ih0 := round_up.mono_l k
  ·intro y0 y1 y2 y3
   unfold round_up.j0
   repeat' first
   | (with_reducible exact ih0 _ _ _ _)
   | (with_reducible exact LeO.refl _)
   | (with_reducible exact LeO.none _)
   | (with_reducible refine LeO.ite ?_ ?_)
   | (with_reducible refine LeO.bind ?_ (fun _ => ?_))
   | exact ih0 _ _ _ _
   | exact LeO.none _
   | refine LeO.ite ?_ ?_
   | refine LeO.bind ?_ (fun _ => ?_)
theorem round_up.mono : ∀ a0 a1 a2 k, LeO (round_up.f k a0 a1 a2) (round_up.f (k + 1) a0 a1 a2) := by
 intro a0 a1 a2 k
 have ih0 := round_up.mono_l k
 unfold round_up.f
 repeat' first
   | (with_reducible exact ih0 _ _ _ _)
   | (with_reducible exact LeO.refl _)
   | (with_reducible exact LeO.none _)
   | (with_reducible refine LeO.ite ?_ ?_)
   | (with_reducible refine LeO.bind ?_ (fun _ => ?_))
   | exact ih0 _ _ _ _
   | exact LeO.none _
   | refine LeO.ite ?_ ?_
   | refine LeO.bind ?_ (fun _ => ?_)
set_option maxHeartbeats 8000000 in
set_option maxRecDepth 100000 in
theorem round_up.calls (k : Nat) (a0 : Int) (a1 : Int) (a2 : Bool) (r : Bool) (w : World) (h : round_up.f k a0 a1 a2 = some r) :
  Calls Try.prog 84 #[.int .u64 a0, .int .u64 a1, .bool a2] w fun e w' => e = .returned (.bool r) ∧ Drawn0 w w' := by
 have H : (if a0 = (IntKind.u64.wrap (a1 - a0)) then (round_up.j0 k a0 false (IntKind.u64.wrap (a1 - a0)) a2) else (round_up.j0 k a0 false (IntKind.u64.wrap (a1 - a0)) false)) = some r := h
 clear h
 have HC4 := aA_ H
 clear H
 go_enter Try.func84, Try.ntmps84
 go_upto_region 3 with (fail)
 go_cut [12] (fun v12 wc => ∃ (kq : Nat) (x12_3 : Bool), v12 = .bool x12_3 ∧ Aside0 (round_up.j0 kq a0 false (IntKind.u64.wrap (a1 - a0)) x12_3 = some r) ∧ Aside0 (kq ≤ k) ∧ Drawn0 w wc)
 case first =>
  have H := HC4.out
  clear HC4
  by_cases c5 : a0 = (IntKind.u64.wrap (a1 - a0))
  ·rw [if_pos c5] at H
   have c5b0 : (a0 == (IntKind.u64.wrap (a1 - a0))) = true := beq_iff_eq.mpr c5
   have c5b1 : (a0 != (IntKind.u64.wrap (a1 - a0))) = false := bne_eq_false_iff_eq.mpr c5
   clear c5
   (first | rw [c5b0] | (simp only [i64_w, i32_w]; rw [c5b0]) | rw [c5b1] | skip)
   have H' := aA_ H
   clear H
   go_wp2
   go_meet
   case rel => exact ⟨_, (a2), (by first | rfl | simp | simp [*]), H', ⟨by first | omega | exact Nat.le_refl _⟩, by repeat (first | exact Drawn0.refl _ | apply Drawn0.step)⟩
  ·rw [if_neg c5] at H
   have c5b0 : (a0 == (IntKind.u64.wrap (a1 - a0))) = false := beq_eq_false_iff_ne.mpr c5
   have c5b1 : (a0 != (IntKind.u64.wrap (a1 - a0))) = true := bne_iff_ne.mpr c5
   (first | rw [c5b0] | (simp only [i64_w, i32_w]; rw [c5b0]) | rw [c5b1] | skip)
   have H' := aA_ H
   clear H
   go_wp2
   go_meet
   case rel => exact ⟨_, (false), (by first | rfl | simp | simp [*]), H', ⟨by first | omega | exact Nat.le_refl _⟩, by repeat (first | exact Drawn0.refl _ | apply Drawn0.step)⟩
 case rest =>
  clear HC4
  try clear p2
  try clear c5
  try clear c5b0
  try clear c5b1
  obtain ⟨kq, x12_3, rfl, HA, HJ3, ⟨mc3, rfl⟩⟩ := hcut
  cases kq with
  | zero => exact absurd HA.out (by simp [round_up.j0])
  | succ kj3 =>
   have H := HA.out
   clear HA
   simp only [round_up.j0] at H
   by_cases c6 : x12_3 = true
   ·subst c6
    rw [if_pos rfl] at H
    obtain rfl := Option.some.inj H
    go_wp2
    go_ret
    exact ⟨by first | rfl | (simp; done) | (simp [*]; done), by repeat (first | exact Drawn0.refl _ | apply Drawn0.step)⟩
   ·replace c6 := Bool.eq_false_iff.mpr c6
    subst c6
    rw [if_neg (show ¬ (false = true) by decide)] at H
    by_cases c7 : a0 > (IntKind.u64.wrap (a1 - a0))
    ·rw [if_pos c7] at H
     have c7b0 : decide ((IntKind.u64.wrap (a1 - a0)) < a0) = true := decide_eq_true c7
     clear c7
     obtain rfl := Option.some.inj H
     go_wp2
     go_ret
     exact ⟨by first | rfl | (simp; done) | (simp [*]; done), by repeat (first | exact Drawn0.refl _ | apply Drawn0.step)⟩
    ·rw [if_neg c7] at H
     have c7b0 : decide ((IntKind.u64.wrap (a1 - a0)) < a0) = false := decide_eq_false c7
     clear c7
     obtain rfl := Option.some.inj H
     go_wp2
     go_ret
     exact ⟨by first | rfl | (simp; done) | (simp [*]; done), by repeat (first | exact Drawn0.refl _ | apply Drawn0.step)⟩

def round_Even.j0 : Nat → Int → Int → Bool → Option (Int × Int)
 | 0, _, _, _ => none
 | k + 1, x8, x9, x34 => if x34 = true then ((wide_Of.f (IntKind.u64.wrap ((IntKind.u64.wrap (x9)) + 1))).bind fun bt144 => ((round_told.f bt144.1 bt144.2).bind fun bt146 => (some (bt146.1, bt146.2)))) else (some (x9, x8))
def round_Even.f (k : Nat) (a0_0 : Int) (a0_1 : Int) (a1 : Int) : Option (Int × Int) := (wide_Div.f a0_0 a0_1 a1).bind fun bt136 => (if bt136.2.2.2 = 0 then ((round_told.f bt136.1 bt136.2.1).bind fun bt141 => (if bt141.2 = 0 then ((round_up.f k bt136.2.2.1 a1 ((Int.tmod bt141.1 2) == 1)).bind fun t143 => (round_Even.j0 k bt141.2 bt141.1 t143)) else (round_Even.j0 k bt141.2 bt141.1 false))) else (some (0, bt136.2.2.2)))
theorem round_Even.mono_l : ∀ k, (∀ y0 y1 y2, LeO (round_Even.j0 k y0 y1 y2) (round_Even.j0 (k + 1) y0 y1 y2))
 | 0 => fun _ _ _ r h => by simp [round_Even.j0] at h
 | k + 1 => by
  have ih0 := round_Even.mono_l k
  ·intro y0 y1 y2
   unfold round_Even.j0
   repeat' first
   | (with_reducible exact ih0 _ _ _)
   | (with_reducible exact round_up.mono _ _ _ _)
   | (with_reducible exact LeO.refl _)
   | (with_reducible exact LeO.none _)
   | (with_reducible refine LeO.ite ?_ ?_)
   | (with_reducible refine LeO.bind ?_ (fun _ => ?_))
   | exact ih0 _ _ _
   | exact round_up.mono _ _ _ _
   | exact LeO.none _
   | refine LeO.ite ?_ ?_
   | refine LeO.bind ?_ (fun _ => ?_)
theorem round_Even.mono : ∀ a0 a1 a2 k, LeO (round_Even.f k a0 a1 a2) (round_Even.f (k + 1) a0 a1 a2) := by
 intro a0 a1 a2 k
 have ih0 := round_Even.mono_l k
 unfold round_Even.f
 repeat' first
   | (with_reducible exact ih0 _ _ _)
   | (with_reducible exact round_up.mono _ _ _ _)
   | (with_reducible exact LeO.refl _)
   | (with_reducible exact LeO.none _)
   | (with_reducible refine LeO.ite ?_ ?_)
   | (with_reducible refine LeO.bind ?_ (fun _ => ?_))
   | exact ih0 _ _ _
   | exact round_up.mono _ _ _ _
   | exact LeO.none _
   | refine LeO.ite ?_ ?_
   | refine LeO.bind ?_ (fun _ => ?_)
set_option maxHeartbeats 8000000 in
set_option maxRecDepth 100000 in
theorem round_Even.calls (k : Nat) (a0_0 : Int) (a0_1 : Int) (a1 : Int) (r1 : Int) (r2 : Int) (w : World) (h : round_Even.f k a0_0 a0_1 a1 = some (r1, r2)) :
  Calls Try.prog 78 #[.agg #[.int .u64 a0_0, .int .u64 a0_1], .int .u64 a1] w fun e w' => e = .returned (.tuple #[.int .i64 r1, .int .i64 r2]) ∧ Below w.heap.size w w' := by
 have hu128 := Try.underlying128
 have HB := aA_ (Below.refl w.heap.size w)
 have H : ((wide_Div.f a0_0 a0_1 a1).bind fun bt136 => (if bt136.2.2.2 = 0 then ((round_told.f bt136.1 bt136.2.1).bind fun bt141 => (if bt141.2 = 0 then ((round_up.f k bt136.2.2.1 a1 ((Int.tmod bt141.1 2) == 1)).bind fun t143 => (round_Even.j0 k bt141.2 bt141.1 t143)) else (round_Even.j0 k bt141.2 bt141.1 false))) else (some (0, bt136.2.2.2)))) = some (r1, r2) := h
 clear h
 replace H := bI_ H
 obtain ⟨⟨t136, t137, t138, t139⟩, A30, H⟩ := H
 (try dsimp only at H)
 have A3 := aA_ A30
 clear A30
 by_cases c4 : t139 = 0
 ·rw [if_pos c4] at H
  have c4b0 : (t139 == 0) = true := beq_iff_eq.mpr c4
  have c4b1 : (t139 != 0) = false := bne_eq_false_iff_eq.mpr c4
  clear c4
  replace H := bI_ H
  obtain ⟨⟨t141, t142⟩, A50, H⟩ := H
  (try dsimp only at H)
  have A5 := aA_ A50
  clear A50
  have HC6 := aA_ H
  clear H
  go_enter Try.func78, Try.ntmps78
  go_upto_region 5 with (first | (refine box_event rfl (N := 2) rfl (cs := #[.int .u64 a0_0, .int .u64 a0_1]) (t := 128) ?hr ?_; (case hr => go_simp <;> rfl); intro gb135 hg w7 hbox hb; have BK135 := aA_ (hbox); have GW135 := gW_ hg (by repeat (with_reducible first | exact HB.out | apply bA_ | apply bN_ | apply bD_)); have GE135 := GW135; replace HB := bB_ (by repeat (with_reducible first | exact HB.out | apply bA_ | apply bN_ | apply bD_)) hb; clear hb hbox hg; have hcz8_0 : w7.cell? ⟨gb135, 0, none⟩ = some (.int .u64 a0_0) := (blk_cell BK135.out 0).trans rfl; have hcz8_1 : w7.cell? ⟨gb135, 1, none⟩ = some (.int .u64 a0_1) := (blk_cell BK135.out 1).trans rfl; have hfz8_0 := blk_frozen BK135.out 0; have hfz8_1 := blk_frozen BK135.out 1) | (refine goesL_ (some 13) rfl rfl Try.func82 (by kernel_rfl) rfl #[.agg #[.int .u64 a0_0, .int .u64 a0_1], .int .u64 a1] rfl (by (try simp only [mT_, mC_, mN_]); first | done | rfl) ?_; (with_reducible refine (wide_Div.calls a0_0 a0_1 a1 t136 t137 t138 t139 _ A3.out).mono ?_); rintro e w9 ⟨rfl, hb⟩; refine ⟨_, rfl, ?_⟩; replace BK135 := bK_ BK135 hb; replace HB := bB_ (by repeat (with_reducible first | exact HB.out | apply bA_ | apply bN_ | apply bD_ | refine bS_ ?_ GE135.out)) hb; (try clear hb)) | (refine box_event rfl (N := 6) rfl (cs := #[.int .u64 0, .int .u64 0]) (t := 128) ?hr ?_; (case hr => go_simp <;> rfl); intro gb140 hg w10 hbox hb; have BK140 := aA_ (hbox); have GW140 := gW_ hg (by repeat (with_reducible first | exact HB.out | apply bA_ | apply bN_ | apply bD_ | refine bS_ ?_ GE135.out)); have GE140 := GW140; replace HB := bB_ (by repeat (with_reducible first | exact HB.out | apply bA_ | apply bN_ | apply bD_ | refine bS_ ?_ GE135.out)) hb; have NB135_140 := nE_ hg BK135; have NB140_135 := aA_ NB135_140.out.symm; replace BK135 := bK_ BK135 hb; clear hb hbox hg; have hnb11 := NB140_135.out; have hnc11 := NB135_140.out; have hcz12_0 : w10.cell? ⟨gb140, 0, none⟩ = some (.int .u64 0) := (blk_cell BK140.out 0).trans rfl; have hcz12_1 : w10.cell? ⟨gb140, 1, none⟩ = some (.int .u64 0) := (blk_cell BK140.out 1).trans rfl; have hfz12_0 := blk_frozen BK140.out 0; have hfz12_1 := blk_frozen BK140.out 1) | (refine goesL_ (some 22) rfl rfl Try.func83 (by kernel_rfl) rfl #[.agg #[.int .u64 t136, .int .u64 t137]] rfl (by (try simp only [mT_, mC_, mN_]); first | done | rfl) ?_; (with_reducible refine (round_told.calls t136 t137 t141 t142 _ A5.out).mono ?_); rintro e w13 ⟨rfl, hb⟩; refine ⟨_, rfl, ?_⟩; replace BK135 := aA_ (blk_below (g := gb135) (o := .cells #[.int .u64 a0_0, .int .u64 a0_1] 128 (0, 0)) (by refine blk_far ?_ NB135_140.out _; refine blk_far ?_ NB135_140.out _; exact BK135.out) hb); replace BK140 := aA_ (blk_below (g := gb140) (o := .cells #[.int .u64 t136, .int .u64 t137] 128 (0, 0)) (by refine blk_put (cs := #[.int .u64 t136, .int .u64 0]) ?_ 1 _ rfl; refine blk_put (cs := #[.int .u64 0, .int .u64 0]) ?_ 0 _ rfl; exact BK140.out) hb); replace HB := bB_ (by repeat (with_reducible first | exact HB.out | apply bA_ | apply bN_ | apply bD_ | refine bS_ ?_ GE135.out | refine bS_ ?_ GE140.out)) hb; (try clear hb)))
  (try simp only [Act.put, sT_, sZ_, sS_])
  go_cut [34] (fun v34 wc => ∃ (kq : Nat) (x34_5 : Bool), v34 = .bool x34_5 ∧ Aside0 (round_Even.j0 kq t142 t141 x34_5 = some (r1, r2)) ∧ Aside0 (kq ≤ k) ∧ Aside0 (wc.heap[gb135]? = some (.cells #[.int .u64 a0_0, .int .u64 a0_1] 128 (0, 0))) ∧ Aside0 (wc.heap[gb140]? = some (.cells #[.int .u64 t136, .int .u64 t137] 128 (0, 0))) ∧ Aside0 (Below w.heap.size w wc))
  case first =>
   have H := HC6.out
   clear HC6
   by_cases c14 : t142 = 0
   ·rw [if_pos c14] at H
    have c14b0 : (t142 == 0) = true := beq_iff_eq.mpr c14
    have c14b1 : (t142 != 0) = false := bne_eq_false_iff_eq.mpr c14
    clear c14
    (first | rw [c14b0] | (simp only [i64_w, i32_w]; rw [c14b0]) | rw [c14b1] | skip)
    replace H := bI_ H
    obtain ⟨t143, A150, H⟩ := H
    (try dsimp only at H)
    have A15 := aA_ A150
    clear A150
    have H' := aA_ H
    clear H
    go_wp2_with (first | (go_at_call 84; (with_reducible refine (round_up.calls k t138 a1 ((Int.tmod t141 2) == 1) t143 _ A15.out).mono ?_); rintro e w' ⟨rfl, ⟨nd, rfl⟩⟩))
    go_meet
    case rel => exact ⟨_, (t143), (by first | rfl | simp | simp [*]), H', ⟨by first | omega | exact Nat.le_refl _⟩, ⟨by exact BK135.out⟩, ⟨by exact BK140.out⟩, ⟨by repeat (with_reducible first | exact HB.out | apply bA_ | apply bN_ | apply bD_ | refine bS_ ?_ GE135.out | refine bS_ ?_ GE140.out)⟩⟩
   ·rw [if_neg c14] at H
    have c14b0 : (t142 == 0) = false := beq_eq_false_iff_ne.mpr c14
    have c14b1 : (t142 != 0) = true := bne_iff_ne.mpr c14
    (first | rw [c14b0] | (simp only [i64_w, i32_w]; rw [c14b0]) | rw [c14b1] | skip)
    have H' := aA_ H
    clear H
    go_wp2
    go_meet
    case rel => exact ⟨_, (false), (by first | rfl | simp | simp [*]), H', ⟨by first | omega | exact Nat.le_refl _⟩, ⟨by exact BK135.out⟩, ⟨by exact BK140.out⟩, ⟨by repeat (with_reducible first | exact HB.out | apply bA_ | apply bN_ | apply bD_ | refine bS_ ?_ GE135.out | refine bS_ ?_ GE140.out)⟩⟩
  case rest =>
   clear HC6
   try clear c1
   try clear p2
   try clear c4
   try clear c4b0
   try clear c4b1
   try clear c7
   try clear c8
   try clear c11
   try clear c14
   try clear c14b0
   try clear c14b1
   try clear hcz12_0
   try clear hcz12_1
   try clear hcz8_0
   try clear hcz8_1
   try clear hfz12_0
   try clear hfz12_1
   try clear hfz8_0
   try clear hfz8_1
   obtain ⟨kq, x34_5, rfl, HA, HJ5, BK135, BK140, HB⟩ := hcut
   cases kq with
   | zero => exact absurd HA.out (by simp [round_Even.j0])
   | succ kj5 =>
    have H := HA.out
    clear HA
    simp only [round_Even.j0] at H
    by_cases c16 : x34_5 = true
    ·subst c16
     rw [if_pos rfl] at H
     replace H := bI_ H
     obtain ⟨⟨t144, t145⟩, A170, H⟩ := H
     (try dsimp only at H)
     have A17 := aA_ A170
     clear A170
     replace H := bI_ H
     obtain ⟨⟨t146, t147⟩, A180, H⟩ := H
     (try dsimp only at H)
     have A18 := aA_ A180
     clear A180
     simp only [Option.some.injEq, Prod.mk.injEq] at H
     obtain ⟨rfl, rfl⟩ := H
     go_wp2_with (first | (refine goesL_ (some 38) rfl rfl Try.func85 (by kernel_rfl) rfl #[.int .u64 (IntKind.u64.wrap ((IntKind.u64.wrap (t141)) + 1))] rfl (by (try simp only [mT_, mC_, mN_]); first | done | rfl) ?_; (with_reducible refine (wide_Of.calls (IntKind.u64.wrap ((IntKind.u64.wrap (t141)) + 1)) t144 t145 _ A17.out).mono ?_); rintro e w19 ⟨rfl, hb⟩; refine ⟨_, rfl, ?_⟩; replace BK135 := bK_ BK135 hb; replace BK140 := bK_ BK140 hb; replace HB := bB_ (by repeat (with_reducible first | exact HB.out | apply bA_ | apply bN_ | apply bD_ | refine bS_ ?_ GE135.out | refine bS_ ?_ GE140.out)) hb; (try clear hb)) | (refine goesL_ (some 39) rfl rfl Try.func83 (by kernel_rfl) rfl #[.agg #[.int .u64 t144, .int .u64 t145]] rfl (by (try simp only [mT_, mC_, mN_]); first | done | rfl) ?_; (with_reducible refine (round_told.calls t144 t145 t146 t147 _ A18.out).mono ?_); rintro e w20 ⟨rfl, hb⟩; refine ⟨_, rfl, ?_⟩; replace BK135 := bK_ BK135 hb; replace BK140 := bK_ BK140 hb; replace HB := bB_ (by repeat (with_reducible first | exact HB.out | apply bA_ | apply bN_ | apply bD_ | refine bS_ ?_ GE135.out | refine bS_ ?_ GE140.out)) hb; (try clear hb)))
     go_ret2
     exact ⟨by rfl, by repeat (with_reducible first | exact HB.out | apply bA_ | apply bN_ | apply bD_ | refine bS_ ?_ GE135.out | refine bS_ ?_ GE140.out)⟩
    ·replace c16 := Bool.eq_false_iff.mpr c16
     subst c16
     rw [if_neg (show ¬ (false = true) by decide)] at H
     simp only [Option.some.injEq, Prod.mk.injEq] at H
     obtain ⟨rfl, rfl⟩ := H
     go_wp2
     go_ret2
     exact ⟨by rfl, by repeat (with_reducible first | exact HB.out | apply bA_ | apply bN_ | apply bD_ | refine bS_ ?_ GE135.out | refine bS_ ?_ GE140.out)⟩
 ·rw [if_neg c4] at H
  have c4b0 : (t139 == 0) = false := beq_eq_false_iff_ne.mpr c4
  have c4b1 : (t139 != 0) = true := bne_iff_ne.mpr c4
  simp only [Option.some.injEq, Prod.mk.injEq] at H
  obtain ⟨rfl, rfl⟩ := H
  go_enter Try.func78, Try.ntmps78
  go_wp2_with (first | (refine box_event rfl (N := 2) rfl (cs := #[.int .u64 a0_0, .int .u64 a0_1]) (t := 128) ?hr ?_; (case hr => go_simp <;> rfl); intro gb135 hg w21 hbox hb; have BK135 := aA_ (hbox); have GW135 := gW_ hg (by repeat (with_reducible first | exact HB.out | apply bA_ | apply bN_ | apply bD_)); have GE135 := GW135; replace HB := bB_ (by repeat (with_reducible first | exact HB.out | apply bA_ | apply bN_ | apply bD_)) hb; clear hb hbox hg; have hcz22_0 : w21.cell? ⟨gb135, 0, none⟩ = some (.int .u64 a0_0) := (blk_cell BK135.out 0).trans rfl; have hcz22_1 : w21.cell? ⟨gb135, 1, none⟩ = some (.int .u64 a0_1) := (blk_cell BK135.out 1).trans rfl; have hfz22_0 := blk_frozen BK135.out 0; have hfz22_1 := blk_frozen BK135.out 1) | (refine goesL_ (some 13) rfl rfl Try.func82 (by kernel_rfl) rfl #[.agg #[.int .u64 a0_0, .int .u64 a0_1], .int .u64 a1] rfl (by (try simp only [mT_, mC_, mN_]); first | done | rfl) ?_; (with_reducible refine (wide_Div.calls a0_0 a0_1 a1 t136 t137 t138 t139 _ A3.out).mono ?_); rintro e w23 ⟨rfl, hb⟩; refine ⟨_, rfl, ?_⟩; replace BK135 := bK_ BK135 hb; replace HB := bB_ (by repeat (with_reducible first | exact HB.out | apply bA_ | apply bN_ | apply bD_ | refine bS_ ?_ GE135.out)) hb; (try clear hb)) | (refine box_event rfl (N := 6) rfl (cs := #[.int .u64 0, .int .u64 0]) (t := 128) ?hr ?_; (case hr => go_simp <;> rfl); intro gb140 hg w24 hbox hb; have BK140 := aA_ (hbox); have GW140 := gW_ hg (by repeat (with_reducible first | exact HB.out | apply bA_ | apply bN_ | apply bD_ | refine bS_ ?_ GE135.out)); have GE140 := GW140; replace HB := bB_ (by repeat (with_reducible first | exact HB.out | apply bA_ | apply bN_ | apply bD_ | refine bS_ ?_ GE135.out)) hb; have NB135_140 := nE_ hg BK135; have NB140_135 := aA_ NB135_140.out.symm; replace BK135 := bK_ BK135 hb; clear hb hbox hg; have hnb25 := NB140_135.out; have hnc25 := NB135_140.out; have hcz26_0 : w24.cell? ⟨gb140, 0, none⟩ = some (.int .u64 0) := (blk_cell BK140.out 0).trans rfl; have hcz26_1 : w24.cell? ⟨gb140, 1, none⟩ = some (.int .u64 0) := (blk_cell BK140.out 1).trans rfl; have hfz26_0 := blk_frozen BK140.out 0; have hfz26_1 := blk_frozen BK140.out 1))
  go_ret2
  exact ⟨by rfl, by repeat (with_reducible first | exact HB.out | apply bA_ | apply bN_ | apply bD_ | refine bS_ ?_ GE135.out | refine bS_ ?_ GE140.out)⟩

end Go.Proofs.Yteikafepdkijdaa.X
