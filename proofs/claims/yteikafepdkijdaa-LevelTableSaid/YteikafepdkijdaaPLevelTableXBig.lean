-- cut by prune.py, a program of this session
import Derived.Test.YteikafepdkijdaaPLevelTableX0
import Derived.Test.YteikafepdkijdaaPLevelTableHTrim
namespace Go.Proofs.Yteikafepdkijdaa.X
open Go.RowKit Go.Proofs.YteikafepdkijdaaW.PrintWords Go.Proofs.YteikafepdkijdaaW.PrintLast Go.Proofs.YteikafepdkijdaaW.PrintMore
attribute [local go_sem] max2_int min2_int max_two min_two
set_option linter.unusedVariables false
set_option linter.unusedSimpArgs false

def demurrageref01_Less.upsl : Nat → Nat → List Bool
 | 0, _ => []
 | n + 1, m => (m % 2 == 1) :: demurrageref01_Less.upsl n (m / 2)
def demurrageref01_Less.ups (n m : Nat) : Array Bool := ⟨demurrageref01_Less.upsl n m⟩
def demurrageref01_FromU.l0 : Nat → Int → List Int → Option (List Int)
 | 0, _, _ => none
 | k + 1, x0, x3 => if x0 > 0 then (if x3.length < 17592186044416 then (demurrageref01_FromU.l0 k (IntKind.u64.wrap (Int.tdiv x0 10000)) (x3 ++ [wrap64 (Int.tmod x0 10000)])) else (none)) else (some x3)
def demurrageref01_FromU.f (k : Nat) (a0 : Int) : Option (List Int) := demurrageref01_FromU.l0 k a0 ([] : List Int)
set_option maxHeartbeats 8000000 in
set_option maxRecDepth 100000 in
theorem demurrageref01_FromU.calls (k : Nat) (a0 : Int) (r : List Int) (w : World) (h : demurrageref01_FromU.f k a0 = some r) :
  Calls Try.prog 60 #[.int .u64 a0] w fun e w' => ∃ v0_ : Value, e = .returned (.agg #[v0_]) ∧ Kd.R (Kd.int .i64) 3 w' w.heap.size (fun _ => True) v0_ r ∧ Below w.heap.size w w' := by
 have hu98 := Try.underlying98
 have HB := aA_ (Below.refl w.heap.size w)
 have H : (demurrageref01_FromU.l0 k a0 ([] : List Int)) = some r := h
 clear h
 have H' := aA_ H
 clear H
 go_enter Try.func60, Try.ntmps60
 go_wp2_with (first | (refine box_event rfl (N := 2) rfl (cs := #[.slice none 0 0]) (t := 98) ?hr ?_; (case hr => go_simp <;> rfl); intro gb191 hg w2 hbox hb; have BK191 := aA_ (hbox); have GW191 := gW_ hg (by repeat (with_reducible first | exact HB.out | apply bA_ | apply bN_ | apply bD_)); have GE191 := GW191; replace HB := bB_ (by repeat (with_reducible first | exact HB.out | apply bA_ | apply bN_ | apply bD_)) hb; clear hb hbox hg))
 (try simp only [Act.put, sT_, sZ_, sS_])
 go_loopg [0, 3] k (fun kq v0 v3 w' => ∃ (x0_1 : Int) (x3_1 : List Int), v0 = .int .u64 x0_1 ∧ Aside0 (demurrageref01_FromU.l0 kq x0_1 x3_1 = some r) ∧ Aside0 (kq ≤ k) ∧ Aside0 (Kd.R (Kd.int .i64) 3 w' w.heap.size (fun _ => True) v3 x3_1) ∧ Aside0 (w'.heap[gb191]? = some (.cells #[(.slice none 0 0)] 98 (0, 0))) ∧ Aside0 (Below w.heap.size w w'))
 case atStart => exact ⟨(a0), (([] : List Int)), (by first | rfl | simp | simp [*]), H', ⟨Nat.le_refl _⟩, ⟨by first | exact Kd.R_nil _ _ _ _ _ | exact Kd.N_nil _ _ _ _ _ | exact Kd.V_nil _ _ _ _ _ | exact Kd.Q_nil _ _ _ _ _ | exact Kd.S_nil _ _ _ _ _⟩, ⟨by exact BK191.out⟩, ⟨by repeat (with_reducible first | exact HB.out | apply bA_ | apply bN_ | apply bD_ | refine bS_ ?_ GE191.out)⟩⟩
 case round =>
  clear H'
  try clear p2
  obtain ⟨x0_1, x3_1, rfl, HA, HK1, HO_3, BK191, HB⟩ := hrel
  cases gk with
  | zero => exact absurd HA.out (by simp [demurrageref01_FromU.l0])
  | succ k1 =>
   have H := HA.out
   clear HA
   simp only [demurrageref01_FromU.l0] at H
   by_cases c3 : x0_1 > 0
   ·rw [if_pos c3] at H
    have c3b0 : decide (0 < x0_1) = true := decide_eq_true c3
    clear c3
    by_cases c4 : x3_1.length < 17592186044416
    ·rw [if_pos c4] at H
     have LMc4 := aA_ c4
     clear c4
     obtain ⟨y192, hy192⟩ : ∃ y_ : List Int, y_ = (x3_1 ++ [wrap64 (Int.tmod x0_1 10000)]) := ⟨_, rfl⟩
     replace H : (demurrageref01_FromU.l0 k1 (IntKind.u64.wrap (Int.tdiv x0_1 10000)) y192) = some r := by first | (rw [hy192]; with_reducible exact H) | (have H2_ := (Option.bind_some _ _).symm.trans H; rw [hy192]; with_reducible exact H2_) | (have H2_ := (Option.bind_some _ _).symm.trans H; with_reducible exact H2_) | with_reducible exact H | (rw [hy192]; exact H) | exact H
     have Ny192 := aA_ hy192
     clear hy192
     have H' := aA_ H
     clear H
     go_wp2_with (first | ((with_reducible refine gate_builtin (b := .append) (xs := #[.tmp 6, .tmp 10]) rfl ?_); at_builtin; refine Kd.R_append (Kd.int .i64) (w0 := w) w.heap.size rfl (.tmp 6) (.tmp 10) 80 3 (.int .i64 0) 8 rfl Try.underlying80 info3 rfl (by decide) (by omega) u3 x3_1 (wrap64 (Int.tmod x0_1 10000)) [.int .i64 (wrap64 (Int.tmod x0_1 10000))] (fun _ => True) (fun _ => False) rfl rfl ?aP (fun _ hk => hk.elim) ?aF ?aO ?aB ?aS ?aL ?_; (case aP => exact rfl); (case aB => exact (by repeat (with_reducible first | exact HB.out | apply bA_ | apply bN_ | apply bD_ | refine bS_ ?_ GE191.out))); (case aF => exact (fun _ _ => trivial)); (case aO => exact (by (with_reducible repeat (first | apply Kd.R_alloc | apply Kd.R_drewN | apply Kd.R_drew)); exact HO_3.out)); (case aS => exact (below_size (by repeat (with_reducible first | exact HB.out | apply bA_ | apply bN_ | apply bD_ | refine bS_ ?_ GE191.out)))); (case aL => have := LMc4.out; omega); intro v193 w5 ho hb hg hat; rw [← Ny192.out] at ho; replace BK191 := aA_ (blk_grown (g := gb191) (o := .cells #[.slice none 0 0] 98 (0, 0)) BK191.out hg (Kd.R_ne HO_3.out BK191.out (by decide))); replace HB := aA_ (hb); have HO194 := aA_ (ho); clear HO_3; clear ho hb hg hat))
     go_roundg k1
     case measure => have := HK1.out; omega
     case rel => exact ⟨(IntKind.u64.wrap (Int.tdiv x0_1 10000)), (y192), (by first | rfl | simp | simp [*]), H', ⟨by have := HK1.out; omega⟩, ⟨by (with_reducible repeat (first | apply Kd.R_alloc | apply Kd.R_drewN | apply Kd.R_drew)); exact HO194.out⟩, ⟨by exact BK191.out⟩, ⟨by repeat (with_reducible first | exact HB.out | apply bA_ | apply bN_ | apply bD_ | refine bS_ ?_ GE191.out)⟩⟩
    ·rw [if_neg c4] at H
     exact absurd H (by simp)
   ·rw [if_neg c3] at H
    have c3b0 : decide (0 < x0_1) = false := decide_eq_false c3
    clear c3
    obtain rfl := Option.some.inj H
    obtain ⟨Ao6, co6, eo6⟩ := Kd.R_slice HO_3.out
    subst eo6
    have hcz7_0 : wr.cell? ⟨gb191, 0, none⟩ = some (.slice none 0 0) := (blk_cell BK191.out 0).trans rfl
    have hfz7_0 := blk_frozen BK191.out 0
    go_wp2
    refine bodyPost_ret (results_cell_row rfl _ _ gb191 98 #[.slice Ao6 x3_1.length co6] (0, 0) _ rfl (by refine blk_put (cs := #[.slice none 0 0]) ?_ 0 _ rfl; exact BK191.out) Try.underlying98 rfl (by kernel_rfl)) rfl ?_
    exact ⟨_, by rfl, by (with_reducible repeat (first | apply Kd.R_alloc | apply Kd.R_drewN | apply Kd.R_drew)); exact Kd.R_mono (Kd.R_far (p := ⟨gb191, 0, none⟩) (Kd.R_types HO_3.out BK191.out (by decide)) (fun _ hk => hk.2) (.slice Ao6 x3_1.length co6)) (fun _ hk => trivial), by repeat (with_reducible first | exact HB.out | apply bA_ | apply bN_ | apply bD_ | refine bS_ ?_ GE191.out)⟩

def demurrageref01_part.f (l0_0 : List Int) (a1 : Int) : Option (Int) := if a1 < (l0_0.length : Int) then (if 0 ≤ a1 then (some (rd l0_0 a1)) else (none)) else (some 0)
set_option maxHeartbeats 8000000 in
set_option maxRecDepth 100000 in
theorem demurrageref01_part.calls (A0_0 : Option Addr) (c0_0 : Nat) (l0_0 : List Int) (a1 : Int) (r : Int) (w : World) (hr0_0 : Kd.C (Kd.int .i64) w A0_0 l0_0.length l0_0) (hc0_0 : l0_0.length ≤ c0_0) (h : demurrageref01_part.f l0_0 a1 = some r) :
  Calls Try.prog 67 #[.agg #[.slice A0_0 l0_0.length c0_0], .int .i64 a1] w fun e w' => e = .returned (.int .i64 r) ∧ Below w.heap.size w w' := by
 have hu98 := Try.underlying98
 have HR0_0 := aA_ hr0_0
 have HC0_0 := aA_ hc0_0
 clear hr0_0 hc0_0
 have HB := aA_ (Below.refl w.heap.size w)
 have H : (if a1 < (l0_0.length : Int) then (if 0 ≤ a1 then (some (rd l0_0 a1)) else (none)) else (some 0)) = some r := h
 clear h
 by_cases c3 : a1 < (l0_0.length : Int)
 ·rw [if_pos c3] at H
  have c3b0 : decide (a1 < (l0_0.length : Int)) = true := decide_eq_true c3
  clear c3
  by_cases c4 : 0 ≤ a1
  ·rw [if_pos c4] at H
   have c4b0 : decide (0 ≤ a1) = true := decide_eq_true c4
   clear c4
   obtain rfl := Option.some.inj H
   go_enter Try.func67, Try.ntmps67
   go_wp2_with (first | (refine box_event rfl (N := 2) rfl (cs := #[.slice A0_0 l0_0.length c0_0]) (t := 98) ?hr ?_; (case hr => go_simp <;> rfl); intro gb199 hg w5 hbox hb; have BK199 := aA_ (hbox); have GW199 := gW_ hg (by repeat (with_reducible first | exact HB.out | apply bA_ | apply bN_ | apply bD_)); have GE199 := GW199; replace HB := bB_ (by repeat (with_reducible first | exact HB.out | apply bA_ | apply bN_ | apply bD_)) hb; clear hb hbox hg; have hcz6_0 : w5.cell? ⟨gb199, 0, none⟩ = some (.slice A0_0 l0_0.length c0_0) := (blk_cell BK199.out 0).trans rfl; have hfz6_0 := blk_frozen BK199.out 0; have p200 : 0 ≤ (a1 : Int) := of_decide_eq_true (by first | (with_reducible assumption) | assumption); have q200 : a1 < (l0_0.length : Int) := of_decide_eq_true (by first | (with_reducible assumption) | assumption); obtain ⟨ad200, e200, hx200_0⟩ := Kd.at_int HR0_0.out a1 p200 q200; cases e200; replace hx200_0 := cC_ HB hx200_0; replace p200 := eq_true p200; replace q200 := eq_true q200))
   go_ret
   exact ⟨by rfl, by repeat (with_reducible first | exact HB.out | apply bA_ | apply bN_ | apply bD_ | refine bS_ ?_ GE199.out)⟩
  ·rw [if_neg c4] at H
   exact absurd H (by simp)
 ·rw [if_neg c3] at H
  have c3b0 : decide (a1 < (l0_0.length : Int)) = false := decide_eq_false c3
  clear c3
  obtain rfl := Option.some.inj H
  go_enter Try.func67, Try.ntmps67
  go_wp2_with (first | (refine box_event rfl (N := 2) rfl (cs := #[.slice A0_0 l0_0.length c0_0]) (t := 98) ?hr ?_; (case hr => go_simp <;> rfl); intro gb199 hg w7 hbox hb; have BK199 := aA_ (hbox); have GW199 := gW_ hg (by repeat (with_reducible first | exact HB.out | apply bA_ | apply bN_ | apply bD_)); have GE199 := GW199; replace HB := bB_ (by repeat (with_reducible first | exact HB.out | apply bA_ | apply bN_ | apply bD_)) hb; clear hb hbox hg; have hcz8_0 : w7.cell? ⟨gb199, 0, none⟩ = some (.slice A0_0 l0_0.length c0_0) := (blk_cell BK199.out 0).trans rfl; have hfz8_0 := blk_frozen BK199.out 0))
  go_ret
  exact ⟨by rfl, by repeat (with_reducible first | exact HB.out | apply bA_ | apply bN_ | apply bD_ | refine bS_ ?_ GE199.out)⟩

mutual
def demurrageref01_Cmp.j0 : Nat → Int → List Int → List Int → Option (Int)
 | 0, _, _, _ => none
 | k + 1, x5, x202000, x203000 => demurrageref01_Cmp.l0 k (wrap64 (x5 - 1)) x202000 x203000
def demurrageref01_Cmp.l0 : Nat → Int → List Int → List Int → Option (Int)
 | 0, _, _, _ => none
 | k + 1, x6, x202000, x203000 => if x6 ≥ 0 then ((demurrageref01_part.f x202000 x6).bind fun t203 => ((demurrageref01_part.f x203000 x6).bind fun t204 => (if t203 < t204 then (some (-1)) else (if t203 > t204 then (some 1) else (demurrageref01_Cmp.l0 k (wrap64 (x6 - 1)) x202000 x203000))))) else (some 0)
end
def demurrageref01_Cmp.f (k : Nat) (l0_0 : List Int) (l1_0 : List Int) : Option (Int) := if (l1_0.length : Int) > (l0_0.length : Int) then (demurrageref01_Cmp.j0 k (l1_0.length : Int) l0_0 l1_0) else (demurrageref01_Cmp.j0 k (l0_0.length : Int) l0_0 l1_0)
set_option maxHeartbeats 8000000 in
set_option maxRecDepth 100000 in
theorem demurrageref01_Cmp.calls (k : Nat) (A0_0 : Option Addr) (c0_0 : Nat) (l0_0 : List Int) (A1_0 : Option Addr) (c1_0 : Nat) (l1_0 : List Int) (r : Int) (w : World) (hr0_0 : Kd.C (Kd.int .i64) w A0_0 l0_0.length l0_0) (hc0_0 : l0_0.length ≤ c0_0) (hr1_0 : Kd.C (Kd.int .i64) w A1_0 l1_0.length l1_0) (hc1_0 : l1_0.length ≤ c1_0) (h : demurrageref01_Cmp.f k l0_0 l1_0 = some r) :
  Calls Try.prog 50 #[.agg #[.slice A0_0 l0_0.length c0_0], .agg #[.slice A1_0 l1_0.length c1_0]] w fun e w' => e = .returned (.int .i64 r) ∧ Below w.heap.size w w' := by
 have hu98 := Try.underlying98
 have HR0_0 := aA_ hr0_0
 have HC0_0 := aA_ hc0_0
 clear hr0_0 hc0_0
 have HR1_0 := aA_ hr1_0
 have HC1_0 := aA_ hc1_0
 clear hr1_0 hc1_0
 have HB := aA_ (Below.refl w.heap.size w)
 have H : (if (l1_0.length : Int) > (l0_0.length : Int) then (demurrageref01_Cmp.j0 k (l1_0.length : Int) l0_0 l1_0) else (demurrageref01_Cmp.j0 k (l0_0.length : Int) l0_0 l1_0)) = some r := h
 clear h
 have HC3 := aA_ H
 clear H
 go_enter Try.func50, Try.ntmps50
 go_upto_if 16 with (first | (refine box_event rfl (N := 2) rfl (cs := #[.slice A0_0 l0_0.length c0_0]) (t := 98) ?hr ?_; (case hr => go_simp <;> rfl); intro gb201 hg w4 hbox hb; have BK201 := aA_ (hbox); have GW201 := gW_ hg (by repeat (with_reducible first | exact HB.out | apply bA_ | apply bN_ | apply bD_)); have GE201 := GW201; replace HB := bB_ (by repeat (with_reducible first | exact HB.out | apply bA_ | apply bN_ | apply bD_)) hb; clear hb hbox hg) | (refine box_event rfl (N := 3) rfl (cs := #[.slice A1_0 l1_0.length c1_0]) (t := 98) ?hr ?_; (case hr => go_simp <;> rfl); intro gb202 hg w5 hbox hb; have BK202 := aA_ (hbox); have GW202 := gW_ hg (by repeat (with_reducible first | exact HB.out | apply bA_ | apply bN_ | apply bD_ | refine bS_ ?_ GE201.out)); have GE202 := GW202; replace HB := bB_ (by repeat (with_reducible first | exact HB.out | apply bA_ | apply bN_ | apply bD_ | refine bS_ ?_ GE201.out)) hb; have NB201_202 := nE_ hg BK201; have NB202_201 := aA_ NB201_202.out.symm; replace BK201 := bK_ BK201 hb; clear hb hbox hg; have hnb6 := NB201_202.out; have hnc6 := NB202_201.out; have hcz7_0 : w5.cell? ⟨gb201, 0, none⟩ = some (.slice A0_0 l0_0.length c0_0) := (blk_cell BK201.out 0).trans rfl; have hfz7_0 := blk_frozen BK201.out 0; have hcz8_0 : w5.cell? ⟨gb202, 0, none⟩ = some (.slice A1_0 l1_0.length c1_0) := (blk_cell BK202.out 0).trans rfl; have hfz8_0 := blk_frozen BK202.out 0))
 (try simp only [Act.put, sT_, sZ_, sS_])
 go_cut [5] (fun v5 wc => ∃ (kq : Nat) (x5_2 : Int), v5 = .int .i64 x5_2 ∧ Aside0 (demurrageref01_Cmp.j0 kq x5_2 l0_0 l1_0 = some r) ∧ Aside0 (kq ≤ k) ∧ Aside0 (wc.heap[gb201]? = some (.cells #[(.slice A0_0 l0_0.length c0_0)] 98 (0, 0))) ∧ Aside0 (wc.heap[gb202]? = some (.cells #[(.slice A1_0 l1_0.length c1_0)] 98 (0, 0))) ∧ Aside0 (Below w.heap.size w wc))
 case first =>
  have H := HC3.out
  clear HC3
  by_cases c9 : (l1_0.length : Int) > (l0_0.length : Int)
  ·rw [if_pos c9] at H
   have c9b0 : decide ((l0_0.length : Int) < (l1_0.length : Int)) = true := decide_eq_true c9
   have c9b1 : decide (l0_0.length < l1_0.length) = true := decide_eq_true (Int.ofNat_lt.mp c9)
   clear c9
   (first | rw [c9b0] | (simp only [i64_w, i32_w]; rw [c9b0]) | rw [c9b1] | skip)
   have H' := aA_ H
   clear H
   have hnb10 := NB202_201.out
   have hnc10 := NB201_202.out
   have hcz11_0 : w5.cell? ⟨gb202, 0, none⟩ = some (.slice A1_0 l1_0.length c1_0) := (blk_cell BK202.out 0).trans rfl
   have hfz11_0 := blk_frozen BK202.out 0
   go_wp2
   go_meet
   case rel => exact ⟨_, _, (by first | rfl | simp | simp [*]), H', ⟨by first | omega | exact Nat.le_refl _⟩, ⟨by exact BK201.out⟩, ⟨by exact BK202.out⟩, ⟨by repeat (with_reducible first | exact HB.out | apply bA_ | apply bN_ | apply bD_ | refine bS_ ?_ GE201.out | refine bS_ ?_ GE202.out)⟩⟩
  ·rw [if_neg c9] at H
   have c9b0 : decide ((l0_0.length : Int) < (l1_0.length : Int)) = false := decide_eq_false c9
   have c9b1 : decide (l0_0.length < l1_0.length) = false := decide_eq_false (fun h => c9 (Int.ofNat_lt.mpr h))
   clear c9
   (first | rw [c9b0] | (simp only [i64_w, i32_w]; rw [c9b0]) | rw [c9b1] | skip)
   have H' := aA_ H
   clear H
   go_wp2
   go_meet
   case rel => exact ⟨_, _, (by first | rfl | simp | simp [*]), H', ⟨by first | omega | exact Nat.le_refl _⟩, ⟨by exact BK201.out⟩, ⟨by exact BK202.out⟩, ⟨by repeat (with_reducible first | exact HB.out | apply bA_ | apply bN_ | apply bD_ | refine bS_ ?_ GE201.out | refine bS_ ?_ GE202.out)⟩⟩
 case rest =>
  clear HC3
  try clear c1
  try clear p2
  try clear c5
  try clear c6
  try clear c9
  try clear c9b0
  try clear c9b1
  try clear c10
  try clear hcz11_0
  try clear hcz7_0
  try clear hcz8_0
  try clear hfz11_0
  try clear hfz7_0
  try clear hfz8_0
  obtain ⟨kq, x5_2, rfl, HA, HJ2, BK201, BK202, HB⟩ := hcut
  cases kq with
  | zero => exact absurd HA.out (by simp [demurrageref01_Cmp.j0])
  | succ kj2 =>
   have H := HA.out
   clear HA
   simp only [demurrageref01_Cmp.j0] at H
   have H' := aA_ H
   clear H
   go_wp2
   (try simp only [Act.put, sT_, sZ_, sS_])
   go_loopg [6] kj2 (fun kq v6 w' => ∃ (x6_2 : Int), v6 = .int .i64 x6_2 ∧ Aside0 (demurrageref01_Cmp.l0 kq x6_2 l0_0 l1_0 = some r) ∧ Aside0 (kq ≤ kj2) ∧ Aside0 (w'.heap[gb201]? = some (.cells #[(.slice A0_0 l0_0.length c0_0)] 98 (0, 0))) ∧ Aside0 (w'.heap[gb202]? = some (.cells #[(.slice A1_0 l1_0.length c1_0)] 98 (0, 0))) ∧ Aside0 (Below w.heap.size w w'))
   case atStart => exact ⟨(wrap64 (x5_2 - 1)), (by first | rfl | simp | simp [*]), H', ⟨Nat.le_refl _⟩, ⟨by exact BK201.out⟩, ⟨by exact BK202.out⟩, ⟨by repeat (with_reducible first | exact HB.out | apply bA_ | apply bN_ | apply bD_ | refine bS_ ?_ GE201.out | refine bS_ ?_ GE202.out)⟩⟩
   case round =>
    clear H'
    try clear c1
    try clear p2
    try clear c5
    try clear c6
    try clear p6
    try clear c9
    try clear c9b0
    try clear c9b1
    try clear c10
    try clear hcz11_0
    try clear hcz7_0
    try clear hcz8_0
    try clear hfz11_0
    try clear hfz7_0
    try clear hfz8_0
    try clear p2
    obtain ⟨x6_2, rfl, HA, HK2, BK201, BK202, HB⟩ := hrel
    cases gk with
    | zero => exact absurd HA.out (by simp [demurrageref01_Cmp.l0])
    | succ k2 =>
     have H := HA.out
     clear HA
     simp only [demurrageref01_Cmp.l0] at H
     by_cases c12 : x6_2 ≥ 0
     rotate_left
     ·rw [if_neg c12] at H
      have c12b0 : decide (0 ≤ x6_2) = false := decide_eq_false c12
      clear c12
      obtain rfl := Option.some.inj H
      go_wp2
      go_ret
      exact ⟨by rfl, by repeat (with_reducible first | exact HB.out | apply bA_ | apply bN_ | apply bD_ | refine bS_ ?_ GE201.out | refine bS_ ?_ GE202.out)⟩
     rw [if_pos c12] at H
     have c12b0 : decide (0 ≤ x6_2) = true := decide_eq_true c12
     clear c12
     replace H := bI_ H
     obtain ⟨t203, A130, H⟩ := H
     (try dsimp only at H)
     have A13 := aA_ A130
     clear A130
     replace H := bI_ H
     obtain ⟨t204, A140, H⟩ := H
     (try dsimp only at H)
     have A14 := aA_ A140
     clear A140
     by_cases c15 : t203 < t204
     focus
      rw [if_pos c15] at H
      have c15b0 : decide (t203 < t204) = true := decide_eq_true c15
      clear c15
      obtain rfl := Option.some.inj H
     rotate_left
     focus
      rw [if_neg c15] at H
      have c15b0 : decide (t203 < t204) = false := decide_eq_false c15
      clear c15
      by_cases c21 : t203 > t204
      focus
       rw [if_pos c21] at H
       have c21b0 : decide (t204 < t203) = true := decide_eq_true c21
       clear c21
       obtain rfl := Option.some.inj H
      rotate_left
      focus
       rw [if_neg c21] at H
       have c21b0 : decide (t204 < t203) = false := decide_eq_false c21
       clear c21
       have H' := aA_ H
       clear H
     all_goals
      have hnb16 := NB201_202.out
      have hnc16 := NB202_201.out
      have hcz17_0 : wr.cell? ⟨gb201, 0, none⟩ = some (.slice A0_0 l0_0.length c0_0) := (blk_cell BK201.out 0).trans rfl
      have hfz17_0 := blk_frozen BK201.out 0
      go_wp2_with (first | (refine goesL_ (some 28) rfl rfl Try.func67 (by kernel_rfl) rfl #[.agg #[.slice A0_0 l0_0.length c0_0], .int .i64 x6_2] rfl (by (try simp only [mT_, mC_, mN_]); first | done | rfl) ?_; (with_reducible refine (demurrageref01_part.calls _ _ l0_0 x6_2 t203 _ ?side1 ?side2 A13.out).mono ?_); (case side1 => repeat (first | exact (Kd.C_below HR0_0.out HB.out) | (with_reducible first | refine Kd.C_alloc ?_ _ | refine Kd.C_drewN ?_ _ | refine Kd.C_drew ?_))); (case side2 => exact HC0_0.out); rintro e w18 ⟨rfl, hb⟩; refine ⟨_, rfl, ?_⟩; replace BK201 := bK_ BK201 hb; replace BK202 := bK_ BK202 hb; replace HB := bB_ (by repeat (with_reducible first | exact HB.out | apply bA_ | apply bN_ | apply bD_ | refine bS_ ?_ GE201.out | refine bS_ ?_ GE202.out)) hb; (try clear hb); have hcz19_0 : w18.cell? ⟨gb202, 0, none⟩ = some (.slice A1_0 l1_0.length c1_0) := (blk_cell BK202.out 0).trans rfl; have hfz19_0 := blk_frozen BK202.out 0) | (refine goesL_ (some 31) rfl rfl Try.func67 (by kernel_rfl) rfl #[.agg #[.slice A1_0 l1_0.length c1_0], .int .i64 x6_2] rfl (by (try simp only [mT_, mC_, mN_]); first | done | rfl) ?_; (with_reducible refine (demurrageref01_part.calls _ _ l1_0 x6_2 t204 _ ?side1 ?side2 A14.out).mono ?_); (case side1 => repeat (first | exact (Kd.C_below HR1_0.out HB.out) | (with_reducible first | refine Kd.C_alloc ?_ _ | refine Kd.C_drewN ?_ _ | refine Kd.C_drew ?_))); (case side2 => exact HC1_0.out); rintro e w20 ⟨rfl, hb⟩; refine ⟨_, rfl, ?_⟩; replace BK201 := bK_ BK201 hb; replace BK202 := bK_ BK202 hb; replace HB := bB_ (by repeat (with_reducible first | exact HB.out | apply bA_ | apply bN_ | apply bD_ | refine bS_ ?_ GE201.out | refine bS_ ?_ GE202.out)) hb; (try clear hb)))
     ·go_roundg k2
      case measure => have := HJ2.out; have := HK2.out; omega
      case rel => exact ⟨(wrap64 (x6_2 - 1)), (by first | rfl | simp | simp [*]), H', ⟨by have := HJ2.out; have := HK2.out; omega⟩, ⟨by exact BK201.out⟩, ⟨by exact BK202.out⟩, ⟨by repeat (with_reducible first | exact HB.out | apply bA_ | apply bN_ | apply bD_ | refine bS_ ?_ GE201.out | refine bS_ ?_ GE202.out)⟩⟩
     ·go_ret
      exact ⟨by rfl, by repeat (with_reducible first | exact HB.out | apply bA_ | apply bN_ | apply bD_ | refine bS_ ?_ GE201.out | refine bS_ ?_ GE202.out)⟩
     ·go_ret
      exact ⟨by rfl, by repeat (with_reducible first | exact HB.out | apply bA_ | apply bN_ | apply bD_ | refine bS_ ?_ GE201.out | refine bS_ ?_ GE202.out)⟩

mutual
def demurrageref01_Prod.l0 : Nat → List Int → Int → List Int → List Int → Option (List Int)
 | 0, _, _, _, _ => none
 | k + 1, x5, x6, x206000, x207000 => if x6 < (x206000.length : Int) then (demurrageref01_Prod.l1 k x5 x6 0 0 x206000 x207000) else ((demurrageref01_trim.f x5).bind fun t211 => (some t211))
def demurrageref01_Prod.l1 : Nat → List Int → Int → Int → Int → List Int → List Int → Option (List Int)
 | 0, _, _, _, _, _, _ => none
 | k + 1, x5, x6, x7, x8, x206000, x207000 => if x8 < (x207000.length : Int) then (if 0 ≤ (wrap64 (x6 + x8)) then (if (wrap64 (x6 + x8)) < (x5.length : Int) then (if 0 ≤ x6 then (if x6 < (x206000.length : Int) then ((demurrageref01_part.f x207000 x8).bind fun t216 => (demurrageref01_Prod.l1 k (x5.set ((wrap64 (x6 + x8)) : Int).toNat (Int.tmod (wrap64 ((wrap64 ((rd x5 (wrap64 (x6 + x8))) + (wrap64 ((rd x206000 x6) * t216)))) + x7)) 10000)) x6 (wrap64 (Int.tdiv (wrap64 ((wrap64 ((rd x5 (wrap64 (x6 + x8))) + (wrap64 ((rd x206000 x6) * t216)))) + x7)) 10000)) (wrap64 (x8 + 1)) x206000 x207000)) else (none)) else (none)) else (none)) else (none)) else (if x7 > 0 then (if 0 ≤ (wrap64 (x6 + x8)) then (if (wrap64 (x6 + x8)) < (x5.length : Int) then (if 0 ≤ x6 then (if x6 < (x206000.length : Int) then ((demurrageref01_part.f x207000 x8).bind fun t220 => (demurrageref01_Prod.l1 k (x5.set ((wrap64 (x6 + x8)) : Int).toNat (Int.tmod (wrap64 ((wrap64 ((rd x5 (wrap64 (x6 + x8))) + (wrap64 ((rd x206000 x6) * t220)))) + x7)) 10000)) x6 (wrap64 (Int.tdiv (wrap64 ((wrap64 ((rd x5 (wrap64 (x6 + x8))) + (wrap64 ((rd x206000 x6) * t220)))) + x7)) 10000)) (wrap64 (x8 + 1)) x206000 x207000)) else (none)) else (none)) else (none)) else (none)) else (demurrageref01_Prod.l0 k x5 (wrap64 (x6 + 1)) x206000 x207000))
end
def demurrageref01_Prod.f (k : Nat) (l0_0 : List Int) (l1_0 : List Int) : Option (List Int) := if 0 ≤ (wrap64 ((wrap64 ((l0_0.length : Int) + (l1_0.length : Int))) + 1)) then (if (wrap64 ((wrap64 ((l0_0.length : Int) + (l1_0.length : Int))) + 1) : Int).toNat ≤ 35184372088832 then (demurrageref01_Prod.l0 k (List.replicate (wrap64 ((wrap64 ((l0_0.length : Int) + (l1_0.length : Int))) + 1) : Int).toNat 0) 0 l0_0 l1_0) else (none)) else (none)
def demurrageref01_Prod.T9 : Bool × List (List Nat × List Nat) := (true, [([], []), ([], []), ([], []), ([1, 2], [1, 2]), ([0, 3], [0, 3]), ([4], [4]), ([], []), ([6], [6]), ([], []), ([7, 8], [7, 8]), ([9], [9]), ([], []), ([], []), ([11, 12], [11, 12]), ([10, 13], [10, 13]), ([5, 14], [5, 14]), ([], []), ([15, 16], [15, 16]), ([17, 13, 0, 1, 2, 3, 4, 5, 6, 7, 8, 9, 10, 11, 12, 13, 14, 15, 16, 17], [17])])
def demurrageref01_Prod.B9 : List Nat := [0, 0, 0, 6, 15, 31, 0, 64, 0, 448, 960, 0, 0, 6144, 16320, 32767, 0, 131071, 262143]
theorem demurrageref01_Prod.tab9 : rtab .any (opsOf Try.f59 9) = demurrageref01_Prod.T9 := by kernel_rfl
theorem demurrageref01_Prod.bits9 : waitsOk demurrageref01_Prod.T9.2 demurrageref01_Prod.B9 = true := by kernel_rfl
set_option maxHeartbeats 8000000 in
set_option maxRecDepth 100000 in
theorem demurrageref01_Prod.calls (k : Nat) (A0_0 : Option Addr) (c0_0 : Nat) (l0_0 : List Int) (A1_0 : Option Addr) (c1_0 : Nat) (l1_0 : List Int) (r : List Int) (w : World) (hr0_0 : Kd.C (Kd.int .i64) w A0_0 l0_0.length l0_0) (hc0_0 : l0_0.length ≤ c0_0) (hr1_0 : Kd.C (Kd.int .i64) w A1_0 l1_0.length l1_0) (hc1_0 : l1_0.length ≤ c1_0) (h : demurrageref01_Prod.f k l0_0 l1_0 = some r) :
  Calls Try.prog 59 #[.agg #[.slice A0_0 l0_0.length c0_0], .agg #[.slice A1_0 l1_0.length c1_0]] w fun e w' => ∃ v0_ : Value, e = .returned (.agg #[v0_]) ∧ Kd.R (Kd.int .i64) 3 w' w.heap.size (fun _ => True) v0_ r ∧ Below w.heap.size w w' := by
 have hu98 := Try.underlying98
 have HR0_0 := aA_ hr0_0
 have HC0_0 := aA_ hc0_0
 clear hr0_0 hc0_0
 have HR1_0 := aA_ hr1_0
 have HC1_0 := aA_ hc1_0
 clear hr1_0 hc1_0
 have HB := aA_ (Below.refl w.heap.size w)
 have H : (if 0 ≤ (wrap64 ((wrap64 ((l0_0.length : Int) + (l1_0.length : Int))) + 1)) then (if (wrap64 ((wrap64 ((l0_0.length : Int) + (l1_0.length : Int))) + 1) : Int).toNat ≤ 35184372088832 then (demurrageref01_Prod.l0 k (List.replicate (wrap64 ((wrap64 ((l0_0.length : Int) + (l1_0.length : Int))) + 1) : Int).toNat 0) 0 l0_0 l1_0) else (none)) else (none)) = some r := h
 clear h
 obtain ⟨ji3, hji3⟩ : ∃ j_ : Int, (wrap64 ((wrap64 ((l0_0.length : Int) + (l1_0.length : Int))) + 1)) = j_ := ⟨_, rfl⟩
 replace H : (if 0 ≤ (ji3) then (if (ji3 : Int).toNat ≤ 35184372088832 then (demurrageref01_Prod.l0 k (List.replicate (ji3 : Int).toNat 0) 0 l0_0 l1_0) else (none)) else (none)) = some r := by first | (rw [hji3] at H; exact H) | (simp only [hji3] at H ⊢; exact H)
 have hji3w : (IntKind.i64.wrap ((wrap64 ((l0_0.length : Int) + (l1_0.length : Int))) + 1)) = ji3 := (i64_w _).trans hji3
 by_cases c4 : 0 ≤ (ji3)
 ·rw [if_pos c4] at H
  have c4b0 := eq_true c4
  have c4b1 : decide (0 ≤ (ji3)) = true := decide_eq_true c4
  clear c4
  by_cases c5 : (ji3 : Int).toNat ≤ 35184372088832
  ·rw [if_pos c5] at H
   have c5b0 := eq_true c5
   have c5b1 : decide ((ji3 : Int).toNat ≤ 35184372088832) = true := decide_eq_true c5
   clear c5
   obtain ⟨y208, hy208⟩ : ∃ y_ : List Int, y_ = (List.replicate (ji3 : Int).toNat 0) := ⟨_, rfl⟩
   replace H : (demurrageref01_Prod.l0 k y208 0 l0_0 l1_0) = some r := by first | (rw [hy208]; with_reducible exact H) | (have H2_ := (Option.bind_some _ _).symm.trans H; rw [hy208]; with_reducible exact H2_) | (have H2_ := (Option.bind_some _ _).symm.trans H; with_reducible exact H2_) | with_reducible exact H | (rw [hy208]; exact H) | exact H
   have Ny208 := aA_ hy208
   clear hy208
   have H' := aA_ H
   clear H
   go_enter Try.func59, Try.ntmps59
   go_wp2_with (first | (refine box_event rfl (N := 2) rfl (cs := #[.slice A0_0 l0_0.length c0_0]) (t := 98) ?hr ?_; (case hr => go_simp <;> rfl); intro gb205 hg w6 hbox hb; have BK205 := aA_ (hbox); have GW205 := gW_ hg (by repeat (with_reducible first | exact HB.out | apply bA_ | apply bN_ | apply bD_)); have GE205 := GW205; replace HB := bB_ (by repeat (with_reducible first | exact HB.out | apply bA_ | apply bN_ | apply bD_)) hb; clear hb hbox hg) | (refine box_event rfl (N := 3) rfl (cs := #[.slice A1_0 l1_0.length c1_0]) (t := 98) ?hr ?_; (case hr => go_simp <;> rfl); intro gb206 hg w7 hbox hb; have BK206 := aA_ (hbox); have GW206 := gW_ hg (by repeat (with_reducible first | exact HB.out | apply bA_ | apply bN_ | apply bD_ | refine bS_ ?_ GE205.out)); have GE206 := GW206; replace HB := bB_ (by repeat (with_reducible first | exact HB.out | apply bA_ | apply bN_ | apply bD_ | refine bS_ ?_ GE205.out)) hb; have NB205_206 := nE_ hg BK205; have NB206_205 := aA_ NB205_206.out.symm; replace BK205 := bK_ BK205 hb; clear hb hbox hg) | (refine box_event rfl (N := 4) rfl (cs := #[.slice none 0 0]) (t := 98) ?hr ?_; (case hr => go_simp <;> rfl); intro gb207 hg w8 hbox hb; have BK207 := aA_ (hbox); have GW207 := gW_ hg (by repeat (with_reducible first | exact HB.out | apply bA_ | apply bN_ | apply bD_ | refine bS_ ?_ GE205.out | refine bS_ ?_ GE206.out)); have GE207 := GW207; replace HB := bB_ (by repeat (with_reducible first | exact HB.out | apply bA_ | apply bN_ | apply bD_ | refine bS_ ?_ GE205.out | refine bS_ ?_ GE206.out)) hb; have NB205_207 := nE_ hg BK205; have NB207_205 := aA_ NB205_207.out.symm; replace BK205 := bK_ BK205 hb; have NB206_207 := nE_ hg BK206; have NB207_206 := aA_ NB206_207.out.symm; replace BK206 := bK_ BK206 hb; clear hb hbox hg; have hnb9 := NB205_206.out; have hnc9 := NB206_205.out; have hnb10 := NB205_207.out; have hnc10 := NB207_205.out; have hcz11_0 : w8.cell? ⟨gb205, 0, none⟩ = some (.slice A0_0 l0_0.length c0_0) := (blk_cell BK205.out 0).trans rfl; have hfz11_0 := blk_frozen BK205.out 0; have hnb12 := NB206_207.out; have hnc12 := NB207_206.out; have hcz13_0 : w8.cell? ⟨gb206, 0, none⟩ = some (.slice A1_0 l1_0.length c1_0) := (blk_cell BK206.out 0).trans rfl; have hfz13_0 := blk_frozen BK206.out 0) | ((with_reducible refine gate_dst (N := 18) rfl ?_); refine Kd.R_make (Kd.int .i64) _ 3 rfl (N := 18) rfl 80 _ _ rfl ji3 rfl rfl Try.underlying80 (.int .i64 0) 8 info3 rfl (by decide) (by omega) 0 (ok := fun _ => True) (okp := fun _ => True) rfl (fun _ hk => hk) trivial (of_decide_eq_true (by first | (with_reducible assumption) | assumption)) (Nat.le_trans (Nat.mul_le_mul_right _ (of_decide_eq_true (by first | (with_reducible assumption) | assumption) : ji3.toNat ≤ 35184372088832)) (by omega)) (Below.refl _ _) (Nat.le_refl _) ?_; intro v209 w14 ho15 hb hg_ hnew_; clear hg_ hnew_; (first | rw [← Ny208.out] at ho15 | (simp only [Int.reduceToNat] at ho15; rw [← Ny208.out] at ho15)); have HO210 := aA_ (Kd.R_lower ho15 (below_size (by repeat (with_reducible first | exact HB.out | apply bA_ | apply bN_ | apply bD_ | refine bS_ ?_ GE205.out | refine bS_ ?_ GE206.out | refine bS_ ?_ GE207.out)))); replace BK205 := bK_ BK205 hb; replace BK206 := bK_ BK206 hb; replace BK207 := bK_ BK207 hb; replace HB := bB_ (by repeat (with_reducible first | exact HB.out | apply bA_ | apply bN_ | apply bD_ | refine bS_ ?_ GE205.out | refine bS_ ?_ GE206.out | refine bS_ ?_ GE207.out)) hb; clear hb ho15))
   (try simp only [Act.put, sT_, sZ_, sS_])
   go_loopg [6] k (fun kq v6 w' => ∃ (x5_1 : List Int) (x6_1 : Int), v6 = .int .i64 x6_1 ∧ Aside0 (demurrageref01_Prod.l0 kq x5_1 x6_1 l0_0 l1_0 = some r) ∧ Aside0 (kq ≤ k) ∧ Aside0 (Kd.R (Kd.int .i64) 3 w' w.heap.size (fun _ => True) v209 x5_1) ∧ Aside0 (w'.heap[gb205]? = some (.cells #[(.slice A0_0 l0_0.length c0_0)] 98 (0, 0))) ∧ Aside0 (w'.heap[gb206]? = some (.cells #[(.slice A1_0 l1_0.length c1_0)] 98 (0, 0))) ∧ Aside0 (w'.heap[gb207]? = some (.cells #[(.slice none 0 0)] 98 (0, 0))) ∧ Aside0 (Below w.heap.size w w'))
   case atStart => exact ⟨(y208), (0), (by first | rfl | simp | simp [*]), H', ⟨Nat.le_refl _⟩, ⟨by (with_reducible repeat (first | apply Kd.R_alloc | apply Kd.R_drewN | apply Kd.R_drew)); exact HO210.out⟩, ⟨by exact BK205.out⟩, ⟨by exact BK206.out⟩, ⟨by exact BK207.out⟩, ⟨by repeat (with_reducible first | exact HB.out | apply bA_ | apply bN_ | apply bD_ | refine bS_ ?_ GE205.out | refine bS_ ?_ GE206.out | refine bS_ ?_ GE207.out)⟩⟩
   case round =>
    clear H'
    try clear c1
    try clear p2
    try clear c4
    try clear c4b0
    try clear c4b1
    try clear c5
    try clear c5b0
    try clear c5b1
    try clear p6
    try clear c9
    try clear c10
    try clear c12
    try clear hcz11_0
    try clear hcz13_0
    try clear hfz11_0
    try clear hfz13_0
    obtain ⟨x5_1, x6_1, rfl, HA, HK1, HO_5, BK205, BK206, BK207, HB⟩ := hrel
    cases gk with
    | zero => exact absurd HA.out (by simp [demurrageref01_Prod.l0])
    | succ k1 =>
     have H := HA.out
     clear HA
     simp only [demurrageref01_Prod.l0] at H
     by_cases c16 : x6_1 < (l0_0.length : Int)
     ·rw [if_pos c16] at H
      have c16b0 : decide (x6_1 < (l0_0.length : Int)) = true := decide_eq_true c16
      clear c16
      have H' := aA_ H
      clear H
      have hnb17 := NB205_206.out
      have hnc17 := NB206_205.out
      have hnb18 := NB205_207.out
      have hnc18 := NB207_205.out
      have hcz19_0 : wr.cell? ⟨gb205, 0, none⟩ = some (.slice A0_0 l0_0.length c0_0) := (blk_cell BK205.out 0).trans rfl
      have hfz19_0 := blk_frozen BK205.out 0
      go_wp2
      (try simp only [Act.put, sT_, sZ_, sS_])
      go_loopg [7, 8] k1 (fun kq v7 v8 w' => ∃ (x5_2 : List Int) (x7_2 : Int) (x8_2 : Int), v7 = .int .i64 x7_2 ∧ v8 = .int .i64 x8_2 ∧ Aside0 (demurrageref01_Prod.l1 kq x5_2 x6_1 x7_2 x8_2 l0_0 l1_0 = some r) ∧ Aside0 (kq ≤ k1) ∧ Aside0 (Kd.R (Kd.int .i64) 3 w' w.heap.size (fun _ => True) v209 x5_2) ∧ Aside0 (w'.heap[gb205]? = some (.cells #[(.slice A0_0 l0_0.length c0_0)] 98 (0, 0))) ∧ Aside0 (w'.heap[gb206]? = some (.cells #[(.slice A1_0 l1_0.length c1_0)] 98 (0, 0))) ∧ Aside0 (w'.heap[gb207]? = some (.cells #[(.slice none 0 0)] 98 (0, 0))) ∧ Aside0 (Below w.heap.size w w'))
      case atStart => exact ⟨(x5_1), (0), (0), (by first | rfl | simp | simp [*]), (by first | rfl | simp | simp [*]), H', ⟨Nat.le_refl _⟩, ⟨by (with_reducible repeat (first | apply Kd.R_alloc | apply Kd.R_drewN | apply Kd.R_drew)); exact HO_5.out⟩, ⟨by exact BK205.out⟩, ⟨by exact BK206.out⟩, ⟨by exact BK207.out⟩, ⟨by repeat (with_reducible first | exact HB.out | apply bA_ | apply bN_ | apply bD_ | refine bS_ ?_ GE205.out | refine bS_ ?_ GE206.out | refine bS_ ?_ GE207.out)⟩⟩
      case round =>
       clear H'
       try clear c1
       try clear p2
       try clear c4
       try clear c4b0
       try clear c4b1
       try clear c5
       try clear c5b0
       try clear c5b1
       try clear p6
       try clear c9
       try clear c10
       try clear c12
       try clear c16
       try clear c16b0
       try clear c17
       try clear c18
       try clear hcz11_0
       try clear hcz13_0
       try clear hcz19_0
       try clear hfz11_0
       try clear hfz13_0
       try clear hfz19_0
       try clear p2
       try clear p6
       obtain ⟨x5_2, x7_2, x8_2, rfl, rfl, HA, HK2, HO_5, BK205, BK206, BK207, HB⟩ := hrel
       cases gk with
       | zero => exact absurd HA.out (by simp [demurrageref01_Prod.l1])
       | succ k2 =>
        have H := HA.out
        clear HA
        simp only [demurrageref01_Prod.l1] at H
        by_cases c20 : x8_2 < (l1_0.length : Int)
        ·rw [if_pos c20] at H
         have c20b0 : decide (x8_2 < (l1_0.length : Int)) = true := decide_eq_true c20
         clear c20
         obtain ⟨ji21, hji21⟩ : ∃ j_ : Int, (wrap64 (x6_1 + x8_2)) = j_ := ⟨_, rfl⟩
         replace H : (if 0 ≤ (ji21) then (if (ji21) < (x5_2.length : Int) then (if 0 ≤ x6_1 then (if x6_1 < (l0_0.length : Int) then ((demurrageref01_part.f l1_0 x8_2).bind fun t216 => (demurrageref01_Prod.l1 k2 (x5_2.set ((ji21) : Int).toNat (Int.tmod (wrap64 ((wrap64 ((rd x5_2 (ji21)) + (wrap64 ((rd l0_0 x6_1) * t216)))) + x7_2)) 10000)) x6_1 (wrap64 (Int.tdiv (wrap64 ((wrap64 ((rd x5_2 (ji21)) + (wrap64 ((rd l0_0 x6_1) * t216)))) + x7_2)) 10000)) (wrap64 (x8_2 + 1)) l0_0 l1_0)) else (none)) else (none)) else (none)) else (none)) = some r := by first | (rw [hji21] at H; exact H) | (simp only [hji21] at H ⊢; exact H)
         have hji21w : (IntKind.i64.wrap (x6_1 + x8_2)) = ji21 := (i64_w _).trans hji21
         by_cases c22 : 0 ≤ (ji21)
         ·rw [if_pos c22] at H
          have c22b0 : decide (0 ≤ (ji21)) = true := decide_eq_true c22
          clear c22
          by_cases c23 : (ji21) < (x5_2.length : Int)
          ·rw [if_pos c23] at H
           have c23b0 : decide ((ji21) < (x5_2.length : Int)) = true := decide_eq_true c23
           clear c23
           by_cases c24 : 0 ≤ x6_1
           ·rw [if_pos c24] at H
            have c24b0 : decide (0 ≤ x6_1) = true := decide_eq_true c24
            clear c24
            by_cases c25 : x6_1 < (l0_0.length : Int)
            ·rw [if_pos c25] at H
             have c25b0 : decide (x6_1 < (l0_0.length : Int)) = true := decide_eq_true c25
             clear c25
             replace H := bI_ H
             obtain ⟨t216, A260, H⟩ := H
             (try dsimp only at H)
             have A26 := aA_ A260
             clear A260
             obtain ⟨y217, hy217⟩ : ∃ y_ : List Int, y_ = (x5_2.set ((ji21) : Int).toNat (Int.tmod (wrap64 ((wrap64 ((rd x5_2 (ji21)) + (wrap64 ((rd l0_0 x6_1) * t216)))) + x7_2)) 10000)) := ⟨_, rfl⟩
             replace H : (demurrageref01_Prod.l1 k2 y217 x6_1 (wrap64 (Int.tdiv (wrap64 ((wrap64 ((rd x5_2 (ji21)) + (wrap64 ((rd l0_0 x6_1) * t216)))) + x7_2)) 10000)) (wrap64 (x8_2 + 1)) l0_0 l1_0) = some r := by first | (rw [hy217]; with_reducible exact H) | (have H2_ := (Option.bind_some _ _).symm.trans H; rw [hy217]; with_reducible exact H2_) | (have H2_ := (Option.bind_some _ _).symm.trans H; with_reducible exact H2_) | with_reducible exact H | (rw [hy217]; exact H) | exact H
             have Ny217 := aA_ hy217
             clear hy217
             have H' := aA_ H
             clear H
             have hnb28 := NB206_205.out
             have hnc28 := NB205_206.out
             have hnb29 := NB206_207.out
             have hnc29 := NB207_206.out
             have hcz30_0 : wr.cell? ⟨gb206, 0, none⟩ = some (.slice A1_0 l1_0.length c1_0) := (blk_cell BK206.out 0).trans rfl
             have hfz30_0 := blk_frozen BK206.out 0
             try go_wp2
             replace HO_5 := aA_ (Kd.R_drew HO_5.out)
             replace BK205 := aA_ (blk_drew BK205.out)
             replace BK206 := aA_ (blk_drew BK206.out)
             replace BK207 := aA_ (blk_drew BK207.out)
             replace HB := aA_ (below_drew1 HB.out)
             obtain ⟨Ao32, co32, eo32⟩ := Kd.R_slice HO_5.out
             (first | subst eo32 | (injection eo32 with f1_ f2_ f3_; have f4_ := f1_.symm; have f5_ := f3_.symm; clear f1_ f2_ f3_; subst f4_; subst f5_))
             have p214 : 0 ≤ ((ji21) : Int) := of_decide_eq_true (by first | (with_reducible assumption) | assumption)
             have q214 : (ji21) < (x5_2.length : Int) := of_decide_eq_true (by first | (with_reducible assumption) | assumption)
             obtain ⟨ad214, e214, hx214_0⟩ := Kd.at_int (Kd.R_reads' HO_5.out).2.2 (ji21) p214 q214
             cases e214
             replace p214 := eq_true p214
             replace q214 := eq_true q214
             have p215 : 0 ≤ (x6_1 : Int) := of_decide_eq_true (by first | (with_reducible assumption) | assumption)
             have q215 : x6_1 < (l0_0.length : Int) := of_decide_eq_true (by first | (with_reducible assumption) | assumption)
             obtain ⟨ad215, e215, hx215_0⟩ := Kd.at_int HR0_0.out x6_1 p215 q215
             have hw215_0 := hx215_0
             cases e215
             replace hx215_0 := cC_ HB hx215_0
             replace p215 := eq_true p215
             replace q215 := eq_true q215
             refine start_ (n := 19) (S := fun w' => w'.cell? ⟨gb205, 0, none⟩ = some (.slice (some ad215) l0_0.length c0_0) ∧ w'.cell? ⟨gb206, 0, none⟩ = some (.slice A1_0 l1_0.length c1_0) ∧ w'.cell? (ad214.add ((ji21)).toNat) = some (.int .i64 (rd x5_2 (ji21))) ∧ w'.cell? (ad215.add (x6_1).toNat) = some (.int .i64 (rd l0_0 x6_1))) (ds := []) (demurrageref01_Less.ups 19 0) (by kernel_rfl) rfl rfl ⟨(blk_cell BK205.out 0).trans rfl, (blk_cell BK206.out 0).trans rfl, hx214_0, ((HB.out.cell (World.block_lt_of_cell? w _ hw215_0)).trans hw215_0)⟩ (fun hHeld => ?_); refine with_tabW demurrageref01_Prod.tab9 demurrageref01_Prod.bits9 (fun HT_ HW_ => ?_)
             generalize wr.drew = w31 at HO_5 BK205 BK206 BK207 HB hx214_0 hx215_0 hHeld ⊢
             refine pure_ (i := 0) (N := some 37) (v := ?_) (a' := ?_) (demurrageref01_Less.ups 19 1) rfl rfl (any_of HT_.out (by kernel_rfl)) (fun _ _ _ h => h) (Or.inl ⟨by rfl, ?_⟩) ?_ ?_
             rotate_left
             ·intro w'
              go_simp
              with_reducible rfl
             rotate_left
             ·simp only [Act.put, sT_, sZ_, sS_, i64_w, i32_w]
              rfl
             refine pure_ (i := 1) (N := some 38) (v := ?_) (a' := ?_) (demurrageref01_Less.ups 19 3) rfl rfl (any_of HT_.out (by kernel_rfl)) (fun _ _ _ h => h) (Or.inl ⟨by rfl, ?_⟩) ?_ ?_
             rotate_left
             ·intro w'
              go_simp
              with_reducible rfl
             rotate_left
             ·simp only [Act.put, sT_, sZ_, sS_, i64_w, i32_w]
              rfl
             refine pure_ (i := 2) (N := some 39) (v := ?_) (a' := ?_) (demurrageref01_Less.ups 19 7) rfl rfl (any_of HT_.out (by kernel_rfl)) (fun _ _ _ h => h) (Or.inl ⟨by rfl, ?_⟩) ?_ ?_
             rotate_left
             ·intro w'
              go_simp
              with_reducible rfl
             rotate_left
             ·simp only [Act.put, sT_, sZ_, sS_, i64_w, i32_w]
              rfl
             refine pure_ (i := 3) (N := some 40) (v := ?_) (a' := ?_) (demurrageref01_Less.ups 19 15) rfl rfl (any_of HT_.out (by kernel_rfl)) (fun _ _ _ h => h) (Or.inl ⟨by rfl, ?_⟩) ?_ ?_
             rotate_left
             ·intro w'
              go_simp
              with_reducible rfl
             rotate_left
             ·simp only [Act.put, sT_, sZ_, sS_, i64_w, i32_w]
              rfl
             refine pure_ (i := 4) (N := some 41) (v := ?_) (a' := ?_) (demurrageref01_Less.ups 19 31) rfl rfl (any_of HT_.out (by kernel_rfl)) (fun _ _ _ h => h) (Or.inl ⟨by rfl, ?_⟩) ?_ ?_
             rotate_left
             ·intro w'
              go_simp
              with_reducible rfl
             rotate_left
             ·simp only [Act.put, sT_, sZ_, sS_, i64_w, i32_w]
              rfl
             refine pure_ (i := 6) (N := some 43) (v := ?_) (a' := ?_) (demurrageref01_Less.ups 19 95) rfl rfl (any_of HT_.out (by kernel_rfl)) (fun _ _ _ h => h) (Or.inl ⟨by rfl, ?_⟩) ?_ ?_
             rotate_left
             ·intro w'
              go_simp
              with_reducible rfl
             rotate_left
             ·simp only [Act.put, sT_, sZ_, sS_, i64_w, i32_w]
              rfl
             refine pure_ (i := 8) (N := some 45) (v := ?_) (a' := ?_) (demurrageref01_Less.ups 19 351) rfl rfl (any_of HT_.out (by kernel_rfl)) (fun _ _ _ h => h) (Or.inl ⟨by rfl, ?_⟩) ?_ ?_
             rotate_left
             ·intro w'
              go_simp
              with_reducible rfl
             rotate_left
             ·simp only [Act.put, sT_, sZ_, sS_, i64_w, i32_w]
              rfl
             refine pure_ (i := 12) (N := some 49) (v := ?_) (a' := ?_) (demurrageref01_Less.ups 19 4447) rfl rfl (any_of HT_.out (by kernel_rfl)) (fun _ _ _ h => h) (Or.inl ⟨by rfl, ?_⟩) ?_ ?_
             rotate_left
             ·intro w'
              go_simp
              with_reducible rfl
             rotate_left
             ·simp only [Act.put, sT_, sZ_, sS_, i64_w, i32_w]
              rfl
             refine pure_ (i := 16) (N := some 53) (v := ?_) (a' := ?_) (demurrageref01_Less.ups 19 69983) rfl rfl (any_of HT_.out (by kernel_rfl)) (fun _ _ _ h => h) (Or.inl ⟨by rfl, ?_⟩) ?_ ?_
             rotate_left
             ·intro w'
              go_simp
              with_reducible rfl
             rotate_left
             ·simp only [Act.put, sT_, sZ_, sS_, i64_w, i32_w]
              rfl
             refine take_ (i := 5) (N := some 42) (v := ?_) (a' := ?_) (demurrageref01_Less.ups 19 70015) rfl rfl (take_ofW HT_.out HW_.out (by kernel_rfl)) (fun _ _ _ h => h) (Or.inl ⟨by rfl, ?_⟩) hHeld ?_ ?_
             rotate_left
             ·rintro w' ⟨s0, s1, s2, s3⟩
              go_simp
              with_reducible rfl
             rotate_left
             ·simp only [Act.put, sT_, sZ_, sS_, i64_w, i32_w]
              rfl
             refine take_ (i := 7) (N := some 44) (v := ?_) (a' := ?_) (demurrageref01_Less.ups 19 70143) rfl rfl (take_ofW HT_.out HW_.out (by kernel_rfl)) (fun _ _ _ h => h) (Or.inl ⟨by rfl, ?_⟩) hHeld ?_ ?_
             rotate_left
             ·rintro w' ⟨s0, s1, s2, s3⟩
              go_simp
              with_reducible rfl
             rotate_left
             ·simp only [Act.put, sT_, sZ_, sS_, i64_w, i32_w]
              rfl
             refine pure_ (i := 9) (N := some 46) (v := ?_) (a' := ?_) (demurrageref01_Less.ups 19 70655) rfl rfl (any_of HT_.out (by kernel_rfl)) (fun _ _ _ h => h) (Or.inl ⟨by rfl, ?_⟩) ?_ ?_
             rotate_left
             ·intro w'
              go_simp
              with_reducible rfl
             rotate_left
             ·simp only [Act.put, sT_, sZ_, sS_, i64_w, i32_w]
              rfl
             refine take_ (i := 10) (N := some 47) (v := ?_) (a' := ?_) (demurrageref01_Less.ups 19 71679) rfl rfl (take_ofW HT_.out HW_.out (by kernel_rfl)) (fun _ _ _ h => h) (Or.inl ⟨by rfl, ?_⟩) hHeld ?_ ?_
             rotate_left
             ·rintro w' ⟨s0, s1, s2, s3⟩
              go_simp
              with_reducible rfl
             rotate_left
             ·simp only [Act.put, sT_, sZ_, sS_, i64_w, i32_w]
              rfl
             refine take_ (i := 11) (N := some 48) (v := ?_) (a' := ?_) (demurrageref01_Less.ups 19 73727) rfl rfl (take_ofW HT_.out HW_.out (by kernel_rfl)) (fun _ _ _ h => h) (Or.inl ⟨by rfl, ?_⟩) hHeld ?_ ?_
             rotate_left
             ·rintro w' ⟨s0, s1, s2, s3⟩
              go_simp
              with_reducible rfl
             rotate_left
             ·simp only [Act.put, sT_, sZ_, sS_, i64_w, i32_w]
              rfl
             refine one_ (i := 13) (N := some 50) (demurrageref01_Less.ups 19 81919) rfl rfl (one_of HT_.out (by kernel_rfl)) (by decide) (fun K hK => ?_)
             refine goes_ Try.func67 (by kernel_rfl) rfl #[.agg #[.slice A1_0 l1_0.length c1_0], .int .i64 x8_2] (by rfl) rfl rfl (by (try simp only [mT_, mC_, mN_]); first | done | rfl) ?_
             with_reducible refine (demurrageref01_part.calls _ _ l1_0 x8_2 t216 _ ?side1 ?side2 A26.out).mono ?_
             (case side1 => repeat (first | exact (Kd.C_below HR1_0.out HB.out) | (with_reducible first | refine Kd.C_alloc ?_ _ | refine Kd.C_drewN ?_ _ | refine Kd.C_drew ?_)))
             (case side2 => exact HC1_0.out)
             rintro e w33 ⟨rfl, hb⟩
             have HS2_ := (hb.cell (World.block_lt_of_cell? _ _ (hHeld.2.2.1))).trans (hHeld.2.2.1)
             refine ⟨_, rfl, ?_⟩
             replace HO_5 := aA_ (Kd.R_below HO_5.out hb)
             replace BK205 := bK_ BK205 hb
             replace BK206 := bK_ BK206 hb
             replace BK207 := bK_ BK207 hb
             replace HB := bB_ (by repeat (with_reducible first | exact HB.out | apply bA_ | apply bN_ | apply bD_ | refine bS_ ?_ GE205.out | refine bS_ ?_ GE206.out | refine bS_ ?_ GE207.out)) hb
             (try clear hb)
             (try clear hb2)
             (try clear hk)
             (try clear hi)
             refine hK.out _ _ ⟨(blk_cell BK205.out 0).trans rfl, (blk_cell BK206.out 0).trans rfl, HS2_, ((HB.out.cell (World.block_lt_of_cell? w _ hw215_0)).trans hw215_0)⟩ (fun hHeld => ?_)
             clear hK K
             refine norm_ (by show Act.put _ (some 50) _ = _; simp only [Act.put, sT_, sZ_, sS_, i64_w, i32_w] <;> rfl) ?_
             refine pure_ (i := 14) (N := some 51) (v := ?_) (a' := ?_) (demurrageref01_Less.ups 19 98303) rfl rfl (any_of HT_.out (by kernel_rfl)) (fun _ _ _ h => h) (Or.inl ⟨by rfl, ?_⟩) ?_ ?_
             rotate_left
             ·intro w'
              go_simp
              with_reducible rfl
             rotate_left
             ·simp only [Act.put, sT_, sZ_, sS_, i64_w, i32_w]
              rfl
             refine pure_ (i := 15) (N := some 52) (v := ?_) (a' := ?_) (demurrageref01_Less.ups 19 131071) rfl rfl (any_of HT_.out (by kernel_rfl)) (fun _ _ _ h => h) (Or.inl ⟨by rfl, ?_⟩) ?_ ?_
             rotate_left
             ·intro w'
              go_simp
              with_reducible rfl
             rotate_left
             ·simp only [Act.put, sT_, sZ_, sS_, i64_w, i32_w]
              rfl
             refine pure_ (i := 17) (N := some 54) (v := ?_) (a' := ?_) (demurrageref01_Less.ups 19 262143) rfl rfl (any_of HT_.out (by kernel_rfl)) (fun _ _ _ h => h) (Or.inl ⟨by rfl, ?_⟩) ?_ ?_
             rotate_left
             ·intro w'
              go_simp
              with_reducible rfl
             rotate_left
             ·simp only [Act.put, sT_, sZ_, sS_, i64_w, i32_w]
              rfl
             refine pure_ (i := 18) (N := some 9) (v := ?_) (a' := ?_) (demurrageref01_Less.ups 19 524287) rfl rfl (any_of HT_.out (by kernel_rfl)) (fun _ _ _ h => h) (Or.inl ⟨by rfl, ?_⟩) ?_ ?_
             rotate_left
             ·intro w'
              go_simp
              with_reducible rfl
             rotate_left
             ·simp only [Act.put, sT_, sZ_, sS_, i64_w, i32_w]
              rfl
             refine done_ (done_of HT_.out (by kernel_rfl)) ?_
             have p27 : 0 ≤ ((ji21) : Int) := of_decide_eq_true (by first | (with_reducible assumption) | assumption)
             have q27 : ((ji21) : Int) < ((x5_2.length : Int) : Int) := of_decide_eq_true (by first | (with_reducible assumption) | assumption)
             obtain ⟨go27, co27, eo27, gb27, gl27, cl27, HG27⟩ := Kd.R_form HO_5.out (by omega)
             (first | cases eo27 | (injection eo27 with ea_ en_ ec_; (first | subst ea_ | (injection ea_ with ea_; subst ea_)); subst ec_; clear en_))
             have GB27 := aA_ gb27
             have GG27 := aA_ HG27
             clear gb27 gl27 HG27
             (first | simp only [add_plain] at hx214_0 | skip)
             obtain ⟨hx27_0, hf27_0⟩ := Kd.R_celln 0 HO_5.out ((ji21) : Int) p27 q27
             replace p27 := eq_true p27
             replace q27 := eq_true q27
             obtain ⟨hy34_, hz34_⟩ := Kd.R_celln 0 HO_5.out ((ji21) : Int) (of_decide_eq_true (by first | (with_reducible assumption) | assumption)) (of_decide_eq_true (by first | (with_reducible assumption) | assumption))
             have HP34 := Kd.R_putg HO_5.out ((ji21) : Int) (Int.tmod (wrap64 ((wrap64 ((rd x5_2 (ji21)) + (wrap64 ((rd l0_0 x6_1) * t216)))) + x7_2)) 10000)
             try go_wp2_with (first | ((with_reducible refine gate_store (t := 3) (p := 61) rfl ?_); refine store_event (t := 3) (p := 61) (v := ?vo_w35) (w1 := (w33.setCell ⟨go27, ((ji21) : Int).toNat, none⟩ (.int .i64 (Int.tmod (wrap64 ((wrap64 ((rd x5_2 (ji21)) + (wrap64 ((rd l0_0 x6_1) * t216)))) + x7_2)) 10000)))) ?hg ?ho ?hn ?hr ?_; (case ho => rfl); (case hg => rfl); (case hn => rfl); (case hr => go_simp <;> rfl); intro w35 hw; have hg : w33.grownBy w35 (some go27) := (by rw [hw]; exact HP34.2); have hp_ : Kd.R (Kd.int .i64) 3 w35 w.heap.size (fun _ => True) (.slice (some ⟨go27, 0, none⟩) x5_2.length co32) y217 := (by rw [hw, Ny217.out]; exact HP34.1); clear HP34; replace BK205 := aA_ (blk_grown (g := gb205) (o := .cells #[.slice (some ad215) l0_0.length c0_0] 98 (0, 0)) BK205.out hg (Kd.R_ne HO_5.out BK205.out (by decide))); replace BK206 := aA_ (blk_grown (g := gb206) (o := .cells #[.slice A1_0 l1_0.length c1_0] 98 (0, 0)) BK206.out hg (Kd.R_ne HO_5.out BK206.out (by decide))); replace BK207 := aA_ (blk_grown (g := gb207) (o := .cells #[.slice none 0 0] 98 (0, 0)) BK207.out hg (Kd.R_ne HO_5.out BK207.out (by decide))); replace HO_5 := aA_ (hp_); replace HB := aA_ ((by rw [hw]; exact below_set (HB.out) GB27.out : Below w.heap.size w w35)); clear hg hw hp_))
             go_roundg k2
             case measure => have := HK1.out; have := HK2.out; omega
             case rel => exact ⟨(y217), (wrap64 (Int.tdiv (wrap64 ((wrap64 ((rd x5_2 (ji21)) + (wrap64 ((rd l0_0 x6_1) * t216)))) + x7_2)) 10000)), (wrap64 (x8_2 + 1)), (by first | rfl | (simp; done) | (simp only [← hji21] <;> (first | rfl | simp)) | (simp [*]; done)), (by first | rfl | simp | simp [*]), H', ⟨by have := HK1.out; have := HK2.out; omega⟩, ⟨by (with_reducible repeat (first | apply Kd.R_alloc | apply Kd.R_drewN | apply Kd.R_drew)); exact HO_5.out⟩, ⟨by exact BK205.out⟩, ⟨by exact BK206.out⟩, ⟨by exact BK207.out⟩, ⟨by repeat (with_reducible first | exact HB.out | apply bA_ | apply bN_ | apply bD_ | refine bS_ ?_ GE205.out | refine bS_ ?_ GE206.out | refine bS_ ?_ GE207.out)⟩⟩
            ·rw [if_neg c25] at H
             exact absurd H (by simp)
           ·rw [if_neg c24] at H
            exact absurd H (by simp)
          ·rw [if_neg c23] at H
           exact absurd H (by simp)
         ·rw [if_neg c22] at H
          exact absurd H (by simp)
        ·rw [if_neg c20] at H
         have c20b0 : decide (x8_2 < (l1_0.length : Int)) = false := decide_eq_false c20
         clear c20
         by_cases c36 : x7_2 > 0
         ·rw [if_pos c36] at H
          have c36b0 : decide (0 < x7_2) = true := decide_eq_true c36
          clear c36
          obtain ⟨ji37, hji37⟩ : ∃ j_ : Int, (wrap64 (x6_1 + x8_2)) = j_ := ⟨_, rfl⟩
          replace H : (if 0 ≤ (ji37) then (if (ji37) < (x5_2.length : Int) then (if 0 ≤ x6_1 then (if x6_1 < (l0_0.length : Int) then ((demurrageref01_part.f l1_0 x8_2).bind fun t220 => (demurrageref01_Prod.l1 k2 (x5_2.set ((ji37) : Int).toNat (Int.tmod (wrap64 ((wrap64 ((rd x5_2 (ji37)) + (wrap64 ((rd l0_0 x6_1) * t220)))) + x7_2)) 10000)) x6_1 (wrap64 (Int.tdiv (wrap64 ((wrap64 ((rd x5_2 (ji37)) + (wrap64 ((rd l0_0 x6_1) * t220)))) + x7_2)) 10000)) (wrap64 (x8_2 + 1)) l0_0 l1_0)) else (none)) else (none)) else (none)) else (none)) = some r := by first | (rw [hji37] at H; exact H) | (simp only [hji37] at H ⊢; exact H)
          have hji37w : (IntKind.i64.wrap (x6_1 + x8_2)) = ji37 := (i64_w _).trans hji37
          by_cases c38 : 0 ≤ (ji37)
          ·rw [if_pos c38] at H
           have c38b0 : decide (0 ≤ (ji37)) = true := decide_eq_true c38
           clear c38
           by_cases c39 : (ji37) < (x5_2.length : Int)
           ·rw [if_pos c39] at H
            have c39b0 : decide ((ji37) < (x5_2.length : Int)) = true := decide_eq_true c39
            clear c39
            by_cases c40 : 0 ≤ x6_1
            ·rw [if_pos c40] at H
             have c40b0 : decide (0 ≤ x6_1) = true := decide_eq_true c40
             clear c40
             by_cases c41 : x6_1 < (l0_0.length : Int)
             ·rw [if_pos c41] at H
              have c41b0 : decide (x6_1 < (l0_0.length : Int)) = true := decide_eq_true c41
              clear c41
              replace H := bI_ H
              obtain ⟨t220, A420, H⟩ := H
              (try dsimp only at H)
              have A42 := aA_ A420
              clear A420
              obtain ⟨y221, hy221⟩ : ∃ y_ : List Int, y_ = (x5_2.set ((ji37) : Int).toNat (Int.tmod (wrap64 ((wrap64 ((rd x5_2 (ji37)) + (wrap64 ((rd l0_0 x6_1) * t220)))) + x7_2)) 10000)) := ⟨_, rfl⟩
              replace H : (demurrageref01_Prod.l1 k2 y221 x6_1 (wrap64 (Int.tdiv (wrap64 ((wrap64 ((rd x5_2 (ji37)) + (wrap64 ((rd l0_0 x6_1) * t220)))) + x7_2)) 10000)) (wrap64 (x8_2 + 1)) l0_0 l1_0) = some r := by first | (rw [hy221]; with_reducible exact H) | (have H2_ := (Option.bind_some _ _).symm.trans H; rw [hy221]; with_reducible exact H2_) | (have H2_ := (Option.bind_some _ _).symm.trans H; with_reducible exact H2_) | with_reducible exact H | (rw [hy221]; exact H) | exact H
              have Ny221 := aA_ hy221
              clear hy221
              have H' := aA_ H
              clear H
              have hnb44 := NB206_205.out
              have hnc44 := NB205_206.out
              have hnb45 := NB206_207.out
              have hnc45 := NB207_206.out
              have hcz46_0 : wr.cell? ⟨gb206, 0, none⟩ = some (.slice A1_0 l1_0.length c1_0) := (blk_cell BK206.out 0).trans rfl
              have hfz46_0 := blk_frozen BK206.out 0
              try go_wp2
              replace HO_5 := aA_ (Kd.R_drew HO_5.out)
              replace BK205 := aA_ (blk_drew BK205.out)
              replace BK206 := aA_ (blk_drew BK206.out)
              replace BK207 := aA_ (blk_drew BK207.out)
              replace HB := aA_ (below_drew1 HB.out)
              obtain ⟨Ao48, co48, eo48⟩ := Kd.R_slice HO_5.out
              (first | subst eo48 | (injection eo48 with f1_ f2_ f3_; have f4_ := f1_.symm; have f5_ := f3_.symm; clear f1_ f2_ f3_; subst f4_; subst f5_))
              have p218 : 0 ≤ ((ji37) : Int) := of_decide_eq_true (by first | (with_reducible assumption) | assumption)
              have q218 : (ji37) < (x5_2.length : Int) := of_decide_eq_true (by first | (with_reducible assumption) | assumption)
              obtain ⟨ad218, e218, hx218_0⟩ := Kd.at_int (Kd.R_reads' HO_5.out).2.2 (ji37) p218 q218
              cases e218
              replace p218 := eq_true p218
              replace q218 := eq_true q218
              have p219 : 0 ≤ (x6_1 : Int) := of_decide_eq_true (by first | (with_reducible assumption) | assumption)
              have q219 : x6_1 < (l0_0.length : Int) := of_decide_eq_true (by first | (with_reducible assumption) | assumption)
              obtain ⟨ad219, e219, hx219_0⟩ := Kd.at_int HR0_0.out x6_1 p219 q219
              have hw219_0 := hx219_0
              cases e219
              replace hx219_0 := cC_ HB hx219_0
              replace p219 := eq_true p219
              replace q219 := eq_true q219
              refine start_ (n := 19) (S := fun w' => w'.cell? ⟨gb205, 0, none⟩ = some (.slice (some ad219) l0_0.length c0_0) ∧ w'.cell? ⟨gb206, 0, none⟩ = some (.slice A1_0 l1_0.length c1_0) ∧ w'.cell? (ad218.add ((ji37)).toNat) = some (.int .i64 (rd x5_2 (ji37))) ∧ w'.cell? (ad219.add (x6_1).toNat) = some (.int .i64 (rd l0_0 x6_1))) (ds := []) (demurrageref01_Less.ups 19 0) (by kernel_rfl) rfl rfl ⟨(blk_cell BK205.out 0).trans rfl, (blk_cell BK206.out 0).trans rfl, hx218_0, ((HB.out.cell (World.block_lt_of_cell? w _ hw219_0)).trans hw219_0)⟩ (fun hHeld => ?_); refine with_tabW demurrageref01_Prod.tab9 demurrageref01_Prod.bits9 (fun HT_ HW_ => ?_)
              generalize wr.drew = w47 at HO_5 BK205 BK206 BK207 HB hx218_0 hx219_0 hHeld ⊢
              refine pure_ (i := 0) (N := some 37) (v := ?_) (a' := ?_) (demurrageref01_Less.ups 19 1) rfl rfl (any_of HT_.out (by kernel_rfl)) (fun _ _ _ h => h) (Or.inl ⟨by rfl, ?_⟩) ?_ ?_
              rotate_left
              ·intro w'
               go_simp
               with_reducible rfl
              rotate_left
              ·simp only [Act.put, sT_, sZ_, sS_, i64_w, i32_w]
               rfl
              refine pure_ (i := 1) (N := some 38) (v := ?_) (a' := ?_) (demurrageref01_Less.ups 19 3) rfl rfl (any_of HT_.out (by kernel_rfl)) (fun _ _ _ h => h) (Or.inl ⟨by rfl, ?_⟩) ?_ ?_
              rotate_left
              ·intro w'
               go_simp
               with_reducible rfl
              rotate_left
              ·simp only [Act.put, sT_, sZ_, sS_, i64_w, i32_w]
               rfl
              refine pure_ (i := 2) (N := some 39) (v := ?_) (a' := ?_) (demurrageref01_Less.ups 19 7) rfl rfl (any_of HT_.out (by kernel_rfl)) (fun _ _ _ h => h) (Or.inl ⟨by rfl, ?_⟩) ?_ ?_
              rotate_left
              ·intro w'
               go_simp
               with_reducible rfl
              rotate_left
              ·simp only [Act.put, sT_, sZ_, sS_, i64_w, i32_w]
               rfl
              refine pure_ (i := 3) (N := some 40) (v := ?_) (a' := ?_) (demurrageref01_Less.ups 19 15) rfl rfl (any_of HT_.out (by kernel_rfl)) (fun _ _ _ h => h) (Or.inl ⟨by rfl, ?_⟩) ?_ ?_
              rotate_left
              ·intro w'
               go_simp
               with_reducible rfl
              rotate_left
              ·simp only [Act.put, sT_, sZ_, sS_, i64_w, i32_w]
               rfl
              refine pure_ (i := 4) (N := some 41) (v := ?_) (a' := ?_) (demurrageref01_Less.ups 19 31) rfl rfl (any_of HT_.out (by kernel_rfl)) (fun _ _ _ h => h) (Or.inl ⟨by rfl, ?_⟩) ?_ ?_
              rotate_left
              ·intro w'
               go_simp
               with_reducible rfl
              rotate_left
              ·simp only [Act.put, sT_, sZ_, sS_, i64_w, i32_w]
               rfl
              refine pure_ (i := 6) (N := some 43) (v := ?_) (a' := ?_) (demurrageref01_Less.ups 19 95) rfl rfl (any_of HT_.out (by kernel_rfl)) (fun _ _ _ h => h) (Or.inl ⟨by rfl, ?_⟩) ?_ ?_
              rotate_left
              ·intro w'
               go_simp
               with_reducible rfl
              rotate_left
              ·simp only [Act.put, sT_, sZ_, sS_, i64_w, i32_w]
               rfl
              refine pure_ (i := 8) (N := some 45) (v := ?_) (a' := ?_) (demurrageref01_Less.ups 19 351) rfl rfl (any_of HT_.out (by kernel_rfl)) (fun _ _ _ h => h) (Or.inl ⟨by rfl, ?_⟩) ?_ ?_
              rotate_left
              ·intro w'
               go_simp
               with_reducible rfl
              rotate_left
              ·simp only [Act.put, sT_, sZ_, sS_, i64_w, i32_w]
               rfl
              refine pure_ (i := 12) (N := some 49) (v := ?_) (a' := ?_) (demurrageref01_Less.ups 19 4447) rfl rfl (any_of HT_.out (by kernel_rfl)) (fun _ _ _ h => h) (Or.inl ⟨by rfl, ?_⟩) ?_ ?_
              rotate_left
              ·intro w'
               go_simp
               with_reducible rfl
              rotate_left
              ·simp only [Act.put, sT_, sZ_, sS_, i64_w, i32_w]
               rfl
              refine pure_ (i := 16) (N := some 53) (v := ?_) (a' := ?_) (demurrageref01_Less.ups 19 69983) rfl rfl (any_of HT_.out (by kernel_rfl)) (fun _ _ _ h => h) (Or.inl ⟨by rfl, ?_⟩) ?_ ?_
              rotate_left
              ·intro w'
               go_simp
               with_reducible rfl
              rotate_left
              ·simp only [Act.put, sT_, sZ_, sS_, i64_w, i32_w]
               rfl
              refine take_ (i := 5) (N := some 42) (v := ?_) (a' := ?_) (demurrageref01_Less.ups 19 70015) rfl rfl (take_ofW HT_.out HW_.out (by kernel_rfl)) (fun _ _ _ h => h) (Or.inl ⟨by rfl, ?_⟩) hHeld ?_ ?_
              rotate_left
              ·rintro w' ⟨s0, s1, s2, s3⟩
               go_simp
               with_reducible rfl
              rotate_left
              ·simp only [Act.put, sT_, sZ_, sS_, i64_w, i32_w]
               rfl
              refine take_ (i := 7) (N := some 44) (v := ?_) (a' := ?_) (demurrageref01_Less.ups 19 70143) rfl rfl (take_ofW HT_.out HW_.out (by kernel_rfl)) (fun _ _ _ h => h) (Or.inl ⟨by rfl, ?_⟩) hHeld ?_ ?_
              rotate_left
              ·rintro w' ⟨s0, s1, s2, s3⟩
               go_simp
               with_reducible rfl
              rotate_left
              ·simp only [Act.put, sT_, sZ_, sS_, i64_w, i32_w]
               rfl
              refine pure_ (i := 9) (N := some 46) (v := ?_) (a' := ?_) (demurrageref01_Less.ups 19 70655) rfl rfl (any_of HT_.out (by kernel_rfl)) (fun _ _ _ h => h) (Or.inl ⟨by rfl, ?_⟩) ?_ ?_
              rotate_left
              ·intro w'
               go_simp
               with_reducible rfl
              rotate_left
              ·simp only [Act.put, sT_, sZ_, sS_, i64_w, i32_w]
               rfl
              refine take_ (i := 10) (N := some 47) (v := ?_) (a' := ?_) (demurrageref01_Less.ups 19 71679) rfl rfl (take_ofW HT_.out HW_.out (by kernel_rfl)) (fun _ _ _ h => h) (Or.inl ⟨by rfl, ?_⟩) hHeld ?_ ?_
              rotate_left
              ·rintro w' ⟨s0, s1, s2, s3⟩
               go_simp
               with_reducible rfl
              rotate_left
              ·simp only [Act.put, sT_, sZ_, sS_, i64_w, i32_w]
               rfl
              refine take_ (i := 11) (N := some 48) (v := ?_) (a' := ?_) (demurrageref01_Less.ups 19 73727) rfl rfl (take_ofW HT_.out HW_.out (by kernel_rfl)) (fun _ _ _ h => h) (Or.inl ⟨by rfl, ?_⟩) hHeld ?_ ?_
              rotate_left
              ·rintro w' ⟨s0, s1, s2, s3⟩
               go_simp
               with_reducible rfl
              rotate_left
              ·simp only [Act.put, sT_, sZ_, sS_, i64_w, i32_w]
               rfl
              refine one_ (i := 13) (N := some 50) (demurrageref01_Less.ups 19 81919) rfl rfl (one_of HT_.out (by kernel_rfl)) (by decide) (fun K hK => ?_)
              refine goes_ Try.func67 (by kernel_rfl) rfl #[.agg #[.slice A1_0 l1_0.length c1_0], .int .i64 x8_2] (by rfl) rfl rfl (by (try simp only [mT_, mC_, mN_]); first | done | rfl) ?_
              with_reducible refine (demurrageref01_part.calls _ _ l1_0 x8_2 t220 _ ?side1 ?side2 A42.out).mono ?_
              (case side1 => repeat (first | exact (Kd.C_below HR1_0.out HB.out) | (with_reducible first | refine Kd.C_alloc ?_ _ | refine Kd.C_drewN ?_ _ | refine Kd.C_drew ?_)))
              (case side2 => exact HC1_0.out)
              rintro e w49 ⟨rfl, hb⟩
              have HS2_ := (hb.cell (World.block_lt_of_cell? _ _ (hHeld.2.2.1))).trans (hHeld.2.2.1)
              refine ⟨_, rfl, ?_⟩
              replace HO_5 := aA_ (Kd.R_below HO_5.out hb)
              replace BK205 := bK_ BK205 hb
              replace BK206 := bK_ BK206 hb
              replace BK207 := bK_ BK207 hb
              replace HB := bB_ (by repeat (with_reducible first | exact HB.out | apply bA_ | apply bN_ | apply bD_ | refine bS_ ?_ GE205.out | refine bS_ ?_ GE206.out | refine bS_ ?_ GE207.out)) hb
              (try clear hb)
              (try clear hb2)
              (try clear hk)
              (try clear hi)
              refine hK.out _ _ ⟨(blk_cell BK205.out 0).trans rfl, (blk_cell BK206.out 0).trans rfl, HS2_, ((HB.out.cell (World.block_lt_of_cell? w _ hw219_0)).trans hw219_0)⟩ (fun hHeld => ?_)
              clear hK K
              refine norm_ (by show Act.put _ (some 50) _ = _; simp only [Act.put, sT_, sZ_, sS_, i64_w, i32_w] <;> rfl) ?_
              refine pure_ (i := 14) (N := some 51) (v := ?_) (a' := ?_) (demurrageref01_Less.ups 19 98303) rfl rfl (any_of HT_.out (by kernel_rfl)) (fun _ _ _ h => h) (Or.inl ⟨by rfl, ?_⟩) ?_ ?_
              rotate_left
              ·intro w'
               go_simp
               with_reducible rfl
              rotate_left
              ·simp only [Act.put, sT_, sZ_, sS_, i64_w, i32_w]
               rfl
              refine pure_ (i := 15) (N := some 52) (v := ?_) (a' := ?_) (demurrageref01_Less.ups 19 131071) rfl rfl (any_of HT_.out (by kernel_rfl)) (fun _ _ _ h => h) (Or.inl ⟨by rfl, ?_⟩) ?_ ?_
              rotate_left
              ·intro w'
               go_simp
               with_reducible rfl
              rotate_left
              ·simp only [Act.put, sT_, sZ_, sS_, i64_w, i32_w]
               rfl
              refine pure_ (i := 17) (N := some 54) (v := ?_) (a' := ?_) (demurrageref01_Less.ups 19 262143) rfl rfl (any_of HT_.out (by kernel_rfl)) (fun _ _ _ h => h) (Or.inl ⟨by rfl, ?_⟩) ?_ ?_
              rotate_left
              ·intro w'
               go_simp
               with_reducible rfl
              rotate_left
              ·simp only [Act.put, sT_, sZ_, sS_, i64_w, i32_w]
               rfl
              refine pure_ (i := 18) (N := some 9) (v := ?_) (a' := ?_) (demurrageref01_Less.ups 19 524287) rfl rfl (any_of HT_.out (by kernel_rfl)) (fun _ _ _ h => h) (Or.inl ⟨by rfl, ?_⟩) ?_ ?_
              rotate_left
              ·intro w'
               go_simp
               with_reducible rfl
              rotate_left
              ·simp only [Act.put, sT_, sZ_, sS_, i64_w, i32_w]
               rfl
              refine done_ (done_of HT_.out (by kernel_rfl)) ?_
              have p43 : 0 ≤ ((ji37) : Int) := of_decide_eq_true (by first | (with_reducible assumption) | assumption)
              have q43 : ((ji37) : Int) < ((x5_2.length : Int) : Int) := of_decide_eq_true (by first | (with_reducible assumption) | assumption)
              obtain ⟨go43, co43, eo43, gb43, gl43, cl43, HG43⟩ := Kd.R_form HO_5.out (by omega)
              (first | cases eo43 | (injection eo43 with ea_ en_ ec_; (first | subst ea_ | (injection ea_ with ea_; subst ea_)); subst ec_; clear en_))
              have GB43 := aA_ gb43
              have GG43 := aA_ HG43
              clear gb43 gl43 HG43
              (first | simp only [add_plain] at hx218_0 | skip)
              obtain ⟨hx43_0, hf43_0⟩ := Kd.R_celln 0 HO_5.out ((ji37) : Int) p43 q43
              replace p43 := eq_true p43
              replace q43 := eq_true q43
              obtain ⟨hy50_, hz50_⟩ := Kd.R_celln 0 HO_5.out ((ji37) : Int) (of_decide_eq_true (by first | (with_reducible assumption) | assumption)) (of_decide_eq_true (by first | (with_reducible assumption) | assumption))
              have HP50 := Kd.R_putg HO_5.out ((ji37) : Int) (Int.tmod (wrap64 ((wrap64 ((rd x5_2 (ji37)) + (wrap64 ((rd l0_0 x6_1) * t220)))) + x7_2)) 10000)
              try go_wp2_with (first | ((with_reducible refine gate_store (t := 3) (p := 61) rfl ?_); refine store_event (t := 3) (p := 61) (v := ?vo_w51) (w1 := (w49.setCell ⟨go43, ((ji37) : Int).toNat, none⟩ (.int .i64 (Int.tmod (wrap64 ((wrap64 ((rd x5_2 (ji37)) + (wrap64 ((rd l0_0 x6_1) * t220)))) + x7_2)) 10000)))) ?hg ?ho ?hn ?hr ?_; (case ho => rfl); (case hg => rfl); (case hn => rfl); (case hr => go_simp <;> rfl); intro w51 hw; have hg : w49.grownBy w51 (some go43) := (by rw [hw]; exact HP50.2); have hp_ : Kd.R (Kd.int .i64) 3 w51 w.heap.size (fun _ => True) (.slice (some ⟨go43, 0, none⟩) x5_2.length co48) y221 := (by rw [hw, Ny221.out]; exact HP50.1); clear HP50; replace BK205 := aA_ (blk_grown (g := gb205) (o := .cells #[.slice (some ad219) l0_0.length c0_0] 98 (0, 0)) BK205.out hg (Kd.R_ne HO_5.out BK205.out (by decide))); replace BK206 := aA_ (blk_grown (g := gb206) (o := .cells #[.slice A1_0 l1_0.length c1_0] 98 (0, 0)) BK206.out hg (Kd.R_ne HO_5.out BK206.out (by decide))); replace BK207 := aA_ (blk_grown (g := gb207) (o := .cells #[.slice none 0 0] 98 (0, 0)) BK207.out hg (Kd.R_ne HO_5.out BK207.out (by decide))); replace HO_5 := aA_ (hp_); replace HB := aA_ ((by rw [hw]; exact below_set (HB.out) GB43.out : Below w.heap.size w w51)); clear hg hw hp_))
              go_roundg k2
              case measure => have := HK1.out; have := HK2.out; omega
              case rel => exact ⟨(y221), (wrap64 (Int.tdiv (wrap64 ((wrap64 ((rd x5_2 (ji37)) + (wrap64 ((rd l0_0 x6_1) * t220)))) + x7_2)) 10000)), (wrap64 (x8_2 + 1)), (by first | rfl | (simp; done) | (simp only [← hji37] <;> (first | rfl | simp)) | (simp [*]; done)), (by first | rfl | simp | simp [*]), H', ⟨by have := HK1.out; have := HK2.out; omega⟩, ⟨by (with_reducible repeat (first | apply Kd.R_alloc | apply Kd.R_drewN | apply Kd.R_drew)); exact HO_5.out⟩, ⟨by exact BK205.out⟩, ⟨by exact BK206.out⟩, ⟨by exact BK207.out⟩, ⟨by repeat (with_reducible first | exact HB.out | apply bA_ | apply bN_ | apply bD_ | refine bS_ ?_ GE205.out | refine bS_ ?_ GE206.out | refine bS_ ?_ GE207.out)⟩⟩
             ·rw [if_neg c41] at H
              exact absurd H (by simp)
            ·rw [if_neg c40] at H
             exact absurd H (by simp)
           ·rw [if_neg c39] at H
            exact absurd H (by simp)
          ·rw [if_neg c38] at H
           exact absurd H (by simp)
         ·rw [if_neg c36] at H
          have c36b0 : decide (0 < x7_2) = false := decide_eq_false c36
          clear c36
          have H' := aA_ H
          clear H
          have hnb52 := NB206_205.out
          have hnc52 := NB205_206.out
          have hnb53 := NB206_207.out
          have hnc53 := NB207_206.out
          have hcz54_0 : wr.cell? ⟨gb206, 0, none⟩ = some (.slice A1_0 l1_0.length c1_0) := (blk_cell BK206.out 0).trans rfl
          have hfz54_0 := blk_frozen BK206.out 0
          go_wp2
          go_roundg k2
          case measure => have := HK1.out; have := HK2.out; omega
          case rel => exact ⟨(x5_2), (wrap64 (x6_1 + 1)), (by first | rfl | simp | simp [*]), H', ⟨by have := HK1.out; have := HK2.out; omega⟩, ⟨by (with_reducible repeat (first | apply Kd.R_alloc | apply Kd.R_drewN | apply Kd.R_drew)); exact HO_5.out⟩, ⟨by exact BK205.out⟩, ⟨by exact BK206.out⟩, ⟨by exact BK207.out⟩, ⟨by repeat (with_reducible first | exact HB.out | apply bA_ | apply bN_ | apply bD_ | refine bS_ ?_ GE205.out | refine bS_ ?_ GE206.out | refine bS_ ?_ GE207.out)⟩⟩
     ·rw [if_neg c16] at H
      have c16b0 : decide (x6_1 < (l0_0.length : Int)) = false := decide_eq_false c16
      clear c16
      replace H := bI_ H
      obtain ⟨t211, A550, H⟩ := H
      (try dsimp only at H)
      have A55 := aA_ A550
      clear A550
      obtain rfl := Option.some.inj H
      have hnb56 := NB205_206.out
      have hnc56 := NB206_205.out
      have hnb57 := NB205_207.out
      have hnc57 := NB207_205.out
      have hcz58_0 : wr.cell? ⟨gb205, 0, none⟩ = some (.slice A0_0 l0_0.length c0_0) := (blk_cell BK205.out 0).trans rfl
      have hfz58_0 := blk_frozen BK205.out 0
      obtain ⟨Ao59, co59, eo59⟩ := Kd.R_slice HO_5.out
      subst eo59
      go_wp2_with (first | (refine goesL_ (some 65) rfl rfl Try.func73 (by kernel_rfl) rfl #[.slice Ao59 x5_1.length co59] rfl (by (try simp only [mT_, mC_, mN_]); first | done | rfl) ?_; (with_reducible refine (demurrageref01_trim.calls _ _ x5_1 t211 _ ?side1 ?side2 A55.out).mono ?_); (case side1 => repeat (first | exact (Kd.R_reads' HO_5.out).2.2 | (with_reducible first | refine Kd.C_alloc ?_ _ | refine Kd.C_drewN ?_ _ | refine Kd.C_drew ?_))); (case side2 => exact (Kd.R_reads' HO_5.out).2.1); rintro e w60 ⟨v212, rfl, ho0, hb⟩; refine ⟨_, rfl, ?_⟩; have HO213 := aA_ (Kd.R_lower (Kd.R_new' ho0 (Kd.R_lt HO_5.out)) (below_size (by repeat (with_reducible first | exact HB.out | apply bA_ | apply bN_ | apply bD_ | refine bS_ ?_ GE205.out | refine bS_ ?_ GE206.out | refine bS_ ?_ GE207.out)))); replace HO_5 := aA_ (Kd.R_elder' HO_5.out (Kd.R_base ho0) hb); replace BK205 := bK_ BK205 hb; replace BK206 := bK_ BK206 hb; replace BK207 := bK_ BK207 hb; replace HB := bB_ (by repeat (with_reducible first | exact HB.out | apply bA_ | apply bN_ | apply bD_ | refine bS_ ?_ GE205.out | refine bS_ ?_ GE206.out | refine bS_ ?_ GE207.out)) hb; (try clear hb); (try clear ho0); obtain ⟨Ao61, co61, eo61⟩ := Kd.R_slice HO213.out; subst eo61; have hnb62 := NB207_206.out; have hnc62 := NB206_207.out; have hcz63_0 : w60.cell? ⟨gb207, 0, none⟩ = some (.slice none 0 0) := (blk_cell BK207.out 0).trans rfl; have hfz63_0 := blk_frozen BK207.out 0))
      refine bodyPost_ret (results_cell_row rfl _ _ gb207 98 #[.slice Ao61 t211.length co61] (0, 0) _ rfl (by refine blk_put (cs := #[.slice none 0 0]) ?_ 0 _ rfl; exact BK207.out) Try.underlying98 rfl (by kernel_rfl)) rfl ?_
      exact ⟨_, by first | rfl | (simp [errW_none, errW_some] <;> rfl) | (simp only [← hji3]; first | rfl | (simp [errW_none, errW_some] <;> rfl)) | (simp [*, errW_none, errW_some] <;> rfl), by (with_reducible repeat (first | apply Kd.R_alloc | apply Kd.R_drewN | apply Kd.R_drew)); exact Kd.R_mono (Kd.R_far (p := ⟨gb207, 0, none⟩) (Kd.R_types HO213.out BK207.out (by decide)) (fun _ hk => hk.2) (.slice Ao61 t211.length co61)) (fun _ hk => trivial), by repeat (with_reducible first | exact HB.out | apply bA_ | apply bN_ | apply bD_ | refine bS_ ?_ GE205.out | refine bS_ ?_ GE206.out | refine bS_ ?_ GE207.out)⟩
  ·rw [if_neg c5] at H
   exact absurd H (by simp)
 ·rw [if_neg c4] at H
  exact absurd H (by simp)

def demurrageref01_Limit.f (k : Nat)  : Option (List Int) := (demurrageref01_FromU.f k 4294967296).bind fun t223 => ((demurrageref01_Prod.f k t223 t223).bind fun t227 => ((demurrageref01_Prod.f k t223 t223).bind fun t230 => ((demurrageref01_Prod.f k t227 t230).bind fun t233 => (some t233))))
def demurrageref01_Limit.T2 : Bool × List (List Nat × List Nat) := (true, [([], []), ([], []), ([0, 1], [0, 1]), ([], []), ([], []), ([3, 4, 2], [3, 4]), ([2, 5, 5], [2, 5]), ([6, 6, 0, 1, 2, 3, 4, 5, 6], [6])])
def demurrageref01_Limit.B2 : List Nat := [0, 0, 3, 0, 0, 31, 63, 127]
theorem demurrageref01_Limit.tab2 : rtab .any (opsOf Try.f61 2) = demurrageref01_Limit.T2 := by kernel_rfl
theorem demurrageref01_Limit.bits2 : waitsOk demurrageref01_Limit.T2.2 demurrageref01_Limit.B2 = true := by kernel_rfl
set_option maxHeartbeats 8000000 in
set_option maxRecDepth 100000 in
theorem demurrageref01_Limit.calls (k : Nat)  (r : List Int) (w : World) (h : demurrageref01_Limit.f k  = some r) :
  Calls Try.prog 61 #[] w fun e w' => ∃ v0_ : Value, e = .returned (.agg #[v0_]) ∧ Kd.R (Kd.int .i64) 3 w' w.heap.size (fun _ => True) v0_ r ∧ Below w.heap.size w w' := by
 have hu98 := Try.underlying98
 have HB := aA_ (Below.refl w.heap.size w)
 have H : ((demurrageref01_FromU.f k 4294967296).bind fun t223 => ((demurrageref01_Prod.f k t223 t223).bind fun t227 => ((demurrageref01_Prod.f k t223 t223).bind fun t230 => ((demurrageref01_Prod.f k t227 t230).bind fun t233 => (some t233))))) = some r := h
 clear h
 replace H := bI_ H
 obtain ⟨t223, A10, H⟩ := H
 (try dsimp only at H)
 have A1 := aA_ A10
 clear A10
 replace H := bI_ H
 obtain ⟨t227, A20, H⟩ := H
 (try dsimp only at H)
 have A2 := aA_ A20
 clear A20
 replace H := bI_ H
 obtain ⟨t230, A30, H⟩ := H
 (try dsimp only at H)
 have A3 := aA_ A30
 clear A30
 replace H := bI_ H
 obtain ⟨t233, A40, H⟩ := H
 (try dsimp only at H)
 have A4 := aA_ A40
 clear A40
 obtain rfl := Option.some.inj H
 go_enter Try.func61, Try.ntmps61
 try go_wp2_with (first | (refine box_event rfl (N := 0) rfl (cs := #[.slice none 0 0]) (t := 98) ?hr ?_; (case hr => go_simp <;> rfl); intro gb222 hg w5 hbox hb; have BK222 := aA_ (hbox); have GW222 := gW_ hg (by repeat (with_reducible first | exact HB.out | apply bA_ | apply bN_ | apply bD_)); have GE222 := GW222; replace HB := bB_ (by repeat (with_reducible first | exact HB.out | apply bA_ | apply bN_ | apply bD_)) hb; clear hb hbox hg) | (refine goesL_ (some 2) rfl rfl Try.func60 (by kernel_rfl) rfl #[.int .u64 4294967296] rfl (by (try simp only [mT_, mC_, mN_]); first | done | rfl) ?_; (with_reducible refine (demurrageref01_FromU.calls k 4294967296 t223 _ A1.out).mono ?_); rintro e w6 ⟨v224, rfl, ho0, hb⟩; refine ⟨_, rfl, ?_⟩; have HO225 := aA_ (Kd.R_lower ho0 (below_size (by repeat (with_reducible first | exact HB.out | apply bA_ | apply bN_ | apply bD_ | refine bS_ ?_ GE222.out)))); replace BK222 := bK_ BK222 hb; replace HB := bB_ (by repeat (with_reducible first | exact HB.out | apply bA_ | apply bN_ | apply bD_ | refine bS_ ?_ GE222.out)) hb; (try clear hb); (try clear ho0)) | (refine box_event rfl (N := 1) rfl (cs := #[.slice none 0 0]) (t := 98) ?hr ?_; (case hr => go_simp <;> rfl); intro gb226 hg w7 hbox hb; replace HO225 := aA_ (Kd.R_below HO225.out hb); have BK226 := aA_ (hbox); have GW226 := gW_ hg (by repeat (with_reducible first | exact HB.out | apply bA_ | apply bN_ | apply bD_ | refine bS_ ?_ GE222.out)); have GE226 := GW226; replace HB := bB_ (by repeat (with_reducible first | exact HB.out | apply bA_ | apply bN_ | apply bD_ | refine bS_ ?_ GE222.out)) hb; have NB222_226 := nE_ hg BK222; have NB226_222 := aA_ NB222_226.out.symm; replace BK222 := bK_ BK222 hb; clear hb hbox hg; obtain ⟨Ao8, co8, eo8⟩ := Kd.R_slice HO225.out; subst eo8; have hnb9 := NB226_222.out; have hnc9 := NB222_226.out; have hcz10_0 : w7.cell? ⟨gb226, 0, none⟩ = some (.slice none 0 0) := (blk_cell BK226.out 0).trans rfl; have hfz10_0 := blk_frozen BK226.out 0))
 have n0_ : Aside0 (Kd.R (Kd.int .i64) 3 (w7.setCell ⟨gb226, 0, none⟩ (.slice Ao8 t223.length co8)) w.heap.size (fun _ => True) (.slice Ao8 t223.length co8) t223) := ⟨by (with_reducible repeat (first | apply Kd.R_alloc | apply Kd.R_drewN | apply Kd.R_drew)); exact Kd.R_mono (Kd.R_far (p := ⟨gb226, 0, none⟩) (Kd.R_types HO225.out BK226.out (by decide)) (fun _ hk => hk.2) (.slice Ao8 t223.length co8)) (fun _ hk => trivial)⟩
 have n1_ : Aside0 ((w7.setCell ⟨gb226, 0, none⟩ (.slice Ao8 t223.length co8)).heap[gb222]? = some (.cells #[.slice none 0 0] 98 (0, 0))) := ⟨by refine blk_far ?_ NB222_226.out _; exact BK222.out⟩
 have n2_ : Aside0 ((w7.setCell ⟨gb226, 0, none⟩ (.slice Ao8 t223.length co8)).heap[gb226]? = some (.cells #[.slice Ao8 t223.length co8] 98 (0, 0))) := ⟨by refine blk_put (cs := #[.slice none 0 0]) ?_ 0 _ rfl; exact BK226.out⟩
 have n3_ : Aside0 (Below w.heap.size w (w7.setCell ⟨gb226, 0, none⟩ (.slice Ao8 t223.length co8))) := ⟨by repeat (with_reducible first | exact HB.out | apply bA_ | apply bN_ | apply bD_ | refine bS_ ?_ GE222.out | refine bS_ ?_ GE226.out)⟩
 (try clear HO225)
 (try clear BK222)
 (try clear BK226)
 (try clear HB)
 generalize (w7.setCell ⟨gb226, 0, none⟩ (.slice Ao8 t223.length co8)) = w11 at n0_ n1_ n2_ n3_ ⊢
 have HO225 := n0_
 have BK222 := n1_
 have BK226 := n2_
 have HB := n3_
 clear n0_ n1_ n2_ n3_
 replace HO225 := aA_ (Kd.R_drew HO225.out)
 replace BK222 := aA_ (blk_drew BK222.out)
 replace BK226 := aA_ (blk_drew BK226.out)
 replace HB := aA_ (below_drew1 HB.out)
 refine start_ (n := 8) (S := fun w' => w'.cell? ⟨gb226, 0, none⟩ = some (.slice Ao8 t223.length co8)) (ds := []) (demurrageref01_Less.ups 8 0) (by kernel_rfl) rfl rfl ((blk_cell BK226.out 0).trans rfl) (fun hHeld => ?_); refine with_tabW demurrageref01_Limit.tab2 demurrageref01_Limit.bits2 (fun HT_ HW_ => ?_)
 generalize w11.drew = w12 at HO225 BK222 BK226 HB hHeld ⊢
 refine take_ (i := 0) (N := some 3) (v := ?_) (a' := ?_) (demurrageref01_Less.ups 8 1) rfl rfl (take_ofW HT_.out HW_.out (by kernel_rfl)) (fun _ _ _ h => h) (Or.inl ⟨by rfl, ?_⟩) hHeld ?_ ?_
 rotate_left
 ·intro w' s0
  go_simp
  with_reducible rfl
 rotate_left
 ·simp only [Act.put, sT_, sZ_, sS_, i64_w, i32_w]
  rfl
 refine take_ (i := 1) (N := some 4) (v := ?_) (a' := ?_) (demurrageref01_Less.ups 8 3) rfl rfl (take_ofW HT_.out HW_.out (by kernel_rfl)) (fun _ _ _ h => h) (Or.inl ⟨by rfl, ?_⟩) hHeld ?_ ?_
 rotate_left
 ·intro w' s0
  go_simp
  with_reducible rfl
 rotate_left
 ·simp only [Act.put, sT_, sZ_, sS_, i64_w, i32_w]
  rfl
 refine take_ (i := 3) (N := some 6) (v := ?_) (a' := ?_) (demurrageref01_Less.ups 8 11) rfl rfl (take_ofW HT_.out HW_.out (by kernel_rfl)) (fun _ _ _ h => h) (Or.inl ⟨by rfl, ?_⟩) hHeld ?_ ?_
 rotate_left
 ·intro w' s0
  go_simp
  with_reducible rfl
 rotate_left
 ·simp only [Act.put, sT_, sZ_, sS_, i64_w, i32_w]
  rfl
 refine take_ (i := 4) (N := some 7) (v := ?_) (a' := ?_) (demurrageref01_Less.ups 8 27) rfl rfl (take_ofW HT_.out HW_.out (by kernel_rfl)) (fun _ _ _ h => h) (Or.inl ⟨by rfl, ?_⟩) hHeld ?_ ?_
 rotate_left
 ·intro w' s0
  go_simp
  with_reducible rfl
 rotate_left
 ·simp only [Act.put, sT_, sZ_, sS_, i64_w, i32_w]
  rfl
 refine one_ (i := 2) (N := some 5) (demurrageref01_Less.ups 8 31) rfl rfl (one_of HT_.out (by kernel_rfl)) (by decide) (fun K hK => ?_)
 refine goes_ Try.func59 (by kernel_rfl) rfl #[.agg #[.slice Ao8 t223.length co8], .agg #[.slice Ao8 t223.length co8]] (by rfl) rfl rfl (by (try simp only [mT_, mC_, mN_]); first | done | rfl) ?_
 with_reducible refine (demurrageref01_Prod.calls k _ _ t223 _ _ t223 t227 _ ?side1 ?side2 ?side3 ?side4 A2.out).mono ?_
 (case side1 => repeat (first | exact (Kd.R_reads' HO225.out).2.2 | (with_reducible first | refine Kd.C_alloc ?_ _ | refine Kd.C_drewN ?_ _ | refine Kd.C_drew ?_)))
 (case side2 => exact (Kd.R_reads' HO225.out).2.1)
 (case side3 => repeat (first | exact (Kd.R_reads' HO225.out).2.2 | (with_reducible first | refine Kd.C_alloc ?_ _ | refine Kd.C_drewN ?_ _ | refine Kd.C_drew ?_)))
 (case side4 => exact (Kd.R_reads' HO225.out).2.1)
 rintro e w13 ⟨v228, rfl, ho0, hb⟩
 refine ⟨_, rfl, ?_⟩
 have HO229 := aA_ (Kd.R_lower (Kd.R_new' ho0 (Kd.R_lt HO225.out)) (below_size (by repeat (with_reducible first | exact HB.out | apply bA_ | apply bN_ | apply bD_ | refine bS_ ?_ GE222.out | refine bS_ ?_ GE226.out))))
 replace HO225 := aA_ (Kd.R_elder' HO225.out (Kd.R_base ho0) hb)
 replace BK222 := bK_ BK222 hb
 replace BK226 := bK_ BK226 hb
 replace HB := bB_ (by repeat (with_reducible first | exact HB.out | apply bA_ | apply bN_ | apply bD_ | refine bS_ ?_ GE222.out | refine bS_ ?_ GE226.out)) hb
 (try clear hb)
 (try clear hb2)
 (try clear hk)
 (try clear hi)
 (try clear ho0)
 refine hK.out _ _ ((blk_cell BK226.out 0).trans rfl) (fun hHeld => ?_)
 clear hK K
 refine norm_ (by show Act.put _ (some 5) _ = _; simp only [Act.put, sT_, sZ_, sS_, i64_w, i32_w] <;> rfl) ?_
 refine one_ (i := 5) (N := some 8) (demurrageref01_Less.ups 8 63) rfl rfl (one_of HT_.out (by kernel_rfl)) (by decide) (fun K hK => ?_)
 refine goes_ Try.func59 (by kernel_rfl) rfl #[.agg #[.slice Ao8 t223.length co8], .agg #[.slice Ao8 t223.length co8]] (by rfl) rfl rfl (by (try simp only [mT_, mC_, mN_]); first | done | rfl) ?_
 with_reducible refine (demurrageref01_Prod.calls k _ _ t223 _ _ t223 t230 _ ?side1 ?side2 ?side3 ?side4 A3.out).mono ?_
 (case side1 => repeat (first | exact (Kd.R_reads' HO225.out).2.2 | (with_reducible first | refine Kd.C_alloc ?_ _ | refine Kd.C_drewN ?_ _ | refine Kd.C_drew ?_)))
 (case side2 => exact (Kd.R_reads' HO225.out).2.1)
 (case side3 => repeat (first | exact (Kd.R_reads' HO225.out).2.2 | (with_reducible first | refine Kd.C_alloc ?_ _ | refine Kd.C_drewN ?_ _ | refine Kd.C_drew ?_)))
 (case side4 => exact (Kd.R_reads' HO225.out).2.1)
 rintro e w14 ⟨v231, rfl, ho0, hb⟩
 refine ⟨_, rfl, ?_⟩
 have HO232 := aA_ (Kd.R_lower (Kd.R_new' (Kd.R_new' ho0 (Kd.R_lt HO225.out)) (Kd.R_lt HO229.out)) (below_size (by repeat (with_reducible first | exact HB.out | apply bA_ | apply bN_ | apply bD_ | refine bS_ ?_ GE222.out | refine bS_ ?_ GE226.out))))
 replace HO225 := aA_ (Kd.R_elder' HO225.out (Kd.R_base ho0) hb)
 replace HO229 := aA_ (Kd.R_elder' HO229.out (Kd.R_base ho0) hb)
 replace BK222 := bK_ BK222 hb
 replace BK226 := bK_ BK226 hb
 replace HB := bB_ (by repeat (with_reducible first | exact HB.out | apply bA_ | apply bN_ | apply bD_ | refine bS_ ?_ GE222.out | refine bS_ ?_ GE226.out)) hb
 (try clear hb)
 (try clear hb2)
 (try clear hk)
 (try clear hi)
 (try clear ho0)
 obtain ⟨Ao15, co15, eo15⟩ := Kd.R_slice HO229.out
 (first | subst eo15 | (injection eo15 with f1_ f2_ f3_; have f4_ := f1_.symm; have f5_ := f3_.symm; clear f1_ f2_ f3_; subst f4_; subst f5_))
 obtain ⟨Ao16, co16, eo16⟩ := Kd.R_slice HO232.out
 (first | subst eo16 | (injection eo16 with f1_ f2_ f3_; have f4_ := f1_.symm; have f5_ := f3_.symm; clear f1_ f2_ f3_; subst f4_; subst f5_))
 refine hK.out _ _ ((blk_cell BK226.out 0).trans rfl) (fun hHeld => ?_)
 clear hK K
 refine norm_ (by show Act.put _ (some 8) _ = _; simp only [Act.put, sT_, sZ_, sS_, i64_w, i32_w] <;> rfl) ?_
 refine one_ (i := 6) (N := some 9) (demurrageref01_Less.ups 8 127) rfl rfl (one_of HT_.out (by kernel_rfl)) (by decide) (fun K hK => ?_)
 refine goes_ Try.func59 (by kernel_rfl) rfl #[.agg #[.slice Ao15 t227.length co15], .agg #[.slice Ao16 t230.length co16]] (by rfl) rfl rfl (by (try simp only [mT_, mC_, mN_]); first | done | rfl) ?_
 with_reducible refine (demurrageref01_Prod.calls k _ _ t227 _ _ t230 t233 _ ?side1 ?side2 ?side3 ?side4 A4.out).mono ?_
 (case side1 => repeat (first | exact (Kd.R_reads' HO229.out).2.2 | (with_reducible first | refine Kd.C_alloc ?_ _ | refine Kd.C_drewN ?_ _ | refine Kd.C_drew ?_)))
 (case side2 => exact (Kd.R_reads' HO229.out).2.1)
 (case side3 => repeat (first | exact (Kd.R_reads' HO232.out).2.2 | (with_reducible first | refine Kd.C_alloc ?_ _ | refine Kd.C_drewN ?_ _ | refine Kd.C_drew ?_)))
 (case side4 => exact (Kd.R_reads' HO232.out).2.1)
 rintro e w17 ⟨v234, rfl, ho0, hb⟩
 refine ⟨_, rfl, ?_⟩
 have HO235 := aA_ (Kd.R_lower (Kd.R_new' (Kd.R_new' (Kd.R_new' ho0 (Kd.R_lt HO225.out)) (Kd.R_lt HO229.out)) (Kd.R_lt HO232.out)) (below_size (by repeat (with_reducible first | exact HB.out | apply bA_ | apply bN_ | apply bD_ | refine bS_ ?_ GE222.out | refine bS_ ?_ GE226.out))))
 replace HO225 := aA_ (Kd.R_elder' HO225.out (Kd.R_base ho0) hb)
 replace HO229 := aA_ (Kd.R_elder' HO229.out (Kd.R_base ho0) hb)
 replace HO232 := aA_ (Kd.R_elder' HO232.out (Kd.R_base ho0) hb)
 replace BK222 := bK_ BK222 hb
 replace BK226 := bK_ BK226 hb
 replace HB := bB_ (by repeat (with_reducible first | exact HB.out | apply bA_ | apply bN_ | apply bD_ | refine bS_ ?_ GE222.out | refine bS_ ?_ GE226.out)) hb
 (try clear hb)
 (try clear hb2)
 (try clear hk)
 (try clear hi)
 (try clear ho0)
 obtain ⟨Ao18, co18, eo18⟩ := Kd.R_slice HO235.out
 (first | subst eo18 | (injection eo18 with f1_ f2_ f3_; have f4_ := f1_.symm; have f5_ := f3_.symm; clear f1_ f2_ f3_; subst f4_; subst f5_))
 refine hK.out _ _ ((blk_cell BK226.out 0).trans rfl) (fun hHeld => ?_)
 clear hK K
 refine norm_ (by show Act.put _ (some 9) _ = _; simp only [Act.put, sT_, sZ_, sS_, i64_w, i32_w] <;> rfl) ?_
 refine one_ (i := 7) (N := none) (demurrageref01_Less.ups 8 255) rfl rfl (one_of HT_.out (by kernel_rfl)) (by decide) (fun K hK => ?_)
 have hs19 : w17.cell? ⟨gb222, 0, none⟩ = some (.slice none 0 0) := (blk_cell BK222.out 0).trans rfl
 have hfs19 := blk_frozen BK222.out 0
 have hns19_1 := NB226_222.out
 have hms19_1 := NB222_226.out
 refine skip_ (w1 := ?_) (by rfl) rfl ?_ ?_
 rotate_left
 ·go_simp
  rfl
 refine hK.out _ _ (((cell_far (p := ⟨gb222, _, none⟩) NB226_222.out _).trans (hHeld))) (fun hHeld => ?_)
 clear hK K
 refine done_ (done_of HT_.out (by kernel_rfl)) ?_
 try go_wp2
 refine bodyPost_ret (results_cell_row rfl _ _ gb222 98 #[.slice Ao18 t233.length co18] (0, 0) _ rfl (by refine blk_put (cs := #[.slice none 0 0]) ?_ 0 _ rfl; exact BK222.out) Try.underlying98 rfl (by kernel_rfl)) rfl ?_
 exact ⟨_, by rfl, by (with_reducible repeat (first | apply Kd.R_alloc | apply Kd.R_drewN | apply Kd.R_drew)); exact Kd.R_mono (Kd.R_far (p := ⟨gb222, 0, none⟩) (Kd.R_types HO235.out BK222.out (by decide)) (fun _ hk => hk.2) (.slice Ao18 t233.length co18)) (fun _ hk => trivial), by repeat (with_reducible first | exact HB.out | apply bA_ | apply bN_ | apply bD_ | refine bS_ ?_ GE222.out | refine bS_ ?_ GE226.out)⟩

mutual
def demurrageref01_Plus.l0 : Nat → List Int → Int → Int → List Int → List Int → Option (List Int)
 | 0, _, _, _, _, _ => none
 | k + 1, x5, x6, x7, x243000, x244000 => if x7 < (x243000.length : Int) then (demurrageref01_Plus.j1 k x5 x6 x7 true x243000 x244000) else (if x7 < (x244000.length : Int) then (demurrageref01_Plus.j1 k x5 x6 x7 true x243000 x244000) else (demurrageref01_Plus.j1 k x5 x6 x7 (decide (x6 > 0)) x243000 x244000))
def demurrageref01_Plus.j1 : Nat → List Int → Int → Int → Bool → List Int → List Int → Option (List Int)
 | 0, _, _, _, _, _, _ => none
 | k + 1, x5, x6, x7, x24, x243000, x244000 => if x24 = true then ((demurrageref01_part.f x243000 x7).bind fun t245 => ((demurrageref01_part.f x244000 x7).bind fun t246 => (if x5.length < 17592186044416 then (demurrageref01_Plus.l0 k (x5 ++ [Int.tmod (wrap64 ((wrap64 (t245 + t246)) + x6)) 10000]) (wrap64 (Int.tdiv (wrap64 ((wrap64 (t245 + t246)) + x6)) 10000)) (wrap64 (x7 + 1)) x243000 x244000) else (none)))) else (some x5)
end
def demurrageref01_Plus.f (k : Nat) (l0_0 : List Int) (l1_0 : List Int) : Option (List Int) := demurrageref01_Plus.l0 k ([] : List Int) 0 0 l0_0 l1_0
def demurrageref01_Plus.T6 : Bool × List (List Nat × List Nat) := (true, [([], []), ([], []), ([0, 1], [0, 1]), ([], []), ([], []), ([3, 4, 2], [3, 4]), ([2, 5], [2, 5]), ([], []), ([6, 7], [6, 7]), ([8, 5, 0, 1, 2, 3, 4, 5, 6, 7, 8], [8])])
def demurrageref01_Plus.B6 : List Nat := [0, 0, 3, 0, 0, 31, 63, 0, 255, 511]
theorem demurrageref01_Plus.tab6 : rtab .any (opsOf Try.f48 6) = demurrageref01_Plus.T6 := by kernel_rfl
theorem demurrageref01_Plus.bits6 : waitsOk demurrageref01_Plus.T6.2 demurrageref01_Plus.B6 = true := by kernel_rfl
set_option maxHeartbeats 8000000 in
set_option maxRecDepth 100000 in
theorem demurrageref01_Plus.calls (k : Nat) (A0_0 : Option Addr) (c0_0 : Nat) (l0_0 : List Int) (A1_0 : Option Addr) (c1_0 : Nat) (l1_0 : List Int) (r : List Int) (w : World) (hr0_0 : Kd.C (Kd.int .i64) w A0_0 l0_0.length l0_0) (hc0_0 : l0_0.length ≤ c0_0) (hr1_0 : Kd.C (Kd.int .i64) w A1_0 l1_0.length l1_0) (hc1_0 : l1_0.length ≤ c1_0) (h : demurrageref01_Plus.f k l0_0 l1_0 = some r) :
  Calls Try.prog 48 #[.agg #[.slice A0_0 l0_0.length c0_0], .agg #[.slice A1_0 l1_0.length c1_0]] w fun e w' => ∃ v0_ : Value, e = .returned (.agg #[v0_]) ∧ Kd.R (Kd.int .i64) 3 w' w.heap.size (fun _ => True) v0_ r ∧ Below w.heap.size w w' := by
 have hu98 := Try.underlying98
 have HR0_0 := aA_ hr0_0
 have HC0_0 := aA_ hc0_0
 clear hr0_0 hc0_0
 have HR1_0 := aA_ hr1_0
 have HC1_0 := aA_ hc1_0
 clear hr1_0 hc1_0
 have HB := aA_ (Below.refl w.heap.size w)
 have H : (demurrageref01_Plus.l0 k ([] : List Int) 0 0 l0_0 l1_0) = some r := h
 clear h
 have H' := aA_ H
 clear H
 go_enter Try.func48, Try.ntmps48
 go_wp2_with (first | ((with_reducible refine gate_dst (N := 2) rfl ?_); (try (refine gate_guard (by rfl) ?_; dsimp only)); refine box_event rfl (N := 2) rfl (cs := #[.slice A0_0 l0_0.length c0_0]) (t := 98) ?hr ?_; (case hr => go_simp <;> rfl); intro gb242 hg w3 hbox hb; have BK242 := aA_ (hbox); have GW242 := gW_ hg (by repeat (with_reducible first | exact HB.out | apply bA_ | apply bN_ | apply bD_)); have GE242 := GW242; replace HB := bB_ (by repeat (with_reducible first | exact HB.out | apply bA_ | apply bN_ | apply bD_)) hb; clear hb hbox hg) | ((with_reducible refine gate_dst (N := 3) rfl ?_); (try (refine gate_guard (by rfl) ?_; dsimp only)); refine box_event rfl (N := 3) rfl (cs := #[.slice A1_0 l1_0.length c1_0]) (t := 98) ?hr ?_; (case hr => go_simp <;> rfl); intro gb243 hg w4 hbox hb; have BK243 := aA_ (hbox); have GW243 := gW_ hg (by repeat (with_reducible first | exact HB.out | apply bA_ | apply bN_ | apply bD_ | refine bS_ ?_ GE242.out)); have GE243 := GW243; replace HB := bB_ (by repeat (with_reducible first | exact HB.out | apply bA_ | apply bN_ | apply bD_ | refine bS_ ?_ GE242.out)) hb; have NB242_243 := nE_ hg BK242; have NB243_242 := aA_ NB242_243.out.symm; replace BK242 := bK_ BK242 hb; clear hb hbox hg) | ((with_reducible refine gate_dst (N := 4) rfl ?_); (try (refine gate_guard (by rfl) ?_; dsimp only)); refine box_event rfl (N := 4) rfl (cs := #[.slice none 0 0]) (t := 98) ?hr ?_; (case hr => go_simp <;> rfl); intro gb244 hg w5 hbox hb; have BK244 := aA_ (hbox); have GW244 := gW_ hg (by repeat (with_reducible first | exact HB.out | apply bA_ | apply bN_ | apply bD_ | refine bS_ ?_ GE242.out | refine bS_ ?_ GE243.out)); have GE244 := GW244; replace HB := bB_ (by repeat (with_reducible first | exact HB.out | apply bA_ | apply bN_ | apply bD_ | refine bS_ ?_ GE242.out | refine bS_ ?_ GE243.out)) hb; have NB242_244 := nE_ hg BK242; have NB244_242 := aA_ NB242_244.out.symm; replace BK242 := bK_ BK242 hb; have NB243_244 := nE_ hg BK243; have NB244_243 := aA_ NB243_244.out.symm; replace BK243 := bK_ BK243 hb; clear hb hbox hg))
 (try simp only [Act.put, sT_, sZ_, sS_])
 go_loopg [5, 6, 7] k (fun kq v5 v6 v7 w' => ∃ (x5_1 : List Int) (x6_1 : Int) (x7_1 : Int), v6 = .int .i64 x6_1 ∧ v7 = .int .i64 x7_1 ∧ Aside0 (demurrageref01_Plus.l0 kq x5_1 x6_1 x7_1 l0_0 l1_0 = some r) ∧ Aside0 (kq ≤ k) ∧ Aside0 (Kd.R (Kd.int .i64) 3 w' w.heap.size (fun _ => True) v5 x5_1) ∧ Aside0 (w'.heap[gb242]? = some (.cells #[(.slice A0_0 l0_0.length c0_0)] 98 (0, 0))) ∧ Aside0 (w'.heap[gb243]? = some (.cells #[(.slice A1_0 l1_0.length c1_0)] 98 (0, 0))) ∧ Aside0 (w'.heap[gb244]? = some (.cells #[(.slice none 0 0)] 98 (0, 0))) ∧ Aside0 (Below w.heap.size w w'))
 case atStart => exact ⟨(([] : List Int)), (0), (0), (by first | rfl | simp | simp [*]), (by first | rfl | simp | simp [*]), H', ⟨Nat.le_refl _⟩, ⟨by first | exact Kd.R_nil _ _ _ _ _ | exact Kd.N_nil _ _ _ _ _ | exact Kd.V_nil _ _ _ _ _ | exact Kd.Q_nil _ _ _ _ _ | exact Kd.S_nil _ _ _ _ _⟩, ⟨by exact BK242.out⟩, ⟨by exact BK243.out⟩, ⟨by exact BK244.out⟩, ⟨by repeat (with_reducible first | exact HB.out | apply bA_ | apply bN_ | apply bD_ | refine bS_ ?_ GE242.out | refine bS_ ?_ GE243.out | refine bS_ ?_ GE244.out)⟩⟩
 case round =>
  clear H'
  try clear c1
  try clear p2
  try clear c4
  obtain ⟨x5_1, x6_1, x7_1, rfl, rfl, HA, HK1, HO_5, BK242, BK243, BK244, HB⟩ := hrel
  cases gk with
  | zero => exact absurd HA.out (by simp [demurrageref01_Plus.l0])
  | succ k1 =>
   have H := HA.out
   clear HA
   simp only [demurrageref01_Plus.l0] at H
   have HC6 := aA_ H
   clear H
   go_upto_region 4 with (fail)
   go_cut [24] (fun v24 wc => ∃ (kq : Nat) (x24_5 : Bool), v24 = .bool x24_5 ∧ Aside0 (demurrageref01_Plus.j1 kq x5_1 x6_1 x7_1 x24_5 l0_0 l1_0 = some r) ∧ Aside0 (kq ≤ k1) ∧ Aside0 (Kd.R (Kd.int .i64) 3 wc w.heap.size (fun _ => True) u5 x5_1) ∧ Aside0 (wc.heap[gb242]? = some (.cells #[(.slice A0_0 l0_0.length c0_0)] 98 (0, 0))) ∧ Aside0 (wc.heap[gb243]? = some (.cells #[(.slice A1_0 l1_0.length c1_0)] 98 (0, 0))) ∧ Aside0 (wc.heap[gb244]? = some (.cells #[(.slice none 0 0)] 98 (0, 0))) ∧ Aside0 (Below w.heap.size w wc))
   case first =>
    have H := HC6.out
    clear HC6
    by_cases c7 : x7_1 < (l0_0.length : Int)
    ·rw [if_pos c7] at H
     have c7b0 : decide (x7_1 < (l0_0.length : Int)) = true := decide_eq_true c7
     clear c7
     (first | rw [c7b0] | (simp only [i64_w, i32_w]; rw [c7b0]) | rw [c7b1] | skip)
     have H' := aA_ H
     clear H
     have hnb8 := NB242_243.out
     have hnc8 := NB243_242.out
     have hnb9 := NB242_244.out
     have hnc9 := NB244_242.out
     have hcz10_0 : wr.cell? ⟨gb242, 0, none⟩ = some (.slice A0_0 l0_0.length c0_0) := (blk_cell BK242.out 0).trans rfl
     have hfz10_0 := blk_frozen BK242.out 0
     go_wp2
     go_meet
     case rel => exact ⟨_, _, (by first | rfl | simp | simp [*]), H', ⟨by have := HK1.out; first | omega | exact Nat.le_refl _⟩, ⟨by (with_reducible repeat (first | apply Kd.R_alloc | apply Kd.R_drewN | apply Kd.R_drew)); exact HO_5.out⟩, ⟨by exact BK242.out⟩, ⟨by exact BK243.out⟩, ⟨by exact BK244.out⟩, ⟨by repeat (with_reducible first | exact HB.out | apply bA_ | apply bN_ | apply bD_ | refine bS_ ?_ GE242.out | refine bS_ ?_ GE243.out | refine bS_ ?_ GE244.out)⟩⟩
    ·rw [if_neg c7] at H
     have c7b0 : decide (x7_1 < (l0_0.length : Int)) = false := decide_eq_false c7
     clear c7
     (first | rw [c7b0] | (simp only [i64_w, i32_w]; rw [c7b0]) | rw [c7b1] | skip)
     by_cases c11 : x7_1 < (l1_0.length : Int)
     ·rw [if_pos c11] at H
      have c11b0 : decide (x7_1 < (l1_0.length : Int)) = true := decide_eq_true c11
      clear c11
      have H' := aA_ H
      clear H
      have hnb12 := NB242_243.out
      have hnc12 := NB243_242.out
      have hnb13 := NB242_244.out
      have hnc13 := NB244_242.out
      have hcz14_0 : wr.cell? ⟨gb242, 0, none⟩ = some (.slice A0_0 l0_0.length c0_0) := (blk_cell BK242.out 0).trans rfl
      have hfz14_0 := blk_frozen BK242.out 0
      have hnb15 := NB243_244.out
      have hnc15 := NB244_243.out
      have hcz16_0 : wr.cell? ⟨gb243, 0, none⟩ = some (.slice A1_0 l1_0.length c1_0) := (blk_cell BK243.out 0).trans rfl
      have hfz16_0 := blk_frozen BK243.out 0
      go_wp2
      go_meet
      case rel => exact ⟨_, _, (by first | rfl | simp | simp [*]), H', ⟨by have := HK1.out; first | omega | exact Nat.le_refl _⟩, ⟨by (with_reducible repeat (first | apply Kd.R_alloc | apply Kd.R_drewN | apply Kd.R_drew)); exact HO_5.out⟩, ⟨by exact BK242.out⟩, ⟨by exact BK243.out⟩, ⟨by exact BK244.out⟩, ⟨by repeat (with_reducible first | exact HB.out | apply bA_ | apply bN_ | apply bD_ | refine bS_ ?_ GE242.out | refine bS_ ?_ GE243.out | refine bS_ ?_ GE244.out)⟩⟩
     ·rw [if_neg c11] at H
      have c11b0 : decide (x7_1 < (l1_0.length : Int)) = false := decide_eq_false c11
      clear c11
      have H' := aA_ H
      clear H
      have hnb17 := NB242_243.out
      have hnc17 := NB243_242.out
      have hnb18 := NB242_244.out
      have hnc18 := NB244_242.out
      have hcz19_0 : wr.cell? ⟨gb242, 0, none⟩ = some (.slice A0_0 l0_0.length c0_0) := (blk_cell BK242.out 0).trans rfl
      have hfz19_0 := blk_frozen BK242.out 0
      have hnb20 := NB243_244.out
      have hnc20 := NB244_243.out
      have hcz21_0 : wr.cell? ⟨gb243, 0, none⟩ = some (.slice A1_0 l1_0.length c1_0) := (blk_cell BK243.out 0).trans rfl
      have hfz21_0 := blk_frozen BK243.out 0
      go_wp2
      go_meet
      case rel => exact ⟨_, (decide (x6_1 > 0)), (by first | rfl | simp | simp [*]), H', ⟨by have := HK1.out; first | omega | exact Nat.le_refl _⟩, ⟨by (with_reducible repeat (first | apply Kd.R_alloc | apply Kd.R_drewN | apply Kd.R_drew)); exact HO_5.out⟩, ⟨by exact BK242.out⟩, ⟨by exact BK243.out⟩, ⟨by exact BK244.out⟩, ⟨by repeat (with_reducible first | exact HB.out | apply bA_ | apply bN_ | apply bD_ | refine bS_ ?_ GE242.out | refine bS_ ?_ GE243.out | refine bS_ ?_ GE244.out)⟩⟩
   case rest =>
    clear HC6
    try clear c1
    try clear c2
    try clear p2
    try clear c4
    try clear c7
    try clear c7b0
    try clear c7b1
    try clear c8
    try clear c9
    try clear c11
    try clear c11b0
    try clear c12
    try clear c13
    try clear c15
    try clear c17
    try clear c18
    try clear c20
    try clear hcz10_0
    try clear hcz14_0
    try clear hcz16_0
    try clear hcz19_0
    try clear hcz21_0
    try clear hfz10_0
    try clear hfz14_0
    try clear hfz16_0
    try clear hfz19_0
    try clear hfz21_0
    try clear p2
    obtain ⟨kq, x24_5, rfl, HA, HJ5, HO_5, BK242, BK243, BK244, HB⟩ := hcut
    cases kq with
    | zero => exact absurd HA.out (by simp [demurrageref01_Plus.j1])
    | succ kj5 =>
     have H := HA.out
     clear HA
     simp only [demurrageref01_Plus.j1] at H
     by_cases c22 : x24_5 = true
     ·subst c22
      rw [if_pos rfl] at H
      replace H := bI_ H
      obtain ⟨t245, A230, H⟩ := H
      (try dsimp only at H)
      have A23 := aA_ A230
      clear A230
      replace H := bI_ H
      obtain ⟨t246, A240, H⟩ := H
      (try dsimp only at H)
      have A24 := aA_ A240
      clear A240
      by_cases c25 : x5_1.length < 17592186044416
      ·rw [if_pos c25] at H
       have LMc25 := aA_ c25
       clear c25
       obtain ⟨y247, hy247⟩ : ∃ y_ : List Int, y_ = (x5_1 ++ [Int.tmod (wrap64 ((wrap64 (t245 + t246)) + x6_1)) 10000]) := ⟨_, rfl⟩
       replace H : (demurrageref01_Plus.l0 kj5 y247 (wrap64 (Int.tdiv (wrap64 ((wrap64 (t245 + t246)) + x6_1)) 10000)) (wrap64 (x7_1 + 1)) l0_0 l1_0) = some r := by first | (rw [hy247]; with_reducible exact H) | (have H2_ := (Option.bind_some _ _).symm.trans H; rw [hy247]; with_reducible exact H2_) | (have H2_ := (Option.bind_some _ _).symm.trans H; with_reducible exact H2_) | with_reducible exact H | (rw [hy247]; exact H) | exact H
       have Ny247 := aA_ hy247
       clear hy247
       have H' := aA_ H
       clear H
       try go_wp2
       replace HO_5 := aA_ (Kd.R_drew HO_5.out)
       replace BK242 := aA_ (blk_drew BK242.out)
       replace BK243 := aA_ (blk_drew BK243.out)
       replace BK244 := aA_ (blk_drew BK244.out)
       replace HB := aA_ (below_drew1 HB.out)
       refine start_ (n := 10) (S := fun w' => w'.cell? ⟨gb242, 0, none⟩ = some (.slice A0_0 l0_0.length c0_0) ∧ w'.cell? ⟨gb243, 0, none⟩ = some (.slice A1_0 l1_0.length c1_0)) (ds := []) (demurrageref01_Less.ups 10 0) (by kernel_rfl) rfl rfl ⟨(blk_cell BK242.out 0).trans rfl, (blk_cell BK243.out 0).trans rfl⟩ (fun hHeld => ?_); refine with_tabW demurrageref01_Plus.tab6 demurrageref01_Plus.bits6 (fun HT_ HW_ => ?_)
       generalize wc.drew = w26 at HO_5 BK242 BK243 BK244 HB hHeld ⊢
       refine pure_ (i := 1) (N := some 28) (v := ?_) (a' := ?_) (demurrageref01_Less.ups 10 2) rfl rfl (any_of HT_.out (by kernel_rfl)) (fun _ _ _ h => h) (Or.inl ⟨by rfl, ?_⟩) ?_ ?_
       rotate_left
       ·intro w'
        go_simp
        with_reducible rfl
       rotate_left
       ·simp only [Act.put, sT_, sZ_, sS_, i64_w, i32_w]
        rfl
       refine pure_ (i := 4) (N := some 31) (v := ?_) (a' := ?_) (demurrageref01_Less.ups 10 18) rfl rfl (any_of HT_.out (by kernel_rfl)) (fun _ _ _ h => h) (Or.inl ⟨by rfl, ?_⟩) ?_ ?_
       rotate_left
       ·intro w'
        go_simp
        with_reducible rfl
       rotate_left
       ·simp only [Act.put, sT_, sZ_, sS_, i64_w, i32_w]
        rfl
       refine pure_ (i := 7) (N := some 34) (v := ?_) (a' := ?_) (demurrageref01_Less.ups 10 146) rfl rfl (any_of HT_.out (by kernel_rfl)) (fun _ _ _ h => h) (Or.inl ⟨by rfl, ?_⟩) ?_ ?_
       rotate_left
       ·intro w'
        go_simp
        with_reducible rfl
       rotate_left
       ·simp only [Act.put, sT_, sZ_, sS_, i64_w, i32_w]
        rfl
       refine take_ (i := 0) (N := some 27) (v := ?_) (a' := ?_) (demurrageref01_Less.ups 10 147) rfl rfl (take_ofW HT_.out HW_.out (by kernel_rfl)) (fun _ _ _ h => h) (Or.inl ⟨by rfl, ?_⟩) hHeld ?_ ?_
       rotate_left
       ·rintro w' ⟨s0, s1⟩
        go_simp
        with_reducible rfl
       rotate_left
       ·simp only [Act.put, sT_, sZ_, sS_, i64_w, i32_w]
        rfl
       refine take_ (i := 3) (N := some 30) (v := ?_) (a' := ?_) (demurrageref01_Less.ups 10 155) rfl rfl (take_ofW HT_.out HW_.out (by kernel_rfl)) (fun _ _ _ h => h) (Or.inl ⟨by rfl, ?_⟩) hHeld ?_ ?_
       rotate_left
       ·rintro w' ⟨s0, s1⟩
        go_simp
        with_reducible rfl
       rotate_left
       ·simp only [Act.put, sT_, sZ_, sS_, i64_w, i32_w]
        rfl
       refine one_ (i := 2) (N := some 29) (demurrageref01_Less.ups 10 159) rfl rfl (one_of HT_.out (by kernel_rfl)) (by decide) (fun K hK => ?_)
       refine goes_ Try.func67 (by kernel_rfl) rfl #[.agg #[.slice A0_0 l0_0.length c0_0], .int .i64 x7_1] (by rfl) rfl rfl (by (try simp only [mT_, mC_, mN_]); first | done | rfl) ?_
       with_reducible refine (demurrageref01_part.calls _ _ l0_0 x7_1 t245 _ ?side1 ?side2 A23.out).mono ?_
       (case side1 => repeat (first | exact (Kd.C_below HR0_0.out HB.out) | (with_reducible first | refine Kd.C_alloc ?_ _ | refine Kd.C_drewN ?_ _ | refine Kd.C_drew ?_)))
       (case side2 => exact HC0_0.out)
       rintro e w27 ⟨rfl, hb⟩
       refine ⟨_, rfl, ?_⟩
       replace HO_5 := aA_ (Kd.R_below HO_5.out hb)
       replace BK242 := bK_ BK242 hb
       replace BK243 := bK_ BK243 hb
       replace BK244 := bK_ BK244 hb
       replace HB := bB_ (by repeat (with_reducible first | exact HB.out | apply bA_ | apply bN_ | apply bD_ | refine bS_ ?_ GE242.out | refine bS_ ?_ GE243.out | refine bS_ ?_ GE244.out)) hb
       (try clear hb)
       (try clear hb2)
       (try clear hk)
       (try clear hi)
       refine hK.out _ _ ⟨(blk_cell BK242.out 0).trans rfl, (blk_cell BK243.out 0).trans rfl⟩ (fun hHeld => ?_)
       clear hK K
       refine norm_ (by show Act.put _ (some 29) _ = _; simp only [Act.put, sT_, sZ_, sS_, i64_w, i32_w] <;> rfl) ?_
       refine one_ (i := 5) (N := some 32) (demurrageref01_Less.ups 10 191) rfl rfl (one_of HT_.out (by kernel_rfl)) (by decide) (fun K hK => ?_)
       refine goes_ Try.func67 (by kernel_rfl) rfl #[.agg #[.slice A1_0 l1_0.length c1_0], .int .i64 x7_1] (by rfl) rfl rfl (by (try simp only [mT_, mC_, mN_]); first | done | rfl) ?_
       with_reducible refine (demurrageref01_part.calls _ _ l1_0 x7_1 t246 _ ?side1 ?side2 A24.out).mono ?_
       (case side1 => repeat (first | exact (Kd.C_below HR1_0.out HB.out) | (with_reducible first | refine Kd.C_alloc ?_ _ | refine Kd.C_drewN ?_ _ | refine Kd.C_drew ?_)))
       (case side2 => exact HC1_0.out)
       rintro e w28 ⟨rfl, hb⟩
       refine ⟨_, rfl, ?_⟩
       replace HO_5 := aA_ (Kd.R_below HO_5.out hb)
       replace BK242 := bK_ BK242 hb
       replace BK243 := bK_ BK243 hb
       replace BK244 := bK_ BK244 hb
       replace HB := bB_ (by repeat (with_reducible first | exact HB.out | apply bA_ | apply bN_ | apply bD_ | refine bS_ ?_ GE242.out | refine bS_ ?_ GE243.out | refine bS_ ?_ GE244.out)) hb
       (try clear hb)
       (try clear hb2)
       (try clear hk)
       (try clear hi)
       refine hK.out _ _ ⟨(blk_cell BK242.out 0).trans rfl, (blk_cell BK243.out 0).trans rfl⟩ (fun hHeld => ?_)
       clear hK K
       refine norm_ (by show Act.put _ (some 32) _ = _; simp only [Act.put, sT_, sZ_, sS_, i64_w, i32_w] <;> rfl) ?_
       refine pure_ (i := 6) (N := some 33) (v := ?_) (a' := ?_) (demurrageref01_Less.ups 10 255) rfl rfl (any_of HT_.out (by kernel_rfl)) (fun _ _ _ h => h) (Or.inl ⟨by rfl, ?_⟩) ?_ ?_
       rotate_left
       ·intro w'
        go_simp
        with_reducible rfl
       rotate_left
       ·simp only [Act.put, sT_, sZ_, sS_, i64_w, i32_w]
        rfl
       refine pure_ (i := 8) (N := some 35) (v := ?_) (a' := ?_) (demurrageref01_Less.ups 10 511) rfl rfl (any_of HT_.out (by kernel_rfl)) (fun _ _ _ h => h) (Or.inl ⟨by rfl, ?_⟩) ?_ ?_
       rotate_left
       ·intro w'
        go_simp
        with_reducible rfl
       rotate_left
       ·simp only [Act.put, sT_, sZ_, sS_, i64_w, i32_w]
        rfl
       refine pure_ (i := 9) (N := some 8) (v := ?_) (a' := ?_) (demurrageref01_Less.ups 10 1023) rfl rfl (any_of HT_.out (by kernel_rfl)) (fun _ _ _ h => h) (Or.inl ⟨by rfl, ?_⟩) ?_ ?_
       rotate_left
       ·intro w'
        go_simp
        with_reducible rfl
       rotate_left
       ·simp only [Act.put, sT_, sZ_, sS_, i64_w, i32_w]
        rfl
       refine done_ (done_of HT_.out (by kernel_rfl)) ?_
       try go_wp2_with (first | ((with_reducible refine gate_builtin (b := .append) (xs := #[.tmp 36, .tmp 39]) rfl ?_); (try (refine gate_guard (by rfl) ?_; dsimp only)); at_builtin; refine Kd.R_append (Kd.int .i64) (w0 := w) w.heap.size rfl (.tmp 36) (.tmp 39) 80 3 (.int .i64 0) 8 rfl Try.underlying80 info3 rfl (by decide) (by omega) u5 x5_1 (Int.tmod (wrap64 ((wrap64 (t245 + t246)) + x6_1)) 10000) [.int .i64 (Int.tmod (wrap64 ((wrap64 (t245 + t246)) + x6_1)) 10000)] (fun _ => True) (fun _ => False) rfl rfl ?aP (fun _ hk => hk.elim) ?aF ?aO ?aB ?aS ?aL ?_; (case aP => exact rfl); (case aB => exact (by repeat (with_reducible first | exact HB.out | apply bA_ | apply bN_ | apply bD_ | refine bS_ ?_ GE242.out | refine bS_ ?_ GE243.out | refine bS_ ?_ GE244.out))); (case aF => exact (fun _ _ => trivial)); (case aO => exact (by (with_reducible repeat (first | apply Kd.R_alloc | apply Kd.R_drewN | apply Kd.R_drew)); exact HO_5.out)); (case aS => exact (below_size (by repeat (with_reducible first | exact HB.out | apply bA_ | apply bN_ | apply bD_ | refine bS_ ?_ GE242.out | refine bS_ ?_ GE243.out | refine bS_ ?_ GE244.out)))); (case aL => have := LMc25.out; omega); intro v248 w29 ho hb hg hat; rw [← Ny247.out] at ho; replace BK242 := aA_ (blk_grown (g := gb242) (o := .cells #[.slice A0_0 l0_0.length c0_0] 98 (0, 0)) BK242.out hg (Kd.R_ne HO_5.out BK242.out (by decide))); replace BK243 := aA_ (blk_grown (g := gb243) (o := .cells #[.slice A1_0 l1_0.length c1_0] 98 (0, 0)) BK243.out hg (Kd.R_ne HO_5.out BK243.out (by decide))); replace BK244 := aA_ (blk_grown (g := gb244) (o := .cells #[.slice none 0 0] 98 (0, 0)) BK244.out hg (Kd.R_ne HO_5.out BK244.out (by decide))); replace HB := aA_ (hb); have HO249 := aA_ (ho); clear HO_5; clear ho hb hg hat))
       go_roundg kj5
       case measure => have := HK1.out; have := HJ5.out; omega
       case rel => exact ⟨(y247), (wrap64 (Int.tdiv (wrap64 ((wrap64 (t245 + t246)) + x6_1)) 10000)), (wrap64 (x7_1 + 1)), (by first | rfl | simp | simp [*]), (by first | rfl | simp | simp [*]), H', ⟨by have := HK1.out; have := HJ5.out; omega⟩, ⟨by (with_reducible repeat (first | apply Kd.R_alloc | apply Kd.R_drewN | apply Kd.R_drew)); exact HO249.out⟩, ⟨by exact BK242.out⟩, ⟨by exact BK243.out⟩, ⟨by exact BK244.out⟩, ⟨by repeat (with_reducible first | exact HB.out | apply bA_ | apply bN_ | apply bD_ | refine bS_ ?_ GE242.out | refine bS_ ?_ GE243.out | refine bS_ ?_ GE244.out)⟩⟩
      ·rw [if_neg c25] at H
       exact absurd H (by simp)
     ·replace c22 := Bool.eq_false_iff.mpr c22
      subst c22
      rw [if_neg (show ¬ (false = true) by decide)] at H
      obtain rfl := Option.some.inj H
      obtain ⟨Ao30, co30, eo30⟩ := Kd.R_slice HO_5.out
      subst eo30
      have hnb31 := NB244_242.out
      have hnc31 := NB242_244.out
      have hnb32 := NB244_243.out
      have hnc32 := NB243_244.out
      have hcz33_0 : wc.cell? ⟨gb244, 0, none⟩ = some (.slice none 0 0) := (blk_cell BK244.out 0).trans rfl
      have hfz33_0 := blk_frozen BK244.out 0
      go_wp2
      refine bodyPost_ret (results_cell_row rfl _ _ gb244 98 #[.slice Ao30 x5_1.length co30] (0, 0) _ rfl (by refine blk_put (cs := #[.slice none 0 0]) ?_ 0 _ rfl; exact BK244.out) Try.underlying98 rfl (by kernel_rfl)) rfl ?_
      exact ⟨_, by rfl, by (with_reducible repeat (first | apply Kd.R_alloc | apply Kd.R_drewN | apply Kd.R_drew)); exact Kd.R_mono (Kd.R_far (p := ⟨gb244, 0, none⟩) (Kd.R_types HO_5.out BK244.out (by decide)) (fun _ hk => hk.2) (.slice Ao30 x5_1.length co30)) (fun _ hk => trivial), by repeat (with_reducible first | exact HB.out | apply bA_ | apply bN_ | apply bD_ | refine bS_ ?_ GE242.out | refine bS_ ?_ GE243.out | refine bS_ ?_ GE244.out)⟩

def demurrageref01_Less.l0 : Nat → List Int → Int → Int → List Int → List Int → Option (List Int)
 | 0, _, _, _, _, _ => none
 | k + 1, x5, x6, x7, x251000, x252000 => if x7 < (x251000.length : Int) then ((demurrageref01_part.f x251000 x7).bind fun t256 => ((demurrageref01_part.f x252000 x7).bind fun t257 => (if (wrap64 ((wrap64 (t256 - t257)) - x6)) < 0 then (if x5.length < 17592186044416 then (demurrageref01_Less.l0 k (x5 ++ [wrap64 ((wrap64 ((wrap64 (t256 - t257)) - x6)) + 10000)]) 1 (wrap64 (x7 + 1)) x251000 x252000) else (none)) else (if x5.length < 17592186044416 then (demurrageref01_Less.l0 k (x5 ++ [wrap64 ((wrap64 (t256 - t257)) - x6)]) 0 (wrap64 (x7 + 1)) x251000 x252000) else (none))))) else ((demurrageref01_trim.f x5).bind fun t253 => (some t253))
def demurrageref01_Less.f (k : Nat) (l0_0 : List Int) (l1_0 : List Int) : Option (List Int) := demurrageref01_Less.l0 k ([] : List Int) 0 0 l0_0 l1_0
def demurrageref01_Less.T6 : Bool × List (List Nat × List Nat) := (true, [([], []), ([], []), ([0, 1], [0, 1]), ([], []), ([], []), ([3, 4, 2], [3, 4]), ([2, 5], [2, 5]), ([], []), ([6, 7], [6, 7]), ([8, 5, 0, 1, 2, 3, 4, 5, 6, 7, 8], [8])])
def demurrageref01_Less.B6 : List Nat := [0, 0, 3, 0, 0, 31, 63, 0, 255, 511]
theorem demurrageref01_Less.tab6 : rtab .any (opsOf Try.f79 6) = demurrageref01_Less.T6 := by kernel_rfl
theorem demurrageref01_Less.bits6 : waitsOk demurrageref01_Less.T6.2 demurrageref01_Less.B6 = true := by kernel_rfl
set_option maxHeartbeats 8000000 in
set_option maxRecDepth 100000 in
theorem demurrageref01_Less.calls (k : Nat) (A0_0 : Option Addr) (c0_0 : Nat) (l0_0 : List Int) (A1_0 : Option Addr) (c1_0 : Nat) (l1_0 : List Int) (r : List Int) (w : World) (hr0_0 : Kd.C (Kd.int .i64) w A0_0 l0_0.length l0_0) (hc0_0 : l0_0.length ≤ c0_0) (hr1_0 : Kd.C (Kd.int .i64) w A1_0 l1_0.length l1_0) (hc1_0 : l1_0.length ≤ c1_0) (h : demurrageref01_Less.f k l0_0 l1_0 = some r) :
  Calls Try.prog 79 #[.agg #[.slice A0_0 l0_0.length c0_0], .agg #[.slice A1_0 l1_0.length c1_0]] w fun e w' => ∃ v0_ : Value, e = .returned (.agg #[v0_]) ∧ Kd.R (Kd.int .i64) 3 w' w.heap.size (fun _ => True) v0_ r ∧ Below w.heap.size w w' := by
 have hu98 := Try.underlying98
 have HR0_0 := aA_ hr0_0
 have HC0_0 := aA_ hc0_0
 clear hr0_0 hc0_0
 have HR1_0 := aA_ hr1_0
 have HC1_0 := aA_ hc1_0
 clear hr1_0 hc1_0
 have HB := aA_ (Below.refl w.heap.size w)
 have H : (demurrageref01_Less.l0 k ([] : List Int) 0 0 l0_0 l1_0) = some r := h
 clear h
 have H' := aA_ H
 clear H
 go_enter Try.func79, Try.ntmps79
 go_wp2_with (first | (refine box_event rfl (N := 2) rfl (cs := #[.slice A0_0 l0_0.length c0_0]) (t := 98) ?hr ?_; (case hr => go_simp <;> rfl); intro gb250 hg w3 hbox hb; have BK250 := aA_ (hbox); have GW250 := gW_ hg (by repeat (with_reducible first | exact HB.out | apply bA_ | apply bN_ | apply bD_)); have GE250 := GW250; replace HB := bB_ (by repeat (with_reducible first | exact HB.out | apply bA_ | apply bN_ | apply bD_)) hb; clear hb hbox hg) | (refine box_event rfl (N := 3) rfl (cs := #[.slice A1_0 l1_0.length c1_0]) (t := 98) ?hr ?_; (case hr => go_simp <;> rfl); intro gb251 hg w4 hbox hb; have BK251 := aA_ (hbox); have GW251 := gW_ hg (by repeat (with_reducible first | exact HB.out | apply bA_ | apply bN_ | apply bD_ | refine bS_ ?_ GE250.out)); have GE251 := GW251; replace HB := bB_ (by repeat (with_reducible first | exact HB.out | apply bA_ | apply bN_ | apply bD_ | refine bS_ ?_ GE250.out)) hb; have NB250_251 := nE_ hg BK250; have NB251_250 := aA_ NB250_251.out.symm; replace BK250 := bK_ BK250 hb; clear hb hbox hg) | (refine box_event rfl (N := 4) rfl (cs := #[.slice none 0 0]) (t := 98) ?hr ?_; (case hr => go_simp <;> rfl); intro gb252 hg w5 hbox hb; have BK252 := aA_ (hbox); have GW252 := gW_ hg (by repeat (with_reducible first | exact HB.out | apply bA_ | apply bN_ | apply bD_ | refine bS_ ?_ GE250.out | refine bS_ ?_ GE251.out)); have GE252 := GW252; replace HB := bB_ (by repeat (with_reducible first | exact HB.out | apply bA_ | apply bN_ | apply bD_ | refine bS_ ?_ GE250.out | refine bS_ ?_ GE251.out)) hb; have NB250_252 := nE_ hg BK250; have NB252_250 := aA_ NB250_252.out.symm; replace BK250 := bK_ BK250 hb; have NB251_252 := nE_ hg BK251; have NB252_251 := aA_ NB251_252.out.symm; replace BK251 := bK_ BK251 hb; clear hb hbox hg))
 (try simp only [Act.put, sT_, sZ_, sS_])
 go_loopg [5, 6, 7] k (fun kq v5 v6 v7 w' => ∃ (x5_1 : List Int) (x6_1 : Int) (x7_1 : Int), v6 = .int .i64 x6_1 ∧ v7 = .int .i64 x7_1 ∧ Aside0 (demurrageref01_Less.l0 kq x5_1 x6_1 x7_1 l0_0 l1_0 = some r) ∧ Aside0 (kq ≤ k) ∧ Aside0 (Kd.R (Kd.int .i64) 3 w' w.heap.size (fun _ => True) v5 x5_1) ∧ Aside0 (w'.heap[gb250]? = some (.cells #[(.slice A0_0 l0_0.length c0_0)] 98 (0, 0))) ∧ Aside0 (w'.heap[gb251]? = some (.cells #[(.slice A1_0 l1_0.length c1_0)] 98 (0, 0))) ∧ Aside0 (w'.heap[gb252]? = some (.cells #[(.slice none 0 0)] 98 (0, 0))) ∧ Aside0 (Below w.heap.size w w'))
 case atStart => exact ⟨(([] : List Int)), (0), (0), (by first | rfl | simp | simp [*]), (by first | rfl | simp | simp [*]), H', ⟨Nat.le_refl _⟩, ⟨by first | exact Kd.R_nil _ _ _ _ _ | exact Kd.N_nil _ _ _ _ _ | exact Kd.V_nil _ _ _ _ _ | exact Kd.Q_nil _ _ _ _ _ | exact Kd.S_nil _ _ _ _ _⟩, ⟨by exact BK250.out⟩, ⟨by exact BK251.out⟩, ⟨by exact BK252.out⟩, ⟨by repeat (with_reducible first | exact HB.out | apply bA_ | apply bN_ | apply bD_ | refine bS_ ?_ GE250.out | refine bS_ ?_ GE251.out | refine bS_ ?_ GE252.out)⟩⟩
 case round =>
  clear H'
  try clear c1
  try clear p2
  obtain ⟨x5_1, x6_1, x7_1, rfl, rfl, HA, HK1, HO_5, BK250, BK251, BK252, HB⟩ := hrel
  cases gk with
  | zero => exact absurd HA.out (by simp [demurrageref01_Less.l0])
  | succ k1 =>
   have H := HA.out
   clear HA
   simp only [demurrageref01_Less.l0] at H
   by_cases c6 : x7_1 < (l0_0.length : Int)
   ·rw [if_pos c6] at H
    have c6b0 : decide (x7_1 < (l0_0.length : Int)) = true := decide_eq_true c6
    clear c6
    replace H := bI_ H
    obtain ⟨t256, A70, H⟩ := H
    (try dsimp only at H)
    have A7 := aA_ A70
    clear A70
    replace H := bI_ H
    obtain ⟨t257, A80, H⟩ := H
    (try dsimp only at H)
    have A8 := aA_ A80
    clear A80
    by_cases c9 : (wrap64 ((wrap64 (t256 - t257)) - x6_1)) < 0
    ·rw [if_pos c9] at H
     have c9b0 : decide ((wrap64 ((wrap64 (t256 - t257)) - x6_1)) < 0) = true := decide_eq_true c9
     clear c9
     by_cases c10 : x5_1.length < 17592186044416
     ·rw [if_pos c10] at H
      have LMc10 := aA_ c10
      clear c10
      obtain ⟨y258, hy258⟩ : ∃ y_ : List Int, y_ = (x5_1 ++ [wrap64 ((wrap64 ((wrap64 (t256 - t257)) - x6_1)) + 10000)]) := ⟨_, rfl⟩
      replace H : (demurrageref01_Less.l0 k1 y258 1 (wrap64 (x7_1 + 1)) l0_0 l1_0) = some r := by first | (rw [hy258]; with_reducible exact H) | (have H2_ := (Option.bind_some _ _).symm.trans H; rw [hy258]; with_reducible exact H2_) | (have H2_ := (Option.bind_some _ _).symm.trans H; with_reducible exact H2_) | with_reducible exact H | (rw [hy258]; exact H) | exact H
      have Ny258 := aA_ hy258
      clear hy258
      have H' := aA_ H
      clear H
      have hnb11 := NB250_251.out
      have hnc11 := NB251_250.out
      have hnb12 := NB250_252.out
      have hnc12 := NB252_250.out
      have hcz13_0 : wr.cell? ⟨gb250, 0, none⟩ = some (.slice A0_0 l0_0.length c0_0) := (blk_cell BK250.out 0).trans rfl
      have hfz13_0 := blk_frozen BK250.out 0
      try go_wp2
      replace HO_5 := aA_ (Kd.R_drew HO_5.out)
      replace BK250 := aA_ (blk_drew BK250.out)
      replace BK251 := aA_ (blk_drew BK251.out)
      replace BK252 := aA_ (blk_drew BK252.out)
      replace HB := aA_ (below_drew1 HB.out)
      refine start_ (n := 10) (S := fun w' => w'.cell? ⟨gb250, 0, none⟩ = some (.slice A0_0 l0_0.length c0_0) ∧ w'.cell? ⟨gb251, 0, none⟩ = some (.slice A1_0 l1_0.length c1_0)) (ds := []) (demurrageref01_Less.ups 10 0) (by kernel_rfl) rfl rfl ⟨(blk_cell BK250.out 0).trans rfl, (blk_cell BK251.out 0).trans rfl⟩ (fun hHeld => ?_); refine with_tabW demurrageref01_Less.tab6 demurrageref01_Less.bits6 (fun HT_ HW_ => ?_)
      generalize wr.drew = w14 at HO_5 BK250 BK251 BK252 HB hHeld ⊢
      refine pure_ (i := 1) (N := some 17) (v := ?_) (a' := ?_) (demurrageref01_Less.ups 10 2) rfl rfl (any_of HT_.out (by kernel_rfl)) (fun _ _ _ h => h) (Or.inl ⟨by rfl, ?_⟩) ?_ ?_
      rotate_left
      ·intro w'
       go_simp
       with_reducible rfl
      rotate_left
      ·simp only [Act.put, sT_, sZ_, sS_, i64_w, i32_w]
       rfl
      refine pure_ (i := 4) (N := some 20) (v := ?_) (a' := ?_) (demurrageref01_Less.ups 10 18) rfl rfl (any_of HT_.out (by kernel_rfl)) (fun _ _ _ h => h) (Or.inl ⟨by rfl, ?_⟩) ?_ ?_
      rotate_left
      ·intro w'
       go_simp
       with_reducible rfl
      rotate_left
      ·simp only [Act.put, sT_, sZ_, sS_, i64_w, i32_w]
       rfl
      refine pure_ (i := 7) (N := some 23) (v := ?_) (a' := ?_) (demurrageref01_Less.ups 10 146) rfl rfl (any_of HT_.out (by kernel_rfl)) (fun _ _ _ h => h) (Or.inl ⟨by rfl, ?_⟩) ?_ ?_
      rotate_left
      ·intro w'
       go_simp
       with_reducible rfl
      rotate_left
      ·simp only [Act.put, sT_, sZ_, sS_, i64_w, i32_w]
       rfl
      refine take_ (i := 0) (N := some 16) (v := ?_) (a' := ?_) (demurrageref01_Less.ups 10 147) rfl rfl (take_ofW HT_.out HW_.out (by kernel_rfl)) (fun _ _ _ h => h) (Or.inl ⟨by rfl, ?_⟩) hHeld ?_ ?_
      rotate_left
      ·rintro w' ⟨s0, s1⟩
       go_simp
       with_reducible rfl
      rotate_left
      ·simp only [Act.put, sT_, sZ_, sS_, i64_w, i32_w]
       rfl
      refine take_ (i := 3) (N := some 19) (v := ?_) (a' := ?_) (demurrageref01_Less.ups 10 155) rfl rfl (take_ofW HT_.out HW_.out (by kernel_rfl)) (fun _ _ _ h => h) (Or.inl ⟨by rfl, ?_⟩) hHeld ?_ ?_
      rotate_left
      ·rintro w' ⟨s0, s1⟩
       go_simp
       with_reducible rfl
      rotate_left
      ·simp only [Act.put, sT_, sZ_, sS_, i64_w, i32_w]
       rfl
      refine one_ (i := 2) (N := some 18) (demurrageref01_Less.ups 10 159) rfl rfl (one_of HT_.out (by kernel_rfl)) (by decide) (fun K hK => ?_)
      refine goes_ Try.func67 (by kernel_rfl) rfl #[.agg #[.slice A0_0 l0_0.length c0_0], .int .i64 x7_1] (by rfl) rfl rfl (by (try simp only [mT_, mC_, mN_]); first | done | rfl) ?_
      with_reducible refine (demurrageref01_part.calls _ _ l0_0 x7_1 t256 _ ?side1 ?side2 A7.out).mono ?_
      (case side1 => repeat (first | exact (Kd.C_below HR0_0.out HB.out) | (with_reducible first | refine Kd.C_alloc ?_ _ | refine Kd.C_drewN ?_ _ | refine Kd.C_drew ?_)))
      (case side2 => exact HC0_0.out)
      rintro e w15 ⟨rfl, hb⟩
      refine ⟨_, rfl, ?_⟩
      replace HO_5 := aA_ (Kd.R_below HO_5.out hb)
      replace BK250 := bK_ BK250 hb
      replace BK251 := bK_ BK251 hb
      replace BK252 := bK_ BK252 hb
      replace HB := bB_ (by repeat (with_reducible first | exact HB.out | apply bA_ | apply bN_ | apply bD_ | refine bS_ ?_ GE250.out | refine bS_ ?_ GE251.out | refine bS_ ?_ GE252.out)) hb
      (try clear hb)
      (try clear hb2)
      (try clear hk)
      (try clear hi)
      refine hK.out _ _ ⟨(blk_cell BK250.out 0).trans rfl, (blk_cell BK251.out 0).trans rfl⟩ (fun hHeld => ?_)
      clear hK K
      refine norm_ (by show Act.put _ (some 18) _ = _; simp only [Act.put, sT_, sZ_, sS_, i64_w, i32_w] <;> rfl) ?_
      refine one_ (i := 5) (N := some 21) (demurrageref01_Less.ups 10 191) rfl rfl (one_of HT_.out (by kernel_rfl)) (by decide) (fun K hK => ?_)
      refine goes_ Try.func67 (by kernel_rfl) rfl #[.agg #[.slice A1_0 l1_0.length c1_0], .int .i64 x7_1] (by rfl) rfl rfl (by (try simp only [mT_, mC_, mN_]); first | done | rfl) ?_
      with_reducible refine (demurrageref01_part.calls _ _ l1_0 x7_1 t257 _ ?side1 ?side2 A8.out).mono ?_
      (case side1 => repeat (first | exact (Kd.C_below HR1_0.out HB.out) | (with_reducible first | refine Kd.C_alloc ?_ _ | refine Kd.C_drewN ?_ _ | refine Kd.C_drew ?_)))
      (case side2 => exact HC1_0.out)
      rintro e w16 ⟨rfl, hb⟩
      refine ⟨_, rfl, ?_⟩
      replace HO_5 := aA_ (Kd.R_below HO_5.out hb)
      replace BK250 := bK_ BK250 hb
      replace BK251 := bK_ BK251 hb
      replace BK252 := bK_ BK252 hb
      replace HB := bB_ (by repeat (with_reducible first | exact HB.out | apply bA_ | apply bN_ | apply bD_ | refine bS_ ?_ GE250.out | refine bS_ ?_ GE251.out | refine bS_ ?_ GE252.out)) hb
      (try clear hb)
      (try clear hb2)
      (try clear hk)
      (try clear hi)
      refine hK.out _ _ ⟨(blk_cell BK250.out 0).trans rfl, (blk_cell BK251.out 0).trans rfl⟩ (fun hHeld => ?_)
      clear hK K
      refine norm_ (by show Act.put _ (some 21) _ = _; simp only [Act.put, sT_, sZ_, sS_, i64_w, i32_w] <;> rfl) ?_
      refine pure_ (i := 6) (N := some 22) (v := ?_) (a' := ?_) (demurrageref01_Less.ups 10 255) rfl rfl (any_of HT_.out (by kernel_rfl)) (fun _ _ _ h => h) (Or.inl ⟨by rfl, ?_⟩) ?_ ?_
      rotate_left
      ·intro w'
       go_simp
       with_reducible rfl
      rotate_left
      ·simp only [Act.put, sT_, sZ_, sS_, i64_w, i32_w]
       rfl
      refine pure_ (i := 8) (N := some 24) (v := ?_) (a' := ?_) (demurrageref01_Less.ups 10 511) rfl rfl (any_of HT_.out (by kernel_rfl)) (fun _ _ _ h => h) (Or.inl ⟨by rfl, ?_⟩) ?_ ?_
      rotate_left
      ·intro w'
       go_simp
       with_reducible rfl
      rotate_left
      ·simp only [Act.put, sT_, sZ_, sS_, i64_w, i32_w]
       rfl
      refine pure_ (i := 9) (N := some 8) (v := ?_) (a' := ?_) (demurrageref01_Less.ups 10 1023) rfl rfl (any_of HT_.out (by kernel_rfl)) (fun _ _ _ h => h) (Or.inl ⟨by rfl, ?_⟩) ?_ ?_
      rotate_left
      ·intro w'
       go_simp
       with_reducible rfl
      rotate_left
      ·simp only [Act.put, sT_, sZ_, sS_, i64_w, i32_w]
       rfl
      refine done_ (done_of HT_.out (by kernel_rfl)) ?_
      try go_wp2_with (first | ((with_reducible refine gate_builtin (b := .append) (xs := #[.tmp 29, .tmp 31]) rfl ?_); at_builtin; refine Kd.R_append (Kd.int .i64) (w0 := w) w.heap.size rfl (.tmp 29) (.tmp 31) 80 3 (.int .i64 0) 8 rfl Try.underlying80 info3 rfl (by decide) (by omega) u5 x5_1 (wrap64 ((wrap64 ((wrap64 (t256 - t257)) - x6_1)) + 10000)) [.int .i64 (wrap64 ((wrap64 ((wrap64 (t256 - t257)) - x6_1)) + 10000))] (fun _ => True) (fun _ => False) rfl rfl ?aP (fun _ hk => hk.elim) ?aF ?aO ?aB ?aS ?aL ?_; (case aP => exact rfl); (case aB => exact (by repeat (with_reducible first | exact HB.out | apply bA_ | apply bN_ | apply bD_ | refine bS_ ?_ GE250.out | refine bS_ ?_ GE251.out | refine bS_ ?_ GE252.out))); (case aF => exact (fun _ _ => trivial)); (case aO => exact (by (with_reducible repeat (first | apply Kd.R_alloc | apply Kd.R_drewN | apply Kd.R_drew)); exact HO_5.out)); (case aS => exact (below_size (by repeat (with_reducible first | exact HB.out | apply bA_ | apply bN_ | apply bD_ | refine bS_ ?_ GE250.out | refine bS_ ?_ GE251.out | refine bS_ ?_ GE252.out)))); (case aL => have := LMc10.out; omega); intro v259 w17 ho hb hg hat; rw [← Ny258.out] at ho; replace BK250 := aA_ (blk_grown (g := gb250) (o := .cells #[.slice A0_0 l0_0.length c0_0] 98 (0, 0)) BK250.out hg (Kd.R_ne HO_5.out BK250.out (by decide))); replace BK251 := aA_ (blk_grown (g := gb251) (o := .cells #[.slice A1_0 l1_0.length c1_0] 98 (0, 0)) BK251.out hg (Kd.R_ne HO_5.out BK251.out (by decide))); replace BK252 := aA_ (blk_grown (g := gb252) (o := .cells #[.slice none 0 0] 98 (0, 0)) BK252.out hg (Kd.R_ne HO_5.out BK252.out (by decide))); replace HB := aA_ (hb); have HO260 := aA_ (ho); clear HO_5; clear ho hb hg hat))
      go_roundg k1
      case measure => have := HK1.out; omega
      case rel => exact ⟨(y258), (1), (wrap64 (x7_1 + 1)), (by first | rfl | simp | simp [*]), (by first | rfl | simp | simp [*]), H', ⟨by have := HK1.out; omega⟩, ⟨by (with_reducible repeat (first | apply Kd.R_alloc | apply Kd.R_drewN | apply Kd.R_drew)); exact HO260.out⟩, ⟨by exact BK250.out⟩, ⟨by exact BK251.out⟩, ⟨by exact BK252.out⟩, ⟨by repeat (with_reducible first | exact HB.out | apply bA_ | apply bN_ | apply bD_ | refine bS_ ?_ GE250.out | refine bS_ ?_ GE251.out | refine bS_ ?_ GE252.out)⟩⟩
     ·rw [if_neg c10] at H
      exact absurd H (by simp)
    ·rw [if_neg c9] at H
     have c9b0 : decide ((wrap64 ((wrap64 (t256 - t257)) - x6_1)) < 0) = false := decide_eq_false c9
     clear c9
     by_cases c18 : x5_1.length < 17592186044416
     ·rw [if_pos c18] at H
      have LMc18 := aA_ c18
      clear c18
      obtain ⟨y261, hy261⟩ : ∃ y_ : List Int, y_ = (x5_1 ++ [wrap64 ((wrap64 (t256 - t257)) - x6_1)]) := ⟨_, rfl⟩
      replace H : (demurrageref01_Less.l0 k1 y261 0 (wrap64 (x7_1 + 1)) l0_0 l1_0) = some r := by first | (rw [hy261]; with_reducible exact H) | (have H2_ := (Option.bind_some _ _).symm.trans H; rw [hy261]; with_reducible exact H2_) | (have H2_ := (Option.bind_some _ _).symm.trans H; with_reducible exact H2_) | with_reducible exact H | (rw [hy261]; exact H) | exact H
      have Ny261 := aA_ hy261
      clear hy261
      have H' := aA_ H
      clear H
      have hnb19 := NB250_251.out
      have hnc19 := NB251_250.out
      have hnb20 := NB250_252.out
      have hnc20 := NB252_250.out
      have hcz21_0 : wr.cell? ⟨gb250, 0, none⟩ = some (.slice A0_0 l0_0.length c0_0) := (blk_cell BK250.out 0).trans rfl
      have hfz21_0 := blk_frozen BK250.out 0
      try go_wp2
      replace HO_5 := aA_ (Kd.R_drew HO_5.out)
      replace BK250 := aA_ (blk_drew BK250.out)
      replace BK251 := aA_ (blk_drew BK251.out)
      replace BK252 := aA_ (blk_drew BK252.out)
      replace HB := aA_ (below_drew1 HB.out)
      refine start_ (n := 10) (S := fun w' => w'.cell? ⟨gb250, 0, none⟩ = some (.slice A0_0 l0_0.length c0_0) ∧ w'.cell? ⟨gb251, 0, none⟩ = some (.slice A1_0 l1_0.length c1_0)) (ds := []) (demurrageref01_Less.ups 10 0) (by kernel_rfl) rfl rfl ⟨(blk_cell BK250.out 0).trans rfl, (blk_cell BK251.out 0).trans rfl⟩ (fun hHeld => ?_); refine with_tabW demurrageref01_Less.tab6 demurrageref01_Less.bits6 (fun HT_ HW_ => ?_)
      generalize wr.drew = w22 at HO_5 BK250 BK251 BK252 HB hHeld ⊢
      refine pure_ (i := 1) (N := some 17) (v := ?_) (a' := ?_) (demurrageref01_Less.ups 10 2) rfl rfl (any_of HT_.out (by kernel_rfl)) (fun _ _ _ h => h) (Or.inl ⟨by rfl, ?_⟩) ?_ ?_
      rotate_left
      ·intro w'
       go_simp
       with_reducible rfl
      rotate_left
      ·simp only [Act.put, sT_, sZ_, sS_, i64_w, i32_w]
       rfl
      refine pure_ (i := 4) (N := some 20) (v := ?_) (a' := ?_) (demurrageref01_Less.ups 10 18) rfl rfl (any_of HT_.out (by kernel_rfl)) (fun _ _ _ h => h) (Or.inl ⟨by rfl, ?_⟩) ?_ ?_
      rotate_left
      ·intro w'
       go_simp
       with_reducible rfl
      rotate_left
      ·simp only [Act.put, sT_, sZ_, sS_, i64_w, i32_w]
       rfl
      refine pure_ (i := 7) (N := some 23) (v := ?_) (a' := ?_) (demurrageref01_Less.ups 10 146) rfl rfl (any_of HT_.out (by kernel_rfl)) (fun _ _ _ h => h) (Or.inl ⟨by rfl, ?_⟩) ?_ ?_
      rotate_left
      ·intro w'
       go_simp
       with_reducible rfl
      rotate_left
      ·simp only [Act.put, sT_, sZ_, sS_, i64_w, i32_w]
       rfl
      refine take_ (i := 0) (N := some 16) (v := ?_) (a' := ?_) (demurrageref01_Less.ups 10 147) rfl rfl (take_ofW HT_.out HW_.out (by kernel_rfl)) (fun _ _ _ h => h) (Or.inl ⟨by rfl, ?_⟩) hHeld ?_ ?_
      rotate_left
      ·rintro w' ⟨s0, s1⟩
       go_simp
       with_reducible rfl
      rotate_left
      ·simp only [Act.put, sT_, sZ_, sS_, i64_w, i32_w]
       rfl
      refine take_ (i := 3) (N := some 19) (v := ?_) (a' := ?_) (demurrageref01_Less.ups 10 155) rfl rfl (take_ofW HT_.out HW_.out (by kernel_rfl)) (fun _ _ _ h => h) (Or.inl ⟨by rfl, ?_⟩) hHeld ?_ ?_
      rotate_left
      ·rintro w' ⟨s0, s1⟩
       go_simp
       with_reducible rfl
      rotate_left
      ·simp only [Act.put, sT_, sZ_, sS_, i64_w, i32_w]
       rfl
      refine one_ (i := 2) (N := some 18) (demurrageref01_Less.ups 10 159) rfl rfl (one_of HT_.out (by kernel_rfl)) (by decide) (fun K hK => ?_)
      refine goes_ Try.func67 (by kernel_rfl) rfl #[.agg #[.slice A0_0 l0_0.length c0_0], .int .i64 x7_1] (by rfl) rfl rfl (by (try simp only [mT_, mC_, mN_]); first | done | rfl) ?_
      with_reducible refine (demurrageref01_part.calls _ _ l0_0 x7_1 t256 _ ?side1 ?side2 A7.out).mono ?_
      (case side1 => repeat (first | exact (Kd.C_below HR0_0.out HB.out) | (with_reducible first | refine Kd.C_alloc ?_ _ | refine Kd.C_drewN ?_ _ | refine Kd.C_drew ?_)))
      (case side2 => exact HC0_0.out)
      rintro e w23 ⟨rfl, hb⟩
      refine ⟨_, rfl, ?_⟩
      replace HO_5 := aA_ (Kd.R_below HO_5.out hb)
      replace BK250 := bK_ BK250 hb
      replace BK251 := bK_ BK251 hb
      replace BK252 := bK_ BK252 hb
      replace HB := bB_ (by repeat (with_reducible first | exact HB.out | apply bA_ | apply bN_ | apply bD_ | refine bS_ ?_ GE250.out | refine bS_ ?_ GE251.out | refine bS_ ?_ GE252.out)) hb
      (try clear hb)
      (try clear hb2)
      (try clear hk)
      (try clear hi)
      refine hK.out _ _ ⟨(blk_cell BK250.out 0).trans rfl, (blk_cell BK251.out 0).trans rfl⟩ (fun hHeld => ?_)
      clear hK K
      refine norm_ (by show Act.put _ (some 18) _ = _; simp only [Act.put, sT_, sZ_, sS_, i64_w, i32_w] <;> rfl) ?_
      refine one_ (i := 5) (N := some 21) (demurrageref01_Less.ups 10 191) rfl rfl (one_of HT_.out (by kernel_rfl)) (by decide) (fun K hK => ?_)
      refine goes_ Try.func67 (by kernel_rfl) rfl #[.agg #[.slice A1_0 l1_0.length c1_0], .int .i64 x7_1] (by rfl) rfl rfl (by (try simp only [mT_, mC_, mN_]); first | done | rfl) ?_
      with_reducible refine (demurrageref01_part.calls _ _ l1_0 x7_1 t257 _ ?side1 ?side2 A8.out).mono ?_
      (case side1 => repeat (first | exact (Kd.C_below HR1_0.out HB.out) | (with_reducible first | refine Kd.C_alloc ?_ _ | refine Kd.C_drewN ?_ _ | refine Kd.C_drew ?_)))
      (case side2 => exact HC1_0.out)
      rintro e w24 ⟨rfl, hb⟩
      refine ⟨_, rfl, ?_⟩
      replace HO_5 := aA_ (Kd.R_below HO_5.out hb)
      replace BK250 := bK_ BK250 hb
      replace BK251 := bK_ BK251 hb
      replace BK252 := bK_ BK252 hb
      replace HB := bB_ (by repeat (with_reducible first | exact HB.out | apply bA_ | apply bN_ | apply bD_ | refine bS_ ?_ GE250.out | refine bS_ ?_ GE251.out | refine bS_ ?_ GE252.out)) hb
      (try clear hb)
      (try clear hb2)
      (try clear hk)
      (try clear hi)
      refine hK.out _ _ ⟨(blk_cell BK250.out 0).trans rfl, (blk_cell BK251.out 0).trans rfl⟩ (fun hHeld => ?_)
      clear hK K
      refine norm_ (by show Act.put _ (some 21) _ = _; simp only [Act.put, sT_, sZ_, sS_, i64_w, i32_w] <;> rfl) ?_
      refine pure_ (i := 6) (N := some 22) (v := ?_) (a' := ?_) (demurrageref01_Less.ups 10 255) rfl rfl (any_of HT_.out (by kernel_rfl)) (fun _ _ _ h => h) (Or.inl ⟨by rfl, ?_⟩) ?_ ?_
      rotate_left
      ·intro w'
       go_simp
       with_reducible rfl
      rotate_left
      ·simp only [Act.put, sT_, sZ_, sS_, i64_w, i32_w]
       rfl
      refine pure_ (i := 8) (N := some 24) (v := ?_) (a' := ?_) (demurrageref01_Less.ups 10 511) rfl rfl (any_of HT_.out (by kernel_rfl)) (fun _ _ _ h => h) (Or.inl ⟨by rfl, ?_⟩) ?_ ?_
      rotate_left
      ·intro w'
       go_simp
       with_reducible rfl
      rotate_left
      ·simp only [Act.put, sT_, sZ_, sS_, i64_w, i32_w]
       rfl
      refine pure_ (i := 9) (N := some 8) (v := ?_) (a' := ?_) (demurrageref01_Less.ups 10 1023) rfl rfl (any_of HT_.out (by kernel_rfl)) (fun _ _ _ h => h) (Or.inl ⟨by rfl, ?_⟩) ?_ ?_
      rotate_left
      ·intro w'
       go_simp
       with_reducible rfl
      rotate_left
      ·simp only [Act.put, sT_, sZ_, sS_, i64_w, i32_w]
       rfl
      refine done_ (done_of HT_.out (by kernel_rfl)) ?_
      try go_wp2_with (first | ((with_reducible refine gate_builtin (b := .append) (xs := #[.tmp 29, .tmp 31]) rfl ?_); at_builtin; refine Kd.R_append (Kd.int .i64) (w0 := w) w.heap.size rfl (.tmp 29) (.tmp 31) 80 3 (.int .i64 0) 8 rfl Try.underlying80 info3 rfl (by decide) (by omega) u5 x5_1 (wrap64 ((wrap64 (t256 - t257)) - x6_1)) [.int .i64 (wrap64 ((wrap64 (t256 - t257)) - x6_1))] (fun _ => True) (fun _ => False) rfl rfl ?aP (fun _ hk => hk.elim) ?aF ?aO ?aB ?aS ?aL ?_; (case aP => exact rfl); (case aB => exact (by repeat (with_reducible first | exact HB.out | apply bA_ | apply bN_ | apply bD_ | refine bS_ ?_ GE250.out | refine bS_ ?_ GE251.out | refine bS_ ?_ GE252.out))); (case aF => exact (fun _ _ => trivial)); (case aO => exact (by (with_reducible repeat (first | apply Kd.R_alloc | apply Kd.R_drewN | apply Kd.R_drew)); exact HO_5.out)); (case aS => exact (below_size (by repeat (with_reducible first | exact HB.out | apply bA_ | apply bN_ | apply bD_ | refine bS_ ?_ GE250.out | refine bS_ ?_ GE251.out | refine bS_ ?_ GE252.out)))); (case aL => have := LMc18.out; omega); intro v262 w25 ho hb hg hat; rw [← Ny261.out] at ho; replace BK250 := aA_ (blk_grown (g := gb250) (o := .cells #[.slice A0_0 l0_0.length c0_0] 98 (0, 0)) BK250.out hg (Kd.R_ne HO_5.out BK250.out (by decide))); replace BK251 := aA_ (blk_grown (g := gb251) (o := .cells #[.slice A1_0 l1_0.length c1_0] 98 (0, 0)) BK251.out hg (Kd.R_ne HO_5.out BK251.out (by decide))); replace BK252 := aA_ (blk_grown (g := gb252) (o := .cells #[.slice none 0 0] 98 (0, 0)) BK252.out hg (Kd.R_ne HO_5.out BK252.out (by decide))); replace HB := aA_ (hb); have HO263 := aA_ (ho); clear HO_5; clear ho hb hg hat))
      go_roundg k1
      case measure => have := HK1.out; omega
      case rel => exact ⟨(y261), (0), (wrap64 (x7_1 + 1)), (by first | rfl | simp | simp [*]), (by first | rfl | simp | simp [*]), H', ⟨by have := HK1.out; omega⟩, ⟨by (with_reducible repeat (first | apply Kd.R_alloc | apply Kd.R_drewN | apply Kd.R_drew)); exact HO263.out⟩, ⟨by exact BK250.out⟩, ⟨by exact BK251.out⟩, ⟨by exact BK252.out⟩, ⟨by repeat (with_reducible first | exact HB.out | apply bA_ | apply bN_ | apply bD_ | refine bS_ ?_ GE250.out | refine bS_ ?_ GE251.out | refine bS_ ?_ GE252.out)⟩⟩
     ·rw [if_neg c18] at H
      exact absurd H (by simp)
   ·rw [if_neg c6] at H
    have c6b0 : decide (x7_1 < (l0_0.length : Int)) = false := decide_eq_false c6
    clear c6
    replace H := bI_ H
    obtain ⟨t253, A260, H⟩ := H
    (try dsimp only at H)
    have A26 := aA_ A260
    clear A260
    obtain rfl := Option.some.inj H
    have hnb27 := NB250_251.out
    have hnc27 := NB251_250.out
    have hnb28 := NB250_252.out
    have hnc28 := NB252_250.out
    have hcz29_0 : wr.cell? ⟨gb250, 0, none⟩ = some (.slice A0_0 l0_0.length c0_0) := (blk_cell BK250.out 0).trans rfl
    have hfz29_0 := blk_frozen BK250.out 0
    obtain ⟨Ao30, co30, eo30⟩ := Kd.R_slice HO_5.out
    subst eo30
    go_wp2_with (first | (refine goesL_ (some 34) rfl rfl Try.func73 (by kernel_rfl) rfl #[.slice Ao30 x5_1.length co30] rfl (by (try simp only [mT_, mC_, mN_]); first | done | rfl) ?_; (with_reducible refine (demurrageref01_trim.calls _ _ x5_1 t253 _ ?side1 ?side2 A26.out).mono ?_); (case side1 => repeat (first | exact (Kd.R_reads' HO_5.out).2.2 | (with_reducible first | refine Kd.C_alloc ?_ _ | refine Kd.C_drewN ?_ _ | refine Kd.C_drew ?_))); (case side2 => exact (Kd.R_reads' HO_5.out).2.1); rintro e w31 ⟨v254, rfl, ho0, hb⟩; refine ⟨_, rfl, ?_⟩; have HO255 := aA_ (Kd.R_lower (Kd.R_new' ho0 (Kd.R_lt HO_5.out)) (below_size (by repeat (with_reducible first | exact HB.out | apply bA_ | apply bN_ | apply bD_ | refine bS_ ?_ GE250.out | refine bS_ ?_ GE251.out | refine bS_ ?_ GE252.out)))); replace HO_5 := aA_ (Kd.R_elder' HO_5.out (Kd.R_base ho0) hb); replace BK250 := bK_ BK250 hb; replace BK251 := bK_ BK251 hb; replace BK252 := bK_ BK252 hb; replace HB := bB_ (by repeat (with_reducible first | exact HB.out | apply bA_ | apply bN_ | apply bD_ | refine bS_ ?_ GE250.out | refine bS_ ?_ GE251.out | refine bS_ ?_ GE252.out)) hb; (try clear hb); (try clear ho0); obtain ⟨Ao32, co32, eo32⟩ := Kd.R_slice HO255.out; subst eo32; have hnb33 := NB252_251.out; have hnc33 := NB251_252.out; have hcz34_0 : w31.cell? ⟨gb252, 0, none⟩ = some (.slice none 0 0) := (blk_cell BK252.out 0).trans rfl; have hfz34_0 := blk_frozen BK252.out 0))
    refine bodyPost_ret (results_cell_row rfl _ _ gb252 98 #[.slice Ao32 t253.length co32] (0, 0) _ rfl (by refine blk_put (cs := #[.slice none 0 0]) ?_ 0 _ rfl; exact BK252.out) Try.underlying98 rfl (by kernel_rfl)) rfl ?_
    exact ⟨_, by rfl, by (with_reducible repeat (first | apply Kd.R_alloc | apply Kd.R_drewN | apply Kd.R_drew)); exact Kd.R_mono (Kd.R_far (p := ⟨gb252, 0, none⟩) (Kd.R_types HO255.out BK252.out (by decide)) (fun _ hk => hk.2) (.slice Ao32 t253.length co32)) (fun _ hk => trivial), by repeat (with_reducible first | exact HB.out | apply bA_ | apply bN_ | apply bD_ | refine bS_ ?_ GE250.out | refine bS_ ?_ GE251.out | refine bS_ ?_ GE252.out)⟩

end Go.Proofs.Yteikafepdkijdaa.X
