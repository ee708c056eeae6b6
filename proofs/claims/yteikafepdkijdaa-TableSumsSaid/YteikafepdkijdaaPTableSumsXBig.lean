-- cut by prune.py, a program of this session
import Derived.Test.YteikafepdkijdaaPTableSumsX0
import Derived.LoopTactic
namespace Go.Proofs.Yteikafepdkijdaa.X
open Go.RowKit Go.Proofs.YteikafepdkijdaaW.PrintWords Go.Proofs.YteikafepdkijdaaW.PrintLast Go.Proofs.YteikafepdkijdaaW.PrintMore
attribute [local go_sem] max2_int min2_int max_two min_two
set_option linter.unusedVariables false
set_option linter.unusedSimpArgs false

def demurrageref01_Less.upsl : Nat → Nat → List Bool
 | 0, _ => []
 | n + 1, m => (m % 2 == 1) :: demurrageref01_Less.upsl n (m / 2)
def demurrageref01_Less.ups (n m : Nat) : Array Bool := ⟨demurrageref01_Less.upsl n m⟩
def demurrageref01_FromU.l0 : Nat → Int → List Int → Option (List Int)
 | 0, _, _ => none
 | k + 1, x0, x3 => if x0 > 0 then (if x3.length < 17592186044416 then (demurrageref01_FromU.l0 k (IntKind.u64.wrap (Int.tdiv x0 10000)) (x3 ++ [wrap64 (Int.tmod x0 10000)])) else (none)) else (some x3)
def demurrageref01_FromU.f (k : Nat) (a0 : Int) : Option (List Int) := demurrageref01_FromU.l0 k a0 ([] : List Int)
set_option maxHeartbeats 8000000 in
set_option maxRecDepth 100000 in
theorem demurrageref01_FromU.calls (k : Nat) (a0 : Int) (r : List Int) (w : World) (h : demurrageref01_FromU.f k a0 = some r) :
  Calls Try.prog 60 #[.int .u64 a0] w fun e w' => ∃ v0_ : Value, e = .returned (.agg #[v0_]) ∧ Kd.R (Kd.int .i64) 3 w' w.heap.size (fun _ => True) v0_ r ∧ Below w.heap.size w w' := by
 have hu98 := Try.underlying98
 have HB := aA_ (Below.refl w.heap.size w)
 have H : (demurrageref01_FromU.l0 k a0 ([] : List Int)) = some r := h
 clear h
 have H' := aA_ H
 clear H
 go_enter Try.func60, Try.ntmps60
 go_wp2_with (first | (refine box_event rfl (N := 2) rfl (cs := #[.slice none 0 0]) (t := 98) ?hr ?_; (case hr => go_simp <;> rfl); intro gb191 hg w2 hbox hb; have BK191 := aA_ (hbox); have GW191 := gW_ hg (by repeat (with_reducible first | exact HB.out | apply bA_ | apply bN_ | apply bD_)); have GE191 := GW191; replace HB := bB_ (by repeat (with_reducible first | exact HB.out | apply bA_ | apply bN_ | apply bD_)) hb; clear hb hbox hg))
 (try simp only [Act.put, sT_, sZ_, sS_])
 go_loopg [0, 3] k (fun kq v0 v3 w' => ∃ (x0_1 : Int) (x3_1 : List Int), v0 = .int .u64 x0_1 ∧ Aside0 (demurrageref01_FromU.l0 kq x0_1 x3_1 = some r) ∧ Aside0 (kq ≤ k) ∧ Aside0 (Kd.R (Kd.int .i64) 3 w' w.heap.size (fun _ => True) v3 x3_1) ∧ Aside0 (w'.heap[gb191]? = some (.cells #[(.slice none 0 0)] 98 (0, 0))) ∧ Aside0 (Below w.heap.size w w'))
 case atStart => exact ⟨(a0), (([] : List Int)), (by first | rfl | simp | simp [*]), H', ⟨Nat.le_refl _⟩, ⟨by first | exact Kd.R_nil _ _ _ _ _ | exact Kd.N_nil _ _ _ _ _ | exact Kd.V_nil _ _ _ _ _ | exact Kd.Q_nil _ _ _ _ _ | exact Kd.S_nil _ _ _ _ _⟩, ⟨by exact BK191.out⟩, ⟨by repeat (with_reducible first | exact HB.out | apply bA_ | apply bN_ | apply bD_ | refine bS_ ?_ GE191.out)⟩⟩
 case round =>
  clear H'
  try clear p2
  obtain ⟨x0_1, x3_1, rfl, HA, HK1, HO_3, BK191, HB⟩ := hrel
  cases gk with
  | zero => exact absurd HA.out (by simp [demurrageref01_FromU.l0])
  | succ k1 =>
   have H := HA.out
   clear HA
   simp only [demurrageref01_FromU.l0] at H
   by_cases c3 : x0_1 > 0
   ·rw [if_pos c3] at H
    have c3b0 : decide (0 < x0_1) = true := decide_eq_true c3
    clear c3
    by_cases c4 : x3_1.length < 17592186044416
    ·rw [if_pos c4] at H
     have LMc4 := aA_ c4
     clear c4
     obtain ⟨y192, hy192⟩ : ∃ y_ : List Int, y_ = (x3_1 ++ [wrap64 (Int.tmod x0_1 10000)]) := ⟨_, rfl⟩
     replace H : (demurrageref01_FromU.l0 k1 (IntKind.u64.wrap (Int.tdiv x0_1 10000)) y192) = some r := by first | (rw [hy192]; with_reducible exact H) | (have H2_ := (Option.bind_some _ _).symm.trans H; rw [hy192]; with_reducible exact H2_) | (have H2_ := (Option.bind_some _ _).symm.trans H; with_reducible exact H2_) | with_reducible exact H | (rw [hy192]; exact H) | exact H
     have Ny192 := aA_ hy192
     clear hy192
     have H' := aA_ H
     clear H
     go_wp2_with (first | ((with_reducible refine gate_builtin (b := .append) (xs := #[.tmp 6, .tmp 10]) rfl ?_); at_builtin; refine Kd.R_append (Kd.int .i64) (w0 := w) w.heap.size rfl (.tmp 6) (.tmp 10) 80 3 (.int .i64 0) 8 rfl Try.underlying80 info3 rfl (by decide) (by omega) u3 x3_1 (wrap64 (Int.tmod x0_1 10000)) [.int .i64 (wrap64 (Int.tmod x0_1 10000))] (fun _ => True) (fun _ => False) rfl rfl ?aP (fun _ hk => hk.elim) ?aF ?aO ?aB ?aS ?aL ?_; (case aP => exact rfl); (case aB => exact (by repeat (with_reducible first | exact HB.out | apply bA_ | apply bN_ | apply bD_ | refine bS_ ?_ GE191.out))); (case aF => exact (fun _ _ => trivial)); (case aO => exact (by (with_reducible repeat (first | apply Kd.R_alloc | apply Kd.R_drewN | apply Kd.R_drew)); exact HO_3.out)); (case aS => exact (below_size (by repeat (with_reducible first | exact HB.out | apply bA_ | apply bN_ | apply bD_ | refine bS_ ?_ GE191.out)))); (case aL => have := LMc4.out; omega); intro v193 w5 ho hb hg hat; rw [← Ny192.out] at ho; replace BK191 := aA_ (blk_grown (g := gb191) (o := .cells #[.slice none 0 0] 98 (0, 0)) BK191.out hg (Kd.R_ne HO_3.out BK191.out (by decide))); replace HB := aA_ (hb); have HO194 := aA_ (ho); clear HO_3; clear ho hb hg hat))
     go_roundg k1
     case measure => have := HK1.out; omega
     case rel => exact ⟨(IntKind.u64.wrap (Int.tdiv x0_1 10000)), (y192), (by first | rfl | simp | simp [*]), H', ⟨by have := HK1.out; omega⟩, ⟨by (with_reducible repeat (first | apply Kd.R_alloc | apply Kd.R_drewN | apply Kd.R_drew)); exact HO194.out⟩, ⟨by exact BK191.out⟩, ⟨by repeat (with_reducible first | exact HB.out | apply bA_ | apply bN_ | apply bD_ | refine bS_ ?_ GE191.out)⟩⟩
    ·rw [if_neg c4] at H
     exact absurd H (by simp)
   ·rw [if_neg c3] at H
    have c3b0 : decide (0 < x0_1) = false := decide_eq_false c3
    clear c3
    obtain rfl := Option.some.inj H
    obtain ⟨Ao6, co6, eo6⟩ := Kd.R_slice HO_3.out
    subst eo6
    have hcz7_0 : wr.cell? ⟨gb191, 0, none⟩ = some (.slice none 0 0) := (blk_cell BK191.out 0).trans rfl
    have hfz7_0 := blk_frozen BK191.out 0
    go_wp2
    refine bodyPost_ret (results_cell_row rfl _ _ gb191 98 #[.slice Ao6 x3_1.length co6] (0, 0) _ rfl (by refine blk_put (cs := #[.slice none 0 0]) ?_ 0 _ rfl; exact BK191.out) Try.underlying98 rfl (by kernel_rfl)) rfl ?_
    exact ⟨_, by rfl, by (with_reducible repeat (first | apply Kd.R_alloc | apply Kd.R_drewN | apply Kd.R_drew)); exact Kd.R_mono (Kd.R_far (p := ⟨gb191, 0, none⟩) (Kd.R_types HO_3.out BK191.out (by decide)) (fun _ hk => hk.2) (.slice Ao6 x3_1.length co6)) (fun _ hk => trivial), by repeat (with_reducible first | exact HB.out | apply bA_ | apply bN_ | apply bD_ | refine bS_ ?_ GE191.out)⟩

def demurrageref01_part.f (l0_0 : List Int) (a1 : Int) : Option (Int) := if a1 < (l0_0.length : Int) then (if 0 ≤ a1 then (some (rd l0_0 a1)) else (none)) else (some 0)
set_option maxHeartbeats 8000000 in
set_option maxRecDepth 100000 in
theorem demurrageref01_part.calls (A0_0 : Option Addr) (c0_0 : Nat) (l0_0 : List Int) (a1 : Int) (r : Int) (w : World) (hr0_0 : Kd.C (Kd.int .i64) w A0_0 l0_0.length l0_0) (hc0_0 : l0_0.length ≤ c0_0) (h : demurrageref01_part.f l0_0 a1 = some r) :
  Calls Try.prog 67 #[.agg #[.slice A0_0 l0_0.length c0_0], .int .i64 a1] w fun e w' => e = .returned (.int .i64 r) ∧ Below w.heap.size w w' := by
 have hu98 := Try.underlying98
 have HR0_0 := aA_ hr0_0
 have HC0_0 := aA_ hc0_0
 clear hr0_0 hc0_0
 have HB := aA_ (Below.refl w.heap.size w)
 have H : (if a1 < (l0_0.length : Int) then (if 0 ≤ a1 then (some (rd l0_0 a1)) else (none)) else (some 0)) = some r := h
 clear h
 by_cases c3 : a1 < (l0_0.length : Int)
 ·rw [if_pos c3] at H
  have c3b0 : decide (a1 < (l0_0.length : Int)) = true := decide_eq_true c3
  clear c3
  by_cases c4 : 0 ≤ a1
  ·rw [if_pos c4] at H
   have c4b0 : decide (0 ≤ a1) = true := decide_eq_true c4
   clear c4
   obtain rfl := Option.some.inj H
   go_enter Try.func67, Try.ntmps67
   go_wp2_with (first | (refine box_event rfl (N := 2) rfl (cs := #[.slice A0_0 l0_0.length c0_0]) (t := 98) ?hr ?_; (case hr => go_simp <;> rfl); intro gb199 hg w5 hbox hb; have BK199 := aA_ (hbox); have GW199 := gW_ hg (by repeat (with_reducible first | exact HB.out | apply bA_ | apply bN_ | apply bD_)); have GE199 := GW199; replace HB := bB_ (by repeat (with_reducible first | exact HB.out | apply bA_ | apply bN_ | apply bD_)) hb; clear hb hbox hg; have hcz6_0 : w5.cell? ⟨gb199, 0, none⟩ = some (.slice A0_0 l0_0.length c0_0) := (blk_cell BK199.out 0).trans rfl; have hfz6_0 := blk_frozen BK199.out 0; have p200 : 0 ≤ (a1 : Int) := of_decide_eq_true (by first | (with_reducible assumption) | assumption); have q200 : a1 < (l0_0.length : Int) := of_decide_eq_true (by first | (with_reducible assumption) | assumption); obtain ⟨ad200, e200, hx200_0⟩ := Kd.at_int HR0_0.out a1 p200 q200; cases e200; replace hx200_0 := cC_ HB hx200_0; replace p200 := eq_true p200; replace q200 := eq_true q200))
   go_ret
   exact ⟨by rfl, by repeat (with_reducible first | exact HB.out | apply bA_ | apply bN_ | apply bD_ | refine bS_ ?_ GE199.out)⟩
  ·rw [if_neg c4] at H
   exact absurd H (by simp)
 ·rw [if_neg c3] at H
  have c3b0 : decide (a1 < (l0_0.length : Int)) = false := decide_eq_false c3
  clear c3
  obtain rfl := Option.some.inj H
  go_enter Try.func67, Try.ntmps67
  go_wp2_with (first | (refine box_event rfl (N := 2) rfl (cs := #[.slice A0_0 l0_0.length c0_0]) (t := 98) ?hr ?_; (case hr => go_simp <;> rfl); intro gb199 hg w7 hbox hb; have BK199 := aA_ (hbox); have GW199 := gW_ hg (by repeat (with_reducible first | exact HB.out | apply bA_ | apply bN_ | apply bD_)); have GE199 := GW199; replace HB := bB_ (by repeat (with_reducible first | exact HB.out | apply bA_ | apply bN_ | apply bD_)) hb; clear hb hbox hg; have hcz8_0 : w7.cell? ⟨gb199, 0, none⟩ = some (.slice A0_0 l0_0.length c0_0) := (blk_cell BK199.out 0).trans rfl; have hfz8_0 := blk_frozen BK199.out 0))
  go_ret
  exact ⟨by rfl, by repeat (with_reducible first | exact HB.out | apply bA_ | apply bN_ | apply bD_ | refine bS_ ?_ GE199.out)⟩

mutual
def demurrageref01_Cmp.j0 : Nat → Int → List Int → List Int → Option (Int)
 | 0, _, _, _ => none
 | k + 1, x5, x202000, x203000 => demurrageref01_Cmp.l0 k (wrap64 (x5 - 1)) x202000 x203000
def demurrageref01_Cmp.l0 : Nat → Int → List Int → List Int → Option (Int)
 | 0, _, _, _ => none
 | k + 1, x6, x202000, x203000 => if x6 ≥ 0 then ((demurrageref01_part.f x202000 x6).bind fun t203 => ((demurrageref01_part.f x203000 x6).bind fun t204 => (if t203 < t204 then (some (-1)) else (if t203 > t204 then (some 1) else (demurrageref01_Cmp.l0 k (wrap64 (x6 - 1)) x202000 x203000))))) else (some 0)
end
def demurrageref01_Cmp.f (k : Nat) (l0_0 : List Int) (l1_0 : List Int) : Option (Int) := if (l1_0.length : Int) > (l0_0.length : Int) then (demurrageref01_Cmp.j0 k (l1_0.length : Int) l0_0 l1_0) else (demurrageref01_Cmp.j0 k (l0_0.length : Int) l0_0 l1_0)
set_option maxHeartbeats 8000000 in
set_option maxRecDepth 100000 in
theorem demurrageref01_Cmp.calls (k : Nat) (A0_0 : Option Addr) (c0_0 : Nat) (l0_0 : List Int) (A1_0 : Option Addr) (c1_0 : Nat) (l1_0 : List Int) (r : Int) (w : World) (hr0_0 : Kd.C (Kd.int .i64) w A0_0 l0_0.length l0_0) (hc0_0 : l0_0.length ≤ c0_0) (hr1_0 : Kd.C (Kd.int .i64) w A1_0 l1_0.length l1_0) (hc1_0 : l1_0.length ≤ c1_0) (h : demurrageref01_Cmp.f k l0_0 l1_0 = some r) :
  Calls Try.prog 50 #[.agg #[.slice A0_0 l0_0.length c0_0], .agg #[.slice A1_0 l1_0.length c1_0]] w fun e w' => e = .returned (.int .i64 r) ∧ Below w.heap.size w w' := by
 have hu98 := Try.underlying98
 have HR0_0 := aA_ hr0_0
 have HC0_0 := aA_ hc0_0
 clear hr0_0 hc0_0
 have HR1_0 := aA_ hr1_0
 have HC1_0 := aA_ hc1_0
 clear hr1_0 hc1_0
 have HB := aA_ (Below.refl w.heap.size w)
 have H : (if (l1_0.length : Int) > (l0_0.length : Int) then (demurrageref01_Cmp.j0 k (l1_0.length : Int) l0_0 l1_0) else (demurrageref01_Cmp.j0 k (l0_0.length : Int) l0_0 l1_0)) = some r := h
 clear h
 have HC3 := aA_ H
 clear H
 go_enter Try.func50, Try.ntmps50
 go_upto_if 16 with (first | (refine box_event rfl (N := 2) rfl (cs := #[.slice A0_0 l0_0.length c0_0]) (t := 98) ?hr ?_; (case hr => go_simp <;> rfl); intro gb201 hg w4 hbox hb; have BK201 := aA_ (hbox); have GW201 := gW_ hg (by repeat (with_reducible first | exact HB.out | apply bA_ | apply bN_ | apply bD_)); have GE201 := GW201; replace HB := bB_ (by repeat (with_reducible first | exact HB.out | apply bA_ | apply bN_ | apply bD_)) hb; clear hb hbox hg) | (refine box_event rfl (N := 3) rfl (cs := #[.slice A1_0 l1_0.length c1_0]) (t := 98) ?hr ?_; (case hr => go_simp <;> rfl); intro gb202 hg w5 hbox hb; have BK202 := aA_ (hbox); have GW202 := gW_ hg (by repeat (with_reducible first | exact HB.out | apply bA_ | apply bN_ | apply bD_ | refine bS_ ?_ GE201.out)); have GE202 := GW202; replace HB := bB_ (by repeat (with_reducible first | exact HB.out | apply bA_ | apply bN_ | apply bD_ | refine bS_ ?_ GE201.out)) hb; have NB201_202 := nE_ hg BK201; have NB202_201 := aA_ NB201_202.out.symm; replace BK201 := bK_ BK201 hb; clear hb hbox hg; have hnb6 := NB201_202.out; have hnc6 := NB202_201.out; have hcz7_0 : w5.cell? ⟨gb201, 0, none⟩ = some (.slice A0_0 l0_0.length c0_0) := (blk_cell BK201.out 0).trans rfl; have hfz7_0 := blk_frozen BK201.out 0; have hcz8_0 : w5.cell? ⟨gb202, 0, none⟩ = some (.slice A1_0 l1_0.length c1_0) := (blk_cell BK202.out 0).trans rfl; have hfz8_0 := blk_frozen BK202.out 0))
 (try simp only [Act.put, sT_, sZ_, sS_])
 go_cut [5] (fun v5 wc => ∃ (kq : Nat) (x5_2 : Int), v5 = .int .i64 x5_2 ∧ Aside0 (demurrageref01_Cmp.j0 kq x5_2 l0_0 l1_0 = some r) ∧ Aside0 (kq ≤ k) ∧ Aside0 (wc.heap[gb201]? = some (.cells #[(.slice A0_0 l0_0.length c0_0)] 98 (0, 0))) ∧ Aside0 (wc.heap[gb202]? = some (.cells #[(.slice A1_0 l1_0.length c1_0)] 98 (0, 0))) ∧ Aside0 (Below w.heap.size w wc))
 case first =>
  have H := HC3.out
  clear HC3
  by_cases c9 : (l1_0.length : Int) > (l0_0.length : Int)
  ·rw [if_pos c9] at H
   have c9b0 : decide ((l0_0.length : Int) < (l1_0.length : Int)) = true := decide_eq_true c9
   have c9b1 : decide (l0_0.length < l1_0.length) = true := decide_eq_true (Int.ofNat_lt.mp c9)
   clear c9
   (first | rw [c9b0] | (simp only [i64_w, i32_w]; rw [c9b0]) | rw [c9b1] | skip)
   have H' := aA_ H
   clear H
   have hnb10 := NB202_201.out
   have hnc10 := NB201_202.out
   have hcz11_0 : w5.cell? ⟨gb202, 0, none⟩ = some (.slice A1_0 l1_0.length c1_0) := (blk_cell BK202.out 0).trans rfl
   have hfz11_0 := blk_frozen BK202.out 0
   go_wp2
   go_meet
   case rel => exact ⟨_, _, (by first | rfl | simp | simp [*]), H', ⟨by first | omega | exact Nat.le_refl _⟩, ⟨by exact BK201.out⟩, ⟨by exact BK202.out⟩, ⟨by repeat (with_reducible first | exact HB.out | apply bA_ | apply bN_ | apply bD_ | refine bS_ ?_ GE201.out | refine bS_ ?_ GE202.out)⟩⟩
  ·rw [if_neg c9] at H
   have c9b0 : decide ((l0_0.length : Int) < (l1_0.length : Int)) = false := decide_eq_false c9
   have c9b1 : decide (l0_0.length < l1_0.length) = false := decide_eq_false (fun h => c9 (Int.ofNat_lt.mpr h))
   clear c9
   (first | rw [c9b0] | (simp only [i64_w, i32_w]; rw [c9b0]) | rw [c9b1] | skip)
   have H' := aA_ H
   clear H
   go_wp2
   go_meet
   case rel => exact ⟨_, _, (by first | rfl | simp | simp [*]), H', ⟨by first | omega | exact Nat.le_refl _⟩, ⟨by exact BK201.out⟩, ⟨by exact BK202.out⟩, ⟨by repeat (with_reducible first | exact HB.out | apply bA_ | apply bN_ | apply bD_ | refine bS_ ?_ GE201.out | refine bS_ ?_ GE202.out)⟩⟩
 case rest =>
  clear HC3
  try clear c1
  try clear p2
  try clear c5
  try clear c6
  try clear c9
  try clear c9b0
  try clear c9b1
  try clear c10
  try clear hcz11_0
  try clear hcz7_0
  try clear hcz8_0
  try clear hfz11_0
  try clear hfz7_0
  try clear hfz8_0
  obtain ⟨kq, x5_2, rfl, HA, HJ2, BK201, BK202, HB⟩ := hcut
  cases kq with
  | zero => exact absurd HA.out (by simp [demurrageref01_Cmp.j0])
  | succ kj2 =>
   have H := HA.out
   clear HA
   simp only [demurrageref01_Cmp.j0] at H
   have H' := aA_ H
   clear H
   go_wp2
   (try simp only [Act.put, sT_, sZ_, sS_])
   go_loopg [6] kj2 (fun kq v6 w' => ∃ (x6_2 : Int), v6 = .int .i64 x6_2 ∧ Aside0 (demurrageref01_Cmp.l0 kq x6_2 l0_0 l1_0 = some r) ∧ Aside0 (kq ≤ kj2) ∧ Aside0 (w'.heap[gb201]? = some (.cells #[(.slice A0_0 l0_0.length c0_0)] 98 (0, 0))) ∧ Aside0 (w'.heap[gb202]? = some (.cells #[(.slice A1_0 l1_0.length c1_0)] 98 (0, 0))) ∧ Aside0 (Below w.heap.size w w'))
   case atStart => exact ⟨(wrap64 (x5_2 - 1)), (by first | rfl | simp | simp [*]), H', ⟨Nat.le_refl _⟩, ⟨by exact BK201.out⟩, ⟨by exact BK202.out⟩, ⟨by repeat (with_reducible first | exact HB.out | apply bA_ | apply bN_ | apply bD_ | refine bS_ ?_ GE201.out | refine bS_ ?_ GE202.out)⟩⟩
   case round =>
    clear H'
    try clear c1
    try clear p2
    try clear c5
    try clear c6
    try clear p6
    try clear c9
    try clear c9b0
    try clear c9b1
    try clear c10
    try clear hcz11_0
    try clear hcz7_0
    try clear hcz8_0
    try clear hfz11_0
    try clear hfz7_0
    try clear hfz8_0
    try clear p2
    obtain ⟨x6_2, rfl, HA, HK2, BK201, BK202, HB⟩ := hrel
    cases gk with
    | zero => exact absurd HA.out (by simp [demurrageref01_Cmp.l0])
    | succ k2 =>
     have H := HA.out
     clear HA
     simp only [demurrageref01_Cmp.l0] at H
     by_cases c12 : x6_2 ≥ 0
     rotate_left
     ·rw [if_neg c12] at H
      have c12b0 : decide (0 ≤ x6_2) = false := decide_eq_false c12
      clear c12
      obtain rfl := Option.some.inj H
      go_wp2
      go_ret
      exact ⟨by rfl, by repeat (with_reducible first | exact HB.out | apply bA_ | apply bN_ | apply bD_ | refine bS_ ?_ GE201.out | refine bS_ ?_ GE202.out)⟩
     rw [if_pos c12] at H
     have c12b0 : decide (0 ≤ x6_2) = true := decide_eq_true c12
     clear c12
     replace H := bI_ H
     obtain ⟨t203, A130, H⟩ := H
     (try dsimp only at H)
     have A13 := aA_ A130
     clear A130
     replace H := bI_ H
     obtain ⟨t204, A140, H⟩ := H
     (try dsimp only at H)
     have A14 := aA_ A140
     clear A140
     by_cases c15 : t203 < t204
     focus
      rw [if_pos c15] at H
      have c15b0 : decide (t203 < t204) = true := decide_eq_true c15
      clear c15
      obtain rfl := Option.some.inj H
     rotate_left
     focus
      rw [if_neg c15] at H
      have c15b0 : decide (t203 < t204) = false := decide_eq_false c15
      clear c15
      by_cases c21 : t203 > t204
      focus
       rw [if_pos c21] at H
       have c21b0 : decide (t204 < t203) = true := decide_eq_true c21
       clear c21
       obtain rfl := Option.some.inj H
      rotate_left
      focus
       rw [if_neg c21] at H
       have c21b0 : decide (t204 < t203) = false := decide_eq_false c21
       clear c21
       have H' := aA_ H
       clear H
     all_goals
      have hnb16 := NB201_202.out
      have hnc16 := NB202_201.out
      have hcz17_0 : wr.cell? ⟨gb201, 0, none⟩ = some (.slice A0_0 l0_0.length c0_0) := (blk_cell BK201.out 0).trans rfl
      have hfz17_0 := blk_frozen BK201.out 0
      go_wp2_with (first | (refine goesL_ (some 28) rfl rfl Try.func67 (by kernel_rfl) rfl #[.agg #[.slice A0_0 l0_0.length c0_0], .int .i64 x6_2] rfl (by (try simp only [mT_, mC_, mN_]); first | done | rfl) ?_; (with_reducible refine (demurrageref01_part.calls _ _ l0_0 x6_2 t203 _ ?side1 ?side2 A13.out).mono ?_); (case side1 => repeat (first | exact (Kd.C_below HR0_0.out HB.out) | (with_reducible first | refine Kd.C_alloc ?_ _ | refine Kd.C_drewN ?_ _ | refine Kd.C_drew ?_))); (case side2 => exact HC0_0.out); rintro e w18 ⟨rfl, hb⟩; refine ⟨_, rfl, ?_⟩; replace BK201 := bK_ BK201 hb; replace BK202 := bK_ BK202 hb; replace HB := bB_ (by repeat (with_reducible first | exact HB.out | apply bA_ | apply bN_ | apply bD_ | refine bS_ ?_ GE201.out | refine bS_ ?_ GE202.out)) hb; (try clear hb); have hcz19_0 : w18.cell? ⟨gb202, 0, none⟩ = some (.slice A1_0 l1_0.length c1_0) := (blk_cell BK202.out 0).trans rfl; have hfz19_0 := blk_frozen BK202.out 0) | (refine goesL_ (some 31) rfl rfl Try.func67 (by kernel_rfl) rfl #[.agg #[.slice A1_0 l1_0.length c1_0], .int .i64 x6_2] rfl (by (try simp only [mT_, mC_, mN_]); first | done | rfl) ?_; (with_reducible refine (demurrageref01_part.calls _ _ l1_0 x6_2 t204 _ ?side1 ?side2 A14.out).mono ?_); (case side1 => repeat (first | exact (Kd.C_below HR1_0.out HB.out) | (with_reducible first | refine Kd.C_alloc ?_ _ | refine Kd.C_drewN ?_ _ | refine Kd.C_drew ?_))); (case side2 => exact HC1_0.out); rintro e w20 ⟨rfl, hb⟩; refine ⟨_, rfl, ?_⟩; replace BK201 := bK_ BK201 hb; replace BK202 := bK_ BK202 hb; replace HB := bB_ (by repeat (with_reducible first | exact HB.out | apply bA_ | apply bN_ | apply bD_ | refine bS_ ?_ GE201.out | refine bS_ ?_ GE202.out)) hb; (try clear hb)))
     ·go_roundg k2
      case measure => have := HJ2.out; have := HK2.out; omega
      case rel => exact ⟨(wrap64 (x6_2 - 1)), (by first | rfl | simp | simp [*]), H', ⟨by have := HJ2.out; have := HK2.out; omega⟩, ⟨by exact BK201.out⟩, ⟨by exact BK202.out⟩, ⟨by repeat (with_reducible first | exact HB.out | apply bA_ | apply bN_ | apply bD_ | refine bS_ ?_ GE201.out | refine bS_ ?_ GE202.out)⟩⟩
     ·go_ret
      exact ⟨by rfl, by repeat (with_reducible first | exact HB.out | apply bA_ | apply bN_ | apply bD_ | refine bS_ ?_ GE201.out | refine bS_ ?_ GE202.out)⟩
     ·go_ret
      exact ⟨by rfl, by repeat (with_reducible first | exact HB.out | apply bA_ | apply bN_ | apply bD_ | refine bS_ ?_ GE201.out | refine bS_ ?_ GE202.out)⟩


mutual
def demurrageref01_Plus.l0 : Nat → List Int → Int → Int → List Int → List Int → Option (List Int)
 | 0, _, _, _, _, _ => none
 | k + 1, x5, x6, x7, x243000, x244000 => if x7 < (x243000.length : Int) then (demurrageref01_Plus.j1 k x5 x6 x7 true x243000 x244000) else (if x7 < (x244000.length : Int) then (demurrageref01_Plus.j1 k x5 x6 x7 true x243000 x244000) else (demurrageref01_Plus.j1 k x5 x6 x7 (decide (x6 > 0)) x243000 x244000))
def demurrageref01_Plus.j1 : Nat → List Int → Int → Int → Bool → List Int → List Int → Option (List Int)
 | 0, _, _, _, _, _, _ => none
 | k + 1, x5, x6, x7, x24, x243000, x244000 => if x24 = true then ((demurrageref01_part.f x243000 x7).bind fun t245 => ((demurrageref01_part.f x244000 x7).bind fun t246 => (if x5.length < 17592186044416 then (demurrageref01_Plus.l0 k (x5 ++ [Int.tmod (wrap64 ((wrap64 (t245 + t246)) + x6)) 10000]) (wrap64 (Int.tdiv (wrap64 ((wrap64 (t245 + t246)) + x6)) 10000)) (wrap64 (x7 + 1)) x243000 x244000) else (none)))) else (some x5)
end
def demurrageref01_Plus.f (k : Nat) (l0_0 : List Int) (l1_0 : List Int) : Option (List Int) := demurrageref01_Plus.l0 k ([] : List Int) 0 0 l0_0 l1_0
def demurrageref01_Plus.T6 : Bool × List (List Nat × List Nat) := (true, [([], []), ([], []), ([0, 1], [0, 1]), ([], []), ([], []), ([3, 4, 2], [3, 4]), ([2, 5], [2, 5]), ([], []), ([6, 7], [6, 7]), ([8, 5, 0, 1, 2, 3, 4, 5, 6, 7, 8], [8])])
def demurrageref01_Plus.B6 : List Nat := [0, 0, 3, 0, 0, 31, 63, 0, 255, 511]
theorem demurrageref01_Plus.tab6 : rtab .any (opsOf Try.f48 6) = demurrageref01_Plus.T6 := by kernel_rfl
theorem demurrageref01_Plus.bits6 : waitsOk demurrageref01_Plus.T6.2 demurrageref01_Plus.B6 = true := by kernel_rfl
set_option maxHeartbeats 8000000 in
set_option maxRecDepth 100000 in
theorem demurrageref01_Plus.calls (k : Nat) (A0_0 : Option Addr) (c0_0 : Nat) (l0_0 : List Int) (A1_0 : Option Addr) (c1_0 : Nat) (l1_0 : List Int) (r : List Int) (w : World) (hr0_0 : Kd.C (Kd.int .i64) w A0_0 l0_0.length l0_0) (hc0_0 : l0_0.length ≤ c0_0) (hr1_0 : Kd.C (Kd.int .i64) w A1_0 l1_0.length l1_0) (hc1_0 : l1_0.length ≤ c1_0) (h : demurrageref01_Plus.f k l0_0 l1_0 = some r) :
  Calls Try.prog 48 #[.agg #[.slice A0_0 l0_0.length c0_0], .agg #[.slice A1_0 l1_0.length c1_0]] w fun e w' => ∃ v0_ : Value, e = .returned (.agg #[v0_]) ∧ Kd.R (Kd.int .i64) 3 w' w.heap.size (fun _ => True) v0_ r ∧ Below w.heap.size w w' := by
 have hu98 := Try.underlying98
 have HR0_0 := aA_ hr0_0
 have HC0_0 := aA_ hc0_0
 clear hr0_0 hc0_0
 have HR1_0 := aA_ hr1_0
 have HC1_0 := aA_ hc1_0
 clear hr1_0 hc1_0
 have HB := aA_ (Below.refl w.heap.size w)
 have H : (demurrageref01_Plus.l0 k ([] : List Int) 0 0 l0_0 l1_0) = some r := h
 clear h
 have H' := aA_ H
 clear H
 go_enter Try.func48, Try.ntmps48
 go_wp2_with (first | ((with_reducible refine gate_dst (N := 2) rfl ?_); (try (refine gate_guard (by rfl) ?_; dsimp only)); refine box_event rfl (N := 2) rfl (cs := #[.slice A0_0 l0_0.length c0_0]) (t := 98) ?hr ?_; (case hr => go_simp <;> rfl); intro gb242 hg w3 hbox hb; have BK242 := aA_ (hbox); have GW242 := gW_ hg (by repeat (with_reducible first | exact HB.out | apply bA_ | apply bN_ | apply bD_)); have GE242 := GW242; replace HB := bB_ (by repeat (with_reducible first | exact HB.out | apply bA_ | apply bN_ | apply bD_)) hb; clear hb hbox hg) | ((with_reducible refine gate_dst (N := 3) rfl ?_); (try (refine gate_guard (by rfl) ?_; dsimp only)); refine box_event rfl (N := 3) rfl (cs := #[.slice A1_0 l1_0.length c1_0]) (t := 98) ?hr ?_; (case hr => go_simp <;> rfl); intro gb243 hg w4 hbox hb; have BK243 := aA_ (hbox); have GW243 := gW_ hg (by repeat (with_reducible first | exact HB.out | apply bA_ | apply bN_ | apply bD_ | refine bS_ ?_ GE242.out)); have GE243 := GW243; replace HB := bB_ (by repeat (with_reducible first | exact HB.out | apply bA_ | apply bN_ | apply bD_ | refine bS_ ?_ GE242.out)) hb; have NB242_243 := nE_ hg BK242; have NB243_242 := aA_ NB242_243.out.symm; replace BK242 := bK_ BK242 hb; clear hb hbox hg) | ((with_reducible refine gate_dst (N := 4) rfl ?_); (try (refine gate_guard (by rfl) ?_; dsimp only)); refine box_event rfl (N := 4) rfl (cs := #[.slice none 0 0]) (t := 98) ?hr ?_; (case hr => go_simp <;> rfl); intro gb244 hg w5 hbox hb; have BK244 := aA_ (hbox); have GW244 := gW_ hg (by repeat (with_reducible first | exact HB.out | apply bA_ | apply bN_ | apply bD_ | refine bS_ ?_ GE242.out | refine bS_ ?_ GE243.out)); have GE244 := GW244; replace HB := bB_ (by repeat (with_reducible first | exact HB.out | apply bA_ | apply bN_ | apply bD_ | refine bS_ ?_ GE242.out | refine bS_ ?_ GE243.out)) hb; have NB242_244 := nE_ hg BK242; have NB244_242 := aA_ NB242_244.out.symm; replace BK242 := bK_ BK242 hb; have NB243_244 := nE_ hg BK243; have NB244_243 := aA_ NB243_244.out.symm; replace BK243 := bK_ BK243 hb; clear hb hbox hg))
 (try simp only [Act.put, sT_, sZ_, sS_])
 go_loopg [5, 6, 7] k (fun kq v5 v6 v7 w' => ∃ (x5_1 : List Int) (x6_1 : Int) (x7_1 : Int), v6 = .int .i64 x6_1 ∧ v7 = .int .i64 x7_1 ∧ Aside0 (demurrageref01_Plus.l0 kq x5_1 x6_1 x7_1 l0_0 l1_0 = some r) ∧ Aside0 (kq ≤ k) ∧ Aside0 (Kd.R (Kd.int .i64) 3 w' w.heap.size (fun _ => True) v5 x5_1) ∧ Aside0 (w'.heap[gb242]? = some (.cells #[(.slice A0_0 l0_0.length c0_0)] 98 (0, 0))) ∧ Aside0 (w'.heap[gb243]? = some (.cells #[(.slice A1_0 l1_0.length c1_0)] 98 (0, 0))) ∧ Aside0 (w'.heap[gb244]? = some (.cells #[(.slice none 0 0)] 98 (0, 0))) ∧ Aside0 (Below w.heap.size w w'))
 case atStart => exact ⟨(([] : List Int)), (0), (0), (by first | rfl | simp | simp [*]), (by first | rfl | simp | simp [*]), H', ⟨Nat.le_refl _⟩, ⟨by first | exact Kd.R_nil _ _ _ _ _ | exact Kd.N_nil _ _ _ _ _ | exact Kd.V_nil _ _ _ _ _ | exact Kd.Q_nil _ _ _ _ _ | exact Kd.S_nil _ _ _ _ _⟩, ⟨by exact BK242.out⟩, ⟨by exact BK243.out⟩, ⟨by exact BK244.out⟩, ⟨by repeat (with_reducible first | exact HB.out | apply bA_ | apply bN_ | apply bD_ | refine bS_ ?_ GE242.out | refine bS_ ?_ GE243.out | refine bS_ ?_ GE244.out)⟩⟩
 case round =>
  clear H'
  try clear c1
  try clear p2
  try clear c4
  obtain ⟨x5_1, x6_1, x7_1, rfl, rfl, HA, HK1, HO_5, BK242, BK243, BK244, HB⟩ := hrel
  cases gk with
  | zero => exact absurd HA.out (by simp [demurrageref01_Plus.l0])
  | succ k1 =>
   have H := HA.out
   clear HA
   simp only [demurrageref01_Plus.l0] at H
   have HC6 := aA_ H
   clear H
   go_upto_region 4 with (fail)
   go_cut [24] (fun v24 wc => ∃ (kq : Nat) (x24_5 : Bool), v24 = .bool x24_5 ∧ Aside0 (demurrageref01_Plus.j1 kq x5_1 x6_1 x7_1 x24_5 l0_0 l1_0 = some r) ∧ Aside0 (kq ≤ k1) ∧ Aside0 (Kd.R (Kd.int .i64) 3 wc w.heap.size (fun _ => True) u5 x5_1) ∧ Aside0 (wc.heap[gb242]? = some (.cells #[(.slice A0_0 l0_0.length c0_0)] 98 (0, 0))) ∧ Aside0 (wc.heap[gb243]? = some (.cells #[(.slice A1_0 l1_0.length c1_0)] 98 (0, 0))) ∧ Aside0 (wc.heap[gb244]? = some (.cells #[(.slice none 0 0)] 98 (0, 0))) ∧ Aside0 (Below w.heap.size w wc))
   case first =>
    have H := HC6.out
    clear HC6
    by_cases c7 : x7_1 < (l0_0.length : Int)
    ·rw [if_pos c7] at H
     have c7b0 : decide (x7_1 < (l0_0.length : Int)) = true := decide_eq_true c7
     clear c7
     (first | rw [c7b0] | (simp only [i64_w, i32_w]; rw [c7b0]) | rw [c7b1] | skip)
     have H' := aA_ H
     clear H
     have hnb8 := NB242_243.out
     have hnc8 := NB243_242.out
     have hnb9 := NB242_244.out
     have hnc9 := NB244_242.out
     have hcz10_0 : wr.cell? ⟨gb242, 0, none⟩ = some (.slice A0_0 l0_0.length c0_0) := (blk_cell BK242.out 0).trans rfl
     have hfz10_0 := blk_frozen BK242.out 0
     go_wp2
     go_meet
     case rel => exact ⟨_, _, (by first | rfl | simp | simp [*]), H', ⟨by have := HK1.out; first | omega | exact Nat.le_refl _⟩, ⟨by (with_reducible repeat (first | apply Kd.R_alloc | apply Kd.R_drewN | apply Kd.R_drew)); exact HO_5.out⟩, ⟨by exact BK242.out⟩, ⟨by exact BK243.out⟩, ⟨by exact BK244.out⟩, ⟨by repeat (with_reducible first | exact HB.out | apply bA_ | apply bN_ | apply bD_ | refine bS_ ?_ GE242.out | refine bS_ ?_ GE243.out | refine bS_ ?_ GE244.out)⟩⟩
    ·rw [if_neg c7] at H
     have c7b0 : decide (x7_1 < (l0_0.length : Int)) = false := decide_eq_false c7
     clear c7
     (first | rw [c7b0] | (simp only [i64_w, i32_w]; rw [c7b0]) | rw [c7b1] | skip)
     by_cases c11 : x7_1 < (l1_0.length : Int)
     ·rw [if_pos c11] at H
      have c11b0 : decide (x7_1 < (l1_0.length : Int)) = true := decide_eq_true c11
      clear c11
      have H' := aA_ H
      clear H
      have hnb12 := NB242_243.out
      have hnc12 := NB243_242.out
      have hnb13 := NB242_244.out
      have hnc13 := NB244_242.out
      have hcz14_0 : wr.cell? ⟨gb242, 0, none⟩ = some (.slice A0_0 l0_0.length c0_0) := (blk_cell BK242.out 0).trans rfl
      have hfz14_0 := blk_frozen BK242.out 0
      have hnb15 := NB243_244.out
      have hnc15 := NB244_243.out
      have hcz16_0 : wr.cell? ⟨gb243, 0, none⟩ = some (.slice A1_0 l1_0.length c1_0) := (blk_cell BK243.out 0).trans rfl
      have hfz16_0 := blk_frozen BK243.out 0
      go_wp2
      go_meet
      case rel => exact ⟨_, _, (by first | rfl | simp | simp [*]), H', ⟨by have := HK1.out; first | omega | exact Nat.le_refl _⟩, ⟨by (with_reducible repeat (first | apply Kd.R_alloc | apply Kd.R_drewN | apply Kd.R_drew)); exact HO_5.out⟩, ⟨by exact BK242.out⟩, ⟨by exact BK243.out⟩, ⟨by exact BK244.out⟩, ⟨by repeat (with_reducible first | exact HB.out | apply bA_ | apply bN_ | apply bD_ | refine bS_ ?_ GE242.out | refine bS_ ?_ GE243.out | refine bS_ ?_ GE244.out)⟩⟩
     ·rw [if_neg c11] at H
      have c11b0 : decide (x7_1 < (l1_0.length : Int)) = false := decide_eq_false c11
      clear c11
      have H' := aA_ H
      clear H
      have hnb17 := NB242_243.out
      have hnc17 := NB243_242.out
      have hnb18 := NB242_244.out
      have hnc18 := NB244_242.out
      have hcz19_0 : wr.cell? ⟨gb242, 0, none⟩ = some (.slice A0_0 l0_0.length c0_0) := (blk_cell BK242.out 0).trans rfl
      have hfz19_0 := blk_frozen BK242.out 0
      have hnb20 := NB243_244.out
      have hnc20 := NB244_243.out
      have hcz21_0 : wr.cell? ⟨gb243, 0, none⟩ = some (.slice A1_0 l1_0.length c1_0) := (blk_cell BK243.out 0).trans rfl
      have hfz21_0 := blk_frozen BK243.out 0
      go_wp2
      go_meet
      case rel => exact ⟨_, (decide (x6_1 > 0)), (by first | rfl | simp | simp [*]), H', ⟨by have := HK1.out; first | omega | exact Nat.le_refl _⟩, ⟨by (with_reducible repeat (first | apply Kd.R_alloc | apply Kd.R_drewN | apply Kd.R_drew)); exact HO_5.out⟩, ⟨by exact BK242.out⟩, ⟨by exact BK243.out⟩, ⟨by exact BK244.out⟩, ⟨by repeat (with_reducible first | exact HB.out | apply bA_ | apply bN_ | apply bD_ | refine bS_ ?_ GE242.out | refine bS_ ?_ GE243.out | refine bS_ ?_ GE244.out)⟩⟩
   case rest =>
    clear HC6
    try clear c1
    try clear c2
    try clear p2
    try clear c4
    try clear c7
    try clear c7b0
    try clear c7b1
    try clear c8
    try clear c9
    try clear c11
    try clear c11b0
    try clear c12
    try clear c13
    try clear c15
    try clear c17
    try clear c18
    try clear c20
    try clear hcz10_0
    try clear hcz14_0
    try clear hcz16_0
    try clear hcz19_0
    try clear hcz21_0
    try clear hfz10_0
    try clear hfz14_0
    try clear hfz16_0
    try clear hfz19_0
    try clear hfz21_0
    try clear p2
    obtain ⟨kq, x24_5, rfl, HA, HJ5, HO_5, BK242, BK243, BK244, HB⟩ := hcut
    cases kq with
    | zero => exact absurd HA.out (by simp [demurrageref01_Plus.j1])
    | succ kj5 =>
     have H := HA.out
     clear HA
     simp only [demurrageref01_Plus.j1] at H
     by_cases c22 : x24_5 = true
     ·subst c22
      rw [if_pos rfl] at H
      replace H := bI_ H
      obtain ⟨t245, A230, H⟩ := H
      (try dsimp only at H)
      have A23 := aA_ A230
      clear A230
      replace H := bI_ H
      obtain ⟨t246, A240, H⟩ := H
      (try dsimp only at H)
      have A24 := aA_ A240
      clear A240
      by_cases c25 : x5_1.length < 17592186044416
      ·rw [if_pos c25] at H
       have LMc25 := aA_ c25
       clear c25
       obtain ⟨y247, hy247⟩ : ∃ y_ : List Int, y_ = (x5_1 ++ [Int.tmod (wrap64 ((wrap64 (t245 + t246)) + x6_1)) 10000]) := ⟨_, rfl⟩
       replace H : (demurrageref01_Plus.l0 kj5 y247 (wrap64 (Int.tdiv (wrap64 ((wrap64 (t245 + t246)) + x6_1)) 10000)) (wrap64 (x7_1 + 1)) l0_0 l1_0) = some r := by first | (rw [hy247]; with_reducible exact H) | (have H2_ := (Option.bind_some _ _).symm.trans H; rw [hy247]; with_reducible exact H2_) | (have H2_ := (Option.bind_some _ _).symm.trans H; with_reducible exact H2_) | with_reducible exact H | (rw [hy247]; exact H) | exact H
       have Ny247 := aA_ hy247
       clear hy247
       have H' := aA_ H
       clear H
       try go_wp2
       replace HO_5 := aA_ (Kd.R_drew HO_5.out)
       replace BK242 := aA_ (blk_drew BK242.out)
       replace BK243 := aA_ (blk_drew BK243.out)
       replace BK244 := aA_ (blk_drew BK244.out)
       replace HB := aA_ (below_drew1 HB.out)
       refine start_ (n := 10) (S := fun w' => w'.cell? ⟨gb242, 0, none⟩ = some (.slice A0_0 l0_0.length c0_0) ∧ w'.cell? ⟨gb243, 0, none⟩ = some (.slice A1_0 l1_0.length c1_0)) (ds := []) (demurrageref01_Less.ups 10 0) (by kernel_rfl) rfl rfl ⟨(blk_cell BK242.out 0).trans rfl, (blk_cell BK243.out 0).trans rfl⟩ (fun hHeld => ?_); refine with_tabW demurrageref01_Plus.tab6 demurrageref01_Plus.bits6 (fun HT_ HW_ => ?_)
       generalize wc.drew = w26 at HO_5 BK242 BK243 BK244 HB hHeld ⊢
       refine pure_ (i := 1) (N := some 28) (v := ?_) (a' := ?_) (demurrageref01_Less.ups 10 2) rfl rfl (any_of HT_.out (by kernel_rfl)) (fun _ _ _ h => h) (Or.inl ⟨by rfl, ?_⟩) ?_ ?_
       rotate_left
       ·intro w'
        go_simp
        with_reducible rfl
       rotate_left
       ·simp only [Act.put, sT_, sZ_, sS_, i64_w, i32_w]
        rfl
       refine pure_ (i := 4) (N := some 31) (v := ?_) (a' := ?_) (demurrageref01_Less.ups 10 18) rfl rfl (any_of HT_.out (by kernel_rfl)) (fun _ _ _ h => h) (Or.inl ⟨by rfl, ?_⟩) ?_ ?_
       rotate_left
       ·intro w'
        go_simp
        with_reducible rfl
       rotate_left
       ·simp only [Act.put, sT_, sZ_, sS_, i64_w, i32_w]
        rfl
       refine pure_ (i := 7) (N := some 34) (v := ?_) (a' := ?_) (demurrageref01_Less.ups 10 146) rfl rfl (any_of HT_.out (by kernel_rfl)) (fun _ _ _ h => h) (Or.inl ⟨by rfl, ?_⟩) ?_ ?_
       rotate_left
       ·intro w'
        go_simp
        with_reducible rfl
       rotate_left
       ·simp only [Act.put, sT_, sZ_, sS_, i64_w, i32_w]
        rfl
       refine take_ (i := 0) (N := some 27) (v := ?_) (a' := ?_) (demurrageref01_Less.ups 10 147) rfl rfl (take_ofW HT_.out HW_.out (by kernel_rfl)) (fun _ _ _ h => h) (Or.inl ⟨by rfl, ?_⟩) hHeld ?_ ?_
       rotate_left
       ·rintro w' ⟨s0, s1⟩
        go_simp
        with_reducible rfl
       rotate_left
       ·simp only [Act.put, sT_, sZ_, sS_, i64_w, i32_w]
        rfl
       refine take_ (i := 3) (N := some 30) (v := ?_) (a' := ?_) (demurrageref01_Less.ups 10 155) rfl rfl (take_ofW HT_.out HW_.out (by kernel_rfl)) (fun _ _ _ h => h) (Or.inl ⟨by rfl, ?_⟩) hHeld ?_ ?_
       rotate_left
       ·rintro w' ⟨s0, s1⟩
        go_simp
        with_reducible rfl
       rotate_left
       ·simp only [Act.put, sT_, sZ_, sS_, i64_w, i32_w]
        rfl
       refine one_ (i := 2) (N := some 29) (demurrageref01_Less.ups 10 159) rfl rfl (one_of HT_.out (by kernel_rfl)) (by decide) (fun K hK => ?_)
       refine goes_ Try.func67 (by kernel_rfl) rfl #[.agg #[.slice A0_0 l0_0.length c0_0], .int .i64 x7_1] (by rfl) rfl rfl (by (try simp only [mT_, mC_, mN_]); first | done | rfl) ?_
       with_reducible refine (demurrageref01_part.calls _ _ l0_0 x7_1 t245 _ ?side1 ?side2 A23.out).mono ?_
       (case side1 => repeat (first | exact (Kd.C_below HR0_0.out HB.out) | (with_reducible first | refine Kd.C_alloc ?_ _ | refine Kd.C_drewN ?_ _ | refine Kd.C_drew ?_)))
       (case side2 => exact HC0_0.out)
       rintro e w27 ⟨rfl, hb⟩
       refine ⟨_, rfl, ?_⟩
       replace HO_5 := aA_ (Kd.R_below HO_5.out hb)
       replace BK242 := bK_ BK242 hb
       replace BK243 := bK_ BK243 hb
       replace BK244 := bK_ BK244 hb
       replace HB := bB_ (by repeat (with_reducible first | exact HB.out | apply bA_ | apply bN_ | apply bD_ | refine bS_ ?_ GE242.out | refine bS_ ?_ GE243.out | refine bS_ ?_ GE244.out)) hb
       (try clear hb)
       (try clear hb2)
       (try clear hk)
       (try clear hi)
       refine hK.out _ _ ⟨(blk_cell BK242.out 0).trans rfl, (blk_cell BK243.out 0).trans rfl⟩ (fun hHeld => ?_)
       clear hK K
       refine norm_ (by show Act.put _ (some 29) _ = _; simp only [Act.put, sT_, sZ_, sS_, i64_w, i32_w] <;> rfl) ?_
       refine one_ (i := 5) (N := some 32) (demurrageref01_Less.ups 10 191) rfl rfl (one_of HT_.out (by kernel_rfl)) (by decide) (fun K hK => ?_)
       refine goes_ Try.func67 (by kernel_rfl) rfl #[.agg #[.slice A1_0 l1_0.length c1_0], .int .i64 x7_1] (by rfl) rfl rfl (by (try simp only [mT_, mC_, mN_]); first | done | rfl) ?_
       with_reducible refine (demurrageref01_part.calls _ _ l1_0 x7_1 t246 _ ?side1 ?side2 A24.out).mono ?_
       (case side1 => repeat (first | exact (Kd.C_below HR1_0.out HB.out) | (with_reducible first | refine Kd.C_alloc ?_ _ | refine Kd.C_drewN ?_ _ | refine Kd.C_drew ?_)))
       (case side2 => exact HC1_0.out)
       rintro e w28 ⟨rfl, hb⟩
       refine ⟨_, rfl, ?_⟩
       replace HO_5 := aA_ (Kd.R_below HO_5.out hb)
       replace BK242 := bK_ BK242 hb
       replace BK243 := bK_ BK243 hb
       replace BK244 := bK_ BK244 hb
       replace HB := bB_ (by repeat (with_reducible first | exact HB.out | apply bA_ | apply bN_ | apply bD_ | refine bS_ ?_ GE242.out | refine bS_ ?_ GE243.out | refine bS_ ?_ GE244.out)) hb
       (try clear hb)
       (try clear hb2)
       (try clear hk)
       (try clear hi)
       refine hK.out _ _ ⟨(blk_cell BK242.out 0).trans rfl, (blk_cell BK243.out 0).trans rfl⟩ (fun hHeld => ?_)
       clear hK K
       refine norm_ (by show Act.put _ (some 32) _ = _; simp only [Act.put, sT_, sZ_, sS_, i64_w, i32_w] <;> rfl) ?_
       refine pure_ (i := 6) (N := some 33) (v := ?_) (a' := ?_) (demurrageref01_Less.ups 10 255) rfl rfl (any_of HT_.out (by kernel_rfl)) (fun _ _ _ h => h) (Or.inl ⟨by rfl, ?_⟩) ?_ ?_
       rotate_left
       ·intro w'
        go_simp
        with_reducible rfl
       rotate_left
       ·simp only [Act.put, sT_, sZ_, sS_, i64_w, i32_w]
        rfl
       refine pure_ (i := 8) (N := some 35) (v := ?_) (a' := ?_) (demurrageref01_Less.ups 10 511) rfl rfl (any_of HT_.out (by kernel_rfl)) (fun _ _ _ h => h) (Or.inl ⟨by rfl, ?_⟩) ?_ ?_
       rotate_left
       ·intro w'
        go_simp
        with_reducible rfl
       rotate_left
       ·simp only [Act.put, sT_, sZ_, sS_, i64_w, i32_w]
        rfl
       refine pure_ (i := 9) (N := some 8) (v := ?_) (a' := ?_) (demurrageref01_Less.ups 10 1023) rfl rfl (any_of HT_.out (by kernel_rfl)) (fun _ _ _ h => h) (Or.inl ⟨by rfl, ?_⟩) ?_ ?_
       rotate_left
       ·intro w'
        go_simp
        with_reducible rfl
       rotate_left
       ·simp only [Act.put, sT_, sZ_, sS_, i64_w, i32_w]
        rfl
       refine done_ (done_of HT_.out (by kernel_rfl)) ?_
       try go_wp2_with (first | ((with_reducible refine gate_builtin (b := .append) (xs := #[.tmp 36, .tmp 39]) rfl ?_); (try (refine gate_guard (by rfl) ?_; dsimp only)); at_builtin; refine Kd.R_append (Kd.int .i64) (w0 := w) w.heap.size rfl (.tmp 36) (.tmp 39) 80 3 (.int .i64 0) 8 rfl Try.underlying80 info3 rfl (by decide) (by omega) u5 x5_1 (Int.tmod (wrap64 ((wrap64 (t245 + t246)) + x6_1)) 10000) [.int .i64 (Int.tmod (wrap64 ((wrap64 (t245 + t246)) + x6_1)) 10000)] (fun _ => True) (fun _ => False) rfl rfl ?aP (fun _ hk => hk.elim) ?aF ?aO ?aB ?aS ?aL ?_; (case aP => exact rfl); (case aB => exact (by repeat (with_reducible first | exact HB.out | apply bA_ | apply bN_ | apply bD_ | refine bS_ ?_ GE242.out | refine bS_ ?_ GE243.out | refine bS_ ?_ GE244.out))); (case aF => exact (fun _ _ => trivial)); (case aO => exact (by (with_reducible repeat (first | apply Kd.R_alloc | apply Kd.R_drewN | apply Kd.R_drew)); exact HO_5.out)); (case aS => exact (below_size (by repeat (with_reducible first | exact HB.out | apply bA_ | apply bN_ | apply bD_ | refine bS_ ?_ GE242.out | refine bS_ ?_ GE243.out | refine bS_ ?_ GE244.out)))); (case aL => have := LMc25.out; omega); intro v248 w29 ho hb hg hat; rw [← Ny247.out] at ho; replace BK242 := aA_ (blk_grown (g := gb242) (o := .cells #[.slice A0_0 l0_0.length c0_0] 98 (0, 0)) BK242.out hg (Kd.R_ne HO_5.out BK242.out (by decide))); replace BK243 := aA_ (blk_grown (g := gb243) (o := .cells #[.slice A1_0 l1_0.length c1_0] 98 (0, 0)) BK243.out hg (Kd.R_ne HO_5.out BK243.out (by decide))); replace BK244 := aA_ (blk_grown (g := gb244) (o := .cells #[.slice none 0 0] 98 (0, 0)) BK244.out hg (Kd.R_ne HO_5.out BK244.out (by decide))); replace HB := aA_ (hb); have HO249 := aA_ (ho); clear HO_5; clear ho hb hg hat))
       go_roundg kj5
       case measure => have := HK1.out; have := HJ5.out; omega
       case rel => exact ⟨(y247), (wrap64 (Int.tdiv (wrap64 ((wrap64 (t245 + t246)) + x6_1)) 10000)), (wrap64 (x7_1 + 1)), (by first | rfl | simp | simp [*]), (by first | rfl | simp | simp [*]), H', ⟨by have := HK1.out; have := HJ5.out; omega⟩, ⟨by (with_reducible repeat (first | apply Kd.R_alloc | apply Kd.R_drewN | apply Kd.R_drew)); exact HO249.out⟩, ⟨by exact BK242.out⟩, ⟨by exact BK243.out⟩, ⟨by exact BK244.out⟩, ⟨by repeat (with_reducible first | exact HB.out | apply bA_ | apply bN_ | apply bD_ | refine bS_ ?_ GE242.out | refine bS_ ?_ GE243.out | refine bS_ ?_ GE244.out)⟩⟩
      ·rw [if_neg c25] at H
       exact absurd H (by simp)
     ·replace c22 := Bool.eq_false_iff.mpr c22
      subst c22
      rw [if_neg (show ¬ (false = true) by decide)] at H
      obtain rfl := Option.some.inj H
      obtain ⟨Ao30, co30, eo30⟩ := Kd.R_slice HO_5.out
      subst eo30
      have hnb31 := NB244_242.out
      have hnc31 := NB242_244.out
      have hnb32 := NB244_243.out
      have hnc32 := NB243_244.out
      have hcz33_0 : wc.cell? ⟨gb244, 0, none⟩ = some (.slice none 0 0) := (blk_cell BK244.out 0).trans rfl
      have hfz33_0 := blk_frozen BK244.out 0
      go_wp2
      refine bodyPost_ret (results_cell_row rfl _ _ gb244 98 #[.slice Ao30 x5_1.length co30] (0, 0) _ rfl (by refine blk_put (cs := #[.slice none 0 0]) ?_ 0 _ rfl; exact BK244.out) Try.underlying98 rfl (by kernel_rfl)) rfl ?_
      exact ⟨_, by rfl, by (with_reducible repeat (first | apply Kd.R_alloc | apply Kd.R_drewN | apply Kd.R_drew)); exact Kd.R_mono (Kd.R_far (p := ⟨gb244, 0, none⟩) (Kd.R_types HO_5.out BK244.out (by decide)) (fun _ hk => hk.2) (.slice Ao30 x5_1.length co30)) (fun _ hk => trivial), by repeat (with_reducible first | exact HB.out | apply bA_ | apply bN_ | apply bD_ | refine bS_ ?_ GE242.out | refine bS_ ?_ GE243.out | refine bS_ ?_ GE244.out)⟩

end Go.Proofs.Yteikafepdkijdaa.X
