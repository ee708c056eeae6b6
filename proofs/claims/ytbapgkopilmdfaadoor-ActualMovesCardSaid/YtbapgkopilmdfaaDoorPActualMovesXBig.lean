-- cut by prune.py, a program of this session
import Derived.Test.YtbapgkopilmdfaaDoorPActualMovesX0
import Derived.Test.YtbapgkopilmdfaaDoorPActualMovesHTrim
namespace Go.Proofs.YtbapgkopilmdfaaDoor.X
open Go.RowKit Go.Proofs.YtbapgkopilmdfaaDoorW.PrintWords Go.Proofs.YtbapgkopilmdfaaDoorW.PrintLast Go.Proofs.YtbapgkopilmdfaaDoorW.PrintMore
attribute [local go_sem] max2_int min2_int max_two min_two
set_option linter.unusedVariables false
set_option linter.unusedSimpArgs false

def demurrageref01_Plus.upsl : Nat → Nat → List Bool
 | 0, _ => []
 | n + 1, m => (m % 2 == 1) :: demurrageref01_Plus.upsl n (m / 2)
def demurrageref01_Plus.ups (n m : Nat) : Array Bool := ⟨demurrageref01_Plus.upsl n m⟩
def demurrageref01_part.f (l0_0 : List Int) (a1 : Int) : Option (Int) := if a1 < (l0_0.length : Int) then (if 0 ≤ a1 then (some (rd l0_0 a1)) else (none)) else (some 0)
set_option maxHeartbeats 8000000 in
set_option maxRecDepth 100000 in
theorem demurrageref01_part.calls (A0_0 : Option Addr) (c0_0 : Nat) (l0_0 : List Int) (a1 : Int) (r : Int) (w : World) (hr0_0 : Kd.C (Kd.int .i64) w A0_0 l0_0.length l0_0) (hc0_0 : l0_0.length ≤ c0_0) (h : demurrageref01_part.f l0_0 a1 = some r) :
  Calls Tryd.prog 56 #[.agg #[.slice A0_0 l0_0.length c0_0], .int .i64 a1] w fun e w' => e = .returned (.int .i64 r) ∧ Below w.heap.size w w' := by
 have hu56 := Tryd.underlying56
 have HR0_0 := aA_ hr0_0
 have HC0_0 := aA_ hc0_0
 clear hr0_0 hc0_0
 have HB := aA_ (Below.refl w.heap.size w)
 have H : (if a1 < (l0_0.length : Int) then (if 0 ≤ a1 then (some (rd l0_0 a1)) else (none)) else (some 0)) = some r := h
 clear h
 by_cases c3 : a1 < (l0_0.length : Int)
 ·rw [if_pos c3] at H
  have c3b0 : decide (a1 < (l0_0.length : Int)) = true := decide_eq_true c3
  clear c3
  by_cases c4 : 0 ≤ a1
  ·rw [if_pos c4] at H
   have c4b0 : decide (0 ≤ a1) = true := decide_eq_true c4
   clear c4
   obtain rfl := Option.some.inj H
   go_enter Tryd.func56, Tryd.ntmps56
   go_wp2_with (first | (refine box_event rfl (N := 2) rfl (cs := #[.slice A0_0 l0_0.length c0_0]) (t := 56) ?hr ?_; (case hr => go_simp <;> rfl); intro gb136 hg w5 hbox hb; have BK136 := aA_ (hbox); have GW136 := gW_ hg (by repeat (with_reducible first | exact HB.out | apply bA_ | apply bN_ | apply bD_)); have GE136 := GW136; replace HB := bB_ (by repeat (with_reducible first | exact HB.out | apply bA_ | apply bN_ | apply bD_)) hb; clear hb hbox hg; have hcz6_0 : w5.cell? ⟨gb136, 0, none⟩ = some (.slice A0_0 l0_0.length c0_0) := (blk_cell BK136.out 0).trans rfl; have hfz6_0 := blk_frozen BK136.out 0; have p137 : 0 ≤ (a1 : Int) := of_decide_eq_true (by first | (with_reducible assumption) | assumption); have q137 : a1 < (l0_0.length : Int) := of_decide_eq_true (by first | (with_reducible assumption) | assumption); obtain ⟨ad137, e137, hx137_0⟩ := Kd.at_int HR0_0.out a1 p137 q137; cases e137; replace hx137_0 := cC_ HB hx137_0; replace p137 := eq_true p137; replace q137 := eq_true q137))
   go_ret
   exact ⟨by rfl, by repeat (with_reducible first | exact HB.out | apply bA_ | apply bN_ | apply bD_ | refine bS_ ?_ GE136.out)⟩
  ·rw [if_neg c4] at H
   exact absurd H (by simp)
 ·rw [if_neg c3] at H
  have c3b0 : decide (a1 < (l0_0.length : Int)) = false := decide_eq_false c3
  clear c3
  obtain rfl := Option.some.inj H
  go_enter Tryd.func56, Tryd.ntmps56
  go_wp2_with (first | (refine box_event rfl (N := 2) rfl (cs := #[.slice A0_0 l0_0.length c0_0]) (t := 56) ?hr ?_; (case hr => go_simp <;> rfl); intro gb136 hg w7 hbox hb; have BK136 := aA_ (hbox); have GW136 := gW_ hg (by repeat (with_reducible first | exact HB.out | apply bA_ | apply bN_ | apply bD_)); have GE136 := GW136; replace HB := bB_ (by repeat (with_reducible first | exact HB.out | apply bA_ | apply bN_ | apply bD_)) hb; clear hb hbox hg; have hcz8_0 : w7.cell? ⟨gb136, 0, none⟩ = some (.slice A0_0 l0_0.length c0_0) := (blk_cell BK136.out 0).trans rfl; have hfz8_0 := blk_frozen BK136.out 0))
  go_ret
  exact ⟨by rfl, by repeat (with_reducible first | exact HB.out | apply bA_ | apply bN_ | apply bD_ | refine bS_ ?_ GE136.out)⟩

mutual
def demurrageref01_Cmp.j0 : Nat → Int → List Int → List Int → Option (Int)
 | 0, _, _, _ => none
 | k + 1, x5, x139000, x140000 => demurrageref01_Cmp.l0 k (wrap64 (x5 - 1)) x139000 x140000
def demurrageref01_Cmp.l0 : Nat → Int → List Int → List Int → Option (Int)
 | 0, _, _, _ => none
 | k + 1, x6, x139000, x140000 => if x6 ≥ 0 then ((demurrageref01_part.f x139000 x6).bind fun t140 => ((demurrageref01_part.f x140000 x6).bind fun t141 => (if t140 < t141 then (some (-1)) else (if t140 > t141 then (some 1) else (demurrageref01_Cmp.l0 k (wrap64 (x6 - 1)) x139000 x140000))))) else (some 0)
end
def demurrageref01_Cmp.f (k : Nat) (l0_0 : List Int) (l1_0 : List Int) : Option (Int) := if (l1_0.length : Int) > (l0_0.length : Int) then (demurrageref01_Cmp.j0 k (l1_0.length : Int) l0_0 l1_0) else (demurrageref01_Cmp.j0 k (l0_0.length : Int) l0_0 l1_0)
set_option maxHeartbeats 8000000 in
set_option maxRecDepth 100000 in
theorem demurrageref01_Cmp.calls (k : Nat) (A0_0 : Option Addr) (c0_0 : Nat) (l0_0 : List Int) (A1_0 : Option Addr) (c1_0 : Nat) (l1_0 : List Int) (r : Int) (w : World) (hr0_0 : Kd.C (Kd.int .i64) w A0_0 l0_0.length l0_0) (hc0_0 : l0_0.length ≤ c0_0) (hr1_0 : Kd.C (Kd.int .i64) w A1_0 l1_0.length l1_0) (hc1_0 : l1_0.length ≤ c1_0) (h : demurrageref01_Cmp.f k l0_0 l1_0 = some r) :
  Calls Tryd.prog 38 #[.agg #[.slice A0_0 l0_0.length c0_0], .agg #[.slice A1_0 l1_0.length c1_0]] w fun e w' => e = .returned (.int .i64 r) ∧ Below w.heap.size w w' := by
 have hu56 := Tryd.underlying56
 have HR0_0 := aA_ hr0_0
 have HC0_0 := aA_ hc0_0
 clear hr0_0 hc0_0
 have HR1_0 := aA_ hr1_0
 have HC1_0 := aA_ hc1_0
 clear hr1_0 hc1_0
 have HB := aA_ (Below.refl w.heap.size w)
 have H : (if (l1_0.length : Int) > (l0_0.length : Int) then (demurrageref01_Cmp.j0 k (l1_0.length : Int) l0_0 l1_0) else (demurrageref01_Cmp.j0 k (l0_0.length : Int) l0_0 l1_0)) = some r := h
 clear h
 have HC3 := aA_ H
 clear H
 go_enter Tryd.func38, Tryd.ntmps38
 go_upto_if 16 with (first | (refine box_event rfl (N := 2) rfl (cs := #[.slice A0_0 l0_0.length c0_0]) (t := 56) ?hr ?_; (case hr => go_simp <;> rfl); intro gb138 hg w4 hbox hb; have BK138 := aA_ (hbox); have GW138 := gW_ hg (by repeat (with_reducible first | exact HB.out | apply bA_ | apply bN_ | apply bD_)); have GE138 := GW138; replace HB := bB_ (by repeat (with_reducible first | exact HB.out | apply bA_ | apply bN_ | apply bD_)) hb; clear hb hbox hg) | (refine box_event rfl (N := 3) rfl (cs := #[.slice A1_0 l1_0.length c1_0]) (t := 56) ?hr ?_; (case hr => go_simp <;> rfl); intro gb139 hg w5 hbox hb; have BK139 := aA_ (hbox); have GW139 := gW_ hg (by repeat (with_reducible first | exact HB.out | apply bA_ | apply bN_ | apply bD_ | refine bS_ ?_ GE138.out)); have GE139 := GW139; replace HB := bB_ (by repeat (with_reducible first | exact HB.out | apply bA_ | apply bN_ | apply bD_ | refine bS_ ?_ GE138.out)) hb; have NB138_139 := nE_ hg BK138; have NB139_138 := aA_ NB138_139.out.symm; replace BK138 := bK_ BK138 hb; clear hb hbox hg; have hnb6 := NB138_139.out; have hnc6 := NB139_138.out; have hcz7_0 : w5.cell? ⟨gb138, 0, none⟩ = some (.slice A0_0 l0_0.length c0_0) := (blk_cell BK138.out 0).trans rfl; have hfz7_0 := blk_frozen BK138.out 0; have hcz8_0 : w5.cell? ⟨gb139, 0, none⟩ = some (.slice A1_0 l1_0.length c1_0) := (blk_cell BK139.out 0).trans rfl; have hfz8_0 := blk_frozen BK139.out 0))
 (try simp only [Act.put, sT_, sZ_, sS_])
 go_cut [5] (fun v5 wc => ∃ (kq : Nat) (x5_2 : Int), v5 = .int .i64 x5_2 ∧ Aside0 (demurrageref01_Cmp.j0 kq x5_2 l0_0 l1_0 = some r) ∧ Aside0 (kq ≤ k) ∧ Aside0 (wc.heap[gb138]? = some (.cells #[(.slice A0_0 l0_0.length c0_0)] 56 (0, 0))) ∧ Aside0 (wc.heap[gb139]? = some (.cells #[(.slice A1_0 l1_0.length c1_0)] 56 (0, 0))) ∧ Aside0 (Below w.heap.size w wc))
 case first =>
  have H := HC3.out
  clear HC3
  by_cases c9 : (l1_0.length : Int) > (l0_0.length : Int)
  ·rw [if_pos c9] at H
   have c9b0 : decide ((l0_0.length : Int) < (l1_0.length : Int)) = true := decide_eq_true c9
   have c9b1 : decide (l0_0.length < l1_0.length) = true := decide_eq_true (Int.ofNat_lt.mp c9)
   clear c9
   (first | rw [c9b0] | (simp only [i64_w, i32_w]; rw [c9b0]) | rw [c9b1] | skip)
   have H' := aA_ H
   clear H
   have hnb10 := NB139_138.out
   have hnc10 := NB138_139.out
   have hcz11_0 : w5.cell? ⟨gb139, 0, none⟩ = some (.slice A1_0 l1_0.length c1_0) := (blk_cell BK139.out 0).trans rfl
   have hfz11_0 := blk_frozen BK139.out 0
   go_wp2
   go_meet
   case rel => exact ⟨_, _, (by first | rfl | (simp; done) | (simp [*]; done)), H', ⟨by first | omega | exact Nat.le_refl _⟩, ⟨by exact BK138.out⟩, ⟨by exact BK139.out⟩, ⟨by repeat (with_reducible first | exact HB.out | apply bA_ | apply bN_ | apply bD_ | refine bS_ ?_ GE138.out | refine bS_ ?_ GE139.out)⟩⟩
  ·rw [if_neg c9] at H
   have c9b0 : decide ((l0_0.length : Int) < (l1_0.length : Int)) = false := decide_eq_false c9
   have c9b1 : decide (l0_0.length < l1_0.length) = false := decide_eq_false (fun h => c9 (Int.ofNat_lt.mpr h))
   clear c9
   (first | rw [c9b0] | (simp only [i64_w, i32_w]; rw [c9b0]) | rw [c9b1] | skip)
   have H' := aA_ H
   clear H
   go_wp2
   go_meet
   case rel => exact ⟨_, _, (by first | rfl | (simp; done) | (simp [*]; done)), H', ⟨by first | omega | exact Nat.le_refl _⟩, ⟨by exact BK138.out⟩, ⟨by exact BK139.out⟩, ⟨by repeat (with_reducible first | exact HB.out | apply bA_ | apply bN_ | apply bD_ | refine bS_ ?_ GE138.out | refine bS_ ?_ GE139.out)⟩⟩
 case rest =>
  clear HC3
  try clear c1
  try clear p2
  try clear c3
  try clear c6
  try clear c9
  try clear c9b0
  try clear c9b1
  try clear c10
  try clear hcz11_0
  try clear hcz7_0
  try clear hcz8_0
  try clear hfz11_0
  try clear hfz7_0
  try clear hfz8_0
  obtain ⟨kq, x5_2, rfl, HA, HJ2, BK138, BK139, HB⟩ := hcut
  cases kq with
  | zero => exact absurd HA.out (by simp [demurrageref01_Cmp.j0])
  | succ kj2 =>
   have H := HA.out
   clear HA
   simp only [demurrageref01_Cmp.j0] at H
   have H' := aA_ H
   clear H
   go_wp2
   (try simp only [Act.put, sT_, sZ_, sS_])
   go_loopg [6] kj2 (fun kq v6 w' => ∃ (x6_2 : Int), v6 = .int .i64 x6_2 ∧ Aside0 (demurrageref01_Cmp.l0 kq x6_2 l0_0 l1_0 = some r) ∧ Aside0 (kq ≤ kj2) ∧ Aside0 (w'.heap[gb138]? = some (.cells #[(.slice A0_0 l0_0.length c0_0)] 56 (0, 0))) ∧ Aside0 (w'.heap[gb139]? = some (.cells #[(.slice A1_0 l1_0.length c1_0)] 56 (0, 0))) ∧ Aside0 (Below w.heap.size w w'))
   case atStart => exact ⟨(wrap64 (x5_2 - 1)), (by first | rfl | (simp; done) | (simp [*]; done)), H', ⟨Nat.le_refl _⟩, ⟨by exact BK138.out⟩, ⟨by exact BK139.out⟩, ⟨by repeat (with_reducible first | exact HB.out | apply bA_ | apply bN_ | apply bD_ | refine bS_ ?_ GE138.out | refine bS_ ?_ GE139.out)⟩⟩
   case round =>
    clear H'
    try clear c1
    try clear p2
    try clear c3
    try clear c6
    try clear p6
    try clear c9
    try clear c9b0
    try clear c9b1
    try clear c10
    try clear hcz11_0
    try clear hcz7_0
    try clear hcz8_0
    try clear hfz11_0
    try clear hfz7_0
    try clear hfz8_0
    try clear p2
    obtain ⟨x6_2, rfl, HA, HK2, BK138, BK139, HB⟩ := hrel
    cases gk with
    | zero => exact absurd HA.out (by simp [demurrageref01_Cmp.l0])
    | succ k2 =>
     have H := HA.out
     clear HA
     simp only [demurrageref01_Cmp.l0] at H
     by_cases c12 : x6_2 ≥ 0
     rotate_left
     ·rw [if_neg c12] at H
      have c12b0 : decide (0 ≤ x6_2) = false := decide_eq_false c12
      clear c12
      obtain rfl := Option.some.inj H
      go_wp2
      go_ret
      exact ⟨by rfl, by repeat (with_reducible first | exact HB.out | apply bA_ | apply bN_ | apply bD_ | refine bS_ ?_ GE138.out | refine bS_ ?_ GE139.out)⟩
     rw [if_pos c12] at H
     have c12b0 : decide (0 ≤ x6_2) = true := decide_eq_true c12
     clear c12
     replace H := bI_ H
     obtain ⟨t140, A130, H⟩ := H
     (try dsimp only at H)
     have A13 := aA_ A130
     clear A130
     replace H := bI_ H
     obtain ⟨t141, A140, H⟩ := H
     (try dsimp only at H)
     have A14 := aA_ A140
     clear A140
     by_cases c15 : t140 < t141
     focus
      rw [if_pos c15] at H
      have c15b0 : decide (t140 < t141) = true := decide_eq_true c15
      clear c15
      obtain rfl := Option.some.inj H
     rotate_left
     focus
      rw [if_neg c15] at H
      have c15b0 : decide (t140 < t141) = false := decide_eq_false c15
      clear c15
      by_cases c21 : t140 > t141
      focus
       rw [if_pos c21] at H
       have c21b0 : decide (t141 < t140) = true := decide_eq_true c21
       clear c21
       obtain rfl := Option.some.inj H
      rotate_left
      focus
       rw [if_neg c21] at H
       have c21b0 : decide (t141 < t140) = false := decide_eq_false c21
       clear c21
       have H' := aA_ H
       clear H
     all_goals
      have hnb16 := NB138_139.out
      have hnc16 := NB139_138.out
      have hcz17_0 : wr.cell? ⟨gb138, 0, none⟩ = some (.slice A0_0 l0_0.length c0_0) := (blk_cell BK138.out 0).trans rfl
      have hfz17_0 := blk_frozen BK138.out 0
      go_wp2_with (first | (refine goesL_ (some 28) rfl rfl Tryd.func56 (by kernel_rfl) rfl #[.agg #[.slice A0_0 l0_0.length c0_0], .int .i64 x6_2] rfl (by (try simp only [mT_, mC_, mN_]); first | done | rfl) ?_; (with_reducible refine (demurrageref01_part.calls _ _ l0_0 x6_2 t140 _ ?side1 ?side2 A13.out).mono ?_); (case side1 => repeat (first | exact (Kd.C_below HR0_0.out HB.out) | (with_reducible first | refine Kd.C_alloc ?_ _ | refine Kd.C_drewN ?_ _ | refine Kd.C_drew ?_))); (case side2 => exact HC0_0.out); rintro e w18 ⟨rfl, hb⟩; refine ⟨_, rfl, ?_⟩; replace BK138 := bK_ BK138 hb; replace BK139 := bK_ BK139 hb; replace HB := bB_ (by repeat (with_reducible first | exact HB.out | apply bA_ | apply bN_ | apply bD_ | refine bS_ ?_ GE138.out | refine bS_ ?_ GE139.out)) hb; (try clear hb); have hcz19_0 : w18.cell? ⟨gb139, 0, none⟩ = some (.slice A1_0 l1_0.length c1_0) := (blk_cell BK139.out 0).trans rfl; have hfz19_0 := blk_frozen BK139.out 0) | (refine goesL_ (some 31) rfl rfl Tryd.func56 (by kernel_rfl) rfl #[.agg #[.slice A1_0 l1_0.length c1_0], .int .i64 x6_2] rfl (by (try simp only [mT_, mC_, mN_]); first | done | rfl) ?_; (with_reducible refine (demurrageref01_part.calls _ _ l1_0 x6_2 t141 _ ?side1 ?side2 A14.out).mono ?_); (case side1 => repeat (first | exact (Kd.C_below HR1_0.out HB.out) | (with_reducible first | refine Kd.C_alloc ?_ _ | refine Kd.C_drewN ?_ _ | refine Kd.C_drew ?_))); (case side2 => exact HC1_0.out); rintro e w20 ⟨rfl, hb⟩; refine ⟨_, rfl, ?_⟩; replace BK138 := bK_ BK138 hb; replace BK139 := bK_ BK139 hb; replace HB := bB_ (by repeat (with_reducible first | exact HB.out | apply bA_ | apply bN_ | apply bD_ | refine bS_ ?_ GE138.out | refine bS_ ?_ GE139.out)) hb; (try clear hb)))
     ·go_roundg k2
      case measure => have := HJ2.out; have := HK2.out; omega
      case rel => exact ⟨(wrap64 (x6_2 - 1)), (by first | rfl | (simp; done) | (simp [*]; done)), H', ⟨by have := HJ2.out; have := HK2.out; omega⟩, ⟨by exact BK138.out⟩, ⟨by exact BK139.out⟩, ⟨by repeat (with_reducible first | exact HB.out | apply bA_ | apply bN_ | apply bD_ | refine bS_ ?_ GE138.out | refine bS_ ?_ GE139.out)⟩⟩
     ·go_ret
      exact ⟨by rfl, by repeat (with_reducible first | exact HB.out | apply bA_ | apply bN_ | apply bD_ | refine bS_ ?_ GE138.out | refine bS_ ?_ GE139.out)⟩
     ·go_ret
      exact ⟨by rfl, by repeat (with_reducible first | exact HB.out | apply bA_ | apply bN_ | apply bD_ | refine bS_ ?_ GE138.out | refine bS_ ?_ GE139.out)⟩

mutual
def demurrageref01_Prod.l0 : Nat → List Int → Int → List Int → List Int → Option (List Int)
 | 0, _, _, _, _ => none
 | k + 1, x5, x6, x143000, x144000 => if x6 < (x143000.length : Int) then (demurrageref01_Prod.l1 k x5 x6 0 0 x143000 x144000) else ((demurrageref01_trim.f x5).bind fun t148 => (some t148))
def demurrageref01_Prod.l1 : Nat → List Int → Int → Int → Int → List Int → List Int → Option (List Int)
 | 0, _, _, _, _, _, _ => none
 | k + 1, x5, x6, x7, x8, x143000, x144000 => if x8 < (x144000.length : Int) then (if 0 ≤ (wrap64 (x6 + x8)) then (if (wrap64 (x6 + x8)) < (x5.length : Int) then (if 0 ≤ x6 then (if x6 < (x143000.length : Int) then ((demurrageref01_part.f x144000 x8).bind fun t153 => (demurrageref01_Prod.l1 k (x5.set ((wrap64 (x6 + x8)) : Int).toNat (Int.tmod (wrap64 ((wrap64 ((rd x5 (wrap64 (x6 + x8))) + (wrap64 ((rd x143000 x6) * t153)))) + x7)) 10000)) x6 (wrap64 (Int.tdiv (wrap64 ((wrap64 ((rd x5 (wrap64 (x6 + x8))) + (wrap64 ((rd x143000 x6) * t153)))) + x7)) 10000)) (wrap64 (x8 + 1)) x143000 x144000)) else (none)) else (none)) else (none)) else (none)) else (if x7 > 0 then (if 0 ≤ (wrap64 (x6 + x8)) then (if (wrap64 (x6 + x8)) < (x5.length : Int) then (if 0 ≤ x6 then (if x6 < (x143000.length : Int) then ((demurrageref01_part.f x144000 x8).bind fun t157 => (demurrageref01_Prod.l1 k (x5.set ((wrap64 (x6 + x8)) : Int).toNat (Int.tmod (wrap64 ((wrap64 ((rd x5 (wrap64 (x6 + x8))) + (wrap64 ((rd x143000 x6) * t157)))) + x7)) 10000)) x6 (wrap64 (Int.tdiv (wrap64 ((wrap64 ((rd x5 (wrap64 (x6 + x8))) + (wrap64 ((rd x143000 x6) * t157)))) + x7)) 10000)) (wrap64 (x8 + 1)) x143000 x144000)) else (none)) else (none)) else (none)) else (none)) else (demurrageref01_Prod.l0 k x5 (wrap64 (x6 + 1)) x143000 x144000))
end
def demurrageref01_Prod.f (k : Nat) (l0_0 : List Int) (l1_0 : List Int) : Option (List Int) := if 0 ≤ (wrap64 ((wrap64 ((l0_0.length : Int) + (l1_0.length : Int))) + 1)) then (if (wrap64 ((wrap64 ((l0_0.length : Int) + (l1_0.length : Int))) + 1) : Int).toNat ≤ 35184372088832 then (demurrageref01_Prod.l0 k (List.replicate (wrap64 ((wrap64 ((l0_0.length : Int) + (l1_0.length : Int))) + 1) : Int).toNat 0) 0 l0_0 l1_0) else (none)) else (none)
def demurrageref01_Prod.T9 : Bool × List (List Nat × List Nat) := (true, [([], []), ([], []), ([], []), ([1, 2], [1, 2]), ([0, 3], [0, 3]), ([4], [4]), ([], []), ([6], [6]), ([], []), ([7, 8], [7, 8]), ([9], [9]), ([], []), ([], []), ([11, 12], [11, 12]), ([10, 13], [10, 13]), ([5, 14], [5, 14]), ([], []), ([15, 16], [15, 16]), ([17, 13, 0, 1, 2, 3, 4, 5, 6, 7, 8, 9, 10, 11, 12, 13, 14, 15, 16, 17], [17])])
def demurrageref01_Prod.B9 : List Nat := [0, 0, 0, 6, 15, 31, 0, 64, 0, 448, 960, 0, 0, 6144, 16320, 32767, 0, 131071, 262143]
theorem demurrageref01_Prod.tab9 : rtab .any (opsOf Tryd.f35 9) = demurrageref01_Prod.T9 := by kernel_rfl
theorem demurrageref01_Prod.bits9 : waitsOk demurrageref01_Prod.T9.2 demurrageref01_Prod.B9 = true := by kernel_rfl
set_option maxHeartbeats 8000000 in
set_option maxRecDepth 100000 in
theorem demurrageref01_Prod.calls (k : Nat) (A0_0 : Option Addr) (c0_0 : Nat) (l0_0 : List Int) (A1_0 : Option Addr) (c1_0 : Nat) (l1_0 : List Int) (r : List Int) (w : World) (hr0_0 : Kd.C (Kd.int .i64) w A0_0 l0_0.length l0_0) (hc0_0 : l0_0.length ≤ c0_0) (hr1_0 : Kd.C (Kd.int .i64) w A1_0 l1_0.length l1_0) (hc1_0 : l1_0.length ≤ c1_0) (h : demurrageref01_Prod.f k l0_0 l1_0 = some r) :
  Calls Tryd.prog 35 #[.agg #[.slice A0_0 l0_0.length c0_0], .agg #[.slice A1_0 l1_0.length c1_0]] w fun e w' => ∃ v0_ : Value, e = .returned (.agg #[v0_]) ∧ Kd.R (Kd.int .i64) 3 w' w.heap.size (fun _ => True) v0_ r ∧ Below w.heap.size w w' := by
 have hu56 := Tryd.underlying56
 have HR0_0 := aA_ hr0_0
 have HC0_0 := aA_ hc0_0
 clear hr0_0 hc0_0
 have HR1_0 := aA_ hr1_0
 have HC1_0 := aA_ hc1_0
 clear hr1_0 hc1_0
 have HB := aA_ (Below.refl w.heap.size w)
 have H : (if 0 ≤ (wrap64 ((wrap64 ((l0_0.length : Int) + (l1_0.length : Int))) + 1)) then (if (wrap64 ((wrap64 ((l0_0.length : Int) + (l1_0.length : Int))) + 1) : Int).toNat ≤ 35184372088832 then (demurrageref01_Prod.l0 k (List.replicate (wrap64 ((wrap64 ((l0_0.length : Int) + (l1_0.length : Int))) + 1) : Int).toNat 0) 0 l0_0 l1_0) else (none)) else (none)) = some r := h
 clear h
 obtain ⟨ji3, hji3⟩ : ∃ j_ : Int, (wrap64 ((wrap64 ((l0_0.length : Int) + (l1_0.length : Int))) + 1)) = j_ := ⟨_, rfl⟩
 replace H : (if 0 ≤ (ji3) then (if (ji3 : Int).toNat ≤ 35184372088832 then (demurrageref01_Prod.l0 k (List.replicate (ji3 : Int).toNat 0) 0 l0_0 l1_0) else (none)) else (none)) = some r := by first | (rw [hji3] at H; exact H) | (simp only [hji3] at H ⊢; exact H)
 have hji3w : (IntKind.i64.wrap ((wrap64 ((l0_0.length : Int) + (l1_0.length : Int))) + 1)) = ji3 := (i64_w _).trans hji3
 by_cases c4 : 0 ≤ (ji3)
 ·rw [if_pos c4] at H
  have c4b0 := eq_true c4
  have c4b1 : decide (0 ≤ (ji3)) = true := decide_eq_true c4
  clear c4
  by_cases c5 : (ji3 : Int).toNat ≤ 35184372088832
  ·rw [if_pos c5] at H
   have c5b0 := eq_true c5
   have c5b1 : decide ((ji3 : Int).toNat ≤ 35184372088832) = true := decide_eq_true c5
   clear c5
   obtain ⟨y145, hy145⟩ : ∃ y_ : List Int, y_ = (List.replicate (ji3 : Int).toNat 0) := ⟨_, rfl⟩
   replace H : (demurrageref01_Prod.l0 k y145 0 l0_0 l1_0) = some r := by first | (rw [hy145]; with_reducible exact H) | (have H2_ := (Option.bind_some _ _).symm.trans H; rw [hy145]; with_reducible exact H2_) | (have H2_ := (Option.bind_some _ _).symm.trans H; with_reducible exact H2_) | with_reducible exact H | (rw [hy145]; exact H) | exact H
   have Ny145 := aA_ hy145
   clear hy145
   have H' := aA_ H
   clear H
   go_enter Tryd.func35, Tryd.ntmps35
   go_wp2_with (first | (refine box_event rfl (N := 2) rfl (cs := #[.slice A0_0 l0_0.length c0_0]) (t := 56) ?hr ?_; (case hr => go_simp <;> rfl); intro gb142 hg w6 hbox hb; have BK142 := aA_ (hbox); have GW142 := gW_ hg (by repeat (with_reducible first | exact HB.out | apply bA_ | apply bN_ | apply bD_)); have GE142 := GW142; replace HB := bB_ (by repeat (with_reducible first | exact HB.out | apply bA_ | apply bN_ | apply bD_)) hb; clear hb hbox hg) | (refine box_event rfl (N := 3) rfl (cs := #[.slice A1_0 l1_0.length c1_0]) (t := 56) ?hr ?_; (case hr => go_simp <;> rfl); intro gb143 hg w7 hbox hb; have BK143 := aA_ (hbox); have GW143 := gW_ hg (by repeat (with_reducible first | exact HB.out | apply bA_ | apply bN_ | apply bD_ | refine bS_ ?_ GE142.out)); have GE143 := GW143; replace HB := bB_ (by repeat (with_reducible first | exact HB.out | apply bA_ | apply bN_ | apply bD_ | refine bS_ ?_ GE142.out)) hb; have NB142_143 := nE_ hg BK142; have NB143_142 := aA_ NB142_143.out.symm; replace BK142 := bK_ BK142 hb; clear hb hbox hg) | (refine box_event rfl (N := 4) rfl (cs := #[.slice none 0 0]) (t := 56) ?hr ?_; (case hr => go_simp <;> rfl); intro gb144 hg w8 hbox hb; have BK144 := aA_ (hbox); have GW144 := gW_ hg (by repeat (with_reducible first | exact HB.out | apply bA_ | apply bN_ | apply bD_ | refine bS_ ?_ GE142.out | refine bS_ ?_ GE143.out)); have GE144 := GW144; replace HB := bB_ (by repeat (with_reducible first | exact HB.out | apply bA_ | apply bN_ | apply bD_ | refine bS_ ?_ GE142.out | refine bS_ ?_ GE143.out)) hb; have NB142_144 := nE_ hg BK142; have NB144_142 := aA_ NB142_144.out.symm; replace BK142 := bK_ BK142 hb; have NB143_144 := nE_ hg BK143; have NB144_143 := aA_ NB143_144.out.symm; replace BK143 := bK_ BK143 hb; clear hb hbox hg; have hnb9 := NB142_143.out; have hnc9 := NB143_142.out; have hnb10 := NB142_144.out; have hnc10 := NB144_142.out; have hcz11_0 : w8.cell? ⟨gb142, 0, none⟩ = some (.slice A0_0 l0_0.length c0_0) := (blk_cell BK142.out 0).trans rfl; have hfz11_0 := blk_frozen BK142.out 0; have hnb12 := NB143_144.out; have hnc12 := NB144_143.out; have hcz13_0 : w8.cell? ⟨gb143, 0, none⟩ = some (.slice A1_0 l1_0.length c1_0) := (blk_cell BK143.out 0).trans rfl; have hfz13_0 := blk_frozen BK143.out 0) | ((with_reducible refine gate_dst (N := 18) rfl ?_); refine Kd.R_make (Kd.int .i64) _ 3 rfl (N := 18) rfl 54 _ _ rfl ji3 rfl rfl Tryd.underlying54 (.int .i64 0) 8 info3 rfl (by decide) (by omega) 0 (ok := fun _ => True) (okp := fun _ => True) rfl (fun _ hk => hk) trivial (of_decide_eq_true (by first | (with_reducible assumption) | assumption)) (Nat.le_trans (Nat.mul_le_mul_right _ (of_decide_eq_true (by first | (with_reducible assumption) | assumption) : ji3.toNat ≤ 35184372088832)) (by omega)) (Below.refl _ _) (Nat.le_refl _) ?_; intro v146 w14 ho15 hb hg_ hnew_; clear hg_ hnew_; (first | rw [← Ny145.out] at ho15 | (simp only [Int.reduceToNat] at ho15; rw [← Ny145.out] at ho15)); have HO147 := aA_ (Kd.R_lower ho15 (below_size (by repeat (with_reducible first | exact HB.out | apply bA_ | apply bN_ | apply bD_ | refine bS_ ?_ GE142.out | refine bS_ ?_ GE143.out | refine bS_ ?_ GE144.out)))); replace BK142 := bK_ BK142 hb; replace BK143 := bK_ BK143 hb; replace BK144 := bK_ BK144 hb; replace HB := bB_ (by repeat (with_reducible first | exact HB.out | apply bA_ | apply bN_ | apply bD_ | refine bS_ ?_ GE142.out | refine bS_ ?_ GE143.out | refine bS_ ?_ GE144.out)) hb; clear hb ho15))
   (try simp only [Act.put, sT_, sZ_, sS_])
   go_loopg [6] k (fun kq v6 w' => ∃ (x5_1 : List Int) (x6_1 : Int), v6 = .int .i64 x6_1 ∧ Aside0 (demurrageref01_Prod.l0 kq x5_1 x6_1 l0_0 l1_0 = some r) ∧ Aside0 (kq ≤ k) ∧ Aside0 (Kd.R (Kd.int .i64) 3 w' w.heap.size (fun _ => True) v146 x5_1) ∧ Aside0 (w'.heap[gb142]? = some (.cells #[(.slice A0_0 l0_0.length c0_0)] 56 (0, 0))) ∧ Aside0 (w'.heap[gb143]? = some (.cells #[(.slice A1_0 l1_0.length c1_0)] 56 (0, 0))) ∧ Aside0 (w'.heap[gb144]? = some (.cells #[(.slice none 0 0)] 56 (0, 0))) ∧ Aside0 (Below w.heap.size w w'))
   case atStart => exact ⟨(y145), (0), (by first | rfl | (simp; done) | (simp [*]; done)), H', ⟨Nat.le_refl _⟩, ⟨by (with_reducible repeat (first | apply Kd.R_alloc | apply Kd.R_drewN | apply Kd.R_drew)); exact HO147.out⟩, ⟨by exact BK142.out⟩, ⟨by exact BK143.out⟩, ⟨by exact BK144.out⟩, ⟨by repeat (with_reducible first | exact HB.out | apply bA_ | apply bN_ | apply bD_ | refine bS_ ?_ GE142.out | refine bS_ ?_ GE143.out | refine bS_ ?_ GE144.out)⟩⟩
   case round =>
    clear H'
    try clear c1
    try clear p2
    try clear c3
    try clear c4
    try clear c4b0
    try clear c4b1
    try clear c5
    try clear c5b0
    try clear c5b1
    try clear p6
    try clear c9
    try clear c10
    try clear c12
    try clear hcz11_0
    try clear hcz13_0
    try clear hfz11_0
    try clear hfz13_0
    obtain ⟨x5_1, x6_1, rfl, HA, HK1, HO_5, BK142, BK143, BK144, HB⟩ := hrel
    cases gk with
    | zero => exact absurd HA.out (by simp [demurrageref01_Prod.l0])
    | succ k1 =>
     have H := HA.out
     clear HA
     simp only [demurrageref01_Prod.l0] at H
     by_cases c16 : x6_1 < (l0_0.length : Int)
     ·rw [if_pos c16] at H
      have c16b0 : decide (x6_1 < (l0_0.length : Int)) = true := decide_eq_true c16
      clear c16
      have H' := aA_ H
      clear H
      have hnb17 := NB142_143.out
      have hnc17 := NB143_142.out
      have hnb18 := NB142_144.out
      have hnc18 := NB144_142.out
      have hcz19_0 : wr.cell? ⟨gb142, 0, none⟩ = some (.slice A0_0 l0_0.length c0_0) := (blk_cell BK142.out 0).trans rfl
      have hfz19_0 := blk_frozen BK142.out 0
      go_wp2
      (try simp only [Act.put, sT_, sZ_, sS_])
      go_loopg [7, 8] k1 (fun kq v7 v8 w' => ∃ (x5_2 : List Int) (x7_2 : Int) (x8_2 : Int), v7 = .int .i64 x7_2 ∧ v8 = .int .i64 x8_2 ∧ Aside0 (demurrageref01_Prod.l1 kq x5_2 x6_1 x7_2 x8_2 l0_0 l1_0 = some r) ∧ Aside0 (kq ≤ k1) ∧ Aside0 (Kd.R (Kd.int .i64) 3 w' w.heap.size (fun _ => True) v146 x5_2) ∧ Aside0 (w'.heap[gb142]? = some (.cells #[(.slice A0_0 l0_0.length c0_0)] 56 (0, 0))) ∧ Aside0 (w'.heap[gb143]? = some (.cells #[(.slice A1_0 l1_0.length c1_0)] 56 (0, 0))) ∧ Aside0 (w'.heap[gb144]? = some (.cells #[(.slice none 0 0)] 56 (0, 0))) ∧ Aside0 (Below w.heap.size w w'))
      case atStart => exact ⟨(x5_1), (0), (0), (by first | rfl | (simp; done) | (simp [*]; done)), (by first | rfl | (simp; done) | (simp [*]; done)), H', ⟨Nat.le_refl _⟩, ⟨by (with_reducible repeat (first | apply Kd.R_alloc | apply Kd.R_drewN | apply Kd.R_drew)); exact HO_5.out⟩, ⟨by exact BK142.out⟩, ⟨by exact BK143.out⟩, ⟨by exact BK144.out⟩, ⟨by repeat (with_reducible first | exact HB.out | apply bA_ | apply bN_ | apply bD_ | refine bS_ ?_ GE142.out | refine bS_ ?_ GE143.out | refine bS_ ?_ GE144.out)⟩⟩
      case round =>
       clear H'
       try clear c1
       try clear p2
       try clear c3
       try clear c4
       try clear c4b0
       try clear c4b1
       try clear c5
       try clear c5b0
       try clear c5b1
       try clear p6
       try clear c9
       try clear c10
       try clear c12
       try clear c16
       try clear c16b0
       try clear c17
       try clear c18
       try clear hcz11_0
       try clear hcz13_0
       try clear hcz19_0
       try clear hfz11_0
       try clear hfz13_0
       try clear hfz19_0
       try clear p2
       try clear p6
       obtain ⟨x5_2, x7_2, x8_2, rfl, rfl, HA, HK2, HO_5, BK142, BK143, BK144, HB⟩ := hrel
       cases gk with
       | zero => exact absurd HA.out (by simp [demurrageref01_Prod.l1])
       | succ k2 =>
        have H := HA.out
        clear HA
        simp only [demurrageref01_Prod.l1] at H
        by_cases c20 : x8_2 < (l1_0.length : Int)
        ·rw [if_pos c20] at H
         have c20b0 : decide (x8_2 < (l1_0.length : Int)) = true := decide_eq_true c20
         clear c20
         obtain ⟨ji21, hji21⟩ : ∃ j_ : Int, (wrap64 (x6_1 + x8_2)) = j_ := ⟨_, rfl⟩
         replace H : (if 0 ≤ (ji21) then (if (ji21) < (x5_2.length : Int) then (if 0 ≤ x6_1 then (if x6_1 < (l0_0.length : Int) then ((demurrageref01_part.f l1_0 x8_2).bind fun t153 => (demurrageref01_Prod.l1 k2 (x5_2.set ((ji21) : Int).toNat (Int.tmod (wrap64 ((wrap64 ((rd x5_2 (ji21)) + (wrap64 ((rd l0_0 x6_1) * t153)))) + x7_2)) 10000)) x6_1 (wrap64 (Int.tdiv (wrap64 ((wrap64 ((rd x5_2 (ji21)) + (wrap64 ((rd l0_0 x6_1) * t153)))) + x7_2)) 10000)) (wrap64 (x8_2 + 1)) l0_0 l1_0)) else (none)) else (none)) else (none)) else (none)) = some r := by first | (rw [hji21] at H; exact H) | (simp only [hji21] at H ⊢; exact H)
         have hji21w : (IntKind.i64.wrap (x6_1 + x8_2)) = ji21 := (i64_w _).trans hji21
         by_cases c22 : 0 ≤ (ji21)
         ·rw [if_pos c22] at H
          have c22b0 : decide (0 ≤ (ji21)) = true := decide_eq_true c22
          clear c22
          by_cases c23 : (ji21) < (x5_2.length : Int)
          ·rw [if_pos c23] at H
           have c23b0 : decide ((ji21) < (x5_2.length : Int)) = true := decide_eq_true c23
           clear c23
           by_cases c24 : 0 ≤ x6_1
           ·rw [if_pos c24] at H
            have c24b0 : decide (0 ≤ x6_1) = true := decide_eq_true c24
            clear c24
            by_cases c25 : x6_1 < (l0_0.length : Int)
            ·rw [if_pos c25] at H
             have c25b0 : decide (x6_1 < (l0_0.length : Int)) = true := decide_eq_true c25
             clear c25
             replace H := bI_ H
             obtain ⟨t153, A260, H⟩ := H
             (try dsimp only at H)
             have A26 := aA_ A260
             clear A260
             obtain ⟨y154, hy154⟩ : ∃ y_ : List Int, y_ = (x5_2.set ((ji21) : Int).toNat (Int.tmod (wrap64 ((wrap64 ((rd x5_2 (ji21)) + (wrap64 ((rd l0_0 x6_1) * t153)))) + x7_2)) 10000)) := ⟨_, rfl⟩
             replace H : (demurrageref01_Prod.l1 k2 y154 x6_1 (wrap64 (Int.tdiv (wrap64 ((wrap64 ((rd x5_2 (ji21)) + (wrap64 ((rd l0_0 x6_1) * t153)))) + x7_2)) 10000)) (wrap64 (x8_2 + 1)) l0_0 l1_0) = some r := by first | (rw [hy154]; with_reducible exact H) | (have H2_ := (Option.bind_some _ _).symm.trans H; rw [hy154]; with_reducible exact H2_) | (have H2_ := (Option.bind_some _ _).symm.trans H; with_reducible exact H2_) | with_reducible exact H | (rw [hy154]; exact H) | exact H
             have Ny154 := aA_ hy154
             clear hy154
             have H' := aA_ H
             clear H
             have hnb28 := NB143_142.out
             have hnc28 := NB142_143.out
             have hnb29 := NB143_144.out
             have hnc29 := NB144_143.out
             have hcz30_0 : wr.cell? ⟨gb143, 0, none⟩ = some (.slice A1_0 l1_0.length c1_0) := (blk_cell BK143.out 0).trans rfl
             have hfz30_0 := blk_frozen BK143.out 0
             try go_wp2
             replace HO_5 := aA_ (Kd.R_drew HO_5.out)
             replace BK142 := aA_ (blk_drew BK142.out)
             replace BK143 := aA_ (blk_drew BK143.out)
             replace BK144 := aA_ (blk_drew BK144.out)
             replace HB := aA_ (below_drew1 HB.out)
             obtain ⟨Ao32, co32, eo32⟩ := Kd.R_slice HO_5.out
             (first | subst eo32 | (injection eo32 with f1_ f2_ f3_; have f4_ := f1_.symm; have f5_ := f3_.symm; clear f1_ f2_ f3_; subst f4_; subst f5_))
             have p151 : 0 ≤ ((ji21) : Int) := of_decide_eq_true (by first | (with_reducible assumption) | assumption)
             have q151 : (ji21) < (x5_2.length : Int) := of_decide_eq_true (by first | (with_reducible assumption) | assumption)
             obtain ⟨ad151, e151, hx151_0⟩ := Kd.at_int (Kd.R_reads' HO_5.out).2.2 (ji21) p151 q151
             cases e151
             replace p151 := eq_true p151
             replace q151 := eq_true q151
             have p152 : 0 ≤ (x6_1 : Int) := of_decide_eq_true (by first | (with_reducible assumption) | assumption)
             have q152 : x6_1 < (l0_0.length : Int) := of_decide_eq_true (by first | (with_reducible assumption) | assumption)
             obtain ⟨ad152, e152, hx152_0⟩ := Kd.at_int HR0_0.out x6_1 p152 q152
             have hw152_0 := hx152_0
             cases e152
             replace hx152_0 := cC_ HB hx152_0
             replace p152 := eq_true p152
             replace q152 := eq_true q152
             refine start_ (n := 19) (S := fun w' => w'.cell? ⟨gb142, 0, none⟩ = some (.slice (some ad152) l0_0.length c0_0) ∧ w'.cell? ⟨gb143, 0, none⟩ = some (.slice A1_0 l1_0.length c1_0) ∧ w'.cell? (ad151.add ((ji21)).toNat) = some (.int .i64 (rd x5_2 (ji21))) ∧ w'.cell? (ad152.add (x6_1).toNat) = some (.int .i64 (rd l0_0 x6_1))) (ds := []) (demurrageref01_Plus.ups 19 0) (by kernel_rfl) rfl rfl ⟨(blk_cell BK142.out 0).trans rfl, (blk_cell BK143.out 0).trans rfl, hx151_0, ((HB.out.cell (World.block_lt_of_cell? w _ hw152_0)).trans hw152_0)⟩ (fun hHeld => ?_); refine with_tabW demurrageref01_Prod.tab9 demurrageref01_Prod.bits9 (fun HT_ HW_ => ?_)
             generalize wr.drew = w31 at HO_5 BK142 BK143 BK144 HB hx151_0 hx152_0 hHeld ⊢
             refine pure_ (i := 0) (N := some 37) (v := ?_) (a' := ?_) (demurrageref01_Plus.ups 19 1) rfl rfl (any_of HT_.out (by kernel_rfl)) (fun _ _ _ h => h) (Or.inl ⟨by rfl, ?_⟩) ?_ ?_
             rotate_left
             ·intro w'
              go_simp
              with_reducible rfl
             rotate_left
             ·simp only [Act.put, sT_, sZ_, sS_, i64_w, i32_w]
              rfl
             refine pure_ (i := 1) (N := some 38) (v := ?_) (a' := ?_) (demurrageref01_Plus.ups 19 3) rfl rfl (any_of HT_.out (by kernel_rfl)) (fun _ _ _ h => h) (Or.inl ⟨by rfl, ?_⟩) ?_ ?_
             rotate_left
             ·intro w'
              go_simp
              with_reducible rfl
             rotate_left
             ·simp only [Act.put, sT_, sZ_, sS_, i64_w, i32_w]
              rfl
             refine pure_ (i := 2) (N := some 39) (v := ?_) (a' := ?_) (demurrageref01_Plus.ups 19 7) rfl rfl (any_of HT_.out (by kernel_rfl)) (fun _ _ _ h => h) (Or.inl ⟨by rfl, ?_⟩) ?_ ?_
             rotate_left
             ·intro w'
              go_simp
              with_reducible rfl
             rotate_left
             ·simp only [Act.put, sT_, sZ_, sS_, i64_w, i32_w]
              rfl
             refine pure_ (i := 3) (N := some 40) (v := ?_) (a' := ?_) (demurrageref01_Plus.ups 19 15) rfl rfl (any_of HT_.out (by kernel_rfl)) (fun _ _ _ h => h) (Or.inl ⟨by rfl, ?_⟩) ?_ ?_
             rotate_left
             ·intro w'
              go_simp
              with_reducible rfl
             rotate_left
             ·simp only [Act.put, sT_, sZ_, sS_, i64_w, i32_w]
              rfl
             refine pure_ (i := 4) (N := some 41) (v := ?_) (a' := ?_) (demurrageref01_Plus.ups 19 31) rfl rfl (any_of HT_.out (by kernel_rfl)) (fun _ _ _ h => h) (Or.inl ⟨by rfl, ?_⟩) ?_ ?_
             rotate_left
             ·intro w'
              go_simp
              with_reducible rfl
             rotate_left
             ·simp only [Act.put, sT_, sZ_, sS_, i64_w, i32_w]
              rfl
             refine pure_ (i := 6) (N := some 43) (v := ?_) (a' := ?_) (demurrageref01_Plus.ups 19 95) rfl rfl (any_of HT_.out (by kernel_rfl)) (fun _ _ _ h => h) (Or.inl ⟨by rfl, ?_⟩) ?_ ?_
             rotate_left
             ·intro w'
              go_simp
              with_reducible rfl
             rotate_left
             ·simp only [Act.put, sT_, sZ_, sS_, i64_w, i32_w]
              rfl
             refine pure_ (i := 8) (N := some 45) (v := ?_) (a' := ?_) (demurrageref01_Plus.ups 19 351) rfl rfl (any_of HT_.out (by kernel_rfl)) (fun _ _ _ h => h) (Or.inl ⟨by rfl, ?_⟩) ?_ ?_
             rotate_left
             ·intro w'
              go_simp
              with_reducible rfl
             rotate_left
             ·simp only [Act.put, sT_, sZ_, sS_, i64_w, i32_w]
              rfl
             refine pure_ (i := 12) (N := some 49) (v := ?_) (a' := ?_) (demurrageref01_Plus.ups 19 4447) rfl rfl (any_of HT_.out (by kernel_rfl)) (fun _ _ _ h => h) (Or.inl ⟨by rfl, ?_⟩) ?_ ?_
             rotate_left
             ·intro w'
              go_simp
              with_reducible rfl
             rotate_left
             ·simp only [Act.put, sT_, sZ_, sS_, i64_w, i32_w]
              rfl
             refine pure_ (i := 16) (N := some 53) (v := ?_) (a' := ?_) (demurrageref01_Plus.ups 19 69983) rfl rfl (any_of HT_.out (by kernel_rfl)) (fun _ _ _ h => h) (Or.inl ⟨by rfl, ?_⟩) ?_ ?_
             rotate_left
             ·intro w'
              go_simp
              with_reducible rfl
             rotate_left
             ·simp only [Act.put, sT_, sZ_, sS_, i64_w, i32_w]
              rfl
             refine take_ (i := 5) (N := some 42) (v := ?_) (a' := ?_) (demurrageref01_Plus.ups 19 70015) rfl rfl (take_ofW HT_.out HW_.out (by kernel_rfl)) (fun _ _ _ h => h) (Or.inl ⟨by rfl, ?_⟩) hHeld ?_ ?_
             rotate_left
             ·rintro w' ⟨s0, s1, s2, s3⟩
              go_simp
              with_reducible rfl
             rotate_left
             ·simp only [Act.put, sT_, sZ_, sS_, i64_w, i32_w]
              rfl
             refine take_ (i := 7) (N := some 44) (v := ?_) (a' := ?_) (demurrageref01_Plus.ups 19 70143) rfl rfl (take_ofW HT_.out HW_.out (by kernel_rfl)) (fun _ _ _ h => h) (Or.inl ⟨by rfl, ?_⟩) hHeld ?_ ?_
             rotate_left
             ·rintro w' ⟨s0, s1, s2, s3⟩
              go_simp
              with_reducible rfl
             rotate_left
             ·simp only [Act.put, sT_, sZ_, sS_, i64_w, i32_w]
              rfl
             refine pure_ (i := 9) (N := some 46) (v := ?_) (a' := ?_) (demurrageref01_Plus.ups 19 70655) rfl rfl (any_of HT_.out (by kernel_rfl)) (fun _ _ _ h => h) (Or.inl ⟨by rfl, ?_⟩) ?_ ?_
             rotate_left
             ·intro w'
              go_simp
              with_reducible rfl
             rotate_left
             ·simp only [Act.put, sT_, sZ_, sS_, i64_w, i32_w]
              rfl
             refine take_ (i := 10) (N := some 47) (v := ?_) (a' := ?_) (demurrageref01_Plus.ups 19 71679) rfl rfl (take_ofW HT_.out HW_.out (by kernel_rfl)) (fun _ _ _ h => h) (Or.inl ⟨by rfl, ?_⟩) hHeld ?_ ?_
             rotate_left
             ·rintro w' ⟨s0, s1, s2, s3⟩
              go_simp
              with_reducible rfl
             rotate_left
             ·simp only [Act.put, sT_, sZ_, sS_, i64_w, i32_w]
              rfl
             refine take_ (i := 11) (N := some 48) (v := ?_) (a' := ?_) (demurrageref01_Plus.ups 19 73727) rfl rfl (take_ofW HT_.out HW_.out (by kernel_rfl)) (fun _ _ _ h => h) (Or.inl ⟨by rfl, ?_⟩) hHeld ?_ ?_
             rotate_left
             ·rintro w' ⟨s0, s1, s2, s3⟩
              go_simp
              with_reducible rfl
             rotate_left
             ·simp only [Act.put, sT_, sZ_, sS_, i64_w, i32_w]
              rfl
             refine one_ (i := 13) (N := some 50) (demurrageref01_Plus.ups 19 81919) rfl rfl (one_of HT_.out (by kernel_rfl)) (by decide) (fun K hK => ?_)
             refine goes_ Tryd.func56 (by kernel_rfl) rfl #[.agg #[.slice A1_0 l1_0.length c1_0], .int .i64 x8_2] (by rfl) rfl rfl (by (try simp only [mT_, mC_, mN_]); first | done | rfl) ?_
             with_reducible refine (demurrageref01_part.calls _ _ l1_0 x8_2 t153 _ ?side1 ?side2 A26.out).mono ?_
             (case side1 => repeat (first | exact (Kd.C_below HR1_0.out HB.out) | (with_reducible first | refine Kd.C_alloc ?_ _ | refine Kd.C_drewN ?_ _ | refine Kd.C_drew ?_)))
             (case side2 => exact HC1_0.out)
             rintro e w33 ⟨rfl, hb⟩
             have HS2_ := (hb.cell (World.block_lt_of_cell? _ _ (hHeld.2.2.1))).trans (hHeld.2.2.1)
             refine ⟨_, rfl, ?_⟩
             replace HO_5 := aA_ (Kd.R_below HO_5.out hb)
             replace BK142 := bK_ BK142 hb
             replace BK143 := bK_ BK143 hb
             replace BK144 := bK_ BK144 hb
             replace HB := bB_ (by repeat (with_reducible first | exact HB.out | apply bA_ | apply bN_ | apply bD_ | refine bS_ ?_ GE142.out | refine bS_ ?_ GE143.out | refine bS_ ?_ GE144.out)) hb
             (try clear hb)
             (try clear hb2)
             (try clear hk)
             (try clear hi)
             refine hK.out _ _ ⟨(blk_cell BK142.out 0).trans rfl, (blk_cell BK143.out 0).trans rfl, HS2_, ((HB.out.cell (World.block_lt_of_cell? w _ hw152_0)).trans hw152_0)⟩ (fun hHeld => ?_)
             clear hK K
             refine norm_ (by show Act.put _ (some 50) _ = _; simp only [Act.put, sT_, sZ_, sS_, i64_w, i32_w] <;> rfl) ?_
             refine pure_ (i := 14) (N := some 51) (v := ?_) (a' := ?_) (demurrageref01_Plus.ups 19 98303) rfl rfl (any_of HT_.out (by kernel_rfl)) (fun _ _ _ h => h) (Or.inl ⟨by rfl, ?_⟩) ?_ ?_
             rotate_left
             ·intro w'
              go_simp
              with_reducible rfl
             rotate_left
             ·simp only [Act.put, sT_, sZ_, sS_, i64_w, i32_w]
              rfl
             refine pure_ (i := 15) (N := some 52) (v := ?_) (a' := ?_) (demurrageref01_Plus.ups 19 131071) rfl rfl (any_of HT_.out (by kernel_rfl)) (fun _ _ _ h => h) (Or.inl ⟨by rfl, ?_⟩) ?_ ?_
             rotate_left
             ·intro w'
              go_simp
              with_reducible rfl
             rotate_left
             ·simp only [Act.put, sT_, sZ_, sS_, i64_w, i32_w]
              rfl
             refine pure_ (i := 17) (N := some 54) (v := ?_) (a' := ?_) (demurrageref01_Plus.ups 19 262143) rfl rfl (any_of HT_.out (by kernel_rfl)) (fun _ _ _ h => h) (Or.inl ⟨by rfl, ?_⟩) ?_ ?_
             rotate_left
             ·intro w'
              go_simp
              with_reducible rfl
             rotate_left
             ·simp only [Act.put, sT_, sZ_, sS_, i64_w, i32_w]
              rfl
             refine pure_ (i := 18) (N := some 9) (v := ?_) (a' := ?_) (demurrageref01_Plus.ups 19 524287) rfl rfl (any_of HT_.out (by kernel_rfl)) (fun _ _ _ h => h) (Or.inl ⟨by rfl, ?_⟩) ?_ ?_
             rotate_left
             ·intro w'
              go_simp
              with_reducible rfl
             rotate_left
             ·simp only [Act.put, sT_, sZ_, sS_, i64_w, i32_w]
              rfl
             refine done_ (done_of HT_.out (by kernel_rfl)) ?_
             have p27 : 0 ≤ ((ji21) : Int) := of_decide_eq_true (by first | (with_reducible assumption) | assumption)
             have q27 : ((ji21) : Int) < ((x5_2.length : Int) : Int) := of_decide_eq_true (by first | (with_reducible assumption) | assumption)
             obtain ⟨go27, co27, eo27, gb27, gl27, cl27, HG27⟩ := Kd.R_form HO_5.out (by omega)
             (first | cases eo27 | (injection eo27 with ea_ en_ ec_; (first | subst ea_ | (injection ea_ with ea_; subst ea_)); subst ec_; clear en_))
             have GB27 := aA_ gb27
             have GG27 := aA_ HG27
             clear gb27 gl27 HG27
             (first | simp only [add_plain] at hx151_0 | skip)
             obtain ⟨hx27_0, hf27_0⟩ := Kd.R_celln 0 HO_5.out ((ji21) : Int) p27 q27
             replace p27 := eq_true p27
             replace q27 := eq_true q27
             obtain ⟨hy34_, hz34_⟩ := Kd.R_celln 0 HO_5.out ((ji21) : Int) (of_decide_eq_true (by first | (with_reducible assumption) | assumption)) (of_decide_eq_true (by first | (with_reducible assumption) | assumption))
             have HP34 := Kd.R_putg HO_5.out ((ji21) : Int) (Int.tmod (wrap64 ((wrap64 ((rd x5_2 (ji21)) + (wrap64 ((rd l0_0 x6_1) * t153)))) + x7_2)) 10000)
             try go_wp2_with (first | ((with_reducible refine gate_store (t := 3) (p := 61) rfl ?_); refine store_event (t := 3) (p := 61) (v := ?vo_w35) (w1 := (w33.setCell ⟨go27, ((ji21) : Int).toNat, none⟩ (.int .i64 (Int.tmod (wrap64 ((wrap64 ((rd x5_2 (ji21)) + (wrap64 ((rd l0_0 x6_1) * t153)))) + x7_2)) 10000)))) ?hg ?ho ?hn ?hr ?_; (case ho => rfl); (case hg => rfl); (case hn => rfl); (case hr => go_simp <;> rfl); intro w35 hw; have hg : w33.grownBy w35 (some go27) := (by rw [hw]; exact HP34.2); have hp_ : Kd.R (Kd.int .i64) 3 w35 w.heap.size (fun _ => True) (.slice (some ⟨go27, 0, none⟩) x5_2.length co32) y154 := (by rw [hw, Ny154.out]; exact HP34.1); clear HP34; replace BK142 := aA_ (blk_grown (g := gb142) (o := .cells #[.slice (some ad152) l0_0.length c0_0] 56 (0, 0)) BK142.out hg (Kd.R_ne HO_5.out BK142.out (by decide))); replace BK143 := aA_ (blk_grown (g := gb143) (o := .cells #[.slice A1_0 l1_0.length c1_0] 56 (0, 0)) BK143.out hg (Kd.R_ne HO_5.out BK143.out (by decide))); replace BK144 := aA_ (blk_grown (g := gb144) (o := .cells #[.slice none 0 0] 56 (0, 0)) BK144.out hg (Kd.R_ne HO_5.out BK144.out (by decide))); replace HO_5 := aA_ (hp_); replace HB := aA_ ((by rw [hw]; exact below_set (HB.out) GB27.out : Below w.heap.size w w35)); clear hg hw hp_))
             go_roundg k2
             case measure => have := HK1.out; have := HK2.out; omega
             case rel => exact ⟨(y154), (wrap64 (Int.tdiv (wrap64 ((wrap64 ((rd x5_2 (ji21)) + (wrap64 ((rd l0_0 x6_1) * t153)))) + x7_2)) 10000)), (wrap64 (x8_2 + 1)), (by first | rfl | (simp; done) | (simp only [← hji21] <;> (first | rfl | simp)) | (simp [*]; done)), (by first | rfl | (simp; done) | (simp [*]; done)), H', ⟨by have := HK1.out; have := HK2.out; omega⟩, ⟨by (with_reducible repeat (first | apply Kd.R_alloc | apply Kd.R_drewN | apply Kd.R_drew)); exact HO_5.out⟩, ⟨by exact BK142.out⟩, ⟨by exact BK143.out⟩, ⟨by exact BK144.out⟩, ⟨by repeat (with_reducible first | exact HB.out | apply bA_ | apply bN_ | apply bD_ | refine bS_ ?_ GE142.out | refine bS_ ?_ GE143.out | refine bS_ ?_ GE144.out)⟩⟩
            ·rw [if_neg c25] at H
             exact absurd H (by simp)
           ·rw [if_neg c24] at H
            exact absurd H (by simp)
          ·rw [if_neg c23] at H
           exact absurd H (by simp)
         ·rw [if_neg c22] at H
          exact absurd H (by simp)
        ·rw [if_neg c20] at H
         have c20b0 : decide (x8_2 < (l1_0.length : Int)) = false := decide_eq_false c20
         clear c20
         by_cases c36 : x7_2 > 0
         ·rw [if_pos c36] at H
          have c36b0 : decide (0 < x7_2) = true := decide_eq_true c36
          clear c36
          obtain ⟨ji37, hji37⟩ : ∃ j_ : Int, (wrap64 (x6_1 + x8_2)) = j_ := ⟨_, rfl⟩
          replace H : (if 0 ≤ (ji37) then (if (ji37) < (x5_2.length : Int) then (if 0 ≤ x6_1 then (if x6_1 < (l0_0.length : Int) then ((demurrageref01_part.f l1_0 x8_2).bind fun t157 => (demurrageref01_Prod.l1 k2 (x5_2.set ((ji37) : Int).toNat (Int.tmod (wrap64 ((wrap64 ((rd x5_2 (ji37)) + (wrap64 ((rd l0_0 x6_1) * t157)))) + x7_2)) 10000)) x6_1 (wrap64 (Int.tdiv (wrap64 ((wrap64 ((rd x5_2 (ji37)) + (wrap64 ((rd l0_0 x6_1) * t157)))) + x7_2)) 10000)) (wrap64 (x8_2 + 1)) l0_0 l1_0)) else (none)) else (none)) else (none)) else (none)) = some r := by first | (rw [hji37] at H; exact H) | (simp only [hji37] at H ⊢; exact H)
          have hji37w : (IntKind.i64.wrap (x6_1 + x8_2)) = ji37 := (i64_w _).trans hji37
          by_cases c38 : 0 ≤ (ji37)
          ·rw [if_pos c38] at H
           have c38b0 : decide (0 ≤ (ji37)) = true := decide_eq_true c38
           clear c38
           by_cases c39 : (ji37) < (x5_2.length : Int)
           ·rw [if_pos c39] at H
            have c39b0 : decide ((ji37) < (x5_2.length : Int)) = true := decide_eq_true c39
            clear c39
            by_cases c40 : 0 ≤ x6_1
            ·rw [if_pos c40] at H
             have c40b0 : decide (0 ≤ x6_1) = true := decide_eq_true c40
             clear c40
             by_cases c41 : x6_1 < (l0_0.length : Int)
             ·rw [if_pos c41] at H
              have c41b0 : decide (x6_1 < (l0_0.length : Int)) = true := decide_eq_true c41
              clear c41
              replace H := bI_ H
              obtain ⟨t157, A420, H⟩ := H
              (try dsimp only at H)
              have A42 := aA_ A420
              clear A420
              obtain ⟨y158, hy158⟩ : ∃ y_ : List Int, y_ = (x5_2.set ((ji37) : Int).toNat (Int.tmod (wrap64 ((wrap64 ((rd x5_2 (ji37)) + (wrap64 ((rd l0_0 x6_1) * t157)))) + x7_2)) 10000)) := ⟨_, rfl⟩
              replace H : (demurrageref01_Prod.l1 k2 y158 x6_1 (wrap64 (Int.tdiv (wrap64 ((wrap64 ((rd x5_2 (ji37)) + (wrap64 ((rd l0_0 x6_1) * t157)))) + x7_2)) 10000)) (wrap64 (x8_2 + 1)) l0_0 l1_0) = some r := by first | (rw [hy158]; with_reducible exact H) | (have H2_ := (Option.bind_some _ _).symm.trans H; rw [hy158]; with_reducible exact H2_) | (have H2_ := (Option.bind_some _ _).symm.trans H; with_reducible exact H2_) | with_reducible exact H | (rw [hy158]; exact H) | exact H
              have Ny158 := aA_ hy158
              clear hy158
              have H' := aA_ H
              clear H
              have hnb44 := NB143_142.out
              have hnc44 := NB142_143.out
              have hnb45 := NB143_144.out
              have hnc45 := NB144_143.out
              have hcz46_0 : wr.cell? ⟨gb143, 0, none⟩ = some (.slice A1_0 l1_0.length c1_0) := (blk_cell BK143.out 0).trans rfl
              have hfz46_0 := blk_frozen BK143.out 0
              try go_wp2
              replace HO_5 := aA_ (Kd.R_drew HO_5.out)
              replace BK142 := aA_ (blk_drew BK142.out)
              replace BK143 := aA_ (blk_drew BK143.out)
              replace BK144 := aA_ (blk_drew BK144.out)
              replace HB := aA_ (below_drew1 HB.out)
              obtain ⟨Ao48, co48, eo48⟩ := Kd.R_slice HO_5.out
              (first | subst eo48 | (injection eo48 with f1_ f2_ f3_; have f4_ := f1_.symm; have f5_ := f3_.symm; clear f1_ f2_ f3_; subst f4_; subst f5_))
              have p155 : 0 ≤ ((ji37) : Int) := of_decide_eq_true (by first | (with_reducible assumption) | assumption)
              have q155 : (ji37) < (x5_2.length : Int) := of_decide_eq_true (by first | (with_reducible assumption) | assumption)
              obtain ⟨ad155, e155, hx155_0⟩ := Kd.at_int (Kd.R_reads' HO_5.out).2.2 (ji37) p155 q155
              cases e155
              replace p155 := eq_true p155
              replace q155 := eq_true q155
              have p156 : 0 ≤ (x6_1 : Int) := of_decide_eq_true (by first | (with_reducible assumption) | assumption)
              have q156 : x6_1 < (l0_0.length : Int) := of_decide_eq_true (by first | (with_reducible assumption) | assumption)
              obtain ⟨ad156, e156, hx156_0⟩ := Kd.at_int HR0_0.out x6_1 p156 q156
              have hw156_0 := hx156_0
              cases e156
              replace hx156_0 := cC_ HB hx156_0
              replace p156 := eq_true p156
              replace q156 := eq_true q156
              refine start_ (n := 19) (S := fun w' => w'.cell? ⟨gb142, 0, none⟩ = some (.slice (some ad156) l0_0.length c0_0) ∧ w'.cell? ⟨gb143, 0, none⟩ = some (.slice A1_0 l1_0.length c1_0) ∧ w'.cell? (ad155.add ((ji37)).toNat) = some (.int .i64 (rd x5_2 (ji37))) ∧ w'.cell? (ad156.add (x6_1).toNat) = some (.int .i64 (rd l0_0 x6_1))) (ds := []) (demurrageref01_Plus.ups 19 0) (by kernel_rfl) rfl rfl ⟨(blk_cell BK142.out 0).trans rfl, (blk_cell BK143.out 0).trans rfl, hx155_0, ((HB.out.cell (World.block_lt_of_cell? w _ hw156_0)).trans hw156_0)⟩ (fun hHeld => ?_); refine with_tabW demurrageref01_Prod.tab9 demurrageref01_Prod.bits9 (fun HT_ HW_ => ?_)
              generalize wr.drew = w47 at HO_5 BK142 BK143 BK144 HB hx155_0 hx156_0 hHeld ⊢
              refine pure_ (i := 0) (N := some 37) (v := ?_) (a' := ?_) (demurrageref01_Plus.ups 19 1) rfl rfl (any_of HT_.out (by kernel_rfl)) (fun _ _ _ h => h) (Or.inl ⟨by rfl, ?_⟩) ?_ ?_
              rotate_left
              ·intro w'
               go_simp
               with_reducible rfl
              rotate_left
              ·simp only [Act.put, sT_, sZ_, sS_, i64_w, i32_w]
               rfl
              refine pure_ (i := 1) (N := some 38) (v := ?_) (a' := ?_) (demurrageref01_Plus.ups 19 3) rfl rfl (any_of HT_.out (by kernel_rfl)) (fun _ _ _ h => h) (Or.inl ⟨by rfl, ?_⟩) ?_ ?_
              rotate_left
              ·intro w'
               go_simp
               with_reducible rfl
              rotate_left
              ·simp only [Act.put, sT_, sZ_, sS_, i64_w, i32_w]
               rfl
              refine pure_ (i := 2) (N := some 39) (v := ?_) (a' := ?_) (demurrageref01_Plus.ups 19 7) rfl rfl (any_of HT_.out (by kernel_rfl)) (fun _ _ _ h => h) (Or.inl ⟨by rfl, ?_⟩) ?_ ?_
              rotate_left
              ·intro w'
               go_simp
               with_reducible rfl
              rotate_left
              ·simp only [Act.put, sT_, sZ_, sS_, i64_w, i32_w]
               rfl
              refine pure_ (i := 3) (N := some 40) (v := ?_) (a' := ?_) (demurrageref01_Plus.ups 19 15) rfl rfl (any_of HT_.out (by kernel_rfl)) (fun _ _ _ h => h) (Or.inl ⟨by rfl, ?_⟩) ?_ ?_
              rotate_left
              ·intro w'
               go_simp
               with_reducible rfl
              rotate_left
              ·simp only [Act.put, sT_, sZ_, sS_, i64_w, i32_w]
               rfl
              refine pure_ (i := 4) (N := some 41) (v := ?_) (a' := ?_) (demurrageref01_Plus.ups 19 31) rfl rfl (any_of HT_.out (by kernel_rfl)) (fun _ _ _ h => h) (Or.inl ⟨by rfl, ?_⟩) ?_ ?_
              rotate_left
              ·intro w'
               go_simp
               with_reducible rfl
              rotate_left
              ·simp only [Act.put, sT_, sZ_, sS_, i64_w, i32_w]
               rfl
              refine pure_ (i := 6) (N := some 43) (v := ?_) (a' := ?_) (demurrageref01_Plus.ups 19 95) rfl rfl (any_of HT_.out (by kernel_rfl)) (fun _ _ _ h => h) (Or.inl ⟨by rfl, ?_⟩) ?_ ?_
              rotate_left
              ·intro w'
               go_simp
               with_reducible rfl
              rotate_left
              ·simp only [Act.put, sT_, sZ_, sS_, i64_w, i32_w]
               rfl
              refine pure_ (i := 8) (N := some 45) (v := ?_) (a' := ?_) (demurrageref01_Plus.ups 19 351) rfl rfl (any_of HT_.out (by kernel_rfl)) (fun _ _ _ h => h) (Or.inl ⟨by rfl, ?_⟩) ?_ ?_
              rotate_left
              ·intro w'
               go_simp
               with_reducible rfl
              rotate_left
              ·simp only [Act.put, sT_, sZ_, sS_, i64_w, i32_w]
               rfl
              refine pure_ (i := 12) (N := some 49) (v := ?_) (a' := ?_) (demurrageref01_Plus.ups 19 4447) rfl rfl (any_of HT_.out (by kernel_rfl)) (fun _ _ _ h => h) (Or.inl ⟨by rfl, ?_⟩) ?_ ?_
              rotate_left
              ·intro w'
               go_simp
               with_reducible rfl
              rotate_left
              ·simp only [Act.put, sT_, sZ_, sS_, i64_w, i32_w]
               rfl
              refine pure_ (i := 16) (N := some 53) (v := ?_) (a' := ?_) (demurrageref01_Plus.ups 19 69983) rfl rfl (any_of HT_.out (by kernel_rfl)) (fun _ _ _ h => h) (Or.inl ⟨by rfl, ?_⟩) ?_ ?_
              rotate_left
              ·intro w'
               go_simp
               with_reducible rfl
              rotate_left
              ·simp only [Act.put, sT_, sZ_, sS_, i64_w, i32_w]
               rfl
              refine take_ (i := 5) (N := some 42) (v := ?_) (a' := ?_) (demurrageref01_Plus.ups 19 70015) rfl rfl (take_ofW HT_.out HW_.out (by kernel_rfl)) (fun _ _ _ h => h) (Or.inl ⟨by rfl, ?_⟩) hHeld ?_ ?_
              rotate_left
              ·rintro w' ⟨s0, s1, s2, s3⟩
               go_simp
               with_reducible rfl
              rotate_left
              ·simp only [Act.put, sT_, sZ_, sS_, i64_w, i32_w]
               rfl
              refine take_ (i := 7) (N := some 44) (v := ?_) (a' := ?_) (demurrageref01_Plus.ups 19 70143) rfl rfl (take_ofW HT_.out HW_.out (by kernel_rfl)) (fun _ _ _ h => h) (Or.inl ⟨by rfl, ?_⟩) hHeld ?_ ?_
              rotate_left
              ·rintro w' ⟨s0, s1, s2, s3⟩
               go_simp
               with_reducible rfl
              rotate_left
              ·simp only [Act.put, sT_, sZ_, sS_, i64_w, i32_w]
               rfl
              refine pure_ (i := 9) (N := some 46) (v := ?_) (a' := ?_) (demurrageref01_Plus.ups 19 70655) rfl rfl (any_of HT_.out (by kernel_rfl)) (fun _ _ _ h => h) (Or.inl ⟨by rfl, ?_⟩) ?_ ?_
              rotate_left
              ·intro w'
               go_simp
               with_reducible rfl
              rotate_left
              ·simp only [Act.put, sT_, sZ_, sS_, i64_w, i32_w]
               rfl
              refine take_ (i := 10) (N := some 47) (v := ?_) (a' := ?_) (demurrageref01_Plus.ups 19 71679) rfl rfl (take_ofW HT_.out HW_.out (by kernel_rfl)) (fun _ _ _ h => h) (Or.inl ⟨by rfl, ?_⟩) hHeld ?_ ?_
              rotate_left
              ·rintro w' ⟨s0, s1, s2, s3⟩
               go_simp
               with_reducible rfl
              rotate_left
              ·simp only [Act.put, sT_, sZ_, sS_, i64_w, i32_w]
               rfl
              refine take_ (i := 11) (N := some 48) (v := ?_) (a' := ?_) (demurrageref01_Plus.ups 19 73727) rfl rfl (take_ofW HT_.out HW_.out (by kernel_rfl)) (fun _ _ _ h => h) (Or.inl ⟨by rfl, ?_⟩) hHeld ?_ ?_
              rotate_left
              ·rintro w' ⟨s0, s1, s2, s3⟩
               go_simp
               with_reducible rfl
              rotate_left
              ·simp only [Act.put, sT_, sZ_, sS_, i64_w, i32_w]
               rfl
              refine one_ (i := 13) (N := some 50) (demurrageref01_Plus.ups 19 81919) rfl rfl (one_of HT_.out (by kernel_rfl)) (by decide) (fun K hK => ?_)
              refine goes_ Tryd.func56 (by kernel_rfl) rfl #[.agg #[.slice A1_0 l1_0.length c1_0], .int .i64 x8_2] (by rfl) rfl rfl (by (try simp only [mT_, mC_, mN_]); first | done | rfl) ?_
              with_reducible refine (demurrageref01_part.calls _ _ l1_0 x8_2 t157 _ ?side1 ?side2 A42.out).mono ?_
              (case side1 => repeat (first | exact (Kd.C_below HR1_0.out HB.out) | (with_reducible first | refine Kd.C_alloc ?_ _ | refine Kd.C_drewN ?_ _ | refine Kd.C_drew ?_)))
              (case side2 => exact HC1_0.out)
              rintro e w49 ⟨rfl, hb⟩
              have HS2_ := (hb.cell (World.block_lt_of_cell? _ _ (hHeld.2.2.1))).trans (hHeld.2.2.1)
              refine ⟨_, rfl, ?_⟩
              replace HO_5 := aA_ (Kd.R_below HO_5.out hb)
              replace BK142 := bK_ BK142 hb
              replace BK143 := bK_ BK143 hb
              replace BK144 := bK_ BK144 hb
              replace HB := bB_ (by repeat (with_reducible first | exact HB.out | apply bA_ | apply bN_ | apply bD_ | refine bS_ ?_ GE142.out | refine bS_ ?_ GE143.out | refine bS_ ?_ GE144.out)) hb
              (try clear hb)
              (try clear hb2)
              (try clear hk)
              (try clear hi)
              refine hK.out _ _ ⟨(blk_cell BK142.out 0).trans rfl, (blk_cell BK143.out 0).trans rfl, HS2_, ((HB.out.cell (World.block_lt_of_cell? w _ hw156_0)).trans hw156_0)⟩ (fun hHeld => ?_)
              clear hK K
              refine norm_ (by show Act.put _ (some 50) _ = _; simp only [Act.put, sT_, sZ_, sS_, i64_w, i32_w] <;> rfl) ?_
              refine pure_ (i := 14) (N := some 51) (v := ?_) (a' := ?_) (demurrageref01_Plus.ups 19 98303) rfl rfl (any_of HT_.out (by kernel_rfl)) (fun _ _ _ h => h) (Or.inl ⟨by rfl, ?_⟩) ?_ ?_
              rotate_left
              ·intro w'
               go_simp
               with_reducible rfl
              rotate_left
              ·simp only [Act.put, sT_, sZ_, sS_, i64_w, i32_w]
               rfl
              refine pure_ (i := 15) (N := some 52) (v := ?_) (a' := ?_) (demurrageref01_Plus.ups 19 131071) rfl rfl (any_of HT_.out (by kernel_rfl)) (fun _ _ _ h => h) (Or.inl ⟨by rfl, ?_⟩) ?_ ?_
              rotate_left
              ·intro w'
               go_simp
               with_reducible rfl
              rotate_left
              ·simp only [Act.put, sT_, sZ_, sS_, i64_w, i32_w]
               rfl
              refine pure_ (i := 17) (N := some 54) (v := ?_) (a' := ?_) (demurrageref01_Plus.ups 19 262143) rfl rfl (any_of HT_.out (by kernel_rfl)) (fun _ _ _ h => h) (Or.inl ⟨by rfl, ?_⟩) ?_ ?_
              rotate_left
              ·intro w'
               go_simp
               with_reducible rfl
              rotate_left
              ·simp only [Act.put, sT_, sZ_, sS_, i64_w, i32_w]
               rfl
              refine pure_ (i := 18) (N := some 9) (v := ?_) (a' := ?_) (demurrageref01_Plus.ups 19 524287) rfl rfl (any_of HT_.out (by kernel_rfl)) (fun _ _ _ h => h) (Or.inl ⟨by rfl, ?_⟩) ?_ ?_
              rotate_left
              ·intro w'
               go_simp
               with_reducible rfl
              rotate_left
              ·simp only [Act.put, sT_, sZ_, sS_, i64_w, i32_w]
               rfl
              refine done_ (done_of HT_.out (by kernel_rfl)) ?_
              have p43 : 0 ≤ ((ji37) : Int) := of_decide_eq_true (by first | (with_reducible assumption) | assumption)
              have q43 : ((ji37) : Int) < ((x5_2.length : Int) : Int) := of_decide_eq_true (by first | (with_reducible assumption) | assumption)
              obtain ⟨go43, co43, eo43, gb43, gl43, cl43, HG43⟩ := Kd.R_form HO_5.out (by omega)
              (first | cases eo43 | (injection eo43 with ea_ en_ ec_; (first | subst ea_ | (injection ea_ with ea_; subst ea_)); subst ec_; clear en_))
              have GB43 := aA_ gb43
              have GG43 := aA_ HG43
              clear gb43 gl43 HG43
              (first | simp only [add_plain] at hx155_0 | skip)
              obtain ⟨hx43_0, hf43_0⟩ := Kd.R_celln 0 HO_5.out ((ji37) : Int) p43 q43
              replace p43 := eq_true p43
              replace q43 := eq_true q43
              obtain ⟨hy50_, hz50_⟩ := Kd.R_celln 0 HO_5.out ((ji37) : Int) (of_decide_eq_true (by first | (with_reducible assumption) | assumption)) (of_decide_eq_true (by first | (with_reducible assumption) | assumption))
              have HP50 := Kd.R_putg HO_5.out ((ji37) : Int) (Int.tmod (wrap64 ((wrap64 ((rd x5_2 (ji37)) + (wrap64 ((rd l0_0 x6_1) * t157)))) + x7_2)) 10000)
              try go_wp2_with (first | ((with_reducible refine gate_store (t := 3) (p := 61) rfl ?_); refine store_event (t := 3) (p := 61) (v := ?vo_w51) (w1 := (w49.setCell ⟨go43, ((ji37) : Int).toNat, none⟩ (.int .i64 (Int.tmod (wrap64 ((wrap64 ((rd x5_2 (ji37)) + (wrap64 ((rd l0_0 x6_1) * t157)))) + x7_2)) 10000)))) ?hg ?ho ?hn ?hr ?_; (case ho => rfl); (case hg => rfl); (case hn => rfl); (case hr => go_simp <;> rfl); intro w51 hw; have hg : w49.grownBy w51 (some go43) := (by rw [hw]; exact HP50.2); have hp_ : Kd.R (Kd.int .i64) 3 w51 w.heap.size (fun _ => True) (.slice (some ⟨go43, 0, none⟩) x5_2.length co48) y158 := (by rw [hw, Ny158.out]; exact HP50.1); clear HP50; replace BK142 := aA_ (blk_grown (g := gb142) (o := .cells #[.slice (some ad156) l0_0.length c0_0] 56 (0, 0)) BK142.out hg (Kd.R_ne HO_5.out BK142.out (by decide))); replace BK143 := aA_ (blk_grown (g := gb143) (o := .cells #[.slice A1_0 l1_0.length c1_0] 56 (0, 0)) BK143.out hg (Kd.R_ne HO_5.out BK143.out (by decide))); replace BK144 := aA_ (blk_grown (g := gb144) (o := .cells #[.slice none 0 0] 56 (0, 0)) BK144.out hg (Kd.R_ne HO_5.out BK144.out (by decide))); replace HO_5 := aA_ (hp_); replace HB := aA_ ((by rw [hw]; exact below_set (HB.out) GB43.out : Below w.heap.size w w51)); clear hg hw hp_))
              go_roundg k2
              case measure => have := HK1.out; have := HK2.out; omega
              case rel => exact ⟨(y158), (wrap64 (Int.tdiv (wrap64 ((wrap64 ((rd x5_2 (ji37)) + (wrap64 ((rd l0_0 x6_1) * t157)))) + x7_2)) 10000)), (wrap64 (x8_2 + 1)), (by first | rfl | (simp; done) | (simp only [← hji37] <;> (first | rfl | simp)) | (simp [*]; done)), (by first | rfl | (simp; done) | (simp [*]; done)), H', ⟨by have := HK1.out; have := HK2.out; omega⟩, ⟨by (with_reducible repeat (first | apply Kd.R_alloc | apply Kd.R_drewN | apply Kd.R_drew)); exact HO_5.out⟩, ⟨by exact BK142.out⟩, ⟨by exact BK143.out⟩, ⟨by exact BK144.out⟩, ⟨by repeat (with_reducible first | exact HB.out | apply bA_ | apply bN_ | apply bD_ | refine bS_ ?_ GE142.out | refine bS_ ?_ GE143.out | refine bS_ ?_ GE144.out)⟩⟩
             ·rw [if_neg c41] at H
              exact absurd H (by simp)
            ·rw [if_neg c40] at H
             exact absurd H (by simp)
           ·rw [if_neg c39] at H
            exact absurd H (by simp)
          ·rw [if_neg c38] at H
           exact absurd H (by simp)
         ·rw [if_neg c36] at H
          have c36b0 : decide (0 < x7_2) = false := decide_eq_false c36
          clear c36
          have H' := aA_ H
          clear H
          have hnb52 := NB143_142.out
          have hnc52 := NB142_143.out
          have hnb53 := NB143_144.out
          have hnc53 := NB144_143.out
          have hcz54_0 : wr.cell? ⟨gb143, 0, none⟩ = some (.slice A1_0 l1_0.length c1_0) := (blk_cell BK143.out 0).trans rfl
          have hfz54_0 := blk_frozen BK143.out 0
          go_wp2
          go_roundg k2
          case measure => have := HK1.out; have := HK2.out; omega
          case rel => exact ⟨(x5_2), (wrap64 (x6_1 + 1)), (by first | rfl | (simp; done) | (simp [*]; done)), H', ⟨by have := HK1.out; have := HK2.out; omega⟩, ⟨by (with_reducible repeat (first | apply Kd.R_alloc | apply Kd.R_drewN | apply Kd.R_drew)); exact HO_5.out⟩, ⟨by exact BK142.out⟩, ⟨by exact BK143.out⟩, ⟨by exact BK144.out⟩, ⟨by repeat (with_reducible first | exact HB.out | apply bA_ | apply bN_ | apply bD_ | refine bS_ ?_ GE142.out | refine bS_ ?_ GE143.out | refine bS_ ?_ GE144.out)⟩⟩
     ·rw [if_neg c16] at H
      have c16b0 : decide (x6_1 < (l0_0.length : Int)) = false := decide_eq_false c16
      clear c16
      replace H := bI_ H
      obtain ⟨t148, A550, H⟩ := H
      (try dsimp only at H)
      have A55 := aA_ A550
      clear A550
      obtain rfl := Option.some.inj H
      have hnb56 := NB142_143.out
      have hnc56 := NB143_142.out
      have hnb57 := NB142_144.out
      have hnc57 := NB144_142.out
      have hcz58_0 : wr.cell? ⟨gb142, 0, none⟩ = some (.slice A0_0 l0_0.length c0_0) := (blk_cell BK142.out 0).trans rfl
      have hfz58_0 := blk_frozen BK142.out 0
      obtain ⟨Ao59, co59, eo59⟩ := Kd.R_slice HO_5.out
      subst eo59
      go_wp2_with (first | (refine goesL_ (some 65) rfl rfl Tryd.func57 (by kernel_rfl) rfl #[.slice Ao59 x5_1.length co59] rfl (by (try simp only [mT_, mC_, mN_]); first | done | rfl) ?_; (with_reducible refine (demurrageref01_trim.calls _ _ x5_1 t148 _ ?side1 ?side2 A55.out).mono ?_); (case side1 => repeat (first | exact (Kd.R_reads' HO_5.out).2.2 | (with_reducible first | refine Kd.C_alloc ?_ _ | refine Kd.C_drewN ?_ _ | refine Kd.C_drew ?_))); (case side2 => exact (Kd.R_reads' HO_5.out).2.1); rintro e w60 ⟨v149, rfl, ho0, hb⟩; refine ⟨_, rfl, ?_⟩; have HO150 := aA_ (Kd.R_lower (Kd.R_new' ho0 (Kd.R_lt HO_5.out)) (below_size (by repeat (with_reducible first | exact HB.out | apply bA_ | apply bN_ | apply bD_ | refine bS_ ?_ GE142.out | refine bS_ ?_ GE143.out | refine bS_ ?_ GE144.out)))); replace HO_5 := aA_ (Kd.R_elder' HO_5.out (Kd.R_base ho0) hb); replace BK142 := bK_ BK142 hb; replace BK143 := bK_ BK143 hb; replace BK144 := bK_ BK144 hb; replace HB := bB_ (by repeat (with_reducible first | exact HB.out | apply bA_ | apply bN_ | apply bD_ | refine bS_ ?_ GE142.out | refine bS_ ?_ GE143.out | refine bS_ ?_ GE144.out)) hb; (try clear hb); (try clear ho0); obtain ⟨Ao61, co61, eo61⟩ := Kd.R_slice HO150.out; subst eo61; have hnb62 := NB144_143.out; have hnc62 := NB143_144.out; have hcz63_0 : w60.cell? ⟨gb144, 0, none⟩ = some (.slice none 0 0) := (blk_cell BK144.out 0).trans rfl; have hfz63_0 := blk_frozen BK144.out 0))
      refine bodyPost_ret (results_cell_row rfl _ _ gb144 56 #[.slice Ao61 t148.length co61] (0, 0) _ rfl (by refine blk_put (cs := #[.slice none 0 0]) ?_ 0 _ rfl; exact BK144.out) Tryd.underlying56 rfl (by kernel_rfl)) rfl ?_
      exact ⟨_, by first | rfl | (simp [errW_none, errW_some] <;> rfl) | (simp only [← hji3]; first | rfl | (simp [errW_none, errW_some] <;> rfl)) | (simp [*, errW_none, errW_some] <;> rfl), by (with_reducible repeat (first | apply Kd.R_alloc | apply Kd.R_drewN | apply Kd.R_drew)); exact Kd.R_mono (Kd.R_far (p := ⟨gb144, 0, none⟩) (Kd.R_types HO150.out BK144.out (by decide)) (fun _ hk => hk.2) (.slice Ao61 t148.length co61)) (fun _ hk => trivial), by repeat (with_reducible first | exact HB.out | apply bA_ | apply bN_ | apply bD_ | refine bS_ ?_ GE142.out | refine bS_ ?_ GE143.out | refine bS_ ?_ GE144.out)⟩
  ·rw [if_neg c5] at H
   exact absurd H (by simp)
 ·rw [if_neg c4] at H
  exact absurd H (by simp)

def demurrageref01_FromU.l0 : Nat → Int → List Int → Option (List Int)
 | 0, _, _ => none
 | k + 1, x0, x3 => if x0 > 0 then (if x3.length < 17592186044416 then (demurrageref01_FromU.l0 k (IntKind.u64.wrap (Int.tdiv x0 10000)) (x3 ++ [wrap64 (Int.tmod x0 10000)])) else (none)) else (some x3)
def demurrageref01_FromU.f (k : Nat) (a0 : Int) : Option (List Int) := demurrageref01_FromU.l0 k a0 ([] : List Int)
set_option maxHeartbeats 8000000 in
set_option maxRecDepth 100000 in
theorem demurrageref01_FromU.calls (k : Nat) (a0 : Int) (r : List Int) (w : World) (h : demurrageref01_FromU.f k a0 = some r) :
  Calls Tryd.prog 54 #[.int .u64 a0] w fun e w' => ∃ v0_ : Value, e = .returned (.agg #[v0_]) ∧ Kd.R (Kd.int .i64) 3 w' w.heap.size (fun _ => True) v0_ r ∧ Below w.heap.size w w' := by
 have hu56 := Tryd.underlying56
 have HB := aA_ (Below.refl w.heap.size w)
 have H : (demurrageref01_FromU.l0 k a0 ([] : List Int)) = some r := h
 clear h
 have H' := aA_ H
 clear H
 go_enter Tryd.func54, Tryd.ntmps54
 go_wp2_with (first | (refine box_event rfl (N := 2) rfl (cs := #[.slice none 0 0]) (t := 56) ?hr ?_; (case hr => go_simp <;> rfl); intro gb159 hg w2 hbox hb; have BK159 := aA_ (hbox); have GW159 := gW_ hg (by repeat (with_reducible first | exact HB.out | apply bA_ | apply bN_ | apply bD_)); have GE159 := GW159; replace HB := bB_ (by repeat (with_reducible first | exact HB.out | apply bA_ | apply bN_ | apply bD_)) hb; clear hb hbox hg))
 (try simp only [Act.put, sT_, sZ_, sS_])
 go_loopg [0, 3] k (fun kq v0 v3 w' => ∃ (x0_1 : Int) (x3_1 : List Int), v0 = .int .u64 x0_1 ∧ Aside0 (demurrageref01_FromU.l0 kq x0_1 x3_1 = some r) ∧ Aside0 (kq ≤ k) ∧ Aside0 (Kd.R (Kd.int .i64) 3 w' w.heap.size (fun _ => True) v3 x3_1) ∧ Aside0 (w'.heap[gb159]? = some (.cells #[(.slice none 0 0)] 56 (0, 0))) ∧ Aside0 (Below w.heap.size w w'))
 case atStart => exact ⟨(a0), (([] : List Int)), (by first | rfl | (simp; done) | (simp [*]; done)), H', ⟨Nat.le_refl _⟩, ⟨by first | exact Kd.R_nil _ _ _ _ _ | exact Kd.N_nil _ _ _ _ _ | exact Kd.V_nil _ _ _ _ _ | exact Kd.Q_nil _ _ _ _ _ | exact Kd.S_nil _ _ _ _ _⟩, ⟨by exact BK159.out⟩, ⟨by repeat (with_reducible first | exact HB.out | apply bA_ | apply bN_ | apply bD_ | refine bS_ ?_ GE159.out)⟩⟩
 case round =>
  clear H'
  try clear p2
  obtain ⟨x0_1, x3_1, rfl, HA, HK1, HO_3, BK159, HB⟩ := hrel
  cases gk with
  | zero => exact absurd HA.out (by simp [demurrageref01_FromU.l0])
  | succ k1 =>
   have H := HA.out
   clear HA
   simp only [demurrageref01_FromU.l0] at H
   by_cases c3 : x0_1 > 0
   ·rw [if_pos c3] at H
    have c3b0 : decide (0 < x0_1) = true := decide_eq_true c3
    clear c3
    by_cases c4 : x3_1.length < 17592186044416
    ·rw [if_pos c4] at H
     have LMc4 := aA_ c4
     clear c4
     obtain ⟨y160, hy160⟩ : ∃ y_ : List Int, y_ = (x3_1 ++ [wrap64 (Int.tmod x0_1 10000)]) := ⟨_, rfl⟩
     replace H : (demurrageref01_FromU.l0 k1 (IntKind.u64.wrap (Int.tdiv x0_1 10000)) y160) = some r := by first | (rw [hy160]; with_reducible exact H) | (have H2_ := (Option.bind_some _ _).symm.trans H; rw [hy160]; with_reducible exact H2_) | (have H2_ := (Option.bind_some _ _).symm.trans H; with_reducible exact H2_) | with_reducible exact H | (rw [hy160]; exact H) | exact H
     have Ny160 := aA_ hy160
     clear hy160
     have H' := aA_ H
     clear H
     go_wp2_with (first | ((with_reducible refine gate_builtin (b := .append) (xs := #[.tmp 6, .tmp 10]) rfl ?_); at_builtin; refine Kd.R_append (Kd.int .i64) (w0 := w) w.heap.size rfl (.tmp 6) (.tmp 10) 54 3 (.int .i64 0) 8 rfl Tryd.underlying54 info3 rfl (by decide) (by omega) u3 x3_1 (wrap64 (Int.tmod x0_1 10000)) [.int .i64 (wrap64 (Int.tmod x0_1 10000))] (fun _ => True) (fun _ => False) rfl rfl ?aP (fun _ hk => hk.elim) ?aF ?aO ?aB ?aS ?aL ?_; (case aP => exact rfl); (case aB => exact (by repeat (with_reducible first | exact HB.out | apply bA_ | apply bN_ | apply bD_ | refine bS_ ?_ GE159.out))); (case aF => exact (fun _ _ => trivial)); (case aO => exact (by (with_reducible repeat (first | apply Kd.R_alloc | apply Kd.R_drewN | apply Kd.R_drew)); exact HO_3.out)); (case aS => exact (below_size (by repeat (with_reducible first | exact HB.out | apply bA_ | apply bN_ | apply bD_ | refine bS_ ?_ GE159.out)))); (case aL => have := LMc4.out; omega); intro v161 w5 ho hb hg hat; rw [← Ny160.out] at ho; replace BK159 := aA_ (blk_grown (g := gb159) (o := .cells #[.slice none 0 0] 56 (0, 0)) BK159.out hg (Kd.R_ne HO_3.out BK159.out (by decide))); replace HB := aA_ (hb); have HO162 := aA_ (ho); clear HO_3; clear ho hb hg hat))
     go_roundg k1
     case measure => have := HK1.out; omega
     case rel => exact ⟨(IntKind.u64.wrap (Int.tdiv x0_1 10000)), (y160), (by first | rfl | (simp; done) | (simp [*]; done)), H', ⟨by have := HK1.out; omega⟩, ⟨by (with_reducible repeat (first | apply Kd.R_alloc | apply Kd.R_drewN | apply Kd.R_drew)); exact HO162.out⟩, ⟨by exact BK159.out⟩, ⟨by repeat (with_reducible first | exact HB.out | apply bA_ | apply bN_ | apply bD_ | refine bS_ ?_ GE159.out)⟩⟩
    ·rw [if_neg c4] at H
     exact absurd H (by simp)
   ·rw [if_neg c3] at H
    have c3b0 : decide (0 < x0_1) = false := decide_eq_false c3
    clear c3
    obtain rfl := Option.some.inj H
    obtain ⟨Ao6, co6, eo6⟩ := Kd.R_slice HO_3.out
    subst eo6
    have hcz7_0 : wr.cell? ⟨gb159, 0, none⟩ = some (.slice none 0 0) := (blk_cell BK159.out 0).trans rfl
    have hfz7_0 := blk_frozen BK159.out 0
    go_wp2
    refine bodyPost_ret (results_cell_row rfl _ _ gb159 56 #[.slice Ao6 x3_1.length co6] (0, 0) _ rfl (by refine blk_put (cs := #[.slice none 0 0]) ?_ 0 _ rfl; exact BK159.out) Tryd.underlying56 rfl (by kernel_rfl)) rfl ?_
    exact ⟨_, by rfl, by (with_reducible repeat (first | apply Kd.R_alloc | apply Kd.R_drewN | apply Kd.R_drew)); exact Kd.R_mono (Kd.R_far (p := ⟨gb159, 0, none⟩) (Kd.R_types HO_3.out BK159.out (by decide)) (fun _ hk => hk.2) (.slice Ao6 x3_1.length co6)) (fun _ hk => trivial), by repeat (with_reducible first | exact HB.out | apply bA_ | apply bN_ | apply bD_ | refine bS_ ?_ GE159.out)⟩

def demurrageref01_Less.l0 : Nat → List Int → Int → Int → List Int → List Int → Option (List Int)
 | 0, _, _, _, _, _ => none
 | k + 1, x5, x6, x7, x168000, x169000 => if x7 < (x168000.length : Int) then ((demurrageref01_part.f x168000 x7).bind fun t173 => ((demurrageref01_part.f x169000 x7).bind fun t174 => (if (wrap64 ((wrap64 (t173 - t174)) - x6)) < 0 then (if x5.length < 17592186044416 then (demurrageref01_Less.l0 k (x5 ++ [wrap64 ((wrap64 ((wrap64 (t173 - t174)) - x6)) + 10000)]) 1 (wrap64 (x7 + 1)) x168000 x169000) else (none)) else (if x5.length < 17592186044416 then (demurrageref01_Less.l0 k (x5 ++ [wrap64 ((wrap64 (t173 - t174)) - x6)]) 0 (wrap64 (x7 + 1)) x168000 x169000) else (none))))) else ((demurrageref01_trim.f x5).bind fun t170 => (some t170))
def demurrageref01_Less.f (k : Nat) (l0_0 : List Int) (l1_0 : List Int) : Option (List Int) := demurrageref01_Less.l0 k ([] : List Int) 0 0 l0_0 l1_0
def demurrageref01_Less.T6 : Bool × List (List Nat × List Nat) := (true, [([], []), ([], []), ([0, 1], [0, 1]), ([], []), ([], []), ([3, 4, 2], [3, 4]), ([2, 5], [2, 5]), ([], []), ([6, 7], [6, 7]), ([8, 5, 0, 1, 2, 3, 4, 5, 6, 7, 8], [8])])
def demurrageref01_Less.B6 : List Nat := [0, 0, 3, 0, 0, 31, 63, 0, 255, 511]
theorem demurrageref01_Less.tab6 : rtab .any (opsOf Tryd.f68 6) = demurrageref01_Less.T6 := by kernel_rfl
theorem demurrageref01_Less.bits6 : waitsOk demurrageref01_Less.T6.2 demurrageref01_Less.B6 = true := by kernel_rfl
set_option maxHeartbeats 8000000 in
set_option maxRecDepth 100000 in
theorem demurrageref01_Less.calls (k : Nat) (A0_0 : Option Addr) (c0_0 : Nat) (l0_0 : List Int) (A1_0 : Option Addr) (c1_0 : Nat) (l1_0 : List Int) (r : List Int) (w : World) (hr0_0 : Kd.C (Kd.int .i64) w A0_0 l0_0.length l0_0) (hc0_0 : l0_0.length ≤ c0_0) (hr1_0 : Kd.C (Kd.int .i64) w A1_0 l1_0.length l1_0) (hc1_0 : l1_0.length ≤ c1_0) (h : demurrageref01_Less.f k l0_0 l1_0 = some r) :
  Calls Tryd.prog 68 #[.agg #[.slice A0_0 l0_0.length c0_0], .agg #[.slice A1_0 l1_0.length c1_0]] w fun e w' => ∃ v0_ : Value, e = .returned (.agg #[v0_]) ∧ Kd.R (Kd.int .i64) 3 w' w.heap.size (fun _ => True) v0_ r ∧ Below w.heap.size w w' := by
 have hu56 := Tryd.underlying56
 have HR0_0 := aA_ hr0_0
 have HC0_0 := aA_ hc0_0
 clear hr0_0 hc0_0
 have HR1_0 := aA_ hr1_0
 have HC1_0 := aA_ hc1_0
 clear hr1_0 hc1_0
 have HB := aA_ (Below.refl w.heap.size w)
 have H : (demurrageref01_Less.l0 k ([] : List Int) 0 0 l0_0 l1_0) = some r := h
 clear h
 have H' := aA_ H
 clear H
 go_enter Tryd.func68, Tryd.ntmps68
 go_wp2_with (first | (refine box_event rfl (N := 2) rfl (cs := #[.slice A0_0 l0_0.length c0_0]) (t := 56) ?hr ?_; (case hr => go_simp <;> rfl); intro gb167 hg w3 hbox hb; have BK167 := aA_ (hbox); have GW167 := gW_ hg (by repeat (with_reducible first | exact HB.out | apply bA_ | apply bN_ | apply bD_)); have GE167 := GW167; replace HB := bB_ (by repeat (with_reducible first | exact HB.out | apply bA_ | apply bN_ | apply bD_)) hb; clear hb hbox hg) | (refine box_event rfl (N := 3) rfl (cs := #[.slice A1_0 l1_0.length c1_0]) (t := 56) ?hr ?_; (case hr => go_simp <;> rfl); intro gb168 hg w4 hbox hb; have BK168 := aA_ (hbox); have GW168 := gW_ hg (by repeat (with_reducible first | exact HB.out | apply bA_ | apply bN_ | apply bD_ | refine bS_ ?_ GE167.out)); have GE168 := GW168; replace HB := bB_ (by repeat (with_reducible first | exact HB.out | apply bA_ | apply bN_ | apply bD_ | refine bS_ ?_ GE167.out)) hb; have NB167_168 := nE_ hg BK167; have NB168_167 := aA_ NB167_168.out.symm; replace BK167 := bK_ BK167 hb; clear hb hbox hg) | (refine box_event rfl (N := 4) rfl (cs := #[.slice none 0 0]) (t := 56) ?hr ?_; (case hr => go_simp <;> rfl); intro gb169 hg w5 hbox hb; have BK169 := aA_ (hbox); have GW169 := gW_ hg (by repeat (with_reducible first | exact HB.out | apply bA_ | apply bN_ | apply bD_ | refine bS_ ?_ GE167.out | refine bS_ ?_ GE168.out)); have GE169 := GW169; replace HB := bB_ (by repeat (with_reducible first | exact HB.out | apply bA_ | apply bN_ | apply bD_ | refine bS_ ?_ GE167.out | refine bS_ ?_ GE168.out)) hb; have NB167_169 := nE_ hg BK167; have NB169_167 := aA_ NB167_169.out.symm; replace BK167 := bK_ BK167 hb; have NB168_169 := nE_ hg BK168; have NB169_168 := aA_ NB168_169.out.symm; replace BK168 := bK_ BK168 hb; clear hb hbox hg))
 (try simp only [Act.put, sT_, sZ_, sS_])
 go_loopg [5, 6, 7] k (fun kq v5 v6 v7 w' => ∃ (x5_1 : List Int) (x6_1 : Int) (x7_1 : Int), v6 = .int .i64 x6_1 ∧ v7 = .int .i64 x7_1 ∧ Aside0 (demurrageref01_Less.l0 kq x5_1 x6_1 x7_1 l0_0 l1_0 = some r) ∧ Aside0 (kq ≤ k) ∧ Aside0 (Kd.R (Kd.int .i64) 3 w' w.heap.size (fun _ => True) v5 x5_1) ∧ Aside0 (w'.heap[gb167]? = some (.cells #[(.slice A0_0 l0_0.length c0_0)] 56 (0, 0))) ∧ Aside0 (w'.heap[gb168]? = some (.cells #[(.slice A1_0 l1_0.length c1_0)] 56 (0, 0))) ∧ Aside0 (w'.heap[gb169]? = some (.cells #[(.slice none 0 0)] 56 (0, 0))) ∧ Aside0 (Below w.heap.size w w'))
 case atStart => exact ⟨(([] : List Int)), (0), (0), (by first | rfl | (simp; done) | (simp [*]; done)), (by first | rfl | (simp; done) | (simp [*]; done)), H', ⟨Nat.le_refl _⟩, ⟨by first | exact Kd.R_nil _ _ _ _ _ | exact Kd.N_nil _ _ _ _ _ | exact Kd.V_nil _ _ _ _ _ | exact Kd.Q_nil _ _ _ _ _ | exact Kd.S_nil _ _ _ _ _⟩, ⟨by exact BK167.out⟩, ⟨by exact BK168.out⟩, ⟨by exact BK169.out⟩, ⟨by repeat (with_reducible first | exact HB.out | apply bA_ | apply bN_ | apply bD_ | refine bS_ ?_ GE167.out | refine bS_ ?_ GE168.out | refine bS_ ?_ GE169.out)⟩⟩
 case round =>
  clear H'
  try clear c1
  try clear p2
  obtain ⟨x5_1, x6_1, x7_1, rfl, rfl, HA, HK1, HO_5, BK167, BK168, BK169, HB⟩ := hrel
  cases gk with
  | zero => exact absurd HA.out (by simp [demurrageref01_Less.l0])
  | succ k1 =>
   have H := HA.out
   clear HA
   simp only [demurrageref01_Less.l0] at H
   by_cases c6 : x7_1 < (l0_0.length : Int)
   ·rw [if_pos c6] at H
    have c6b0 : decide (x7_1 < (l0_0.length : Int)) = true := decide_eq_true c6
    clear c6
    replace H := bI_ H
    obtain ⟨t173, A70, H⟩ := H
    (try dsimp only at H)
    have A7 := aA_ A70
    clear A70
    replace H := bI_ H
    obtain ⟨t174, A80, H⟩ := H
    (try dsimp only at H)
    have A8 := aA_ A80
    clear A80
    by_cases c9 : (wrap64 ((wrap64 (t173 - t174)) - x6_1)) < 0
    ·rw [if_pos c9] at H
     have c9b0 : decide ((wrap64 ((wrap64 (t173 - t174)) - x6_1)) < 0) = true := decide_eq_true c9
     clear c9
     by_cases c10 : x5_1.length < 17592186044416
     ·rw [if_pos c10] at H
      have LMc10 := aA_ c10
      clear c10
      obtain ⟨y175, hy175⟩ : ∃ y_ : List Int, y_ = (x5_1 ++ [wrap64 ((wrap64 ((wrap64 (t173 - t174)) - x6_1)) + 10000)]) := ⟨_, rfl⟩
      replace H : (demurrageref01_Less.l0 k1 y175 1 (wrap64 (x7_1 + 1)) l0_0 l1_0) = some r := by first | (rw [hy175]; with_reducible exact H) | (have H2_ := (Option.bind_some _ _).symm.trans H; rw [hy175]; with_reducible exact H2_) | (have H2_ := (Option.bind_some _ _).symm.trans H; with_reducible exact H2_) | with_reducible exact H | (rw [hy175]; exact H) | exact H
      have Ny175 := aA_ hy175
      clear hy175
      have H' := aA_ H
      clear H
      have hnb11 := NB167_168.out
      have hnc11 := NB168_167.out
      have hnb12 := NB167_169.out
      have hnc12 := NB169_167.out
      have hcz13_0 : wr.cell? ⟨gb167, 0, none⟩ = some (.slice A0_0 l0_0.length c0_0) := (blk_cell BK167.out 0).trans rfl
      have hfz13_0 := blk_frozen BK167.out 0
      try go_wp2
      replace HO_5 := aA_ (Kd.R_drew HO_5.out)
      replace BK167 := aA_ (blk_drew BK167.out)
      replace BK168 := aA_ (blk_drew BK168.out)
      replace BK169 := aA_ (blk_drew BK169.out)
      replace HB := aA_ (below_drew1 HB.out)
      refine start_ (n := 10) (S := fun w' => w'.cell? ⟨gb167, 0, none⟩ = some (.slice A0_0 l0_0.length c0_0) ∧ w'.cell? ⟨gb168, 0, none⟩ = some (.slice A1_0 l1_0.length c1_0)) (ds := []) (demurrageref01_Plus.ups 10 0) (by kernel_rfl) rfl rfl ⟨(blk_cell BK167.out 0).trans rfl, (blk_cell BK168.out 0).trans rfl⟩ (fun hHeld => ?_); refine with_tabW demurrageref01_Less.tab6 demurrageref01_Less.bits6 (fun HT_ HW_ => ?_)
      generalize wr.drew = w14 at HO_5 BK167 BK168 BK169 HB hHeld ⊢
      refine pure_ (i := 1) (N := some 17) (v := ?_) (a' := ?_) (demurrageref01_Plus.ups 10 2) rfl rfl (any_of HT_.out (by kernel_rfl)) (fun _ _ _ h => h) (Or.inl ⟨by rfl, ?_⟩) ?_ ?_
      rotate_left
      ·intro w'
       go_simp
       with_reducible rfl
      rotate_left
      ·simp only [Act.put, sT_, sZ_, sS_, i64_w, i32_w]
       rfl
      refine pure_ (i := 4) (N := some 20) (v := ?_) (a' := ?_) (demurrageref01_Plus.ups 10 18) rfl rfl (any_of HT_.out (by kernel_rfl)) (fun _ _ _ h => h) (Or.inl ⟨by rfl, ?_⟩) ?_ ?_
      rotate_left
      ·intro w'
       go_simp
       with_reducible rfl
      rotate_left
      ·simp only [Act.put, sT_, sZ_, sS_, i64_w, i32_w]
       rfl
      refine pure_ (i := 7) (N := some 23) (v := ?_) (a' := ?_) (demurrageref01_Plus.ups 10 146) rfl rfl (any_of HT_.out (by kernel_rfl)) (fun _ _ _ h => h) (Or.inl ⟨by rfl, ?_⟩) ?_ ?_
      rotate_left
      ·intro w'
       go_simp
       with_reducible rfl
      rotate_left
      ·simp only [Act.put, sT_, sZ_, sS_, i64_w, i32_w]
       rfl
      refine take_ (i := 0) (N := some 16) (v := ?_) (a' := ?_) (demurrageref01_Plus.ups 10 147) rfl rfl (take_ofW HT_.out HW_.out (by kernel_rfl)) (fun _ _ _ h => h) (Or.inl ⟨by rfl, ?_⟩) hHeld ?_ ?_
      rotate_left
      ·rintro w' ⟨s0, s1⟩
       go_simp
       with_reducible rfl
      rotate_left
      ·simp only [Act.put, sT_, sZ_, sS_, i64_w, i32_w]
       rfl
      refine take_ (i := 3) (N := some 19) (v := ?_) (a' := ?_) (demurrageref01_Plus.ups 10 155) rfl rfl (take_ofW HT_.out HW_.out (by kernel_rfl)) (fun _ _ _ h => h) (Or.inl ⟨by rfl, ?_⟩) hHeld ?_ ?_
      rotate_left
      ·rintro w' ⟨s0, s1⟩
       go_simp
       with_reducible rfl
      rotate_left
      ·simp only [Act.put, sT_, sZ_, sS_, i64_w, i32_w]
       rfl
      refine one_ (i := 2) (N := some 18) (demurrageref01_Plus.ups 10 159) rfl rfl (one_of HT_.out (by kernel_rfl)) (by decide) (fun K hK => ?_)
      refine goes_ Tryd.func56 (by kernel_rfl) rfl #[.agg #[.slice A0_0 l0_0.length c0_0], .int .i64 x7_1] (by rfl) rfl rfl (by (try simp only [mT_, mC_, mN_]); first | done | rfl) ?_
      with_reducible refine (demurrageref01_part.calls _ _ l0_0 x7_1 t173 _ ?side1 ?side2 A7.out).mono ?_
      (case side1 => repeat (first | exact (Kd.C_below HR0_0.out HB.out) | (with_reducible first | refine Kd.C_alloc ?_ _ | refine Kd.C_drewN ?_ _ | refine Kd.C_drew ?_)))
      (case side2 => exact HC0_0.out)
      rintro e w15 ⟨rfl, hb⟩
      refine ⟨_, rfl, ?_⟩
      replace HO_5 := aA_ (Kd.R_below HO_5.out hb)
      replace BK167 := bK_ BK167 hb
      replace BK168 := bK_ BK168 hb
      replace BK169 := bK_ BK169 hb
      replace HB := bB_ (by repeat (with_reducible first | exact HB.out | apply bA_ | apply bN_ | apply bD_ | refine bS_ ?_ GE167.out | refine bS_ ?_ GE168.out | refine bS_ ?_ GE169.out)) hb
      (try clear hb)
      (try clear hb2)
      (try clear hk)
      (try clear hi)
      refine hK.out _ _ ⟨(blk_cell BK167.out 0).trans rfl, (blk_cell BK168.out 0).trans rfl⟩ (fun hHeld => ?_)
      clear hK K
      refine norm_ (by show Act.put _ (some 18) _ = _; simp only [Act.put, sT_, sZ_, sS_, i64_w, i32_w] <;> rfl) ?_
      refine one_ (i := 5) (N := some 21) (demurrageref01_Plus.ups 10 191) rfl rfl (one_of HT_.out (by kernel_rfl)) (by decide) (fun K hK => ?_)
      refine goes_ Tryd.func56 (by kernel_rfl) rfl #[.agg #[.slice A1_0 l1_0.length c1_0], .int .i64 x7_1] (by rfl) rfl rfl (by (try simp only [mT_, mC_, mN_]); first | done | rfl) ?_
      with_reducible refine (demurrageref01_part.calls _ _ l1_0 x7_1 t174 _ ?side1 ?side2 A8.out).mono ?_
      (case side1 => repeat (first | exact (Kd.C_below HR1_0.out HB.out) | (with_reducible first | refine Kd.C_alloc ?_ _ | refine Kd.C_drewN ?_ _ | refine Kd.C_drew ?_)))
      (case side2 => exact HC1_0.out)
      rintro e w16 ⟨rfl, hb⟩
      refine ⟨_, rfl, ?_⟩
      replace HO_5 := aA_ (Kd.R_below HO_5.out hb)
      replace BK167 := bK_ BK167 hb
      replace BK168 := bK_ BK168 hb
      replace BK169 := bK_ BK169 hb
      replace HB := bB_ (by repeat (with_reducible first | exact HB.out | apply bA_ | apply bN_ | apply bD_ | refine bS_ ?_ GE167.out | refine bS_ ?_ GE168.out | refine bS_ ?_ GE169.out)) hb
      (try clear hb)
      (try clear hb2)
      (try clear hk)
      (try clear hi)
      refine hK.out _ _ ⟨(blk_cell BK167.out 0).trans rfl, (blk_cell BK168.out 0).trans rfl⟩ (fun hHeld => ?_)
      clear hK K
      refine norm_ (by show Act.put _ (some 21) _ = _; simp only [Act.put, sT_, sZ_, sS_, i64_w, i32_w] <;> rfl) ?_
      refine pure_ (i := 6) (N := some 22) (v := ?_) (a' := ?_) (demurrageref01_Plus.ups 10 255) rfl rfl (any_of HT_.out (by kernel_rfl)) (fun _ _ _ h => h) (Or.inl ⟨by rfl, ?_⟩) ?_ ?_
      rotate_left
      ·intro w'
       go_simp
       with_reducible rfl
      rotate_left
      ·simp only [Act.put, sT_, sZ_, sS_, i64_w, i32_w]
       rfl
      refine pure_ (i := 8) (N := some 24) (v := ?_) (a' := ?_) (demurrageref01_Plus.ups 10 511) rfl rfl (any_of HT_.out (by kernel_rfl)) (fun _ _ _ h => h) (Or.inl ⟨by rfl, ?_⟩) ?_ ?_
      rotate_left
      ·intro w'
       go_simp
       with_reducible rfl
      rotate_left
      ·simp only [Act.put, sT_, sZ_, sS_, i64_w, i32_w]
       rfl
      refine pure_ (i := 9) (N := some 8) (v := ?_) (a' := ?_) (demurrageref01_Plus.ups 10 1023) rfl rfl (any_of HT_.out (by kernel_rfl)) (fun _ _ _ h => h) (Or.inl ⟨by rfl, ?_⟩) ?_ ?_
      rotate_left
      ·intro w'
       go_simp
       with_reducible rfl
      rotate_left
      ·simp only [Act.put, sT_, sZ_, sS_, i64_w, i32_w]
       rfl
      refine done_ (done_of HT_.out (by kernel_rfl)) ?_
      try go_wp2_with (first | ((with_reducible refine gate_builtin (b := .append) (xs := #[.tmp 29, .tmp 31]) rfl ?_); at_builtin; refine Kd.R_append (Kd.int .i64) (w0 := w) w.heap.size rfl (.tmp 29) (.tmp 31) 54 3 (.int .i64 0) 8 rfl Tryd.underlying54 info3 rfl (by decide) (by omega) u5 x5_1 (wrap64 ((wrap64 ((wrap64 (t173 - t174)) - x6_1)) + 10000)) [.int .i64 (wrap64 ((wrap64 ((wrap64 (t173 - t174)) - x6_1)) + 10000))] (fun _ => True) (fun _ => False) rfl rfl ?aP (fun _ hk => hk.elim) ?aF ?aO ?aB ?aS ?aL ?_; (case aP => exact rfl); (case aB => exact (by repeat (with_reducible first | exact HB.out | apply bA_ | apply bN_ | apply bD_ | refine bS_ ?_ GE167.out | refine bS_ ?_ GE168.out | refine bS_ ?_ GE169.out))); (case aF => exact (fun _ _ => trivial)); (case aO => exact (by (with_reducible repeat (first | apply Kd.R_alloc | apply Kd.R_drewN | apply Kd.R_drew)); exact HO_5.out)); (case aS => exact (below_size (by repeat (with_reducible first | exact HB.out | apply bA_ | apply bN_ | apply bD_ | refine bS_ ?_ GE167.out | refine bS_ ?_ GE168.out | refine bS_ ?_ GE169.out)))); (case aL => have := LMc10.out; omega); intro v176 w17 ho hb hg hat; rw [← Ny175.out] at ho; replace BK167 := aA_ (blk_grown (g := gb167) (o := .cells #[.slice A0_0 l0_0.length c0_0] 56 (0, 0)) BK167.out hg (Kd.R_ne HO_5.out BK167.out (by decide))); replace BK168 := aA_ (blk_grown (g := gb168) (o := .cells #[.slice A1_0 l1_0.length c1_0] 56 (0, 0)) BK168.out hg (Kd.R_ne HO_5.out BK168.out (by decide))); replace BK169 := aA_ (blk_grown (g := gb169) (o := .cells #[.slice none 0 0] 56 (0, 0)) BK169.out hg (Kd.R_ne HO_5.out BK169.out (by decide))); replace HB := aA_ (hb); have HO177 := aA_ (ho); clear HO_5; clear ho hb hg hat))
      go_roundg k1
      case measure => have := HK1.out; omega
      case rel => exact ⟨(y175), (1), (wrap64 (x7_1 + 1)), (by first | rfl | (simp; done) | (simp [*]; done)), (by first | rfl | (simp; done) | (simp [*]; done)), H', ⟨by have := HK1.out; omega⟩, ⟨by (with_reducible repeat (first | apply Kd.R_alloc | apply Kd.R_drewN | apply Kd.R_drew)); exact HO177.out⟩, ⟨by exact BK167.out⟩, ⟨by exact BK168.out⟩, ⟨by exact BK169.out⟩, ⟨by repeat (with_reducible first | exact HB.out | apply bA_ | apply bN_ | apply bD_ | refine bS_ ?_ GE167.out | refine bS_ ?_ GE168.out | refine bS_ ?_ GE169.out)⟩⟩
     ·rw [if_neg c10] at H
      exact absurd H (by simp)
    ·rw [if_neg c9] at H
     have c9b0 : decide ((wrap64 ((wrap64 (t173 - t174)) - x6_1)) < 0) = false := decide_eq_false c9
     clear c9
     by_cases c18 : x5_1.length < 17592186044416
     ·rw [if_pos c18] at H
      have LMc18 := aA_ c18
      clear c18
      obtain ⟨y178, hy178⟩ : ∃ y_ : List Int, y_ = (x5_1 ++ [wrap64 ((wrap64 (t173 - t174)) - x6_1)]) := ⟨_, rfl⟩
      replace H : (demurrageref01_Less.l0 k1 y178 0 (wrap64 (x7_1 + 1)) l0_0 l1_0) = some r := by first | (rw [hy178]; with_reducible exact H) | (have H2_ := (Option.bind_some _ _).symm.trans H; rw [hy178]; with_reducible exact H2_) | (have H2_ := (Option.bind_some _ _).symm.trans H; with_reducible exact H2_) | with_reducible exact H | (rw [hy178]; exact H) | exact H
      have Ny178 := aA_ hy178
      clear hy178
      have H' := aA_ H
      clear H
      have hnb19 := NB167_168.out
      have hnc19 := NB168_167.out
      have hnb20 := NB167_169.out
      have hnc20 := NB169_167.out
      have hcz21_0 : wr.cell? ⟨gb167, 0, none⟩ = some (.slice A0_0 l0_0.length c0_0) := (blk_cell BK167.out 0).trans rfl
      have hfz21_0 := blk_frozen BK167.out 0
      try go_wp2
      replace HO_5 := aA_ (Kd.R_drew HO_5.out)
      replace BK167 := aA_ (blk_drew BK167.out)
      replace BK168 := aA_ (blk_drew BK168.out)
      replace BK169 := aA_ (blk_drew BK169.out)
      replace HB := aA_ (below_drew1 HB.out)
      refine start_ (n := 10) (S := fun w' => w'.cell? ⟨gb167, 0, none⟩ = some (.slice A0_0 l0_0.length c0_0) ∧ w'.cell? ⟨gb168, 0, none⟩ = some (.slice A1_0 l1_0.length c1_0)) (ds := []) (demurrageref01_Plus.ups 10 0) (by kernel_rfl) rfl rfl ⟨(blk_cell BK167.out 0).trans rfl, (blk_cell BK168.out 0).trans rfl⟩ (fun hHeld => ?_); refine with_tabW demurrageref01_Less.tab6 demurrageref01_Less.bits6 (fun HT_ HW_ => ?_)
      generalize wr.drew = w22 at HO_5 BK167 BK168 BK169 HB hHeld ⊢
      refine pure_ (i := 1) (N := some 17) (v := ?_) (a' := ?_) (demurrageref01_Plus.ups 10 2) rfl rfl (any_of HT_.out (by kernel_rfl)) (fun _ _ _ h => h) (Or.inl ⟨by rfl, ?_⟩) ?_ ?_
      rotate_left
      ·intro w'
       go_simp
       with_reducible rfl
      rotate_left
      ·simp only [Act.put, sT_, sZ_, sS_, i64_w, i32_w]
       rfl
      refine pure_ (i := 4) (N := some 20) (v := ?_) (a' := ?_) (demurrageref01_Plus.ups 10 18) rfl rfl (any_of HT_.out (by kernel_rfl)) (fun _ _ _ h => h) (Or.inl ⟨by rfl, ?_⟩) ?_ ?_
      rotate_left
      ·intro w'
       go_simp
       with_reducible rfl
      rotate_left
      ·simp only [Act.put, sT_, sZ_, sS_, i64_w, i32_w]
       rfl
      refine pure_ (i := 7) (N := some 23) (v := ?_) (a' := ?_) (demurrageref01_Plus.ups 10 146) rfl rfl (any_of HT_.out (by kernel_rfl)) (fun _ _ _ h => h) (Or.inl ⟨by rfl, ?_⟩) ?_ ?_
      rotate_left
      ·intro w'
       go_simp
       with_reducible rfl
      rotate_left
      ·simp only [Act.put, sT_, sZ_, sS_, i64_w, i32_w]
       rfl
      refine take_ (i := 0) (N := some 16) (v := ?_) (a' := ?_) (demurrageref01_Plus.ups 10 147) rfl rfl (take_ofW HT_.out HW_.out (by kernel_rfl)) (fun _ _ _ h => h) (Or.inl ⟨by rfl, ?_⟩) hHeld ?_ ?_
      rotate_left
      ·rintro w' ⟨s0, s1⟩
       go_simp
       with_reducible rfl
      rotate_left
      ·simp only [Act.put, sT_, sZ_, sS_, i64_w, i32_w]
       rfl
      refine take_ (i := 3) (N := some 19) (v := ?_) (a' := ?_) (demurrageref01_Plus.ups 10 155) rfl rfl (take_ofW HT_.out HW_.out (by kernel_rfl)) (fun _ _ _ h => h) (Or.inl ⟨by rfl, ?_⟩) hHeld ?_ ?_
      rotate_left
      ·rintro w' ⟨s0, s1⟩
       go_simp
       with_reducible rfl
      rotate_left
      ·simp only [Act.put, sT_, sZ_, sS_, i64_w, i32_w]
       rfl
      refine one_ (i := 2) (N := some 18) (demurrageref01_Plus.ups 10 159) rfl rfl (one_of HT_.out (by kernel_rfl)) (by decide) (fun K hK => ?_)
      refine goes_ Tryd.func56 (by kernel_rfl) rfl #[.agg #[.slice A0_0 l0_0.length c0_0], .int .i64 x7_1] (by rfl) rfl rfl (by (try simp only [mT_, mC_, mN_]); first | done | rfl) ?_
      with_reducible refine (demurrageref01_part.calls _ _ l0_0 x7_1 t173 _ ?side1 ?side2 A7.out).mono ?_
      (case side1 => repeat (first | exact (Kd.C_below HR0_0.out HB.out) | (with_reducible first | refine Kd.C_alloc ?_ _ | refine Kd.C_drewN ?_ _ | refine Kd.C_drew ?_)))
      (case side2 => exact HC0_0.out)
      rintro e w23 ⟨rfl, hb⟩
      refine ⟨_, rfl, ?_⟩
      replace HO_5 := aA_ (Kd.R_below HO_5.out hb)
      replace BK167 := bK_ BK167 hb
      replace BK168 := bK_ BK168 hb
      replace BK169 := bK_ BK169 hb
      replace HB := bB_ (by repeat (with_reducible first | exact HB.out | apply bA_ | apply bN_ | apply bD_ | refine bS_ ?_ GE167.out | refine bS_ ?_ GE168.out | refine bS_ ?_ GE169.out)) hb
      (try clear hb)
      (try clear hb2)
      (try clear hk)
      (try clear hi)
      refine hK.out _ _ ⟨(blk_cell BK167.out 0).trans rfl, (blk_cell BK168.out 0).trans rfl⟩ (fun hHeld => ?_)
      clear hK K
      refine norm_ (by show Act.put _ (some 18) _ = _; simp only [Act.put, sT_, sZ_, sS_, i64_w, i32_w] <;> rfl) ?_
      refine one_ (i := 5) (N := some 21) (demurrageref01_Plus.ups 10 191) rfl rfl (one_of HT_.out (by kernel_rfl)) (by decide) (fun K hK => ?_)
      refine goes_ Tryd.func56 (by kernel_rfl) rfl #[.agg #[.slice A1_0 l1_0.length c1_0], .int .i64 x7_1] (by rfl) rfl rfl (by (try simp only [mT_, mC_, mN_]); first | done | rfl) ?_
      with_reducible refine (demurrageref01_part.calls _ _ l1_0 x7_1 t174 _ ?side1 ?side2 A8.out).mono ?_
      (case side1 => repeat (first | exact (Kd.C_below HR1_0.out HB.out) | (with_reducible first | refine Kd.C_alloc ?_ _ | refine Kd.C_drewN ?_ _ | refine Kd.C_drew ?_)))
      (case side2 => exact HC1_0.out)
      rintro e w24 ⟨rfl, hb⟩
      refine ⟨_, rfl, ?_⟩
      replace HO_5 := aA_ (Kd.R_below HO_5.out hb)
      replace BK167 := bK_ BK167 hb
      replace BK168 := bK_ BK168 hb
      replace BK169 := bK_ BK169 hb
      replace HB := bB_ (by repeat (with_reducible first | exact HB.out | apply bA_ | apply bN_ | apply bD_ | refine bS_ ?_ GE167.out | refine bS_ ?_ GE168.out | refine bS_ ?_ GE169.out)) hb
      (try clear hb)
      (try clear hb2)
      (try clear hk)
      (try clear hi)
      refine hK.out _ _ ⟨(blk_cell BK167.out 0).trans rfl, (blk_cell BK168.out 0).trans rfl⟩ (fun hHeld => ?_)
      clear hK K
      refine norm_ (by show Act.put _ (some 21) _ = _; simp only [Act.put, sT_, sZ_, sS_, i64_w, i32_w] <;> rfl) ?_
      refine pure_ (i := 6) (N := some 22) (v := ?_) (a' := ?_) (demurrageref01_Plus.ups 10 255) rfl rfl (any_of HT_.out (by kernel_rfl)) (fun _ _ _ h => h) (Or.inl ⟨by rfl, ?_⟩) ?_ ?_
      rotate_left
      ·intro w'
       go_simp
       with_reducible rfl
      rotate_left
      ·simp only [Act.put, sT_, sZ_, sS_, i64_w, i32_w]
       rfl
      refine pure_ (i := 8) (N := some 24) (v := ?_) (a' := ?_) (demurrageref01_Plus.ups 10 511) rfl rfl (any_of HT_.out (by kernel_rfl)) (fun _ _ _ h => h) (Or.inl ⟨by rfl, ?_⟩) ?_ ?_
      rotate_left
      ·intro w'
       go_simp
       with_reducible rfl
      rotate_left
      ·simp only [Act.put, sT_, sZ_, sS_, i64_w, i32_w]
       rfl
      refine pure_ (i := 9) (N := some 8) (v := ?_) (a' := ?_) (demurrageref01_Plus.ups 10 1023) rfl rfl (any_of HT_.out (by kernel_rfl)) (fun _ _ _ h => h) (Or.inl ⟨by rfl, ?_⟩) ?_ ?_
      rotate_left
      ·intro w'
       go_simp
       with_reducible rfl
      rotate_left
      ·simp only [Act.put, sT_, sZ_, sS_, i64_w, i32_w]
       rfl
      refine done_ (done_of HT_.out (by kernel_rfl)) ?_
      try go_wp2_with (first | ((with_reducible refine gate_builtin (b := .append) (xs := #[.tmp 29, .tmp 31]) rfl ?_); at_builtin; refine Kd.R_append (Kd.int .i64) (w0 := w) w.heap.size rfl (.tmp 29) (.tmp 31) 54 3 (.int .i64 0) 8 rfl Tryd.underlying54 info3 rfl (by decide) (by omega) u5 x5_1 (wrap64 ((wrap64 (t173 - t174)) - x6_1)) [.int .i64 (wrap64 ((wrap64 (t173 - t174)) - x6_1))] (fun _ => True) (fun _ => False) rfl rfl ?aP (fun _ hk => hk.elim) ?aF ?aO ?aB ?aS ?aL ?_; (case aP => exact rfl); (case aB => exact (by repeat (with_reducible first | exact HB.out | apply bA_ | apply bN_ | apply bD_ | refine bS_ ?_ GE167.out | refine bS_ ?_ GE168.out | refine bS_ ?_ GE169.out))); (case aF => exact (fun _ _ => trivial)); (case aO => exact (by (with_reducible repeat (first | apply Kd.R_alloc | apply Kd.R_drewN | apply Kd.R_drew)); exact HO_5.out)); (case aS => exact (below_size (by repeat (with_reducible first | exact HB.out | apply bA_ | apply bN_ | apply bD_ | refine bS_ ?_ GE167.out | refine bS_ ?_ GE168.out | refine bS_ ?_ GE169.out)))); (case aL => have := LMc18.out; omega); intro v179 w25 ho hb hg hat; rw [← Ny178.out] at ho; replace BK167 := aA_ (blk_grown (g := gb167) (o := .cells #[.slice A0_0 l0_0.length c0_0] 56 (0, 0)) BK167.out hg (Kd.R_ne HO_5.out BK167.out (by decide))); replace BK168 := aA_ (blk_grown (g := gb168) (o := .cells #[.slice A1_0 l1_0.length c1_0] 56 (0, 0)) BK168.out hg (Kd.R_ne HO_5.out BK168.out (by decide))); replace BK169 := aA_ (blk_grown (g := gb169) (o := .cells #[.slice none 0 0] 56 (0, 0)) BK169.out hg (Kd.R_ne HO_5.out BK169.out (by decide))); replace HB := aA_ (hb); have HO180 := aA_ (ho); clear HO_5; clear ho hb hg hat))
      go_roundg k1
      case measure => have := HK1.out; omega
      case rel => exact ⟨(y178), (0), (wrap64 (x7_1 + 1)), (by first | rfl | (simp; done) | (simp [*]; done)), (by first | rfl | (simp; done) | (simp [*]; done)), H', ⟨by have := HK1.out; omega⟩, ⟨by (with_reducible repeat (first | apply Kd.R_alloc | apply Kd.R_drewN | apply Kd.R_drew)); exact HO180.out⟩, ⟨by exact BK167.out⟩, ⟨by exact BK168.out⟩, ⟨by exact BK169.out⟩, ⟨by repeat (with_reducible first | exact HB.out | apply bA_ | apply bN_ | apply bD_ | refine bS_ ?_ GE167.out | refine bS_ ?_ GE168.out | refine bS_ ?_ GE169.out)⟩⟩
     ·rw [if_neg c18] at H
      exact absurd H (by simp)
   ·rw [if_neg c6] at H
    have c6b0 : decide (x7_1 < (l0_0.length : Int)) = false := decide_eq_false c6
    clear c6
    replace H := bI_ H
    obtain ⟨t170, A260, H⟩ := H
    (try dsimp only at H)
    have A26 := aA_ A260
    clear A260
    obtain rfl := Option.some.inj H
    have hnb27 := NB167_168.out
    have hnc27 := NB168_167.out
    have hnb28 := NB167_169.out
    have hnc28 := NB169_167.out
    have hcz29_0 : wr.cell? ⟨gb167, 0, none⟩ = some (.slice A0_0 l0_0.length c0_0) := (blk_cell BK167.out 0).trans rfl
    have hfz29_0 := blk_frozen BK167.out 0
    obtain ⟨Ao30, co30, eo30⟩ := Kd.R_slice HO_5.out
    subst eo30
    go_wp2_with (first | (refine goesL_ (some 34) rfl rfl Tryd.func57 (by kernel_rfl) rfl #[.slice Ao30 x5_1.length co30] rfl (by (try simp only [mT_, mC_, mN_]); first | done | rfl) ?_; (with_reducible refine (demurrageref01_trim.calls _ _ x5_1 t170 _ ?side1 ?side2 A26.out).mono ?_); (case side1 => repeat (first | exact (Kd.R_reads' HO_5.out).2.2 | (with_reducible first | refine Kd.C_alloc ?_ _ | refine Kd.C_drewN ?_ _ | refine Kd.C_drew ?_))); (case side2 => exact (Kd.R_reads' HO_5.out).2.1); rintro e w31 ⟨v171, rfl, ho0, hb⟩; refine ⟨_, rfl, ?_⟩; have HO172 := aA_ (Kd.R_lower (Kd.R_new' ho0 (Kd.R_lt HO_5.out)) (below_size (by repeat (with_reducible first | exact HB.out | apply bA_ | apply bN_ | apply bD_ | refine bS_ ?_ GE167.out | refine bS_ ?_ GE168.out | refine bS_ ?_ GE169.out)))); replace HO_5 := aA_ (Kd.R_elder' HO_5.out (Kd.R_base ho0) hb); replace BK167 := bK_ BK167 hb; replace BK168 := bK_ BK168 hb; replace BK169 := bK_ BK169 hb; replace HB := bB_ (by repeat (with_reducible first | exact HB.out | apply bA_ | apply bN_ | apply bD_ | refine bS_ ?_ GE167.out | refine bS_ ?_ GE168.out | refine bS_ ?_ GE169.out)) hb; (try clear hb); (try clear ho0); obtain ⟨Ao32, co32, eo32⟩ := Kd.R_slice HO172.out; subst eo32; have hnb33 := NB169_168.out; have hnc33 := NB168_169.out; have hcz34_0 : w31.cell? ⟨gb169, 0, none⟩ = some (.slice none 0 0) := (blk_cell BK169.out 0).trans rfl; have hfz34_0 := blk_frozen BK169.out 0))
    refine bodyPost_ret (results_cell_row rfl _ _ gb169 56 #[.slice Ao32 t170.length co32] (0, 0) _ rfl (by refine blk_put (cs := #[.slice none 0 0]) ?_ 0 _ rfl; exact BK169.out) Tryd.underlying56 rfl (by kernel_rfl)) rfl ?_
    exact ⟨_, by rfl, by (with_reducible repeat (first | apply Kd.R_alloc | apply Kd.R_drewN | apply Kd.R_drew)); exact Kd.R_mono (Kd.R_far (p := ⟨gb169, 0, none⟩) (Kd.R_types HO172.out BK169.out (by decide)) (fun _ hk => hk.2) (.slice Ao32 t170.length co32)) (fun _ hk => trivial), by repeat (with_reducible first | exact HB.out | apply bA_ | apply bN_ | apply bD_ | refine bS_ ?_ GE167.out | refine bS_ ?_ GE168.out | refine bS_ ?_ GE169.out)⟩

mutual
def demurrageref01_Plus.l0 : Nat → List Int → Int → Int → List Int → List Int → Option (List Int)
 | 0, _, _, _, _, _ => none
 | k + 1, x5, x6, x7, x295000, x296000 => if x7 < (x295000.length : Int) then (demurrageref01_Plus.j1 k x5 x6 x7 true x295000 x296000) else (if x7 < (x296000.length : Int) then (demurrageref01_Plus.j1 k x5 x6 x7 true x295000 x296000) else (demurrageref01_Plus.j1 k x5 x6 x7 (decide (x6 > 0)) x295000 x296000))
def demurrageref01_Plus.j1 : Nat → List Int → Int → Int → Bool → List Int → List Int → Option (List Int)
 | 0, _, _, _, _, _, _ => none
 | k + 1, x5, x6, x7, x24, x295000, x296000 => if x24 = true then ((demurrageref01_part.f x295000 x7).bind fun t297 => ((demurrageref01_part.f x296000 x7).bind fun t298 => (if x5.length < 17592186044416 then (demurrageref01_Plus.l0 k (x5 ++ [Int.tmod (wrap64 ((wrap64 (t297 + t298)) + x6)) 10000]) (wrap64 (Int.tdiv (wrap64 ((wrap64 (t297 + t298)) + x6)) 10000)) (wrap64 (x7 + 1)) x295000 x296000) else (none)))) else (some x5)
end
def demurrageref01_Plus.f (k : Nat) (l0_0 : List Int) (l1_0 : List Int) : Option (List Int) := demurrageref01_Plus.l0 k ([] : List Int) 0 0 l0_0 l1_0
def demurrageref01_Plus.T6 : Bool × List (List Nat × List Nat) := (true, [([], []), ([], []), ([0, 1], [0, 1]), ([], []), ([], []), ([3, 4, 2], [3, 4]), ([2, 5], [2, 5]), ([], []), ([6, 7], [6, 7]), ([8, 5, 0, 1, 2, 3, 4, 5, 6, 7, 8], [8])])
def demurrageref01_Plus.B6 : List Nat := [0, 0, 3, 0, 0, 31, 63, 0, 255, 511]
theorem demurrageref01_Plus.tab6 : rtab .any (opsOf Tryd.f34 6) = demurrageref01_Plus.T6 := by kernel_rfl
theorem demurrageref01_Plus.bits6 : waitsOk demurrageref01_Plus.T6.2 demurrageref01_Plus.B6 = true := by kernel_rfl
set_option maxHeartbeats 8000000 in
set_option maxRecDepth 100000 in
theorem demurrageref01_Plus.calls (k : Nat) (A0_0 : Option Addr) (c0_0 : Nat) (l0_0 : List Int) (A1_0 : Option Addr) (c1_0 : Nat) (l1_0 : List Int) (r : List Int) (w : World) (hr0_0 : Kd.C (Kd.int .i64) w A0_0 l0_0.length l0_0) (hc0_0 : l0_0.length ≤ c0_0) (hr1_0 : Kd.C (Kd.int .i64) w A1_0 l1_0.length l1_0) (hc1_0 : l1_0.length ≤ c1_0) (h : demurrageref01_Plus.f k l0_0 l1_0 = some r) :
  Calls Tryd.prog 34 #[.agg #[.slice A0_0 l0_0.length c0_0], .agg #[.slice A1_0 l1_0.length c1_0]] w fun e w' => ∃ v0_ : Value, e = .returned (.agg #[v0_]) ∧ Kd.R (Kd.int .i64) 3 w' w.heap.size (fun _ => True) v0_ r ∧ Below w.heap.size w w' := by
 have hu56 := Tryd.underlying56
 have HR0_0 := aA_ hr0_0
 have HC0_0 := aA_ hc0_0
 clear hr0_0 hc0_0
 have HR1_0 := aA_ hr1_0
 have HC1_0 := aA_ hc1_0
 clear hr1_0 hc1_0
 have HB := aA_ (Below.refl w.heap.size w)
 have H : (demurrageref01_Plus.l0 k ([] : List Int) 0 0 l0_0 l1_0) = some r := h
 clear h
 have H' := aA_ H
 clear H
 go_enter Tryd.func34, Tryd.ntmps34
 go_wp2_with (first | ((with_reducible refine gate_dst (N := 2) rfl ?_); (try (refine gate_guard (by rfl) ?_; dsimp only)); refine box_event rfl (N := 2) rfl (cs := #[.slice A0_0 l0_0.length c0_0]) (t := 56) ?hr ?_; (case hr => go_simp <;> rfl); intro gb294 hg w3 hbox hb; have BK294 := aA_ (hbox); have GW294 := gW_ hg (by repeat (with_reducible first | exact HB.out | apply bA_ | apply bN_ | apply bD_)); have GE294 := GW294; replace HB := bB_ (by repeat (with_reducible first | exact HB.out | apply bA_ | apply bN_ | apply bD_)) hb; clear hb hbox hg) | ((with_reducible refine gate_dst (N := 3) rfl ?_); (try (refine gate_guard (by rfl) ?_; dsimp only)); refine box_event rfl (N := 3) rfl (cs := #[.slice A1_0 l1_0.length c1_0]) (t := 56) ?hr ?_; (case hr => go_simp <;> rfl); intro gb295 hg w4 hbox hb; have BK295 := aA_ (hbox); have GW295 := gW_ hg (by repeat (with_reducible first | exact HB.out | apply bA_ | apply bN_ | apply bD_ | refine bS_ ?_ GE294.out)); have GE295 := GW295; replace HB := bB_ (by repeat (with_reducible first | exact HB.out | apply bA_ | apply bN_ | apply bD_ | refine bS_ ?_ GE294.out)) hb; have NB294_295 := nE_ hg BK294; have NB295_294 := aA_ NB294_295.out.symm; replace BK294 := bK_ BK294 hb; clear hb hbox hg) | ((with_reducible refine gate_dst (N := 4) rfl ?_); (try (refine gate_guard (by rfl) ?_; dsimp only)); refine box_event rfl (N := 4) rfl (cs := #[.slice none 0 0]) (t := 56) ?hr ?_; (case hr => go_simp <;> rfl); intro gb296 hg w5 hbox hb; have BK296 := aA_ (hbox); have GW296 := gW_ hg (by repeat (with_reducible first | exact HB.out | apply bA_ | apply bN_ | apply bD_ | refine bS_ ?_ GE294.out | refine bS_ ?_ GE295.out)); have GE296 := GW296; replace HB := bB_ (by repeat (with_reducible first | exact HB.out | apply bA_ | apply bN_ | apply bD_ | refine bS_ ?_ GE294.out | refine bS_ ?_ GE295.out)) hb; have NB294_296 := nE_ hg BK294; have NB296_294 := aA_ NB294_296.out.symm; replace BK294 := bK_ BK294 hb; have NB295_296 := nE_ hg BK295; have NB296_295 := aA_ NB295_296.out.symm; replace BK295 := bK_ BK295 hb; clear hb hbox hg))
 (try simp only [Act.put, sT_, sZ_, sS_])
 go_loopg [5, 6, 7] k (fun kq v5 v6 v7 w' => ∃ (x5_1 : List Int) (x6_1 : Int) (x7_1 : Int), v6 = .int .i64 x6_1 ∧ v7 = .int .i64 x7_1 ∧ Aside0 (demurrageref01_Plus.l0 kq x5_1 x6_1 x7_1 l0_0 l1_0 = some r) ∧ Aside0 (kq ≤ k) ∧ Aside0 (Kd.R (Kd.int .i64) 3 w' w.heap.size (fun _ => True) v5 x5_1) ∧ Aside0 (w'.heap[gb294]? = some (.cells #[(.slice A0_0 l0_0.length c0_0)] 56 (0, 0))) ∧ Aside0 (w'.heap[gb295]? = some (.cells #[(.slice A1_0 l1_0.length c1_0)] 56 (0, 0))) ∧ Aside0 (w'.heap[gb296]? = some (.cells #[(.slice none 0 0)] 56 (0, 0))) ∧ Aside0 (Below w.heap.size w w'))
 case atStart => exact ⟨(([] : List Int)), (0), (0), (by first | rfl | (simp; done) | (simp [*]; done)), (by first | rfl | (simp; done) | (simp [*]; done)), H', ⟨Nat.le_refl _⟩, ⟨by first | exact Kd.R_nil _ _ _ _ _ | exact Kd.N_nil _ _ _ _ _ | exact Kd.V_nil _ _ _ _ _ | exact Kd.Q_nil _ _ _ _ _ | exact Kd.S_nil _ _ _ _ _⟩, ⟨by exact BK294.out⟩, ⟨by exact BK295.out⟩, ⟨by exact BK296.out⟩, ⟨by repeat (with_reducible first | exact HB.out | apply bA_ | apply bN_ | apply bD_ | refine bS_ ?_ GE294.out | refine bS_ ?_ GE295.out | refine bS_ ?_ GE296.out)⟩⟩
 case round =>
  clear H'
  try clear c1
  try clear p2
  try clear c3
  obtain ⟨x5_1, x6_1, x7_1, rfl, rfl, HA, HK1, HO_5, BK294, BK295, BK296, HB⟩ := hrel
  cases gk with
  | zero => exact absurd HA.out (by simp [demurrageref01_Plus.l0])
  | succ k1 =>
   have H := HA.out
   clear HA
   simp only [demurrageref01_Plus.l0] at H
   have HC6 := aA_ H
   clear H
   go_upto_region 4 with (fail)
   go_cut [24] (fun v24 wc => ∃ (kq : Nat) (x24_5 : Bool), v24 = .bool x24_5 ∧ Aside0 (demurrageref01_Plus.j1 kq x5_1 x6_1 x7_1 x24_5 l0_0 l1_0 = some r) ∧ Aside0 (kq ≤ k1) ∧ Aside0 (Kd.R (Kd.int .i64) 3 wc w.heap.size (fun _ => True) u5 x5_1) ∧ Aside0 (wc.heap[gb294]? = some (.cells #[(.slice A0_0 l0_0.length c0_0)] 56 (0, 0))) ∧ Aside0 (wc.heap[gb295]? = some (.cells #[(.slice A1_0 l1_0.length c1_0)] 56 (0, 0))) ∧ Aside0 (wc.heap[gb296]? = some (.cells #[(.slice none 0 0)] 56 (0, 0))) ∧ Aside0 (Below w.heap.size w wc))
   case first =>
    have H := HC6.out
    clear HC6
    by_cases c7 : x7_1 < (l0_0.length : Int)
    ·rw [if_pos c7] at H
     have c7b0 : decide (x7_1 < (l0_0.length : Int)) = true := decide_eq_true c7
     clear c7
     (first | rw [c7b0] | (simp only [i64_w, i32_w]; rw [c7b0]) | rw [c7b1] | skip)
     have H' := aA_ H
     clear H
     have hnb8 := NB294_295.out
     have hnc8 := NB295_294.out
     have hnb9 := NB294_296.out
     have hnc9 := NB296_294.out
     have hcz10_0 : wr.cell? ⟨gb294, 0, none⟩ = some (.slice A0_0 l0_0.length c0_0) := (blk_cell BK294.out 0).trans rfl
     have hfz10_0 := blk_frozen BK294.out 0
     go_wp2
     go_meet
     case rel => exact ⟨_, _, (by first | rfl | (simp; done) | (simp [*]; done)), H', ⟨by have := HK1.out; first | omega | exact Nat.le_refl _⟩, ⟨by (with_reducible repeat (first | apply Kd.R_alloc | apply Kd.R_drewN | apply Kd.R_drew)); exact HO_5.out⟩, ⟨by exact BK294.out⟩, ⟨by exact BK295.out⟩, ⟨by exact BK296.out⟩, ⟨by repeat (with_reducible first | exact HB.out | apply bA_ | apply bN_ | apply bD_ | refine bS_ ?_ GE294.out | refine bS_ ?_ GE295.out | refine bS_ ?_ GE296.out)⟩⟩
    ·rw [if_neg c7] at H
     have c7b0 : decide (x7_1 < (l0_0.length : Int)) = false := decide_eq_false c7
     clear c7
     (first | rw [c7b0] | (simp only [i64_w, i32_w]; rw [c7b0]) | rw [c7b1] | skip)
     by_cases c11 : x7_1 < (l1_0.length : Int)
     ·rw [if_pos c11] at H
      have c11b0 : decide (x7_1 < (l1_0.length : Int)) = true := decide_eq_true c11
      clear c11
      have H' := aA_ H
      clear H
      have hnb12 := NB294_295.out
      have hnc12 := NB295_294.out
      have hnb13 := NB294_296.out
      have hnc13 := NB296_294.out
      have hcz14_0 : wr.cell? ⟨gb294, 0, none⟩ = some (.slice A0_0 l0_0.length c0_0) := (blk_cell BK294.out 0).trans rfl
      have hfz14_0 := blk_frozen BK294.out 0
      have hnb15 := NB295_296.out
      have hnc15 := NB296_295.out
      have hcz16_0 : wr.cell? ⟨gb295, 0, none⟩ = some (.slice A1_0 l1_0.length c1_0) := (blk_cell BK295.out 0).trans rfl
      have hfz16_0 := blk_frozen BK295.out 0
      go_wp2
      go_meet
      case rel => exact ⟨_, _, (by first | rfl | (simp; done) | (simp [*]; done)), H', ⟨by have := HK1.out; first | omega | exact Nat.le_refl _⟩, ⟨by (with_reducible repeat (first | apply Kd.R_alloc | apply Kd.R_drewN | apply Kd.R_drew)); exact HO_5.out⟩, ⟨by exact BK294.out⟩, ⟨by exact BK295.out⟩, ⟨by exact BK296.out⟩, ⟨by repeat (with_reducible first | exact HB.out | apply bA_ | apply bN_ | apply bD_ | refine bS_ ?_ GE294.out | refine bS_ ?_ GE295.out | refine bS_ ?_ GE296.out)⟩⟩
     ·rw [if_neg c11] at H
      have c11b0 : decide (x7_1 < (l1_0.length : Int)) = false := decide_eq_false c11
      clear c11
      have H' := aA_ H
      clear H
      have hnb17 := NB294_295.out
      have hnc17 := NB295_294.out
      have hnb18 := NB294_296.out
      have hnc18 := NB296_294.out
      have hcz19_0 : wr.cell? ⟨gb294, 0, none⟩ = some (.slice A0_0 l0_0.length c0_0) := (blk_cell BK294.out 0).trans rfl
      have hfz19_0 := blk_frozen BK294.out 0
      have hnb20 := NB295_296.out
      have hnc20 := NB296_295.out
      have hcz21_0 : wr.cell? ⟨gb295, 0, none⟩ = some (.slice A1_0 l1_0.length c1_0) := (blk_cell BK295.out 0).trans rfl
      have hfz21_0 := blk_frozen BK295.out 0
      go_wp2
      go_meet
      case rel => exact ⟨_, (decide (x6_1 > 0)), (by first | rfl | (simp; done) | (simp [*]; done)), H', ⟨by have := HK1.out; first | omega | exact Nat.le_refl _⟩, ⟨by (with_reducible repeat (first | apply Kd.R_alloc | apply Kd.R_drewN | apply Kd.R_drew)); exact HO_5.out⟩, ⟨by exact BK294.out⟩, ⟨by exact BK295.out⟩, ⟨by exact BK296.out⟩, ⟨by repeat (with_reducible first | exact HB.out | apply bA_ | apply bN_ | apply bD_ | refine bS_ ?_ GE294.out | refine bS_ ?_ GE295.out | refine bS_ ?_ GE296.out)⟩⟩
   case rest =>
    clear HC6
    try clear c1
    try clear c2
    try clear p2
    try clear c3
    try clear c7
    try clear c7b0
    try clear c7b1
    try clear c8
    try clear c9
    try clear c11
    try clear c11b0
    try clear c12
    try clear c13
    try clear c15
    try clear c17
    try clear c18
    try clear c20
    try clear hcz10_0
    try clear hcz14_0
    try clear hcz16_0
    try clear hcz19_0
    try clear hcz21_0
    try clear hfz10_0
    try clear hfz14_0
    try clear hfz16_0
    try clear hfz19_0
    try clear hfz21_0
    try clear p2
    obtain ⟨kq, x24_5, rfl, HA, HJ5, HO_5, BK294, BK295, BK296, HB⟩ := hcut
    cases kq with
    | zero => exact absurd HA.out (by simp [demurrageref01_Plus.j1])
    | succ kj5 =>
     have H := HA.out
     clear HA
     simp only [demurrageref01_Plus.j1] at H
     by_cases c22 : x24_5 = true
     ·subst c22
      rw [if_pos rfl] at H
      replace H := bI_ H
      obtain ⟨t297, A230, H⟩ := H
      (try dsimp only at H)
      have A23 := aA_ A230
      clear A230
      replace H := bI_ H
      obtain ⟨t298, A240, H⟩ := H
      (try dsimp only at H)
      have A24 := aA_ A240
      clear A240
      by_cases c25 : x5_1.length < 17592186044416
      ·rw [if_pos c25] at H
       have LMc25 := aA_ c25
       clear c25
       obtain ⟨y299, hy299⟩ : ∃ y_ : List Int, y_ = (x5_1 ++ [Int.tmod (wrap64 ((wrap64 (t297 + t298)) + x6_1)) 10000]) := ⟨_, rfl⟩
       replace H : (demurrageref01_Plus.l0 kj5 y299 (wrap64 (Int.tdiv (wrap64 ((wrap64 (t297 + t298)) + x6_1)) 10000)) (wrap64 (x7_1 + 1)) l0_0 l1_0) = some r := by first | (rw [hy299]; with_reducible exact H) | (have H2_ := (Option.bind_some _ _).symm.trans H; rw [hy299]; with_reducible exact H2_) | (have H2_ := (Option.bind_some _ _).symm.trans H; with_reducible exact H2_) | with_reducible exact H | (rw [hy299]; exact H) | exact H
       have Ny299 := aA_ hy299
       clear hy299
       have H' := aA_ H
       clear H
       try go_wp2
       replace HO_5 := aA_ (Kd.R_drew HO_5.out)
       replace BK294 := aA_ (blk_drew BK294.out)
       replace BK295 := aA_ (blk_drew BK295.out)
       replace BK296 := aA_ (blk_drew BK296.out)
       replace HB := aA_ (below_drew1 HB.out)
       refine start_ (n := 10) (S := fun w' => w'.cell? ⟨gb294, 0, none⟩ = some (.slice A0_0 l0_0.length c0_0) ∧ w'.cell? ⟨gb295, 0, none⟩ = some (.slice A1_0 l1_0.length c1_0)) (ds := []) (demurrageref01_Plus.ups 10 0) (by kernel_rfl) rfl rfl ⟨(blk_cell BK294.out 0).trans rfl, (blk_cell BK295.out 0).trans rfl⟩ (fun hHeld => ?_); refine with_tabW demurrageref01_Plus.tab6 demurrageref01_Plus.bits6 (fun HT_ HW_ => ?_)
       generalize wc.drew = w26 at HO_5 BK294 BK295 BK296 HB hHeld ⊢
       refine pure_ (i := 1) (N := some 28) (v := ?_) (a' := ?_) (demurrageref01_Plus.ups 10 2) rfl rfl (any_of HT_.out (by kernel_rfl)) (fun _ _ _ h => h) (Or.inl ⟨by rfl, ?_⟩) ?_ ?_
       rotate_left
       ·intro w'
        go_simp
        with_reducible rfl
       rotate_left
       ·simp only [Act.put, sT_, sZ_, sS_, i64_w, i32_w]
        rfl
       refine pure_ (i := 4) (N := some 31) (v := ?_) (a' := ?_) (demurrageref01_Plus.ups 10 18) rfl rfl (any_of HT_.out (by kernel_rfl)) (fun _ _ _ h => h) (Or.inl ⟨by rfl, ?_⟩) ?_ ?_
       rotate_left
       ·intro w'
        go_simp
        with_reducible rfl
       rotate_left
       ·simp only [Act.put, sT_, sZ_, sS_, i64_w, i32_w]
        rfl
       refine pure_ (i := 7) (N := some 34) (v := ?_) (a' := ?_) (demurrageref01_Plus.ups 10 146) rfl rfl (any_of HT_.out (by kernel_rfl)) (fun _ _ _ h => h) (Or.inl ⟨by rfl, ?_⟩) ?_ ?_
       rotate_left
       ·intro w'
        go_simp
        with_reducible rfl
       rotate_left
       ·simp only [Act.put, sT_, sZ_, sS_, i64_w, i32_w]
        rfl
       refine take_ (i := 0) (N := some 27) (v := ?_) (a' := ?_) (demurrageref01_Plus.ups 10 147) rfl rfl (take_ofW HT_.out HW_.out (by kernel_rfl)) (fun _ _ _ h => h) (Or.inl ⟨by rfl, ?_⟩) hHeld ?_ ?_
       rotate_left
       ·rintro w' ⟨s0, s1⟩
        go_simp
        with_reducible rfl
       rotate_left
       ·simp only [Act.put, sT_, sZ_, sS_, i64_w, i32_w]
        rfl
       refine take_ (i := 3) (N := some 30) (v := ?_) (a' := ?_) (demurrageref01_Plus.ups 10 155) rfl rfl (take_ofW HT_.out HW_.out (by kernel_rfl)) (fun _ _ _ h => h) (Or.inl ⟨by rfl, ?_⟩) hHeld ?_ ?_
       rotate_left
       ·rintro w' ⟨s0, s1⟩
        go_simp
        with_reducible rfl
       rotate_left
       ·simp only [Act.put, sT_, sZ_, sS_, i64_w, i32_w]
        rfl
       refine one_ (i := 2) (N := some 29) (demurrageref01_Plus.ups 10 159) rfl rfl (one_of HT_.out (by kernel_rfl)) (by decide) (fun K hK => ?_)
       refine goes_ Tryd.func56 (by kernel_rfl) rfl #[.agg #[.slice A0_0 l0_0.length c0_0], .int .i64 x7_1] (by rfl) rfl rfl (by (try simp only [mT_, mC_, mN_]); first | done | rfl) ?_
       with_reducible refine (demurrageref01_part.calls _ _ l0_0 x7_1 t297 _ ?side1 ?side2 A23.out).mono ?_
       (case side1 => repeat (first | exact (Kd.C_below HR0_0.out HB.out) | (with_reducible first | refine Kd.C_alloc ?_ _ | refine Kd.C_drewN ?_ _ | refine Kd.C_drew ?_)))
       (case side2 => exact HC0_0.out)
       rintro e w27 ⟨rfl, hb⟩
       refine ⟨_, rfl, ?_⟩
       replace HO_5 := aA_ (Kd.R_below HO_5.out hb)
       replace BK294 := bK_ BK294 hb
       replace BK295 := bK_ BK295 hb
       replace BK296 := bK_ BK296 hb
       replace HB := bB_ (by repeat (with_reducible first | exact HB.out | apply bA_ | apply bN_ | apply bD_ | refine bS_ ?_ GE294.out | refine bS_ ?_ GE295.out | refine bS_ ?_ GE296.out)) hb
       (try clear hb)
       (try clear hb2)
       (try clear hk)
       (try clear hi)
       refine hK.out _ _ ⟨(blk_cell BK294.out 0).trans rfl, (blk_cell BK295.out 0).trans rfl⟩ (fun hHeld => ?_)
       clear hK K
       refine norm_ (by show Act.put _ (some 29) _ = _; simp only [Act.put, sT_, sZ_, sS_, i64_w, i32_w] <;> rfl) ?_
       refine one_ (i := 5) (N := some 32) (demurrageref01_Plus.ups 10 191) rfl rfl (one_of HT_.out (by kernel_rfl)) (by decide) (fun K hK => ?_)
       refine goes_ Tryd.func56 (by kernel_rfl) rfl #[.agg #[.slice A1_0 l1_0.length c1_0], .int .i64 x7_1] (by rfl) rfl rfl (by (try simp only [mT_, mC_, mN_]); first | done | rfl) ?_
       with_reducible refine (demurrageref01_part.calls _ _ l1_0 x7_1 t298 _ ?side1 ?side2 A24.out).mono ?_
       (case side1 => repeat (first | exact (Kd.C_below HR1_0.out HB.out) | (with_reducible first | refine Kd.C_alloc ?_ _ | refine Kd.C_drewN ?_ _ | refine Kd.C_drew ?_)))
       (case side2 => exact HC1_0.out)
       rintro e w28 ⟨rfl, hb⟩
       refine ⟨_, rfl, ?_⟩
       replace HO_5 := aA_ (Kd.R_below HO_5.out hb)
       replace BK294 := bK_ BK294 hb
       replace BK295 := bK_ BK295 hb
       replace BK296 := bK_ BK296 hb
       replace HB := bB_ (by repeat (with_reducible first | exact HB.out | apply bA_ | apply bN_ | apply bD_ | refine bS_ ?_ GE294.out | refine bS_ ?_ GE295.out | refine bS_ ?_ GE296.out)) hb
       (try clear hb)
       (try clear hb2)
       (try clear hk)
       (try clear hi)
       refine hK.out _ _ ⟨(blk_cell BK294.out 0).trans rfl, (blk_cell BK295.out 0).trans rfl⟩ (fun hHeld => ?_)
       clear hK K
       refine norm_ (by show Act.put _ (some 32) _ = _; simp only [Act.put, sT_, sZ_, sS_, i64_w, i32_w] <;> rfl) ?_
       refine pure_ (i := 6) (N := some 33) (v := ?_) (a' := ?_) (demurrageref01_Plus.ups 10 255) rfl rfl (any_of HT_.out (by kernel_rfl)) (fun _ _ _ h => h) (Or.inl ⟨by rfl, ?_⟩) ?_ ?_
       rotate_left
       ·intro w'
        go_simp
        with_reducible rfl
       rotate_left
       ·simp only [Act.put, sT_, sZ_, sS_, i64_w, i32_w]
        rfl
       refine pure_ (i := 8) (N := some 35) (v := ?_) (a' := ?_) (demurrageref01_Plus.ups 10 511) rfl rfl (any_of HT_.out (by kernel_rfl)) (fun _ _ _ h => h) (Or.inl ⟨by rfl, ?_⟩) ?_ ?_
       rotate_left
       ·intro w'
        go_simp
        with_reducible rfl
       rotate_left
       ·simp only [Act.put, sT_, sZ_, sS_, i64_w, i32_w]
        rfl
       refine pure_ (i := 9) (N := some 8) (v := ?_) (a' := ?_) (demurrageref01_Plus.ups 10 1023) rfl rfl (any_of HT_.out (by kernel_rfl)) (fun _ _ _ h => h) (Or.inl ⟨by rfl, ?_⟩) ?_ ?_
       rotate_left
       ·intro w'
        go_simp
        with_reducible rfl
       rotate_left
       ·simp only [Act.put, sT_, sZ_, sS_, i64_w, i32_w]
        rfl
       refine done_ (done_of HT_.out (by kernel_rfl)) ?_
       try go_wp2_with (first | ((with_reducible refine gate_builtin (b := .append) (xs := #[.tmp 36, .tmp 39]) rfl ?_); (try (refine gate_guard (by rfl) ?_; dsimp only)); at_builtin; refine Kd.R_append (Kd.int .i64) (w0 := w) w.heap.size rfl (.tmp 36) (.tmp 39) 54 3 (.int .i64 0) 8 rfl Tryd.underlying54 info3 rfl (by decide) (by omega) u5 x5_1 (Int.tmod (wrap64 ((wrap64 (t297 + t298)) + x6_1)) 10000) [.int .i64 (Int.tmod (wrap64 ((wrap64 (t297 + t298)) + x6_1)) 10000)] (fun _ => True) (fun _ => False) rfl rfl ?aP (fun _ hk => hk.elim) ?aF ?aO ?aB ?aS ?aL ?_; (case aP => exact rfl); (case aB => exact (by repeat (with_reducible first | exact HB.out | apply bA_ | apply bN_ | apply bD_ | refine bS_ ?_ GE294.out | refine bS_ ?_ GE295.out | refine bS_ ?_ GE296.out))); (case aF => exact (fun _ _ => trivial)); (case aO => exact (by (with_reducible repeat (first | apply Kd.R_alloc | apply Kd.R_drewN | apply Kd.R_drew)); exact HO_5.out)); (case aS => exact (below_size (by repeat (with_reducible first | exact HB.out | apply bA_ | apply bN_ | apply bD_ | refine bS_ ?_ GE294.out | refine bS_ ?_ GE295.out | refine bS_ ?_ GE296.out)))); (case aL => have := LMc25.out; omega); intro v300 w29 ho hb hg hat; rw [← Ny299.out] at ho; replace BK294 := aA_ (blk_grown (g := gb294) (o := .cells #[.slice A0_0 l0_0.length c0_0] 56 (0, 0)) BK294.out hg (Kd.R_ne HO_5.out BK294.out (by decide))); replace BK295 := aA_ (blk_grown (g := gb295) (o := .cells #[.slice A1_0 l1_0.length c1_0] 56 (0, 0)) BK295.out hg (Kd.R_ne HO_5.out BK295.out (by decide))); replace BK296 := aA_ (blk_grown (g := gb296) (o := .cells #[.slice none 0 0] 56 (0, 0)) BK296.out hg (Kd.R_ne HO_5.out BK296.out (by decide))); replace HB := aA_ (hb); have HO301 := aA_ (ho); clear HO_5; clear ho hb hg hat))
       go_roundg kj5
       case measure => have := HK1.out; have := HJ5.out; omega
       case rel => exact ⟨(y299), (wrap64 (Int.tdiv (wrap64 ((wrap64 (t297 + t298)) + x6_1)) 10000)), (wrap64 (x7_1 + 1)), (by first | rfl | (simp; done) | (simp [*]; done)), (by first | rfl | (simp; done) | (simp [*]; done)), H', ⟨by have := HK1.out; have := HJ5.out; omega⟩, ⟨by (with_reducible repeat (first | apply Kd.R_alloc | apply Kd.R_drewN | apply Kd.R_drew)); exact HO301.out⟩, ⟨by exact BK294.out⟩, ⟨by exact BK295.out⟩, ⟨by exact BK296.out⟩, ⟨by repeat (with_reducible first | exact HB.out | apply bA_ | apply bN_ | apply bD_ | refine bS_ ?_ GE294.out | refine bS_ ?_ GE295.out | refine bS_ ?_ GE296.out)⟩⟩
      ·rw [if_neg c25] at H
       exact absurd H (by simp)
     ·replace c22 := Bool.eq_false_iff.mpr c22
      subst c22
      rw [if_neg (show ¬ (false = true) by decide)] at H
      obtain rfl := Option.some.inj H
      obtain ⟨Ao30, co30, eo30⟩ := Kd.R_slice HO_5.out
      subst eo30
      have hnb31 := NB296_294.out
      have hnc31 := NB294_296.out
      have hnb32 := NB296_295.out
      have hnc32 := NB295_296.out
      have hcz33_0 : wc.cell? ⟨gb296, 0, none⟩ = some (.slice none 0 0) := (blk_cell BK296.out 0).trans rfl
      have hfz33_0 := blk_frozen BK296.out 0
      go_wp2
      refine bodyPost_ret (results_cell_row rfl _ _ gb296 56 #[.slice Ao30 x5_1.length co30] (0, 0) _ rfl (by refine blk_put (cs := #[.slice none 0 0]) ?_ 0 _ rfl; exact BK296.out) Tryd.underlying56 rfl (by kernel_rfl)) rfl ?_
      exact ⟨_, by rfl, by (with_reducible repeat (first | apply Kd.R_alloc | apply Kd.R_drewN | apply Kd.R_drew)); exact Kd.R_mono (Kd.R_far (p := ⟨gb296, 0, none⟩) (Kd.R_types HO_5.out BK296.out (by decide)) (fun _ hk => hk.2) (.slice Ao30 x5_1.length co30)) (fun _ hk => trivial), by repeat (with_reducible first | exact HB.out | apply bA_ | apply bN_ | apply bD_ | refine bS_ ?_ GE294.out | refine bS_ ?_ GE295.out | refine bS_ ?_ GE296.out)⟩

end Go.Proofs.YtbapgkopilmdfaaDoor.X
