-- cut by prune.py, a program of this session
import Derived.Test.YteikafepdkijdaaPTableSumsHPlain
namespace Go.Proofs.Yteikafepdkijdaa.X
open Go.RowKit Go.Proofs.YteikafepdkijdaaW.PrintWords Go.Proofs.YteikafepdkijdaaW.PrintLast Go.Proofs.YteikafepdkijdaaW.PrintMore
set_option linter.unusedVariables false
set_option linter.unusedSimpArgs false

def badB (r : S48) : Bool := decide (r.f1 < 0) || (decide (r.f2 < 0) || decide (r.f3 < 0))
def fitsB (x n : Int) : Bool := !(decide (4611686018427387904 < n)) && !(decide (wrap64 (4611686018427387904 - n) < x))
def addv (x n : Int) : Int := if fitsB x n = true then wrap64 (x + n) else x

set_option maxHeartbeats 8000000 in
set_option maxRecDepth 100000 in
theorem bad_calls (r : S48) (w : World) : Calls Try.prog 46 #[.agg #[.int .i64 r.f0, .int .i64 r.f1, .int .i64 r.f2, .int .i64 r.f3, .int .i64 r.f4]] w fun e w' => e = .returned (.bool (badB r)) ∧ Below w.heap.size w w' := by
 have huR := Try.underlying48
 have HB := aA_ (Below.refl w.heap.size w)
 go_enter Try.func46, Try.ntmps46
 by_cases c1 : r.f1 < 0
 ·have c1b0 : decide (r.f1 < 0) = true := decide_eq_true c1
  have e : badB r = true := by unfold badB; rw [c1b0]; rfl
  have HE := aA_ e
  clear e
  go_wp2_with (first | (refine box_event rfl (N := 1) rfl (cs := #[.int .i64 r.f0, .int .i64 r.f1, .int .i64 r.f2, .int .i64 r.f3, .int .i64 r.f4]) (t := 48) ?hr ?_; (case hr => go_simp <;> rfl); intro bk hg w_bk hbox hb; have Gbk := gW_ hg HB.out; replace HB := bB_ HB.out hb; have Bbk := aA_ hbox; clear hb hbox hg; have hz0 := ((blk_cell Bbk.out 0).trans rfl : w_bk.cell? ⟨bk, 0, none⟩ = some (.int .i64 r.f0)); have hz1 := ((blk_cell Bbk.out 1).trans rfl : w_bk.cell? ⟨bk, 1, none⟩ = some (.int .i64 r.f1)); have hz2 := ((blk_cell Bbk.out 2).trans rfl : w_bk.cell? ⟨bk, 2, none⟩ = some (.int .i64 r.f2)); have hz3 := ((blk_cell Bbk.out 3).trans rfl : w_bk.cell? ⟨bk, 3, none⟩ = some (.int .i64 r.f3)); have hz4 := ((blk_cell Bbk.out 4).trans rfl : w_bk.cell? ⟨bk, 4, none⟩ = some (.int .i64 r.f4))))
  go_ret
  exact ⟨by rw [HE.out]; rfl, HB.out⟩
 ·have c1b0 : decide (r.f1 < 0) = false := decide_eq_false c1
  clear c1
  by_cases c2 : r.f2 < 0
  ·have c2b0 : decide (r.f2 < 0) = true := decide_eq_true c2
   clear c2
   have e : badB r = true := by unfold badB; rw [c1b0, c2b0]; rfl
   have HE := aA_ e
   clear e
   go_wp2_with (first | (refine box_event rfl (N := 1) rfl (cs := #[.int .i64 r.f0, .int .i64 r.f1, .int .i64 r.f2, .int .i64 r.f3, .int .i64 r.f4]) (t := 48) ?hr ?_; (case hr => go_simp <;> rfl); intro bk hg w_bk hbox hb; have Gbk := gW_ hg HB.out; replace HB := bB_ HB.out hb; have Bbk := aA_ hbox; clear hb hbox hg; have hz0 := ((blk_cell Bbk.out 0).trans rfl : w_bk.cell? ⟨bk, 0, none⟩ = some (.int .i64 r.f0)); have hz1 := ((blk_cell Bbk.out 1).trans rfl : w_bk.cell? ⟨bk, 1, none⟩ = some (.int .i64 r.f1)); have hz2 := ((blk_cell Bbk.out 2).trans rfl : w_bk.cell? ⟨bk, 2, none⟩ = some (.int .i64 r.f2)); have hz3 := ((blk_cell Bbk.out 3).trans rfl : w_bk.cell? ⟨bk, 3, none⟩ = some (.int .i64 r.f3)); have hz4 := ((blk_cell Bbk.out 4).trans rfl : w_bk.cell? ⟨bk, 4, none⟩ = some (.int .i64 r.f4))))
   go_ret
   exact ⟨by rw [HE.out]; rfl, HB.out⟩
  ·have c2b0 : decide (r.f2 < 0) = false := decide_eq_false c2
   clear c2
   by_cases c3 : r.f3 < 0
   ·have c3b0 : decide (r.f3 < 0) = true := decide_eq_true c3
    clear c3
    have e : badB r = true := by unfold badB; rw [c1b0, c2b0, c3b0]; rfl
    have HE := aA_ e
    clear e
    go_wp2_with (first | (refine box_event rfl (N := 1) rfl (cs := #[.int .i64 r.f0, .int .i64 r.f1, .int .i64 r.f2, .int .i64 r.f3, .int .i64 r.f4]) (t := 48) ?hr ?_; (case hr => go_simp <;> rfl); intro bk hg w_bk hbox hb; have Gbk := gW_ hg HB.out; replace HB := bB_ HB.out hb; have Bbk := aA_ hbox; clear hb hbox hg; have hz0 := ((blk_cell Bbk.out 0).trans rfl : w_bk.cell? ⟨bk, 0, none⟩ = some (.int .i64 r.f0)); have hz1 := ((blk_cell Bbk.out 1).trans rfl : w_bk.cell? ⟨bk, 1, none⟩ = some (.int .i64 r.f1)); have hz2 := ((blk_cell Bbk.out 2).trans rfl : w_bk.cell? ⟨bk, 2, none⟩ = some (.int .i64 r.f2)); have hz3 := ((blk_cell Bbk.out 3).trans rfl : w_bk.cell? ⟨bk, 3, none⟩ = some (.int .i64 r.f3)); have hz4 := ((blk_cell Bbk.out 4).trans rfl : w_bk.cell? ⟨bk, 4, none⟩ = some (.int .i64 r.f4))))
    go_ret
    exact ⟨by rw [HE.out]; rfl, HB.out⟩
   ·have c3b0 : decide (r.f3 < 0) = false := decide_eq_false c3
    clear c3
    have e : badB r = false := by unfold badB; rw [c1b0, c2b0, c3b0]; rfl
    have HE := aA_ e
    clear e
    go_wp2_with (first | (refine box_event rfl (N := 1) rfl (cs := #[.int .i64 r.f0, .int .i64 r.f1, .int .i64 r.f2, .int .i64 r.f3, .int .i64 r.f4]) (t := 48) ?hr ?_; (case hr => go_simp <;> rfl); intro bk hg w_bk hbox hb; have Gbk := gW_ hg HB.out; replace HB := bB_ HB.out hb; have Bbk := aA_ hbox; clear hb hbox hg; have hz0 := ((blk_cell Bbk.out 0).trans rfl : w_bk.cell? ⟨bk, 0, none⟩ = some (.int .i64 r.f0)); have hz1 := ((blk_cell Bbk.out 1).trans rfl : w_bk.cell? ⟨bk, 1, none⟩ = some (.int .i64 r.f1)); have hz2 := ((blk_cell Bbk.out 2).trans rfl : w_bk.cell? ⟨bk, 2, none⟩ = some (.int .i64 r.f2)); have hz3 := ((blk_cell Bbk.out 3).trans rfl : w_bk.cell? ⟨bk, 3, none⟩ = some (.int .i64 r.f3)); have hz4 := ((blk_cell Bbk.out 4).trans rfl : w_bk.cell? ⟨bk, 4, none⟩ = some (.int .i64 r.f4))))
    go_ret
    exact ⟨by rw [HE.out]; rfl, HB.out⟩

def slices_IndexFunc.l0 : Nat → List S48 → Int → Option Int
 | 0, _, _ => none
 | k + 1, l, i => if i < (l.length : Int) then (if 0 ≤ i then (if badB (rd_T48 l i) = true then some i else slices_IndexFunc.l0 k l (wrap64 (i + 1))) else none) else some (-1)
theorem slices_IndexFunc.mono_l : ∀ k, (∀ y0 y1, LeO (slices_IndexFunc.l0 k y0 y1) (slices_IndexFunc.l0 (k + 1) y0 y1))
 | 0 => fun _ _ r h => by simp [slices_IndexFunc.l0] at h
 | k + 1 => by
  have ih := slices_IndexFunc.mono_l k
  intro y0 y1
  rw [slices_IndexFunc.l0, slices_IndexFunc.l0]
  exact LeO.ite (LeO.ite (LeO.ite (LeO.refl _) (ih _ _)) (LeO.refl _)) (LeO.refl _)

set_option maxHeartbeats 8000000 in
set_option maxRecDepth 100000 in
theorem index_calls (k : Nat) (A0 : Option Addr) (c0 : Nat) (l0 : List S48) (r : Int) (w : World) (hr0 : Kd.C k48 w A0 l0.length l0) (hc0 : l0.length ≤ c0) (h : slices_IndexFunc.l0 k l0 0 = some r) :
  Calls Try.prog 66 #[.slice A0 l0.length c0, .func (.func 46) #[] #[]] w fun e w' => e = .returned (.int .i64 r) ∧ Below w.heap.size w w' := by
 have HR0 := aA_ hr0
 have HB := aA_ (Below.refl w.heap.size w)
 have H' := aA_ h
 have hE : ∀ (args : Array Value) (w : World), (callFunc 46 args).run Try.prog w = .ok (.enter 46 args) w := fun args w => enters_ Try.func46 (by kernel_rfl) rfl args w
 clear hr0 hc0 h
 go_enter Try.func66, Try.ntmps66
 go_wp2
 (try simp only [Act.put, sT_, sZ_, sS_])
 go_loopg [8] k (fun kq v8 w' => ∃ (x8 : Int), v8 = .int .i64 x8 ∧ Aside0 (slices_IndexFunc.l0 kq l0 x8 = some r) ∧ Aside0 (kq ≤ k) ∧ Aside0 (Below w.heap.size w w'))
 case atStart => exact ⟨0, rfl, H', ⟨Nat.le_refl _⟩, HB⟩
 case round =>
  clear H' HB
  obtain ⟨x8, rfl, HA, HK, HB⟩ := hrel
  cases gk with
  | zero => exact absurd HA.out (by simp [slices_IndexFunc.l0])
  | succ k1 =>
   have H := HA.out
   clear HA
   simp only [slices_IndexFunc.l0] at H
   by_cases c5 : x8 < (l0.length : Int)
   ·rw [if_pos c5] at H
    have c5b0 : decide (x8 < (l0.length : Int)) = true := decide_eq_true c5
    by_cases c6 : 0 ≤ x8
    ·rw [if_pos c6] at H
     have c6b0 : decide (0 ≤ x8) = true := decide_eq_true c6
     obtain ⟨ad, ead, hx0, hx1, hx2, hx3, hx4⟩ := at_T48 (Kd.C_below HR0.out HB.out) x8 c6 c5
     cases ead
     have p5 := eq_true c5
     have p6 := eq_true c6
     clear c5 c6
     go_upto_region 5 with (fail)
     refine (bad_calls (rd_T48 l0 x8) _).mono ?_
     rintro e wB ⟨rfl, hb⟩
     dsimp only
     replace HB := bB_ HB.out hb
     clear hb hx0 hx1 hx2 hx3 hx4
     by_cases c7 : badB (rd_T48 l0 x8) = true
     ·rw [if_pos c7] at H
      simp only [Option.some.injEq] at H
      obtain rfl := H
      rw [c7]
      clear c7
      go_wp2
      go_ret
      exact ⟨rfl, HB.out⟩
     ·rw [if_neg c7] at H
      have H' := aA_ H
      clear H
      rw [Bool.eq_false_iff.mpr c7]
      clear c7
      go_wp2
      go_roundg k1
      case measure => have := HK.out; omega
      case rel => exact ⟨wrap64 (x8 + 1), (by first | rfl | simp | simp [*]), H', ⟨by have := HK.out; omega⟩, HB⟩
    ·rw [if_neg c6] at H
     exact absurd H (by simp)
   ·rw [if_neg c5] at H
    have c5b0 : decide (x8 < (l0.length : Int)) = false := decide_eq_false c5
    clear c5
    simp only [Option.some.injEq] at H
    obtain rfl := H
    go_wp2
    go_ret
    exact ⟨rfl, HB.out⟩

set_option maxHeartbeats 8000000 in
set_option maxRecDepth 100000 in
theorem contains_calls (k : Nat) (A0 : Option Addr) (c0 : Nat) (l0 : List S48) (r : Int) (w : World) (hr0 : Kd.C k48 w A0 l0.length l0) (hc0 : l0.length ≤ c0) (h : slices_IndexFunc.l0 k l0 0 = some r) (b : Bool) (hb : decide (r ≥ 0) = b) :
  Calls Try.prog 45 #[.slice A0 l0.length c0, .func (.func 46) #[] #[]] w fun e w' => e = .returned (.bool b) ∧ Below w.heap.size w w' := by
 have HW := aA_ (index_calls k A0 c0 l0 r w hr0 hc0 h)
 have HE := aA_ hb
 clear hr0 h hb
 go_enter Try.func45, Try.ntmps45
 go_wp2_with (first | (refine goesL_ (some 7) rfl rfl Try.func66 (by kernel_rfl) rfl #[.slice A0 l0.length c0, .func (.func 46) #[] #[]] rfl (by (try simp only [mT_, mC_, mN_]); first | done | rfl) ?_; (with_reducible refine HW.out.mono ?_); rintro e wc ⟨rfl, hb⟩; refine ⟨_, rfl, ?_⟩; have HB := aA_ hb; clear hb))
 go_ret
 exact ⟨by rw [← HE.out]; rfl, HB.out⟩

set_option maxHeartbeats 8000000 in
set_option maxRecDepth 100000 in
theorem sum_calls (g j : Nat) (f : Int → Obj) (x n : Int) (w : World) (hB : w.heap[g]? = some (f x)) (hset : ∀ v, (w.setCell ⟨g, j, none⟩ (.int .i64 v)).heap[g]? = some (f v)) (hc : w.cell? ⟨g, j, none⟩ = some (.int .i64 x)) (hf : w.frozen? ⟨g, j, none⟩ = false) :
  Calls Try.prog 47 #[.pointer (some ⟨g, j, none⟩), .int .i64 n] w fun e w' => e = .returned (.bool (fitsB x n)) ∧ w'.heap[g]? = some (f (addv x n)) ∧ Lay g w w' := by
 have L := aA_ ((Lay.refl g w).there (j := j) (.int .i64 (wrap64 (x + n))))
 have HS := aA_ (hset (wrap64 (x + n)))
 have HN := aA_ hB
 clear hset hB
 go_enter Try.func47, Try.ntmps47
 by_cases c1 : 4611686018427387904 < n
 ·have c1b0 : decide (4611686018427387904 < n) = true := decide_eq_true c1
  have e : fitsB x n = false := by unfold fitsB; rw [c1b0]; rfl
  have HE := aA_ e
  clear e c1
  go_wp2
  go_ret
  exact ⟨by rw [HE.out]; rfl, by unfold addv; rw [HE.out, if_neg (by decide)]; exact HN.out, Lay.refl g w⟩
 ·have c1b0 : decide (4611686018427387904 < n) = false := decide_eq_false c1
  clear c1
  by_cases c2 : wrap64 (4611686018427387904 - n) < x
  ·have c2b0 : decide (wrap64 (4611686018427387904 - n) < x) = true := decide_eq_true c2
   have e : fitsB x n = false := by unfold fitsB; rw [c1b0, c2b0]; rfl
   have HE := aA_ e
   clear e c2
   go_wp2
   go_ret
   exact ⟨by rw [HE.out]; rfl, by unfold addv; rw [HE.out, if_neg (by decide)]; exact HN.out, Lay.refl g w⟩
  ·have c2b0 : decide (wrap64 (4611686018427387904 - n) < x) = false := decide_eq_false c2
   have e : fitsB x n = true := by unfold fitsB; rw [c1b0, c2b0]; rfl
   have HE := aA_ e
   clear e c2
   go_wp2
   go_ret
   exact ⟨by rw [HE.out]; rfl, by unfold addv; rw [HE.out, if_pos rfl]; exact HS.out, L.out⟩

def table_Sums.l0 : Nat → List S48 → Int → Int → Int → Int → Int → Int → Option (Int × Int × Int × Int × Int × Int)
 | 0, _, _, _, _, _, _, _ => none
 | k + 1, l, o, c, x1, x2, x3, i => if i < (l.length : Int) then (if 0 ≤ i then (if (fitsB x1 (rd_T48 l i).f1 && (fitsB x2 (rd_T48 l i).f2 && fitsB x3 (rd_T48 l i).f3)) = true then table_Sums.l0 k l o c (addv x1 (rd_T48 l i).f1) (addv x2 (rd_T48 l i).f2) (addv x3 (rd_T48 l i).f3) (wrap64 (i + 1)) else some (0, 0, 0, 0, 0, 6)) else none) else some (o, x1, x2, x3, c, 0)
def table_Sums.f (k : Nat) (l : List S48) : Option (Int × Int × Int × Int × Int × Int) := if (l.length : Int) = 0 then some (0, 0, 0, 0, 0, 0) else (slices_IndexFunc.l0 k l 0).bind fun i => if i ≥ 0 then some (0, 0, 0, 0, 0, 1) else (if 0 < (l.length : Int) then (if 0 ≤ wrap64 ((l.length : Int) - 1) then (if wrap64 ((l.length : Int) - 1) < (l.length : Int) then table_Sums.l0 k l (rd_T48 l 0).f0 (rd_T48 l (wrap64 ((l.length : Int) - 1))).f4 0 0 0 0 else none) else none) else none)
theorem table_Sums.mono_l : ∀ k, (∀ y0 y1 y2 y3 y4 y5 y6, LeO (table_Sums.l0 k y0 y1 y2 y3 y4 y5 y6) (table_Sums.l0 (k + 1) y0 y1 y2 y3 y4 y5 y6))
 | 0 => fun _ _ _ _ _ _ _ r h => by simp [table_Sums.l0] at h
 | k + 1 => by
  have ih := table_Sums.mono_l k
  intro y0 y1 y2 y3 y4 y5 y6
  rw [table_Sums.l0, table_Sums.l0]
  exact LeO.ite (LeO.ite (LeO.ite (ih _ _ _ _ _ _ _) (LeO.refl _)) (LeO.refl _)) (LeO.refl _)
theorem table_Sums.mono : ∀ l k, LeO (table_Sums.f k l) (table_Sums.f (k + 1) l) := fun l k => LeO.ite (LeO.refl _) (LeO.bind (slices_IndexFunc.mono_l k _ _) (fun _ => LeO.ite (LeO.refl _) (LeO.ite (LeO.ite (LeO.ite (table_Sums.mono_l k _ _ _ _ _ _ _) (LeO.refl _)) (LeO.refl _)) (LeO.refl _))))

set_option maxHeartbeats 8000000 in
set_option maxRecDepth 100000 in
theorem table_Sums.calls (k : Nat) (A0 : Option Addr) (c0 : Nat) (l0 : List (S48)) (r1 : Int) (r2 : Int) (r3 : Int) (r4 : Int) (r5 : Int) (r6 : Int) (w : World) (hr0 : Kd.C k48 w A0 l0.length l0) (hc0 : l0.length ≤ c0) (h : table_Sums.f k l0 = some (r1, r2, r3, r4, r5, r6)) :
  Calls Try.prog 30 #[.slice A0 l0.length c0] w fun e w' => e = .returned (.tuple #[.agg #[.int .i64 r1, .int .i64 r2, .int .i64 r3, .int .i64 r4, .int .i64 r5], .int .i64 r6]) ∧ Below w.heap.size w w' := by
 have huR := Try.underlying48
 have HR0 := aA_ hr0
 have HC0 := aA_ hc0
 have HB := aA_ (Below.refl w.heap.size w)
 clear hr0 hc0
 unfold table_Sums.f at h
 by_cases n0 : (l0.length : Int) = 0
 ·rw [if_pos n0] at h
  simp only [Option.some.injEq, Prod.mk.injEq] at h
  obtain ⟨rfl, rfl, rfl, rfl, rfl, rfl⟩ := h
  have n0b0 : ((l0.length : Int) == 0) = true := beq_iff_eq.mpr n0
  clear n0
  go_enter Try.func30, Try.ntmps30
  go_wp2_with (first | (refine box_event rfl (N := 2) rfl (cs := #[.int .i64 0, .int .i64 0, .int .i64 0, .int .i64 0, .int .i64 0]) (t := 48) ?hr ?_; (case hr => go_simp <;> rfl); intro g2 hg w_g2 hbox hb; have Gg2 := gW_ hg HB.out; replace HB := bB_ HB.out hb; have Bg2 := aA_ hbox; clear hb hbox hg; have hz0 := ((blk_cell Bg2.out 0).trans rfl : w_g2.cell? ⟨g2, 0, none⟩ = some (.int .i64 0)); have hf0 := blk_frozen Bg2.out 0; have hz1 := ((blk_cell Bg2.out 1).trans rfl : w_g2.cell? ⟨g2, 1, none⟩ = some (.int .i64 0)); have hf1 := blk_frozen Bg2.out 1; have hz2 := ((blk_cell Bg2.out 2).trans rfl : w_g2.cell? ⟨g2, 2, none⟩ = some (.int .i64 0)); have hf2 := blk_frozen Bg2.out 2; have hz3 := ((blk_cell Bg2.out 3).trans rfl : w_g2.cell? ⟨g2, 3, none⟩ = some (.int .i64 0)); have hf3 := blk_frozen Bg2.out 3; have hz4 := ((blk_cell Bg2.out 4).trans rfl : w_g2.cell? ⟨g2, 4, none⟩ = some (.int .i64 0)); have hf4 := blk_frozen Bg2.out 4))
  have E : (((((w_g2.setCell ⟨g2, 0, none⟩ (.int .i64 0)).setCell ⟨g2, 1, none⟩ (.int .i64 0)).setCell ⟨g2, 2, none⟩ (.int .i64 0)).setCell ⟨g2, 3, none⟩ (.int .i64 0)).setCell ⟨g2, 4, none⟩ (.int .i64 0)).heap[g2]? = some (.cells #[.int .i64 0, .int .i64 0, .int .i64 0, .int .i64 0, .int .i64 0] 48 (0, 0)) := (blk_put (blk_put (blk_put (blk_put (blk_put Bg2.out 0 _ rfl) 1 _ rfl) 2 _ rfl) 3 _ rfl) 4 _ rfl)
  have HBe : Below w.heap.size w (((((w_g2.setCell ⟨g2, 0, none⟩ (.int .i64 0)).setCell ⟨g2, 1, none⟩ (.int .i64 0)).setCell ⟨g2, 2, none⟩ (.int .i64 0)).setCell ⟨g2, 3, none⟩ (.int .i64 0)).setCell ⟨g2, 4, none⟩ (.int .i64 0)) := (below_set (below_set (below_set (below_set (below_set HB.out Gg2.out) Gg2.out) Gg2.out) Gg2.out) Gg2.out)
  refine bodyPost_ret (results_ct rfl _ _ g2 48 #[.int .i64 0, .int .i64 0, .int .i64 0, .int .i64 0, .int .i64 0] (0, 0) _ rfl E Try.underlying48 rfl (by kernel_rfl)) rfl ?_
  exact ⟨rfl, HBe⟩
 rw [if_neg n0] at h
 have n0b0 : ((l0.length : Int) == 0) = false := beq_eq_false_iff_ne.mpr n0
 clear n0
 obtain ⟨ix, A0', h⟩ := bI_ h
 have A := aA_ A0'
 clear A0'
 by_cases c1 : ix ≥ 0
 ·rw [if_pos c1] at h
  simp only [Option.some.injEq, Prod.mk.injEq] at h
  obtain ⟨rfl, rfl, rfl, rfl, rfl, rfl⟩ := h
  have CB := aA_ (decide_eq_true c1)
  clear c1
  go_enter Try.func30, Try.ntmps30
  go_wp2_with (first | (refine box_event rfl (N := 2) rfl (cs := #[.int .i64 0, .int .i64 0, .int .i64 0, .int .i64 0, .int .i64 0]) (t := 48) ?hr ?_; (case hr => go_simp <;> rfl); intro g2 hg w_g2 hbox hb; have Gg2 := gW_ hg HB.out; replace HB := bB_ HB.out hb; have Bg2 := aA_ hbox; clear hb hbox hg; have hz0 := ((blk_cell Bg2.out 0).trans rfl : w_g2.cell? ⟨g2, 0, none⟩ = some (.int .i64 0)); have hf0 := blk_frozen Bg2.out 0; have hz1 := ((blk_cell Bg2.out 1).trans rfl : w_g2.cell? ⟨g2, 1, none⟩ = some (.int .i64 0)); have hf1 := blk_frozen Bg2.out 1; have hz2 := ((blk_cell Bg2.out 2).trans rfl : w_g2.cell? ⟨g2, 2, none⟩ = some (.int .i64 0)); have hf2 := blk_frozen Bg2.out 2; have hz3 := ((blk_cell Bg2.out 3).trans rfl : w_g2.cell? ⟨g2, 3, none⟩ = some (.int .i64 0)); have hf3 := blk_frozen Bg2.out 3; have hz4 := ((blk_cell Bg2.out 4).trans rfl : w_g2.cell? ⟨g2, 4, none⟩ = some (.int .i64 0)); have hf4 := blk_frozen Bg2.out 4) | (refine goesL_ (some 15) rfl rfl Try.func45 (by kernel_rfl) rfl #[.slice A0 l0.length c0, .func (.func 46) #[] #[]] rfl (by (try simp only [mT_, mC_, mN_]); first | done | rfl) ?_; (with_reducible refine (contains_calls k A0 c0 l0 ix _ (Kd.C_below HR0.out HB.out) HC0.out A.out _ CB.out).mono ?_); rintro e wc ⟨rfl, hb⟩; refine ⟨_, rfl, ?_⟩; replace Bg2 := bK_ Bg2 hb; replace HB := bB_ HB.out hb; clear hb hz0 hz1 hz2 hz3 hz4 hf0 hf1 hf2 hf3 hf4; have hz0 := ((blk_cell Bg2.out 0).trans rfl : wc.cell? ⟨g2, 0, none⟩ = some (.int .i64 0)); have hf0 := blk_frozen Bg2.out 0; have hz1 := ((blk_cell Bg2.out 1).trans rfl : wc.cell? ⟨g2, 1, none⟩ = some (.int .i64 0)); have hf1 := blk_frozen Bg2.out 1; have hz2 := ((blk_cell Bg2.out 2).trans rfl : wc.cell? ⟨g2, 2, none⟩ = some (.int .i64 0)); have hf2 := blk_frozen Bg2.out 2; have hz3 := ((blk_cell Bg2.out 3).trans rfl : wc.cell? ⟨g2, 3, none⟩ = some (.int .i64 0)); have hf3 := blk_frozen Bg2.out 3; have hz4 := ((blk_cell Bg2.out 4).trans rfl : wc.cell? ⟨g2, 4, none⟩ = some (.int .i64 0)); have hf4 := blk_frozen Bg2.out 4))
  have E : (((((wc.setCell ⟨g2, 0, none⟩ (.int .i64 0)).setCell ⟨g2, 1, none⟩ (.int .i64 0)).setCell ⟨g2, 2, none⟩ (.int .i64 0)).setCell ⟨g2, 3, none⟩ (.int .i64 0)).setCell ⟨g2, 4, none⟩ (.int .i64 0)).heap[g2]? = some (.cells #[.int .i64 0, .int .i64 0, .int .i64 0, .int .i64 0, .int .i64 0] 48 (0, 0)) := (blk_put (blk_put (blk_put (blk_put (blk_put Bg2.out 0 _ rfl) 1 _ rfl) 2 _ rfl) 3 _ rfl) 4 _ rfl)
  have HBe : Below w.heap.size w (((((wc.setCell ⟨g2, 0, none⟩ (.int .i64 0)).setCell ⟨g2, 1, none⟩ (.int .i64 0)).setCell ⟨g2, 2, none⟩ (.int .i64 0)).setCell ⟨g2, 3, none⟩ (.int .i64 0)).setCell ⟨g2, 4, none⟩ (.int .i64 0)) := (below_set (below_set (below_set (below_set (below_set HB.out Gg2.out) Gg2.out) Gg2.out) Gg2.out) Gg2.out)
  refine bodyPost_ret (results_ct rfl _ _ g2 48 #[.int .i64 0, .int .i64 0, .int .i64 0, .int .i64 0, .int .i64 0] (0, 0) _ rfl E Try.underlying48 rfl (by kernel_rfl)) rfl ?_
  exact ⟨rfl, HBe⟩
 rw [if_neg c1] at h
 have CB := aA_ (decide_eq_false c1)
 clear c1
 by_cases d1 : 0 < (l0.length : Int)
 ·rw [if_pos d1] at h
  by_cases d2 : 0 ≤ wrap64 ((l0.length : Int) - 1)
  ·rw [if_pos d2] at h
   by_cases d3 : wrap64 ((l0.length : Int) - 1) < (l0.length : Int)
   ·rw [if_pos d3] at h
    have H' := aA_ h
    clear h
    have D1 := aA_ d1
    have D2 := aA_ d2
    have D3 := aA_ d3
    have q1 := eq_true d1
    have q2 := eq_true d2
    have q3 := eq_true d3
    clear d1 d2 d3
    go_enter Try.func30, Try.ntmps30
    go_upto_region 5 with (first | (refine box_event rfl (N := 2) rfl (cs := #[.int .i64 0, .int .i64 0, .int .i64 0, .int .i64 0, .int .i64 0]) (t := 48) ?hr ?_; (case hr => go_simp <;> rfl); intro g2 hg w_g2 hbox hb; have Gg2 := gW_ hg HB.out; replace HB := bB_ HB.out hb; have Bg2 := aA_ hbox; clear hb hbox hg; have hz0 := ((blk_cell Bg2.out 0).trans rfl : w_g2.cell? ⟨g2, 0, none⟩ = some (.int .i64 0)); have hf0 := blk_frozen Bg2.out 0; have hz1 := ((blk_cell Bg2.out 1).trans rfl : w_g2.cell? ⟨g2, 1, none⟩ = some (.int .i64 0)); have hf1 := blk_frozen Bg2.out 1; have hz2 := ((blk_cell Bg2.out 2).trans rfl : w_g2.cell? ⟨g2, 2, none⟩ = some (.int .i64 0)); have hf2 := blk_frozen Bg2.out 2; have hz3 := ((blk_cell Bg2.out 3).trans rfl : w_g2.cell? ⟨g2, 3, none⟩ = some (.int .i64 0)); have hf3 := blk_frozen Bg2.out 3; have hz4 := ((blk_cell Bg2.out 4).trans rfl : w_g2.cell? ⟨g2, 4, none⟩ = some (.int .i64 0)); have hf4 := blk_frozen Bg2.out 4) | (refine goesL_ (some 15) rfl rfl Try.func45 (by kernel_rfl) rfl #[.slice A0 l0.length c0, .func (.func 46) #[] #[]] rfl (by (try simp only [mT_, mC_, mN_]); first | done | rfl) ?_; (with_reducible refine (contains_calls k A0 c0 l0 ix _ (Kd.C_below HR0.out HB.out) HC0.out A.out _ CB.out).mono ?_); rintro e wc ⟨rfl, hb⟩; refine ⟨_, rfl, ?_⟩; replace Bg2 := bK_ Bg2 hb; replace HB := bB_ HB.out hb; clear hb hz0 hz1 hz2 hz3 hz4 hf0 hf1 hf2 hf3 hf4; have hz0 := ((blk_cell Bg2.out 0).trans rfl : wc.cell? ⟨g2, 0, none⟩ = some (.int .i64 0)); have hf0 := blk_frozen Bg2.out 0; have hz1 := ((blk_cell Bg2.out 1).trans rfl : wc.cell? ⟨g2, 1, none⟩ = some (.int .i64 0)); have hf1 := blk_frozen Bg2.out 1; have hz2 := ((blk_cell Bg2.out 2).trans rfl : wc.cell? ⟨g2, 2, none⟩ = some (.int .i64 0)); have hf2 := blk_frozen Bg2.out 2; have hz3 := ((blk_cell Bg2.out 3).trans rfl : wc.cell? ⟨g2, 3, none⟩ = some (.int .i64 0)); have hf3 := blk_frozen Bg2.out 3; have hz4 := ((blk_cell Bg2.out 4).trans rfl : wc.cell? ⟨g2, 4, none⟩ = some (.int .i64 0)); have hf4 := blk_frozen Bg2.out 4))
    obtain ⟨ad, e1, hx0, hx1, hx2, hx3, hx4⟩ := at_T48 (Kd.C_below HR0.out HB.out) 0 (Int.le_refl _) D1.out
    cases e1
    obtain ⟨ad', e2, hy0, hy1, hy2, hy3, hy4⟩ := at_T48 (Kd.C_below HR0.out HB.out) (wrap64 ((l0.length : Int) - 1)) D2.out D3.out
    cases e2
    have q4 := eq_true (show 0 < l0.length by have := D1.out; omega)
    have BA := below_alloc (Below.refl wc.heap.size wc) (.cells #[.int .i64 0, .int .i64 0, .int .i64 0, .int .i64 0, .int .i64 0] 48)
    replace hx0 : wc.cell? ad = some (.int .i64 (rd_T48 l0 0).f0) := hx0
    have hxa := (BA.cell (World.block_lt_of_cell? wc _ hx0)).trans hx0
    have hya := (BA.cell (World.block_lt_of_cell? wc _ hy4)).trans hy4
    clear hx1 hx2 hx3 hx4 hy0 hy1 hy2 hy3 BA
    obtain ⟨xo, hxo⟩ : ∃ x : Int, (rd_T48 l0 0).f0 = x := ⟨_, rfl⟩
    obtain ⟨xc, hxc⟩ : ∃ x : Int, (rd_T48 l0 (wrap64 ((l0.length : Int) - 1))).f4 = x := ⟨_, rfl⟩
    rw [hxo] at hx0 hxa
    rw [hxc] at hy4 hya
    replace H' := aA_ (by have := H'.out; rw [hxo, hxc] at this; exact this)
    clear hxo hxc
    (try simp only [Act.put, sT_, sZ_, sS_])
    go_region
    have hbA : Below wc.heap.size wc (wc.alloc (.cells #[.int .i64 xo, .int .i64 0, .int .i64 0, .int .i64 0, .int .i64 xc] 48)).drew := below_drew1 (below_alloc (Below.refl _ _) _)
    have Bg4 := aA_ (blk_drew (blk_new wc (.cells #[.int .i64 xo, .int .i64 0, .int .i64 0, .int .i64 0, .int .i64 xc] 48)))
    have Gg4 := aA_ (below_size HB.out)
    have Ng2g4 := aA_ (Nat.ne_of_lt (blk_lt Bg2.out))
    replace Bg2 := bK_ Bg2 hbA
    replace HB := bB_ HB.out hbA
    clear hbA hx0 hxa hy4 hya hz0 hz1 hz2 hz3 hz4 hf0 hf1 hf2 hf3 hf4
    generalize (wc.alloc (.cells #[.int .i64 xo, .int .i64 0, .int .i64 0, .int .i64 0, .int .i64 xc] 48)).drew = wS at Bg2 Bg4 HB ⊢
    generalize wc.heap.size = g4 at Bg4 Gg4 Ng2g4 ⊢
    go_wp2
    (try simp only [Act.put, sT_, sZ_, sS_])
    go_loopg [31] k (fun kq v31 w' => ∃ (x1 x2 x3 xi : Int), v31 = .int .i64 xi ∧ Aside0 (table_Sums.l0 kq l0 xo xc x1 x2 x3 xi = some (r1, r2, r3, r4, r5, r6)) ∧ Aside0 (kq ≤ k) ∧ Aside0 (w'.heap[g4]? = some (.cells #[.int .i64 xo, .int .i64 x1, .int .i64 x2, .int .i64 x3, .int .i64 xc] 48 (0, 0))) ∧ Aside0 (w'.heap[g2]? = some (.cells #[.int .i64 0, .int .i64 0, .int .i64 0, .int .i64 0, .int .i64 0] 48 (0, 0))) ∧ Aside0 (Below w.heap.size w w'))
    case atStart => exact ⟨0, 0, 0, 0, rfl, H', ⟨Nat.le_refl _⟩, Bg4, Bg2, HB⟩
    case round =>
     clear H' Bg4 Bg2 HB
     obtain ⟨x1, x2, x3, xi, rfl, HA, HK, Bg4, Bg2, HB⟩ := hrel
     cases gk with
     | zero => exact absurd HA.out (by simp [table_Sums.l0])
     | succ k1 =>
      have H := HA.out
      clear HA
      simp only [table_Sums.l0] at H
      by_cases c5 : xi < (l0.length : Int)
      ·rw [if_pos c5] at H
       have c5b0 : decide (xi < (l0.length : Int)) = true := decide_eq_true c5
       by_cases c6 : 0 ≤ xi
       ·rw [if_pos c6] at H
        have c6b0 : decide (0 ≤ xi) = true := decide_eq_true c6
        obtain ⟨ad2, ead, hx0, hx1, hx2, hx3, hx4⟩ := at_T48 (Kd.C_below HR0.out HB.out) xi c6 c5
        cases ead
        have p5 := eq_true c5
        have p6 := eq_true c6
        clear c5 c6
        obtain ⟨y0, hy0⟩ : ∃ x : Int, (rd_T48 l0 xi).f0 = x := ⟨_, rfl⟩
        rw [hy0] at hx0
        obtain ⟨y1, hy1⟩ : ∃ x : Int, (rd_T48 l0 xi).f1 = x := ⟨_, rfl⟩
        rw [hy1] at hx1
        obtain ⟨y2, hy2⟩ : ∃ x : Int, (rd_T48 l0 xi).f2 = x := ⟨_, rfl⟩
        rw [hy2] at hx2
        obtain ⟨y3, hy3⟩ : ∃ x : Int, (rd_T48 l0 xi).f3 = x := ⟨_, rfl⟩
        rw [hy3] at hx3
        obtain ⟨y4, hy4⟩ : ∃ x : Int, (rd_T48 l0 xi).f4 = x := ⟨_, rfl⟩
        rw [hy4] at hx4
        rw [hy1, hy2, hy3] at H
        clear hy0 hy1 hy2 hy3 hy4
        have HH := aA_ H
        clear H
        go_upto_region 9 with (first | (refine box_event rfl (N := 6) rfl (cs := #[.int .i64 0, .int .i64 0, .int .i64 0, .int .i64 0, .int .i64 0]) (t := 48) ?hr ?_; (case hr => go_simp <;> rfl); intro g6 hg w_g6 hbox hb; have Gg6 := gW_ hg HB.out; have Ng2g6 := aA_ ((by rw [hg]; exact Nat.ne_of_lt (blk_lt Bg2.out)) : g2 ≠ g6); have Ng4g6 := aA_ ((by rw [hg]; exact Nat.ne_of_lt (blk_lt Bg4.out)) : g4 ≠ g6); replace Bg2 := bK_ Bg2 hb; replace Bg4 := bK_ Bg4 hb; replace HB := bB_ HB.out hb; have Bg6 := aA_ hbox; clear hb hbox hg; have hw0 := ((blk_cell Bg6.out 0).trans rfl : w_g6.cell? ⟨g6, 0, none⟩ = some (.int .i64 0)); have hv0 := blk_frozen Bg6.out 0; have hw1 := ((blk_cell Bg6.out 1).trans rfl : w_g6.cell? ⟨g6, 1, none⟩ = some (.int .i64 0)); have hv1 := blk_frozen Bg6.out 1; have hw2 := ((blk_cell Bg6.out 2).trans rfl : w_g6.cell? ⟨g6, 2, none⟩ = some (.int .i64 0)); have hv2 := blk_frozen Bg6.out 2; have hw3 := ((blk_cell Bg6.out 3).trans rfl : w_g6.cell? ⟨g6, 3, none⟩ = some (.int .i64 0)); have hv3 := blk_frozen Bg6.out 3; have hw4 := ((blk_cell Bg6.out 4).trans rfl : w_g6.cell? ⟨g6, 4, none⟩ = some (.int .i64 0)); have hv4 := blk_frozen Bg6.out 4))
        have E : (((((w_g6.setCell ⟨g6, 0, none⟩ (.int .i64 y0)).setCell ⟨g6, 1, none⟩ (.int .i64 y1)).setCell ⟨g6, 2, none⟩ (.int .i64 y2)).setCell ⟨g6, 3, none⟩ (.int .i64 y3)).setCell ⟨g6, 4, none⟩ (.int .i64 y4)).heap[g6]? = some (.cells #[.int .i64 y0, .int .i64 y1, .int .i64 y2, .int .i64 y3, .int .i64 y4] 48 (0, 0)) := (blk_put (blk_put (blk_put (blk_put (blk_put Bg6.out 0 _ rfl) 1 _ rfl) 2 _ rfl) 3 _ rfl) 4 _ rfl)
        have L : Lay g6 w_g6 (((((w_g6.setCell ⟨g6, 0, none⟩ (.int .i64 y0)).setCell ⟨g6, 1, none⟩ (.int .i64 y1)).setCell ⟨g6, 2, none⟩ (.int .i64 y2)).setCell ⟨g6, 3, none⟩ (.int .i64 y3)).setCell ⟨g6, 4, none⟩ (.int .i64 y4)) := ((((((Lay.refl g6 w_g6).there _).there _).there _).there _).there _)
        generalize (((((w_g6.setCell ⟨g6, 0, none⟩ (.int .i64 y0)).setCell ⟨g6, 1, none⟩ (.int .i64 y1)).setCell ⟨g6, 2, none⟩ (.int .i64 y2)).setCell ⟨g6, 3, none⟩ (.int .i64 y3)).setCell ⟨g6, 4, none⟩ (.int .i64 y4)) = wA at E L ⊢
        replace Bg2 := aA_ (blk_drew (L.blk Bg2.out Ng2g6.out))
        replace Bg4 := aA_ (blk_drew (L.blk Bg4.out Ng4g6.out))
        replace HB := aA_ (below_drew1 (L.below HB.out Gg6.out))
        replace Bg6 := aA_ (blk_drew E)
        clear E L hw0 hw1 hw2 hw3 hw4 hv0 hv1 hv2 hv3 hv4 hx0 hx1 hx2 hx3 hx4
        refine start_ (n := 15) (S := fun w' => w'.cell? ⟨g6, 1, none⟩ = some (.int .i64 y1) ∧ w'.cell? ⟨g6, 2, none⟩ = some (.int .i64 y2) ∧ w'.cell? ⟨g6, 3, none⟩ = some (.int .i64 y3)) (ds := []) #[false, false, false, false, false, false, false, false, false, false, false, false, false, false, false] (by kernel_rfl) rfl rfl ⟨(blk_cell Bg6.out 1).trans rfl, (blk_cell Bg6.out 2).trans rfl, (blk_cell Bg6.out 3).trans rfl⟩ (fun hHeld => ?_)
        generalize wA.drew = wB at Bg2 Bg4 Bg6 HB hHeld ⊢
        refine pure_ (i := 0) (N := some 35) (v := ?_) (a' := ?_) #[true, false, false, false, false, false, false, false, false, false, false, false, false, false, false] rfl rfl (by kernel_rfl) (fun _ _ _ h => h) (Or.inl ⟨by rfl, ?_⟩) ?_ ?_
        rotate_left
        ·intro w'
         go_simp
         with_reducible rfl
        rotate_left
        ·simp only [Act.put, sT_, sZ_, sS_, i64_w, i32_w]
         rfl
        refine pure_ (i := 1) (N := some 36) (v := ?_) (a' := ?_) #[true, true, false, false, false, false, false, false, false, false, false, false, false, false, false] rfl rfl (by kernel_rfl) (fun _ _ _ h => h) (Or.inl ⟨by rfl, ?_⟩) ?_ ?_
        rotate_left
        ·intro w'
         go_simp
         with_reducible rfl
        rotate_left
        ·simp only [Act.put, sT_, sZ_, sS_, i64_w, i32_w]
         rfl
        refine take_ (i := 2) (N := some 37) (v := ?_) (a' := ?_) #[true, true, true, false, false, false, false, false, false, false, false, false, false, false, false] rfl rfl (by kernel_rfl) (fun _ _ _ h => h) (Or.inl ⟨by rfl, ?_⟩) hHeld ?_ ?_
        rotate_left
        ·rintro w' ⟨s0, s1, s2⟩
         go_simp
         with_reducible rfl
        rotate_left
        ·simp only [Act.put, sT_, sZ_, sS_, i64_w, i32_w]
         rfl
        refine pure_ (i := 4) (N := some 39) (v := ?_) (a' := ?_) #[true, true, true, false, true, false, false, false, false, false, false, false, false, false, false] rfl rfl (by kernel_rfl) (fun _ _ _ h => h) (Or.inl ⟨by rfl, ?_⟩) ?_ ?_
        rotate_left
        ·intro w'
         go_simp
         with_reducible rfl
        rotate_left
        ·simp only [Act.put, sT_, sZ_, sS_, i64_w, i32_w]
         rfl
        refine pure_ (i := 5) (N := some 40) (v := ?_) (a' := ?_) #[true, true, true, false, true, true, false, false, false, false, false, false, false, false, false] rfl rfl (by kernel_rfl) (fun _ _ _ h => h) (Or.inl ⟨by rfl, ?_⟩) ?_ ?_
        rotate_left
        ·intro w'
         go_simp
         with_reducible rfl
        rotate_left
        ·simp only [Act.put, sT_, sZ_, sS_, i64_w, i32_w]
         rfl
        refine take_ (i := 6) (N := some 41) (v := ?_) (a' := ?_) #[true, true, true, false, true, true, true, false, false, false, false, false, false, false, false] rfl rfl (by kernel_rfl) (fun _ _ _ h => h) (Or.inl ⟨by rfl, ?_⟩) hHeld ?_ ?_
        rotate_left
        ·rintro w' ⟨s0, s1, s2⟩
         go_simp
         with_reducible rfl
        rotate_left
        ·simp only [Act.put, sT_, sZ_, sS_, i64_w, i32_w]
         rfl
        refine pure_ (i := 8) (N := some 43) (v := ?_) (a' := ?_) #[true, true, true, false, true, true, true, false, true, false, false, false, false, false, false] rfl rfl (by kernel_rfl) (fun _ _ _ h => h) (Or.inl ⟨by rfl, ?_⟩) ?_ ?_
        rotate_left
        ·intro w'
         go_simp
         with_reducible rfl
        rotate_left
        ·simp only [Act.put, sT_, sZ_, sS_, i64_w, i32_w]
         rfl
        refine pure_ (i := 9) (N := some 44) (v := ?_) (a' := ?_) #[true, true, true, false, true, true, true, false, true, true, false, false, false, false, false] rfl rfl (by kernel_rfl) (fun _ _ _ h => h) (Or.inl ⟨by rfl, ?_⟩) ?_ ?_
        rotate_left
        ·intro w'
         go_simp
         with_reducible rfl
        rotate_left
        ·simp only [Act.put, sT_, sZ_, sS_, i64_w, i32_w]
         rfl
        refine take_ (i := 10) (N := some 45) (v := ?_) (a' := ?_) #[true, true, true, false, true, true, true, false, true, true, true, false, false, false, false] rfl rfl (by kernel_rfl) (fun _ _ _ h => h) (Or.inl ⟨by rfl, ?_⟩) hHeld ?_ ?_
        rotate_left
        ·rintro w' ⟨s0, s1, s2⟩
         go_simp
         with_reducible rfl
        rotate_left
        ·simp only [Act.put, sT_, sZ_, sS_, i64_w, i32_w]
         rfl
        refine one_ (i := 3) (N := some 38) #[true, true, true, true, true, true, true, false, true, true, true, false, false, false, false] rfl rfl (by kernel_rfl) (by decide) (fun K hK => ?_)
        refine goes_ Try.func47 (by kernel_rfl) rfl #[.pointer (some ⟨g4, 1, none⟩), .int .i64 y1] (by rfl) rfl rfl (by (try simp only [mT_, mC_, mN_]); first | done | rfl) ?_
        refine (sum_calls g4 1 (fun v_ => .cells #[.int .i64 xo, .int .i64 v_, .int .i64 x2, .int .i64 x3, .int .i64 xc] 48 (0, 0)) x1 y1 _ Bg4.out (fun v_ => blk_put Bg4.out 1 _ rfl) ((blk_cell Bg4.out 1).trans rfl) (blk_frozen Bg4.out 1)).mono ?_
        rintro e v1 ⟨rfl, hb4, L⟩
        refine ⟨_, rfl, ?_⟩
        replace Bg6 := aA_ (L.blk Bg6.out Ng4g6.out.symm)
        replace Bg2 := aA_ (L.blk Bg2.out Ng2g4.out)
        replace HB := aA_ (L.below HB.out Gg4.out)
        replace Bg4 := aA_ hb4
        clear hb4 L
        (try dsimp only at Bg4)
        refine hK.out _ _ ⟨(blk_cell Bg6.out 1).trans rfl, (blk_cell Bg6.out 2).trans rfl, (blk_cell Bg6.out 3).trans rfl⟩ (fun hHeld => ?_)
        clear hK K
        refine norm_ (by show Act.put _ (some 38) _ = _; simp only [Act.put, sT_, sZ_, sS_, i64_w, i32_w] <;> rfl) ?_
        refine one_ (i := 7) (N := some 42) #[true, true, true, true, true, true, true, true, true, true, true, false, false, false, false] rfl rfl (by kernel_rfl) (by decide) (fun K hK => ?_)
        refine goes_ Try.func47 (by kernel_rfl) rfl #[.pointer (some ⟨g4, 2, none⟩), .int .i64 y2] (by rfl) rfl rfl (by (try simp only [mT_, mC_, mN_]); first | done | rfl) ?_
        refine (sum_calls g4 2 (fun v_ => .cells #[.int .i64 xo, .int .i64 (addv x1 y1), .int .i64 v_, .int .i64 x3, .int .i64 xc] 48 (0, 0)) x2 y2 _ Bg4.out (fun v_ => blk_put Bg4.out 2 _ rfl) ((blk_cell Bg4.out 2).trans rfl) (blk_frozen Bg4.out 2)).mono ?_
        rintro e v2 ⟨rfl, hb4, L⟩
        refine ⟨_, rfl, ?_⟩
        replace Bg6 := aA_ (L.blk Bg6.out Ng4g6.out.symm)
        replace Bg2 := aA_ (L.blk Bg2.out Ng2g4.out)
        replace HB := aA_ (L.below HB.out Gg4.out)
        replace Bg4 := aA_ hb4
        clear hb4 L
        (try dsimp only at Bg4)
        refine hK.out _ _ ⟨(blk_cell Bg6.out 1).trans rfl, (blk_cell Bg6.out 2).trans rfl, (blk_cell Bg6.out 3).trans rfl⟩ (fun hHeld => ?_)
        clear hK K
        refine norm_ (by show Act.put _ (some 42) _ = _; simp only [Act.put, sT_, sZ_, sS_, i64_w, i32_w] <;> rfl) ?_
        refine one_ (i := 11) (N := some 46) #[true, true, true, true, true, true, true, true, true, true, true, true, false, false, false] rfl rfl (by kernel_rfl) (by decide) (fun K hK => ?_)
        refine goes_ Try.func47 (by kernel_rfl) rfl #[.pointer (some ⟨g4, 3, none⟩), .int .i64 y3] (by rfl) rfl rfl (by (try simp only [mT_, mC_, mN_]); first | done | rfl) ?_
        refine (sum_calls g4 3 (fun v_ => .cells #[.int .i64 xo, .int .i64 (addv x1 y1), .int .i64 (addv x2 y2), .int .i64 v_, .int .i64 xc] 48 (0, 0)) x3 y3 _ Bg4.out (fun v_ => blk_put Bg4.out 3 _ rfl) ((blk_cell Bg4.out 3).trans rfl) (blk_frozen Bg4.out 3)).mono ?_
        rintro e v3 ⟨rfl, hb4, L⟩
        refine ⟨_, rfl, ?_⟩
        replace Bg6 := aA_ (L.blk Bg6.out Ng4g6.out.symm)
        replace Bg2 := aA_ (L.blk Bg2.out Ng2g4.out)
        replace HB := aA_ (L.below HB.out Gg4.out)
        replace Bg4 := aA_ hb4
        clear hb4 L
        (try dsimp only at Bg4)
        refine hK.out _ _ ⟨(blk_cell Bg6.out 1).trans rfl, (blk_cell Bg6.out 2).trans rfl, (blk_cell Bg6.out 3).trans rfl⟩ (fun hHeld => ?_)
        clear hK K
        refine norm_ (by show Act.put _ (some 46) _ = _; simp only [Act.put, sT_, sZ_, sS_, i64_w, i32_w] <;> rfl) ?_
        refine pure_ (i := 12) (N := some 7) (v := ?_) (a' := ?_) #[true, true, true, true, true, true, true, true, true, true, true, true, true, false, false] rfl rfl (by kernel_rfl) (fun _ _ _ h => h) (Or.inl ⟨by rfl, ?_⟩) ?_ ?_
        rotate_left
        ·intro w'
         go_simp
         with_reducible rfl
        rotate_left
        ·simp only [Act.put, sT_, sZ_, sS_, i64_w, i32_w]
         rfl
        refine pure_ (i := 13) (N := some 8) (v := ?_) (a' := ?_) #[true, true, true, true, true, true, true, true, true, true, true, true, true, true, false] rfl rfl (by kernel_rfl) (fun _ _ _ h => h) (Or.inl ⟨by rfl, ?_⟩) ?_ ?_
        rotate_left
        ·intro w'
         go_simp
         with_reducible rfl
        rotate_left
        ·simp only [Act.put, sT_, sZ_, sS_, i64_w, i32_w]
         rfl
        refine pure_ (i := 14) (N := some 9) (v := ?_) (a' := ?_) #[true, true, true, true, true, true, true, true, true, true, true, true, true, true, true] rfl rfl (by kernel_rfl) (fun _ _ _ h => h) (Or.inl ⟨by rfl, ?_⟩) ?_ ?_
        rotate_left
        ·intro w'
         go_simp
         with_reducible rfl
        rotate_left
        ·simp only [Act.put, sT_, sZ_, sS_, i64_w, i32_w]
         rfl
        refine done_ (by kernel_rfl) ?_
        clear hHeld Bg6
        cases hF1 : fitsB x1 y1 with
        | false =>
         have H := HH.out
         simp only [hF1, Bool.and_true, Bool.and_false, Bool.true_and, Bool.false_and, Bool.false_eq_true, if_false] at H
         simp only [Option.some.injEq, Prod.mk.injEq] at H
         obtain ⟨rfl, rfl, rfl, rfl, rfl, rfl⟩ := H
         have hz0 := ((blk_cell Bg2.out 0).trans rfl : v3.cell? ⟨g2, 0, none⟩ = some (.int .i64 0))
         have hf0 := blk_frozen Bg2.out 0
         have hz1 := ((blk_cell Bg2.out 1).trans rfl : v3.cell? ⟨g2, 1, none⟩ = some (.int .i64 0))
         have hf1 := blk_frozen Bg2.out 1
         have hz2 := ((blk_cell Bg2.out 2).trans rfl : v3.cell? ⟨g2, 2, none⟩ = some (.int .i64 0))
         have hf2 := blk_frozen Bg2.out 2
         have hz3 := ((blk_cell Bg2.out 3).trans rfl : v3.cell? ⟨g2, 3, none⟩ = some (.int .i64 0))
         have hf3 := blk_frozen Bg2.out 3
         have hz4 := ((blk_cell Bg2.out 4).trans rfl : v3.cell? ⟨g2, 4, none⟩ = some (.int .i64 0))
         have hf4 := blk_frozen Bg2.out 4
         go_wp2
         have E : (((((v3.setCell ⟨g2, 0, none⟩ (.int .i64 0)).setCell ⟨g2, 1, none⟩ (.int .i64 0)).setCell ⟨g2, 2, none⟩ (.int .i64 0)).setCell ⟨g2, 3, none⟩ (.int .i64 0)).setCell ⟨g2, 4, none⟩ (.int .i64 0)).heap[g2]? = some (.cells #[.int .i64 0, .int .i64 0, .int .i64 0, .int .i64 0, .int .i64 0] 48 (0, 0)) := (blk_put (blk_put (blk_put (blk_put (blk_put Bg2.out 0 _ rfl) 1 _ rfl) 2 _ rfl) 3 _ rfl) 4 _ rfl)
         have HBe : Below w.heap.size w (((((v3.setCell ⟨g2, 0, none⟩ (.int .i64 0)).setCell ⟨g2, 1, none⟩ (.int .i64 0)).setCell ⟨g2, 2, none⟩ (.int .i64 0)).setCell ⟨g2, 3, none⟩ (.int .i64 0)).setCell ⟨g2, 4, none⟩ (.int .i64 0)) := (below_set (below_set (below_set (below_set (below_set HB.out Gg2.out) Gg2.out) Gg2.out) Gg2.out) Gg2.out)
         refine bodyPost_ret (results_ct rfl _ _ g2 48 #[.int .i64 0, .int .i64 0, .int .i64 0, .int .i64 0, .int .i64 0] (0, 0) _ rfl E Try.underlying48 rfl (by kernel_rfl)) rfl ?_
         exact ⟨rfl, HBe⟩
        | true =>
         cases hF2 : fitsB x2 y2 with
         | false =>
          have H := HH.out
          simp only [hF1, hF2, Bool.and_true, Bool.and_false, Bool.true_and, Bool.false_and, Bool.false_eq_true, if_false] at H
          simp only [Option.some.injEq, Prod.mk.injEq] at H
          obtain ⟨rfl, rfl, rfl, rfl, rfl, rfl⟩ := H
          have hz0 := ((blk_cell Bg2.out 0).trans rfl : v3.cell? ⟨g2, 0, none⟩ = some (.int .i64 0))
          have hf0 := blk_frozen Bg2.out 0
          have hz1 := ((blk_cell Bg2.out 1).trans rfl : v3.cell? ⟨g2, 1, none⟩ = some (.int .i64 0))
          have hf1 := blk_frozen Bg2.out 1
          have hz2 := ((blk_cell Bg2.out 2).trans rfl : v3.cell? ⟨g2, 2, none⟩ = some (.int .i64 0))
          have hf2 := blk_frozen Bg2.out 2
          have hz3 := ((blk_cell Bg2.out 3).trans rfl : v3.cell? ⟨g2, 3, none⟩ = some (.int .i64 0))
          have hf3 := blk_frozen Bg2.out 3
          have hz4 := ((blk_cell Bg2.out 4).trans rfl : v3.cell? ⟨g2, 4, none⟩ = some (.int .i64 0))
          have hf4 := blk_frozen Bg2.out 4
          go_wp2
          have E : (((((v3.setCell ⟨g2, 0, none⟩ (.int .i64 0)).setCell ⟨g2, 1, none⟩ (.int .i64 0)).setCell ⟨g2, 2, none⟩ (.int .i64 0)).setCell ⟨g2, 3, none⟩ (.int .i64 0)).setCell ⟨g2, 4, none⟩ (.int .i64 0)).heap[g2]? = some (.cells #[.int .i64 0, .int .i64 0, .int .i64 0, .int .i64 0, .int .i64 0] 48 (0, 0)) := (blk_put (blk_put (blk_put (blk_put (blk_put Bg2.out 0 _ rfl) 1 _ rfl) 2 _ rfl) 3 _ rfl) 4 _ rfl)
          have HBe : Below w.heap.size w (((((v3.setCell ⟨g2, 0, none⟩ (.int .i64 0)).setCell ⟨g2, 1, none⟩ (.int .i64 0)).setCell ⟨g2, 2, none⟩ (.int .i64 0)).setCell ⟨g2, 3, none⟩ (.int .i64 0)).setCell ⟨g2, 4, none⟩ (.int .i64 0)) := (below_set (below_set (below_set (below_set (below_set HB.out Gg2.out) Gg2.out) Gg2.out) Gg2.out) Gg2.out)
          refine bodyPost_ret (results_ct rfl _ _ g2 48 #[.int .i64 0, .int .i64 0, .int .i64 0, .int .i64 0, .int .i64 0] (0, 0) _ rfl E Try.underlying48 rfl (by kernel_rfl)) rfl ?_
          exact ⟨rfl, HBe⟩
         | true =>
          cases hF3 : fitsB x3 y3 with
          | false =>
           have H := HH.out
           simp only [hF1, hF2, hF3, Bool.and_true, Bool.and_false, Bool.true_and, Bool.false_and, Bool.false_eq_true, if_false] at H
           simp only [Option.some.injEq, Prod.mk.injEq] at H
           obtain ⟨rfl, rfl, rfl, rfl, rfl, rfl⟩ := H
           have hz0 := ((blk_cell Bg2.out 0).trans rfl : v3.cell? ⟨g2, 0, none⟩ = some (.int .i64 0))
           have hf0 := blk_frozen Bg2.out 0
           have hz1 := ((blk_cell Bg2.out 1).trans rfl : v3.cell? ⟨g2, 1, none⟩ = some (.int .i64 0))
           have hf1 := blk_frozen Bg2.out 1
           have hz2 := ((blk_cell Bg2.out 2).trans rfl : v3.cell? ⟨g2, 2, none⟩ = some (.int .i64 0))
           have hf2 := blk_frozen Bg2.out 2
           have hz3 := ((blk_cell Bg2.out 3).trans rfl : v3.cell? ⟨g2, 3, none⟩ = some (.int .i64 0))
           have hf3 := blk_frozen Bg2.out 3
           have hz4 := ((blk_cell Bg2.out 4).trans rfl : v3.cell? ⟨g2, 4, none⟩ = some (.int .i64 0))
           have hf4 := blk_frozen Bg2.out 4
           go_wp2
           have E : (((((v3.setCell ⟨g2, 0, none⟩ (.int .i64 0)).setCell ⟨g2, 1, none⟩ (.int .i64 0)).setCell ⟨g2, 2, none⟩ (.int .i64 0)).setCell ⟨g2, 3, none⟩ (.int .i64 0)).setCell ⟨g2, 4, none⟩ (.int .i64 0)).heap[g2]? = some (.cells #[.int .i64 0, .int .i64 0, .int .i64 0, .int .i64 0, .int .i64 0] 48 (0, 0)) := (blk_put (blk_put (blk_put (blk_put (blk_put Bg2.out 0 _ rfl) 1 _ rfl) 2 _ rfl) 3 _ rfl) 4 _ rfl)
           have HBe : Below w.heap.size w (((((v3.setCell ⟨g2, 0, none⟩ (.int .i64 0)).setCell ⟨g2, 1, none⟩ (.int .i64 0)).setCell ⟨g2, 2, none⟩ (.int .i64 0)).setCell ⟨g2, 3, none⟩ (.int .i64 0)).setCell ⟨g2, 4, none⟩ (.int .i64 0)) := (below_set (below_set (below_set (below_set (below_set HB.out Gg2.out) Gg2.out) Gg2.out) Gg2.out) Gg2.out)
           refine bodyPost_ret (results_ct rfl _ _ g2 48 #[.int .i64 0, .int .i64 0, .int .i64 0, .int .i64 0, .int .i64 0] (0, 0) _ rfl E Try.underlying48 rfl (by kernel_rfl)) rfl ?_
           exact ⟨rfl, HBe⟩
          | true =>
           have H := HH.out
           simp only [hF1, hF2, hF3, Bool.and_true, if_true] at H
           have H' := aA_ H
           clear H hF1 hF2 hF3
           go_wp2
           go_roundg k1
           case measure => have := HK.out; omega
           case rel => exact ⟨addv x1 y1, addv x2 y2, addv x3 y3, wrap64 (xi + 1), (by first | rfl | simp | simp [*]), H', ⟨by have := HK.out; omega⟩, Bg4, Bg2, HB⟩
       ·rw [if_neg c6] at H
        exact absurd H (by simp)
      ·rw [if_neg c5] at H
       have c5b0 : decide (xi < (l0.length : Int)) = false := decide_eq_false c5
       clear c5
       simp only [Option.some.injEq, Prod.mk.injEq] at H
       obtain ⟨rfl, rfl, rfl, rfl, rfl, rfl⟩ := H
       have hz0 := ((blk_cell Bg2.out 0).trans rfl : wr.cell? ⟨g2, 0, none⟩ = some (.int .i64 0))
       have hf0 := blk_frozen Bg2.out 0
       have hw0 := ((blk_cell Bg4.out 0).trans rfl : wr.cell? ⟨g4, 0, none⟩ = some (.int .i64 xo))
       have hz1 := ((blk_cell Bg2.out 1).trans rfl : wr.cell? ⟨g2, 1, none⟩ = some (.int .i64 0))
       have hf1 := blk_frozen Bg2.out 1
       have hw1 := ((blk_cell Bg4.out 1).trans rfl : wr.cell? ⟨g4, 1, none⟩ = some (.int .i64 x1))
       have hz2 := ((blk_cell Bg2.out 2).trans rfl : wr.cell? ⟨g2, 2, none⟩ = some (.int .i64 0))
       have hf2 := blk_frozen Bg2.out 2
       have hw2 := ((blk_cell Bg4.out 2).trans rfl : wr.cell? ⟨g4, 2, none⟩ = some (.int .i64 x2))
       have hz3 := ((blk_cell Bg2.out 3).trans rfl : wr.cell? ⟨g2, 3, none⟩ = some (.int .i64 0))
       have hf3 := blk_frozen Bg2.out 3
       have hw3 := ((blk_cell Bg4.out 3).trans rfl : wr.cell? ⟨g4, 3, none⟩ = some (.int .i64 x3))
       have hz4 := ((blk_cell Bg2.out 4).trans rfl : wr.cell? ⟨g2, 4, none⟩ = some (.int .i64 0))
       have hf4 := blk_frozen Bg2.out 4
       have hw4 := ((blk_cell Bg4.out 4).trans rfl : wr.cell? ⟨g4, 4, none⟩ = some (.int .i64 xc))
       go_wp2
       have E : (((((wr.setCell ⟨g2, 0, none⟩ (.int .i64 xo)).setCell ⟨g2, 1, none⟩ (.int .i64 x1)).setCell ⟨g2, 2, none⟩ (.int .i64 x2)).setCell ⟨g2, 3, none⟩ (.int .i64 x3)).setCell ⟨g2, 4, none⟩ (.int .i64 xc)).heap[g2]? = some (.cells #[.int .i64 xo, .int .i64 x1, .int .i64 x2, .int .i64 x3, .int .i64 xc] 48 (0, 0)) := (blk_put (blk_put (blk_put (blk_put (blk_put Bg2.out 0 _ rfl) 1 _ rfl) 2 _ rfl) 3 _ rfl) 4 _ rfl)
       have HBe : Below w.heap.size w (((((wr.setCell ⟨g2, 0, none⟩ (.int .i64 xo)).setCell ⟨g2, 1, none⟩ (.int .i64 x1)).setCell ⟨g2, 2, none⟩ (.int .i64 x2)).setCell ⟨g2, 3, none⟩ (.int .i64 x3)).setCell ⟨g2, 4, none⟩ (.int .i64 xc)) := (below_set (below_set (below_set (below_set (below_set HB.out Gg2.out) Gg2.out) Gg2.out) Gg2.out) Gg2.out)
       refine bodyPost_ret (results_ct rfl _ _ g2 48 #[.int .i64 xo, .int .i64 x1, .int .i64 x2, .int .i64 x3, .int .i64 xc] (0, 0) _ rfl E Try.underlying48 rfl (by kernel_rfl)) rfl ?_
       exact ⟨rfl, HBe⟩
   ·rw [if_neg d3] at h
    exact absurd h (by simp)
  ·rw [if_neg d2] at h
   exact absurd h (by simp)
 ·rw [if_neg d1] at h
  exact absurd h (by simp)
end Go.Proofs.Yteikafepdkijdaa.X
