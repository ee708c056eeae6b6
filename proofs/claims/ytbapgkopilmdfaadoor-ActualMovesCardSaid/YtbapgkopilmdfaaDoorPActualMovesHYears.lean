-- cut by prune.py, a program of this session
import Derived.Test.YtbapgkopilmdfaaDoorPActualMovesHActual
import Derived.Test.YtbapgkopilmdfaaDoorPActualMovesXEnds
import Derived.Maps.OwnOps
import Derived.Maps.Views
import Derived.Carry
import Derived.LoopTactic
import Derived.Deep.LoopGhost
namespace Go.Proofs.YtbapgkopilmdfaaDoor.X
open Go.RowKit Go.Maps Go.Proofs.YtbapgkopilmdfaaDoorW.PrintWords Go.Proofs.YtbapgkopilmdfaaDoorW.PrintLast Go.Proofs.YtbapgkopilmdfaaDoorW.PrintMore
attribute [local go_sem] max2_mx min2_mn max_two min_two
set_option linter.unusedVariables false
set_option linter.unusedSimpArgs false

def actual_years.l0 : Nat → Int → Int → Int → Int → Nat → Int → Int → Option (Int × Int)
 | 0, _, _, _, _, _, _, _ => none
 | k + 1, a, b, y, t, i, d5, d6 => if (i : Int) < t then (actual_ends.f k (wrap64 (y + (i : Int)))).bind fun e => (if e.2 = 365 then actual_years.l0 k a b y t (i + 1) (wrap64 (d5 + wrap64 (mn b (wrap64 (e.1 + 365)) - mx a e.1))) d6 else if e.2 = 366 then actual_years.l0 k a b y t (i + 1) d5 (wrap64 (d6 + wrap64 (mn b (wrap64 (e.1 + 366)) - mx a e.1))) else none) else some (d5, d6)
def actual_years.f (k : Nat) (a b : Int) : Option (Int × Int × Int) := (civil_Of.f k a).bind fun x => (civil_Of.f k b).bind fun y => (actual_years.l0 k a b x.1 (wrap64 (wrap64 (y.1 - x.1) + 1)) 0 0 0).bind fun d => (ratio_New.f k d.1 365).bind fun p => (ratio_New.f k d.2 366).bind fun q => ratio_Add.f p.1 p.2.1 q.1 q.2.1
theorem actual_years.mono_l : ∀ k a b y t i d5 d6, LeO (actual_years.l0 k a b y t i d5 d6) (actual_years.l0 (k + 1) a b y t i d5 d6)
 | 0 => fun _ _ _ _ _ _ _ r h => by simp [actual_years.l0] at h
 | k + 1 => fun a b y t i d5 d6 => by
  rw [actual_years.l0, actual_years.l0]
  exact LeO.ite (LeO.bind (actual_ends.mono _ _) (fun _ => LeO.ite (actual_years.mono_l k _ _ _ _ _ _ _) (LeO.ite (actual_years.mono_l k _ _ _ _ _ _ _) (LeO.refl _)))) (LeO.refl _)
theorem actual_years.mono : ∀ a b k, LeO (actual_years.f k a b) (actual_years.f (k + 1) a b) := fun a b k => LeO.bind (civil_Of.mono _ _) (fun _ => LeO.bind (civil_Of.mono _ _) (fun _ => LeO.bind (actual_years.mono_l _ _ _ _ _ _ _ _) (fun _ => LeO.bind (ratio_New.mono _ _ _) (fun _ => LeO.bind (ratio_New.mono _ _ _) (fun _ => LeO.refl _)))))

theorem own_blk {P : Program} {k : TypeId} {R : Value → Option (DataW Unit × List MemPlace)} {b n : Nat} {D : DataW Unit} {w w' : World} (h : w.ownsMap P k R b n D) (e : w'.heap[b]? = w.heap[b]?) : w'.ownsMap P k R b n D := by
 obtain ⟨es, cl, h1, r⟩ := h
 exact ⟨es, cl, e.trans h1, r⟩
theorem own_below {P : Program} {k : TypeId} {R : Value → Option (DataW Unit × List MemPlace)} {b n : Nat} {D : DataW Unit} {w w' : World} (h : w.ownsMap P k R b n D) (hb : Below w.heap.size w w') : w'.ownsMap P k R b n D := own_blk h (hb.block _ h.lt)
theorem own_set {P : Program} {k : TypeId} {R : Value → Option (DataW Unit × List MemPlace)} {b n g j : Nat} {D : DataW Unit} {w : World} (h : w.ownsMap P k R b n D) (hne : g ≠ b) (u : Value) : (w.setCell ⟨g, j, none⟩ u).ownsMap P k R b n D := own_blk h (Below.heap_setCell _ _ _ _ (fun e => hne e.symm))
theorem own_map {P : Program} {k : TypeId} {R : Value → Option (DataW Unit × List MemPlace)} {b n : Nat} {D : DataW Unit} {w : World} (h : w.ownsMap P k R b n D) : IsMap D := by
 obtain ⟨es, cl, h1, _, _, rfl⟩ := h
 exact ⟨_, rfl⟩
theorem own_ne {P : Program} {k : TypeId} {R : Value → Option (DataW Unit × List MemPlace)} {b n g : Nat} {D : DataW Unit} {w : World} {cs : Array Value} {t : TypeId} (h : w.ownsMap P k R b n D) (hg : w.heap[g]? = some (.cells cs t (0, 0))) : g ≠ b := by
 obtain ⟨es, cl, h1, _⟩ := h
 rintro rfl
 rw [h1] at hg
 simp at hg
theorem grown_blk {w w' : World} {g b : Nat} {o : Obj} (h : w.heap[g]? = some o) (hg : w.grownBy w' (some b)) (hne : g ≠ b) : w'.heap[g]? = some o := (hg.block g (blk_lt h) (by simp; exact hne)).trans h
def At2 (D : DataW Unit) (d5 d6 : Int) : Prop := D.atKey (.int .i64 365) (.lit (.int .i64 0)) = .lit (.int .i64 d5) ∧ D.atKey (.int .i64 366) (.lit (.int .i64 0)) = .lit (.int .i64 d6)
theorem At2.nil : At2 (.map []) 0 0 := ⟨rfl, rfl⟩
theorem At2.put5 {D : DataW Unit} {d5 d6 : Int} (h : At2 D d5 d6) (m : IsMap D) (x : Int) : At2 (D.put (.int .i64 365) (.lit (.int .i64 x))) x d6 := ⟨atKey_put_same (k := .int .i64 365) m trivial _ _, (atKey_put_other (by intro e; cases e) _ _).trans h.2⟩
theorem At2.put6 {D : DataW Unit} {d5 d6 : Int} (h : At2 D d5 d6) (m : IsMap D) (x : Int) : At2 (D.put (.int .i64 366) (.lit (.int .i64 x))) d5 x := ⟨(atKey_put_other (by intro e; cases e) _ _).trans h.1, atKey_put_same (k := .int .i64 366) m trivial _ _⟩
theorem At2.five {D : DataW Unit} {d5 d6 c : Int} (h : At2 D d5 d6) (hc : D.atKey (.int .i64 365) (.lit (.int .i64 0)) = .lit (.int .i64 c)) : c = d5 := by
 have := hc.symm.trans h.1
 simpa using this
theorem At2.six {D : DataW Unit} {d5 d6 c : Int} (h : At2 D d5 d6) (hc : D.atKey (.int .i64 366) (.lit (.int .i64 0)) = .lit (.int .i64 c)) : c = d6 := by
 have := hc.symm.trans h.2
 simpa using this
theorem keyed3 : Keyed Tryd.prog 3 := int_keyed Tryd.underlying3
theorem zeroI (w : World) : (zeroValue 3).run Tryd.prog w = .ok (.int .i64 0) w := by kernel_rfl
theorem key5 : keyOf Tryd.prog 3 (.int .i64 365) = some (.int .i64 365) := keyOf_int_mk Tryd.underlying3 (by decide)
theorem key6 : keyOf Tryd.prog 3 (.int .i64 366) = some (.int .i64 366) := keyOf_int_mk Tryd.underlying3 (by decide)
theorem w64_lt (x : Int) : wrap64 x < 9223372036854775808 := by
 unfold wrap64
 omega

set_option maxHeartbeats 8000000 in
set_option maxRecDepth 100000 in
theorem years_part (k : Nat) (a b r1 r2 r3 : Int) (p q : Nat) (w : World) (hv : Vars w) (hp : w.heap[p]? = some (.cells #[.int .i64 a] 3 (0, 0))) (hq : w.heap[q]? = some (.cells #[.int .i64 b] 3 (0, 0))) (h : actual_years.f k a b = some (r1, r2, r3)) : Calls Tryd.prog 27 #[.pointer (some ⟨p, 0, none⟩), .pointer (some ⟨q, 0, none⟩)] w fun e w' => e = .returned (.tuple #[.agg #[.int .i64 r1, .int .i64 r2], .int .i64 r3]) ∧ Below w.heap.size w w' := by
 have HV := aA_ hv
 have Wp := aA_ hp
 have Wq := aA_ hq
 have huR := Tryd.underlying24
 have huC := Tryd.underlying41
 have hmm := @run_makeMap Tryd.prog
 have HB := aA_ (Below.refl w.heap.size w)
 clear hv hp hq
 unfold actual_years.f at h
 replace h := bI_ h
 obtain ⟨⟨x1, x2, x3, x4⟩, A0, h⟩ := h
 replace h := bI_ h
 obtain ⟨⟨y1, y2, y3, y4⟩, A1, h⟩ := h
 replace h := bI_ h
 obtain ⟨⟨s5, s6⟩, A2, h⟩ := h
 replace h := bI_ h
 obtain ⟨⟨p1, p2, p3⟩, A3, h⟩ := h
 replace h := bI_ h
 obtain ⟨⟨q1, q2, q3⟩, A4, h⟩ := h
 dsimp only at A2 A3 A4 h
 have AX := aA_ A0
 have AY := aA_ A1
 have AL := aA_ A2
 have AP := aA_ A3
 have AQ := aA_ A4
 have AR := aA_ h
 clear A0 A1 A2 A3 A4 h
 go_enter Tryd.func27, Tryd.ntmps27
 go_upto_region 2 with (first | (refine box_event rfl (N := 2) rfl (cs := #[.int .i64 0, .int .i64 0]) (t := 24) ?hr ?_; (case hr => go_simp <;> rfl); intro g hg w_g hbox hb; have Gg := gW_ hg HB.out; replace HB := bB_ HB.out hb; have Bg := aA_ hbox; clear hb hbox hg; have hxp := ((blk_cell (blk_below Wp.out HB.out) 0).trans rfl : w_g.cell? ⟨p, 0, none⟩ = some (.int .i64 a)); have hxq := ((blk_cell (blk_below Wq.out HB.out) 0).trans rfl : w_g.cell? ⟨q, 0, none⟩ = some (.int .i64 b))) | (refine goesL_ (some 18) rfl rfl Tryd.func28 (by kernel_rfl) rfl #[.int .i64 a] rfl (by (try simp only [mT_, mC_, mN_]); first | done | rfl) ?_; (with_reducible refine (civil_Of.calls k a x1 x2 x3 x4 _ ?sv AX.out).mono ?_); (case sv => exact HV.out.below HB.out); rintro e wc ⟨rfl, hb⟩; refine ⟨_, rfl, ?_⟩; replace Bg := bK_ Bg hb; replace HB := bB_ HB.out hb; clear hb) | (refine box_event rfl (N := 4) rfl (cs := #[.int .i64 0, .int .i64 0, .int .i64 0]) (t := 41) ?hr ?_; (case hr => go_simp <;> rfl); intro c hg w_c hbox hb; have Gc := gW_ hg HB.out; have Ngc := aA_ ((by rw [hg]; exact Nat.ne_of_lt (blk_lt Bg.out)) : g ≠ c); replace Bg := bK_ Bg hb; replace HB := bB_ HB.out hb; have Bc := aA_ hbox; clear hb hbox hg; have hzc0 := ((blk_cell Bc.out 0).trans rfl : w_c.cell? ⟨c, 0, none⟩ = some (.int .i64 0)); have hfc0 := blk_frozen Bc.out 0; have hzc1 := ((blk_cell Bc.out 1).trans rfl : w_c.cell? ⟨c, 1, none⟩ = some (.int .i64 0)); have hfc1 := blk_frozen Bc.out 1; have hzc2 := ((blk_cell Bc.out 2).trans rfl : w_c.cell? ⟨c, 2, none⟩ = some (.int .i64 0)); have hfc2 := blk_frozen Bc.out 2))
 clear hxp hxq
 have E := aA_ (below_set (below_set (below_set HB.out Gc.out (j := 0) (v := .int .i64 x1)) Gc.out (j := 1) (v := .int .i64 x2)) Gc.out (j := 2) (v := .int .i64 x3))
 have Ec : (((w_c.setCell ⟨c, 0, none⟩ (.int .i64 x1)).setCell ⟨c, 1, none⟩ (.int .i64 x2)).setCell ⟨c, 2, none⟩ (.int .i64 x3)).heap[c]? = some (.cells #[.int .i64 x1, .int .i64 x2, .int .i64 x3] 41 (0, 0)) := (blk_put (blk_put (blk_put Bc.out 0 (.int .i64 x1) rfl) 1 (.int .i64 x2) rfl) 2 (.int .i64 x3) rfl)
 have Eg := aA_ (blk_far (p := ⟨c, 2, none⟩) (blk_far (p := ⟨c, 1, none⟩) (blk_far (p := ⟨c, 0, none⟩) Bg.out Ngc.out (.int .i64 x1)) Ngc.out (.int .i64 x2)) Ngc.out (.int .i64 x3))
 clear hzc0 hfc0
 clear hzc1 hfc1
 clear hzc2 hfc2
 generalize (((w_c.setCell ⟨c, 0, none⟩ (.int .i64 x1)).setCell ⟨c, 1, none⟩ (.int .i64 x2)).setCell ⟨c, 2, none⟩ (.int .i64 x3)) = wA at E Ec Eg ⊢
 clear HB Bc Bg
 have HB := E
 have Bc := aA_ Ec
 have Bg := Eg
 clear E Ec Eg
 have hxp := ((blk_cell (blk_below Wp.out HB.out) 0).trans rfl : wA.cell? ⟨p, 0, none⟩ = some (.int .i64 a))
 have hxq := ((blk_cell (blk_below Wq.out HB.out) 0).trans rfl : wA.cell? ⟨q, 0, none⟩ = some (.int .i64 b))
 go_upto_region 3 with (first | (refine goesL_ (some 23) rfl rfl Tryd.func28 (by kernel_rfl) rfl #[.int .i64 b] rfl (by (try simp only [mT_, mC_, mN_]); first | done | rfl) ?_; (with_reducible refine (civil_Of.calls k b y1 y2 y3 y4 _ ?sv AY.out).mono ?_); (case sv => exact HV.out.below HB.out); rintro e wc ⟨rfl, hb⟩; refine ⟨_, rfl, ?_⟩; replace Bg := bK_ Bg hb; replace Bc := bK_ Bc hb; replace HB := bB_ HB.out hb; clear hb) | (refine box_event rfl (N := 6) rfl (cs := #[.int .i64 0, .int .i64 0, .int .i64 0]) (t := 41) ?hr ?_; (case hr => go_simp <;> rfl); intro d hg w_d hbox hb; have Gd := gW_ hg HB.out; have Ngd := aA_ ((by rw [hg]; exact Nat.ne_of_lt (blk_lt Bg.out)) : g ≠ d); replace Bg := bK_ Bg hb; have Ncd := aA_ ((by rw [hg]; exact Nat.ne_of_lt (blk_lt Bc.out)) : c ≠ d); replace Bc := bK_ Bc hb; replace HB := bB_ HB.out hb; have Bd := aA_ hbox; clear hb hbox hg; have hzd0 := ((blk_cell Bd.out 0).trans rfl : w_d.cell? ⟨d, 0, none⟩ = some (.int .i64 0)); have hfd0 := blk_frozen Bd.out 0; have hzd1 := ((blk_cell Bd.out 1).trans rfl : w_d.cell? ⟨d, 1, none⟩ = some (.int .i64 0)); have hfd1 := blk_frozen Bd.out 1; have hzd2 := ((blk_cell Bd.out 2).trans rfl : w_d.cell? ⟨d, 2, none⟩ = some (.int .i64 0)); have hfd2 := blk_frozen Bd.out 2))
 clear hxp hxq
 have E := aA_ (below_set (below_set (below_set HB.out Gd.out (j := 0) (v := .int .i64 y1)) Gd.out (j := 1) (v := .int .i64 y2)) Gd.out (j := 2) (v := .int .i64 y3))
 have Ed : (((w_d.setCell ⟨d, 0, none⟩ (.int .i64 y1)).setCell ⟨d, 1, none⟩ (.int .i64 y2)).setCell ⟨d, 2, none⟩ (.int .i64 y3)).heap[d]? = some (.cells #[.int .i64 y1, .int .i64 y2, .int .i64 y3] 41 (0, 0)) := (blk_put (blk_put (blk_put Bd.out 0 (.int .i64 y1) rfl) 1 (.int .i64 y2) rfl) 2 (.int .i64 y3) rfl)
 have Eg := aA_ (blk_far (p := ⟨d, 2, none⟩) (blk_far (p := ⟨d, 1, none⟩) (blk_far (p := ⟨d, 0, none⟩) Bg.out Ngd.out (.int .i64 y1)) Ngd.out (.int .i64 y2)) Ngd.out (.int .i64 y3))
 have Ec := aA_ (blk_far (p := ⟨d, 2, none⟩) (blk_far (p := ⟨d, 1, none⟩) (blk_far (p := ⟨d, 0, none⟩) Bc.out Ncd.out (.int .i64 y1)) Ncd.out (.int .i64 y2)) Ncd.out (.int .i64 y3))
 clear hzd0 hfd0
 clear hzd1 hfd1
 clear hzd2 hfd2
 generalize (((w_d.setCell ⟨d, 0, none⟩ (.int .i64 y1)).setCell ⟨d, 1, none⟩ (.int .i64 y2)).setCell ⟨d, 2, none⟩ (.int .i64 y3)) = wB at E Ed Eg Ec ⊢
 clear HB Bd Bg Bc
 have HB := E
 have Bd := aA_ Ed
 have Bg := Eg
 have Bc := Ec
 clear E Ed Eg Ec
 go_upto_region 4 with (fail)
 have OM := aA_ (World.ownsMap_made (H := Unit) wB Tryd.prog 3 (plainElem Tryd.prog 3))
 have E := aA_ (below_alloc HB.out (.map #[] 0))
 have Eg := aA_ (blk_alloc Bg.out (.map #[] 0))
 have Ec := aA_ (blk_alloc Bc.out (.map #[] 0))
 have Ed := aA_ (blk_alloc Bd.out (.map #[] 0))
 have GM := aA_ (below_size HB.out)
 generalize wB.alloc (.map #[] 0) = wC at OM E Eg Ec Ed ⊢
 generalize wB.heap.size = m at OM GM ⊢
 clear HB Bg Bc Bd hmm
 have HB := E
 have Bg := Eg
 have Bc := Ec
 have Bd := Ed
 clear E Eg Ec Ed
 have hc1 := ((blk_cell Bc.out 0).trans rfl : wC.cell? ⟨c, 0, none⟩ = some (.int .i64 x1))
 have hd1 := ((blk_cell Bd.out 0).trans rfl : wC.cell? ⟨d, 0, none⟩ = some (.int .i64 y1))
 go_wp2
 (try simp only [Act.put, sT_, sZ_, sS_])
 clear hc1 hd1
 have TB := w64_lt (wrap64 (y1 - x1) + 1)
 generalize wrap64 (wrap64 (y1 - x1) + 1) = T at AL TB ⊢
 replace TB := aA_ TB
 have LV := aA_ HV
 go_loopg [33] k (fun kq v33 w' => ∃ (i : Nat) (d5 d6 : Int) (D : DataW Unit), v33 = .int .i64 (i : Int) ∧ Aside0 (actual_years.l0 kq a b x1 T i d5 d6 = some (s5, s6)) ∧ Aside0 (kq ≤ k) ∧ Aside0 (w'.ownsMap Tryd.prog 3 (plainElem Tryd.prog 3) m i D) ∧ Aside0 (At2 D d5 d6) ∧ Aside0 (w'.heap[g]? = some (.cells #[.int .i64 0, .int .i64 0] 24 (0, 0))) ∧ Aside0 (w'.heap[c]? = some (.cells #[.int .i64 x1, .int .i64 x2, .int .i64 x3] 41 (0, 0))) ∧ Aside0 (w'.heap[d]? = some (.cells #[.int .i64 y1, .int .i64 y2, .int .i64 y3] 41 (0, 0))) ∧ Aside0 (Below w.heap.size w w'))
 case atStart => exact ⟨0, 0, 0, _, rfl, AL, ⟨Nat.le_refl _⟩, OM, ⟨At2.nil⟩, Bg, Bc, Bd, HB⟩
 case round =>
  clear AL OM Bg Bc Bd HB
  obtain ⟨i, d5, d6, D, rfl, HA, HK, OM, HD, Bg, Bc, Bd, HB⟩ := hrel
  cases gk with
  | zero => exact absurd HA.out (by simp [actual_years.l0])
  | succ k1 =>
   have H := HA.out
   clear HA
   simp only [actual_years.l0] at H
   by_cases c5 : (i : Int) < T
   ·rw [if_pos c5] at H
    have b0 : decide ((i : Int) < T) = true := decide_eq_true c5
    have HW := aA_ (show wrap64 ((i : Int) + 1) = ((i + 1 : Nat) : Int) by
     have := TB.out
     unfold wrap64
     omega)
    have HI := aA_ (show i < maxLen by
     have := TB.out
     unfold maxLen
     omega)
    clear c5
    replace H := bI_ H
    obtain ⟨⟨e1, e2⟩, A0, H⟩ := H
    dsimp only at H
    have A := aA_ A0
    clear A0
    have hc1 := ((blk_cell Bc.out 0).trans rfl : wr.cell? ⟨c, 0, none⟩ = some (.int .i64 x1))
    by_cases c6 : e2 = 365
    ·rw [if_pos c6] at H
     subst c6
     have H' := aA_ H
     clear H
     go_wp2_with (first
      | (refine goesL_ (some 41) rfl rfl Tryd.func29 (by kernel_rfl) rfl #[.int .i64 (wrap64 (x1 + (i : Int)))] rfl (by (try simp only [mT_, mC_, mN_]); first | done | rfl) ?_; (with_reducible refine (actual_ends.calls k1 (wrap64 (x1 + (i : Int))) e1 365 _ ?sv A.out).mono ?_); (case sv => exact HV.out.below HB.out); rintro e wc ⟨rfl, hb⟩; refine ⟨_, rfl, ?_⟩; clear hc1; replace Bg := bK_ Bg hb; replace Bc := bK_ Bc hb; replace Bd := bK_ Bd hb; replace OM := aA_ (own_below OM.out hb); replace HB := bB_ HB.out hb; clear hb; have hxp := ((blk_cell (blk_below Wp.out HB.out) 0).trans rfl : wc.cell? ⟨p, 0, none⟩ = some (.int .i64 a)); have hxq := ((blk_cell (blk_below Wq.out HB.out) 0).trans rfl : wc.cell? ⟨q, 0, none⟩ = some (.int .i64 b)))
      | (at_lookup; refine wpList_lookup_own_int _ rfl _ _ 49 rfl 3 3 .i64 keyed3 Tryd.underlying49 Tryd.underlying3 (zeroI _) m i _ rfl OM.out _ _ rfl key5 ?_; intro cc hat hwc; obtain rfl : d5 = cc := (At2.five HD.out hat).symm; clear hat hwc)
      | (at_mapUpdate; refine wpList_mapUpdate_own _ rfl _ _ _ 49 rfl 3 3 keyed3 Tryd.underlying49 _ m i _ rfl OM.out HI.out _ _ _ rfl rfl key5 _ [] (plainElem_int Tryd.underlying3 (wrap64_wf _)) ?_; intro w1 hown1 hgrow1; have Ngm := own_ne OM.out Bg.out; have Ncm := own_ne OM.out Bc.out; have Ndm := own_ne OM.out Bd.out; replace HD := aA_ (HD.out.put5 (own_map OM.out) (wrap64 (d5 + wrap64 (mn b (wrap64 (e1 + 365)) - mx a e1)))); clear hxp hxq OM; have OM := aA_ hown1; replace Bg := aA_ (grown_blk Bg.out hgrow1 Ngm); replace Bc := aA_ (grown_blk Bc.out hgrow1 Ncm); replace Bd := aA_ (grown_blk Bd.out hgrow1 Ndm); replace HB := aA_ (HB.out.grown hgrow1 (below_size HB.out) (fun j hj => by cases hj; exact GM.out)); clear hown1 hgrow1 Ngm Ncm Ndm))
     go_roundg k1
     case measure => have := HK.out; omega
     case rel => exact ⟨i + 1, _, _, _, congrArg _ HW.out, H', ⟨by have := HK.out; omega⟩, OM, HD, Bg, Bc, Bd, HB⟩
    ·rw [if_neg c6] at H
     by_cases c7 : e2 = 366
     ·rw [if_pos c7] at H
      subst c7
      have H' := aA_ H
      clear H c6
      go_wp2_with (first
       | (refine goesL_ (some 41) rfl rfl Tryd.func29 (by kernel_rfl) rfl #[.int .i64 (wrap64 (x1 + (i : Int)))] rfl (by (try simp only [mT_, mC_, mN_]); first | done | rfl) ?_; (with_reducible refine (actual_ends.calls k1 (wrap64 (x1 + (i : Int))) e1 366 _ ?sv A.out).mono ?_); (case sv => exact HV.out.below HB.out); rintro e wc ⟨rfl, hb⟩; refine ⟨_, rfl, ?_⟩; clear hc1; replace Bg := bK_ Bg hb; replace Bc := bK_ Bc hb; replace Bd := bK_ Bd hb; replace OM := aA_ (own_below OM.out hb); replace HB := bB_ HB.out hb; clear hb; have hxp := ((blk_cell (blk_below Wp.out HB.out) 0).trans rfl : wc.cell? ⟨p, 0, none⟩ = some (.int .i64 a)); have hxq := ((blk_cell (blk_below Wq.out HB.out) 0).trans rfl : wc.cell? ⟨q, 0, none⟩ = some (.int .i64 b)))
       | (at_lookup; refine wpList_lookup_own_int _ rfl _ _ 49 rfl 3 3 .i64 keyed3 Tryd.underlying49 Tryd.underlying3 (zeroI _) m i _ rfl OM.out _ _ rfl key6 ?_; intro cc hat hwc; obtain rfl : d6 = cc := (At2.six HD.out hat).symm; clear hat hwc)
       | (at_mapUpdate; refine wpList_mapUpdate_own _ rfl _ _ _ 49 rfl 3 3 keyed3 Tryd.underlying49 _ m i _ rfl OM.out HI.out _ _ _ rfl rfl key6 _ [] (plainElem_int Tryd.underlying3 (wrap64_wf _)) ?_; intro w1 hown1 hgrow1; have Ngm := own_ne OM.out Bg.out; have Ncm := own_ne OM.out Bc.out; have Ndm := own_ne OM.out Bd.out; replace HD := aA_ (HD.out.put6 (own_map OM.out) (wrap64 (d6 + wrap64 (mn b (wrap64 (e1 + 366)) - mx a e1)))); clear hxp hxq OM; have OM := aA_ hown1; replace Bg := aA_ (grown_blk Bg.out hgrow1 Ngm); replace Bc := aA_ (grown_blk Bc.out hgrow1 Ncm); replace Bd := aA_ (grown_blk Bd.out hgrow1 Ndm); replace HB := aA_ (HB.out.grown hgrow1 (below_size HB.out) (fun j hj => by cases hj; exact GM.out)); clear hown1 hgrow1 Ngm Ncm Ndm))
      go_roundg k1
      case measure => have := HK.out; omega
      case rel => exact ⟨i + 1, _, _, _, congrArg _ HW.out, H', ⟨by have := HK.out; omega⟩, OM, HD, Bg, Bc, Bd, HB⟩
     ·rw [if_neg c7] at H
      exact absurd H (by simp)
   ·rw [if_neg c5] at H
    have b0 : decide ((i : Int) < T) = false := decide_eq_false c5
    simp only [Option.some.injEq, Prod.mk.injEq] at H
    obtain ⟨rfl, rfl⟩ := H
    clear c5 TB LV HK Bc Bd
    go_upto_region 11 with (first | (at_lookup; refine wpList_lookup_own_int _ rfl _ _ 49 rfl 3 3 .i64 keyed3 Tryd.underlying49 Tryd.underlying3 (zeroI _) m i _ rfl OM.out _ _ rfl key5 ?_; intro cc hat hwc; obtain rfl : d5 = cc := (At2.five HD.out hat).symm; clear hat hwc) | (refine goesL_ (some 61) rfl rfl Tryd.func24 (by kernel_rfl) rfl #[.int .i64 d5, .int .i64 365] rfl (by (try simp only [mT_, mC_, mN_]); first | done | rfl) ?_; (with_reducible refine (ratio_New.calls k d5 365 p1 p2 p3 _ AP.out).mono ?_); rintro e wc ⟨rfl, hb⟩; refine ⟨_, rfl, ?_⟩; replace Bg := bK_ Bg hb; replace OM := aA_ (own_below OM.out hb); replace HB := bB_ HB.out hb; clear hb) | (refine box_event rfl (N := 12) rfl (cs := #[.int .i64 0, .int .i64 0]) (t := 24) ?hr ?_; (case hr => go_simp <;> rfl); intro e hg w_e hbox hb; have Ge := gW_ hg HB.out; have Nge := aA_ ((by rw [hg]; exact Nat.ne_of_lt (blk_lt Bg.out)) : g ≠ e); replace Bg := bK_ Bg hb; have NMe := aA_ (own_ne (own_below OM.out hb) hbox); replace OM := aA_ (own_below OM.out hb); replace HB := bB_ HB.out hb; have Be := aA_ hbox; clear hb hbox hg; have hze0 := ((blk_cell Be.out 0).trans rfl : w_e.cell? ⟨e, 0, none⟩ = some (.int .i64 0)); have hfe0 := blk_frozen Be.out 0; have hze1 := ((blk_cell Be.out 1).trans rfl : w_e.cell? ⟨e, 1, none⟩ = some (.int .i64 0)); have hfe1 := blk_frozen Be.out 1))
    have E := aA_ (below_set (below_set HB.out Ge.out (j := 0) (v := .int .i64 p1)) Ge.out (j := 1) (v := .int .i64 p2))
    have Ee : ((w_e.setCell ⟨e, 0, none⟩ (.int .i64 p1)).setCell ⟨e, 1, none⟩ (.int .i64 p2)).heap[e]? = some (.cells #[.int .i64 p1, .int .i64 p2] 24 (0, 0)) := (blk_put (blk_put Be.out 0 (.int .i64 p1) rfl) 1 (.int .i64 p2) rfl)
    have Eg := aA_ (blk_far (p := ⟨e, 1, none⟩) (blk_far (p := ⟨e, 0, none⟩) Bg.out Nge.out (.int .i64 p1)) Nge.out (.int .i64 p2))
    have EM := aA_ (own_set (own_set OM.out NMe.out (j := 0) (.int .i64 p1)) NMe.out (j := 1) (.int .i64 p2))
    clear hze0 hfe0
    clear hze1 hfe1
    generalize ((w_e.setCell ⟨e, 0, none⟩ (.int .i64 p1)).setCell ⟨e, 1, none⟩ (.int .i64 p2)) = wE at E Ee Eg EM ⊢
    clear HB Be Bg OM
    have HB := E
    have Be := aA_ Ee
    have Bg := Eg
    have OM := EM
    clear E Ee Eg EM
    go_upto_region 12 with (first | (at_lookup; refine wpList_lookup_own_int _ rfl _ _ 49 rfl 3 3 .i64 keyed3 Tryd.underlying49 Tryd.underlying3 (zeroI _) m i _ rfl OM.out _ _ rfl key6 ?_; intro cc hat hwc; obtain rfl : d6 = cc := (At2.six HD.out hat).symm; clear hat hwc) | (refine goesL_ (some 67) rfl rfl Tryd.func24 (by kernel_rfl) rfl #[.int .i64 d6, .int .i64 366] rfl (by (try simp only [mT_, mC_, mN_]); first | done | rfl) ?_; (with_reducible refine (ratio_New.calls k d6 366 q1 q2 q3 _ AQ.out).mono ?_); rintro e wc ⟨rfl, hb⟩; refine ⟨_, rfl, ?_⟩; replace Bg := bK_ Bg hb; replace Be := bK_ Be hb; replace OM := aA_ (own_below OM.out hb); replace HB := bB_ HB.out hb; clear hb) | (refine box_event rfl (N := 14) rfl (cs := #[.int .i64 0, .int .i64 0]) (t := 24) ?hr ?_; (case hr => go_simp <;> rfl); intro f hg w_f hbox hb; have Gf := gW_ hg HB.out; have Ngf := aA_ ((by rw [hg]; exact Nat.ne_of_lt (blk_lt Bg.out)) : g ≠ f); replace Bg := bK_ Bg hb; have Nef := aA_ ((by rw [hg]; exact Nat.ne_of_lt (blk_lt Be.out)) : e ≠ f); replace Be := bK_ Be hb; have NMf := aA_ (own_ne (own_below OM.out hb) hbox); replace OM := aA_ (own_below OM.out hb); replace HB := bB_ HB.out hb; have Bf := aA_ hbox; clear hb hbox hg; have hzf0 := ((blk_cell Bf.out 0).trans rfl : w_f.cell? ⟨f, 0, none⟩ = some (.int .i64 0)); have hff0 := blk_frozen Bf.out 0; have hzf1 := ((blk_cell Bf.out 1).trans rfl : w_f.cell? ⟨f, 1, none⟩ = some (.int .i64 0)); have hff1 := blk_frozen Bf.out 1))
    have E := aA_ (below_set (below_set HB.out Gf.out (j := 0) (v := .int .i64 q1)) Gf.out (j := 1) (v := .int .i64 q2))
    have Ef : ((w_f.setCell ⟨f, 0, none⟩ (.int .i64 q1)).setCell ⟨f, 1, none⟩ (.int .i64 q2)).heap[f]? = some (.cells #[.int .i64 q1, .int .i64 q2] 24 (0, 0)) := (blk_put (blk_put Bf.out 0 (.int .i64 q1) rfl) 1 (.int .i64 q2) rfl)
    have Eg := aA_ (blk_far (p := ⟨f, 1, none⟩) (blk_far (p := ⟨f, 0, none⟩) Bg.out Ngf.out (.int .i64 q1)) Ngf.out (.int .i64 q2))
    have Ee := aA_ (blk_far (p := ⟨f, 1, none⟩) (blk_far (p := ⟨f, 0, none⟩) Be.out Nef.out (.int .i64 q1)) Nef.out (.int .i64 q2))
    have EM := aA_ (own_set (own_set OM.out NMf.out (j := 0) (.int .i64 q1)) NMf.out (j := 1) (.int .i64 q2))
    clear hzf0 hff0
    clear hzf1 hff1
    generalize ((w_f.setCell ⟨f, 0, none⟩ (.int .i64 q1)).setCell ⟨f, 1, none⟩ (.int .i64 q2)) = wF at E Ef Eg Ee EM ⊢
    clear HB Bf Bg Be OM
    have HB := E
    have Bf := aA_ Ef
    have Bg := Eg
    have Be := Ee
    have OM := EM
    clear E Ef Eg Ee EM
    have he0 := ((blk_cell Be.out 0).trans rfl : wF.cell? ⟨e, 0, none⟩ = some (.int .i64 p1))
    have he1 := ((blk_cell Be.out 1).trans rfl : wF.cell? ⟨e, 1, none⟩ = some (.int .i64 p2))
    have hf0 := ((blk_cell Bf.out 0).trans rfl : wF.cell? ⟨f, 0, none⟩ = some (.int .i64 q1))
    have hf1 := ((blk_cell Bf.out 1).trans rfl : wF.cell? ⟨f, 1, none⟩ = some (.int .i64 q2))
    go_wp2_with (refine goesL_ (some 72) rfl rfl Tryd.func30 (by kernel_rfl) rfl #[.agg #[.int .i64 p1, .int .i64 p2], .agg #[.int .i64 q1, .int .i64 q2]] rfl (by (try simp only [mT_, mC_, mN_]); first | done | rfl) ?_; (with_reducible refine (ratio_Add.calls p1 p2 q1 q2 r1 r2 r3 _ AR.out).mono ?_); rintro e wc ⟨rfl, hb⟩; refine ⟨_, rfl, ?_⟩; replace Bg := bK_ Bg hb; replace HB := bB_ HB.out hb; clear hb; have hzg0 := ((blk_cell Bg.out 0).trans rfl : wc.cell? ⟨g, 0, none⟩ = some (.int .i64 0)); have hfg0 := blk_frozen Bg.out 0; have hzg1 := ((blk_cell Bg.out 1).trans rfl : wc.cell? ⟨g, 1, none⟩ = some (.int .i64 0)); have hfg1 := blk_frozen Bg.out 1)
    refine bodyPost_ret (results_ct rfl _ _ g 24 #[.int .i64 r1, .int .i64 r2] (0, 0) _ rfl (by refine blk_put (cs := #[.int .i64 r1, .int .i64 0]) ?_ 1 _ rfl; refine blk_put (cs := #[.int .i64 0, .int .i64 0]) ?_ 0 _ rfl; exact Bg.out) Tryd.underlying24 rfl (by kernel_rfl)) rfl ?_
    exact ⟨rfl, below_set (below_set HB.out Gg.out) Gg.out⟩

def actual_ByYears.f (k : Nat) (a b : Int) : Option (Int × Int × Int) := (actual_check.f k a b).bind fun c => if c = 0 then actual_years.f k a b else some (0, 0, c)
theorem actual_ByYears.mono : ∀ a b k, LeO (actual_ByYears.f k a b) (actual_ByYears.f (k + 1) a b) := fun a b k => LeO.bind (actual_check.mono _ _ _) (fun _ => LeO.ite (actual_years.mono _ _ _) (LeO.refl _))
set_option maxHeartbeats 8000000 in
set_option maxRecDepth 100000 in
theorem actual_ByYears.calls (k : Nat) (a b r1 r2 r3 : Int) (w : World) (hv : Vars w) (h : actual_ByYears.f k a b = some (r1, r2, r3)) : Calls Tryd.prog 13 #[.int .i64 a, .int .i64 b] w fun e w' => e = .returned (.tuple #[.agg #[.int .i64 r1, .int .i64 r2], .int .i64 r3]) ∧ Below w.heap.size w w' := by
 have hmf : ∀ (fn : Fn) (first cap : Array Value) (w : World), (Instr.makeFunc fn first cap).run Tryd.prog w = .ok (.func fn first cap) w := fun _ _ _ _ => rfl
 have HV := aA_ hv
 have huR := Tryd.underlying24
 have HB := aA_ (Below.refl w.heap.size w)
 clear hv
 unfold actual_ByYears.f at h
 obtain ⟨c, A0, h⟩ := bI_ h
 by_cases hc : c = 0
 ·rw [if_pos hc] at h
  subst hc
  have AC := aA_ A0
  have AN := aA_ h
  clear A0 h
  go_enter Tryd.func13, Tryd.ntmps13
  go_wp2_with (first | (refine box_event rfl (N := 2) rfl (cs := #[.int .i64 a]) (t := 3) ?hr ?_; (case hr => go_simp <;> rfl); intro p hg w_p hbox hb; have Gp := gW_ hg HB.out; replace HB := bB_ HB.out hb; have Bp := aA_ hbox; clear hb hbox hg) | (refine box_event rfl (N := 3) rfl (cs := #[.int .i64 b]) (t := 3) ?hr ?_; (case hr => go_simp <;> rfl); intro q hg w_q hbox hb; have Gq := gW_ hg HB.out; have Npq := aA_ ((by rw [hg]; exact Nat.ne_of_lt (blk_lt Bp.out)) : p ≠ q); replace Bp := bK_ Bp hb; replace HB := bB_ HB.out hb; have Bq := aA_ hbox; clear hb hbox hg) | (refine box_event rfl (N := 4) rfl (cs := #[.int .i64 0, .int .i64 0]) (t := 24) ?hr ?_; (case hr => go_simp <;> rfl); intro g hg w_g hbox hb; have Gg := gW_ hg HB.out; have Npg := aA_ ((by rw [hg]; exact Nat.ne_of_lt (blk_lt Bp.out)) : p ≠ g); replace Bp := bK_ Bp hb; have Nqg := aA_ ((by rw [hg]; exact Nat.ne_of_lt (blk_lt Bq.out)) : q ≠ g); replace Bq := bK_ Bq hb; replace HB := bB_ HB.out hb; have Bg := aA_ hbox; clear hb hbox hg; have hx := ((blk_cell Bp.out 0).trans rfl : w_g.cell? ⟨p, 0, none⟩ = some (.int .i64 a)); have hy := ((blk_cell Bq.out 0).trans rfl : w_g.cell? ⟨q, 0, none⟩ = some (.int .i64 b))) | (refine goesL_ (some 9) rfl rfl Tryd.func22 (by kernel_rfl) rfl #[.int .i64 a, .int .i64 b, .func (.func 27) #[] #[.pointer (some ⟨p, 0, none⟩), .pointer (some ⟨q, 0, none⟩)]] rfl (by (try simp only [mT_, mC_, mN_]); first | done | rfl) ?_; (with_reducible refine (by_ok k a b 27 _ #[.pointer (some ⟨p, 0, none⟩), .pointer (some ⟨q, 0, none⟩)] r1 r2 r3 _ Tryd.func27 (by kernel_rfl) rfl ?sv AC.out ?hcall).mono ?_); (case sv => exact HV.out.below HB.out); (case hcall => exact (fun W hW => years_part k a b r1 r2 r3 p q W ((HV.out.below HB.out).below hW) (hW.block _ (blk_lt Bp.out) |>.trans Bp.out) (hW.block _ (blk_lt Bq.out) |>.trans Bq.out) AN.out)); rintro e wc ⟨rfl, hb⟩; refine ⟨_, rfl, ?_⟩; replace Bg := bK_ Bg hb; replace HB := bB_ HB.out hb; clear hb; have hzg0 := ((blk_cell Bg.out 0).trans rfl : wc.cell? ⟨g, 0, none⟩ = some (.int .i64 0)); have hfg0 := blk_frozen Bg.out 0; have hzg1 := ((blk_cell Bg.out 1).trans rfl : wc.cell? ⟨g, 1, none⟩ = some (.int .i64 0)); have hfg1 := blk_frozen Bg.out 1))
  refine bodyPost_ret (results_ct rfl _ _ g 24 #[.int .i64 r1, .int .i64 r2] (0, 0) _ rfl (by refine blk_put (cs := #[.int .i64 r1, .int .i64 0]) ?_ 1 _ rfl; refine blk_put (cs := #[.int .i64 0, .int .i64 0]) ?_ 0 _ rfl; exact Bg.out) Tryd.underlying24 rfl (by kernel_rfl)) rfl ?_
  exact ⟨rfl, below_set (below_set HB.out Gg.out) Gg.out⟩
 ·rw [if_neg hc] at h
  simp only [Option.some.injEq, Prod.mk.injEq] at h
  obtain ⟨rfl, rfl, rfl⟩ := h
  have AC := aA_ A0
  have NC := aA_ hc
  clear A0 hc
  go_enter Tryd.func13, Tryd.ntmps13
  go_wp2_with (first | (refine box_event rfl (N := 2) rfl (cs := #[.int .i64 a]) (t := 3) ?hr ?_; (case hr => go_simp <;> rfl); intro p hg w_p hbox hb; have Gp := gW_ hg HB.out; replace HB := bB_ HB.out hb; have Bp := aA_ hbox; clear hb hbox hg) | (refine box_event rfl (N := 3) rfl (cs := #[.int .i64 b]) (t := 3) ?hr ?_; (case hr => go_simp <;> rfl); intro q hg w_q hbox hb; have Gq := gW_ hg HB.out; have Npq := aA_ ((by rw [hg]; exact Nat.ne_of_lt (blk_lt Bp.out)) : p ≠ q); replace Bp := bK_ Bp hb; replace HB := bB_ HB.out hb; have Bq := aA_ hbox; clear hb hbox hg) | (refine box_event rfl (N := 4) rfl (cs := #[.int .i64 0, .int .i64 0]) (t := 24) ?hr ?_; (case hr => go_simp <;> rfl); intro g hg w_g hbox hb; have Gg := gW_ hg HB.out; have Npg := aA_ ((by rw [hg]; exact Nat.ne_of_lt (blk_lt Bp.out)) : p ≠ g); replace Bp := bK_ Bp hb; have Nqg := aA_ ((by rw [hg]; exact Nat.ne_of_lt (blk_lt Bq.out)) : q ≠ g); replace Bq := bK_ Bq hb; replace HB := bB_ HB.out hb; have Bg := aA_ hbox; clear hb hbox hg; have hx := ((blk_cell Bp.out 0).trans rfl : w_g.cell? ⟨p, 0, none⟩ = some (.int .i64 a)); have hy := ((blk_cell Bq.out 0).trans rfl : w_g.cell? ⟨q, 0, none⟩ = some (.int .i64 b))) | (refine goesL_ (some 9) rfl rfl Tryd.func22 (by kernel_rfl) rfl #[.int .i64 a, .int .i64 b, .func (.func 27) #[] #[.pointer (some ⟨p, 0, none⟩), .pointer (some ⟨q, 0, none⟩)]] rfl (by (try simp only [mT_, mC_, mN_]); first | done | rfl) ?_; (with_reducible refine (by_err k a b c _ _ ?sv AC.out NC.out).mono ?_); (case sv => exact HV.out.below HB.out); rintro e wc ⟨rfl, hb⟩; refine ⟨_, rfl, ?_⟩; replace Bg := bK_ Bg hb; replace HB := bB_ HB.out hb; clear hb; have hzg0 := ((blk_cell Bg.out 0).trans rfl : wc.cell? ⟨g, 0, none⟩ = some (.int .i64 0)); have hfg0 := blk_frozen Bg.out 0; have hzg1 := ((blk_cell Bg.out 1).trans rfl : wc.cell? ⟨g, 1, none⟩ = some (.int .i64 0)); have hfg1 := blk_frozen Bg.out 1))
  refine bodyPost_ret (results_ct rfl _ _ g 24 #[.int .i64 0, .int .i64 0] (0, 0) _ rfl (by refine blk_put (cs := #[.int .i64 0, .int .i64 0]) ?_ 1 _ rfl; refine blk_put (cs := #[.int .i64 0, .int .i64 0]) ?_ 0 _ rfl; exact Bg.out) Tryd.underlying24 rfl (by kernel_rfl)) rfl ?_
  exact ⟨rfl, below_set (below_set HB.out Gg.out) Gg.out⟩

end Go.Proofs.YtbapgkopilmdfaaDoor.X
