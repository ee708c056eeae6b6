-- cut by prune.py, a program of this session
import Derived.Test.YtbapgkopilmdfaaDoorPActualMovesHIs
import Derived.Test.YtbapgkopilmdfaaDoorPActualMovesHOf
import Derived.Test.YtbapgkopilmdfaaDoorPActualMovesXRatio
namespace Go.Proofs.YtbapgkopilmdfaaDoor.X
open Go.RowKit Go.Proofs.YtbapgkopilmdfaaDoorW.PrintWords Go.Proofs.YtbapgkopilmdfaaDoorW.PrintLast Go.Proofs.YtbapgkopilmdfaaDoorW.PrintMore
set_option linter.unusedVariables false
set_option linter.unusedSimpArgs false

section
variable {P : Program} {ops : List Oper} {Q : Exit → Act → World → Prop}
theorem goesV_ {opsA : Array Oper} {rest : List Oper} {oi : Oper} {a : Act} {w : World} (N : Option Tmp) (hd : oi.dst = N) (hg : oi.guard = none) {f : FuncId} {fn : Func} {x : Operand} {xs : Array Operand} {ts : Array TypeId} {cap : Array Value} (hf : P.funcs[f]? = some fn) (hname : (fn.name == "runtime.NumGoroutine") = false) (hb : fn.body.isSome = true) (args : Array Value)
  (hop : oi.op = .call { callee := .value x, args := xs, argTypes := ts }) (hx : a.eval x = .func (.func f) #[] cap) (hargs : xs.map a.eval ++ cap = args)
  (h : Calls P f args w fun e w' => ∃ v, e = .returned v ∧ wpList P opsA Q rest (a.put N v) w') : wpList P opsA Q (oi :: rest) a w := by
 refine wpList_plain hg fun K hK => ?_
 have he := enters_ hf hname hb args w
 have hrun : (execOp a.eval oi).run P w = .ok (.enter f args) w := by
  unfold execOp
  simp [hop, resolve, hx, Deferred.ofValue, invoke, hargs, he]
 unfold Oper.wp
 rw [hrun, Oper.upon_enter]
 refine h.mono fun e w'' hh => ?_
 obtain ⟨v, rfl, hk⟩ := hh
 subst hd
 exact hK _ _ hk
end

def ErrIs (w : World) (v : Value) (c : Int) : Prop := (v = .nilIface ∧ c = 0) ∨ (∃ (x y : Int) (a : Addr) (t : TypeId), w.heap[0]? = some (.cells #[.iface 122 (.pointer (some a))] t (0, 0)) ∧ v = pairv x y a ∧ c = 3) ∨ (∃ (x y : Int) (a : Addr) (t : TypeId), w.heap[1]? = some (.cells #[.iface 122 (.pointer (some a))] t (0, 0)) ∧ v = pairv x y a ∧ c = 4)
theorem ErrIs.below {w w' : World} {v : Value} {c : Int} (h : ErrIs w v c) (hb : Below w.heap.size w w') : ErrIs w' v c := by
 rcases h with h | ⟨x, y, a, t, h, r⟩ | ⟨x, y, a, t, h, r⟩
 ·exact Or.inl h
 ·exact Or.inr (Or.inl ⟨x, y, a, t, (hb.block _ (blk_lt h)).trans h, r⟩)
 ·exact Or.inr (Or.inr ⟨x, y, a, t, (hb.block _ (blk_lt h)).trans h, r⟩)

set_option maxHeartbeats 8000000 in
set_option maxRecDepth 100000 in
theorem code_calls (v : Value) (c : Int) (w : World) (hv : Vars w) (he : ErrIs w v c) : Calls Tryd.prog 41 #[v] w fun e w' => e = .returned (.int .i64 c) ∧ Below w.heap.size w w' := by
 have HB := aA_ (Below.refl w.heap.size w)
 obtain ⟨_, a0, a1, c0, c1, t0, t1, t2, t3, h0, h1, hne, hb0, hb1⟩ := hv
 have H0 := aA_ h0
 have H1 := aA_ h1
 have K0 := aA_ hb0
 have K1 := aA_ hb1
 have HN := aA_ hne
 have z0 := ((blk_cell H0.out 0).trans rfl : w.cell? ⟨0, 0, none⟩ = some (.iface 122 (.pointer (some a0))))
 have z1 := ((blk_cell H1.out 0).trans rfl : w.cell? ⟨1, 0, none⟩ = some (.iface 122 (.pointer (some a1))))
 clear hb0 hb1 hne
 rcases he with ⟨rfl, rfl⟩ | ⟨x, y, a, t, h, rfl, rfl⟩ | ⟨x, y, a, t, h, rfl, rfl⟩
 ·clear h0 h1
  go_enter Tryd.func41, Tryd.ntmps41
  go_wp2_with (first | ((with_reducible refine gate_dst (N := 6) rfl ?_); refine goesL_ (some 6) rfl rfl Tryd.func59 (by kernel_rfl) rfl #[.nilIface, .iface 122 (.pointer (some a0))] rfl (by (try simp only [mT_, mC_, mN_]); first | done | rfl) ?_; (with_reducible refine (is_nil a0 _).mono ?_); rintro e wc ⟨rfl, hb⟩; refine ⟨_, rfl, ?_⟩; replace H0 := bK_ H0 hb; replace H1 := bK_ H1 hb; replace K0 := bK_ K0 hb; replace K1 := bK_ K1 hb; replace HB := bB_ HB.out hb; clear hb; have z1 := ((blk_cell H1.out 0).trans rfl : wc.cell? ⟨1, 0, none⟩ = some (.iface 122 (.pointer (some a1))))) | ((with_reducible refine gate_dst (N := 10) rfl ?_); refine goesL_ (some 10) rfl rfl Tryd.func59 (by kernel_rfl) rfl #[.nilIface, .iface 122 (.pointer (some a1))] rfl (by (try simp only [mT_, mC_, mN_]); first | done | rfl) ?_; (with_reducible refine (is_nil a1 _).mono ?_); rintro e wc ⟨rfl, hb⟩; refine ⟨_, rfl, ?_⟩; replace H0 := bK_ H0 hb; replace H1 := bK_ H1 hb; replace K0 := bK_ K0 hb; replace K1 := bK_ K1 hb; replace HB := bB_ HB.out hb; clear hb))
  go_ret
  exact ⟨rfl, HB.out⟩
 ·obtain rfl : a0 = a := by have := h0.symm.trans h; simp at this; exact this.1
  clear h0 h1 h
  go_enter Tryd.func41, Tryd.ntmps41
  go_wp2_with ((with_reducible refine gate_dst (N := 6) rfl ?_); refine goesL_ (some 6) rfl rfl Tryd.func59 (by kernel_rfl) rfl #[pairv x y a0, .iface 122 (.pointer (some a0))] rfl (by (try simp only [mT_, mC_, mN_]); first | done | rfl) ?_; (with_reducible refine (is_pair_same x y a0 _).mono ?_); rintro e wc ⟨rfl, hb⟩; refine ⟨_, rfl, ?_⟩; replace H0 := bK_ H0 hb; replace H1 := bK_ H1 hb; replace K0 := bK_ K0 hb; replace K1 := bK_ K1 hb; replace HB := bB_ HB.out hb; clear hb)
  go_ret
  exact ⟨rfl, HB.out⟩
 ·obtain rfl : a1 = a := by have := h1.symm.trans h; simp at this; exact this.1
  clear h0 h1 h
  go_enter Tryd.func41, Tryd.ntmps41
  go_wp2_with (first | ((with_reducible refine gate_dst (N := 6) rfl ?_); refine goesL_ (some 6) rfl rfl Tryd.func59 (by kernel_rfl) rfl #[pairv x y a1, .iface 122 (.pointer (some a0))] rfl (by (try simp only [mT_, mC_, mN_]); first | done | rfl) ?_; (with_reducible refine (is_pair_other x y a1 a0 _ _ _ _ _ HN.out.symm K1.out K0.out).mono ?_); rintro e wc ⟨rfl, hb⟩; refine ⟨_, rfl, ?_⟩; replace H0 := bK_ H0 hb; replace H1 := bK_ H1 hb; replace K0 := bK_ K0 hb; replace K1 := bK_ K1 hb; replace HB := bB_ HB.out hb; clear hb; have z1 := ((blk_cell H1.out 0).trans rfl : wc.cell? ⟨1, 0, none⟩ = some (.iface 122 (.pointer (some a1))))) | ((with_reducible refine gate_dst (N := 10) rfl ?_); refine goesL_ (some 10) rfl rfl Tryd.func59 (by kernel_rfl) rfl #[pairv x y a1, .iface 122 (.pointer (some a1))] rfl (by (try simp only [mT_, mC_, mN_]); first | done | rfl) ?_; (with_reducible refine (is_pair_same x y a1 _).mono ?_); rintro e wc ⟨rfl, hb⟩; refine ⟨_, rfl, ?_⟩; replace H0 := bK_ H0 hb; replace H1 := bK_ H1 hb; replace K0 := bK_ K0 hb; replace K1 := bK_ K1 hb; replace HB := bB_ HB.out hb; clear hb))
  go_ret
  exact ⟨rfl, HB.out⟩

def actual_check.f (k : Nat) (a b : Int) : Option Int := (civil_Of.f k a).bind fun p => (civil_Of.f k b).bind fun q => if p.2.2.2 = 0 then (if q.2.2.2 = 0 then (if a > b then some 4 else some 0) else some 3) else some 3
theorem actual_check.mono : ∀ a b k, LeO (actual_check.f k a b) (actual_check.f (k + 1) a b) := fun a b k => LeO.bind (civil_Of.mono _ _) (fun _ => LeO.bind (civil_Of.mono _ _) (fun _ => LeO.refl _))
set_option maxHeartbeats 8000000 in
set_option maxRecDepth 100000 in
theorem actual_check.calls (k : Nat) (a b c : Int) (w : World) (hv : Vars w) (h : actual_check.f k a b = some c) : Calls Tryd.prog 42 #[.int .i64 a, .int .i64 b] w fun e w' => ∃ v, (e = .returned v ∧ ErrIs w v c) ∧ Below w.heap.size w w' := by
 have HV := aA_ hv
 have huC := Tryd.underlying41
 have huP := Tryd.underlying91
 have HB := aA_ (Below.refl w.heap.size w)
 obtain ⟨_, a0, a1, c0, c1, t0, t1, t2, t3, h0, h1, hne, hb0, hb1⟩ := hv
 have H0 := aA_ h0
 have H1 := aA_ h1
 have W0 := aA_ h0
 have W1 := aA_ h1
 clear hne hb0 hb1 h0 h1
 unfold actual_check.f at h
 obtain ⟨⟨p1, p2, p3, p4⟩, A0, h⟩ := bI_ h
 obtain ⟨⟨q1, q2, q3, q4⟩, A1, h⟩ := bI_ h
 dsimp only at h
 have AP := aA_ A0
 have AQ := aA_ A1
 clear A0 A1
 have L0 := aA_ (blk_lt H0.out)
 have L1 := aA_ (blk_lt H1.out)
 by_cases c1 : p4 = 0
 ·rw [if_pos c1] at h
  have b1 : (p4 != 0) = false := bne_eq_false_iff_eq.mpr c1
  clear c1
  by_cases c2 : q4 = 0
  ·rw [if_pos c2] at h
   have b2 : (q4 != 0) = false := bne_eq_false_iff_eq.mpr c2
   clear c2
   by_cases c3 : a > b
   ·rw [if_pos c3] at h
    have b3 : decide (b < a) = true := decide_eq_true c3
    clear c3
    obtain rfl := Option.some.inj h
    clear h
    go_enter Tryd.func42, Tryd.ntmps42
    go_upto_region 2 with (first | ((with_reducible refine gate_dst (N := 11) rfl ?_); refine goesL_ (some 11) rfl rfl Tryd.func28 (by kernel_rfl) rfl #[.int .i64 a] rfl (by (try simp only [mT_, mC_, mN_]); first | done | rfl) ?_; (with_reducible refine (civil_Of.calls k a p1 p2 p3 p4 _ ?sv AP.out).mono ?_); (case sv => exact HV.out.below HB.out); rintro e wc ⟨rfl, hb⟩; refine ⟨_, rfl, ?_⟩; replace H0 := bK_ H0 hb; replace H1 := bK_ H1 hb; replace HB := bB_ HB.out hb; clear hb) | (refine box_event rfl (N := 5) rfl (cs := #[.int .i64 0, .int .i64 0, .int .i64 0]) (t := 41) ?hr ?_; (case hr => go_simp <;> rfl); intro g hg w_g hbox hb; have Gg := gW_ hg HB.out; replace H0 := bK_ H0 hb; replace H1 := bK_ H1 hb; replace HB := bB_ HB.out hb; have Bg := aA_ hbox; clear hb hbox hg; have hzg0 := ((blk_cell Bg.out 0).trans rfl : w_g.cell? ⟨g, 0, none⟩ = some (.int .i64 0)); have hfg0 := blk_frozen Bg.out 0; have hzg1 := ((blk_cell Bg.out 1).trans rfl : w_g.cell? ⟨g, 1, none⟩ = some (.int .i64 0)); have hfg1 := blk_frozen Bg.out 1; have hzg2 := ((blk_cell Bg.out 2).trans rfl : w_g.cell? ⟨g, 2, none⟩ = some (.int .i64 0)); have hfg2 := blk_frozen Bg.out 2))
    have E := aA_ (below_set (below_set (below_set HB.out Gg.out (j := 0) (v := .int .i64 p1)) Gg.out (j := 1) (v := .int .i64 p2)) Gg.out (j := 2) (v := .int .i64 p3))
    clear hzg0 hzg1 hzg2 hfg0 hfg1 hfg2
    generalize (((w_g.setCell ⟨g, 0, none⟩ (.int .i64 p1)).setCell ⟨g, 1, none⟩ (.int .i64 p2)).setCell ⟨g, 2, none⟩ (.int .i64 p3)) = wA at E ⊢
    clear HB Bg H0 H1
    have HB := E
    clear E
    have H0 := aA_ (blk_below W0.out HB.out)
    have H1 := aA_ (blk_below W1.out HB.out)
    go_upto_region 3 with (first | ((with_reducible refine gate_dst (N := 16) rfl ?_); refine goesL_ (some 16) rfl rfl Tryd.func28 (by kernel_rfl) rfl #[.int .i64 b] rfl (by (try simp only [mT_, mC_, mN_]); first | done | rfl) ?_; (with_reducible refine (civil_Of.calls k b q1 q2 q3 q4 _ ?sv AQ.out).mono ?_); (case sv => exact HV.out.below HB.out); rintro e wc ⟨rfl, hb⟩; refine ⟨_, rfl, ?_⟩; replace H0 := bK_ H0 hb; replace H1 := bK_ H1 hb; replace HB := bB_ HB.out hb; clear hb) | (refine box_event rfl (N := 7) rfl (cs := #[.int .i64 0, .int .i64 0, .int .i64 0]) (t := 41) ?hr ?_; (case hr => go_simp <;> rfl); intro gh hg w_h hbox hb; have Gh := gW_ hg HB.out; replace H0 := bK_ H0 hb; replace H1 := bK_ H1 hb; replace HB := bB_ HB.out hb; have Bh := aA_ hbox; clear hb hbox hg; have hzh0 := ((blk_cell Bh.out 0).trans rfl : w_h.cell? ⟨gh, 0, none⟩ = some (.int .i64 0)); have hfh0 := blk_frozen Bh.out 0; have hzh1 := ((blk_cell Bh.out 1).trans rfl : w_h.cell? ⟨gh, 1, none⟩ = some (.int .i64 0)); have hfh1 := blk_frozen Bh.out 1; have hzh2 := ((blk_cell Bh.out 2).trans rfl : w_h.cell? ⟨gh, 2, none⟩ = some (.int .i64 0)); have hfh2 := blk_frozen Bh.out 2))
    have E := aA_ (below_set (below_set (below_set HB.out Gh.out (j := 0) (v := .int .i64 q1)) Gh.out (j := 1) (v := .int .i64 q2)) Gh.out (j := 2) (v := .int .i64 q3))
    clear hzh0 hzh1 hzh2 hfh0 hfh1 hfh2
    generalize (((w_h.setCell ⟨gh, 0, none⟩ (.int .i64 q1)).setCell ⟨gh, 1, none⟩ (.int .i64 q2)).setCell ⟨gh, 2, none⟩ (.int .i64 q3)) = wB at E ⊢
    clear HB Bh H0 H1
    have HB := E
    clear E
    have H0 := aA_ (blk_below W0.out HB.out)
    have H1 := aA_ (blk_below W1.out HB.out)
    have z0 := ((blk_cell H0.out 0).trans rfl : wB.cell? ⟨0, 0, none⟩ = some (.iface 122 (.pointer (some a0))))
    have z1 := ((blk_cell H1.out 0).trans rfl : wB.cell? ⟨1, 0, none⟩ = some (.iface 122 (.pointer (some a1))))
    go_wp2
    go_ret
    exact ⟨⟨_, rfl, Or.inr (Or.inr ⟨a, b, a1, _, W1.out, rfl, rfl⟩)⟩, HB.out⟩
   ·rw [if_neg c3] at h
    have b3 : decide (b < a) = false := decide_eq_false c3
    clear c3
    obtain rfl := Option.some.inj h
    clear h
    go_enter Tryd.func42, Tryd.ntmps42
    go_upto_region 2 with (first | ((with_reducible refine gate_dst (N := 11) rfl ?_); refine goesL_ (some 11) rfl rfl Tryd.func28 (by kernel_rfl) rfl #[.int .i64 a] rfl (by (try simp only [mT_, mC_, mN_]); first | done | rfl) ?_; (with_reducible refine (civil_Of.calls k a p1 p2 p3 p4 _ ?sv AP.out).mono ?_); (case sv => exact HV.out.below HB.out); rintro e wc ⟨rfl, hb⟩; refine ⟨_, rfl, ?_⟩; replace H0 := bK_ H0 hb; replace H1 := bK_ H1 hb; replace HB := bB_ HB.out hb; clear hb) | (refine box_event rfl (N := 5) rfl (cs := #[.int .i64 0, .int .i64 0, .int .i64 0]) (t := 41) ?hr ?_; (case hr => go_simp <;> rfl); intro g hg w_g hbox hb; have Gg := gW_ hg HB.out; replace H0 := bK_ H0 hb; replace H1 := bK_ H1 hb; replace HB := bB_ HB.out hb; have Bg := aA_ hbox; clear hb hbox hg; have hzg0 := ((blk_cell Bg.out 0).trans rfl : w_g.cell? ⟨g, 0, none⟩ = some (.int .i64 0)); have hfg0 := blk_frozen Bg.out 0; have hzg1 := ((blk_cell Bg.out 1).trans rfl : w_g.cell? ⟨g, 1, none⟩ = some (.int .i64 0)); have hfg1 := blk_frozen Bg.out 1; have hzg2 := ((blk_cell Bg.out 2).trans rfl : w_g.cell? ⟨g, 2, none⟩ = some (.int .i64 0)); have hfg2 := blk_frozen Bg.out 2))
    have E := aA_ (below_set (below_set (below_set HB.out Gg.out (j := 0) (v := .int .i64 p1)) Gg.out (j := 1) (v := .int .i64 p2)) Gg.out (j := 2) (v := .int .i64 p3))
    clear hzg0 hzg1 hzg2 hfg0 hfg1 hfg2
    generalize (((w_g.setCell ⟨g, 0, none⟩ (.int .i64 p1)).setCell ⟨g, 1, none⟩ (.int .i64 p2)).setCell ⟨g, 2, none⟩ (.int .i64 p3)) = wA at E ⊢
    clear HB Bg H0 H1
    have HB := E
    clear E
    have H0 := aA_ (blk_below W0.out HB.out)
    have H1 := aA_ (blk_below W1.out HB.out)
    go_upto_region 3 with (first | ((with_reducible refine gate_dst (N := 16) rfl ?_); refine goesL_ (some 16) rfl rfl Tryd.func28 (by kernel_rfl) rfl #[.int .i64 b] rfl (by (try simp only [mT_, mC_, mN_]); first | done | rfl) ?_; (with_reducible refine (civil_Of.calls k b q1 q2 q3 q4 _ ?sv AQ.out).mono ?_); (case sv => exact HV.out.below HB.out); rintro e wc ⟨rfl, hb⟩; refine ⟨_, rfl, ?_⟩; replace H0 := bK_ H0 hb; replace H1 := bK_ H1 hb; replace HB := bB_ HB.out hb; clear hb) | (refine box_event rfl (N := 7) rfl (cs := #[.int .i64 0, .int .i64 0, .int .i64 0]) (t := 41) ?hr ?_; (case hr => go_simp <;> rfl); intro gh hg w_h hbox hb; have Gh := gW_ hg HB.out; replace H0 := bK_ H0 hb; replace H1 := bK_ H1 hb; replace HB := bB_ HB.out hb; have Bh := aA_ hbox; clear hb hbox hg; have hzh0 := ((blk_cell Bh.out 0).trans rfl : w_h.cell? ⟨gh, 0, none⟩ = some (.int .i64 0)); have hfh0 := blk_frozen Bh.out 0; have hzh1 := ((blk_cell Bh.out 1).trans rfl : w_h.cell? ⟨gh, 1, none⟩ = some (.int .i64 0)); have hfh1 := blk_frozen Bh.out 1; have hzh2 := ((blk_cell Bh.out 2).trans rfl : w_h.cell? ⟨gh, 2, none⟩ = some (.int .i64 0)); have hfh2 := blk_frozen Bh.out 2))
    have E := aA_ (below_set (below_set (below_set HB.out Gh.out (j := 0) (v := .int .i64 q1)) Gh.out (j := 1) (v := .int .i64 q2)) Gh.out (j := 2) (v := .int .i64 q3))
    clear hzh0 hzh1 hzh2 hfh0 hfh1 hfh2
    generalize (((w_h.setCell ⟨gh, 0, none⟩ (.int .i64 q1)).setCell ⟨gh, 1, none⟩ (.int .i64 q2)).setCell ⟨gh, 2, none⟩ (.int .i64 q3)) = wB at E ⊢
    clear HB Bh H0 H1
    have HB := E
    clear E
    have H0 := aA_ (blk_below W0.out HB.out)
    have H1 := aA_ (blk_below W1.out HB.out)
    have z0 := ((blk_cell H0.out 0).trans rfl : wB.cell? ⟨0, 0, none⟩ = some (.iface 122 (.pointer (some a0))))
    have z1 := ((blk_cell H1.out 0).trans rfl : wB.cell? ⟨1, 0, none⟩ = some (.iface 122 (.pointer (some a1))))
    go_wp2
    go_ret
    exact ⟨⟨_, rfl, Or.inl ⟨rfl, rfl⟩⟩, HB.out⟩
  ·rw [if_neg c2] at h
   have b2 : (q4 != 0) = true := bne_iff_ne.mpr c2
   clear c2
   obtain rfl := Option.some.inj h
   clear h
   go_enter Tryd.func42, Tryd.ntmps42
   go_upto_region 2 with (first | ((with_reducible refine gate_dst (N := 11) rfl ?_); refine goesL_ (some 11) rfl rfl Tryd.func28 (by kernel_rfl) rfl #[.int .i64 a] rfl (by (try simp only [mT_, mC_, mN_]); first | done | rfl) ?_; (with_reducible refine (civil_Of.calls k a p1 p2 p3 p4 _ ?sv AP.out).mono ?_); (case sv => exact HV.out.below HB.out); rintro e wc ⟨rfl, hb⟩; refine ⟨_, rfl, ?_⟩; replace H0 := bK_ H0 hb; replace H1 := bK_ H1 hb; replace HB := bB_ HB.out hb; clear hb) | (refine box_event rfl (N := 5) rfl (cs := #[.int .i64 0, .int .i64 0, .int .i64 0]) (t := 41) ?hr ?_; (case hr => go_simp <;> rfl); intro g hg w_g hbox hb; have Gg := gW_ hg HB.out; replace H0 := bK_ H0 hb; replace H1 := bK_ H1 hb; replace HB := bB_ HB.out hb; have Bg := aA_ hbox; clear hb hbox hg; have hzg0 := ((blk_cell Bg.out 0).trans rfl : w_g.cell? ⟨g, 0, none⟩ = some (.int .i64 0)); have hfg0 := blk_frozen Bg.out 0; have hzg1 := ((blk_cell Bg.out 1).trans rfl : w_g.cell? ⟨g, 1, none⟩ = some (.int .i64 0)); have hfg1 := blk_frozen Bg.out 1; have hzg2 := ((blk_cell Bg.out 2).trans rfl : w_g.cell? ⟨g, 2, none⟩ = some (.int .i64 0)); have hfg2 := blk_frozen Bg.out 2))
   have E := aA_ (below_set (below_set (below_set HB.out Gg.out (j := 0) (v := .int .i64 p1)) Gg.out (j := 1) (v := .int .i64 p2)) Gg.out (j := 2) (v := .int .i64 p3))
   clear hzg0 hzg1 hzg2 hfg0 hfg1 hfg2
   generalize (((w_g.setCell ⟨g, 0, none⟩ (.int .i64 p1)).setCell ⟨g, 1, none⟩ (.int .i64 p2)).setCell ⟨g, 2, none⟩ (.int .i64 p3)) = wA at E ⊢
   clear HB Bg H0 H1
   have HB := E
   clear E
   have H0 := aA_ (blk_below W0.out HB.out)
   have H1 := aA_ (blk_below W1.out HB.out)
   go_upto_region 3 with (first | ((with_reducible refine gate_dst (N := 16) rfl ?_); refine goesL_ (some 16) rfl rfl Tryd.func28 (by kernel_rfl) rfl #[.int .i64 b] rfl (by (try simp only [mT_, mC_, mN_]); first | done | rfl) ?_; (with_reducible refine (civil_Of.calls k b q1 q2 q3 q4 _ ?sv AQ.out).mono ?_); (case sv => exact HV.out.below HB.out); rintro e wc ⟨rfl, hb⟩; refine ⟨_, rfl, ?_⟩; replace H0 := bK_ H0 hb; replace H1 := bK_ H1 hb; replace HB := bB_ HB.out hb; clear hb) | (refine box_event rfl (N := 7) rfl (cs := #[.int .i64 0, .int .i64 0, .int .i64 0]) (t := 41) ?hr ?_; (case hr => go_simp <;> rfl); intro gh hg w_h hbox hb; have Gh := gW_ hg HB.out; replace H0 := bK_ H0 hb; replace H1 := bK_ H1 hb; replace HB := bB_ HB.out hb; have Bh := aA_ hbox; clear hb hbox hg; have hzh0 := ((blk_cell Bh.out 0).trans rfl : w_h.cell? ⟨gh, 0, none⟩ = some (.int .i64 0)); have hfh0 := blk_frozen Bh.out 0; have hzh1 := ((blk_cell Bh.out 1).trans rfl : w_h.cell? ⟨gh, 1, none⟩ = some (.int .i64 0)); have hfh1 := blk_frozen Bh.out 1; have hzh2 := ((blk_cell Bh.out 2).trans rfl : w_h.cell? ⟨gh, 2, none⟩ = some (.int .i64 0)); have hfh2 := blk_frozen Bh.out 2))
   have E := aA_ (below_set (below_set (below_set HB.out Gh.out (j := 0) (v := .int .i64 q1)) Gh.out (j := 1) (v := .int .i64 q2)) Gh.out (j := 2) (v := .int .i64 q3))
   clear hzh0 hzh1 hzh2 hfh0 hfh1 hfh2
   generalize (((w_h.setCell ⟨gh, 0, none⟩ (.int .i64 q1)).setCell ⟨gh, 1, none⟩ (.int .i64 q2)).setCell ⟨gh, 2, none⟩ (.int .i64 q3)) = wB at E ⊢
   clear HB Bh H0 H1
   have HB := E
   clear E
   have H0 := aA_ (blk_below W0.out HB.out)
   have H1 := aA_ (blk_below W1.out HB.out)
   have z0 := ((blk_cell H0.out 0).trans rfl : wB.cell? ⟨0, 0, none⟩ = some (.iface 122 (.pointer (some a0))))
   have z1 := ((blk_cell H1.out 0).trans rfl : wB.cell? ⟨1, 0, none⟩ = some (.iface 122 (.pointer (some a1))))
   go_wp2
   go_ret
   exact ⟨⟨_, rfl, Or.inr (Or.inl ⟨a, b, a0, _, W0.out, rfl, rfl⟩)⟩, HB.out⟩
 ·rw [if_neg c1] at h
  have b1 : (p4 != 0) = true := bne_iff_ne.mpr c1
  clear c1
  obtain rfl := Option.some.inj h
  clear h
  go_enter Tryd.func42, Tryd.ntmps42
  go_upto_region 2 with (first | ((with_reducible refine gate_dst (N := 11) rfl ?_); refine goesL_ (some 11) rfl rfl Tryd.func28 (by kernel_rfl) rfl #[.int .i64 a] rfl (by (try simp only [mT_, mC_, mN_]); first | done | rfl) ?_; (with_reducible refine (civil_Of.calls k a p1 p2 p3 p4 _ ?sv AP.out).mono ?_); (case sv => exact HV.out.below HB.out); rintro e wc ⟨rfl, hb⟩; refine ⟨_, rfl, ?_⟩; replace H0 := bK_ H0 hb; replace H1 := bK_ H1 hb; replace HB := bB_ HB.out hb; clear hb) | (refine box_event rfl (N := 5) rfl (cs := #[.int .i64 0, .int .i64 0, .int .i64 0]) (t := 41) ?hr ?_; (case hr => go_simp <;> rfl); intro g hg w_g hbox hb; have Gg := gW_ hg HB.out; replace H0 := bK_ H0 hb; replace H1 := bK_ H1 hb; replace HB := bB_ HB.out hb; have Bg := aA_ hbox; clear hb hbox hg; have hzg0 := ((blk_cell Bg.out 0).trans rfl : w_g.cell? ⟨g, 0, none⟩ = some (.int .i64 0)); have hfg0 := blk_frozen Bg.out 0; have hzg1 := ((blk_cell Bg.out 1).trans rfl : w_g.cell? ⟨g, 1, none⟩ = some (.int .i64 0)); have hfg1 := blk_frozen Bg.out 1; have hzg2 := ((blk_cell Bg.out 2).trans rfl : w_g.cell? ⟨g, 2, none⟩ = some (.int .i64 0)); have hfg2 := blk_frozen Bg.out 2))
  have E := aA_ (below_set (below_set (below_set HB.out Gg.out (j := 0) (v := .int .i64 p1)) Gg.out (j := 1) (v := .int .i64 p2)) Gg.out (j := 2) (v := .int .i64 p3))
  clear hzg0 hzg1 hzg2 hfg0 hfg1 hfg2
  generalize (((w_g.setCell ⟨g, 0, none⟩ (.int .i64 p1)).setCell ⟨g, 1, none⟩ (.int .i64 p2)).setCell ⟨g, 2, none⟩ (.int .i64 p3)) = wA at E ⊢
  clear HB Bg H0 H1
  have HB := E
  clear E
  have H0 := aA_ (blk_below W0.out HB.out)
  have H1 := aA_ (blk_below W1.out HB.out)
  go_upto_region 3 with (first | ((with_reducible refine gate_dst (N := 16) rfl ?_); refine goesL_ (some 16) rfl rfl Tryd.func28 (by kernel_rfl) rfl #[.int .i64 b] rfl (by (try simp only [mT_, mC_, mN_]); first | done | rfl) ?_; (with_reducible refine (civil_Of.calls k b q1 q2 q3 q4 _ ?sv AQ.out).mono ?_); (case sv => exact HV.out.below HB.out); rintro e wc ⟨rfl, hb⟩; refine ⟨_, rfl, ?_⟩; replace H0 := bK_ H0 hb; replace H1 := bK_ H1 hb; replace HB := bB_ HB.out hb; clear hb) | (refine box_event rfl (N := 7) rfl (cs := #[.int .i64 0, .int .i64 0, .int .i64 0]) (t := 41) ?hr ?_; (case hr => go_simp <;> rfl); intro gh hg w_h hbox hb; have Gh := gW_ hg HB.out; replace H0 := bK_ H0 hb; replace H1 := bK_ H1 hb; replace HB := bB_ HB.out hb; have Bh := aA_ hbox; clear hb hbox hg; have hzh0 := ((blk_cell Bh.out 0).trans rfl : w_h.cell? ⟨gh, 0, none⟩ = some (.int .i64 0)); have hfh0 := blk_frozen Bh.out 0; have hzh1 := ((blk_cell Bh.out 1).trans rfl : w_h.cell? ⟨gh, 1, none⟩ = some (.int .i64 0)); have hfh1 := blk_frozen Bh.out 1; have hzh2 := ((blk_cell Bh.out 2).trans rfl : w_h.cell? ⟨gh, 2, none⟩ = some (.int .i64 0)); have hfh2 := blk_frozen Bh.out 2))
  have E := aA_ (below_set (below_set (below_set HB.out Gh.out (j := 0) (v := .int .i64 q1)) Gh.out (j := 1) (v := .int .i64 q2)) Gh.out (j := 2) (v := .int .i64 q3))
  clear hzh0 hzh1 hzh2 hfh0 hfh1 hfh2
  generalize (((w_h.setCell ⟨gh, 0, none⟩ (.int .i64 q1)).setCell ⟨gh, 1, none⟩ (.int .i64 q2)).setCell ⟨gh, 2, none⟩ (.int .i64 q3)) = wB at E ⊢
  clear HB Bh H0 H1
  have HB := E
  clear E
  have H0 := aA_ (blk_below W0.out HB.out)
  have H1 := aA_ (blk_below W1.out HB.out)
  have z0 := ((blk_cell H0.out 0).trans rfl : wB.cell? ⟨0, 0, none⟩ = some (.iface 122 (.pointer (some a0))))
  have z1 := ((blk_cell H1.out 0).trans rfl : wB.cell? ⟨1, 0, none⟩ = some (.iface 122 (.pointer (some a1))))
  go_wp2
  go_ret
  exact ⟨⟨_, rfl, Or.inr (Or.inl ⟨a, b, a0, _, W0.out, rfl, rfl⟩)⟩, HB.out⟩

set_option maxHeartbeats 8000000 in
set_option maxRecDepth 100000 in
theorem by_err (k : Nat) (a b c : Int) (f : Value) (w : World) (hv : Vars w) (h : actual_check.f k a b = some c) (hc : c ≠ 0) : Calls Tryd.prog 22 #[.int .i64 a, .int .i64 b, f] w fun e w' => e = .returned (.tuple #[.agg #[.int .i64 0, .int .i64 0], .int .i64 c]) ∧ Below w.heap.size w w' := by
 have HV := aA_ hv
 have AC := aA_ h
 have huR := Tryd.underlying24
 have HB := aA_ (Below.refl w.heap.size w)
 have b1 : (c != 0) = true := bne_iff_ne.mpr hc
 clear hv h hc
 go_enter Tryd.func22, Tryd.ntmps22
 go_wp2_with (first | (refine box_event rfl (N := 6) rfl (cs := #[.int .i64 0, .int .i64 0]) (t := 24) ?hr ?_; (case hr => go_simp <;> rfl); intro g hg w_g hbox hb; have Gg := gW_ hg HB.out; replace HB := bB_ HB.out hb; have Bg := aA_ hbox; clear hb hbox hg) | ((with_reducible refine gate_dst (N := 11) rfl ?_); refine goesL_ (some 11) rfl rfl Tryd.func42 (by kernel_rfl) rfl #[.int .i64 a, .int .i64 b] rfl (by (try simp only [mT_, mC_, mN_]); first | done | rfl) ?_; (with_reducible refine (actual_check.calls k a b c _ ?sv AC.out).mono ?_); (case sv => exact HV.out.below HB.out); rintro e wc ⟨v, ⟨rfl, he⟩, hb⟩; refine ⟨_, rfl, ?_⟩; have HE := aA_ (he.below hb); replace Bg := bK_ Bg hb; replace HB := bB_ HB.out hb; clear hb he) | ((with_reducible refine gate_dst (N := 12) rfl ?_); refine goesL_ (some 12) rfl rfl Tryd.func41 (by kernel_rfl) rfl #[v] rfl (by (try simp only [mT_, mC_, mN_]); first | done | rfl) ?_; (with_reducible refine (code_calls v c _ ?sv HE.out).mono ?_); (case sv => exact HV.out.below HB.out); rintro e wd ⟨rfl, hb⟩; refine ⟨_, rfl, ?_⟩; replace Bg := bK_ Bg hb; replace HB := bB_ HB.out hb; clear hb; have hzg0 := ((blk_cell Bg.out 0).trans rfl : wd.cell? ⟨g, 0, none⟩ = some (.int .i64 0)); have hfg0 := blk_frozen Bg.out 0; have hzg1 := ((blk_cell Bg.out 1).trans rfl : wd.cell? ⟨g, 1, none⟩ = some (.int .i64 0)); have hfg1 := blk_frozen Bg.out 1))
 refine bodyPost_ret (results_ct rfl _ _ g 24 #[.int .i64 0, .int .i64 0] (0, 0) _ rfl (by refine blk_put (cs := #[.int .i64 0, .int .i64 0]) ?_ 1 _ rfl; refine blk_put (cs := #[.int .i64 0, .int .i64 0]) ?_ 0 _ rfl; exact Bg.out) Tryd.underlying24 rfl (by kernel_rfl)) rfl ?_
 exact ⟨rfl, below_set (below_set HB.out Gg.out) Gg.out⟩

set_option maxHeartbeats 8000000 in
set_option maxRecDepth 100000 in
theorem by_ok (k : Nat) (a b : Int) (F : FuncId) (fn : Func) (cap : Array Value) (r1 r2 r3 : Int) (w : World) (hF : Tryd.prog.funcs[F]? = some fn) (hN : (fn.name == "runtime.NumGoroutine") = false) (hBd : fn.body.isSome = true) (hv : Vars w) (h : actual_check.f k a b = some 0)
  (hcall : ∀ W, Below w.heap.size w W → Calls Tryd.prog F cap W fun e w' => e = .returned (.tuple #[.agg #[.int .i64 r1, .int .i64 r2], .int .i64 r3]) ∧ Below W.heap.size W w') :
  Calls Tryd.prog 22 #[.int .i64 a, .int .i64 b, .func (.func F) #[] cap] w fun e w' => e = .returned (.tuple #[.agg #[.int .i64 r1, .int .i64 r2], .int .i64 r3]) ∧ Below w.heap.size w w' := by
 have HV := aA_ hv
 have AC := aA_ h
 have HCALL := aA_ hcall
 have huR := Tryd.underlying24
 have HB := aA_ (Below.refl w.heap.size w)
 have b1 : ((0 : Int) != 0) = false := rfl
 clear hv h hcall
 go_enter Tryd.func22, Tryd.ntmps22
 go_wp2_with (first | (refine box_event rfl (N := 6) rfl (cs := #[.int .i64 0, .int .i64 0]) (t := 24) ?hr ?_; (case hr => go_simp <;> rfl); intro g hg w_g hbox hb; have Gg := gW_ hg HB.out; replace HB := bB_ HB.out hb; have Bg := aA_ hbox; clear hb hbox hg) | ((with_reducible refine gate_dst (N := 11) rfl ?_); refine goesL_ (some 11) rfl rfl Tryd.func42 (by kernel_rfl) rfl #[.int .i64 a, .int .i64 b] rfl (by (try simp only [mT_, mC_, mN_]); first | done | rfl) ?_; (with_reducible refine (actual_check.calls k a b 0 _ ?sv AC.out).mono ?_); (case sv => exact HV.out.below HB.out); rintro e wc ⟨v, ⟨rfl, he⟩, hb⟩; refine ⟨_, rfl, ?_⟩; have HE := aA_ (he.below hb); replace Bg := bK_ Bg hb; replace HB := bB_ HB.out hb; clear hb he) | ((with_reducible refine gate_dst (N := 12) rfl ?_); refine goesL_ (some 12) rfl rfl Tryd.func41 (by kernel_rfl) rfl #[v] rfl (by (try simp only [mT_, mC_, mN_]); first | done | rfl) ?_; (with_reducible refine (code_calls v 0 _ ?sv HE.out).mono ?_); (case sv => exact HV.out.below HB.out); rintro e wd ⟨rfl, hb⟩; refine ⟨_, rfl, ?_⟩; replace Bg := bK_ Bg hb; replace HB := bB_ HB.out hb; clear hb) | ((with_reducible refine gate_dst (N := 18) rfl ?_); refine goesV_ (some 18) rfl rfl hF hN hBd cap rfl rfl (by (try simp only [mT_, mC_, mN_]); first | done | rfl | simp) ?_; (with_reducible refine (HCALL.out _ HB.out).mono ?_); rintro e wf ⟨rfl, hb⟩; refine ⟨_, rfl, ?_⟩; replace Bg := bK_ Bg hb; replace HB := bB_ HB.out hb; clear hb; have hzg0 := ((blk_cell Bg.out 0).trans rfl : wf.cell? ⟨g, 0, none⟩ = some (.int .i64 0)); have hfg0 := blk_frozen Bg.out 0; have hzg1 := ((blk_cell Bg.out 1).trans rfl : wf.cell? ⟨g, 1, none⟩ = some (.int .i64 0)); have hfg1 := blk_frozen Bg.out 1))
 refine bodyPost_ret (results_ct rfl _ _ g 24 #[.int .i64 r1, .int .i64 r2] (0, 0) _ rfl (by refine blk_put (cs := #[.int .i64 r1, .int .i64 0]) ?_ 1 _ rfl; refine blk_put (cs := #[.int .i64 0, .int .i64 0]) ?_ 0 _ rfl; exact Bg.out) Tryd.underlying24 rfl (by kernel_rfl)) rfl ?_
 exact ⟨rfl, below_set (below_set HB.out Gg.out) Gg.out⟩

set_option maxHeartbeats 8000000 in
set_option maxRecDepth 100000 in
theorem By360_part (k : Nat) (a b r1 r2 r3 : Int) (p q : Nat) (w : World) (hp : w.heap[p]? = some (.cells #[.int .i64 b] 3 (0, 0))) (hq : w.heap[q]? = some (.cells #[.int .i64 a] 3 (0, 0))) (h : ratio_New.f k (wrap64 (b - a)) 360 = some (r1, r2, r3)) : Calls Tryd.prog 23 #[.pointer (some ⟨p, 0, none⟩), .pointer (some ⟨q, 0, none⟩)] w fun e w' => e = .returned (.tuple #[.agg #[.int .i64 r1, .int .i64 r2], .int .i64 r3]) ∧ Below w.heap.size w w' := by
 have AN := aA_ h
 have Bp := aA_ hp
 have Bq := aA_ hq
 have huR := Tryd.underlying24
 have HB := aA_ (Below.refl w.heap.size w)
 clear h hp hq
 go_enter Tryd.func23, Tryd.ntmps23
 go_wp2_with (first | (refine box_event rfl (N := 2) rfl (cs := #[.int .i64 0, .int .i64 0]) (t := 24) ?hr ?_; (case hr => go_simp <;> rfl); intro g hg w_g hbox hb; have Gg := gW_ hg HB.out; have Npg := aA_ ((by rw [hg]; exact Nat.ne_of_lt (blk_lt Bp.out)) : p ≠ g); replace Bp := bK_ Bp hb; have Nqg := aA_ ((by rw [hg]; exact Nat.ne_of_lt (blk_lt Bq.out)) : q ≠ g); replace Bq := bK_ Bq hb; replace HB := bB_ HB.out hb; have Bg := aA_ hbox; clear hb hbox hg; have hx := ((blk_cell Bp.out 0).trans rfl : w_g.cell? ⟨p, 0, none⟩ = some (.int .i64 b)); have hy := ((blk_cell Bq.out 0).trans rfl : w_g.cell? ⟨q, 0, none⟩ = some (.int .i64 a))) | (refine goesL_ (some 7) rfl rfl Tryd.func24 (by kernel_rfl) rfl #[.int .i64 (wrap64 (b - a)), .int .i64 360] rfl (by (try simp only [mT_, mC_, mN_]); first | done | rfl) ?_; (with_reducible refine (ratio_New.calls k (wrap64 (b - a)) 360 r1 r2 r3 _ AN.out).mono ?_); rintro e wc ⟨rfl, hb⟩; refine ⟨_, rfl, ?_⟩; replace Bg := bK_ Bg hb; replace HB := bB_ HB.out hb; clear hb; have hzg0 := ((blk_cell Bg.out 0).trans rfl : wc.cell? ⟨g, 0, none⟩ = some (.int .i64 0)); have hfg0 := blk_frozen Bg.out 0; have hzg1 := ((blk_cell Bg.out 1).trans rfl : wc.cell? ⟨g, 1, none⟩ = some (.int .i64 0)); have hfg1 := blk_frozen Bg.out 1))
 refine bodyPost_ret (results_ct rfl _ _ g 24 #[.int .i64 r1, .int .i64 r2] (0, 0) _ rfl (by refine blk_put (cs := #[.int .i64 r1, .int .i64 0]) ?_ 1 _ rfl; refine blk_put (cs := #[.int .i64 0, .int .i64 0]) ?_ 0 _ rfl; exact Bg.out) Tryd.underlying24 rfl (by kernel_rfl)) rfl ?_
 exact ⟨rfl, below_set (below_set HB.out Gg.out) Gg.out⟩

def actual_By360.f (k : Nat) (a b : Int) : Option (Int × Int × Int) := (actual_check.f k a b).bind fun c => if c = 0 then ratio_New.f k (wrap64 (b - a)) 360 else some (0, 0, c)
theorem actual_By360.mono : ∀ a b k, LeO (actual_By360.f k a b) (actual_By360.f (k + 1) a b) := fun a b k => LeO.bind (actual_check.mono _ _ _) (fun _ => LeO.ite (ratio_New.mono _ _ _) (LeO.refl _))
set_option maxHeartbeats 8000000 in
set_option maxRecDepth 100000 in
theorem actual_By360.calls (k : Nat) (a b r1 r2 r3 : Int) (w : World) (hv : Vars w) (h : actual_By360.f k a b = some (r1, r2, r3)) : Calls Tryd.prog 9 #[.int .i64 a, .int .i64 b] w fun e w' => e = .returned (.tuple #[.agg #[.int .i64 r1, .int .i64 r2], .int .i64 r3]) ∧ Below w.heap.size w w' := by
 have hmf : ∀ (fn : Fn) (first cap : Array Value) (w : World), (Instr.makeFunc fn first cap).run Tryd.prog w = .ok (.func fn first cap) w := fun _ _ _ _ => rfl
 have HV := aA_ hv
 have huR := Tryd.underlying24
 have HB := aA_ (Below.refl w.heap.size w)
 clear hv
 unfold actual_By360.f at h
 obtain ⟨c, A0, h⟩ := bI_ h
 by_cases hc : c = 0
 ·rw [if_pos hc] at h
  subst hc
  have AC := aA_ A0
  have AN := aA_ h
  clear A0 h
  go_enter Tryd.func9, Tryd.ntmps9
  go_wp2_with (first | (refine box_event rfl (N := 2) rfl (cs := #[.int .i64 a]) (t := 3) ?hr ?_; (case hr => go_simp <;> rfl); intro p hg w_p hbox hb; have Gp := gW_ hg HB.out; replace HB := bB_ HB.out hb; have Bp := aA_ hbox; clear hb hbox hg) | (refine box_event rfl (N := 3) rfl (cs := #[.int .i64 b]) (t := 3) ?hr ?_; (case hr => go_simp <;> rfl); intro q hg w_q hbox hb; have Gq := gW_ hg HB.out; have Npq := aA_ ((by rw [hg]; exact Nat.ne_of_lt (blk_lt Bp.out)) : p ≠ q); replace Bp := bK_ Bp hb; replace HB := bB_ HB.out hb; have Bq := aA_ hbox; clear hb hbox hg) | (refine box_event rfl (N := 4) rfl (cs := #[.int .i64 0, .int .i64 0]) (t := 24) ?hr ?_; (case hr => go_simp <;> rfl); intro g hg w_g hbox hb; have Gg := gW_ hg HB.out; have Npg := aA_ ((by rw [hg]; exact Nat.ne_of_lt (blk_lt Bp.out)) : p ≠ g); replace Bp := bK_ Bp hb; have Nqg := aA_ ((by rw [hg]; exact Nat.ne_of_lt (blk_lt Bq.out)) : q ≠ g); replace Bq := bK_ Bq hb; replace HB := bB_ HB.out hb; have Bg := aA_ hbox; clear hb hbox hg; have hx := ((blk_cell Bp.out 0).trans rfl : w_g.cell? ⟨p, 0, none⟩ = some (.int .i64 a)); have hy := ((blk_cell Bq.out 0).trans rfl : w_g.cell? ⟨q, 0, none⟩ = some (.int .i64 b))) | (refine goesL_ (some 9) rfl rfl Tryd.func22 (by kernel_rfl) rfl #[.int .i64 a, .int .i64 b, .func (.func 23) #[] #[.pointer (some ⟨q, 0, none⟩), .pointer (some ⟨p, 0, none⟩)]] rfl (by (try simp only [mT_, mC_, mN_]); first | done | rfl) ?_; (with_reducible refine (by_ok k a b 23 _ #[.pointer (some ⟨q, 0, none⟩), .pointer (some ⟨p, 0, none⟩)] r1 r2 r3 _ Tryd.func23 (by kernel_rfl) rfl ?sv AC.out ?hcall).mono ?_); (case sv => exact HV.out.below HB.out); (case hcall => exact (fun W hW => By360_part k a b r1 r2 r3 q p W (hW.block _ (blk_lt Bq.out) |>.trans Bq.out) (hW.block _ (blk_lt Bp.out) |>.trans Bp.out) AN.out)); rintro e wc ⟨rfl, hb⟩; refine ⟨_, rfl, ?_⟩; replace Bg := bK_ Bg hb; replace HB := bB_ HB.out hb; clear hb; have hzg0 := ((blk_cell Bg.out 0).trans rfl : wc.cell? ⟨g, 0, none⟩ = some (.int .i64 0)); have hfg0 := blk_frozen Bg.out 0; have hzg1 := ((blk_cell Bg.out 1).trans rfl : wc.cell? ⟨g, 1, none⟩ = some (.int .i64 0)); have hfg1 := blk_frozen Bg.out 1))
  refine bodyPost_ret (results_ct rfl _ _ g 24 #[.int .i64 r1, .int .i64 r2] (0, 0) _ rfl (by refine blk_put (cs := #[.int .i64 r1, .int .i64 0]) ?_ 1 _ rfl; refine blk_put (cs := #[.int .i64 0, .int .i64 0]) ?_ 0 _ rfl; exact Bg.out) Tryd.underlying24 rfl (by kernel_rfl)) rfl ?_
  exact ⟨rfl, below_set (below_set HB.out Gg.out) Gg.out⟩
 ·rw [if_neg hc] at h
  simp only [Option.some.injEq, Prod.mk.injEq] at h
  obtain ⟨rfl, rfl, rfl⟩ := h
  have AC := aA_ A0
  have NC := aA_ hc
  clear A0 hc
  go_enter Tryd.func9, Tryd.ntmps9
  go_wp2_with (first | (refine box_event rfl (N := 2) rfl (cs := #[.int .i64 a]) (t := 3) ?hr ?_; (case hr => go_simp <;> rfl); intro p hg w_p hbox hb; have Gp := gW_ hg HB.out; replace HB := bB_ HB.out hb; have Bp := aA_ hbox; clear hb hbox hg) | (refine box_event rfl (N := 3) rfl (cs := #[.int .i64 b]) (t := 3) ?hr ?_; (case hr => go_simp <;> rfl); intro q hg w_q hbox hb; have Gq := gW_ hg HB.out; have Npq := aA_ ((by rw [hg]; exact Nat.ne_of_lt (blk_lt Bp.out)) : p ≠ q); replace Bp := bK_ Bp hb; replace HB := bB_ HB.out hb; have Bq := aA_ hbox; clear hb hbox hg) | (refine box_event rfl (N := 4) rfl (cs := #[.int .i64 0, .int .i64 0]) (t := 24) ?hr ?_; (case hr => go_simp <;> rfl); intro g hg w_g hbox hb; have Gg := gW_ hg HB.out; have Npg := aA_ ((by rw [hg]; exact Nat.ne_of_lt (blk_lt Bp.out)) : p ≠ g); replace Bp := bK_ Bp hb; have Nqg := aA_ ((by rw [hg]; exact Nat.ne_of_lt (blk_lt Bq.out)) : q ≠ g); replace Bq := bK_ Bq hb; replace HB := bB_ HB.out hb; have Bg := aA_ hbox; clear hb hbox hg; have hx := ((blk_cell Bp.out 0).trans rfl : w_g.cell? ⟨p, 0, none⟩ = some (.int .i64 a)); have hy := ((blk_cell Bq.out 0).trans rfl : w_g.cell? ⟨q, 0, none⟩ = some (.int .i64 b))) | (refine goesL_ (some 9) rfl rfl Tryd.func22 (by kernel_rfl) rfl #[.int .i64 a, .int .i64 b, .func (.func 23) #[] #[.pointer (some ⟨q, 0, none⟩), .pointer (some ⟨p, 0, none⟩)]] rfl (by (try simp only [mT_, mC_, mN_]); first | done | rfl) ?_; (with_reducible refine (by_err k a b c _ _ ?sv AC.out NC.out).mono ?_); (case sv => exact HV.out.below HB.out); rintro e wc ⟨rfl, hb⟩; refine ⟨_, rfl, ?_⟩; replace Bg := bK_ Bg hb; replace HB := bB_ HB.out hb; clear hb; have hzg0 := ((blk_cell Bg.out 0).trans rfl : wc.cell? ⟨g, 0, none⟩ = some (.int .i64 0)); have hfg0 := blk_frozen Bg.out 0; have hzg1 := ((blk_cell Bg.out 1).trans rfl : wc.cell? ⟨g, 1, none⟩ = some (.int .i64 0)); have hfg1 := blk_frozen Bg.out 1))
  refine bodyPost_ret (results_ct rfl _ _ g 24 #[.int .i64 0, .int .i64 0] (0, 0) _ rfl (by refine blk_put (cs := #[.int .i64 0, .int .i64 0]) ?_ 1 _ rfl; refine blk_put (cs := #[.int .i64 0, .int .i64 0]) ?_ 0 _ rfl; exact Bg.out) Tryd.underlying24 rfl (by kernel_rfl)) rfl ?_
  exact ⟨rfl, below_set (below_set HB.out Gg.out) Gg.out⟩

set_option maxHeartbeats 8000000 in
set_option maxRecDepth 100000 in
theorem By365_part (k : Nat) (a b r1 r2 r3 : Int) (p q : Nat) (w : World) (hp : w.heap[p]? = some (.cells #[.int .i64 b] 3 (0, 0))) (hq : w.heap[q]? = some (.cells #[.int .i64 a] 3 (0, 0))) (h : ratio_New.f k (wrap64 (b - a)) 365 = some (r1, r2, r3)) : Calls Tryd.prog 26 #[.pointer (some ⟨p, 0, none⟩), .pointer (some ⟨q, 0, none⟩)] w fun e w' => e = .returned (.tuple #[.agg #[.int .i64 r1, .int .i64 r2], .int .i64 r3]) ∧ Below w.heap.size w w' := by
 have AN := aA_ h
 have Bp := aA_ hp
 have Bq := aA_ hq
 have huR := Tryd.underlying24
 have HB := aA_ (Below.refl w.heap.size w)
 clear h hp hq
 go_enter Tryd.func26, Tryd.ntmps26
 go_wp2_with (first | (refine box_event rfl (N := 2) rfl (cs := #[.int .i64 0, .int .i64 0]) (t := 24) ?hr ?_; (case hr => go_simp <;> rfl); intro g hg w_g hbox hb; have Gg := gW_ hg HB.out; have Npg := aA_ ((by rw [hg]; exact Nat.ne_of_lt (blk_lt Bp.out)) : p ≠ g); replace Bp := bK_ Bp hb; have Nqg := aA_ ((by rw [hg]; exact Nat.ne_of_lt (blk_lt Bq.out)) : q ≠ g); replace Bq := bK_ Bq hb; replace HB := bB_ HB.out hb; have Bg := aA_ hbox; clear hb hbox hg; have hx := ((blk_cell Bp.out 0).trans rfl : w_g.cell? ⟨p, 0, none⟩ = some (.int .i64 b)); have hy := ((blk_cell Bq.out 0).trans rfl : w_g.cell? ⟨q, 0, none⟩ = some (.int .i64 a))) | (refine goesL_ (some 7) rfl rfl Tryd.func24 (by kernel_rfl) rfl #[.int .i64 (wrap64 (b - a)), .int .i64 365] rfl (by (try simp only [mT_, mC_, mN_]); first | done | rfl) ?_; (with_reducible refine (ratio_New.calls k (wrap64 (b - a)) 365 r1 r2 r3 _ AN.out).mono ?_); rintro e wc ⟨rfl, hb⟩; refine ⟨_, rfl, ?_⟩; replace Bg := bK_ Bg hb; replace HB := bB_ HB.out hb; clear hb; have hzg0 := ((blk_cell Bg.out 0).trans rfl : wc.cell? ⟨g, 0, none⟩ = some (.int .i64 0)); have hfg0 := blk_frozen Bg.out 0; have hzg1 := ((blk_cell Bg.out 1).trans rfl : wc.cell? ⟨g, 1, none⟩ = some (.int .i64 0)); have hfg1 := blk_frozen Bg.out 1))
 refine bodyPost_ret (results_ct rfl _ _ g 24 #[.int .i64 r1, .int .i64 r2] (0, 0) _ rfl (by refine blk_put (cs := #[.int .i64 r1, .int .i64 0]) ?_ 1 _ rfl; refine blk_put (cs := #[.int .i64 0, .int .i64 0]) ?_ 0 _ rfl; exact Bg.out) Tryd.underlying24 rfl (by kernel_rfl)) rfl ?_
 exact ⟨rfl, below_set (below_set HB.out Gg.out) Gg.out⟩

def actual_By365.f (k : Nat) (a b : Int) : Option (Int × Int × Int) := (actual_check.f k a b).bind fun c => if c = 0 then ratio_New.f k (wrap64 (b - a)) 365 else some (0, 0, c)
theorem actual_By365.mono : ∀ a b k, LeO (actual_By365.f k a b) (actual_By365.f (k + 1) a b) := fun a b k => LeO.bind (actual_check.mono _ _ _) (fun _ => LeO.ite (ratio_New.mono _ _ _) (LeO.refl _))
set_option maxHeartbeats 8000000 in
set_option maxRecDepth 100000 in
theorem actual_By365.calls (k : Nat) (a b r1 r2 r3 : Int) (w : World) (hv : Vars w) (h : actual_By365.f k a b = some (r1, r2, r3)) : Calls Tryd.prog 11 #[.int .i64 a, .int .i64 b] w fun e w' => e = .returned (.tuple #[.agg #[.int .i64 r1, .int .i64 r2], .int .i64 r3]) ∧ Below w.heap.size w w' := by
 have hmf : ∀ (fn : Fn) (first cap : Array Value) (w : World), (Instr.makeFunc fn first cap).run Tryd.prog w = .ok (.func fn first cap) w := fun _ _ _ _ => rfl
 have HV := aA_ hv
 have huR := Tryd.underlying24
 have HB := aA_ (Below.refl w.heap.size w)
 clear hv
 unfold actual_By365.f at h
 obtain ⟨c, A0, h⟩ := bI_ h
 by_cases hc : c = 0
 ·rw [if_pos hc] at h
  subst hc
  have AC := aA_ A0
  have AN := aA_ h
  clear A0 h
  go_enter Tryd.func11, Tryd.ntmps11
  go_wp2_with (first | (refine box_event rfl (N := 2) rfl (cs := #[.int .i64 a]) (t := 3) ?hr ?_; (case hr => go_simp <;> rfl); intro p hg w_p hbox hb; have Gp := gW_ hg HB.out; replace HB := bB_ HB.out hb; have Bp := aA_ hbox; clear hb hbox hg) | (refine box_event rfl (N := 3) rfl (cs := #[.int .i64 b]) (t := 3) ?hr ?_; (case hr => go_simp <;> rfl); intro q hg w_q hbox hb; have Gq := gW_ hg HB.out; have Npq := aA_ ((by rw [hg]; exact Nat.ne_of_lt (blk_lt Bp.out)) : p ≠ q); replace Bp := bK_ Bp hb; replace HB := bB_ HB.out hb; have Bq := aA_ hbox; clear hb hbox hg) | (refine box_event rfl (N := 4) rfl (cs := #[.int .i64 0, .int .i64 0]) (t := 24) ?hr ?_; (case hr => go_simp <;> rfl); intro g hg w_g hbox hb; have Gg := gW_ hg HB.out; have Npg := aA_ ((by rw [hg]; exact Nat.ne_of_lt (blk_lt Bp.out)) : p ≠ g); replace Bp := bK_ Bp hb; have Nqg := aA_ ((by rw [hg]; exact Nat.ne_of_lt (blk_lt Bq.out)) : q ≠ g); replace Bq := bK_ Bq hb; replace HB := bB_ HB.out hb; have Bg := aA_ hbox; clear hb hbox hg; have hx := ((blk_cell Bp.out 0).trans rfl : w_g.cell? ⟨p, 0, none⟩ = some (.int .i64 a)); have hy := ((blk_cell Bq.out 0).trans rfl : w_g.cell? ⟨q, 0, none⟩ = some (.int .i64 b))) | (refine goesL_ (some 9) rfl rfl Tryd.func22 (by kernel_rfl) rfl #[.int .i64 a, .int .i64 b, .func (.func 26) #[] #[.pointer (some ⟨q, 0, none⟩), .pointer (some ⟨p, 0, none⟩)]] rfl (by (try simp only [mT_, mC_, mN_]); first | done | rfl) ?_; (with_reducible refine (by_ok k a b 26 _ #[.pointer (some ⟨q, 0, none⟩), .pointer (some ⟨p, 0, none⟩)] r1 r2 r3 _ Tryd.func26 (by kernel_rfl) rfl ?sv AC.out ?hcall).mono ?_); (case sv => exact HV.out.below HB.out); (case hcall => exact (fun W hW => By365_part k a b r1 r2 r3 q p W (hW.block _ (blk_lt Bq.out) |>.trans Bq.out) (hW.block _ (blk_lt Bp.out) |>.trans Bp.out) AN.out)); rintro e wc ⟨rfl, hb⟩; refine ⟨_, rfl, ?_⟩; replace Bg := bK_ Bg hb; replace HB := bB_ HB.out hb; clear hb; have hzg0 := ((blk_cell Bg.out 0).trans rfl : wc.cell? ⟨g, 0, none⟩ = some (.int .i64 0)); have hfg0 := blk_frozen Bg.out 0; have hzg1 := ((blk_cell Bg.out 1).trans rfl : wc.cell? ⟨g, 1, none⟩ = some (.int .i64 0)); have hfg1 := blk_frozen Bg.out 1))
  refine bodyPost_ret (results_ct rfl _ _ g 24 #[.int .i64 r1, .int .i64 r2] (0, 0) _ rfl (by refine blk_put (cs := #[.int .i64 r1, .int .i64 0]) ?_ 1 _ rfl; refine blk_put (cs := #[.int .i64 0, .int .i64 0]) ?_ 0 _ rfl; exact Bg.out) Tryd.underlying24 rfl (by kernel_rfl)) rfl ?_
  exact ⟨rfl, below_set (below_set HB.out Gg.out) Gg.out⟩
 ·rw [if_neg hc] at h
  simp only [Option.some.injEq, Prod.mk.injEq] at h
  obtain ⟨rfl, rfl, rfl⟩ := h
  have AC := aA_ A0
  have NC := aA_ hc
  clear A0 hc
  go_enter Tryd.func11, Tryd.ntmps11
  go_wp2_with (first | (refine box_event rfl (N := 2) rfl (cs := #[.int .i64 a]) (t := 3) ?hr ?_; (case hr => go_simp <;> rfl); intro p hg w_p hbox hb; have Gp := gW_ hg HB.out; replace HB := bB_ HB.out hb; have Bp := aA_ hbox; clear hb hbox hg) | (refine box_event rfl (N := 3) rfl (cs := #[.int .i64 b]) (t := 3) ?hr ?_; (case hr => go_simp <;> rfl); intro q hg w_q hbox hb; have Gq := gW_ hg HB.out; have Npq := aA_ ((by rw [hg]; exact Nat.ne_of_lt (blk_lt Bp.out)) : p ≠ q); replace Bp := bK_ Bp hb; replace HB := bB_ HB.out hb; have Bq := aA_ hbox; clear hb hbox hg) | (refine box_event rfl (N := 4) rfl (cs := #[.int .i64 0, .int .i64 0]) (t := 24) ?hr ?_; (case hr => go_simp <;> rfl); intro g hg w_g hbox hb; have Gg := gW_ hg HB.out; have Npg := aA_ ((by rw [hg]; exact Nat.ne_of_lt (blk_lt Bp.out)) : p ≠ g); replace Bp := bK_ Bp hb; have Nqg := aA_ ((by rw [hg]; exact Nat.ne_of_lt (blk_lt Bq.out)) : q ≠ g); replace Bq := bK_ Bq hb; replace HB := bB_ HB.out hb; have Bg := aA_ hbox; clear hb hbox hg; have hx := ((blk_cell Bp.out 0).trans rfl : w_g.cell? ⟨p, 0, none⟩ = some (.int .i64 a)); have hy := ((blk_cell Bq.out 0).trans rfl : w_g.cell? ⟨q, 0, none⟩ = some (.int .i64 b))) | (refine goesL_ (some 9) rfl rfl Tryd.func22 (by kernel_rfl) rfl #[.int .i64 a, .int .i64 b, .func (.func 26) #[] #[.pointer (some ⟨q, 0, none⟩), .pointer (some ⟨p, 0, none⟩)]] rfl (by (try simp only [mT_, mC_, mN_]); first | done | rfl) ?_; (with_reducible refine (by_err k a b c _ _ ?sv AC.out NC.out).mono ?_); (case sv => exact HV.out.below HB.out); rintro e wc ⟨rfl, hb⟩; refine ⟨_, rfl, ?_⟩; replace Bg := bK_ Bg hb; replace HB := bB_ HB.out hb; clear hb; have hzg0 := ((blk_cell Bg.out 0).trans rfl : wc.cell? ⟨g, 0, none⟩ = some (.int .i64 0)); have hfg0 := blk_frozen Bg.out 0; have hzg1 := ((blk_cell Bg.out 1).trans rfl : wc.cell? ⟨g, 1, none⟩ = some (.int .i64 0)); have hfg1 := blk_frozen Bg.out 1))
  refine bodyPost_ret (results_ct rfl _ _ g 24 #[.int .i64 0, .int .i64 0] (0, 0) _ rfl (by refine blk_put (cs := #[.int .i64 0, .int .i64 0]) ?_ 1 _ rfl; refine blk_put (cs := #[.int .i64 0, .int .i64 0]) ?_ 0 _ rfl; exact Bg.out) Tryd.underlying24 rfl (by kernel_rfl)) rfl ?_
  exact ⟨rfl, below_set (below_set HB.out Gg.out) Gg.out⟩

end Go.Proofs.YtbapgkopilmdfaaDoor.X
