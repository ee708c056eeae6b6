-- cut by prune.py, a program of this session
import Derived.Test.YteikafepdkijdaaPTableSumsHLay
import Derived.LoopTactic
import Derived.Deep.LoopGhost
namespace Go.Proofs.Yteikafepdkijdaa.X
open Go.RowKit Go.Proofs.YteikafepdkijdaaW.PrintWords Go.Proofs.YteikafepdkijdaaW.PrintLast Go.Proofs.YteikafepdkijdaaW.PrintMore
set_option linter.unusedVariables false
set_option linter.unusedSimpArgs false

theorem Lay.keep {g : Nat} {w w' : World} (h : Lay g w w') : KeepBut w w' g none := ⟨h.size, fun i hi hg _ => h.block i hi hg⟩
theorem Lay.below {g : Nat} {w0 w w' : World} (h : Lay g w w') (hb : Below w0.heap.size w0 w) (hg : w0.heap.size ≤ g) : Below w0.heap.size w0 w' :=
 ⟨h.os.trans hb.os, h.tape.trans hb.tape, h.output.trans hb.output, Nat.le_trans hb.size h.size, fun k hk => (h.block k (by have := hb.size; omega) (by omega)).trans (hb.block k hk)⟩
theorem Lay.blk {g x : Nat} {o : Obj} {w w' : World} (h : Lay g w w') (hb : w.heap[x]? = some o) (hx : x ≠ g) : w'.heap[x]? = some o := (h.block x (blk_lt hb) hx).trans hb
theorem Lay.row {g : Nat} {w w' : World} (h : Lay g w w') {base : Nat} {v : Value} {xs : List S48} (hr : Kd.R k48 48 w base (fun _ => True) v xs) {cs : Array Value} {t : TypeId} (B : w.heap[g]? = some (.cells cs t (0, 0))) (ht : ∀ q, q ∈ 48 :: (k48).E → q ≠ t) :
  Kd.R k48 48 w' base (fun _ => True) v xs := Kd.R_mono (Kd.R_keep (Kd.R_types hr B ht) h.keep (fun _ hk => hk.2)) (fun _ _ => trivial)
theorem Lay.rowN {g : Nat} {w w' : World} (h : Lay g w w') {base : Nat} {v : Value} {xs : List S48} (hr : Kd.R k48 48 w base (fun k => k ≠ g) v xs) : Kd.R k48 48 w' base (fun _ => True) v xs := Kd.R_mono (Kd.R_keep hr h.keep (fun _ hk => hk)) (fun _ _ => trivial)
theorem Lay.refl (g : Nat) (w : World) : Lay g w w := Lay.of_below (Below.refl _ _)


theorem lay_calls2 (k : Nat) (g1 g2 : Nat) (a0 a1 p q back b r1 r2 py cl : Int) (w : World) (h1 : w.heap[g1]? = some (.cells #[.int .i64 a0] 3 (0, 0))) (h2 : w.heap[g2]? = some (.cells #[.int .i64 a1] 3 (0, 0))) (hne : g1 ≠ g2) (h : accrue_Of.f k a0 a1 p q = some (r1, r2)) (hbk : back = b) (hp : wrap64 (r1 + b) = py) (hc : wrap64 (a0 - b) = cl) :
  Calls Try.prog 68 #[.agg #[.int .i64 p, .int .i64 q], .int .i64 back, .pointer (some ⟨g1, 0, none⟩), .pointer (some ⟨g2, 0, none⟩)] w fun e w' =>
   e = .returned (.tuple #[.agg #[.int .i64 a0, .int .i64 r1, .int .i64 b, .int .i64 py, .int .i64 cl], .int .i64 r2]) ∧ w'.heap[g1]? = some (.cells #[.int .i64 cl] 3 (0, 0)) ∧ Lay g1 w w' := by
 subst hbk hp hc
 exact lay_calls k g1 g2 a0 a1 p q back r1 r2 w h1 h2 hne h

def plain_table.l0 : Nat → Int → List S56 → Int → List S48 → Int → Int → Option (List S48 × Int)
 | 0, _, _, _, _, _, _ => none
 | k + 1, x1, x2, x3, x10, x11, x12 => if x12 < (x2.length : Int) then (if 0 ≤ x12 then ((accrue_Of.f k x11 x1 ((rd_T56 x2 x12).f0) ((rd_T56 x2 x12).f1)).bind fun t => (if t.2 = 0 then (if x10.length < 3518437208883 then
   plain_table.l0 k x1 x2 x3 (x10 ++ [(⟨x11, t.1, if x12 = wrap64 ((x2.length : Int) - 1) then x11 else x3, wrap64 (t.1 + if x12 = wrap64 ((x2.length : Int) - 1) then x11 else x3), wrap64 (x11 - if x12 = wrap64 ((x2.length : Int) - 1) then x11 else x3)⟩ : S48)])
    (wrap64 (x11 - if x12 = wrap64 ((x2.length : Int) - 1) then x11 else x3)) (wrap64 (x12 + 1)) else none) else some ([], t.2))) else none)
  else (if 0 ≤ wrap64 ((x2.length : Int) - 1) then (if wrap64 ((x2.length : Int) - 1) < (x10.length : Int) then (if ((rd_T48 x10 (wrap64 ((x2.length : Int) - 1))).f3) > 4611686018427387904 then some ([], 6) else some (x10, 0)) else none) else none)
def plain_table.f (k : Nat) (a0 a1 : Int) (l2 : List S56) (a3 : Int) : Option (List S48 × Int) :=
 if (l2.length : Int) < 1 then some ([], 1) else if (l2.length : Int) > 1200 then some ([], 1) else if a0 < 0 then some ([], 2) else if a0 > 1000000000000000 then some ([], 2) else plain_table.l0 k a1 l2 a3 [] a0 0

set_option maxHeartbeats 8000000 in
set_option maxRecDepth 100000 in
theorem plain_walk (F : FuncId) (fn : Func) (hF : Try.prog.funcs[F]? = some fn) (hN : (fn.name == "runtime.NumGoroutine") = false) (hBd : fn.body.isSome = true) (k : Nat) (a0 a1 : Int) (A2 : Option Addr) (c2 : Nat) (l2 : List S56) (a3 : Int) (r1 : List S48) (r2 : Int) (w : World) (hr2 : Kd.C k56 w A2 l2.length l2) (hc2 : l2.length ≤ c2)
  (hcall : ∀ W, 0 < l2.length → Calls Try.prog F #[.int .i64 a0, .int .i64 (l2.length : Int)] W fun e w' => e = .returned (.int .i64 a3) ∧ Below W.heap.size W w') (h : plain_table.f k a0 a1 l2 a3 = some (r1, r2)) :
  Calls Try.prog 52 #[.agg #[.func (.func F) #[] #[]], .int .i64 a0, .int .i64 a1, .slice A2 l2.length c2] w fun e w' => ∃ v0_ : Value, e = .returned (.tuple #[v0_, .int .i64 r2]) ∧ Kd.R k48 48 w' w.heap.size (fun _ => True) v0_ r1 ∧ Below w.heap.size w w' := by
 have hmf : ∀ (fn : Fn) (first cap : Array Value) (w : World), (Instr.makeFunc fn first cap).run Try.prog w = .ok (.func fn first cap) w := fun _ _ _ _ => rfl
 have huQ := Try.underlying56
 have huR := Try.underlying48
 have huK := Try.underlying104
 have HR2 := aA_ hr2
 have HC2 := aA_ hc2
 have HCALL := aA_ hcall
 have hE : ∀ (args : Array Value) (w : World), (callFunc F args).run Try.prog w = .ok (.enter F args) w := fun args w => enters_ hF hN hBd args w
 have HB := aA_ (Below.refl w.heap.size w)
 clear hr2 hc2 hcall
 unfold plain_table.f at h
 by_cases c1 : (l2.length : Int) < 1
 ·rw [if_pos c1] at h
  have c1b0 : decide ((l2.length : Int) < 1) = true := decide_eq_true c1
  clear c1
  simp only [Option.some.injEq, Prod.mk.injEq] at h
  obtain ⟨rfl, rfl⟩ := h
  go_enter Try.func52, Try.ntmps52
  go_wp2_with (first | (refine box_event rfl (N := 4) rfl (cs := #[.func (.func F) #[] #[]]) (t := 104) ?hr ?_; (case hr => go_simp <;> rfl); intro bk hg w_bk hbox hb; have Gbk := gW_ hg HB.out; replace HB := bB_ HB.out hb; have Bbk := aA_ hbox; clear hb hbox hg) | (refine box_event rfl (N := 6) rfl (cs := #[.int .i64 a1]) (t := 3) ?hr ?_; (case hr => go_simp <;> rfl); intro br hg w_br hbox hb; have Gbr := gW_ hg HB.out; have Nbkbr := aA_ ((by rw [hg]; exact Nat.ne_of_lt (blk_lt Bbk.out)) : bk ≠ br); replace Bbk := bK_ Bbk hb; replace HB := bB_ HB.out hb; have Bbr := aA_ hbox; clear hb hbox hg))
  go_ret2
  exact ⟨_, rfl, Kd.R_nil _ _ _ _ _, HB.out⟩
 rw [if_neg c1] at h
 have c1b0 : decide ((l2.length : Int) < 1) = false := decide_eq_false c1
 have L1 := aA_ c1
 clear c1
 by_cases c2 : (l2.length : Int) > 1200
 ·rw [if_pos c2] at h
  have c2b0 : decide (1200 < (l2.length : Int)) = true := decide_eq_true c2
  clear c2
  simp only [Option.some.injEq, Prod.mk.injEq] at h
  obtain ⟨rfl, rfl⟩ := h
  go_enter Try.func52, Try.ntmps52
  go_wp2_with (first | (refine box_event rfl (N := 4) rfl (cs := #[.func (.func F) #[] #[]]) (t := 104) ?hr ?_; (case hr => go_simp <;> rfl); intro bk hg w_bk hbox hb; have Gbk := gW_ hg HB.out; replace HB := bB_ HB.out hb; have Bbk := aA_ hbox; clear hb hbox hg) | (refine box_event rfl (N := 6) rfl (cs := #[.int .i64 a1]) (t := 3) ?hr ?_; (case hr => go_simp <;> rfl); intro br hg w_br hbox hb; have Gbr := gW_ hg HB.out; have Nbkbr := aA_ ((by rw [hg]; exact Nat.ne_of_lt (blk_lt Bbk.out)) : bk ≠ br); replace Bbk := bK_ Bbk hb; replace HB := bB_ HB.out hb; have Bbr := aA_ hbox; clear hb hbox hg))
  go_ret2
  exact ⟨_, rfl, Kd.R_nil _ _ _ _ _, HB.out⟩
 rw [if_neg c2] at h
 have c2b0 : decide (1200 < (l2.length : Int)) = false := decide_eq_false c2
 have L2 := aA_ c2
 clear c2
 by_cases c3 : a0 < 0
 ·rw [if_pos c3] at h
  have c3b0 : decide (a0 < 0) = true := decide_eq_true c3
  clear c3
  simp only [Option.some.injEq, Prod.mk.injEq] at h
  obtain ⟨rfl, rfl⟩ := h
  go_enter Try.func52, Try.ntmps52
  go_wp2_with (first | (refine box_event rfl (N := 4) rfl (cs := #[.func (.func F) #[] #[]]) (t := 104) ?hr ?_; (case hr => go_simp <;> rfl); intro bk hg w_bk hbox hb; have Gbk := gW_ hg HB.out; replace HB := bB_ HB.out hb; have Bbk := aA_ hbox; clear hb hbox hg) | (refine box_event rfl (N := 6) rfl (cs := #[.int .i64 a1]) (t := 3) ?hr ?_; (case hr => go_simp <;> rfl); intro br hg w_br hbox hb; have Gbr := gW_ hg HB.out; have Nbkbr := aA_ ((by rw [hg]; exact Nat.ne_of_lt (blk_lt Bbk.out)) : bk ≠ br); replace Bbk := bK_ Bbk hb; replace HB := bB_ HB.out hb; have Bbr := aA_ hbox; clear hb hbox hg))
  go_ret2
  exact ⟨_, rfl, Kd.R_nil _ _ _ _ _, HB.out⟩
 rw [if_neg c3] at h
 have c3b0 : decide (a0 < 0) = false := decide_eq_false c3
 clear c3
 by_cases c4 : a0 > 1000000000000000
 ·rw [if_pos c4] at h
  have c4b0 : decide (1000000000000000 < a0) = true := decide_eq_true c4
  clear c4
  simp only [Option.some.injEq, Prod.mk.injEq] at h
  obtain ⟨rfl, rfl⟩ := h
  go_enter Try.func52, Try.ntmps52
  go_wp2_with (first | (refine box_event rfl (N := 4) rfl (cs := #[.func (.func F) #[] #[]]) (t := 104) ?hr ?_; (case hr => go_simp <;> rfl); intro bk hg w_bk hbox hb; have Gbk := gW_ hg HB.out; replace HB := bB_ HB.out hb; have Bbk := aA_ hbox; clear hb hbox hg) | (refine box_event rfl (N := 6) rfl (cs := #[.int .i64 a1]) (t := 3) ?hr ?_; (case hr => go_simp <;> rfl); intro br hg w_br hbox hb; have Gbr := gW_ hg HB.out; have Nbkbr := aA_ ((by rw [hg]; exact Nat.ne_of_lt (blk_lt Bbk.out)) : bk ≠ br); replace Bbk := bK_ Bbk hb; replace HB := bB_ HB.out hb; have Bbr := aA_ hbox; clear hb hbox hg))
  go_ret2
  exact ⟨_, rfl, Kd.R_nil _ _ _ _ _, HB.out⟩
 rw [if_neg c4] at h
 have c4b0 : decide (1000000000000000 < a0) = false := decide_eq_false c4
 clear c4
 have H' := aA_ h
 clear h
 go_enter Try.func52, Try.ntmps52
 go_wp2_with (first | (refine box_event rfl (N := 4) rfl (cs := #[.func (.func F) #[] #[]]) (t := 104) ?hr ?_; (case hr => go_simp <;> rfl); intro bk hg w_bk hbox hb; have Gbk := gW_ hg HB.out; replace HB := bB_ HB.out hb; have Bbk := aA_ hbox; clear hb hbox hg) | (refine box_event rfl (N := 6) rfl (cs := #[.int .i64 a1]) (t := 3) ?hr ?_; (case hr => go_simp <;> rfl); intro br hg w_br hbox hb; have Gbr := gW_ hg HB.out; have Nbkbr := aA_ ((by rw [hg]; exact Nat.ne_of_lt (blk_lt Bbk.out)) : bk ≠ br); replace Bbk := bK_ Bbk hb; replace HB := bB_ HB.out hb; have Bbr := aA_ hbox; clear hb hbox hg) | (refine box_event rfl (N := 11) rfl (cs := #[.int .i64 0]) (t := 3) ?hr ?_; (case hr => go_simp <;> rfl); intro bo hg w_bo hbox hb; have Gbo := gW_ hg HB.out; have Nbkbo := aA_ ((by rw [hg]; exact Nat.ne_of_lt (blk_lt Bbk.out)) : bk ≠ bo); have Nbrbo := aA_ ((by rw [hg]; exact Nat.ne_of_lt (blk_lt Bbr.out)) : br ≠ bo); replace Bbk := bK_ Bbk hb; replace Bbr := bK_ Bbr hb; replace HB := bB_ HB.out hb; have Bbo := aA_ hbox; clear hb hbox hg; have hzo := ((blk_cell Bbo.out 0).trans rfl : w_bo.cell? ⟨bo, 0, none⟩ = some (.int .i64 0)); have hfo := blk_frozen Bbo.out 0))
 go_loopg [13, 39] k (fun kq v13 v39 w' => ∃ (x13 : List S48) (xo x39 : Int), v39 = .int .i64 x39 ∧ Aside0 (plain_table.l0 kq a1 l2 a3 x13 xo x39 = some (r1, r2)) ∧ Aside0 (kq ≤ k) ∧ Aside0 (Kd.R k48 48 w' w.heap.size (fun _ => True) v13 x13) ∧
  Aside0 (w'.heap[bo]? = some (.cells #[.int .i64 xo] 3 (0, 0))) ∧ Aside0 (w'.heap[bk]? = some (.cells #[.func (.func F) #[] #[]] 104 (0, 0))) ∧ Aside0 (w'.heap[br]? = some (.cells #[.int .i64 a1] 3 (0, 0))) ∧ Aside0 (Below w.heap.size w w'))
 case atStart => exact ⟨[], a0, 0, rfl, H', ⟨Nat.le_refl _⟩, ⟨Kd.R_nil _ _ _ _ _⟩, ⟨blk_put Bbo.out 0 _ rfl⟩, ⟨blk_far Bbk.out Nbkbo.out _⟩, ⟨blk_far Bbr.out Nbrbo.out _⟩, ⟨below_set HB.out Gbo.out⟩⟩
 case round =>
  clear H' hzo hfo Bbo Bbk Bbr HB
  obtain ⟨x13, xo, x39, rfl, HA, HK, HO, Bbo, Bbk, Bbr, HB⟩ := hrel
  cases gk with
  | zero => exact absurd HA.out (by simp [plain_table.l0])
  | succ k1 =>
   have H := HA.out
   clear HA
   simp only [plain_table.l0] at H
   by_cases c5 : x39 < (l2.length : Int)
   ·rw [if_pos c5] at H
    have c5b0 : decide (x39 < (l2.length : Int)) = true := decide_eq_true c5
    by_cases c6 : 0 ≤ x39
    ·rw [if_pos c6] at H
     have c6b0 : decide (0 ≤ x39) = true := decide_eq_true c6
     obtain ⟨⟨t1, t2⟩, A0, H⟩ := bI_ H
     dsimp only at H
     have A := aA_ A0
     clear A0
     obtain ⟨ad, ead, hx0, hx1⟩ := at_T56 HR2.out x39 c6 c5
     cases ead
     replace hx0 := cC_ HB hx0
     replace hx1 := cC_ HB hx1
     have p5 := eq_true c5
     have p6 := eq_true c6
     have LPOS := aA_ (show 0 < l2.length by omega)
     clear c5 c6
     obtain ⟨pn, hpn⟩ : ∃ x : Int, (rd_T56 l2 x39).f0 = x := ⟨_, rfl⟩
     obtain ⟨pd, hpd⟩ : ∃ x : Int, (rd_T56 l2 x39).f1 = x := ⟨_, rfl⟩
     rw [hpn] at hx0
     rw [hpd] at hx1
     replace A := aA_ (by have := A.out; rw [hpn, hpd] at this; exact this)
     clear hpn hpd
     have hzo := ((blk_cell Bbo.out 0).trans rfl : wr.cell? ⟨bo, 0, none⟩ = some (.int .i64 xo))
     go_upto_region 12 with (first | (refine box_event rfl (N := 15) rfl (cs := #[.int .i64 0, .int .i64 0]) (t := 56) ?hr ?_; (case hr => go_simp <;> rfl); intro bp hg w_bp hbox hb; have Gbp := gW_ hg HB.out; have Nbobp := aA_ ((by rw [hg]; exact Nat.ne_of_lt (blk_lt Bbo.out)) : bo ≠ bp); have Nbkbp := aA_ ((by rw [hg]; exact Nat.ne_of_lt (blk_lt Bbk.out)) : bk ≠ bp); have Nbrbp := aA_ ((by rw [hg]; exact Nat.ne_of_lt (blk_lt Bbr.out)) : br ≠ bp); replace Bbo := bK_ Bbo hb; replace Bbk := bK_ Bbk hb; replace Bbr := bK_ Bbr hb; replace HO := aA_ (Kd.R_below HO.out hb); replace HB := bB_ HB.out hb; have Bbp := aA_ hbox; clear hb hbox hg; have hp0 := ((blk_cell Bbp.out 0).trans rfl : w_bp.cell? ⟨bp, 0, none⟩ = some (.int .i64 0)); have hp1 := ((blk_cell Bbp.out 1).trans rfl : w_bp.cell? ⟨bp, 1, none⟩ = some (.int .i64 0)); have hf0 := blk_frozen Bbp.out 0; have hf1 := blk_frozen Bbp.out 1))
     have E : ((w_bp.setCell ⟨bp, 0, none⟩ (.int .i64 pn)).setCell ⟨bp, 1, none⟩ (.int .i64 pd)).heap[bp]? = some (.cells #[.int .i64 pn, .int .i64 pd] 56 (0, 0)) := blk_put (blk_put Bbp.out 0 _ rfl) 1 _ rfl
     have L : Lay bp w_bp ((w_bp.setCell ⟨bp, 0, none⟩ (.int .i64 pn)).setCell ⟨bp, 1, none⟩ (.int .i64 pd)) := ((Lay.refl bp w_bp).there _).there _
     generalize ((w_bp.setCell ⟨bp, 0, none⟩ (.int .i64 pn)).setCell ⟨bp, 1, none⟩ (.int .i64 pd)) = wA at E L ⊢
     replace Bbo := aA_ (L.blk Bbo.out Nbobp.out)
     replace Bbk := aA_ (L.blk Bbk.out Nbkbp.out)
     replace Bbr := aA_ (L.blk Bbr.out Nbrbp.out)
     replace HO := aA_ (L.row HO.out Bbp.out (by decide))
     replace HB := aA_ (L.below HB.out Gbp.out)
     replace Bbp := aA_ E
     clear E L hzo hp0 hp1 hf0 hf1 hx0 hx1
     have hzk := ((blk_cell Bbk.out 0).trans rfl : wA.cell? ⟨bk, 0, none⟩ = some (.func (.func F) #[] #[]))
     go_upto_region 13 with (fail)
     refine (HCALL.out _ LPOS.out).mono ?_
     rintro e wB ⟨rfl, hb⟩
     dsimp only
     replace Bbo := bK_ Bbo hb
     replace Bbk := bK_ Bbk hb
     replace Bbr := bK_ Bbr hb
     replace Bbp := bK_ Bbp hb
     replace HO := aA_ (Kd.R_below HO.out hb)
     replace HB := bB_ HB.out hb
     clear hb
     have hzo := ((blk_cell Bbo.out 0).trans rfl : wB.cell? ⟨bo, 0, none⟩ = some (.int .i64 xo))
     have hzp0 := ((blk_cell Bbp.out 0).trans rfl : wB.cell? ⟨bp, 0, none⟩ = some (.int .i64 pn))
     have hzp1 := ((blk_cell Bbp.out 1).trans rfl : wB.cell? ⟨bp, 1, none⟩ = some (.int .i64 pd))
     go_upto_region 13 with (fail)
     obtain ⟨b0, hb0⟩ : ∃ b : Int, (if x39 = wrap64 ((l2.length : Int) - 1) then xo else a3) = b := ⟨_, rfl⟩
     rw [hb0] at H
     obtain ⟨py, hpy⟩ : ∃ y : Int, wrap64 (t1 + b0) = y := ⟨_, rfl⟩
     obtain ⟨cl, hcl⟩ : ∃ y : Int, wrap64 (xo - b0) = y := ⟨_, rfl⟩
     rw [hpy, hcl] at H
     have HPY := aA_ hpy
     have HCL := aA_ hcl
     have HH := aA_ H
     clear hpy hcl H
     by_cases c9 : x39 = wrap64 ((l2.length : Int) - 1)
     ·rw [if_pos c9] at hb0
      have HB0 := aA_ hb0
      have c9b0 : (x39 == wrap64 ((l2.length : Int) - 1)) = true := beq_iff_eq.mpr c9
      clear c9 hb0
      go_upto_region 15 with (fail)
      go_upto_region 16 with (fail)
      refine (lay_calls2 k1 bo br xo a1 pn pd _ b0 t1 t2 py cl _ Bbo.out Bbr.out Nbrbo.out.symm A.out HB0.out HPY.out HCL.out).mono ?_
      rintro e wC ⟨rfl, hbo, L⟩
      dsimp only
      replace Bbk := aA_ (L.blk Bbk.out Nbkbo.out)
      replace Bbr := aA_ (L.blk Bbr.out Nbrbo.out)
      replace HO := aA_ (L.row HO.out Bbo.out (by decide))
      replace HB := aA_ (L.below HB.out Gbo.out)
      replace Bbo := aA_ hbo
      clear hbo L
      go_upto_region 16 with (first | (refine box_event rfl (N := 17) rfl (cs := #[.int .i64 0, .int .i64 0, .int .i64 0, .int .i64 0, .int .i64 0]) (t := 48) ?hr ?_; (case hr => go_simp <;> rfl); intro bw hg w_bw hbox hb; have Gbw := gW_ hg HB.out; have Nbobw := aA_ ((by rw [hg]; exact Nat.ne_of_lt (blk_lt Bbo.out)) : bo ≠ bw); have Nbkbw := aA_ ((by rw [hg]; exact Nat.ne_of_lt (blk_lt Bbk.out)) : bk ≠ bw); have Nbrbw := aA_ ((by rw [hg]; exact Nat.ne_of_lt (blk_lt Bbr.out)) : br ≠ bw); replace Bbo := bK_ Bbo hb; replace Bbk := bK_ Bbk hb; replace Bbr := bK_ Bbr hb; replace HO := aA_ (Kd.R_below (Kd.R_mono (Kd.R_bound HO.out) (fun k hk => (by rw [hg]; exact Nat.ne_of_lt hk.2.2.1 : k ≠ bw))) hb); replace HB := bB_ HB.out hb; have Bbw := aA_ hbox; clear hb hbox hg; have hw0 := ((blk_cell Bbw.out 0).trans rfl : w_bw.cell? ⟨bw, 0, none⟩ = some (.int .i64 0)); have hv0 := blk_frozen Bbw.out 0; have hw1 := ((blk_cell Bbw.out 1).trans rfl : w_bw.cell? ⟨bw, 1, none⟩ = some (.int .i64 0)); have hv1 := blk_frozen Bbw.out 1; have hw2 := ((blk_cell Bbw.out 2).trans rfl : w_bw.cell? ⟨bw, 2, none⟩ = some (.int .i64 0)); have hv2 := blk_frozen Bbw.out 2; have hw3 := ((blk_cell Bbw.out 3).trans rfl : w_bw.cell? ⟨bw, 3, none⟩ = some (.int .i64 0)); have hv3 := blk_frozen Bbw.out 3; have hw4 := ((blk_cell Bbw.out 4).trans rfl : w_bw.cell? ⟨bw, 4, none⟩ = some (.int .i64 0)); have hv4 := blk_frozen Bbw.out 4))
      have E : (((((w_bw.setCell ⟨bw, 0, none⟩ (.int .i64 xo)).setCell ⟨bw, 1, none⟩ (.int .i64 t1)).setCell ⟨bw, 2, none⟩ (.int .i64 b0)).setCell ⟨bw, 3, none⟩ (.int .i64 py)).setCell ⟨bw, 4, none⟩ (.int .i64 cl)).heap[bw]? = some (.cells #[.int .i64 xo, .int .i64 t1, .int .i64 b0, .int .i64 py, .int .i64 cl] 48 (0, 0)) := blk_put (blk_put (blk_put (blk_put (blk_put Bbw.out 0 _ rfl) 1 _ rfl) 2 _ rfl) 3 _ rfl) 4 _ rfl
      have L : Lay bw w_bw (((((w_bw.setCell ⟨bw, 0, none⟩ (.int .i64 xo)).setCell ⟨bw, 1, none⟩ (.int .i64 t1)).setCell ⟨bw, 2, none⟩ (.int .i64 b0)).setCell ⟨bw, 3, none⟩ (.int .i64 py)).setCell ⟨bw, 4, none⟩ (.int .i64 cl)) := (((((Lay.refl bw w_bw).there _).there _).there _).there _).there _
      generalize (((((w_bw.setCell ⟨bw, 0, none⟩ (.int .i64 xo)).setCell ⟨bw, 1, none⟩ (.int .i64 t1)).setCell ⟨bw, 2, none⟩ (.int .i64 b0)).setCell ⟨bw, 3, none⟩ (.int .i64 py)).setCell ⟨bw, 4, none⟩ (.int .i64 cl)) = wD at E L ⊢
      replace Bbo := aA_ (L.blk Bbo.out Nbobw.out)
      replace Bbk := aA_ (L.blk Bbk.out Nbkbw.out)
      replace Bbr := aA_ (L.blk Bbr.out Nbrbw.out)
      replace HO := aA_ (L.rowN HO.out)
      replace HB := aA_ (L.below HB.out Gbw.out)
      replace Bbw := aA_ E
      clear E L
      by_cases c8 : t2 = 0
      ·have H := HH.out
       rw [if_pos c8] at H
       have c8b0 : (t2 == 0) = true := beq_iff_eq.mpr c8
       have c8b1 : (t2 != 0) = false := bne_eq_false_iff_eq.mpr c8
       clear c8
       by_cases c10 : x13.length < 3518437208883
       ·rw [if_pos c10] at H
        have LM := aA_ c10
        clear c10
        obtain ⟨y13, hy⟩ : ∃ y : List S48, y = x13 ++ [(⟨xo, t1, b0, py, cl⟩ : S48)] := ⟨_, rfl⟩
        rw [← hy] at H
        have NY := aA_ hy
        have H' := aA_ H
        clear hy H
        have hw0 := ((blk_cell Bbw.out 0).trans rfl : wD.cell? ⟨bw, 0, none⟩ = some (.int .i64 xo))
        have hw1 := ((blk_cell Bbw.out 1).trans rfl : wD.cell? ⟨bw, 1, none⟩ = some (.int .i64 t1))
        have hw2 := ((blk_cell Bbw.out 2).trans rfl : wD.cell? ⟨bw, 2, none⟩ = some (.int .i64 b0))
        have hw3 := ((blk_cell Bbw.out 3).trans rfl : wD.cell? ⟨bw, 3, none⟩ = some (.int .i64 py))
        have hw4 := ((blk_cell Bbw.out 4).trans rfl : wD.cell? ⟨bw, 4, none⟩ = some (.int .i64 cl))
        go_wp2_with (first | ((with_reducible refine gate_builtin (b := .append) (xs := #[.tmp 64, .tmp 66]) rfl ?_); at_builtin; refine Kd.R_append k48 (w0 := w) w.heap.size rfl (.tmp 64) (.tmp 66) 33 48 (.agg #[(.int .i64 0), (.int .i64 0), (.int .i64 0), (.int .i64 0), (.int .i64 0)]) 40 rfl Try.underlying33 info48 rfl (by decide) (by omega) u13 x13 (⟨xo, t1, b0, py, cl⟩ : S48) [.int .i64 xo, .int .i64 t1, .int .i64 b0, .int .i64 py, .int .i64 cl] (fun _ => True) (fun _ => False) rfl rfl ?aP (fun _ hk => hk.elim) ?aF ?aO ?aB ?aS ?aL ?_; (case aP => exact k48_mkM _ _ _ (⟨xo, t1, b0, py, cl⟩ : S48)); (case aB => exact HB.out); (case aF => exact (fun _ _ => trivial)); (case aO => exact HO.out); (case aS => exact (below_size HB.out)); (case aL => have := LM.out; omega); intro v1 w1 ho hb hg hat; rw [← NY.out] at ho; replace Bbo := aA_ (blk_grown Bbo.out hg (Kd.R_ne HO.out Bbo.out (by decide))); replace Bbk := aA_ (blk_grown Bbk.out hg (Kd.R_ne HO.out Bbk.out (by decide))); replace Bbr := aA_ (blk_grown Bbr.out hg (Kd.R_ne HO.out Bbr.out (by decide))); replace HB := aA_ hb; replace HO := aA_ ho; clear ho hb hg hat))
        go_roundg k1
        case measure => have := HK.out; omega
        case rel => exact ⟨y13, cl, wrap64 (x39 + 1), (by first | rfl | simp | simp [*]), H', ⟨by have := HK.out; omega⟩, HO, Bbo, Bbk, Bbr, HB⟩
       ·rw [if_neg c10] at H
        exact absurd H (by simp)
      ·have H := HH.out
       rw [if_neg c8] at H
       have c8b0 : (t2 == 0) = false := beq_eq_false_iff_ne.mpr c8
       have c8b1 : (t2 != 0) = true := bne_iff_ne.mpr c8
       simp only [Option.some.injEq, Prod.mk.injEq] at H
       obtain ⟨rfl, rfl⟩ := H
       go_wp2
       go_ret2
       exact ⟨_, rfl, Kd.R_nil _ _ _ _ _, HB.out⟩
     ·rw [if_neg c9] at hb0
      have HB0 := aA_ hb0
      have c9b0 : (x39 == wrap64 ((l2.length : Int) - 1)) = false := beq_eq_false_iff_ne.mpr c9
      clear c9 hb0
      go_upto_region 15 with (fail)
      go_upto_region 16 with (fail)
      refine (lay_calls2 k1 bo br xo a1 pn pd _ b0 t1 t2 py cl _ Bbo.out Bbr.out Nbrbo.out.symm A.out HB0.out HPY.out HCL.out).mono ?_
      rintro e wC ⟨rfl, hbo, L⟩
      dsimp only
      replace Bbk := aA_ (L.blk Bbk.out Nbkbo.out)
      replace Bbr := aA_ (L.blk Bbr.out Nbrbo.out)
      replace HO := aA_ (L.row HO.out Bbo.out (by decide))
      replace HB := aA_ (L.below HB.out Gbo.out)
      replace Bbo := aA_ hbo
      clear hbo L
      go_upto_region 16 with (first | (refine box_event rfl (N := 17) rfl (cs := #[.int .i64 0, .int .i64 0, .int .i64 0, .int .i64 0, .int .i64 0]) (t := 48) ?hr ?_; (case hr => go_simp <;> rfl); intro bw hg w_bw hbox hb; have Gbw := gW_ hg HB.out; have Nbobw := aA_ ((by rw [hg]; exact Nat.ne_of_lt (blk_lt Bbo.out)) : bo ≠ bw); have Nbkbw := aA_ ((by rw [hg]; exact Nat.ne_of_lt (blk_lt Bbk.out)) : bk ≠ bw); have Nbrbw := aA_ ((by rw [hg]; exact Nat.ne_of_lt (blk_lt Bbr.out)) : br ≠ bw); replace Bbo := bK_ Bbo hb; replace Bbk := bK_ Bbk hb; replace Bbr := bK_ Bbr hb; replace HO := aA_ (Kd.R_below (Kd.R_mono (Kd.R_bound HO.out) (fun k hk => (by rw [hg]; exact Nat.ne_of_lt hk.2.2.1 : k ≠ bw))) hb); replace HB := bB_ HB.out hb; have Bbw := aA_ hbox; clear hb hbox hg; have hw0 := ((blk_cell Bbw.out 0).trans rfl : w_bw.cell? ⟨bw, 0, none⟩ = some (.int .i64 0)); have hv0 := blk_frozen Bbw.out 0; have hw1 := ((blk_cell Bbw.out 1).trans rfl : w_bw.cell? ⟨bw, 1, none⟩ = some (.int .i64 0)); have hv1 := blk_frozen Bbw.out 1; have hw2 := ((blk_cell Bbw.out 2).trans rfl : w_bw.cell? ⟨bw, 2, none⟩ = some (.int .i64 0)); have hv2 := blk_frozen Bbw.out 2; have hw3 := ((blk_cell Bbw.out 3).trans rfl : w_bw.cell? ⟨bw, 3, none⟩ = some (.int .i64 0)); have hv3 := blk_frozen Bbw.out 3; have hw4 := ((blk_cell Bbw.out 4).trans rfl : w_bw.cell? ⟨bw, 4, none⟩ = some (.int .i64 0)); have hv4 := blk_frozen Bbw.out 4))
      have E : (((((w_bw.setCell ⟨bw, 0, none⟩ (.int .i64 xo)).setCell ⟨bw, 1, none⟩ (.int .i64 t1)).setCell ⟨bw, 2, none⟩ (.int .i64 b0)).setCell ⟨bw, 3, none⟩ (.int .i64 py)).setCell ⟨bw, 4, none⟩ (.int .i64 cl)).heap[bw]? = some (.cells #[.int .i64 xo, .int .i64 t1, .int .i64 b0, .int .i64 py, .int .i64 cl] 48 (0, 0)) := blk_put (blk_put (blk_put (blk_put (blk_put Bbw.out 0 _ rfl) 1 _ rfl) 2 _ rfl) 3 _ rfl) 4 _ rfl
      have L : Lay bw w_bw (((((w_bw.setCell ⟨bw, 0, none⟩ (.int .i64 xo)).setCell ⟨bw, 1, none⟩ (.int .i64 t1)).setCell ⟨bw, 2, none⟩ (.int .i64 b0)).setCell ⟨bw, 3, none⟩ (.int .i64 py)).setCell ⟨bw, 4, none⟩ (.int .i64 cl)) := (((((Lay.refl bw w_bw).there _).there _).there _).there _).there _
      generalize (((((w_bw.setCell ⟨bw, 0, none⟩ (.int .i64 xo)).setCell ⟨bw, 1, none⟩ (.int .i64 t1)).setCell ⟨bw, 2, none⟩ (.int .i64 b0)).setCell ⟨bw, 3, none⟩ (.int .i64 py)).setCell ⟨bw, 4, none⟩ (.int .i64 cl)) = wD at E L ⊢
      replace Bbo := aA_ (L.blk Bbo.out Nbobw.out)
      replace Bbk := aA_ (L.blk Bbk.out Nbkbw.out)
      replace Bbr := aA_ (L.blk Bbr.out Nbrbw.out)
      replace HO := aA_ (L.rowN HO.out)
      replace HB := aA_ (L.below HB.out Gbw.out)
      replace Bbw := aA_ E
      clear E L
      by_cases c8 : t2 = 0
      ·have H := HH.out
       rw [if_pos c8] at H
       have c8b0 : (t2 == 0) = true := beq_iff_eq.mpr c8
       have c8b1 : (t2 != 0) = false := bne_eq_false_iff_eq.mpr c8
       clear c8
       by_cases c10 : x13.length < 3518437208883
       ·rw [if_pos c10] at H
        have LM := aA_ c10
        clear c10
        obtain ⟨y13, hy⟩ : ∃ y : List S48, y = x13 ++ [(⟨xo, t1, b0, py, cl⟩ : S48)] := ⟨_, rfl⟩
        rw [← hy] at H
        have NY := aA_ hy
        have H' := aA_ H
        clear hy H
        have hw0 := ((blk_cell Bbw.out 0).trans rfl : wD.cell? ⟨bw, 0, none⟩ = some (.int .i64 xo))
        have hw1 := ((blk_cell Bbw.out 1).trans rfl : wD.cell? ⟨bw, 1, none⟩ = some (.int .i64 t1))
        have hw2 := ((blk_cell Bbw.out 2).trans rfl : wD.cell? ⟨bw, 2, none⟩ = some (.int .i64 b0))
        have hw3 := ((blk_cell Bbw.out 3).trans rfl : wD.cell? ⟨bw, 3, none⟩ = some (.int .i64 py))
        have hw4 := ((blk_cell Bbw.out 4).trans rfl : wD.cell? ⟨bw, 4, none⟩ = some (.int .i64 cl))
        go_wp2_with (first | ((with_reducible refine gate_builtin (b := .append) (xs := #[.tmp 64, .tmp 66]) rfl ?_); at_builtin; refine Kd.R_append k48 (w0 := w) w.heap.size rfl (.tmp 64) (.tmp 66) 33 48 (.agg #[(.int .i64 0), (.int .i64 0), (.int .i64 0), (.int .i64 0), (.int .i64 0)]) 40 rfl Try.underlying33 info48 rfl (by decide) (by omega) u13 x13 (⟨xo, t1, b0, py, cl⟩ : S48) [.int .i64 xo, .int .i64 t1, .int .i64 b0, .int .i64 py, .int .i64 cl] (fun _ => True) (fun _ => False) rfl rfl ?aP (fun _ hk => hk.elim) ?aF ?aO ?aB ?aS ?aL ?_; (case aP => exact k48_mkM _ _ _ (⟨xo, t1, b0, py, cl⟩ : S48)); (case aB => exact HB.out); (case aF => exact (fun _ _ => trivial)); (case aO => exact HO.out); (case aS => exact (below_size HB.out)); (case aL => have := LM.out; omega); intro v1 w1 ho hb hg hat; rw [← NY.out] at ho; replace Bbo := aA_ (blk_grown Bbo.out hg (Kd.R_ne HO.out Bbo.out (by decide))); replace Bbk := aA_ (blk_grown Bbk.out hg (Kd.R_ne HO.out Bbk.out (by decide))); replace Bbr := aA_ (blk_grown Bbr.out hg (Kd.R_ne HO.out Bbr.out (by decide))); replace HB := aA_ hb; replace HO := aA_ ho; clear ho hb hg hat))
        go_roundg k1
        case measure => have := HK.out; omega
        case rel => exact ⟨y13, cl, wrap64 (x39 + 1), (by first | rfl | simp | simp [*]), H', ⟨by have := HK.out; omega⟩, HO, Bbo, Bbk, Bbr, HB⟩
       ·rw [if_neg c10] at H
        exact absurd H (by simp)
      ·have H := HH.out
       rw [if_neg c8] at H
       have c8b0 : (t2 == 0) = false := beq_eq_false_iff_ne.mpr c8
       have c8b1 : (t2 != 0) = true := bne_iff_ne.mpr c8
       simp only [Option.some.injEq, Prod.mk.injEq] at H
       obtain ⟨rfl, rfl⟩ := H
       go_wp2
       go_ret2
       exact ⟨_, rfl, Kd.R_nil _ _ _ _ _, HB.out⟩
    ·rw [if_neg c6] at H
     exact absurd H (by simp)
   ·rw [if_neg c5] at H
    have c5b0 : decide (x39 < (l2.length : Int)) = false := decide_eq_false c5
    clear c5
    obtain ⟨ji, hji⟩ : ∃ j_ : Int, (wrap64 ((l2.length : Int) - 1)) = j_ := ⟨_, rfl⟩
    rw [hji] at H
    have hjw : (IntKind.i64.wrap ((l2.length : Int) - 1)) = ji := (i64_w _).trans hji
    by_cases c18 : 0 ≤ ji
    ·rw [if_pos c18] at H
     by_cases c19 : ji < (x13.length : Int)
     ·rw [if_pos c19] at H
      obtain ⟨Ao, co, eo⟩ := Kd.R_slice HO.out
      subst eo
      obtain ⟨adr, e3, hx0, hx1, hx2, hx3, hx4⟩ := at_T48 (Kd.R_reads' HO.out).2.2 ji c18 c19
      cases e3
      have p18 := eq_true c18
      have p19 := eq_true c19
      have c18b0 : decide (0 ≤ ji) = true := decide_eq_true c18
      have c19b0 : decide (ji < (x13.length : Int)) = true := decide_eq_true c19
      clear c18 c19
      by_cases c20 : (rd_T48 x13 ji).f3 > 4611686018427387904
      ·rw [if_pos c20] at H
       have c20b0 : decide (4611686018427387904 < (rd_T48 x13 ji).f3) = true := decide_eq_true c20
       clear c20
       simp only [Option.some.injEq, Prod.mk.injEq] at H
       obtain ⟨rfl, rfl⟩ := H
       go_wp2
       go_ret2
       exact ⟨_, rfl, Kd.R_nil _ _ _ _ _, HB.out⟩
      ·rw [if_neg c20] at H
       have c20b0 : decide (4611686018427387904 < (rd_T48 x13 ji).f3) = false := decide_eq_false c20
       clear c20
       simp only [Option.some.injEq, Prod.mk.injEq] at H
       obtain ⟨rfl, rfl⟩ := H
       go_wp2
       go_ret2
       exact ⟨_, rfl, HO.out, HB.out⟩
     ·rw [if_neg c19] at H
      exact absurd H (by simp)
    ·rw [if_neg c18] at H
     exact absurd H (by simp)

theorem plain_table.mono_l : ∀ k, (∀ y0 y1 y2 y3 y4 y5, LeO (plain_table.l0 k y0 y1 y2 y3 y4 y5) (plain_table.l0 (k + 1) y0 y1 y2 y3 y4 y5))
 | 0 => fun _ _ _ _ _ _ r h => by simp [plain_table.l0] at h
 | k + 1 => by
  have ih := plain_table.mono_l k
  intro y0 y1 y2 y3 y4 y5
  rw [plain_table.l0, plain_table.l0]
  refine LeO.ite (LeO.ite (LeO.bind (accrue_Of.mono _ _ _ _ _) (fun _ => LeO.ite (LeO.ite (ih _ _ _ _ _ _) (LeO.refl _)) (LeO.refl _))) (LeO.refl _)) (LeO.refl _)
theorem plain_table.mono (a0 a1 : Int) (l2 : List S56) (a3 : Int) (k : Nat) : LeO (plain_table.f k a0 a1 l2 a3) (plain_table.f (k + 1) a0 a1 l2 a3) :=
 LeO.ite (LeO.refl _) (LeO.ite (LeO.refl _) (LeO.ite (LeO.refl _) (LeO.ite (LeO.refl _) (plain_table.mono_l k _ _ _ _ _ _))))
def plain_Bullet.f (k : Nat) (a0 a1 : Int) (l2 : List S56) : Option (List S48 × Int) := plain_table.f k a0 a1 l2 0
def plain_Equal.f (k : Nat) (a0 a1 : Int) (l2 : List S56) : Option (List S48 × Int) := plain_table.f k a0 a1 l2 (wrap64 (Int.tdiv a0 (l2.length : Int)))
theorem plain_Bullet.mono : ∀ a0 a1 l2 k, LeO (plain_Bullet.f k a0 a1 l2) (plain_Bullet.f (k + 1) a0 a1 l2) := fun a0 a1 l2 k => plain_table.mono a0 a1 l2 _ k
theorem plain_Equal.mono : ∀ a0 a1 l2 k, LeO (plain_Equal.f k a0 a1 l2) (plain_Equal.f (k + 1) a0 a1 l2) := fun a0 a1 l2 k => plain_table.mono a0 a1 l2 _ k

set_option maxHeartbeats 8000000 in
theorem back_bullet (x y : Int) (w : World) : Calls Try.prog 51 #[.int .i64 x, .int .i64 y] w fun e w' => e = .returned (.int .i64 0) ∧ Below w.heap.size w w' := by
 go_enter Try.func51, Try.ntmps51
 go_wp2
 go_ret
 exact ⟨rfl, Below.refl _ _⟩
set_option maxHeartbeats 8000000 in
theorem back_equal (x : Int) (n : Nat) (hn : 0 < n) (w : World) : Calls Try.prog 53 #[.int .i64 x, .int .i64 (n : Int)] w fun e w' => e = .returned (.int .i64 (wrap64 (Int.tdiv x (n : Int)))) ∧ Below w.heap.size w w' := by
 have h0 : ¬ (n : Int) = 0 := by omega
 have h1 : ((n : Int) == 0) = false := beq_eq_false_iff_ne.mpr h0
 have h2 : ¬ n = 0 := by omega
 go_enter Try.func53, Try.ntmps53
 go_wp2
 go_ret
 exact ⟨rfl, Below.refl _ _⟩

set_option maxHeartbeats 8000000 in
set_option maxRecDepth 100000 in
theorem plain_Bullet.calls (k : Nat) (a0 : Int) (a1 : Int) (A2 : Option Addr) (c2 : Nat) (l2 : List (S56)) (r1 : List (S48)) (r2 : Int) (w : World) (hr2 : Kd.C k56 w A2 l2.length l2) (hc2 : l2.length ≤ c2) (h : plain_Bullet.f k a0 a1 l2 = some (r1, r2)) :
  Calls Try.prog 33 #[.int .i64 a0, .int .i64 a1, .slice A2 l2.length c2] w fun e w' => ∃ v0_ : Value, e = .returned (.tuple #[v0_, .int .i64 r2]) ∧ Kd.R k48 48 w' w.heap.size (fun _ => True) v0_ r1 ∧ Below w.heap.size w w' := by
 have huK := Try.underlying104
 go_enter Try.func33, Try.ntmps33
 go_wp2_with (fail)
 refine (plain_walk 51 Try.f51 Try.func51 (by kernel_rfl) rfl k a0 a1 A2 c2 l2 0 r1 r2 _ hr2 hc2 (fun W _ => back_bullet a0 _ W) h).mono ?_
 rintro e w1 ⟨v, rfl, hr, hb⟩
 dsimp only
 go_wp2
 go_ret2
 exact ⟨_, rfl, hr, hb⟩

set_option maxHeartbeats 8000000 in
set_option maxRecDepth 100000 in
theorem plain_Equal.calls (k : Nat) (a0 : Int) (a1 : Int) (A2 : Option Addr) (c2 : Nat) (l2 : List (S56)) (r1 : List (S48)) (r2 : Int) (w : World) (hr2 : Kd.C k56 w A2 l2.length l2) (hc2 : l2.length ≤ c2) (h : plain_Equal.f k a0 a1 l2 = some (r1, r2)) :
  Calls Try.prog 34 #[.int .i64 a0, .int .i64 a1, .slice A2 l2.length c2] w fun e w' => ∃ v0_ : Value, e = .returned (.tuple #[v0_, .int .i64 r2]) ∧ Kd.R k48 48 w' w.heap.size (fun _ => True) v0_ r1 ∧ Below w.heap.size w w' := by
 have huK := Try.underlying104
 go_enter Try.func34, Try.ntmps34
 go_wp2_with (fail)
 refine (plain_walk 53 Try.f53 Try.func53 (by kernel_rfl) rfl k a0 a1 A2 c2 l2 _ r1 r2 _ hr2 hc2 (fun W hn => back_equal a0 l2.length hn W) h).mono ?_
 rintro e w1 ⟨v, rfl, hr, hb⟩
 dsimp only
 go_wp2
 go_ret2
 exact ⟨_, rfl, hr, hb⟩
end Go.Proofs.Yteikafepdkijdaa.X
