-- cut by prune.py, a program of this session
import Derived.Test.YteikafepdkijdaaPTableSumsHPlain
namespace Go.Proofs.Yteikafepdkijdaa.X
open Go.RowKit Go.Proofs.YteikafepdkijdaaW.PrintWords Go.Proofs.YteikafepdkijdaaW.PrintLast Go.Proofs.YteikafepdkijdaaW.PrintMore
attribute [local go_sem] max2_int min2_int max_two min_two
set_option linter.unusedVariables false
set_option linter.unusedSimpArgs false

theorem Lay.rowI {g : Nat} {w w' : World} (h : Lay g w w') {base : Nat} {v : Value} {xs : List Int} (hr : Kd.R (Kd.int .i64) 3 w base (fun _ => True) v xs) {cs : Array Value} {t : TypeId} (B : w.heap[g]? = some (.cells cs t (0, 0))) (ht : ∀ q, q ∈ 3 :: (Kd.int .i64).E → q ≠ t) :
  Kd.R (Kd.int .i64) 3 w' base (fun _ => True) v xs := Kd.R_mono (Kd.R_keep (Kd.R_types hr B ht) h.keep (fun _ hk => hk.2)) (fun _ _ => trivial)

def accrue_All.l0 : Nat → Int → Int → List S56 → List Int → Int → Option (List Int × Int)
 | 0, _, _, _, _, _ => none
 | k + 1, x0, x1, x2, x8, x9 => if x9 < (x2.length : Int) then (if 0 ≤ x9 then ((accrue_Of.f k x0 x1 ((rd_T56 x2 x9).f0) ((rd_T56 x2 x9).f1)).bind fun t => (if t.2 = 0 then (if x8.length < 17592186044416 then (accrue_All.l0 k x0 x1 x2 (x8 ++ [t.1]) (wrap64 (x9 + 1))) else (none)) else (some (([] : List Int), t.2)))) else (none)) else (some (x8, 0))
def accrue_All.f (k : Nat) (a0 : Int) (a1 : Int) (l2 : List S56) : Option (List Int × Int) := accrue_All.l0 k a0 a1 l2 ([] : List Int) 0
theorem accrue_All.mono_l : ∀ k, (∀ y0 y1 y2 y3 y4, LeO (accrue_All.l0 k y0 y1 y2 y3 y4) (accrue_All.l0 (k + 1) y0 y1 y2 y3 y4))
 | 0 => fun _ _ _ _ _ r h => by simp [accrue_All.l0] at h
 | k + 1 => by
  have ih := accrue_All.mono_l k
  intro y0 y1 y2 y3 y4
  rw [accrue_All.l0, accrue_All.l0]
  refine LeO.ite (LeO.ite (LeO.bind (accrue_Of.mono _ _ _ _ _) (fun _ => LeO.ite (LeO.ite (ih _ _ _ _ _) (LeO.refl _)) (LeO.refl _))) (LeO.refl _)) (LeO.refl _)
theorem accrue_All.mono : ∀ a0 a1 l2 k, LeO (accrue_All.f k a0 a1 l2) (accrue_All.f (k + 1) a0 a1 l2) := fun a0 a1 l2 k => accrue_All.mono_l k _ _ _ _ _

set_option maxHeartbeats 8000000 in
set_option maxRecDepth 100000 in
theorem each_call (k : Nat) (g1 g2 : Nat) (a0 a1 p q r1 r2 : Int) (w : World) (h1 : w.heap[g1]? = some (.cells #[.int .i64 a0] 3 (0, 0))) (h2 : w.heap[g2]? = some (.cells #[.int .i64 a1] 3 (0, 0))) (h : accrue_Of.f k a0 a1 p q = some (r1, r2)) :
  Calls Try.prog 70 #[.agg #[.int .i64 p, .int .i64 q], .pointer (some ⟨g1, 0, none⟩), .pointer (some ⟨g2, 0, none⟩)] w fun e w' => e = .returned (.tuple #[.int .i64 r1, .int .i64 r2]) ∧ Below w.heap.size w w' := by
 have huQ := Try.underlying56
 have HB := aA_ (Below.refl w.heap.size w)
 have Bg1 := aA_ h1
 have Bg2 := aA_ h2
 have A := aA_ h
 clear h1 h2 h
 go_enter Try.func70, Try.ntmps70
 go_wp2_with (first
  | (refine box_event rfl (N := 3) rfl (cs := #[.int .i64 p, .int .i64 q]) (t := 56) ?hr ?_; (case hr => go_simp <;> rfl); intro bp hg w_bp hbox hb; have Gbp := gW_ hg HB.out; replace Bg1 := bK_ Bg1 hb; replace Bg2 := bK_ Bg2 hb; replace HB := bB_ HB.out hb; have Bbp := aA_ hbox; clear hb hbox hg; have hz1 := ((blk_cell Bg1.out 0).trans rfl : w_bp.cell? ⟨g1, 0, none⟩ = some (.int .i64 a0)); have hz2 := ((blk_cell Bg2.out 0).trans rfl : w_bp.cell? ⟨g2, 0, none⟩ = some (.int .i64 a1)); have hz3 := ((blk_cell Bbp.out 0).trans rfl : w_bp.cell? ⟨bp, 0, none⟩ = some (.int .i64 p)); have hz4 := ((blk_cell Bbp.out 1).trans rfl : w_bp.cell? ⟨bp, 1, none⟩ = some (.int .i64 q)))
  | (refine goesL_ (some 9) rfl rfl Try.func57 (by kernel_rfl) rfl #[.int .i64 a0, .int .i64 a1, .agg #[.int .i64 p, .int .i64 q]] rfl (by (try simp only [mT_, mC_, mN_]); first | done | rfl) ?_; (with_reducible refine (accrue_Of.calls k a0 a1 p q r1 r2 _ A.out).mono ?_); rintro e wc ⟨rfl, hb⟩; refine ⟨_, rfl, ?_⟩; replace HB := bB_ HB.out hb; clear hb))
 go_ret2
 exact ⟨rfl, HB.out⟩

set_option maxHeartbeats 8000000 in
set_option maxRecDepth 100000 in
theorem each_walk (k g1 g2 : Nat) (a0 a1 : Int) (A2 : Option Addr) (c2 : Nat) (l2 : List S56) (r1 : List Int) (r2 : Int) (w : World) (hr2 : Kd.C k56 w A2 l2.length l2) (hc2 : l2.length ≤ c2) (h1 : w.heap[g1]? = some (.cells #[.int .i64 a0] 3 (0, 0))) (h2 : w.heap[g2]? = some (.cells #[.int .i64 a1] 3 (0, 0))) (h : accrue_All.f k a0 a1 l2 = some (r1, r2)) :
  Calls Try.prog 69 #[.slice A2 l2.length c2, .func (.func 70) #[] #[.pointer (some ⟨g1, 0, none⟩), .pointer (some ⟨g2, 0, none⟩)]] w fun e w' => ∃ v0_ : Value, e = .returned (.tuple #[v0_, .int .i64 r2]) ∧ Kd.R (Kd.int .i64) 3 w' w.heap.size (fun _ => True) v0_ r1 ∧ Below w.heap.size w w' := by
 have huQ := Try.underlying56
 have HR2 := aA_ hr2
 have HC2 := aA_ hc2
 have HB := aA_ (Below.refl w.heap.size w)
 have Bg1 := aA_ h1
 have Bg2 := aA_ h2
 have HW1 := aA_ h1
 have HW2 := aA_ h2
 have hE : ∀ (args : Array Value) (w : World), (callFunc 70 args).run Try.prog w = .ok (.enter 70 args) w := fun args w => enters_ Try.func70 (by kernel_rfl) rfl args w
 have H : accrue_All.l0 k a0 a1 l2 ([] : List Int) 0 = some (r1, r2) := h
 have H' := aA_ H
 clear hr2 hc2 h1 h2 h H
 go_enter Try.func69, Try.ntmps69
 go_wp2
 (try simp only [Act.put, sT_, sZ_, sS_])
 go_loopg [6, 13] k (fun kq v6 v13 w' => ∃ (x6 : List Int) (x13 : Int), v13 = .int .i64 x13 ∧ Aside0 (accrue_All.l0 kq a0 a1 l2 x6 x13 = some (r1, r2)) ∧ Aside0 (kq ≤ k) ∧ Aside0 (Kd.R (Kd.int .i64) 3 w' w.heap.size (fun _ => True) v6 x6) ∧
  Aside0 (w'.heap[g1]? = some (.cells #[.int .i64 a0] 3 (0, 0))) ∧ Aside0 (w'.heap[g2]? = some (.cells #[.int .i64 a1] 3 (0, 0))) ∧ Aside0 (Below w.heap.size w w'))
 case atStart => exact ⟨[], 0, rfl, H', ⟨Nat.le_refl _⟩, ⟨Kd.R_nil _ _ _ _ _⟩, Bg1, Bg2, HB⟩
 case round =>
  clear H' Bg1 Bg2 HB
  obtain ⟨x6, x13, rfl, HA, HK, HO, Bg1, Bg2, HB⟩ := hrel
  cases gk with
  | zero => exact absurd HA.out (by simp [accrue_All.l0])
  | succ k1 =>
   have H := HA.out
   clear HA
   simp only [accrue_All.l0] at H
   by_cases c5 : x13 < (l2.length : Int)
   ·rw [if_pos c5] at H
    have c5b0 : decide (x13 < (l2.length : Int)) = true := decide_eq_true c5
    by_cases c6 : 0 ≤ x13
    ·rw [if_pos c6] at H
     have c6b0 : decide (0 ≤ x13) = true := decide_eq_true c6
     obtain ⟨⟨t1, t2⟩, A0, H⟩ := bI_ H
     dsimp only at H
     have A := aA_ A0
     clear A0
     obtain ⟨ad, ead, hx0, hx1⟩ := at_T56 HR2.out x13 c6 c5
     cases ead
     replace hx0 := cC_ HB hx0
     replace hx1 := cC_ HB hx1
     have p5 := eq_true c5
     have p6 := eq_true c6
     clear c5 c6
     obtain ⟨pn, hpn⟩ : ∃ x : Int, (rd_T56 l2 x13).f0 = x := ⟨_, rfl⟩
     obtain ⟨pd, hpd⟩ : ∃ x : Int, (rd_T56 l2 x13).f1 = x := ⟨_, rfl⟩
     rw [hpn] at hx0
     rw [hpd] at hx1
     replace A := aA_ (by have := A.out; rw [hpn, hpd] at this; exact this)
     clear hpn hpd
     go_upto_region 5 with (first | (refine box_event rfl (N := 8) rfl (cs := #[.int .i64 0, .int .i64 0]) (t := 56) ?hr ?_; (case hr => go_simp <;> rfl); intro bp hg w_bp hbox hb; have Gbp := gW_ hg HB.out; have Ng1bp := aA_ ((by rw [hg]; exact Nat.ne_of_lt (blk_lt Bg1.out)) : g1 ≠ bp); have Ng2bp := aA_ ((by rw [hg]; exact Nat.ne_of_lt (blk_lt Bg2.out)) : g2 ≠ bp); replace Bg1 := bK_ Bg1 hb; replace Bg2 := bK_ Bg2 hb; replace HO := aA_ (Kd.R_below HO.out hb); replace HB := bB_ HB.out hb; have Bbp := aA_ hbox; clear hb hbox hg; have hp0 := ((blk_cell Bbp.out 0).trans rfl : w_bp.cell? ⟨bp, 0, none⟩ = some (.int .i64 0)); have hp1 := ((blk_cell Bbp.out 1).trans rfl : w_bp.cell? ⟨bp, 1, none⟩ = some (.int .i64 0)); have hf0 := blk_frozen Bbp.out 0; have hf1 := blk_frozen Bbp.out 1))
     have E : ((w_bp.setCell ⟨bp, 0, none⟩ (.int .i64 pn)).setCell ⟨bp, 1, none⟩ (.int .i64 pd)).heap[bp]? = some (.cells #[.int .i64 pn, .int .i64 pd] 56 (0, 0)) := blk_put (blk_put Bbp.out 0 _ rfl) 1 _ rfl
     have L : Lay bp w_bp ((w_bp.setCell ⟨bp, 0, none⟩ (.int .i64 pn)).setCell ⟨bp, 1, none⟩ (.int .i64 pd)) := ((Lay.refl bp w_bp).there _).there _
     generalize ((w_bp.setCell ⟨bp, 0, none⟩ (.int .i64 pn)).setCell ⟨bp, 1, none⟩ (.int .i64 pd)) = wA at E L ⊢
     replace Bg1 := aA_ (L.blk Bg1.out Ng1bp.out)
     replace Bg2 := aA_ (L.blk Bg2.out Ng2bp.out)
     replace HO := aA_ (L.rowI HO.out Bbp.out (by decide))
     replace HB := aA_ (L.below HB.out Gbp.out)
     replace Bbp := aA_ E
     clear E L hp0 hp1 hf0 hf1 hx0 hx1
     have hzp0 := ((blk_cell Bbp.out 0).trans rfl : wA.cell? ⟨bp, 0, none⟩ = some (.int .i64 pn))
     have hzp1 := ((blk_cell Bbp.out 1).trans rfl : wA.cell? ⟨bp, 1, none⟩ = some (.int .i64 pd))
     go_upto_region 6 with (fail)
     refine (each_call k1 g1 g2 a0 a1 pn pd t1 t2 _ Bg1.out Bg2.out A.out).mono ?_
     rintro e wB ⟨rfl, hb⟩
     dsimp only
     replace Bg1 := bK_ Bg1 hb
     replace Bg2 := bK_ Bg2 hb
     replace HO := aA_ (Kd.R_below HO.out hb)
     replace HB := bB_ HB.out hb
     clear hb hzp0 hzp1
     by_cases c8 : t2 = 0
     ·rw [if_pos c8] at H
      have c8b0 : (t2 == 0) = true := beq_iff_eq.mpr c8
      have c8b1 : (t2 != 0) = false := bne_eq_false_iff_eq.mpr c8
      clear c8
      by_cases c10 : x6.length < 17592186044416
      ·rw [if_pos c10] at H
       have LM := aA_ c10
       clear c10
       obtain ⟨y6, hy⟩ : ∃ y : List Int, y = x6 ++ [t1] := ⟨_, rfl⟩
       rw [← hy] at H
       have NY := aA_ hy
       have H' := aA_ H
       clear hy H
       go_wp2_with (first | ((with_reducible refine gate_builtin (b := .append) (xs := #[.tmp 26, .tmp 28]) rfl ?_); at_builtin; refine Kd.R_append (Kd.int .i64) (w0 := w) w.heap.size rfl (.tmp 26) (.tmp 28) 80 3 (.int .i64 0) 8 rfl Try.underlying80 info3 rfl (by decide) (by omega) u6 x6 t1 [.int .i64 t1] (fun _ => True) (fun _ => False) rfl rfl ?aP (fun _ hk => hk.elim) ?aF ?aO ?aB ?aS ?aL ?_; (case aP => exact rfl); (case aB => exact HB.out); (case aF => exact (fun _ _ => trivial)); (case aO => exact HO.out); (case aS => exact (below_size HB.out)); (case aL => have := LM.out; omega); intro v1 w1 ho hb hg hat; rw [← NY.out] at ho; replace Bg1 := aA_ (blk_below HW1.out hb); replace Bg2 := aA_ (blk_below HW2.out hb); replace HB := aA_ hb; replace HO := aA_ ho; clear ho hb hg hat))
       go_roundg k1
       case measure => have := HK.out; omega
       case rel => exact ⟨y6, wrap64 (x13 + 1), (by first | rfl | simp | simp [*]), H', ⟨by have := HK.out; omega⟩, HO, Bg1, Bg2, HB⟩
      ·rw [if_neg c10] at H
       exact absurd H (by simp)
     ·rw [if_neg c8] at H
      have c8b0 : (t2 == 0) = false := beq_eq_false_iff_ne.mpr c8
      have c8b1 : (t2 != 0) = true := bne_iff_ne.mpr c8
      simp only [Option.some.injEq, Prod.mk.injEq] at H
      obtain ⟨rfl, rfl⟩ := H
      go_wp2
      go_ret2
      exact ⟨_, rfl, Kd.R_nil _ _ _ _ _, HB.out⟩
    ·rw [if_neg c6] at H
     exact absurd H (by simp)
   ·rw [if_neg c5] at H
    have c5b0 : decide (x13 < (l2.length : Int)) = false := decide_eq_false c5
    clear c5
    simp only [Option.some.injEq, Prod.mk.injEq] at H
    obtain ⟨rfl, rfl⟩ := H
    go_wp2
    go_ret2
    exact ⟨_, rfl, HO.out, HB.out⟩

set_option maxHeartbeats 8000000 in
set_option maxRecDepth 100000 in
theorem accrue_All.calls (k : Nat) (a0 : Int) (a1 : Int) (A2 : Option Addr) (c2 : Nat) (l2 : List (S56)) (r1 : List Int) (r2 : Int) (w : World) (hr2 : Kd.C k56 w A2 l2.length l2) (hc2 : l2.length ≤ c2) (h : accrue_All.f k a0 a1 l2 = some (r1, r2)) :
  Calls Try.prog 54 #[.int .i64 a0, .int .i64 a1, .slice A2 l2.length c2] w fun e w' => ∃ v0_ : Value, e = .returned (.tuple #[v0_, .int .i64 r2]) ∧ Kd.R (Kd.int .i64) 3 w' w.heap.size (fun _ => True) v0_ r1 ∧ Below w.heap.size w w' := by
 have hmf : ∀ (fn : Fn) (first cap : Array Value) (w : World), (Instr.makeFunc fn first cap).run Try.prog w = .ok (.func fn first cap) w := fun _ _ _ _ => rfl
 have HR2 := aA_ hr2
 have HB := aA_ (Below.refl w.heap.size w)
 clear hr2
 go_enter Try.func54, Try.ntmps54
 go_wp2_with (first
  | (refine box_event rfl (N := 3) rfl (cs := #[.int .i64 a0]) (t := 3) ?hr ?_; (case hr => go_simp <;> rfl); intro g1 hg w_g1 hbox hb; have Gg1 := gW_ hg HB.out; replace HB := bB_ HB.out hb; have Bg1 := aA_ hbox; clear hb hbox hg)
  | (refine box_event rfl (N := 4) rfl (cs := #[.int .i64 a1]) (t := 3) ?hr ?_; (case hr => go_simp <;> rfl); intro g2 hg w_g2 hbox hb; have Gg2 := gW_ hg HB.out; replace Bg1 := bK_ Bg1 hb; replace HB := bB_ HB.out hb; have Bg2 := aA_ hbox; clear hb hbox hg))
 refine (each_walk k g1 g2 a0 a1 A2 c2 l2 r1 r2 _ (Kd.C_below HR2.out HB.out) hc2 Bg1.out Bg2.out h).mono ?_
 rintro e w1 ⟨v, rfl, hr, hb⟩
 dsimp only
 have hr' := Kd.R_lower hr (below_size HB.out)
 replace HB := bB_ HB.out hb
 go_wp2
 go_ret2
 exact ⟨_, rfl, hr', HB.out⟩
end Go.Proofs.Yteikafepdkijdaa.X
