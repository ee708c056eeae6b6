-- cut by prune.py, a program of this session
import Derived.Test.YteikafepdkijdaaPTableSumsHAll
namespace Go.Proofs.Yteikafepdkijdaa.X
open Go.RowKit Go.Proofs.YteikafepdkijdaaW.PrintWords Go.Proofs.YteikafepdkijdaaW.PrintLast Go.Proofs.YteikafepdkijdaaW.PrintMore
set_option linter.unusedVariables false
set_option linter.unusedSimpArgs false

def mx (x y : Int) : Int := if x < y then y else x
def mn (x y : Int) : Int := if y < x then y else x
theorem max2_mx (k k' : IntKind) (x y : Int) : Builtin.max2 (.int k x) (.int k' y) = pure (.int k (mx x y)) := max2_int k k' x y
theorem min2_mn (k k' : IntKind) (x y : Int) : Builtin.min2 (.int k x) (.int k' y) = pure (.int k (mn x y)) := min2_int k k' x y
attribute [local go_sem] max2_mx min2_mn max_two min_two

def level_rows.l0 : Nat → Int → List S56 → Int → List S48 → Int → Int → Int → Option (List S48 × Int)
 | 0, _, _, _, _, _, _, _ => none
 | k + 1, a1, l2, a3, x1, xo, xl, xi => if xi < (l2.length : Int) then (if 0 ≤ xi then ((accrue_Of.f k xo a1 ((rd_T56 l2 xi).f0) ((rd_T56 l2 xi).f1)).bind fun t => (if x1.length < 3518437208883 then
   level_rows.l0 k a1 l2 a3 (x1 ++ [(⟨xo, t.1, if xi = wrap64 ((l2.length : Int) - 1) then xo else mn (mx (wrap64 (a3 - t.1)) 0) xo, wrap64 (t.1 + if xi = wrap64 ((l2.length : Int) - 1) then xo else mn (mx (wrap64 (a3 - t.1)) 0) xo), wrap64 (xo - if xi = wrap64 ((l2.length : Int) - 1) then xo else mn (mx (wrap64 (a3 - t.1)) 0) xo)⟩ : S48)])
    (wrap64 (xo - if xi = wrap64 ((l2.length : Int) - 1) then xo else mn (mx (wrap64 (a3 - t.1)) 0) xo)) (wrap64 (t.1 + if xi = wrap64 ((l2.length : Int) - 1) then xo else mn (mx (wrap64 (a3 - t.1)) 0) xo)) (wrap64 (xi + 1)) else none)) else none)
  else some (x1, xl)
def level_rows.f (k : Nat) (a0 a1 : Int) (l2 : List S56) (a3 : Int) : Option (List S48 × Int) := level_rows.l0 k a1 l2 a3 [] a0 0 0
theorem level_rows.mono_l : ∀ k, (∀ y0 y1 y2 y3 y4 y5 y6, LeO (level_rows.l0 k y0 y1 y2 y3 y4 y5 y6) (level_rows.l0 (k + 1) y0 y1 y2 y3 y4 y5 y6))
 | 0 => fun _ _ _ _ _ _ _ r h => by simp [level_rows.l0] at h
 | k + 1 => by
  have ih := level_rows.mono_l k
  intro y0 y1 y2 y3 y4 y5 y6
  rw [level_rows.l0, level_rows.l0]
  refine LeO.ite (LeO.ite (LeO.bind (accrue_Of.mono _ _ _ _ _) (fun _ => LeO.ite (ih _ _ _ _ _ _ _) (LeO.refl _))) (LeO.refl _)) (LeO.refl _)
theorem level_rows.mono : ∀ a0 a1 l2 a3 k, LeO (level_rows.f k a0 a1 l2 a3) (level_rows.f (k + 1) a0 a1 l2 a3) := fun a0 a1 l2 a3 k => level_rows.mono_l k _ _ _ _ _ _ _
def level_ends.f (k : Nat) (a0 a1 : Int) (l2 : List S56) (a3 : Int) : Option Bool := (level_rows.f k a0 a1 l2 a3).bind fun t => some (decide (t.2 ≤ a3))
theorem level_ends.mono : ∀ a0 a1 l2 a3 k, LeO (level_ends.f k a0 a1 l2 a3) (level_ends.f (k + 1) a0 a1 l2 a3) := fun a0 a1 l2 a3 k => LeO.bind (level_rows.mono _ _ _ _ _) (fun _ => LeO.refl _)

set_option maxHeartbeats 8000000 in
set_option maxRecDepth 100000 in
theorem rows_walk (F : FuncId) (fn : Func) (hF : Try.prog.funcs[F]? = some fn) (hN : (fn.name == "runtime.NumGoroutine") = false) (hBd : fn.body.isSome = true) (cap : Array Value) (k : Nat) (a0 a1 : Int) (A2 : Option Addr) (c2 : Nat) (l2 : List S56) (a3 : Int) (r1 : List S48) (r2 : Int) (w0 w : World) (Inv : List S48 → World → Prop)
  (hw : Below w0.heap.size w0 w) (hr2 : Kd.C k56 w0 A2 l2.length l2) (hc2 : l2.length ≤ c2) (hI0 : Inv [] w) (hKD : ∀ (out : List S48) (W : World) (n : Nat), Inv out W → Inv out (W.drewN n))
  (hT : ∀ (out : List S48) (r : S48) (W0 W : World), Inv out W0 → Below w0.heap.size w0 W0 → Below W0.heap.size W0 W → out.length < 3518437208883 →
   Calls Try.prog F (#[.agg #[.int .i64 r.f0, .int .i64 r.f1, .int .i64 r.f2, .int .i64 r.f3, .int .i64 r.f4]] ++ cap) W fun e w' => e = .returned (.tuple #[]) ∧ Inv (out ++ [r]) w' ∧ Below w0.heap.size w0 w' ∧ ∀ (g : Nat) (o : Obj), W0.heap.size ≤ g → W.heap[g]? = some o → w'.heap[g]? = some o)
  (h : level_rows.f k a0 a1 l2 a3 = some (r1, r2)) :
  Calls Try.prog 37 #[.int .i64 a0, .int .i64 a1, .slice A2 l2.length c2, .int .i64 a3, .func (.func F) #[] cap] w fun e w' => e = .returned (.int .i64 r2) ∧ Inv r1 w' ∧ Below w0.heap.size w0 w' := by
 have huQ := Try.underlying56
 have huR := Try.underlying48
 have HR2 := aA_ hr2
 have HB := aA_ hw
 have HI := aA_ hI0
 have hT' := hT
 have hE : ∀ (args : Array Value) (w : World), (callFunc F args).run Try.prog w = .ok (.enter F args) w := fun args w => enters_ hF hN hBd args w
 have H' : Aside0 (level_rows.l0 k a1 l2 a3 [] a0 0 0 = some (r1, r2)) := ⟨h⟩
 clear hr2 hc2 hw hI0 hT h
 go_enter Try.func37, Try.ntmps37
 go_wp2
 (try simp only [Act.put, sT_, sZ_, sS_])
 go_loopg [11, 12, 22] k (fun kq v11 v12 v22 w' => ∃ (x1 : List S48) (xo xl xi : Int), v11 = .int .i64 xo ∧ v12 = .int .i64 xl ∧ v22 = .int .i64 xi ∧ Aside0 (level_rows.l0 kq a1 l2 a3 x1 xo xl xi = some (r1, r2)) ∧ Aside0 (kq ≤ k) ∧ Aside0 (Inv x1 w') ∧ Aside0 (Below w0.heap.size w0 w'))
 case atStart => exact ⟨[], a0, 0, 0, rfl, rfl, rfl, H', ⟨Nat.le_refl _⟩, HI, HB⟩
 case round =>
  clear H' HI HB
  obtain ⟨x1, xo, xl, xi, rfl, rfl, rfl, HA, HK, HI, HB⟩ := hrel
  cases gk with
  | zero => exact absurd HA.out (by simp [level_rows.l0])
  | succ k1 =>
   have H := HA.out
   clear HA
   simp only [level_rows.l0] at H
   by_cases c5 : xi < (l2.length : Int)
   ·rw [if_pos c5] at H
    have c5b0 : decide (xi < (l2.length : Int)) = true := decide_eq_true c5
    by_cases c6 : 0 ≤ xi
    ·rw [if_pos c6] at H
     have c6b0 : decide (0 ≤ xi) = true := decide_eq_true c6
     obtain ⟨⟨t1, t2⟩, A0, H⟩ := bI_ H
     dsimp only at H
     by_cases c10 : x1.length < 3518437208883
     ·rw [if_pos c10] at H
      have LM := aA_ c10
      clear c10
      have A := aA_ A0
      clear A0
      have HBr := aA_ (Below.refl wr.heap.size wr)
      obtain ⟨ad, ead, hx0, hx1⟩ := at_T56 (Kd.C_below HR2.out HB.out) xi c6 c5
      cases ead
      have p5 := eq_true c5
      have p6 := eq_true c6
      clear c5 c6
      obtain ⟨pn, hpn⟩ : ∃ x : Int, (rd_T56 l2 xi).f0 = x := ⟨_, rfl⟩
      obtain ⟨pd, hpd⟩ : ∃ x : Int, (rd_T56 l2 xi).f1 = x := ⟨_, rfl⟩
      rw [hpn] at hx0
      rw [hpd] at hx1
      replace A := aA_ (by have := A.out; rw [hpn, hpd] at this; exact this)
      clear hpn hpd
      go_upto_region 5 with (first | (refine box_event rfl (N := 14) rfl (cs := #[.int .i64 0, .int .i64 0]) (t := 56) ?hr ?_; (case hr => go_simp <;> rfl); intro bp hg w_bp hbox hb; have Gbp := aA_ ((by rw [hg]; exact below_size HBr.out) : wr.heap.size ≤ bp); replace HBr := aA_ (below_step HBr.out hb); have Bbp := aA_ hbox; clear hb hbox hg; have hp0 := ((blk_cell Bbp.out 0).trans rfl : w_bp.cell? ⟨bp, 0, none⟩ = some (.int .i64 0)); have hp1 := ((blk_cell Bbp.out 1).trans rfl : w_bp.cell? ⟨bp, 1, none⟩ = some (.int .i64 0)); have hf0 := blk_frozen Bbp.out 0; have hf1 := blk_frozen Bbp.out 1))
      have E : ((w_bp.setCell ⟨bp, 0, none⟩ (.int .i64 pn)).setCell ⟨bp, 1, none⟩ (.int .i64 pd)).heap[bp]? = some (.cells #[.int .i64 pn, .int .i64 pd] 56 (0, 0)) := (blk_put (blk_put Bbp.out 0 _ rfl) 1 _ rfl)
      have L : Lay bp w_bp ((w_bp.setCell ⟨bp, 0, none⟩ (.int .i64 pn)).setCell ⟨bp, 1, none⟩ (.int .i64 pd)) := (((Lay.refl bp w_bp).there _).there _)
      generalize ((w_bp.setCell ⟨bp, 0, none⟩ (.int .i64 pn)).setCell ⟨bp, 1, none⟩ (.int .i64 pd)) = wA at E L ⊢
      replace HBr := aA_ (L.below HBr.out Gbp.out)
      replace Bbp := aA_ E
      clear E L
      clear hp0 hp1 hf0 hf1 hx0 hx1
      have hp0 := ((blk_cell Bbp.out 0).trans rfl : wA.cell? ⟨bp, 0, none⟩ = some (.int .i64 pn))
      have hp1 := ((blk_cell Bbp.out 1).trans rfl : wA.cell? ⟨bp, 1, none⟩ = some (.int .i64 pd))
      by_cases c9 : xi = wrap64 ((l2.length : Int) - 1)
      ·simp only [if_pos c9] at H
       have c9b0 : (xi == wrap64 ((l2.length : Int) - 1)) = true := beq_iff_eq.mpr c9
       clear c9
       have z : wrap64 (xo - xo) = 0 := by rw [Int.sub_self]; unfold wrap64; omega
       rw [z] at H
       clear z
       have H' := aA_ H
       clear H
       go_upto_region 6 with (first | (refine goesL_ (some 31) rfl rfl Try.func57 (by kernel_rfl) rfl #[.int .i64 xo, .int .i64 a1, .agg #[.int .i64 pn, .int .i64 pd]] rfl (by (try simp only [mT_, mC_, mN_]); first | done | rfl) ?_; (with_reducible refine (accrue_Of.calls k1 xo a1 pn pd t1 t2 _ A.out).mono ?_); rintro e wc ⟨rfl, hb⟩; refine ⟨_, rfl, ?_⟩; replace Bbp := bK_ Bbp hb; replace HBr := aA_ (below_step HBr.out hb); clear hb))
       clear hp0 hp1
       go_upto_region 10 with (first | (refine box_event rfl (N := 18) rfl (cs := #[.int .i64 0, .int .i64 0, .int .i64 0, .int .i64 0, .int .i64 0]) (t := 48) ?hr ?_; (case hr => go_simp <;> rfl); intro bw hg w_bw hbox hb; have Gbw := aA_ ((by rw [hg]; exact below_size HBr.out) : wr.heap.size ≤ bw); replace Bbp := bK_ Bbp hb; replace HBr := aA_ (below_step HBr.out hb); have Bbw := aA_ hbox; clear hb hbox hg; have hw0 := ((blk_cell Bbw.out 0).trans rfl : w_bw.cell? ⟨bw, 0, none⟩ = some (.int .i64 0)); have hv0 := blk_frozen Bbw.out 0; have hw1 := ((blk_cell Bbw.out 1).trans rfl : w_bw.cell? ⟨bw, 1, none⟩ = some (.int .i64 0)); have hv1 := blk_frozen Bbw.out 1; have hw2 := ((blk_cell Bbw.out 2).trans rfl : w_bw.cell? ⟨bw, 2, none⟩ = some (.int .i64 0)); have hv2 := blk_frozen Bbw.out 2; have hw3 := ((blk_cell Bbw.out 3).trans rfl : w_bw.cell? ⟨bw, 3, none⟩ = some (.int .i64 0)); have hv3 := blk_frozen Bbw.out 3; have hw4 := ((blk_cell Bbw.out 4).trans rfl : w_bw.cell? ⟨bw, 4, none⟩ = some (.int .i64 0)); have hv4 := blk_frozen Bbw.out 4))
       have E : (((((w_bw.setCell ⟨bw, 0, none⟩ (.int .i64 xo)).setCell ⟨bw, 1, none⟩ (.int .i64 t1)).setCell ⟨bw, 2, none⟩ (.int .i64 xo)).setCell ⟨bw, 3, none⟩ (.int .i64 (wrap64 (t1 + xo)))).setCell ⟨bw, 4, none⟩ (.int .i64 0)).heap[bw]? = some (.cells #[.int .i64 xo, .int .i64 t1, .int .i64 xo, .int .i64 (wrap64 (t1 + xo)), .int .i64 0] 48 (0, 0)) := (blk_put (blk_put (blk_put (blk_put (blk_put Bbw.out 0 _ rfl) 1 _ rfl) 2 _ rfl) 3 _ rfl) 4 _ rfl)
       have L : Lay bw w_bw (((((w_bw.setCell ⟨bw, 0, none⟩ (.int .i64 xo)).setCell ⟨bw, 1, none⟩ (.int .i64 t1)).setCell ⟨bw, 2, none⟩ (.int .i64 xo)).setCell ⟨bw, 3, none⟩ (.int .i64 (wrap64 (t1 + xo)))).setCell ⟨bw, 4, none⟩ (.int .i64 0)) := ((((((Lay.refl bw w_bw).there _).there _).there _).there _).there _)
       generalize (((((w_bw.setCell ⟨bw, 0, none⟩ (.int .i64 xo)).setCell ⟨bw, 1, none⟩ (.int .i64 t1)).setCell ⟨bw, 2, none⟩ (.int .i64 xo)).setCell ⟨bw, 3, none⟩ (.int .i64 (wrap64 (t1 + xo)))).setCell ⟨bw, 4, none⟩ (.int .i64 0)) = wD at E L ⊢
       replace HBr := aA_ (L.below HBr.out Gbw.out)
       replace Bbw := aA_ E
       clear E L
       clear hw0 hw1 hw2 hw3 hw4 hv0 hv1 hv2 hv3 hv4
       have hw0 := ((blk_cell Bbw.out 0).trans rfl : wD.cell? ⟨bw, 0, none⟩ = some (.int .i64 xo))
       have hw1 := ((blk_cell Bbw.out 1).trans rfl : wD.cell? ⟨bw, 1, none⟩ = some (.int .i64 t1))
       have hw2 := ((blk_cell Bbw.out 2).trans rfl : wD.cell? ⟨bw, 2, none⟩ = some (.int .i64 xo))
       have hw3 := ((blk_cell Bbw.out 3).trans rfl : wD.cell? ⟨bw, 3, none⟩ = some (.int .i64 (wrap64 (t1 + xo))))
       have hw4 := ((blk_cell Bbw.out 4).trans rfl : wD.cell? ⟨bw, 4, none⟩ = some (.int .i64 0))
       go_upto_region 11 with (fail)
       refine (hT' x1 (⟨xo, t1, xo, (wrap64 (t1 + xo)), 0⟩ : S48) wr _ HI.out HB.out HBr.out LM.out).mono ?_
       rintro e wE ⟨rfl, hI2, hB2, hfr⟩
       dsimp only
       replace Bbw := aA_ (hfr bw _ Gbw.out Bbw.out)
       have HI2 := aA_ hI2
       have HB2 := aA_ hB2
       clear hI2 hB2 hfr hw0 hw1 hw2 hw3 hw4
       have hw3 := ((blk_cell Bbw.out 3).trans rfl : wE.cell? ⟨bw, 3, none⟩ = some (.int .i64 (wrap64 (t1 + xo))))
       have hw4 := ((blk_cell Bbw.out 4).trans rfl : wE.cell? ⟨bw, 4, none⟩ = some (.int .i64 0))
       go_wp2
       go_quiet (fail)
       go_wp2
       go_roundg k1
       case measure => have := HK.out; omega
       case rel => exact ⟨x1 ++ [(⟨xo, t1, xo, (wrap64 (t1 + xo)), 0⟩ : S48)], 0, (wrap64 (t1 + xo)), wrap64 (xi + 1), (by first | rfl | simp | simp [*]), (by first | rfl | simp | simp [*]), (by first | rfl | simp | simp [*]), H', ⟨by have := HK.out; omega⟩, ⟨hKD _ _ _ HI2.out⟩, ⟨pw_below_drewN HB2.out _⟩⟩
      ·simp only [if_neg c9] at H
       have c9b0 : (xi == wrap64 ((l2.length : Int) - 1)) = false := beq_eq_false_iff_ne.mpr c9
       clear c9
       have H' := aA_ H
       clear H
       go_upto_region 6 with (first | (refine goesL_ (some 31) rfl rfl Try.func57 (by kernel_rfl) rfl #[.int .i64 xo, .int .i64 a1, .agg #[.int .i64 pn, .int .i64 pd]] rfl (by (try simp only [mT_, mC_, mN_]); first | done | rfl) ?_; (with_reducible refine (accrue_Of.calls k1 xo a1 pn pd t1 t2 _ A.out).mono ?_); rintro e wc ⟨rfl, hb⟩; refine ⟨_, rfl, ?_⟩; replace Bbp := bK_ Bbp hb; replace HBr := aA_ (below_step HBr.out hb); clear hb))
       clear hp0 hp1
       go_upto_region 10 with (first | (refine box_event rfl (N := 18) rfl (cs := #[.int .i64 0, .int .i64 0, .int .i64 0, .int .i64 0, .int .i64 0]) (t := 48) ?hr ?_; (case hr => go_simp <;> rfl); intro bw hg w_bw hbox hb; have Gbw := aA_ ((by rw [hg]; exact below_size HBr.out) : wr.heap.size ≤ bw); replace Bbp := bK_ Bbp hb; replace HBr := aA_ (below_step HBr.out hb); have Bbw := aA_ hbox; clear hb hbox hg; have hw0 := ((blk_cell Bbw.out 0).trans rfl : w_bw.cell? ⟨bw, 0, none⟩ = some (.int .i64 0)); have hv0 := blk_frozen Bbw.out 0; have hw1 := ((blk_cell Bbw.out 1).trans rfl : w_bw.cell? ⟨bw, 1, none⟩ = some (.int .i64 0)); have hv1 := blk_frozen Bbw.out 1; have hw2 := ((blk_cell Bbw.out 2).trans rfl : w_bw.cell? ⟨bw, 2, none⟩ = some (.int .i64 0)); have hv2 := blk_frozen Bbw.out 2; have hw3 := ((blk_cell Bbw.out 3).trans rfl : w_bw.cell? ⟨bw, 3, none⟩ = some (.int .i64 0)); have hv3 := blk_frozen Bbw.out 3; have hw4 := ((blk_cell Bbw.out 4).trans rfl : w_bw.cell? ⟨bw, 4, none⟩ = some (.int .i64 0)); have hv4 := blk_frozen Bbw.out 4))
       have E : (((((w_bw.setCell ⟨bw, 0, none⟩ (.int .i64 xo)).setCell ⟨bw, 1, none⟩ (.int .i64 t1)).setCell ⟨bw, 2, none⟩ (.int .i64 (mn (mx (wrap64 (a3 - t1)) 0) xo))).setCell ⟨bw, 3, none⟩ (.int .i64 (wrap64 (t1 + (mn (mx (wrap64 (a3 - t1)) 0) xo))))).setCell ⟨bw, 4, none⟩ (.int .i64 (wrap64 (xo - (mn (mx (wrap64 (a3 - t1)) 0) xo))))).heap[bw]? = some (.cells #[.int .i64 xo, .int .i64 t1, .int .i64 (mn (mx (wrap64 (a3 - t1)) 0) xo), .int .i64 (wrap64 (t1 + (mn (mx (wrap64 (a3 - t1)) 0) xo))), .int .i64 (wrap64 (xo - (mn (mx (wrap64 (a3 - t1)) 0) xo)))] 48 (0, 0)) := (blk_put (blk_put (blk_put (blk_put (blk_put Bbw.out 0 _ rfl) 1 _ rfl) 2 _ rfl) 3 _ rfl) 4 _ rfl)
       have L : Lay bw w_bw (((((w_bw.setCell ⟨bw, 0, none⟩ (.int .i64 xo)).setCell ⟨bw, 1, none⟩ (.int .i64 t1)).setCell ⟨bw, 2, none⟩ (.int .i64 (mn (mx (wrap64 (a3 - t1)) 0) xo))).setCell ⟨bw, 3, none⟩ (.int .i64 (wrap64 (t1 + (mn (mx (wrap64 (a3 - t1)) 0) xo))))).setCell ⟨bw, 4, none⟩ (.int .i64 (wrap64 (xo - (mn (mx (wrap64 (a3 - t1)) 0) xo))))) := ((((((Lay.refl bw w_bw).there _).there _).there _).there _).there _)
       generalize (((((w_bw.setCell ⟨bw, 0, none⟩ (.int .i64 xo)).setCell ⟨bw, 1, none⟩ (.int .i64 t1)).setCell ⟨bw, 2, none⟩ (.int .i64 (mn (mx (wrap64 (a3 - t1)) 0) xo))).setCell ⟨bw, 3, none⟩ (.int .i64 (wrap64 (t1 + (mn (mx (wrap64 (a3 - t1)) 0) xo))))).setCell ⟨bw, 4, none⟩ (.int .i64 (wrap64 (xo - (mn (mx (wrap64 (a3 - t1)) 0) xo))))) = wD at E L ⊢
       replace HBr := aA_ (L.below HBr.out Gbw.out)
       replace Bbw := aA_ E
       clear E L
       clear hw0 hw1 hw2 hw3 hw4 hv0 hv1 hv2 hv3 hv4
       have hw0 := ((blk_cell Bbw.out 0).trans rfl : wD.cell? ⟨bw, 0, none⟩ = some (.int .i64 xo))
       have hw1 := ((blk_cell Bbw.out 1).trans rfl : wD.cell? ⟨bw, 1, none⟩ = some (.int .i64 t1))
       have hw2 := ((blk_cell Bbw.out 2).trans rfl : wD.cell? ⟨bw, 2, none⟩ = some (.int .i64 (mn (mx (wrap64 (a3 - t1)) 0) xo)))
       have hw3 := ((blk_cell Bbw.out 3).trans rfl : wD.cell? ⟨bw, 3, none⟩ = some (.int .i64 (wrap64 (t1 + (mn (mx (wrap64 (a3 - t1)) 0) xo)))))
       have hw4 := ((blk_cell Bbw.out 4).trans rfl : wD.cell? ⟨bw, 4, none⟩ = some (.int .i64 (wrap64 (xo - (mn (mx (wrap64 (a3 - t1)) 0) xo)))))
       go_upto_region 11 with (fail)
       refine (hT' x1 (⟨xo, t1, (mn (mx (wrap64 (a3 - t1)) 0) xo), (wrap64 (t1 + (mn (mx (wrap64 (a3 - t1)) 0) xo))), (wrap64 (xo - (mn (mx (wrap64 (a3 - t1)) 0) xo)))⟩ : S48) wr _ HI.out HB.out HBr.out LM.out).mono ?_
       rintro e wE ⟨rfl, hI2, hB2, hfr⟩
       dsimp only
       replace Bbw := aA_ (hfr bw _ Gbw.out Bbw.out)
       have HI2 := aA_ hI2
       have HB2 := aA_ hB2
       clear hI2 hB2 hfr hw0 hw1 hw2 hw3 hw4
       have hw3 := ((blk_cell Bbw.out 3).trans rfl : wE.cell? ⟨bw, 3, none⟩ = some (.int .i64 (wrap64 (t1 + (mn (mx (wrap64 (a3 - t1)) 0) xo)))))
       have hw4 := ((blk_cell Bbw.out 4).trans rfl : wE.cell? ⟨bw, 4, none⟩ = some (.int .i64 (wrap64 (xo - (mn (mx (wrap64 (a3 - t1)) 0) xo)))))
       go_wp2
       go_quiet (fail)
       go_wp2
       go_roundg k1
       case measure => have := HK.out; omega
       case rel => exact ⟨x1 ++ [(⟨xo, t1, (mn (mx (wrap64 (a3 - t1)) 0) xo), (wrap64 (t1 + (mn (mx (wrap64 (a3 - t1)) 0) xo))), (wrap64 (xo - (mn (mx (wrap64 (a3 - t1)) 0) xo)))⟩ : S48)], (wrap64 (xo - (mn (mx (wrap64 (a3 - t1)) 0) xo))), (wrap64 (t1 + (mn (mx (wrap64 (a3 - t1)) 0) xo))), wrap64 (xi + 1), (by first | rfl | simp | simp [*]), (by first | rfl | simp | simp [*]), (by first | rfl | simp | simp [*]), H', ⟨by have := HK.out; omega⟩, ⟨hKD _ _ _ HI2.out⟩, ⟨pw_below_drewN HB2.out _⟩⟩
     ·rw [if_neg c10] at H
      exact absurd H (by simp)
    ·rw [if_neg c6] at H
     exact absurd H (by simp)
   ·rw [if_neg c5] at H
    have c5b0 : decide (xi < (l2.length : Int)) = false := decide_eq_false c5
    clear c5
    simp only [Option.some.injEq, Prod.mk.injEq] at H
    obtain ⟨rfl, rfl⟩ := H
    go_wp2
    go_ret
    exact ⟨rfl, HI.out, HB.out⟩

set_option maxHeartbeats 8000000 in
set_option maxRecDepth 100000 in
theorem none_calls (r : S48) (w : World) : Calls Try.prog 56 #[.agg #[.int .i64 r.f0, .int .i64 r.f1, .int .i64 r.f2, .int .i64 r.f3, .int .i64 r.f4]] w fun e w' => e = .returned (.tuple #[]) ∧ Below w.heap.size w w' := by
 have huR := Try.underlying48
 have HB := aA_ (Below.refl w.heap.size w)
 go_enter Try.func56, Try.ntmps56
 go_wp2_with (first | (refine box_event rfl (N := 1) rfl (cs := #[.int .i64 r.f0, .int .i64 r.f1, .int .i64 r.f2, .int .i64 r.f3, .int .i64 r.f4]) (t := 48) ?hr ?_; (case hr => go_simp <;> rfl); intro bk hg w_bk hbox hb; have Gbk := gW_ hg HB.out; replace HB := bB_ HB.out hb; have Bbk := aA_ hbox; clear hb hbox hg))
 go_end0
 exact ⟨rfl, HB.out⟩

set_option maxHeartbeats 8000000 in
set_option maxRecDepth 100000 in
theorem level_ends.calls (k : Nat) (a0 a1 : Int) (A2 : Option Addr) (c2 : Nat) (l2 : List S56) (a3 : Int) (r : Bool) (w : World) (hr2 : Kd.C k56 w A2 l2.length l2) (hc2 : l2.length ≤ c2) (h : level_ends.f k a0 a1 l2 a3 = some r) :
  Calls Try.prog 36 #[.int .i64 a0, .int .i64 a1, .slice A2 l2.length c2, .int .i64 a3] w fun e w' => e = .returned (.bool r) ∧ Below w.heap.size w w' := by
 obtain ⟨⟨t1, t2⟩, h, e⟩ := bI_ h
 simp only [Option.some.injEq] at e
 have HE := aA_ e
 have HW := aA_ (rows_walk 56 _ Try.func56 (by kernel_rfl) rfl #[] k a0 a1 A2 c2 l2 a3 t1 t2 w w (fun _ _ => True) (Below.refl _ _) hr2 hc2 trivial (fun _ _ _ _ => trivial)
  (fun out r W0 W _ hb hb2 _ => (none_calls r W).mono (by rintro e w' ⟨rfl, hb3⟩; exact ⟨rfl, trivial, below_step hb (below_step hb2 hb3), fun g o _ ho => blk_below ho hb3⟩)) h)
 clear hr2 h e
 go_enter Try.func36, Try.ntmps36
 go_wp2_with (first | (refine goesL_ (some 13) rfl rfl Try.func37 (by kernel_rfl) rfl #[.int .i64 a0, .int .i64 a1, .slice A2 l2.length c2, .int .i64 a3, .func (.func 56) #[] #[]] rfl (by (try simp only [mT_, mC_, mN_]); first | done | rfl) ?_; (with_reducible refine HW.out.mono ?_); rintro e wc ⟨rfl, _, hb⟩; refine ⟨_, rfl, ?_⟩; have HB := aA_ hb; clear hb))
 go_ret
 exact ⟨by rw [HE.out]; rfl, HB.out⟩
end Go.Proofs.Yteikafepdkijdaa.X
