-- cut by prune.py, a program of this session
import Derived.Test.YteikafepdkijdaaPTableSumsHLeast
namespace Go.Proofs.Yteikafepdkijdaa.X
open Go.RowKit Go.Proofs.YteikafepdkijdaaW.PrintWords Go.Proofs.YteikafepdkijdaaW.PrintLast Go.Proofs.YteikafepdkijdaaW.PrintMore
set_option linter.unusedVariables false
set_option linter.unusedSimpArgs false

def level_Table.f (k : Nat) (a0 a1 : Int) (l2 : List S56) : Option (List S48 × Int) := (level_Least.f k a0 a1 l2).bind fun t => if t.2 = 0 then (level_rows.f k a0 a1 l2 t.1).bind fun b => some (b.1, 0) else some ([], t.2)
theorem level_Table.mono : ∀ a0 a1 l2 k, LeO (level_Table.f k a0 a1 l2) (level_Table.f (k + 1) a0 a1 l2) := fun a0 a1 l2 k => LeO.bind (level_Least.mono _ _ _ _) (fun _ => LeO.ite (LeO.bind (level_rows.mono _ _ _ _ _) (fun _ => LeO.refl _)) (LeO.refl _))

def TabInv (gs : Nat) (w0 : World) (out : List S48) (W : World) : Prop := ∃ v : Value, W.heap[gs]? = some (.cells #[v] 33 (0, 0)) ∧ Kd.R k48 48 W w0.heap.size (fun _ => True) v out

set_option maxHeartbeats 8000000 in
set_option maxRecDepth 100000 in
theorem lay1_calls (gs : Nat) (w0 W0 W : World) (out : List S48) (r : S48) (hgs : w0.heap.size ≤ gs) (hi : TabInv gs w0 out W0) (hb0 : Below w0.heap.size w0 W0) (hb : Below W0.heap.size W0 W) (hl : out.length < 3518437208883) :
  Calls Try.prog 38 #[.agg #[.int .i64 r.f0, .int .i64 r.f1, .int .i64 r.f2, .int .i64 r.f3, .int .i64 r.f4], .pointer (some ⟨gs, 0, none⟩)] W fun e w' => e = .returned (.tuple #[]) ∧ TabInv gs w0 (out ++ [r]) w' ∧ Below w0.heap.size w0 w' ∧ ∀ (g : Nat) (o : Obj), W0.heap.size ≤ g → W.heap[g]? = some o → w'.heap[g]? = some o := by
 obtain ⟨v, hgv, hv⟩ := hi
 have huR := Try.underlying48
 have HGS := aA_ hgs
 have HGL := aA_ (blk_lt hgv)
 have LM := aA_ hl
 have HB := aA_ (Below.refl W.heap.size W)
 have HB0 := aA_ (hb0.trans (hb.mono hb0.size))
 have HSZ := aA_ hb.size
 have Bgs := aA_ ((hb.block gs (blk_lt hgv)).trans hgv)
 have HO := aA_ (show Kd.R k48 48 W w0.heap.size (fun k => k < W0.heap.size ∨ W.heap.size ≤ k) v out from Kd.R_below (Kd.R_mono (Kd.R_bound hv) (fun k hk => .inl hk.2.2.1)) hb)
 clear hgs hgv hv hl hb0 hb
 go_enter Try.func38, Try.ntmps38
 go_upto_region 1 with (first | (refine box_event rfl (N := 2) rfl (cs := #[.int .i64 r.f0, .int .i64 r.f1, .int .i64 r.f2, .int .i64 r.f3, .int .i64 r.f4]) (t := 48) ?hr ?_; (case hr => go_simp <;> rfl); intro bk hg w_bk hbox hb; have Gbk := aA_ ((by rw [hg]; exact below_size HB.out) : W.heap.size ≤ bk); replace Bgs := bK_ Bgs hb; replace HO := aA_ (Kd.R_below HO.out hb); replace HB0 := aA_ (HB0.out.trans (hb.mono HB0.out.size)); replace HB := bB_ HB.out hb; have Bbk := aA_ hbox; clear hb hbox hg))
 have hzg := ((blk_cell Bgs.out 0).trans rfl : w_bk.cell? ⟨gs, 0, none⟩ = some v)
 have hzr0 := ((blk_cell Bbk.out 0).trans rfl : w_bk.cell? ⟨bk, 0, none⟩ = some (.int .i64 r.f0))
 have hzr1 := ((blk_cell Bbk.out 1).trans rfl : w_bk.cell? ⟨bk, 1, none⟩ = some (.int .i64 r.f1))
 have hzr2 := ((blk_cell Bbk.out 2).trans rfl : w_bk.cell? ⟨bk, 2, none⟩ = some (.int .i64 r.f2))
 have hzr3 := ((blk_cell Bbk.out 3).trans rfl : w_bk.cell? ⟨bk, 3, none⟩ = some (.int .i64 r.f3))
 have hzr4 := ((blk_cell Bbk.out 4).trans rfl : w_bk.cell? ⟨bk, 4, none⟩ = some (.int .i64 r.f4))
 go_wp2_with (first | ((with_reducible refine gate_builtin (b := .append) (xs := #[.tmp 3, .tmp 5]) rfl ?_); at_builtin; refine Kd.R_append k48 (w0 := w0) w0.heap.size rfl (.tmp 3) (.tmp 5) 33 48 (.agg #[(.int .i64 0), (.int .i64 0), (.int .i64 0), (.int .i64 0), (.int .i64 0)]) 40 rfl Try.underlying33 info48 rfl (by decide) (by omega) v out r [.int .i64 r.f0, .int .i64 r.f1, .int .i64 r.f2, .int .i64 r.f3, .int .i64 r.f4] (fun k => k < W0.heap.size ∨ W.heap.size ≤ k) (fun _ => False) rfl rfl ?aP (fun _ hk => hk.elim) ?aF ?aO ?aB ?aS ?aL ?_; (case aP => exact k48_mkM _ _ _ r); (case aB => exact HB0.out); (case aF => exact (fun k hk => .inr (Nat.le_trans (below_size HB.out) hk))); (case aO => exact HO.out); (case aS => exact HB0.out.size); (case aL => have := LM.out; omega); intro v1 w1 ho hb hg hat; have HO1 := aA_ ho; have HB1 := aA_ hb; have HG1 := aA_ hg; have Bg1 := aA_ (blk_grown Bgs.out hg (Kd.R_ne HO.out Bgs.out (by decide))); obtain ⟨A1, q1, rfl⟩ := Kd.R_slice ho; clear ho hb hg hat; have hzg1 := ((blk_cell Bg1.out 0).trans rfl : w1.cell? ⟨gs, 0, none⟩ = some v); have hfg1 := blk_frozen Bg1.out 0))
 have E : (w1.setCell ⟨gs, 0, none⟩ (.slice A1 (out.length + 1) q1)).heap[gs]? = some (.cells #[.slice A1 (out.length + 1) q1] 33 (0, 0)) := blk_put Bg1.out 0 _ rfl
 have L : Lay gs w1 (w1.setCell ⟨gs, 0, none⟩ (.slice A1 (out.length + 1) q1)) := (Lay.refl gs w1).there _
 have HO2 : Kd.R k48 48 w1 w0.heap.size (fun k => k < W0.heap.size ∨ W.heap.size ≤ k) (.slice A1 (out.length + 1) q1) (out ++ [r]) := by
  have h := HO1.out
  rw [List.length_append] at h
  exact h
 go_end0
 refine ⟨rfl, ⟨_, E, L.row (Kd.R_mono HO2 (fun _ _ => trivial)) Bg1.out (by decide)⟩, L.below HB1.out HGS.out, ?_⟩
 intro g o hg ho
 have lt := blk_lt ho
 have n1 : g ≠ gs := by have := HGL.out; omega
 refine L.blk (blk_grown (blk_below ho HB.out) HG1.out ?_) n1
 intro e
 rcases HO.out.1 g e.symm with h | h
 ·omega
 ·omega

set_option maxHeartbeats 8000000 in
set_option maxRecDepth 100000 in
theorem level_Table.calls (k : Nat) (a0 : Int) (a1 : Int) (A2 : Option Addr) (c2 : Nat) (l2 : List (S56)) (r1 : List S48) (r2 : Int) (w : World) (hr2 : Kd.C k56 w A2 l2.length l2) (hc2 : l2.length ≤ c2) (h : level_Table.f k a0 a1 l2 = some (r1, r2)) :
  Calls Try.prog 19 #[.int .i64 a0, .int .i64 a1, .slice A2 l2.length c2] w fun e w' => ∃ v0_ : Value, e = .returned (.tuple #[v0_, .int .i64 r2]) ∧ Kd.R k48 48 w' w.heap.size (fun _ => True) v0_ r1 ∧ Below w.heap.size w w' := by
 have hmf : ∀ (fn : Fn) (first cap : Array Value) (w : World), (Instr.makeFunc fn first cap).run Try.prog w = .ok (.func fn first cap) w := fun _ _ _ _ => rfl
 have huL := Try.underlying33
 obtain ⟨⟨p, e⟩, h0, h⟩ := bI_ h
 dsimp only at h
 have A := aA_ h0
 have HR2 := aA_ hr2
 have HB := aA_ (Below.refl w.heap.size w)
 clear hr2 h0
 go_enter Try.func19, Try.ntmps19
 go_upto_region 1 with (fail)
 by_cases c : e = 0
 ·rw [if_pos c] at h
  have cb0 : (e == 0) = true := beq_iff_eq.mpr c
  have cb1 : (e != 0) = false := bne_eq_false_iff_eq.mpr c
  clear c
  obtain ⟨⟨q1, q2⟩, h1, h2⟩ := bI_ h
  simp only [Option.some.injEq, Prod.mk.injEq] at h2
  obtain ⟨rfl, rfl⟩ := h2
  have A1 := aA_ h1
  clear h h1
  go_upto_region 5 with (first
   | (refine goesL_ (some 15) rfl rfl Try.func18 (by kernel_rfl) rfl #[.int .i64 a0, .int .i64 a1, .slice A2 l2.length c2] rfl (by (try simp only [mT_, mC_, mN_]); first | done | rfl) ?_; (with_reducible refine (level_Least.calls k a0 a1 A2 c2 l2 p e _ (Kd.C_below HR2.out HB.out) hc2 A.out).mono ?_); rintro e wc ⟨rfl, hb⟩; refine ⟨_, rfl, ?_⟩; replace HB := bB_ HB.out hb; clear hb)
   | (refine box_event rfl (N := 10) rfl (cs := #[.slice none 0 0]) (t := 33) ?hr ?_; (case hr => go_simp <;> rfl); intro gs hg w_gs hbox hb; have Ggs := gW_ hg HB.out; replace HB := bB_ HB.out hb; have Bgs := aA_ hbox; clear hb hbox hg))
  have HW := aA_ (rows_walk 38 _ Try.func38 (by kernel_rfl) rfl #[.pointer (some ⟨gs, 0, none⟩)] k a0 a1 A2 c2 l2 p q1 q2 w w_gs (TabInv gs w) HB.out HR2.out hc2 ⟨_, Bgs.out, Kd.R_nil _ _ _ _ _⟩ (fun out W n h => by obtain ⟨v, h1, h2⟩ := h; exact ⟨v, blk_drewN h1 n, Kd.R_drewN h2 n⟩)
   (fun out r W0 W hi hb0 hb hl => lay1_calls gs w W0 W out r Ggs.out hi hb0 hb hl) A1.out)
  clear HB Bgs A1
  go_wp2_with (first
   | (refine goesL_ (some 26) rfl rfl Try.func37 (by kernel_rfl) rfl #[.int .i64 a0, .int .i64 a1, .slice A2 l2.length c2, .int .i64 p, .func (.func 38) #[] #[.pointer (some ⟨gs, 0, none⟩)]] rfl (by (try simp only [mT_, mC_, mN_]); first | done | rfl) ?_; (with_reducible refine HW.out.mono ?_); rintro e wc ⟨rfl, ⟨v, hgv, hv⟩, hb⟩; refine ⟨_, rfl, ?_⟩; have HB := aA_ hb; have HV := aA_ hv; have hzg := ((blk_cell hgv 0).trans rfl : wc.cell? ⟨gs, 0, none⟩ = some v); clear hb hv hgv HW))
  go_ret2
  exact ⟨_, rfl, HV.out, HB.out⟩
 ·rw [if_neg c] at h
  have cb0 : (e == 0) = false := beq_eq_false_iff_ne.mpr c
  have cb1 : (e != 0) = true := bne_iff_ne.mpr c
  simp only [Option.some.injEq, Prod.mk.injEq] at h
  obtain ⟨rfl, rfl⟩ := h
  go_wp2_with (first
   | (refine goesL_ (some 15) rfl rfl Try.func18 (by kernel_rfl) rfl #[.int .i64 a0, .int .i64 a1, .slice A2 l2.length c2] rfl (by (try simp only [mT_, mC_, mN_]); first | done | rfl) ?_; (with_reducible refine (level_Least.calls k a0 a1 A2 c2 l2 p e _ (Kd.C_below HR2.out HB.out) hc2 A.out).mono ?_); rintro e wc ⟨rfl, hb⟩; refine ⟨_, rfl, ?_⟩; replace HB := bB_ HB.out hb; clear hb))
  go_ret2
  exact ⟨_, rfl, Kd.R_nil _ _ _ _ _, HB.out⟩
end Go.Proofs.Yteikafepdkijdaa.X
