-- cut by prune.py, a program of this session
import Derived.Test.YteikafepdkijdaaPTableSumsXAccrue
namespace Go.Proofs.Yteikafepdkijdaa.X
open Go.RowKit Go.Proofs.YteikafepdkijdaaW.PrintWords Go.Proofs.YteikafepdkijdaaW.PrintLast Go.Proofs.YteikafepdkijdaaW.PrintMore
set_option linter.unusedVariables false
set_option linter.unusedSimpArgs false

structure Lay (g : Nat) (w w' : World) : Prop where
 os : w'.os = w.os
 tape : w'.tape = w.tape
 output : w'.output = w.output
 size : w.heap.size ≤ w'.heap.size
 block : ∀ i, i < w.heap.size → i ≠ g → w'.heap[i]? = w.heap[i]?
theorem Lay.of_below {g : Nat} {w w' : World} (h : Below w.heap.size w w') : Lay g w w' := ⟨h.os, h.tape, h.output, h.size, fun i hi _ => h.block i hi⟩
theorem Lay.set {g : Nat} {w W : World} (h : Lay g w W) {p : Addr} (hp : p.block = g ∨ w.heap.size ≤ p.block) (u : Value) : Lay g w (W.setCell p u) := by
 refine ⟨h.os, h.tape, h.output, ?_, fun i hi hg => ?_⟩
 ·simpa [World.setCell] using h.size
 ·exact (Below.heap_setCell W p u i (by rcases hp with hp | hp <;> omega)).trans (h.block i hi hg)
theorem Lay.own {g : Nat} {w W : World} (h : Lay g w W) {b j : Nat} (hb : w.heap.size ≤ b) (u : Value) : Lay g w (W.setCell ⟨b, j, none⟩ u) := h.set (Or.inr hb) u
theorem Lay.there {g : Nat} {w W : World} (h : Lay g w W) {j : Nat} (u : Value) : Lay g w (W.setCell ⟨g, j, none⟩ u) := h.set (Or.inl rfl) u

set_option maxHeartbeats 8000000 in
set_option maxRecDepth 100000 in
theorem lay_calls (k : Nat) (g1 g2 : Nat) (a0 a1 p q back r1 r2 : Int) (w : World) (h1 : w.heap[g1]? = some (.cells #[.int .i64 a0] 3 (0, 0))) (h2 : w.heap[g2]? = some (.cells #[.int .i64 a1] 3 (0, 0))) (hne : g1 ≠ g2) (h : accrue_Of.f k a0 a1 p q = some (r1, r2)) :
  Calls Try.prog 68 #[.agg #[.int .i64 p, .int .i64 q], .int .i64 back, .pointer (some ⟨g1, 0, none⟩), .pointer (some ⟨g2, 0, none⟩)] w fun e w' =>
   e = .returned (.tuple #[.agg #[.int .i64 a0, .int .i64 r1, .int .i64 back, .int .i64 (wrap64 (r1 + back)), .int .i64 (wrap64 (a0 - back))], .int .i64 r2]) ∧
   w'.heap[g1]? = some (.cells #[.int .i64 (wrap64 (a0 - back))] 3 (0, 0)) ∧ Lay g1 w w' := by
 have huR := Try.underlying56
 have huW := Try.underlying48
 have HB := aA_ (Below.refl w.heap.size w)
 have B1 := aA_ h1
 have B2 := aA_ h2
 have N12 := aA_ hne
 have L1 := aA_ (blk_lt h1)
 have L2 := aA_ (blk_lt h2)
 have A := aA_ h
 clear h1 h2 hne h
 go_enter Try.func68, Try.ntmps68
 go_wp2_with (first
  | (refine box_event rfl (N := 4) rfl (cs := #[.int .i64 p, .int .i64 q]) (t := 56) ?hr ?_; (case hr => go_simp <;> rfl); intro b3 hg wa hbox hb; have G3 := gW_ hg HB.out; replace B1 := bK_ B1 hb; replace B2 := bK_ B2 hb; replace HB := bB_ HB.out hb; have B3 := aA_ hbox; clear hb hbox hg)
  | (refine box_event rfl (N := 6) rfl (cs := #[.int .i64 0, .int .i64 0, .int .i64 0, .int .i64 0, .int .i64 0]) (t := 48) ?hr ?_; (case hr => go_simp <;> rfl); intro b4 hg wb hbox hb; have G4 := gW_ hg HB.out; have N14 := aA_ ((by rw [hg]; exact Nat.ne_of_lt (blk_lt B1.out)) : g1 ≠ b4); replace B1 := bK_ B1 hb; replace B2 := bK_ B2 hb; have N34 := aA_ ((by rw [hg]; exact Nat.ne_of_lt (blk_lt B3.out)) : b3 ≠ b4); replace B3 := bK_ B3 hb; replace HB := bB_ HB.out hb; have B4 := aA_ hbox; clear hb hbox hg; have hz1 : wb.cell? ⟨g1, 0, none⟩ = some (.int .i64 a0) := (blk_cell B1.out 0).trans rfl; have hz2 : wb.cell? ⟨g2, 0, none⟩ = some (.int .i64 a1) := (blk_cell B2.out 0).trans rfl; have hz3 : wb.cell? ⟨b3, 0, none⟩ = some (.int .i64 p) := (blk_cell B3.out 0).trans rfl; have hz4 : wb.cell? ⟨b3, 1, none⟩ = some (.int .i64 q) := (blk_cell B3.out 1).trans rfl)
  | (refine goesL_ (some 15) rfl rfl Try.func57 (by kernel_rfl) rfl #[.int .i64 a0, .int .i64 a1, .agg #[.int .i64 p, .int .i64 q]] rfl (by (try simp only [mT_, mC_, mN_]); first | done | rfl) ?_; (with_reducible refine (accrue_Of.calls k a0 a1 p q r1 r2 _ A.out).mono ?_); rintro e wc ⟨rfl, hb⟩; refine ⟨_, rfl, ?_⟩; replace B1 := bK_ B1 hb; replace B2 := bK_ B2 hb; replace B3 := bK_ B3 hb; replace B4 := bK_ B4 hb; replace HB := bB_ HB.out hb; clear hb; have hz5 : wc.cell? ⟨g1, 0, none⟩ = some (.int .i64 a0) := (blk_cell B1.out 0).trans rfl)
  | (refine box_event rfl (N := 10) rfl (cs := #[.int .i64 0, .int .i64 0, .int .i64 0, .int .i64 0, .int .i64 0]) (t := 48) ?hr ?_; (case hr => go_simp <;> rfl); intro b5 hg wd hbox hb; have G5 := gW_ hg HB.out; have N15 := aA_ ((by rw [hg]; exact Nat.ne_of_lt (blk_lt B1.out)) : g1 ≠ b5); replace B1 := bK_ B1 hb; replace B2 := bK_ B2 hb; have N45 := aA_ ((by rw [hg]; exact Nat.ne_of_lt (blk_lt B4.out)) : b4 ≠ b5); replace B4 := bK_ B4 hb; replace HB := bB_ HB.out hb; have B5 := aA_ hbox; clear hb hbox hg; have hz6 : wd.cell? ⟨g1, 0, none⟩ = some (.int .i64 a0) := (blk_cell B1.out 0).trans rfl; have hf6 := blk_frozen B1.out 0; have hy0 : wd.cell? ⟨b5, 0, none⟩ = some (.int .i64 0) := (blk_cell B5.out 0).trans rfl; have hg0 := blk_frozen B5.out 0; have hy1 : wd.cell? ⟨b5, 1, none⟩ = some (.int .i64 0) := (blk_cell B5.out 1).trans rfl; have hg1 := blk_frozen B5.out 1; have hy2 : wd.cell? ⟨b5, 2, none⟩ = some (.int .i64 0) := (blk_cell B5.out 2).trans rfl; have hg2 := blk_frozen B5.out 2; have hy3 : wd.cell? ⟨b5, 3, none⟩ = some (.int .i64 0) := (blk_cell B5.out 3).trans rfl; have hg3 := blk_frozen B5.out 3; have hy4 : wd.cell? ⟨b5, 4, none⟩ = some (.int .i64 0) := (blk_cell B5.out 4).trans rfl; have hg4 := blk_frozen B5.out 4; have hx0 : wd.cell? ⟨b4, 0, none⟩ = some (.int .i64 0) := (blk_cell B4.out 0).trans rfl; have hh0 := blk_frozen B4.out 0; have hx1 : wd.cell? ⟨b4, 1, none⟩ = some (.int .i64 0) := (blk_cell B4.out 1).trans rfl; have hh1 := blk_frozen B4.out 1; have hx2 : wd.cell? ⟨b4, 2, none⟩ = some (.int .i64 0) := (blk_cell B4.out 2).trans rfl; have hh2 := blk_frozen B4.out 2; have hx3 : wd.cell? ⟨b4, 3, none⟩ = some (.int .i64 0) := (blk_cell B4.out 3).trans rfl; have hh3 := blk_frozen B4.out 3; have hx4 : wd.cell? ⟨b4, 4, none⟩ = some (.int .i64 0) := (blk_cell B4.out 4).trans rfl; have hh4 := blk_frozen B4.out 4; have n1 := N15.out; have n2 := N15.out.symm; have n3 := N45.out; have n4 := N45.out.symm; have n5 := N14.out; have n6 := N14.out.symm))
 have E4 : (((((((((((wd.setCell ⟨b5, 0, none⟩ (.int .i64 a0)).setCell ⟨b5, 1, none⟩ (.int .i64 r1)).setCell ⟨b5, 2, none⟩ (.int .i64 back)).setCell ⟨b5, 3, none⟩ (.int .i64 (wrap64 (r1 + back)))).setCell ⟨b5, 4, none⟩ (.int .i64 (wrap64 (a0 - back)))).setCell ⟨g1, 0, none⟩ (.int .i64 (wrap64 (a0 - back)))).setCell ⟨b4, 0, none⟩ (.int .i64 a0)).setCell ⟨b4, 1, none⟩ (.int .i64 r1)).setCell ⟨b4, 2, none⟩ (.int .i64 back)).setCell ⟨b4, 3, none⟩ (.int .i64 (wrap64 (r1 + back)))).setCell ⟨b4, 4, none⟩ (.int .i64 (wrap64 (a0 - back)))).heap[b4]? = some (.cells #[.int .i64 a0, .int .i64 r1, .int .i64 back, .int .i64 (wrap64 (r1 + back)), .int .i64 (wrap64 (a0 - back))] 48 (0, 0)) := (blk_put (blk_put (blk_put (blk_put (blk_put (blk_far (blk_far (blk_far (blk_far (blk_far (blk_far B4.out N45.out _) N45.out _) N45.out _) N45.out _) N45.out _) N14.out.symm _) 0 _ rfl) 1 _ rfl) 2 _ rfl) 3 _ rfl) 4 _ rfl)
 have E1 : (((((((((((wd.setCell ⟨b5, 0, none⟩ (.int .i64 a0)).setCell ⟨b5, 1, none⟩ (.int .i64 r1)).setCell ⟨b5, 2, none⟩ (.int .i64 back)).setCell ⟨b5, 3, none⟩ (.int .i64 (wrap64 (r1 + back)))).setCell ⟨b5, 4, none⟩ (.int .i64 (wrap64 (a0 - back)))).setCell ⟨g1, 0, none⟩ (.int .i64 (wrap64 (a0 - back)))).setCell ⟨b4, 0, none⟩ (.int .i64 a0)).setCell ⟨b4, 1, none⟩ (.int .i64 r1)).setCell ⟨b4, 2, none⟩ (.int .i64 back)).setCell ⟨b4, 3, none⟩ (.int .i64 (wrap64 (r1 + back)))).setCell ⟨b4, 4, none⟩ (.int .i64 (wrap64 (a0 - back)))).heap[g1]? = some (.cells #[.int .i64 (wrap64 (a0 - back))] 3 (0, 0)) := (blk_far (blk_far (blk_far (blk_far (blk_far (blk_put (blk_far (blk_far (blk_far (blk_far (blk_far B1.out N15.out _) N15.out _) N15.out _) N15.out _) N15.out _) 0 _ rfl) N14.out _) N14.out _) N14.out _) N14.out _) N14.out _)
 have EL : Lay g1 w (((((((((((wd.setCell ⟨b5, 0, none⟩ (.int .i64 a0)).setCell ⟨b5, 1, none⟩ (.int .i64 r1)).setCell ⟨b5, 2, none⟩ (.int .i64 back)).setCell ⟨b5, 3, none⟩ (.int .i64 (wrap64 (r1 + back)))).setCell ⟨b5, 4, none⟩ (.int .i64 (wrap64 (a0 - back)))).setCell ⟨g1, 0, none⟩ (.int .i64 (wrap64 (a0 - back)))).setCell ⟨b4, 0, none⟩ (.int .i64 a0)).setCell ⟨b4, 1, none⟩ (.int .i64 r1)).setCell ⟨b4, 2, none⟩ (.int .i64 back)).setCell ⟨b4, 3, none⟩ (.int .i64 (wrap64 (r1 + back)))).setCell ⟨b4, 4, none⟩ (.int .i64 (wrap64 (a0 - back)))) := (Lay.own (Lay.own (Lay.own (Lay.own (Lay.own (Lay.there (Lay.own (Lay.own (Lay.own (Lay.own (Lay.own (Lay.of_below HB.out) G5.out _) G5.out _) G5.out _) G5.out _) G5.out _) _) G4.out _) G4.out _) G4.out _) G4.out _) G4.out _)
 generalize (((((((((((wd.setCell ⟨b5, 0, none⟩ (.int .i64 a0)).setCell ⟨b5, 1, none⟩ (.int .i64 r1)).setCell ⟨b5, 2, none⟩ (.int .i64 back)).setCell ⟨b5, 3, none⟩ (.int .i64 (wrap64 (r1 + back)))).setCell ⟨b5, 4, none⟩ (.int .i64 (wrap64 (a0 - back)))).setCell ⟨g1, 0, none⟩ (.int .i64 (wrap64 (a0 - back)))).setCell ⟨b4, 0, none⟩ (.int .i64 a0)).setCell ⟨b4, 1, none⟩ (.int .i64 r1)).setCell ⟨b4, 2, none⟩ (.int .i64 back)).setCell ⟨b4, 3, none⟩ (.int .i64 (wrap64 (r1 + back)))).setCell ⟨b4, 4, none⟩ (.int .i64 (wrap64 (a0 - back)))) = W at E4 E1 EL ⊢
 exact bodyPost_ret (results_ct rfl _ _ b4 48 #[.int .i64 a0, .int .i64 r1, .int .i64 back, .int .i64 (wrap64 (r1 + back)), .int .i64 (wrap64 (a0 - back))] (0, 0) _ rfl E4 huW rfl (by kernel_rfl)) rfl ⟨rfl, E1, EL⟩
end Go.Proofs.Yteikafepdkijdaa.X
