-- cut by prune.py, a program of this session
import Derived.Test.YtbapgkopilmdfaaDoorPActualMovesHDiv
import Derived.LoopN
import Derived.Deep.DeepCutAuto
import Derived.Laws.Externs
import Derived.Shelf.Spec.BitsCarry
import Derived.Deep.RegionWith
namespace Go.Proofs.YtbapgkopilmdfaaDoor.X
open Go.RowKit Go.Proofs.YtbapgkopilmdfaaDoorW.PrintWords Go.Proofs.YtbapgkopilmdfaaDoorW.PrintLast Go.Proofs.YtbapgkopilmdfaaDoorW.PrintMore
set_option linter.unusedVariables false
set_option linter.unusedSimpArgs false

set_option maxHeartbeats 8000000 in
set_option maxRecDepth 100000 in
theorem halves_calls (hi lo : Int) (w : World) :
  Calls Tryd.prog 72 #[.agg #[.int .u64 hi, .int .u64 lo]] w fun e w' => e = .returned (.agg #[.int .u64 lo, .int .u64 hi]) ∧ Below w.heap.size w w' := by
 have hu := Tryd.underlying72
 go_enter Tryd.func72, Tryd.ntmps72
 go_wp2
 refine bodyPost_ret (results_cell_row rfl _ _ (w.heap.size + 1) 106 #[.int .u64 lo, .int .u64 hi] (0, 0) _ rfl (alloc_at _ _ _ (by simp)) Tryd.underlying106 rfl (by kernel_rfl)) rfl ⟨rfl, below_alloc (below_alloc (Below.refl _ _) _) _⟩

theorem add64_run (x y c : Nat) (hc : c ≤ 1) (w : World) :
  (callFunc 64 #[.int .u64 x, .int .u64 y, .int .u64 c]).run Tryd.prog w =
   .ok (.value (.tuple #[.int .u64 (((x + y + c) % 18446744073709551616 : Nat) : Int), .int .u64 (((x + y + c) / 18446744073709551616 : Nat) : Int)])) w := by
 rw [run_callFunc_extern Tryd.func64 (by kernel_rfl) (by kernel_rfl) (by kernel_rfl) (e := add64Entry) (by kernel_rfl), run_add64 x y c (by omega) (by omega) (by omega) (by omega)]
 simp only [Result.andThen]
 congr 5 <;> omega

set_option maxHeartbeats 8000000 in
set_option maxRecDepth 100000 in
theorem each_calls (F : FuncId) (x1 x0 y1 y0 : Nat) (a b c d : Nat) (w : World)
  (h0 : ∀ W, (callFunc F #[.int .u64 x0, .int .u64 y0, .int .u64 0]).run Tryd.prog W = .ok (.value (.tuple #[.int .u64 a, .int .u64 b])) W)
  (h1 : ∀ W, (callFunc F #[.int .u64 x1, .int .u64 y1, .int .u64 b]).run Tryd.prog W = .ok (.value (.tuple #[.int .u64 c, .int .u64 d])) W) :
  Calls Tryd.prog 63 #[.agg #[.int .u64 x1, .int .u64 x0], .agg #[.int .u64 y1, .int .u64 y0], .func (.func F) #[] #[]] w fun e w' => e = .returned (.tuple #[.agg #[.int .u64 c, .int .u64 a], .bool ((d : Int) == 0)]) ∧ Below w.heap.size w w' := by
 have hu := Tryd.underlying72
 go_enter Tryd.func63, Tryd.ntmps63
 go_wp2_with (fail)
 have hB : Below w.heap.size w (((w.alloc (.cells #[.int .u64 x1, .int .u64 x0] 72)).alloc (.cells #[.int .u64 y1, .int .u64 y0] 72)).alloc (.cells #[.int .u64 0, .int .u64 0] 72)) := below_alloc (below_alloc (below_alloc (Below.refl _ _) _) _) _
 generalize hW : (((w.alloc (.cells #[.int .u64 x1, .int .u64 x0] 72)).alloc (.cells #[.int .u64 y1, .int .u64 y0] 72)).alloc (.cells #[.int .u64 0, .int .u64 0] 72)) = W at hB ⊢
 have bx : W.heap[w.heap.size]? = some (.cells #[.int .u64 x1, .int .u64 x0] 72 (0, 0)) := by rw [← hW]; exact blk_alloc (blk_alloc (alloc_at _ _ _ (by simp)) _) _
 have bY : W.heap[w.heap.size + 1]? = some (.cells #[.int .u64 y1, .int .u64 y0] 72 (0, 0)) := by rw [← hW]; exact blk_alloc (alloc_at _ _ _ (by simp)) _
 have bR : W.heap[w.heap.size + 1 + 1]? = some (.cells #[.int .u64 0, .int .u64 0] 72 (0, 0)) := by rw [← hW]; exact alloc_at _ _ _ (by simp)
 clear hW
 have BX := aA_ (blk_drew bx)
 have BY := aA_ (blk_drew bY)
 have BR := aA_ (blk_drew bR)
 have HB := aA_ (below_drew1 hB)
 clear bx bY bR hB
 refine start_ (n := 8) (S := fun w' => w'.cell? ⟨w.heap.size, 0, none⟩ = some (.int .u64 x1) ∧ w'.cell? ⟨w.heap.size, 1, none⟩ = some (.int .u64 x0) ∧ w'.cell? ⟨(w.heap.size + 1), 0, none⟩ = some (.int .u64 y1) ∧ w'.cell? ⟨(w.heap.size + 1), 1, none⟩ = some (.int .u64 y0)) (ds := []) #[false, false, false, false, false, false, false, false] (by kernel_rfl) rfl rfl ⟨(blk_cell BX.out 0).trans rfl, (blk_cell BX.out 1).trans rfl, (blk_cell BY.out 0).trans rfl, (blk_cell BY.out 1).trans rfl⟩ (fun hHeld => ?_)
 generalize W.drew = W1 at BX BY BR HB hHeld ⊢
 refine take_ (i := 0) (N := some 13) (v := ?_) (a' := ?_) #[true, false, false, false, false, false, false, false] rfl rfl (by kernel_rfl) (fun _ _ _ h => h) (Or.inl ⟨by rfl, ?_⟩) hHeld ?_ ?_
 rotate_left
 ·rintro w' ⟨s0, s1, s2, s3⟩
  go_simp
  with_reducible rfl
 rotate_left
 ·simp only [Act.put, sT_, sZ_, sS_, i64_w, i32_w]
  rfl
 refine take_ (i := 2) (N := some 15) (v := ?_) (a' := ?_) #[true, false, true, false, false, false, false, false] rfl rfl (by kernel_rfl) (fun _ _ _ h => h) (Or.inl ⟨by rfl, ?_⟩) hHeld ?_ ?_
 rotate_left
 ·rintro w' ⟨s0, s1, s2, s3⟩
  go_simp
  with_reducible rfl
 rotate_left
 ·simp only [Act.put, sT_, sZ_, sS_, i64_w, i32_w]
  rfl
 refine join_ (σ := Nat × Nat) 2 #[true, true, true, true, true, true, false, false] (fun s_ => [(14, .agg #[.int .u64 x0, .int .u64 x1]), (16, .agg #[.int .u64 y0, .int .u64 y1]), (8, .pointer (some ⟨s_.1, 0, none⟩)), (9, .pointer (some ⟨s_.2, 0, none⟩))]) (fun s_ w' => (w'.cell? ⟨w.heap.size, 0, none⟩ = some (.int .u64 x1) ∧ w'.cell? ⟨w.heap.size, 1, none⟩ = some (.int .u64 x0) ∧ w'.cell? ⟨(w.heap.size + 1), 0, none⟩ = some (.int .u64 y1) ∧ w'.cell? ⟨(w.heap.size + 1), 1, none⟩ = some (.int .u64 y0)) ∧ (w'.heap[w.heap.size]? = some (.cells #[.int .u64 x1, .int .u64 x0] 72 (0, 0))) ∧ (w'.heap[(w.heap.size + 1)]? = some (.cells #[.int .u64 y1, .int .u64 y0] 72 (0, 0))) ∧ (w'.heap[s_.1]? = some (.cells #[.int .u64 0, .int .u64 0] 106 (0, 0))) ∧ (w'.heap[s_.2]? = some (.cells #[.int .u64 0, .int .u64 0] 106 (0, 0))) ∧ (Below w.heap.size w w') ∧ (w.heap.size ≤ s_.1) ∧ (w.heap.size ≤ s_.2) ∧ (s_.1 ≠ w.heap.size) ∧ (s_.2 ≠ w.heap.size) ∧ (s_.1 ≠ (w.heap.size + 1)) ∧ (s_.2 ≠ (w.heap.size + 1)) ∧ (s_.1 ≠ (w.heap.size + 1 + 1)) ∧ (s_.2 ≠ (w.heap.size + 1 + 1)) ∧ (w'.heap[(w.heap.size + 1 + 1)]? = some (.cells #[.int .u64 0, .int .u64 0] 72 (0, 0))) ∧ (s_.1 ≠ s_.2)) ?_ ?_
 rotate_left
 ·intro hJ
  refine three_ (i := 1) (j := 4) (k := 5) (Ni := some 14) (Nj := some 8) (Nk := some 9) #[true, true, true, false, false, false, false, false] #[true, false, true, false, true, false, false, false] #[true, false, true, false, false, true, false, false] rfl rfl rfl rfl rfl rfl (by kernel_rfl) (by decide) (by decide) (by decide) (fun K hK => ?_) (fun K hK => ?_) (fun K hK => ?_)
  ·skip
   refine goes_ Tryd.func72 (by kernel_rfl) rfl #[.agg #[.int .u64 x1, .int .u64 x0]] (by rfl) rfl rfl (by (try simp only [mT_, mC_, mN_]); first | done | rfl) ?_
   with_reducible refine (halves_calls x1 x0 _).mono ?_
   rintro e v1 ⟨rfl, hb⟩
   refine ⟨_, rfl, ?_⟩
   replace BX := bK_ BX hb
   replace BY := bK_ BY hb
   replace BR := bK_ BR hb
   replace HB := bB_ HB.out hb
   clear hb
   refine hK.out _ _ ⟨(blk_cell BX.out 0).trans rfl, (blk_cell BX.out 1).trans rfl, (blk_cell BY.out 0).trans rfl, (blk_cell BY.out 1).trans rfl⟩ (fun hHeld => ?_)
   clear hK K
   refine norm_ (by show Act.put _ (some 14) _ = _; simp only [Act.put, sT_, sZ_, sS_, i64_w, i32_w] <;> rfl) ?_
   refine three_ (i := 3) (j := 4) (k := 5) (Ni := some 16) (Nj := some 8) (Nk := some 9) #[true, true, true, true, false, false, false, false] #[true, true, true, false, true, false, false, false] #[true, true, true, false, false, true, false, false] rfl rfl rfl rfl rfl rfl (by kernel_rfl) (by decide) (by decide) (by decide) (fun K hK => ?_) (fun K hK => ?_) (fun K hK => ?_)
   ·skip
    refine goes_ Tryd.func72 (by kernel_rfl) rfl #[.agg #[.int .u64 y1, .int .u64 y0]] (by rfl) rfl rfl (by (try simp only [mT_, mC_, mN_]); first | done | rfl) ?_
    with_reducible refine (halves_calls y1 y0 _).mono ?_
    rintro e v2 ⟨rfl, hb⟩
    refine ⟨_, rfl, ?_⟩
    replace BX := bK_ BX hb
    replace BY := bK_ BY hb
    replace BR := bK_ BR hb
    replace HB := bB_ HB.out hb
    clear hb
    refine hK.out _ _ ⟨(blk_cell BX.out 0).trans rfl, (blk_cell BX.out 1).trans rfl, (blk_cell BY.out 0).trans rfl, (blk_cell BY.out 1).trans rfl⟩ (fun hHeld => ?_)
    clear hK K
    refine norm_ (by show Act.put _ (some 16) _ = _; simp only [Act.put, sT_, sZ_, sS_, i64_w, i32_w] <;> rfl) ?_
    refine two_ (i := 4) (j := 5) (Ni := some 8) (Nj := some 9) #[true, true, true, true, true, false, false, false] #[true, true, true, true, false, true, false, false] rfl rfl rfl rfl (by kernel_rfl) (by decide) (by decide) (fun K hK => ?_) (fun K hK => ?_)
    ·skip
     refine box_step rfl (N := 8) rfl (cs := #[.int .u64 0, .int .u64 0]) (t := 106) ?hr ?_; (case hr => go_simp <;> rfl)
     intro ga hg v3 hbox hb
     have LG := gW_ hg HB.out
     have LX := aA_ ((by rw [hg]; exact Nat.ne_of_gt (blk_lt BX.out)) : ga ≠ w.heap.size)
     have LY := aA_ ((by rw [hg]; exact Nat.ne_of_gt (blk_lt BY.out)) : ga ≠ (w.heap.size + 1))
     have LR := aA_ ((by rw [hg]; exact Nat.ne_of_gt (blk_lt BR.out)) : ga ≠ (w.heap.size + 1 + 1))
     have LGga := LG
     clear LG
     have LXga := LX
     clear LX
     have LYga := LY
     clear LY
     have LRga := LR
     clear LR
     replace BX := bK_ BX hb
     replace BY := bK_ BY hb
     replace BR := bK_ BR hb
     replace HB := bB_ HB.out hb
     have BA := aA_ hbox
     clear hbox hg
     clear hb
     refine hK.out _ _ ⟨(blk_cell BX.out 0).trans rfl, (blk_cell BX.out 1).trans rfl, (blk_cell BY.out 0).trans rfl, (blk_cell BY.out 1).trans rfl⟩ (fun hHeld => ?_)
     clear hK K
     refine norm_ (by show Act.put _ (some 8) _ = _; simp only [Act.put, sT_, sZ_, sS_, i64_w, i32_w] <;> rfl) ?_
     refine one_ (i := 5) (N := some 9) #[true, true, true, true, true, true, false, false] rfl rfl (by kernel_rfl) (by decide) (fun K hK => ?_)
     refine box_step rfl (N := 9) rfl (cs := #[.int .u64 0, .int .u64 0]) (t := 106) ?hr ?_; (case hr => go_simp <;> rfl)
     intro gb hg v4 hbox hb
     have LG := gW_ hg HB.out
     have LX := aA_ ((by rw [hg]; exact Nat.ne_of_gt (blk_lt BX.out)) : gb ≠ w.heap.size)
     have LY := aA_ ((by rw [hg]; exact Nat.ne_of_gt (blk_lt BY.out)) : gb ≠ (w.heap.size + 1))
     have LR := aA_ ((by rw [hg]; exact Nat.ne_of_gt (blk_lt BR.out)) : gb ≠ (w.heap.size + 1 + 1))
     have NAB := aA_ ((by rw [hg]; exact Nat.ne_of_lt (blk_lt BA.out)) : ga ≠ gb)
     have LGgb := LG
     clear LG
     have LXgb := LX
     clear LX
     have LYgb := LY
     clear LY
     have LRgb := LR
     clear LR
     replace BX := bK_ BX hb
     replace BY := bK_ BY hb
     replace BR := bK_ BR hb
     replace BA := bK_ BA hb
     replace HB := bB_ HB.out hb
     have BB := aA_ hbox
     clear hbox hg
     clear hb
     refine hK.out _ _ ⟨(blk_cell BX.out 0).trans rfl, (blk_cell BX.out 1).trans rfl, (blk_cell BY.out 0).trans rfl, (blk_cell BY.out 1).trans rfl⟩ (fun hHeld => ?_)
     clear hK K
     refine norm_ (by show Act.put _ (some 9) _ = _; simp only [Act.put, sT_, sZ_, sS_, i64_w, i32_w] <;> rfl) ?_
     exact norm_ (by simp only [putAll, Act.put, sT_, sZ_, sS_] <;> rfl) (hJ (ga, gb) _ ⟨hHeld, BX.out, BY.out, BA.out, BB.out, HB.out, LGga.out, LGgb.out, LXga.out, LXgb.out, LYga.out, LYgb.out, LRga.out, LRgb.out, BR.out, NAB.out⟩)
    ·skip
     refine box_step rfl (N := 9) rfl (cs := #[.int .u64 0, .int .u64 0]) (t := 106) ?hr ?_; (case hr => go_simp <;> rfl)
     intro gb hg v5 hbox hb
     have LG := gW_ hg HB.out
     have LX := aA_ ((by rw [hg]; exact Nat.ne_of_gt (blk_lt BX.out)) : gb ≠ w.heap.size)
     have LY := aA_ ((by rw [hg]; exact Nat.ne_of_gt (blk_lt BY.out)) : gb ≠ (w.heap.size + 1))
     have LR := aA_ ((by rw [hg]; exact Nat.ne_of_gt (blk_lt BR.out)) : gb ≠ (w.heap.size + 1 + 1))
     have LGgb := LG
     clear LG
     have LXgb := LX
     clear LX
     have LYgb := LY
     clear LY
     have LRgb := LR
     clear LR
     replace BX := bK_ BX hb
     replace BY := bK_ BY hb
     replace BR := bK_ BR hb
     replace HB := bB_ HB.out hb
     have BB := aA_ hbox
     clear hbox hg
     clear hb
     refine hK.out _ _ ⟨(blk_cell BX.out 0).trans rfl, (blk_cell BX.out 1).trans rfl, (blk_cell BY.out 0).trans rfl, (blk_cell BY.out 1).trans rfl⟩ (fun hHeld => ?_)
     clear hK K
     refine norm_ (by show Act.put _ (some 9) _ = _; simp only [Act.put, sT_, sZ_, sS_, i64_w, i32_w] <;> rfl) ?_
     refine one_ (i := 4) (N := some 8) #[true, true, true, true, true, true, false, false] rfl rfl (by kernel_rfl) (by decide) (fun K hK => ?_)
     refine box_step rfl (N := 8) rfl (cs := #[.int .u64 0, .int .u64 0]) (t := 106) ?hr ?_; (case hr => go_simp <;> rfl)
     intro ga hg v6 hbox hb
     have LG := gW_ hg HB.out
     have LX := aA_ ((by rw [hg]; exact Nat.ne_of_gt (blk_lt BX.out)) : ga ≠ w.heap.size)
     have LY := aA_ ((by rw [hg]; exact Nat.ne_of_gt (blk_lt BY.out)) : ga ≠ (w.heap.size + 1))
     have LR := aA_ ((by rw [hg]; exact Nat.ne_of_gt (blk_lt BR.out)) : ga ≠ (w.heap.size + 1 + 1))
     have NAB := aA_ ((by rw [hg]; exact Nat.ne_of_gt (blk_lt BB.out)) : ga ≠ gb)
     have LGga := LG
     clear LG
     have LXga := LX
     clear LX
     have LYga := LY
     clear LY
     have LRga := LR
     clear LR
     replace BX := bK_ BX hb
     replace BY := bK_ BY hb
     replace BR := bK_ BR hb
     replace BB := bK_ BB hb
     replace HB := bB_ HB.out hb
     have BA := aA_ hbox
     clear hbox hg
     clear hb
     refine hK.out _ _ ⟨(blk_cell BX.out 0).trans rfl, (blk_cell BX.out 1).trans rfl, (blk_cell BY.out 0).trans rfl, (blk_cell BY.out 1).trans rfl⟩ (fun hHeld => ?_)
     clear hK K
     refine norm_ (by show Act.put _ (some 8) _ = _; simp only [Act.put, sT_, sZ_, sS_, i64_w, i32_w] <;> rfl) ?_
     exact norm_ (by simp only [putAll, Act.put, sT_, sZ_, sS_] <;> rfl) (hJ (ga, gb) _ ⟨hHeld, BX.out, BY.out, BA.out, BB.out, HB.out, LGga.out, LGgb.out, LXga.out, LXgb.out, LYga.out, LYgb.out, LRga.out, LRgb.out, BR.out, NAB.out⟩)
   ·skip
    refine box_step rfl (N := 8) rfl (cs := #[.int .u64 0, .int .u64 0]) (t := 106) ?hr ?_; (case hr => go_simp <;> rfl)
    intro ga hg v7 hbox hb
    have LG := gW_ hg HB.out
    have LX := aA_ ((by rw [hg]; exact Nat.ne_of_gt (blk_lt BX.out)) : ga ≠ w.heap.size)
    have LY := aA_ ((by rw [hg]; exact Nat.ne_of_gt (blk_lt BY.out)) : ga ≠ (w.heap.size + 1))
    have LR := aA_ ((by rw [hg]; exact Nat.ne_of_gt (blk_lt BR.out)) : ga ≠ (w.heap.size + 1 + 1))
    have LGga := LG
    clear LG
    have LXga := LX
    clear LX
    have LYga := LY
    clear LY
    have LRga := LR
    clear LR
    replace BX := bK_ BX hb
    replace BY := bK_ BY hb
    replace BR := bK_ BR hb
    replace HB := bB_ HB.out hb
    have BA := aA_ hbox
    clear hbox hg
    clear hb
    refine hK.out _ _ ⟨(blk_cell BX.out 0).trans rfl, (blk_cell BX.out 1).trans rfl, (blk_cell BY.out 0).trans rfl, (blk_cell BY.out 1).trans rfl⟩ (fun hHeld => ?_)
    clear hK K
    refine norm_ (by show Act.put _ (some 8) _ = _; simp only [Act.put, sT_, sZ_, sS_, i64_w, i32_w] <;> rfl) ?_
    refine two_ (i := 3) (j := 5) (Ni := some 16) (Nj := some 9) #[true, true, true, true, true, false, false, false] #[true, true, true, false, true, true, false, false] rfl rfl rfl rfl (by kernel_rfl) (by decide) (by decide) (fun K hK => ?_) (fun K hK => ?_)
    ·skip
     refine goes_ Tryd.func72 (by kernel_rfl) rfl #[.agg #[.int .u64 y1, .int .u64 y0]] (by rfl) rfl rfl (by (try simp only [mT_, mC_, mN_]); first | done | rfl) ?_
     with_reducible refine (halves_calls y1 y0 _).mono ?_
     rintro e v8 ⟨rfl, hb⟩
     refine ⟨_, rfl, ?_⟩
     replace BX := bK_ BX hb
     replace BY := bK_ BY hb
     replace BR := bK_ BR hb
     replace BA := bK_ BA hb
     replace HB := bB_ HB.out hb
     clear hb
     refine hK.out _ _ ⟨(blk_cell BX.out 0).trans rfl, (blk_cell BX.out 1).trans rfl, (blk_cell BY.out 0).trans rfl, (blk_cell BY.out 1).trans rfl⟩ (fun hHeld => ?_)
     clear hK K
     refine norm_ (by show Act.put _ (some 16) _ = _; simp only [Act.put, sT_, sZ_, sS_, i64_w, i32_w] <;> rfl) ?_
     refine one_ (i := 5) (N := some 9) #[true, true, true, true, true, true, false, false] rfl rfl (by kernel_rfl) (by decide) (fun K hK => ?_)
     refine box_step rfl (N := 9) rfl (cs := #[.int .u64 0, .int .u64 0]) (t := 106) ?hr ?_; (case hr => go_simp <;> rfl)
     intro gb hg v9 hbox hb
     have LG := gW_ hg HB.out
     have LX := aA_ ((by rw [hg]; exact Nat.ne_of_gt (blk_lt BX.out)) : gb ≠ w.heap.size)
     have LY := aA_ ((by rw [hg]; exact Nat.ne_of_gt (blk_lt BY.out)) : gb ≠ (w.heap.size + 1))
     have LR := aA_ ((by rw [hg]; exact Nat.ne_of_gt (blk_lt BR.out)) : gb ≠ (w.heap.size + 1 + 1))
     have NAB := aA_ ((by rw [hg]; exact Nat.ne_of_lt (blk_lt BA.out)) : ga ≠ gb)
     have LGgb := LG
     clear LG
     have LXgb := LX
     clear LX
     have LYgb := LY
     clear LY
     have LRgb := LR
     clear LR
     replace BX := bK_ BX hb
     replace BY := bK_ BY hb
     replace BR := bK_ BR hb
     replace BA := bK_ BA hb
     replace HB := bB_ HB.out hb
     have BB := aA_ hbox
     clear hbox hg
     clear hb
     refine hK.out _ _ ⟨(blk_cell BX.out 0).trans rfl, (blk_cell BX.out 1).trans rfl, (blk_cell BY.out 0).trans rfl, (blk_cell BY.out 1).trans rfl⟩ (fun hHeld => ?_)
     clear hK K
     refine norm_ (by show Act.put _ (some 9) _ = _; simp only [Act.put, sT_, sZ_, sS_, i64_w, i32_w] <;> rfl) ?_
     exact norm_ (by simp only [putAll, Act.put, sT_, sZ_, sS_] <;> rfl) (hJ (ga, gb) _ ⟨hHeld, BX.out, BY.out, BA.out, BB.out, HB.out, LGga.out, LGgb.out, LXga.out, LXgb.out, LYga.out, LYgb.out, LRga.out, LRgb.out, BR.out, NAB.out⟩)
    ·skip
     refine box_step rfl (N := 9) rfl (cs := #[.int .u64 0, .int .u64 0]) (t := 106) ?hr ?_; (case hr => go_simp <;> rfl)
     intro gb hg v10 hbox hb
     have LG := gW_ hg HB.out
     have LX := aA_ ((by rw [hg]; exact Nat.ne_of_gt (blk_lt BX.out)) : gb ≠ w.heap.size)
     have LY := aA_ ((by rw [hg]; exact Nat.ne_of_gt (blk_lt BY.out)) : gb ≠ (w.heap.size + 1))
     have LR := aA_ ((by rw [hg]; exact Nat.ne_of_gt (blk_lt BR.out)) : gb ≠ (w.heap.size + 1 + 1))
     have NAB := aA_ ((by rw [hg]; exact Nat.ne_of_lt (blk_lt BA.out)) : ga ≠ gb)
     have LGgb := LG
     clear LG
     have LXgb := LX
     clear LX
     have LYgb := LY
     clear LY
     have LRgb := LR
     clear LR
     replace BX := bK_ BX hb
     replace BY := bK_ BY hb
     replace BR := bK_ BR hb
     replace BA := bK_ BA hb
     replace HB := bB_ HB.out hb
     have BB := aA_ hbox
     clear hbox hg
     clear hb
     refine hK.out _ _ ⟨(blk_cell BX.out 0).trans rfl, (blk_cell BX.out 1).trans rfl, (blk_cell BY.out 0).trans rfl, (blk_cell BY.out 1).trans rfl⟩ (fun hHeld => ?_)
     clear hK K
     refine norm_ (by show Act.put _ (some 9) _ = _; simp only [Act.put, sT_, sZ_, sS_, i64_w, i32_w] <;> rfl) ?_
     refine one_ (i := 3) (N := some 16) #[true, true, true, true, true, true, false, false] rfl rfl (by kernel_rfl) (by decide) (fun K hK => ?_)
     refine goes_ Tryd.func72 (by kernel_rfl) rfl #[.agg #[.int .u64 y1, .int .u64 y0]] (by rfl) rfl rfl (by (try simp only [mT_, mC_, mN_]); first | done | rfl) ?_
     with_reducible refine (halves_calls y1 y0 _).mono ?_
     rintro e v11 ⟨rfl, hb⟩
     refine ⟨_, rfl, ?_⟩
     replace BX := bK_ BX hb
     replace BY := bK_ BY hb
     replace BR := bK_ BR hb
     replace BA := bK_ BA hb
     replace BB := bK_ BB hb
     replace HB := bB_ HB.out hb
     clear hb
     refine hK.out _ _ ⟨(blk_cell BX.out 0).trans rfl, (blk_cell BX.out 1).trans rfl, (blk_cell BY.out 0).trans rfl, (blk_cell BY.out 1).trans rfl⟩ (fun hHeld => ?_)
     clear hK K
     refine norm_ (by show Act.put _ (some 16) _ = _; simp only [Act.put, sT_, sZ_, sS_, i64_w, i32_w] <;> rfl) ?_
     exact norm_ (by simp only [putAll, Act.put, sT_, sZ_, sS_] <;> rfl) (hJ (ga, gb) _ ⟨hHeld, BX.out, BY.out, BA.out, BB.out, HB.out, LGga.out, LGgb.out, LXga.out, LXgb.out, LYga.out, LYgb.out, LRga.out, LRgb.out, BR.out, NAB.out⟩)
   ·skip
    refine box_step rfl (N := 9) rfl (cs := #[.int .u64 0, .int .u64 0]) (t := 106) ?hr ?_; (case hr => go_simp <;> rfl)
    intro gb hg v12 hbox hb
    have LG := gW_ hg HB.out
    have LX := aA_ ((by rw [hg]; exact Nat.ne_of_gt (blk_lt BX.out)) : gb ≠ w.heap.size)
    have LY := aA_ ((by rw [hg]; exact Nat.ne_of_gt (blk_lt BY.out)) : gb ≠ (w.heap.size + 1))
    have LR := aA_ ((by rw [hg]; exact Nat.ne_of_gt (blk_lt BR.out)) : gb ≠ (w.heap.size + 1 + 1))
    have LGgb := LG
    clear LG
    have LXgb := LX
    clear LX
    have LYgb := LY
    clear LY
    have LRgb := LR
    clear LR
    replace BX := bK_ BX hb
    replace BY := bK_ BY hb
    replace BR := bK_ BR hb
    replace HB := bB_ HB.out hb
    have BB := aA_ hbox
    clear hbox hg
    clear hb
    refine hK.out _ _ ⟨(blk_cell BX.out 0).trans rfl, (blk_cell BX.out 1).trans rfl, (blk_cell BY.out 0).trans rfl, (blk_cell BY.out 1).trans rfl⟩ (fun hHeld => ?_)
    clear hK K
    refine norm_ (by show Act.put _ (some 9) _ = _; simp only [Act.put, sT_, sZ_, sS_, i64_w, i32_w] <;> rfl) ?_
    refine two_ (i := 3) (j := 4) (Ni := some 16) (Nj := some 8) #[true, true, true, true, false, true, false, false] #[true, true, true, false, true, true, false, false] rfl rfl rfl rfl (by kernel_rfl) (by decide) (by decide) (fun K hK => ?_) (fun K hK => ?_)
    ·skip
     refine goes_ Tryd.func72 (by kernel_rfl) rfl #[.agg #[.int .u64 y1, .int .u64 y0]] (by rfl) rfl rfl (by (try simp only [mT_, mC_, mN_]); first | done | rfl) ?_
     with_reducible refine (halves_calls y1 y0 _).mono ?_
     rintro e v13 ⟨rfl, hb⟩
     refine ⟨_, rfl, ?_⟩
     replace BX := bK_ BX hb
     replace BY := bK_ BY hb
     replace BR := bK_ BR hb
     replace BB := bK_ BB hb
     replace HB := bB_ HB.out hb
     clear hb
     refine hK.out _ _ ⟨(blk_cell BX.out 0).trans rfl, (blk_cell BX.out 1).trans rfl, (blk_cell BY.out 0).trans rfl, (blk_cell BY.out 1).trans rfl⟩ (fun hHeld => ?_)
     clear hK K
     refine norm_ (by show Act.put _ (some 16) _ = _; simp only [Act.put, sT_, sZ_, sS_, i64_w, i32_w] <;> rfl) ?_
     refine one_ (i := 4) (N := some 8) #[true, true, true, true, true, true, false, false] rfl rfl (by kernel_rfl) (by decide) (fun K hK => ?_)
     refine box_step rfl (N := 8) rfl (cs := #[.int .u64 0, .int .u64 0]) (t := 106) ?hr ?_; (case hr => go_simp <;> rfl)
     intro ga hg v14 hbox hb
     have LG := gW_ hg HB.out
     have LX := aA_ ((by rw [hg]; exact Nat.ne_of_gt (blk_lt BX.out)) : ga ≠ w.heap.size)
     have LY := aA_ ((by rw [hg]; exact Nat.ne_of_gt (blk_lt BY.out)) : ga ≠ (w.heap.size + 1))
     have LR := aA_ ((by rw [hg]; exact Nat.ne_of_gt (blk_lt BR.out)) : ga ≠ (w.heap.size + 1 + 1))
     have NAB := aA_ ((by rw [hg]; exact Nat.ne_of_gt (blk_lt BB.out)) : ga ≠ gb)
     have LGga := LG
     clear LG
     have LXga := LX
     clear LX
     have LYga := LY
     clear LY
     have LRga := LR
     clear LR
     replace BX := bK_ BX hb
     replace BY := bK_ BY hb
     replace BR := bK_ BR hb
     replace BB := bK_ BB hb
     replace HB := bB_ HB.out hb
     have BA := aA_ hbox
     clear hbox hg
     clear hb
     refine hK.out _ _ ⟨(blk_cell BX.out 0).trans rfl, (blk_cell BX.out 1).trans rfl, (blk_cell BY.out 0).trans rfl, (blk_cell BY.out 1).trans rfl⟩ (fun hHeld => ?_)
     clear hK K
     refine norm_ (by show Act.put _ (some 8) _ = _; simp only [Act.put, sT_, sZ_, sS_, i64_w, i32_w] <;> rfl) ?_
     exact norm_ (by simp only [putAll, Act.put, sT_, sZ_, sS_] <;> rfl) (hJ (ga, gb) _ ⟨hHeld, BX.out, BY.out, BA.out, BB.out, HB.out, LGga.out, LGgb.out, LXga.out, LXgb.out, LYga.out, LYgb.out, LRga.out, LRgb.out, BR.out, NAB.out⟩)
    ·skip
     refine box_step rfl (N := 8) rfl (cs := #[.int .u64 0, .int .u64 0]) (t := 106) ?hr ?_; (case hr => go_simp <;> rfl)
     intro ga hg v15 hbox hb
     have LG := gW_ hg HB.out
     have LX := aA_ ((by rw [hg]; exact Nat.ne_of_gt (blk_lt BX.out)) : ga ≠ w.heap.size)
     have LY := aA_ ((by rw [hg]; exact Nat.ne_of_gt (blk_lt BY.out)) : ga ≠ (w.heap.size + 1))
     have LR := aA_ ((by rw [hg]; exact Nat.ne_of_gt (blk_lt BR.out)) : ga ≠ (w.heap.size + 1 + 1))
     have NAB := aA_ ((by rw [hg]; exact Nat.ne_of_gt (blk_lt BB.out)) : ga ≠ gb)
     have LGga := LG
     clear LG
     have LXga := LX
     clear LX
     have LYga := LY
     clear LY
     have LRga := LR
     clear LR
     replace BX := bK_ BX hb
     replace BY := bK_ BY hb
     replace BR := bK_ BR hb
     replace BB := bK_ BB hb
     replace HB := bB_ HB.out hb
     have BA := aA_ hbox
     clear hbox hg
     clear hb
     refine hK.out _ _ ⟨(blk_cell BX.out 0).trans rfl, (blk_cell BX.out 1).trans rfl, (blk_cell BY.out 0).trans rfl, (blk_cell BY.out 1).trans rfl⟩ (fun hHeld => ?_)
     clear hK K
     refine norm_ (by show Act.put _ (some 8) _ = _; simp only [Act.put, sT_, sZ_, sS_, i64_w, i32_w] <;> rfl) ?_
     refine one_ (i := 3) (N := some 16) #[true, true, true, true, true, true, false, false] rfl rfl (by kernel_rfl) (by decide) (fun K hK => ?_)
     refine goes_ Tryd.func72 (by kernel_rfl) rfl #[.agg #[.int .u64 y1, .int .u64 y0]] (by rfl) rfl rfl (by (try simp only [mT_, mC_, mN_]); first | done | rfl) ?_
     with_reducible refine (halves_calls y1 y0 _).mono ?_
     rintro e v16 ⟨rfl, hb⟩
     refine ⟨_, rfl, ?_⟩
     replace BX := bK_ BX hb
     replace BY := bK_ BY hb
     replace BR := bK_ BR hb
     replace BA := bK_ BA hb
     replace BB := bK_ BB hb
     replace HB := bB_ HB.out hb
     clear hb
     refine hK.out _ _ ⟨(blk_cell BX.out 0).trans rfl, (blk_cell BX.out 1).trans rfl, (blk_cell BY.out 0).trans rfl, (blk_cell BY.out 1).trans rfl⟩ (fun hHeld => ?_)
     clear hK K
     refine norm_ (by show Act.put _ (some 16) _ = _; simp only [Act.put, sT_, sZ_, sS_, i64_w, i32_w] <;> rfl) ?_
     exact norm_ (by simp only [putAll, Act.put, sT_, sZ_, sS_] <;> rfl) (hJ (ga, gb) _ ⟨hHeld, BX.out, BY.out, BA.out, BB.out, HB.out, LGga.out, LGgb.out, LXga.out, LXgb.out, LYga.out, LYgb.out, LRga.out, LRgb.out, BR.out, NAB.out⟩)
  ·skip
   refine box_step rfl (N := 8) rfl (cs := #[.int .u64 0, .int .u64 0]) (t := 106) ?hr ?_; (case hr => go_simp <;> rfl)
   intro ga hg v17 hbox hb
   have LG := gW_ hg HB.out
   have LX := aA_ ((by rw [hg]; exact Nat.ne_of_gt (blk_lt BX.out)) : ga ≠ w.heap.size)
   have LY := aA_ ((by rw [hg]; exact Nat.ne_of_gt (blk_lt BY.out)) : ga ≠ (w.heap.size + 1))
   have LR := aA_ ((by rw [hg]; exact Nat.ne_of_gt (blk_lt BR.out)) : ga ≠ (w.heap.size + 1 + 1))
   have LGga := LG
   clear LG
   have LXga := LX
   clear LX
   have LYga := LY
   clear LY
   have LRga := LR
   clear LR
   replace BX := bK_ BX hb
   replace BY := bK_ BY hb
   replace BR := bK_ BR hb
   replace HB := bB_ HB.out hb
   have BA := aA_ hbox
   clear hbox hg
   clear hb
   refine hK.out _ _ ⟨(blk_cell BX.out 0).trans rfl, (blk_cell BX.out 1).trans rfl, (blk_cell BY.out 0).trans rfl, (blk_cell BY.out 1).trans rfl⟩ (fun hHeld => ?_)
   clear hK K
   refine norm_ (by show Act.put _ (some 8) _ = _; simp only [Act.put, sT_, sZ_, sS_, i64_w, i32_w] <;> rfl) ?_
   refine two_ (i := 1) (j := 5) (Ni := some 14) (Nj := some 9) #[true, true, true, false, true, false, false, false] #[true, false, true, false, true, true, false, false] rfl rfl rfl rfl (by kernel_rfl) (by decide) (by decide) (fun K hK => ?_) (fun K hK => ?_)
   ·skip
    refine goes_ Tryd.func72 (by kernel_rfl) rfl #[.agg #[.int .u64 x1, .int .u64 x0]] (by rfl) rfl rfl (by (try simp only [mT_, mC_, mN_]); first | done | rfl) ?_
    with_reducible refine (halves_calls x1 x0 _).mono ?_
    rintro e v18 ⟨rfl, hb⟩
    refine ⟨_, rfl, ?_⟩
    replace BX := bK_ BX hb
    replace BY := bK_ BY hb
    replace BR := bK_ BR hb
    replace BA := bK_ BA hb
    replace HB := bB_ HB.out hb
    clear hb
    refine hK.out _ _ ⟨(blk_cell BX.out 0).trans rfl, (blk_cell BX.out 1).trans rfl, (blk_cell BY.out 0).trans rfl, (blk_cell BY.out 1).trans rfl⟩ (fun hHeld => ?_)
    clear hK K
    refine norm_ (by show Act.put _ (some 14) _ = _; simp only [Act.put, sT_, sZ_, sS_, i64_w, i32_w] <;> rfl) ?_
    refine two_ (i := 3) (j := 5) (Ni := some 16) (Nj := some 9) #[true, true, true, true, true, false, false, false] #[true, true, true, false, true, true, false, false] rfl rfl rfl rfl (by kernel_rfl) (by decide) (by decide) (fun K hK => ?_) (fun K hK => ?_)
    ·skip
     refine goes_ Tryd.func72 (by kernel_rfl) rfl #[.agg #[.int .u64 y1, .int .u64 y0]] (by rfl) rfl rfl (by (try simp only [mT_, mC_, mN_]); first | done | rfl) ?_
     with_reducible refine (halves_calls y1 y0 _).mono ?_
     rintro e v19 ⟨rfl, hb⟩
     refine ⟨_, rfl, ?_⟩
     replace BX := bK_ BX hb
     replace BY := bK_ BY hb
     replace BR := bK_ BR hb
     replace BA := bK_ BA hb
     replace HB := bB_ HB.out hb
     clear hb
     refine hK.out _ _ ⟨(blk_cell BX.out 0).trans rfl, (blk_cell BX.out 1).trans rfl, (blk_cell BY.out 0).trans rfl, (blk_cell BY.out 1).trans rfl⟩ (fun hHeld => ?_)
     clear hK K
     refine norm_ (by show Act.put _ (some 16) _ = _; simp only [Act.put, sT_, sZ_, sS_, i64_w, i32_w] <;> rfl) ?_
     refine one_ (i := 5) (N := some 9) #[true, true, true, true, true, true, false, false] rfl rfl (by kernel_rfl) (by decide) (fun K hK => ?_)
     refine box_step rfl (N := 9) rfl (cs := #[.int .u64 0, .int .u64 0]) (t := 106) ?hr ?_; (case hr => go_simp <;> rfl)
     intro gb hg v20 hbox hb
     have LG := gW_ hg HB.out
     have LX := aA_ ((by rw [hg]; exact Nat.ne_of_gt (blk_lt BX.out)) : gb ≠ w.heap.size)
     have LY := aA_ ((by rw [hg]; exact Nat.ne_of_gt (blk_lt BY.out)) : gb ≠ (w.heap.size + 1))
     have LR := aA_ ((by rw [hg]; exact Nat.ne_of_gt (blk_lt BR.out)) : gb ≠ (w.heap.size + 1 + 1))
     have NAB := aA_ ((by rw [hg]; exact Nat.ne_of_lt (blk_lt BA.out)) : ga ≠ gb)
     have LGgb := LG
     clear LG
     have LXgb := LX
     clear LX
     have LYgb := LY
     clear LY
     have LRgb := LR
     clear LR
     replace BX := bK_ BX hb
     replace BY := bK_ BY hb
     replace BR := bK_ BR hb
     replace BA := bK_ BA hb
     replace HB := bB_ HB.out hb
     have BB := aA_ hbox
     clear hbox hg
     clear hb
     refine hK.out _ _ ⟨(blk_cell BX.out 0).trans rfl, (blk_cell BX.out 1).trans rfl, (blk_cell BY.out 0).trans rfl, (blk_cell BY.out 1).trans rfl⟩ (fun hHeld => ?_)
     clear hK K
     refine norm_ (by show Act.put _ (some 9) _ = _; simp only [Act.put, sT_, sZ_, sS_, i64_w, i32_w] <;> rfl) ?_
     exact norm_ (by simp only [putAll, Act.put, sT_, sZ_, sS_] <;> rfl) (hJ (ga, gb) _ ⟨hHeld, BX.out, BY.out, BA.out, BB.out, HB.out, LGga.out, LGgb.out, LXga.out, LXgb.out, LYga.out, LYgb.out, LRga.out, LRgb.out, BR.out, NAB.out⟩)
    ·skip
     refine box_step rfl (N := 9) rfl (cs := #[.int .u64 0, .int .u64 0]) (t := 106) ?hr ?_; (case hr => go_simp <;> rfl)
     intro gb hg v21 hbox hb
     have LG := gW_ hg HB.out
     have LX := aA_ ((by rw [hg]; exact Nat.ne_of_gt (blk_lt BX.out)) : gb ≠ w.heap.size)
     have LY := aA_ ((by rw [hg]; exact Nat.ne_of_gt (blk_lt BY.out)) : gb ≠ (w.heap.size + 1))
     have LR := aA_ ((by rw [hg]; exact Nat.ne_of_gt (blk_lt BR.out)) : gb ≠ (w.heap.size + 1 + 1))
     have NAB := aA_ ((by rw [hg]; exact Nat.ne_of_lt (blk_lt BA.out)) : ga ≠ gb)
     have LGgb := LG
     clear LG
     have LXgb := LX
     clear LX
     have LYgb := LY
     clear LY
     have LRgb := LR
     clear LR
     replace BX := bK_ BX hb
     replace BY := bK_ BY hb
     replace BR := bK_ BR hb
     replace BA := bK_ BA hb
     replace HB := bB_ HB.out hb
     have BB := aA_ hbox
     clear hbox hg
     clear hb
     refine hK.out _ _ ⟨(blk_cell BX.out 0).trans rfl, (blk_cell BX.out 1).trans rfl, (blk_cell BY.out 0).trans rfl, (blk_cell BY.out 1).trans rfl⟩ (fun hHeld => ?_)
     clear hK K
     refine norm_ (by show Act.put _ (some 9) _ = _; simp only [Act.put, sT_, sZ_, sS_, i64_w, i32_w] <;> rfl) ?_
     refine one_ (i := 3) (N := some 16) #[true, true, true, true, true, true, false, false] rfl rfl (by kernel_rfl) (by decide) (fun K hK => ?_)
     refine goes_ Tryd.func72 (by kernel_rfl) rfl #[.agg #[.int .u64 y1, .int .u64 y0]] (by rfl) rfl rfl (by (try simp only [mT_, mC_, mN_]); first | done | rfl) ?_
     with_reducible refine (halves_calls y1 y0 _).mono ?_
     rintro e v22 ⟨rfl, hb⟩
     refine ⟨_, rfl, ?_⟩
     replace BX := bK_ BX hb
     replace BY := bK_ BY hb
     replace BR := bK_ BR hb
     replace BA := bK_ BA hb
     replace BB := bK_ BB hb
     replace HB := bB_ HB.out hb
     clear hb
     refine hK.out _ _ ⟨(blk_cell BX.out 0).trans rfl, (blk_cell BX.out 1).trans rfl, (blk_cell BY.out 0).trans rfl, (blk_cell BY.out 1).trans rfl⟩ (fun hHeld => ?_)
     clear hK K
     refine norm_ (by show Act.put _ (some 16) _ = _; simp only [Act.put, sT_, sZ_, sS_, i64_w, i32_w] <;> rfl) ?_
     exact norm_ (by simp only [putAll, Act.put, sT_, sZ_, sS_] <;> rfl) (hJ (ga, gb) _ ⟨hHeld, BX.out, BY.out, BA.out, BB.out, HB.out, LGga.out, LGgb.out, LXga.out, LXgb.out, LYga.out, LYgb.out, LRga.out, LRgb.out, BR.out, NAB.out⟩)
   ·skip
    refine box_step rfl (N := 9) rfl (cs := #[.int .u64 0, .int .u64 0]) (t := 106) ?hr ?_; (case hr => go_simp <;> rfl)
    intro gb hg v23 hbox hb
    have LG := gW_ hg HB.out
    have LX := aA_ ((by rw [hg]; exact Nat.ne_of_gt (blk_lt BX.out)) : gb ≠ w.heap.size)
    have LY := aA_ ((by rw [hg]; exact Nat.ne_of_gt (blk_lt BY.out)) : gb ≠ (w.heap.size + 1))
    have LR := aA_ ((by rw [hg]; exact Nat.ne_of_gt (blk_lt BR.out)) : gb ≠ (w.heap.size + 1 + 1))
    have NAB := aA_ ((by rw [hg]; exact Nat.ne_of_lt (blk_lt BA.out)) : ga ≠ gb)
    have LGgb := LG
    clear LG
    have LXgb := LX
    clear LX
    have LYgb := LY
    clear LY
    have LRgb := LR
    clear LR
    replace BX := bK_ BX hb
    replace BY := bK_ BY hb
    replace BR := bK_ BR hb
    replace BA := bK_ BA hb
    replace HB := bB_ HB.out hb
    have BB := aA_ hbox
    clear hbox hg
    clear hb
    refine hK.out _ _ ⟨(blk_cell BX.out 0).trans rfl, (blk_cell BX.out 1).trans rfl, (blk_cell BY.out 0).trans rfl, (blk_cell BY.out 1).trans rfl⟩ (fun hHeld => ?_)
    clear hK K
    refine norm_ (by show Act.put _ (some 9) _ = _; simp only [Act.put, sT_, sZ_, sS_, i64_w, i32_w] <;> rfl) ?_
    refine one_ (i := 1) (N := some 14) #[true, true, true, false, true, true, false, false] rfl rfl (by kernel_rfl) (by decide) (fun K hK => ?_)
    refine goes_ Tryd.func72 (by kernel_rfl) rfl #[.agg #[.int .u64 x1, .int .u64 x0]] (by rfl) rfl rfl (by (try simp only [mT_, mC_, mN_]); first | done | rfl) ?_
    with_reducible refine (halves_calls x1 x0 _).mono ?_
    rintro e v24 ⟨rfl, hb⟩
    refine ⟨_, rfl, ?_⟩
    replace BX := bK_ BX hb
    replace BY := bK_ BY hb
    replace BR := bK_ BR hb
    replace BA := bK_ BA hb
    replace BB := bK_ BB hb
    replace HB := bB_ HB.out hb
    clear hb
    refine hK.out _ _ ⟨(blk_cell BX.out 0).trans rfl, (blk_cell BX.out 1).trans rfl, (blk_cell BY.out 0).trans rfl, (blk_cell BY.out 1).trans rfl⟩ (fun hHeld => ?_)
    clear hK K
    refine norm_ (by show Act.put _ (some 14) _ = _; simp only [Act.put, sT_, sZ_, sS_, i64_w, i32_w] <;> rfl) ?_
    refine one_ (i := 3) (N := some 16) #[true, true, true, true, true, true, false, false] rfl rfl (by kernel_rfl) (by decide) (fun K hK => ?_)
    refine goes_ Tryd.func72 (by kernel_rfl) rfl #[.agg #[.int .u64 y1, .int .u64 y0]] (by rfl) rfl rfl (by (try simp only [mT_, mC_, mN_]); first | done | rfl) ?_
    with_reducible refine (halves_calls y1 y0 _).mono ?_
    rintro e v25 ⟨rfl, hb⟩
    refine ⟨_, rfl, ?_⟩
    replace BX := bK_ BX hb
    replace BY := bK_ BY hb
    replace BR := bK_ BR hb
    replace BA := bK_ BA hb
    replace BB := bK_ BB hb
    replace HB := bB_ HB.out hb
    clear hb
    refine hK.out _ _ ⟨(blk_cell BX.out 0).trans rfl, (blk_cell BX.out 1).trans rfl, (blk_cell BY.out 0).trans rfl, (blk_cell BY.out 1).trans rfl⟩ (fun hHeld => ?_)
    clear hK K
    refine norm_ (by show Act.put _ (some 16) _ = _; simp only [Act.put, sT_, sZ_, sS_, i64_w, i32_w] <;> rfl) ?_
    exact norm_ (by simp only [putAll, Act.put, sT_, sZ_, sS_] <;> rfl) (hJ (ga, gb) _ ⟨hHeld, BX.out, BY.out, BA.out, BB.out, HB.out, LGga.out, LGgb.out, LXga.out, LXgb.out, LYga.out, LYgb.out, LRga.out, LRgb.out, BR.out, NAB.out⟩)
  ·skip
   refine box_step rfl (N := 9) rfl (cs := #[.int .u64 0, .int .u64 0]) (t := 106) ?hr ?_; (case hr => go_simp <;> rfl)
   intro gb hg v26 hbox hb
   have LG := gW_ hg HB.out
   have LX := aA_ ((by rw [hg]; exact Nat.ne_of_gt (blk_lt BX.out)) : gb ≠ w.heap.size)
   have LY := aA_ ((by rw [hg]; exact Nat.ne_of_gt (blk_lt BY.out)) : gb ≠ (w.heap.size + 1))
   have LR := aA_ ((by rw [hg]; exact Nat.ne_of_gt (blk_lt BR.out)) : gb ≠ (w.heap.size + 1 + 1))
   have LGgb := LG
   clear LG
   have LXgb := LX
   clear LX
   have LYgb := LY
   clear LY
   have LRgb := LR
   clear LR
   replace BX := bK_ BX hb
   replace BY := bK_ BY hb
   replace BR := bK_ BR hb
   replace HB := bB_ HB.out hb
   have BB := aA_ hbox
   clear hbox hg
   clear hb
   refine hK.out _ _ ⟨(blk_cell BX.out 0).trans rfl, (blk_cell BX.out 1).trans rfl, (blk_cell BY.out 0).trans rfl, (blk_cell BY.out 1).trans rfl⟩ (fun hHeld => ?_)
   clear hK K
   refine norm_ (by show Act.put _ (some 9) _ = _; simp only [Act.put, sT_, sZ_, sS_, i64_w, i32_w] <;> rfl) ?_
   refine two_ (i := 1) (j := 4) (Ni := some 14) (Nj := some 8) #[true, true, true, false, false, true, false, false] #[true, false, true, false, true, true, false, false] rfl rfl rfl rfl (by kernel_rfl) (by decide) (by decide) (fun K hK => ?_) (fun K hK => ?_)
   ·skip
    refine goes_ Tryd.func72 (by kernel_rfl) rfl #[.agg #[.int .u64 x1, .int .u64 x0]] (by rfl) rfl rfl (by (try simp only [mT_, mC_, mN_]); first | done | rfl) ?_
    with_reducible refine (halves_calls x1 x0 _).mono ?_
    rintro e v27 ⟨rfl, hb⟩
    refine ⟨_, rfl, ?_⟩
    replace BX := bK_ BX hb
    replace BY := bK_ BY hb
    replace BR := bK_ BR hb
    replace BB := bK_ BB hb
    replace HB := bB_ HB.out hb
    clear hb
    refine hK.out _ _ ⟨(blk_cell BX.out 0).trans rfl, (blk_cell BX.out 1).trans rfl, (blk_cell BY.out 0).trans rfl, (blk_cell BY.out 1).trans rfl⟩ (fun hHeld => ?_)
    clear hK K
    refine norm_ (by show Act.put _ (some 14) _ = _; simp only [Act.put, sT_, sZ_, sS_, i64_w, i32_w] <;> rfl) ?_
    refine two_ (i := 3) (j := 4) (Ni := some 16) (Nj := some 8) #[true, true, true, true, false, true, false, false] #[true, true, true, false, true, true, false, false] rfl rfl rfl rfl (by kernel_rfl) (by decide) (by decide) (fun K hK => ?_) (fun K hK => ?_)
    ·skip
     refine goes_ Tryd.func72 (by kernel_rfl) rfl #[.agg #[.int .u64 y1, .int .u64 y0]] (by rfl) rfl rfl (by (try simp only [mT_, mC_, mN_]); first | done | rfl) ?_
     with_reducible refine (halves_calls y1 y0 _).mono ?_
     rintro e v28 ⟨rfl, hb⟩
     refine ⟨_, rfl, ?_⟩
     replace BX := bK_ BX hb
     replace BY := bK_ BY hb
     replace BR := bK_ BR hb
     replace BB := bK_ BB hb
     replace HB := bB_ HB.out hb
     clear hb
     refine hK.out _ _ ⟨(blk_cell BX.out 0).trans rfl, (blk_cell BX.out 1).trans rfl, (blk_cell BY.out 0).trans rfl, (blk_cell BY.out 1).trans rfl⟩ (fun hHeld => ?_)
     clear hK K
     refine norm_ (by show Act.put _ (some 16) _ = _; simp only [Act.put, sT_, sZ_, sS_, i64_w, i32_w] <;> rfl) ?_
     refine one_ (i := 4) (N := some 8) #[true, true, true, true, true, true, false, false] rfl rfl (by kernel_rfl) (by decide) (fun K hK => ?_)
     refine box_step rfl (N := 8) rfl (cs := #[.int .u64 0, .int .u64 0]) (t := 106) ?hr ?_; (case hr => go_simp <;> rfl)
     intro ga hg v29 hbox hb
     have LG := gW_ hg HB.out
     have LX := aA_ ((by rw [hg]; exact Nat.ne_of_gt (blk_lt BX.out)) : ga ≠ w.heap.size)
     have LY := aA_ ((by rw [hg]; exact Nat.ne_of_gt (blk_lt BY.out)) : ga ≠ (w.heap.size + 1))
     have LR := aA_ ((by rw [hg]; exact Nat.ne_of_gt (blk_lt BR.out)) : ga ≠ (w.heap.size + 1 + 1))
     have NAB := aA_ ((by rw [hg]; exact Nat.ne_of_gt (blk_lt BB.out)) : ga ≠ gb)
     have LGga := LG
     clear LG
     have LXga := LX
     clear LX
     have LYga := LY
     clear LY
     have LRga := LR
     clear LR
     replace BX := bK_ BX hb
     replace BY := bK_ BY hb
     replace BR := bK_ BR hb
     replace BB := bK_ BB hb
     replace HB := bB_ HB.out hb
     have BA := aA_ hbox
     clear hbox hg
     clear hb
     refine hK.out _ _ ⟨(blk_cell BX.out 0).trans rfl, (blk_cell BX.out 1).trans rfl, (blk_cell BY.out 0).trans rfl, (blk_cell BY.out 1).trans rfl⟩ (fun hHeld => ?_)
     clear hK K
     refine norm_ (by show Act.put _ (some 8) _ = _; simp only [Act.put, sT_, sZ_, sS_, i64_w, i32_w] <;> rfl) ?_
     exact norm_ (by simp only [putAll, Act.put, sT_, sZ_, sS_] <;> rfl) (hJ (ga, gb) _ ⟨hHeld, BX.out, BY.out, BA.out, BB.out, HB.out, LGga.out, LGgb.out, LXga.out, LXgb.out, LYga.out, LYgb.out, LRga.out, LRgb.out, BR.out, NAB.out⟩)
    ·skip
     refine box_step rfl (N := 8) rfl (cs := #[.int .u64 0, .int .u64 0]) (t := 106) ?hr ?_; (case hr => go_simp <;> rfl)
     intro ga hg v30 hbox hb
     have LG := gW_ hg HB.out
     have LX := aA_ ((by rw [hg]; exact Nat.ne_of_gt (blk_lt BX.out)) : ga ≠ w.heap.size)
     have LY := aA_ ((by rw [hg]; exact Nat.ne_of_gt (blk_lt BY.out)) : ga ≠ (w.heap.size + 1))
     have LR := aA_ ((by rw [hg]; exact Nat.ne_of_gt (blk_lt BR.out)) : ga ≠ (w.heap.size + 1 + 1))
     have NAB := aA_ ((by rw [hg]; exact Nat.ne_of_gt (blk_lt BB.out)) : ga ≠ gb)
     have LGga := LG
     clear LG
     have LXga := LX
     clear LX
     have LYga := LY
     clear LY
     have LRga := LR
     clear LR
     replace BX := bK_ BX hb
     replace BY := bK_ BY hb
     replace BR := bK_ BR hb
     replace BB := bK_ BB hb
     replace HB := bB_ HB.out hb
     have BA := aA_ hbox
     clear hbox hg
     clear hb
     refine hK.out _ _ ⟨(blk_cell BX.out 0).trans rfl, (blk_cell BX.out 1).trans rfl, (blk_cell BY.out 0).trans rfl, (blk_cell BY.out 1).trans rfl⟩ (fun hHeld => ?_)
     clear hK K
     refine norm_ (by show Act.put _ (some 8) _ = _; simp only [Act.put, sT_, sZ_, sS_, i64_w, i32_w] <;> rfl) ?_
     refine one_ (i := 3) (N := some 16) #[true, true, true, true, true, true, false, false] rfl rfl (by kernel_rfl) (by decide) (fun K hK => ?_)
     refine goes_ Tryd.func72 (by kernel_rfl) rfl #[.agg #[.int .u64 y1, .int .u64 y0]] (by rfl) rfl rfl (by (try simp only [mT_, mC_, mN_]); first | done | rfl) ?_
     with_reducible refine (halves_calls y1 y0 _).mono ?_
     rintro e v31 ⟨rfl, hb⟩
     refine ⟨_, rfl, ?_⟩
     replace BX := bK_ BX hb
     replace BY := bK_ BY hb
     replace BR := bK_ BR hb
     replace BA := bK_ BA hb
     replace BB := bK_ BB hb
     replace HB := bB_ HB.out hb
     clear hb
     refine hK.out _ _ ⟨(blk_cell BX.out 0).trans rfl, (blk_cell BX.out 1).trans rfl, (blk_cell BY.out 0).trans rfl, (blk_cell BY.out 1).trans rfl⟩ (fun hHeld => ?_)
     clear hK K
     refine norm_ (by show Act.put _ (some 16) _ = _; simp only [Act.put, sT_, sZ_, sS_, i64_w, i32_w] <;> rfl) ?_
     exact norm_ (by simp only [putAll, Act.put, sT_, sZ_, sS_] <;> rfl) (hJ (ga, gb) _ ⟨hHeld, BX.out, BY.out, BA.out, BB.out, HB.out, LGga.out, LGgb.out, LXga.out, LXgb.out, LYga.out, LYgb.out, LRga.out, LRgb.out, BR.out, NAB.out⟩)
   ·skip
    refine box_step rfl (N := 8) rfl (cs := #[.int .u64 0, .int .u64 0]) (t := 106) ?hr ?_; (case hr => go_simp <;> rfl)
    intro ga hg v32 hbox hb
    have LG := gW_ hg HB.out
    have LX := aA_ ((by rw [hg]; exact Nat.ne_of_gt (blk_lt BX.out)) : ga ≠ w.heap.size)
    have LY := aA_ ((by rw [hg]; exact Nat.ne_of_gt (blk_lt BY.out)) : ga ≠ (w.heap.size + 1))
    have LR := aA_ ((by rw [hg]; exact Nat.ne_of_gt (blk_lt BR.out)) : ga ≠ (w.heap.size + 1 + 1))
    have NAB := aA_ ((by rw [hg]; exact Nat.ne_of_gt (blk_lt BB.out)) : ga ≠ gb)
    have LGga := LG
    clear LG
    have LXga := LX
    clear LX
    have LYga := LY
    clear LY
    have LRga := LR
    clear LR
    replace BX := bK_ BX hb
    replace BY := bK_ BY hb
    replace BR := bK_ BR hb
    replace BB := bK_ BB hb
    replace HB := bB_ HB.out hb
    have BA := aA_ hbox
    clear hbox hg
    clear hb
    refine hK.out _ _ ⟨(blk_cell BX.out 0).trans rfl, (blk_cell BX.out 1).trans rfl, (blk_cell BY.out 0).trans rfl, (blk_cell BY.out 1).trans rfl⟩ (fun hHeld => ?_)
    clear hK K
    refine norm_ (by show Act.put _ (some 8) _ = _; simp only [Act.put, sT_, sZ_, sS_, i64_w, i32_w] <;> rfl) ?_
    refine one_ (i := 1) (N := some 14) #[true, true, true, false, true, true, false, false] rfl rfl (by kernel_rfl) (by decide) (fun K hK => ?_)
    refine goes_ Tryd.func72 (by kernel_rfl) rfl #[.agg #[.int .u64 x1, .int .u64 x0]] (by rfl) rfl rfl (by (try simp only [mT_, mC_, mN_]); first | done | rfl) ?_
    with_reducible refine (halves_calls x1 x0 _).mono ?_
    rintro e v33 ⟨rfl, hb⟩
    refine ⟨_, rfl, ?_⟩
    replace BX := bK_ BX hb
    replace BY := bK_ BY hb
    replace BR := bK_ BR hb
    replace BA := bK_ BA hb
    replace BB := bK_ BB hb
    replace HB := bB_ HB.out hb
    clear hb
    refine hK.out _ _ ⟨(blk_cell BX.out 0).trans rfl, (blk_cell BX.out 1).trans rfl, (blk_cell BY.out 0).trans rfl, (blk_cell BY.out 1).trans rfl⟩ (fun hHeld => ?_)
    clear hK K
    refine norm_ (by show Act.put _ (some 14) _ = _; simp only [Act.put, sT_, sZ_, sS_, i64_w, i32_w] <;> rfl) ?_
    refine one_ (i := 3) (N := some 16) #[true, true, true, true, true, true, false, false] rfl rfl (by kernel_rfl) (by decide) (fun K hK => ?_)
    refine goes_ Tryd.func72 (by kernel_rfl) rfl #[.agg #[.int .u64 y1, .int .u64 y0]] (by rfl) rfl rfl (by (try simp only [mT_, mC_, mN_]); first | done | rfl) ?_
    with_reducible refine (halves_calls y1 y0 _).mono ?_
    rintro e v34 ⟨rfl, hb⟩
    refine ⟨_, rfl, ?_⟩
    replace BX := bK_ BX hb
    replace BY := bK_ BY hb
    replace BR := bK_ BR hb
    replace BA := bK_ BA hb
    replace BB := bK_ BB hb
    replace HB := bB_ HB.out hb
    clear hb
    refine hK.out _ _ ⟨(blk_cell BX.out 0).trans rfl, (blk_cell BX.out 1).trans rfl, (blk_cell BY.out 0).trans rfl, (blk_cell BY.out 1).trans rfl⟩ (fun hHeld => ?_)
    clear hK K
    refine norm_ (by show Act.put _ (some 16) _ = _; simp only [Act.put, sT_, sZ_, sS_, i64_w, i32_w] <;> rfl) ?_
    exact norm_ (by simp only [putAll, Act.put, sT_, sZ_, sS_] <;> rfl) (hJ (ga, gb) _ ⟨hHeld, BX.out, BY.out, BA.out, BB.out, HB.out, LGga.out, LGgb.out, LXga.out, LXgb.out, LYga.out, LYgb.out, LRga.out, LRgb.out, BR.out, NAB.out⟩)
 rintro ⟨ga, gb⟩ W2 ⟨hHeld, bx, byy, ba, bb, hB, lga, lgb, lxa, lxb, lya, lyb, lra, lrb, bR, nab⟩
 have BA := aA_ ba
 have BB := aA_ bb
 have HB := aA_ hB
 have BR := aA_ bR
 clear BX BY ba bb hB bR bx byy
 refine norm_ (a' := ?_) ?_ ?_
 rotate_left
 ·simp only [putAll, Act.put, sT_, sZ_, sS_]
  rfl
 refine one_ (i := 6) (N := none) #[true, true, true, true, true, true, true, false] rfl rfl (by kernel_rfl) (by decide) (fun K hK => ?_)
 have hs0 : _ = some (Value.int .u64 0) := (blk_cell BA.out 0).trans rfl
 have hf0 := blk_frozen BA.out 0
 have hs1 : _ = some (Value.int .u64 0) := (blk_cell BA.out 1).trans rfl
 have hf1 := blk_frozen BA.out 1
 refine skip_ (w1 := ?_) (by rfl) rfl ?_ ?_
 rotate_left
 ·go_simp
  rfl
 clear hs0 hs1 hf0 hf1
 refine hK.out _ _ ⟨((cell_far (p := ⟨ga, _, none⟩) lxa.symm _).trans ((cell_far (p := ⟨ga, _, none⟩) lxa.symm _).trans hHeld.1)), ((cell_far (p := ⟨ga, _, none⟩) lxa.symm _).trans ((cell_far (p := ⟨ga, _, none⟩) lxa.symm _).trans hHeld.2.1)), ((cell_far (p := ⟨ga, _, none⟩) lya.symm _).trans ((cell_far (p := ⟨ga, _, none⟩) lya.symm _).trans hHeld.2.2.1)), ((cell_far (p := ⟨ga, _, none⟩) lya.symm _).trans ((cell_far (p := ⟨ga, _, none⟩) lya.symm _).trans hHeld.2.2.2))⟩ (fun hHeld => ?_)
 clear hK K
 replace BA := aA_ (blk_put (cs := #[.int .u64 x0, .int .u64 0]) (cs' := #[.int .u64 x0, .int .u64 x1]) (blk_put (cs := #[.int .u64 0, .int .u64 0]) BA.out 0 (.int .u64 x0) rfl) 1 (.int .u64 x1) rfl)
 replace BB := aA_ (blk_far (p := ⟨ga, 1, none⟩) (blk_far (p := ⟨ga, 0, none⟩) BB.out nab.symm (.int .u64 x0)) nab.symm (.int .u64 x1))
 replace BR := aA_ (blk_far (p := ⟨ga, 1, none⟩) (blk_far (p := ⟨ga, 0, none⟩) BR.out lra.symm (.int .u64 x0)) lra.symm (.int .u64 x1))
 replace HB := aA_ (below_set (j := 1) (v := .int .u64 x1) (below_set (j := 0) (v := .int .u64 x0) HB.out lga) lga)
 generalize hW6 : World.setCell (World.setCell _ ⟨ga, 0, none⟩ (.int .u64 x0)) ⟨ga, 1, none⟩ (.int .u64 x1) = Z6 at BA BB BR HB hHeld ⊢
 clear hW6
 refine one_ (i := 7) (N := none) #[true, true, true, true, true, true, true, true] rfl rfl (by kernel_rfl) (by decide) (fun K hK => ?_)
 have hs0 : _ = some (Value.int .u64 0) := (blk_cell BB.out 0).trans rfl
 have hf0 := blk_frozen BB.out 0
 have hs1 : _ = some (Value.int .u64 0) := (blk_cell BB.out 1).trans rfl
 have hf1 := blk_frozen BB.out 1
 refine skip_ (w1 := ?_) (by rfl) rfl ?_ ?_
 rotate_left
 ·go_simp
  rfl
 clear hs0 hs1 hf0 hf1
 refine hK.out _ _ ⟨((cell_far (p := ⟨gb, _, none⟩) lxb.symm _).trans ((cell_far (p := ⟨gb, _, none⟩) lxb.symm _).trans hHeld.1)), ((cell_far (p := ⟨gb, _, none⟩) lxb.symm _).trans ((cell_far (p := ⟨gb, _, none⟩) lxb.symm _).trans hHeld.2.1)), ((cell_far (p := ⟨gb, _, none⟩) lyb.symm _).trans ((cell_far (p := ⟨gb, _, none⟩) lyb.symm _).trans hHeld.2.2.1)), ((cell_far (p := ⟨gb, _, none⟩) lyb.symm _).trans ((cell_far (p := ⟨gb, _, none⟩) lyb.symm _).trans hHeld.2.2.2))⟩ (fun hHeld => ?_)
 clear hK K
 replace BB := aA_ (blk_put (cs := #[.int .u64 y0, .int .u64 0]) (cs' := #[.int .u64 y0, .int .u64 y1]) (blk_put (cs := #[.int .u64 0, .int .u64 0]) BB.out 0 (.int .u64 y0) rfl) 1 (.int .u64 y1) rfl)
 replace BA := aA_ (blk_far (p := ⟨gb, 1, none⟩) (blk_far (p := ⟨gb, 0, none⟩) BA.out nab (.int .u64 y0)) nab (.int .u64 y1))
 replace BR := aA_ (blk_far (p := ⟨gb, 1, none⟩) (blk_far (p := ⟨gb, 0, none⟩) BR.out lrb.symm (.int .u64 y0)) lrb.symm (.int .u64 y1))
 replace HB := aA_ (below_set (j := 1) (v := .int .u64 y1) (below_set (j := 0) (v := .int .u64 y0) HB.out lgb) lgb)
 generalize hW7 : World.setCell (World.setCell _ ⟨gb, 0, none⟩ (.int .u64 y0)) ⟨gb, 1, none⟩ (.int .u64 y1) = Z7 at BA BB BR HB hHeld ⊢
 clear hW7
 refine done_ (by kernel_rfl) ?_
 clear hHeld
 go_wp2_with (fail)
 have BO := aA_ (blk_new Z7 (.cells #[.int .u64 0, .int .u64 0] 106 (0, 0)))
 have NA := aA_ (Nat.ne_of_lt (blk_lt BA.out))
 have NB := aA_ (Nat.ne_of_lt (blk_lt BB.out))
 have NR := aA_ (Nat.ne_of_lt (blk_lt BR.out))
 have GO := aA_ HB.out.size
 replace BA := aA_ (blk_alloc BA.out (.cells #[.int .u64 0, .int .u64 0] 106 (0, 0)))
 replace BB := aA_ (blk_alloc BB.out (.cells #[.int .u64 0, .int .u64 0] 106 (0, 0)))
 replace BR := aA_ (blk_alloc BR.out (.cells #[.int .u64 0, .int .u64 0] 106 (0, 0)))
 replace HB := aA_ (below_alloc HB.out (.cells #[.int .u64 0, .int .u64 0] 106 (0, 0)))
 generalize Z7.heap.size = go at BO NA NB NR GO ⊢
 generalize Z7.alloc (.cells #[.int .u64 0, .int .u64 0] 106 (0, 0)) = Z8 at BO BA BB BR HB ⊢
 have ca0 : Z8.cell? ⟨ga, 0, none⟩ = some (.int .u64 x0) := (blk_cell BA.out 0).trans rfl
 have cb0 : Z8.cell? ⟨gb, 0, none⟩ = some (.int .u64 y0) := (blk_cell BB.out 0).trans rfl
 have co0 : Z8.cell? ⟨go, 0, none⟩ = some (.int .u64 0) := (blk_cell BO.out 0).trans rfl
 have fo0 := blk_frozen BO.out 0
 refine wp_loop_rounds 3 ?_
 rw [rounds_succ]
 go_wp2
 go_region
 go_wp2
 rw [rounds_succ]
 clear ca0 cb0 co0 fo0
 replace BA := aA_ (blk_drew (blk_far (p := ⟨go, 0, none⟩) BA.out NA.out (.int .u64 a)))
 replace BB := aA_ (blk_drew (blk_far (p := ⟨go, 0, none⟩) BB.out NB.out (.int .u64 a)))
 replace BR := aA_ (blk_drew (blk_far (p := ⟨go, 0, none⟩) BR.out NR.out (.int .u64 a)))
 replace BO := aA_ (blk_drew (blk_put (cs := #[.int .u64 0, .int .u64 0]) (cs' := #[.int .u64 a, .int .u64 0]) BO.out 0 (.int .u64 a) rfl))
 replace HB := aA_ (below_drew1 (below_set (j := 0) (v := .int .u64 a) HB.out GO.out))
 go_wp2
 generalize (World.setCell Z8 ⟨go, 0, none⟩ (.int .u64 a)).drew = Z9 at BA BB BR BO HB ⊢
 have ca1 : Z9.cell? ⟨ga, 1, none⟩ = some (.int .u64 x1) := (blk_cell BA.out 1).trans rfl
 have cb1 : Z9.cell? ⟨gb, 1, none⟩ = some (.int .u64 y1) := (blk_cell BB.out 1).trans rfl
 have co1 : Z9.cell? ⟨go, 1, none⟩ = some (.int .u64 0) := (blk_cell BO.out 1).trans rfl
 have fo1 := blk_frozen BO.out 1
 go_region
 go_wp2
 rw [rounds_succ]
 clear ca1 cb1 co1 fo1
 replace BR := aA_ (blk_drew (blk_far (p := ⟨go, 1, none⟩) BR.out NR.out (.int .u64 c)))
 replace BO := aA_ (blk_drew (blk_put (cs := #[.int .u64 a, .int .u64 0]) (cs' := #[.int .u64 a, .int .u64 c]) BO.out 1 (.int .u64 c) rfl))
 replace HB := aA_ (below_drew1 (below_set (j := 1) (v := .int .u64 c) HB.out GO.out))
 clear BA BB
 generalize (World.setCell Z9 ⟨go, 1, none⟩ (.int .u64 c)).drew = Z10 at BR BO HB ⊢
 have co0 : Z10.cell? ⟨go, 0, none⟩ = some (.int .u64 a) := (blk_cell BO.out 0).trans rfl
 have co1 : Z10.cell? ⟨go, 1, none⟩ = some (.int .u64 c) := (blk_cell BO.out 1).trans rfl
 have cr0 : Z10.cell? ⟨w.heap.size + 1 + 1, 0, none⟩ = some (.int .u64 0) := (blk_cell BR.out 0).trans rfl
 have cr1 : Z10.cell? ⟨w.heap.size + 1 + 1, 1, none⟩ = some (.int .u64 0) := (blk_cell BR.out 1).trans rfl
 have fr0 := blk_frozen BR.out 0
 have fr1 := blk_frozen BR.out 1
 go_wp2
 refine bodyPost_ret (results_ct rfl _ _ (w.heap.size + 1 + 1) 72 #[.int .u64 c, .int .u64 a] (0, 0) _ rfl (blk_put (blk_put BR.out 0 _ rfl) 1 _ rfl) hu rfl (by kernel_rfl)) rfl ⟨rfl, below_set (below_set HB.out (by omega)) (by omega)⟩

set_option maxHeartbeats 8000000 in
set_option maxRecDepth 100000 in
theorem told_true (x1 x0 : Nat) (w : World) :
  Calls Tryd.prog 62 #[.agg #[.int .u64 x1, .int .u64 x0], .bool true] w fun e w' => e = .returned (.tuple #[.agg #[.int .u64 x1, .int .u64 x0], .int .i64 0]) ∧ Below w.heap.size w w' := by
 have hu := Tryd.underlying72
 go_enter Tryd.func62, Tryd.ntmps62
 go_wp2
 refine bodyPost_ret (results_ct rfl _ _ (w.heap.size + 1) 72 #[.int .u64 x1, .int .u64 x0] (0, 0) _ rfl (alloc_at _ _ _ (by simp)) hu rfl (by kernel_rfl)) rfl ⟨rfl, below_alloc (below_alloc (Below.refl _ _) _) _⟩
set_option maxHeartbeats 8000000 in
set_option maxRecDepth 100000 in
theorem told_false (x1 x0 : Nat) (w : World) :
  Calls Tryd.prog 62 #[.agg #[.int .u64 x1, .int .u64 x0], .bool false] w fun e w' => e = .returned (.tuple #[.agg #[.int .u64 0, .int .u64 0], .int .i64 6]) ∧ Below w.heap.size w w' := by
 have hu := Tryd.underlying72
 go_enter Tryd.func62, Tryd.ntmps62
 go_wp2
 refine bodyPost_ret (results_ct rfl _ _ (w.heap.size + 1) 72 #[.int .u64 0, .int .u64 0] (0, 0) _ rfl (alloc_at _ _ _ (by simp)) hu rfl (by kernel_rfl)) rfl ⟨rfl, below_alloc (below_alloc (Below.refl _ _) _) _⟩

set_option maxHeartbeats 8000000 in
set_option maxRecDepth 100000 in
theorem wide_add_walk (x1 x0 y1 y0 : Nat) (a b c d : Nat) (t1 t0 : Nat) (e0 : Int) (w : World)
  (h0 : ∀ W, (callFunc 64 #[.int .u64 x0, .int .u64 y0, .int .u64 0]).run Tryd.prog W = .ok (.value (.tuple #[.int .u64 a, .int .u64 b])) W)
  (h1 : ∀ W, (callFunc 64 #[.int .u64 x1, .int .u64 y1, .int .u64 b]).run Tryd.prog W = .ok (.value (.tuple #[.int .u64 c, .int .u64 d])) W)
  (ht : ∀ W, Calls Tryd.prog 62 #[.agg #[.int .u64 c, .int .u64 a], .bool ((d : Int) == 0)] W fun e w' => e = .returned (.tuple #[.agg #[.int .u64 t1, .int .u64 t0], .int .i64 e0]) ∧ Below W.heap.size W w') :
  Calls Tryd.prog 49 #[.agg #[.int .u64 x1, .int .u64 x0], .agg #[.int .u64 y1, .int .u64 y0]] w fun e w' => e = .returned (.tuple #[.agg #[.int .u64 t1, .int .u64 t0], .int .i64 e0]) ∧ Below w.heap.size w w' := by
 have hu := Tryd.underlying72
 have HE := fun W => each_calls 64 x1 x0 y1 y0 a b c d W h0 h1
 have HE' := aA_ HE
 have HT := aA_ ht
 clear HE h0 h1 ht
 go_enter Tryd.func49, Tryd.ntmps49
 go_wp2_with (fail)
 have hB : Below w.heap.size w (((w.alloc (.cells #[.int .u64 x1, .int .u64 x0] 72)).alloc (.cells #[.int .u64 y1, .int .u64 y0] 72)).alloc (.cells #[.int .u64 0, .int .u64 0] 72)) := below_alloc (below_alloc (below_alloc (Below.refl _ _) _) _) _
 have bR : (((w.alloc (.cells #[.int .u64 x1, .int .u64 x0] 72)).alloc (.cells #[.int .u64 y1, .int .u64 y0] 72)).alloc (.cells #[.int .u64 0, .int .u64 0] 72)).heap[w.heap.size + 1 + 1]? = some (.cells #[.int .u64 0, .int .u64 0] 72 (0, 0)) := alloc_at _ _ _ (by simp)
 refine (HE'.out _).mono ?_
 rintro e w1 ⟨rfl, hb⟩
 have BR := aA_ (blk_below bR hb)
 have HB := aA_ (below_step hB hb)
 clear hB bR hb
 go_wp2_with (fail)
 refine (HT.out _).mono ?_
 rintro e w2 ⟨rfl, hb⟩
 replace BR := bK_ BR hb
 replace HB := bB_ HB.out hb
 have cr0 : w2.cell? ⟨w.heap.size + 1 + 1, 0, none⟩ = some (.int .u64 0) := (blk_cell BR.out 0).trans rfl
 have cr1 : w2.cell? ⟨w.heap.size + 1 + 1, 1, none⟩ = some (.int .u64 0) := (blk_cell BR.out 1).trans rfl
 have fr0 := blk_frozen BR.out 0
 have fr1 := blk_frozen BR.out 1
 clear hb
 go_wp2
 refine bodyPost_ret (results_ct rfl _ _ (w.heap.size + 1 + 1) 72 #[.int .u64 t1, .int .u64 t0] (0, 0) _ rfl (blk_put (blk_put BR.out 0 _ rfl) 1 _ rfl) hu rfl (by kernel_rfl)) rfl ⟨rfl, below_set (below_set HB.out (by omega)) (by omega)⟩

def wv (h l : Int) : Int := h * 18446744073709551616 + l
def wide_Add.f (a0_0 a0_1 a1_0 a1_1 : Int) : Option (Int × Int × Int) :=
 if (U64 a0_0 ∧ U64 a0_1) ∧ U64 a1_0 ∧ U64 a1_1 then
  if wv a0_0 a0_1 + wv a1_0 a1_1 < 340282366920938463463374607431768211456 then some ((wv a0_0 a0_1 + wv a1_0 a1_1) / 18446744073709551616, (wv a0_0 a0_1 + wv a1_0 a1_1) % 18446744073709551616, 0) else some (0, 0, 6)
 else none

theorem wide_Add.calls (a0_0 : Int) (a0_1 : Int) (a1_0 : Int) (a1_1 : Int) (r1 : Int) (r2 : Int) (r3 : Int) (w : World) (h : wide_Add.f a0_0 a0_1 a1_0 a1_1 = some (r1, r2, r3)) :
  Calls Tryd.prog 49 #[.agg #[.int .u64 a0_0, .int .u64 a0_1], .agg #[.int .u64 a1_0, .int .u64 a1_1]] w fun e w' => e = .returned (.tuple #[.agg #[.int .u64 r1, .int .u64 r2], .int .i64 r3]) ∧ Below w.heap.size w w' := by
 unfold wide_Add.f wv at h
 split at h
 case isFalse => cases h
 rename_i hu
 obtain ⟨⟨⟨p1, p2⟩, p3, p4⟩, ⟨p5, p6⟩, p7, p8⟩ := hu
 obtain ⟨x1, rfl⟩ := Int.eq_ofNat_of_zero_le p1
 obtain ⟨x0, rfl⟩ := Int.eq_ofNat_of_zero_le p3
 obtain ⟨y1, rfl⟩ := Int.eq_ofNat_of_zero_le p5
 obtain ⟨y0, rfl⟩ := Int.eq_ofNat_of_zero_le p7
 have hb : (x0 + y0 + 0) / 18446744073709551616 ≤ 1 := by omega
 split at h
 ·rename_i hlt
  simp only [Option.some.injEq, Prod.mk.injEq] at h
  obtain ⟨rfl, rfl, rfl⟩ := h
  have hd : (x1 + y1 + (x0 + y0 + 0) / 18446744073709551616) / 18446744073709551616 = 0 := by omega
  refine (wide_add_walk x1 x0 y1 y0 _ _ _ _ ((x1 + y1 + (x0 + y0 + 0) / 18446744073709551616) % 18446744073709551616) ((x0 + y0 + 0) % 18446744073709551616) 0 w (fun W => add64_run x0 y0 0 (by omega) W) (fun W => add64_run x1 y1 _ hb W) (fun W => ?_)).mono ?_
  ·rw [hd]
   exact told_true _ _ W
  ·rintro e w' ⟨rfl, hB⟩
   have e1 : (((x1 + y1 + (x0 + y0 + 0) / 18446744073709551616) % 18446744073709551616 : Nat) : Int) = ((x1 : Int) * 18446744073709551616 + x0 + ((y1 : Int) * 18446744073709551616 + y0)) / 18446744073709551616 := by omega
   have e2 : (((x0 + y0 + 0) % 18446744073709551616 : Nat) : Int) = ((x1 : Int) * 18446744073709551616 + x0 + ((y1 : Int) * 18446744073709551616 + y0)) % 18446744073709551616 := by omega
   exact ⟨by rw [e1, e2], hB⟩
 ·rename_i hlt
  simp only [Option.some.injEq, Prod.mk.injEq] at h
  obtain ⟨rfl, rfl, rfl⟩ := h
  have hd : ((((x1 + y1 + (x0 + y0 + 0) / 18446744073709551616) / 18446744073709551616 : Nat) : Int) == 0) = false := beq_eq_false_iff_ne.mpr (by omega)
  refine (wide_add_walk x1 x0 y1 y0 _ _ _ _ 0 0 6 w (fun W => add64_run x0 y0 0 (by omega) W) (fun W => add64_run x1 y1 _ hb W) (fun W => ?_)).mono ?_
  ·rw [hd]
   exact told_false _ _ W
  ·rintro e w' ⟨rfl, hB⟩
   exact ⟨rfl, hB⟩

end Go.Proofs.YtbapgkopilmdfaaDoor.X
