-- cut by prune.py, a program of this session
import Derived.Test.YtbapgkopilmdfaaDoorPActualMovesX0
import Derived.Test.YtbapgkopilmdfaaDoorPActualMovesHBits
namespace Go.Proofs.YtbapgkopilmdfaaDoor.X
open Go.RowKit Go.Proofs.YtbapgkopilmdfaaDoorW.PrintWords Go.Proofs.YtbapgkopilmdfaaDoorW.PrintLast Go.Proofs.YtbapgkopilmdfaaDoorW.PrintMore
attribute [local go_sem] max2_int min2_int max_two min_two
set_option linter.unusedVariables false
set_option linter.unusedSimpArgs false

def wide_Mul.f (a0 : Int) (a1 : Int) : Option (Int × Int) := (bits_Mul64.f a0 a1).bind fun bt1824 => (some (bt1824.1, bt1824.2))
set_option maxHeartbeats 8000000 in
set_option maxRecDepth 100000 in
theorem wide_Mul.calls (a0 : Int) (a1 : Int) (r1 : Int) (r2 : Int) (w : World) (h : wide_Mul.f a0 a1 = some (r1, r2)) :
  Calls Tryd.prog 50 #[.int .u64 a0, .int .u64 a1] w fun e w' => e = .returned (.agg #[.int .u64 r1, .int .u64 r2]) ∧ Below w.heap.size w w' := by
 have hu72 := Tryd.underlying72
 have HB := aA_ (Below.refl w.heap.size w)
 have H : ((bits_Mul64.f a0 a1).bind fun bt1824 => (some (bt1824.1, bt1824.2))) = some (r1, r2) := h
 clear h
 replace H := bI_ H
 obtain ⟨⟨t1824, t1825⟩, A30, H⟩ := H
 (try dsimp only at H)
 have A3 := aA_ A30
 clear A30
 simp only [Option.some.injEq, Prod.mk.injEq] at H
 obtain ⟨rfl, rfl⟩ := H
 go_enter Tryd.func50, Tryd.ntmps50
 go_wp2_with (first | (refine box_event rfl (N := 4) rfl (cs := #[.int .u64 0, .int .u64 0]) (t := 72) ?hr ?_; (case hr => go_simp <;> rfl); intro gb1823 hg w4 hbox hb; have BK1823 := aA_ (hbox); have GW1823 := gW_ hg (by repeat (with_reducible first | exact HB.out | apply bA_ | apply bN_ | apply bD_)); have GE1823 := GW1823; replace HB := bB_ (by repeat (with_reducible first | exact HB.out | apply bA_ | apply bN_ | apply bD_)) hb; clear hb hbox hg) | (refine goesL_ (some 10) rfl rfl Tryd.func65 (by kernel_rfl) rfl #[.int .u64 a0, .int .u64 a1] rfl (by (try simp only [mT_, mC_, mN_]); first | done | rfl) ?_; (with_reducible refine (bits_Mul64.calls a0 a1 t1824 t1825 _ A3.out).mono ?_); rintro e w' ⟨rfl, ⟨nd, rfl⟩⟩; refine ⟨_, rfl, ?_⟩; (try (rw [drewN_self w4]; generalize hq_ : World.drewN w4 _ = w4; have n0_ : Aside0 (w4.heap[gb1823]? = some (.cells #[.int .u64 0, .int .u64 0] 72 (0, 0))) := ⟨by rw [← hq_]; exact BK1823.out⟩; have n1_ : Aside0 (Below w.heap.size w w4) := ⟨by rw [← hq_]; exact (by repeat (with_reducible first | exact HB.out | apply bA_ | apply bN_ | apply bD_ | refine bS_ ?_ GE1823.out))⟩; clear BK1823 HB hq_; have BK1823 := n0_; have HB := n1_; clear n0_ n1_)); have hcz5_0 : w4.cell? ⟨gb1823, 0, none⟩ = some (.int .u64 0) := (blk_cell BK1823.out 0).trans rfl; have hcz5_1 : w4.cell? ⟨gb1823, 1, none⟩ = some (.int .u64 0) := (blk_cell BK1823.out 1).trans rfl; have hfz5_0 := blk_frozen BK1823.out 0; have hfz5_1 := blk_frozen BK1823.out 1))
 refine bodyPost_ret (results_cell_row rfl _ _ gb1823 72 #[.int .u64 t1824, .int .u64 t1825] (0, 0) _ rfl (by refine blk_put (cs := #[.int .u64 t1824, .int .u64 0]) ?_ 1 _ rfl; refine blk_put (cs := #[.int .u64 0, .int .u64 0]) ?_ 0 _ rfl; exact BK1823.out) Tryd.underlying72 rfl (by kernel_rfl)) rfl ?_
 exact ⟨by rfl, by repeat (with_reducible first | exact HB.out | apply bA_ | apply bN_ | apply bD_ | refine bS_ ?_ GE1823.out)⟩

end Go.Proofs.YtbapgkopilmdfaaDoor.X
