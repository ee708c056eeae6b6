-- cut by prune.py, a program of this session
import Derived.Test.YtbapgkopilmdfaaDoorPActualMovesX0
import Derived.Test.YtbapgkopilmdfaaDoorPActualMovesXRefFour
namespace Go.Proofs.YtbapgkopilmdfaaDoor.X
open Go.RowKit Go.Proofs.YtbapgkopilmdfaaDoorW.PrintWords Go.Proofs.YtbapgkopilmdfaaDoorW.PrintLast Go.Proofs.YtbapgkopilmdfaaDoorW.PrintMore
attribute [local go_sem] max2_int min2_int max_two min_two
set_option linter.unusedVariables false
set_option linter.unusedSimpArgs false

def demurragelaw08_day.f (k : Nat) (a0 : Int) (a1 : Int) (a2 : Int) : Option (Int) := (demurrageref04_Number.f k a0 a1 a2).bind fun bt112 => (some bt112.1)
theorem demurragelaw08_day.mono : ∀ a0 a1 a2 k, LeO (demurragelaw08_day.f k a0 a1 a2) (demurragelaw08_day.f (k + 1) a0 a1 a2) := by
 intro a0 a1 a2 k
 unfold demurragelaw08_day.f
 repeat' first
   | (with_reducible exact demurrageref04_Number.mono _ _ _ _)
   | (with_reducible exact LeO.refl _)
   | (with_reducible exact LeO.none _)
   | (with_reducible refine LeO.ite ?_ ?_)
   | (with_reducible refine LeO.bind ?_ (fun _ => ?_))
   | exact demurrageref04_Number.mono _ _ _ _
   | exact LeO.none _
   | refine LeO.ite ?_ ?_
   | refine LeO.bind ?_ (fun _ => ?_)
set_option maxHeartbeats 8000000 in
set_option maxRecDepth 100000 in
theorem demurragelaw08_day.calls (k : Nat) (a0 : Int) (a1 : Int) (a2 : Int) (r : Int) (w : World) (h : demurragelaw08_day.f k a0 a1 a2 = some r) :
  Calls Tryd.prog 17 #[.int .i64 a0, .int .i64 a1, .int .i64 a2] w fun e w' => e = .returned (.int .i64 r) ∧ Below w.heap.size w w' := by
 have hu41 := Tryd.underlying41
 have HB := aA_ (Below.refl w.heap.size w)
 have H : ((demurrageref04_Number.f k a0 a1 a2).bind fun bt112 => (some bt112.1)) = some r := h
 clear h
 replace H := bI_ H
 obtain ⟨⟨t112, t113⟩, A40, H⟩ := H
 (try dsimp only at H)
 have A4 := aA_ A40
 clear A40
 obtain rfl := Option.some.inj H
 go_enter Tryd.func17, Tryd.ntmps17
 go_wp2_with (first | (refine goesL_ (some 14) rfl rfl Tryd.func36 (by kernel_rfl) rfl #[.agg #[.int .i64 a0, .int .i64 a1, .int .i64 a2]] rfl (by (try simp only [mT_, mC_, mN_]); first | done | rfl) ?_; (with_reducible refine (demurrageref04_Number.calls k a0 a1 a2 t112 t113 _ A4.out).mono ?_); rintro e w5 ⟨rfl, hb⟩; refine ⟨_, rfl, ?_⟩; replace HB := bB_ (by repeat (with_reducible first | exact HB.out | apply bA_ | apply bN_ | apply bD_)) hb; (try clear hb)))
 go_ret
 exact ⟨by rfl, by repeat (with_reducible first | exact HB.out | apply bA_ | apply bN_ | apply bD_)⟩

end Go.Proofs.YtbapgkopilmdfaaDoor.X
