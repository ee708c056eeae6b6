-- cut by prune.py, a program of this session
import Derived.Test.YtbapgkopilmdfaaDoorProg
import Derived.Below
import Derived.Deep.Draws
import Derived.Deep.AppendLies
import Derived.Maps.AppendAt
import Derived.OwnWalk
import Derived.Laws.BytesArg
import Derived.Laws.MakeOwn
import Derived.Laws.OwnMore
import Derived.Deep.OwnRows
import Derived.Tactics
import Derived.Lib.ConvBytes
import Derived.Laws.Slices
import Derived.WalkKit
import Derived.KernelRfl
import Derived.RowKit3
import Derived.Deep.LoopGhost
import Derived.Deep.QuietTactic
import Derived.BigQuiet
import Derived.WideLaws
import Derived.Deep.DeepCutAuto
import Derived.Deep.CutBlock
import Derived.Deep.RegionHeld3
import Derived.Laws.Rows
import Derived.Lib.AppendStr
import Derived.ArgAppend
import Derived.Laws.IdiomCopy
import Derived.OrdersHeld
import Derived.Laws.BitsLemmas
import Derived.RowKit
import Derived.Test.YtbapgkopilmdfaaDoorPActualMovesWWords
import Derived.Test.YtbapgkopilmdfaaDoorPActualMovesWLast
import Derived.Test.YtbapgkopilmdfaaDoorPActualMovesWTab
import Derived.Test.YtbapgkopilmdfaaDoorPActualMovesWFoot
import Derived.Test.YtbapgkopilmdfaaDoorPActualMovesWShare
import Derived.Test.YtbapgkopilmdfaaDoorPActualMovesWEqStruct
import Derived.Test.YtbapgkopilmdfaaDoorPActualMovesWRepsOne
import Derived.Test.YtbapgkopilmdfaaDoorPActualMovesWGuard
import Derived.Test.YtbapgkopilmdfaaDoorPActualMovesWMore
namespace Go.Proofs.YtbapgkopilmdfaaDoor.X
open Go.RowKit Go.Proofs.YtbapgkopilmdfaaDoorW.PrintWords Go.Proofs.YtbapgkopilmdfaaDoorW.PrintLast Go.Proofs.YtbapgkopilmdfaaDoorW.PrintMore
attribute [local go_sem] max2_int min2_int max_two min_two
set_option linter.unusedVariables false
set_option linter.unusedSimpArgs false

theorem info3 : (Tryd.prog.info? 3).map (fun i => (i.zero, i.size, i.bytes)) = some (some (.int .i64 0), 1, 8) := by kernel_rfl

theorem aA_ {p : Prop} (h : p) : Aside0 p := ⟨h⟩
theorem mT_ {α β : Type} (f : α → β) (l : List α) : l.toArray.map f = (l.map f).toArray := List.map_toArray ..
theorem mC_ {α β : Type} {f : α → β} {a : α} {l : List α} : (a :: l).map f = f a :: l.map f := List.map_cons ..
theorem mN_ {α β : Type} {f : α → β} : ([] : List α).map f = [] := List.map_nil ..
theorem bI_ {α β : Type} {o : Option α} {f : α → Option β} {b : β} (h : o.bind f = some b) : ∃ a, o = some a ∧ f a = some b := Option.bind_eq_some_iff.mp h
theorem bA_ {w W : World} (h : Below w.heap.size w W) (o : Obj) : Below w.heap.size w (W.alloc o) := below_alloc h o
theorem bN_ {B : Nat} {w W : World} (h : Below B w W) (n : Nat) : Below B w (W.drewN n) := pw_below_drewN h n
theorem bD_ {base : Nat} {w W : World} (h : Below base w W) : Below base w W.drew := below_drew1 h
theorem bS_ {w W : World} {g j : Nat} {v : Value} (h : Below w.heap.size w W) (hg : w.heap.size ≤ g) : Below w.heap.size w (W.setCell ⟨g, j, none⟩ v) := below_set h hg
theorem bK_ {w w1 : World} {g : Nat} {o : Obj} (h : Aside0 (w.heap[g]? = some o)) (hb : Below w.heap.size w w1) : Aside0 (w1.heap[g]? = some o) := ⟨blk_below h.out hb⟩
theorem bB_ {w W w2 : World} (h : Below w.heap.size w W) (k : Below W.heap.size W w2) : Aside0 (Below w.heap.size w w2) := ⟨below_step h k⟩
theorem cC_ {w W : World} {a : Addr} {v : Value} (h : Aside0 (Below w.heap.size w W)) (hx : w.cell? a = some v) : W.cell? a = some v := (h.out.cell (World.block_lt_of_cell? w _ hx)).trans hx
theorem nE_ {g g' : Nat} {w : World} {o : Obj} (hg : g' = w.heap.size) (h : Aside0 (w.heap[g]? = some o)) : Aside0 (g ≠ g') := ⟨by rw [hg]; exact Nat.ne_of_lt (blk_lt h.out)⟩
theorem gW_ {g : Nat} {w W : World} (hg : g = W.heap.size) (h : Below w.heap.size w W) : Aside0 (w.heap.size ≤ g) := ⟨by rw [hg]; exact below_size h⟩
theorem sT_ {α : Type} (l : List α) (i : Nat) (a : α) : l.toArray.setIfInBounds i a = (l.set i a).toArray := List.setIfInBounds_toArray ..
theorem sZ_ {α : Type} {a b : α} {l : List α} : (a :: l).set 0 b = b :: l := rfl
theorem sS_ {α : Type} {a b : α} {l : List α} {i : Nat} : (a :: l).set (i + 1) b = a :: l.set i b := rfl
end Go.Proofs.YtbapgkopilmdfaaDoor.X
