-- cut by prune.py, a program of this session
import Derived.Test.YteikafepdkijdaaPLevelTableXAccrue
namespace Go.Proofs.Yteikafepdkijdaa.X
open Go.RowKit Go.Proofs.YteikafepdkijdaaW.PrintWords Go.Proofs.YteikafepdkijdaaW.PrintLast Go.Proofs.YteikafepdkijdaaW.PrintMore
set_option linter.unusedVariables false
set_option linter.unusedSimpArgs false

structure Lay (g : Nat) (w w' : World) : Prop where
 os : w'.os = w.os
 tape : w'.tape = w.tape
 output : w'.output = w.output
 size : w.heap.size ≤ w'.heap.size
 block : ∀ i, i < w.heap.size → i ≠ g → w'.heap[i]? = w.heap[i]?
theorem Lay.of_below {g : Nat} {w w' : World} (h : Below w.heap.size w w') : Lay g w w' := ⟨h.os, h.tape, h.output, h.size, fun i hi _ => h.block i hi⟩
theorem Lay.set {g : Nat} {w W : World} (h : Lay g w W) {p : Addr} (hp : p.block = g ∨ w.heap.size ≤ p.block) (u : Value) : Lay g w (W.setCell p u) := by
 refine ⟨h.os, h.tape, h.output, ?_, fun i hi hg => ?_⟩
 ·simpa [World.setCell] using h.size
 ·exact (Below.heap_setCell W p u i (by rcases hp with hp | hp <;> omega)).trans (h.block i hi hg)
theorem Lay.there {g : Nat} {w W : World} (h : Lay g w W) {j : Nat} (u : Value) : Lay g w (W.setCell ⟨g, j, none⟩ u) := h.set (Or.inl rfl) u

end Go.Proofs.Yteikafepdkijdaa.X
