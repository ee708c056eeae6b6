-- cut by prune.py, a program of this session
import Derived.Test.YteikafepdkijdaaPLevelTableHLay
import Derived.LoopTactic
import Derived.Deep.LoopGhost
namespace Go.Proofs.Yteikafepdkijdaa.X
open Go.RowKit Go.Proofs.YteikafepdkijdaaW.PrintWords Go.Proofs.YteikafepdkijdaaW.PrintLast Go.Proofs.YteikafepdkijdaaW.PrintMore
set_option linter.unusedVariables false
set_option linter.unusedSimpArgs false

theorem Lay.keep {g : Nat} {w w' : World} (h : Lay g w w') : KeepBut w w' g none := ⟨h.size, fun i hi hg _ => h.block i hi hg⟩
theorem Lay.below {g : Nat} {w0 w w' : World} (h : Lay g w w') (hb : Below w0.heap.size w0 w) (hg : w0.heap.size ≤ g) : Below w0.heap.size w0 w' :=
 ⟨h.os.trans hb.os, h.tape.trans hb.tape, h.output.trans hb.output, Nat.le_trans hb.size h.size, fun k hk => (h.block k (by have := hb.size; omega) (by omega)).trans (hb.block k hk)⟩
theorem Lay.blk {g x : Nat} {o : Obj} {w w' : World} (h : Lay g w w') (hb : w.heap[x]? = some o) (hx : x ≠ g) : w'.heap[x]? = some o := (h.block x (blk_lt hb) hx).trans hb
theorem Lay.row {g : Nat} {w w' : World} (h : Lay g w w') {base : Nat} {v : Value} {xs : List S48} (hr : Kd.R k48 48 w base (fun _ => True) v xs) {cs : Array Value} {t : TypeId} (B : w.heap[g]? = some (.cells cs t (0, 0))) (ht : ∀ q, q ∈ 48 :: (k48).E → q ≠ t) :
  Kd.R k48 48 w' base (fun _ => True) v xs := Kd.R_mono (Kd.R_keep (Kd.R_types hr B ht) h.keep (fun _ hk => hk.2)) (fun _ _ => trivial)
theorem Lay.refl (g : Nat) (w : World) : Lay g w w := Lay.of_below (Below.refl _ _)


end Go.Proofs.Yteikafepdkijdaa.X
