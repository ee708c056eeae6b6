-- CUT by prune.py, a program of this session, to what the claim reaches (out of a text that the kit's printer, the session's programs or the session wrote)
import Derived.Test.YtdgflpefjinleaaPWideTellsWWords
import Derived.Test.YtdgflpefjinleaaPWideTellsWLast
namespace Go.Proofs.YtdgflpefjinleaaW.PrintMore
open Go.RowKit Go.Proofs.YtdgflpefjinleaaW.PrintWords
namespace Kd
open Go.Proofs.YtdgflpefjinleaaW.PrintWords.Kd
end Kd

namespace Kd
open Go.Proofs.YtdgflpefjinleaaW.PrintWords.Kd
end Kd
end Go.Proofs.YtdgflpefjinleaaW.PrintMore
namespace Go.Proofs.YtdgflpefjinleaaW.PrintWords
open Go.RowKit
section
variable {P : Program} {ops : Array Oper} {rest : List Oper} {o : Oper} {a : Act} {Q : Exit → Act → World → Prop} {W : World}
/-- The operation is a call of this function (a cheap look ahead of a dear step). -/
theorem gate_callee {f : FuncId} {as : Array Operand} {ts : Array TypeId} (_ho : o.op = .call { callee := .value (.func f), args := as, argTypes := ts }) (h : wpList P ops Q (o :: rest) a W) : wpList P ops Q (o :: rest) a W := h
/-- The operation is a builtin over these places. -/
theorem gate_builtin {b : Builtin} {xs : Array Operand} {ts : Array TypeId} (_ho : o.op = .call { callee := .builtin b, args := xs, argTypes := ts }) (h : wpList P ops Q (o :: rest) a W) : wpList P ops Q (o :: rest) a W := h
end
/-- It says x = x, and that is its use: 'rw [drewN_self w]' fails where the world was not drawn, and the row behind it is skipped. -/
theorem drewN_self (w : World) (n : Nat) : w.drewN n = w.drewN n := rfl
namespace Kd
end Kd
end Go.Proofs.YtdgflpefjinleaaW.PrintWords
namespace Go.Proofs.YtdgflpefjinleaaW.PrintWords
open Go.RowKit
namespace Kd
end Kd
end Go.Proofs.YtdgflpefjinleaaW.PrintWords
