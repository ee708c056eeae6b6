-- cut by prune.py, a program of this session
import Derived.Test.YtlppmfffdjfekaaPPlainPartsWWords
import Derived.Test.YtlppmfffdjfekaaPPlainPartsWLast
namespace Go.Proofs.YtlppmfffdjfekaaW.PrintMore
open Go.RowKit Go.Proofs.YtlppmfffdjfekaaW.PrintWords
namespace Kd
open Go.Proofs.YtlppmfffdjfekaaW.PrintWords.Kd
end Kd

namespace Kd
open Go.Proofs.YtlppmfffdjfekaaW.PrintWords.Kd
end Kd
end Go.Proofs.YtlppmfffdjfekaaW.PrintMore
namespace Go.Proofs.YtlppmfffdjfekaaW.PrintWords
open Go.RowKit
section
variable {P : Program} {ops : Array Oper} {rest : List Oper} {o : Oper} {a : Act} {Q : Exit → Act → World → Prop} {W : World}
/-- The operation is a call of this function (a cheap look ahead of a dear step). -/
theorem gate_callee {f : FuncId} {as : Array Operand} {ts : Array TypeId} (_ho : o.op = .call { callee := .value (.func f), args := as, argTypes := ts }) (h : wpList P ops Q (o :: rest) a W) : wpList P ops Q (o :: rest) a W := h
/-- The operation is a builtin over these places. -/
theorem gate_builtin {b : Builtin} {xs : Array Operand} {ts : Array TypeId} (_ho : o.op = .call { callee := .builtin b, args := xs, argTypes := ts }) (h : wpList P ops Q (o :: rest) a W) : wpList P ops Q (o :: rest) a W := h
end
/-- It says x = x, and that is its use: 'rw [drewN_self w]' fails where the world was not drawn, and the row behind it is skipped. -/
theorem drewN_self (w : World) (n : Nat) : w.drewN n = w.drewN n := rfl
namespace Kd
end Kd
end Go.Proofs.YtlppmfffdjfekaaW.PrintWords
namespace Go.Proofs.YtlppmfffdjfekaaW.PrintWords
open Go.RowKit
namespace Kd
end Kd
end Go.Proofs.YtlppmfffdjfekaaW.PrintWords
