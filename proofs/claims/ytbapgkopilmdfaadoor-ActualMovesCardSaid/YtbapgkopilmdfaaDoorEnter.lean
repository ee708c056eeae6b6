import Derived.Test.YtbapgkopilmdfaaDoorRows
import Derived.WalkKit
import Derived.ProofKit
/-! The three facts on the dump's head, paid once for the seat (each costs the kernel about a minute: the header's string is long). -/
namespace Go.Proofs.YtbapgkopilmdfaaDoor
theorem headEnter : Tryd.prog.mayEnter = true := by kernel_rfl
theorem headLifts : Tryd.prog.liftsFinal = false := by kernel_rfl
theorem headMake : Tryd.prog.make = some .cut := by kernel_rfl
end Go.Proofs.YtbapgkopilmdfaaDoor
