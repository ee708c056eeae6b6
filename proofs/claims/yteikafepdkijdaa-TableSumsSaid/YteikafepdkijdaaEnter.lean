import Derived.Test.YteikafepdkijdaaRows
import Derived.WalkKit
import Derived.ProofKit
/-! The three facts on the dump's head, paid once for the seat (each costs the kernel about a minute: the header's string is long). -/
namespace Go.Proofs.Yteikafepdkijdaa
theorem headEnter : Try.prog.mayEnter = true := by kernel_rfl
theorem headLifts : Try.prog.liftsFinal = false := by kernel_rfl
theorem headMake : Try.prog.make = some .cut := by kernel_rfl
end Go.Proofs.Yteikafepdkijdaa
