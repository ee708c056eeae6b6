/- The document's example at the head of the statements of layer 1 is answered true. -/
import Derived.Test.YtcdbmmlnmefoeaaTWide
import Derived.Test.YtcdbmmlnmefoeaaXSOne
import Derived.KernelRfl
namespace Go.Proofs.Ytcdbmmlnmefoeaa.X
theorem shown_one : demurragelaw01_shown.f = some true := by kernel_rfl
end Go.Proofs.Ytcdbmmlnmefoeaa.X
