-- CUT by prune.py, a program of this session, to what the claim reaches (out of a text that the kit's printer, the session's programs or the session wrote)
import Derived.Test.YtcdbmmlnmefoeaaPRoundTurnsX0
import Derived.Test.YtcdbmmlnmefoeaaPRoundTurnsXWCmp
import Derived.Test.YtcdbmmlnmefoeaaPRoundTurnsXWMul
import Derived.Test.YtcdbmmlnmefoeaaPRoundTurnsHDiv
import Derived.Test.YtcdbmmlnmefoeaaPRoundTurnsHBits
import Derived.ScopeJumps
import Derived.Scope
import Derived.WalkMore
import Derived.Test.YtcdbmmlnmefoeaaPRoundTurnsHWide
import Derived.Test.YtcdbmmlnmefoeaaPRoundTurnsTWide
import Derived.WalkKit
set_option maxRecDepth 10000
namespace Go.Proofs.Ytcdbmmlnmefoeaa.X
open Go.RowKit Go.Proofs.YtcdbmmlnmefoeaaW.PrintWords Go.Proofs.YtcdbmmlnmefoeaaW.PrintLast

/-- What a making answers. -/
def made (n d : Nat) : Int × Int × Int := if (n : Int) ≤ 4611686018427387904 ∧ (d : Int) ≤ 4611686018427387904 then ((n : Int), (d : Int), 0) else (0, 0, 6)

end Go.Proofs.Ytcdbmmlnmefoeaa.X
