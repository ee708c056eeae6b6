-- CUT by prune.py, a program of this session, to what the claim reaches (out of a text that the kit's printer, the session's programs or the session wrote)
import Derived.Test.YtdgflpefjinleaaProg
import Derived.Below
import Derived.Deep.Draws
import Derived.Deep.AppendLies
import Derived.Maps.AppendAt
import Derived.OwnWalk
import Derived.Laws.BytesArg
import Derived.Laws.MakeOwn
import Derived.Laws.OwnMore
import Derived.Deep.OwnRows
import Derived.Tactics
import Derived.Lib.ConvBytes
import Derived.Laws.Slices
import Derived.WalkKit
import Derived.KernelRfl
import Derived.RowKit3
import Derived.Deep.LoopGhost
import Derived.Deep.QuietTactic
import Derived.BigQuiet
import Derived.WideLaws
import Derived.Deep.DeepCutAuto
import Derived.Deep.CutBlock
import Derived.Deep.RegionHeld3
import Derived.Laws.Rows
import Derived.Lib.AppendStr
import Derived.ArgAppend
import Derived.Laws.IdiomCopy
import Derived.OrdersHeld
import Derived.Laws.BitsLemmas
import Derived.RowKit
import Derived.Test.YtdgflpefjinleaaPWideTellsWWords
import Derived.Test.YtdgflpefjinleaaPWideTellsWLast
import Derived.Test.YtdgflpefjinleaaPWideTellsWTab
import Derived.Test.YtdgflpefjinleaaPWideTellsWEqStruct
import Derived.Test.YtdgflpefjinleaaPWideTellsWGuard
import Derived.Test.YtdgflpefjinleaaPWideTellsWMore
namespace Go.Proofs.Ytdgflpefjinleaa.X
open Go.RowKit Go.Proofs.YtdgflpefjinleaaW.PrintWords Go.Proofs.YtdgflpefjinleaaW.PrintLast Go.Proofs.YtdgflpefjinleaaW.PrintMore
set_option linter.unusedVariables false
set_option linter.unusedSimpArgs false

theorem info3 : (Try.prog.info? 3).map (fun i => (i.zero, i.size, i.bytes)) = some (some (.int .i64 0), 1, 8) := by kernel_rfl

end Go.Proofs.Ytdgflpefjinleaa.X
