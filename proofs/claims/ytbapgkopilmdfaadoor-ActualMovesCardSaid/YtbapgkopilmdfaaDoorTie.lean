/-
  DERIVED. GIVEN WITH THE SEED: THE PROGRAM's TIES (one call each: nine closed facts by the kernel) AND EACH ROW's TIE, after the 31st guide's Derived/Test/Toyas{Tie, Card}.lean. No idea stands in it: it is a product of the set-up. Laid BY PROGRAM, IN A SANDBOX (cutbox-door.mjs). By AI agents, Wed Nov 11 2026. No macro, syntax, notation, axiom, sorry.
-/
import Derived.Test.YtbapgkopilmdfaaDoorRows
import Derived.LaidByTextLater
import Derived.SevenTiedAt
import Derived.LaidSub
import Derived.LaidOnce
namespace Go.Proofs.YtbapgkopilmdfaaDoor
open Go
set_option maxRecDepth 100000
theorem seatTie1 : Tryd.prog.laidByTextLater [("demurrage/civil.lengths", Rows.laid_demurrage_civil_lengths), ("demurrage/actual.errNone", Rows.laid_demurrage_actual_errNone), ("demurrage/actual.errTurns", Rows.laid_demurrage_actual_errTurns)] [.data, .sentinel, .sentinel] true :=
  Program.laidByTextLater_by_one 52 8 14 (by kernel_rfl) (by kernel_rfl) (by kernel_rfl) (by kernel_rfl) (by kernel_rfl) (by kernel_rfl) (fun _ _ => by kernel_rfl)
theorem noOwnUnsafe : Tryd.pinned.checked.prog.headLifts.contains "ownunsafe" = false := by kernel_rfl
theorem tie : Tryd.prog.laidByTextLater [("demurrage/civil.lengths", Rows.laid_demurrage_civil_lengths), ("demurrage/actual.errNone", Rows.laid_demurrage_actual_errNone), ("demurrage/actual.errTurns", Rows.laid_demurrage_actual_errTurns)] [.data, .sentinel, .sentinel] true :=
  Program.laidByTextLater.sub seatTie1 ["demurrage/civil.lengths", "demurrage/actual.errNone", "demurrage/actual.errTurns"] (by kernel_rfl) (by kernel_rfl)
theorem actualTells_row_tie : Rows.actualTellsRow.laidByTextAt .later Tryd.pinned [.data, .sentinel, .sentinel] true :=
  OpenClaim.laidByTextAt_later rfl rfl tie noOwnUnsafe
theorem actualAdds_row_tie : Rows.actualAddsRow.laidByTextAt .later Tryd.pinned [.data, .sentinel, .sentinel] true :=
  OpenClaim.laidByTextAt_later rfl rfl tie noOwnUnsafe
theorem actualYears_row_tie : Rows.actualYearsRow.laidByTextAt .later Tryd.pinned [.data, .sentinel, .sentinel] true :=
  OpenClaim.laidByTextAt_later rfl rfl tie noOwnUnsafe
theorem actualBetween_row_tie : Rows.actualBetweenRow.laidByTextAt .later Tryd.pinned [.data, .sentinel, .sentinel] true :=
  OpenClaim.laidByTextAt_later rfl rfl tie noOwnUnsafe
theorem actualMoves_row_tie : Rows.actualMovesRow.laidByTextAt .later Tryd.pinned [.data, .sentinel, .sentinel] true :=
  OpenClaim.laidByTextAt_later rfl rfl tie noOwnUnsafe
theorem actualTellsUpto_row_tie : Rows.actualTellsUptoRow.laidByTextAt .later Tryd.pinned [.data, .sentinel, .sentinel] true :=
  OpenClaim.laidByTextAt_later rfl rfl tie noOwnUnsafe
theorem actualAddsUpto_row_tie : Rows.actualAddsUptoRow.laidByTextAt .later Tryd.pinned [.data, .sentinel, .sentinel] true :=
  OpenClaim.laidByTextAt_later rfl rfl tie noOwnUnsafe
theorem actualYearsUpto_row_tie : Rows.actualYearsUptoRow.laidByTextAt .later Tryd.pinned [.data, .sentinel, .sentinel] true :=
  OpenClaim.laidByTextAt_later rfl rfl tie noOwnUnsafe
theorem actualBetweenUpto_row_tie : Rows.actualBetweenUptoRow.laidByTextAt .later Tryd.pinned [.data, .sentinel, .sentinel] true :=
  OpenClaim.laidByTextAt_later rfl rfl tie noOwnUnsafe
theorem actualMovesUpto_row_tie : Rows.actualMovesUptoRow.laidByTextAt .later Tryd.pinned [.data, .sentinel, .sentinel] true :=
  OpenClaim.laidByTextAt_later rfl rfl tie noOwnUnsafe
end Go.Proofs.YtbapgkopilmdfaaDoor
