/-
  DERIVED. GIVEN WITH THE SEED: THE CARDS: each row of YtbapgkopilmdfaaDoorRows.lean that lists a variable, with what it lists TIED to the program's text (the seventh form; the later family's looks); each row that meets fmt, with fmt's text TOLD by the authors' own Lean function (tested against real Go, not proved from fmt's source: count such statements apart). THE CARD IS WHAT COUNTS. Prove the row's statement (the work); the ties are given (YtbapgkopilmdfaaDoorTie.lean); close each card by the builder's one call (the guide's Derived/Test/ToyasCard.lean, 'card_holds'). Laid BY PROGRAM, IN A SANDBOX (cutbox-door.mjs). By AI agents, Wed Nov 11 2026. No macro, syntax, notation, axiom, sorry.
-/
import Derived.Test.YtbapgkopilmdfaaDoorRows
import GoSem.ClaimSeven
namespace Go.Proofs.YtbapgkopilmdfaaDoor
namespace Rows

/-- THE TIED CARD OF 'demurragelaw08.ActualTells'. -/
def actualTellsCard : Claim7 := { stood := { row := actualTellsRow, standIns := [], harness := (true, "0da9cd50c49a01554891ccfe21f4aa668ec550e21f9cfc581cb074644c8edb74"), looks := true }, kinds := [], alts := [], laidByText := true, laidKinds := [.data, .sentinel, .sentinel], laidTests := true, laidLooks := .later }
def ActualTellsCardSaid : Prop := Claim7.holds Tryd.pinned (.plain (OpenSpec.ofChange actualTellsSpec)) actualTellsCard

/-- THE TIED CARD OF 'demurragelaw08.ActualAdds'. -/
def actualAddsCard : Claim7 := { stood := { row := actualAddsRow, standIns := [], harness := (true, "0da9cd50c49a01554891ccfe21f4aa668ec550e21f9cfc581cb074644c8edb74"), looks := true }, kinds := [], alts := [], laidByText := true, laidKinds := [.data, .sentinel, .sentinel], laidTests := true, laidLooks := .later }
def ActualAddsCardSaid : Prop := Claim7.holds Tryd.pinned (.plain (OpenSpec.ofChange actualAddsSpec)) actualAddsCard

/-- THE TIED CARD OF 'demurragelaw08.ActualYears'. -/
def actualYearsCard : Claim7 := { stood := { row := actualYearsRow, standIns := [], harness := (true, "0da9cd50c49a01554891ccfe21f4aa668ec550e21f9cfc581cb074644c8edb74"), looks := true }, kinds := [], alts := [], laidByText := true, laidKinds := [.data, .sentinel, .sentinel], laidTests := true, laidLooks := .later }
def ActualYearsCardSaid : Prop := Claim7.holds Tryd.pinned (.plain (OpenSpec.ofChange actualYearsSpec)) actualYearsCard

/-- THE TIED CARD OF 'demurragelaw08.ActualBetween'. -/
def actualBetweenCard : Claim7 := { stood := { row := actualBetweenRow, standIns := [], harness := (true, "0da9cd50c49a01554891ccfe21f4aa668ec550e21f9cfc581cb074644c8edb74"), looks := true }, kinds := [], alts := [], laidByText := true, laidKinds := [.data, .sentinel, .sentinel], laidTests := true, laidLooks := .later }
def ActualBetweenCardSaid : Prop := Claim7.holds Tryd.pinned (.plain (OpenSpec.ofChange actualBetweenSpec)) actualBetweenCard

/-- THE TIED CARD OF 'demurragelaw08.ActualMoves'. -/
def actualMovesCard : Claim7 := { stood := { row := actualMovesRow, standIns := [], harness := (true, "0da9cd50c49a01554891ccfe21f4aa668ec550e21f9cfc581cb074644c8edb74"), looks := true }, kinds := [], alts := [], laidByText := true, laidKinds := [.data, .sentinel, .sentinel], laidTests := true, laidLooks := .later }
def ActualMovesCardSaid : Prop := Claim7.holds Tryd.pinned (.plain (OpenSpec.ofChange actualMovesSpec)) actualMovesCard

/-- THE SECOND FORM's CARD OF 'demurragelaw08.ActualTells'. -/
def actualTellsUptoCard : Claim7 := { stood := { row := actualTellsUptoRow, standIns := [], harness := (true, "0da9cd50c49a01554891ccfe21f4aa668ec550e21f9cfc581cb074644c8edb74"), looks := true }, kinds := [], alts := [], laidByText := true, laidKinds := [.data, .sentinel, .sentinel], laidTests := true, laidLooks := .later }
def ActualTellsUptoCardSaid : Prop := Claim7.holds Tryd.pinned (.plain (OpenSpec.upto actualTellsSpec)) actualTellsUptoCard

/-- THE SECOND FORM's CARD OF 'demurragelaw08.ActualAdds'. -/
def actualAddsUptoCard : Claim7 := { stood := { row := actualAddsUptoRow, standIns := [], harness := (true, "0da9cd50c49a01554891ccfe21f4aa668ec550e21f9cfc581cb074644c8edb74"), looks := true }, kinds := [], alts := [], laidByText := true, laidKinds := [.data, .sentinel, .sentinel], laidTests := true, laidLooks := .later }
def ActualAddsUptoCardSaid : Prop := Claim7.holds Tryd.pinned (.plain (OpenSpec.upto actualAddsSpec)) actualAddsUptoCard

/-- THE SECOND FORM's CARD OF 'demurragelaw08.ActualYears'. -/
def actualYearsUptoCard : Claim7 := { stood := { row := actualYearsUptoRow, standIns := [], harness := (true, "0da9cd50c49a01554891ccfe21f4aa668ec550e21f9cfc581cb074644c8edb74"), looks := true }, kinds := [], alts := [], laidByText := true, laidKinds := [.data, .sentinel, .sentinel], laidTests := true, laidLooks := .later }
def ActualYearsUptoCardSaid : Prop := Claim7.holds Tryd.pinned (.plain (OpenSpec.upto actualYearsSpec)) actualYearsUptoCard

/-- THE SECOND FORM's CARD OF 'demurragelaw08.ActualBetween'. -/
def actualBetweenUptoCard : Claim7 := { stood := { row := actualBetweenUptoRow, standIns := [], harness := (true, "0da9cd50c49a01554891ccfe21f4aa668ec550e21f9cfc581cb074644c8edb74"), looks := true }, kinds := [], alts := [], laidByText := true, laidKinds := [.data, .sentinel, .sentinel], laidTests := true, laidLooks := .later }
def ActualBetweenUptoCardSaid : Prop := Claim7.holds Tryd.pinned (.plain (OpenSpec.upto actualBetweenSpec)) actualBetweenUptoCard

/-- THE SECOND FORM's CARD OF 'demurragelaw08.ActualMoves'. -/
def actualMovesUptoCard : Claim7 := { stood := { row := actualMovesUptoRow, standIns := [], harness := (true, "0da9cd50c49a01554891ccfe21f4aa668ec550e21f9cfc581cb074644c8edb74"), looks := true }, kinds := [], alts := [], laidByText := true, laidKinds := [.data, .sentinel, .sentinel], laidTests := true, laidLooks := .later }
def ActualMovesUptoCardSaid : Prop := Claim7.holds Tryd.pinned (.plain (OpenSpec.upto actualMovesSpec)) actualMovesUptoCard
end Rows
end Go.Proofs.YtbapgkopilmdfaaDoor
