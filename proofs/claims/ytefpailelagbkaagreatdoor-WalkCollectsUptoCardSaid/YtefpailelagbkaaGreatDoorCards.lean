/-
  DERIVED. GIVEN WITH THE SEED: THE CARDS: each row of YtefpailelagbkaaGreatDoorRows.lean that lists a variable, with what it lists TIED to the program's text (the seventh form; the later family's looks); each row that meets fmt, with fmt's text TOLD by the authors' own Lean function (tested against real Go, not proved from fmt's source: count such statements apart). THE CARD IS WHAT COUNTS. Prove the row's statement (the work); the ties are given (YtefpailelagbkaaGreatDoorTie.lean); close each card by the builder's one call (the guide's Derived/Test/ToyasCard.lean, 'card_holds'). Laid BY PROGRAM, IN A SANDBOX (cutbox-door.mjs). By AI agents, Wed Nov 11 2026. No macro, syntax, notation, axiom, sorry.
-/
import Derived.Test.YtefpailelagbkaaGreatDoorRows
import GoSem.ClaimSeven
namespace Go.Proofs.YtefpailelagbkaaGreatDoor
namespace Rows

/-- THE TIED CARD OF 'ordinallaw41.AccessAt'. -/
def accessAtCard : Claim7 := { stood := { row := accessAtRow, standIns := [], harness := (true, "2c47f085cf01177a0bf2bc6a940d7fc6f39490ced87d29aa5cce1bc4b68e127f"), looks := false }, kinds := [], alts := [], laidByText := true, laidKinds := [.data, .data, .data], laidTests := true, laidLooks := .later }
def AccessAtCardSaid : Prop := Claim7.holds Tryz.pinned (.plain (OpenSpec.ofChange accessAtSpec)) accessAtCard

/-- THE TIED CARD OF 'ordinallaw41.AccessWithin'. -/
def accessWithinCard : Claim7 := { stood := { row := accessWithinRow, standIns := [], harness := (true, "2c47f085cf01177a0bf2bc6a940d7fc6f39490ced87d29aa5cce1bc4b68e127f"), looks := false }, kinds := [], alts := [], laidByText := true, laidKinds := [.data, .data, .data], laidTests := true, laidLooks := .later }
def AccessWithinCardSaid : Prop := Claim7.holds Tryz.pinned (.plain (OpenSpec.ofChange accessWithinSpec)) accessWithinCard

/-- THE TIED CARD OF 'ordinallaw41.AccessPrefixes'. -/
def accessPrefixesCard : Claim7 := { stood := { row := accessPrefixesRow, standIns := [], harness := (true, "2c47f085cf01177a0bf2bc6a940d7fc6f39490ced87d29aa5cce1bc4b68e127f"), looks := false }, kinds := [], alts := [], laidByText := true, laidKinds := [.data, .data, .data], laidTests := true, laidLooks := .later }
def AccessPrefixesCardSaid : Prop := Claim7.holds Tryz.pinned (.plain (OpenSpec.ofChange accessPrefixesSpec)) accessPrefixesCard

/-- THE TIED CARD OF 'ordinallaw41.AccessSteps'. -/
def accessStepsCard : Claim7 := { stood := { row := accessStepsRow, standIns := [], harness := (true, "2c47f085cf01177a0bf2bc6a940d7fc6f39490ced87d29aa5cce1bc4b68e127f"), looks := false }, kinds := [], alts := [], laidByText := true, laidKinds := [.data, .data, .data], laidTests := true, laidLooks := .later }
def AccessStepsCardSaid : Prop := Claim7.holds Tryz.pinned (.plain (OpenSpec.ofChange accessStepsSpec)) accessStepsCard

/-- THE TIED CARD OF 'ordinallaw41.AccessSorted'. -/
def accessSortedCard : Claim7 := { stood := { row := accessSortedRow, standIns := [], harness := (true, "2c47f085cf01177a0bf2bc6a940d7fc6f39490ced87d29aa5cce1bc4b68e127f"), looks := false }, kinds := [], alts := [], laidByText := true, laidKinds := [.data, .data, .data], laidTests := true, laidLooks := .later }
def AccessSortedCardSaid : Prop := Claim7.holds Tryz.pinned (.plain (OpenSpec.ofChange accessSortedSpec)) accessSortedCard

/-- THE TIED CARD OF 'ordinallaw41.AccessFilters'. -/
def accessFiltersCard : Claim7 := { stood := { row := accessFiltersRow, standIns := [], harness := (true, "2c47f085cf01177a0bf2bc6a940d7fc6f39490ced87d29aa5cce1bc4b68e127f"), looks := false }, kinds := [], alts := [], laidByText := true, laidKinds := [.data, .data, .data], laidTests := true, laidLooks := .later }
def AccessFiltersCardSaid : Prop := Claim7.holds Tryz.pinned (.plain (OpenSpec.ofChange accessFiltersSpec)) accessFiltersCard

/-- THE TIED CARD OF 'ordinallaw41.AccessLarge'. -/
def accessLargeCard : Claim7 := { stood := { row := accessLargeRow, standIns := [], harness := (true, "2c47f085cf01177a0bf2bc6a940d7fc6f39490ced87d29aa5cce1bc4b68e127f"), looks := false }, kinds := [], alts := [], laidByText := true, laidKinds := [.data, .data, .data], laidTests := true, laidLooks := .later }
def AccessLargeCardSaid : Prop := Claim7.holds Tryz.pinned (.plain (OpenSpec.ofChange accessLargeSpec)) accessLargeCard

/-- THE TIED CARD OF 'ordinallaw44.WalkNone'. -/
def walkNoneCard : Claim7 := { stood := { row := walkNoneRow, standIns := [], harness := (true, "2c47f085cf01177a0bf2bc6a940d7fc6f39490ced87d29aa5cce1bc4b68e127f"), looks := false }, kinds := [], alts := [], laidByText := true, laidKinds := [.data, .data, .data], laidTests := true, laidLooks := .later }
def WalkNoneCardSaid : Prop := Claim7.holds Tryz.pinned (.plain (OpenSpec.ofChange walkNoneSpec)) walkNoneCard

/-- THE TIED CARD OF 'ordinallaw44.WalkTurns'. -/
def walkTurnsCard : Claim7 := { stood := { row := walkTurnsRow, standIns := [], harness := (true, "2c47f085cf01177a0bf2bc6a940d7fc6f39490ced87d29aa5cce1bc4b68e127f"), looks := false }, kinds := [], alts := [], laidByText := true, laidKinds := [.data, .data, .data], laidTests := true, laidLooks := .later }
def WalkTurnsCardSaid : Prop := Claim7.holds Tryz.pinned (.plain (OpenSpec.ofChange walkTurnsSpec)) walkTurnsCard

/-- THE TIED CARD OF 'ordinallaw44.WalkMoves'. -/
def walkMovesCard : Claim7 := { stood := { row := walkMovesRow, standIns := [], harness := (true, "2c47f085cf01177a0bf2bc6a940d7fc6f39490ced87d29aa5cce1bc4b68e127f"), looks := false }, kinds := [], alts := [], laidByText := true, laidKinds := [.data, .data, .data], laidTests := true, laidLooks := .later }
def WalkMovesCardSaid : Prop := Claim7.holds Tryz.pinned (.plain (OpenSpec.ofChange walkMovesSpec)) walkMovesCard

/-- THE TIED CARD OF 'ordinallaw44.WalkStops'. -/
def walkStopsCard : Claim7 := { stood := { row := walkStopsRow, standIns := [], harness := (true, "2c47f085cf01177a0bf2bc6a940d7fc6f39490ced87d29aa5cce1bc4b68e127f"), looks := false }, kinds := [], alts := [], laidByText := true, laidKinds := [.data, .data, .data], laidTests := true, laidLooks := .later }
def WalkStopsCardSaid : Prop := Claim7.holds Tryz.pinned (.plain (OpenSpec.ofChange walkStopsSpec)) walkStopsCard

/-- THE TIED CARD OF 'ordinallaw44.WalkCollects'. -/
def walkCollectsCard : Claim7 := { stood := { row := walkCollectsRow, standIns := [], harness := (true, "2c47f085cf01177a0bf2bc6a940d7fc6f39490ced87d29aa5cce1bc4b68e127f"), looks := false }, kinds := [], alts := [], laidByText := true, laidKinds := [.data, .data, .data], laidTests := true, laidLooks := .later }
def WalkCollectsCardSaid : Prop := Claim7.holds Tryz.pinned (.plain (OpenSpec.ofChange walkCollectsSpec)) walkCollectsCard

/-- THE SECOND FORM's CARD OF 'ordinallaw41.AccessAt'. -/
def accessAtUptoCard : Claim7 := { stood := { row := accessAtUptoRow, standIns := [], harness := (true, "2c47f085cf01177a0bf2bc6a940d7fc6f39490ced87d29aa5cce1bc4b68e127f"), looks := false }, kinds := [], alts := [], laidByText := true, laidKinds := [.data, .data, .data], laidTests := true, laidLooks := .later }
def AccessAtUptoCardSaid : Prop := Claim7.holds Tryz.pinned (.plain (OpenSpec.upto accessAtSpec)) accessAtUptoCard

/-- THE SECOND FORM's CARD OF 'ordinallaw41.AccessWithin'. -/
def accessWithinUptoCard : Claim7 := { stood := { row := accessWithinUptoRow, standIns := [], harness := (true, "2c47f085cf01177a0bf2bc6a940d7fc6f39490ced87d29aa5cce1bc4b68e127f"), looks := false }, kinds := [], alts := [], laidByText := true, laidKinds := [.data, .data, .data], laidTests := true, laidLooks := .later }
def AccessWithinUptoCardSaid : Prop := Claim7.holds Tryz.pinned (.plain (OpenSpec.upto accessWithinSpec)) accessWithinUptoCard

/-- THE SECOND FORM's CARD OF 'ordinallaw41.AccessPrefixes'. -/
def accessPrefixesUptoCard : Claim7 := { stood := { row := accessPrefixesUptoRow, standIns := [], harness := (true, "2c47f085cf01177a0bf2bc6a940d7fc6f39490ced87d29aa5cce1bc4b68e127f"), looks := false }, kinds := [], alts := [], laidByText := true, laidKinds := [.data, .data, .data], laidTests := true, laidLooks := .later }
def AccessPrefixesUptoCardSaid : Prop := Claim7.holds Tryz.pinned (.plain (OpenSpec.upto accessPrefixesSpec)) accessPrefixesUptoCard

/-- THE SECOND FORM's CARD OF 'ordinallaw41.AccessSteps'. -/
def accessStepsUptoCard : Claim7 := { stood := { row := accessStepsUptoRow, standIns := [], harness := (true, "2c47f085cf01177a0bf2bc6a940d7fc6f39490ced87d29aa5cce1bc4b68e127f"), looks := false }, kinds := [], alts := [], laidByText := true, laidKinds := [.data, .data, .data], laidTests := true, laidLooks := .later }
def AccessStepsUptoCardSaid : Prop := Claim7.holds Tryz.pinned (.plain (OpenSpec.upto accessStepsSpec)) accessStepsUptoCard

/-- THE SECOND FORM's CARD OF 'ordinallaw41.AccessSorted'. -/
def accessSortedUptoCard : Claim7 := { stood := { row := accessSortedUptoRow, standIns := [], harness := (true, "2c47f085cf01177a0bf2bc6a940d7fc6f39490ced87d29aa5cce1bc4b68e127f"), looks := false }, kinds := [], alts := [], laidByText := true, laidKinds := [.data, .data, .data], laidTests := true, laidLooks := .later }
def AccessSortedUptoCardSaid : Prop := Claim7.holds Tryz.pinned (.plain (OpenSpec.upto accessSortedSpec)) accessSortedUptoCard

/-- THE SECOND FORM's CARD OF 'ordinallaw41.AccessFilters'. -/
def accessFiltersUptoCard : Claim7 := { stood := { row := accessFiltersUptoRow, standIns := [], harness := (true, "2c47f085cf01177a0bf2bc6a940d7fc6f39490ced87d29aa5cce1bc4b68e127f"), looks := false }, kinds := [], alts := [], laidByText := true, laidKinds := [.data, .data, .data], laidTests := true, laidLooks := .later }
def AccessFiltersUptoCardSaid : Prop := Claim7.holds Tryz.pinned (.plain (OpenSpec.upto accessFiltersSpec)) accessFiltersUptoCard

/-- THE SECOND FORM's CARD OF 'ordinallaw41.AccessLarge'. -/
def accessLargeUptoCard : Claim7 := { stood := { row := accessLargeUptoRow, standIns := [], harness := (true, "2c47f085cf01177a0bf2bc6a940d7fc6f39490ced87d29aa5cce1bc4b68e127f"), looks := false }, kinds := [], alts := [], laidByText := true, laidKinds := [.data, .data, .data], laidTests := true, laidLooks := .later }
def AccessLargeUptoCardSaid : Prop := Claim7.holds Tryz.pinned (.plain (OpenSpec.upto accessLargeSpec)) accessLargeUptoCard

/-- THE SECOND FORM's CARD OF 'ordinallaw44.WalkNone'. -/
def walkNoneUptoCard : Claim7 := { stood := { row := walkNoneUptoRow, standIns := [], harness := (true, "2c47f085cf01177a0bf2bc6a940d7fc6f39490ced87d29aa5cce1bc4b68e127f"), looks := false }, kinds := [], alts := [], laidByText := true, laidKinds := [.data, .data, .data], laidTests := true, laidLooks := .later }
def WalkNoneUptoCardSaid : Prop := Claim7.holds Tryz.pinned (.plain (OpenSpec.upto walkNoneSpec)) walkNoneUptoCard

/-- THE SECOND FORM's CARD OF 'ordinallaw44.WalkTurns'. -/
def walkTurnsUptoCard : Claim7 := { stood := { row := walkTurnsUptoRow, standIns := [], harness := (true, "2c47f085cf01177a0bf2bc6a940d7fc6f39490ced87d29aa5cce1bc4b68e127f"), looks := false }, kinds := [], alts := [], laidByText := true, laidKinds := [.data, .data, .data], laidTests := true, laidLooks := .later }
def WalkTurnsUptoCardSaid : Prop := Claim7.holds Tryz.pinned (.plain (OpenSpec.upto walkTurnsSpec)) walkTurnsUptoCard

/-- THE SECOND FORM's CARD OF 'ordinallaw44.WalkMoves'. -/
def walkMovesUptoCard : Claim7 := { stood := { row := walkMovesUptoRow, standIns := [], harness := (true, "2c47f085cf01177a0bf2bc6a940d7fc6f39490ced87d29aa5cce1bc4b68e127f"), looks := false }, kinds := [], alts := [], laidByText := true, laidKinds := [.data, .data, .data], laidTests := true, laidLooks := .later }
def WalkMovesUptoCardSaid : Prop := Claim7.holds Tryz.pinned (.plain (OpenSpec.upto walkMovesSpec)) walkMovesUptoCard

/-- THE SECOND FORM's CARD OF 'ordinallaw44.WalkStops'. -/
def walkStopsUptoCard : Claim7 := { stood := { row := walkStopsUptoRow, standIns := [], harness := (true, "2c47f085cf01177a0bf2bc6a940d7fc6f39490ced87d29aa5cce1bc4b68e127f"), looks := false }, kinds := [], alts := [], laidByText := true, laidKinds := [.data, .data, .data], laidTests := true, laidLooks := .later }
def WalkStopsUptoCardSaid : Prop := Claim7.holds Tryz.pinned (.plain (OpenSpec.upto walkStopsSpec)) walkStopsUptoCard

/-- THE SECOND FORM's CARD OF 'ordinallaw44.WalkCollects'. -/
def walkCollectsUptoCard : Claim7 := { stood := { row := walkCollectsUptoRow, standIns := [], harness := (true, "2c47f085cf01177a0bf2bc6a940d7fc6f39490ced87d29aa5cce1bc4b68e127f"), looks := false }, kinds := [], alts := [], laidByText := true, laidKinds := [.data, .data, .data], laidTests := true, laidLooks := .later }
def WalkCollectsUptoCardSaid : Prop := Claim7.holds Tryz.pinned (.plain (OpenSpec.upto walkCollectsSpec)) walkCollectsUptoCard
end Rows
end Go.Proofs.YtefpailelagbkaaGreatDoor
