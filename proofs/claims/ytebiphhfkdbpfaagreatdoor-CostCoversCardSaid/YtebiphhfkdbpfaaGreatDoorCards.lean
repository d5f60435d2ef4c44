/-
  DERIVED. GIVEN WITH THE SEED: THE CARDS: each row of YtebiphhfkdbpfaaGreatDoorRows.lean that lists a variable, with what it lists TIED to the program's text (the seventh form; the later family's looks); each row that meets fmt, with fmt's text TOLD by the authors' own Lean function (tested against real Go, not proved from fmt's source: count such statements apart). THE CARD IS WHAT COUNTS. Prove the row's statement (the work); the ties are given (YtebiphhfkdbpfaaGreatDoorTie.lean); close each card by the builder's one call (the guide's Derived/Test/ToyasCard.lean, 'card_holds'). Laid BY PROGRAM, IN A SANDBOX (cutbox-door.mjs). By AI agents, Wed Nov 11 2026. No macro, syntax, notation, axiom, sorry.
-/
import Derived.Test.YtebiphhfkdbpfaaGreatDoorRows
import GoSem.ClaimSeven
namespace Go.Proofs.YtebiphhfkdbpfaaGreatDoor
namespace Rows

/-- THE TIED CARD OF 'ordinallaw54.CostHeights'. -/
def costHeightsCard : Claim7 := { stood := { row := costHeightsRow, standIns := [], harness := (true, "61bcdc4c36264d6b6ae98bf130c5a2422cf07d8ad31a3fc4252e23648c63e195"), looks := false }, kinds := [], alts := [], laidByText := true, laidKinds := [.data], laidTests := true, laidLooks := .later }
def CostHeightsCardSaid : Prop := Claim7.holds Tryz.pinned (.plain (OpenSpec.ofChange costHeightsSpec)) costHeightsCard

/-- THE TIED CARD OF 'ordinallaw54.CostEstimates'. -/
def costEstimatesCard : Claim7 := { stood := { row := costEstimatesRow, standIns := [], harness := (true, "61bcdc4c36264d6b6ae98bf130c5a2422cf07d8ad31a3fc4252e23648c63e195"), looks := false }, kinds := [], alts := [], laidByText := true, laidKinds := [.data], laidTests := true, laidLooks := .later }
def CostEstimatesCardSaid : Prop := Claim7.holds Tryz.pinned (.plain (OpenSpec.ofChange costEstimatesSpec)) costEstimatesCard

/-- THE TIED CARD OF 'ordinallaw54.CostGrows'. -/
def costGrowsCard : Claim7 := { stood := { row := costGrowsRow, standIns := [], harness := (true, "61bcdc4c36264d6b6ae98bf130c5a2422cf07d8ad31a3fc4252e23648c63e195"), looks := false }, kinds := [], alts := [], laidByText := true, laidKinds := [.data], laidTests := true, laidLooks := .later }
def CostGrowsCardSaid : Prop := Claim7.holds Tryz.pinned (.plain (OpenSpec.ofChange costGrowsSpec)) costGrowsCard

/-- THE TIED CARD OF 'ordinallaw54.CostRefuses'. -/
def costRefusesCard : Claim7 := { stood := { row := costRefusesRow, standIns := [], harness := (true, "61bcdc4c36264d6b6ae98bf130c5a2422cf07d8ad31a3fc4252e23648c63e195"), looks := false }, kinds := [], alts := [], laidByText := true, laidKinds := [.data], laidTests := true, laidLooks := .later }
def CostRefusesCardSaid : Prop := Claim7.holds Tryz.pinned (.plain (OpenSpec.ofChange costRefusesSpec)) costRefusesCard

/-- THE TIED CARD OF 'ordinallaw54.CostInside'. -/
def costInsideCard : Claim7 := { stood := { row := costInsideRow, standIns := [], harness := (true, "61bcdc4c36264d6b6ae98bf130c5a2422cf07d8ad31a3fc4252e23648c63e195"), looks := false }, kinds := [], alts := [], laidByText := true, laidKinds := [.data], laidTests := true, laidLooks := .later }
def CostInsideCardSaid : Prop := Claim7.holds Tryz.pinned (.plain (OpenSpec.ofChange costInsideSpec)) costInsideCard

/-- THE TIED CARD OF 'ordinallaw54.CostCovers'. -/
def costCoversCard : Claim7 := { stood := { row := costCoversRow, standIns := [], harness := (true, "61bcdc4c36264d6b6ae98bf130c5a2422cf07d8ad31a3fc4252e23648c63e195"), looks := false }, kinds := [], alts := [], laidByText := true, laidKinds := [.data], laidTests := true, laidLooks := .later }
def CostCoversCardSaid : Prop := Claim7.holds Tryz.pinned (.plain (OpenSpec.ofChange costCoversSpec)) costCoversCard

/-- THE TIED CARD OF 'ordinallaw54.CostHolds'. -/
def costHoldsCard : Claim7 := { stood := { row := costHoldsRow, standIns := [], harness := (true, "61bcdc4c36264d6b6ae98bf130c5a2422cf07d8ad31a3fc4252e23648c63e195"), looks := false }, kinds := [], alts := [], laidByText := true, laidKinds := [.data, .data, .data, .data], laidTests := true, laidLooks := .later }
def CostHoldsCardSaid : Prop := Claim7.holds Tryz.pinned (.plain (OpenSpec.ofChange costHoldsSpec)) costHoldsCard

/-- THE SECOND FORM's CARD OF 'ordinallaw54.CostHeights'. -/
def costHeightsUptoCard : Claim7 := { stood := { row := costHeightsUptoRow, standIns := [], harness := (true, "61bcdc4c36264d6b6ae98bf130c5a2422cf07d8ad31a3fc4252e23648c63e195"), looks := false }, kinds := [], alts := [], laidByText := true, laidKinds := [.data], laidTests := true, laidLooks := .later }
def CostHeightsUptoCardSaid : Prop := Claim7.holds Tryz.pinned (.plain (OpenSpec.upto costHeightsSpec)) costHeightsUptoCard

/-- THE SECOND FORM's CARD OF 'ordinallaw54.CostEstimates'. -/
def costEstimatesUptoCard : Claim7 := { stood := { row := costEstimatesUptoRow, standIns := [], harness := (true, "61bcdc4c36264d6b6ae98bf130c5a2422cf07d8ad31a3fc4252e23648c63e195"), looks := false }, kinds := [], alts := [], laidByText := true, laidKinds := [.data], laidTests := true, laidLooks := .later }
def CostEstimatesUptoCardSaid : Prop := Claim7.holds Tryz.pinned (.plain (OpenSpec.upto costEstimatesSpec)) costEstimatesUptoCard

/-- THE SECOND FORM's CARD OF 'ordinallaw54.CostGrows'. -/
def costGrowsUptoCard : Claim7 := { stood := { row := costGrowsUptoRow, standIns := [], harness := (true, "61bcdc4c36264d6b6ae98bf130c5a2422cf07d8ad31a3fc4252e23648c63e195"), looks := false }, kinds := [], alts := [], laidByText := true, laidKinds := [.data], laidTests := true, laidLooks := .later }
def CostGrowsUptoCardSaid : Prop := Claim7.holds Tryz.pinned (.plain (OpenSpec.upto costGrowsSpec)) costGrowsUptoCard

/-- THE SECOND FORM's CARD OF 'ordinallaw54.CostRefuses'. -/
def costRefusesUptoCard : Claim7 := { stood := { row := costRefusesUptoRow, standIns := [], harness := (true, "61bcdc4c36264d6b6ae98bf130c5a2422cf07d8ad31a3fc4252e23648c63e195"), looks := false }, kinds := [], alts := [], laidByText := true, laidKinds := [.data], laidTests := true, laidLooks := .later }
def CostRefusesUptoCardSaid : Prop := Claim7.holds Tryz.pinned (.plain (OpenSpec.upto costRefusesSpec)) costRefusesUptoCard

/-- THE SECOND FORM's CARD OF 'ordinallaw54.CostInside'. -/
def costInsideUptoCard : Claim7 := { stood := { row := costInsideUptoRow, standIns := [], harness := (true, "61bcdc4c36264d6b6ae98bf130c5a2422cf07d8ad31a3fc4252e23648c63e195"), looks := false }, kinds := [], alts := [], laidByText := true, laidKinds := [.data], laidTests := true, laidLooks := .later }
def CostInsideUptoCardSaid : Prop := Claim7.holds Tryz.pinned (.plain (OpenSpec.upto costInsideSpec)) costInsideUptoCard

/-- THE SECOND FORM's CARD OF 'ordinallaw54.CostCovers'. -/
def costCoversUptoCard : Claim7 := { stood := { row := costCoversUptoRow, standIns := [], harness := (true, "61bcdc4c36264d6b6ae98bf130c5a2422cf07d8ad31a3fc4252e23648c63e195"), looks := false }, kinds := [], alts := [], laidByText := true, laidKinds := [.data], laidTests := true, laidLooks := .later }
def CostCoversUptoCardSaid : Prop := Claim7.holds Tryz.pinned (.plain (OpenSpec.upto costCoversSpec)) costCoversUptoCard

/-- THE SECOND FORM's CARD OF 'ordinallaw54.CostHolds'. -/
def costHoldsUptoCard : Claim7 := { stood := { row := costHoldsUptoRow, standIns := [], harness := (true, "61bcdc4c36264d6b6ae98bf130c5a2422cf07d8ad31a3fc4252e23648c63e195"), looks := false }, kinds := [], alts := [], laidByText := true, laidKinds := [.data, .data, .data, .data], laidTests := true, laidLooks := .later }
def CostHoldsUptoCardSaid : Prop := Claim7.holds Tryz.pinned (.plain (OpenSpec.upto costHoldsSpec)) costHoldsUptoCard
end Rows
end Go.Proofs.YtebiphhfkdbpfaaGreatDoor
