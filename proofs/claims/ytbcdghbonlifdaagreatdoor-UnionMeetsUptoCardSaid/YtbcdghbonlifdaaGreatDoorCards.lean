/-
  DERIVED. GIVEN WITH THE SEED: THE CARDS: each row of YtbcdghbonlifdaaGreatDoorRows.lean that lists a variable, with what it lists TIED to the program's text (the seventh form; the later family's looks); each row that meets fmt, with fmt's text TOLD by the authors' own Lean function (tested against real Go, not proved from fmt's source: count such statements apart). THE CARD IS WHAT COUNTS. Prove the row's statement (the work); the ties are given (YtbcdghbonlifdaaGreatDoorTie.lean); close each card by the builder's one call (the guide's Derived/Test/ToyasCard.lean, 'card_holds'). Laid BY PROGRAM, IN A SANDBOX (cutbox-door.mjs). By AI agents, Wed Nov 11 2026. No macro, syntax, notation, axiom, sorry.
-/
import Derived.Test.YtbcdghbonlifdaaGreatDoorRows
import GoSem.ClaimSeven
namespace Go.Proofs.YtbcdghbonlifdaaGreatDoor
namespace Rows

/-- THE TIED CARD OF 'ordinallaw48.UnionArray'. -/
def unionArrayCard : Claim7 := { stood := { row := unionArrayRow, standIns := [], harness := (true, "d653073f3d464d83034a413d1d4ed4d090dfc8c61f7938c0ddc4e23c1e8858cd"), looks := false }, kinds := [], alts := [], laidByText := true, laidKinds := [.data, .data, .data], laidTests := true, laidLooks := .later }
def UnionArrayCardSaid : Prop := Claim7.holds Tryz.pinned (.plain (OpenSpec.ofChange unionArraySpec)) unionArrayCard

/-- THE TIED CARD OF 'ordinallaw48.UnionRanks'. -/
def unionRanksCard : Claim7 := { stood := { row := unionRanksRow, standIns := [], harness := (true, "d653073f3d464d83034a413d1d4ed4d090dfc8c61f7938c0ddc4e23c1e8858cd"), looks := false }, kinds := [], alts := [], laidByText := true, laidKinds := [.data, .data, .data], laidTests := true, laidLooks := .later }
def UnionRanksCardSaid : Prop := Claim7.holds Tryz.pinned (.plain (OpenSpec.ofChange unionRanksSpec)) unionRanksCard

/-- THE TIED CARD OF 'ordinallaw48.UnionRefuses'. -/
def unionRefusesCard : Claim7 := { stood := { row := unionRefusesRow, standIns := [], harness := (true, "d653073f3d464d83034a413d1d4ed4d090dfc8c61f7938c0ddc4e23c1e8858cd"), looks := false }, kinds := [], alts := [], laidByText := true, laidKinds := [.data, .data, .data], laidTests := true, laidLooks := .later }
def UnionRefusesCardSaid : Prop := Claim7.holds Tryz.pinned (.plain (OpenSpec.ofChange unionRefusesSpec)) unionRefusesCard

/-- THE TIED CARD OF 'ordinallaw48.UnionSizes'. -/
def unionSizesCard : Claim7 := { stood := { row := unionSizesRow, standIns := [], harness := (true, "d653073f3d464d83034a413d1d4ed4d090dfc8c61f7938c0ddc4e23c1e8858cd"), looks := false }, kinds := [], alts := [], laidByText := true, laidKinds := [.data, .data, .data], laidTests := true, laidLooks := .later }
def UnionSizesCardSaid : Prop := Claim7.holds Tryz.pinned (.plain (OpenSpec.ofChange unionSizesSpec)) unionSizesCard

/-- THE TIED CARD OF 'ordinallaw48.UnionSteps'. -/
def unionStepsCard : Claim7 := { stood := { row := unionStepsRow, standIns := [], harness := (true, "d653073f3d464d83034a413d1d4ed4d090dfc8c61f7938c0ddc4e23c1e8858cd"), looks := false }, kinds := [], alts := [], laidByText := true, laidKinds := [.data, .data, .data], laidTests := true, laidLooks := .later }
def UnionStepsCardSaid : Prop := Claim7.holds Tryz.pinned (.plain (OpenSpec.ofChange unionStepsSpec)) unionStepsCard

/-- THE TIED CARD OF 'ordinallaw48.UnionMeets'. -/
def unionMeetsCard : Claim7 := { stood := { row := unionMeetsRow, standIns := [], harness := (true, "d653073f3d464d83034a413d1d4ed4d090dfc8c61f7938c0ddc4e23c1e8858cd"), looks := false }, kinds := [], alts := [], laidByText := true, laidKinds := [.data, .data, .data], laidTests := true, laidLooks := .later }
def UnionMeetsCardSaid : Prop := Claim7.holds Tryz.pinned (.plain (OpenSpec.ofChange unionMeetsSpec)) unionMeetsCard

/-- THE TIED CARD OF 'ordinallaw48.UnionMembers'. -/
def unionMembersCard : Claim7 := { stood := { row := unionMembersRow, standIns := [], harness := (true, "d653073f3d464d83034a413d1d4ed4d090dfc8c61f7938c0ddc4e23c1e8858cd"), looks := false }, kinds := [], alts := [], laidByText := true, laidKinds := [.data, .data, .data], laidTests := true, laidLooks := .later }
def UnionMembersCardSaid : Prop := Claim7.holds Tryz.pinned (.plain (OpenSpec.ofChange unionMembersSpec)) unionMembersCard

/-- THE SECOND FORM's CARD OF 'ordinallaw48.UnionArray'. -/
def unionArrayUptoCard : Claim7 := { stood := { row := unionArrayUptoRow, standIns := [], harness := (true, "d653073f3d464d83034a413d1d4ed4d090dfc8c61f7938c0ddc4e23c1e8858cd"), looks := false }, kinds := [], alts := [], laidByText := true, laidKinds := [.data, .data, .data], laidTests := true, laidLooks := .later }
def UnionArrayUptoCardSaid : Prop := Claim7.holds Tryz.pinned (.plain (OpenSpec.upto unionArraySpec)) unionArrayUptoCard

/-- THE SECOND FORM's CARD OF 'ordinallaw48.UnionRanks'. -/
def unionRanksUptoCard : Claim7 := { stood := { row := unionRanksUptoRow, standIns := [], harness := (true, "d653073f3d464d83034a413d1d4ed4d090dfc8c61f7938c0ddc4e23c1e8858cd"), looks := false }, kinds := [], alts := [], laidByText := true, laidKinds := [.data, .data, .data], laidTests := true, laidLooks := .later }
def UnionRanksUptoCardSaid : Prop := Claim7.holds Tryz.pinned (.plain (OpenSpec.upto unionRanksSpec)) unionRanksUptoCard

/-- THE SECOND FORM's CARD OF 'ordinallaw48.UnionRefuses'. -/
def unionRefusesUptoCard : Claim7 := { stood := { row := unionRefusesUptoRow, standIns := [], harness := (true, "d653073f3d464d83034a413d1d4ed4d090dfc8c61f7938c0ddc4e23c1e8858cd"), looks := false }, kinds := [], alts := [], laidByText := true, laidKinds := [.data, .data, .data], laidTests := true, laidLooks := .later }
def UnionRefusesUptoCardSaid : Prop := Claim7.holds Tryz.pinned (.plain (OpenSpec.upto unionRefusesSpec)) unionRefusesUptoCard

/-- THE SECOND FORM's CARD OF 'ordinallaw48.UnionSizes'. -/
def unionSizesUptoCard : Claim7 := { stood := { row := unionSizesUptoRow, standIns := [], harness := (true, "d653073f3d464d83034a413d1d4ed4d090dfc8c61f7938c0ddc4e23c1e8858cd"), looks := false }, kinds := [], alts := [], laidByText := true, laidKinds := [.data, .data, .data], laidTests := true, laidLooks := .later }
def UnionSizesUptoCardSaid : Prop := Claim7.holds Tryz.pinned (.plain (OpenSpec.upto unionSizesSpec)) unionSizesUptoCard

/-- THE SECOND FORM's CARD OF 'ordinallaw48.UnionSteps'. -/
def unionStepsUptoCard : Claim7 := { stood := { row := unionStepsUptoRow, standIns := [], harness := (true, "d653073f3d464d83034a413d1d4ed4d090dfc8c61f7938c0ddc4e23c1e8858cd"), looks := false }, kinds := [], alts := [], laidByText := true, laidKinds := [.data, .data, .data], laidTests := true, laidLooks := .later }
def UnionStepsUptoCardSaid : Prop := Claim7.holds Tryz.pinned (.plain (OpenSpec.upto unionStepsSpec)) unionStepsUptoCard

/-- THE SECOND FORM's CARD OF 'ordinallaw48.UnionMeets'. -/
def unionMeetsUptoCard : Claim7 := { stood := { row := unionMeetsUptoRow, standIns := [], harness := (true, "d653073f3d464d83034a413d1d4ed4d090dfc8c61f7938c0ddc4e23c1e8858cd"), looks := false }, kinds := [], alts := [], laidByText := true, laidKinds := [.data, .data, .data], laidTests := true, laidLooks := .later }
def UnionMeetsUptoCardSaid : Prop := Claim7.holds Tryz.pinned (.plain (OpenSpec.upto unionMeetsSpec)) unionMeetsUptoCard

/-- THE SECOND FORM's CARD OF 'ordinallaw48.UnionMembers'. -/
def unionMembersUptoCard : Claim7 := { stood := { row := unionMembersUptoRow, standIns := [], harness := (true, "d653073f3d464d83034a413d1d4ed4d090dfc8c61f7938c0ddc4e23c1e8858cd"), looks := false }, kinds := [], alts := [], laidByText := true, laidKinds := [.data, .data, .data], laidTests := true, laidLooks := .later }
def UnionMembersUptoCardSaid : Prop := Claim7.holds Tryz.pinned (.plain (OpenSpec.upto unionMembersSpec)) unionMembersUptoCard
end Rows
end Go.Proofs.YtbcdghbonlifdaaGreatDoor
