/-
  DERIVED. GIVEN WITH THE SEED: THE CARDS: each row of YtebcagekopgdhaaGreatDoorRows.lean that lists a variable, with what it lists TIED to the program's text (the seventh form; the later family's looks); each row that meets fmt, with fmt's text TOLD by the authors' own Lean function (tested against real Go, not proved from fmt's source: count such statements apart). THE CARD IS WHAT COUNTS. Prove the row's statement (the work); the ties are given (YtebcagekopgdhaaGreatDoorTie.lean); close each card by the builder's one call (the guide's Derived/Test/ToyasCard.lean, 'card_holds'). Laid BY PROGRAM, IN A SANDBOX (cutbox-door.mjs). By AI agents, Wed Nov 11 2026. No macro, syntax, notation, axiom, sorry.
-/
import Derived.Test.YtebcagekopgdhaaGreatDoorRows
import GoSem.ClaimSeven
namespace Go.Proofs.YtebcagekopgdhaaGreatDoor
namespace Rows

/-- THE TIED CARD OF 'ordinallaw41.AccessLarge'. -/
def accessLargeCard : Claim7 := { stood := { row := accessLargeRow, standIns := [], harness := (true, "13bdeddcc4cd021b4258fe117c7f94b1417a641fae647e5267453e2e417913a2"), looks := false }, kinds := [], alts := [], laidByText := true, laidKinds := [.data, .data, .data], laidTests := true, laidLooks := .later }
def AccessLargeCardSaid : Prop := Claim7.holds Tryz.pinned (.plain (OpenSpec.ofChange accessLargeSpec)) accessLargeCard

/-- THE TIED CARD OF 'ordinallaw44.WalkPieces'. -/
def walkPiecesCard : Claim7 := { stood := { row := walkPiecesRow, standIns := [], harness := (true, "13bdeddcc4cd021b4258fe117c7f94b1417a641fae647e5267453e2e417913a2"), looks := false }, kinds := [], alts := [], laidByText := true, laidKinds := [.data, .data, .data], laidTests := true, laidLooks := .later }
def WalkPiecesCardSaid : Prop := Claim7.holds Tryz.pinned (.plain (OpenSpec.ofChange walkPiecesSpec)) walkPiecesCard

/-- THE TIED CARD OF 'ordinallaw44.WalkPrefixes'. -/
def walkPrefixesCard : Claim7 := { stood := { row := walkPrefixesRow, standIns := [], harness := (true, "13bdeddcc4cd021b4258fe117c7f94b1417a641fae647e5267453e2e417913a2"), looks := false }, kinds := [], alts := [], laidByText := true, laidKinds := [.data, .data, .data], laidTests := true, laidLooks := .later }
def WalkPrefixesCardSaid : Prop := Claim7.holds Tryz.pinned (.plain (OpenSpec.ofChange walkPrefixesSpec)) walkPrefixesCard

/-- THE TIED CARD OF 'ordinallaw42.RankNext'. -/
def rankNextCard : Claim7 := { stood := { row := rankNextRow, standIns := [], harness := (true, "13bdeddcc4cd021b4258fe117c7f94b1417a641fae647e5267453e2e417913a2"), looks := false }, kinds := [], alts := [], laidByText := true, laidKinds := [.data, .data, .data], laidTests := true, laidLooks := .later }
def RankNextCardSaid : Prop := Claim7.holds Tryz.pinned (.plain (OpenSpec.ofChange rankNextSpec)) rankNextCard

/-- THE TIED CARD OF 'ordinallaw42.RankOf'. -/
def rankOfCard : Claim7 := { stood := { row := rankOfRow, standIns := [], harness := (true, "13bdeddcc4cd021b4258fe117c7f94b1417a641fae647e5267453e2e417913a2"), looks := false }, kinds := [], alts := [], laidByText := true, laidKinds := [.data, .data, .data], laidTests := true, laidLooks := .later }
def RankOfCardSaid : Prop := Claim7.holds Tryz.pinned (.plain (OpenSpec.ofChange rankOfSpec)) rankOfCard

/-- THE TIED CARD OF 'ordinallaw42.RankInverse'. -/
def rankInverseCard : Claim7 := { stood := { row := rankInverseRow, standIns := [], harness := (true, "13bdeddcc4cd021b4258fe117c7f94b1417a641fae647e5267453e2e417913a2"), looks := false }, kinds := [], alts := [], laidByText := true, laidKinds := [.data, .data, .data], laidTests := true, laidLooks := .later }
def RankInverseCardSaid : Prop := Claim7.holds Tryz.pinned (.plain (OpenSpec.ofChange rankInverseSpec)) rankInverseCard

/-- THE TIED CARD OF 'ordinallaw42.RankPrefix'. -/
def rankPrefixCard : Claim7 := { stood := { row := rankPrefixRow, standIns := [], harness := (true, "13bdeddcc4cd021b4258fe117c7f94b1417a641fae647e5267453e2e417913a2"), looks := false }, kinds := [], alts := [], laidByText := true, laidKinds := [.data, .data, .data], laidTests := true, laidLooks := .later }
def RankPrefixCardSaid : Prop := Claim7.holds Tryz.pinned (.plain (OpenSpec.ofChange rankPrefixSpec)) rankPrefixCard

/-- THE TIED CARD OF 'ordinallaw42.RankBetween'. -/
def rankBetweenCard : Claim7 := { stood := { row := rankBetweenRow, standIns := [], harness := (true, "13bdeddcc4cd021b4258fe117c7f94b1417a641fae647e5267453e2e417913a2"), looks := false }, kinds := [], alts := [], laidByText := true, laidKinds := [.data, .data, .data], laidTests := true, laidLooks := .later }
def RankBetweenCardSaid : Prop := Claim7.holds Tryz.pinned (.plain (OpenSpec.ofChange rankBetweenSpec)) rankBetweenCard

/-- THE TIED CARD OF 'ordinallaw42.RankLarge'. -/
def rankLargeCard : Claim7 := { stood := { row := rankLargeRow, standIns := [], harness := (true, "13bdeddcc4cd021b4258fe117c7f94b1417a641fae647e5267453e2e417913a2"), looks := false }, kinds := [], alts := [], laidByText := true, laidKinds := [.data, .data, .data], laidTests := true, laidLooks := .later }
def RankLargeCardSaid : Prop := Claim7.holds Tryz.pinned (.plain (OpenSpec.ofChange rankLargeSpec)) rankLargeCard

/-- THE TIED CARD OF 'ordinallaw42.RankAdds'. -/
def rankAddsCard : Claim7 := { stood := { row := rankAddsRow, standIns := [], harness := (true, "13bdeddcc4cd021b4258fe117c7f94b1417a641fae647e5267453e2e417913a2"), looks := false }, kinds := [], alts := [], laidByText := true, laidKinds := [.data, .data, .data], laidTests := true, laidLooks := .later }
def RankAddsCardSaid : Prop := Claim7.holds Tryz.pinned (.plain (OpenSpec.ofChange rankAddsSpec)) rankAddsCard

/-- THE SECOND FORM's CARD OF 'ordinallaw41.AccessLarge'. -/
def accessLargeUptoCard : Claim7 := { stood := { row := accessLargeUptoRow, standIns := [], harness := (true, "13bdeddcc4cd021b4258fe117c7f94b1417a641fae647e5267453e2e417913a2"), looks := false }, kinds := [], alts := [], laidByText := true, laidKinds := [.data, .data, .data], laidTests := true, laidLooks := .later }
def AccessLargeUptoCardSaid : Prop := Claim7.holds Tryz.pinned (.plain (OpenSpec.upto accessLargeSpec)) accessLargeUptoCard

/-- THE SECOND FORM's CARD OF 'ordinallaw44.WalkPieces'. -/
def walkPiecesUptoCard : Claim7 := { stood := { row := walkPiecesUptoRow, standIns := [], harness := (true, "13bdeddcc4cd021b4258fe117c7f94b1417a641fae647e5267453e2e417913a2"), looks := false }, kinds := [], alts := [], laidByText := true, laidKinds := [.data, .data, .data], laidTests := true, laidLooks := .later }
def WalkPiecesUptoCardSaid : Prop := Claim7.holds Tryz.pinned (.plain (OpenSpec.upto walkPiecesSpec)) walkPiecesUptoCard

/-- THE SECOND FORM's CARD OF 'ordinallaw44.WalkPrefixes'. -/
def walkPrefixesUptoCard : Claim7 := { stood := { row := walkPrefixesUptoRow, standIns := [], harness := (true, "13bdeddcc4cd021b4258fe117c7f94b1417a641fae647e5267453e2e417913a2"), looks := false }, kinds := [], alts := [], laidByText := true, laidKinds := [.data, .data, .data], laidTests := true, laidLooks := .later }
def WalkPrefixesUptoCardSaid : Prop := Claim7.holds Tryz.pinned (.plain (OpenSpec.upto walkPrefixesSpec)) walkPrefixesUptoCard

/-- THE SECOND FORM's CARD OF 'ordinallaw42.RankNext'. -/
def rankNextUptoCard : Claim7 := { stood := { row := rankNextUptoRow, standIns := [], harness := (true, "13bdeddcc4cd021b4258fe117c7f94b1417a641fae647e5267453e2e417913a2"), looks := false }, kinds := [], alts := [], laidByText := true, laidKinds := [.data, .data, .data], laidTests := true, laidLooks := .later }
def RankNextUptoCardSaid : Prop := Claim7.holds Tryz.pinned (.plain (OpenSpec.upto rankNextSpec)) rankNextUptoCard

/-- THE SECOND FORM's CARD OF 'ordinallaw42.RankOf'. -/
def rankOfUptoCard : Claim7 := { stood := { row := rankOfUptoRow, standIns := [], harness := (true, "13bdeddcc4cd021b4258fe117c7f94b1417a641fae647e5267453e2e417913a2"), looks := false }, kinds := [], alts := [], laidByText := true, laidKinds := [.data, .data, .data], laidTests := true, laidLooks := .later }
def RankOfUptoCardSaid : Prop := Claim7.holds Tryz.pinned (.plain (OpenSpec.upto rankOfSpec)) rankOfUptoCard

/-- THE SECOND FORM's CARD OF 'ordinallaw42.RankInverse'. -/
def rankInverseUptoCard : Claim7 := { stood := { row := rankInverseUptoRow, standIns := [], harness := (true, "13bdeddcc4cd021b4258fe117c7f94b1417a641fae647e5267453e2e417913a2"), looks := false }, kinds := [], alts := [], laidByText := true, laidKinds := [.data, .data, .data], laidTests := true, laidLooks := .later }
def RankInverseUptoCardSaid : Prop := Claim7.holds Tryz.pinned (.plain (OpenSpec.upto rankInverseSpec)) rankInverseUptoCard

/-- THE SECOND FORM's CARD OF 'ordinallaw42.RankPrefix'. -/
def rankPrefixUptoCard : Claim7 := { stood := { row := rankPrefixUptoRow, standIns := [], harness := (true, "13bdeddcc4cd021b4258fe117c7f94b1417a641fae647e5267453e2e417913a2"), looks := false }, kinds := [], alts := [], laidByText := true, laidKinds := [.data, .data, .data], laidTests := true, laidLooks := .later }
def RankPrefixUptoCardSaid : Prop := Claim7.holds Tryz.pinned (.plain (OpenSpec.upto rankPrefixSpec)) rankPrefixUptoCard

/-- THE SECOND FORM's CARD OF 'ordinallaw42.RankBetween'. -/
def rankBetweenUptoCard : Claim7 := { stood := { row := rankBetweenUptoRow, standIns := [], harness := (true, "13bdeddcc4cd021b4258fe117c7f94b1417a641fae647e5267453e2e417913a2"), looks := false }, kinds := [], alts := [], laidByText := true, laidKinds := [.data, .data, .data], laidTests := true, laidLooks := .later }
def RankBetweenUptoCardSaid : Prop := Claim7.holds Tryz.pinned (.plain (OpenSpec.upto rankBetweenSpec)) rankBetweenUptoCard

/-- THE SECOND FORM's CARD OF 'ordinallaw42.RankLarge'. -/
def rankLargeUptoCard : Claim7 := { stood := { row := rankLargeUptoRow, standIns := [], harness := (true, "13bdeddcc4cd021b4258fe117c7f94b1417a641fae647e5267453e2e417913a2"), looks := false }, kinds := [], alts := [], laidByText := true, laidKinds := [.data, .data, .data], laidTests := true, laidLooks := .later }
def RankLargeUptoCardSaid : Prop := Claim7.holds Tryz.pinned (.plain (OpenSpec.upto rankLargeSpec)) rankLargeUptoCard

/-- THE SECOND FORM's CARD OF 'ordinallaw42.RankAdds'. -/
def rankAddsUptoCard : Claim7 := { stood := { row := rankAddsUptoRow, standIns := [], harness := (true, "13bdeddcc4cd021b4258fe117c7f94b1417a641fae647e5267453e2e417913a2"), looks := false }, kinds := [], alts := [], laidByText := true, laidKinds := [.data, .data, .data], laidTests := true, laidLooks := .later }
def RankAddsUptoCardSaid : Prop := Claim7.holds Tryz.pinned (.plain (OpenSpec.upto rankAddsSpec)) rankAddsUptoCard
end Rows
end Go.Proofs.YtebcagekopgdhaaGreatDoor
