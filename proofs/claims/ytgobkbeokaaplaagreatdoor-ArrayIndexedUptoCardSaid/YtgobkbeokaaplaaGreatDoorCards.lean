/-
  DERIVED. GIVEN WITH THE SEED: THE CARDS: each row of YtgobkbeokaaplaaGreatDoorRows.lean that lists a variable, with what it lists TIED to the program's text (the seventh form; the later family's looks); each row that meets fmt, with fmt's text TOLD by the authors' own Lean function (tested against real Go, not proved from fmt's source: count such statements apart). THE CARD IS WHAT COUNTS. Prove the row's statement (the work); the ties are given (YtgobkbeokaaplaaGreatDoorTie.lean); close each card by the builder's one call (the guide's Derived/Test/ToyasCard.lean, 'card_holds'). Laid BY PROGRAM, IN A SANDBOX (cutbox-door.mjs). By AI agents, Wed Nov 11 2026. No macro, syntax, notation, axiom, sorry.
-/
import Derived.Test.YtgobkbeokaaplaaGreatDoorRows
import GoSem.ClaimSeven
namespace Go.Proofs.YtgobkbeokaaplaaGreatDoor
namespace Rows

/-- THE TIED CARD OF 'ordinallaw48.UnionRefuses'. -/
def unionRefusesCard : Claim7 := { stood := { row := unionRefusesRow, standIns := [], harness := (true, "28309295e940ff4eb4bcf8ca7e9dcca88767aba45b6de024a5ab57632d7300db"), looks := false }, kinds := [], alts := [], laidByText := true, laidKinds := [.data, .data, .data], laidTests := true, laidLooks := .later }
def UnionRefusesCardSaid : Prop := Claim7.holds Tryz.pinned (.plain (OpenSpec.ofChange unionRefusesSpec)) unionRefusesCard

/-- THE TIED CARD OF 'ordinallaw48.UnionSteps'. -/
def unionStepsCard : Claim7 := { stood := { row := unionStepsRow, standIns := [], harness := (true, "28309295e940ff4eb4bcf8ca7e9dcca88767aba45b6de024a5ab57632d7300db"), looks := false }, kinds := [], alts := [], laidByText := true, laidKinds := [.data, .data, .data], laidTests := true, laidLooks := .later }
def UnionStepsCardSaid : Prop := Claim7.holds Tryz.pinned (.plain (OpenSpec.ofChange unionStepsSpec)) unionStepsCard

/-- THE TIED CARD OF 'ordinallaw48.UnionMembers'. -/
def unionMembersCard : Claim7 := { stood := { row := unionMembersRow, standIns := [], harness := (true, "28309295e940ff4eb4bcf8ca7e9dcca88767aba45b6de024a5ab57632d7300db"), looks := false }, kinds := [], alts := [], laidByText := true, laidKinds := [.data, .data, .data], laidTests := true, laidLooks := .later }
def UnionMembersCardSaid : Prop := Claim7.holds Tryz.pinned (.plain (OpenSpec.ofChange unionMembersSpec)) unionMembersCard

/-- THE TIED CARD OF 'ordinallaw43.ArrayIndexed'. -/
def arrayIndexedCard : Claim7 := { stood := { row := arrayIndexedRow, standIns := [], harness := (true, "28309295e940ff4eb4bcf8ca7e9dcca88767aba45b6de024a5ab57632d7300db"), looks := false }, kinds := [], alts := [], laidByText := true, laidKinds := [.data, .data, .data], laidTests := true, laidLooks := .later }
def ArrayIndexedCardSaid : Prop := Claim7.holds Tryz.pinned (.plain (OpenSpec.ofChange arrayIndexedSpec)) arrayIndexedCard

/-- THE TIED CARD OF 'ordinallaw43.ArrayMixes'. -/
def arrayMixesCard : Claim7 := { stood := { row := arrayMixesRow, standIns := [], harness := (true, "28309295e940ff4eb4bcf8ca7e9dcca88767aba45b6de024a5ab57632d7300db"), looks := false }, kinds := [], alts := [], laidByText := true, laidKinds := [.data, .data, .data], laidTests := true, laidLooks := .later }
def ArrayMixesCardSaid : Prop := Claim7.holds Tryz.pinned (.plain (OpenSpec.ofChange arrayMixesSpec)) arrayMixesCard

/-- THE TIED CARD OF 'ordinallaw47.DifferenceJoins'. -/
def differenceJoinsCard : Claim7 := { stood := { row := differenceJoinsRow, standIns := [], harness := (true, "28309295e940ff4eb4bcf8ca7e9dcca88767aba45b6de024a5ab57632d7300db"), looks := false }, kinds := [], alts := [], laidByText := true, laidKinds := [.data, .data, .data], laidTests := true, laidLooks := .later }
def DifferenceJoinsCardSaid : Prop := Claim7.holds Tryz.pinned (.plain (OpenSpec.ofChange differenceJoinsSpec)) differenceJoinsCard

/-- THE SECOND FORM's CARD OF 'ordinallaw48.UnionRefuses'. -/
def unionRefusesUptoCard : Claim7 := { stood := { row := unionRefusesUptoRow, standIns := [], harness := (true, "28309295e940ff4eb4bcf8ca7e9dcca88767aba45b6de024a5ab57632d7300db"), looks := false }, kinds := [], alts := [], laidByText := true, laidKinds := [.data, .data, .data], laidTests := true, laidLooks := .later }
def UnionRefusesUptoCardSaid : Prop := Claim7.holds Tryz.pinned (.plain (OpenSpec.upto unionRefusesSpec)) unionRefusesUptoCard

/-- THE SECOND FORM's CARD OF 'ordinallaw48.UnionSteps'. -/
def unionStepsUptoCard : Claim7 := { stood := { row := unionStepsUptoRow, standIns := [], harness := (true, "28309295e940ff4eb4bcf8ca7e9dcca88767aba45b6de024a5ab57632d7300db"), looks := false }, kinds := [], alts := [], laidByText := true, laidKinds := [.data, .data, .data], laidTests := true, laidLooks := .later }
def UnionStepsUptoCardSaid : Prop := Claim7.holds Tryz.pinned (.plain (OpenSpec.upto unionStepsSpec)) unionStepsUptoCard

/-- THE SECOND FORM's CARD OF 'ordinallaw48.UnionMembers'. -/
def unionMembersUptoCard : Claim7 := { stood := { row := unionMembersUptoRow, standIns := [], harness := (true, "28309295e940ff4eb4bcf8ca7e9dcca88767aba45b6de024a5ab57632d7300db"), looks := false }, kinds := [], alts := [], laidByText := true, laidKinds := [.data, .data, .data], laidTests := true, laidLooks := .later }
def UnionMembersUptoCardSaid : Prop := Claim7.holds Tryz.pinned (.plain (OpenSpec.upto unionMembersSpec)) unionMembersUptoCard

/-- THE SECOND FORM's CARD OF 'ordinallaw43.ArrayIndexed'. -/
def arrayIndexedUptoCard : Claim7 := { stood := { row := arrayIndexedUptoRow, standIns := [], harness := (true, "28309295e940ff4eb4bcf8ca7e9dcca88767aba45b6de024a5ab57632d7300db"), looks := false }, kinds := [], alts := [], laidByText := true, laidKinds := [.data, .data, .data], laidTests := true, laidLooks := .later }
def ArrayIndexedUptoCardSaid : Prop := Claim7.holds Tryz.pinned (.plain (OpenSpec.upto arrayIndexedSpec)) arrayIndexedUptoCard

/-- THE SECOND FORM's CARD OF 'ordinallaw43.ArrayMixes'. -/
def arrayMixesUptoCard : Claim7 := { stood := { row := arrayMixesUptoRow, standIns := [], harness := (true, "28309295e940ff4eb4bcf8ca7e9dcca88767aba45b6de024a5ab57632d7300db"), looks := false }, kinds := [], alts := [], laidByText := true, laidKinds := [.data, .data, .data], laidTests := true, laidLooks := .later }
def ArrayMixesUptoCardSaid : Prop := Claim7.holds Tryz.pinned (.plain (OpenSpec.upto arrayMixesSpec)) arrayMixesUptoCard

/-- THE SECOND FORM's CARD OF 'ordinallaw47.DifferenceJoins'. -/
def differenceJoinsUptoCard : Claim7 := { stood := { row := differenceJoinsUptoRow, standIns := [], harness := (true, "28309295e940ff4eb4bcf8ca7e9dcca88767aba45b6de024a5ab57632d7300db"), looks := false }, kinds := [], alts := [], laidByText := true, laidKinds := [.data, .data, .data], laidTests := true, laidLooks := .later }
def DifferenceJoinsUptoCardSaid : Prop := Claim7.holds Tryz.pinned (.plain (OpenSpec.upto differenceJoinsSpec)) differenceJoinsUptoCard
end Rows
end Go.Proofs.YtgobkbeokaaplaaGreatDoor
