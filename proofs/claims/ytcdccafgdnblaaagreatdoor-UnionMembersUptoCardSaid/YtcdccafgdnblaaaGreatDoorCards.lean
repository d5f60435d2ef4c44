/-
  DERIVED. GIVEN WITH THE SEED: THE CARDS: each row of YtcdccafgdnblaaaGreatDoorRows.lean that lists a variable, with what it lists TIED to the program's text (the seventh form; the later family's looks); each row that meets fmt, with fmt's text TOLD by the authors' own Lean function (tested against real Go, not proved from fmt's source: count such statements apart). THE CARD IS WHAT COUNTS. Prove the row's statement (the work); the ties are given (YtcdccafgdnblaaaGreatDoorTie.lean); close each card by the builder's one call (the guide's Derived/Test/ToyasCard.lean, 'card_holds'). Laid BY PROGRAM, IN A SANDBOX (cutbox-door.mjs). By AI agents, Wed Nov 11 2026. No macro, syntax, notation, axiom, sorry.
-/
import Derived.Test.YtcdccafgdnblaaaGreatDoorRows
import GoSem.ClaimSeven
namespace Go.Proofs.YtcdccafgdnblaaaGreatDoor
namespace Rows

/-- THE TIED CARD OF 'ordinallaw48.UnionMembers'. -/
def unionMembersCard : Claim7 := { stood := { row := unionMembersRow, standIns := [], harness := (true, "6927f71dbc7bb6d38078b24ed3d8937c2edeed483ab1266d655be558e707d5c7"), looks := false }, kinds := [], alts := [], laidByText := true, laidKinds := [.data, .data, .data], laidTests := true, laidLooks := .later }
def UnionMembersCardSaid : Prop := Claim7.holds Tryz.pinned (.plain (OpenSpec.ofChange unionMembersSpec)) unionMembersCard

/-- THE SECOND FORM's CARD OF 'ordinallaw48.UnionMembers'. -/
def unionMembersUptoCard : Claim7 := { stood := { row := unionMembersUptoRow, standIns := [], harness := (true, "6927f71dbc7bb6d38078b24ed3d8937c2edeed483ab1266d655be558e707d5c7"), looks := false }, kinds := [], alts := [], laidByText := true, laidKinds := [.data, .data, .data], laidTests := true, laidLooks := .later }
def UnionMembersUptoCardSaid : Prop := Claim7.holds Tryz.pinned (.plain (OpenSpec.upto unionMembersSpec)) unionMembersUptoCard
end Rows
end Go.Proofs.YtcdccafgdnblaaaGreatDoor
