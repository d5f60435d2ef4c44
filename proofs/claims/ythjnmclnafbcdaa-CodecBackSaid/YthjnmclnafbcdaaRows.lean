/-
  No cell of these rows narrows 'for every input' (looked for: loops, veiled, ifaces, maps, wideKeys, modest, calm, conditions, laid).
  DERIVED. THE GIVEN ROWS OF THIS SEAT. 7 by the template 'for every input the law returns true; each argument reads behind the call as it read before'; 0 by the template 'total and deterministic' (their statements: YthjnmclnafbcdaaTotals.lean).
  GIVEN WITH THE SEED: the statements are not yours to turn. If you find one false, say at which input.
  Laid BY PROGRAM, IN A SANDBOX (cutbox-rows.mjs): the forced cells as the released guide's own fill.sh prints them over the translation 5ab95378a5c9542d… (all of the seat's roots in one cut). By AI agents, Wed Nov 11 2026. No macro, syntax, notation, axiom, sorry.
-/
import Derived.Test.YthjnmclnafbcdaaChecked
import GoSem.Claim
import GoSem.ClaimJoined
import GoSem.ClaimMapViews
import Derived.JoinedTies
import Derived.KernelRfl
namespace Go.Proofs.Ythjnmclnafbcdaa
/- THE CELL 'sum', in the pinned program and in every row, IS THE sha256 OF THE DUMP (.gsa) THAT YthjnmclnafbcdaaProg.lean LOADS. Nothing in Lean hashes anything: it is a label: what it is worth is what the hold of that sum in a sandbox is worth. -/
noncomputable def Try.pinned : Pinned := { name := "ythjnmclnafbcdaa", sum := "5ab95378a5c9542d0000c8068adace471a216c430fa4e8b52a06d11a777e328f", checked := Try.checked }
namespace Rows
def none {H : Type} : Left H := { results := [], args := [] }

/-- 'ordinallaw03.CodecNumbers': WHATEVER THE INPUT: true; the input reads as it did. -/
def codecNumbersSpec : ChangeSpec := { name := "codecNumbers", fn := fun _ => fun
  | [d] => { results := [.lit (.bool true)], args := [d] }
  | _ => none }
def codecNumbersRow : OpenClaim := { program := "ythjnmclnafbcdaa", sum := "5ab95378a5c9542d0000c8068adace471a216c430fa4e8b52a06d11a777e328f", func := "ordinal/ordinallaw03.CodecNumbers", spec := "codecNumbers", apart := false }
def CodecNumbersSaid : Prop := codecNumbersRow.holds Try.pinned (OpenSpec.ofChange codecNumbersSpec)

/-- ITS FALSE NEIGHBOUR: 'it returns false'. Refute it at one input. -/
def codecNumbersWrong : ChangeSpec := { name := "codecNumbers", fn := fun _ => fun
  | [d] => { results := [.lit (.bool false)], args := [d] }
  | _ => none }
def CodecNumbersWrongFalsely : Prop := codecNumbersRow.holds Try.pinned (OpenSpec.ofChange codecNumbersWrong)

/-- 'ordinallaw03.CodecAppends': WHATEVER THE INPUT: true; the input reads as it did. -/
def codecAppendsSpec : ChangeSpec := { name := "codecAppends", fn := fun _ => fun
  | [d1, d2] => { results := [.lit (.bool true)], args := [d1, d2] }
  | _ => none }
def codecAppendsRow : OpenClaim := { program := "ythjnmclnafbcdaa", sum := "5ab95378a5c9542d0000c8068adace471a216c430fa4e8b52a06d11a777e328f", func := "ordinal/ordinallaw03.CodecAppends", spec := "codecAppends", apart := false }
def CodecAppendsSaid : Prop := codecAppendsRow.holds Try.pinned (OpenSpec.ofChange codecAppendsSpec)

/-- ITS FALSE NEIGHBOUR: 'it returns false'. Refute it at one input. -/
def codecAppendsWrong : ChangeSpec := { name := "codecAppends", fn := fun _ => fun
  | [d1, d2] => { results := [.lit (.bool false)], args := [d1, d2] }
  | _ => none }
def CodecAppendsWrongFalsely : Prop := codecAppendsRow.holds Try.pinned (OpenSpec.ofChange codecAppendsWrong)

/-- 'ordinallaw03.CodecEncodes': WHATEVER THE INPUT: true; the input reads as it did. -/
def codecEncodesSpec : ChangeSpec := { name := "codecEncodes", fn := fun _ => fun
  | [d1, d2] => { results := [.lit (.bool true)], args := [d1, d2] }
  | _ => none }
def codecEncodesRow : OpenClaim := { program := "ythjnmclnafbcdaa", sum := "5ab95378a5c9542d0000c8068adace471a216c430fa4e8b52a06d11a777e328f", func := "ordinal/ordinallaw03.CodecEncodes", spec := "codecEncodes", apart := false }
def CodecEncodesSaid : Prop := codecEncodesRow.holds Try.pinned (OpenSpec.ofChange codecEncodesSpec)

/-- ITS FALSE NEIGHBOUR: 'it returns false'. Refute it at one input. -/
def codecEncodesWrong : ChangeSpec := { name := "codecEncodes", fn := fun _ => fun
  | [d1, d2] => { results := [.lit (.bool false)], args := [d1, d2] }
  | _ => none }
def CodecEncodesWrongFalsely : Prop := codecEncodesRow.holds Try.pinned (OpenSpec.ofChange codecEncodesWrong)

/-- 'ordinallaw03.CodecJoins': WHATEVER THE INPUT: true; the input reads as it did. -/
def codecJoinsSpec : ChangeSpec := { name := "codecJoins", fn := fun _ => fun
  | [d1, d2, d3] => { results := [.lit (.bool true)], args := [d1, d2, d3] }
  | _ => none }
def codecJoinsRow : OpenClaim := { program := "ythjnmclnafbcdaa", sum := "5ab95378a5c9542d0000c8068adace471a216c430fa4e8b52a06d11a777e328f", func := "ordinal/ordinallaw03.CodecJoins", spec := "codecJoins", apart := false }
def CodecJoinsSaid : Prop := codecJoinsRow.holds Try.pinned (OpenSpec.ofChange codecJoinsSpec)

/-- ITS FALSE NEIGHBOUR: 'it returns false'. Refute it at one input. -/
def codecJoinsWrong : ChangeSpec := { name := "codecJoins", fn := fun _ => fun
  | [d1, d2, d3] => { results := [.lit (.bool false)], args := [d1, d2, d3] }
  | _ => none }
def CodecJoinsWrongFalsely : Prop := codecJoinsRow.holds Try.pinned (OpenSpec.ofChange codecJoinsWrong)

/-- 'ordinallaw03.CodecOrders': WHATEVER THE INPUT: true; the input reads as it did. -/
def codecOrdersSpec : ChangeSpec := { name := "codecOrders", fn := fun _ => fun
  | [d1, d2, d3] => { results := [.lit (.bool true)], args := [d1, d2, d3] }
  | _ => none }
def codecOrdersRow : OpenClaim := { program := "ythjnmclnafbcdaa", sum := "5ab95378a5c9542d0000c8068adace471a216c430fa4e8b52a06d11a777e328f", func := "ordinal/ordinallaw03.CodecOrders", spec := "codecOrders", inPlace := ["internal/bytealg.Compare"], apart := false }
def CodecOrdersSaid : Prop := codecOrdersRow.holds Try.pinned (OpenSpec.ofChange codecOrdersSpec)

/-- ITS FALSE NEIGHBOUR: 'it returns false'. Refute it at one input. -/
def codecOrdersWrong : ChangeSpec := { name := "codecOrders", fn := fun _ => fun
  | [d1, d2, d3] => { results := [.lit (.bool false)], args := [d1, d2, d3] }
  | _ => none }
def CodecOrdersWrongFalsely : Prop := codecOrdersRow.holds Try.pinned (OpenSpec.ofChange codecOrdersWrong)

/-- 'ordinallaw03.CodecDecodes': WHATEVER THE INPUT: true; the input reads as it did. -/
def codecDecodesSpec : ChangeSpec := { name := "codecDecodes", fn := fun _ => fun
  | [d1, d2] => { results := [.lit (.bool true)], args := [d1, d2] }
  | _ => none }
def codecDecodesRow : OpenClaim := { program := "ythjnmclnafbcdaa", sum := "5ab95378a5c9542d0000c8068adace471a216c430fa4e8b52a06d11a777e328f", func := "ordinal/ordinallaw03.CodecDecodes", spec := "codecDecodes", apart := false }
def CodecDecodesSaid : Prop := codecDecodesRow.holds Try.pinned (OpenSpec.ofChange codecDecodesSpec)

/-- ITS FALSE NEIGHBOUR: 'it returns false'. Refute it at one input. -/
def codecDecodesWrong : ChangeSpec := { name := "codecDecodes", fn := fun _ => fun
  | [d1, d2] => { results := [.lit (.bool false)], args := [d1, d2] }
  | _ => none }
def CodecDecodesWrongFalsely : Prop := codecDecodesRow.holds Try.pinned (OpenSpec.ofChange codecDecodesWrong)

/-- 'ordinallaw03.CodecBack': WHATEVER THE INPUT: true; the input reads as it did. -/
def codecBackSpec : ChangeSpec := { name := "codecBack", fn := fun _ => fun
  | [d1, d2, d3] => { results := [.lit (.bool true)], args := [d1, d2, d3] }
  | _ => none }
def codecBackRow : OpenClaim := { program := "ythjnmclnafbcdaa", sum := "5ab95378a5c9542d0000c8068adace471a216c430fa4e8b52a06d11a777e328f", func := "ordinal/ordinallaw03.CodecBack", spec := "codecBack", apart := false }
def CodecBackSaid : Prop := codecBackRow.holds Try.pinned (OpenSpec.ofChange codecBackSpec)

/-- ITS FALSE NEIGHBOUR: 'it returns false'. Refute it at one input. -/
def codecBackWrong : ChangeSpec := { name := "codecBack", fn := fun _ => fun
  | [d1, d2, d3] => { results := [.lit (.bool false)], args := [d1, d2, d3] }
  | _ => none }
def CodecBackWrongFalsely : Prop := codecBackRow.holds Try.pinned (OpenSpec.ofChange codecBackWrong)

/- THE SECOND FORM. 'bulk': how many values and letters a reading holds, each counted each time it is reached (what is shared counts as often as it is met; a slice's spare places count too). A statement '..UptoSaid' is the law's where the arguments, and the package variables that the reading takes, are together of bulk at most 1048576: NARROWER than '..Said'. Prove '..Said' where nothing that the law and all that it calls make is longer than what came in: it says more and counts as full. Else prove '..UptoSaid'. A law counts once. -/
mutual
def uptoBulk {H : Type} : DataW H → Nat
  | .lit (.string bytes) => bytes.length + 1
  | .lit _ => 1
  | .nil => 1
  | .ptr d => uptoBulk d + 1
  | .slice elems spare => uptoBulkAll elems + uptoBulkAll spare + 1
  | .agg parts => uptoBulkAll parts + 1
  | .iface _ d => uptoBulk d + 1
  | .map entries => uptoBulkEntries entries + 1
  | .held _ => 1
def uptoBulkAll {H : Type} : List (DataW H) → Nat
  | [] => 0
  | d :: r => uptoBulk d + uptoBulkAll r
def uptoBulkEntries {H : Type} : List (Lit × DataW H) → Nat
  | [] => 0
  | x :: r => uptoBulkEntry x + uptoBulkEntries r
def uptoBulkEntry {H : Type} : Lit × DataW H → Nat
  | (.string bytes, d) => bytes.length + uptoBulk d + 1
  | (_, d) => uptoBulk d + 1
 end
def uptoSmall : (H : Type) → List (DataW H) → Bool := fun _ ds => decide (uptoBulkAll ds ≤ 1048576)
def OpenSpec.upto (s : _root_.Go.ChangeSpec) : _root_.Go.OpenSpec := { _root_.Go.OpenSpec.ofChange s with cond := some uptoSmall }

/-- 'ordinallaw03.CodecNumbers', WHERE WHAT IT READS IS OF BULK AT MOST 1048576: true; the input reads as it did. -/
def codecNumbersUptoRow : OpenClaim := { program := "ythjnmclnafbcdaa", sum := "5ab95378a5c9542d0000c8068adace471a216c430fa4e8b52a06d11a777e328f", func := "ordinal/ordinallaw03.CodecNumbers", spec := "codecNumbers", apart := false, narrowed := true }
def CodecNumbersUptoSaid : Prop := codecNumbersUptoRow.holds Try.pinned (OpenSpec.upto codecNumbersSpec)

/-- 'ordinallaw03.CodecAppends', WHERE WHAT IT READS IS OF BULK AT MOST 1048576: true; the input reads as it did. -/
def codecAppendsUptoRow : OpenClaim := { program := "ythjnmclnafbcdaa", sum := "5ab95378a5c9542d0000c8068adace471a216c430fa4e8b52a06d11a777e328f", func := "ordinal/ordinallaw03.CodecAppends", spec := "codecAppends", apart := false, narrowed := true }
def CodecAppendsUptoSaid : Prop := codecAppendsUptoRow.holds Try.pinned (OpenSpec.upto codecAppendsSpec)

/-- 'ordinallaw03.CodecEncodes', WHERE WHAT IT READS IS OF BULK AT MOST 1048576: true; the input reads as it did. -/
def codecEncodesUptoRow : OpenClaim := { program := "ythjnmclnafbcdaa", sum := "5ab95378a5c9542d0000c8068adace471a216c430fa4e8b52a06d11a777e328f", func := "ordinal/ordinallaw03.CodecEncodes", spec := "codecEncodes", apart := false, narrowed := true }
def CodecEncodesUptoSaid : Prop := codecEncodesUptoRow.holds Try.pinned (OpenSpec.upto codecEncodesSpec)

/-- 'ordinallaw03.CodecJoins', WHERE WHAT IT READS IS OF BULK AT MOST 1048576: true; the input reads as it did. -/
def codecJoinsUptoRow : OpenClaim := { program := "ythjnmclnafbcdaa", sum := "5ab95378a5c9542d0000c8068adace471a216c430fa4e8b52a06d11a777e328f", func := "ordinal/ordinallaw03.CodecJoins", spec := "codecJoins", apart := false, narrowed := true }
def CodecJoinsUptoSaid : Prop := codecJoinsUptoRow.holds Try.pinned (OpenSpec.upto codecJoinsSpec)

/-- 'ordinallaw03.CodecOrders', WHERE WHAT IT READS IS OF BULK AT MOST 1048576: true; the input reads as it did. -/
def codecOrdersUptoRow : OpenClaim := { program := "ythjnmclnafbcdaa", sum := "5ab95378a5c9542d0000c8068adace471a216c430fa4e8b52a06d11a777e328f", func := "ordinal/ordinallaw03.CodecOrders", spec := "codecOrders", inPlace := ["internal/bytealg.Compare"], apart := false, narrowed := true }
def CodecOrdersUptoSaid : Prop := codecOrdersUptoRow.holds Try.pinned (OpenSpec.upto codecOrdersSpec)

/-- 'ordinallaw03.CodecDecodes', WHERE WHAT IT READS IS OF BULK AT MOST 1048576: true; the input reads as it did. -/
def codecDecodesUptoRow : OpenClaim := { program := "ythjnmclnafbcdaa", sum := "5ab95378a5c9542d0000c8068adace471a216c430fa4e8b52a06d11a777e328f", func := "ordinal/ordinallaw03.CodecDecodes", spec := "codecDecodes", apart := false, narrowed := true }
def CodecDecodesUptoSaid : Prop := codecDecodesUptoRow.holds Try.pinned (OpenSpec.upto codecDecodesSpec)

/-- 'ordinallaw03.CodecBack', WHERE WHAT IT READS IS OF BULK AT MOST 1048576: true; the input reads as it did. -/
def codecBackUptoRow : OpenClaim := { program := "ythjnmclnafbcdaa", sum := "5ab95378a5c9542d0000c8068adace471a216c430fa4e8b52a06d11a777e328f", func := "ordinal/ordinallaw03.CodecBack", spec := "codecBack", apart := false, narrowed := true }
def CodecBackUptoSaid : Prop := codecBackUptoRow.holds Try.pinned (OpenSpec.upto codecBackSpec)

end Rows
end Go.Proofs.Ythjnmclnafbcdaa
