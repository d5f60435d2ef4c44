/-
  No cell of these rows narrows 'for every input' (looked for: loops, veiled, ifaces, maps, wideKeys, modest, calm, conditions, laid).
  DERIVED. THE GIVEN ROWS OF THIS SEAT. 9 by the template 'for every input the law returns true; each argument reads behind the call as it read before'; 0 by the template 'total and deterministic' (their statements: YtpahjnfolbnloaaTotals.lean).
  GIVEN WITH THE SEED: the statements are not yours to turn. If you find one false, say at which input.
  Laid BY PROGRAM, IN A SANDBOX (cutbox-rows.mjs): the forced cells as the released guide's own fill.sh prints them over the translation 0793c6235d4035a7… (all of the seat's roots in one cut). By AI agents, Wed Nov 11 2026. No macro, syntax, notation, axiom, sorry.
-/
import Derived.Test.YtpahjnfolbnloaaChecked
import GoSem.Claim
import GoSem.ClaimJoined
import GoSem.ClaimMapViews
import Derived.JoinedTies
import Derived.KernelRfl
namespace Go.Proofs.Ytpahjnfolbnloaa
/- THE CELL 'sum', in the pinned program and in every row, IS THE sha256 OF THE DUMP (.gsa) THAT YtpahjnfolbnloaaProg.lean LOADS. Nothing in Lean hashes anything: it is a label: what it is worth is what the hold of that sum in a sandbox is worth. -/
noncomputable def Try.pinned : Pinned := { name := "ytpahjnfolbnloaa", sum := "0793c6235d4035a7a3b4340c1a501beb0bd81798b5b3a888aee963280e485d63", checked := Try.checked }
namespace Rows
def none {H : Type} : Left H := { results := [], args := [] }

/-- 'ordinallaw43.ArrayRows': WHATEVER THE INPUT: true; the input reads as it did. -/
def arrayRowsSpec : ChangeSpec := { name := "arrayRows", fn := fun _ => fun
  | [d1, d2, d3] => { results := [.lit (.bool true)], args := [d1, d2, d3] }
  | _ => none }
def arrayRowsRow : OpenClaim := { program := "ytpahjnfolbnloaa", sum := "0793c6235d4035a7a3b4340c1a501beb0bd81798b5b3a888aee963280e485d63", func := "ordinal/ordinallaw43.ArrayRows", spec := "arrayRows", inPlace := ["internal/bytealg.abigen_runtime_cmpstring"], unfollowed := true, recurses := true, apart := false }
def ArrayRowsSaid : Prop := arrayRowsRow.holds Try.pinned (OpenSpec.ofChange arrayRowsSpec)

/-- ITS FALSE NEIGHBOUR: 'it returns false'. Refute it at one input. -/
def arrayRowsWrong : ChangeSpec := { name := "arrayRows", fn := fun _ => fun
  | [d1, d2, d3] => { results := [.lit (.bool false)], args := [d1, d2, d3] }
  | _ => none }
def ArrayRowsWrongFalsely : Prop := arrayRowsRow.holds Try.pinned (OpenSpec.ofChange arrayRowsWrong)

/-- 'ordinallaw43.ArrayReverses': WHATEVER THE INPUT: true; the input reads as it did. -/
def arrayReversesSpec : ChangeSpec := { name := "arrayReverses", fn := fun _ => fun
  | [d1, d2, d3] => { results := [.lit (.bool true)], args := [d1, d2, d3] }
  | _ => none }
def arrayReversesRow : OpenClaim := { program := "ytpahjnfolbnloaa", sum := "0793c6235d4035a7a3b4340c1a501beb0bd81798b5b3a888aee963280e485d63", func := "ordinal/ordinallaw43.ArrayReverses", spec := "arrayReverses", inPlace := ["internal/bytealg.abigen_runtime_cmpstring"], unfollowed := true, recurses := true, apart := false }
def ArrayReversesSaid : Prop := arrayReversesRow.holds Try.pinned (OpenSpec.ofChange arrayReversesSpec)

/-- ITS FALSE NEIGHBOUR: 'it returns false'. Refute it at one input. -/
def arrayReversesWrong : ChangeSpec := { name := "arrayReverses", fn := fun _ => fun
  | [d1, d2, d3] => { results := [.lit (.bool false)], args := [d1, d2, d3] }
  | _ => none }
def ArrayReversesWrongFalsely : Prop := arrayReversesRow.holds Try.pinned (OpenSpec.ofChange arrayReversesWrong)

/-- 'ordinallaw43.ArraySlices': WHATEVER THE INPUT: true; the input reads as it did. -/
def arraySlicesSpec : ChangeSpec := { name := "arraySlices", fn := fun _ => fun
  | [d1, d2, d3] => { results := [.lit (.bool true)], args := [d1, d2, d3] }
  | _ => none }
def arraySlicesRow : OpenClaim := { program := "ytpahjnfolbnloaa", sum := "0793c6235d4035a7a3b4340c1a501beb0bd81798b5b3a888aee963280e485d63", func := "ordinal/ordinallaw43.ArraySlices", spec := "arraySlices", inPlace := ["internal/bytealg.abigen_runtime_cmpstring"], unfollowed := true, recurses := true, apart := false }
def ArraySlicesSaid : Prop := arraySlicesRow.holds Try.pinned (OpenSpec.ofChange arraySlicesSpec)

/-- ITS FALSE NEIGHBOUR: 'it returns false'. Refute it at one input. -/
def arraySlicesWrong : ChangeSpec := { name := "arraySlices", fn := fun _ => fun
  | [d1, d2, d3] => { results := [.lit (.bool false)], args := [d1, d2, d3] }
  | _ => none }
def ArraySlicesWrongFalsely : Prop := arraySlicesRow.holds Try.pinned (OpenSpec.ofChange arraySlicesWrong)

/-- 'ordinallaw43.ArrayAll': WHATEVER THE INPUT: true; the input reads as it did. -/
def arrayAllSpec : ChangeSpec := { name := "arrayAll", fn := fun _ => fun
  | [d1, d2, d3] => { results := [.lit (.bool true)], args := [d1, d2, d3] }
  | _ => none }
def arrayAllRow : OpenClaim := { program := "ytpahjnfolbnloaa", sum := "0793c6235d4035a7a3b4340c1a501beb0bd81798b5b3a888aee963280e485d63", func := "ordinal/ordinallaw43.ArrayAll", spec := "arrayAll", inPlace := ["internal/bytealg.abigen_runtime_cmpstring"], unfollowed := true, recurses := true, apart := false }
def ArrayAllSaid : Prop := arrayAllRow.holds Try.pinned (OpenSpec.ofChange arrayAllSpec)

/-- ITS FALSE NEIGHBOUR: 'it returns false'. Refute it at one input. -/
def arrayAllWrong : ChangeSpec := { name := "arrayAll", fn := fun _ => fun
  | [d1, d2, d3] => { results := [.lit (.bool false)], args := [d1, d2, d3] }
  | _ => none }
def ArrayAllWrongFalsely : Prop := arrayAllRow.holds Try.pinned (OpenSpec.ofChange arrayAllWrong)

/-- 'ordinallaw47.DifferenceRows': WHATEVER THE INPUT: true; the input reads as it did. -/
def differenceRowsSpec : ChangeSpec := { name := "differenceRows", fn := fun _ => fun
  | [d1, d2, d3] => { results := [.lit (.bool true)], args := [d1, d2, d3] }
  | _ => none }
def differenceRowsRow : OpenClaim := { program := "ytpahjnfolbnloaa", sum := "0793c6235d4035a7a3b4340c1a501beb0bd81798b5b3a888aee963280e485d63", func := "ordinal/ordinallaw47.DifferenceRows", spec := "differenceRows", inPlace := ["internal/bytealg.abigen_runtime_cmpstring"], unfollowed := true, recurses := true, apart := false }
def DifferenceRowsSaid : Prop := differenceRowsRow.holds Try.pinned (OpenSpec.ofChange differenceRowsSpec)

/-- ITS FALSE NEIGHBOUR: 'it returns false'. Refute it at one input. -/
def differenceRowsWrong : ChangeSpec := { name := "differenceRows", fn := fun _ => fun
  | [d1, d2, d3] => { results := [.lit (.bool false)], args := [d1, d2, d3] }
  | _ => none }
def DifferenceRowsWrongFalsely : Prop := differenceRowsRow.holds Try.pinned (OpenSpec.ofChange differenceRowsWrong)

/-- 'ordinallaw47.DifferenceOrders': WHATEVER THE INPUT: true; the input reads as it did. -/
def differenceOrdersSpec : ChangeSpec := { name := "differenceOrders", fn := fun _ => fun
  | [d1, d2] => { results := [.lit (.bool true)], args := [d1, d2] }
  | _ => none }
def differenceOrdersRow : OpenClaim := { program := "ytpahjnfolbnloaa", sum := "0793c6235d4035a7a3b4340c1a501beb0bd81798b5b3a888aee963280e485d63", func := "ordinal/ordinallaw47.DifferenceOrders", spec := "differenceOrders", inPlace := ["internal/bytealg.abigen_runtime_cmpstring"], unfollowed := true, recurses := true, apart := false }
def DifferenceOrdersSaid : Prop := differenceOrdersRow.holds Try.pinned (OpenSpec.ofChange differenceOrdersSpec)

/-- ITS FALSE NEIGHBOUR: 'it returns false'. Refute it at one input. -/
def differenceOrdersWrong : ChangeSpec := { name := "differenceOrders", fn := fun _ => fun
  | [d1, d2] => { results := [.lit (.bool false)], args := [d1, d2] }
  | _ => none }
def DifferenceOrdersWrongFalsely : Prop := differenceOrdersRow.holds Try.pinned (OpenSpec.ofChange differenceOrdersWrong)

/-- 'ordinallaw47.DifferenceAdds': WHATEVER THE INPUT: true; the input reads as it did. -/
def differenceAddsSpec : ChangeSpec := { name := "differenceAdds", fn := fun _ => fun
  | [d1, d2, d3] => { results := [.lit (.bool true)], args := [d1, d2, d3] }
  | _ => none }
def differenceAddsRow : OpenClaim := { program := "ytpahjnfolbnloaa", sum := "0793c6235d4035a7a3b4340c1a501beb0bd81798b5b3a888aee963280e485d63", func := "ordinal/ordinallaw47.DifferenceAdds", spec := "differenceAdds", inPlace := ["internal/bytealg.abigen_runtime_cmpstring"], unfollowed := true, recurses := true, apart := false }
def DifferenceAddsSaid : Prop := differenceAddsRow.holds Try.pinned (OpenSpec.ofChange differenceAddsSpec)

/-- ITS FALSE NEIGHBOUR: 'it returns false'. Refute it at one input. -/
def differenceAddsWrong : ChangeSpec := { name := "differenceAdds", fn := fun _ => fun
  | [d1, d2, d3] => { results := [.lit (.bool false)], args := [d1, d2, d3] }
  | _ => none }
def DifferenceAddsWrongFalsely : Prop := differenceAddsRow.holds Try.pinned (OpenSpec.ofChange differenceAddsWrong)

/-- 'ordinallaw47.DifferenceSteps': WHATEVER THE INPUT: true; the input reads as it did. -/
def differenceStepsSpec : ChangeSpec := { name := "differenceSteps", fn := fun _ => fun
  | [d1, d2] => { results := [.lit (.bool true)], args := [d1, d2] }
  | _ => none }
def differenceStepsRow : OpenClaim := { program := "ytpahjnfolbnloaa", sum := "0793c6235d4035a7a3b4340c1a501beb0bd81798b5b3a888aee963280e485d63", func := "ordinal/ordinallaw47.DifferenceSteps", spec := "differenceSteps", inPlace := ["internal/bytealg.abigen_runtime_cmpstring"], unfollowed := true, recurses := true, apart := false }
def DifferenceStepsSaid : Prop := differenceStepsRow.holds Try.pinned (OpenSpec.ofChange differenceStepsSpec)

/-- ITS FALSE NEIGHBOUR: 'it returns false'. Refute it at one input. -/
def differenceStepsWrong : ChangeSpec := { name := "differenceSteps", fn := fun _ => fun
  | [d1, d2] => { results := [.lit (.bool false)], args := [d1, d2] }
  | _ => none }
def DifferenceStepsWrongFalsely : Prop := differenceStepsRow.holds Try.pinned (OpenSpec.ofChange differenceStepsWrong)

/-- 'ordinallaw47.DifferenceRefuses': WHATEVER THE INPUT: true; the input reads as it did. -/
def differenceRefusesSpec : ChangeSpec := { name := "differenceRefuses", fn := fun _ => fun
  | [d1, d2] => { results := [.lit (.bool true)], args := [d1, d2] }
  | _ => none }
def differenceRefusesRow : OpenClaim := { program := "ytpahjnfolbnloaa", sum := "0793c6235d4035a7a3b4340c1a501beb0bd81798b5b3a888aee963280e485d63", func := "ordinal/ordinallaw47.DifferenceRefuses", spec := "differenceRefuses", inPlace := ["internal/bytealg.abigen_runtime_cmpstring"], unfollowed := true, recurses := true, apart := false }
def DifferenceRefusesSaid : Prop := differenceRefusesRow.holds Try.pinned (OpenSpec.ofChange differenceRefusesSpec)

/-- ITS FALSE NEIGHBOUR: 'it returns false'. Refute it at one input. -/
def differenceRefusesWrong : ChangeSpec := { name := "differenceRefuses", fn := fun _ => fun
  | [d1, d2] => { results := [.lit (.bool false)], args := [d1, d2] }
  | _ => none }
def DifferenceRefusesWrongFalsely : Prop := differenceRefusesRow.holds Try.pinned (OpenSpec.ofChange differenceRefusesWrong)

/- THE SECOND FORM. 'bulk': how many values and letters a reading holds, each counted each time it is reached (what is shared counts as often as it is met; a slice's spare places count too). A statement '..UptoSaid' is the law's where the arguments, and the package variables that the reading takes, are together of bulk at most 1048576: NARROWER than '..Said'. Prove '..Said' where nothing that the law and all that it calls make is longer than what came in: it says more and counts as full. Else prove '..UptoSaid'. A law counts once. -/
mutual
def uptoBulk {H : Type} : DataW H → Nat
  | .lit (.string bytes) => bytes.length + 1
  | .lit _ => 1
  | .nil => 1
  | .ptr d => uptoBulk d + 1
  | .slice elems spare => uptoBulkAll elems + uptoBulkAll spare + 1
  | .agg parts => uptoBulkAll parts + 1
  | .iface _ d => uptoBulk d + 1
  | .map entries => uptoBulkEntries entries + 1
  | .held _ => 1
def uptoBulkAll {H : Type} : List (DataW H) → Nat
  | [] => 0
  | d :: r => uptoBulk d + uptoBulkAll r
def uptoBulkEntries {H : Type} : List (Lit × DataW H) → Nat
  | [] => 0
  | x :: r => uptoBulkEntry x + uptoBulkEntries r
def uptoBulkEntry {H : Type} : Lit × DataW H → Nat
  | (.string bytes, d) => bytes.length + uptoBulk d + 1
  | (_, d) => uptoBulk d + 1
 end
def uptoSmall : (H : Type) → List (DataW H) → Bool := fun _ ds => decide (uptoBulkAll ds ≤ 1048576)
def OpenSpec.upto (s : _root_.Go.ChangeSpec) : _root_.Go.OpenSpec := { _root_.Go.OpenSpec.ofChange s with cond := some uptoSmall }

/-- 'ordinallaw43.ArrayRows', WHERE WHAT IT READS IS OF BULK AT MOST 1048576: true; the input reads as it did. -/
def arrayRowsUptoRow : OpenClaim := { program := "ytpahjnfolbnloaa", sum := "0793c6235d4035a7a3b4340c1a501beb0bd81798b5b3a888aee963280e485d63", func := "ordinal/ordinallaw43.ArrayRows", spec := "arrayRows", inPlace := ["internal/bytealg.abigen_runtime_cmpstring"], unfollowed := true, recurses := true, apart := false, narrowed := true }
def ArrayRowsUptoSaid : Prop := arrayRowsUptoRow.holds Try.pinned (OpenSpec.upto arrayRowsSpec)

/-- 'ordinallaw43.ArrayReverses', WHERE WHAT IT READS IS OF BULK AT MOST 1048576: true; the input reads as it did. -/
def arrayReversesUptoRow : OpenClaim := { program := "ytpahjnfolbnloaa", sum := "0793c6235d4035a7a3b4340c1a501beb0bd81798b5b3a888aee963280e485d63", func := "ordinal/ordinallaw43.ArrayReverses", spec := "arrayReverses", inPlace := ["internal/bytealg.abigen_runtime_cmpstring"], unfollowed := true, recurses := true, apart := false, narrowed := true }
def ArrayReversesUptoSaid : Prop := arrayReversesUptoRow.holds Try.pinned (OpenSpec.upto arrayReversesSpec)

/-- 'ordinallaw43.ArraySlices', WHERE WHAT IT READS IS OF BULK AT MOST 1048576: true; the input reads as it did. -/
def arraySlicesUptoRow : OpenClaim := { program := "ytpahjnfolbnloaa", sum := "0793c6235d4035a7a3b4340c1a501beb0bd81798b5b3a888aee963280e485d63", func := "ordinal/ordinallaw43.ArraySlices", spec := "arraySlices", inPlace := ["internal/bytealg.abigen_runtime_cmpstring"], unfollowed := true, recurses := true, apart := false, narrowed := true }
def ArraySlicesUptoSaid : Prop := arraySlicesUptoRow.holds Try.pinned (OpenSpec.upto arraySlicesSpec)

/-- 'ordinallaw43.ArrayAll', WHERE WHAT IT READS IS OF BULK AT MOST 1048576: true; the input reads as it did. -/
def arrayAllUptoRow : OpenClaim := { program := "ytpahjnfolbnloaa", sum := "0793c6235d4035a7a3b4340c1a501beb0bd81798b5b3a888aee963280e485d63", func := "ordinal/ordinallaw43.ArrayAll", spec := "arrayAll", inPlace := ["internal/bytealg.abigen_runtime_cmpstring"], unfollowed := true, recurses := true, apart := false, narrowed := true }
def ArrayAllUptoSaid : Prop := arrayAllUptoRow.holds Try.pinned (OpenSpec.upto arrayAllSpec)

/-- 'ordinallaw47.DifferenceRows', WHERE WHAT IT READS IS OF BULK AT MOST 1048576: true; the input reads as it did. -/
def differenceRowsUptoRow : OpenClaim := { program := "ytpahjnfolbnloaa", sum := "0793c6235d4035a7a3b4340c1a501beb0bd81798b5b3a888aee963280e485d63", func := "ordinal/ordinallaw47.DifferenceRows", spec := "differenceRows", inPlace := ["internal/bytealg.abigen_runtime_cmpstring"], unfollowed := true, recurses := true, apart := false, narrowed := true }
def DifferenceRowsUptoSaid : Prop := differenceRowsUptoRow.holds Try.pinned (OpenSpec.upto differenceRowsSpec)

/-- 'ordinallaw47.DifferenceOrders', WHERE WHAT IT READS IS OF BULK AT MOST 1048576: true; the input reads as it did. -/
def differenceOrdersUptoRow : OpenClaim := { program := "ytpahjnfolbnloaa", sum := "0793c6235d4035a7a3b4340c1a501beb0bd81798b5b3a888aee963280e485d63", func := "ordinal/ordinallaw47.DifferenceOrders", spec := "differenceOrders", inPlace := ["internal/bytealg.abigen_runtime_cmpstring"], unfollowed := true, recurses := true, apart := false, narrowed := true }
def DifferenceOrdersUptoSaid : Prop := differenceOrdersUptoRow.holds Try.pinned (OpenSpec.upto differenceOrdersSpec)

/-- 'ordinallaw47.DifferenceAdds', WHERE WHAT IT READS IS OF BULK AT MOST 1048576: true; the input reads as it did. -/
def differenceAddsUptoRow : OpenClaim := { program := "ytpahjnfolbnloaa", sum := "0793c6235d4035a7a3b4340c1a501beb0bd81798b5b3a888aee963280e485d63", func := "ordinal/ordinallaw47.DifferenceAdds", spec := "differenceAdds", inPlace := ["internal/bytealg.abigen_runtime_cmpstring"], unfollowed := true, recurses := true, apart := false, narrowed := true }
def DifferenceAddsUptoSaid : Prop := differenceAddsUptoRow.holds Try.pinned (OpenSpec.upto differenceAddsSpec)

/-- 'ordinallaw47.DifferenceSteps', WHERE WHAT IT READS IS OF BULK AT MOST 1048576: true; the input reads as it did. -/
def differenceStepsUptoRow : OpenClaim := { program := "ytpahjnfolbnloaa", sum := "0793c6235d4035a7a3b4340c1a501beb0bd81798b5b3a888aee963280e485d63", func := "ordinal/ordinallaw47.DifferenceSteps", spec := "differenceSteps", inPlace := ["internal/bytealg.abigen_runtime_cmpstring"], unfollowed := true, recurses := true, apart := false, narrowed := true }
def DifferenceStepsUptoSaid : Prop := differenceStepsUptoRow.holds Try.pinned (OpenSpec.upto differenceStepsSpec)

/-- 'ordinallaw47.DifferenceRefuses', WHERE WHAT IT READS IS OF BULK AT MOST 1048576: true; the input reads as it did. -/
def differenceRefusesUptoRow : OpenClaim := { program := "ytpahjnfolbnloaa", sum := "0793c6235d4035a7a3b4340c1a501beb0bd81798b5b3a888aee963280e485d63", func := "ordinal/ordinallaw47.DifferenceRefuses", spec := "differenceRefuses", inPlace := ["internal/bytealg.abigen_runtime_cmpstring"], unfollowed := true, recurses := true, apart := false, narrowed := true }
def DifferenceRefusesUptoSaid : Prop := differenceRefusesUptoRow.holds Try.pinned (OpenSpec.upto differenceRefusesSpec)

end Rows
end Go.Proofs.Ytpahjnfolbnloaa
