/-
  No cell of these rows narrows 'for every input' (looked for: loops, veiled, ifaces, maps, wideKeys, modest, calm, conditions, laid).
  DERIVED. THE GIVEN ROWS OF THIS SEAT. 4 by the template 'for every input the law returns true; each argument reads behind the call as it read before'; 0 by the template 'total and deterministic' (their statements: YtebiphhfkdbpfaaGreatTotals.lean).
  GIVEN WITH THE SEED: the statements are not yours to turn. If you find one false, say at which input.
  Laid BY PROGRAM, IN A SANDBOX (cutbox-rows.mjs): the forced cells as the released guide's own fill.sh prints them over the translation 86f59409c575d85c… (all of the seat's roots in one cut). By AI agents, Wed Nov 11 2026. No macro, syntax, notation, axiom, sorry.
-/
import Derived.Test.YtebiphhfkdbpfaaGreatChecked
import GoSem.Claim
import GoSem.ClaimJoined
import GoSem.ClaimMapViews
import Derived.JoinedTies
import Derived.KernelRfl
namespace Go.Proofs.YtebiphhfkdbpfaaGreat
/- THE CELL 'sum', in the pinned program and in every row, IS THE sha256 OF THE DUMP (.gsa) THAT YtebiphhfkdbpfaaGreatProg.lean LOADS. Nothing in Lean hashes anything: it is a label: what it is worth is what the hold of that sum in a sandbox is worth. -/
noncomputable def Tryz.pinned : Pinned := { name := "ytebiphhfkdbpfaagreat", sum := "86f59409c575d85cc25502f117a638b3515fe38d8fa78323d3238442cf6ad876", checked := Tryz.checked }
namespace Rows
def none {H : Type} : Left H := { results := [], args := [] }

/-- 'ordinallaw38.BagsProject': WHATEVER THE INPUT: true; the input reads as it did. -/
def bagsProjectSpec : ChangeSpec := { name := "bagsProject", fn := fun _ => fun
  | [d1, d2] => { results := [.lit (.bool true)], args := [d1, d2] }
  | _ => none }
def bagsProjectRow : OpenClaim := { program := "ytebiphhfkdbpfaagreat", sum := "86f59409c575d85cc25502f117a638b3515fe38d8fa78323d3238442cf6ad876", func := "ordinal/ordinallaw38.BagsProject", spec := "bagsProject", inPlace := ["internal/bytealg.abigen_runtime_cmpstring"], unfollowed := true, recurses := true, apart := false }
def BagsProjectSaid : Prop := bagsProjectRow.holds Tryz.pinned (OpenSpec.ofChange bagsProjectSpec)

/-- ITS FALSE NEIGHBOUR: 'it returns false'. Refute it at one input. -/
def bagsProjectWrong : ChangeSpec := { name := "bagsProject", fn := fun _ => fun
  | [d1, d2] => { results := [.lit (.bool false)], args := [d1, d2] }
  | _ => none }
def BagsProjectWrongFalsely : Prop := bagsProjectRow.holds Tryz.pinned (OpenSpec.ofChange bagsProjectWrong)

/-- 'ordinallaw38.BagsContain': WHATEVER THE INPUT: true; the input reads as it did. -/
def bagsContainSpec : ChangeSpec := { name := "bagsContain", fn := fun _ => fun
  | [d1, d2, d3] => { results := [.lit (.bool true)], args := [d1, d2, d3] }
  | _ => none }
def bagsContainRow : OpenClaim := { program := "ytebiphhfkdbpfaagreat", sum := "86f59409c575d85cc25502f117a638b3515fe38d8fa78323d3238442cf6ad876", func := "ordinal/ordinallaw38.BagsContain", spec := "bagsContain", inPlace := ["internal/bytealg.abigen_runtime_cmpstring"], unfollowed := true, recurses := true, apart := false }
def BagsContainSaid : Prop := bagsContainRow.holds Tryz.pinned (OpenSpec.ofChange bagsContainSpec)

/-- ITS FALSE NEIGHBOUR: 'it returns false'. Refute it at one input. -/
def bagsContainWrong : ChangeSpec := { name := "bagsContain", fn := fun _ => fun
  | [d1, d2, d3] => { results := [.lit (.bool false)], args := [d1, d2, d3] }
  | _ => none }
def BagsContainWrongFalsely : Prop := bagsContainRow.holds Tryz.pinned (OpenSpec.ofChange bagsContainWrong)

/-- 'ordinallaw38.BagsMonotone': WHATEVER THE INPUT: true; the input reads as it did. -/
def bagsMonotoneSpec : ChangeSpec := { name := "bagsMonotone", fn := fun _ => fun
  | [d1, d2, d3] => { results := [.lit (.bool true)], args := [d1, d2, d3] }
  | _ => none }
def bagsMonotoneRow : OpenClaim := { program := "ytebiphhfkdbpfaagreat", sum := "86f59409c575d85cc25502f117a638b3515fe38d8fa78323d3238442cf6ad876", func := "ordinal/ordinallaw38.BagsMonotone", spec := "bagsMonotone", inPlace := ["internal/bytealg.abigen_runtime_cmpstring"], unfollowed := true, recurses := true, apart := false }
def BagsMonotoneSaid : Prop := bagsMonotoneRow.holds Tryz.pinned (OpenSpec.ofChange bagsMonotoneSpec)

/-- ITS FALSE NEIGHBOUR: 'it returns false'. Refute it at one input. -/
def bagsMonotoneWrong : ChangeSpec := { name := "bagsMonotone", fn := fun _ => fun
  | [d1, d2, d3] => { results := [.lit (.bool false)], args := [d1, d2, d3] }
  | _ => none }
def BagsMonotoneWrongFalsely : Prop := bagsMonotoneRow.holds Tryz.pinned (OpenSpec.ofChange bagsMonotoneWrong)

/-- 'ordinallaw38.BagsJoin': WHATEVER THE INPUT: true; the input reads as it did. -/
def bagsJoinSpec : ChangeSpec := { name := "bagsJoin", fn := fun _ => fun
  | [d1, d2, d3] => { results := [.lit (.bool true)], args := [d1, d2, d3] }
  | _ => none }
def bagsJoinRow : OpenClaim := { program := "ytebiphhfkdbpfaagreat", sum := "86f59409c575d85cc25502f117a638b3515fe38d8fa78323d3238442cf6ad876", func := "ordinal/ordinallaw38.BagsJoin", spec := "bagsJoin", inPlace := ["internal/bytealg.abigen_runtime_cmpstring"], unfollowed := true, recurses := true, apart := false }
def BagsJoinSaid : Prop := bagsJoinRow.holds Tryz.pinned (OpenSpec.ofChange bagsJoinSpec)

/-- ITS FALSE NEIGHBOUR: 'it returns false'. Refute it at one input. -/
def bagsJoinWrong : ChangeSpec := { name := "bagsJoin", fn := fun _ => fun
  | [d1, d2, d3] => { results := [.lit (.bool false)], args := [d1, d2, d3] }
  | _ => none }
def BagsJoinWrongFalsely : Prop := bagsJoinRow.holds Tryz.pinned (OpenSpec.ofChange bagsJoinWrong)

/- THE SECOND FORM. 'bulk': how many values and letters a reading holds, each counted each time it is reached (what is shared counts as often as it is met; a slice's spare places count too). A statement '..UptoSaid' is the law's where the arguments, and the package variables that the reading takes, are together of bulk at most 1048576: NARROWER than '..Said'. Prove '..Said' where nothing that the law and all that it calls make is longer than what came in: it says more and counts as full. Else prove '..UptoSaid'. A law counts once. -/
mutual
def uptoBulk {H : Type} : DataW H → Nat
  | .lit (.string bytes) => bytes.length + 1
  | .lit _ => 1
  | .nil => 1
  | .ptr d => uptoBulk d + 1
  | .slice elems spare => uptoBulkAll elems + uptoBulkAll spare + 1
  | .agg parts => uptoBulkAll parts + 1
  | .iface _ d => uptoBulk d + 1
  | .map entries => uptoBulkEntries entries + 1
  | .held _ => 1
def uptoBulkAll {H : Type} : List (DataW H) → Nat
  | [] => 0
  | d :: r => uptoBulk d + uptoBulkAll r
def uptoBulkEntries {H : Type} : List (Lit × DataW H) → Nat
  | [] => 0
  | x :: r => uptoBulkEntry x + uptoBulkEntries r
def uptoBulkEntry {H : Type} : Lit × DataW H → Nat
  | (.string bytes, d) => bytes.length + uptoBulk d + 1
  | (_, d) => uptoBulk d + 1
 end
def uptoSmall : (H : Type) → List (DataW H) → Bool := fun _ ds => decide (uptoBulkAll ds ≤ 1048576)
def OpenSpec.upto (s : _root_.Go.ChangeSpec) : _root_.Go.OpenSpec := { _root_.Go.OpenSpec.ofChange s with cond := some uptoSmall }

/-- 'ordinallaw38.BagsProject', WHERE WHAT IT READS IS OF BULK AT MOST 1048576: true; the input reads as it did. -/
def bagsProjectUptoRow : OpenClaim := { program := "ytebiphhfkdbpfaagreat", sum := "86f59409c575d85cc25502f117a638b3515fe38d8fa78323d3238442cf6ad876", func := "ordinal/ordinallaw38.BagsProject", spec := "bagsProject", inPlace := ["internal/bytealg.abigen_runtime_cmpstring"], unfollowed := true, recurses := true, apart := false, narrowed := true }
def BagsProjectUptoSaid : Prop := bagsProjectUptoRow.holds Tryz.pinned (OpenSpec.upto bagsProjectSpec)

/-- 'ordinallaw38.BagsContain', WHERE WHAT IT READS IS OF BULK AT MOST 1048576: true; the input reads as it did. -/
def bagsContainUptoRow : OpenClaim := { program := "ytebiphhfkdbpfaagreat", sum := "86f59409c575d85cc25502f117a638b3515fe38d8fa78323d3238442cf6ad876", func := "ordinal/ordinallaw38.BagsContain", spec := "bagsContain", inPlace := ["internal/bytealg.abigen_runtime_cmpstring"], unfollowed := true, recurses := true, apart := false, narrowed := true }
def BagsContainUptoSaid : Prop := bagsContainUptoRow.holds Tryz.pinned (OpenSpec.upto bagsContainSpec)

/-- 'ordinallaw38.BagsMonotone', WHERE WHAT IT READS IS OF BULK AT MOST 1048576: true; the input reads as it did. -/
def bagsMonotoneUptoRow : OpenClaim := { program := "ytebiphhfkdbpfaagreat", sum := "86f59409c575d85cc25502f117a638b3515fe38d8fa78323d3238442cf6ad876", func := "ordinal/ordinallaw38.BagsMonotone", spec := "bagsMonotone", inPlace := ["internal/bytealg.abigen_runtime_cmpstring"], unfollowed := true, recurses := true, apart := false, narrowed := true }
def BagsMonotoneUptoSaid : Prop := bagsMonotoneUptoRow.holds Tryz.pinned (OpenSpec.upto bagsMonotoneSpec)

/-- 'ordinallaw38.BagsJoin', WHERE WHAT IT READS IS OF BULK AT MOST 1048576: true; the input reads as it did. -/
def bagsJoinUptoRow : OpenClaim := { program := "ytebiphhfkdbpfaagreat", sum := "86f59409c575d85cc25502f117a638b3515fe38d8fa78323d3238442cf6ad876", func := "ordinal/ordinallaw38.BagsJoin", spec := "bagsJoin", inPlace := ["internal/bytealg.abigen_runtime_cmpstring"], unfollowed := true, recurses := true, apart := false, narrowed := true }
def BagsJoinUptoSaid : Prop := bagsJoinUptoRow.holds Tryz.pinned (OpenSpec.upto bagsJoinSpec)

end Rows
end Go.Proofs.YtebiphhfkdbpfaaGreat
