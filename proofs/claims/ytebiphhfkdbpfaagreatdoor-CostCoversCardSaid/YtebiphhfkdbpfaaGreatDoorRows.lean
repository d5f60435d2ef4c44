/-
  NARROWER THAN 'FOR EVERY INPUT', by the rows' own cells (each row's printed sentence says how): CostHeights: laid · CostEstimates: laid · CostGrows: laid · CostRefuses: laid · CostInside: laid · CostCovers: laid · CostHolds: laid.
  DERIVED. THE GIVEN ROWS OF THIS SEAT. 7 by the template 'for every input the law returns true; each argument reads behind the call as it read before'; 0 by the template 'total and deterministic' (their statements: YtebiphhfkdbpfaaGreatDoorTotals.lean).
  GIVEN WITH THE SEED: the statements are not yours to turn. If you find one false, say at which input.
  Laid BY PROGRAM, IN A SANDBOX (cutbox-rows.mjs): the forced cells as the released guide's own fill.sh prints them over the translation 31e9471116964d71… (all of the seat's roots in one cut). By AI agents, Wed Nov 11 2026. No macro, syntax, notation, axiom, sorry.
-/
import Derived.Test.YtebiphhfkdbpfaaGreatDoorChecked
import GoSem.Claim
import GoSem.ClaimJoined
import GoSem.ClaimMapViews
import Derived.JoinedTies
import Derived.KernelRfl
namespace Go.Proofs.YtebiphhfkdbpfaaGreatDoor
/- THE CELL 'sum', in the pinned program and in every row, IS THE sha256 OF THE DUMP (.gsa) THAT YtebiphhfkdbpfaaGreatDoorProg.lean LOADS. Nothing in Lean hashes anything: it is a label: what it is worth is what the hold of that sum in a sandbox is worth. -/
noncomputable def Tryz.pinned : Pinned := { name := "ytebiphhfkdbpfaagreatdoor", sum := "31e9471116964d71366c32b2f1e32da921e9169623cba903f00dbcbf7a627f2c", checked := Tryz.checked }
namespace Rows
def none {H : Type} : Left H := { results := [], args := [] }

/- WHAT THE LISTED PACKAGE-LEVEL VARIABLES READ AS WHEN THE CALL BEGINS. Each datum BY PROGRAM (the guide's laid-datum.mjs) off the statement by which the dump's own 'gosem.cut.vars' lays the variable. In a bare row this is a premise. The card (YtebiphhfkdbpfaaGreatDoorCards.lean) ties it to the program's text. -/
def laid_ordinal_cost_fibonacci {H : Type} : DataW H := .agg [.lit (.int .i64 1), .lit (.int .i64 2), .lit (.int .i64 3), .lit (.int .i64 5), .lit (.int .i64 8), .lit (.int .i64 13), .lit (.int .i64 21), .lit (.int .i64 34), .lit (.int .i64 55), .lit (.int .i64 89), .lit (.int .i64 144), .lit (.int .i64 233), .lit (.int .i64 377), .lit (.int .i64 610), .lit (.int .i64 987), .lit (.int .i64 1597), .lit (.int .i64 2584), .lit (.int .i64 4181), .lit (.int .i64 6765), .lit (.int .i64 10946), .lit (.int .i64 17711), .lit (.int .i64 28657), .lit (.int .i64 46368), .lit (.int .i64 75025), .lit (.int .i64 121393), .lit (.int .i64 196418), .lit (.int .i64 317811), .lit (.int .i64 514229), .lit (.int .i64 832040), .lit (.int .i64 1346269), .lit (.int .i64 2178309), .lit (.int .i64 3524578), .lit (.int .i64 5702887), .lit (.int .i64 9227465), .lit (.int .i64 14930352), .lit (.int .i64 24157817), .lit (.int .i64 39088169), .lit (.int .i64 63245986), .lit (.int .i64 102334155), .lit (.int .i64 165580141), .lit (.int .i64 267914296), .lit (.int .i64 433494437), .lit (.int .i64 701408733), .lit (.int .i64 1134903170), .lit (.int .i64 1836311903), .lit (.int .i64 2971215073), .lit (.int .i64 4807526976), .lit (.int .i64 7778742049), .lit (.int .i64 12586269025), .lit (.int .i64 20365011074), .lit (.int .i64 32951280099), .lit (.int .i64 53316291173), .lit (.int .i64 86267571272), .lit (.int .i64 139583862445), .lit (.int .i64 225851433717), .lit (.int .i64 365435296162), .lit (.int .i64 591286729879), .lit (.int .i64 956722026041), .lit (.int .i64 1548008755920), .lit (.int .i64 2504730781961), .lit (.int .i64 4052739537881), .lit (.int .i64 6557470319842), .lit (.int .i64 10610209857723), .lit (.int .i64 17167680177565), .lit (.int .i64 27777890035288), .lit (.int .i64 44945570212853), .lit (.int .i64 72723460248141), .lit (.int .i64 117669030460994), .lit (.int .i64 190392490709135), .lit (.int .i64 308061521170129), .lit (.int .i64 498454011879264), .lit (.int .i64 806515533049393), .lit (.int .i64 1304969544928657), .lit (.int .i64 2111485077978050), .lit (.int .i64 3416454622906707), .lit (.int .i64 5527939700884757), .lit (.int .i64 8944394323791464), .lit (.int .i64 14472334024676221), .lit (.int .i64 23416728348467685), .lit (.int .i64 37889062373143906), .lit (.int .i64 61305790721611591), .lit (.int .i64 99194853094755497), .lit (.int .i64 160500643816367088), .lit (.int .i64 259695496911122585), .lit (.int .i64 420196140727489673), .lit (.int .i64 679891637638612258), .lit (.int .i64 1100087778366101931), .lit (.int .i64 1779979416004714189), .lit (.int .i64 2880067194370816120), .lit (.int .i64 4660046610375530309), .lit (.int .i64 7540113804746346429)]
def laid_math_bits_deBruijn32tab {H : Type} : DataW H := .agg [.lit (.int .u8 0), .lit (.int .u8 1), .lit (.int .u8 28), .lit (.int .u8 2), .lit (.int .u8 29), .lit (.int .u8 14), .lit (.int .u8 24), .lit (.int .u8 3), .lit (.int .u8 30), .lit (.int .u8 22), .lit (.int .u8 20), .lit (.int .u8 15), .lit (.int .u8 25), .lit (.int .u8 17), .lit (.int .u8 4), .lit (.int .u8 8), .lit (.int .u8 31), .lit (.int .u8 27), .lit (.int .u8 13), .lit (.int .u8 23), .lit (.int .u8 21), .lit (.int .u8 19), .lit (.int .u8 16), .lit (.int .u8 7), .lit (.int .u8 26), .lit (.int .u8 12), .lit (.int .u8 18), .lit (.int .u8 6), .lit (.int .u8 11), .lit (.int .u8 5), .lit (.int .u8 10), .lit (.int .u8 9)]
def laid_math_bits_deBruijn64tab {H : Type} : DataW H := .agg [.lit (.int .u8 0), .lit (.int .u8 1), .lit (.int .u8 56), .lit (.int .u8 2), .lit (.int .u8 57), .lit (.int .u8 49), .lit (.int .u8 28), .lit (.int .u8 3), .lit (.int .u8 61), .lit (.int .u8 58), .lit (.int .u8 42), .lit (.int .u8 50), .lit (.int .u8 38), .lit (.int .u8 29), .lit (.int .u8 17), .lit (.int .u8 4), .lit (.int .u8 62), .lit (.int .u8 47), .lit (.int .u8 59), .lit (.int .u8 36), .lit (.int .u8 45), .lit (.int .u8 43), .lit (.int .u8 51), .lit (.int .u8 22), .lit (.int .u8 53), .lit (.int .u8 39), .lit (.int .u8 33), .lit (.int .u8 30), .lit (.int .u8 24), .lit (.int .u8 18), .lit (.int .u8 12), .lit (.int .u8 5), .lit (.int .u8 63), .lit (.int .u8 55), .lit (.int .u8 48), .lit (.int .u8 27), .lit (.int .u8 60), .lit (.int .u8 41), .lit (.int .u8 37), .lit (.int .u8 16), .lit (.int .u8 46), .lit (.int .u8 35), .lit (.int .u8 44), .lit (.int .u8 21), .lit (.int .u8 52), .lit (.int .u8 32), .lit (.int .u8 23), .lit (.int .u8 11), .lit (.int .u8 54), .lit (.int .u8 26), .lit (.int .u8 40), .lit (.int .u8 15), .lit (.int .u8 34), .lit (.int .u8 20), .lit (.int .u8 31), .lit (.int .u8 10), .lit (.int .u8 25), .lit (.int .u8 14), .lit (.int .u8 19), .lit (.int .u8 9), .lit (.int .u8 13), .lit (.int .u8 8), .lit (.int .u8 7), .lit (.int .u8 6)]
def laid_internal_strconv_uint64pow10 {H : Type} : DataW H := .agg [.lit (.int .u64 1), .lit (.int .u64 10), .lit (.int .u64 100), .lit (.int .u64 1000), .lit (.int .u64 10000), .lit (.int .u64 100000), .lit (.int .u64 1000000), .lit (.int .u64 10000000), .lit (.int .u64 100000000), .lit (.int .u64 1000000000), .lit (.int .u64 10000000000), .lit (.int .u64 100000000000), .lit (.int .u64 1000000000000), .lit (.int .u64 10000000000000), .lit (.int .u64 100000000000000), .lit (.int .u64 1000000000000000), .lit (.int .u64 10000000000000000), .lit (.int .u64 100000000000000000), .lit (.int .u64 1000000000000000000), .lit (.int .u64 10000000000000000000)]

/-- 'ordinallaw54.CostHeights': WHATEVER THE INPUT: true; the input reads as it did. -/
def costHeightsSpec : ChangeSpec := { name := "costHeights", fn := fun _ => fun
  | [d] => { results := [.lit (.bool true)], args := [d] }
  | _ => none }
def costHeightsRow : OpenClaim := { program := "ytebiphhfkdbpfaagreatdoor", sum := "31e9471116964d71366c32b2f1e32da921e9169623cba903f00dbcbf7a627f2c", func := "ordinal/ordinallaw54.CostHeights", spec := "costHeights", inPlace := ["internal/bytealg.abigen_runtime_cmpstring"], unfollowed := true, recurses := true, named := ["ordinal/cost.fibonacci"], apart := false, laid := [("ordinal/cost.fibonacci", laid_ordinal_cost_fibonacci)] }
def CostHeightsSaid : Prop := costHeightsRow.holds Tryz.pinned (OpenSpec.ofChange costHeightsSpec)

/-- ITS FALSE NEIGHBOUR: 'it returns false'. Refute it at one input. -/
def costHeightsWrong : ChangeSpec := { name := "costHeights", fn := fun _ => fun
  | [d] => { results := [.lit (.bool false)], args := [d] }
  | _ => none }
def CostHeightsWrongFalsely : Prop := costHeightsRow.holds Tryz.pinned (OpenSpec.ofChange costHeightsWrong)

/-- 'ordinallaw54.CostEstimates': WHATEVER THE INPUT: true; the input reads as it did. -/
def costEstimatesSpec : ChangeSpec := { name := "costEstimates", fn := fun _ => fun
  | [d] => { results := [.lit (.bool true)], args := [d] }
  | _ => none }
def costEstimatesRow : OpenClaim := { program := "ytebiphhfkdbpfaagreatdoor", sum := "31e9471116964d71366c32b2f1e32da921e9169623cba903f00dbcbf7a627f2c", func := "ordinal/ordinallaw54.CostEstimates", spec := "costEstimates", inPlace := ["internal/bytealg.abigen_runtime_cmpstring"], unfollowed := true, recurses := true, named := ["ordinal/cost.fibonacci"], apart := false, laid := [("ordinal/cost.fibonacci", laid_ordinal_cost_fibonacci)] }
def CostEstimatesSaid : Prop := costEstimatesRow.holds Tryz.pinned (OpenSpec.ofChange costEstimatesSpec)

/-- ITS FALSE NEIGHBOUR: 'it returns false'. Refute it at one input. -/
def costEstimatesWrong : ChangeSpec := { name := "costEstimates", fn := fun _ => fun
  | [d] => { results := [.lit (.bool false)], args := [d] }
  | _ => none }
def CostEstimatesWrongFalsely : Prop := costEstimatesRow.holds Tryz.pinned (OpenSpec.ofChange costEstimatesWrong)

/-- 'ordinallaw54.CostGrows': WHATEVER THE INPUT: true; the input reads as it did. -/
def costGrowsSpec : ChangeSpec := { name := "costGrows", fn := fun _ => fun
  | [d1, d2, d3] => { results := [.lit (.bool true)], args := [d1, d2, d3] }
  | _ => none }
def costGrowsRow : OpenClaim := { program := "ytebiphhfkdbpfaagreatdoor", sum := "31e9471116964d71366c32b2f1e32da921e9169623cba903f00dbcbf7a627f2c", func := "ordinal/ordinallaw54.CostGrows", spec := "costGrows", inPlace := ["internal/bytealg.abigen_runtime_cmpstring"], unfollowed := true, recurses := true, named := ["ordinal/cost.fibonacci"], apart := false, laid := [("ordinal/cost.fibonacci", laid_ordinal_cost_fibonacci)] }
def CostGrowsSaid : Prop := costGrowsRow.holds Tryz.pinned (OpenSpec.ofChange costGrowsSpec)

/-- ITS FALSE NEIGHBOUR: 'it returns false'. Refute it at one input. -/
def costGrowsWrong : ChangeSpec := { name := "costGrows", fn := fun _ => fun
  | [d1, d2, d3] => { results := [.lit (.bool false)], args := [d1, d2, d3] }
  | _ => none }
def CostGrowsWrongFalsely : Prop := costGrowsRow.holds Tryz.pinned (OpenSpec.ofChange costGrowsWrong)

/-- 'ordinallaw54.CostRefuses': WHATEVER THE INPUT: true; the input reads as it did. -/
def costRefusesSpec : ChangeSpec := { name := "costRefuses", fn := fun _ => fun
  | [d1, d2] => { results := [.lit (.bool true)], args := [d1, d2] }
  | _ => none }
def costRefusesRow : OpenClaim := { program := "ytebiphhfkdbpfaagreatdoor", sum := "31e9471116964d71366c32b2f1e32da921e9169623cba903f00dbcbf7a627f2c", func := "ordinal/ordinallaw54.CostRefuses", spec := "costRefuses", inPlace := ["internal/bytealg.abigen_runtime_cmpstring"], unfollowed := true, recurses := true, named := ["ordinal/cost.fibonacci"], apart := false, laid := [("ordinal/cost.fibonacci", laid_ordinal_cost_fibonacci)] }
def CostRefusesSaid : Prop := costRefusesRow.holds Tryz.pinned (OpenSpec.ofChange costRefusesSpec)

/-- ITS FALSE NEIGHBOUR: 'it returns false'. Refute it at one input. -/
def costRefusesWrong : ChangeSpec := { name := "costRefuses", fn := fun _ => fun
  | [d1, d2] => { results := [.lit (.bool false)], args := [d1, d2] }
  | _ => none }
def CostRefusesWrongFalsely : Prop := costRefusesRow.holds Tryz.pinned (OpenSpec.ofChange costRefusesWrong)

/-- 'ordinallaw54.CostInside': WHATEVER THE INPUT: true; the input reads as it did. -/
def costInsideSpec : ChangeSpec := { name := "costInside", fn := fun _ => fun
  | [d1, d2] => { results := [.lit (.bool true)], args := [d1, d2] }
  | _ => none }
def costInsideRow : OpenClaim := { program := "ytebiphhfkdbpfaagreatdoor", sum := "31e9471116964d71366c32b2f1e32da921e9169623cba903f00dbcbf7a627f2c", func := "ordinal/ordinallaw54.CostInside", spec := "costInside", inPlace := ["internal/bytealg.abigen_runtime_cmpstring"], unfollowed := true, recurses := true, named := ["ordinal/cost.fibonacci"], apart := false, laid := [("ordinal/cost.fibonacci", laid_ordinal_cost_fibonacci)] }
def CostInsideSaid : Prop := costInsideRow.holds Tryz.pinned (OpenSpec.ofChange costInsideSpec)

/-- ITS FALSE NEIGHBOUR: 'it returns false'. Refute it at one input. -/
def costInsideWrong : ChangeSpec := { name := "costInside", fn := fun _ => fun
  | [d1, d2] => { results := [.lit (.bool false)], args := [d1, d2] }
  | _ => none }
def CostInsideWrongFalsely : Prop := costInsideRow.holds Tryz.pinned (OpenSpec.ofChange costInsideWrong)

/-- 'ordinallaw54.CostCovers': WHATEVER THE INPUT: true; the input reads as it did. -/
def costCoversSpec : ChangeSpec := { name := "costCovers", fn := fun _ => fun
  | [d] => { results := [.lit (.bool true)], args := [d] }
  | _ => none }
def costCoversRow : OpenClaim := { program := "ytebiphhfkdbpfaagreatdoor", sum := "31e9471116964d71366c32b2f1e32da921e9169623cba903f00dbcbf7a627f2c", func := "ordinal/ordinallaw54.CostCovers", spec := "costCovers", inPlace := ["internal/bytealg.abigen_runtime_cmpstring"], unfollowed := true, recurses := true, named := ["ordinal/cost.fibonacci"], apart := false, laid := [("ordinal/cost.fibonacci", laid_ordinal_cost_fibonacci)] }
def CostCoversSaid : Prop := costCoversRow.holds Tryz.pinned (OpenSpec.ofChange costCoversSpec)

/-- ITS FALSE NEIGHBOUR: 'it returns false'. Refute it at one input. -/
def costCoversWrong : ChangeSpec := { name := "costCovers", fn := fun _ => fun
  | [d] => { results := [.lit (.bool false)], args := [d] }
  | _ => none }
def CostCoversWrongFalsely : Prop := costCoversRow.holds Tryz.pinned (OpenSpec.ofChange costCoversWrong)

/-- 'ordinallaw54.CostHolds': WHATEVER THE INPUT: true; the input reads as it did. -/
def costHoldsSpec : ChangeSpec := { name := "costHolds", fn := fun _ => fun
  | [d1, d2] => { results := [.lit (.bool true)], args := [d1, d2] }
  | _ => none }
def costHoldsRow : OpenClaim := { program := "ytebiphhfkdbpfaagreatdoor", sum := "31e9471116964d71366c32b2f1e32da921e9169623cba903f00dbcbf7a627f2c", func := "ordinal/ordinallaw54.CostHolds", spec := "costHolds", inPlace := ["internal/bytealg.abigen_runtime_cmpstring"], unfollowed := true, recurses := true, named := ["ordinal/cost.fibonacci", "internal/strconv.uint64pow10", "math/bits.deBruijn32tab", "math/bits.deBruijn64tab"], apart := false, laid := [("math/bits.deBruijn32tab", laid_math_bits_deBruijn32tab), ("math/bits.deBruijn64tab", laid_math_bits_deBruijn64tab), ("internal/strconv.uint64pow10", laid_internal_strconv_uint64pow10), ("ordinal/cost.fibonacci", laid_ordinal_cost_fibonacci)] }
def CostHoldsSaid : Prop := costHoldsRow.holds Tryz.pinned (OpenSpec.ofChange costHoldsSpec)

/-- ITS FALSE NEIGHBOUR: 'it returns false'. Refute it at one input. -/
def costHoldsWrong : ChangeSpec := { name := "costHolds", fn := fun _ => fun
  | [d1, d2] => { results := [.lit (.bool false)], args := [d1, d2] }
  | _ => none }
def CostHoldsWrongFalsely : Prop := costHoldsRow.holds Tryz.pinned (OpenSpec.ofChange costHoldsWrong)

/- THE SECOND FORM. 'bulk': how many values and letters a reading holds, each counted each time it is reached (what is shared counts as often as it is met; a slice's spare places count too). A statement '..UptoSaid' is the law's where the arguments, and the package variables that the reading takes, are together of bulk at most 1048576: NARROWER than '..Said'. Prove '..Said' where nothing that the law and all that it calls make is longer than what came in: it says more and counts as full. Else prove '..UptoSaid'. A law counts once. -/
mutual
def uptoBulk {H : Type} : DataW H → Nat
  | .lit (.string bytes) => bytes.length + 1
  | .lit _ => 1
  | .nil => 1
  | .ptr d => uptoBulk d + 1
  | .slice elems spare => uptoBulkAll elems + uptoBulkAll spare + 1
  | .agg parts => uptoBulkAll parts + 1
  | .iface _ d => uptoBulk d + 1
  | .map entries => uptoBulkEntries entries + 1
  | .held _ => 1
def uptoBulkAll {H : Type} : List (DataW H) → Nat
  | [] => 0
  | d :: r => uptoBulk d + uptoBulkAll r
def uptoBulkEntries {H : Type} : List (Lit × DataW H) → Nat
  | [] => 0
  | x :: r => uptoBulkEntry x + uptoBulkEntries r
def uptoBulkEntry {H : Type} : Lit × DataW H → Nat
  | (.string bytes, d) => bytes.length + uptoBulk d + 1
  | (_, d) => uptoBulk d + 1
 end
def uptoSmall : (H : Type) → List (DataW H) → Bool := fun _ ds => decide (uptoBulkAll ds ≤ 1048576)
def OpenSpec.upto (s : _root_.Go.ChangeSpec) : _root_.Go.OpenSpec := { _root_.Go.OpenSpec.ofChange s with cond := some uptoSmall }

/-- 'ordinallaw54.CostHeights', WHERE WHAT IT READS IS OF BULK AT MOST 1048576: true; the input reads as it did. -/
def costHeightsUptoRow : OpenClaim := { program := "ytebiphhfkdbpfaagreatdoor", sum := "31e9471116964d71366c32b2f1e32da921e9169623cba903f00dbcbf7a627f2c", func := "ordinal/ordinallaw54.CostHeights", spec := "costHeights", inPlace := ["internal/bytealg.abigen_runtime_cmpstring"], unfollowed := true, recurses := true, named := ["ordinal/cost.fibonacci"], apart := false, laid := [("ordinal/cost.fibonacci", laid_ordinal_cost_fibonacci)], narrowed := true }
def CostHeightsUptoSaid : Prop := costHeightsUptoRow.holds Tryz.pinned (OpenSpec.upto costHeightsSpec)

/-- 'ordinallaw54.CostEstimates', WHERE WHAT IT READS IS OF BULK AT MOST 1048576: true; the input reads as it did. -/
def costEstimatesUptoRow : OpenClaim := { program := "ytebiphhfkdbpfaagreatdoor", sum := "31e9471116964d71366c32b2f1e32da921e9169623cba903f00dbcbf7a627f2c", func := "ordinal/ordinallaw54.CostEstimates", spec := "costEstimates", inPlace := ["internal/bytealg.abigen_runtime_cmpstring"], unfollowed := true, recurses := true, named := ["ordinal/cost.fibonacci"], apart := false, laid := [("ordinal/cost.fibonacci", laid_ordinal_cost_fibonacci)], narrowed := true }
def CostEstimatesUptoSaid : Prop := costEstimatesUptoRow.holds Tryz.pinned (OpenSpec.upto costEstimatesSpec)

/-- 'ordinallaw54.CostGrows', WHERE WHAT IT READS IS OF BULK AT MOST 1048576: true; the input reads as it did. -/
def costGrowsUptoRow : OpenClaim := { program := "ytebiphhfkdbpfaagreatdoor", sum := "31e9471116964d71366c32b2f1e32da921e9169623cba903f00dbcbf7a627f2c", func := "ordinal/ordinallaw54.CostGrows", spec := "costGrows", inPlace := ["internal/bytealg.abigen_runtime_cmpstring"], unfollowed := true, recurses := true, named := ["ordinal/cost.fibonacci"], apart := false, laid := [("ordinal/cost.fibonacci", laid_ordinal_cost_fibonacci)], narrowed := true }
def CostGrowsUptoSaid : Prop := costGrowsUptoRow.holds Tryz.pinned (OpenSpec.upto costGrowsSpec)

/-- 'ordinallaw54.CostRefuses', WHERE WHAT IT READS IS OF BULK AT MOST 1048576: true; the input reads as it did. -/
def costRefusesUptoRow : OpenClaim := { program := "ytebiphhfkdbpfaagreatdoor", sum := "31e9471116964d71366c32b2f1e32da921e9169623cba903f00dbcbf7a627f2c", func := "ordinal/ordinallaw54.CostRefuses", spec := "costRefuses", inPlace := ["internal/bytealg.abigen_runtime_cmpstring"], unfollowed := true, recurses := true, named := ["ordinal/cost.fibonacci"], apart := false, laid := [("ordinal/cost.fibonacci", laid_ordinal_cost_fibonacci)], narrowed := true }
def CostRefusesUptoSaid : Prop := costRefusesUptoRow.holds Tryz.pinned (OpenSpec.upto costRefusesSpec)

/-- 'ordinallaw54.CostInside', WHERE WHAT IT READS IS OF BULK AT MOST 1048576: true; the input reads as it did. -/
def costInsideUptoRow : OpenClaim := { program := "ytebiphhfkdbpfaagreatdoor", sum := "31e9471116964d71366c32b2f1e32da921e9169623cba903f00dbcbf7a627f2c", func := "ordinal/ordinallaw54.CostInside", spec := "costInside", inPlace := ["internal/bytealg.abigen_runtime_cmpstring"], unfollowed := true, recurses := true, named := ["ordinal/cost.fibonacci"], apart := false, laid := [("ordinal/cost.fibonacci", laid_ordinal_cost_fibonacci)], narrowed := true }
def CostInsideUptoSaid : Prop := costInsideUptoRow.holds Tryz.pinned (OpenSpec.upto costInsideSpec)

/-- 'ordinallaw54.CostCovers', WHERE WHAT IT READS IS OF BULK AT MOST 1048576: true; the input reads as it did. -/
def costCoversUptoRow : OpenClaim := { program := "ytebiphhfkdbpfaagreatdoor", sum := "31e9471116964d71366c32b2f1e32da921e9169623cba903f00dbcbf7a627f2c", func := "ordinal/ordinallaw54.CostCovers", spec := "costCovers", inPlace := ["internal/bytealg.abigen_runtime_cmpstring"], unfollowed := true, recurses := true, named := ["ordinal/cost.fibonacci"], apart := false, laid := [("ordinal/cost.fibonacci", laid_ordinal_cost_fibonacci)], narrowed := true }
def CostCoversUptoSaid : Prop := costCoversUptoRow.holds Tryz.pinned (OpenSpec.upto costCoversSpec)

/-- 'ordinallaw54.CostHolds', WHERE WHAT IT READS IS OF BULK AT MOST 1048576: true; the input reads as it did. -/
def costHoldsUptoRow : OpenClaim := { program := "ytebiphhfkdbpfaagreatdoor", sum := "31e9471116964d71366c32b2f1e32da921e9169623cba903f00dbcbf7a627f2c", func := "ordinal/ordinallaw54.CostHolds", spec := "costHolds", inPlace := ["internal/bytealg.abigen_runtime_cmpstring"], unfollowed := true, recurses := true, named := ["ordinal/cost.fibonacci", "internal/strconv.uint64pow10", "math/bits.deBruijn32tab", "math/bits.deBruijn64tab"], apart := false, laid := [("math/bits.deBruijn32tab", laid_math_bits_deBruijn32tab), ("math/bits.deBruijn64tab", laid_math_bits_deBruijn64tab), ("internal/strconv.uint64pow10", laid_internal_strconv_uint64pow10), ("ordinal/cost.fibonacci", laid_ordinal_cost_fibonacci)], narrowed := true }
def CostHoldsUptoSaid : Prop := costHoldsUptoRow.holds Tryz.pinned (OpenSpec.upto costHoldsSpec)

end Rows
end Go.Proofs.YtebiphhfkdbpfaaGreatDoor
