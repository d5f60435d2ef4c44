/-
  NARROWER THAN 'FOR EVERY INPUT', by the rows' own cells (each row's printed sentence says how): AccessAt: laid · AccessWithin: laid · AccessPrefixes: laid · AccessSteps: laid · AccessSorted: laid · AccessFilters: laid · AccessLarge: laid · WalkNone: laid · WalkTurns: laid · WalkMoves: laid · WalkStops: laid · WalkCollects: laid.
  DERIVED. THE GIVEN ROWS OF THIS SEAT. 12 by the template 'for every input the law returns true; each argument reads behind the call as it read before'; 0 by the template 'total and deterministic' (their statements: YtefpailelagbkaaGreatDoorTotals.lean).
  GIVEN WITH THE SEED: the statements are not yours to turn. If you find one false, say at which input.
  Laid BY PROGRAM, IN A SANDBOX (cutbox-rows.mjs): the forced cells as the released guide's own fill.sh prints them over the translation 998243867d27d85c… (all of the seat's roots in one cut). By AI agents, Wed Nov 11 2026. No macro, syntax, notation, axiom, sorry.
-/
import Derived.Test.YtefpailelagbkaaGreatDoorChecked
import GoSem.Claim
import GoSem.ClaimJoined
import GoSem.ClaimMapViews
import Derived.JoinedTies
import Derived.KernelRfl
namespace Go.Proofs.YtefpailelagbkaaGreatDoor
/- THE CELL 'sum', in the pinned program and in every row, IS THE sha256 OF THE DUMP (.gsa) THAT YtefpailelagbkaaGreatDoorProg.lean LOADS. Nothing in Lean hashes anything: it is a label: what it is worth is what the hold of that sum in a sandbox is worth. -/
noncomputable def Tryz.pinned : Pinned := { name := "ytefpailelagbkaagreatdoor", sum := "998243867d27d85c97ddfa789c5d9e4f8947ce8c0b06badee001bdd3b2c15809", checked := Tryz.checked }
namespace Rows
def none {H : Type} : Left H := { results := [], args := [] }

/- WHAT THE LISTED PACKAGE-LEVEL VARIABLES READ AS WHEN THE CALL BEGINS. Each datum BY PROGRAM (the guide's laid-datum.mjs) off the statement by which the dump's own 'gosem.cut.vars' lays the variable. In a bare row this is a premise. The card (YtefpailelagbkaaGreatDoorCards.lean) ties it to the program's text. -/
def laid_math_bits_deBruijn32tab {H : Type} : DataW H := .agg [.lit (.int .u8 0), .lit (.int .u8 1), .lit (.int .u8 28), .lit (.int .u8 2), .lit (.int .u8 29), .lit (.int .u8 14), .lit (.int .u8 24), .lit (.int .u8 3), .lit (.int .u8 30), .lit (.int .u8 22), .lit (.int .u8 20), .lit (.int .u8 15), .lit (.int .u8 25), .lit (.int .u8 17), .lit (.int .u8 4), .lit (.int .u8 8), .lit (.int .u8 31), .lit (.int .u8 27), .lit (.int .u8 13), .lit (.int .u8 23), .lit (.int .u8 21), .lit (.int .u8 19), .lit (.int .u8 16), .lit (.int .u8 7), .lit (.int .u8 26), .lit (.int .u8 12), .lit (.int .u8 18), .lit (.int .u8 6), .lit (.int .u8 11), .lit (.int .u8 5), .lit (.int .u8 10), .lit (.int .u8 9)]
def laid_math_bits_deBruijn64tab {H : Type} : DataW H := .agg [.lit (.int .u8 0), .lit (.int .u8 1), .lit (.int .u8 56), .lit (.int .u8 2), .lit (.int .u8 57), .lit (.int .u8 49), .lit (.int .u8 28), .lit (.int .u8 3), .lit (.int .u8 61), .lit (.int .u8 58), .lit (.int .u8 42), .lit (.int .u8 50), .lit (.int .u8 38), .lit (.int .u8 29), .lit (.int .u8 17), .lit (.int .u8 4), .lit (.int .u8 62), .lit (.int .u8 47), .lit (.int .u8 59), .lit (.int .u8 36), .lit (.int .u8 45), .lit (.int .u8 43), .lit (.int .u8 51), .lit (.int .u8 22), .lit (.int .u8 53), .lit (.int .u8 39), .lit (.int .u8 33), .lit (.int .u8 30), .lit (.int .u8 24), .lit (.int .u8 18), .lit (.int .u8 12), .lit (.int .u8 5), .lit (.int .u8 63), .lit (.int .u8 55), .lit (.int .u8 48), .lit (.int .u8 27), .lit (.int .u8 60), .lit (.int .u8 41), .lit (.int .u8 37), .lit (.int .u8 16), .lit (.int .u8 46), .lit (.int .u8 35), .lit (.int .u8 44), .lit (.int .u8 21), .lit (.int .u8 52), .lit (.int .u8 32), .lit (.int .u8 23), .lit (.int .u8 11), .lit (.int .u8 54), .lit (.int .u8 26), .lit (.int .u8 40), .lit (.int .u8 15), .lit (.int .u8 34), .lit (.int .u8 20), .lit (.int .u8 31), .lit (.int .u8 10), .lit (.int .u8 25), .lit (.int .u8 14), .lit (.int .u8 19), .lit (.int .u8 9), .lit (.int .u8 13), .lit (.int .u8 8), .lit (.int .u8 7), .lit (.int .u8 6)]
def laid_internal_strconv_uint64pow10 {H : Type} : DataW H := .agg [.lit (.int .u64 1), .lit (.int .u64 10), .lit (.int .u64 100), .lit (.int .u64 1000), .lit (.int .u64 10000), .lit (.int .u64 100000), .lit (.int .u64 1000000), .lit (.int .u64 10000000), .lit (.int .u64 100000000), .lit (.int .u64 1000000000), .lit (.int .u64 10000000000), .lit (.int .u64 100000000000), .lit (.int .u64 1000000000000), .lit (.int .u64 10000000000000), .lit (.int .u64 100000000000000), .lit (.int .u64 1000000000000000), .lit (.int .u64 10000000000000000), .lit (.int .u64 100000000000000000), .lit (.int .u64 1000000000000000000), .lit (.int .u64 10000000000000000000)]

/-- 'ordinallaw41.AccessAt': WHATEVER THE INPUT: true; the input reads as it did. -/
def accessAtSpec : ChangeSpec := { name := "accessAt", fn := fun _ => fun
  | [d] => { results := [.lit (.bool true)], args := [d] }
  | _ => none }
def accessAtRow : OpenClaim := { program := "ytefpailelagbkaagreatdoor", sum := "998243867d27d85c97ddfa789c5d9e4f8947ce8c0b06badee001bdd3b2c15809", func := "ordinal/ordinallaw41.AccessAt", spec := "accessAt", inPlace := ["internal/bytealg.abigen_runtime_cmpstring"], unfollowed := true, recurses := true, named := ["internal/strconv.uint64pow10", "math/bits.deBruijn32tab", "math/bits.deBruijn64tab"], apart := false, laid := [("math/bits.deBruijn32tab", laid_math_bits_deBruijn32tab), ("math/bits.deBruijn64tab", laid_math_bits_deBruijn64tab), ("internal/strconv.uint64pow10", laid_internal_strconv_uint64pow10)] }
def AccessAtSaid : Prop := accessAtRow.holds Tryz.pinned (OpenSpec.ofChange accessAtSpec)

/-- ITS FALSE NEIGHBOUR: 'it returns false'. Refute it at one input. -/
def accessAtWrong : ChangeSpec := { name := "accessAt", fn := fun _ => fun
  | [d] => { results := [.lit (.bool false)], args := [d] }
  | _ => none }
def AccessAtWrongFalsely : Prop := accessAtRow.holds Tryz.pinned (OpenSpec.ofChange accessAtWrong)

/-- 'ordinallaw41.AccessWithin': WHATEVER THE INPUT: true; the input reads as it did. -/
def accessWithinSpec : ChangeSpec := { name := "accessWithin", fn := fun _ => fun
  | [d1, d2] => { results := [.lit (.bool true)], args := [d1, d2] }
  | _ => none }
def accessWithinRow : OpenClaim := { program := "ytefpailelagbkaagreatdoor", sum := "998243867d27d85c97ddfa789c5d9e4f8947ce8c0b06badee001bdd3b2c15809", func := "ordinal/ordinallaw41.AccessWithin", spec := "accessWithin", inPlace := ["internal/bytealg.abigen_runtime_cmpstring"], unfollowed := true, recurses := true, named := ["internal/strconv.uint64pow10", "math/bits.deBruijn32tab", "math/bits.deBruijn64tab"], apart := false, laid := [("math/bits.deBruijn32tab", laid_math_bits_deBruijn32tab), ("math/bits.deBruijn64tab", laid_math_bits_deBruijn64tab), ("internal/strconv.uint64pow10", laid_internal_strconv_uint64pow10)] }
def AccessWithinSaid : Prop := accessWithinRow.holds Tryz.pinned (OpenSpec.ofChange accessWithinSpec)

/-- ITS FALSE NEIGHBOUR: 'it returns false'. Refute it at one input. -/
def accessWithinWrong : ChangeSpec := { name := "accessWithin", fn := fun _ => fun
  | [d1, d2] => { results := [.lit (.bool false)], args := [d1, d2] }
  | _ => none }
def AccessWithinWrongFalsely : Prop := accessWithinRow.holds Tryz.pinned (OpenSpec.ofChange accessWithinWrong)

/-- 'ordinallaw41.AccessPrefixes': WHATEVER THE INPUT: true; the input reads as it did. -/
def accessPrefixesSpec : ChangeSpec := { name := "accessPrefixes", fn := fun _ => fun
  | [d1, d2] => { results := [.lit (.bool true)], args := [d1, d2] }
  | _ => none }
def accessPrefixesRow : OpenClaim := { program := "ytefpailelagbkaagreatdoor", sum := "998243867d27d85c97ddfa789c5d9e4f8947ce8c0b06badee001bdd3b2c15809", func := "ordinal/ordinallaw41.AccessPrefixes", spec := "accessPrefixes", inPlace := ["internal/bytealg.abigen_runtime_cmpstring"], unfollowed := true, recurses := true, named := ["internal/strconv.uint64pow10", "math/bits.deBruijn32tab", "math/bits.deBruijn64tab"], apart := false, laid := [("math/bits.deBruijn32tab", laid_math_bits_deBruijn32tab), ("math/bits.deBruijn64tab", laid_math_bits_deBruijn64tab), ("internal/strconv.uint64pow10", laid_internal_strconv_uint64pow10)] }
def AccessPrefixesSaid : Prop := accessPrefixesRow.holds Tryz.pinned (OpenSpec.ofChange accessPrefixesSpec)

/-- ITS FALSE NEIGHBOUR: 'it returns false'. Refute it at one input. -/
def accessPrefixesWrong : ChangeSpec := { name := "accessPrefixes", fn := fun _ => fun
  | [d1, d2] => { results := [.lit (.bool false)], args := [d1, d2] }
  | _ => none }
def AccessPrefixesWrongFalsely : Prop := accessPrefixesRow.holds Tryz.pinned (OpenSpec.ofChange accessPrefixesWrong)

/-- 'ordinallaw41.AccessSteps': WHATEVER THE INPUT: true; the input reads as it did. -/
def accessStepsSpec : ChangeSpec := { name := "accessSteps", fn := fun _ => fun
  | [d1, d2, d3] => { results := [.lit (.bool true)], args := [d1, d2, d3] }
  | _ => none }
def accessStepsRow : OpenClaim := { program := "ytefpailelagbkaagreatdoor", sum := "998243867d27d85c97ddfa789c5d9e4f8947ce8c0b06badee001bdd3b2c15809", func := "ordinal/ordinallaw41.AccessSteps", spec := "accessSteps", inPlace := ["internal/bytealg.abigen_runtime_cmpstring"], unfollowed := true, recurses := true, named := ["internal/strconv.uint64pow10", "math/bits.deBruijn32tab", "math/bits.deBruijn64tab"], apart := false, laid := [("math/bits.deBruijn32tab", laid_math_bits_deBruijn32tab), ("math/bits.deBruijn64tab", laid_math_bits_deBruijn64tab), ("internal/strconv.uint64pow10", laid_internal_strconv_uint64pow10)] }
def AccessStepsSaid : Prop := accessStepsRow.holds Tryz.pinned (OpenSpec.ofChange accessStepsSpec)

/-- ITS FALSE NEIGHBOUR: 'it returns false'. Refute it at one input. -/
def accessStepsWrong : ChangeSpec := { name := "accessSteps", fn := fun _ => fun
  | [d1, d2, d3] => { results := [.lit (.bool false)], args := [d1, d2, d3] }
  | _ => none }
def AccessStepsWrongFalsely : Prop := accessStepsRow.holds Tryz.pinned (OpenSpec.ofChange accessStepsWrong)

/-- 'ordinallaw41.AccessSorted': WHATEVER THE INPUT: true; the input reads as it did. -/
def accessSortedSpec : ChangeSpec := { name := "accessSorted", fn := fun _ => fun
  | [d] => { results := [.lit (.bool true)], args := [d] }
  | _ => none }
def accessSortedRow : OpenClaim := { program := "ytefpailelagbkaagreatdoor", sum := "998243867d27d85c97ddfa789c5d9e4f8947ce8c0b06badee001bdd3b2c15809", func := "ordinal/ordinallaw41.AccessSorted", spec := "accessSorted", inPlace := ["internal/bytealg.abigen_runtime_cmpstring"], unfollowed := true, recurses := true, named := ["internal/strconv.uint64pow10", "math/bits.deBruijn32tab", "math/bits.deBruijn64tab"], apart := false, laid := [("math/bits.deBruijn32tab", laid_math_bits_deBruijn32tab), ("math/bits.deBruijn64tab", laid_math_bits_deBruijn64tab), ("internal/strconv.uint64pow10", laid_internal_strconv_uint64pow10)] }
def AccessSortedSaid : Prop := accessSortedRow.holds Tryz.pinned (OpenSpec.ofChange accessSortedSpec)

/-- ITS FALSE NEIGHBOUR: 'it returns false'. Refute it at one input. -/
def accessSortedWrong : ChangeSpec := { name := "accessSorted", fn := fun _ => fun
  | [d] => { results := [.lit (.bool false)], args := [d] }
  | _ => none }
def AccessSortedWrongFalsely : Prop := accessSortedRow.holds Tryz.pinned (OpenSpec.ofChange accessSortedWrong)

/-- 'ordinallaw41.AccessFilters': WHATEVER THE INPUT: true; the input reads as it did. -/
def accessFiltersSpec : ChangeSpec := { name := "accessFilters", fn := fun _ => fun
  | [d1, d2] => { results := [.lit (.bool true)], args := [d1, d2] }
  | _ => none }
def accessFiltersRow : OpenClaim := { program := "ytefpailelagbkaagreatdoor", sum := "998243867d27d85c97ddfa789c5d9e4f8947ce8c0b06badee001bdd3b2c15809", func := "ordinal/ordinallaw41.AccessFilters", spec := "accessFilters", inPlace := ["internal/bytealg.abigen_runtime_cmpstring"], unfollowed := true, recurses := true, named := ["internal/strconv.uint64pow10", "math/bits.deBruijn32tab", "math/bits.deBruijn64tab"], apart := false, laid := [("math/bits.deBruijn32tab", laid_math_bits_deBruijn32tab), ("math/bits.deBruijn64tab", laid_math_bits_deBruijn64tab), ("internal/strconv.uint64pow10", laid_internal_strconv_uint64pow10)] }
def AccessFiltersSaid : Prop := accessFiltersRow.holds Tryz.pinned (OpenSpec.ofChange accessFiltersSpec)

/-- ITS FALSE NEIGHBOUR: 'it returns false'. Refute it at one input. -/
def accessFiltersWrong : ChangeSpec := { name := "accessFilters", fn := fun _ => fun
  | [d1, d2] => { results := [.lit (.bool false)], args := [d1, d2] }
  | _ => none }
def AccessFiltersWrongFalsely : Prop := accessFiltersRow.holds Tryz.pinned (OpenSpec.ofChange accessFiltersWrong)

/-- 'ordinallaw41.AccessLarge': WHATEVER THE INPUT: true; the input reads as it did. -/
def accessLargeSpec : ChangeSpec := { name := "accessLarge", fn := fun _ => fun
  | [d1, d2, d3] => { results := [.lit (.bool true)], args := [d1, d2, d3] }
  | _ => none }
def accessLargeRow : OpenClaim := { program := "ytefpailelagbkaagreatdoor", sum := "998243867d27d85c97ddfa789c5d9e4f8947ce8c0b06badee001bdd3b2c15809", func := "ordinal/ordinallaw41.AccessLarge", spec := "accessLarge", inPlace := ["internal/bytealg.abigen_runtime_cmpstring"], unfollowed := true, recurses := true, named := ["internal/strconv.uint64pow10", "math/bits.deBruijn32tab", "math/bits.deBruijn64tab"], apart := false, laid := [("math/bits.deBruijn32tab", laid_math_bits_deBruijn32tab), ("math/bits.deBruijn64tab", laid_math_bits_deBruijn64tab), ("internal/strconv.uint64pow10", laid_internal_strconv_uint64pow10)] }
def AccessLargeSaid : Prop := accessLargeRow.holds Tryz.pinned (OpenSpec.ofChange accessLargeSpec)

/-- ITS FALSE NEIGHBOUR: 'it returns false'. Refute it at one input. -/
def accessLargeWrong : ChangeSpec := { name := "accessLarge", fn := fun _ => fun
  | [d1, d2, d3] => { results := [.lit (.bool false)], args := [d1, d2, d3] }
  | _ => none }
def AccessLargeWrongFalsely : Prop := accessLargeRow.holds Tryz.pinned (OpenSpec.ofChange accessLargeWrong)

/-- 'ordinallaw44.WalkNone': WHATEVER THE INPUT: true; the input reads as it did. -/
def walkNoneSpec : ChangeSpec := { name := "walkNone", fn := fun _ => fun
  | [d] => { results := [.lit (.bool true)], args := [d] }
  | _ => none }
def walkNoneRow : OpenClaim := { program := "ytefpailelagbkaagreatdoor", sum := "998243867d27d85c97ddfa789c5d9e4f8947ce8c0b06badee001bdd3b2c15809", func := "ordinal/ordinallaw44.WalkNone", spec := "walkNone", inPlace := ["internal/bytealg.abigen_runtime_cmpstring"], unfollowed := true, recurses := true, named := ["internal/strconv.uint64pow10", "math/bits.deBruijn32tab", "math/bits.deBruijn64tab"], apart := false, laid := [("math/bits.deBruijn32tab", laid_math_bits_deBruijn32tab), ("math/bits.deBruijn64tab", laid_math_bits_deBruijn64tab), ("internal/strconv.uint64pow10", laid_internal_strconv_uint64pow10)] }
def WalkNoneSaid : Prop := walkNoneRow.holds Tryz.pinned (OpenSpec.ofChange walkNoneSpec)

/-- ITS FALSE NEIGHBOUR: 'it returns false'. Refute it at one input. -/
def walkNoneWrong : ChangeSpec := { name := "walkNone", fn := fun _ => fun
  | [d] => { results := [.lit (.bool false)], args := [d] }
  | _ => none }
def WalkNoneWrongFalsely : Prop := walkNoneRow.holds Tryz.pinned (OpenSpec.ofChange walkNoneWrong)

/-- 'ordinallaw44.WalkTurns': WHATEVER THE INPUT: true; the input reads as it did. -/
def walkTurnsSpec : ChangeSpec := { name := "walkTurns", fn := fun _ => fun
  | [d1, d2] => { results := [.lit (.bool true)], args := [d1, d2] }
  | _ => none }
def walkTurnsRow : OpenClaim := { program := "ytefpailelagbkaagreatdoor", sum := "998243867d27d85c97ddfa789c5d9e4f8947ce8c0b06badee001bdd3b2c15809", func := "ordinal/ordinallaw44.WalkTurns", spec := "walkTurns", inPlace := ["internal/bytealg.abigen_runtime_cmpstring"], unfollowed := true, recurses := true, named := ["internal/strconv.uint64pow10", "math/bits.deBruijn32tab", "math/bits.deBruijn64tab"], apart := false, laid := [("math/bits.deBruijn32tab", laid_math_bits_deBruijn32tab), ("math/bits.deBruijn64tab", laid_math_bits_deBruijn64tab), ("internal/strconv.uint64pow10", laid_internal_strconv_uint64pow10)] }
def WalkTurnsSaid : Prop := walkTurnsRow.holds Tryz.pinned (OpenSpec.ofChange walkTurnsSpec)

/-- ITS FALSE NEIGHBOUR: 'it returns false'. Refute it at one input. -/
def walkTurnsWrong : ChangeSpec := { name := "walkTurns", fn := fun _ => fun
  | [d1, d2] => { results := [.lit (.bool false)], args := [d1, d2] }
  | _ => none }
def WalkTurnsWrongFalsely : Prop := walkTurnsRow.holds Tryz.pinned (OpenSpec.ofChange walkTurnsWrong)

/-- 'ordinallaw44.WalkMoves': WHATEVER THE INPUT: true; the input reads as it did. -/
def walkMovesSpec : ChangeSpec := { name := "walkMoves", fn := fun _ => fun
  | [d1, d2] => { results := [.lit (.bool true)], args := [d1, d2] }
  | _ => none }
def walkMovesRow : OpenClaim := { program := "ytefpailelagbkaagreatdoor", sum := "998243867d27d85c97ddfa789c5d9e4f8947ce8c0b06badee001bdd3b2c15809", func := "ordinal/ordinallaw44.WalkMoves", spec := "walkMoves", inPlace := ["internal/bytealg.abigen_runtime_cmpstring"], unfollowed := true, recurses := true, named := ["internal/strconv.uint64pow10", "math/bits.deBruijn32tab", "math/bits.deBruijn64tab"], apart := false, laid := [("math/bits.deBruijn32tab", laid_math_bits_deBruijn32tab), ("math/bits.deBruijn64tab", laid_math_bits_deBruijn64tab), ("internal/strconv.uint64pow10", laid_internal_strconv_uint64pow10)] }
def WalkMovesSaid : Prop := walkMovesRow.holds Tryz.pinned (OpenSpec.ofChange walkMovesSpec)

/-- ITS FALSE NEIGHBOUR: 'it returns false'. Refute it at one input. -/
def walkMovesWrong : ChangeSpec := { name := "walkMoves", fn := fun _ => fun
  | [d1, d2] => { results := [.lit (.bool false)], args := [d1, d2] }
  | _ => none }
def WalkMovesWrongFalsely : Prop := walkMovesRow.holds Tryz.pinned (OpenSpec.ofChange walkMovesWrong)

/-- 'ordinallaw44.WalkStops': WHATEVER THE INPUT: true; the input reads as it did. -/
def walkStopsSpec : ChangeSpec := { name := "walkStops", fn := fun _ => fun
  | [d1, d2, d3] => { results := [.lit (.bool true)], args := [d1, d2, d3] }
  | _ => none }
def walkStopsRow : OpenClaim := { program := "ytefpailelagbkaagreatdoor", sum := "998243867d27d85c97ddfa789c5d9e4f8947ce8c0b06badee001bdd3b2c15809", func := "ordinal/ordinallaw44.WalkStops", spec := "walkStops", inPlace := ["internal/bytealg.abigen_runtime_cmpstring"], unfollowed := true, recurses := true, named := ["internal/strconv.uint64pow10", "math/bits.deBruijn32tab", "math/bits.deBruijn64tab"], apart := false, laid := [("math/bits.deBruijn32tab", laid_math_bits_deBruijn32tab), ("math/bits.deBruijn64tab", laid_math_bits_deBruijn64tab), ("internal/strconv.uint64pow10", laid_internal_strconv_uint64pow10)] }
def WalkStopsSaid : Prop := walkStopsRow.holds Tryz.pinned (OpenSpec.ofChange walkStopsSpec)

/-- ITS FALSE NEIGHBOUR: 'it returns false'. Refute it at one input. -/
def walkStopsWrong : ChangeSpec := { name := "walkStops", fn := fun _ => fun
  | [d1, d2, d3] => { results := [.lit (.bool false)], args := [d1, d2, d3] }
  | _ => none }
def WalkStopsWrongFalsely : Prop := walkStopsRow.holds Tryz.pinned (OpenSpec.ofChange walkStopsWrong)

/-- 'ordinallaw44.WalkCollects': WHATEVER THE INPUT: true; the input reads as it did. -/
def walkCollectsSpec : ChangeSpec := { name := "walkCollects", fn := fun _ => fun
  | [d1, d2, d3] => { results := [.lit (.bool true)], args := [d1, d2, d3] }
  | _ => none }
def walkCollectsRow : OpenClaim := { program := "ytefpailelagbkaagreatdoor", sum := "998243867d27d85c97ddfa789c5d9e4f8947ce8c0b06badee001bdd3b2c15809", func := "ordinal/ordinallaw44.WalkCollects", spec := "walkCollects", inPlace := ["internal/bytealg.abigen_runtime_cmpstring"], unfollowed := true, recurses := true, named := ["internal/strconv.uint64pow10", "math/bits.deBruijn32tab", "math/bits.deBruijn64tab"], apart := false, laid := [("math/bits.deBruijn32tab", laid_math_bits_deBruijn32tab), ("math/bits.deBruijn64tab", laid_math_bits_deBruijn64tab), ("internal/strconv.uint64pow10", laid_internal_strconv_uint64pow10)] }
def WalkCollectsSaid : Prop := walkCollectsRow.holds Tryz.pinned (OpenSpec.ofChange walkCollectsSpec)

/-- ITS FALSE NEIGHBOUR: 'it returns false'. Refute it at one input. -/
def walkCollectsWrong : ChangeSpec := { name := "walkCollects", fn := fun _ => fun
  | [d1, d2, d3] => { results := [.lit (.bool false)], args := [d1, d2, d3] }
  | _ => none }
def WalkCollectsWrongFalsely : Prop := walkCollectsRow.holds Tryz.pinned (OpenSpec.ofChange walkCollectsWrong)

/- THE SECOND FORM. 'bulk': how many values and letters a reading holds, each counted each time it is reached (what is shared counts as often as it is met; a slice's spare places count too). A statement '..UptoSaid' is the law's where the arguments, and the package variables that the reading takes, are together of bulk at most 1048576: NARROWER than '..Said'. Prove '..Said' where nothing that the law and all that it calls make is longer than what came in: it says more and counts as full. Else prove '..UptoSaid'. A law counts once. -/
mutual
def uptoBulk {H : Type} : DataW H → Nat
  | .lit (.string bytes) => bytes.length + 1
  | .lit _ => 1
  | .nil => 1
  | .ptr d => uptoBulk d + 1
  | .slice elems spare => uptoBulkAll elems + uptoBulkAll spare + 1
  | .agg parts => uptoBulkAll parts + 1
  | .iface _ d => uptoBulk d + 1
  | .map entries => uptoBulkEntries entries + 1
  | .held _ => 1
def uptoBulkAll {H : Type} : List (DataW H) → Nat
  | [] => 0
  | d :: r => uptoBulk d + uptoBulkAll r
def uptoBulkEntries {H : Type} : List (Lit × DataW H) → Nat
  | [] => 0
  | x :: r => uptoBulkEntry x + uptoBulkEntries r
def uptoBulkEntry {H : Type} : Lit × DataW H → Nat
  | (.string bytes, d) => bytes.length + uptoBulk d + 1
  | (_, d) => uptoBulk d + 1
 end
def uptoSmall : (H : Type) → List (DataW H) → Bool := fun _ ds => decide (uptoBulkAll ds ≤ 1048576)
def OpenSpec.upto (s : _root_.Go.ChangeSpec) : _root_.Go.OpenSpec := { _root_.Go.OpenSpec.ofChange s with cond := some uptoSmall }

/-- 'ordinallaw41.AccessAt', WHERE WHAT IT READS IS OF BULK AT MOST 1048576: true; the input reads as it did. -/
def accessAtUptoRow : OpenClaim := { program := "ytefpailelagbkaagreatdoor", sum := "998243867d27d85c97ddfa789c5d9e4f8947ce8c0b06badee001bdd3b2c15809", func := "ordinal/ordinallaw41.AccessAt", spec := "accessAt", inPlace := ["internal/bytealg.abigen_runtime_cmpstring"], unfollowed := true, recurses := true, named := ["internal/strconv.uint64pow10", "math/bits.deBruijn32tab", "math/bits.deBruijn64tab"], apart := false, laid := [("math/bits.deBruijn32tab", laid_math_bits_deBruijn32tab), ("math/bits.deBruijn64tab", laid_math_bits_deBruijn64tab), ("internal/strconv.uint64pow10", laid_internal_strconv_uint64pow10)], narrowed := true }
def AccessAtUptoSaid : Prop := accessAtUptoRow.holds Tryz.pinned (OpenSpec.upto accessAtSpec)

/-- 'ordinallaw41.AccessWithin', WHERE WHAT IT READS IS OF BULK AT MOST 1048576: true; the input reads as it did. -/
def accessWithinUptoRow : OpenClaim := { program := "ytefpailelagbkaagreatdoor", sum := "998243867d27d85c97ddfa789c5d9e4f8947ce8c0b06badee001bdd3b2c15809", func := "ordinal/ordinallaw41.AccessWithin", spec := "accessWithin", inPlace := ["internal/bytealg.abigen_runtime_cmpstring"], unfollowed := true, recurses := true, named := ["internal/strconv.uint64pow10", "math/bits.deBruijn32tab", "math/bits.deBruijn64tab"], apart := false, laid := [("math/bits.deBruijn32tab", laid_math_bits_deBruijn32tab), ("math/bits.deBruijn64tab", laid_math_bits_deBruijn64tab), ("internal/strconv.uint64pow10", laid_internal_strconv_uint64pow10)], narrowed := true }
def AccessWithinUptoSaid : Prop := accessWithinUptoRow.holds Tryz.pinned (OpenSpec.upto accessWithinSpec)

/-- 'ordinallaw41.AccessPrefixes', WHERE WHAT IT READS IS OF BULK AT MOST 1048576: true; the input reads as it did. -/
def accessPrefixesUptoRow : OpenClaim := { program := "ytefpailelagbkaagreatdoor", sum := "998243867d27d85c97ddfa789c5d9e4f8947ce8c0b06badee001bdd3b2c15809", func := "ordinal/ordinallaw41.AccessPrefixes", spec := "accessPrefixes", inPlace := ["internal/bytealg.abigen_runtime_cmpstring"], unfollowed := true, recurses := true, named := ["internal/strconv.uint64pow10", "math/bits.deBruijn32tab", "math/bits.deBruijn64tab"], apart := false, laid := [("math/bits.deBruijn32tab", laid_math_bits_deBruijn32tab), ("math/bits.deBruijn64tab", laid_math_bits_deBruijn64tab), ("internal/strconv.uint64pow10", laid_internal_strconv_uint64pow10)], narrowed := true }
def AccessPrefixesUptoSaid : Prop := accessPrefixesUptoRow.holds Tryz.pinned (OpenSpec.upto accessPrefixesSpec)

/-- 'ordinallaw41.AccessSteps', WHERE WHAT IT READS IS OF BULK AT MOST 1048576: true; the input reads as it did. -/
def accessStepsUptoRow : OpenClaim := { program := "ytefpailelagbkaagreatdoor", sum := "998243867d27d85c97ddfa789c5d9e4f8947ce8c0b06badee001bdd3b2c15809", func := "ordinal/ordinallaw41.AccessSteps", spec := "accessSteps", inPlace := ["internal/bytealg.abigen_runtime_cmpstring"], unfollowed := true, recurses := true, named := ["internal/strconv.uint64pow10", "math/bits.deBruijn32tab", "math/bits.deBruijn64tab"], apart := false, laid := [("math/bits.deBruijn32tab", laid_math_bits_deBruijn32tab), ("math/bits.deBruijn64tab", laid_math_bits_deBruijn64tab), ("internal/strconv.uint64pow10", laid_internal_strconv_uint64pow10)], narrowed := true }
def AccessStepsUptoSaid : Prop := accessStepsUptoRow.holds Tryz.pinned (OpenSpec.upto accessStepsSpec)

/-- 'ordinallaw41.AccessSorted', WHERE WHAT IT READS IS OF BULK AT MOST 1048576: true; the input reads as it did. -/
def accessSortedUptoRow : OpenClaim := { program := "ytefpailelagbkaagreatdoor", sum := "998243867d27d85c97ddfa789c5d9e4f8947ce8c0b06badee001bdd3b2c15809", func := "ordinal/ordinallaw41.AccessSorted", spec := "accessSorted", inPlace := ["internal/bytealg.abigen_runtime_cmpstring"], unfollowed := true, recurses := true, named := ["internal/strconv.uint64pow10", "math/bits.deBruijn32tab", "math/bits.deBruijn64tab"], apart := false, laid := [("math/bits.deBruijn32tab", laid_math_bits_deBruijn32tab), ("math/bits.deBruijn64tab", laid_math_bits_deBruijn64tab), ("internal/strconv.uint64pow10", laid_internal_strconv_uint64pow10)], narrowed := true }
def AccessSortedUptoSaid : Prop := accessSortedUptoRow.holds Tryz.pinned (OpenSpec.upto accessSortedSpec)

/-- 'ordinallaw41.AccessFilters', WHERE WHAT IT READS IS OF BULK AT MOST 1048576: true; the input reads as it did. -/
def accessFiltersUptoRow : OpenClaim := { program := "ytefpailelagbkaagreatdoor", sum := "998243867d27d85c97ddfa789c5d9e4f8947ce8c0b06badee001bdd3b2c15809", func := "ordinal/ordinallaw41.AccessFilters", spec := "accessFilters", inPlace := ["internal/bytealg.abigen_runtime_cmpstring"], unfollowed := true, recurses := true, named := ["internal/strconv.uint64pow10", "math/bits.deBruijn32tab", "math/bits.deBruijn64tab"], apart := false, laid := [("math/bits.deBruijn32tab", laid_math_bits_deBruijn32tab), ("math/bits.deBruijn64tab", laid_math_bits_deBruijn64tab), ("internal/strconv.uint64pow10", laid_internal_strconv_uint64pow10)], narrowed := true }
def AccessFiltersUptoSaid : Prop := accessFiltersUptoRow.holds Tryz.pinned (OpenSpec.upto accessFiltersSpec)

/-- 'ordinallaw41.AccessLarge', WHERE WHAT IT READS IS OF BULK AT MOST 1048576: true; the input reads as it did. -/
def accessLargeUptoRow : OpenClaim := { program := "ytefpailelagbkaagreatdoor", sum := "998243867d27d85c97ddfa789c5d9e4f8947ce8c0b06badee001bdd3b2c15809", func := "ordinal/ordinallaw41.AccessLarge", spec := "accessLarge", inPlace := ["internal/bytealg.abigen_runtime_cmpstring"], unfollowed := true, recurses := true, named := ["internal/strconv.uint64pow10", "math/bits.deBruijn32tab", "math/bits.deBruijn64tab"], apart := false, laid := [("math/bits.deBruijn32tab", laid_math_bits_deBruijn32tab), ("math/bits.deBruijn64tab", laid_math_bits_deBruijn64tab), ("internal/strconv.uint64pow10", laid_internal_strconv_uint64pow10)], narrowed := true }
def AccessLargeUptoSaid : Prop := accessLargeUptoRow.holds Tryz.pinned (OpenSpec.upto accessLargeSpec)

/-- 'ordinallaw44.WalkNone', WHERE WHAT IT READS IS OF BULK AT MOST 1048576: true; the input reads as it did. -/
def walkNoneUptoRow : OpenClaim := { program := "ytefpailelagbkaagreatdoor", sum := "998243867d27d85c97ddfa789c5d9e4f8947ce8c0b06badee001bdd3b2c15809", func := "ordinal/ordinallaw44.WalkNone", spec := "walkNone", inPlace := ["internal/bytealg.abigen_runtime_cmpstring"], unfollowed := true, recurses := true, named := ["internal/strconv.uint64pow10", "math/bits.deBruijn32tab", "math/bits.deBruijn64tab"], apart := false, laid := [("math/bits.deBruijn32tab", laid_math_bits_deBruijn32tab), ("math/bits.deBruijn64tab", laid_math_bits_deBruijn64tab), ("internal/strconv.uint64pow10", laid_internal_strconv_uint64pow10)], narrowed := true }
def WalkNoneUptoSaid : Prop := walkNoneUptoRow.holds Tryz.pinned (OpenSpec.upto walkNoneSpec)

/-- 'ordinallaw44.WalkTurns', WHERE WHAT IT READS IS OF BULK AT MOST 1048576: true; the input reads as it did. -/
def walkTurnsUptoRow : OpenClaim := { program := "ytefpailelagbkaagreatdoor", sum := "998243867d27d85c97ddfa789c5d9e4f8947ce8c0b06badee001bdd3b2c15809", func := "ordinal/ordinallaw44.WalkTurns", spec := "walkTurns", inPlace := ["internal/bytealg.abigen_runtime_cmpstring"], unfollowed := true, recurses := true, named := ["internal/strconv.uint64pow10", "math/bits.deBruijn32tab", "math/bits.deBruijn64tab"], apart := false, laid := [("math/bits.deBruijn32tab", laid_math_bits_deBruijn32tab), ("math/bits.deBruijn64tab", laid_math_bits_deBruijn64tab), ("internal/strconv.uint64pow10", laid_internal_strconv_uint64pow10)], narrowed := true }
def WalkTurnsUptoSaid : Prop := walkTurnsUptoRow.holds Tryz.pinned (OpenSpec.upto walkTurnsSpec)

/-- 'ordinallaw44.WalkMoves', WHERE WHAT IT READS IS OF BULK AT MOST 1048576: true; the input reads as it did. -/
def walkMovesUptoRow : OpenClaim := { program := "ytefpailelagbkaagreatdoor", sum := "998243867d27d85c97ddfa789c5d9e4f8947ce8c0b06badee001bdd3b2c15809", func := "ordinal/ordinallaw44.WalkMoves", spec := "walkMoves", inPlace := ["internal/bytealg.abigen_runtime_cmpstring"], unfollowed := true, recurses := true, named := ["internal/strconv.uint64pow10", "math/bits.deBruijn32tab", "math/bits.deBruijn64tab"], apart := false, laid := [("math/bits.deBruijn32tab", laid_math_bits_deBruijn32tab), ("math/bits.deBruijn64tab", laid_math_bits_deBruijn64tab), ("internal/strconv.uint64pow10", laid_internal_strconv_uint64pow10)], narrowed := true }
def WalkMovesUptoSaid : Prop := walkMovesUptoRow.holds Tryz.pinned (OpenSpec.upto walkMovesSpec)

/-- 'ordinallaw44.WalkStops', WHERE WHAT IT READS IS OF BULK AT MOST 1048576: true; the input reads as it did. -/
def walkStopsUptoRow : OpenClaim := { program := "ytefpailelagbkaagreatdoor", sum := "998243867d27d85c97ddfa789c5d9e4f8947ce8c0b06badee001bdd3b2c15809", func := "ordinal/ordinallaw44.WalkStops", spec := "walkStops", inPlace := ["internal/bytealg.abigen_runtime_cmpstring"], unfollowed := true, recurses := true, named := ["internal/strconv.uint64pow10", "math/bits.deBruijn32tab", "math/bits.deBruijn64tab"], apart := false, laid := [("math/bits.deBruijn32tab", laid_math_bits_deBruijn32tab), ("math/bits.deBruijn64tab", laid_math_bits_deBruijn64tab), ("internal/strconv.uint64pow10", laid_internal_strconv_uint64pow10)], narrowed := true }
def WalkStopsUptoSaid : Prop := walkStopsUptoRow.holds Tryz.pinned (OpenSpec.upto walkStopsSpec)

/-- 'ordinallaw44.WalkCollects', WHERE WHAT IT READS IS OF BULK AT MOST 1048576: true; the input reads as it did. -/
def walkCollectsUptoRow : OpenClaim := { program := "ytefpailelagbkaagreatdoor", sum := "998243867d27d85c97ddfa789c5d9e4f8947ce8c0b06badee001bdd3b2c15809", func := "ordinal/ordinallaw44.WalkCollects", spec := "walkCollects", inPlace := ["internal/bytealg.abigen_runtime_cmpstring"], unfollowed := true, recurses := true, named := ["internal/strconv.uint64pow10", "math/bits.deBruijn32tab", "math/bits.deBruijn64tab"], apart := false, laid := [("math/bits.deBruijn32tab", laid_math_bits_deBruijn32tab), ("math/bits.deBruijn64tab", laid_math_bits_deBruijn64tab), ("internal/strconv.uint64pow10", laid_internal_strconv_uint64pow10)], narrowed := true }
def WalkCollectsUptoSaid : Prop := walkCollectsUptoRow.holds Tryz.pinned (OpenSpec.upto walkCollectsSpec)

end Rows
end Go.Proofs.YtefpailelagbkaaGreatDoor
