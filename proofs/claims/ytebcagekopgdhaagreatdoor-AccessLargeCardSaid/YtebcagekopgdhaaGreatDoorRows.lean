/-
  NARROWER THAN 'FOR EVERY INPUT', by the rows' own cells (each row's printed sentence says how): AccessLarge: laid · WalkPieces: laid · WalkPrefixes: laid · RankNext: laid · RankOf: laid · RankInverse: laid · RankPrefix: laid · RankBetween: laid · RankLarge: laid · RankAdds: laid.
  DERIVED. THE GIVEN ROWS OF THIS SEAT. 10 by the template 'for every input the law returns true; each argument reads behind the call as it read before'; 0 by the template 'total and deterministic' (their statements: YtebcagekopgdhaaGreatDoorTotals.lean).
  GIVEN WITH THE SEED: the statements are not yours to turn. If you find one false, say at which input.
  Laid BY PROGRAM, IN A SANDBOX (cutbox-rows.mjs): the forced cells as the released guide's own fill.sh prints them over the translation d25bcbc6e43074d8… (all of the seat's roots in one cut). By AI agents, Wed Nov 11 2026. No macro, syntax, notation, axiom, sorry.
-/
import Derived.Test.YtebcagekopgdhaaGreatDoorChecked
import GoSem.Claim
import GoSem.ClaimJoined
import GoSem.ClaimMapViews
import Derived.JoinedTies
import Derived.KernelRfl
namespace Go.Proofs.YtebcagekopgdhaaGreatDoor
/- THE CELL 'sum', in the pinned program and in every row, IS THE sha256 OF THE DUMP (.gsa) THAT YtebcagekopgdhaaGreatDoorProg.lean LOADS. Nothing in Lean hashes anything: it is a label: what it is worth is what the hold of that sum in a sandbox is worth. -/
noncomputable def Tryz.pinned : Pinned := { name := "ytebcagekopgdhaagreatdoor", sum := "d25bcbc6e43074d8ceca94f6b6baeb6a9e94bf91e5bd8424dafe5b0f57b273d4", checked := Tryz.checked }
namespace Rows
def none {H : Type} : Left H := { results := [], args := [] }

/- WHAT THE LISTED PACKAGE-LEVEL VARIABLES READ AS WHEN THE CALL BEGINS. Each datum BY PROGRAM (the guide's laid-datum.mjs) off the statement by which the dump's own 'gosem.cut.vars' lays the variable. In a bare row this is a premise. The card (YtebcagekopgdhaaGreatDoorCards.lean) ties it to the program's text. -/
def laid_math_bits_deBruijn32tab {H : Type} : DataW H := .agg [.lit (.int .u8 0), .lit (.int .u8 1), .lit (.int .u8 28), .lit (.int .u8 2), .lit (.int .u8 29), .lit (.int .u8 14), .lit (.int .u8 24), .lit (.int .u8 3), .lit (.int .u8 30), .lit (.int .u8 22), .lit (.int .u8 20), .lit (.int .u8 15), .lit (.int .u8 25), .lit (.int .u8 17), .lit (.int .u8 4), .lit (.int .u8 8), .lit (.int .u8 31), .lit (.int .u8 27), .lit (.int .u8 13), .lit (.int .u8 23), .lit (.int .u8 21), .lit (.int .u8 19), .lit (.int .u8 16), .lit (.int .u8 7), .lit (.int .u8 26), .lit (.int .u8 12), .lit (.int .u8 18), .lit (.int .u8 6), .lit (.int .u8 11), .lit (.int .u8 5), .lit (.int .u8 10), .lit (.int .u8 9)]
def laid_math_bits_deBruijn64tab {H : Type} : DataW H := .agg [.lit (.int .u8 0), .lit (.int .u8 1), .lit (.int .u8 56), .lit (.int .u8 2), .lit (.int .u8 57), .lit (.int .u8 49), .lit (.int .u8 28), .lit (.int .u8 3), .lit (.int .u8 61), .lit (.int .u8 58), .lit (.int .u8 42), .lit (.int .u8 50), .lit (.int .u8 38), .lit (.int .u8 29), .lit (.int .u8 17), .lit (.int .u8 4), .lit (.int .u8 62), .lit (.int .u8 47), .lit (.int .u8 59), .lit (.int .u8 36), .lit (.int .u8 45), .lit (.int .u8 43), .lit (.int .u8 51), .lit (.int .u8 22), .lit (.int .u8 53), .lit (.int .u8 39), .lit (.int .u8 33), .lit (.int .u8 30), .lit (.int .u8 24), .lit (.int .u8 18), .lit (.int .u8 12), .lit (.int .u8 5), .lit (.int .u8 63), .lit (.int .u8 55), .lit (.int .u8 48), .lit (.int .u8 27), .lit (.int .u8 60), .lit (.int .u8 41), .lit (.int .u8 37), .lit (.int .u8 16), .lit (.int .u8 46), .lit (.int .u8 35), .lit (.int .u8 44), .lit (.int .u8 21), .lit (.int .u8 52), .lit (.int .u8 32), .lit (.int .u8 23), .lit (.int .u8 11), .lit (.int .u8 54), .lit (.int .u8 26), .lit (.int .u8 40), .lit (.int .u8 15), .lit (.int .u8 34), .lit (.int .u8 20), .lit (.int .u8 31), .lit (.int .u8 10), .lit (.int .u8 25), .lit (.int .u8 14), .lit (.int .u8 19), .lit (.int .u8 9), .lit (.int .u8 13), .lit (.int .u8 8), .lit (.int .u8 7), .lit (.int .u8 6)]
def laid_internal_strconv_uint64pow10 {H : Type} : DataW H := .agg [.lit (.int .u64 1), .lit (.int .u64 10), .lit (.int .u64 100), .lit (.int .u64 1000), .lit (.int .u64 10000), .lit (.int .u64 100000), .lit (.int .u64 1000000), .lit (.int .u64 10000000), .lit (.int .u64 100000000), .lit (.int .u64 1000000000), .lit (.int .u64 10000000000), .lit (.int .u64 100000000000), .lit (.int .u64 1000000000000), .lit (.int .u64 10000000000000), .lit (.int .u64 100000000000000), .lit (.int .u64 1000000000000000), .lit (.int .u64 10000000000000000), .lit (.int .u64 100000000000000000), .lit (.int .u64 1000000000000000000), .lit (.int .u64 10000000000000000000)]

/-- 'ordinallaw41.AccessLarge': WHATEVER THE INPUT: true; the input reads as it did. -/
def accessLargeSpec : ChangeSpec := { name := "accessLarge", fn := fun _ => fun
  | [d1, d2, d3] => { results := [.lit (.bool true)], args := [d1, d2, d3] }
  | _ => none }
def accessLargeRow : OpenClaim := { program := "ytebcagekopgdhaagreatdoor", sum := "d25bcbc6e43074d8ceca94f6b6baeb6a9e94bf91e5bd8424dafe5b0f57b273d4", func := "ordinal/ordinallaw41.AccessLarge", spec := "accessLarge", inPlace := ["internal/bytealg.abigen_runtime_cmpstring"], unfollowed := true, recurses := true, named := ["internal/strconv.uint64pow10", "math/bits.deBruijn32tab", "math/bits.deBruijn64tab"], apart := false, laid := [("math/bits.deBruijn32tab", laid_math_bits_deBruijn32tab), ("math/bits.deBruijn64tab", laid_math_bits_deBruijn64tab), ("internal/strconv.uint64pow10", laid_internal_strconv_uint64pow10)] }
def AccessLargeSaid : Prop := accessLargeRow.holds Tryz.pinned (OpenSpec.ofChange accessLargeSpec)

/-- ITS FALSE NEIGHBOUR: 'it returns false'. Refute it at one input. -/
def accessLargeWrong : ChangeSpec := { name := "accessLarge", fn := fun _ => fun
  | [d1, d2, d3] => { results := [.lit (.bool false)], args := [d1, d2, d3] }
  | _ => none }
def AccessLargeWrongFalsely : Prop := accessLargeRow.holds Tryz.pinned (OpenSpec.ofChange accessLargeWrong)

/-- 'ordinallaw44.WalkPieces': WHATEVER THE INPUT: true; the input reads as it did. -/
def walkPiecesSpec : ChangeSpec := { name := "walkPieces", fn := fun _ => fun
  | [d1, d2] => { results := [.lit (.bool true)], args := [d1, d2] }
  | _ => none }
def walkPiecesRow : OpenClaim := { program := "ytebcagekopgdhaagreatdoor", sum := "d25bcbc6e43074d8ceca94f6b6baeb6a9e94bf91e5bd8424dafe5b0f57b273d4", func := "ordinal/ordinallaw44.WalkPieces", spec := "walkPieces", inPlace := ["internal/bytealg.abigen_runtime_cmpstring"], unfollowed := true, recurses := true, named := ["internal/strconv.uint64pow10", "math/bits.deBruijn32tab", "math/bits.deBruijn64tab"], apart := false, laid := [("math/bits.deBruijn32tab", laid_math_bits_deBruijn32tab), ("math/bits.deBruijn64tab", laid_math_bits_deBruijn64tab), ("internal/strconv.uint64pow10", laid_internal_strconv_uint64pow10)] }
def WalkPiecesSaid : Prop := walkPiecesRow.holds Tryz.pinned (OpenSpec.ofChange walkPiecesSpec)

/-- ITS FALSE NEIGHBOUR: 'it returns false'. Refute it at one input. -/
def walkPiecesWrong : ChangeSpec := { name := "walkPieces", fn := fun _ => fun
  | [d1, d2] => { results := [.lit (.bool false)], args := [d1, d2] }
  | _ => none }
def WalkPiecesWrongFalsely : Prop := walkPiecesRow.holds Tryz.pinned (OpenSpec.ofChange walkPiecesWrong)

/-- 'ordinallaw44.WalkPrefixes': WHATEVER THE INPUT: true; the input reads as it did. -/
def walkPrefixesSpec : ChangeSpec := { name := "walkPrefixes", fn := fun _ => fun
  | [d1, d2] => { results := [.lit (.bool true)], args := [d1, d2] }
  | _ => none }
def walkPrefixesRow : OpenClaim := { program := "ytebcagekopgdhaagreatdoor", sum := "d25bcbc6e43074d8ceca94f6b6baeb6a9e94bf91e5bd8424dafe5b0f57b273d4", func := "ordinal/ordinallaw44.WalkPrefixes", spec := "walkPrefixes", inPlace := ["internal/bytealg.abigen_runtime_cmpstring"], unfollowed := true, recurses := true, named := ["internal/strconv.uint64pow10", "math/bits.deBruijn32tab", "math/bits.deBruijn64tab"], apart := false, laid := [("math/bits.deBruijn32tab", laid_math_bits_deBruijn32tab), ("math/bits.deBruijn64tab", laid_math_bits_deBruijn64tab), ("internal/strconv.uint64pow10", laid_internal_strconv_uint64pow10)] }
def WalkPrefixesSaid : Prop := walkPrefixesRow.holds Tryz.pinned (OpenSpec.ofChange walkPrefixesSpec)

/-- ITS FALSE NEIGHBOUR: 'it returns false'. Refute it at one input. -/
def walkPrefixesWrong : ChangeSpec := { name := "walkPrefixes", fn := fun _ => fun
  | [d1, d2] => { results := [.lit (.bool false)], args := [d1, d2] }
  | _ => none }
def WalkPrefixesWrongFalsely : Prop := walkPrefixesRow.holds Tryz.pinned (OpenSpec.ofChange walkPrefixesWrong)

/-- 'ordinallaw42.RankNext': WHATEVER THE INPUT: true; the input reads as it did. -/
def rankNextSpec : ChangeSpec := { name := "rankNext", fn := fun _ => fun
  | [d1, d2] => { results := [.lit (.bool true)], args := [d1, d2] }
  | _ => none }
def rankNextRow : OpenClaim := { program := "ytebcagekopgdhaagreatdoor", sum := "d25bcbc6e43074d8ceca94f6b6baeb6a9e94bf91e5bd8424dafe5b0f57b273d4", func := "ordinal/ordinallaw42.RankNext", spec := "rankNext", inPlace := ["internal/bytealg.abigen_runtime_cmpstring"], unfollowed := true, recurses := true, named := ["internal/strconv.uint64pow10", "math/bits.deBruijn32tab", "math/bits.deBruijn64tab"], apart := false, laid := [("math/bits.deBruijn32tab", laid_math_bits_deBruijn32tab), ("math/bits.deBruijn64tab", laid_math_bits_deBruijn64tab), ("internal/strconv.uint64pow10", laid_internal_strconv_uint64pow10)] }
def RankNextSaid : Prop := rankNextRow.holds Tryz.pinned (OpenSpec.ofChange rankNextSpec)

/-- ITS FALSE NEIGHBOUR: 'it returns false'. Refute it at one input. -/
def rankNextWrong : ChangeSpec := { name := "rankNext", fn := fun _ => fun
  | [d1, d2] => { results := [.lit (.bool false)], args := [d1, d2] }
  | _ => none }
def RankNextWrongFalsely : Prop := rankNextRow.holds Tryz.pinned (OpenSpec.ofChange rankNextWrong)

/-- 'ordinallaw42.RankOf': WHATEVER THE INPUT: true; the input reads as it did. -/
def rankOfSpec : ChangeSpec := { name := "rankOf", fn := fun _ => fun
  | [d1, d2] => { results := [.lit (.bool true)], args := [d1, d2] }
  | _ => none }
def rankOfRow : OpenClaim := { program := "ytebcagekopgdhaagreatdoor", sum := "d25bcbc6e43074d8ceca94f6b6baeb6a9e94bf91e5bd8424dafe5b0f57b273d4", func := "ordinal/ordinallaw42.RankOf", spec := "rankOf", inPlace := ["internal/bytealg.abigen_runtime_cmpstring"], unfollowed := true, recurses := true, named := ["internal/strconv.uint64pow10", "math/bits.deBruijn32tab", "math/bits.deBruijn64tab"], apart := false, laid := [("math/bits.deBruijn32tab", laid_math_bits_deBruijn32tab), ("math/bits.deBruijn64tab", laid_math_bits_deBruijn64tab), ("internal/strconv.uint64pow10", laid_internal_strconv_uint64pow10)] }
def RankOfSaid : Prop := rankOfRow.holds Tryz.pinned (OpenSpec.ofChange rankOfSpec)

/-- ITS FALSE NEIGHBOUR: 'it returns false'. Refute it at one input. -/
def rankOfWrong : ChangeSpec := { name := "rankOf", fn := fun _ => fun
  | [d1, d2] => { results := [.lit (.bool false)], args := [d1, d2] }
  | _ => none }
def RankOfWrongFalsely : Prop := rankOfRow.holds Tryz.pinned (OpenSpec.ofChange rankOfWrong)

/-- 'ordinallaw42.RankInverse': WHATEVER THE INPUT: true; the input reads as it did. -/
def rankInverseSpec : ChangeSpec := { name := "rankInverse", fn := fun _ => fun
  | [d] => { results := [.lit (.bool true)], args := [d] }
  | _ => none }
def rankInverseRow : OpenClaim := { program := "ytebcagekopgdhaagreatdoor", sum := "d25bcbc6e43074d8ceca94f6b6baeb6a9e94bf91e5bd8424dafe5b0f57b273d4", func := "ordinal/ordinallaw42.RankInverse", spec := "rankInverse", inPlace := ["internal/bytealg.abigen_runtime_cmpstring"], unfollowed := true, recurses := true, named := ["internal/strconv.uint64pow10", "math/bits.deBruijn32tab", "math/bits.deBruijn64tab"], apart := false, laid := [("math/bits.deBruijn32tab", laid_math_bits_deBruijn32tab), ("math/bits.deBruijn64tab", laid_math_bits_deBruijn64tab), ("internal/strconv.uint64pow10", laid_internal_strconv_uint64pow10)] }
def RankInverseSaid : Prop := rankInverseRow.holds Tryz.pinned (OpenSpec.ofChange rankInverseSpec)

/-- ITS FALSE NEIGHBOUR: 'it returns false'. Refute it at one input. -/
def rankInverseWrong : ChangeSpec := { name := "rankInverse", fn := fun _ => fun
  | [d] => { results := [.lit (.bool false)], args := [d] }
  | _ => none }
def RankInverseWrongFalsely : Prop := rankInverseRow.holds Tryz.pinned (OpenSpec.ofChange rankInverseWrong)

/-- 'ordinallaw42.RankPrefix': WHATEVER THE INPUT: true; the input reads as it did. -/
def rankPrefixSpec : ChangeSpec := { name := "rankPrefix", fn := fun _ => fun
  | [d1, d2] => { results := [.lit (.bool true)], args := [d1, d2] }
  | _ => none }
def rankPrefixRow : OpenClaim := { program := "ytebcagekopgdhaagreatdoor", sum := "d25bcbc6e43074d8ceca94f6b6baeb6a9e94bf91e5bd8424dafe5b0f57b273d4", func := "ordinal/ordinallaw42.RankPrefix", spec := "rankPrefix", inPlace := ["internal/bytealg.abigen_runtime_cmpstring"], unfollowed := true, recurses := true, named := ["internal/strconv.uint64pow10", "math/bits.deBruijn32tab", "math/bits.deBruijn64tab"], apart := false, laid := [("math/bits.deBruijn32tab", laid_math_bits_deBruijn32tab), ("math/bits.deBruijn64tab", laid_math_bits_deBruijn64tab), ("internal/strconv.uint64pow10", laid_internal_strconv_uint64pow10)] }
def RankPrefixSaid : Prop := rankPrefixRow.holds Tryz.pinned (OpenSpec.ofChange rankPrefixSpec)

/-- ITS FALSE NEIGHBOUR: 'it returns false'. Refute it at one input. -/
def rankPrefixWrong : ChangeSpec := { name := "rankPrefix", fn := fun _ => fun
  | [d1, d2] => { results := [.lit (.bool false)], args := [d1, d2] }
  | _ => none }
def RankPrefixWrongFalsely : Prop := rankPrefixRow.holds Tryz.pinned (OpenSpec.ofChange rankPrefixWrong)

/-- 'ordinallaw42.RankBetween': WHATEVER THE INPUT: true; the input reads as it did. -/
def rankBetweenSpec : ChangeSpec := { name := "rankBetween", fn := fun _ => fun
  | [d1, d2, d3] => { results := [.lit (.bool true)], args := [d1, d2, d3] }
  | _ => none }
def rankBetweenRow : OpenClaim := { program := "ytebcagekopgdhaagreatdoor", sum := "d25bcbc6e43074d8ceca94f6b6baeb6a9e94bf91e5bd8424dafe5b0f57b273d4", func := "ordinal/ordinallaw42.RankBetween", spec := "rankBetween", inPlace := ["internal/bytealg.abigen_runtime_cmpstring"], unfollowed := true, recurses := true, named := ["internal/strconv.uint64pow10", "math/bits.deBruijn32tab", "math/bits.deBruijn64tab"], apart := false, laid := [("math/bits.deBruijn32tab", laid_math_bits_deBruijn32tab), ("math/bits.deBruijn64tab", laid_math_bits_deBruijn64tab), ("internal/strconv.uint64pow10", laid_internal_strconv_uint64pow10)] }
def RankBetweenSaid : Prop := rankBetweenRow.holds Tryz.pinned (OpenSpec.ofChange rankBetweenSpec)

/-- ITS FALSE NEIGHBOUR: 'it returns false'. Refute it at one input. -/
def rankBetweenWrong : ChangeSpec := { name := "rankBetween", fn := fun _ => fun
  | [d1, d2, d3] => { results := [.lit (.bool false)], args := [d1, d2, d3] }
  | _ => none }
def RankBetweenWrongFalsely : Prop := rankBetweenRow.holds Tryz.pinned (OpenSpec.ofChange rankBetweenWrong)

/-- 'ordinallaw42.RankLarge': WHATEVER THE INPUT: true; the input reads as it did. -/
def rankLargeSpec : ChangeSpec := { name := "rankLarge", fn := fun _ => fun
  | [d1, d2, d3] => { results := [.lit (.bool true)], args := [d1, d2, d3] }
  | _ => none }
def rankLargeRow : OpenClaim := { program := "ytebcagekopgdhaagreatdoor", sum := "d25bcbc6e43074d8ceca94f6b6baeb6a9e94bf91e5bd8424dafe5b0f57b273d4", func := "ordinal/ordinallaw42.RankLarge", spec := "rankLarge", inPlace := ["internal/bytealg.abigen_runtime_cmpstring"], unfollowed := true, recurses := true, named := ["internal/strconv.uint64pow10", "math/bits.deBruijn32tab", "math/bits.deBruijn64tab"], apart := false, laid := [("math/bits.deBruijn32tab", laid_math_bits_deBruijn32tab), ("math/bits.deBruijn64tab", laid_math_bits_deBruijn64tab), ("internal/strconv.uint64pow10", laid_internal_strconv_uint64pow10)] }
def RankLargeSaid : Prop := rankLargeRow.holds Tryz.pinned (OpenSpec.ofChange rankLargeSpec)

/-- ITS FALSE NEIGHBOUR: 'it returns false'. Refute it at one input. -/
def rankLargeWrong : ChangeSpec := { name := "rankLarge", fn := fun _ => fun
  | [d1, d2, d3] => { results := [.lit (.bool false)], args := [d1, d2, d3] }
  | _ => none }
def RankLargeWrongFalsely : Prop := rankLargeRow.holds Tryz.pinned (OpenSpec.ofChange rankLargeWrong)

/-- 'ordinallaw42.RankAdds': WHATEVER THE INPUT: true; the input reads as it did. -/
def rankAddsSpec : ChangeSpec := { name := "rankAdds", fn := fun _ => fun
  | [d1, d2] => { results := [.lit (.bool true)], args := [d1, d2] }
  | _ => none }
def rankAddsRow : OpenClaim := { program := "ytebcagekopgdhaagreatdoor", sum := "d25bcbc6e43074d8ceca94f6b6baeb6a9e94bf91e5bd8424dafe5b0f57b273d4", func := "ordinal/ordinallaw42.RankAdds", spec := "rankAdds", inPlace := ["internal/bytealg.abigen_runtime_cmpstring"], unfollowed := true, recurses := true, named := ["internal/strconv.uint64pow10", "math/bits.deBruijn32tab", "math/bits.deBruijn64tab"], apart := false, laid := [("math/bits.deBruijn32tab", laid_math_bits_deBruijn32tab), ("math/bits.deBruijn64tab", laid_math_bits_deBruijn64tab), ("internal/strconv.uint64pow10", laid_internal_strconv_uint64pow10)] }
def RankAddsSaid : Prop := rankAddsRow.holds Tryz.pinned (OpenSpec.ofChange rankAddsSpec)

/-- ITS FALSE NEIGHBOUR: 'it returns false'. Refute it at one input. -/
def rankAddsWrong : ChangeSpec := { name := "rankAdds", fn := fun _ => fun
  | [d1, d2] => { results := [.lit (.bool false)], args := [d1, d2] }
  | _ => none }
def RankAddsWrongFalsely : Prop := rankAddsRow.holds Tryz.pinned (OpenSpec.ofChange rankAddsWrong)

/- THE SECOND FORM. 'bulk': how many values and letters a reading holds, each counted each time it is reached (what is shared counts as often as it is met; a slice's spare places count too). A statement '..UptoSaid' is the law's where the arguments, and the package variables that the reading takes, are together of bulk at most 1048576: NARROWER than '..Said'. Prove '..Said' where nothing that the law and all that it calls make is longer than what came in: it says more and counts as full. Else prove '..UptoSaid'. A law counts once. -/
mutual
def uptoBulk {H : Type} : DataW H → Nat
  | .lit (.string bytes) => bytes.length + 1
  | .lit _ => 1
  | .nil => 1
  | .ptr d => uptoBulk d + 1
  | .slice elems spare => uptoBulkAll elems + uptoBulkAll spare + 1
  | .agg parts => uptoBulkAll parts + 1
  | .iface _ d => uptoBulk d + 1
  | .map entries => uptoBulkEntries entries + 1
  | .held _ => 1
def uptoBulkAll {H : Type} : List (DataW H) → Nat
  | [] => 0
  | d :: r => uptoBulk d + uptoBulkAll r
def uptoBulkEntries {H : Type} : List (Lit × DataW H) → Nat
  | [] => 0
  | x :: r => uptoBulkEntry x + uptoBulkEntries r
def uptoBulkEntry {H : Type} : Lit × DataW H → Nat
  | (.string bytes, d) => bytes.length + uptoBulk d + 1
  | (_, d) => uptoBulk d + 1
 end
def uptoSmall : (H : Type) → List (DataW H) → Bool := fun _ ds => decide (uptoBulkAll ds ≤ 1048576)
def OpenSpec.upto (s : _root_.Go.ChangeSpec) : _root_.Go.OpenSpec := { _root_.Go.OpenSpec.ofChange s with cond := some uptoSmall }

/-- 'ordinallaw41.AccessLarge', WHERE WHAT IT READS IS OF BULK AT MOST 1048576: true; the input reads as it did. -/
def accessLargeUptoRow : OpenClaim := { program := "ytebcagekopgdhaagreatdoor", sum := "d25bcbc6e43074d8ceca94f6b6baeb6a9e94bf91e5bd8424dafe5b0f57b273d4", func := "ordinal/ordinallaw41.AccessLarge", spec := "accessLarge", inPlace := ["internal/bytealg.abigen_runtime_cmpstring"], unfollowed := true, recurses := true, named := ["internal/strconv.uint64pow10", "math/bits.deBruijn32tab", "math/bits.deBruijn64tab"], apart := false, laid := [("math/bits.deBruijn32tab", laid_math_bits_deBruijn32tab), ("math/bits.deBruijn64tab", laid_math_bits_deBruijn64tab), ("internal/strconv.uint64pow10", laid_internal_strconv_uint64pow10)], narrowed := true }
def AccessLargeUptoSaid : Prop := accessLargeUptoRow.holds Tryz.pinned (OpenSpec.upto accessLargeSpec)

/-- 'ordinallaw44.WalkPieces', WHERE WHAT IT READS IS OF BULK AT MOST 1048576: true; the input reads as it did. -/
def walkPiecesUptoRow : OpenClaim := { program := "ytebcagekopgdhaagreatdoor", sum := "d25bcbc6e43074d8ceca94f6b6baeb6a9e94bf91e5bd8424dafe5b0f57b273d4", func := "ordinal/ordinallaw44.WalkPieces", spec := "walkPieces", inPlace := ["internal/bytealg.abigen_runtime_cmpstring"], unfollowed := true, recurses := true, named := ["internal/strconv.uint64pow10", "math/bits.deBruijn32tab", "math/bits.deBruijn64tab"], apart := false, laid := [("math/bits.deBruijn32tab", laid_math_bits_deBruijn32tab), ("math/bits.deBruijn64tab", laid_math_bits_deBruijn64tab), ("internal/strconv.uint64pow10", laid_internal_strconv_uint64pow10)], narrowed := true }
def WalkPiecesUptoSaid : Prop := walkPiecesUptoRow.holds Tryz.pinned (OpenSpec.upto walkPiecesSpec)

/-- 'ordinallaw44.WalkPrefixes', WHERE WHAT IT READS IS OF BULK AT MOST 1048576: true; the input reads as it did. -/
def walkPrefixesUptoRow : OpenClaim := { program := "ytebcagekopgdhaagreatdoor", sum := "d25bcbc6e43074d8ceca94f6b6baeb6a9e94bf91e5bd8424dafe5b0f57b273d4", func := "ordinal/ordinallaw44.WalkPrefixes", spec := "walkPrefixes", inPlace := ["internal/bytealg.abigen_runtime_cmpstring"], unfollowed := true, recurses := true, named := ["internal/strconv.uint64pow10", "math/bits.deBruijn32tab", "math/bits.deBruijn64tab"], apart := false, laid := [("math/bits.deBruijn32tab", laid_math_bits_deBruijn32tab), ("math/bits.deBruijn64tab", laid_math_bits_deBruijn64tab), ("internal/strconv.uint64pow10", laid_internal_strconv_uint64pow10)], narrowed := true }
def WalkPrefixesUptoSaid : Prop := walkPrefixesUptoRow.holds Tryz.pinned (OpenSpec.upto walkPrefixesSpec)

/-- 'ordinallaw42.RankNext', WHERE WHAT IT READS IS OF BULK AT MOST 1048576: true; the input reads as it did. -/
def rankNextUptoRow : OpenClaim := { program := "ytebcagekopgdhaagreatdoor", sum := "d25bcbc6e43074d8ceca94f6b6baeb6a9e94bf91e5bd8424dafe5b0f57b273d4", func := "ordinal/ordinallaw42.RankNext", spec := "rankNext", inPlace := ["internal/bytealg.abigen_runtime_cmpstring"], unfollowed := true, recurses := true, named := ["internal/strconv.uint64pow10", "math/bits.deBruijn32tab", "math/bits.deBruijn64tab"], apart := false, laid := [("math/bits.deBruijn32tab", laid_math_bits_deBruijn32tab), ("math/bits.deBruijn64tab", laid_math_bits_deBruijn64tab), ("internal/strconv.uint64pow10", laid_internal_strconv_uint64pow10)], narrowed := true }
def RankNextUptoSaid : Prop := rankNextUptoRow.holds Tryz.pinned (OpenSpec.upto rankNextSpec)

/-- 'ordinallaw42.RankOf', WHERE WHAT IT READS IS OF BULK AT MOST 1048576: true; the input reads as it did. -/
def rankOfUptoRow : OpenClaim := { program := "ytebcagekopgdhaagreatdoor", sum := "d25bcbc6e43074d8ceca94f6b6baeb6a9e94bf91e5bd8424dafe5b0f57b273d4", func := "ordinal/ordinallaw42.RankOf", spec := "rankOf", inPlace := ["internal/bytealg.abigen_runtime_cmpstring"], unfollowed := true, recurses := true, named := ["internal/strconv.uint64pow10", "math/bits.deBruijn32tab", "math/bits.deBruijn64tab"], apart := false, laid := [("math/bits.deBruijn32tab", laid_math_bits_deBruijn32tab), ("math/bits.deBruijn64tab", laid_math_bits_deBruijn64tab), ("internal/strconv.uint64pow10", laid_internal_strconv_uint64pow10)], narrowed := true }
def RankOfUptoSaid : Prop := rankOfUptoRow.holds Tryz.pinned (OpenSpec.upto rankOfSpec)

/-- 'ordinallaw42.RankInverse', WHERE WHAT IT READS IS OF BULK AT MOST 1048576: true; the input reads as it did. -/
def rankInverseUptoRow : OpenClaim := { program := "ytebcagekopgdhaagreatdoor", sum := "d25bcbc6e43074d8ceca94f6b6baeb6a9e94bf91e5bd8424dafe5b0f57b273d4", func := "ordinal/ordinallaw42.RankInverse", spec := "rankInverse", inPlace := ["internal/bytealg.abigen_runtime_cmpstring"], unfollowed := true, recurses := true, named := ["internal/strconv.uint64pow10", "math/bits.deBruijn32tab", "math/bits.deBruijn64tab"], apart := false, laid := [("math/bits.deBruijn32tab", laid_math_bits_deBruijn32tab), ("math/bits.deBruijn64tab", laid_math_bits_deBruijn64tab), ("internal/strconv.uint64pow10", laid_internal_strconv_uint64pow10)], narrowed := true }
def RankInverseUptoSaid : Prop := rankInverseUptoRow.holds Tryz.pinned (OpenSpec.upto rankInverseSpec)

/-- 'ordinallaw42.RankPrefix', WHERE WHAT IT READS IS OF BULK AT MOST 1048576: true; the input reads as it did. -/
def rankPrefixUptoRow : OpenClaim := { program := "ytebcagekopgdhaagreatdoor", sum := "d25bcbc6e43074d8ceca94f6b6baeb6a9e94bf91e5bd8424dafe5b0f57b273d4", func := "ordinal/ordinallaw42.RankPrefix", spec := "rankPrefix", inPlace := ["internal/bytealg.abigen_runtime_cmpstring"], unfollowed := true, recurses := true, named := ["internal/strconv.uint64pow10", "math/bits.deBruijn32tab", "math/bits.deBruijn64tab"], apart := false, laid := [("math/bits.deBruijn32tab", laid_math_bits_deBruijn32tab), ("math/bits.deBruijn64tab", laid_math_bits_deBruijn64tab), ("internal/strconv.uint64pow10", laid_internal_strconv_uint64pow10)], narrowed := true }
def RankPrefixUptoSaid : Prop := rankPrefixUptoRow.holds Tryz.pinned (OpenSpec.upto rankPrefixSpec)

/-- 'ordinallaw42.RankBetween', WHERE WHAT IT READS IS OF BULK AT MOST 1048576: true; the input reads as it did. -/
def rankBetweenUptoRow : OpenClaim := { program := "ytebcagekopgdhaagreatdoor", sum := "d25bcbc6e43074d8ceca94f6b6baeb6a9e94bf91e5bd8424dafe5b0f57b273d4", func := "ordinal/ordinallaw42.RankBetween", spec := "rankBetween", inPlace := ["internal/bytealg.abigen_runtime_cmpstring"], unfollowed := true, recurses := true, named := ["internal/strconv.uint64pow10", "math/bits.deBruijn32tab", "math/bits.deBruijn64tab"], apart := false, laid := [("math/bits.deBruijn32tab", laid_math_bits_deBruijn32tab), ("math/bits.deBruijn64tab", laid_math_bits_deBruijn64tab), ("internal/strconv.uint64pow10", laid_internal_strconv_uint64pow10)], narrowed := true }
def RankBetweenUptoSaid : Prop := rankBetweenUptoRow.holds Tryz.pinned (OpenSpec.upto rankBetweenSpec)

/-- 'ordinallaw42.RankLarge', WHERE WHAT IT READS IS OF BULK AT MOST 1048576: true; the input reads as it did. -/
def rankLargeUptoRow : OpenClaim := { program := "ytebcagekopgdhaagreatdoor", sum := "d25bcbc6e43074d8ceca94f6b6baeb6a9e94bf91e5bd8424dafe5b0f57b273d4", func := "ordinal/ordinallaw42.RankLarge", spec := "rankLarge", inPlace := ["internal/bytealg.abigen_runtime_cmpstring"], unfollowed := true, recurses := true, named := ["internal/strconv.uint64pow10", "math/bits.deBruijn32tab", "math/bits.deBruijn64tab"], apart := false, laid := [("math/bits.deBruijn32tab", laid_math_bits_deBruijn32tab), ("math/bits.deBruijn64tab", laid_math_bits_deBruijn64tab), ("internal/strconv.uint64pow10", laid_internal_strconv_uint64pow10)], narrowed := true }
def RankLargeUptoSaid : Prop := rankLargeUptoRow.holds Tryz.pinned (OpenSpec.upto rankLargeSpec)

/-- 'ordinallaw42.RankAdds', WHERE WHAT IT READS IS OF BULK AT MOST 1048576: true; the input reads as it did. -/
def rankAddsUptoRow : OpenClaim := { program := "ytebcagekopgdhaagreatdoor", sum := "d25bcbc6e43074d8ceca94f6b6baeb6a9e94bf91e5bd8424dafe5b0f57b273d4", func := "ordinal/ordinallaw42.RankAdds", spec := "rankAdds", inPlace := ["internal/bytealg.abigen_runtime_cmpstring"], unfollowed := true, recurses := true, named := ["internal/strconv.uint64pow10", "math/bits.deBruijn32tab", "math/bits.deBruijn64tab"], apart := false, laid := [("math/bits.deBruijn32tab", laid_math_bits_deBruijn32tab), ("math/bits.deBruijn64tab", laid_math_bits_deBruijn64tab), ("internal/strconv.uint64pow10", laid_internal_strconv_uint64pow10)], narrowed := true }
def RankAddsUptoSaid : Prop := rankAddsUptoRow.holds Tryz.pinned (OpenSpec.upto rankAddsSpec)

end Rows
end Go.Proofs.YtebcagekopgdhaaGreatDoor
