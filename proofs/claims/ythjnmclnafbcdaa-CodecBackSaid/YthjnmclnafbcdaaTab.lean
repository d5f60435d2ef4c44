/- The types' table of this program, and closed facts. -/
import Derived.Test.YthjnmclnafbcdaaRows
import Derived.Test.YthjnmclnafbcdaaPlain
import Derived.Test.YthjnmclnafbcdaaUse
set_option linter.unusedVariables false
namespace Go.Proofs.Ythjnmclnafbcdaa
open Go.RowKit Pl Go.Wk
def tt : TT := [(3, { desc := .int .i64 }), (2, { desc := .int .i64 }), (5, { desc := .int .u8 }), (24, { desc := .int .u64 }), (33, { desc := .int .u64 }), (4, { desc := .bool }), (9, { desc := .string }),
  (25, { desc := .int .i64 }), (22, { desc := .slice 5, esz := 1 }), (37, { desc := .slice 4, esz := 1 }), (42, { desc := .invalid, size := 3, offs := [0, 1, 2] }), (36, { desc := .slice 42, esz := 3 })]
theorem tt_ok : TOk Try.prog tt := ⟨⟨by kernel_rfl, by kernel_rfl⟩, ⟨by kernel_rfl, by kernel_rfl⟩, ⟨by kernel_rfl, by kernel_rfl⟩, ⟨by kernel_rfl, by kernel_rfl⟩, ⟨by kernel_rfl, by kernel_rfl⟩, ⟨by kernel_rfl, by kernel_rfl⟩, ⟨by kernel_rfl, by kernel_rfl⟩,
  ⟨by kernel_rfl, by kernel_rfl⟩, ⟨by kernel_rfl, by kernel_rfl, by kernel_rfl⟩, ⟨by kernel_rfl, by kernel_rfl, by kernel_rfl⟩, ⟨_, Try.underlying42, by kernel_rfl, by kernel_rfl⟩, ⟨by kernel_rfl, by kernel_rfl, by kernel_rfl⟩, trivial⟩
theorem mixed : Try.prog.follows .mixedOrders = true := by kernel_rfl
instance : Tab Try.prog tt := ⟨tt_ok, mixed⟩
theorem E8 : ElT Try.prog 22 5 1 1 (.int .u8 0) := ⟨Try.underlying22, info_parts (by kernel_rfl), rfl, by decide⟩
theorem EV : ElT Try.prog 36 42 3 32 (.agg #[.int .i64 0, .int .i64 0, .string ⟨#[]⟩]) := ⟨Try.underlying36, info_parts (by kernel_rfl), rfl, by decide⟩
theorem bs1 (x : Int) (w : World) : (Instr.buildSlice 22 1 #[(0, .int .u8 x)]).run Try.prog w = .ok (.slice (some ⟨w.heap.size, 0, none⟩) 1 1) (w.alloc (.cells #[.int .u8 x] 5)) := by kernel_rfl
theorem bs2 (x y : Int) (w : World) : (Instr.buildSlice 22 2 #[(0, .int .u8 x), (1, .int .u8 y)]).run Try.prog w = .ok (.slice (some ⟨w.heap.size, 0, none⟩) 2 2) (w.alloc (.cells #[.int .u8 x, .int .u8 y] 5)) := by kernel_rfl
theorem bsRow0 (w : World) : (Instr.buildSlice 36 0 #[]).run Try.prog w = .ok (.slice (some ⟨w.heap.size, 0, none⟩) 0 0) (w.alloc (.cells ([] : List Value).toArray 42)) := by kernel_rfl
end Go.Proofs.Ythjnmclnafbcdaa
