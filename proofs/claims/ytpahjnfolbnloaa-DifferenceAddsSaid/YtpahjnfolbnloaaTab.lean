/- The types' table of this program, and closed facts. -/
import Derived.Test.YtpahjnfolbnloaaRows
import Derived.Test.YtpahjnfolbnloaaRegB
set_option linter.unusedVariables false
namespace Go.Proofs.Ytpahjnfolbnloaa
open Go.RowKit Go.Wk
def tt : TT := [(3, { desc := .int .i64 }), (2, { desc := .int .i64 }), (5, { desc := .int .u8 }), (103, { desc := .int .u32 }), (99, { desc := .int .u64 }), (43, { desc := .int .u64 }), (4, { desc := .bool }), (9, { desc := .string }),
  (34, { desc := .int .i64 }), (33, { desc := .slice 103, esz := 1 }), (23, { desc := .slice 4, esz := 1 }), (73, { desc := .slice 3, esz := 1 }), (86, { desc := .invalid, size := 3, offs := [0, 1, 2] }), (25, { desc := .slice 86, esz := 3 }),
  (22, { desc := .slice 25, esz := 1 }), (29, { desc := .invalid, size := 2, offs := [0, 1] }),
  (46, { desc := .interface #[("At", 83), ("Len", 91), ("Rank", 36)] }), (108, { desc := .invalid, size := 1, offs := [0] }), (110, { desc := .invalid, size := 3, offs := [0, 1, 2] }), (130, { desc := .invalid, size := 2, offs := [0, 1] }),
  (66, { desc := .invalid, size := 2, offs := [0, 1] }), (75, { desc := .invalid, size := 3, offs := [0, 1, 2] }), (78, { desc := .invalid, size := 4, offs := [0, 3] }), (59, { desc := .invalid, size := 2, offs := [0, 1] }),
  (120, { desc := .invalid, size := 4, offs := [0, 1, 2, 3] }), (125, { desc := .invalid, size := 2, offs := [0, 1] }), (88, { desc := .slice 125, esz := 2 }), (57, { desc := .slice 60, esz := 2 }),
  (60, { desc := .array 2 5, size := 2, esz := 1 }), (49, { desc := .array 4 5, size := 4, esz := 1 }), (118, { desc := .pointer 120 })]
theorem tt_ok : TOk Try.prog tt := ⟨⟨by kernel_rfl, by kernel_rfl⟩, ⟨by kernel_rfl, by kernel_rfl⟩, ⟨by kernel_rfl, by kernel_rfl⟩, ⟨by kernel_rfl, by kernel_rfl⟩, ⟨by kernel_rfl, by kernel_rfl⟩, ⟨by kernel_rfl, by kernel_rfl⟩, ⟨by kernel_rfl, by kernel_rfl⟩, ⟨by kernel_rfl, by kernel_rfl⟩,
  ⟨by kernel_rfl, by kernel_rfl⟩, ⟨by kernel_rfl, by kernel_rfl, by kernel_rfl⟩, ⟨by kernel_rfl, by kernel_rfl, by kernel_rfl⟩, ⟨by kernel_rfl, by kernel_rfl, by kernel_rfl⟩, ⟨_, Try.underlying86, by kernel_rfl, by kernel_rfl⟩, ⟨by kernel_rfl, by kernel_rfl, by kernel_rfl⟩,
  ⟨by kernel_rfl, by kernel_rfl, by kernel_rfl⟩, ⟨_, Try.underlying29, by kernel_rfl, by kernel_rfl⟩, ⟨by kernel_rfl, by kernel_rfl⟩, ⟨_, Try.underlying108, by kernel_rfl, by kernel_rfl⟩, ⟨_, Try.underlying110, by kernel_rfl, by kernel_rfl⟩, ⟨_, Try.underlying130, by kernel_rfl, by kernel_rfl⟩, ⟨_, Try.underlying66, by kernel_rfl, by kernel_rfl⟩, ⟨_, Try.underlying75, by kernel_rfl, by kernel_rfl⟩, ⟨_, Try.underlying78, by kernel_rfl, by kernel_rfl⟩, ⟨_, Try.underlying59, by kernel_rfl, by kernel_rfl⟩, ⟨_, Try.underlying120, by kernel_rfl, by kernel_rfl⟩, ⟨_, Try.underlying125, by kernel_rfl, by kernel_rfl⟩, ⟨by kernel_rfl, by kernel_rfl, by kernel_rfl⟩, ⟨by kernel_rfl, by kernel_rfl, by kernel_rfl⟩, ⟨by kernel_rfl, by kernel_rfl, by kernel_rfl⟩, ⟨by kernel_rfl, by kernel_rfl, by kernel_rfl⟩, ⟨by kernel_rfl, by kernel_rfl⟩, trivial⟩
theorem mixed : Try.prog.follows .mixedOrders = true := by kernel_rfl
instance : Tab Try.prog tt := ⟨tt_ok, mixed⟩
theorem EN : ElT Try.prog 33 103 1 4 (.int .u32 0) := ⟨Try.underlying33, info_parts (by kernel_rfl), rfl, by decide⟩
theorem EV : ElT Try.prog 25 86 3 32 (.agg #[.int .i64 0, .int .i64 0, .string ⟨#[]⟩]) := ⟨Try.underlying25, info_parts (by kernel_rfl), rfl, by decide⟩
theorem ER : ElT Try.prog 22 25 1 24 (.slice none 0 0) := ⟨Try.underlying22, info_parts (by kernel_rfl), rfl, by decide⟩
theorem bsN (x y : Int) (w : World) : (Instr.buildSlice 33 2 #[(0, .int .u32 x), (1, .int .u32 y)]).run Try.prog w = .ok (.slice (some ⟨w.heap.size, 0, none⟩) 2 2) (w.alloc (.cells #[.int .u32 x, .int .u32 y] 103)) := by kernel_rfl
end Go.Proofs.Ytpahjnfolbnloaa
