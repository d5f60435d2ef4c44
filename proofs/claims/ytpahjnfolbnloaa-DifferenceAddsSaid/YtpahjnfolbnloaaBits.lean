/- Contract of bits.Len, for small numbers. -/
import Derived.Test.YtpahjnfolbnloaaOf
import Derived.Test.YtpahjnfolbnloaaIface
set_option linter.unusedVariables false
namespace Go.Proofs.Ytpahjnfolbnloaa
open Go.RowKit Pl Go.Wk
attribute [local irreducible] WC WL QX WD WDB WP
/-- the number of bits -/
def lenB (x : Nat) : Nat := if x = 0 then 0 else Nat.log2 x + 1
theorem lenB_le {x : Nat} (h : x < 256) : lenB x ≤ 8 := by
  unfold lenB
  split
  · omega
  · rename_i h0
    have := (Nat.log2_lt h0).2 (show x < 2 ^ 8 by omega)
    omega
theorem lenB_lt {x : Nat} : x < 2 ^ lenB x := by
  unfold lenB
  split
  · omega
  · exact Nat.lt_log2_self
theorem tabB (s : ByteArray) (h : ((List.range 256).all fun j => (s.data.toList.getD j 0).toNat == lenB j) = true) {j : Nat} (hj : j < 256) : (s.data.toList.getD j 0).toNat = lenB j := by
  have := List.all_eq_true.1 h j (List.mem_range.2 hj)
  simpa using this
set_option maxRecDepth 100000 in
theorem len64_any {x : Nat} (h : x < 256) (w : World) : Ret Try.prog 61 [.int .u64 (x : Int)] w fun v w' => v = .int .i64 (lenB x : Int) ∧ w' = w := by
  refine enterR Try.func61 Try.ntmps61 rfl (by kernel_rfl) rfl ?_
  repeat first | refine ω1 ?_ | refine ω2 ?_ | refine ω3 ?_ | refine ω4 ?_ | refine ω5 ?_ | refine χ1 ?_ | refine κ1 ?_ | refine κ2 ?_ | refine χ2 ?_ | refine κ3 ?_ | refine ω6 ?_ | refine ω7 ?_ | refine ω9 ?_ | refine κ4 ?_ | refine κ7 ?_ | refine κ8 ?_ | refine χ3 ?_ | refine χ4 ?_ | refine κ5 ?_ | refine κ6 ?_ | refine χ5 ?_ | refine χ6 ?_ | refine χ7 ?_ | refine ω8 ?_
  refine cf ?_ ?_
  · exact decide_eq_false (by omega)
  repeat first | refine ω1 ?_ | refine ω2 ?_ | refine ω3 ?_ | refine ω4 ?_ | refine ω5 ?_ | refine χ1 ?_ | refine κ1 ?_ | refine κ2 ?_ | refine χ2 ?_ | refine κ3 ?_ | refine ω6 ?_ | refine ω7 ?_ | refine ω9 ?_ | refine κ4 ?_ | refine κ7 ?_ | refine κ8 ?_ | refine χ3 ?_ | refine χ4 ?_ | refine κ5 ?_ | refine κ6 ?_ | refine χ5 ?_ | refine χ6 ?_ | refine χ7 ?_ | refine ω8 ?_
  refine cf ?_ ?_
  · exact decide_eq_false (by omega)
  repeat first | refine ω1 ?_ | refine ω2 ?_ | refine ω3 ?_ | refine ω4 ?_ | refine ω5 ?_ | refine χ1 ?_ | refine κ1 ?_ | refine κ2 ?_ | refine χ2 ?_ | refine κ3 ?_ | refine ω6 ?_ | refine ω7 ?_ | refine ω9 ?_ | refine κ4 ?_ | refine κ7 ?_ | refine κ8 ?_ | refine χ3 ?_ | refine χ4 ?_ | refine κ5 ?_ | refine κ6 ?_ | refine χ5 ?_ | refine χ6 ?_ | refine χ7 ?_ | refine ω8 ?_
  refine cf ?_ ?_
  · exact decide_eq_false (by omega)
  repeat first | refine ω1 ?_ | refine ω2 ?_ | refine ω3 ?_ | refine ω4 ?_ | refine ω5 ?_ | refine χ1 ?_ | refine κ1 ?_ | refine κ2 ?_ | refine χ2 ?_ | refine κ3 ?_ | refine ω6 ?_ | refine ω7 ?_ | refine ω9 ?_ | refine κ4 ?_ | refine κ7 ?_ | refine κ8 ?_ | refine χ3 ?_ | refine χ4 ?_ | refine κ5 ?_ | refine κ6 ?_ | refine χ5 ?_ | refine χ6 ?_ | refine χ7 ?_ | refine ω8 ?_
  refine wsindex tt_ok x rfl rfl rfl rfl ?_ ?_ rfl ?_
  · rw [IntKind.wrap_u8]; omega
  · exact Nat.lt_of_lt_of_le h (by decide)
  refine kv 22 (u := .int .u8 (lenB x : Int)) (congrArg (fun z : Nat => Value.int .u8 (z : Int)) (tabB _ (by kernel_rfl) h)) ?_
  have := lenB_le h
  repeat first | refine ω1 ?_ | refine ω2 ?_ | refine ω3 ?_ | refine ω4 ?_ | refine ω5 ?_ | refine χ1 ?_ | refine κ1 ?_ | refine κ2 ?_ | refine χ2 ?_ | refine κ3 ?_ | refine ω6 ?_ | refine ω7 ?_ | refine ω9 ?_ | refine κ4 ?_ | refine κ7 ?_ | refine κ8 ?_ | refine χ3 ?_ | refine χ4 ?_ | refine κ5 ?_ | refine κ6 ?_ | refine χ5 ?_ | refine χ6 ?_ | refine χ7 ?_ | refine ω8 ?_
  refine fin1 ⟨?_, rfl⟩
  rw [i64w (z := (lenB x : Int)) (by omega)]
  simp only [Int.zero_add]
  rw [i64w (by omega)]
set_option maxRecDepth 100000 in
theorem bitsLen_any {x : Nat} (h : x < 256) (w : World) : Ret Try.prog 21 [.int .u64 (x : Int)] w fun v w' => v = .int .i64 (lenB x : Int) ∧ w' = w := by
  refine enterR Try.func21 Try.ntmps21 rfl (by kernel_rfl) rfl ?_
  repeat first | refine ω1 ?_ | refine ω2 ?_ | refine ω3 ?_ | refine ω4 ?_ | refine ω5 ?_ | refine χ1 ?_ | refine κ1 ?_ | refine κ2 ?_ | refine χ2 ?_ | refine κ3 ?_ | refine ω6 ?_ | refine ω7 ?_ | refine ω9 ?_ | refine κ4 ?_ | refine κ7 ?_ | refine κ8 ?_ | refine χ3 ?_ | refine χ4 ?_ | refine κ5 ?_ | refine κ6 ?_ | refine χ5 ?_ | refine χ6 ?_ | refine χ7 ?_ | refine ω8 ?_
  refine cl (len64_any h w) ?_
  rintro v w' ⟨rfl, rfl⟩
  repeat first | refine ω1 ?_ | refine ω2 ?_ | refine ω3 ?_ | refine ω4 ?_ | refine ω5 ?_ | refine χ1 ?_ | refine κ1 ?_ | refine κ2 ?_ | refine χ2 ?_ | refine κ3 ?_ | refine ω6 ?_ | refine ω7 ?_ | refine ω9 ?_ | refine κ4 ?_ | refine κ7 ?_ | refine κ8 ?_ | refine χ3 ?_ | refine χ4 ?_ | refine κ5 ?_ | refine κ6 ?_ | refine χ5 ?_ | refine χ6 ?_ | refine χ7 ?_ | refine ω8 ?_
  exact fin1 ⟨rfl, rfl⟩
end Go.Proofs.Ytpahjnfolbnloaa
