/- Contract of codec.AppendUint. -/
import Derived.Test.YthjnmclnafbcdaaAwake
import Derived.Test.YthjnmclnafbcdaaPlainB
set_option linter.unusedVariables false
namespace Go.Proofs.Ythjnmclnafbcdaa
open Go.RowKit Pl Go.Wk
attribute [local irreducible] WC WL QX WD

set_option maxRecDepth 100000 in
theorem appendUint_any (A : Option Addr) (l : List UInt8) (c m : Nat) (w : World) (hr : Rd w 1 A l.length (Bc l)) (hl : l.length ≤ 1000) (hlc : l.length ≤ c) (hm : m < M64) :
    Ret Try.prog 13 [.slice A l.length c, .int .u64 (m : Int)] w fun r w' => OwnB w' w.heap.size r (l ++ uEnc m) ∧ Ext w w' := by
  refine enterR Try.func13 Try.ntmps13 rfl (by kernel_rfl) rfl ?_
  repeat first | refine ω1 ?_ | refine ω2 ?_ | refine ω3 ?_ | refine ω4 ?_ | refine ω5 ?_ | refine χ1 ?_ | refine κ1 ?_ | refine κ2 ?_ | refine χ2 ?_ | refine κ3 ?_ | refine ω6 ?_ | refine ω7 ?_ | refine κ4 ?_ | refine κ7 ?_ | refine κ8 ?_ | refine χ3 ?_ | refine χ4 ?_ | refine κ5 ?_ | refine κ6 ?_ | refine χ5 ?_ | refine χ6 ?_ | refine χ7 ?_ | refine ω8 ?_
  refine wslice tt_ok 0 l.length l.length A l.length l.length rfl rfl rfl rfl rfl ⟨_, _, rfl, rfl⟩ ⟨_, _, rfl, rfl⟩ (.inr (by simp)) (Nat.zero_le _) (Nat.le_refl _) hlc (cut0 A _ 1) rfl rfl rfl ?_
  repeat first | refine ω1 ?_ | refine ω2 ?_ | refine ω3 ?_ | refine ω4 ?_ | refine ω5 ?_ | refine χ1 ?_ | refine κ1 ?_ | refine κ2 ?_ | refine χ2 ?_ | refine κ3 ?_ | refine ω6 ?_ | refine ω7 ?_ | refine κ4 ?_ | refine κ7 ?_ | refine κ8 ?_ | refine χ3 ?_ | refine χ4 ?_ | refine κ5 ?_ | refine κ6 ?_ | refine χ5 ?_ | refine χ6 ?_ | refine χ7 ?_ | refine ω8 ?_
  refine wloop4 (fun f pre m v => [(1, .int .u64 ((m : Nat) : Int)), (5, v)])
    (fun f pre m' v w' => Apd w' w.heap.size 5 1 v (l ++ pre).length (Bc (l ++ pre)) ∧ Ext w w' ∧ uEnc m = pre ++ uEncF f m' ∧ m' < 128 ^ (f + 1) ∧ m' < M64 ∧ pre.length + f = 9) (fun f pre m' v => m') 9 ([] : List UInt8) m (.slice A l.length l.length)
    (by repeat' (first | exact Sub.nil | refine Sub.cons rfl ?_)) ⟨by simpa using .inr ⟨A, rfl, hr⟩, Ext.refl w, rfl, Nat.lt_trans hm (by decide), hm, rfl⟩ ?_
  rintro f pre m' v w1 ⟨ha, hx, hu, hm', hmm, hpl⟩
  have hll : (l ++ pre).length ≤ 1009 := by simp; omega
  repeat first | refine ω1 ?_ | refine ω2 ?_ | refine ω3 ?_ | refine ω4 ?_ | refine ω5 ?_ | refine χ1 ?_ | refine κ1 ?_ | refine κ2 ?_ | refine χ2 ?_ | refine κ3 ?_ | refine ω6 ?_ | refine ω7 ?_ | refine κ4 ?_ | refine κ7 ?_ | refine κ8 ?_ | refine χ3 ?_ | refine χ4 ?_ | refine κ5 ?_ | refine κ6 ?_ | refine χ5 ?_ | refine χ6 ?_ | refine χ7 ?_ | refine ω8 ?_
  refine ci (fun h => ?_) (fun h => ?_)
  · have h128 : 128 ≤ m' := by have := of_decide_eq_true h; omega
    obtain ⟨g, rfl⟩ : ∃ g, f = g + 1 := by
      cases f with
      | zero => simp at hm'; omega
      | succ g => exact ⟨g, rfl⟩
    repeat first | refine ω1 ?_ | refine ω2 ?_ | refine ω3 ?_ | refine ω4 ?_ | refine ω5 ?_ | refine χ1 ?_ | refine κ1 ?_ | refine κ2 ?_ | refine χ2 ?_ | refine κ3 ?_ | refine ω6 ?_ | refine ω7 ?_ | refine κ4 ?_ | refine κ7 ?_ | refine κ8 ?_ | refine χ3 ?_ | refine χ4 ?_ | refine κ5 ?_ | refine κ6 ?_ | refine χ5 ?_ | refine χ6 ?_ | refine χ7 ?_ | refine ω8 ?_
    refine wapp1 hx E8 (bs1 _) rfl (fun b => rfl) ha rfl (one_int _ _) (by simp only [maxLen]; omega) (by omega) rfl rfl ?_
    intro v2 w2 b2 ho2 hx2 _ _
    repeat first | refine ω1 ?_ | refine ω2 ?_ | refine ω3 ?_ | refine ω4 ?_ | refine ω5 ?_ | refine χ1 ?_ | refine κ1 ?_ | refine κ2 ?_ | refine χ2 ?_ | refine κ3 ?_ | refine ω6 ?_ | refine ω7 ?_ | refine κ4 ?_ | refine κ7 ?_ | refine κ8 ?_ | refine χ3 ?_ | refine χ4 ?_ | refine κ5 ?_ | refine κ6 ?_ | refine χ5 ?_ | refine χ6 ?_ | refine χ7 ?_ | refine ω8 ?_
    refine wshr rfl rfl (by decide) rfl ?_
    repeat first | refine ω1 ?_ | refine ω2 ?_ | refine ω3 ?_ | refine ω4 ?_ | refine ω5 ?_ | refine χ1 ?_ | refine κ1 ?_ | refine κ2 ?_ | refine χ2 ?_ | refine κ3 ?_ | refine ω6 ?_ | refine ω7 ?_ | refine κ4 ?_ | refine κ7 ?_ | refine κ8 ?_ | refine χ3 ?_ | refine χ4 ?_ | refine κ5 ?_ | refine κ6 ?_ | refine χ5 ?_ | refine χ6 ?_ | refine χ7 ?_ | refine ω8 ?_
    have h2 := OwnB.snoc (or128 m') ho2
    refine qround4 g (pre ++ [UInt8.ofNat (m' % 128 + 128)]) (m' / 128) v2 (Sub.cons (congrArg (fun z => some (Value.int .u64 z)) (shr7 m')) (by repeat' (first | exact Sub.nil | refine Sub.cons rfl ?_))) ⟨.inl ?_, hx2, ?_, div128 hm', ?_, ?_⟩ ?_
    · rw [← List.append_assoc]; exact h2
    · rw [hu, uEncF_ge h128]; simp
    · exact Nat.lt_of_le_of_lt (Nat.div_le_self _ _) hmm
    · simp; omega
    · omega
  · have h128 : m' < 128 := by have := of_decide_eq_false h; omega
    repeat first | refine ω1 ?_ | refine ω2 ?_ | refine ω3 ?_ | refine ω4 ?_ | refine ω5 ?_ | refine χ1 ?_ | refine κ1 ?_ | refine κ2 ?_ | refine χ2 ?_ | refine κ3 ?_ | refine ω6 ?_ | refine ω7 ?_ | refine κ4 ?_ | refine κ7 ?_ | refine κ8 ?_ | refine χ3 ?_ | refine χ4 ?_ | refine κ5 ?_ | refine κ6 ?_ | refine χ5 ?_ | refine χ6 ?_ | refine χ7 ?_ | refine ω8 ?_
    refine wapp1 hx E8 (bs1 _) rfl (fun b => rfl) ha rfl (one_int _ _) (by simp only [maxLen]; omega) (by omega) rfl rfl ?_
    intro v2 w2 b2 ho2 hx2 _ _
    repeat first | refine ω1 ?_ | refine ω2 ?_ | refine ω3 ?_ | refine ω4 ?_ | refine ω5 ?_ | refine χ1 ?_ | refine κ1 ?_ | refine κ2 ?_ | refine χ2 ?_ | refine κ3 ?_ | refine ω6 ?_ | refine ω7 ?_ | refine κ4 ?_ | refine κ7 ?_ | refine κ8 ?_ | refine χ3 ?_ | refine χ4 ?_ | refine κ5 ?_ | refine κ6 ?_ | refine χ5 ?_ | refine χ6 ?_ | refine χ7 ?_ | refine ω8 ?_
    refine fin1 ⟨?_, hx2⟩
    have h2 := OwnB.snoc (Pl.byteOf m') ho2
    rw [hu, uEncF_lt h128, ← List.append_assoc]; exact h2
end Go.Proofs.Ythjnmclnafbcdaa
