/- The document's examples hold. -/
import Derived.Test.YthjnmclnafbcdaaNum
set_option linter.unusedVariables false
namespace Go.Proofs.Ythjnmclnafbcdaa
open Go.RowKit Pl Go.Wk
attribute [local irreducible] WC WL QX WD

def exV : V := ⟨2, 0, ⟨#[97, 0]⟩⟩
theorem bsAwake2 (w : World) : (Instr.buildSlice 22 2 #[(0, .int .u8 172), (1, .int .u8 2)]).run Try.prog w = .ok (.slice (some ⟨w.heap.size, 0, none⟩) 2 2) (w.alloc (.cells (Bc [172, 2]).toArray 5)) := by kernel_rfl
theorem bsAwake6 (w : World) : (Instr.buildSlice 22 6 #[(0, .int .u8 253), (1, .int .u8 158), (2, .int .u8 255), (3, .int .u8 0), (4, .int .u8 255), (5, .int .u8 255)]).run Try.prog w = .ok (.slice (some ⟨w.heap.size, 0, none⟩) 6 6) (w.alloc (.cells (Bc [253, 158, 255, 0, 255, 255]).toArray 5)) := by kernel_rfl
theorem buildAwake (w : World) : (Instr.build 42 #[(0, .int .i64 2), (2, .string ⟨#[97, 0]⟩)]).run Try.prog w = .ok exV.val w := by kernel_rfl
theorem exEnc : exV.enc true = [253, 158, 255, 0, 255, 255] := by decide +kernel
theorem exUint : uGo [172, 2] 10 0 0 = (300, 2, 0) := by decide +kernel

set_option maxRecDepth 100000 in
theorem awake_any (w : World) : Ret Try.prog 10 [] w fun r w' => r = .bool true ∧ Ext w w' := by
  refine enterR Try.func10 Try.ntmps10 rfl (by kernel_rfl) rfl ?_
  repeat (first | (first | refine wadd rfl rfl (by omega) rfl ?_ | refine wsub rfl rfl (by omega) rfl ?_ | refine wmul rfl rfl (by omega) rfl ?_ | refine wp tt_ok rfl rfl ?_ | refine wnil ?_ | refine wguard rfl rfl ?_ | refine wpass rfl rfl rfl rfl ?_) | (first | refine qnext ?_ | refine bnormal ?_ | refine qret ?_ | refine bret ?_ | refine bexit ?_ | refine bother rfl ?_ | refine qexit ?_) | (first | refine wseq ?_ | refine wregion ?_ | refine wblock ?_ | refine wskip ?_ | refine wexit ?_ | refine wret ?_ | refine wcondt rfl ?_ | refine wcondf rfl ?_))
  refine wbuild rfl (buildAwake w) rfl ?_
  refine wcall rfl rfl (encodeValue_any exV (by decide) true w) ?_
  rintro t w1 ⟨hx1, h1⟩
  rcases h1 with ⟨_, r, rfl, ho⟩ | ⟨h1, _⟩
  · rw [exEnc] at ho
    repeat (first | (first | refine wadd rfl rfl (by omega) rfl ?_ | refine wsub rfl rfl (by omega) rfl ?_ | refine wmul rfl rfl (by omega) rfl ?_ | refine wp tt_ok rfl rfl ?_ | refine wnil ?_ | refine wguard rfl rfl ?_ | refine wpass rfl rfl rfl rfl ?_) | (first | refine qnext ?_ | refine bnormal ?_ | refine qret ?_ | refine bret ?_ | refine bexit ?_ | refine bother rfl ?_ | refine qexit ?_) | (first | refine wseq ?_ | refine wregion ?_ | refine wblock ?_ | refine wskip ?_ | refine wexit ?_ | refine wret ?_ | refine wcondt rfl ?_ | refine wcondf rfl ?_))
    refine wbuildSlice rfl bsAwake2 rfl ?_
    intro w2 b2 hx2 hb2 hk2
    refine wcall rfl rfl (uint_any _ [172, 2] 2 w2 (hk2.rd (by rfl)) (by decide)) ?_
    rintro t w3 ⟨rfl, rfl⟩
    rw [exUint]
    obtain ⟨A, c, rfl, hc, _⟩ := own_form ho
    repeat (first | (first | refine wadd rfl rfl (by omega) rfl ?_ | refine wsub rfl rfl (by omega) rfl ?_ | refine wmul rfl rfl (by omega) rfl ?_ | refine wp tt_ok rfl rfl ?_ | refine wnil ?_ | refine wguard rfl rfl ?_ | refine wpass rfl rfl rfl rfl ?_) | (first | refine qnext ?_ | refine bnormal ?_ | refine qret ?_ | refine bret ?_ | refine bexit ?_ | refine bother rfl ?_ | refine qexit ?_) | (first | refine wseq ?_ | refine wregion ?_ | refine wblock ?_ | refine wskip ?_ | refine wexit ?_ | refine wret ?_ | refine wcondt rfl ?_ | refine wcondf rfl ?_))
    refine wbuildSlice rfl bsAwake6 rfl ?_
    intro w4 b4 hx4 hb4 hk4
    repeat (first | (first | refine wadd rfl rfl (by omega) rfl ?_ | refine wsub rfl rfl (by omega) rfl ?_ | refine wmul rfl rfl (by omega) rfl ?_ | refine wp tt_ok rfl rfl ?_ | refine wnil ?_ | refine wguard rfl rfl ?_ | refine wpass rfl rfl rfl rfl ?_) | (first | refine qnext ?_ | refine bnormal ?_ | refine qret ?_ | refine bret ?_ | refine bexit ?_ | refine bother rfl ?_ | refine qexit ?_) | (first | refine wseq ?_ | refine wregion ?_ | refine wblock ?_ | refine wskip ?_ | refine wexit ?_ | refine wret ?_ | refine wcondt rfl ?_ | refine wcondf rfl ?_))
    refine wcall rfl rfl (same_any (l := [253, 158, 255, 0, 255, 255]) (r := [253, 158, 255, 0, 255, 255]) w4 ((Rd.own ho).ext (hx2.trans hx4)) (hk4.rd (by rfl))) ?_
    rintro t w5 ⟨rfl, rfl⟩
    repeat (first | (first | refine wadd rfl rfl (by omega) rfl ?_ | refine wsub rfl rfl (by omega) rfl ?_ | refine wmul rfl rfl (by omega) rfl ?_ | refine wp tt_ok rfl rfl ?_ | refine wnil ?_ | refine wguard rfl rfl ?_ | refine wpass rfl rfl rfl rfl ?_) | (first | refine qnext ?_ | refine bnormal ?_ | refine qret ?_ | refine bret ?_ | refine bexit ?_ | refine bother rfl ?_ | refine qexit ?_) | (first | refine wseq ?_ | refine wregion ?_ | refine wblock ?_ | refine wskip ?_ | refine wexit ?_ | refine wret ?_ | refine wcondt rfl ?_ | refine wcondf rfl ?_))
    exact done1 rfl rfl ⟨rfl, (hx1.trans hx2).trans hx4⟩
  · exact absurd h1 (by decide +kernel)
end Go.Proofs.Ythjnmclnafbcdaa
