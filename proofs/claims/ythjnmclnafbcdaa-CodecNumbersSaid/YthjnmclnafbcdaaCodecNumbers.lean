/- For every input the law CodecNumbers returns true, and its argument reads afterwards as it read before. No condition. -/
import Derived.Test.YthjnmclnafbcdaaAwake
import Derived.Test.YthjnmclnafbcdaaOpen
set_option linter.unusedVariables false
namespace Go.Proofs.Ythjnmclnafbcdaa.codecNumbers
open Go.ChangeShapes Go.WideShapes Go.ChangeAt Go.RowKit Pl Go.Wk
attribute [local irreducible] WC WL QX WD

set_option maxRecDepth 100000 in
theorem walk (A : Option Addr) (l : List UInt8) (c : Nat) (w : World) (hr : Rd w 1 A l.length (Bc l)) (hl : l.length ≤ 9223372036854775807) :
    Ret Try.prog 3 [.slice A l.length c] w fun r w' => r = .bool true ∧ Ext w w' := by
  refine enterR Try.func3 Try.ntmps3 rfl (by kernel_rfl) rfl ?_
  repeat (first | (first | refine wadd rfl rfl (by omega) rfl ?_ | refine wsub rfl rfl (by omega) rfl ?_ | refine wmul rfl rfl (by omega) rfl ?_ | refine wp tt_ok rfl rfl ?_ | refine wnil ?_ | refine wguard rfl rfl ?_ | refine wpass rfl rfl rfl rfl ?_) | (first | refine qnext ?_ | refine bnormal ?_ | refine qret ?_ | refine bret ?_ | refine bexit ?_ | refine bother rfl ?_ | refine qexit ?_) | (first | refine wseq ?_ | refine wregion ?_ | refine wblock ?_ | refine wskip ?_ | refine wexit ?_ | refine wret ?_ | refine wcondt rfl ?_ | refine wcondf rfl ?_))
  refine wcond rfl (fun h => ?_) (fun h => ?_)
  · repeat (first | (first | refine wadd rfl rfl (by omega) rfl ?_ | refine wsub rfl rfl (by omega) rfl ?_ | refine wmul rfl rfl (by omega) rfl ?_ | refine wp tt_ok rfl rfl ?_ | refine wnil ?_ | refine wguard rfl rfl ?_ | refine wpass rfl rfl rfl rfl ?_) | (first | refine qnext ?_ | refine bnormal ?_ | refine qret ?_ | refine bret ?_ | refine bexit ?_ | refine bother rfl ?_ | refine qexit ?_) | (first | refine wseq ?_ | refine wregion ?_ | refine wblock ?_ | refine wskip ?_ | refine wexit ?_ | refine wret ?_ | refine wcondt rfl ?_ | refine wcondf rfl ?_))
    refine wcall rfl rfl (awake_any w) ?_
    rintro r w1 ⟨rfl, hx1⟩
    repeat (first | (first | refine wadd rfl rfl (by omega) rfl ?_ | refine wsub rfl rfl (by omega) rfl ?_ | refine wmul rfl rfl (by omega) rfl ?_ | refine wp tt_ok rfl rfl ?_ | refine wnil ?_ | refine wguard rfl rfl ?_ | refine wpass rfl rfl rfl rfl ?_) | (first | refine qnext ?_ | refine bnormal ?_ | refine qret ?_ | refine bret ?_ | refine bexit ?_ | refine bother rfl ?_ | refine qexit ?_) | (first | refine wseq ?_ | refine wregion ?_ | refine wblock ?_ | refine wskip ?_ | refine wexit ?_ | refine wret ?_ | refine wcondt rfl ?_ | refine wcondf rfl ?_))
    exact done1 rfl rfl ⟨rfl, hx1⟩
  · repeat (first | (first | refine wadd rfl rfl (by omega) rfl ?_ | refine wsub rfl rfl (by omega) rfl ?_ | refine wmul rfl rfl (by omega) rfl ?_ | refine wp tt_ok rfl rfl ?_ | refine wnil ?_ | refine wguard rfl rfl ?_ | refine wpass rfl rfl rfl rfl ?_) | (first | refine qnext ?_ | refine bnormal ?_ | refine qret ?_ | refine bret ?_ | refine bexit ?_ | refine bother rfl ?_ | refine qexit ?_) | (first | refine wseq ?_ | refine wregion ?_ | refine wblock ?_ | refine wskip ?_ | refine wexit ?_ | refine wret ?_ | refine wcondt rfl ?_ | refine wcondf rfl ?_))
    refine wcall rfl rfl (uint_any A l c w hr hl) ?_
    rintro r w1 ⟨rfl, rfl⟩
    repeat (first | (first | refine wadd rfl rfl (by omega) rfl ?_ | refine wsub rfl rfl (by omega) rfl ?_ | refine wmul rfl rfl (by omega) rfl ?_ | refine wp tt_ok rfl rfl ?_ | refine wnil ?_ | refine wguard rfl rfl ?_ | refine wpass rfl rfl rfl rfl ?_) | (first | refine qnext ?_ | refine bnormal ?_ | refine qret ?_ | refine bret ?_ | refine bexit ?_ | refine bother rfl ?_ | refine qexit ?_) | (first | refine wseq ?_ | refine wregion ?_ | refine wblock ?_ | refine wskip ?_ | refine wexit ?_ | refine wret ?_ | refine wcondt rfl ?_ | refine wcondf rfl ?_))
    refine wcall rfl rfl (refUint_any A l c w1 hr hl) ?_
    rintro r w2 ⟨rfl, rfl⟩
    repeat (first | (first | refine wadd rfl rfl (by omega) rfl ?_ | refine wsub rfl rfl (by omega) rfl ?_ | refine wmul rfl rfl (by omega) rfl ?_ | refine wp tt_ok rfl rfl ?_ | refine wnil ?_ | refine wguard rfl rfl ?_ | refine wpass rfl rfl rfl rfl ?_) | (first | refine qnext ?_ | refine bnormal ?_ | refine qret ?_ | refine bret ?_ | refine bexit ?_ | refine bother rfl ?_ | refine qexit ?_) | (first | refine wseq ?_ | refine wregion ?_ | refine wblock ?_ | refine wskip ?_ | refine wexit ?_ | refine wret ?_ | refine wcondt rfl ?_ | refine wcondf rfl ?_))
    refine wkt 28 rfl (beq_t rfl) ?_
    repeat (first | (first | refine wadd rfl rfl (by omega) rfl ?_ | refine wsub rfl rfl (by omega) rfl ?_ | refine wmul rfl rfl (by omega) rfl ?_ | refine wp tt_ok rfl rfl ?_ | refine wnil ?_ | refine wguard rfl rfl ?_ | refine wpass rfl rfl rfl rfl ?_) | (first | refine qnext ?_ | refine bnormal ?_ | refine qret ?_ | refine bret ?_ | refine bexit ?_ | refine bother rfl ?_ | refine qexit ?_) | (first | refine wseq ?_ | refine wregion ?_ | refine wblock ?_ | refine wskip ?_ | refine wexit ?_ | refine wret ?_ | refine wcondt rfl ?_ | refine wcondf rfl ?_))
    refine wkt 33 rfl (beq_t rfl) ?_
    repeat (first | (first | refine wadd rfl rfl (by omega) rfl ?_ | refine wsub rfl rfl (by omega) rfl ?_ | refine wmul rfl rfl (by omega) rfl ?_ | refine wp tt_ok rfl rfl ?_ | refine wnil ?_ | refine wguard rfl rfl ?_ | refine wpass rfl rfl rfl rfl ?_) | (first | refine qnext ?_ | refine bnormal ?_ | refine qret ?_ | refine bret ?_ | refine bexit ?_ | refine bother rfl ?_ | refine qexit ?_) | (first | refine wseq ?_ | refine wregion ?_ | refine wblock ?_ | refine wskip ?_ | refine wexit ?_ | refine wret ?_ | refine wcondt rfl ?_ | refine wcondf rfl ?_))
    refine wkt 38 rfl (beq_t rfl) ?_
    repeat (first | (first | refine wadd rfl rfl (by omega) rfl ?_ | refine wsub rfl rfl (by omega) rfl ?_ | refine wmul rfl rfl (by omega) rfl ?_ | refine wp tt_ok rfl rfl ?_ | refine wnil ?_ | refine wguard rfl rfl ?_ | refine wpass rfl rfl rfl rfl ?_) | (first | refine qnext ?_ | refine bnormal ?_ | refine qret ?_ | refine bret ?_ | refine bexit ?_ | refine bother rfl ?_ | refine qexit ?_) | (first | refine wseq ?_ | refine wregion ?_ | refine wblock ?_ | refine wskip ?_ | refine wexit ?_ | refine wret ?_ | refine wcondt rfl ?_ | refine wcondf rfl ?_))
    refine wcall rfl rfl (awake_any w2) ?_
    rintro r w1 ⟨rfl, hx1⟩
    repeat (first | (first | refine wadd rfl rfl (by omega) rfl ?_ | refine wsub rfl rfl (by omega) rfl ?_ | refine wmul rfl rfl (by omega) rfl ?_ | refine wp tt_ok rfl rfl ?_ | refine wnil ?_ | refine wguard rfl rfl ?_ | refine wpass rfl rfl rfl rfl ?_) | (first | refine qnext ?_ | refine bnormal ?_ | refine qret ?_ | refine bret ?_ | refine bexit ?_ | refine bother rfl ?_ | refine qexit ?_) | (first | refine wseq ?_ | refine wregion ?_ | refine wblock ?_ | refine wskip ?_ | refine wexit ?_ | refine wret ?_ | refine wcondt rfl ?_ | refine wcondf rfl ?_))
    exact done1 rfl rfl ⟨rfl, hx1⟩

theorem own : ownKnob Try.prog.godebug = none := by kernel_rfl
theorem laidOut : laidOutB Try.prog = true := by kernel_rfl
set_option maxRecDepth 100000 in
theorem lifted (os : Os) (started : os.Started) (H : Type) (enc : TypeId × Value → H) :
    ReturnsInHanded {} Try.checked os 3 .any (Rows.codecNumbersSpec.pre6 enc Try.prog Try.f3 Rows.codecNumbersRow.domain false) (Rows.codecNumbersSpec.post enc Try.prog Try.f3 false true false false) := by
  refine returnsInHanded_of_change (C := Try.checked) own started (by kernel_rfl) Try.func3
    (ChangeSpec.witness6 (enc := enc) (C := Try.checked) false ⟨#[], #[.slice none 0 0], []⟩ 8 (by kernel_rfl) (by kernel_rfl) (by kernel_rfl) (by kernel_rfl)) ?_
  intro W base args ds gs before hval0 hW hcnd _
  have hval : ∀ (j : Nat) t v, Try.f3.params[j]? = some t → args[j]? = some v → Value.okWide Try.prog W .any base t v := hval0
  have hW' := hW
  obtain ⟨p, q, hA0, hV, rfl, hfz, hnd⟩ := hW
  have hA : DataW.TrodAll enc Try.prog W 0 (fun _ => true) true Try.f3.params.toList args.toList ds p := hA0
  rw [Try.params3] at hA hval
  obtain ⟨v0, vs0, d0, ds0, p0, q0, hargs, rfl, rfl, h0, r0⟩ := trodAll_cons hA
  obtain ⟨rfl, rfl, rfl⟩ := trodAll_nil r0
  obtain rfl : args = #[v0] := by cases args; simp_all
  obtain ⟨rfl, rfl⟩ := trodVars_none hV
  obtain ⟨a0, len0, cap0, rfl⟩ := okWide_slice Try.underlying22 (hval 0 22 v0 rfl rfl)
  have k0 := h0
  have lt0 : ∀ x ∈ p0, x.block < W.heap.size := by obtain ⟨m, hm⟩ := k0; exact DataW.trod_lt m _ _ _ hm
  obtain ⟨fuel, hf⟩ := h0
  obtain ⟨l, rfl, hr, hlc, hcm⟩ := open_bytes Try.underlying22 Try.underlying5 (by kernel_rfl) hf
  clear hA0 hval0
  refine (walk a0 l cap0 W hr (by unfold maxLen at hcm; omega)).calls.mono fun e W' ⟨v, he, hv, bel⟩ => ?_
  subst he; subst hv
  exact ⟨_, rfl, _, _, _, [], _, [], hW', trodAll_mk1 (shut_bool Try.underlying4 _), (trodAll_cons_mk (Below.trod laidOut (by kernel_rfl) (of_decide_eq_true (by kernel_rfl)) k0 bel lt0) trodAll_mk0), rfl, bel.frame _, fun h => by cases h⟩
theorem over : Rows.codecNumbersRow.holds Try.pinned (OpenSpec.ofChange Rows.codecNumbersSpec) :=
  OpenClaim.holds_of_wide 3 Try.f3 rfl rfl rfl rfl rfl rfl rfl ⟨rfl, rfl, rfl, rfl, rfl⟩ rfl rfl rfl rfl rfl (by kernel_rfl) Try.func3 (by kernel_rfl)
    (of_decide_eq_true (by kernel_rfl)) (by unfold Func.isWrapper; first | (rw [if_pos (by decide +kernel)]; kernel_rfl) | (rw [if_neg (by decide +kernel)]; exact ⟨rfl, rfl⟩))
    (fun os started H enc _ => lifted os started H enc)
theorem proved : Rows.CodecNumbersSaid := over
#print axioms proved
end Go.Proofs.Ythjnmclnafbcdaa.codecNumbers
