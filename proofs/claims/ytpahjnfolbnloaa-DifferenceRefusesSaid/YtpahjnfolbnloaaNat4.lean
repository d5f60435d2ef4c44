/- Slices held against nil. -/
import Derived.Test.YtpahjnfolbnloaaRegC
import Derived.Test.YtpahjnfolbnloaaNat
import Derived.Laws.Cover3
import Derived.Lib.Bytealg
set_option linter.unusedVariables false
namespace Go.Wk
open Go.RowKit
section
variable {P : Program} {n : Nat} {al : AL} {w : World} {Q : Exit → Act → World → Prop} {ops : Array Oper} {rest : List Oper}
variable {d ty : Nat} {op : Op} {pos : String} {aft : Array Edge} {tt : TT}
/-- s == nil -/
theorem snil [h : Tab P tt] {x : Operand} {t t2 e : Nat} {k : TK} {A : Option Addr} {m c : Nat} (kk : WL P n ops Q rest ((d, .bool A.isNone) :: al) w) (ht : tk tt t = some k := by rfl) (hk : k.desc = .slice e := by rfl)
    (hx : ev al x = some (.slice A m c) := by rfl) (hd : Nat.blt d n = true := by rfl) : WL P n ops Q (⟨some d, .binOp .eql t x (.const (.slice none 0 0)) t2, ty, pos, aft, none⟩ :: rest) al w :=
  wop hd (fun a ha => by
    have hu := (tk_slice h.ok ht hk rfl).1
    have h2 : a.eval (.const (.slice none 0 0)) = .slice none 0 0 := rfl
    simp [execOp, ha.ev hx, h2, eqGuard, binOp, run_equal_slice_nil w t e A m c hu]) kk
end
end Go.Wk
/- Contracts of slices.Clone, at four element types. -/
set_option linter.unusedVariables false
namespace Go.Proofs.Ytpahjnfolbnloaa
open Go.RowKit Pl Go.Wk
attribute [local irreducible] WC WL QX WD WDB
theorem EB : ElT Try.prog 23 4 1 1 (.bool false) := ⟨Try.underlying23, info_parts (by kernel_rfl), rfl, by decide⟩
theorem EI : ElT Try.prog 73 3 1 8 (.int .i64 0) := ⟨Try.underlying73, info_parts (by kernel_rfl), rfl, by decide⟩
theorem bs0Bool (w : World) : (Instr.buildSlice 23 0 #[]).run Try.prog w = .ok (.slice (some ⟨w.heap.size, 0, none⟩) 0 0) (w.alloc (.cells ([] : List Value).toArray 4)) := by kernel_rfl
set_option maxRecDepth 100000 in
theorem cloneBool {A : Option Addr} {n c : Nat} {cs : List Value} {w : World} (hr : Rd w 1 A n cs) (h1 : ∀ u ∈ cs, u.oneCell' = true) (hb : n * 1 ≤ 140737488355328) :
    Ret Try.prog 52 [.slice A n c] w fun v w' => (∃ A' c', v = .slice A' n c' ∧ n ≤ c' ∧ Rd w' 1 A' n cs) ∧ Ext w w' := by
  refine enterR Try.func52 Try.ntmps52 rfl (by kernel_rfl) rfl ?_
  repeat first | refine ω1 ?_ | refine ω2 ?_ | refine ω3 ?_ | refine ω4 ?_ | refine ω5 ?_ | refine χ1 ?_ | refine κ1 ?_ | refine κ2 ?_ | refine χ2 ?_ | refine κ3 ?_ | refine ω6 ?_ | refine ω7 ?_ | refine ω9 ?_ | refine κ4 ?_ | refine κ7 ?_ | refine κ8 ?_ | refine χ3 ?_ | refine χ4 ?_ | refine κ5 ?_ | refine κ6 ?_ | refine χ5 ?_ | refine χ6 ?_ | refine χ7 ?_ | refine ω8 ?_
  refine snil ?_
  repeat first | refine ω1 ?_ | refine ω2 ?_ | refine ω3 ?_ | refine ω4 ?_ | refine ω5 ?_ | refine χ1 ?_ | refine κ1 ?_ | refine κ2 ?_ | refine χ2 ?_ | refine κ3 ?_ | refine ω6 ?_ | refine ω7 ?_ | refine ω9 ?_ | refine κ4 ?_ | refine κ7 ?_ | refine κ8 ?_ | refine χ3 ?_ | refine χ4 ?_ | refine κ5 ?_ | refine κ6 ?_ | refine χ5 ?_ | refine χ6 ?_ | refine χ7 ?_ | refine ω8 ?_
  refine ci (fun h => ?_) (fun h => ?_)
  · have hA : A = none := by simpa using h
    subst hA
    have hn : n = 0 := by
      rcases Nat.eq_zero_or_pos n with h0 | h0
      · exact h0
      · obtain ⟨ad, h2, _⟩ := hr.isome h0 (by omega); cases h2
    subst hn
    repeat first | refine ω1 ?_ | refine ω2 ?_ | refine ω3 ?_ | refine ω4 ?_ | refine ω5 ?_ | refine χ1 ?_ | refine κ1 ?_ | refine κ2 ?_ | refine χ2 ?_ | refine κ3 ?_ | refine ω6 ?_ | refine ω7 ?_ | refine ω9 ?_ | refine κ4 ?_ | refine κ7 ?_ | refine κ8 ?_ | refine χ3 ?_ | refine χ4 ?_ | refine κ5 ?_ | refine κ6 ?_ | refine χ5 ?_ | refine χ6 ?_ | refine χ7 ?_ | refine ω8 ?_
    exact fin1 ⟨⟨none, 0, rfl, Nat.le_refl _, hr⟩, Ext.refl w⟩
  · repeat first | refine ω1 ?_ | refine ω2 ?_ | refine ω3 ?_ | refine ω4 ?_ | refine ω5 ?_ | refine χ1 ?_ | refine κ1 ?_ | refine κ2 ?_ | refine χ2 ?_ | refine κ3 ?_ | refine ω6 ?_ | refine ω7 ?_ | refine ω9 ?_ | refine κ4 ?_ | refine κ7 ?_ | refine κ8 ?_ | refine χ3 ?_ | refine χ4 ?_ | refine κ5 ?_ | refine κ6 ?_ | refine χ5 ?_ | refine χ6 ?_ | refine χ7 ?_ | refine ω8 ?_
    refine bsl bs0Bool ?_
    intro w1 b hx1 hb1 hk1
    repeat first | refine ω1 ?_ | refine ω2 ?_ | refine ω3 ?_ | refine ω4 ?_ | refine ω5 ?_ | refine χ1 ?_ | refine κ1 ?_ | refine κ2 ?_ | refine χ2 ?_ | refine κ3 ?_ | refine ω6 ?_ | refine ω7 ?_ | refine ω9 ?_ | refine κ4 ?_ | refine κ7 ?_ | refine κ8 ?_ | refine χ3 ?_ | refine χ4 ?_ | refine κ5 ?_ | refine κ6 ?_ | refine χ5 ?_ | refine χ6 ?_ | refine χ7 ?_ | refine ω8 ?_
    refine apo hx1 EB (hk1.own (n := 0) hb1 rfl (Nat.zero_le _)) (hr.ext hx1) h1 (by unfold maxLen; omega) (by omega) ?_
    intro v2 w2 ho2 hx2 _ _
    obtain ⟨A2, c2, rfl, hc2, _⟩ := own_form ho2
    repeat first | refine ω1 ?_ | refine ω2 ?_ | refine ω3 ?_ | refine ω4 ?_ | refine ω5 ?_ | refine χ1 ?_ | refine κ1 ?_ | refine κ2 ?_ | refine χ2 ?_ | refine κ3 ?_ | refine ω6 ?_ | refine ω7 ?_ | refine ω9 ?_ | refine κ4 ?_ | refine κ7 ?_ | refine κ8 ?_ | refine χ3 ?_ | refine χ4 ?_ | refine κ5 ?_ | refine κ6 ?_ | refine χ5 ?_ | refine χ6 ?_ | refine χ7 ?_ | refine ω8 ?_
    rw [Nat.zero_add] at ho2 hc2 ⊢
    exact fin1 ⟨⟨A2, c2, rfl, hc2, Rd.own ho2⟩, hx2⟩
set_option maxRecDepth 100000 in
theorem cloneBoolF {A : Option Addr} {n c : Nat} {cs : List Value} {w : World} (hr : Rd w 1 A n cs) (h1 : ∀ u ∈ cs, u.oneCell' = true) (hb : n * 1 ≤ 140737488355328) :
    Ret Try.prog 52 [.slice A n c] w fun v w' => (∃ A' c', v = .slice A' n c' ∧ n ≤ c' ∧ Rd w' 1 A' n cs ∧ ∀ ad, A' = some ad → w.heap.size ≤ ad.block) ∧ Ext w w' := by
  refine enterR Try.func52 Try.ntmps52 rfl (by kernel_rfl) rfl ?_
  repeat first | refine ω1 ?_ | refine ω2 ?_ | refine ω3 ?_ | refine ω4 ?_ | refine ω5 ?_ | refine χ1 ?_ | refine κ1 ?_ | refine κ2 ?_ | refine χ2 ?_ | refine κ3 ?_ | refine ω6 ?_ | refine ω7 ?_ | refine ω9 ?_ | refine κ4 ?_ | refine κ7 ?_ | refine κ8 ?_ | refine χ3 ?_ | refine χ4 ?_ | refine κ5 ?_ | refine κ6 ?_ | refine χ5 ?_ | refine χ6 ?_ | refine χ7 ?_ | refine ω8 ?_
  refine snil ?_
  repeat first | refine ω1 ?_ | refine ω2 ?_ | refine ω3 ?_ | refine ω4 ?_ | refine ω5 ?_ | refine χ1 ?_ | refine κ1 ?_ | refine κ2 ?_ | refine χ2 ?_ | refine κ3 ?_ | refine ω6 ?_ | refine ω7 ?_ | refine ω9 ?_ | refine κ4 ?_ | refine κ7 ?_ | refine κ8 ?_ | refine χ3 ?_ | refine χ4 ?_ | refine κ5 ?_ | refine κ6 ?_ | refine χ5 ?_ | refine χ6 ?_ | refine χ7 ?_ | refine ω8 ?_
  refine ci (fun h => ?_) (fun h => ?_)
  · have hA : A = none := by simpa using h
    subst hA
    have hn : n = 0 := by
      rcases Nat.eq_zero_or_pos n with h0 | h0
      · exact h0
      · obtain ⟨ad, h2, _⟩ := hr.isome h0 (by omega); cases h2
    subst hn
    repeat first | refine ω1 ?_ | refine ω2 ?_ | refine ω3 ?_ | refine ω4 ?_ | refine ω5 ?_ | refine χ1 ?_ | refine κ1 ?_ | refine κ2 ?_ | refine χ2 ?_ | refine κ3 ?_ | refine ω6 ?_ | refine ω7 ?_ | refine ω9 ?_ | refine κ4 ?_ | refine κ7 ?_ | refine κ8 ?_ | refine χ3 ?_ | refine χ4 ?_ | refine κ5 ?_ | refine κ6 ?_ | refine χ5 ?_ | refine χ6 ?_ | refine χ7 ?_ | refine ω8 ?_
    exact fin1 ⟨⟨none, 0, rfl, Nat.le_refl _, hr, fun ad e => by cases e⟩, Ext.refl w⟩
  · repeat first | refine ω1 ?_ | refine ω2 ?_ | refine ω3 ?_ | refine ω4 ?_ | refine ω5 ?_ | refine χ1 ?_ | refine κ1 ?_ | refine κ2 ?_ | refine χ2 ?_ | refine κ3 ?_ | refine ω6 ?_ | refine ω7 ?_ | refine ω9 ?_ | refine κ4 ?_ | refine κ7 ?_ | refine κ8 ?_ | refine χ3 ?_ | refine χ4 ?_ | refine κ5 ?_ | refine κ6 ?_ | refine χ5 ?_ | refine χ6 ?_ | refine χ7 ?_ | refine ω8 ?_
    refine bsl bs0Bool ?_
    intro w1 b hx1 hb1 hk1
    repeat first | refine ω1 ?_ | refine ω2 ?_ | refine ω3 ?_ | refine ω4 ?_ | refine ω5 ?_ | refine χ1 ?_ | refine κ1 ?_ | refine κ2 ?_ | refine χ2 ?_ | refine κ3 ?_ | refine ω6 ?_ | refine ω7 ?_ | refine ω9 ?_ | refine κ4 ?_ | refine κ7 ?_ | refine κ8 ?_ | refine χ3 ?_ | refine χ4 ?_ | refine κ5 ?_ | refine κ6 ?_ | refine χ5 ?_ | refine χ6 ?_ | refine χ7 ?_ | refine ω8 ?_
    refine apo hx1 EB (hk1.own (n := 0) hb1 rfl (Nat.zero_le _)) (hr.ext hx1) h1 (by unfold maxLen; omega) (by omega) ?_
    intro v2 w2 ho2 hx2 _ _
    obtain ⟨A2, c2, rfl, hc2, hf⟩ := own_form ho2
    repeat first | refine ω1 ?_ | refine ω2 ?_ | refine ω3 ?_ | refine ω4 ?_ | refine ω5 ?_ | refine χ1 ?_ | refine κ1 ?_ | refine κ2 ?_ | refine χ2 ?_ | refine κ3 ?_ | refine ω6 ?_ | refine ω7 ?_ | refine ω9 ?_ | refine κ4 ?_ | refine κ7 ?_ | refine κ8 ?_ | refine χ3 ?_ | refine χ4 ?_ | refine κ5 ?_ | refine κ6 ?_ | refine χ5 ?_ | refine χ6 ?_ | refine χ7 ?_ | refine ω8 ?_
    rw [Nat.zero_add] at ho2 hc2 ⊢
    exact fin1 ⟨⟨A2, c2, rfl, hc2, Rd.own ho2, fun ad e => by subst e; exact (hf ad.block rfl).1⟩, hx2⟩
theorem bs0Row (w : World) : (Instr.buildSlice 25 0 #[]).run Try.prog w = .ok (.slice (some ⟨w.heap.size, 0, none⟩) 0 0) (w.alloc (.cells ([] : List Value).toArray 86)) := by kernel_rfl
set_option maxRecDepth 100000 in
theorem cloneRow {A : Option Addr} {n c : Nat} {cs : List Value} {w : World} (hr : Rd w 3 A n cs) (h1 : ∀ u ∈ cs, u.oneCell' = true) (hb : n * 32 ≤ 140737488355328) :
    Ret Try.prog 64 [.slice A n c] w fun v w' => (∃ A' c', v = .slice A' n c' ∧ n ≤ c' ∧ Rd w' 3 A' n cs) ∧ Ext w w' := by
  refine enterR Try.func64 Try.ntmps64 rfl (by kernel_rfl) rfl ?_
  repeat first | refine ω1 ?_ | refine ω2 ?_ | refine ω3 ?_ | refine ω4 ?_ | refine ω5 ?_ | refine χ1 ?_ | refine κ1 ?_ | refine κ2 ?_ | refine χ2 ?_ | refine κ3 ?_ | refine ω6 ?_ | refine ω7 ?_ | refine ω9 ?_ | refine κ4 ?_ | refine κ7 ?_ | refine κ8 ?_ | refine χ3 ?_ | refine χ4 ?_ | refine κ5 ?_ | refine κ6 ?_ | refine χ5 ?_ | refine χ6 ?_ | refine χ7 ?_ | refine ω8 ?_
  refine snil ?_
  repeat first | refine ω1 ?_ | refine ω2 ?_ | refine ω3 ?_ | refine ω4 ?_ | refine ω5 ?_ | refine χ1 ?_ | refine κ1 ?_ | refine κ2 ?_ | refine χ2 ?_ | refine κ3 ?_ | refine ω6 ?_ | refine ω7 ?_ | refine ω9 ?_ | refine κ4 ?_ | refine κ7 ?_ | refine κ8 ?_ | refine χ3 ?_ | refine χ4 ?_ | refine κ5 ?_ | refine κ6 ?_ | refine χ5 ?_ | refine χ6 ?_ | refine χ7 ?_ | refine ω8 ?_
  refine ci (fun h => ?_) (fun h => ?_)
  · have hA : A = none := by simpa using h
    subst hA
    have hn : n = 0 := by
      rcases Nat.eq_zero_or_pos n with h0 | h0
      · exact h0
      · obtain ⟨ad, h2, _⟩ := hr.isome h0 (by omega); cases h2
    subst hn
    repeat first | refine ω1 ?_ | refine ω2 ?_ | refine ω3 ?_ | refine ω4 ?_ | refine ω5 ?_ | refine χ1 ?_ | refine κ1 ?_ | refine κ2 ?_ | refine χ2 ?_ | refine κ3 ?_ | refine ω6 ?_ | refine ω7 ?_ | refine ω9 ?_ | refine κ4 ?_ | refine κ7 ?_ | refine κ8 ?_ | refine χ3 ?_ | refine χ4 ?_ | refine κ5 ?_ | refine κ6 ?_ | refine χ5 ?_ | refine χ6 ?_ | refine χ7 ?_ | refine ω8 ?_
    exact fin1 ⟨⟨none, 0, rfl, Nat.le_refl _, hr⟩, Ext.refl w⟩
  · repeat first | refine ω1 ?_ | refine ω2 ?_ | refine ω3 ?_ | refine ω4 ?_ | refine ω5 ?_ | refine χ1 ?_ | refine κ1 ?_ | refine κ2 ?_ | refine χ2 ?_ | refine κ3 ?_ | refine ω6 ?_ | refine ω7 ?_ | refine ω9 ?_ | refine κ4 ?_ | refine κ7 ?_ | refine κ8 ?_ | refine χ3 ?_ | refine χ4 ?_ | refine κ5 ?_ | refine κ6 ?_ | refine χ5 ?_ | refine χ6 ?_ | refine χ7 ?_ | refine ω8 ?_
    refine bsl bs0Row ?_
    intro w1 b hx1 hb1 hk1
    repeat first | refine ω1 ?_ | refine ω2 ?_ | refine ω3 ?_ | refine ω4 ?_ | refine ω5 ?_ | refine χ1 ?_ | refine κ1 ?_ | refine κ2 ?_ | refine χ2 ?_ | refine κ3 ?_ | refine ω6 ?_ | refine ω7 ?_ | refine ω9 ?_ | refine κ4 ?_ | refine κ7 ?_ | refine κ8 ?_ | refine χ3 ?_ | refine χ4 ?_ | refine κ5 ?_ | refine κ6 ?_ | refine χ5 ?_ | refine χ6 ?_ | refine χ7 ?_ | refine ω8 ?_
    refine apo hx1 EV (hk1.own (n := 0) hb1 rfl (Nat.zero_le _)) (hr.ext hx1) h1 (by unfold maxLen; omega) (by omega) ?_
    intro v2 w2 ho2 hx2 _ _
    obtain ⟨A2, c2, rfl, hc2, _⟩ := own_form ho2
    repeat first | refine ω1 ?_ | refine ω2 ?_ | refine ω3 ?_ | refine ω4 ?_ | refine ω5 ?_ | refine χ1 ?_ | refine κ1 ?_ | refine κ2 ?_ | refine χ2 ?_ | refine κ3 ?_ | refine ω6 ?_ | refine ω7 ?_ | refine ω9 ?_ | refine κ4 ?_ | refine κ7 ?_ | refine κ8 ?_ | refine χ3 ?_ | refine χ4 ?_ | refine κ5 ?_ | refine κ6 ?_ | refine χ5 ?_ | refine χ6 ?_ | refine χ7 ?_ | refine ω8 ?_
    rw [Nat.zero_add] at ho2 hc2 ⊢
    exact fin1 ⟨⟨A2, c2, rfl, hc2, Rd.own ho2⟩, hx2⟩
theorem bs0Int (w : World) : (Instr.buildSlice 73 0 #[]).run Try.prog w = .ok (.slice (some ⟨w.heap.size, 0, none⟩) 0 0) (w.alloc (.cells ([] : List Value).toArray 3)) := by kernel_rfl
set_option maxRecDepth 100000 in
theorem cloneInt {A : Option Addr} {n c : Nat} {cs : List Value} {w : World} (hr : Rd w 1 A n cs) (h1 : ∀ u ∈ cs, u.oneCell' = true) (hb : n * 8 ≤ 140737488355328) :
    Ret Try.prog 76 [.slice A n c] w fun v w' => (∃ A' c', v = .slice A' n c' ∧ n ≤ c' ∧ Rd w' 1 A' n cs) ∧ Ext w w' := by
  refine enterR Try.func76 Try.ntmps76 rfl (by kernel_rfl) rfl ?_
  repeat first | refine ω1 ?_ | refine ω2 ?_ | refine ω3 ?_ | refine ω4 ?_ | refine ω5 ?_ | refine χ1 ?_ | refine κ1 ?_ | refine κ2 ?_ | refine χ2 ?_ | refine κ3 ?_ | refine ω6 ?_ | refine ω7 ?_ | refine ω9 ?_ | refine κ4 ?_ | refine κ7 ?_ | refine κ8 ?_ | refine χ3 ?_ | refine χ4 ?_ | refine κ5 ?_ | refine κ6 ?_ | refine χ5 ?_ | refine χ6 ?_ | refine χ7 ?_ | refine ω8 ?_
  refine snil ?_
  repeat first | refine ω1 ?_ | refine ω2 ?_ | refine ω3 ?_ | refine ω4 ?_ | refine ω5 ?_ | refine χ1 ?_ | refine κ1 ?_ | refine κ2 ?_ | refine χ2 ?_ | refine κ3 ?_ | refine ω6 ?_ | refine ω7 ?_ | refine ω9 ?_ | refine κ4 ?_ | refine κ7 ?_ | refine κ8 ?_ | refine χ3 ?_ | refine χ4 ?_ | refine κ5 ?_ | refine κ6 ?_ | refine χ5 ?_ | refine χ6 ?_ | refine χ7 ?_ | refine ω8 ?_
  refine ci (fun h => ?_) (fun h => ?_)
  · have hA : A = none := by simpa using h
    subst hA
    have hn : n = 0 := by
      rcases Nat.eq_zero_or_pos n with h0 | h0
      · exact h0
      · obtain ⟨ad, h2, _⟩ := hr.isome h0 (by omega); cases h2
    subst hn
    repeat first | refine ω1 ?_ | refine ω2 ?_ | refine ω3 ?_ | refine ω4 ?_ | refine ω5 ?_ | refine χ1 ?_ | refine κ1 ?_ | refine κ2 ?_ | refine χ2 ?_ | refine κ3 ?_ | refine ω6 ?_ | refine ω7 ?_ | refine ω9 ?_ | refine κ4 ?_ | refine κ7 ?_ | refine κ8 ?_ | refine χ3 ?_ | refine χ4 ?_ | refine κ5 ?_ | refine κ6 ?_ | refine χ5 ?_ | refine χ6 ?_ | refine χ7 ?_ | refine ω8 ?_
    exact fin1 ⟨⟨none, 0, rfl, Nat.le_refl _, hr⟩, Ext.refl w⟩
  · repeat first | refine ω1 ?_ | refine ω2 ?_ | refine ω3 ?_ | refine ω4 ?_ | refine ω5 ?_ | refine χ1 ?_ | refine κ1 ?_ | refine κ2 ?_ | refine χ2 ?_ | refine κ3 ?_ | refine ω6 ?_ | refine ω7 ?_ | refine ω9 ?_ | refine κ4 ?_ | refine κ7 ?_ | refine κ8 ?_ | refine χ3 ?_ | refine χ4 ?_ | refine κ5 ?_ | refine κ6 ?_ | refine χ5 ?_ | refine χ6 ?_ | refine χ7 ?_ | refine ω8 ?_
    refine bsl bs0Int ?_
    intro w1 b hx1 hb1 hk1
    repeat first | refine ω1 ?_ | refine ω2 ?_ | refine ω3 ?_ | refine ω4 ?_ | refine ω5 ?_ | refine χ1 ?_ | refine κ1 ?_ | refine κ2 ?_ | refine χ2 ?_ | refine κ3 ?_ | refine ω6 ?_ | refine ω7 ?_ | refine ω9 ?_ | refine κ4 ?_ | refine κ7 ?_ | refine κ8 ?_ | refine χ3 ?_ | refine χ4 ?_ | refine κ5 ?_ | refine κ6 ?_ | refine χ5 ?_ | refine χ6 ?_ | refine χ7 ?_ | refine ω8 ?_
    refine apo hx1 EI (hk1.own (n := 0) hb1 rfl (Nat.zero_le _)) (hr.ext hx1) h1 (by unfold maxLen; omega) (by omega) ?_
    intro v2 w2 ho2 hx2 _ _
    obtain ⟨A2, c2, rfl, hc2, _⟩ := own_form ho2
    repeat first | refine ω1 ?_ | refine ω2 ?_ | refine ω3 ?_ | refine ω4 ?_ | refine ω5 ?_ | refine χ1 ?_ | refine κ1 ?_ | refine κ2 ?_ | refine χ2 ?_ | refine κ3 ?_ | refine ω6 ?_ | refine ω7 ?_ | refine ω9 ?_ | refine κ4 ?_ | refine κ7 ?_ | refine κ8 ?_ | refine χ3 ?_ | refine χ4 ?_ | refine κ5 ?_ | refine κ6 ?_ | refine χ5 ?_ | refine χ6 ?_ | refine χ7 ?_ | refine ω8 ?_
    rw [Nat.zero_add] at ho2 hc2 ⊢
    exact fin1 ⟨⟨A2, c2, rfl, hc2, Rd.own ho2⟩, hx2⟩
theorem bs0Nat (w : World) : (Instr.buildSlice 33 0 #[]).run Try.prog w = .ok (.slice (some ⟨w.heap.size, 0, none⟩) 0 0) (w.alloc (.cells ([] : List Value).toArray 103)) := by kernel_rfl
set_option maxRecDepth 100000 in
theorem cloneNat {A : Option Addr} {n c : Nat} {cs : List Value} {w : World} (hr : Rd w 1 A n cs) (h1 : ∀ u ∈ cs, u.oneCell' = true) (hb : n * 4 ≤ 140737488355328) :
    Ret Try.prog 87 [.slice A n c] w fun v w' => (∃ A' c', v = .slice A' n c' ∧ n ≤ c' ∧ Rd w' 1 A' n cs) ∧ Ext w w' := by
  refine enterR Try.func87 Try.ntmps87 rfl (by kernel_rfl) rfl ?_
  repeat first | refine ω1 ?_ | refine ω2 ?_ | refine ω3 ?_ | refine ω4 ?_ | refine ω5 ?_ | refine χ1 ?_ | refine κ1 ?_ | refine κ2 ?_ | refine χ2 ?_ | refine κ3 ?_ | refine ω6 ?_ | refine ω7 ?_ | refine ω9 ?_ | refine κ4 ?_ | refine κ7 ?_ | refine κ8 ?_ | refine χ3 ?_ | refine χ4 ?_ | refine κ5 ?_ | refine κ6 ?_ | refine χ5 ?_ | refine χ6 ?_ | refine χ7 ?_ | refine ω8 ?_
  refine snil ?_
  repeat first | refine ω1 ?_ | refine ω2 ?_ | refine ω3 ?_ | refine ω4 ?_ | refine ω5 ?_ | refine χ1 ?_ | refine κ1 ?_ | refine κ2 ?_ | refine χ2 ?_ | refine κ3 ?_ | refine ω6 ?_ | refine ω7 ?_ | refine ω9 ?_ | refine κ4 ?_ | refine κ7 ?_ | refine κ8 ?_ | refine χ3 ?_ | refine χ4 ?_ | refine κ5 ?_ | refine κ6 ?_ | refine χ5 ?_ | refine χ6 ?_ | refine χ7 ?_ | refine ω8 ?_
  refine ci (fun h => ?_) (fun h => ?_)
  · have hA : A = none := by simpa using h
    subst hA
    have hn : n = 0 := by
      rcases Nat.eq_zero_or_pos n with h0 | h0
      · exact h0
      · obtain ⟨ad, h2, _⟩ := hr.isome h0 (by omega); cases h2
    subst hn
    repeat first | refine ω1 ?_ | refine ω2 ?_ | refine ω3 ?_ | refine ω4 ?_ | refine ω5 ?_ | refine χ1 ?_ | refine κ1 ?_ | refine κ2 ?_ | refine χ2 ?_ | refine κ3 ?_ | refine ω6 ?_ | refine ω7 ?_ | refine ω9 ?_ | refine κ4 ?_ | refine κ7 ?_ | refine κ8 ?_ | refine χ3 ?_ | refine χ4 ?_ | refine κ5 ?_ | refine κ6 ?_ | refine χ5 ?_ | refine χ6 ?_ | refine χ7 ?_ | refine ω8 ?_
    exact fin1 ⟨⟨none, 0, rfl, Nat.le_refl _, hr⟩, Ext.refl w⟩
  · repeat first | refine ω1 ?_ | refine ω2 ?_ | refine ω3 ?_ | refine ω4 ?_ | refine ω5 ?_ | refine χ1 ?_ | refine κ1 ?_ | refine κ2 ?_ | refine χ2 ?_ | refine κ3 ?_ | refine ω6 ?_ | refine ω7 ?_ | refine ω9 ?_ | refine κ4 ?_ | refine κ7 ?_ | refine κ8 ?_ | refine χ3 ?_ | refine χ4 ?_ | refine κ5 ?_ | refine κ6 ?_ | refine χ5 ?_ | refine χ6 ?_ | refine χ7 ?_ | refine ω8 ?_
    refine bsl bs0Nat ?_
    intro w1 b hx1 hb1 hk1
    repeat first | refine ω1 ?_ | refine ω2 ?_ | refine ω3 ?_ | refine ω4 ?_ | refine ω5 ?_ | refine χ1 ?_ | refine κ1 ?_ | refine κ2 ?_ | refine χ2 ?_ | refine κ3 ?_ | refine ω6 ?_ | refine ω7 ?_ | refine ω9 ?_ | refine κ4 ?_ | refine κ7 ?_ | refine κ8 ?_ | refine χ3 ?_ | refine χ4 ?_ | refine κ5 ?_ | refine κ6 ?_ | refine χ5 ?_ | refine χ6 ?_ | refine χ7 ?_ | refine ω8 ?_
    refine apo hx1 EN (hk1.own (n := 0) hb1 rfl (Nat.zero_le _)) (hr.ext hx1) h1 (by unfold maxLen; omega) (by omega) ?_
    intro v2 w2 ho2 hx2 _ _
    obtain ⟨A2, c2, rfl, hc2, _⟩ := own_form ho2
    repeat first | refine ω1 ?_ | refine ω2 ?_ | refine ω3 ?_ | refine ω4 ?_ | refine ω5 ?_ | refine χ1 ?_ | refine κ1 ?_ | refine κ2 ?_ | refine χ2 ?_ | refine κ3 ?_ | refine ω6 ?_ | refine ω7 ?_ | refine ω9 ?_ | refine κ4 ?_ | refine κ7 ?_ | refine κ8 ?_ | refine χ3 ?_ | refine χ4 ?_ | refine κ5 ?_ | refine κ6 ?_ | refine χ5 ?_ | refine χ6 ?_ | refine χ7 ?_ | refine ω8 ?_
    rw [Nat.zero_add] at ho2 hc2 ⊢
    exact fin1 ⟨⟨A2, c2, rfl, hc2, Rd.own ho2⟩, hx2⟩
end Go.Proofs.Ytpahjnfolbnloaa
/- Contracts of Norm, Uint64, Add, Sub. -/
set_option linter.unusedVariables false
namespace Go.Proofs.Ytpahjnfolbnloaa
open Go.RowKit Pl Go.Wk
attribute [local irreducible] WC WL QX WD WDB
set_option maxRecDepth 100000 in
theorem natNorm_any {v : Value} {n : Nat} {w : World} (hv : NatV w v n) (hs : (limbs n).length ≤ 1000) : Ret Try.prog 62 [v] w fun r w' => NatV w' r n ∧ Ext w w' := by
  refine enterR Try.func62 Try.ntmps62 rfl (by kernel_rfl) rfl ?_
  repeat first | refine ω1 ?_ | refine ω2 ?_ | refine ω3 ?_ | refine ω4 ?_ | refine ω5 ?_ | refine χ1 ?_ | refine κ1 ?_ | refine κ2 ?_ | refine χ2 ?_ | refine κ3 ?_ | refine ω6 ?_ | refine ω7 ?_ | refine ω9 ?_ | refine κ4 ?_ | refine κ7 ?_ | refine κ8 ?_ | refine χ3 ?_ | refine χ4 ?_ | refine κ5 ?_ | refine κ6 ?_ | refine χ5 ?_ | refine χ6 ?_ | refine χ7 ?_ | refine ω8 ?_
  refine cl (trimV hv) ?_
  rintro v' w' ⟨⟨A, rfl, ha⟩, rfl⟩
  repeat first | refine ω1 ?_ | refine ω2 ?_ | refine ω3 ?_ | refine ω4 ?_ | refine ω5 ?_ | refine χ1 ?_ | refine κ1 ?_ | refine κ2 ?_ | refine χ2 ?_ | refine κ3 ?_ | refine ω6 ?_ | refine ω7 ?_ | refine ω9 ?_ | refine κ4 ?_ | refine κ7 ?_ | refine κ8 ?_ | refine χ3 ?_ | refine χ4 ?_ | refine κ5 ?_ | refine κ6 ?_ | refine χ5 ?_ | refine χ6 ?_ | refine χ7 ?_ | refine ω8 ?_
  refine cl (cloneNat ha (Nc_one _) (by omega)) ?_
  rintro v' w1 ⟨⟨A', c', rfl, hc, hr⟩, hx⟩
  repeat first | refine ω1 ?_ | refine ω2 ?_ | refine ω3 ?_ | refine ω4 ?_ | refine ω5 ?_ | refine χ1 ?_ | refine κ1 ?_ | refine κ2 ?_ | refine χ2 ?_ | refine κ3 ?_ | refine ω6 ?_ | refine ω7 ?_ | refine ω9 ?_ | refine κ4 ?_ | refine κ7 ?_ | refine κ8 ?_ | refine χ3 ?_ | refine χ4 ?_ | refine κ5 ?_ | refine κ6 ?_ | refine χ5 ?_ | refine χ6 ?_ | refine χ7 ?_ | refine ω8 ?_
  exact fin1 ⟨⟨A', c', rfl, hc, by omega, hr⟩, hx⟩
theorem small_len {n : Nat} (h : n < 18446744073709551616) : (limbs n).length ≤ 2 := by
  rcases Nat.lt_or_ge 2 (limbs n).length with h1 | h1
  · have hn : n ≠ 0 := fun e => by subst e; rw [limbs_0] at h1; simp at h1
    have h2 := limbs_len_le hn
    have h3 : 4294967296 ^ 2 ≤ 4294967296 ^ ((limbs n).length - 1) := Nat.pow_le_pow_right (by omega) (by omega)
    omega
  · exact h1
theorem or_limb {a : Nat} (k : Nat) (hk : k < 2) (h : a < 4294967296 ^ k) (c : UInt32) : bits .or .u64 (a : Int) (IntKind.u64.wrap (IntKind.u64.wrap (c.toNat : Int) * 2 ^ min (32 * (k : Int)).toNat IntKind.u64.bits)) = ((a + 4294967296 ^ k * c.toNat : Nat) : Int) := by
  have hc : c.toNat < 4294967296 := c.toNat_lt
  have e0 : IntKind.u64.wrap (c.toNat : Int) = (c.toNat : Int) := by rw [IntKind.wrap_u64]; omega
  rw [e0]
  match k, hk with
  | 0, _ =>
    have ha : a = 0 := by simpa using h
    subst ha
    have e1 : (2 : Int) ^ min (32 * ((0 : Nat) : Int)).toNat IntKind.u64.bits = 1 := by decide
    rw [e1, Int.mul_one, e0]
    have := u64_or_nat 0 c.toNat (by omega) (by omega)
    rw [Nat.zero_or] at this
    simpa using this
  | 1, _ =>
    have e1 : (2 : Int) ^ min (32 * ((1 : Nat) : Int)).toNat IntKind.u64.bits = 4294967296 := by decide
    have e2 : IntKind.u64.wrap ((c.toNat : Int) * 4294967296) = ((c.toNat * 4294967296 : Nat) : Int) := by rw [IntKind.wrap_u64]; omega
    have h' : a < 4294967296 := by simpa using h
    rw [e1, e2, u64_or_nat _ _ (by omega) (by omega)]
    have := nat_join 32 (c.toNat * 4294967296) a (by simp) h'
    rw [Nat.or_comm, this]
    omega
set_option maxRecDepth 100000 in
theorem natUint64_any {v : Value} {n : Nat} {w : World} (hv : NatV w v n) (h : n < 18446744073709551616) : Ret Try.prog 131 [v] w fun r w' => r = .tuple #[.int .u64 (n : Int), .bool true] ∧ w' = w := by
  have hl := small_len h
  refine enterR Try.func131 Try.ntmps131 rfl (by kernel_rfl) rfl ?_
  repeat first | refine ω1 ?_ | refine ω2 ?_ | refine ω3 ?_ | refine ω4 ?_ | refine ω5 ?_ | refine χ1 ?_ | refine κ1 ?_ | refine κ2 ?_ | refine χ2 ?_ | refine κ3 ?_ | refine ω6 ?_ | refine ω7 ?_ | refine ω9 ?_ | refine κ4 ?_ | refine κ7 ?_ | refine κ8 ?_ | refine χ3 ?_ | refine χ4 ?_ | refine κ5 ?_ | refine κ6 ?_ | refine χ5 ?_ | refine χ6 ?_ | refine χ7 ?_ | refine ω8 ?_
  refine cl (trimV hv) ?_
  rintro v' w' ⟨⟨A, rfl, ha⟩, rfl⟩
  repeat first | refine ω1 ?_ | refine ω2 ?_ | refine ω3 ?_ | refine ω4 ?_ | refine ω5 ?_ | refine χ1 ?_ | refine κ1 ?_ | refine κ2 ?_ | refine χ2 ?_ | refine κ3 ?_ | refine ω6 ?_ | refine ω7 ?_ | refine ω9 ?_ | refine κ4 ?_ | refine κ7 ?_ | refine κ8 ?_ | refine χ3 ?_ | refine χ4 ?_ | refine κ5 ?_ | refine κ6 ?_ | refine χ5 ?_ | refine χ6 ?_ | refine χ7 ?_ | refine ω8 ?_
  refine wcondn rfl (decide_eq_false (by omega)) ?_
  repeat first | refine ω1 ?_ | refine ω2 ?_ | refine ω3 ?_ | refine ω4 ?_ | refine ω5 ?_ | refine χ1 ?_ | refine κ1 ?_ | refine κ2 ?_ | refine χ2 ?_ | refine κ3 ?_ | refine ω6 ?_ | refine ω7 ?_ | refine ω9 ?_ | refine κ4 ?_ | refine κ7 ?_ | refine κ8 ?_ | refine χ3 ?_ | refine χ4 ?_ | refine κ5 ?_ | refine κ6 ?_ | refine χ5 ?_ | refine χ6 ?_ | refine χ7 ?_ | refine ω8 ?_
  refine wloop1 (fun k => [(4, .int .u64 ((val ((limbs n).take k) : Nat) : Int)), (0, .slice A (limbs n).length (limbs n).length), (12, .int .i64 ((limbs n).length : Int)), (13, .int .i64 ((k : Nat) : Int))]) (fun k w1 => w1 = w' ∧ k ≤ (limbs n).length) (fun k => (limbs n).length - k) 0 (by repeat' (first | exact Sub.nil | refine Sub.cons rfl ?_)) ⟨rfl, Nat.zero_le _⟩ ?_
  rintro k w1 ⟨rfl, hk⟩
  repeat first | refine ω1 ?_ | refine ω2 ?_ | refine ω3 ?_ | refine ω4 ?_ | refine ω5 ?_ | refine χ1 ?_ | refine κ1 ?_ | refine κ2 ?_ | refine χ2 ?_ | refine κ3 ?_ | refine ω6 ?_ | refine ω7 ?_ | refine ω9 ?_ | refine κ4 ?_ | refine κ7 ?_ | refine κ8 ?_ | refine χ3 ?_ | refine χ4 ?_ | refine κ5 ?_ | refine κ6 ?_ | refine χ5 ?_ | refine χ6 ?_ | refine χ7 ?_ | refine ω8 ?_
  refine ci (fun h => ?_) (fun h => ?_)
  · have hlt : k < (limbs n).length := by have := of_decide_eq_true h; omega
    repeat first | refine ω1 ?_ | refine ω2 ?_ | refine ω3 ?_ | refine ω4 ?_ | refine ω5 ?_ | refine χ1 ?_ | refine κ1 ?_ | refine κ2 ?_ | refine χ2 ?_ | refine κ3 ?_ | refine ω6 ?_ | refine ω7 ?_ | refine ω9 ?_ | refine κ4 ?_ | refine κ7 ?_ | refine κ8 ?_ | refine χ3 ?_ | refine χ4 ?_ | refine κ5 ?_ | refine κ6 ?_ | refine χ5 ?_ | refine χ6 ?_ | refine χ7 ?_ | refine ω8 ?_
    refine ix k ha hlt ?_
    repeat first | refine ω1 ?_ | refine ω2 ?_ | refine ω3 ?_ | refine ω4 ?_ | refine ω5 ?_ | refine χ1 ?_ | refine κ1 ?_ | refine κ2 ?_ | refine χ2 ?_ | refine κ3 ?_ | refine ω6 ?_ | refine ω7 ?_ | refine ω9 ?_ | refine κ4 ?_ | refine κ7 ?_ | refine κ8 ?_ | refine χ3 ?_ | refine χ4 ?_ | refine κ5 ?_ | refine κ6 ?_ | refine χ5 ?_ | refine χ6 ?_ | refine χ7 ?_ | refine ω8 ?_
    refine ld (ha.cell (Nc_get hlt)) ?_
    repeat first | refine ω1 ?_ | refine ω2 ?_ | refine ω3 ?_ | refine ω4 ?_ | refine ω5 ?_ | refine χ1 ?_ | refine κ1 ?_ | refine κ2 ?_ | refine χ2 ?_ | refine κ3 ?_ | refine ω6 ?_ | refine ω7 ?_ | refine ω9 ?_ | refine κ4 ?_ | refine κ7 ?_ | refine κ8 ?_ | refine χ3 ?_ | refine χ4 ?_ | refine κ5 ?_ | refine κ6 ?_ | refine χ5 ?_ | refine χ6 ?_ | refine χ7 ?_ | refine ω8 ?_
    refine wshl rfl rfl (by omega) rfl ?_
    repeat first | refine ω1 ?_ | refine ω2 ?_ | refine ω3 ?_ | refine ω4 ?_ | refine ω5 ?_ | refine χ1 ?_ | refine κ1 ?_ | refine κ2 ?_ | refine χ2 ?_ | refine κ3 ?_ | refine ω6 ?_ | refine ω7 ?_ | refine ω9 ?_ | refine κ4 ?_ | refine κ7 ?_ | refine κ8 ?_ | refine χ3 ?_ | refine χ4 ?_ | refine κ5 ?_ | refine κ6 ?_ | refine χ5 ?_ | refine χ6 ?_ | refine χ7 ?_ | refine ω8 ?_
    have hv1 := val_lt ((limbs n).take k)
    have hlk : ((limbs n).take k).length = k := by rw [List.length_take]; omega
    rw [hlk] at hv1
    have hsn : (limbs n).take (k + 1) = (limbs n).take k ++ [(limbs n).getD k 0] := by
      rw [List.take_succ_eq_append_getElem hlt]; simp [List.getD, List.getElem?_eq_getElem hlt]
    refine qround1 (k + 1) (Sub.cons (congrArg (fun z => some (Value.int .u64 z)) ?_) (by repeat' (first | exact Sub.nil | refine Sub.cons rfl ?_))) ⟨rfl, by omega⟩ (by omega)
    rw [or_limb k (by omega) hv1, hsn, val_app, hlk]
    simp [val]
  · have hge : k = (limbs n).length := by have := of_decide_eq_false h; omega
    subst hge
    repeat first | refine ω1 ?_ | refine ω2 ?_ | refine ω3 ?_ | refine ω4 ?_ | refine ω5 ?_ | refine χ1 ?_ | refine κ1 ?_ | refine κ2 ?_ | refine χ2 ?_ | refine κ3 ?_ | refine ω6 ?_ | refine ω7 ?_ | refine ω9 ?_ | refine κ4 ?_ | refine κ7 ?_ | refine κ8 ?_ | refine χ3 ?_ | refine χ4 ?_ | refine κ5 ?_ | refine κ6 ?_ | refine χ5 ?_ | refine χ6 ?_ | refine χ7 ?_ | refine ω8 ?_
    refine fin2 ⟨?_, rfl⟩
    rw [List.take_length, val_limbs]
end Go.Proofs.Ytpahjnfolbnloaa
/- Contract of Add. -/
set_option linter.unusedVariables false
namespace Go.Proofs.Ytpahjnfolbnloaa
open Go.RowKit Pl Go.Wk
attribute [local irreducible] WC WL QX WD WDB
theorem made1 (z : Value) (n : Nat) : (madeCells #[z] n).toList = List.replicate n z := by
  unfold madeCells
  apply List.ext_getElem
  · simp
  · intro i h1 h2
    simp [Nat.mod_one]
theorem Nc_zero (n : Nat) : List.replicate n (Value.int .u32 0) = Nc (List.replicate n 0) := by simp [Nc]
theorem Nc_set (l : List UInt32) (i : Nat) (c : UInt32) : (Nc l).set i (.int .u32 (c.toNat : Int)) = Nc (l.set i c) := by simp [Nc, List.map_set]
/-- one limb of a sum -/
theorem add_step {x y c : Nat} (hx : x < 4294967296) (hy : y < 4294967296) (hc : c ≤ 1) :
    IntKind.u64.wrap (IntKind.u64.wrap ((c : Int) + IntKind.u64.wrap (x : Int)) + IntKind.u64.wrap (y : Int)) = ((c + x + y : Nat) : Int) := by
  simp only [IntKind.wrap_u64]; omega
theorem add_step1 {x c : Nat} (hx : x < 4294967296) (hc : c ≤ 1) : IntKind.u64.wrap ((c : Int) + IntKind.u64.wrap (x : Int)) = ((c + x : Nat) : Int) := by
  simp only [IntKind.wrap_u64]; omega
theorem shr32 (n : Nat) : (n : Int).fdiv (2 ^ min (32 : Int).toNat IntKind.u64.bits) = ((n / 4294967296 : Nat) : Int) := by
  have e : (2 : Int) ^ min (32 : Int).toNat IntKind.u64.bits = ((4294967296 : Nat) : Int) := by decide
  rw [e, Int.fdiv_eq_ediv_of_nonneg _ (Int.natCast_nonneg _)]; omega
/-- what the loop holds after i limbs -/
def AddInv (a b : List UInt32) (i c : Nat) (os : List UInt32) : Prop := os.length = i ∧ c ≤ 1 ∧ val os + 4294967296 ^ i * c = val (a.take i) + val (b.take i)
theorem val_take {a : List UInt32} {i : Nat} : val (a.take (i + 1)) = val (a.take i) + 4294967296 ^ i * (a.getD i 0).toNat := by
  rcases Nat.lt_or_ge i a.length with h | h
  · have hsn : a.take (i + 1) = a.take i ++ [a.getD i 0] := by
      rw [List.take_succ_eq_append_getElem h]; simp [List.getD, List.getElem?_eq_getElem h]
    rw [hsn, val_app, List.length_take, Nat.min_eq_left (by omega)]
    simp [val]
  · rw [List.take_of_length_le (by omega), List.take_of_length_le h]
    have : a.getD i 0 = 0 := by simp [List.getD, List.getElem?_eq_none h]
    rw [this]; simp
theorem AddInv.step {a b : List UInt32} {i c : Nat} {os : List UInt32} (h : AddInv a b i c os) {s : Nat} (hs : s = c + (a.getD i 0).toNat + (b.getD i 0).toNat) : AddInv a b (i + 1) (s / 4294967296) (os ++ [UInt32.ofNat s]) := by
  obtain ⟨h1, h2, h3⟩ := h
  have hx : (a.getD i 0).toNat < 4294967296 := (a.getD i 0).toNat_lt
  have hy : (b.getD i 0).toNat < 4294967296 := (b.getD i 0).toNat_lt
  refine ⟨by simp [h1], by omega, ?_⟩
  rw [val_app, h1, val_take, val_take]
  simp only [val, UInt32.toNat_ofNat']
  have e : 4294967296 ^ (i + 1) * (s / 4294967296) = 4294967296 ^ i * (4294967296 * (s / 4294967296)) := by rw [Nat.pow_succ, Nat.mul_assoc]
  rw [e]
  have e2 : 4294967296 ^ i * (s % 2 ^ 32 + 4294967296 * 0) + 4294967296 ^ i * (4294967296 * (s / 4294967296)) = 4294967296 ^ i * s := by
    rw [← Nat.mul_add]; congr 1; omega
  have e3 : 4294967296 ^ i * s = 4294967296 ^ i * c + 4294967296 ^ i * (a.getD i 0).toNat + 4294967296 ^ i * (b.getD i 0).toNat := by
    rw [hs, Nat.mul_add, Nat.mul_add]
  omega
theorem set_mid (os : List UInt32) (r : Nat) (c : UInt32) : (os ++ List.replicate (r + 1) 0).set os.length c = (os ++ [c]) ++ List.replicate r 0 := by
  rw [List.set_append_right _ _ (Nat.le_refl _)]
  simp [List.replicate_succ]
theorem add_u64 {s y : Nat} (hs : s < 9223372036854775808) (hy : y < 4294967296) : IntKind.u64.wrap ((s : Int) + IntKind.u64.wrap (y : Int)) = ((s + y : Nat) : Int) := by
  simp only [IntKind.wrap_u64]; omega
abbrev OwnN (w : World) (base : Nat) (v : Value) (l : List UInt32) : Prop := w.ownsRow base 103 1 v l.length (Nc l)
/-- it lies in memory that was not there -/
def Fresh (w : World) (v : Value) : Prop := ∀ ad n c, v = .slice (some ad) n c → w.heap.size ≤ ad.block
theorem NatV.grown {w w' : World} {v : Value} {n : Nat} {g : Option Nat} (h : NatV w v n) (hg : w.grownBy w' g) (hf : ∀ ad m c, v = .slice (some ad) m c → some ad.block ≠ g) : NatV w' v n := by
  obtain ⟨A, c, rfl, h2, h3, h4⟩ := h
  exact ⟨A, c, rfl, h2, h3, Rd.grown h4 hg (fun ad e => Ne.symm (hf ad _ _ (by rw [e])))⟩
set_option maxRecDepth 100000 in
set_option maxHeartbeats 1000000 in
theorem natAddF_any {v u : Value} {n m : Nat} {w : World} (hv : NatV w v n) (hu : NatV w u m) (hln : (limbs n).length ≤ 1000) (hlm : (limbs m).length ≤ 1000) : Ret Try.prog 40 [v, u] w fun r w' => NatV w' r (n + m) ∧ Fresh w r ∧ Ext w w' := by
  refine enterR Try.func40 Try.ntmps40 rfl (by kernel_rfl) rfl ?_
  repeat first | refine ω1 ?_ | refine ω2 ?_ | refine ω3 ?_ | refine ω4 ?_ | refine ω5 ?_ | refine χ1 ?_ | refine κ1 ?_ | refine κ2 ?_ | refine χ2 ?_ | refine κ3 ?_ | refine ω6 ?_ | refine ω7 ?_ | refine ω9 ?_ | refine κ4 ?_ | refine κ7 ?_ | refine κ8 ?_ | refine χ3 ?_ | refine χ4 ?_ | refine κ5 ?_ | refine κ6 ?_ | refine χ5 ?_ | refine χ6 ?_ | refine χ7 ?_ | refine ω8 ?_
  refine cl (trimV hv) ?_
  rintro v' w' ⟨⟨A, rfl, ha⟩, rfl⟩
  repeat first | refine ω1 ?_ | refine ω2 ?_ | refine ω3 ?_ | refine ω4 ?_ | refine ω5 ?_ | refine χ1 ?_ | refine κ1 ?_ | refine κ2 ?_ | refine χ2 ?_ | refine κ3 ?_ | refine ω6 ?_ | refine ω7 ?_ | refine ω9 ?_ | refine κ4 ?_ | refine κ7 ?_ | refine κ8 ?_ | refine χ3 ?_ | refine χ4 ?_ | refine κ5 ?_ | refine κ6 ?_ | refine χ5 ?_ | refine χ6 ?_ | refine χ7 ?_ | refine ω8 ?_
  refine cl (trimV hu) ?_
  rintro u' w'' ⟨⟨B, rfl, hb⟩, rfl⟩
  repeat first | refine ω1 ?_ | refine ω2 ?_ | refine ω3 ?_ | refine ω4 ?_ | refine ω5 ?_ | refine χ1 ?_ | refine κ1 ?_ | refine κ2 ?_ | refine χ2 ?_ | refine κ3 ?_ | refine ω6 ?_ | refine ω7 ?_ | refine ω9 ?_ | refine κ4 ?_ | refine κ7 ?_ | refine κ8 ?_ | refine χ3 ?_ | refine χ4 ?_ | refine κ5 ?_ | refine κ6 ?_ | refine χ5 ?_ | refine χ6 ?_ | refine χ7 ?_ | refine ω8 ?_
  refine wjoin1 (fun s : (Option Addr × Nat) × (Option Addr × Nat) => [(0, .slice s.1.1 (limbs s.1.2).length (limbs s.1.2).length), (1, .slice s.2.1 (limbs s.2.2).length (limbs s.2.2).length)])
    (fun s w' => w' = w'' ∧ (limbs s.2.2).length ≤ (limbs s.1.2).length ∧ s.1.2 + s.2.2 = n + m ∧ Rd w'' 1 s.1.1 (limbs s.1.2).length (Nc (limbs s.1.2)) ∧ Rd w'' 1 s.2.1 (limbs s.2.2).length (Nc (limbs s.2.2)) ∧ (limbs s.1.2).length ≤ 1000) ?_ ?_
  · refine ci (fun h => ?_) (fun h => ?_)
    · repeat first | refine ω1 ?_ | refine ω2 ?_ | refine ω3 ?_ | refine ω4 ?_ | refine ω5 ?_ | refine χ1 ?_ | refine κ1 ?_ | refine κ2 ?_ | refine χ2 ?_ | refine κ3 ?_ | refine ω6 ?_ | refine ω7 ?_ | refine ω9 ?_ | refine κ4 ?_ | refine κ7 ?_ | refine κ8 ?_ | refine χ3 ?_ | refine χ4 ?_ | refine κ5 ?_ | refine κ6 ?_ | refine χ5 ?_ | refine χ6 ?_ | refine χ7 ?_ | refine ω8 ?_
      exact qjoin1 ((B, m), (A, n)) (by repeat' (first | exact Sub.nil | refine Sub.cons rfl ?_)) ⟨rfl, by have := of_decide_eq_true h; simp only; omega, Nat.add_comm _ _, hb, ha, hlm⟩
    · repeat first | refine ω1 ?_ | refine ω2 ?_ | refine ω3 ?_ | refine ω4 ?_ | refine ω5 ?_ | refine χ1 ?_ | refine κ1 ?_ | refine κ2 ?_ | refine χ2 ?_ | refine κ3 ?_ | refine ω6 ?_ | refine ω7 ?_ | refine ω9 ?_ | refine κ4 ?_ | refine κ7 ?_ | refine κ8 ?_ | refine χ3 ?_ | refine χ4 ?_ | refine κ5 ?_ | refine κ6 ?_ | refine χ5 ?_ | refine χ6 ?_ | refine χ7 ?_ | refine ω8 ?_
      exact qjoin1 ((A, n), (B, m)) (by repeat' (first | exact Sub.nil | refine Sub.cons rfl ?_)) ⟨rfl, by have := of_decide_eq_false h; simp only; omega, rfl, ha, hb, hln⟩
  rintro ⟨⟨A, x⟩, ⟨B, y⟩⟩ w' ⟨rfl, hle, hsum, ha, hb, hl⟩
  simp only at hle hsum ha hb hl
  generalize hL : (limbs x).length = L at *
  repeat first | refine ω1 ?_ | refine ω2 ?_ | refine ω3 ?_ | refine ω4 ?_ | refine ω5 ?_ | refine χ1 ?_ | refine κ1 ?_ | refine κ2 ?_ | refine χ2 ?_ | refine κ3 ?_ | refine ω6 ?_ | refine ω7 ?_ | refine ω9 ?_ | refine κ4 ?_ | refine κ7 ?_ | refine κ8 ?_ | refine χ3 ?_ | refine χ4 ?_ | refine κ5 ?_ | refine κ6 ?_ | refine χ5 ?_ | refine χ6 ?_ | refine χ7 ?_ | refine ω8 ?_
  refine mkn EN (L + 1) (by omega) (by unfold maxLen; omega) ?_
  intro w1 O hx1 ho1 hO
  have ho1' : OwnN w1 w'.heap.size (.slice O (L + 1) (L + 1)) ([] ++ List.replicate (L + 1) 0) := by
    have e : (madeCells (Value.int .u32 0).cells ((L + 1) * 1)).toList = Nc (List.replicate (L + 1) 0) := by rw [Nat.mul_one, ← Nc_zero]; exact made1 _ _
    rw [e] at ho1
    rw [OwnN, List.nil_append, List.length_replicate]; exact ho1
  repeat first | refine ω1 ?_ | refine ω2 ?_ | refine ω3 ?_ | refine ω4 ?_ | refine ω5 ?_ | refine χ1 ?_ | refine κ1 ?_ | refine κ2 ?_ | refine χ2 ?_ | refine κ3 ?_ | refine ω6 ?_ | refine ω7 ?_ | refine ω9 ?_ | refine κ4 ?_ | refine κ7 ?_ | refine κ8 ?_ | refine χ3 ?_ | refine χ4 ?_ | refine κ5 ?_ | refine κ6 ?_ | refine χ5 ?_ | refine χ6 ?_ | refine χ7 ?_ | refine ω8 ?_
  refine wloop3 (fun (k c : Nat) (os : List UInt32) => [(0, .slice A L L), (1, .slice B (limbs y).length (limbs y).length), (5, .slice O (L + 1) (L + 1)), (6, .int .u64 (c : Int)), (24, .int .i64 (L : Int)), (25, .int .i64 (k : Int))])
    (fun k c os w2 => Ext w' w2 ∧ k ≤ L ∧ AddInv (limbs x) (limbs y) k c os ∧ OwnN w2 w'.heap.size (.slice O (L + 1) (L + 1)) (os ++ List.replicate (L + 1 - k) 0)) (fun k _ _ => L - k) 0 0 [] (by repeat' (first | exact Sub.nil | refine Sub.cons rfl ?_))
    ⟨hx1, Nat.zero_le _, ⟨rfl, by omega, rfl⟩, ho1'⟩ ?_
  rintro k c os w2 ⟨hx2, hk, hI, ho2⟩
  have hol := hI.1
  have hc1 := hI.2.1
  have ha2 := ha.ext hx2
  have hb2 := hb.ext hx2
  repeat first | refine ω1 ?_ | refine ω2 ?_ | refine ω3 ?_ | refine ω4 ?_ | refine ω5 ?_ | refine χ1 ?_ | refine κ1 ?_ | refine κ2 ?_ | refine χ2 ?_ | refine κ3 ?_ | refine ω6 ?_ | refine ω7 ?_ | refine ω9 ?_ | refine κ4 ?_ | refine κ7 ?_ | refine κ8 ?_ | refine χ3 ?_ | refine χ4 ?_ | refine κ5 ?_ | refine κ6 ?_ | refine χ5 ?_ | refine χ6 ?_ | refine χ7 ?_ | refine ω8 ?_
  refine ci (fun h => ?_) (fun h => ?_)
  · have hlt : k < L := by have := of_decide_eq_true h; omega
    have hlx : ((limbs x).getD k 0).toNat < 4294967296 := ((limbs x).getD k 0).toNat_lt
    have hly : ((limbs y).getD k 0).toNat < 4294967296 := ((limbs y).getD k 0).toNat_lt
    have hlen : (os ++ List.replicate (L + 1 - k) (0 : UInt32)).length = L + 1 := by simp; omega
    have store : ∀ s : Nat, w2.cell? (adr O k) = (Nc (os ++ List.replicate (L + 1 - k) 0))[k]? ∧ w2.frozen? (adr O k) = false ∧
        OwnN (w2.setCell (adr O k) (.int .u32 ((UInt32.ofNat s).toNat : Int))) w'.heap.size (.slice O (L + 1) (L + 1)) ((os ++ [UInt32.ofNat s]) ++ List.replicate (L + 1 - (k + 1)) 0) ∧ Ext w' (w2.setCell (adr O k) (.int .u32 ((UInt32.ofNat s).toNat : Int))) := fun s => by
      have ho3 := ho2
      rw [OwnN, hlen] at ho3
      obtain ⟨s1, s2, s3, s4, s5⟩ := own_store ho3 (q := k) (by omega) (.int .u32 ((UInt32.ofNat s).toNat : Int))
      refine ⟨s1, s2, ?_, hx2.setCell s4 _⟩
      rw [Nc_set, show L + 1 - k = (L - k) + 1 by omega] at s3
      have e := set_mid os (L - k) (UInt32.ofNat s)
      rw [hol] at e
      rw [e] at s3
      rw [OwnN, show L + 1 - (k + 1) = L - k by omega]
      have e2 : ((os ++ [UInt32.ofNat s]) ++ List.replicate (L - k) (0 : UInt32)).length = L + 1 := by simp; omega
      rw [e2]; exact s3
    have hcell : (Nc (os ++ List.replicate (L + 1 - k) 0))[k]? = some (.int .u32 (((os ++ List.replicate (L + 1 - k) 0).getD k 0).toNat : Int)) := Nc_get (by rw [hlen]; omega)
    have rdO : Rd w2 1 O (L + 1) (Nc (os ++ List.replicate (L + 1 - k) 0)) := by have h5 := ho2; rw [OwnN, hlen] at h5; exact Rd.own h5
    repeat first | refine ω1 ?_ | refine ω2 ?_ | refine ω3 ?_ | refine ω4 ?_ | refine ω5 ?_ | refine χ1 ?_ | refine κ1 ?_ | refine κ2 ?_ | refine χ2 ?_ | refine κ3 ?_ | refine ω6 ?_ | refine ω7 ?_ | refine ω9 ?_ | refine κ4 ?_ | refine κ7 ?_ | refine κ8 ?_ | refine χ3 ?_ | refine χ4 ?_ | refine κ5 ?_ | refine κ6 ?_ | refine χ5 ?_ | refine χ6 ?_ | refine χ7 ?_ | refine ω8 ?_
    refine ix k ha2 hlt ?_
    repeat first | refine ω1 ?_ | refine ω2 ?_ | refine ω3 ?_ | refine ω4 ?_ | refine ω5 ?_ | refine χ1 ?_ | refine κ1 ?_ | refine κ2 ?_ | refine χ2 ?_ | refine κ3 ?_ | refine ω6 ?_ | refine ω7 ?_ | refine ω9 ?_ | refine κ4 ?_ | refine κ7 ?_ | refine κ8 ?_ | refine χ3 ?_ | refine χ4 ?_ | refine κ5 ?_ | refine κ6 ?_ | refine χ5 ?_ | refine χ6 ?_ | refine χ7 ?_ | refine ω8 ?_
    refine ld (ha2.cell (Nc_get (show k < (limbs x).length by omega))) ?_
    repeat first | refine ω1 ?_ | refine ω2 ?_ | refine ω3 ?_ | refine ω4 ?_ | refine ω5 ?_ | refine χ1 ?_ | refine κ1 ?_ | refine κ2 ?_ | refine χ2 ?_ | refine κ3 ?_ | refine ω6 ?_ | refine ω7 ?_ | refine ω9 ?_ | refine κ4 ?_ | refine κ7 ?_ | refine κ8 ?_ | refine χ3 ?_ | refine χ4 ?_ | refine κ5 ?_ | refine κ6 ?_ | refine χ5 ?_ | refine χ6 ?_ | refine χ7 ?_ | refine ω8 ?_
    rw [add_step1 hlx hc1]
    refine ci (fun h => ?_) (fun h => ?_)
    · have hlt2 : k < (limbs y).length := by have := of_decide_eq_true h; omega
      repeat first | refine ω1 ?_ | refine ω2 ?_ | refine ω3 ?_ | refine ω4 ?_ | refine ω5 ?_ | refine χ1 ?_ | refine κ1 ?_ | refine κ2 ?_ | refine χ2 ?_ | refine κ3 ?_ | refine ω6 ?_ | refine ω7 ?_ | refine ω9 ?_ | refine κ4 ?_ | refine κ7 ?_ | refine κ8 ?_ | refine χ3 ?_ | refine χ4 ?_ | refine κ5 ?_ | refine κ6 ?_ | refine χ5 ?_ | refine χ6 ?_ | refine χ7 ?_ | refine ω8 ?_
      refine ix k hb2 hlt2 ?_
      repeat first | refine ω1 ?_ | refine ω2 ?_ | refine ω3 ?_ | refine ω4 ?_ | refine ω5 ?_ | refine χ1 ?_ | refine κ1 ?_ | refine κ2 ?_ | refine χ2 ?_ | refine κ3 ?_ | refine ω6 ?_ | refine ω7 ?_ | refine ω9 ?_ | refine κ4 ?_ | refine κ7 ?_ | refine κ8 ?_ | refine χ3 ?_ | refine χ4 ?_ | refine κ5 ?_ | refine κ6 ?_ | refine χ5 ?_ | refine χ6 ?_ | refine χ7 ?_ | refine ω8 ?_
      refine ld (hb2.cell (Nc_get hlt2)) ?_
      repeat first | refine ω1 ?_ | refine ω2 ?_ | refine ω3 ?_ | refine ω4 ?_ | refine ω5 ?_ | refine χ1 ?_ | refine κ1 ?_ | refine κ2 ?_ | refine χ2 ?_ | refine κ3 ?_ | refine ω6 ?_ | refine ω7 ?_ | refine ω9 ?_ | refine κ4 ?_ | refine κ7 ?_ | refine κ8 ?_ | refine χ3 ?_ | refine χ4 ?_ | refine κ5 ?_ | refine κ6 ?_ | refine χ5 ?_ | refine χ6 ?_ | refine χ7 ?_ | refine ω8 ?_
      refine ix k rdO (by omega) ?_
      obtain ⟨s1, s2, s3, s4⟩ := store (c + ((limbs x).getD k 0).toNat + ((limbs y).getD k 0).toNat)
      rw [add_u64 (by omega) hly, u32lo]
      refine sto (s1.trans hcell) s2 ?_
      repeat first | refine ω1 ?_ | refine ω2 ?_ | refine ω3 ?_ | refine ω4 ?_ | refine ω5 ?_ | refine χ1 ?_ | refine κ1 ?_ | refine κ2 ?_ | refine χ2 ?_ | refine κ3 ?_ | refine ω6 ?_ | refine ω7 ?_ | refine ω9 ?_ | refine κ4 ?_ | refine κ7 ?_ | refine κ8 ?_ | refine χ3 ?_ | refine χ4 ?_ | refine κ5 ?_ | refine κ6 ?_ | refine χ5 ?_ | refine χ6 ?_ | refine χ7 ?_ | refine ω8 ?_
      refine wshr rfl rfl (by decide) rfl ?_
      repeat first | refine ω1 ?_ | refine ω2 ?_ | refine ω3 ?_ | refine ω4 ?_ | refine ω5 ?_ | refine χ1 ?_ | refine κ1 ?_ | refine κ2 ?_ | refine χ2 ?_ | refine κ3 ?_ | refine ω6 ?_ | refine ω7 ?_ | refine ω9 ?_ | refine κ4 ?_ | refine κ7 ?_ | refine κ8 ?_ | refine χ3 ?_ | refine χ4 ?_ | refine κ5 ?_ | refine κ6 ?_ | refine χ5 ?_ | refine χ6 ?_ | refine χ7 ?_ | refine ω8 ?_
      refine qround3 (k + 1) ((c + ((limbs x).getD k 0).toNat + ((limbs y).getD k 0).toNat) / 4294967296) (os ++ [UInt32.ofNat (c + ((limbs x).getD k 0).toNat + ((limbs y).getD k 0).toNat)]) ?_ ⟨s4, by omega, hI.step rfl, s3⟩ (by omega)
      rw [shr32]
      exact (by repeat' (first | exact Sub.nil | refine Sub.cons rfl ?_))
    · have hge : (limbs y).length ≤ k := by have := of_decide_eq_false h; omega
      have hy0 : (limbs y).getD k 0 = 0 := by simp [List.getD, List.getElem?_eq_none hge]
      repeat first | refine ω1 ?_ | refine ω2 ?_ | refine ω3 ?_ | refine ω4 ?_ | refine ω5 ?_ | refine χ1 ?_ | refine κ1 ?_ | refine κ2 ?_ | refine χ2 ?_ | refine κ3 ?_ | refine ω6 ?_ | refine ω7 ?_ | refine ω9 ?_ | refine κ4 ?_ | refine κ7 ?_ | refine κ8 ?_ | refine χ3 ?_ | refine χ4 ?_ | refine κ5 ?_ | refine κ6 ?_ | refine χ5 ?_ | refine χ6 ?_ | refine χ7 ?_ | refine ω8 ?_
      refine ix k rdO (by omega) ?_
      obtain ⟨s1, s2, s3, s4⟩ := store (c + ((limbs x).getD k 0).toNat)
      rw [u32lo]
      refine sto (s1.trans hcell) s2 ?_
      repeat first | refine ω1 ?_ | refine ω2 ?_ | refine ω3 ?_ | refine ω4 ?_ | refine ω5 ?_ | refine χ1 ?_ | refine κ1 ?_ | refine κ2 ?_ | refine χ2 ?_ | refine κ3 ?_ | refine ω6 ?_ | refine ω7 ?_ | refine ω9 ?_ | refine κ4 ?_ | refine κ7 ?_ | refine κ8 ?_ | refine χ3 ?_ | refine χ4 ?_ | refine κ5 ?_ | refine κ6 ?_ | refine χ5 ?_ | refine χ6 ?_ | refine χ7 ?_ | refine ω8 ?_
      refine wshr rfl rfl (by decide) rfl ?_
      repeat first | refine ω1 ?_ | refine ω2 ?_ | refine ω3 ?_ | refine ω4 ?_ | refine ω5 ?_ | refine χ1 ?_ | refine κ1 ?_ | refine κ2 ?_ | refine χ2 ?_ | refine κ3 ?_ | refine ω6 ?_ | refine ω7 ?_ | refine ω9 ?_ | refine κ4 ?_ | refine κ7 ?_ | refine κ8 ?_ | refine χ3 ?_ | refine χ4 ?_ | refine κ5 ?_ | refine κ6 ?_ | refine χ5 ?_ | refine χ6 ?_ | refine χ7 ?_ | refine ω8 ?_
      refine qround3 (k + 1) ((c + ((limbs x).getD k 0).toNat) / 4294967296) (os ++ [UInt32.ofNat (c + ((limbs x).getD k 0).toNat)]) ?_ ⟨s4, by omega, hI.step (by rw [hy0]; rfl), s3⟩ (by omega)
      rw [shr32]
      exact (by repeat' (first | exact Sub.nil | refine Sub.cons rfl ?_))
  · have hkL : k = L := by have := of_decide_eq_false h; omega
    subst hkL
    have hlen : (os ++ List.replicate (k + 1 - k) (0 : UInt32)).length = k + 1 := by simp; omega
    have ho3 := ho2
    rw [OwnN, hlen] at ho3
    have hcell : (Nc (os ++ List.replicate (k + 1 - k) 0))[k]? = some (.int .u32 (((os ++ List.replicate (k + 1 - k) 0).getD k 0).toNat : Int)) := Nc_get (by rw [hlen]; omega)
    obtain ⟨s1, s2, s3, s4, s5⟩ := own_store ho3 (q := k) (by omega) (.int .u32 ((UInt32.ofNat c).toNat : Int))
    rw [Nc_set, show k + 1 - k = 0 + 1 by omega] at s3
    have e := set_mid os 0 (UInt32.ofNat c)
    rw [hol, List.replicate_zero, List.append_nil] at e
    rw [e] at s3
    have hx3 := hx2.setCell s4 (.int .u32 ((UInt32.ofNat c).toNat : Int))
    repeat first | refine ω1 ?_ | refine ω2 ?_ | refine ω3 ?_ | refine ω4 ?_ | refine ω5 ?_ | refine χ1 ?_ | refine κ1 ?_ | refine κ2 ?_ | refine χ2 ?_ | refine κ3 ?_ | refine ω6 ?_ | refine ω7 ?_ | refine ω9 ?_ | refine κ4 ?_ | refine κ7 ?_ | refine κ8 ?_ | refine χ3 ?_ | refine χ4 ?_ | refine κ5 ?_ | refine κ6 ?_ | refine χ5 ?_ | refine χ6 ?_ | refine χ7 ?_ | refine ω8 ?_
    refine ix k (Rd.own ho3) (by omega) ?_
    rw [u32lo]
    refine sto (s1.trans hcell) s2 ?_
    repeat first | refine ω1 ?_ | refine ω2 ?_ | refine ω3 ?_ | refine ω4 ?_ | refine ω5 ?_ | refine χ1 ?_ | refine κ1 ?_ | refine κ2 ?_ | refine χ2 ?_ | refine κ3 ?_ | refine ω6 ?_ | refine ω7 ?_ | refine ω9 ?_ | refine κ4 ?_ | refine κ7 ?_ | refine κ8 ?_ | refine χ3 ?_ | refine χ4 ?_ | refine κ5 ?_ | refine κ6 ?_ | refine χ5 ?_ | refine χ6 ?_ | refine χ7 ?_ | refine ω8 ?_
    have hl3 : (os ++ [UInt32.ofNat c]).length = k + 1 := by simp; omega
    have hr3 := Rd.own s3
    have hval : val (os ++ [UInt32.ofNat c]) = n + m := by
      obtain ⟨i1, i2, i3⟩ := hI
      rw [val_app, i1]
      simp only [val, UInt32.toNat_ofNat']
      rw [← hsum, ← val_limbs x, ← val_limbs y, ← List.take_of_length_le (show (limbs x).length ≤ k by omega), ← List.take_of_length_le (show (limbs y).length ≤ k by omega), ← i3, show c % 2 ^ 32 + 4294967296 * 0 = c by omega]
    rw [← hl3] at hr3 ⊢
    refine cl (trim_any hr3 (Nat.le_refl _) (by omega)) ?_
    rintro t w4 ⟨rfl, rfl⟩
    have := trim_rd hr3 (by omega)
    rw [hval] at this ⊢
    repeat first | refine ω1 ?_ | refine ω2 ?_ | refine ω3 ?_ | refine ω4 ?_ | refine ω5 ?_ | refine χ1 ?_ | refine κ1 ?_ | refine κ2 ?_ | refine χ2 ?_ | refine κ3 ?_ | refine ω6 ?_ | refine ω7 ?_ | refine ω9 ?_ | refine κ4 ?_ | refine κ7 ?_ | refine κ8 ?_ | refine χ3 ?_ | refine χ4 ?_ | refine κ5 ?_ | refine κ6 ?_ | refine χ5 ?_ | refine χ6 ?_ | refine χ7 ?_ | refine ω8 ?_
    exact fin1 ⟨this, fun ad _ _ e => hO ad (by injection e), hx3⟩
theorem natAdd_any {v u : Value} {n m : Nat} {w : World} (hv : NatV w v n) (hu : NatV w u m) (hln : (limbs n).length ≤ 1000) (hlm : (limbs m).length ≤ 1000) : Ret Try.prog 40 [v, u] w fun r w' => NatV w' r (n + m) ∧ Ext w w' :=
  (natAddF_any hv hu hln hlm).mono fun _ _ h => ⟨h.1, h.2.2⟩
end Go.Proofs.Ytpahjnfolbnloaa
/- Contract of Sub. -/
set_option linter.unusedVariables false
namespace Go.Proofs.Ytpahjnfolbnloaa
open Go.RowKit Pl Go.Wk
attribute [local irreducible] WC WL QX WD WDB
def dif (x c y : Nat) : Nat := (18446744073709551616 + x - c - y) % 18446744073709551616
theorem sub_w1 {x c : Nat} (hx : x < 4294967296) (hc : c ≤ 1) : IntKind.u64.wrap (IntKind.u64.wrap (x : Int) - (c : Int)) = (dif x c 0 : Int) := by
  unfold dif; simp only [IntKind.wrap_u64]; omega
theorem sub_w2 {x c y : Nat} (hx : x < 4294967296) (hc : c ≤ 1) (hy : y < 4294967296) : IntKind.u64.wrap ((dif x c 0 : Int) - IntKind.u64.wrap (y : Int)) = (dif x c y : Int) := by
  unfold dif; simp only [IntKind.wrap_u64]; omega
theorem shr63 (n : Nat) : (n : Int).fdiv (2 ^ min (63 : Int).toNat IntKind.u64.bits) = ((n / 9223372036854775808 : Nat) : Int) := by
  have e : (2 : Int) ^ min (63 : Int).toNat IntKind.u64.bits = ((9223372036854775808 : Nat) : Int) := by decide
  rw [e, Int.fdiv_eq_ediv_of_nonneg _ (Int.natCast_nonneg _)]; omega
theorem dif_eq {x c y : Nat} (hx : x < 4294967296) (hc : c ≤ 1) (hy : y < 4294967296) : dif x c y % 4294967296 + y + c = x + 4294967296 * (dif x c y / 9223372036854775808) ∧ dif x c y / 9223372036854775808 ≤ 1 := by
  unfold dif; omega
def SubInv (a b : List UInt32) (i c : Nat) (os : List UInt32) : Prop := os.length = i ∧ c ≤ 1 ∧ val os + val (b.take i) = val (a.take i) + 4294967296 ^ i * c
theorem SubInv.step {a b : List UInt32} {i c : Nat} {os : List UInt32} (h : SubInv a b i c os) {s : Nat} (hs : s = dif (a.getD i 0).toNat c (b.getD i 0).toNat) :
    SubInv a b (i + 1) (s / 9223372036854775808) (os ++ [UInt32.ofNat s]) := by
  obtain ⟨h1, h2, h3⟩ := h
  have hx : (a.getD i 0).toNat < 4294967296 := (a.getD i 0).toNat_lt
  have hy : (b.getD i 0).toNat < 4294967296 := (b.getD i 0).toNat_lt
  obtain ⟨k1, k2⟩ := dif_eq hx h2 hy
  rw [← hs] at k1 k2
  refine ⟨by simp [h1], k2, ?_⟩
  rw [val_app, h1, val_take, val_take]
  simp only [val, UInt32.toNat_ofNat']
  have e : 4294967296 ^ (i + 1) * (s / 9223372036854775808) = 4294967296 ^ i * (4294967296 * (s / 9223372036854775808)) := by rw [Nat.pow_succ, Nat.mul_assoc]
  have e2 : s % 2 ^ 32 + 4294967296 * 0 = s % 4294967296 := by omega
  rw [e, e2]
  have e3 : 4294967296 ^ i * (s % 4294967296) + 4294967296 ^ i * (b.getD i 0).toNat + 4294967296 ^ i * c = 4294967296 ^ i * (a.getD i 0).toNat + 4294967296 ^ i * (4294967296 * (s / 9223372036854775808)) := by
    rw [← Nat.mul_add, ← Nat.mul_add, ← Nat.mul_add, k1]
  omega
set_option maxRecDepth 100000 in
set_option maxHeartbeats 1000000 in
theorem natSubF_any {v u : Value} {n m : Nat} {w : World} (hv : NatV w v n) (hu : NatV w u m) (hln : (limbs n).length ≤ 1000) :
    Ret Try.prog 65 [v, u] w fun r w' => (∃ x, r = .tuple #[x, .int .i64 (if n < m then 19 else 0)] ∧ NatV w' x (n - m) ∧ Fresh w x) ∧ Ext w w' := by
  refine enterR Try.func65 Try.ntmps65 rfl (by kernel_rfl) rfl ?_
  repeat first | refine ω1 ?_ | refine ω2 ?_ | refine ω3 ?_ | refine ω4 ?_ | refine ω5 ?_ | refine χ1 ?_ | refine κ1 ?_ | refine κ2 ?_ | refine χ2 ?_ | refine κ3 ?_ | refine ω6 ?_ | refine ω7 ?_ | refine ω9 ?_ | refine κ4 ?_ | refine κ7 ?_ | refine κ8 ?_ | refine χ3 ?_ | refine χ4 ?_ | refine κ5 ?_ | refine κ6 ?_ | refine χ5 ?_ | refine χ6 ?_ | refine χ7 ?_ | refine ω8 ?_
  refine cl (trimV hv) ?_
  rintro v' w' ⟨⟨A, rfl, ha⟩, rfl⟩
  repeat first | refine ω1 ?_ | refine ω2 ?_ | refine ω3 ?_ | refine ω4 ?_ | refine ω5 ?_ | refine χ1 ?_ | refine κ1 ?_ | refine κ2 ?_ | refine χ2 ?_ | refine κ3 ?_ | refine ω6 ?_ | refine ω7 ?_ | refine ω9 ?_ | refine κ4 ?_ | refine κ7 ?_ | refine κ8 ?_ | refine χ3 ?_ | refine χ4 ?_ | refine κ5 ?_ | refine κ6 ?_ | refine χ5 ?_ | refine χ6 ?_ | refine χ7 ?_ | refine ω8 ?_
  refine cl (trimV hu) ?_
  rintro u' w'' ⟨⟨B, rfl, hb⟩, rfl⟩
  have hlm : (limbs m).length ≤ 4611686018427387904 := by obtain ⟨_, _, _, _, h, _⟩ := hu; exact h
  repeat first | refine ω1 ?_ | refine ω2 ?_ | refine ω3 ?_ | refine ω4 ?_ | refine ω5 ?_ | refine χ1 ?_ | refine κ1 ?_ | refine κ2 ?_ | refine χ2 ?_ | refine κ3 ?_ | refine ω6 ?_ | refine ω7 ?_ | refine ω9 ?_ | refine κ4 ?_ | refine κ7 ?_ | refine κ8 ?_ | refine χ3 ?_ | refine χ4 ?_ | refine κ5 ?_ | refine κ6 ?_ | refine χ5 ?_ | refine χ6 ?_ | refine χ7 ?_ | refine ω8 ?_
  refine cl (natCmp_any (n := n) (m := m) ⟨A, _, rfl, Nat.le_refl _, by omega, ha⟩ ⟨B, _, rfl, Nat.le_refl _, hlm, hb⟩) ?_
  rintro t w' ⟨rfl, hx0⟩
  repeat first | refine ω1 ?_ | refine ω2 ?_ | refine ω3 ?_ | refine ω4 ?_ | refine ω5 ?_ | refine χ1 ?_ | refine κ1 ?_ | refine κ2 ?_ | refine χ2 ?_ | refine κ3 ?_ | refine ω6 ?_ | refine ω7 ?_ | refine ω9 ?_ | refine κ4 ?_ | refine κ7 ?_ | refine κ8 ?_ | refine χ3 ?_ | refine χ4 ?_ | refine κ5 ?_ | refine κ6 ?_ | refine χ5 ?_ | refine χ6 ?_ | refine χ7 ?_ | refine ω8 ?_
  refine ci (fun h => ?_) (fun h => ?_)
  · have hlt : n < m := by
      have := of_decide_eq_true h
      unfold cmpN at this
      rcases Nat.lt_or_ge n m with h1 | h1
      · exact h1
      · rw [if_neg (by omega)] at this; split at this <;> omega
    repeat first | refine ω1 ?_ | refine ω2 ?_ | refine ω3 ?_ | refine ω4 ?_ | refine ω5 ?_ | refine χ1 ?_ | refine κ1 ?_ | refine κ2 ?_ | refine χ2 ?_ | refine κ3 ?_ | refine ω6 ?_ | refine ω7 ?_ | refine ω9 ?_ | refine κ4 ?_ | refine κ7 ?_ | refine κ8 ?_ | refine χ3 ?_ | refine χ4 ?_ | refine κ5 ?_ | refine κ6 ?_ | refine χ5 ?_ | refine χ6 ?_ | refine χ7 ?_ | refine ω8 ?_
    refine fin2 ⟨⟨.slice none 0 0, ?_, ?_, fun ad _ _ e => by cases e⟩, hx0⟩
    · rw [if_pos hlt]
    · rw [show n - m = 0 by omega]; exact NatV.nil _
  have hge : m ≤ n := by
    have := of_decide_eq_false h
    unfold cmpN at this
    rcases Nat.lt_or_ge n m with h1 | h1
    · rw [if_pos h1] at this; omega
    · exact h1
  have hle : (limbs m).length ≤ (limbs n).length := by
    rcases Nat.lt_or_ge (limbs n).length (limbs m).length with h1 | h1
    · have := lt_of_len h1; omega
    · exact h1
  have ha0 := ha.ext hx0
  have hb0 := hb.ext hx0
  generalize hL : (limbs n).length = L at *
  repeat first | refine ω1 ?_ | refine ω2 ?_ | refine ω3 ?_ | refine ω4 ?_ | refine ω5 ?_ | refine χ1 ?_ | refine κ1 ?_ | refine κ2 ?_ | refine χ2 ?_ | refine κ3 ?_ | refine ω6 ?_ | refine ω7 ?_ | refine ω9 ?_ | refine κ4 ?_ | refine κ7 ?_ | refine κ8 ?_ | refine χ3 ?_ | refine χ4 ?_ | refine κ5 ?_ | refine κ6 ?_ | refine χ5 ?_ | refine χ6 ?_ | refine χ7 ?_ | refine ω8 ?_
  refine mkn EN L (by omega) (by unfold maxLen; omega) ?_
  intro w1 O hx1 ho1 hO
  have hx01 := hx0.trans hx1
  have hsz := hx0.size
  have ho1' : OwnN w1 w'.heap.size (.slice O L L) ([] ++ List.replicate L 0) := by
    have e : (madeCells (Value.int .u32 0).cells (L * 1)).toList = Nc (List.replicate L 0) := by rw [Nat.mul_one, ← Nc_zero]; exact made1 _ _
    rw [e] at ho1
    rw [OwnN, List.nil_append, List.length_replicate]; exact ho1
  repeat first | refine ω1 ?_ | refine ω2 ?_ | refine ω3 ?_ | refine ω4 ?_ | refine ω5 ?_ | refine χ1 ?_ | refine κ1 ?_ | refine κ2 ?_ | refine χ2 ?_ | refine κ3 ?_ | refine ω6 ?_ | refine ω7 ?_ | refine ω9 ?_ | refine κ4 ?_ | refine κ7 ?_ | refine κ8 ?_ | refine χ3 ?_ | refine χ4 ?_ | refine κ5 ?_ | refine κ6 ?_ | refine χ5 ?_ | refine χ6 ?_ | refine χ7 ?_ | refine ω8 ?_
  refine wloop3 (fun (k c : Nat) (os : List UInt32) => [(0, .slice A L L), (1, .slice B (limbs m).length (limbs m).length), (6, .slice O L L), (7, .int .u64 (c : Int)), (22, .int .i64 (L : Int)), (23, .int .i64 (k : Int))])
    (fun k c os w2 => Ext w' w2 ∧ k ≤ L ∧ SubInv (limbs n) (limbs m) k c os ∧ OwnN w2 w'.heap.size (.slice O L L) (os ++ List.replicate (L - k) 0)) (fun k _ _ => L - k) 0 0 [] (by repeat' (first | exact Sub.nil | refine Sub.cons rfl ?_))
    ⟨hx1, Nat.zero_le _, ⟨rfl, by omega, rfl⟩, ho1'⟩ ?_
  rintro k c os w2 ⟨hx2, hk, hI, ho2⟩
  have hol := hI.1
  have hc1 := hI.2.1
  have ha2 := ha0.ext hx2
  have hb2 := hb0.ext hx2
  repeat first | refine ω1 ?_ | refine ω2 ?_ | refine ω3 ?_ | refine ω4 ?_ | refine ω5 ?_ | refine χ1 ?_ | refine κ1 ?_ | refine κ2 ?_ | refine χ2 ?_ | refine κ3 ?_ | refine ω6 ?_ | refine ω7 ?_ | refine ω9 ?_ | refine κ4 ?_ | refine κ7 ?_ | refine κ8 ?_ | refine χ3 ?_ | refine χ4 ?_ | refine κ5 ?_ | refine κ6 ?_ | refine χ5 ?_ | refine χ6 ?_ | refine χ7 ?_ | refine ω8 ?_
  refine ci (fun h => ?_) (fun h => ?_)
  · have hlt : k < L := by have := of_decide_eq_true h; omega
    have hlx : ((limbs n).getD k 0).toNat < 4294967296 := ((limbs n).getD k 0).toNat_lt
    have hly : ((limbs m).getD k 0).toNat < 4294967296 := ((limbs m).getD k 0).toNat_lt
    have hlen : (os ++ List.replicate (L - k) (0 : UInt32)).length = L := by simp; omega
    have store : ∀ s : Nat, w2.cell? (adr O k) = (Nc (os ++ List.replicate (L - k) 0))[k]? ∧ w2.frozen? (adr O k) = false ∧
        OwnN (w2.setCell (adr O k) (.int .u32 ((UInt32.ofNat s).toNat : Int))) w'.heap.size (.slice O L L) ((os ++ [UInt32.ofNat s]) ++ List.replicate (L - (k + 1)) 0) ∧ Ext w' (w2.setCell (adr O k) (.int .u32 ((UInt32.ofNat s).toNat : Int))) := fun s => by
      have ho3 := ho2
      rw [OwnN, hlen] at ho3
      obtain ⟨s1, s2, s3, s4, s5⟩ := own_store ho3 (q := k) (by omega) (.int .u32 ((UInt32.ofNat s).toNat : Int))
      refine ⟨s1, s2, ?_, hx2.setCell s4 _⟩
      rw [Nc_set, show L - k = (L - (k + 1)) + 1 by omega] at s3
      have e := set_mid os (L - (k + 1)) (UInt32.ofNat s)
      rw [hol] at e
      rw [e] at s3
      have e2 : ((os ++ [UInt32.ofNat s]) ++ List.replicate (L - (k + 1)) (0 : UInt32)).length = L := by simp; omega
      rw [OwnN, e2]; exact s3
    have hcell : (Nc (os ++ List.replicate (L - k) 0))[k]? = some (.int .u32 (((os ++ List.replicate (L - k) 0).getD k 0).toNat : Int)) := Nc_get (by rw [hlen]; omega)
    have rdO : Rd w2 1 O L (Nc (os ++ List.replicate (L - k) 0)) := by have h5 := ho2; rw [OwnN, hlen] at h5; exact Rd.own h5
    repeat first | refine ω1 ?_ | refine ω2 ?_ | refine ω3 ?_ | refine ω4 ?_ | refine ω5 ?_ | refine χ1 ?_ | refine κ1 ?_ | refine κ2 ?_ | refine χ2 ?_ | refine κ3 ?_ | refine ω6 ?_ | refine ω7 ?_ | refine ω9 ?_ | refine κ4 ?_ | refine κ7 ?_ | refine κ8 ?_ | refine χ3 ?_ | refine χ4 ?_ | refine κ5 ?_ | refine κ6 ?_ | refine χ5 ?_ | refine χ6 ?_ | refine χ7 ?_ | refine ω8 ?_
    refine ix k ha2 hlt ?_
    repeat first | refine ω1 ?_ | refine ω2 ?_ | refine ω3 ?_ | refine ω4 ?_ | refine ω5 ?_ | refine χ1 ?_ | refine κ1 ?_ | refine κ2 ?_ | refine χ2 ?_ | refine κ3 ?_ | refine ω6 ?_ | refine ω7 ?_ | refine ω9 ?_ | refine κ4 ?_ | refine κ7 ?_ | refine κ8 ?_ | refine χ3 ?_ | refine χ4 ?_ | refine κ5 ?_ | refine κ6 ?_ | refine χ5 ?_ | refine χ6 ?_ | refine χ7 ?_ | refine ω8 ?_
    refine ld (ha2.cell (Nc_get (show k < (limbs n).length by omega))) ?_
    repeat first | refine ω1 ?_ | refine ω2 ?_ | refine ω3 ?_ | refine ω4 ?_ | refine ω5 ?_ | refine χ1 ?_ | refine κ1 ?_ | refine κ2 ?_ | refine χ2 ?_ | refine κ3 ?_ | refine ω6 ?_ | refine ω7 ?_ | refine ω9 ?_ | refine κ4 ?_ | refine κ7 ?_ | refine κ8 ?_ | refine χ3 ?_ | refine χ4 ?_ | refine κ5 ?_ | refine κ6 ?_ | refine χ5 ?_ | refine χ6 ?_ | refine χ7 ?_ | refine ω8 ?_
    rw [sub_w1 hlx hc1]
    refine ci (fun h => ?_) (fun h => ?_)
    · have hlt2 : k < (limbs m).length := by have := of_decide_eq_true h; omega
      repeat first | refine ω1 ?_ | refine ω2 ?_ | refine ω3 ?_ | refine ω4 ?_ | refine ω5 ?_ | refine χ1 ?_ | refine κ1 ?_ | refine κ2 ?_ | refine χ2 ?_ | refine κ3 ?_ | refine ω6 ?_ | refine ω7 ?_ | refine ω9 ?_ | refine κ4 ?_ | refine κ7 ?_ | refine κ8 ?_ | refine χ3 ?_ | refine χ4 ?_ | refine κ5 ?_ | refine κ6 ?_ | refine χ5 ?_ | refine χ6 ?_ | refine χ7 ?_ | refine ω8 ?_
      refine ix k hb2 hlt2 ?_
      repeat first | refine ω1 ?_ | refine ω2 ?_ | refine ω3 ?_ | refine ω4 ?_ | refine ω5 ?_ | refine χ1 ?_ | refine κ1 ?_ | refine κ2 ?_ | refine χ2 ?_ | refine κ3 ?_ | refine ω6 ?_ | refine ω7 ?_ | refine ω9 ?_ | refine κ4 ?_ | refine κ7 ?_ | refine κ8 ?_ | refine χ3 ?_ | refine χ4 ?_ | refine κ5 ?_ | refine κ6 ?_ | refine χ5 ?_ | refine χ6 ?_ | refine χ7 ?_ | refine ω8 ?_
      refine ld (hb2.cell (Nc_get hlt2)) ?_
      repeat first | refine ω1 ?_ | refine ω2 ?_ | refine ω3 ?_ | refine ω4 ?_ | refine ω5 ?_ | refine χ1 ?_ | refine κ1 ?_ | refine κ2 ?_ | refine χ2 ?_ | refine κ3 ?_ | refine ω6 ?_ | refine ω7 ?_ | refine ω9 ?_ | refine κ4 ?_ | refine κ7 ?_ | refine κ8 ?_ | refine χ3 ?_ | refine χ4 ?_ | refine κ5 ?_ | refine κ6 ?_ | refine χ5 ?_ | refine χ6 ?_ | refine χ7 ?_ | refine ω8 ?_
      refine ix k rdO (by omega) ?_
      obtain ⟨s1, s2, s3, s4⟩ := store (dif ((limbs n).getD k 0).toNat c ((limbs m).getD k 0).toNat)
      rw [sub_w2 hlx hc1 hly, u32lo]
      refine sto (s1.trans hcell) s2 ?_
      repeat first | refine ω1 ?_ | refine ω2 ?_ | refine ω3 ?_ | refine ω4 ?_ | refine ω5 ?_ | refine χ1 ?_ | refine κ1 ?_ | refine κ2 ?_ | refine χ2 ?_ | refine κ3 ?_ | refine ω6 ?_ | refine ω7 ?_ | refine ω9 ?_ | refine κ4 ?_ | refine κ7 ?_ | refine κ8 ?_ | refine χ3 ?_ | refine χ4 ?_ | refine κ5 ?_ | refine κ6 ?_ | refine χ5 ?_ | refine χ6 ?_ | refine χ7 ?_ | refine ω8 ?_
      refine wshr rfl rfl (by decide) rfl ?_
      repeat first | refine ω1 ?_ | refine ω2 ?_ | refine ω3 ?_ | refine ω4 ?_ | refine ω5 ?_ | refine χ1 ?_ | refine κ1 ?_ | refine κ2 ?_ | refine χ2 ?_ | refine κ3 ?_ | refine ω6 ?_ | refine ω7 ?_ | refine ω9 ?_ | refine κ4 ?_ | refine κ7 ?_ | refine κ8 ?_ | refine χ3 ?_ | refine χ4 ?_ | refine κ5 ?_ | refine κ6 ?_ | refine χ5 ?_ | refine χ6 ?_ | refine χ7 ?_ | refine ω8 ?_
      refine qround3 (k + 1) (dif ((limbs n).getD k 0).toNat c ((limbs m).getD k 0).toNat / 9223372036854775808) (os ++ [UInt32.ofNat (dif ((limbs n).getD k 0).toNat c ((limbs m).getD k 0).toNat)]) ?_ ⟨s4, by omega, hI.step rfl, s3⟩ (by omega)
      rw [shr63]
      exact (by repeat' (first | exact Sub.nil | refine Sub.cons rfl ?_))
    · have hge : (limbs m).length ≤ k := by have := of_decide_eq_false h; omega
      have hy0 : (limbs m).getD k 0 = 0 := by simp [List.getD, List.getElem?_eq_none hge]
      repeat first | refine ω1 ?_ | refine ω2 ?_ | refine ω3 ?_ | refine ω4 ?_ | refine ω5 ?_ | refine χ1 ?_ | refine κ1 ?_ | refine κ2 ?_ | refine χ2 ?_ | refine κ3 ?_ | refine ω6 ?_ | refine ω7 ?_ | refine ω9 ?_ | refine κ4 ?_ | refine κ7 ?_ | refine κ8 ?_ | refine χ3 ?_ | refine χ4 ?_ | refine κ5 ?_ | refine κ6 ?_ | refine χ5 ?_ | refine χ6 ?_ | refine χ7 ?_ | refine ω8 ?_
      refine ix k rdO (by omega) ?_
      obtain ⟨s1, s2, s3, s4⟩ := store (dif ((limbs n).getD k 0).toNat c 0)
      rw [u32lo]
      refine sto (s1.trans hcell) s2 ?_
      repeat first | refine ω1 ?_ | refine ω2 ?_ | refine ω3 ?_ | refine ω4 ?_ | refine ω5 ?_ | refine χ1 ?_ | refine κ1 ?_ | refine κ2 ?_ | refine χ2 ?_ | refine κ3 ?_ | refine ω6 ?_ | refine ω7 ?_ | refine ω9 ?_ | refine κ4 ?_ | refine κ7 ?_ | refine κ8 ?_ | refine χ3 ?_ | refine χ4 ?_ | refine κ5 ?_ | refine κ6 ?_ | refine χ5 ?_ | refine χ6 ?_ | refine χ7 ?_ | refine ω8 ?_
      refine wshr rfl rfl (by decide) rfl ?_
      repeat first | refine ω1 ?_ | refine ω2 ?_ | refine ω3 ?_ | refine ω4 ?_ | refine ω5 ?_ | refine χ1 ?_ | refine κ1 ?_ | refine κ2 ?_ | refine χ2 ?_ | refine κ3 ?_ | refine ω6 ?_ | refine ω7 ?_ | refine ω9 ?_ | refine κ4 ?_ | refine κ7 ?_ | refine κ8 ?_ | refine χ3 ?_ | refine χ4 ?_ | refine κ5 ?_ | refine κ6 ?_ | refine χ5 ?_ | refine χ6 ?_ | refine χ7 ?_ | refine ω8 ?_
      refine qround3 (k + 1) (dif ((limbs n).getD k 0).toNat c 0 / 9223372036854775808) (os ++ [UInt32.ofNat (dif ((limbs n).getD k 0).toNat c 0)]) ?_ ⟨s4, by omega, hI.step (by rw [hy0]; rfl), s3⟩ (by omega)
      rw [shr63]
      exact (by repeat' (first | exact Sub.nil | refine Sub.cons rfl ?_))
  · have hkL : k = L := by have := of_decide_eq_false h; omega
    subst hkL
    have hr3 : Rd w2 1 O os.length (Nc os) := by
      have := Rd.own (show w2.ownsRow w'.heap.size 103 1 (.slice O k k) k (Nc os) by
        have h5 := ho2
        rw [OwnN, Nat.sub_self, List.replicate_zero, List.append_nil, hol] at h5; exact h5)
      rw [hol]; exact this
    have hval : val os = n - m := by
      obtain ⟨i1, i2, i3⟩ := hI
      rw [List.take_of_length_le (show (limbs n).length ≤ k by omega), List.take_of_length_le (show (limbs m).length ≤ k by omega), val_limbs, val_limbs] at i3
      have hv := val_lt os
      rw [i1] at hv
      rcases Nat.eq_zero_or_pos c with h0 | h0
      · subst h0; omega
      · have : c = 1 := by omega
        subst this; omega
    repeat first | refine ω1 ?_ | refine ω2 ?_ | refine ω3 ?_ | refine ω4 ?_ | refine ω5 ?_ | refine χ1 ?_ | refine κ1 ?_ | refine κ2 ?_ | refine χ2 ?_ | refine κ3 ?_ | refine ω6 ?_ | refine ω7 ?_ | refine ω9 ?_ | refine κ4 ?_ | refine κ7 ?_ | refine κ8 ?_ | refine χ3 ?_ | refine χ4 ?_ | refine κ5 ?_ | refine κ6 ?_ | refine χ5 ?_ | refine χ6 ?_ | refine χ7 ?_ | refine ω8 ?_
    rw [← hol]
    refine cl (trim_any hr3 (Nat.le_refl _) (by omega)) ?_
    rintro t w4 ⟨rfl, rfl⟩
    have := trim_rd hr3 (by omega)
    rw [hval] at this ⊢
    repeat first | refine ω1 ?_ | refine ω2 ?_ | refine ω3 ?_ | refine ω4 ?_ | refine ω5 ?_ | refine χ1 ?_ | refine κ1 ?_ | refine κ2 ?_ | refine χ2 ?_ | refine κ3 ?_ | refine ω6 ?_ | refine ω7 ?_ | refine ω9 ?_ | refine κ4 ?_ | refine κ7 ?_ | refine κ8 ?_ | refine χ3 ?_ | refine χ4 ?_ | refine κ5 ?_ | refine κ6 ?_ | refine χ5 ?_ | refine χ6 ?_ | refine χ7 ?_ | refine ω8 ?_
    refine fin2 ⟨⟨_, ?_, this, fun ad _ _ e => Nat.le_trans hsz (hO ad (by injection e))⟩, hx0.trans hx2⟩
    rw [if_neg (by omega)]
theorem natSub_any {v u : Value} {n m : Nat} {w : World} (hv : NatV w v n) (hu : NatV w u m) (hln : (limbs n).length ≤ 1000) :
    Ret Try.prog 65 [v, u] w fun r w' => (∃ x, r = .tuple #[x, .int .i64 (if n < m then 19 else 0)] ∧ NatV w' x (n - m)) ∧ Ext w w' :=
  (natSubF_any hv hu hln).mono fun _ _ ⟨⟨x, h1, h2, _⟩, h3⟩ => ⟨⟨x, h1, h2⟩, h3⟩
end Go.Proofs.Ytpahjnfolbnloaa
/- Values and rows in memory; their order. -/
set_option linter.unusedVariables false
namespace Go.Proofs.Ytpahjnfolbnloaa
namespace Pl
structure V where
  kind : Int
  num : Int
  str : ByteArray
def V.bytes (v : V) : List UInt8 := v.str.data.toList
def V.cells (v : V) : List Value := [.int .i64 v.kind, .int .i64 v.num, .string v.str]
def V.val (v : V) : Value := .agg #[.int .i64 v.kind, .int .i64 v.num, .string v.str]
end Pl
open Go.RowKit Pl Go.Wk
attribute [local irreducible] WC WL QX WD WDB
def V0 : V := ⟨0, 0, ⟨#[]⟩⟩
def rowC (r : List V) : List Value := r.flatMap V.cells
abbrev RdR (w : World) (A : Option Addr) (r : List V) : Prop := Rd w 3 A r.length (rowC r)
abbrev RdB (w : World) (A : Option Addr) (ds : List Bool) : Prop := Rd w 1 A ds.length (ds.map Value.bool)
theorem rowC_len (r : List V) : (rowC r).length = r.length * 3 := by
  induction r with
  | nil => rfl
  | cons v r ih => simp only [rowC, List.flatMap_cons, List.length_append, V.cells, List.length_cons, List.length_nil] at ih ⊢; omega
theorem rowC_get : ∀ (r : List V) (i j : Nat), i < r.length → j < 3 → (rowC r)[i * 3 + j]? = (r.getD i V0).cells[j]?
  | [], i, j, h, _ => by simp at h
  | v :: r, 0, j, _, hj => by
    simp only [rowC, List.flatMap_cons, Nat.zero_mul, Nat.zero_add, List.getD_cons_zero]
    rw [List.getElem?_append_left (by simp [V.cells]; omega)]
  | v :: r, i + 1, j, h, hj => by
    have ih := rowC_get r i j (by simpa using h) hj
    simp only [rowC, List.flatMap_cons, List.getD_cons_succ] at ih ⊢
    rw [List.getElem?_append_right (by simp [V.cells]; omega), ← ih]
    congr 1
    simp [V.cells]; omega
theorem RdR.cell {w : World} {A : Option Addr} {r : List V} (h : RdR w A r) {i j : Nat} {u : Value} (hi : i < r.length) (hu : (r.getD i V0).cells[j]? = some u) : w.cell? ((adr A (i * 3)).add j) = some u := by
  have hj : j < 3 := by have := (List.getElem?_eq_some_iff.1 hu).1; simpa [V.cells] using this
  rw [adr_add]
  exact Rd.cell h (by rw [rowC_get r i j hi hj]; exact hu)
theorem RdB.cell {w : World} {A : Option Addr} {ds : List Bool} (h : RdB w A ds) {i : Nat} (hi : i < ds.length) : w.cell? (adr A i) = some (.bool (ds.getD i false)) :=
  Rd.cell h (by simp [List.getElem?_eq_getElem hi])
theorem getD_mem {r : List V} {i : Nat} (h : i < r.length) : r.getD i V0 ∈ r := by simp [List.getD, List.getElem?_eq_getElem h]
theorem V.one (v : V) : ∀ u ∈ v.cells, u.oneCell' = true := by
  intro u hu; simp [V.cells] at hu; rcases hu with rfl | rfl | rfl <;> rfl
theorem rowC_one (r : List V) : ∀ u ∈ rowC r, u.oneCell' = true := by
  intro u hu
  obtain ⟨v, _, hv⟩ := List.mem_flatMap.1 hu
  simp [V.cells] at hv
  rcases hv with rfl | rfl | rfl <;> rfl
theorem rowC_app (a b : List V) : rowC (a ++ b) = rowC a ++ rowC b := by simp [rowC]
/-- the order of values -/
def cmpV (a b : V) : Int := if a.kind ≠ b.kind then sgn a.kind b.kind else if a.num ≠ b.num then sgn a.num b.num else Lib.compareBytes a.bytes b.bytes
def neg (d : Bool) (c : Int) : Int := if d then -c else c
def cmpR : List V → List V → List Bool → Int
  | [], [], _ => 0
  | [], _ :: _, _ => -1
  | _ :: _, [], _ => 1
  | x :: a, y :: b, ds => if cmpV x y = 0 then cmpR a b (ds.drop 1) else neg (ds.getD 0 false) (cmpV x y)
set_option maxRecDepth 100000 in
theorem compareString_any (a b : ByteArray) (w : World) : Ret Try.prog 110 [.string a, .string b] w fun v w' => v = .int .i64 (Lib.compareBytes a.data.toList b.data.toList) ∧ w' = w := by
  refine enterR Try.func110 Try.ntmps110 rfl (by kernel_rfl) rfl ?_
  repeat first | refine ω1 ?_ | refine ω2 ?_ | refine ω3 ?_ | refine ω4 ?_ | refine ω5 ?_ | refine χ1 ?_ | refine κ1 ?_ | refine κ2 ?_ | refine χ2 ?_ | refine κ3 ?_ | refine ω6 ?_ | refine ω7 ?_ | refine ω9 ?_ | refine κ4 ?_ | refine κ7 ?_ | refine κ8 ?_ | refine χ3 ?_ | refine χ4 ?_ | refine κ5 ?_ | refine κ6 ?_ | refine χ5 ?_ | refine χ6 ?_ | refine χ7 ?_ | refine ω8 ?_
  refine wext (vs := [.string a, .string b]) (v := .int .i64 (Lib.compareBytes a.data.toList b.data.toList)) (w' := w) ?_ ?_
  · rw [run_callFunc_extern Try.func112 (by kernel_rfl) (by kernel_rfl) (by kernel_rfl) (e := Extern.BytealgCompare.compare) (by kernel_rfl), Lib.run_compareString]; rfl
  repeat first | refine ω1 ?_ | refine ω2 ?_ | refine ω3 ?_ | refine ω4 ?_ | refine ω5 ?_ | refine χ1 ?_ | refine κ1 ?_ | refine κ2 ?_ | refine χ2 ?_ | refine κ3 ?_ | refine ω6 ?_ | refine ω7 ?_ | refine ω9 ?_ | refine κ4 ?_ | refine κ7 ?_ | refine κ8 ?_ | refine χ3 ?_ | refine χ4 ?_ | refine κ5 ?_ | refine κ6 ?_ | refine χ5 ?_ | refine χ6 ?_ | refine χ7 ?_ | refine ω8 ?_
  exact fin1 ⟨rfl, rfl⟩
set_option maxRecDepth 100000 in
theorem stringsCompare_any (a b : ByteArray) (w : World) : Ret Try.prog 101 [.string a, .string b] w fun v w' => v = .int .i64 (Lib.compareBytes a.data.toList b.data.toList) ∧ w' = w := by
  refine enterR Try.func101 Try.ntmps101 rfl (by kernel_rfl) rfl ?_
  repeat first | refine ω1 ?_ | refine ω2 ?_ | refine ω3 ?_ | refine ω4 ?_ | refine ω5 ?_ | refine χ1 ?_ | refine κ1 ?_ | refine κ2 ?_ | refine χ2 ?_ | refine κ3 ?_ | refine ω6 ?_ | refine ω7 ?_ | refine ω9 ?_ | refine κ4 ?_ | refine κ7 ?_ | refine κ8 ?_ | refine χ3 ?_ | refine χ4 ?_ | refine κ5 ?_ | refine κ6 ?_ | refine χ5 ?_ | refine χ6 ?_ | refine χ7 ?_ | refine ω8 ?_
  refine cl (compareString_any a b w) ?_
  rintro v w' ⟨rfl, rfl⟩
  repeat first | refine ω1 ?_ | refine ω2 ?_ | refine ω3 ?_ | refine ω4 ?_ | refine ω5 ?_ | refine χ1 ?_ | refine κ1 ?_ | refine κ2 ?_ | refine χ2 ?_ | refine κ3 ?_ | refine ω6 ?_ | refine ω7 ?_ | refine ω9 ?_ | refine κ4 ?_ | refine κ7 ?_ | refine κ8 ?_ | refine χ3 ?_ | refine χ4 ?_ | refine κ5 ?_ | refine κ6 ?_ | refine χ5 ?_ | refine χ6 ?_ | refine χ7 ?_ | refine ω8 ?_
  exact fin1 ⟨rfl, rfl⟩
set_option maxRecDepth 100000 in
theorem valueCompare_any (a b : V) (w : World) : Ret Try.prog 94 [a.val, b.val] w fun r w' => r = .int .i64 (cmpV a b) ∧ Ext w w' := by
  refine enterR Try.func94 Try.ntmps94 rfl (by kernel_rfl) rfl ?_
  repeat first | refine ω1 ?_ | refine ω2 ?_ | refine ω3 ?_ | refine ω4 ?_ | refine ω5 ?_ | refine χ1 ?_ | refine κ1 ?_ | refine κ2 ?_ | refine χ2 ?_ | refine κ3 ?_ | refine ω6 ?_ | refine ω7 ?_ | refine ω9 ?_ | refine κ4 ?_ | refine κ7 ?_ | refine κ8 ?_ | refine χ3 ?_ | refine χ4 ?_ | refine κ5 ?_ | refine κ6 ?_ | refine χ5 ?_ | refine χ6 ?_ | refine χ7 ?_ | refine ω8 ?_
  refine bx ?_
  intro w1 b1 hx1 hb1 hk1
  repeat first | refine ω1 ?_ | refine ω2 ?_ | refine ω3 ?_ | refine ω4 ?_ | refine ω5 ?_ | refine χ1 ?_ | refine κ1 ?_ | refine κ2 ?_ | refine χ2 ?_ | refine κ3 ?_ | refine ω6 ?_ | refine ω7 ?_ | refine ω9 ?_ | refine κ4 ?_ | refine κ7 ?_ | refine κ8 ?_ | refine χ3 ?_ | refine χ4 ?_ | refine κ5 ?_ | refine κ6 ?_ | refine χ5 ?_ | refine χ6 ?_ | refine χ7 ?_ | refine ω8 ?_
  refine bx ?_
  intro w2 b2 hx2 hb2 hk2
  have hk1 := hk1.ext hx2
  have hx := hx1.trans hx2
  repeat first | refine ω1 ?_ | refine ω2 ?_ | refine ω3 ?_ | refine ω4 ?_ | refine ω5 ?_ | refine χ1 ?_ | refine κ1 ?_ | refine κ2 ?_ | refine χ2 ?_ | refine κ3 ?_ | refine ω6 ?_ | refine ω7 ?_ | refine ω9 ?_ | refine κ4 ?_ | refine κ7 ?_ | refine κ8 ?_ | refine χ3 ?_ | refine χ4 ?_ | refine κ5 ?_ | refine κ6 ?_ | refine χ5 ?_ | refine χ6 ?_ | refine χ7 ?_ | refine ω8 ?_
  refine ld (hk1.at rfl) ?_
  repeat first | refine ω1 ?_ | refine ω2 ?_ | refine ω3 ?_ | refine ω4 ?_ | refine ω5 ?_ | refine χ1 ?_ | refine κ1 ?_ | refine κ2 ?_ | refine χ2 ?_ | refine κ3 ?_ | refine ω6 ?_ | refine ω7 ?_ | refine ω9 ?_ | refine κ4 ?_ | refine κ7 ?_ | refine κ8 ?_ | refine χ3 ?_ | refine χ4 ?_ | refine κ5 ?_ | refine κ6 ?_ | refine χ5 ?_ | refine χ6 ?_ | refine χ7 ?_ | refine ω8 ?_
  refine ld (hk2.at rfl) ?_
  repeat first | refine ω1 ?_ | refine ω2 ?_ | refine ω3 ?_ | refine ω4 ?_ | refine ω5 ?_ | refine χ1 ?_ | refine κ1 ?_ | refine κ2 ?_ | refine χ2 ?_ | refine κ3 ?_ | refine ω6 ?_ | refine ω7 ?_ | refine ω9 ?_ | refine κ4 ?_ | refine κ7 ?_ | refine κ8 ?_ | refine χ3 ?_ | refine χ4 ?_ | refine κ5 ?_ | refine κ6 ?_ | refine χ5 ?_ | refine χ6 ?_ | refine χ7 ?_ | refine ω8 ?_
  refine ci (fun hk => ?_) (fun hk => ?_)
  · repeat first | refine ω1 ?_ | refine ω2 ?_ | refine ω3 ?_ | refine ω4 ?_ | refine ω5 ?_ | refine χ1 ?_ | refine κ1 ?_ | refine κ2 ?_ | refine χ2 ?_ | refine κ3 ?_ | refine ω6 ?_ | refine ω7 ?_ | refine ω9 ?_ | refine κ4 ?_ | refine κ7 ?_ | refine κ8 ?_ | refine χ3 ?_ | refine χ4 ?_ | refine κ5 ?_ | refine κ6 ?_ | refine χ5 ?_ | refine χ6 ?_ | refine χ7 ?_ | refine ω8 ?_
    refine ld (hk1.at rfl) ?_
    repeat first | refine ω1 ?_ | refine ω2 ?_ | refine ω3 ?_ | refine ω4 ?_ | refine ω5 ?_ | refine χ1 ?_ | refine κ1 ?_ | refine κ2 ?_ | refine χ2 ?_ | refine κ3 ?_ | refine ω6 ?_ | refine ω7 ?_ | refine ω9 ?_ | refine κ4 ?_ | refine κ7 ?_ | refine κ8 ?_ | refine χ3 ?_ | refine χ4 ?_ | refine κ5 ?_ | refine κ6 ?_ | refine χ5 ?_ | refine χ6 ?_ | refine χ7 ?_ | refine ω8 ?_
    refine ld (hk2.at rfl) ?_
    repeat first | refine ω1 ?_ | refine ω2 ?_ | refine ω3 ?_ | refine ω4 ?_ | refine ω5 ?_ | refine χ1 ?_ | refine κ1 ?_ | refine κ2 ?_ | refine χ2 ?_ | refine κ3 ?_ | refine ω6 ?_ | refine ω7 ?_ | refine ω9 ?_ | refine κ4 ?_ | refine κ7 ?_ | refine κ8 ?_ | refine χ3 ?_ | refine χ4 ?_ | refine κ5 ?_ | refine κ6 ?_ | refine χ5 ?_ | refine χ6 ?_ | refine χ7 ?_ | refine ω8 ?_
    refine cl (compare_int _ _ _) ?_
    rintro t w3 ⟨rfl, rfl⟩
    repeat first | refine ω1 ?_ | refine ω2 ?_ | refine ω3 ?_ | refine ω4 ?_ | refine ω5 ?_ | refine χ1 ?_ | refine κ1 ?_ | refine κ2 ?_ | refine χ2 ?_ | refine κ3 ?_ | refine ω6 ?_ | refine ω7 ?_ | refine ω9 ?_ | refine κ4 ?_ | refine κ7 ?_ | refine κ8 ?_ | refine χ3 ?_ | refine χ4 ?_ | refine κ5 ?_ | refine κ6 ?_ | refine χ5 ?_ | refine χ6 ?_ | refine χ7 ?_ | refine ω8 ?_
    refine fin1 ⟨?_, hx⟩
    rw [cmpV, if_pos (by simpa using hk)]
  · repeat first | refine ω1 ?_ | refine ω2 ?_ | refine ω3 ?_ | refine ω4 ?_ | refine ω5 ?_ | refine χ1 ?_ | refine κ1 ?_ | refine κ2 ?_ | refine χ2 ?_ | refine κ3 ?_ | refine ω6 ?_ | refine ω7 ?_ | refine ω9 ?_ | refine κ4 ?_ | refine κ7 ?_ | refine κ8 ?_ | refine χ3 ?_ | refine χ4 ?_ | refine κ5 ?_ | refine κ6 ?_ | refine χ5 ?_ | refine χ6 ?_ | refine χ7 ?_ | refine ω8 ?_
    refine ld (hk1.at rfl) ?_
    repeat first | refine ω1 ?_ | refine ω2 ?_ | refine ω3 ?_ | refine ω4 ?_ | refine ω5 ?_ | refine χ1 ?_ | refine κ1 ?_ | refine κ2 ?_ | refine χ2 ?_ | refine κ3 ?_ | refine ω6 ?_ | refine ω7 ?_ | refine ω9 ?_ | refine κ4 ?_ | refine κ7 ?_ | refine κ8 ?_ | refine χ3 ?_ | refine χ4 ?_ | refine κ5 ?_ | refine κ6 ?_ | refine χ5 ?_ | refine χ6 ?_ | refine χ7 ?_ | refine ω8 ?_
    refine ld (hk2.at rfl) ?_
    repeat first | refine ω1 ?_ | refine ω2 ?_ | refine ω3 ?_ | refine ω4 ?_ | refine ω5 ?_ | refine χ1 ?_ | refine κ1 ?_ | refine κ2 ?_ | refine χ2 ?_ | refine κ3 ?_ | refine ω6 ?_ | refine ω7 ?_ | refine ω9 ?_ | refine κ4 ?_ | refine κ7 ?_ | refine κ8 ?_ | refine χ3 ?_ | refine χ4 ?_ | refine κ5 ?_ | refine κ6 ?_ | refine χ5 ?_ | refine χ6 ?_ | refine χ7 ?_ | refine ω8 ?_
    refine ci (fun hn => ?_) (fun hn => ?_)
    · repeat first | refine ω1 ?_ | refine ω2 ?_ | refine ω3 ?_ | refine ω4 ?_ | refine ω5 ?_ | refine χ1 ?_ | refine κ1 ?_ | refine κ2 ?_ | refine χ2 ?_ | refine κ3 ?_ | refine ω6 ?_ | refine ω7 ?_ | refine ω9 ?_ | refine κ4 ?_ | refine κ7 ?_ | refine κ8 ?_ | refine χ3 ?_ | refine χ4 ?_ | refine κ5 ?_ | refine κ6 ?_ | refine χ5 ?_ | refine χ6 ?_ | refine χ7 ?_ | refine ω8 ?_
      refine ld (hk1.at rfl) ?_
      repeat first | refine ω1 ?_ | refine ω2 ?_ | refine ω3 ?_ | refine ω4 ?_ | refine ω5 ?_ | refine χ1 ?_ | refine κ1 ?_ | refine κ2 ?_ | refine χ2 ?_ | refine κ3 ?_ | refine ω6 ?_ | refine ω7 ?_ | refine ω9 ?_ | refine κ4 ?_ | refine κ7 ?_ | refine κ8 ?_ | refine χ3 ?_ | refine χ4 ?_ | refine κ5 ?_ | refine κ6 ?_ | refine χ5 ?_ | refine χ6 ?_ | refine χ7 ?_ | refine ω8 ?_
      refine ld (hk2.at rfl) ?_
      repeat first | refine ω1 ?_ | refine ω2 ?_ | refine ω3 ?_ | refine ω4 ?_ | refine ω5 ?_ | refine χ1 ?_ | refine κ1 ?_ | refine κ2 ?_ | refine χ2 ?_ | refine κ3 ?_ | refine ω6 ?_ | refine ω7 ?_ | refine ω9 ?_ | refine κ4 ?_ | refine κ7 ?_ | refine κ8 ?_ | refine χ3 ?_ | refine χ4 ?_ | refine κ5 ?_ | refine κ6 ?_ | refine χ5 ?_ | refine χ6 ?_ | refine χ7 ?_ | refine ω8 ?_
      refine cl (compare_i64 _ _ _) ?_
      rintro t w3 ⟨rfl, rfl⟩
      repeat first | refine ω1 ?_ | refine ω2 ?_ | refine ω3 ?_ | refine ω4 ?_ | refine ω5 ?_ | refine χ1 ?_ | refine κ1 ?_ | refine κ2 ?_ | refine χ2 ?_ | refine κ3 ?_ | refine ω6 ?_ | refine ω7 ?_ | refine ω9 ?_ | refine κ4 ?_ | refine κ7 ?_ | refine κ8 ?_ | refine χ3 ?_ | refine χ4 ?_ | refine κ5 ?_ | refine κ6 ?_ | refine χ5 ?_ | refine χ6 ?_ | refine χ7 ?_ | refine ω8 ?_
      refine fin1 ⟨?_, hx⟩
      rw [cmpV, if_neg (by simpa using hk), if_pos (by simpa using hn)]
    · repeat first | refine ω1 ?_ | refine ω2 ?_ | refine ω3 ?_ | refine ω4 ?_ | refine ω5 ?_ | refine χ1 ?_ | refine κ1 ?_ | refine κ2 ?_ | refine χ2 ?_ | refine κ3 ?_ | refine ω6 ?_ | refine ω7 ?_ | refine ω9 ?_ | refine κ4 ?_ | refine κ7 ?_ | refine κ8 ?_ | refine χ3 ?_ | refine χ4 ?_ | refine κ5 ?_ | refine κ6 ?_ | refine χ5 ?_ | refine χ6 ?_ | refine χ7 ?_ | refine ω8 ?_
      refine ld (hk1.at rfl) ?_
      repeat first | refine ω1 ?_ | refine ω2 ?_ | refine ω3 ?_ | refine ω4 ?_ | refine ω5 ?_ | refine χ1 ?_ | refine κ1 ?_ | refine κ2 ?_ | refine χ2 ?_ | refine κ3 ?_ | refine ω6 ?_ | refine ω7 ?_ | refine ω9 ?_ | refine κ4 ?_ | refine κ7 ?_ | refine κ8 ?_ | refine χ3 ?_ | refine χ4 ?_ | refine κ5 ?_ | refine κ6 ?_ | refine χ5 ?_ | refine χ6 ?_ | refine χ7 ?_ | refine ω8 ?_
      refine ld (hk2.at rfl) ?_
      repeat first | refine ω1 ?_ | refine ω2 ?_ | refine ω3 ?_ | refine ω4 ?_ | refine ω5 ?_ | refine χ1 ?_ | refine κ1 ?_ | refine κ2 ?_ | refine χ2 ?_ | refine κ3 ?_ | refine ω6 ?_ | refine ω7 ?_ | refine ω9 ?_ | refine κ4 ?_ | refine κ7 ?_ | refine κ8 ?_ | refine χ3 ?_ | refine χ4 ?_ | refine κ5 ?_ | refine κ6 ?_ | refine χ5 ?_ | refine χ6 ?_ | refine χ7 ?_ | refine ω8 ?_
      refine cl (stringsCompare_any _ _ _) ?_
      rintro t w3 ⟨rfl, rfl⟩
      repeat first | refine ω1 ?_ | refine ω2 ?_ | refine ω3 ?_ | refine ω4 ?_ | refine ω5 ?_ | refine χ1 ?_ | refine κ1 ?_ | refine κ2 ?_ | refine χ2 ?_ | refine κ3 ?_ | refine ω6 ?_ | refine ω7 ?_ | refine ω9 ?_ | refine κ4 ?_ | refine κ7 ?_ | refine κ8 ?_ | refine χ3 ?_ | refine χ4 ?_ | refine κ5 ?_ | refine κ6 ?_ | refine χ5 ?_ | refine χ6 ?_ | refine χ7 ?_ | refine ω8 ?_
      refine fin1 ⟨?_, hx⟩
      rw [cmpV, if_neg (by simpa using hk), if_neg (by simpa using hn)]; rfl
end Go.Proofs.Ytpahjnfolbnloaa
