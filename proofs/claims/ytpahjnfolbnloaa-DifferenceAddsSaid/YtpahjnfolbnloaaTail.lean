/- The walking layer: the tail of a region that draws (stores, in their one order); calls of function values; functions without results. No program in sight. -/
import Derived.Test.YtpahjnfolbnloaaRegB
set_option linter.unusedVariables false
namespace Go.Wk
open Go.RowKit
section
variable {P : Program} {n : Nat} {al al' : AL} {w : World} {Q : Exit → Act → World → Prop} {ops : Array Oper} {drest : List (Nat × Oper)} {rest : List Oper}
variable {d ty : Nat} {op : Op} {pos : String} {aft : Array Edge} {tt : TT}
/-- one operation by the laws of a plain list -/
def toD (P : Program) (ops : Array Oper) (Q : Exit → Act → World → Prop) (rest : List (Nat × Oper)) : Exit → Act → World → Prop
  | .normal, a, w => wpSched P ops Q rest a w
  | _, _, _ => False
theorem dback (h : WD P n ops Q drest al w) : QX n (toD P ops Q drest) .normal al w := h
theorem dtail {o : Oper} (h : WL P n ops (toD P ops Q drest) [o] al w) : WD P n ops Q ((2, o) :: drest) al w := fun a ha => by
  have h1 := h a ha
  unfold wpList at h1
  unfold wpSched wk1
  simp only
  have hno : ¬ LetsOut (toD P ops Q drest) := by rintro ⟨a, w, h⟩; exact h
  split
  · rename_i hw
    simp only [hw, if_true] at h1
    rcases h1 with h1 | ⟨_, h1⟩
    · refine Oper.wp_mono (K := wpSched P ops Q drest) (fun a' w' h' => h') ?_
      unfold Oper.wp at h1 ⊢
      exact upon_monoQ (Q := toD P ops Q drest) (fun c a w hf => hf.elim) (fun hf => absurd hf hno) h1
    · exact absurd h1 hno
  · rename_i hw
    simp only [hw] at h1
    exact h1
/-- a call of a function value, in a region that draws -/
theorem dclv {f : FuncId} {x : Operand} {first captured : Array Value} {xs : Array Operand} {ats : Array TypeId} {vs us : List Value} {Φ : Value → World → Prop}
    (hc : Ret P f us w Φ) (k : ∀ v w', Φ v w' → Ext w w' ∧ WD P n ops Q drest ((d, v) :: al) w')
    (hf : ev al x = some (.func (.func f) first captured) := by rfl) (hx : evs al xs.toList = some vs := by rfl) (hu : first.toList ++ vs ++ captured.toList = us := by rfl) (hd : Nat.blt d n = true := by rfl) :
    WD P n ops Q ((1, ⟨some d, .call { callee := .value x, args := xs, argTypes := ats }, ty, pos, aft, none⟩) :: drest) al w := fun a ha => by
  subst hu
  have hd' : d < n := by have : d + 1 ≤ n := by simpa [Nat.blt] using hd
                         omega
  have h1 : xs.map a.eval = vs.toArray := by rw [← ha.evs hx, ← List.map_toArray, Array.toArray_toList]
  have h2 : (execOp a.eval ⟨some d, .call { callee := .value x, args := xs, argTypes := ats }, ty, pos, aft, none⟩).run P w = .ok (.enter f (first.toList ++ vs ++ captured.toList).toArray) w := by
    have e : (first.toList ++ vs ++ captured.toList).toArray = first ++ vs.toArray ++ captured := by apply Array.ext'; simp
    rw [e]
    simp [execOp, resolve, h1, ha.ev hf, Deferred.ofValue, invoke, run_callFunc hc.ok]
  unfold wpSched wk1
  have e1 : Region.wanted (⟨some d, .call { callee := .value x, args := xs, argTypes := ats }, ty, pos, aft, none⟩ : Oper) (yielded ops a.tmps) = true := rfl
  simp only [e1, if_true]
  exact enterk h2 hc fun v w' hp => ⟨(k v w' hp).1, (k v w' hp).2 _ (ha.put hd' v)⟩
theorem clv {f : FuncId} {x : Operand} {first captured : Array Value} {xs : Array Operand} {ats : Array TypeId} {vs us : List Value} {Φ : Value → World → Prop}
    (hc : Ret P f us w Φ) (k : ∀ v w', Φ v w' → WL P n ops Q rest ((d, v) :: al) w')
    (hf : ev al x = some (.func (.func f) first captured) := by rfl) (hx : evs al xs.toList = some vs := by rfl) (hu : first.toList ++ vs ++ captured.toList = us := by rfl) (hd : Nat.blt d n = true := by rfl) :
    WL P n ops Q (⟨some d, .call { callee := .value x, args := xs, argTypes := ats }, ty, pos, aft, none⟩ :: rest) al w := by
  subst hu
  exact wcallv hf hx hd hc k
theorem fin0 {fn : Func} {Φ : Value → World → Prop} (h : Φ (.tuple #[]) w) (hr : fn.results = #[] := by rfl) : QX n (Body P fn Φ) .ret al w :=
  doneR (rs := []) (vs := []) hr trivial rfl h
/-- a body that ends by itself -/
theorem finE {fn : Func} {Φ : Value → World → Prop} (h : Φ (.tuple #[]) w) (hr : fn.results = #[] := by rfl) : QX n (Body P fn Φ) .normal al w := fun a ha =>
  fin0 (n := n) (al := al) h hr a ha
end
end Go.Wk
