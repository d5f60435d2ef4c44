/- The walking layer: interface values, calls of their methods. No program in sight. -/
import Derived.Test.YtpahjnfolbnloaaRegC
import Derived.Laws.Cover3
set_option linter.unusedVariables false
namespace Go.Wk
open Go.RowKit
/-- the method of an interface value: the function and its receiver -/
def Meth (P : Program) (v : Value) (name : String) (f : FuncId) (rv : Value) : Prop := ∃ t x, v = .iface t x ∧ (∀ w, (method (P.types.size + Made.depth) t x name).run P w = .ok (f, rv) w) ∧ (∀ w, (nilAhead (P.types.size + Made.depth) t x name).run P w = .ok (some false) w)
section
variable {P : Program} {n : Nat} {al al' : AL} {w : World} {Q : Exit → Act → World → Prop} {ops : Array Oper} {drest : List (Nat × Oper)} {rest : List Oper} {s : List (Nat × Oper)}
variable {d ty : Nat} {op : Op} {pos : String} {aft : Array Edge} {tt : TT}
theorem run_inv {v : Value} {name : String} {f : FuncId} {rv : Value} (hm : Meth P v name f rv) (hc : Callable P f) {x : Operand} {xs : Array Operand} {ats : Array TypeId} {vs : List Value} {a : Act} (ha : Fr n al a) (hx : ev al x = some v) (hxs : evs al xs.toList = some vs) (dst : Option Nat) (w : World) :
    (execOp a.eval ⟨dst, .call { callee := .invoke x name, args := xs, argTypes := ats }, ty, pos, aft, none⟩).run P w = .ok (.enter f (rv :: vs).toArray) w := by
  obtain ⟨t, y, rfl, hm, _⟩ := hm
  have h1 : xs.map a.eval = vs.toArray := by rw [← ha.evs hxs, ← List.map_toArray, Array.toArray_toList]
  have e1 : (#[Value.iface t y] ++ vs.toArray)[0]? = some (Value.iface t y) := by simp
  have e2 : (#[Value.iface t y] ++ vs.toArray).extract 1 (#[Value.iface t y] ++ vs.toArray).size = vs.toArray := by
    apply Array.ext'; simp
  simp only [execOp, resolve, h1, ha.ev hx, Sem.run_bind, Sem.run_pure, Result.andThen_ok, invoke]
  simp only [e1, e2, callMethod, Sem.run_bind, run_program, Result.andThen_ok, hm w]
  have e3 : #[rv] ++ vs.toArray = (rv :: vs).toArray := by apply Array.ext'; simp
  rw [e3]
  exact run_callFunc hc _ w
theorem inv {v : Value} {name : String} {f : FuncId} {rv : Value} {x : Operand} {xs : Array Operand} {ats : Array TypeId} {vs us : List Value} {Φ : Value → World → Prop} (hm : Meth P v name f rv) (hc : Ret P f us w Φ) (k : ∀ v w', Φ v w' → WL P n ops Q rest ((d, v) :: al) w')
    (hx : ev al x = some v := by rfl) (hxs : evs al xs.toList = some vs := by rfl) (hu : rv :: vs = us := by rfl) (hd : Nat.blt d n = true := by rfl) :
    WL P n ops Q (⟨some d, .call { callee := .invoke x name, args := xs, argTypes := ats }, ty, pos, aft, none⟩ :: rest) al w := fun a ha =>
  wpList_plain rfl fun K hK => by
    have hd' : d < n := by have : d + 1 ≤ n := by simpa [Nat.blt] using hd
                           omega
    subst hu
    exact enterk (run_inv hm hc.ok ha hx hxs (some d) w) hc fun v w' hp => hK _ _ (k v w' hp _ (ha.put hd' v))
theorem dinv {v : Value} {name : String} {f : FuncId} {rv : Value} {x : Operand} {xs : Array Operand} {ats : Array TypeId} {vs us : List Value} {Φ : Value → World → Prop} (hm : Meth P v name f rv) (hc : Ret P f us w Φ) (k : ∀ v w', Φ v w' → Ext w w' ∧ WD P n ops Q drest ((d, v) :: al) w')
    (hx : ev al x = some v := by rfl) (hxs : evs al xs.toList = some vs := by rfl) (hu : rv :: vs = us := by rfl) (hd : Nat.blt d n = true := by rfl) :
    WD P n ops Q ((1, ⟨some d, .call { callee := .invoke x name, args := xs, argTypes := ats }, ty, pos, aft, none⟩) :: drest) al w := fun a ha => by
  have hd' : d < n := by have : d + 1 ≤ n := by simpa [Nat.blt] using hd
                         omega
  subst hu
  unfold wpSched wk1
  have e1 : Region.wanted (⟨some d, .call { callee := .invoke x name, args := xs, argTypes := ats }, ty, pos, aft, none⟩ : Oper) (yielded ops a.tmps) = true := rfl
  simp only [e1, if_true]
  exact enterk (run_inv hm hc.ok ha hx hxs (some d) w) hc fun v w' hp => ⟨(k v w' hp).1, (k v w' hp).2 _ (ha.put hd' v)⟩
/-- the check of a method value's receiver -/
theorem run_ncm {v : Value} {name : String} {f : FuncId} {rv : Value} (hm : Meth P v name f rv) {x : Operand} {a : Act} (ha : Fr n al a) (hx : ev al x = some (.func (.method name) #[v] #[])) (dst : Option Nat) (w : World) :
    (execOp a.eval ⟨dst, .nilCheck x, ty, pos, aft, none⟩).run P w = .ok (.value (.func (.method name) #[v] #[])) w := by
  obtain ⟨t, y, rfl, _, hn⟩ := hm
  have e1 : (#[Value.iface t y] : Array Value)[0]? = some (Value.iface t y) := by simp
  simp only [execOp, ha.ev hx, e1, Sem.run_bind, run_program, Result.andThen_ok, hn w]
  simp
theorem ncm {v : Value} {name : String} {f : FuncId} {rv : Value} {x : Operand} (hm : Meth P v name f rv) (k : WL P n ops Q rest ((d, .func (.method name) #[v] #[]) :: al) w) (hx : ev al x = some (.func (.method name) #[v] #[]) := by rfl) (hd : Nat.blt d n = true := by rfl) :
    WL P n ops Q (⟨some d, .nilCheck x, ty, pos, aft, none⟩ :: rest) al w := wop hd (fun a ha => run_ncm hm ha hx (some d) w) k
theorem dncm {v : Value} {name : String} {f : FuncId} {rv : Value} {x : Operand} (hm : Meth P v name f rv) (k : WD P n ops Q drest ((d, .func (.method name) #[v] #[]) :: al) w) (hx : ev al x = some (.func (.method name) #[v] #[]) := by rfl) (hd : Nat.blt d n = true := by rfl) :
    WD P n ops Q ((0, ⟨some d, .nilCheck x, ty, pos, aft, none⟩) :: drest) al w := dy (fun w' _ a ha => run_ncm hm ha hx (some d) w') hd k
/-- the check of an interface value -/
theorem run_nci {t : TypeId} {y : Value} {x : Operand} {a : Act} (ha : Fr n al a) (hx : ev al x = some (.iface t y)) (dst : Option Nat) (w : World) :
    (execOp a.eval ⟨dst, .nilCheck x, ty, pos, aft, none⟩).run P w = .ok (.value (.iface t y)) w := by simp [execOp, ha.ev hx]
theorem nci {t : TypeId} {y : Value} {x : Operand} (k : WL P n ops Q rest ((d, .iface t y) :: al) w) (hx : ev al x = some (.iface t y) := by rfl) (hd : Nat.blt d n = true := by rfl) :
    WL P n ops Q (⟨some d, .nilCheck x, ty, pos, aft, none⟩ :: rest) al w := wop hd (fun a ha => run_nci ha hx (some d) w) k
theorem dnci {t : TypeId} {y : Value} {x : Operand} (k : WD P n ops Q drest ((d, .iface t y) :: al) w) (hx : ev al x = some (.iface t y) := by rfl) (hd : Nat.blt d n = true := by rfl) :
    WD P n ops Q ((0, ⟨some d, .nilCheck x, ty, pos, aft, none⟩) :: drest) al w := dy (fun w' _ a ha => run_nci ha hx (some d) w') hd k
def isNil : Value → Bool
  | .nilIface => true
  | _ => false
/-- v == nil -/
theorem run_inil {t : TypeId} {ms : Array (String × TypeId)} (ht : P.underlying t = some (.interface ms)) {v : Value} (hv : v = .nilIface ∨ ∃ u y, v = .iface u y) (x : Operand) (w : World) :
    (do eqGuard .eql t x (.const .nilIface) v .nilIface; binOp .eql t v .nilIface : Sem Value).run P w = .ok (.bool (isNil v)) w := by
  have h : ∀ d : Nat, (Op.equalIn (d + 1) t v .nilIface).run P w = .ok (isNil v) w := fun d => by
    rcases hv with rfl | ⟨u, y, rfl⟩ <;> simp [Op.equalIn, run_underlying ht, isNil]
  rcases hv with rfl | ⟨u, y, rfl⟩ <;> simp [eqGuard, binOp, Op.equal, Op.maxDepth, h 9999]
theorem inil {t t2 : TypeId} {ms : Array (String × TypeId)} (ht : P.underlying t = some (.interface ms)) {v : Value} {x : Operand} (hv : v = .nilIface ∨ ∃ u y, v = .iface u y) (kk : WL P n ops Q rest ((d, .bool (isNil v)) :: al) w)
    (hx : ev al x = some v := by rfl) (hd : Nat.blt d n = true := by rfl) : WL P n ops Q (⟨some d, .binOp .eql t x (.const .nilIface) t2, ty, pos, aft, none⟩ :: rest) al w :=
  wop hd (fun a ha => by
    have h2 : a.eval (.const .nilIface) = .nilIface := rfl
    have := run_inil ht hv x w
    simp only [Sem.run_bind] at this
    simp only [execOp, ha.ev hx, h2, Sem.run_bind, this]
    rfl) kk
/-- a value put into an interface -/
theorem mki {t : TypeId} {td : TypeDesc} (ht : P.underlying t = some td) (hn : ∀ ms, td ≠ .interface ms) {v : Value} {x : Operand} (kk : WL P n ops Q rest ((d, .iface t v) :: al) w)
    (hx : ev al x = some v := by rfl) (hd : Nat.blt d n = true := by rfl) : WL P n ops Q (⟨some d, .makeInterface t x, ty, pos, aft, none⟩ :: rest) al w :=
  wop hd (fun a ha => by
    simp only [execOp, ha.ev hx, Instr.makeInterface, Sem.run_bind, run_underlying ht, Result.andThen_ok]
    cases td <;> first | rfl | exact absurd rfl (hn _)) kk
end
end Go.Wk
