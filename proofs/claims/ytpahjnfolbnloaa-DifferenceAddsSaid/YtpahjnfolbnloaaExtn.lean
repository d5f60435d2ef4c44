/- Calls of functions without a body (the model's own entries); comparison of bytes; comparison of structures. -/
import Derived.Test.YtpahjnfolbnloaaMore
import Derived.Lib.Bytealg
import Derived.Laws.StructEq
set_option linter.unusedVariables false
namespace Go.Wk
open Go.RowKit
section
variable {P : Program} {n : Nat} {al : AL} {w : World} {Q : Exit → Act → World → Prop} {ops : Array Oper} {rest : List Oper}
variable {d ty : Nat} {op : Op} {pos : String} {aft : Array Edge} {tt : TT}
/-- a call of a named function without a body -/
theorem wext {f : FuncId} {xs : Array Operand} {ats : Array TypeId} {vs : List Value} {v : Value} {w' : World} (hc : (callFunc f vs.toArray).run P w = .ok (.value v) w')
    (k : WL P n ops Q rest ((d, v) :: al) w') (hx : evs al xs.toList = some vs := by rfl) (hd : Nat.blt d n = true := by rfl) : WL P n ops Q (⟨some d, .call { callee := .value (.func f), args := xs, argTypes := ats }, ty, pos, aft, none⟩ :: rest) al w :=
  wop hd (fun a ha => by
    have h1 : xs.map a.eval = vs.toArray := by rw [← ha.evs hx, ← List.map_toArray, Array.toArray_toList]
    simp [execOp, resolve, h1, Act.eval, Deferred.ofValue, invoke, hc]) k
theorem loadBytes_run (ad : Addr) : ∀ (l : List UInt8) (k : Nat) (acc : ByteArray), (∀ j u, (Bc l)[j]? = some u → w.cell? (ad.add (k + j)) = some u) → (Extern.Bytes.loadBytes (ad.add k) l.length acc).run P w = .ok ⟨acc.data ++ l.toArray⟩ w
  | [], k, acc, _ => by simp [Extern.Bytes.loadBytes]
  | c :: l, k, acc, h => by
    have h0 := h 0 _ rfl
    have ih := loadBytes_run ad l (k + 1) (acc.push c) (fun j u hu => by
      have := h (j + 1) u (by simpa [Bc] using hu)
      rw [show k + 1 + j = k + (j + 1) by omega]; exact this)
    simp only [Nat.add_zero] at h0
    have e : (ad.add k).add 1 = ad.add (k + 1) := Addr.add_add ad k 1
    simp only [List.length_cons, Extern.Bytes.loadBytes, Sem.run_bind, run_load, h0, Result.andThen]
    have e2 : ((c.toNat : Int).toNat.toUInt8) = c := by simp
    rw [e, e2, ih]
    simp [ByteArray.push]
theorem bytesOf_run {A : Option Addr} {m c : Nat} {l : List UInt8} (hr : Rd w 1 A m (Bc l)) : (Extern.Bytes.bytesOf (.slice A m c)).run P w = .ok (str l) w := by
  have hm : l.length = m := by have := hr.1; rw [Bc_len] at this; omega
  subst hm
  cases A with
  | none =>
    have hl : l = [] := by
      rcases Nat.eq_zero_or_pos l.length with h | h
      · exact List.eq_nil_of_length_eq_zero h
      · obtain ⟨_, h2, _⟩ := hr.2 (by rw [Bc_len]; exact h); cases h2
    subst hl
    rfl
  | some ad =>
    have h := loadBytes_run (P := P) (w := w) ad l 0 .empty (fun j u hu => by
      obtain ⟨ad', h2, hb, hc⟩ := hr.2 (by rcases Nat.eq_zero_or_pos (Bc l).length with h | h
                                           · rw [List.eq_nil_of_length_eq_zero h] at hu; simp at hu
                                           · exact h)
      injection h2 with h2
      subst h2
      rw [Nat.zero_add]; exact hc j u hu)
    rw [add_zero] at h
    simp only [Extern.Bytes.bytesOf, h, str]
    congr 2
    simp
theorem compare_run {A B : Option Addr} {m c m' c' : Nat} {l r : List UInt8} (hl : Rd w 1 A m (Bc l)) (hr : Rd w 1 B m' (Bc r)) :
    (Extern.BytealgCompare.compare #[.slice A m c, .slice B m' c']).run P w = .ok (.int .i64 (Lib.compareBytes l r)) w := by
  change Sem.run P (do pure (goInt (Extern.BytealgCompare.cmp (← Extern.Bytes.bytesOf (.slice A m c)) (← Extern.Bytes.bytesOf (.slice B m' c'))))) w = _
  simp only [bytesOf_run hl, bytesOf_run hr, Sem.run_bind, Sem.run_pure, Result.andThen]
  rw [Lib.cmp_eq]
  rfl
/-- == of structures -/
theorem weqs {t t2 : TypeId} {x y : Operand} {xs ys : Array Value} {v : Value} (hg : P.eqGuardType P.depth t = false) (hb : (binOp .eql t (.agg xs) (.agg ys)).run P w = .ok v w)
    (k : WL P n ops Q rest ((d, v) :: al) w) (hx : ev al x = some (.agg xs) := by rfl) (hy : ev al y = some (.agg ys) := by rfl) (hd : Nat.blt d n = true := by rfl) : WL P n ops Q (⟨some d, .binOp .eql t x y t2, ty, pos, aft, none⟩ :: rest) al w :=
  wop hd (fun a ha => by
    simp only [execOp, ha.ev hx, ha.ev hy, Sem.run_bind, run_eqGuard_agg w _ _ _ _ _ _ hg, Result.andThen_ok, hb]; rfl) k
end
end Go.Wk
