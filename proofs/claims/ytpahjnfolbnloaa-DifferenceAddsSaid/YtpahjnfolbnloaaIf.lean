/- Slices held against nil. -/
import Derived.Test.YtpahjnfolbnloaaRegB
import Derived.Laws.Cover3
set_option linter.unusedVariables false
namespace Go.Wk
open Go.RowKit
section
variable {P : Program} {n : Nat} {al : AL} {w : World} {Q : Exit → Act → World → Prop} {ops : Array Oper} {rest : List Oper}
variable {d ty : Nat} {op : Op} {pos : String} {aft : Array Edge} {tt : TT}
/-- s == nil -/
theorem snil [h : Tab P tt] {x : Operand} {t t2 e : Nat} {k : TK} {A : Option Addr} {m c : Nat} (kk : WL P n ops Q rest ((d, .bool A.isNone) :: al) w) (ht : tk tt t = some k := by rfl) (hk : k.desc = .slice e := by rfl)
    (hx : ev al x = some (.slice A m c) := by rfl) (hd : Nat.blt d n = true := by rfl) : WL P n ops Q (⟨some d, .binOp .eql t x (.const (.slice none 0 0)) t2, ty, pos, aft, none⟩ :: rest) al w :=
  wop hd (fun a ha => by
    have hu := (tk_slice h.ok ht hk rfl).1
    have h2 : a.eval (.const (.slice none 0 0)) = .slice none 0 0 := rfl
    simp [execOp, ha.ev hx, h2, eqGuard, binOp, run_equal_slice_nil w t e A m c hu]) kk
end
end Go.Wk
