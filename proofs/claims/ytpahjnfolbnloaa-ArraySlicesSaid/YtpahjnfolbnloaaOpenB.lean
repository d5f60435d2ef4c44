/- Arguments of the laws as they come in: four bytes. -/
import Derived.Test.YtpahjnfolbnloaaOpenA
import Derived.Test.YtpahjnfolbnloaaLaw4
import Derived.Laws.IdiomArrays
set_option linter.unusedVariables false
namespace Go.Proofs.Ytpahjnfolbnloaa
open Go.RowKit Pl Go.Wk Go.ChangeShapes Go.WideShapes
section
variable {H : Type} {enc : TypeId × Value → H} {w : World} {base b0 : Nat} {spare : Nat → Bool} {held : Bool}
set_option maxRecDepth 100000 in
theorem open_arr4 {v : Value} {d : DataW H} {p : List MemPlace} (hv : Value.okWide Try.prog w .any b0 49 v) (h : DataW.Trod enc Try.prog w base spare held 49 v d p) : Arr4 v := by
  simp only [Value.okWide, Try.underlying49] at hv
  obtain ⟨cs, rfl, h2, _⟩ := hv
  rw [show Try.prog.cellsOf 49 = 4 by kernel_rfl] at h2
  obtain ⟨l⟩ := cs
  obtain ⟨fuel, h⟩ := h
  match l, h2 with
  | [c0, c1, c2, c3], _ =>
    obtain ⟨y0, y1, y2, y3, n, _, f0, f1, f2, f3⟩ := trod_array4 Try.underlying49 (by kernel_rfl) h
    obtain ⟨a0, e0, _, w0⟩ := DataW.trod_int Try.underlying5 f0
    obtain ⟨a1, e1, _, w1⟩ := DataW.trod_int Try.underlying5 f1
    obtain ⟨a2, e2, _, w2⟩ := DataW.trod_int Try.underlying5 f2
    obtain ⟨a3, e3, _, w3⟩ := DataW.trod_int Try.underlying5 f3
    simp at e0 e1 e2 e3
    subst e0; subst e1; subst e2; subst e3
    exact ⟨a0, a1, a2, a3, rfl, bounds_u8 w0, bounds_u8 w1, bounds_u8 w2, bounds_u8 w3⟩
end
end Go.Proofs.Ytpahjnfolbnloaa
