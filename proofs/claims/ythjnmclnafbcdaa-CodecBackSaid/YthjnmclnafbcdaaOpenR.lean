/- Rows that come in. -/
import Derived.Test.YthjnmclnafbcdaaRow
import Derived.Test.YthjnmclnafbcdaaOpen
set_option linter.unusedVariables false
namespace Go.Proofs.Ythjnmclnafbcdaa
open Go.RowKit Pl Go.Wk Go.ChangeShapes Go.WideShapes
section
variable {H : Type} {enc : TypeId × Value → H} {w : World} {base : Nat} {spare : Nat → Bool} {held : Bool}
theorem open_value {n : Nat} {cs : List Value} {y : DataW H × List MemPlace} (h : DataW.trod enc Try.prog w base spare held n 42 cs = some y) :
    ∃ v : V, cs = v.cells ∧ (-9223372036854775808 ≤ v.num ∧ v.num ≤ 9223372036854775807) := by
  obtain ⟨xs, m, _, _, hlen, hxl, hf⟩ := DataW.trod_struct Try.underlying42 h
  have hl3 : cs.length = 3 := by rw [hlen]; kernel_rfl
  have hx3 : xs.length = 3 := hxl
  match cs, hl3 with
  | [c0, c1, c2], _ =>
    have f0 : DataW.trod enc Try.prog w base spare held m 3 (([c0, c1, c2].drop 0).take (Try.prog.cellsOf 3)) = xs[0]? := hf 0 _ rfl
    have f1 : DataW.trod enc Try.prog w base spare held m 2 (([c0, c1, c2].drop 1).take (Try.prog.cellsOf 2)) = xs[1]? := hf 1 _ rfl
    have f2 : DataW.trod enc Try.prog w base spare held m 9 (([c0, c1, c2].drop 2).take (Try.prog.cellsOf 9)) = xs[2]? := hf 2 _ rfl
    rw [show Try.prog.cellsOf 3 = 1 by kernel_rfl, List.getElem?_eq_getElem (by omega)] at f0
    rw [show Try.prog.cellsOf 2 = 1 by kernel_rfl, List.getElem?_eq_getElem (by omega)] at f1
    rw [show Try.prog.cellsOf 9 = 1 by kernel_rfl, List.getElem?_eq_getElem (by omega)] at f2
    obtain ⟨k, e0, _, _⟩ := DataW.trod_int Try.underlying3 f0
    obtain ⟨i, e1, _, wi⟩ := DataW.trod_int Try.underlying2 f1
    obtain ⟨s, e2, _, _⟩ := DataW.trod_string Try.underlying9 f2
    simp at e0 e1 e2
    subst e0; subst e1; subst e2
    exact ⟨⟨k, i, s⟩, rfl, bounds_i64 wi⟩
theorem open_row {fuel : Nat} {A : Option Addr} {len cap : Nat} {x : DataW H × List MemPlace} (h : DataW.trod enc Try.prog w base spare held fuel 36 [.slice A len cap] = some x) :
    ∃ l : List V, l.length = len ∧ (Rd w 3 A len (rowC l) ∧ RowOk l) ∧ len ≤ cap ∧ cap ≤ maxLen := by
  obtain ⟨l, h1, h2, h3, h4, h5⟩ := open_elems (sz := 3) V.cells (fun v => -9223372036854775808 ≤ v.num ∧ v.num ≤ 9223372036854775807) Try.underlying36 (by kernel_rfl) (fun n cs' y hy => open_value hy) h
  exact ⟨l, h1, ⟨h2, h3⟩, h4, h5⟩
end
end Go.Proofs.Ythjnmclnafbcdaa
