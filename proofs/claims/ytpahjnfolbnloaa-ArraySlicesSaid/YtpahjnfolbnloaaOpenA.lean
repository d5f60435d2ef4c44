/- Arguments of the laws as they come in: rows, lists of rows. -/
import Derived.Test.YtpahjnfolbnloaaLaw1
import Derived.Test.YtpahjnfolbnloaaOpen
import Derived.SizedLaws
set_option linter.unusedVariables false
namespace Go.Proofs.Ytpahjnfolbnloaa
open Go.RowKit Pl Go.Wk Go.ChangeShapes Go.WideShapes
section
variable {H : Type} {enc : TypeId × Value → H} {w : World} {base : Nat} {spare : Nat → Bool} {held : Bool}
set_option maxRecDepth 100000 in
theorem open_value {n : Nat} {cs : List Value} {y : DataW H × List MemPlace} (h : DataW.trod enc Try.prog w base spare held n 86 cs = some y) :
    ∃ v : V, cs = v.cells := by
  obtain ⟨xs, m, _, _, hlen, hxl, hf⟩ := DataW.trod_struct Try.underlying86 h
  have hl3 : cs.length = 3 := by rw [hlen]; kernel_rfl
  have hx3 : xs.length = 3 := hxl
  match cs, hl3 with
  | [c0, c1, c2], _ =>
    have f0 : DataW.trod enc Try.prog w base spare held m 3 (([c0, c1, c2].drop 0).take (Try.prog.cellsOf 3)) = xs[0]? := hf 0 _ rfl
    have f1 : DataW.trod enc Try.prog w base spare held m 2 (([c0, c1, c2].drop 1).take (Try.prog.cellsOf 2)) = xs[1]? := hf 1 _ rfl
    have f2 : DataW.trod enc Try.prog w base spare held m 9 (([c0, c1, c2].drop 2).take (Try.prog.cellsOf 9)) = xs[2]? := hf 2 _ rfl
    rw [show Try.prog.cellsOf 3 = 1 by kernel_rfl, List.getElem?_eq_getElem (by omega)] at f0
    rw [show Try.prog.cellsOf 2 = 1 by kernel_rfl, List.getElem?_eq_getElem (by omega)] at f1
    rw [show Try.prog.cellsOf 9 = 1 by kernel_rfl, List.getElem?_eq_getElem (by omega)] at f2
    obtain ⟨k, e0, _, _⟩ := DataW.trod_int Try.underlying3 f0
    obtain ⟨i, e1, _, wi⟩ := DataW.trod_int Try.underlying2 f1
    obtain ⟨s, e2, _, _⟩ := DataW.trod_string Try.underlying9 f2
    simp at e0 e1 e2
    subst e0; subst e1; subst e2
    exact ⟨⟨k, i, s⟩, rfl⟩
theorem open_row {fuel : Nat} {A : Option Addr} {len cap : Nat} {x : DataW H × List MemPlace} (h : DataW.trod enc Try.prog w base spare held fuel 25 [.slice A len cap] = some x) :
    ∃ l : List V, RowG w (.slice A len cap) l := by
  obtain ⟨l, h1, h2, h3, h4, h5⟩ := open_elems (sz := 3) V.cells (fun v => True) Try.underlying25 (by kernel_rfl) (fun n cs' y hy => by obtain ⟨v, hv⟩ := open_value hy; exact ⟨v, hv, trivial⟩) h
  subst h1
  exact ⟨l, A, cap, rfl, h4, by unfold maxLen at h5; omega, h2⟩
theorem open_one {fuel : Nat} {cs : List Value} {x : DataW H × List MemPlace} (h : DataW.trod enc Try.prog w base spare held fuel 25 cs = some x) : ∃ p : Pr, cs = [p.1] ∧ RowG w p.1 p.2 := by
  rcases Go.Deep.open_slice Try.underlying25 h with ⟨hcs, _⟩ | ⟨a, len', cap', m, n, D, Pl, hcs, _⟩
  · subst hcs
    obtain ⟨l, hl⟩ := open_row h
    exact ⟨(_, l), rfl, hl⟩
  · subst hcs
    obtain ⟨l, hl⟩ := open_row h
    exact ⟨(_, l), rfl, hl⟩
theorem open_rows {fuel : Nat} {A : Option Addr} {len cap : Nat} {x : DataW H × List MemPlace} (h : DataW.trod enc Try.prog w base spare held fuel 22 [.slice A len cap] = some x) :
    ∃ ls : List Row, RowsG w (.slice A len cap) ls := by
  obtain ⟨ps, h1, h2, h3, h4, h5⟩ := open_elems (sz := 1) (fun p : Pr => [p.1]) (fun p => RowG w p.1 p.2) Try.underlying22 (by kernel_rfl) (fun n cs' y hy => open_one hy) h
  subst h1
  rw [flatMap_one] at h2
  exact ⟨ps.map (·.2), ps, A, cap, rfl, rfl, h4, by unfold maxLen at h5; omega, h2, h3⟩
theorem open_boolsG {fuel : Nat} {A : Option Addr} {len cap : Nat} {x : DataW H × List MemPlace} (h : DataW.trod enc Try.prog w base spare held fuel 23 [.slice A len cap] = some x) :
    ∃ ds : List Bool, BoolsG w (.slice A len cap) ds := by
  obtain ⟨l, h1, h2, h3, h4⟩ := open_bools Try.underlying23 Try.underlying4 (by kernel_rfl) h
  subst h1
  exact ⟨l, A, cap, rfl, h3, by unfold maxLen at h4; omega, h2⟩
/-- the reach of a slice -/
theorem open_len {P : Program} {t e : TypeId} {fuel : Nat} {A : Option Addr} {len cap : Nat} {d : DataW H} {p : List MemPlace} (ht : P.underlying t = some (.slice e)) (h : DataW.trod enc P w base spare held fuel t [.slice A len cap] = some (d, p))
    (hw : ∀ n ∈ d.weights P t, n ≤ reachBytes) : len * P.bytesOf e ≤ reachBytes := by
  rcases Go.Deep.open_slice ht h with ⟨hcs, _⟩ | ⟨a, len', cap', m, n, D, Pl, hcs, _, hl, hm, hmm, hx, hel⟩
  · simp only [List.cons.injEq, Value.slice.injEq, and_true] at hcs
    obtain ⟨rfl, rfl, rfl⟩ := hcs
    rw [Nat.zero_mul]; exact Nat.zero_le _
  · simp only [List.cons.injEq, Value.slice.injEq, and_true] at hcs
    obtain ⟨rfl, rfl, rfl⟩ := hcs
    injection hx with hx _
    subst hx
    have := hw ((((List.range len).map D).length + ((List.range (m - len)).map fun j => D (len + j)).length) * P.bytesOf e) (by simp [DataW.weights, ht])
    rw [List.length_map, List.length_range] at this
    exact Nat.le_trans (Nat.mul_le_mul_right _ (Nat.le_add_right _ _)) this
end
end Go.Proofs.Ytpahjnfolbnloaa
