/- Arguments of the difference laws as they come in: pairs of bytes, sets of pairs, truth values. -/
import Derived.Test.YtpahjnfolbnloaaLaw5
import Derived.Test.YtpahjnfolbnloaaOpen
import Derived.SizedLaws
import Derived.Laws.IdiomArrays
set_option linter.unusedVariables false
namespace Go.Proofs.Ytpahjnfolbnloaa
open Go.RowKit Pl Go.Wk Go.ChangeShapes Go.WideShapes
section
variable {H : Type} {enc : TypeId × Value → H} {w : World} {base b0 : Nat} {spare : Nat → Bool} {held : Bool}
theorem trod_array2 {P : Program} {t e : TypeId} {fuel : Nat} {cs : List Value} {x : DataW H × List MemPlace} (ht : P.underlying t = some (.array 2 e)) (hce : P.cellsOf e = 1) (hct : P.cellsOf t = 2)
    (h : DataW.trod enc P w base spare held fuel t cs = some x) :
    ∃ c0 c1 y0 y1 n, cs = [c0, c1] ∧ DataW.trod enc P w base spare held n e [c0] = some y0 ∧ DataW.trod enc P w base spare held n e [c1] = some y1 := by
  cases fuel with
  | zero => simp [DataW.trod] at h
  | succ n =>
    unfold DataW.trod at h
    rw [ht] at h
    have r2 : List.range 2 = [0, 1] := rfl
    simp [r2, hce, hct] at h
    obtain ⟨hl, h⟩ := h
    match cs, hl with
    | [c0, c1], _ =>
      simp at h
      cases h0 : DataW.trod enc P w base spare held n e [c0] with
      | none => simp [h0] at h
      | some y0 =>
        cases h1 : DataW.trod enc P w base spare held n e [c1] with
        | none => simp [h0, h1] at h
        | some y1 => exact ⟨c0, c1, y0, y1, n, rfl, h0, h1⟩
theorem u8_of {n : Int} (h : 0 ≤ n ∧ n ≤ 255) : ∃ x : UInt8, n = (x.toNat : Int) := ⟨UInt8.ofNat n.toNat, by rw [UInt8.toNat_ofNat']; omega⟩
theorem open_pair {n : Nat} {cs : List Value} {y : DataW H × List MemPlace} (h : DataW.trod enc Try.prog w base spare held n 60 cs = some y) : ∃ p : UInt8 × UInt8, cs = [.int .u8 (p.1.toNat : Int), .int .u8 (p.2.toNat : Int)] := by
  obtain ⟨c0, c1, y0, y1, n, rfl, f0, f1⟩ := trod_array2 Try.underlying60 (by kernel_rfl) (by kernel_rfl) h
  obtain ⟨a0, e0, _, w0⟩ := DataW.trod_int Try.underlying5 f0
  obtain ⟨a1, e1, _, w1⟩ := DataW.trod_int Try.underlying5 f1
  simp at e0 e1
  subst e0; subst e1
  obtain ⟨x, rfl⟩ := u8_of (bounds_u8 w0)
  obtain ⟨z, rfl⟩ := u8_of (bounds_u8 w1)
  exact ⟨(x, z), rfl⟩
theorem open_pairs {fuel : Nat} {A : Option Addr} {len cap : Nat} {x : DataW H × List MemPlace} (h : DataW.trod enc Try.prog w base spare held fuel 57 [.slice A len cap] = some x) :
    ∃ l : List (UInt8 × UInt8), PairsG w (.slice A len cap) l := by
  obtain ⟨l, h1, h2, h3, h4, h5⟩ := open_elems (sz := 2) (fun p : UInt8 × UInt8 => [Value.int .u8 (p.1.toNat : Int), .int .u8 (p.2.toNat : Int)]) (fun _ => True) Try.underlying57 (by kernel_rfl) (fun n cs' y hy => by obtain ⟨p, hp⟩ := open_pair hy; exact ⟨p, hp, trivial⟩) h
  subst h1
  exact ⟨l, A, cap, rfl, h4, by unfold maxLen at h5; omega, h2⟩
theorem open_pairs1 {fuel : Nat} {cs : List Value} {x : DataW H × List MemPlace} (h : DataW.trod enc Try.prog w base spare held fuel 57 cs = some x) : ∃ v l, cs = [v] ∧ PairsG w v l := by
  rcases Go.Deep.open_slice Try.underlying57 h with ⟨hcs, _⟩ | ⟨a, len', cap', m, n, D, Pl, hcs, _⟩
  · subst hcs
    obtain ⟨l, hl⟩ := open_pairs h
    exact ⟨_, l, rfl, hl⟩
  · subst hcs
    obtain ⟨l, hl⟩ := open_pairs h
    exact ⟨_, l, rfl, hl⟩
theorem open_boolsG {fuel : Nat} {A : Option Addr} {len cap : Nat} {x : DataW H × List MemPlace} (h : DataW.trod enc Try.prog w base spare held fuel 23 [.slice A len cap] = some x) :
    ∃ ds : List Bool, BlsG w (.slice A len cap) ds := by
  obtain ⟨l, h1, h2, h3, h4⟩ := open_bools Try.underlying23 Try.underlying4 (by kernel_rfl) h
  subst h1
  exact ⟨l, A, cap, rfl, h3, by unfold maxLen at h4; omega, h2⟩
def SetsX (w : World) (v : Value) : Prop := ∃ a b, SetsG w v a b
def Arr2X (v : Value) : Prop := ∃ p, Arr2 v p
set_option maxRecDepth 100000 in
theorem open_sets {v : Value} {d : DataW H} {p : List MemPlace} (hv : Value.okWide Try.prog w .any b0 59 v) (h : DataW.Trod enc Try.prog w base spare held 59 v d p) : SetsX w v := by
  simp only [Value.okWide, Try.underlying59] at hv
  obtain ⟨cs, rfl, h2, _⟩ := hv
  rw [show Try.prog.cellsOf 59 = 2 by kernel_rfl] at h2
  obtain ⟨l⟩ := cs
  obtain ⟨fuel, h⟩ := h
  match l, h2 with
  | [c0, c1], _ =>
    obtain ⟨xs, m, _, _, hlen, hxl, hf⟩ := DataW.trod_struct Try.underlying59 h
    have hx2 : xs.length = 2 := hxl
    have f0 : DataW.trod enc Try.prog w base spare held m 57 (([c0, c1].drop 0).take (Try.prog.cellsOf 57)) = xs[0]? := hf 0 _ rfl
    have f1 : DataW.trod enc Try.prog w base spare held m 57 (([c0, c1].drop 1).take (Try.prog.cellsOf 57)) = xs[1]? := hf 1 _ rfl
    rw [show Try.prog.cellsOf 57 = 1 by kernel_rfl, List.getElem?_eq_getElem (by omega)] at f0 f1
    obtain ⟨v0, l0, e0, g0⟩ := open_pairs1 f0
    obtain ⟨v1, l1, e1, g1⟩ := open_pairs1 f1
    simp at e0 e1
    subst e0; subst e1
    exact ⟨l0, l1, c0, c1, rfl, g0, g1⟩
set_option maxRecDepth 100000 in
theorem open_arr2 {v : Value} {d : DataW H} {p : List MemPlace} (hv : Value.okWide Try.prog w .any b0 60 v) (h : DataW.Trod enc Try.prog w base spare held 60 v d p) : Arr2X v := by
  simp only [Value.okWide, Try.underlying60] at hv
  obtain ⟨cs, rfl, h2, _⟩ := hv
  obtain ⟨l⟩ := cs
  obtain ⟨fuel, h⟩ := h
  obtain ⟨q, e⟩ := open_pair h
  have e : l = _ := e
  subst e
  exact ⟨q, rfl⟩
theorem differenceRows_walk {v vd vr : Value} {ds : List Bool} (hS : SetsX w v) (hdG : BlsG w vd ds) (hr : Arr2X vr) : Ret Try.prog 7 [v, vd, vr] w fun x w' => x = .bool true ∧ Ext w w' := by
  obtain ⟨a, b, hS⟩ := hS
  obtain ⟨p, hp⟩ := hr
  exact differenceRows_any hS hdG hp
end
end Go.Proofs.Ytpahjnfolbnloaa
