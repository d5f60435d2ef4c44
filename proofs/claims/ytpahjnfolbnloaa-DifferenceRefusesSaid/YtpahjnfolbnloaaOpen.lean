/- Arguments as they come in, read as lists. No program in sight. -/
import Derived.Test.YtpahjnfolbnloaaReg
import Derived.ProofKit
import Derived.OpenShut
import Derived.ShutString
import Derived.ChangeOld
import Derived.Deep.Slices
import Derived.Deep.Fields
set_option linter.unusedVariables false
namespace Go.Wk
open Go.RowKit Go.ChangeShapes Go.WideShapes
section
variable {H : Type} {enc : TypeId × Value → H} {P : Program} {w : World} {base : Nat} {spare : Nat → Bool} {held : Bool}
theorem rd_of {A : Option Addr} {sz len : Nat} {cs : List Value} {ad : Addr} (hA : A = some ad) (hl : cs.length = len * sz) (hc : ∀ j u, cs[j]? = some u → w.cell? (ad.add j) = some u) : Rd w sz A len cs :=
  ⟨hl, fun h0 => ⟨ad, hA, by
    have h1 := hc 0 cs[0] (List.getElem?_eq_getElem h0)
    rw [add_zero] at h1
    exact World.block_lt_of_cell? w ad h1, hc⟩⟩
theorem wf_u8 {n : Int} (h : (Lit.int .u8 n).wf = true) : 0 ≤ n ∧ n ≤ 255 := bounds_u8 h
theorem open_bytes {t e : TypeId} {fuel : Nat} {A : Option Addr} {len cap : Nat} {x : DataW H × List MemPlace} (ht : P.underlying t = some (.slice e)) (he : P.underlying e = some (.int .u8)) (hc : P.cellsOf e = 1)
    (h : DataW.trod enc P w base spare held fuel t [.slice A len cap] = some x) : ∃ l : List UInt8, l.length = len ∧ Rd w 1 A len (Bc l) ∧ len ≤ cap ∧ cap ≤ maxLen := by
  rcases open_ints ht he hc h with ⟨hcs, _⟩ | ⟨a, len', cap', zs, hcs, _, hl, hm, hz, _, hcell, hwz⟩
  · simp only [List.cons.injEq, Value.slice.injEq, and_true] at hcs
    obtain ⟨rfl, rfl, rfl⟩ := hcs
    exact ⟨[], rfl, Rd.nil, Nat.le_refl _, Nat.zero_le _⟩
  · simp only [List.cons.injEq, Value.slice.injEq, and_true] at hcs
    obtain ⟨rfl, rfl, rfl⟩ := hcs
    have hlz : len ≤ zs.length := by rw [hz]; split <;> omega
    refine ⟨(zs.take len).map fun n => UInt8.ofNat n.toNat, by simp; omega, rd_of rfl (by simp [Bc]; omega) fun j u hu => ?_, hl, hm⟩
    have hj : j < len := by
      have := (List.getElem?_eq_some_iff.1 hu).1
      simp [Bc] at this
      omega
    have hjz : j < zs.length := by omega
    rw [hcell j hjz]
    rw [← hu]
    have hb := wf_u8 (hwz zs[j] (List.getElem_mem hjz))
    have e1 : zs.getD j 0 = zs[j] := by simp [List.getD, List.getElem?_eq_getElem hjz]
    rw [e1]
    simp only [Bc, List.map_map, List.getElem?_map, List.getElem?_take, hj, if_true, List.getElem?_eq_getElem hjz, Option.map_some, Function.comp]
    congr 2
    rw [UInt8.toNat_ofNat']
    omega
/-- a slice whose elements are read one by one -/
theorem open_elems {α : Type} {t e sz : Nat} {fuel : Nat} {A : Option Addr} {len cap : Nat} {x : DataW H × List MemPlace} (X : α → List Value) (R : α → Prop) (ht : P.underlying t = some (.slice e)) (hc : P.cellsOf e = sz)
    (hX : ∀ (n : Nat) (cs' : List Value) (y : DataW H × List MemPlace), DataW.trod enc P w base spare held n e cs' = some y → ∃ z : α, cs' = X z ∧ R z)
    (h : DataW.trod enc P w base spare held fuel t [.slice A len cap] = some x) : ∃ l : List α, l.length = len ∧ Rd w sz A len (l.flatMap X) ∧ (∀ z ∈ l, R z) ∧ len ≤ cap ∧ cap ≤ maxLen := by
  rcases Go.Deep.open_slice ht h with ⟨hcs, _⟩ | ⟨a, len', cap', m, n, D, Pl, hcs, _, hl, hm, hmm, _, hel⟩
  · simp only [List.cons.injEq, Value.slice.injEq, and_true] at hcs
    obtain ⟨rfl, rfl, rfl⟩ := hcs
    exact ⟨[], rfl, Rd.nil, (fun z hz => by cases hz), Nat.le_refl _, Nat.zero_le _⟩
  · simp only [List.cons.injEq, Value.slice.injEq, and_true] at hcs
    obtain ⟨rfl, rfl, rfl⟩ := hcs
    have hlm : len ≤ m := by rw [hmm]; split <;> omega
    have key : ∀ k, k ≤ len → ∃ l : List α, l.length = k ∧ (l.flatMap X).length = k * sz ∧ (∀ j u, (l.flatMap X)[j]? = some u → w.cell? (a.add j) = some u) ∧ ∀ z ∈ l, R z := by
      intro k
      induction k with
      | zero => intro _; exact ⟨[], rfl, by simp, (fun j u hu => by simp at hu), (fun z hz => by cases hz)⟩
      | succ k ih =>
        intro hk
        obtain ⟨l, h1, h2, h3, h4⟩ := ih (by omega)
        obtain ⟨cs', hcs', htr⟩ := hel k (by omega)
        obtain ⟨z, rfl, hz⟩ := hX n cs' _ htr
        rw [hc] at hcs'
        obtain ⟨_, hlen, hat⟩ := World.cells?_some hcs'
        refine ⟨l ++ [z], by simp [h1], ?_, ?_, ?_⟩
        · rw [List.flatMap_append, List.length_append, h2]
          simp only [List.flatMap_cons, List.flatMap_nil, List.append_nil, hlen, Nat.add_mul, Nat.one_mul]
        · intro j u hu
          rw [List.flatMap_append] at hu
          simp only [List.flatMap_cons, List.flatMap_nil, List.append_nil] at hu
          rcases Nat.lt_or_ge j (k * sz) with hj | hj
          · rw [List.getElem?_append_left (by omega)] at hu
            exact h3 j u hu
          · rw [List.getElem?_append_right (by omega), h2] at hu
            have hb : j - k * sz < sz := by have := (List.getElem?_eq_some_iff.1 hu).1; omega
            have := hat (j - k * sz) hb
            rw [add_add] at this
            rw [show k * sz + (j - k * sz) = j by omega] at this
            rw [this, hu]
        · intro z' hz'
          rcases List.mem_append.1 hz' with h' | h'
          · exact h4 z' h'
          · simp at h'; subst h'; exact hz
    obtain ⟨l, h1, h2, h3, h4⟩ := key len (Nat.le_refl _)
    exact ⟨l, h1, rd_of rfl h2 h3, h4, hl, hm⟩
theorem flatMap_one {α : Type} (f : α → Value) (l : List α) : l.flatMap (fun z => [f z]) = l.map f := by induction l <;> simp_all
theorem open_bools {t e : TypeId} {fuel : Nat} {A : Option Addr} {len cap : Nat} {x : DataW H × List MemPlace} (ht : P.underlying t = some (.slice e)) (he : P.underlying e = some .bool) (hc : P.cellsOf e = 1)
    (h : DataW.trod enc P w base spare held fuel t [.slice A len cap] = some x) : ∃ l : List Bool, l.length = len ∧ Rd w 1 A len (l.map Value.bool) ∧ len ≤ cap ∧ cap ≤ maxLen := by
  obtain ⟨l, h1, h2, _, h3, h4⟩ := open_elems (fun b => [Value.bool b]) (fun _ => True) ht hc (fun n cs' y hy => by obtain ⟨b, hb, _⟩ := DataW.trod_bool he hy; exact ⟨b, hb, trivial⟩) h
  rw [flatMap_one] at h2
  exact ⟨l, h1, h2, h3, h4⟩
end
end Go.Wk
