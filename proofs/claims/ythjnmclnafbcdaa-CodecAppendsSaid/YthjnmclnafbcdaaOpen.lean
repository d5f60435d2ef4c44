/- Arguments as they come in, read as lists. No program in sight. -/
import Derived.Test.YthjnmclnafbcdaaReg
import Derived.ProofKit
import Derived.OpenShut
import Derived.ShutString
import Derived.ChangeOld
set_option linter.unusedVariables false
namespace Go.Wk
open Go.RowKit Go.ChangeShapes Go.WideShapes
section
variable {H : Type} {enc : TypeId × Value → H} {P : Program} {w : World} {base : Nat} {spare : Nat → Bool} {held : Bool}
theorem rd_of {A : Option Addr} {sz len : Nat} {cs : List Value} {ad : Addr} (hA : A = some ad) (hl : cs.length = len * sz) (hc : ∀ j u, cs[j]? = some u → w.cell? (ad.add j) = some u) : Rd w sz A len cs :=
  ⟨hl, fun h0 => ⟨ad, hA, by
    have h1 := hc 0 cs[0] (List.getElem?_eq_getElem h0)
    rw [add_zero] at h1
    exact World.block_lt_of_cell? w ad h1, hc⟩⟩
theorem wf_u8 {n : Int} (h : (Lit.int .u8 n).wf = true) : 0 ≤ n ∧ n ≤ 255 := bounds_u8 h
theorem open_bytes {t e : TypeId} {fuel : Nat} {A : Option Addr} {len cap : Nat} {x : DataW H × List MemPlace} (ht : P.underlying t = some (.slice e)) (he : P.underlying e = some (.int .u8)) (hc : P.cellsOf e = 1)
    (h : DataW.trod enc P w base spare held fuel t [.slice A len cap] = some x) : ∃ l : List UInt8, l.length = len ∧ Rd w 1 A len (Bc l) ∧ len ≤ cap ∧ cap ≤ maxLen := by
  rcases open_ints ht he hc h with ⟨hcs, _⟩ | ⟨a, len', cap', zs, hcs, _, hl, hm, hz, _, hcell, hwz⟩
  · simp only [List.cons.injEq, Value.slice.injEq, and_true] at hcs
    obtain ⟨rfl, rfl, rfl⟩ := hcs
    exact ⟨[], rfl, Rd.nil, Nat.le_refl _, Nat.zero_le _⟩
  · simp only [List.cons.injEq, Value.slice.injEq, and_true] at hcs
    obtain ⟨rfl, rfl, rfl⟩ := hcs
    have hlz : len ≤ zs.length := by rw [hz]; split <;> omega
    refine ⟨(zs.take len).map fun n => UInt8.ofNat n.toNat, by simp; omega, rd_of rfl (by simp [Bc]; omega) fun j u hu => ?_, hl, hm⟩
    have hj : j < len := by
      have := (List.getElem?_eq_some_iff.1 hu).1
      simp [Bc] at this
      omega
    have hjz : j < zs.length := by omega
    rw [hcell j hjz]
    rw [← hu]
    have hb := wf_u8 (hwz zs[j] (List.getElem_mem hjz))
    have e1 : zs.getD j 0 = zs[j] := by simp [List.getD, List.getElem?_eq_getElem hjz]
    rw [e1]
    simp only [Bc, List.map_map, List.getElem?_map, List.getElem?_take, hj, if_true, List.getElem?_eq_getElem hjz, Option.map_some, Function.comp]
    congr 2
    rw [UInt8.toNat_ofNat']
    omega
end
end Go.Wk
