/- The walking layer: a structure stored whole into an element of the call's own row. No program in sight. -/
import Derived.Test.YtpahjnfolbnloaaIface
set_option linter.unusedVariables false
namespace Go.Wk
open Go.RowKit
section
variable {P : Program} {n : Nat} {al : AL} {w : World} {Q : Exit → Act → World → Prop} {ops : Array Oper} {rest : List Oper}
variable {d ty : Nat} {op : Op} {pos : String} {aft : Array Edge} {tt : TT}
theorem own_storeS {base e sz m c j : Nat} {A : Option Addr} {xs cs : List Value} (ho : w.ownsRow base e sz (.slice A m c) m xs) (hj : j < m) (hl : cs.length = sz) (h1 : ∀ u ∈ cs, u.oneCell' = true) :
    ∃ w', (storeCells (adr A (j * sz)) cs).run P w = .ok () w' ∧ w'.ownsRow base e sz (.slice A m c) m (xs.take (j * sz) ++ cs ++ xs.drop (j * sz + sz)) ∧ w.grownBy w' (Value.slice A m c).ownBlock := by
  rcases ho.2 with ⟨_, h0⟩ | ⟨g, cap, cur, hv, hb, hg, hc, hcm, hcs, ht⟩
  · omega
  injection hv with e1 _ e3
  subst e1; subst e3
  have hjm : j * sz + sz ≤ m * sz := by have := Nat.mul_le_mul_right sz hj; rw [Nat.succ_mul] at this; exact this
  have hmc : m * sz ≤ c * sz := Nat.mul_le_mul_right _ hc
  have ea : adr (some ⟨g, 0, none⟩) (j * sz) = ⟨g, j * sz, none⟩ := by simp [adr, add_lit]
  rw [ea]
  have hst := run_storeCells_at (P := P) g (j * sz) e cs 0 cur w hg (by omega) h1
  simp only [Nat.add_zero] at hst
  refine ⟨_, hst, ⟨?_, .inr ⟨g, c, _, rfl, hb, setRow_heap w g cur _ e (0, 0) hg, hc, hcm, ?_, ?_⟩⟩, ?_⟩
  · have := ho.1
    simp only [List.length_append, List.length_take, List.length_drop]; omega
  · simp only [List.size_toArray, List.length_append, List.length_take, List.length_drop, Array.length_toList, hcs, hl]; omega
  · simp only
    have hlen : (cur.toList.take (j * sz) ++ cs).length = j * sz + sz := by rw [List.length_append, List.length_take, Array.length_toList, hcs, hl]; omega
    rw [List.take_append, hlen]
    have e1 : (cur.toList.take (j * sz) ++ cs).take (m * sz) = cur.toList.take (j * sz) ++ cs := List.take_of_length_le (by omega)
    rw [e1, ← ht, List.take_take, Nat.min_eq_left (by omega), List.drop_take, hl]
  · have := grown_setRow w g (cur.toList.take (j * sz) ++ cs ++ cur.toList.drop (j * sz + cs.length)).toArray
    exact this
theorem stoE [h : Tab P tt] {x y : Operand} {t e base sz m c j : Nat} {A : Option Addr} {k : TK} {xs cs : List Value} (ho : w.ownsRow base e sz (.slice A m c) m xs) (hj : j < m)
    (kk : ∀ w1, w1.ownsRow base e sz (.slice A m c) m (xs.take (j * sz) ++ cs ++ xs.drop (j * sz + sz)) → w.grownBy w1 (Value.slice A m c).ownBlock → WL P n ops Q rest al w1) (h1 : ∀ u ∈ cs, u.oneCell' = true)
    (ht : tk tt t = some k := by rfl) (hk : k.desc = .invalid := by rfl) (hs : k.size = sz := by rfl) (hl : cs.length = sz := by rfl) (hx : ev al x = some (.pointer (some (adr A (j * sz)))) := by rfl) (hy : ev al y = some (.agg cs.toArray) := by rfl) :
    WL P n ops Q (⟨none, .store t x y, ty, pos, aft, none⟩ :: rest) al w := by
  obtain ⟨w', hst, ho', hg'⟩ := own_storeS (P := P) ho hj hl h1
  refine wopn (fun a ha => ?_) (kk w' ho' hg')
  have hsz := run_sizeOf w (tk_struct h.ok ht hk w).2
  simp [execOp, ha.ev hx, ha.ev hy, Instr.storeAt, Instr.sureAddr, storeVar, Value.cells, hsz, hs, hl, hst]
end
end Go.Wk
