/- The arrays of the difference laws: lists in any order, lists that count absent rows. -/
import Derived.Test.YtpahjnfolbnloaaDif5
set_option linter.unusedVariables false
namespace Go.Proofs.Ytpahjnfolbnloaa
open Go.RowKit Pl Go.Wk
attribute [local irreducible] WC WL QX WD WDB WP WG
theorem mListLen (x y z : Value) : Meth Try.prog (.iface 75 (.agg #[x, y, z])) "Len" 133 (.agg #[x, y, z]) := ⟨_, _, rfl, fun w => by kernel_rfl, fun w => by kernel_rfl⟩
theorem mListAt (x y z : Value) : Meth Try.prog (.iface 75 (.agg #[x, y, z])) "At" 132 (.agg #[x, y, z]) := ⟨_, _, rfl, fun w => by kernel_rfl, fun w => by kernel_rfl⟩
theorem mListRank (x y z : Value) : Meth Try.prog (.iface 75 (.agg #[x, y, z])) "Rank" 134 (.agg #[x, y, z]) := ⟨_, _, rfl, fun w => by kernel_rfl, fun w => by kernel_rfl⟩
theorem mCntLen (x y z u : Value) : Meth Try.prog (.iface 78 (.agg #[x, y, z, u])) "Len" 133 (.agg #[x, y, z]) := ⟨_, _, rfl, fun w => by kernel_rfl, fun w => by kernel_rfl⟩
theorem mCntAt (x y z u : Value) : Meth Try.prog (.iface 78 (.agg #[x, y, z, u])) "At" 132 (.agg #[x, y, z]) := ⟨_, _, rfl, fun w => by kernel_rfl, fun w => by kernel_rfl⟩
theorem mCntRank (x y z u : Value) : Meth Try.prog (.iface 78 (.agg #[x, y, z, u])) "Rank" 135 (.agg #[x, y, z, u]) := ⟨_, _, rfl, fun w => by kernel_rfl, fun w => by kernel_rfl⟩
set_option maxRecDepth 100000 in
theorem listLen_any {x y z : Value} {L : List Row} {w : World} (h : RowsV w x L) : Ret Try.prog 133 [.agg #[x, y, z]] w fun v w' => NatV w' v L.length ∧ Ext w w' := by
  obtain ⟨A, c, rfl, hc, hm, cs, hrd, hcs⟩ := h.parts
  refine enterR Try.func133 Try.ntmps133 rfl (by kernel_rfl) rfl ?_
  repeat first | refine ω1 ?_ | refine ω2 ?_ | refine ω3 ?_ | refine ω4 ?_ | refine ω5 ?_ | refine χ1 ?_ | refine κ1 ?_ | refine κ2 ?_ | refine χ2 ?_ | refine κ3 ?_ | refine ω6 ?_ | refine ω7 ?_ | refine ω9 ?_ | refine κ4 ?_ | refine κ7 ?_ | refine κ8 ?_ | refine χ3 ?_ | refine χ4 ?_ | refine κ5 ?_ | refine κ6 ?_ | refine χ5 ?_ | refine χ6 ?_ | refine χ7 ?_ | refine ω8 ?_
  refine bx ?_
  intro w1 b1 hx1 hb1 hk1
  repeat first | refine ω1 ?_ | refine ω2 ?_ | refine ω3 ?_ | refine ω4 ?_ | refine ω5 ?_ | refine χ1 ?_ | refine κ1 ?_ | refine κ2 ?_ | refine χ2 ?_ | refine κ3 ?_ | refine ω6 ?_ | refine ω7 ?_ | refine ω9 ?_ | refine κ4 ?_ | refine κ7 ?_ | refine κ8 ?_ | refine χ3 ?_ | refine χ4 ?_ | refine κ5 ?_ | refine κ6 ?_ | refine χ5 ?_ | refine χ6 ?_ | refine χ7 ?_ | refine ω8 ?_
  refine ld (hk1.at rfl) ?_
  repeat first | refine ω1 ?_ | refine ω2 ?_ | refine ω3 ?_ | refine ω4 ?_ | refine ω5 ?_ | refine χ1 ?_ | refine κ1 ?_ | refine κ2 ?_ | refine χ2 ?_ | refine κ3 ?_ | refine ω6 ?_ | refine ω7 ?_ | refine ω9 ?_ | refine κ4 ?_ | refine κ7 ?_ | refine κ8 ?_ | refine χ3 ?_ | refine χ4 ?_ | refine κ5 ?_ | refine κ6 ?_ | refine χ5 ?_ | refine χ6 ?_ | refine χ7 ?_ | refine ω8 ?_
  refine cl (of47_any hm _) ?_
  rintro v w2 ⟨h1, _, h2⟩
  repeat first | refine ω1 ?_ | refine ω2 ?_ | refine ω3 ?_ | refine ω4 ?_ | refine ω5 ?_ | refine χ1 ?_ | refine κ1 ?_ | refine κ2 ?_ | refine χ2 ?_ | refine κ3 ?_ | refine ω6 ?_ | refine ω7 ?_ | refine ω9 ?_ | refine κ4 ?_ | refine κ7 ?_ | refine κ8 ?_ | refine χ3 ?_ | refine χ4 ?_ | refine κ5 ?_ | refine κ6 ?_ | refine χ5 ?_ | refine χ6 ?_ | refine χ7 ?_ | refine ω8 ?_
  exact fin1 ⟨h1, hx1.trans h2⟩
set_option maxRecDepth 100000 in
theorem listAt_any {x y z vk : Value} {L : List Row} {k : Nat} {w0 w : World} (h : RowsV w0 x L) (hx : Ext w0 w) (N : Nat → Prop) (hN : ∀ k, N k → w0.heap.size ≤ k) (hk : NatV w vk k) (hkb : k < 9223372036854775808) : Ret Try.prog 132 [.agg #[x, y, z], vk] w fun v w' => AtX w' N L 1 k v ∧ Ext w w' := by
  obtain ⟨A, c, rfl, hc, hm, cs, hrd, hcs⟩ := h.parts
  refine enterR Try.func132 Try.ntmps132 rfl (by kernel_rfl) rfl ?_
  repeat first | refine ω1 ?_ | refine ω2 ?_ | refine ω3 ?_ | refine ω4 ?_ | refine ω5 ?_ | refine χ1 ?_ | refine κ1 ?_ | refine κ2 ?_ | refine χ2 ?_ | refine κ3 ?_ | refine ω6 ?_ | refine ω7 ?_ | refine ω9 ?_ | refine κ4 ?_ | refine κ7 ?_ | refine κ8 ?_ | refine χ3 ?_ | refine χ4 ?_ | refine κ5 ?_ | refine κ6 ?_ | refine χ5 ?_ | refine χ6 ?_ | refine χ7 ?_ | refine ω8 ?_
  refine bx ?_
  intro w1 b1 hx1 hb1 hk1
  repeat first | refine ω1 ?_ | refine ω2 ?_ | refine ω3 ?_ | refine ω4 ?_ | refine ω5 ?_ | refine χ1 ?_ | refine κ1 ?_ | refine κ2 ?_ | refine χ2 ?_ | refine κ3 ?_ | refine ω6 ?_ | refine ω7 ?_ | refine ω9 ?_ | refine κ4 ?_ | refine κ7 ?_ | refine κ8 ?_ | refine χ3 ?_ | refine χ4 ?_ | refine κ5 ?_ | refine κ6 ?_ | refine χ5 ?_ | refine χ6 ?_ | refine χ7 ?_ | refine ω8 ?_
  refine cl (natUint64_any (hk.ext hx1) (by omega)) ?_
  rintro _ w2 ⟨rfl, rfl⟩
  repeat first | refine ω1 ?_ | refine ω2 ?_ | refine ω3 ?_ | refine ω4 ?_ | refine ω5 ?_ | refine χ1 ?_ | refine κ1 ?_ | refine κ2 ?_ | refine χ2 ?_ | refine κ3 ?_ | refine ω6 ?_ | refine ω7 ?_ | refine ω9 ?_ | refine κ4 ?_ | refine κ7 ?_ | refine κ8 ?_ | refine χ3 ?_ | refine χ4 ?_ | refine κ5 ?_ | refine κ6 ?_ | refine χ5 ?_ | refine χ6 ?_ | refine χ7 ?_ | refine ω8 ?_
  refine ld (hk1.at rfl) ?_
  repeat first | refine ω1 ?_ | refine ω2 ?_ | refine ω3 ?_ | refine ω4 ?_ | refine ω5 ?_ | refine χ1 ?_ | refine κ1 ?_ | refine κ2 ?_ | refine χ2 ?_ | refine κ3 ?_ | refine ω6 ?_ | refine ω7 ?_ | refine ω9 ?_ | refine κ4 ?_ | refine κ7 ?_ | refine κ8 ?_ | refine χ3 ?_ | refine χ4 ?_ | refine κ5 ?_ | refine κ6 ?_ | refine χ5 ?_ | refine χ6 ?_ | refine χ7 ?_ | refine ω8 ?_
  rw [u64c _ hm]
  refine ci (fun hge => ?_) (fun hlt => ?_)
  · have hge : ¬ k < L.length := by have := of_decide_eq_true hge; omega
    repeat first | refine ω1 ?_ | refine ω2 ?_ | refine ω3 ?_ | refine ω4 ?_ | refine ω5 ?_ | refine χ1 ?_ | refine κ1 ?_ | refine κ2 ?_ | refine χ2 ?_ | refine κ3 ?_ | refine ω6 ?_ | refine ω7 ?_ | refine ω9 ?_ | refine κ4 ?_ | refine κ7 ?_ | refine κ8 ?_ | refine χ3 ?_ | refine χ4 ?_ | refine κ5 ?_ | refine κ6 ?_ | refine χ5 ?_ | refine χ6 ?_ | refine χ7 ?_ | refine ω8 ?_
    refine fin3 ⟨?_, hx1⟩
    unfold AtX
    rw [if_neg hge]
    exact ⟨1, rfl, Nat.le_refl _⟩
  · have hlt : k < L.length := by have := of_decide_eq_false hlt; omega
    obtain ⟨u, hu, hru⟩ := hcs k hlt
    repeat first | refine ω1 ?_ | refine ω2 ?_ | refine ω3 ?_ | refine ω4 ?_ | refine ω5 ?_ | refine χ1 ?_ | refine κ1 ?_ | refine κ2 ?_ | refine χ2 ?_ | refine κ3 ?_ | refine ω6 ?_ | refine ω7 ?_ | refine ω9 ?_ | refine κ4 ?_ | refine κ7 ?_ | refine κ8 ?_ | refine χ3 ?_ | refine χ4 ?_ | refine κ5 ?_ | refine κ6 ?_ | refine χ5 ?_ | refine χ6 ?_ | refine χ7 ?_ | refine ω8 ?_
    refine ld (hk1.at rfl) ?_
    repeat first | refine ω1 ?_ | refine ω2 ?_ | refine ω3 ?_ | refine ω4 ?_ | refine ω5 ?_ | refine χ1 ?_ | refine κ1 ?_ | refine κ2 ?_ | refine χ2 ?_ | refine κ3 ?_ | refine ω6 ?_ | refine ω7 ?_ | refine ω9 ?_ | refine κ4 ?_ | refine κ7 ?_ | refine κ8 ?_ | refine χ3 ?_ | refine χ4 ?_ | refine κ5 ?_ | refine κ6 ?_ | refine χ5 ?_ | refine χ6 ?_ | refine χ7 ?_ | refine ω8 ?_
    refine ix k ((hrd.ext hx).ext hx1) hlt ?_
    repeat first | refine ω1 ?_ | refine ω2 ?_ | refine ω3 ?_ | refine ω4 ?_ | refine ω5 ?_ | refine χ1 ?_ | refine κ1 ?_ | refine κ2 ?_ | refine χ2 ?_ | refine κ3 ?_ | refine ω6 ?_ | refine ω7 ?_ | refine ω9 ?_ | refine κ4 ?_ | refine κ7 ?_ | refine κ8 ?_ | refine χ3 ?_ | refine χ4 ?_ | refine κ5 ?_ | refine κ6 ?_ | refine χ5 ?_ | refine χ6 ?_ | refine χ7 ?_ | refine ω8 ?_
    refine ld (((hrd.ext hx).ext hx1).cell hu) ?_
    repeat first | refine ω1 ?_ | refine ω2 ?_ | refine ω3 ?_ | refine ω4 ?_ | refine ω5 ?_ | refine χ1 ?_ | refine κ1 ?_ | refine κ2 ?_ | refine χ2 ?_ | refine κ3 ?_ | refine ω6 ?_ | refine ω7 ?_ | refine ω9 ?_ | refine κ4 ?_ | refine κ7 ?_ | refine κ8 ?_ | refine χ3 ?_ | refine χ4 ?_ | refine κ5 ?_ | refine κ6 ?_ | refine χ5 ?_ | refine χ6 ?_ | refine χ7 ?_ | refine ω8 ?_
    refine fin3 ⟨?_, hx1⟩
    unfold AtX
    rw [if_pos hlt]
    exact ⟨u, 1, rfl, ((hru.off hN).ext hx).ext hx1, Nat.le_refl _⟩
set_option maxRecDepth 100000 in
theorem listRank_any {x y z vr : Value} {L : List Row} {r : Row} {w0 w : World} (h : RowsV w0 x L) (hx : Ext w0 w) (N : Nat → Prop) (hN : ∀ k, N k → k < w.heap.size) (hr : RowV w vr r) (hm : r ∈ L) : Ret Try.prog 134 [.agg #[x, y, z], vr] w fun v w' => RankX w' N L (fun r => L.idxOf r) 1 r v ∧ Ext w w' := by
  obtain ⟨A, c, rfl, hc, hlm, cs, hrd, hcs⟩ := h.parts
  refine enterR Try.func134 Try.ntmps134 rfl (by kernel_rfl) rfl ?_
  repeat first | refine ω1 ?_ | refine ω2 ?_ | refine ω3 ?_ | refine ω4 ?_ | refine ω5 ?_ | refine χ1 ?_ | refine κ1 ?_ | refine κ2 ?_ | refine χ2 ?_ | refine κ3 ?_ | refine ω6 ?_ | refine ω7 ?_ | refine ω9 ?_ | refine κ4 ?_ | refine κ7 ?_ | refine κ8 ?_ | refine χ3 ?_ | refine χ4 ?_ | refine κ5 ?_ | refine κ6 ?_ | refine χ5 ?_ | refine χ6 ?_ | refine χ7 ?_ | refine ω8 ?_
  refine bx ?_
  intro w1 b1 hx1 hb1 hk1
  repeat first | refine ω1 ?_ | refine ω2 ?_ | refine ω3 ?_ | refine ω4 ?_ | refine ω5 ?_ | refine χ1 ?_ | refine κ1 ?_ | refine κ2 ?_ | refine χ2 ?_ | refine κ3 ?_ | refine ω6 ?_ | refine ω7 ?_ | refine ω9 ?_ | refine κ4 ?_ | refine κ7 ?_ | refine κ8 ?_ | refine χ3 ?_ | refine χ4 ?_ | refine κ5 ?_ | refine κ6 ?_ | refine χ5 ?_ | refine χ6 ?_ | refine χ7 ?_ | refine ω8 ?_
  refine wloop1 (fun k => [(1, vr), (2, .pointer (some ⟨b1, 0, none⟩)), (8, .int .i64 ((k : Nat) : Int))])
    (fun k w' => Ext w1 w' ∧ k ≤ L.length ∧ r ∉ L.take k) (fun k => L.length - k) 0 (by repeat' (first | exact Sub.nil | refine Sub.cons rfl ?_)) ⟨Ext.refl _, Nat.zero_le _, by simp⟩ ?_
  rintro k w2 ⟨hx2, hk, hn⟩
  have hx02 := (hx.trans hx1).trans hx2
  have hlt : k < L.length := by
    rcases Nat.lt_or_ge k L.length with h' | h'
    · exact h'
    · rw [List.take_of_length_le h'] at hn; exact absurd hm hn
  obtain ⟨u, hu, hru⟩ := hcs k hlt
  have et : L.take (k + 1) = L.take k ++ [L.getD k []] := by rw [List.take_succ_eq_append_getElem hlt, ← getD_get [] L hlt]
  repeat first | refine ω1 ?_ | refine ω2 ?_ | refine ω3 ?_ | refine ω4 ?_ | refine ω5 ?_ | refine χ1 ?_ | refine κ1 ?_ | refine κ2 ?_ | refine χ2 ?_ | refine κ3 ?_ | refine ω6 ?_ | refine ω7 ?_ | refine ω9 ?_ | refine κ4 ?_ | refine κ7 ?_ | refine κ8 ?_ | refine χ3 ?_ | refine χ4 ?_ | refine κ5 ?_ | refine κ6 ?_ | refine χ5 ?_ | refine χ6 ?_ | refine χ7 ?_ | refine ω8 ?_
  refine ld ((hk1.ext hx2).at rfl) ?_
  repeat first | refine ω1 ?_ | refine ω2 ?_ | refine ω3 ?_ | refine ω4 ?_ | refine ω5 ?_ | refine χ1 ?_ | refine κ1 ?_ | refine κ2 ?_ | refine χ2 ?_ | refine κ3 ?_ | refine ω6 ?_ | refine ω7 ?_ | refine ω9 ?_ | refine κ4 ?_ | refine κ7 ?_ | refine κ8 ?_ | refine χ3 ?_ | refine χ4 ?_ | refine κ5 ?_ | refine κ6 ?_ | refine χ5 ?_ | refine χ6 ?_ | refine χ7 ?_ | refine ω8 ?_
  refine ct ?_ ?_
  · exact decide_eq_true (by omega)
  repeat first | refine ω1 ?_ | refine ω2 ?_ | refine ω3 ?_ | refine ω4 ?_ | refine ω5 ?_ | refine χ1 ?_ | refine κ1 ?_ | refine κ2 ?_ | refine χ2 ?_ | refine κ3 ?_ | refine ω6 ?_ | refine ω7 ?_ | refine ω9 ?_ | refine κ4 ?_ | refine κ7 ?_ | refine κ8 ?_ | refine χ3 ?_ | refine χ4 ?_ | refine κ5 ?_ | refine κ6 ?_ | refine χ5 ?_ | refine χ6 ?_ | refine χ7 ?_ | refine ω8 ?_
  refine ld ((hk1.ext hx2).at rfl) ?_
  repeat first | refine ω1 ?_ | refine ω2 ?_ | refine ω3 ?_ | refine ω4 ?_ | refine ω5 ?_ | refine χ1 ?_ | refine κ1 ?_ | refine κ2 ?_ | refine χ2 ?_ | refine κ3 ?_ | refine ω6 ?_ | refine ω7 ?_ | refine ω9 ?_ | refine κ4 ?_ | refine κ7 ?_ | refine κ8 ?_ | refine χ3 ?_ | refine χ4 ?_ | refine κ5 ?_ | refine κ6 ?_ | refine χ5 ?_ | refine χ6 ?_ | refine χ7 ?_ | refine ω8 ?_
  refine ix k (hrd.ext hx02) hlt ?_
  repeat first | refine ω1 ?_ | refine ω2 ?_ | refine ω3 ?_ | refine ω4 ?_ | refine ω5 ?_ | refine χ1 ?_ | refine κ1 ?_ | refine κ2 ?_ | refine χ2 ?_ | refine κ3 ?_ | refine ω6 ?_ | refine ω7 ?_ | refine ω9 ?_ | refine κ4 ?_ | refine κ7 ?_ | refine κ8 ?_ | refine χ3 ?_ | refine χ4 ?_ | refine κ5 ?_ | refine κ6 ?_ | refine χ5 ?_ | refine χ6 ?_ | refine χ7 ?_ | refine ω8 ?_
  refine ld ((hrd.ext hx02).cell hu) ?_
  repeat first | refine ω1 ?_ | refine ω2 ?_ | refine ω3 ?_ | refine ω4 ?_ | refine ω5 ?_ | refine χ1 ?_ | refine κ1 ?_ | refine κ2 ?_ | refine χ2 ?_ | refine κ3 ?_ | refine ω6 ?_ | refine ω7 ?_ | refine ω9 ?_ | refine κ4 ?_ | refine κ7 ?_ | refine κ8 ?_ | refine χ3 ?_ | refine χ4 ?_ | refine κ5 ?_ | refine κ6 ?_ | refine χ5 ?_ | refine χ6 ?_ | refine χ7 ?_ | refine ω8 ?_
  refine cl (same03_any (hru.ext hx02) (hr.ext (hx1.trans hx2))) ?_
  rintro _ w3 ⟨rfl, hx3⟩
  repeat first | refine ω1 ?_ | refine ω2 ?_ | refine ω3 ?_ | refine ω4 ?_ | refine ω5 ?_ | refine χ1 ?_ | refine κ1 ?_ | refine κ2 ?_ | refine χ2 ?_ | refine κ3 ?_ | refine ω6 ?_ | refine ω7 ?_ | refine ω9 ?_ | refine κ4 ?_ | refine κ7 ?_ | refine κ8 ?_ | refine χ3 ?_ | refine χ4 ?_ | refine κ5 ?_ | refine κ6 ?_ | refine χ5 ?_ | refine χ6 ?_ | refine χ7 ?_ | refine ω8 ?_
  refine ci (fun h => ?_) (fun h => ?_)
  · have he := of_decide_eq_true h
    repeat first | refine ω1 ?_ | refine ω2 ?_ | refine ω3 ?_ | refine ω4 ?_ | refine ω5 ?_ | refine χ1 ?_ | refine κ1 ?_ | refine κ2 ?_ | refine χ2 ?_ | refine κ3 ?_ | refine ω6 ?_ | refine ω7 ?_ | refine ω9 ?_ | refine κ4 ?_ | refine κ7 ?_ | refine κ8 ?_ | refine χ3 ?_ | refine χ4 ?_ | refine κ5 ?_ | refine κ6 ?_ | refine χ5 ?_ | refine χ6 ?_ | refine χ7 ?_ | refine ω8 ?_
    refine cl (of47_any (n := k) (by omega) _) ?_
    rintro v w4 ⟨h1, h2, h3⟩
    repeat first | refine ω1 ?_ | refine ω2 ?_ | refine ω3 ?_ | refine ω4 ?_ | refine ω5 ?_ | refine χ1 ?_ | refine κ1 ?_ | refine κ2 ?_ | refine χ2 ?_ | refine κ3 ?_ | refine ω6 ?_ | refine ω7 ?_ | refine ω9 ?_ | refine κ4 ?_ | refine κ7 ?_ | refine κ8 ?_ | refine χ3 ?_ | refine χ4 ?_ | refine κ5 ?_ | refine κ6 ?_ | refine χ5 ?_ | refine χ6 ?_ | refine χ7 ?_ | refine ω8 ?_
    have hx14 := (hx2.trans hx3).trans h3
    have hsz := ((hx1.trans hx2).trans hx3).size
    have hidx : L.idxOf r = k := by
      have e : L = L.take k ++ L.getD k [] :: L.drop (k + 1) := by
        conv => lhs; rw [← List.take_append_drop k L, List.drop_eq_getElem_cons hlt]
        rw [getD_get [] L hlt]
      rw [e, List.idxOf_append, if_neg hn, he, List.idxOf_cons_self, List.length_take]; omega
    refine fin4 ⟨⟨v, 1, ?_, ?_, Nat.le_refl _⟩, hx1.trans hx14⟩
    · rw [decide_eq_true hm]; rfl
    · show NatX w4 N v (L.idxOf r)
      rw [hidx]
      exact h2.x h1 (fun j hj => Nat.lt_of_lt_of_le (hN j hj) hsz)
  · have he := of_decide_eq_false h
    repeat first | refine ω1 ?_ | refine ω2 ?_ | refine ω3 ?_ | refine ω4 ?_ | refine ω5 ?_ | refine χ1 ?_ | refine κ1 ?_ | refine κ2 ?_ | refine χ2 ?_ | refine κ3 ?_ | refine ω6 ?_ | refine ω7 ?_ | refine ω9 ?_ | refine κ4 ?_ | refine κ7 ?_ | refine κ8 ?_ | refine χ3 ?_ | refine χ4 ?_ | refine κ5 ?_ | refine κ6 ?_ | refine χ5 ?_ | refine χ6 ?_ | refine χ7 ?_ | refine ω8 ?_
    refine qround1 (k + 1) (by repeat' (first | exact Sub.nil | refine Sub.cons rfl ?_)) ⟨hx2.trans hx3, by omega, ?_⟩ (by omega)
    rw [et, List.mem_append, List.mem_singleton]
    rintro (h | h)
    · exact hn h
    · exact he h.symm
/-- the rows of l ahead of a row's place in another list -/
def cntA (A l : List Row) (r : Row) : Nat := cF A l (A.idxOf r)
set_option maxRecDepth 100000 in
theorem cntRank_any {x y z u vr : Value} {L A : List Row} {r : Row} {w0 w : World} (hL : RowsV w0 x L) (hA : RowsV w0 u A) (hx : Ext w0 w) (N : Nat → Prop) (hN : ∀ k, N k → k < w.heap.size) (hr : RowV w vr r) : Ret Try.prog 135 [.agg #[x, y, z, u], vr] w fun v w' => RankX w' N L (cntA A L) 1 r v ∧ Ext w w' := by
  obtain ⟨Aa, ca, rfl, hca, hlm, cs, hrd, hcs⟩ := hA.parts
  obtain ⟨Al, cl', rfl, _⟩ := hL.parts
  refine enterR Try.func135 Try.ntmps135 rfl (by kernel_rfl) rfl ?_
  repeat first | refine ω1 ?_ | refine ω2 ?_ | refine ω3 ?_ | refine ω4 ?_ | refine ω5 ?_ | refine χ1 ?_ | refine κ1 ?_ | refine κ2 ?_ | refine χ2 ?_ | refine κ3 ?_ | refine ω6 ?_ | refine ω7 ?_ | refine ω9 ?_ | refine κ4 ?_ | refine κ7 ?_ | refine κ8 ?_ | refine χ3 ?_ | refine χ4 ?_ | refine κ5 ?_ | refine κ6 ?_ | refine χ5 ?_ | refine χ6 ?_ | refine χ7 ?_ | refine ω8 ?_
  refine bx ?_
  intro w1 b1 hx1 hb1 hk1
  repeat first | refine ω1 ?_ | refine ω2 ?_ | refine ω3 ?_ | refine ω4 ?_ | refine ω5 ?_ | refine χ1 ?_ | refine κ1 ?_ | refine κ2 ?_ | refine χ2 ?_ | refine κ3 ?_ | refine ω6 ?_ | refine ω7 ?_ | refine ω9 ?_ | refine κ4 ?_ | refine κ7 ?_ | refine κ8 ?_ | refine χ3 ?_ | refine χ4 ?_ | refine κ5 ?_ | refine κ6 ?_ | refine χ5 ?_ | refine χ6 ?_ | refine χ7 ?_ | refine ω8 ?_
  refine wloop1 (fun k => [(1, vr), (2, .pointer (some ⟨b1, 0, none⟩)), (8, .int .i64 (cF A L k : Int)), (9, .int .i64 ((k : Nat) : Int))])
    (fun k w' => Ext w1 w' ∧ k ≤ A.length ∧ r ∉ A.take k) (fun k => A.length - k) 0 (by repeat' (first | exact Sub.nil | refine Sub.cons rfl ?_)) ⟨Ext.refl _, Nat.zero_le _, by simp⟩ ?_
  rintro k w2 ⟨hx2, hk, hn⟩
  have hx02 := (hx.trans hx1).trans hx2
  have hk2 := hk1.ext hx2
  have hcf := cd_sum (A := A) (C := L) (i := k) hk
  repeat first | refine ω1 ?_ | refine ω2 ?_ | refine ω3 ?_ | refine ω4 ?_ | refine ω5 ?_ | refine χ1 ?_ | refine κ1 ?_ | refine κ2 ?_ | refine χ2 ?_ | refine κ3 ?_ | refine ω6 ?_ | refine ω7 ?_ | refine ω9 ?_ | refine κ4 ?_ | refine κ7 ?_ | refine κ8 ?_ | refine χ3 ?_ | refine χ4 ?_ | refine κ5 ?_ | refine κ6 ?_ | refine χ5 ?_ | refine χ6 ?_ | refine χ7 ?_ | refine ω8 ?_
  refine ld (hk2.at rfl) ?_
  repeat first | refine ω1 ?_ | refine ω2 ?_ | refine ω3 ?_ | refine ω4 ?_ | refine ω5 ?_ | refine χ1 ?_ | refine κ1 ?_ | refine κ2 ?_ | refine χ2 ?_ | refine κ3 ?_ | refine ω6 ?_ | refine ω7 ?_ | refine ω9 ?_ | refine κ4 ?_ | refine κ7 ?_ | refine κ8 ?_ | refine χ3 ?_ | refine χ4 ?_ | refine κ5 ?_ | refine κ6 ?_ | refine χ5 ?_ | refine χ6 ?_ | refine χ7 ?_ | refine ω8 ?_
  refine wljoin1 (fun (t : Bool) => [(1, vr), (2, .pointer (some ⟨b1, 0, none⟩)), (8, .int .i64 (cF A L k : Int)), (9, .int .i64 ((k : Nat) : Int)), (24, .bool t)])
    (fun t w3 => Ext w2 w3 ∧ t = decide (k < A.length ∧ A.getD k [] ≠ r)) ?_ ?_
  · refine ki 15 (fun h => ?_) (fun h => ?_)
    · have hlt : k < A.length := by have := of_decide_eq_true h; omega
      obtain ⟨v, hv, hrv⟩ := hcs k hlt
      repeat first | refine ω1 ?_ | refine ω2 ?_ | refine ω3 ?_ | refine ω4 ?_ | refine ω5 ?_ | refine χ1 ?_ | refine κ1 ?_ | refine κ2 ?_ | refine χ2 ?_ | refine κ3 ?_ | refine ω6 ?_ | refine ω7 ?_ | refine ω9 ?_ | refine κ4 ?_ | refine κ7 ?_ | refine κ8 ?_ | refine χ3 ?_ | refine χ4 ?_ | refine κ5 ?_ | refine κ6 ?_ | refine χ5 ?_ | refine χ6 ?_ | refine χ7 ?_ | refine ω8 ?_
      refine ld (hk2.at rfl) ?_
      repeat first | refine ω1 ?_ | refine ω2 ?_ | refine ω3 ?_ | refine ω4 ?_ | refine ω5 ?_ | refine χ1 ?_ | refine κ1 ?_ | refine κ2 ?_ | refine χ2 ?_ | refine κ3 ?_ | refine ω6 ?_ | refine ω7 ?_ | refine ω9 ?_ | refine κ4 ?_ | refine κ7 ?_ | refine κ8 ?_ | refine χ3 ?_ | refine χ4 ?_ | refine κ5 ?_ | refine κ6 ?_ | refine χ5 ?_ | refine χ6 ?_ | refine χ7 ?_ | refine ω8 ?_
      refine ix k (hrd.ext hx02) hlt ?_
      repeat first | refine ω1 ?_ | refine ω2 ?_ | refine ω3 ?_ | refine ω4 ?_ | refine ω5 ?_ | refine χ1 ?_ | refine κ1 ?_ | refine κ2 ?_ | refine χ2 ?_ | refine κ3 ?_ | refine ω6 ?_ | refine ω7 ?_ | refine ω9 ?_ | refine κ4 ?_ | refine κ7 ?_ | refine κ8 ?_ | refine χ3 ?_ | refine χ4 ?_ | refine κ5 ?_ | refine κ6 ?_ | refine χ5 ?_ | refine χ6 ?_ | refine χ7 ?_ | refine ω8 ?_
      refine ld ((hrd.ext hx02).cell hv) ?_
      repeat first | refine ω1 ?_ | refine ω2 ?_ | refine ω3 ?_ | refine ω4 ?_ | refine ω5 ?_ | refine χ1 ?_ | refine κ1 ?_ | refine κ2 ?_ | refine χ2 ?_ | refine κ3 ?_ | refine ω6 ?_ | refine ω7 ?_ | refine ω9 ?_ | refine κ4 ?_ | refine κ7 ?_ | refine κ8 ?_ | refine χ3 ?_ | refine χ4 ?_ | refine κ5 ?_ | refine κ6 ?_ | refine χ5 ?_ | refine χ6 ?_ | refine χ7 ?_ | refine ω8 ?_
      refine cl (same03_any (hrv.ext hx02) (hr.ext (hx1.trans hx2))) ?_
      rintro _ w3 ⟨rfl, hx3⟩
      repeat first | refine ω1 ?_ | refine ω2 ?_ | refine ω3 ?_ | refine ω4 ?_ | refine ω5 ?_ | refine χ1 ?_ | refine κ1 ?_ | refine κ2 ?_ | refine χ2 ?_ | refine κ3 ?_ | refine ω6 ?_ | refine ω7 ?_ | refine ω9 ?_ | refine κ4 ?_ | refine κ7 ?_ | refine κ8 ?_ | refine χ3 ?_ | refine χ4 ?_ | refine κ5 ?_ | refine κ6 ?_ | refine χ5 ?_ | refine χ6 ?_ | refine χ7 ?_ | refine ω8 ?_
      refine qjoin1 _ (by repeat' (first | exact Sub.nil | refine Sub.cons rfl ?_)) ⟨hx3, ?_⟩
      rw [Bool.eq_iff_iff]
      simp [hlt]
    · have hlt : ¬ k < A.length := by have := of_decide_eq_false h; omega
      repeat first | refine ω1 ?_ | refine ω2 ?_ | refine ω3 ?_ | refine ω4 ?_ | refine ω5 ?_ | refine χ1 ?_ | refine κ1 ?_ | refine κ2 ?_ | refine χ2 ?_ | refine κ3 ?_ | refine ω6 ?_ | refine ω7 ?_ | refine ω9 ?_ | refine κ4 ?_ | refine κ7 ?_ | refine κ8 ?_ | refine χ3 ?_ | refine χ4 ?_ | refine κ5 ?_ | refine κ6 ?_ | refine χ5 ?_ | refine χ6 ?_ | refine χ7 ?_ | refine ω8 ?_
      exact qjoin1 false (by repeat' (first | exact Sub.nil | refine Sub.cons rfl ?_)) ⟨Ext.refl _, (decide_eq_false (fun h => hlt h.1)).symm⟩
  rintro t w3 ⟨hx3, rfl⟩
  have hx23 := hx2.trans hx3
  have hx03 := (hx.trans hx1).trans hx23
  have hk3 := hk1.ext hx23
  repeat first | refine ω1 ?_ | refine ω2 ?_ | refine ω3 ?_ | refine ω4 ?_ | refine ω5 ?_ | refine χ1 ?_ | refine κ1 ?_ | refine κ2 ?_ | refine χ2 ?_ | refine κ3 ?_ | refine ω6 ?_ | refine ω7 ?_ | refine ω9 ?_ | refine κ4 ?_ | refine κ7 ?_ | refine κ8 ?_ | refine χ3 ?_ | refine χ4 ?_ | refine κ5 ?_ | refine κ6 ?_ | refine χ5 ?_ | refine χ6 ?_ | refine χ7 ?_ | refine ω8 ?_
  refine ci (fun h => ?_) (fun h => ?_)
  · obtain ⟨hlt, hne⟩ := of_decide_eq_true h
    obtain ⟨v, hv, hrv⟩ := hcs k hlt
    have et : A.take (k + 1) = A.take k ++ [A.getD k []] := by rw [List.take_succ_eq_append_getElem hlt, ← getD_get [] A hlt]
    have hnn : r ∉ A.take (k + 1) := by
      rw [et, List.mem_append, List.mem_singleton]
      rintro (h | h)
      · exact hn h
      · exact hne h.symm
    have hxd : Ext w3 w3.drew := (Ext.refl w3).drew
    have hk3d := hk3.ext hxd
    have c0 : w3.drew.cell? (((⟨b1, 0, none⟩ : Addr).add 0).add 0) = some (.slice Al L.length cl') := by rw [add_zero]; exact hk3d.at (i := 0) rfl
    have hx03d := hx03.trans hxd
    repeat first | refine ω1 ?_ | refine ω2 ?_ | refine ω3 ?_ | refine ω4 ?_ | refine ω5 ?_ | refine χ1 ?_ | refine κ1 ?_ | refine κ2 ?_ | refine χ2 ?_ | refine κ3 ?_ | refine ω6 ?_ | refine ω7 ?_ | refine ω9 ?_ | refine κ4 ?_ | refine κ7 ?_ | refine κ8 ?_ | refine χ3 ?_ | refine χ4 ?_ | refine κ5 ?_ | refine κ6 ?_ | refine χ5 ?_ | refine χ6 ?_ | refine χ7 ?_ | refine ω8 ?_
    refine dr [(0, 0), (0, 1), (0, 2), (0, 3), (0, 4), (0, 5), (0, 6), (0, 7), (1, 8)] (by kernel_rfl) ?_
    repeat first | refine δ1 ?_ | refine δ2 ?_ | refine δ4 ?_ | refine δ5 ?_ | refine δ6 ?_ | refine δ7 ?_ | refine δ9 ?_ | refine δ8 ?_ | refine χ1 ?_ | refine χ2 ?_ | refine χ3 ?_ | refine χ4 ?_ | refine χ5 ?_ | refine χ6 ?_ | refine χ7 ?_
    refine dld c0 ?_
    repeat first | refine δ1 ?_ | refine δ2 ?_ | refine δ4 ?_ | refine δ5 ?_ | refine δ6 ?_ | refine δ7 ?_ | refine δ9 ?_ | refine δ8 ?_ | refine χ1 ?_ | refine χ2 ?_ | refine χ3 ?_ | refine χ4 ?_ | refine χ5 ?_ | refine χ6 ?_ | refine χ7 ?_
    refine dld (hk3d.at rfl) ?_
    repeat first | refine δ1 ?_ | refine δ2 ?_ | refine δ4 ?_ | refine δ5 ?_ | refine δ6 ?_ | refine δ7 ?_ | refine δ9 ?_ | refine δ8 ?_ | refine χ1 ?_ | refine χ2 ?_ | refine χ3 ?_ | refine χ4 ?_ | refine χ5 ?_ | refine χ6 ?_ | refine χ7 ?_
    refine dix k (hrd.ext hx03d) hlt ?_
    repeat first | refine δ1 ?_ | refine δ2 ?_ | refine δ4 ?_ | refine δ5 ?_ | refine δ6 ?_ | refine δ7 ?_ | refine δ9 ?_ | refine δ8 ?_ | refine χ1 ?_ | refine χ2 ?_ | refine χ3 ?_ | refine χ4 ?_ | refine χ5 ?_ | refine χ6 ?_ | refine χ7 ?_
    refine dld ((hrd.ext hx03d).cell hv) ?_
    repeat first | refine δ1 ?_ | refine δ2 ?_ | refine δ4 ?_ | refine δ5 ?_ | refine δ6 ?_ | refine δ7 ?_ | refine δ9 ?_ | refine δ8 ?_ | refine χ1 ?_ | refine χ2 ?_ | refine χ3 ?_ | refine χ4 ?_ | refine χ5 ?_ | refine χ6 ?_ | refine χ7 ?_
    refine dcl (has_any (hL.ext hx03d) (hrv.ext hx03d)) ?_
    rintro _ w4 ⟨rfl, hx4⟩
    refine ⟨hx4, ?_⟩
    have hx14 := (hx23.trans hxd).trans hx4
    have hs := cF_succ (C := L) hlt
    repeat first | refine δ1 ?_ | refine δ2 ?_ | refine δ4 ?_ | refine δ5 ?_ | refine δ6 ?_ | refine δ7 ?_ | refine δ9 ?_ | refine δ8 ?_ | refine χ1 ?_ | refine χ2 ?_ | refine χ3 ?_ | refine χ4 ?_ | refine χ5 ?_ | refine χ6 ?_ | refine χ7 ?_
    refine ci (fun h => ?_) (fun h => ?_)
    · repeat first | refine ω1 ?_ | refine ω2 ?_ | refine ω3 ?_ | refine ω4 ?_ | refine ω5 ?_ | refine χ1 ?_ | refine κ1 ?_ | refine κ2 ?_ | refine χ2 ?_ | refine κ3 ?_ | refine ω6 ?_ | refine ω7 ?_ | refine ω9 ?_ | refine κ4 ?_ | refine κ7 ?_ | refine κ8 ?_ | refine χ3 ?_ | refine χ4 ?_ | refine κ5 ?_ | refine κ6 ?_ | refine χ5 ?_ | refine χ6 ?_ | refine χ7 ?_ | refine ω8 ?_
      refine qround1 (k + 1) ?_ ⟨hx14, by omega, hnn⟩ (by omega)
      rw [hs, if_pos (of_decide_eq_true h)]
      exact (by repeat' (first | exact Sub.nil | refine Sub.cons rfl ?_))
    · repeat first | refine ω1 ?_ | refine ω2 ?_ | refine ω3 ?_ | refine ω4 ?_ | refine ω5 ?_ | refine χ1 ?_ | refine κ1 ?_ | refine κ2 ?_ | refine χ2 ?_ | refine κ3 ?_ | refine ω6 ?_ | refine ω7 ?_ | refine ω9 ?_ | refine κ4 ?_ | refine κ7 ?_ | refine κ8 ?_ | refine χ3 ?_ | refine χ4 ?_ | refine κ5 ?_ | refine κ6 ?_ | refine χ5 ?_ | refine χ6 ?_ | refine χ7 ?_ | refine ω8 ?_
      refine qround1 (k + 1) ?_ ⟨hx14, by omega, hnn⟩ (by omega)
      rw [hs, if_neg (of_decide_eq_false h)]
      exact (by repeat' (first | exact Sub.nil | refine Sub.cons rfl ?_))
  · have hst := of_decide_eq_false h
    have hidx : cF A L (A.idxOf r) = cF A L k := by
      by_cases hlt : k < A.length
      · have he : A.getD k [] = r := Classical.byContradiction fun hne => hst ⟨hlt, hne⟩
        have e : A = A.take k ++ A.getD k [] :: A.drop (k + 1) := by
          conv => lhs; rw [← List.take_append_drop k A, List.drop_eq_getElem_cons hlt]
          rw [getD_get [] A hlt]
        have : A.idxOf r = k := by
          rw [e, List.idxOf_append, if_neg hn, he, List.idxOf_cons_self, List.length_take]; omega
        rw [this]
      · have hkn : k = A.length := by omega
        subst hkn
        rw [List.take_length] at hn
        have : A.idxOf r = A.length := List.idxOf_eq_length hn
        rw [this]
    have hxd : Ext w3 w3.drew := (Ext.refl w3).drew
    have hk3d := hk3.ext hxd
    have c0 : w3.drew.cell? (((⟨b1, 0, none⟩ : Addr).add 0).add 0) = some (.slice Al L.length cl') := by rw [add_zero]; exact hk3d.at (i := 0) rfl
    have hx03d := hx03.trans hxd
    repeat first | refine ω1 ?_ | refine ω2 ?_ | refine ω3 ?_ | refine ω4 ?_ | refine ω5 ?_ | refine χ1 ?_ | refine κ1 ?_ | refine κ2 ?_ | refine χ2 ?_ | refine κ3 ?_ | refine ω6 ?_ | refine ω7 ?_ | refine ω9 ?_ | refine κ4 ?_ | refine κ7 ?_ | refine κ8 ?_ | refine χ3 ?_ | refine χ4 ?_ | refine κ5 ?_ | refine κ6 ?_ | refine χ5 ?_ | refine χ6 ?_ | refine χ7 ?_ | refine ω8 ?_
    refine dr [(0, 0), (0, 2), (0, 3), (0, 4), (0, 5), (1, 1), (1, 6), (0, 7), (0, 8), (0, 9), (0, 10)] (by kernel_rfl) ?_
    repeat first | refine δ1 ?_ | refine δ2 ?_ | refine δ4 ?_ | refine δ5 ?_ | refine δ6 ?_ | refine δ7 ?_ | refine δ9 ?_ | refine δ8 ?_ | refine χ1 ?_ | refine χ2 ?_ | refine χ3 ?_ | refine χ4 ?_ | refine χ5 ?_ | refine χ6 ?_ | refine χ7 ?_
    refine dld c0 ?_
    repeat first | refine δ1 ?_ | refine δ2 ?_ | refine δ4 ?_ | refine δ5 ?_ | refine δ6 ?_ | refine δ7 ?_ | refine δ9 ?_ | refine δ8 ?_ | refine χ1 ?_ | refine χ2 ?_ | refine χ3 ?_ | refine χ4 ?_ | refine χ5 ?_ | refine χ6 ?_ | refine χ7 ?_
    refine dcl (of47_any (n := cF A L k) (by omega) _) ?_
    rintro v w4 ⟨h1, h2, hx4⟩
    refine ⟨hx4, ?_⟩
    have hx1d := (hx1.trans hx23).trans hxd
    repeat first | refine δ1 ?_ | refine δ2 ?_ | refine δ4 ?_ | refine δ5 ?_ | refine δ6 ?_ | refine δ7 ?_ | refine δ9 ?_ | refine δ8 ?_ | refine χ1 ?_ | refine χ2 ?_ | refine χ3 ?_ | refine χ4 ?_ | refine χ5 ?_ | refine χ6 ?_ | refine χ7 ?_
    refine dcl (has_any (hL.ext (hx03d.trans hx4)) (hr.ext (hx1d.trans hx4))) ?_
    rintro _ w5 ⟨rfl, hx5⟩
    refine ⟨hx5, ?_⟩
    repeat first | refine δ1 ?_ | refine δ2 ?_ | refine δ4 ?_ | refine δ5 ?_ | refine δ6 ?_ | refine δ7 ?_ | refine δ9 ?_ | refine δ8 ?_ | refine χ1 ?_ | refine χ2 ?_ | refine χ3 ?_ | refine χ4 ?_ | refine χ5 ?_ | refine χ6 ?_ | refine χ7 ?_
    repeat first | refine ω1 ?_ | refine ω2 ?_ | refine ω3 ?_ | refine ω4 ?_ | refine ω5 ?_ | refine χ1 ?_ | refine κ1 ?_ | refine κ2 ?_ | refine χ2 ?_ | refine κ3 ?_ | refine ω6 ?_ | refine ω7 ?_ | refine ω9 ?_ | refine κ4 ?_ | refine κ7 ?_ | refine κ8 ?_ | refine χ3 ?_ | refine χ4 ?_ | refine κ5 ?_ | refine κ6 ?_ | refine χ5 ?_ | refine χ6 ?_ | refine χ7 ?_ | refine ω8 ?_
    refine fin4 ⟨⟨v, 1, rfl, ?_, Nat.le_refl _⟩, (hx1d.trans hx4).trans hx5⟩
    unfold cntA
    rw [hidx]
    exact (h2.x h1 (fun j hj => Nat.lt_of_lt_of_le (hN j hj) hx1d.size)).ext hx5
end Go.Proofs.Ytpahjnfolbnloaa
/- Lists as arrays of a difference. -/
set_option linter.unusedVariables false
namespace Go.Proofs.Ytpahjnfolbnloaa
open Go.RowKit Pl Go.Wk
attribute [local irreducible] WC WL QX WD WDB WP WG
theorem listO {w : World} {x y z : Value} {L : List Row} (h : RowsV w x L) : ArrO w (.iface 75 (.agg #[x, y, z])) L (fun r => L.idxOf r) 1 (fun r => r ∈ L) := by
  obtain ⟨_, _, _, _, hm, _⟩ := h.parts
  exact ⟨⟨_, _, mListLen _ _ _, fun w' hx => listLen_any (h.ext hx)⟩,
    ⟨_, _, mListAt _ _ _, fun w' hx N hN k vk hk hkb => listAt_any h hx N (fun k hk => (hN k hk).1) hk hkb⟩,
    ⟨_, _, mListRank _ _ _, fun w' hx N hN r vr hS hr => listRank_any h hx N (fun k hk => (hN k hk).2) hr hS⟩, hm, fun r hr => Nat.le_of_lt (List.idxOf_lt_length_of_mem hr), by omega⟩
theorem cntO {w : World} {x y z u : Value} {L A : List Row} (h : RowsV w x L) (hA : RowsV w u A) (hle : cF A L A.length ≤ L.length) : ArrO w (.iface 78 (.agg #[x, y, z, u])) L (cntA A L) 1 (fun _ => True) := by
  obtain ⟨_, _, _, _, hm, _⟩ := h.parts
  exact ⟨⟨_, _, mCntLen _ _ _ _, fun w' hx => listLen_any (h.ext hx)⟩,
    ⟨_, _, mCntAt _ _ _ _, fun w' hx N hN k vk hk hkb => listAt_any h hx N (fun k hk => (hN k hk).1) hk hkb⟩,
    ⟨_, _, mCntRank _ _ _ _, fun w' hx N hN r vr _ hr => cntRank_any h hA hx N (fun k hk => (hN k hk).2) hr⟩, hm, fun r _ => Nat.le_trans (cF_mono List.idxOf_le_length) hle, by omega⟩
/-- the place of a member -/
theorem idx_at {A : List Row} (hn : A.Nodup) {i : Nat} (hi : i < A.length) : A.idxOf (A.getD i []) = i := by
  rw [getD_get [] A hi]
  exact List.Nodup.idxOf_getElem hn i hi
theorem list_H {A : List Row} (hn : A.Nodup) (q : Row → Bool) : DifH A (A.filter q) (cntA A (A.filter q)) := by
  refine ⟨fun i hi => ?_, ?_⟩
  · unfold cntA; rw [idx_at hn hi]
  · rw [filt_cF, List.take_length]
theorem bsCols (w : World) : (Instr.buildSlice 73 2 #[(0, .int .i64 0), (1, .int .i64 1)]).run Try.prog w = .ok (.slice (some ⟨w.heap.size, 0, none⟩) 2 2) (w.alloc (.cells [Value.int .i64 0, .int .i64 1].toArray 3)) := by kernel_rfl
theorem bldList (x y : Value) (A : Option Addr) (n c b : Nat) (hx : x = .slice A n c) (hy : y = .slice (some ⟨b, 0, none⟩) 2 2) (w : World) : (Instr.build 75 #[(0, x), (1, y)]).run Try.prog w = .ok (.agg #[x, y, .slice none 0 0]) w := by subst hx; subst hy; kernel_rfl
theorem zList : zeroOf Try.prog 75 = some (.agg #[.slice none 0 0, .slice none 0 0, .slice none 0 0]) := by kernel_rfl
set_option maxRecDepth 100000 in
theorem ascending_any {A : Option Addr} {n c : Nat} {w : World} : Ret Try.prog 39 [.slice A n c] w fun x w' => (∃ b, x = .agg #[.slice A n c, .slice (some ⟨b, 0, none⟩) 2 2, .slice none 0 0]) ∧ Ext w w' := by
  refine enterR Try.func39 Try.ntmps39 rfl (by kernel_rfl) rfl ?_
  repeat first | refine ω1 ?_ | refine ω2 ?_ | refine ω3 ?_ | refine ω4 ?_ | refine ω5 ?_ | refine χ1 ?_ | refine κ1 ?_ | refine κ2 ?_ | refine χ2 ?_ | refine κ3 ?_ | refine ω6 ?_ | refine ω7 ?_ | refine ω9 ?_ | refine κ4 ?_ | refine κ7 ?_ | refine κ8 ?_ | refine χ3 ?_ | refine χ4 ?_ | refine κ5 ?_ | refine κ6 ?_ | refine χ5 ?_ | refine χ6 ?_ | refine χ7 ?_ | refine ω8 ?_
  refine alc zList ?_
  intro w1 b hx1 hb1 hk1
  repeat first | refine ω1 ?_ | refine ω2 ?_ | refine ω3 ?_ | refine ω4 ?_ | refine ω5 ?_ | refine χ1 ?_ | refine κ1 ?_ | refine κ2 ?_ | refine χ2 ?_ | refine κ3 ?_ | refine ω6 ?_ | refine ω7 ?_ | refine ω9 ?_ | refine κ4 ?_ | refine κ7 ?_ | refine κ8 ?_ | refine χ3 ?_ | refine χ4 ?_ | refine κ5 ?_ | refine κ6 ?_ | refine χ5 ?_ | refine χ6 ?_ | refine χ7 ?_ | refine ω8 ?_
  refine bsl bsCols ?_
  intro w2 b2 hx2 hb2 hk2
  repeat first | refine ω1 ?_ | refine ω2 ?_ | refine ω3 ?_ | refine ω4 ?_ | refine ω5 ?_ | refine χ1 ?_ | refine κ1 ?_ | refine κ2 ?_ | refine χ2 ?_ | refine κ3 ?_ | refine ω6 ?_ | refine ω7 ?_ | refine ω9 ?_ | refine κ4 ?_ | refine κ7 ?_ | refine κ8 ?_ | refine χ3 ?_ | refine χ4 ?_ | refine κ5 ?_ | refine κ6 ?_ | refine χ5 ?_ | refine χ6 ?_ | refine χ7 ?_ | refine ω8 ?_
  refine bld (bldList _ _ _ _ _ _ rfl rfl _) ?_
  repeat first | refine ω1 ?_ | refine ω2 ?_ | refine ω3 ?_ | refine ω4 ?_ | refine ω5 ?_ | refine χ1 ?_ | refine κ1 ?_ | refine κ2 ?_ | refine χ2 ?_ | refine κ3 ?_ | refine ω6 ?_ | refine ω7 ?_ | refine ω9 ?_ | refine κ4 ?_ | refine κ7 ?_ | refine κ8 ?_ | refine χ3 ?_ | refine χ4 ?_ | refine κ5 ?_ | refine κ6 ?_ | refine χ5 ?_ | refine χ6 ?_ | refine χ7 ?_ | refine ω8 ?_
  refine stb (hk1.ext hx2) (cs' := [.slice A n c, .slice (some ⟨b2, 0, none⟩) 2 2, .slice none 0 0]) ?_ (fun u hu => by simp at hu; rcases hu with rfl | rfl | rfl <;> rfl)
  intro w3 hk3 hg3 hx3
  repeat first | refine ω1 ?_ | refine ω2 ?_ | refine ω3 ?_ | refine ω4 ?_ | refine ω5 ?_ | refine χ1 ?_ | refine κ1 ?_ | refine κ2 ?_ | refine χ2 ?_ | refine κ3 ?_ | refine ω6 ?_ | refine ω7 ?_ | refine ω9 ?_ | refine κ4 ?_ | refine κ7 ?_ | refine κ8 ?_ | refine χ3 ?_ | refine χ4 ?_ | refine κ5 ?_ | refine κ6 ?_ | refine χ5 ?_ | refine χ6 ?_ | refine χ7 ?_ | refine ω8 ?_
  exact finC1 hk3 ⟨⟨b2, rfl⟩, hx3 w (hx1.trans hx2) hb1⟩
end Go.Proofs.Ytpahjnfolbnloaa
