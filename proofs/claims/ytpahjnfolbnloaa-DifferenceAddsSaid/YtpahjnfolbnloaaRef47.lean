/- References of chapter 47: Compare, Has, Minus, Both, Sort. -/
import Derived.Test.YtpahjnfolbnloaaRef03
import Derived.Test.YtpahjnfolbnloaaRef43
set_option linter.unusedVariables false
namespace Go.Proofs.Ytpahjnfolbnloaa
open Go.RowKit Pl Go.Wk
attribute [local irreducible] WC WL QX WD WDB WP
set_option maxRecDepth 100000 in
theorem cmp47_any {va vb vd : Value} {a b : Row} {ds : List Bool} {w : World} (ha : RowV w va a) (hb : RowV w vb b) (hd : BoolsV w vd ds) :
    Ret Try.prog 36 [va, vb, .slice none 0 0, vd] w fun r w' => r = .int .i64 (cmpR a b ds) ∧ Ext w w' := by
  refine enterR Try.func36 Try.ntmps36 rfl (by kernel_rfl) rfl ?_
  repeat first | refine ω1 ?_ | refine ω2 ?_ | refine ω3 ?_ | refine ω4 ?_ | refine ω5 ?_ | refine χ1 ?_ | refine κ1 ?_ | refine κ2 ?_ | refine χ2 ?_ | refine κ3 ?_ | refine ω6 ?_ | refine ω7 ?_ | refine ω9 ?_ | refine κ4 ?_ | refine κ7 ?_ | refine κ8 ?_ | refine χ3 ?_ | refine χ4 ?_ | refine κ5 ?_ | refine κ6 ?_ | refine χ5 ?_ | refine χ6 ?_ | refine χ7 ?_ | refine ω8 ?_
  refine snil ?_
  repeat first | refine ω1 ?_ | refine ω2 ?_ | refine ω3 ?_ | refine ω4 ?_ | refine ω5 ?_ | refine χ1 ?_ | refine κ1 ?_ | refine κ2 ?_ | refine χ2 ?_ | refine κ3 ?_ | refine ω6 ?_ | refine ω7 ?_ | refine ω9 ?_ | refine κ4 ?_ | refine κ7 ?_ | refine κ8 ?_ | refine χ3 ?_ | refine χ4 ?_ | refine κ5 ?_ | refine κ6 ?_ | refine χ5 ?_ | refine χ6 ?_ | refine χ7 ?_ | refine ω8 ?_
  refine cl (refCmpRows_any ha hb hd) ?_
  rintro x w1 ⟨rfl, hx⟩
  repeat first | refine ω1 ?_ | refine ω2 ?_ | refine ω3 ?_ | refine ω4 ?_ | refine ω5 ?_ | refine χ1 ?_ | refine κ1 ?_ | refine κ2 ?_ | refine χ2 ?_ | refine κ3 ?_ | refine ω6 ?_ | refine ω7 ?_ | refine ω9 ?_ | refine κ4 ?_ | refine κ7 ?_ | refine κ8 ?_ | refine χ3 ?_ | refine χ4 ?_ | refine κ5 ?_ | refine κ6 ?_ | refine χ5 ?_ | refine χ6 ?_ | refine χ7 ?_ | refine ω8 ?_
  exact fin1 ⟨rfl, hx⟩
set_option maxRecDepth 100000 in
theorem has_any {v vr : Value} {l : List Row} {r : Row} {w : World} (hl : RowsV w v l) (hr : RowV w vr r) : Ret Try.prog 37 [v, vr] w fun x w' => x = .bool (decide (r ∈ l)) ∧ Ext w w' := by
  obtain ⟨A, c, rfl, hc, hm, cs, hrd, hcs⟩ := hl.parts
  refine enterR Try.func37 Try.ntmps37 rfl (by kernel_rfl) rfl ?_
  repeat first | refine ω1 ?_ | refine ω2 ?_ | refine ω3 ?_ | refine ω4 ?_ | refine ω5 ?_ | refine χ1 ?_ | refine κ1 ?_ | refine κ2 ?_ | refine χ2 ?_ | refine κ3 ?_ | refine ω6 ?_ | refine ω7 ?_ | refine ω9 ?_ | refine κ4 ?_ | refine κ7 ?_ | refine κ8 ?_ | refine χ3 ?_ | refine χ4 ?_ | refine κ5 ?_ | refine κ6 ?_ | refine χ5 ?_ | refine χ6 ?_ | refine χ7 ?_ | refine ω8 ?_
  refine wloop1 (fun k => [(0, .slice A l.length c), (1, vr), (5, .int .i64 ((k : Nat) : Int))])
    (fun k w' => Ext w w' ∧ k ≤ l.length ∧ r ∉ l.take k) (fun k => l.length - k) 0 (by repeat' (first | exact Sub.nil | refine Sub.cons rfl ?_)) ⟨Ext.refl w, Nat.zero_le _, by simp⟩ ?_
  rintro k w1 ⟨hx1, hk, hn⟩
  repeat first | refine ω1 ?_ | refine ω2 ?_ | refine ω3 ?_ | refine ω4 ?_ | refine ω5 ?_ | refine χ1 ?_ | refine κ1 ?_ | refine κ2 ?_ | refine χ2 ?_ | refine κ3 ?_ | refine ω6 ?_ | refine ω7 ?_ | refine ω9 ?_ | refine κ4 ?_ | refine κ7 ?_ | refine κ8 ?_ | refine χ3 ?_ | refine χ4 ?_ | refine κ5 ?_ | refine κ6 ?_ | refine χ5 ?_ | refine χ6 ?_ | refine χ7 ?_ | refine ω8 ?_
  refine ci (fun h => ?_) (fun h => ?_)
  · have hlt : k < l.length := by have := of_decide_eq_true h; omega
    obtain ⟨u, hu, hru⟩ := hcs k hlt
    repeat first | refine ω1 ?_ | refine ω2 ?_ | refine ω3 ?_ | refine ω4 ?_ | refine ω5 ?_ | refine χ1 ?_ | refine κ1 ?_ | refine κ2 ?_ | refine χ2 ?_ | refine κ3 ?_ | refine ω6 ?_ | refine ω7 ?_ | refine ω9 ?_ | refine κ4 ?_ | refine κ7 ?_ | refine κ8 ?_ | refine χ3 ?_ | refine χ4 ?_ | refine κ5 ?_ | refine κ6 ?_ | refine χ5 ?_ | refine χ6 ?_ | refine χ7 ?_ | refine ω8 ?_
    refine ix k (hrd.ext hx1) hlt ?_
    repeat first | refine ω1 ?_ | refine ω2 ?_ | refine ω3 ?_ | refine ω4 ?_ | refine ω5 ?_ | refine χ1 ?_ | refine κ1 ?_ | refine κ2 ?_ | refine χ2 ?_ | refine κ3 ?_ | refine ω6 ?_ | refine ω7 ?_ | refine ω9 ?_ | refine κ4 ?_ | refine κ7 ?_ | refine κ8 ?_ | refine χ3 ?_ | refine χ4 ?_ | refine κ5 ?_ | refine κ6 ?_ | refine χ5 ?_ | refine χ6 ?_ | refine χ7 ?_ | refine ω8 ?_
    refine ld ((hrd.ext hx1).cell hu) ?_
    repeat first | refine ω1 ?_ | refine ω2 ?_ | refine ω3 ?_ | refine ω4 ?_ | refine ω5 ?_ | refine χ1 ?_ | refine κ1 ?_ | refine κ2 ?_ | refine χ2 ?_ | refine κ3 ?_ | refine ω6 ?_ | refine ω7 ?_ | refine ω9 ?_ | refine κ4 ?_ | refine κ7 ?_ | refine κ8 ?_ | refine χ3 ?_ | refine χ4 ?_ | refine κ5 ?_ | refine κ6 ?_ | refine χ5 ?_ | refine χ6 ?_ | refine χ7 ?_ | refine ω8 ?_
    refine cl (same03_any (hru.ext hx1) (hr.ext hx1)) ?_
    rintro x w2 ⟨rfl, hx2⟩
    repeat first | refine ω1 ?_ | refine ω2 ?_ | refine ω3 ?_ | refine ω4 ?_ | refine ω5 ?_ | refine χ1 ?_ | refine κ1 ?_ | refine κ2 ?_ | refine χ2 ?_ | refine κ3 ?_ | refine ω6 ?_ | refine ω7 ?_ | refine ω9 ?_ | refine κ4 ?_ | refine κ7 ?_ | refine κ8 ?_ | refine χ3 ?_ | refine χ4 ?_ | refine κ5 ?_ | refine κ6 ?_ | refine χ5 ?_ | refine χ6 ?_ | refine χ7 ?_ | refine ω8 ?_
    refine ci (fun h => ?_) (fun h => ?_)
    · have he := of_decide_eq_true h
      repeat first | refine ω1 ?_ | refine ω2 ?_ | refine ω3 ?_ | refine ω4 ?_ | refine ω5 ?_ | refine χ1 ?_ | refine κ1 ?_ | refine κ2 ?_ | refine χ2 ?_ | refine κ3 ?_ | refine ω6 ?_ | refine ω7 ?_ | refine ω9 ?_ | refine κ4 ?_ | refine κ7 ?_ | refine κ8 ?_ | refine χ3 ?_ | refine χ4 ?_ | refine κ5 ?_ | refine κ6 ?_ | refine χ5 ?_ | refine χ6 ?_ | refine χ7 ?_ | refine ω8 ?_
      refine fin1 ⟨?_, hx1.trans hx2⟩
      rw [decide_eq_true (he ▸ getD_mem' [] l hlt)]
    · have he := of_decide_eq_false h
      repeat first | refine ω1 ?_ | refine ω2 ?_ | refine ω3 ?_ | refine ω4 ?_ | refine ω5 ?_ | refine χ1 ?_ | refine κ1 ?_ | refine κ2 ?_ | refine χ2 ?_ | refine κ3 ?_ | refine ω6 ?_ | refine ω7 ?_ | refine ω9 ?_ | refine κ4 ?_ | refine κ7 ?_ | refine κ8 ?_ | refine χ3 ?_ | refine χ4 ?_ | refine κ5 ?_ | refine κ6 ?_ | refine χ5 ?_ | refine χ6 ?_ | refine χ7 ?_ | refine ω8 ?_
      refine qround1 (k + 1) (by repeat' (first | exact Sub.nil | refine Sub.cons rfl ?_)) ⟨hx1.trans hx2, by omega, ?_⟩ (by omega)
      rw [List.take_succ_eq_append_getElem hlt, ← getD_get [] l hlt, List.mem_append, List.mem_singleton]
      rintro (h | h)
      · exact hn h
      · exact he h.symm
  · have hkn : k = l.length := by have := of_decide_eq_false h; omega
    subst hkn
    repeat first | refine ω1 ?_ | refine ω2 ?_ | refine ω3 ?_ | refine ω4 ?_ | refine ω5 ?_ | refine χ1 ?_ | refine κ1 ?_ | refine κ2 ?_ | refine χ2 ?_ | refine κ3 ?_ | refine ω6 ?_ | refine ω7 ?_ | refine ω9 ?_ | refine κ4 ?_ | refine κ7 ?_ | refine κ8 ?_ | refine χ3 ?_ | refine χ4 ?_ | refine κ5 ?_ | refine κ6 ?_ | refine χ5 ?_ | refine χ6 ?_ | refine χ7 ?_ | refine ω8 ?_
    refine fin1 ⟨?_, hx1⟩
    rw [List.take_length] at hn
    rw [decide_eq_false hn]
set_option maxRecDepth 100000 in
theorem minus47_any {v u : Value} {l m : List Row} {w : World} (hl : RowsV w v l) (hu : RowsV w u m) : Ret Try.prog 33 [v, u] w fun x w' => RowsV w' x (l.filter (fun r => !decide (r ∈ m))) ∧ Ext w w' := by
  obtain ⟨ps, A, c, rfl, rfl, h3, h4, h5, h6⟩ := id hl
  refine enterR Try.func33 Try.ntmps33 rfl (by kernel_rfl) rfl ?_
  repeat first | refine ω1 ?_ | refine ω2 ?_ | refine ω3 ?_ | refine ω4 ?_ | refine ω5 ?_ | refine χ1 ?_ | refine κ1 ?_ | refine κ2 ?_ | refine χ2 ?_ | refine κ3 ?_ | refine ω6 ?_ | refine ω7 ?_ | refine ω9 ?_ | refine κ4 ?_ | refine κ7 ?_ | refine κ8 ?_ | refine χ3 ?_ | refine χ4 ?_ | refine κ5 ?_ | refine κ6 ?_ | refine χ5 ?_ | refine χ6 ?_ | refine χ7 ?_ | refine ω8 ?_
  refine wloop3 (fun (k : Nat) (v5 : Value) (qs : List Pr) => [(0, .slice A ps.length c), (1, u), (5, v5), (6, .int .i64 ((k : Nat) : Int))])
    (fun k v5 qs w' => Ext w w' ∧ k ≤ ps.length ∧ w'.ownsRow w.heap.size 25 1 v5 qs.length (qs.map (·.1)) ∧ qs = (ps.take k).filter (fun p => !decide (p.2 ∈ m))) (fun k _ _ => ps.length - k) 0 (.slice none 0 0) [] (by repeat' (first | exact Sub.nil | refine Sub.cons rfl ?_))
    ⟨Ext.refl w, Nat.zero_le _, own_nil _ _ _ _, by simp⟩ ?_
  rintro k v5 qs w1 ⟨hx1, hk, ho1, hq1⟩
  repeat first | refine ω1 ?_ | refine ω2 ?_ | refine ω3 ?_ | refine ω4 ?_ | refine ω5 ?_ | refine χ1 ?_ | refine κ1 ?_ | refine κ2 ?_ | refine χ2 ?_ | refine κ3 ?_ | refine ω6 ?_ | refine ω7 ?_ | refine ω9 ?_ | refine κ4 ?_ | refine κ7 ?_ | refine κ8 ?_ | refine χ3 ?_ | refine χ4 ?_ | refine κ5 ?_ | refine κ6 ?_ | refine χ5 ?_ | refine χ6 ?_ | refine χ7 ?_ | refine ω8 ?_
  refine ci (fun h => ?_) (fun h => ?_)
  · have hlt : k < ps.length := by have := of_decide_eq_true h; omega
    have hrk := h6 _ (getD_mem' z0 ps hlt)
    have et : ps.take (k + 1) = ps.take k ++ [ps.getD k z0] := by rw [List.take_succ_eq_append_getElem hlt, ← getD_get z0 ps hlt]
    have hql : qs.length ≤ k := by rw [hq1]; exact Nat.le_trans (List.length_filter_le _ _) (by simp; omega)
    repeat first | refine ω1 ?_ | refine ω2 ?_ | refine ω3 ?_ | refine ω4 ?_ | refine ω5 ?_ | refine χ1 ?_ | refine κ1 ?_ | refine κ2 ?_ | refine χ2 ?_ | refine κ3 ?_ | refine ω6 ?_ | refine ω7 ?_ | refine ω9 ?_ | refine κ4 ?_ | refine κ7 ?_ | refine κ8 ?_ | refine χ3 ?_ | refine χ4 ?_ | refine κ5 ?_ | refine κ6 ?_ | refine χ5 ?_ | refine χ6 ?_ | refine χ7 ?_ | refine ω8 ?_
    refine ix k (h5.ext hx1) hlt ?_
    repeat first | refine ω1 ?_ | refine ω2 ?_ | refine ω3 ?_ | refine ω4 ?_ | refine ω5 ?_ | refine χ1 ?_ | refine κ1 ?_ | refine κ2 ?_ | refine χ2 ?_ | refine κ3 ?_ | refine ω6 ?_ | refine ω7 ?_ | refine ω9 ?_ | refine κ4 ?_ | refine κ7 ?_ | refine κ8 ?_ | refine χ3 ?_ | refine χ4 ?_ | refine κ5 ?_ | refine κ6 ?_ | refine χ5 ?_ | refine χ6 ?_ | refine χ7 ?_ | refine ω8 ?_
    refine ld ((h5.ext hx1).cell (ps_get hlt)) ?_
    repeat first | refine ω1 ?_ | refine ω2 ?_ | refine ω3 ?_ | refine ω4 ?_ | refine ω5 ?_ | refine χ1 ?_ | refine κ1 ?_ | refine κ2 ?_ | refine χ2 ?_ | refine κ3 ?_ | refine ω6 ?_ | refine ω7 ?_ | refine ω9 ?_ | refine κ4 ?_ | refine κ7 ?_ | refine κ8 ?_ | refine χ3 ?_ | refine χ4 ?_ | refine κ5 ?_ | refine κ6 ?_ | refine χ5 ?_ | refine χ6 ?_ | refine χ7 ?_ | refine ω8 ?_
    refine cl (has_any (hu.ext hx1) (hrk.ext hx1)) ?_
    rintro x w2 ⟨rfl, hx2⟩
    have hx12 := hx1.trans hx2
    repeat first | refine ω1 ?_ | refine ω2 ?_ | refine ω3 ?_ | refine ω4 ?_ | refine ω5 ?_ | refine χ1 ?_ | refine κ1 ?_ | refine κ2 ?_ | refine χ2 ?_ | refine κ3 ?_ | refine ω6 ?_ | refine ω7 ?_ | refine ω9 ?_ | refine κ4 ?_ | refine κ7 ?_ | refine κ8 ?_ | refine χ3 ?_ | refine χ4 ?_ | refine κ5 ?_ | refine κ6 ?_ | refine χ5 ?_ | refine χ6 ?_ | refine χ7 ?_ | refine ω8 ?_
    refine ci (fun h => ?_) (fun h => ?_)
    · obtain ⟨B, bc, hvr, _⟩ := id hrk
      repeat first | refine ω1 ?_ | refine ω2 ?_ | refine ω3 ?_ | refine ω4 ?_ | refine ω5 ?_ | refine χ1 ?_ | refine κ1 ?_ | refine κ2 ?_ | refine χ2 ?_ | refine κ3 ?_ | refine ω6 ?_ | refine ω7 ?_ | refine ω9 ?_ | refine κ4 ?_ | refine κ7 ?_ | refine κ8 ?_ | refine χ3 ?_ | refine χ4 ?_ | refine κ5 ?_ | refine κ6 ?_ | refine χ5 ?_ | refine χ6 ?_ | refine χ7 ?_ | refine ω8 ?_
      refine ix k (h5.ext hx12) hlt ?_
      repeat first | refine ω1 ?_ | refine ω2 ?_ | refine ω3 ?_ | refine ω4 ?_ | refine ω5 ?_ | refine χ1 ?_ | refine κ1 ?_ | refine κ2 ?_ | refine χ2 ?_ | refine κ3 ?_ | refine ω6 ?_ | refine ω7 ?_ | refine ω9 ?_ | refine κ4 ?_ | refine κ7 ?_ | refine κ8 ?_ | refine χ3 ?_ | refine χ4 ?_ | refine κ5 ?_ | refine κ6 ?_ | refine χ5 ?_ | refine χ6 ?_ | refine χ7 ?_ | refine ω8 ?_
      refine ld ((h5.ext hx12).cell (ps_get hlt)) ?_
      repeat first | refine ω1 ?_ | refine ω2 ?_ | refine ω3 ?_ | refine ω4 ?_ | refine ω5 ?_ | refine χ1 ?_ | refine κ1 ?_ | refine κ2 ?_ | refine χ2 ?_ | refine κ3 ?_ | refine ω6 ?_ | refine ω7 ?_ | refine ω9 ?_ | refine κ4 ?_ | refine κ7 ?_ | refine κ8 ?_ | refine χ3 ?_ | refine χ4 ?_ | refine κ5 ?_ | refine κ6 ?_ | refine χ5 ?_ | refine χ6 ?_ | refine χ7 ?_ | refine ω8 ?_
      refine bsl (fun w => bs1Row _ w B _ bc hvr) ?_
      intro w3 b3 hx3 hb3 hk3
      repeat first | refine ω1 ?_ | refine ω2 ?_ | refine ω3 ?_ | refine ω4 ?_ | refine ω5 ?_ | refine χ1 ?_ | refine κ1 ?_ | refine κ2 ?_ | refine χ2 ?_ | refine κ3 ?_ | refine ω6 ?_ | refine ω7 ?_ | refine ω9 ?_ | refine κ4 ?_ | refine κ7 ?_ | refine κ8 ?_ | refine χ3 ?_ | refine χ4 ?_ | refine κ5 ?_ | refine κ6 ?_ | refine χ5 ?_ | refine χ6 ?_ | refine χ7 ?_ | refine ω8 ?_
      refine apo (a := w) (hx12.trans hx3) ER (own_ext (own_ext ho1 hx2) hx3) hk3.one (fun u hu => by rw [List.mem_singleton.1 hu]; exact hrk.one) (by unfold maxLen; omega) (by omega) ?_
      intro v7 w7 ho7 hx7 _ _
      repeat first | refine ω1 ?_ | refine ω2 ?_ | refine ω3 ?_ | refine ω4 ?_ | refine ω5 ?_ | refine χ1 ?_ | refine κ1 ?_ | refine κ2 ?_ | refine χ2 ?_ | refine κ3 ?_ | refine ω6 ?_ | refine ω7 ?_ | refine ω9 ?_ | refine κ4 ?_ | refine κ7 ?_ | refine κ8 ?_ | refine χ3 ?_ | refine χ4 ?_ | refine κ5 ?_ | refine κ6 ?_ | refine χ5 ?_ | refine χ6 ?_ | refine χ7 ?_ | refine ω8 ?_
      refine qround3 (k + 1) v7 (qs ++ [ps.getD k z0]) (by repeat' (first | exact Sub.nil | refine Sub.cons rfl ?_)) ⟨hx7, by omega, by simpa using ho7, ?_⟩ (by omega)
      rw [et, List.filter_append, ← hq1, List.filter_cons_of_pos (by simpa using h)]; rfl
    · repeat first | refine ω1 ?_ | refine ω2 ?_ | refine ω3 ?_ | refine ω4 ?_ | refine ω5 ?_ | refine χ1 ?_ | refine κ1 ?_ | refine κ2 ?_ | refine χ2 ?_ | refine κ3 ?_ | refine ω6 ?_ | refine ω7 ?_ | refine ω9 ?_ | refine κ4 ?_ | refine κ7 ?_ | refine κ8 ?_ | refine χ3 ?_ | refine χ4 ?_ | refine κ5 ?_ | refine κ6 ?_ | refine χ5 ?_ | refine χ6 ?_ | refine χ7 ?_ | refine ω8 ?_
      refine qround3 (k + 1) v5 qs (by repeat' (first | exact Sub.nil | refine Sub.cons rfl ?_)) ⟨hx12, by omega, own_ext ho1 hx2, ?_⟩ (by omega)
      rw [et, List.filter_append, ← hq1, List.filter_cons_of_neg (by simpa using h)]; simp
  · have hkn : k = ps.length := by have := of_decide_eq_false h; omega
    subst hkn
    repeat first | refine ω1 ?_ | refine ω2 ?_ | refine ω3 ?_ | refine ω4 ?_ | refine ω5 ?_ | refine χ1 ?_ | refine κ1 ?_ | refine κ2 ?_ | refine χ2 ?_ | refine κ3 ?_ | refine ω6 ?_ | refine ω7 ?_ | refine ω9 ?_ | refine κ4 ?_ | refine κ7 ?_ | refine κ8 ?_ | refine χ3 ?_ | refine χ4 ?_ | refine κ5 ?_ | refine κ6 ?_ | refine χ5 ?_ | refine χ6 ?_ | refine χ7 ?_ | refine ω8 ?_
    refine fin1 ⟨?_, hx1⟩
    rw [List.take_length] at hq1
    obtain ⟨A8, c8, rfl, hc8, _⟩ := own_form ho1
    have hql : qs.length ≤ ps.length := by rw [hq1]; exact List.length_filter_le _ _
    refine ⟨qs, A8, c8, ?_, rfl, hc8, by omega, Rd.own ho1, fun p hp => ?_⟩
    · rw [hq1, List.filter_map]; rfl
    · rw [hq1] at hp
      exact (h6 p (List.mem_filter.1 hp).1).ext hx1
set_option maxRecDepth 100000 in
theorem both47_any {v u : Value} {l m : List Row} {w : World} (hl : RowsV w v l) (hu : RowsV w u m) : Ret Try.prog 31 [v, u] w fun x w' => RowsV w' x (l.filter (fun r => decide (r ∈ m))) ∧ Ext w w' := by
  obtain ⟨ps, A, c, rfl, rfl, h3, h4, h5, h6⟩ := id hl
  refine enterR Try.func31 Try.ntmps31 rfl (by kernel_rfl) rfl ?_
  repeat first | refine ω1 ?_ | refine ω2 ?_ | refine ω3 ?_ | refine ω4 ?_ | refine ω5 ?_ | refine χ1 ?_ | refine κ1 ?_ | refine κ2 ?_ | refine χ2 ?_ | refine κ3 ?_ | refine ω6 ?_ | refine ω7 ?_ | refine ω9 ?_ | refine κ4 ?_ | refine κ7 ?_ | refine κ8 ?_ | refine χ3 ?_ | refine χ4 ?_ | refine κ5 ?_ | refine κ6 ?_ | refine χ5 ?_ | refine χ6 ?_ | refine χ7 ?_ | refine ω8 ?_
  refine wloop3 (fun (k : Nat) (v5 : Value) (qs : List Pr) => [(0, .slice A ps.length c), (1, u), (5, v5), (6, .int .i64 ((k : Nat) : Int))])
    (fun k v5 qs w' => Ext w w' ∧ k ≤ ps.length ∧ w'.ownsRow w.heap.size 25 1 v5 qs.length (qs.map (·.1)) ∧ qs = (ps.take k).filter (fun p => decide (p.2 ∈ m))) (fun k _ _ => ps.length - k) 0 (.slice none 0 0) [] (by repeat' (first | exact Sub.nil | refine Sub.cons rfl ?_))
    ⟨Ext.refl w, Nat.zero_le _, own_nil _ _ _ _, by simp⟩ ?_
  rintro k v5 qs w1 ⟨hx1, hk, ho1, hq1⟩
  repeat first | refine ω1 ?_ | refine ω2 ?_ | refine ω3 ?_ | refine ω4 ?_ | refine ω5 ?_ | refine χ1 ?_ | refine κ1 ?_ | refine κ2 ?_ | refine χ2 ?_ | refine κ3 ?_ | refine ω6 ?_ | refine ω7 ?_ | refine ω9 ?_ | refine κ4 ?_ | refine κ7 ?_ | refine κ8 ?_ | refine χ3 ?_ | refine χ4 ?_ | refine κ5 ?_ | refine κ6 ?_ | refine χ5 ?_ | refine χ6 ?_ | refine χ7 ?_ | refine ω8 ?_
  refine ci (fun h => ?_) (fun h => ?_)
  · have hlt : k < ps.length := by have := of_decide_eq_true h; omega
    have hrk := h6 _ (getD_mem' z0 ps hlt)
    have et : ps.take (k + 1) = ps.take k ++ [ps.getD k z0] := by rw [List.take_succ_eq_append_getElem hlt, ← getD_get z0 ps hlt]
    have hql : qs.length ≤ k := by rw [hq1]; exact Nat.le_trans (List.length_filter_le _ _) (by simp; omega)
    repeat first | refine ω1 ?_ | refine ω2 ?_ | refine ω3 ?_ | refine ω4 ?_ | refine ω5 ?_ | refine χ1 ?_ | refine κ1 ?_ | refine κ2 ?_ | refine χ2 ?_ | refine κ3 ?_ | refine ω6 ?_ | refine ω7 ?_ | refine ω9 ?_ | refine κ4 ?_ | refine κ7 ?_ | refine κ8 ?_ | refine χ3 ?_ | refine χ4 ?_ | refine κ5 ?_ | refine κ6 ?_ | refine χ5 ?_ | refine χ6 ?_ | refine χ7 ?_ | refine ω8 ?_
    refine ix k (h5.ext hx1) hlt ?_
    repeat first | refine ω1 ?_ | refine ω2 ?_ | refine ω3 ?_ | refine ω4 ?_ | refine ω5 ?_ | refine χ1 ?_ | refine κ1 ?_ | refine κ2 ?_ | refine χ2 ?_ | refine κ3 ?_ | refine ω6 ?_ | refine ω7 ?_ | refine ω9 ?_ | refine κ4 ?_ | refine κ7 ?_ | refine κ8 ?_ | refine χ3 ?_ | refine χ4 ?_ | refine κ5 ?_ | refine κ6 ?_ | refine χ5 ?_ | refine χ6 ?_ | refine χ7 ?_ | refine ω8 ?_
    refine ld ((h5.ext hx1).cell (ps_get hlt)) ?_
    repeat first | refine ω1 ?_ | refine ω2 ?_ | refine ω3 ?_ | refine ω4 ?_ | refine ω5 ?_ | refine χ1 ?_ | refine κ1 ?_ | refine κ2 ?_ | refine χ2 ?_ | refine κ3 ?_ | refine ω6 ?_ | refine ω7 ?_ | refine ω9 ?_ | refine κ4 ?_ | refine κ7 ?_ | refine κ8 ?_ | refine χ3 ?_ | refine χ4 ?_ | refine κ5 ?_ | refine κ6 ?_ | refine χ5 ?_ | refine χ6 ?_ | refine χ7 ?_ | refine ω8 ?_
    refine cl (has_any (hu.ext hx1) (hrk.ext hx1)) ?_
    rintro x w2 ⟨rfl, hx2⟩
    have hx12 := hx1.trans hx2
    repeat first | refine ω1 ?_ | refine ω2 ?_ | refine ω3 ?_ | refine ω4 ?_ | refine ω5 ?_ | refine χ1 ?_ | refine κ1 ?_ | refine κ2 ?_ | refine χ2 ?_ | refine κ3 ?_ | refine ω6 ?_ | refine ω7 ?_ | refine ω9 ?_ | refine κ4 ?_ | refine κ7 ?_ | refine κ8 ?_ | refine χ3 ?_ | refine χ4 ?_ | refine κ5 ?_ | refine κ6 ?_ | refine χ5 ?_ | refine χ6 ?_ | refine χ7 ?_ | refine ω8 ?_
    refine ci (fun h => ?_) (fun h => ?_)
    · obtain ⟨B, bc, hvr, _⟩ := id hrk
      repeat first | refine ω1 ?_ | refine ω2 ?_ | refine ω3 ?_ | refine ω4 ?_ | refine ω5 ?_ | refine χ1 ?_ | refine κ1 ?_ | refine κ2 ?_ | refine χ2 ?_ | refine κ3 ?_ | refine ω6 ?_ | refine ω7 ?_ | refine ω9 ?_ | refine κ4 ?_ | refine κ7 ?_ | refine κ8 ?_ | refine χ3 ?_ | refine χ4 ?_ | refine κ5 ?_ | refine κ6 ?_ | refine χ5 ?_ | refine χ6 ?_ | refine χ7 ?_ | refine ω8 ?_
      refine ix k (h5.ext hx12) hlt ?_
      repeat first | refine ω1 ?_ | refine ω2 ?_ | refine ω3 ?_ | refine ω4 ?_ | refine ω5 ?_ | refine χ1 ?_ | refine κ1 ?_ | refine κ2 ?_ | refine χ2 ?_ | refine κ3 ?_ | refine ω6 ?_ | refine ω7 ?_ | refine ω9 ?_ | refine κ4 ?_ | refine κ7 ?_ | refine κ8 ?_ | refine χ3 ?_ | refine χ4 ?_ | refine κ5 ?_ | refine κ6 ?_ | refine χ5 ?_ | refine χ6 ?_ | refine χ7 ?_ | refine ω8 ?_
      refine ld ((h5.ext hx12).cell (ps_get hlt)) ?_
      repeat first | refine ω1 ?_ | refine ω2 ?_ | refine ω3 ?_ | refine ω4 ?_ | refine ω5 ?_ | refine χ1 ?_ | refine κ1 ?_ | refine κ2 ?_ | refine χ2 ?_ | refine κ3 ?_ | refine ω6 ?_ | refine ω7 ?_ | refine ω9 ?_ | refine κ4 ?_ | refine κ7 ?_ | refine κ8 ?_ | refine χ3 ?_ | refine χ4 ?_ | refine κ5 ?_ | refine κ6 ?_ | refine χ5 ?_ | refine χ6 ?_ | refine χ7 ?_ | refine ω8 ?_
      refine bsl (fun w => bs1Row _ w B _ bc hvr) ?_
      intro w3 b3 hx3 hb3 hk3
      repeat first | refine ω1 ?_ | refine ω2 ?_ | refine ω3 ?_ | refine ω4 ?_ | refine ω5 ?_ | refine χ1 ?_ | refine κ1 ?_ | refine κ2 ?_ | refine χ2 ?_ | refine κ3 ?_ | refine ω6 ?_ | refine ω7 ?_ | refine ω9 ?_ | refine κ4 ?_ | refine κ7 ?_ | refine κ8 ?_ | refine χ3 ?_ | refine χ4 ?_ | refine κ5 ?_ | refine κ6 ?_ | refine χ5 ?_ | refine χ6 ?_ | refine χ7 ?_ | refine ω8 ?_
      refine apo (a := w) (hx12.trans hx3) ER (own_ext (own_ext ho1 hx2) hx3) hk3.one (fun u hu => by rw [List.mem_singleton.1 hu]; exact hrk.one) (by unfold maxLen; omega) (by omega) ?_
      intro v7 w7 ho7 hx7 _ _
      repeat first | refine ω1 ?_ | refine ω2 ?_ | refine ω3 ?_ | refine ω4 ?_ | refine ω5 ?_ | refine χ1 ?_ | refine κ1 ?_ | refine κ2 ?_ | refine χ2 ?_ | refine κ3 ?_ | refine ω6 ?_ | refine ω7 ?_ | refine ω9 ?_ | refine κ4 ?_ | refine κ7 ?_ | refine κ8 ?_ | refine χ3 ?_ | refine χ4 ?_ | refine κ5 ?_ | refine κ6 ?_ | refine χ5 ?_ | refine χ6 ?_ | refine χ7 ?_ | refine ω8 ?_
      refine qround3 (k + 1) v7 (qs ++ [ps.getD k z0]) (by repeat' (first | exact Sub.nil | refine Sub.cons rfl ?_)) ⟨hx7, by omega, by simpa using ho7, ?_⟩ (by omega)
      rw [et, List.filter_append, ← hq1, List.filter_cons_of_pos (by simpa using h)]; rfl
    · repeat first | refine ω1 ?_ | refine ω2 ?_ | refine ω3 ?_ | refine ω4 ?_ | refine ω5 ?_ | refine χ1 ?_ | refine κ1 ?_ | refine κ2 ?_ | refine χ2 ?_ | refine κ3 ?_ | refine ω6 ?_ | refine ω7 ?_ | refine ω9 ?_ | refine κ4 ?_ | refine κ7 ?_ | refine κ8 ?_ | refine χ3 ?_ | refine χ4 ?_ | refine κ5 ?_ | refine κ6 ?_ | refine χ5 ?_ | refine χ6 ?_ | refine χ7 ?_ | refine ω8 ?_
      refine qround3 (k + 1) v5 qs (by repeat' (first | exact Sub.nil | refine Sub.cons rfl ?_)) ⟨hx12, by omega, own_ext ho1 hx2, ?_⟩ (by omega)
      rw [et, List.filter_append, ← hq1, List.filter_cons_of_neg (by simpa using h)]; simp
  · have hkn : k = ps.length := by have := of_decide_eq_false h; omega
    subst hkn
    repeat first | refine ω1 ?_ | refine ω2 ?_ | refine ω3 ?_ | refine ω4 ?_ | refine ω5 ?_ | refine χ1 ?_ | refine κ1 ?_ | refine κ2 ?_ | refine χ2 ?_ | refine κ3 ?_ | refine ω6 ?_ | refine ω7 ?_ | refine ω9 ?_ | refine κ4 ?_ | refine κ7 ?_ | refine κ8 ?_ | refine χ3 ?_ | refine χ4 ?_ | refine κ5 ?_ | refine κ6 ?_ | refine χ5 ?_ | refine χ6 ?_ | refine χ7 ?_ | refine ω8 ?_
    refine fin1 ⟨?_, hx1⟩
    rw [List.take_length] at hq1
    obtain ⟨A8, c8, rfl, hc8, _⟩ := own_form ho1
    have hql : qs.length ≤ ps.length := by rw [hq1]; exact List.length_filter_le _ _
    refine ⟨qs, A8, c8, ?_, rfl, hc8, by omega, Rd.own ho1, fun p hp => ?_⟩
    · rw [hq1, List.filter_map]; rfl
    · rw [hq1] at hp
      exact (h6 p (List.mem_filter.1 hp).1).ext hx1
set_option maxRecDepth 100000 in
theorem sort47_any {v vd : Value} {l : List Row} {ds : List Bool} {w : World} (hl : RowsV w v l) (hd : BoolsV w vd ds) (hlen : l.length ≤ 1000000) :
    Ret Try.prog 29 [v, .slice none 0 0, vd] w fun x w' => (∃ m, RowsV w' x m ∧ IsSet ds l m ∧ m.length ≤ l.length) ∧ Ext w w' := by
  obtain ⟨ps, A, c, rfl, rfl, h3, h4, h5, h6⟩ := id hl
  have hn : ps.length ≤ 1000000 := by simpa using hlen
  refine enterR Try.func29 Try.ntmps29 rfl (by kernel_rfl) rfl ?_
  repeat first | refine ω1 ?_ | refine ω2 ?_ | refine ω3 ?_ | refine ω4 ?_ | refine ω5 ?_ | refine χ1 ?_ | refine κ1 ?_ | refine κ2 ?_ | refine χ2 ?_ | refine κ3 ?_ | refine ω6 ?_ | refine ω7 ?_ | refine ω9 ?_ | refine κ4 ?_ | refine κ7 ?_ | refine κ8 ?_ | refine χ3 ?_ | refine χ4 ?_ | refine κ5 ?_ | refine κ6 ?_ | refine χ5 ?_ | refine χ6 ?_ | refine χ7 ?_ | refine ω8 ?_
  refine wloop3 (fun (k : Nat) (v7 : Value) (qs : List Pr) => [(0, .slice A ps.length c), (1, .slice none 0 0), (2, vd), (7, v7), (8, .int .i64 ((k : Nat) : Int))])
    (fun k v7 qs w' => Ext w w' ∧ k ≤ ps.length ∧ w'.ownsRow w.heap.size 25 1 v7 qs.length (qs.map (·.1)) ∧ (∀ q ∈ qs, RowV w q.1 q.2) ∧ qs.length ≤ k ∧ IsSet ds ((ps.take k).map (·.2)) (qs.map (·.2))) (fun k _ _ => ps.length - k) 0 (.slice none 0 0) [] (by repeat' (first | exact Sub.nil | refine Sub.cons rfl ?_))
    ⟨Ext.refl w, Nat.zero_le _, own_nil _ _ _ _, fun q hq => (by cases hq), Nat.zero_le _, ⟨List.Pairwise.nil, fun x => by simp⟩⟩ ?_
  rintro k v7 qs w1 ⟨hx1, hk, ho1, hq1, hql, hs1⟩
  obtain ⟨A1, c1, rfl, hc1, _⟩ := own_form ho1
  repeat first | refine ω1 ?_ | refine ω2 ?_ | refine ω3 ?_ | refine ω4 ?_ | refine ω5 ?_ | refine χ1 ?_ | refine κ1 ?_ | refine κ2 ?_ | refine χ2 ?_ | refine κ3 ?_ | refine ω6 ?_ | refine ω7 ?_ | refine ω9 ?_ | refine κ4 ?_ | refine κ7 ?_ | refine κ8 ?_ | refine χ3 ?_ | refine χ4 ?_ | refine κ5 ?_ | refine κ6 ?_ | refine χ5 ?_ | refine χ6 ?_ | refine χ7 ?_ | refine ω8 ?_
  refine ci (fun h => ?_) (fun h => ?_)
  · have hlt : k < ps.length := by have := of_decide_eq_true h; omega
    have hrk := h6 _ (getD_mem' z0 ps hlt)
    have et : ps.take (k + 1) = ps.take k ++ [ps.getD k z0] := by rw [List.take_succ_eq_append_getElem hlt, ← getD_get z0 ps hlt]
    repeat first | refine ω1 ?_ | refine ω2 ?_ | refine ω3 ?_ | refine ω4 ?_ | refine ω5 ?_ | refine χ1 ?_ | refine κ1 ?_ | refine κ2 ?_ | refine χ2 ?_ | refine κ3 ?_ | refine ω6 ?_ | refine ω7 ?_ | refine ω9 ?_ | refine κ4 ?_ | refine κ7 ?_ | refine κ8 ?_ | refine χ3 ?_ | refine χ4 ?_ | refine κ5 ?_ | refine κ6 ?_ | refine χ5 ?_ | refine χ6 ?_ | refine χ7 ?_ | refine ω8 ?_
    refine wloop1 (fun i => [(0, .slice A ps.length c), (1, .slice none 0 0), (2, vd), (7, .slice A1 qs.length c1), (8, .int .i64 ((k : Nat) : Int)), (9, .int .i64 ((i : Nat) : Int))])
      (fun i w2 => Ext w1 w2 ∧ i ≤ qs.length ∧ ∀ j, j < i → cmpR ((qs.map (·.2)).getD j []) (ps.getD k z0).2 ds < 0) (fun i => qs.length - i) 0 (by repeat' (first | exact Sub.nil | refine Sub.cons rfl ?_)) ⟨Ext.refl w1, Nat.zero_le _, fun j hj => by omega⟩ ?_
    rintro i w2 ⟨hx2, hi, hp⟩
    have ho2 := own_ext ho1 hx2
    have hx02 := hx1.trans hx2
    repeat first | refine ω1 ?_ | refine ω2 ?_ | refine ω3 ?_ | refine ω4 ?_ | refine ω5 ?_ | refine χ1 ?_ | refine κ1 ?_ | refine κ2 ?_ | refine χ2 ?_ | refine κ3 ?_ | refine ω6 ?_ | refine ω7 ?_ | refine ω9 ?_ | refine κ4 ?_ | refine κ7 ?_ | refine κ8 ?_ | refine χ3 ?_ | refine χ4 ?_ | refine κ5 ?_ | refine κ6 ?_ | refine χ5 ?_ | refine χ6 ?_ | refine χ7 ?_ | refine ω8 ?_
    refine wjoin1 (fun (t : Bool) => [(0, .slice A ps.length c), (1, .slice none 0 0), (2, vd), (7, .slice A1 qs.length c1), (8, .int .i64 ((k : Nat) : Int)), (9, .int .i64 ((i : Nat) : Int)), (34, .bool t)])
      (fun t w3 => Ext w2 w3 ∧ t = decide (i < qs.length ∧ cmpR ((qs.map (·.2)).getD i []) (ps.getD k z0).2 ds < 0)) ?_ ?_
    · refine dr [(0, 0), (0, 1), (0, 2), (0, 3), (0, 4), (0, 5), (0, 6), (0, 7), (0, 8), (0, 9), (0, 10), (0, 11), (0, 12), (0, 13), (0, 14), (1, 15), (0, 16), (0, 17)] (by kernel_rfl) ?_
      have hxd : Ext w2 w2.drew := (Ext.refl w2).drew
      have hx0d := hx02.trans hxd
      have rdO := Rd.own (own_ext ho2 hxd)
      repeat first | refine δ1 ?_ | refine δ2 ?_ | refine δ4 ?_ | refine δ5 ?_ | refine δ6 ?_ | refine δ7 ?_ | refine δ9 ?_ | refine δ8 ?_ | refine χ1 ?_ | refine χ2 ?_ | refine χ3 ?_ | refine χ4 ?_ | refine χ5 ?_ | refine χ6 ?_ | refine χ7 ?_
      refine dki 21 (fun h => ?_) (fun h => ?_)
      · have hlt2 : i < qs.length := by have := of_decide_eq_true h; omega
        repeat first | refine δ1 ?_ | refine δ2 ?_ | refine δ4 ?_ | refine δ5 ?_ | refine δ6 ?_ | refine δ7 ?_ | refine δ9 ?_ | refine δ8 ?_ | refine χ1 ?_ | refine χ2 ?_ | refine χ3 ?_ | refine χ4 ?_ | refine χ5 ?_ | refine χ6 ?_ | refine χ7 ?_
        refine dix i rdO hlt2 ?_
        repeat first | refine δ1 ?_ | refine δ2 ?_ | refine δ4 ?_ | refine δ5 ?_ | refine δ6 ?_ | refine δ7 ?_ | refine δ9 ?_ | refine δ8 ?_ | refine χ1 ?_ | refine χ2 ?_ | refine χ3 ?_ | refine χ4 ?_ | refine χ5 ?_ | refine χ6 ?_ | refine χ7 ?_
        refine dld (rdO.cell (ps_get hlt2)) ?_
        repeat first | refine δ1 ?_ | refine δ2 ?_ | refine δ4 ?_ | refine δ5 ?_ | refine δ6 ?_ | refine δ7 ?_ | refine δ9 ?_ | refine δ8 ?_ | refine χ1 ?_ | refine χ2 ?_ | refine χ3 ?_ | refine χ4 ?_ | refine χ5 ?_ | refine χ6 ?_ | refine χ7 ?_
        refine dix k (h5.ext hx0d) hlt ?_
        repeat first | refine δ1 ?_ | refine δ2 ?_ | refine δ4 ?_ | refine δ5 ?_ | refine δ6 ?_ | refine δ7 ?_ | refine δ9 ?_ | refine δ8 ?_ | refine χ1 ?_ | refine χ2 ?_ | refine χ3 ?_ | refine χ4 ?_ | refine χ5 ?_ | refine χ6 ?_ | refine χ7 ?_
        refine dld ((h5.ext hx0d).cell (ps_get hlt)) ?_
        repeat first | refine δ1 ?_ | refine δ2 ?_ | refine δ4 ?_ | refine δ5 ?_ | refine δ6 ?_ | refine δ7 ?_ | refine δ9 ?_ | refine δ8 ?_ | refine χ1 ?_ | refine χ2 ?_ | refine χ3 ?_ | refine χ4 ?_ | refine χ5 ?_ | refine χ6 ?_ | refine χ7 ?_
        refine dcl (cmp47_any ((hq1 _ (getD_mem' z0 qs hlt2)).ext hx0d) (hrk.ext hx0d) (hd.ext hx0d)) ?_
        rintro x w3 ⟨rfl, hx3⟩
        refine ⟨hx3, ?_⟩
        repeat first | refine δ1 ?_ | refine δ2 ?_ | refine δ4 ?_ | refine δ5 ?_ | refine δ6 ?_ | refine δ7 ?_ | refine δ9 ?_ | refine δ8 ?_ | refine χ1 ?_ | refine χ2 ?_ | refine χ3 ?_ | refine χ4 ?_ | refine χ5 ?_ | refine χ6 ?_ | refine χ7 ?_
        refine qjoin1 _ (by repeat' (first | exact Sub.nil | refine Sub.cons rfl ?_)) ⟨hxd.trans hx3, ?_⟩
        rw [Bool.eq_iff_iff, decide_eq_true_iff, decide_eq_true_iff, ls_get]
        exact ⟨fun h => ⟨hlt2, h⟩, fun h => h.2⟩
      · have hlt2 : ¬ i < qs.length := by have := of_decide_eq_false h; omega
        repeat first | refine δ1 ?_ | refine δ2 ?_ | refine δ4 ?_ | refine δ5 ?_ | refine δ6 ?_ | refine δ7 ?_ | refine δ9 ?_ | refine δ8 ?_ | refine χ1 ?_ | refine χ2 ?_ | refine χ3 ?_ | refine χ4 ?_ | refine χ5 ?_ | refine χ6 ?_ | refine χ7 ?_
        exact qjoin1 false (by repeat' (first | exact Sub.nil | refine Sub.cons rfl ?_)) ⟨hxd, (decide_eq_false (fun h => hlt2 h.1)).symm⟩
    rintro t w3 ⟨hx3, rfl⟩
    have hx13 := hx2.trans hx3
    have hx03 := hx1.trans hx13
    repeat first | refine ω1 ?_ | refine ω2 ?_ | refine ω3 ?_ | refine ω4 ?_ | refine ω5 ?_ | refine χ1 ?_ | refine κ1 ?_ | refine κ2 ?_ | refine χ2 ?_ | refine κ3 ?_ | refine ω6 ?_ | refine ω7 ?_ | refine ω9 ?_ | refine κ4 ?_ | refine κ7 ?_ | refine κ8 ?_ | refine χ3 ?_ | refine χ4 ?_ | refine κ5 ?_ | refine κ6 ?_ | refine χ5 ?_ | refine χ6 ?_ | refine χ7 ?_ | refine ω8 ?_
    refine ci (fun h => ?_) (fun h => ?_)
    · obtain ⟨hlt2, hc⟩ := of_decide_eq_true h
      repeat first | refine ω1 ?_ | refine ω2 ?_ | refine ω3 ?_ | refine ω4 ?_ | refine ω5 ?_ | refine χ1 ?_ | refine κ1 ?_ | refine κ2 ?_ | refine χ2 ?_ | refine κ3 ?_ | refine ω6 ?_ | refine ω7 ?_ | refine ω9 ?_ | refine κ4 ?_ | refine κ7 ?_ | refine κ8 ?_ | refine χ3 ?_ | refine χ4 ?_ | refine κ5 ?_ | refine κ6 ?_ | refine χ5 ?_ | refine χ6 ?_ | refine χ7 ?_ | refine ω8 ?_
      refine qround1 (i + 1) (by repeat' (first | exact Sub.nil | refine Sub.cons rfl ?_)) ⟨hx13, by omega, fun j hj => ?_⟩ (by omega)
      by_cases e : j = i
      · rw [e]; exact hc
      · exact hp j (by omega)
    have hstop := of_decide_eq_false h
    obtain ⟨hcnt, hmem⟩ := rank_at hs1.1 (r := (ps.getD k z0).2) (k := i) (by simpa using hi) (by
      by_cases h0 : i = 0
      · exact .inl h0
      · exact .inr (hp (i - 1) (by omega))) (by
      by_cases h0 : i < qs.length
      · exact .inr (fun h' => hstop ⟨h0, h'⟩)
      · exact .inl (by simp; omega))
    have ho3 := own_ext ho1 hx13
    repeat first | refine ω1 ?_ | refine ω2 ?_ | refine ω3 ?_ | refine ω4 ?_ | refine ω5 ?_ | refine χ1 ?_ | refine κ1 ?_ | refine κ2 ?_ | refine χ2 ?_ | refine κ3 ?_ | refine ω6 ?_ | refine ω7 ?_ | refine ω9 ?_ | refine κ4 ?_ | refine κ7 ?_ | refine κ8 ?_ | refine χ3 ?_ | refine χ4 ?_ | refine κ5 ?_ | refine κ6 ?_ | refine χ5 ?_ | refine χ6 ?_ | refine χ7 ?_ | refine ω8 ?_
    refine wjoin1 (fun (t : Bool) => [(0, .slice A ps.length c), (1, .slice none 0 0), (2, vd), (7, .slice A1 qs.length c1), (8, .int .i64 ((k : Nat) : Int)), (9, .int .i64 ((i : Nat) : Int)), (51, .bool t)])
      (fun t w4 => Ext w3 w4 ∧ t = decide ((ps.getD k z0).2 ∈ qs.map (·.2))) ?_ ?_
    · refine dr [(0, 0), (0, 1), (0, 2), (0, 3), (0, 4), (0, 5), (0, 6), (0, 7), (0, 8), (0, 9), (0, 10), (0, 11), (0, 12), (1, 13), (0, 14)] (by kernel_rfl) ?_
      have hxd : Ext w3 w3.drew := (Ext.refl w3).drew
      have hx0d := hx03.trans hxd
      have rdO := Rd.own (own_ext ho3 hxd)
      repeat first | refine δ1 ?_ | refine δ2 ?_ | refine δ4 ?_ | refine δ5 ?_ | refine δ6 ?_ | refine δ7 ?_ | refine δ9 ?_ | refine δ8 ?_ | refine χ1 ?_ | refine χ2 ?_ | refine χ3 ?_ | refine χ4 ?_ | refine χ5 ?_ | refine χ6 ?_ | refine χ7 ?_
      refine dki 41 (fun h => ?_) (fun h => ?_)
      · have hlt2 : i < qs.length := by have := of_decide_eq_true h; omega
        repeat first | refine δ1 ?_ | refine δ2 ?_ | refine δ4 ?_ | refine δ5 ?_ | refine δ6 ?_ | refine δ7 ?_ | refine δ9 ?_ | refine δ8 ?_ | refine χ1 ?_ | refine χ2 ?_ | refine χ3 ?_ | refine χ4 ?_ | refine χ5 ?_ | refine χ6 ?_ | refine χ7 ?_
        refine dix i rdO hlt2 ?_
        repeat first | refine δ1 ?_ | refine δ2 ?_ | refine δ4 ?_ | refine δ5 ?_ | refine δ6 ?_ | refine δ7 ?_ | refine δ9 ?_ | refine δ8 ?_ | refine χ1 ?_ | refine χ2 ?_ | refine χ3 ?_ | refine χ4 ?_ | refine χ5 ?_ | refine χ6 ?_ | refine χ7 ?_
        refine dld (rdO.cell (ps_get hlt2)) ?_
        repeat first | refine δ1 ?_ | refine δ2 ?_ | refine δ4 ?_ | refine δ5 ?_ | refine δ6 ?_ | refine δ7 ?_ | refine δ9 ?_ | refine δ8 ?_ | refine χ1 ?_ | refine χ2 ?_ | refine χ3 ?_ | refine χ4 ?_ | refine χ5 ?_ | refine χ6 ?_ | refine χ7 ?_
        refine dix k (h5.ext hx0d) hlt ?_
        repeat first | refine δ1 ?_ | refine δ2 ?_ | refine δ4 ?_ | refine δ5 ?_ | refine δ6 ?_ | refine δ7 ?_ | refine δ9 ?_ | refine δ8 ?_ | refine χ1 ?_ | refine χ2 ?_ | refine χ3 ?_ | refine χ4 ?_ | refine χ5 ?_ | refine χ6 ?_ | refine χ7 ?_
        refine dld ((h5.ext hx0d).cell (ps_get hlt)) ?_
        repeat first | refine δ1 ?_ | refine δ2 ?_ | refine δ4 ?_ | refine δ5 ?_ | refine δ6 ?_ | refine δ7 ?_ | refine δ9 ?_ | refine δ8 ?_ | refine χ1 ?_ | refine χ2 ?_ | refine χ3 ?_ | refine χ4 ?_ | refine χ5 ?_ | refine χ6 ?_ | refine χ7 ?_
        refine dcl (same03_any ((hq1 _ (getD_mem' z0 qs hlt2)).ext hx0d) (hrk.ext hx0d)) ?_
        rintro x w4 ⟨rfl, hx4⟩
        refine ⟨hx4, ?_⟩
        repeat first | refine δ1 ?_ | refine δ2 ?_ | refine δ4 ?_ | refine δ5 ?_ | refine δ6 ?_ | refine δ7 ?_ | refine δ9 ?_ | refine δ8 ?_ | refine χ1 ?_ | refine χ2 ?_ | refine χ3 ?_ | refine χ4 ?_ | refine χ5 ?_ | refine χ6 ?_ | refine χ7 ?_
        refine qjoin1 _ (by repeat' (first | exact Sub.nil | refine Sub.cons rfl ?_)) ⟨hxd.trans hx4, ?_⟩
        rw [Bool.eq_iff_iff, decide_eq_true_iff, decide_eq_true_iff, hmem, ls_get]
        exact ⟨fun h => ⟨by simpa using hlt2, h⟩, fun h => h.2⟩
      · have hlt2 : ¬ i < qs.length := by have := of_decide_eq_false h; omega
        repeat first | refine δ1 ?_ | refine δ2 ?_ | refine δ4 ?_ | refine δ5 ?_ | refine δ6 ?_ | refine δ7 ?_ | refine δ9 ?_ | refine δ8 ?_ | refine χ1 ?_ | refine χ2 ?_ | refine χ3 ?_ | refine χ4 ?_ | refine χ5 ?_ | refine χ6 ?_ | refine χ7 ?_
        refine qjoin1 false (by repeat' (first | exact Sub.nil | refine Sub.cons rfl ?_)) ⟨hxd, (decide_eq_false (fun h => ?_)).symm⟩
        have := (hmem.1 h).1
        simp at this; omega
    rintro t w4 ⟨hx4, rfl⟩
    have hx04 := hx03.trans hx4
    have ho4 := own_ext ho3 hx4
    have hps := put_set (r := (ps.getD k z0).2) hs1
    have emap : (ps.take (k + 1)).map (·.2) = (ps.take k).map (·.2) ++ [(ps.getD k z0).2] := by rw [et]; simp
    rw [← emap] at hps
    repeat first | refine ω1 ?_ | refine ω2 ?_ | refine ω3 ?_ | refine ω4 ?_ | refine ω5 ?_ | refine χ1 ?_ | refine κ1 ?_ | refine κ2 ?_ | refine χ2 ?_ | refine κ3 ?_ | refine ω6 ?_ | refine ω7 ?_ | refine ω9 ?_ | refine κ4 ?_ | refine κ7 ?_ | refine κ8 ?_ | refine χ3 ?_ | refine χ4 ?_ | refine κ5 ?_ | refine κ6 ?_ | refine χ5 ?_ | refine χ6 ?_ | refine χ7 ?_ | refine ω8 ?_
    refine ci (fun h => ?_) (fun h => ?_)
    · have hin := of_decide_eq_true h
      repeat first | refine ω1 ?_ | refine ω2 ?_ | refine ω3 ?_ | refine ω4 ?_ | refine ω5 ?_ | refine χ1 ?_ | refine κ1 ?_ | refine κ2 ?_ | refine χ2 ?_ | refine κ3 ?_ | refine ω6 ?_ | refine ω7 ?_ | refine ω9 ?_ | refine κ4 ?_ | refine κ7 ?_ | refine κ8 ?_ | refine χ3 ?_ | refine χ4 ?_ | refine κ5 ?_ | refine κ6 ?_ | refine χ5 ?_ | refine χ6 ?_ | refine χ7 ?_ | refine ω8 ?_
      refine qround3 (k + 1) (.slice A1 qs.length c1) qs (by repeat' (first | exact Sub.nil | refine Sub.cons rfl ?_)) ⟨hx04, by omega, ho4, hq1, by omega, ?_⟩ (by omega)
      unfold putL at hps
      rw [if_pos hin] at hps
      exact hps
    have hin := of_decide_eq_false h
    unfold putL at hps
    rw [if_neg hin, hcnt] at hps
    repeat first | refine ω1 ?_ | refine ω2 ?_ | refine ω3 ?_ | refine ω4 ?_ | refine ω5 ?_ | refine χ1 ?_ | refine κ1 ?_ | refine κ2 ?_ | refine χ2 ?_ | refine κ3 ?_ | refine ω6 ?_ | refine ω7 ?_ | refine ω9 ?_ | refine κ4 ?_ | refine κ7 ?_ | refine κ8 ?_ | refine χ3 ?_ | refine χ4 ?_ | refine κ5 ?_ | refine κ6 ?_ | refine χ5 ?_ | refine χ6 ?_ | refine χ7 ?_ | refine ω8 ?_
    refine bsl (fun w => bs1Row _ w none 0 0 rfl) ?_
    intro w5 b5 hx5 hb5 hk5
    repeat first | refine ω1 ?_ | refine ω2 ?_ | refine ω3 ?_ | refine ω4 ?_ | refine ω5 ?_ | refine χ1 ?_ | refine κ1 ?_ | refine κ2 ?_ | refine χ2 ?_ | refine κ3 ?_ | refine ω6 ?_ | refine ω7 ?_ | refine ω9 ?_ | refine κ4 ?_ | refine κ7 ?_ | refine κ8 ?_ | refine χ3 ?_ | refine χ4 ?_ | refine κ5 ?_ | refine κ6 ?_ | refine χ5 ?_ | refine χ6 ?_ | refine χ7 ?_ | refine ω8 ?_
    refine apo (a := w) (hx04.trans hx5) ER (own_ext ho4 hx5) hk5.one (fun u hu => by rw [List.mem_singleton.1 hu]; rfl) (by unfold maxLen; omega) (by omega) ?_
    intro v6 w6 ho6 hx6 _ _
    obtain ⟨A6, c6, rfl, hc6, _⟩ := own_form ho6
    generalize hvals : qs.map (·.1) = vals at *
    have hvl : vals.length = qs.length := by rw [← hvals]; simp
    repeat first | refine ω1 ?_ | refine ω2 ?_ | refine ω3 ?_ | refine ω4 ?_ | refine ω5 ?_ | refine χ1 ?_ | refine κ1 ?_ | refine κ2 ?_ | refine χ2 ?_ | refine κ3 ?_ | refine ω6 ?_ | refine ω7 ?_ | refine ω9 ?_ | refine κ4 ?_ | refine κ7 ?_ | refine κ8 ?_ | refine χ3 ?_ | refine χ4 ?_ | refine κ5 ?_ | refine κ6 ?_ | refine χ5 ?_ | refine χ6 ?_ | refine χ7 ?_ | refine ω8 ?_
    refine wloop2 (fun (j : Nat) (X : Value) => [(0, .slice A ps.length c), (1, .slice none 0 0), (2, vd), (7, .slice A6 (qs.length + 1) c6), (8, .int .i64 ((k : Nat) : Int)), (9, .int .i64 ((i : Nat) : Int)), (10, .int .i64 ((j : Nat) : Int))])
      (fun j X w7 => Ext w w7 ∧ i ≤ j ∧ j ≤ qs.length ∧ w7.ownsRow w.heap.size 25 1 (.slice A6 (qs.length + 1) c6) (qs.length + 1) (vals.take j ++ X :: vals.drop j)) (fun j _ => j) qs.length (.slice none 0 0) ?_ ⟨hx6, hi, Nat.le_refl _, ?_⟩ ?_
    · exact (by repeat' (first | exact Sub.nil | refine Sub.cons (by first | rfl | (refine congrArg (fun z => some (Value.int .i64 z)) ?_; omega)) ?_))
    · rw [← hvl, List.take_length, List.drop_length]; rw [← hvl] at ho6; exact ho6
    rintro j X w7 ⟨hx7, hij, hjn, ho7⟩
    have hl7 : (vals.take j ++ X :: vals.drop j).length = qs.length + 1 := by simp; omega
    repeat first | refine ω1 ?_ | refine ω2 ?_ | refine ω3 ?_ | refine ω4 ?_ | refine ω5 ?_ | refine χ1 ?_ | refine κ1 ?_ | refine κ2 ?_ | refine χ2 ?_ | refine κ3 ?_ | refine ω6 ?_ | refine ω7 ?_ | refine ω9 ?_ | refine κ4 ?_ | refine κ7 ?_ | refine κ8 ?_ | refine χ3 ?_ | refine χ4 ?_ | refine κ5 ?_ | refine κ6 ?_ | refine χ5 ?_ | refine χ6 ?_ | refine χ7 ?_ | refine ω8 ?_
    refine ci (fun h => ?_) (fun h => ?_)
    · have hji : i < j := by have := of_decide_eq_true h; omega
      have hj1 : j - 1 < vals.length := by omega
      have ec : (vals.take j ++ X :: vals.drop j)[j - 1]? = some vals[j - 1] := by
        rw [List.getElem?_append_left (by simp; omega), List.getElem?_take_of_lt (by omega), List.getElem?_eq_getElem hj1]
      have ec2 : (vals.take j ++ X :: vals.drop j)[j]? = some X := by
        rw [List.getElem?_append_right (by simp; omega)]
        have : j - (vals.take j).length = 0 := by simp; omega
        rw [this]; rfl
      have hone : vals[j - 1].oneCell' = true := by
        have hm : vals[j - 1] ∈ qs.map (·.1) := by rw [hvals]; exact List.getElem_mem hj1
        obtain ⟨q, hq, e⟩ := List.mem_map.1 hm
        rw [← e]; exact (hq1 q hq).one
      have est : (vals.take j ++ X :: vals.drop j).set j vals[j - 1] = vals.take (j - 1) ++ vals[j - 1] :: vals.drop (j - 1) := by
        rw [List.set_append_right _ _ (by simp; omega)]
        have : j - (vals.take j).length = 0 := by simp; omega
        rw [this]
        have e1 : vals.take j = vals.take (j - 1) ++ [vals[j - 1]] := by
          have := List.take_succ_eq_append_getElem hj1
          rwa [Nat.sub_add_cancel (by omega)] at this
        have e2 : vals.drop (j - 1) = vals[j - 1] :: vals.drop j := by
          have := List.drop_eq_getElem_cons hj1
          rwa [Nat.sub_add_cancel (by omega)] at this
        rw [e1, e2, List.append_assoc]; rfl
      have rd7 := Rd.own ho7
      generalize vals[j - 1] = y at *
      repeat first | refine ω1 ?_ | refine ω2 ?_ | refine ω3 ?_ | refine ω4 ?_ | refine ω5 ?_ | refine χ1 ?_ | refine κ1 ?_ | refine κ2 ?_ | refine χ2 ?_ | refine κ3 ?_ | refine ω6 ?_ | refine ω7 ?_ | refine ω9 ?_ | refine κ4 ?_ | refine κ7 ?_ | refine κ8 ?_ | refine χ3 ?_ | refine χ4 ?_ | refine κ5 ?_ | refine κ6 ?_ | refine χ5 ?_ | refine χ6 ?_ | refine χ7 ?_ | refine ω8 ?_
      refine ix (j - 1) rd7 (by omega) ?_
      repeat first | refine ω1 ?_ | refine ω2 ?_ | refine ω3 ?_ | refine ω4 ?_ | refine ω5 ?_ | refine χ1 ?_ | refine κ1 ?_ | refine κ2 ?_ | refine χ2 ?_ | refine κ3 ?_ | refine ω6 ?_ | refine ω7 ?_ | refine ω9 ?_ | refine κ4 ?_ | refine κ7 ?_ | refine κ8 ?_ | refine χ3 ?_ | refine χ4 ?_ | refine κ5 ?_ | refine κ6 ?_ | refine χ5 ?_ | refine χ6 ?_ | refine χ7 ?_ | refine ω8 ?_
      refine ld (rd7.cell ec) ?_
      repeat first | refine ω1 ?_ | refine ω2 ?_ | refine ω3 ?_ | refine ω4 ?_ | refine ω5 ?_ | refine χ1 ?_ | refine κ1 ?_ | refine κ2 ?_ | refine χ2 ?_ | refine κ3 ?_ | refine ω6 ?_ | refine ω7 ?_ | refine ω9 ?_ | refine κ4 ?_ | refine κ7 ?_ | refine κ8 ?_ | refine χ3 ?_ | refine χ4 ?_ | refine κ5 ?_ | refine κ6 ?_ | refine χ5 ?_ | refine χ6 ?_ | refine χ7 ?_ | refine ω8 ?_
      refine ix j rd7 (by omega) ?_
      obtain ⟨s1, s2, s3, s4, s5⟩ := own_store ho7 (q := j) (by omega) y
      rw [est] at s3
      repeat first | refine ω1 ?_ | refine ω2 ?_ | refine ω3 ?_ | refine ω4 ?_ | refine ω5 ?_ | refine χ1 ?_ | refine κ1 ?_ | refine κ2 ?_ | refine χ2 ?_ | refine κ3 ?_ | refine ω6 ?_ | refine ω7 ?_ | refine ω9 ?_ | refine κ4 ?_ | refine κ7 ?_ | refine κ8 ?_ | refine χ3 ?_ | refine χ4 ?_ | refine κ5 ?_ | refine κ6 ?_ | refine χ5 ?_ | refine χ6 ?_ | refine χ7 ?_ | refine ω8 ?_
      refine sto (s1.trans ec2) s2 ?_ (hv := hone)
      repeat first | refine ω1 ?_ | refine ω2 ?_ | refine ω3 ?_ | refine ω4 ?_ | refine ω5 ?_ | refine χ1 ?_ | refine κ1 ?_ | refine κ2 ?_ | refine χ2 ?_ | refine κ3 ?_ | refine ω6 ?_ | refine ω7 ?_ | refine ω9 ?_ | refine κ4 ?_ | refine κ7 ?_ | refine κ8 ?_ | refine χ3 ?_ | refine χ4 ?_ | refine κ5 ?_ | refine κ6 ?_ | refine χ5 ?_ | refine χ6 ?_ | refine χ7 ?_ | refine ω8 ?_
      exact qround2 (j - 1) y (by repeat' (first | exact Sub.nil | refine Sub.cons (by first | rfl | (refine congrArg (fun z => some (Value.int .i64 z)) ?_; omega)) ?_)) ⟨hx7.setCell s4 _, by omega, by omega, s3⟩ (by omega)
    · have hji : j = i := by have := of_decide_eq_false h; omega
      subst hji
      have ec2 : (vals.take j ++ X :: vals.drop j)[j]? = some X := by
        rw [List.getElem?_append_right (by simp; omega)]
        have : j - (vals.take j).length = 0 := by simp; omega
        rw [this]; rfl
      have est : (vals.take j ++ X :: vals.drop j).set j (ps.getD k z0).1 = vals.take j ++ (ps.getD k z0).1 :: vals.drop j := by
        rw [List.set_append_right _ _ (by simp; omega)]
        have : j - (vals.take j).length = 0 := by simp; omega
        rw [this]; rfl
      have rd7 := Rd.own ho7
      obtain ⟨s1, s2, s3, s4, s5⟩ := own_store ho7 (q := j) (by omega) (ps.getD k z0).1
      rw [est] at s3
      repeat first | refine ω1 ?_ | refine ω2 ?_ | refine ω3 ?_ | refine ω4 ?_ | refine ω5 ?_ | refine χ1 ?_ | refine κ1 ?_ | refine κ2 ?_ | refine χ2 ?_ | refine κ3 ?_ | refine ω6 ?_ | refine ω7 ?_ | refine ω9 ?_ | refine κ4 ?_ | refine κ7 ?_ | refine κ8 ?_ | refine χ3 ?_ | refine χ4 ?_ | refine κ5 ?_ | refine κ6 ?_ | refine χ5 ?_ | refine χ6 ?_ | refine χ7 ?_ | refine ω8 ?_
      refine ix k (h5.ext hx7) hlt ?_
      repeat first | refine ω1 ?_ | refine ω2 ?_ | refine ω3 ?_ | refine ω4 ?_ | refine ω5 ?_ | refine χ1 ?_ | refine κ1 ?_ | refine κ2 ?_ | refine χ2 ?_ | refine κ3 ?_ | refine ω6 ?_ | refine ω7 ?_ | refine ω9 ?_ | refine κ4 ?_ | refine κ7 ?_ | refine κ8 ?_ | refine χ3 ?_ | refine χ4 ?_ | refine κ5 ?_ | refine κ6 ?_ | refine χ5 ?_ | refine χ6 ?_ | refine χ7 ?_ | refine ω8 ?_
      refine ld ((h5.ext hx7).cell (ps_get hlt)) ?_
      repeat first | refine ω1 ?_ | refine ω2 ?_ | refine ω3 ?_ | refine ω4 ?_ | refine ω5 ?_ | refine χ1 ?_ | refine κ1 ?_ | refine κ2 ?_ | refine χ2 ?_ | refine κ3 ?_ | refine ω6 ?_ | refine ω7 ?_ | refine ω9 ?_ | refine κ4 ?_ | refine κ7 ?_ | refine κ8 ?_ | refine χ3 ?_ | refine χ4 ?_ | refine κ5 ?_ | refine κ6 ?_ | refine χ5 ?_ | refine χ6 ?_ | refine χ7 ?_ | refine ω8 ?_
      refine ix j rd7 (by omega) ?_
      refine sto (s1.trans ec2) s2 ?_ (hv := hrk.one)
      repeat first | refine ω1 ?_ | refine ω2 ?_ | refine ω3 ?_ | refine ω4 ?_ | refine ω5 ?_ | refine χ1 ?_ | refine κ1 ?_ | refine κ2 ?_ | refine χ2 ?_ | refine κ3 ?_ | refine ω6 ?_ | refine ω7 ?_ | refine ω9 ?_ | refine κ4 ?_ | refine κ7 ?_ | refine κ8 ?_ | refine χ3 ?_ | refine χ4 ?_ | refine κ5 ?_ | refine κ6 ?_ | refine χ5 ?_ | refine χ6 ?_ | refine χ7 ?_ | refine ω8 ?_
      have elen : (qs.take j ++ ps.getD k z0 :: qs.drop j).length = qs.length + 1 := by simp; omega
      refine qround3 (k + 1) (.slice A6 (qs.length + 1) c6) (qs.take j ++ ps.getD k z0 :: qs.drop j) (by repeat' (first | exact Sub.nil | refine Sub.cons rfl ?_)) ⟨hx7.setCell s4 _, by omega, ?_, fun q hq => ?_, by omega, ?_⟩ (by omega)
      · rw [elen, List.map_append, List.map_cons, List.map_take, List.map_drop, hvals]; exact s3
      · rcases List.mem_append.1 hq with hq | hq
        · exact hq1 q (List.mem_of_mem_take hq)
        · rcases List.mem_cons.1 hq with hq | hq
          · rw [hq]; exact hrk
          · exact hq1 q (List.mem_of_mem_drop hq)
      · have e9 : (qs.take j ++ ps.getD k z0 :: qs.drop j).map (·.2) = (qs.map (·.2)).take j ++ (ps.getD k z0).2 :: (qs.map (·.2)).drop j := by rw [List.map_append, List.map_cons, List.map_take, List.map_drop]
        rw [e9]; exact hps
  · have hkn : k = ps.length := by have := of_decide_eq_false h; omega
    subst hkn
    repeat first | refine ω1 ?_ | refine ω2 ?_ | refine ω3 ?_ | refine ω4 ?_ | refine ω5 ?_ | refine χ1 ?_ | refine κ1 ?_ | refine κ2 ?_ | refine χ2 ?_ | refine κ3 ?_ | refine ω6 ?_ | refine ω7 ?_ | refine ω9 ?_ | refine κ4 ?_ | refine κ7 ?_ | refine κ8 ?_ | refine χ3 ?_ | refine χ4 ?_ | refine κ5 ?_ | refine κ6 ?_ | refine χ5 ?_ | refine χ6 ?_ | refine χ7 ?_ | refine ω8 ?_
    refine fin1 ⟨⟨qs.map (·.2), ?_, by rw [List.take_length] at hs1; exact hs1, by simpa using hql⟩, hx1⟩
    exact ⟨qs, A1, c1, rfl, rfl, hc1, by omega, Rd.own ho1, fun p hp => (hq1 p hp).ext hx1⟩
end Go.Proofs.Ytpahjnfolbnloaa
