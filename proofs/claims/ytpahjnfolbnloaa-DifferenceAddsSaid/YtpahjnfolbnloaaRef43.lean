/- The reference's lists of rows (Put, Of, Rank, Reverse); the laws' size limit. -/
import Derived.Test.YtpahjnfolbnloaaRef40
set_option linter.unusedVariables false
namespace Go.Proofs.Ytpahjnfolbnloaa
open Go.RowKit Pl Go.Wk
attribute [local irreducible] WC WL QX WD WDB WP
theorem bs0Rows (w : World) : (Instr.buildSlice 22 0 #[]).run Try.prog w = .ok (.slice (some ⟨w.heap.size, 0, none⟩) 0 0) (w.alloc (.cells ([] : List Value).toArray 25)) := by kernel_rfl
theorem RowV.ones {w : World} {ps : List Pr} (h : ∀ p ∈ ps, RowV w p.1 p.2) : ∀ u ∈ ps.map (·.1), u.oneCell' = true := by
  intro u hu; obtain ⟨p, hp, rfl⟩ := List.mem_map.1 hu; exact (h p hp).one
set_option maxRecDepth 100000 in
theorem put_any {v vr vd : Value} {l : List Row} {r : Row} {ds : List Bool} {w : World} (hl : RowsV w v l) (hr : RowV w vr r) (hd : BoolsV w vd ds) (hlt : Lt ds l) (hlen : l.length ≤ 1000000) :
    Ret Try.prog 53 [v, vr, vd] w fun x w' => RowsV w' x (putL ds l r) ∧ Ext w w' := by
  obtain ⟨ps, A, c, rfl, rfl, h3, h4, h5, h6⟩ := id hl
  have hn : ps.length ≤ 1000000 := by simpa using hlen
  obtain ⟨B, bc, hvr, hbc, hbm, hbr⟩ := id hr
  refine enterR Try.func53 Try.ntmps53 rfl (by kernel_rfl) rfl ?_
  repeat first | refine ω1 ?_ | refine ω2 ?_ | refine ω3 ?_ | refine ω4 ?_ | refine ω5 ?_ | refine χ1 ?_ | refine κ1 ?_ | refine κ2 ?_ | refine χ2 ?_ | refine κ3 ?_ | refine ω6 ?_ | refine ω7 ?_ | refine ω9 ?_ | refine κ4 ?_ | refine κ7 ?_ | refine κ8 ?_ | refine χ3 ?_ | refine χ4 ?_ | refine κ5 ?_ | refine κ6 ?_ | refine χ5 ?_ | refine χ6 ?_ | refine χ7 ?_ | refine ω8 ?_
  refine wloop1 (fun k => [(0, .slice A ps.length c), (1, vr), (2, vd), (7, .int .i64 ((k : Nat) : Int))])
    (fun k w' => Ext w w' ∧ k ≤ ps.length ∧ ∀ i, i < k → cmpR ((ps.map (·.2)).getD i []) r ds < 0) (fun k => ps.length - k) 0 (by repeat' (first | exact Sub.nil | refine Sub.cons rfl ?_)) ⟨Ext.refl w, Nat.zero_le _, fun i hi => by omega⟩ ?_
  rintro k w1 ⟨hx1, hk, hp⟩
  repeat first | refine ω1 ?_ | refine ω2 ?_ | refine ω3 ?_ | refine ω4 ?_ | refine ω5 ?_ | refine χ1 ?_ | refine κ1 ?_ | refine κ2 ?_ | refine χ2 ?_ | refine κ3 ?_ | refine ω6 ?_ | refine ω7 ?_ | refine ω9 ?_ | refine κ4 ?_ | refine κ7 ?_ | refine κ8 ?_ | refine χ3 ?_ | refine χ4 ?_ | refine κ5 ?_ | refine κ6 ?_ | refine χ5 ?_ | refine χ6 ?_ | refine χ7 ?_ | refine ω8 ?_
  refine wljoin1 (fun (t : Bool) => [(0, .slice A ps.length c), (1, vr), (2, vd), (7, .int .i64 ((k : Nat) : Int)), (22, .bool t)])
    (fun t w2 => Ext w1 w2 ∧ t = decide (k < ps.length ∧ cmpR ((ps.map (·.2)).getD k []) r ds < 0)) ?_ ?_
  · refine ki 13 (fun h => ?_) (fun h => ?_)
    · have hlt : k < ps.length := by have := of_decide_eq_true h; omega
      repeat first | refine ω1 ?_ | refine ω2 ?_ | refine ω3 ?_ | refine ω4 ?_ | refine ω5 ?_ | refine χ1 ?_ | refine κ1 ?_ | refine κ2 ?_ | refine χ2 ?_ | refine κ3 ?_ | refine ω6 ?_ | refine ω7 ?_ | refine ω9 ?_ | refine κ4 ?_ | refine κ7 ?_ | refine κ8 ?_ | refine χ3 ?_ | refine χ4 ?_ | refine κ5 ?_ | refine κ6 ?_ | refine χ5 ?_ | refine χ6 ?_ | refine χ7 ?_ | refine ω8 ?_
      refine ix k (h5.ext hx1) hlt ?_
      repeat first | refine ω1 ?_ | refine ω2 ?_ | refine ω3 ?_ | refine ω4 ?_ | refine ω5 ?_ | refine χ1 ?_ | refine κ1 ?_ | refine κ2 ?_ | refine χ2 ?_ | refine κ3 ?_ | refine ω6 ?_ | refine ω7 ?_ | refine ω9 ?_ | refine κ4 ?_ | refine κ7 ?_ | refine κ8 ?_ | refine χ3 ?_ | refine χ4 ?_ | refine κ5 ?_ | refine κ6 ?_ | refine χ5 ?_ | refine χ6 ?_ | refine χ7 ?_ | refine ω8 ?_
      refine ld ((h5.ext hx1).cell (ps_get hlt)) ?_
      repeat first | refine ω1 ?_ | refine ω2 ?_ | refine ω3 ?_ | refine ω4 ?_ | refine ω5 ?_ | refine χ1 ?_ | refine κ1 ?_ | refine κ2 ?_ | refine χ2 ?_ | refine κ3 ?_ | refine ω6 ?_ | refine ω7 ?_ | refine ω9 ?_ | refine κ4 ?_ | refine κ7 ?_ | refine κ8 ?_ | refine χ3 ?_ | refine χ4 ?_ | refine κ5 ?_ | refine κ6 ?_ | refine χ5 ?_ | refine χ6 ?_ | refine χ7 ?_ | refine ω8 ?_
      refine cl (ref40C_any ((h6 _ (getD_mem' z0 ps hlt)).ext hx1) (hr.ext hx1) (hd.ext hx1)) ?_
      rintro x w2 ⟨⟨cc, rfl, hc1, hc2⟩, hx2⟩
      repeat first | refine ω1 ?_ | refine ω2 ?_ | refine ω3 ?_ | refine ω4 ?_ | refine ω5 ?_ | refine χ1 ?_ | refine κ1 ?_ | refine κ2 ?_ | refine χ2 ?_ | refine κ3 ?_ | refine ω6 ?_ | refine ω7 ?_ | refine ω9 ?_ | refine κ4 ?_ | refine κ7 ?_ | refine κ8 ?_ | refine χ3 ?_ | refine χ4 ?_ | refine κ5 ?_ | refine κ6 ?_ | refine χ5 ?_ | refine χ6 ?_ | refine χ7 ?_ | refine ω8 ?_
      refine qjoin1 _ (by repeat' (first | exact Sub.nil | refine Sub.cons rfl ?_)) ⟨hx2, ?_⟩
      rw [Bool.eq_iff_iff, decide_eq_true_iff, decide_eq_true_iff, hc1, ls_get]
      exact ⟨fun h => ⟨hlt, h⟩, fun h => h.2⟩
    · have hlt : ¬ k < ps.length := by have := of_decide_eq_false h; omega
      repeat first | refine ω1 ?_ | refine ω2 ?_ | refine ω3 ?_ | refine ω4 ?_ | refine ω5 ?_ | refine χ1 ?_ | refine κ1 ?_ | refine κ2 ?_ | refine χ2 ?_ | refine κ3 ?_ | refine ω6 ?_ | refine ω7 ?_ | refine ω9 ?_ | refine κ4 ?_ | refine κ7 ?_ | refine κ8 ?_ | refine χ3 ?_ | refine χ4 ?_ | refine κ5 ?_ | refine κ6 ?_ | refine χ5 ?_ | refine χ6 ?_ | refine χ7 ?_ | refine ω8 ?_
      exact qjoin1 false (by repeat' (first | exact Sub.nil | refine Sub.cons rfl ?_)) ⟨Ext.refl _, (decide_eq_false (fun h => hlt h.1)).symm⟩
  rintro t w2 ⟨hx2, rfl⟩
  have hx12 := hx1.trans hx2
  repeat first | refine ω1 ?_ | refine ω2 ?_ | refine ω3 ?_ | refine ω4 ?_ | refine ω5 ?_ | refine χ1 ?_ | refine κ1 ?_ | refine κ2 ?_ | refine χ2 ?_ | refine κ3 ?_ | refine ω6 ?_ | refine ω7 ?_ | refine ω9 ?_ | refine κ4 ?_ | refine κ7 ?_ | refine κ8 ?_ | refine χ3 ?_ | refine χ4 ?_ | refine κ5 ?_ | refine κ6 ?_ | refine χ5 ?_ | refine χ6 ?_ | refine χ7 ?_ | refine ω8 ?_
  refine ci (fun h => ?_) (fun h => ?_)
  · obtain ⟨hlt, hc⟩ := of_decide_eq_true h
    repeat first | refine ω1 ?_ | refine ω2 ?_ | refine ω3 ?_ | refine ω4 ?_ | refine ω5 ?_ | refine χ1 ?_ | refine κ1 ?_ | refine κ2 ?_ | refine χ2 ?_ | refine κ3 ?_ | refine ω6 ?_ | refine ω7 ?_ | refine ω9 ?_ | refine κ4 ?_ | refine κ7 ?_ | refine κ8 ?_ | refine χ3 ?_ | refine χ4 ?_ | refine κ5 ?_ | refine κ6 ?_ | refine χ5 ?_ | refine χ6 ?_ | refine χ7 ?_ | refine ω8 ?_
    refine qround1 (k + 1) (by repeat' (first | exact Sub.nil | refine Sub.cons rfl ?_)) ⟨hx12, by omega, fun i hi => ?_⟩ (by omega)
    by_cases e : i = k
    · rw [e]; exact hc
    · exact hp i (by omega)
  have hstop := of_decide_eq_false h
  obtain ⟨hcnt, hmem⟩ := rank_at hlt (r := r) (k := k) (by simpa using hk) (by
    by_cases h0 : k = 0
    · exact .inl h0
    · exact .inr (hp (k - 1) (by omega))) (by
    by_cases h0 : k < ps.length
    · exact .inr (fun h' => hstop ⟨h0, h'⟩)
    · exact .inl (by simp; omega))
  repeat first | refine ω1 ?_ | refine ω2 ?_ | refine ω3 ?_ | refine ω4 ?_ | refine ω5 ?_ | refine χ1 ?_ | refine κ1 ?_ | refine κ2 ?_ | refine χ2 ?_ | refine κ3 ?_ | refine ω6 ?_ | refine ω7 ?_ | refine ω9 ?_ | refine κ4 ?_ | refine κ7 ?_ | refine κ8 ?_ | refine χ3 ?_ | refine χ4 ?_ | refine κ5 ?_ | refine κ6 ?_ | refine χ5 ?_ | refine χ6 ?_ | refine χ7 ?_ | refine ω8 ?_
  refine wljoin1 (fun (t : Bool) => [(0, .slice A ps.length c), (1, vr), (7, .int .i64 ((k : Nat) : Int)), (36, .bool t)])
    (fun t w3 => Ext w2 w3 ∧ t = decide (r ∈ ps.map (·.2))) ?_ ?_
  · refine ki 29 (fun h => ?_) (fun h => ?_)
    · have hlt : k < ps.length := by have := of_decide_eq_true h; omega
      repeat first | refine ω1 ?_ | refine ω2 ?_ | refine ω3 ?_ | refine ω4 ?_ | refine ω5 ?_ | refine χ1 ?_ | refine κ1 ?_ | refine κ2 ?_ | refine χ2 ?_ | refine κ3 ?_ | refine ω6 ?_ | refine ω7 ?_ | refine ω9 ?_ | refine κ4 ?_ | refine κ7 ?_ | refine κ8 ?_ | refine χ3 ?_ | refine χ4 ?_ | refine κ5 ?_ | refine κ6 ?_ | refine χ5 ?_ | refine χ6 ?_ | refine χ7 ?_ | refine ω8 ?_
      refine ix k (h5.ext hx12) hlt ?_
      repeat first | refine ω1 ?_ | refine ω2 ?_ | refine ω3 ?_ | refine ω4 ?_ | refine ω5 ?_ | refine χ1 ?_ | refine κ1 ?_ | refine κ2 ?_ | refine χ2 ?_ | refine κ3 ?_ | refine ω6 ?_ | refine ω7 ?_ | refine ω9 ?_ | refine κ4 ?_ | refine κ7 ?_ | refine κ8 ?_ | refine χ3 ?_ | refine χ4 ?_ | refine κ5 ?_ | refine κ6 ?_ | refine χ5 ?_ | refine χ6 ?_ | refine χ7 ?_ | refine ω8 ?_
      refine ld ((h5.ext hx12).cell (ps_get hlt)) ?_
      repeat first | refine ω1 ?_ | refine ω2 ?_ | refine ω3 ?_ | refine ω4 ?_ | refine ω5 ?_ | refine χ1 ?_ | refine κ1 ?_ | refine κ2 ?_ | refine χ2 ?_ | refine κ3 ?_ | refine ω6 ?_ | refine ω7 ?_ | refine ω9 ?_ | refine κ4 ?_ | refine κ7 ?_ | refine κ8 ?_ | refine χ3 ?_ | refine χ4 ?_ | refine κ5 ?_ | refine κ6 ?_ | refine χ5 ?_ | refine χ6 ?_ | refine χ7 ?_ | refine ω8 ?_
      refine cl (same40_any ((h6 _ (getD_mem' z0 ps hlt)).ext hx12) (hr.ext hx12)) ?_
      rintro x w3 ⟨rfl, hx3⟩
      repeat first | refine ω1 ?_ | refine ω2 ?_ | refine ω3 ?_ | refine ω4 ?_ | refine ω5 ?_ | refine χ1 ?_ | refine κ1 ?_ | refine κ2 ?_ | refine χ2 ?_ | refine κ3 ?_ | refine ω6 ?_ | refine ω7 ?_ | refine ω9 ?_ | refine κ4 ?_ | refine κ7 ?_ | refine κ8 ?_ | refine χ3 ?_ | refine χ4 ?_ | refine κ5 ?_ | refine κ6 ?_ | refine χ5 ?_ | refine χ6 ?_ | refine χ7 ?_ | refine ω8 ?_
      refine qjoin1 _ (by repeat' (first | exact Sub.nil | refine Sub.cons rfl ?_)) ⟨hx3, ?_⟩
      rw [Bool.eq_iff_iff, decide_eq_true_iff, decide_eq_true_iff, hmem, ls_get]
      exact ⟨fun h => ⟨by simpa using hlt, h⟩, fun h => h.2⟩
    · have hlt : ¬ k < ps.length := by have := of_decide_eq_false h; omega
      repeat first | refine ω1 ?_ | refine ω2 ?_ | refine ω3 ?_ | refine ω4 ?_ | refine ω5 ?_ | refine χ1 ?_ | refine κ1 ?_ | refine κ2 ?_ | refine χ2 ?_ | refine κ3 ?_ | refine ω6 ?_ | refine ω7 ?_ | refine ω9 ?_ | refine κ4 ?_ | refine κ7 ?_ | refine κ8 ?_ | refine χ3 ?_ | refine χ4 ?_ | refine κ5 ?_ | refine κ6 ?_ | refine χ5 ?_ | refine χ6 ?_ | refine χ7 ?_ | refine ω8 ?_
      refine qjoin1 false (by repeat' (first | exact Sub.nil | refine Sub.cons rfl ?_)) ⟨Ext.refl _, (decide_eq_false (fun h => ?_)).symm⟩
      have := (hmem.1 h).1
      simp at this; omega
  rintro t w3 ⟨hx3, rfl⟩
  have hx13 := hx12.trans hx3
  repeat first | refine ω1 ?_ | refine ω2 ?_ | refine ω3 ?_ | refine ω4 ?_ | refine ω5 ?_ | refine χ1 ?_ | refine κ1 ?_ | refine κ2 ?_ | refine χ2 ?_ | refine κ3 ?_ | refine ω6 ?_ | refine ω7 ?_ | refine ω9 ?_ | refine κ4 ?_ | refine κ7 ?_ | refine κ8 ?_ | refine χ3 ?_ | refine χ4 ?_ | refine κ5 ?_ | refine κ6 ?_ | refine χ5 ?_ | refine χ6 ?_ | refine χ7 ?_ | refine ω8 ?_
  refine ci (fun h => ?_) (fun h => ?_)
  · have hin := of_decide_eq_true h
    repeat first | refine ω1 ?_ | refine ω2 ?_ | refine ω3 ?_ | refine ω4 ?_ | refine ω5 ?_ | refine χ1 ?_ | refine κ1 ?_ | refine κ2 ?_ | refine χ2 ?_ | refine κ3 ?_ | refine ω6 ?_ | refine ω7 ?_ | refine ω9 ?_ | refine κ4 ?_ | refine κ7 ?_ | refine κ8 ?_ | refine χ3 ?_ | refine χ4 ?_ | refine κ5 ?_ | refine κ6 ?_ | refine χ5 ?_ | refine χ6 ?_ | refine χ7 ?_ | refine ω8 ?_
    refine fin1 ⟨?_, hx13⟩
    unfold putL
    rw [if_pos hin]; exact hl.ext hx13
  have hin := of_decide_eq_false h
  have hone := RowV.ones h6
  repeat first | refine ω1 ?_ | refine ω2 ?_ | refine ω3 ?_ | refine ω4 ?_ | refine ω5 ?_ | refine χ1 ?_ | refine κ1 ?_ | refine κ2 ?_ | refine χ2 ?_ | refine κ3 ?_ | refine ω6 ?_ | refine ω7 ?_ | refine ω9 ?_ | refine κ4 ?_ | refine κ7 ?_ | refine κ8 ?_ | refine χ3 ?_ | refine χ4 ?_ | refine κ5 ?_ | refine κ6 ?_ | refine χ5 ?_ | refine χ6 ?_ | refine χ7 ?_ | refine ω8 ?_
  refine bsl bs0Rows ?_
  intro w4 b hx4 hb4 hk4
  have hx14 := hx13.trans hx4
  repeat first | refine ω1 ?_ | refine ω2 ?_ | refine ω3 ?_ | refine ω4 ?_ | refine ω5 ?_ | refine χ1 ?_ | refine κ1 ?_ | refine κ2 ?_ | refine χ2 ?_ | refine κ3 ?_ | refine ω6 ?_ | refine ω7 ?_ | refine ω9 ?_ | refine κ4 ?_ | refine κ7 ?_ | refine κ8 ?_ | refine χ3 ?_ | refine χ4 ?_ | refine κ5 ?_ | refine κ6 ?_ | refine χ5 ?_ | refine χ6 ?_ | refine χ7 ?_ | refine ω8 ?_
  refine slh k ?_
  repeat first | refine ω1 ?_ | refine ω2 ?_ | refine ω3 ?_ | refine ω4 ?_ | refine ω5 ?_ | refine χ1 ?_ | refine κ1 ?_ | refine κ2 ?_ | refine χ2 ?_ | refine κ3 ?_ | refine ω6 ?_ | refine ω7 ?_ | refine ω9 ?_ | refine κ4 ?_ | refine κ7 ?_ | refine κ8 ?_ | refine χ3 ?_ | refine χ4 ?_ | refine κ5 ?_ | refine κ6 ?_ | refine χ5 ?_ | refine χ6 ?_ | refine χ7 ?_ | refine ω8 ?_
  refine apo (a := w) hx14 ER (hk4.own (n := 0) (by have := hx13.size; omega) rfl (Nat.zero_le _)) ((h5.ext hx14).take (m := k) hk) (fun u hu => hone u (List.mem_of_mem_take hu)) (by unfold maxLen; omega) (by omega) ?_
  intro v5 w5 ho5 hx5 _ _
  rw [Nat.mul_one] at ho5
  repeat first | refine ω1 ?_ | refine ω2 ?_ | refine ω3 ?_ | refine ω4 ?_ | refine ω5 ?_ | refine χ1 ?_ | refine κ1 ?_ | refine κ2 ?_ | refine χ2 ?_ | refine κ3 ?_ | refine ω6 ?_ | refine ω7 ?_ | refine ω9 ?_ | refine κ4 ?_ | refine κ7 ?_ | refine κ8 ?_ | refine χ3 ?_ | refine χ4 ?_ | refine κ5 ?_ | refine κ6 ?_ | refine χ5 ?_ | refine χ6 ?_ | refine χ7 ?_ | refine ω8 ?_
  refine bsl (fun w => bs1Row vr w B _ bc hvr) ?_
  intro w6 b6 hx6 hb6 hk6
  repeat first | refine ω1 ?_ | refine ω2 ?_ | refine ω3 ?_ | refine ω4 ?_ | refine ω5 ?_ | refine χ1 ?_ | refine κ1 ?_ | refine κ2 ?_ | refine χ2 ?_ | refine κ3 ?_ | refine ω6 ?_ | refine ω7 ?_ | refine ω9 ?_ | refine κ4 ?_ | refine κ7 ?_ | refine κ8 ?_ | refine χ3 ?_ | refine χ4 ?_ | refine κ5 ?_ | refine κ6 ?_ | refine χ5 ?_ | refine χ6 ?_ | refine χ7 ?_ | refine ω8 ?_
  refine apo (a := w) (hx5.trans hx6) ER (own_ext ho5 hx6) hk6.one (fun u hu => by rw [List.mem_singleton.1 hu]; exact hr.one) (by unfold maxLen; omega) (by omega) ?_
  intro v7 w7 ho7 hx7 _ _
  repeat first | refine ω1 ?_ | refine ω2 ?_ | refine ω3 ?_ | refine ω4 ?_ | refine ω5 ?_ | refine χ1 ?_ | refine κ1 ?_ | refine κ2 ?_ | refine χ2 ?_ | refine κ3 ?_ | refine ω6 ?_ | refine ω7 ?_ | refine ω9 ?_ | refine κ4 ?_ | refine κ7 ?_ | refine κ8 ?_ | refine χ3 ?_ | refine χ4 ?_ | refine κ5 ?_ | refine κ6 ?_ | refine χ5 ?_ | refine χ6 ?_ | refine χ7 ?_ | refine ω8 ?_
  refine sll k ?_
  repeat first | refine ω1 ?_ | refine ω2 ?_ | refine ω3 ?_ | refine ω4 ?_ | refine ω5 ?_ | refine χ1 ?_ | refine κ1 ?_ | refine κ2 ?_ | refine χ2 ?_ | refine κ3 ?_ | refine ω6 ?_ | refine ω7 ?_ | refine ω9 ?_ | refine κ4 ?_ | refine κ7 ?_ | refine κ8 ?_ | refine χ3 ?_ | refine χ4 ?_ | refine κ5 ?_ | refine κ6 ?_ | refine χ5 ?_ | refine χ6 ?_ | refine χ7 ?_ | refine ω8 ?_
  refine apo (a := w) hx7 ER ho7 ((h5.ext hx7).drop (k := k) (c := c) hk h3) (fun u hu => hone u (List.mem_of_mem_drop hu)) (by unfold maxLen; omega) (by omega) ?_
  intro v8 w8 ho8 hx8 _ _
  rw [Nat.mul_one] at ho8
  repeat first | refine ω1 ?_ | refine ω2 ?_ | refine ω3 ?_ | refine ω4 ?_ | refine ω5 ?_ | refine χ1 ?_ | refine κ1 ?_ | refine κ2 ?_ | refine χ2 ?_ | refine κ3 ?_ | refine ω6 ?_ | refine ω7 ?_ | refine ω9 ?_ | refine κ4 ?_ | refine κ7 ?_ | refine κ8 ?_ | refine χ3 ?_ | refine χ4 ?_ | refine κ5 ?_ | refine κ6 ?_ | refine χ5 ?_ | refine χ6 ?_ | refine χ7 ?_ | refine ω8 ?_
  refine fin1 ⟨?_, hx8⟩
  have e0 : putL ds (ps.map (·.2)) r = (ps.take k ++ [(vr, r)] ++ ps.drop k).map (·.2) := by
    unfold putL
    rw [if_neg hin, hcnt]; simp
  have el : (ps.take k ++ [(vr, r)] ++ ps.drop k).length = 0 + k + 1 + (ps.length - k) := by simp; omega
  have ec : (ps.take k ++ [(vr, r)] ++ ps.drop k).map (·.1) = [] ++ (ps.map (·.1)).take k ++ [vr] ++ (ps.map (·.1)).drop k := by simp
  rw [e0]
  obtain ⟨A8, c8, rfl, hc8, _⟩ := own_form ho8
  refine ⟨_, A8, c8, rfl, by rw [el], by rw [el]; exact hc8, by rw [el]; omega, by rw [el, ec]; exact Rd.own ho8, fun p hp => ?_⟩
  simp only [List.mem_append, List.mem_singleton] at hp
  rcases hp with (hp | hp) | hp
  · exact (h6 p (List.mem_of_mem_take hp)).ext hx8
  · rw [hp]; exact hr.ext hx8
  · exact (h6 p (List.mem_of_mem_drop hp)).ext hx8
theorem putL_len (ds : List Bool) (l : List Row) (r : Row) : (putL ds l r).length ≤ l.length + 1 := by
  unfold putL
  split
  · omega
  · have := cnt_le ds l r; simp; omega
set_option maxRecDepth 100000 in
theorem refOf_any {v vd : Value} {l : List Row} {ds : List Bool} {w : World} (hl : RowsV w v l) (hd : BoolsV w vd ds) (hlen : l.length ≤ 1000000) :
    Ret Try.prog 15 [v, vd] w fun x w' => (∃ m, RowsV w' x m ∧ IsSet ds l m ∧ m.length ≤ l.length) ∧ Ext w w' := by
  obtain ⟨A, c, rfl, hc, hm, cs, hrd, hcs⟩ := hl.parts
  refine enterR Try.func15 Try.ntmps15 rfl (by kernel_rfl) rfl ?_
  repeat first | refine ω1 ?_ | refine ω2 ?_ | refine ω3 ?_ | refine ω4 ?_ | refine ω5 ?_ | refine χ1 ?_ | refine κ1 ?_ | refine κ2 ?_ | refine χ2 ?_ | refine κ3 ?_ | refine ω6 ?_ | refine ω7 ?_ | refine ω9 ?_ | refine κ4 ?_ | refine κ7 ?_ | refine κ8 ?_ | refine χ3 ?_ | refine χ4 ?_ | refine κ5 ?_ | refine κ6 ?_ | refine χ5 ?_ | refine χ6 ?_ | refine χ7 ?_ | refine ω8 ?_
  refine wloop3 (fun (k : Nat) (v5 : Value) (m : List Row) => [(0, .slice A l.length c), (1, vd), (5, v5), (6, .int .i64 ((k : Nat) : Int))])
    (fun k v5 m w' => Ext w w' ∧ k ≤ l.length ∧ RowsV w' v5 m ∧ IsSet ds (l.take k) m ∧ m.length ≤ k) (fun k _ _ => l.length - k) 0 (.slice none 0 0) [] (by repeat' (first | exact Sub.nil | refine Sub.cons rfl ?_))
    ⟨Ext.refl w, Nat.zero_le _, RowsV.nil _ _ _, ⟨List.Pairwise.nil, fun x => by simp⟩, Nat.zero_le _⟩ ?_
  rintro k v5 m w1 ⟨hx1, hk, hm1, hs1, hl1⟩
  repeat first | refine ω1 ?_ | refine ω2 ?_ | refine ω3 ?_ | refine ω4 ?_ | refine ω5 ?_ | refine χ1 ?_ | refine κ1 ?_ | refine κ2 ?_ | refine χ2 ?_ | refine κ3 ?_ | refine ω6 ?_ | refine ω7 ?_ | refine ω9 ?_ | refine κ4 ?_ | refine κ7 ?_ | refine κ8 ?_ | refine χ3 ?_ | refine χ4 ?_ | refine κ5 ?_ | refine κ6 ?_ | refine χ5 ?_ | refine χ6 ?_ | refine χ7 ?_ | refine ω8 ?_
  refine ci (fun h => ?_) (fun h => ?_)
  · have hlt : k < l.length := by have := of_decide_eq_true h; omega
    obtain ⟨u, hu, hru⟩ := hcs k hlt
    repeat first | refine ω1 ?_ | refine ω2 ?_ | refine ω3 ?_ | refine ω4 ?_ | refine ω5 ?_ | refine χ1 ?_ | refine κ1 ?_ | refine κ2 ?_ | refine χ2 ?_ | refine κ3 ?_ | refine ω6 ?_ | refine ω7 ?_ | refine ω9 ?_ | refine κ4 ?_ | refine κ7 ?_ | refine κ8 ?_ | refine χ3 ?_ | refine χ4 ?_ | refine κ5 ?_ | refine κ6 ?_ | refine χ5 ?_ | refine χ6 ?_ | refine χ7 ?_ | refine ω8 ?_
    refine ix k (hrd.ext hx1) hlt ?_
    repeat first | refine ω1 ?_ | refine ω2 ?_ | refine ω3 ?_ | refine ω4 ?_ | refine ω5 ?_ | refine χ1 ?_ | refine κ1 ?_ | refine κ2 ?_ | refine χ2 ?_ | refine κ3 ?_ | refine ω6 ?_ | refine ω7 ?_ | refine ω9 ?_ | refine κ4 ?_ | refine κ7 ?_ | refine κ8 ?_ | refine χ3 ?_ | refine χ4 ?_ | refine κ5 ?_ | refine κ6 ?_ | refine χ5 ?_ | refine χ6 ?_ | refine χ7 ?_ | refine ω8 ?_
    refine ld ((hrd.ext hx1).cell hu) ?_
    repeat first | refine ω1 ?_ | refine ω2 ?_ | refine ω3 ?_ | refine ω4 ?_ | refine ω5 ?_ | refine χ1 ?_ | refine κ1 ?_ | refine κ2 ?_ | refine χ2 ?_ | refine κ3 ?_ | refine ω6 ?_ | refine ω7 ?_ | refine ω9 ?_ | refine κ4 ?_ | refine κ7 ?_ | refine κ8 ?_ | refine χ3 ?_ | refine χ4 ?_ | refine κ5 ?_ | refine κ6 ?_ | refine χ5 ?_ | refine χ6 ?_ | refine χ7 ?_ | refine ω8 ?_
    refine cl (put_any hm1 (hru.ext hx1) (hd.ext hx1) hs1.1 (by omega)) ?_
    rintro x w2 ⟨hp2, hx2⟩
    repeat first | refine ω1 ?_ | refine ω2 ?_ | refine ω3 ?_ | refine ω4 ?_ | refine ω5 ?_ | refine χ1 ?_ | refine κ1 ?_ | refine κ2 ?_ | refine χ2 ?_ | refine κ3 ?_ | refine ω6 ?_ | refine ω7 ?_ | refine ω9 ?_ | refine κ4 ?_ | refine κ7 ?_ | refine κ8 ?_ | refine χ3 ?_ | refine χ4 ?_ | refine κ5 ?_ | refine κ6 ?_ | refine χ5 ?_ | refine χ6 ?_ | refine χ7 ?_ | refine ω8 ?_
    refine qround3 (k + 1) x (putL ds m (l.getD k [])) (by repeat' (first | exact Sub.nil | refine Sub.cons rfl ?_)) ⟨hx1.trans hx2, by omega, hp2, ?_, ?_⟩ (by omega)
    · rw [List.take_succ_eq_append_getElem hlt, ← getD_get [] l hlt]; exact put_set hs1
    · have := putL_len ds m (l.getD k []); omega
  · have hkn : k = l.length := by have := of_decide_eq_false h; omega
    subst hkn
    repeat first | refine ω1 ?_ | refine ω2 ?_ | refine ω3 ?_ | refine ω4 ?_ | refine ω5 ?_ | refine χ1 ?_ | refine κ1 ?_ | refine κ2 ?_ | refine χ2 ?_ | refine κ3 ?_ | refine ω6 ?_ | refine ω7 ?_ | refine ω9 ?_ | refine κ4 ?_ | refine κ7 ?_ | refine κ8 ?_ | refine χ3 ?_ | refine χ4 ?_ | refine κ5 ?_ | refine κ6 ?_ | refine χ5 ?_ | refine χ6 ?_ | refine χ7 ?_ | refine ω8 ?_
    rw [List.take_length] at hs1
    exact fin1 ⟨⟨m, hm1, hs1, hl1⟩, hx1⟩
theorem cnt_snoc (ds : List Bool) (l : List Row) (x r : Row) : cnt ds (l ++ [x]) r = cnt ds l r + if cmpR x r ds < 0 then 1 else 0 := by
  unfold cnt
  rw [List.filter_append, List.length_append]
  congr 1
  by_cases h : cmpR x r ds < 0
  · rw [if_pos h]; simp [h]
  · rw [if_neg h]; simp [h]
set_option maxRecDepth 100000 in
theorem refRank_any {v vr vd : Value} {l : List Row} {r : Row} {ds : List Bool} {w : World} (hl : RowsV w v l) (hr : RowV w vr r) (hd : BoolsV w vd ds) :
    Ret Try.prog 17 [v, vr, vd] w fun x w' => x = .tuple #[.int .i64 (cnt ds l r : Int), .bool (decide (r ∈ l))] ∧ Ext w w' := by
  obtain ⟨A, c, rfl, hc, hm, cs, hrd, hcs⟩ := hl.parts
  refine enterR Try.func17 Try.ntmps17 rfl (by kernel_rfl) rfl ?_
  repeat first | refine ω1 ?_ | refine ω2 ?_ | refine ω3 ?_ | refine ω4 ?_ | refine ω5 ?_ | refine χ1 ?_ | refine κ1 ?_ | refine κ2 ?_ | refine χ2 ?_ | refine κ3 ?_ | refine ω6 ?_ | refine ω7 ?_ | refine ω9 ?_ | refine κ4 ?_ | refine κ7 ?_ | refine κ8 ?_ | refine χ3 ?_ | refine χ4 ?_ | refine κ5 ?_ | refine κ6 ?_ | refine χ5 ?_ | refine χ6 ?_ | refine χ7 ?_ | refine ω8 ?_
  refine wloop1 (fun (k : Nat) => [(0, .slice A l.length c), (1, vr), (2, vd), (8, .int .i64 (cnt ds (l.take k) r : Int)), (9, .bool (decide (r ∈ l.take k))), (10, .int .i64 ((k : Nat) : Int))])
    (fun k w' => Ext w w' ∧ k ≤ l.length) (fun k => l.length - k) 0 (by repeat' (first | exact Sub.nil | refine Sub.cons rfl ?_)) ⟨Ext.refl w, Nat.zero_le _⟩ ?_
  rintro k w1 ⟨hx1, hk⟩
  have hcl := cnt_le ds (l.take k) r
  rw [List.length_take] at hcl
  repeat first | refine ω1 ?_ | refine ω2 ?_ | refine ω3 ?_ | refine ω4 ?_ | refine ω5 ?_ | refine χ1 ?_ | refine κ1 ?_ | refine κ2 ?_ | refine χ2 ?_ | refine κ3 ?_ | refine ω6 ?_ | refine ω7 ?_ | refine ω9 ?_ | refine κ4 ?_ | refine κ7 ?_ | refine κ8 ?_ | refine χ3 ?_ | refine χ4 ?_ | refine κ5 ?_ | refine κ6 ?_ | refine χ5 ?_ | refine χ6 ?_ | refine χ7 ?_ | refine ω8 ?_
  refine ci (fun h => ?_) (fun h => ?_)
  · have hlt : k < l.length := by have := of_decide_eq_true h; omega
    obtain ⟨u, hu, hru⟩ := hcs k hlt
    have es : l.take (k + 1) = l.take k ++ [l.getD k []] := by rw [List.take_succ_eq_append_getElem hlt, getD_get [] l hlt]
    repeat first | refine ω1 ?_ | refine ω2 ?_ | refine ω3 ?_ | refine ω4 ?_ | refine ω5 ?_ | refine χ1 ?_ | refine κ1 ?_ | refine κ2 ?_ | refine χ2 ?_ | refine κ3 ?_ | refine ω6 ?_ | refine ω7 ?_ | refine ω9 ?_ | refine κ4 ?_ | refine κ7 ?_ | refine κ8 ?_ | refine χ3 ?_ | refine χ4 ?_ | refine κ5 ?_ | refine κ6 ?_ | refine χ5 ?_ | refine χ6 ?_ | refine χ7 ?_ | refine ω8 ?_
    refine ix k (hrd.ext hx1) hlt ?_
    repeat first | refine ω1 ?_ | refine ω2 ?_ | refine ω3 ?_ | refine ω4 ?_ | refine ω5 ?_ | refine χ1 ?_ | refine κ1 ?_ | refine κ2 ?_ | refine χ2 ?_ | refine κ3 ?_ | refine ω6 ?_ | refine ω7 ?_ | refine ω9 ?_ | refine κ4 ?_ | refine κ7 ?_ | refine κ8 ?_ | refine χ3 ?_ | refine χ4 ?_ | refine κ5 ?_ | refine κ6 ?_ | refine χ5 ?_ | refine χ6 ?_ | refine χ7 ?_ | refine ω8 ?_
    refine ld ((hrd.ext hx1).cell hu) ?_
    repeat first | refine ω1 ?_ | refine ω2 ?_ | refine ω3 ?_ | refine ω4 ?_ | refine ω5 ?_ | refine χ1 ?_ | refine κ1 ?_ | refine κ2 ?_ | refine χ2 ?_ | refine κ3 ?_ | refine ω6 ?_ | refine ω7 ?_ | refine ω9 ?_ | refine κ4 ?_ | refine κ7 ?_ | refine κ8 ?_ | refine χ3 ?_ | refine χ4 ?_ | refine κ5 ?_ | refine κ6 ?_ | refine χ5 ?_ | refine χ6 ?_ | refine χ7 ?_ | refine ω8 ?_
    refine cl (ref40C_any (hru.ext hx1) (hr.ext hx1) (hd.ext hx1)) ?_
    rintro x w2 ⟨⟨cc, rfl, hc1, hc2⟩, hx2⟩
    repeat first | refine ω1 ?_ | refine ω2 ?_ | refine ω3 ?_ | refine ω4 ?_ | refine ω5 ?_ | refine χ1 ?_ | refine κ1 ?_ | refine κ2 ?_ | refine χ2 ?_ | refine κ3 ?_ | refine ω6 ?_ | refine ω7 ?_ | refine ω9 ?_ | refine κ4 ?_ | refine κ7 ?_ | refine κ8 ?_ | refine χ3 ?_ | refine χ4 ?_ | refine κ5 ?_ | refine κ6 ?_ | refine χ5 ?_ | refine χ6 ?_ | refine χ7 ?_ | refine ω8 ?_
    refine wjoin0 [(0, .slice A l.length c), (1, vr), (2, vd), (8, .int .i64 (cnt ds (l.take (k + 1)) r : Int)), (9, .bool (decide (r ∈ l.take k))), (10, .int .i64 ((k : Nat) : Int)), (11, .int .i64 cc)] (fun w' => w' = w2) ?_ ?_
    · refine ci (fun h => ?_) (fun h => ?_)
      · have hneg := hc1.1 (of_decide_eq_true h)
        repeat first | refine ω1 ?_ | refine ω2 ?_ | refine ω3 ?_ | refine ω4 ?_ | refine ω5 ?_ | refine χ1 ?_ | refine κ1 ?_ | refine κ2 ?_ | refine χ2 ?_ | refine κ3 ?_ | refine ω6 ?_ | refine ω7 ?_ | refine ω9 ?_ | refine κ4 ?_ | refine κ7 ?_ | refine κ8 ?_ | refine χ3 ?_ | refine χ4 ?_ | refine κ5 ?_ | refine κ6 ?_ | refine χ5 ?_ | refine χ6 ?_ | refine χ7 ?_ | refine ω8 ?_
        refine qjoin0 ?_ rfl
        rw [es, cnt_snoc, if_pos hneg]
        exact (by repeat' (first | exact Sub.nil | refine Sub.cons (by first | rfl | (refine congrArg (fun z => some (Value.int .i64 z)) ?_; omega)) ?_))
      · have hneg : ¬ cmpR (l.getD k []) r ds < 0 := fun h' => (of_decide_eq_false h) (hc1.2 h')
        repeat first | refine ω1 ?_ | refine ω2 ?_ | refine ω3 ?_ | refine ω4 ?_ | refine ω5 ?_ | refine χ1 ?_ | refine κ1 ?_ | refine κ2 ?_ | refine χ2 ?_ | refine κ3 ?_ | refine ω6 ?_ | refine ω7 ?_ | refine ω9 ?_ | refine κ4 ?_ | refine κ7 ?_ | refine κ8 ?_ | refine χ3 ?_ | refine χ4 ?_ | refine κ5 ?_ | refine κ6 ?_ | refine χ5 ?_ | refine χ6 ?_ | refine χ7 ?_ | refine ω8 ?_
        refine qjoin0 ?_ rfl
        rw [es, cnt_snoc, if_neg hneg]
        exact (by repeat' (first | exact Sub.nil | refine Sub.cons (by first | rfl | (refine congrArg (fun z => some (Value.int .i64 z)) ?_; omega)) ?_))
    rintro w3 rfl
    repeat first | refine ω1 ?_ | refine ω2 ?_ | refine ω3 ?_ | refine ω4 ?_ | refine ω5 ?_ | refine χ1 ?_ | refine κ1 ?_ | refine κ2 ?_ | refine χ2 ?_ | refine κ3 ?_ | refine ω6 ?_ | refine ω7 ?_ | refine ω9 ?_ | refine κ4 ?_ | refine κ7 ?_ | refine κ8 ?_ | refine χ3 ?_ | refine χ4 ?_ | refine κ5 ?_ | refine κ6 ?_ | refine χ5 ?_ | refine χ6 ?_ | refine χ7 ?_ | refine ω8 ?_
    refine ci (fun h => ?_) (fun h => ?_)
    · have he := hc2.1 (of_beq_t h)
      repeat first | refine ω1 ?_ | refine ω2 ?_ | refine ω3 ?_ | refine ω4 ?_ | refine ω5 ?_ | refine χ1 ?_ | refine κ1 ?_ | refine κ2 ?_ | refine χ2 ?_ | refine κ3 ?_ | refine ω6 ?_ | refine ω7 ?_ | refine ω9 ?_ | refine κ4 ?_ | refine κ7 ?_ | refine κ8 ?_ | refine χ3 ?_ | refine χ4 ?_ | refine κ5 ?_ | refine κ6 ?_ | refine χ5 ?_ | refine χ6 ?_ | refine χ7 ?_ | refine ω8 ?_
      refine qround1 (k + 1) ?_ ⟨hx1.trans hx2, by omega⟩ (by omega)
      rw [show decide (r ∈ l.take (k + 1)) = true by rw [es, he]; simp]
      exact (by repeat' (first | exact Sub.nil | refine Sub.cons (by first | rfl | (refine congrArg (fun z => some (Value.int .i64 z)) ?_; omega)) ?_))
    · have he : ¬ l.getD k [] = r := fun h' => (of_beq_f h) (hc2.2 h')
      repeat first | refine ω1 ?_ | refine ω2 ?_ | refine ω3 ?_ | refine ω4 ?_ | refine ω5 ?_ | refine χ1 ?_ | refine κ1 ?_ | refine κ2 ?_ | refine χ2 ?_ | refine κ3 ?_ | refine ω6 ?_ | refine ω7 ?_ | refine ω9 ?_ | refine κ4 ?_ | refine κ7 ?_ | refine κ8 ?_ | refine χ3 ?_ | refine χ4 ?_ | refine κ5 ?_ | refine κ6 ?_ | refine χ5 ?_ | refine χ6 ?_ | refine χ7 ?_ | refine ω8 ?_
      refine qround1 (k + 1) ?_ ⟨hx1.trans hx2, by omega⟩ (by omega)
      rw [show decide (r ∈ l.take (k + 1)) = decide (r ∈ l.take k) by rw [es, Bool.eq_iff_iff, decide_eq_true_iff, decide_eq_true_iff, List.mem_append, List.mem_singleton]; exact ⟨fun h => h.elim id (fun e => absurd e.symm he), .inl⟩]
      exact (by repeat' (first | exact Sub.nil | refine Sub.cons (by first | rfl | (refine congrArg (fun z => some (Value.int .i64 z)) ?_; omega)) ?_))
  · have hkn : k = l.length := by have := of_decide_eq_false h; omega
    subst hkn
    repeat first | refine ω1 ?_ | refine ω2 ?_ | refine ω3 ?_ | refine ω4 ?_ | refine ω5 ?_ | refine χ1 ?_ | refine κ1 ?_ | refine κ2 ?_ | refine χ2 ?_ | refine κ3 ?_ | refine ω6 ?_ | refine ω7 ?_ | refine ω9 ?_ | refine κ4 ?_ | refine κ7 ?_ | refine κ8 ?_ | refine χ3 ?_ | refine χ4 ?_ | refine κ5 ?_ | refine κ6 ?_ | refine χ5 ?_ | refine χ6 ?_ | refine χ7 ?_ | refine ω8 ?_
    refine fin2 ⟨?_, hx1⟩
    rw [List.take_length]
set_option maxRecDepth 100000 in
theorem refReverse_any {v : Value} {l : List Row} {w : World} (hl : RowsV w v l) (hlen : l.length ≤ 1000000) : Ret Try.prog 23 [v] w fun x w' => RowsV w' x l.reverse ∧ Ext w w' := by
  obtain ⟨ps, A, c, rfl, rfl, h3, h4, h5, h6⟩ := id hl
  have hn : ps.length ≤ 1000000 := by simpa using hlen
  refine enterR Try.func23 Try.ntmps23 rfl (by kernel_rfl) rfl ?_
  repeat first | refine ω1 ?_ | refine ω2 ?_ | refine ω3 ?_ | refine ω4 ?_ | refine ω5 ?_ | refine χ1 ?_ | refine κ1 ?_ | refine κ2 ?_ | refine χ2 ?_ | refine κ3 ?_ | refine ω6 ?_ | refine ω7 ?_ | refine ω9 ?_ | refine κ4 ?_ | refine κ7 ?_ | refine κ8 ?_ | refine χ3 ?_ | refine χ4 ?_ | refine κ5 ?_ | refine κ6 ?_ | refine χ5 ?_ | refine χ6 ?_ | refine χ7 ?_ | refine ω8 ?_
  refine wloop2 (fun (k : Nat) (v3 : Value) => [(0, .slice A ps.length c), (3, v3), (4, .int .i64 ((ps.length : Int) - 1 - (k : Int)))])
    (fun k v3 w' => Ext w w' ∧ k ≤ ps.length ∧ w'.ownsRow w.heap.size 25 1 v3 k ((ps.reverse.take k).map (·.1))) (fun k _ => ps.length - k) 0 (.slice none 0 0) (by repeat' (first | exact Sub.nil | refine Sub.cons (by first | rfl | (refine congrArg (fun z => some (Value.int .i64 z)) ?_; omega)) ?_))
    ⟨Ext.refl w, Nat.zero_le _, own_nil _ _ _ _⟩ ?_
  rintro k v3 w1 ⟨hx1, hk, ho1⟩
  repeat first | refine ω1 ?_ | refine ω2 ?_ | refine ω3 ?_ | refine ω4 ?_ | refine ω5 ?_ | refine χ1 ?_ | refine κ1 ?_ | refine κ2 ?_ | refine χ2 ?_ | refine κ3 ?_ | refine ω6 ?_ | refine ω7 ?_ | refine ω9 ?_ | refine κ4 ?_ | refine κ7 ?_ | refine κ8 ?_ | refine χ3 ?_ | refine χ4 ?_ | refine κ5 ?_ | refine κ6 ?_ | refine χ5 ?_ | refine χ6 ?_ | refine χ7 ?_ | refine ω8 ?_
  refine ci (fun h => ?_) (fun h => ?_)
  · have hlt : k < ps.length := by have := of_decide_eq_true h; omega
    have hlt2 : ps.length - 1 - k < ps.length := by omega
    have hrow := h6 _ (getD_mem' z0 ps hlt2)
    obtain ⟨B, bc, hvr, _⟩ := id hrow
    repeat first | refine ω1 ?_ | refine ω2 ?_ | refine ω3 ?_ | refine ω4 ?_ | refine ω5 ?_ | refine χ1 ?_ | refine κ1 ?_ | refine κ2 ?_ | refine χ2 ?_ | refine κ3 ?_ | refine ω6 ?_ | refine ω7 ?_ | refine ω9 ?_ | refine κ4 ?_ | refine κ7 ?_ | refine κ8 ?_ | refine χ3 ?_ | refine χ4 ?_ | refine κ5 ?_ | refine κ6 ?_ | refine χ5 ?_ | refine χ6 ?_ | refine χ7 ?_ | refine ω8 ?_
    refine ix (ps.length - 1 - k) (h5.ext hx1) hlt2 ?_
    repeat first | refine ω1 ?_ | refine ω2 ?_ | refine ω3 ?_ | refine ω4 ?_ | refine ω5 ?_ | refine χ1 ?_ | refine κ1 ?_ | refine κ2 ?_ | refine χ2 ?_ | refine κ3 ?_ | refine ω6 ?_ | refine ω7 ?_ | refine ω9 ?_ | refine κ4 ?_ | refine κ7 ?_ | refine κ8 ?_ | refine χ3 ?_ | refine χ4 ?_ | refine κ5 ?_ | refine κ6 ?_ | refine χ5 ?_ | refine χ6 ?_ | refine χ7 ?_ | refine ω8 ?_
    refine ld ((h5.ext hx1).cell (ps_get hlt2)) ?_
    repeat first | refine ω1 ?_ | refine ω2 ?_ | refine ω3 ?_ | refine ω4 ?_ | refine ω5 ?_ | refine χ1 ?_ | refine κ1 ?_ | refine κ2 ?_ | refine χ2 ?_ | refine κ3 ?_ | refine ω6 ?_ | refine ω7 ?_ | refine ω9 ?_ | refine κ4 ?_ | refine κ7 ?_ | refine κ8 ?_ | refine χ3 ?_ | refine χ4 ?_ | refine κ5 ?_ | refine κ6 ?_ | refine χ5 ?_ | refine χ6 ?_ | refine χ7 ?_ | refine ω8 ?_
    refine bsl (fun w => bs1Row _ w B _ bc hvr) ?_
    intro w2 b hx2 hb2 hk2
    repeat first | refine ω1 ?_ | refine ω2 ?_ | refine ω3 ?_ | refine ω4 ?_ | refine ω5 ?_ | refine χ1 ?_ | refine κ1 ?_ | refine κ2 ?_ | refine χ2 ?_ | refine κ3 ?_ | refine ω6 ?_ | refine ω7 ?_ | refine ω9 ?_ | refine κ4 ?_ | refine κ7 ?_ | refine κ8 ?_ | refine χ3 ?_ | refine χ4 ?_ | refine κ5 ?_ | refine κ6 ?_ | refine χ5 ?_ | refine χ6 ?_ | refine χ7 ?_ | refine ω8 ?_
    refine apo (a := w) (hx1.trans hx2) ER (own_ext ho1 hx2) hk2.one (fun u hu => by rw [List.mem_singleton.1 hu]; exact hrow.one) (by unfold maxLen; omega) (by omega) ?_
    intro v4 w4 ho4 hx4 _ _
    repeat first | refine ω1 ?_ | refine ω2 ?_ | refine ω3 ?_ | refine ω4 ?_ | refine ω5 ?_ | refine χ1 ?_ | refine κ1 ?_ | refine κ2 ?_ | refine χ2 ?_ | refine κ3 ?_ | refine ω6 ?_ | refine ω7 ?_ | refine ω9 ?_ | refine κ4 ?_ | refine κ7 ?_ | refine κ8 ?_ | refine χ3 ?_ | refine χ4 ?_ | refine κ5 ?_ | refine κ6 ?_ | refine χ5 ?_ | refine χ6 ?_ | refine χ7 ?_ | refine ω8 ?_
    refine qround2 (k + 1) v4 (by repeat' (first | exact Sub.nil | refine Sub.cons (by first | rfl | (refine congrArg (fun z => some (Value.int .i64 z)) ?_; omega)) ?_)) ⟨hx4, by omega, ?_⟩ (by omega)
    have e : ps.reverse.take (k + 1) = ps.reverse.take k ++ [ps.getD (ps.length - 1 - k) z0] := by
      rw [List.take_succ_eq_append_getElem (by simpa using hlt), List.getElem_reverse, getD_get z0 ps hlt2]
    rw [e, List.map_append]; exact ho4
  · have hkn : k = ps.length := by have := of_decide_eq_false h; omega
    subst hkn
    repeat first | refine ω1 ?_ | refine ω2 ?_ | refine ω3 ?_ | refine ω4 ?_ | refine ω5 ?_ | refine χ1 ?_ | refine κ1 ?_ | refine κ2 ?_ | refine χ2 ?_ | refine κ3 ?_ | refine ω6 ?_ | refine ω7 ?_ | refine ω9 ?_ | refine κ4 ?_ | refine κ7 ?_ | refine κ8 ?_ | refine χ3 ?_ | refine χ4 ?_ | refine κ5 ?_ | refine κ6 ?_ | refine χ5 ?_ | refine χ6 ?_ | refine χ7 ?_ | refine ω8 ?_
    refine fin1 ⟨?_, hx1⟩
    rw [List.take_of_length_le (by simp)] at ho1
    obtain ⟨A8, c8, rfl, hc8, _⟩ := own_form ho1
    refine ⟨ps.reverse, A8, c8, by simp, by simp, by simpa using hc8, by simpa using h4, by simpa using Rd.own ho1, fun p hp => (h6 p (by simpa using hp)).ext hx1⟩
/-! ### the size limit -/
def RowG (w : World) (v : Value) (r : Row) : Prop := ∃ A c, v = .slice A r.length c ∧ r.length ≤ c ∧ r.length ≤ 9223372036854775807 ∧ RdR w A r
def RowsG (w : World) (v : Value) (ls : List Row) : Prop := ∃ (ps : List Pr) (A : Option Addr) (c : Nat), ls = ps.map (·.2) ∧ v = .slice A ps.length c ∧ ps.length ≤ c ∧ ps.length ≤ 9223372036854775807 ∧ Rd w 1 A ps.length (ps.map (·.1)) ∧ ∀ p ∈ ps, RowG w p.1 p.2
theorem RowG.v {w : World} {v : Value} {r : Row} (h : RowG w v r) (hl : r.length ≤ 1100000) : RowV w v r := by obtain ⟨A, c, h1, h2, h3, h4⟩ := h; exact ⟨A, c, h1, h2, hl, h4⟩
theorem RowV.g {w : World} {v : Value} {r : Row} (h : RowV w v r) : RowG w v r := by obtain ⟨A, c, h1, h2, h3, h4⟩ := h; exact ⟨A, c, h1, h2, by omega, h4⟩
theorem RowG.ext {w w' : World} {v : Value} {r : Row} (h : RowG w v r) (hx : Ext w w') : RowG w' v r := by obtain ⟨A, c, h1, h2, h3, h4⟩ := h; exact ⟨A, c, h1, h2, h3, h4.ext hx⟩
theorem RowsG.ext {w w' : World} {v : Value} {ls : List Row} (h : RowsG w v ls) (hx : Ext w w') : RowsG w' v ls := by
  obtain ⟨ps, A, c, h1, h2, h3, h4, h5, h6⟩ := h; exact ⟨ps, A, c, h1, h2, h3, h4, h5.ext hx, fun p hp => (h6 p hp).ext hx⟩
theorem RowsV.g {w : World} {v : Value} {ls : List Row} (h : RowsV w v ls) : RowsG w v ls := by
  obtain ⟨ps, A, c, h1, h2, h3, h4, h5, h6⟩ := h; exact ⟨ps, A, c, h1, h2, h3, by omega, h5, fun p hp => (h6 p hp).g⟩
theorem RowsG.v {w : World} {v : Value} {ls : List Row} (h : RowsG w v ls) (hl : ls.length ≤ 1100000) (hr : ∀ r ∈ ls, r.length ≤ 1100000) : RowsV w v ls := by
  obtain ⟨ps, A, c, rfl, h2, h3, h4, h5, h6⟩ := h
  exact ⟨ps, A, c, rfl, h2, h3, by simpa using hl, h5, fun p hp => (h6 p hp).v (hr _ (List.mem_map_of_mem hp))⟩
def greatV (v : V) : Bool := decide (60 < v.str.size)
def greatR (r : Row) : Bool := decide (8 < r.length) || r.any greatV
def greatB (ls : List Row) : Bool := ls.any greatR || decide (40 < ls.length)
theorem zVal : zeroOf Try.prog 86 = some (.agg #[.int .i64 0, .int .i64 0, .string ⟨#[]⟩]) := by kernel_rfl
set_option maxRecDepth 100000 in
theorem great_any {v : Value} {ls : List Row} {w : World} (h : RowsG w v ls) : Ret Try.prog 47 [v] w fun x w' => x = .bool (greatB ls) ∧ Ext w w' := by
  obtain ⟨ps, A, c, rfl, rfl, h3, h4, h5, h6⟩ := h
  refine enterR Try.func47 Try.ntmps47 rfl (by kernel_rfl) rfl ?_
  repeat first | refine ω1 ?_ | refine ω2 ?_ | refine ω3 ?_ | refine ω4 ?_ | refine ω5 ?_ | refine χ1 ?_ | refine κ1 ?_ | refine κ2 ?_ | refine χ2 ?_ | refine κ3 ?_ | refine ω6 ?_ | refine ω7 ?_ | refine ω9 ?_ | refine κ4 ?_ | refine κ7 ?_ | refine κ8 ?_ | refine χ3 ?_ | refine χ4 ?_ | refine κ5 ?_ | refine κ6 ?_ | refine χ5 ?_ | refine χ6 ?_ | refine χ7 ?_ | refine ω8 ?_
  refine wloop1 (fun (k : Nat) => [(0, .slice A ps.length c), (7, .slice A ps.length c), (8, .int .i64 (ps.length : Int)), (9, .int .i64 (k : Int))])
    (fun k w' => k ≤ ps.length ∧ Ext w w' ∧ ∀ i, i < k → greatR (ps.getD i z0).2 = false) (fun k => ps.length - k) 0 (by repeat' (first | exact Sub.nil | refine Sub.cons rfl ?_)) ⟨Nat.zero_le _, Ext.refl w, fun i hi => by omega⟩ ?_
  rintro k w1 ⟨hk, hx1, hp⟩
  have yes : ∀ i, i < ps.length → greatR (ps.getD i z0).2 = true → greatB (ps.map (·.2)) = true := fun i hi h => by
    unfold greatB
    rw [Bool.or_eq_true]; left
    rw [List.any_eq_true]
    exact ⟨_, List.mem_map_of_mem (getD_mem' z0 ps hi), h⟩
  repeat first | refine ω1 ?_ | refine ω2 ?_ | refine ω3 ?_ | refine ω4 ?_ | refine ω5 ?_ | refine χ1 ?_ | refine κ1 ?_ | refine κ2 ?_ | refine χ2 ?_ | refine κ3 ?_ | refine ω6 ?_ | refine ω7 ?_ | refine ω9 ?_ | refine κ4 ?_ | refine κ7 ?_ | refine κ8 ?_ | refine χ3 ?_ | refine χ4 ?_ | refine κ5 ?_ | refine κ6 ?_ | refine χ5 ?_ | refine χ6 ?_ | refine χ7 ?_ | refine ω8 ?_
  refine ci (fun h => ?_) (fun h => ?_)
  · have hlt : k < ps.length := by have := of_decide_eq_true h; omega
    obtain ⟨B, bc, hvr, hbc, hbl, hbr⟩ := h6 _ (getD_mem' z0 ps hlt)
    have hyes := yes k hlt
    have hcell := (h5.ext hx1).cell (ps_get hlt)
    rw [hvr] at hcell
    generalize hr : (ps.getD k z0).2 = r at *
    repeat first | refine ω1 ?_ | refine ω2 ?_ | refine ω3 ?_ | refine ω4 ?_ | refine ω5 ?_ | refine χ1 ?_ | refine κ1 ?_ | refine κ2 ?_ | refine χ2 ?_ | refine κ3 ?_ | refine ω6 ?_ | refine ω7 ?_ | refine ω9 ?_ | refine κ4 ?_ | refine κ7 ?_ | refine κ8 ?_ | refine χ3 ?_ | refine χ4 ?_ | refine κ5 ?_ | refine κ6 ?_ | refine χ5 ?_ | refine χ6 ?_ | refine χ7 ?_ | refine ω8 ?_
    refine ix k (h5.ext hx1) hlt ?_
    repeat first | refine ω1 ?_ | refine ω2 ?_ | refine ω3 ?_ | refine ω4 ?_ | refine ω5 ?_ | refine χ1 ?_ | refine κ1 ?_ | refine κ2 ?_ | refine χ2 ?_ | refine κ3 ?_ | refine ω6 ?_ | refine ω7 ?_ | refine ω9 ?_ | refine κ4 ?_ | refine κ7 ?_ | refine κ8 ?_ | refine χ3 ?_ | refine χ4 ?_ | refine κ5 ?_ | refine κ6 ?_ | refine χ5 ?_ | refine χ6 ?_ | refine χ7 ?_ | refine ω8 ?_
    refine ld hcell ?_
    repeat first | refine ω1 ?_ | refine ω2 ?_ | refine ω3 ?_ | refine ω4 ?_ | refine ω5 ?_ | refine χ1 ?_ | refine κ1 ?_ | refine κ2 ?_ | refine χ2 ?_ | refine κ3 ?_ | refine ω6 ?_ | refine ω7 ?_ | refine ω9 ?_ | refine κ4 ?_ | refine κ7 ?_ | refine κ8 ?_ | refine χ3 ?_ | refine χ4 ?_ | refine κ5 ?_ | refine κ6 ?_ | refine χ5 ?_ | refine χ6 ?_ | refine χ7 ?_ | refine ω8 ?_
    refine ci (fun h => ?_) (fun h => ?_)
    · have hgt : 8 < r.length := by have := of_decide_eq_true h; omega
      repeat first | refine ω1 ?_ | refine ω2 ?_ | refine ω3 ?_ | refine ω4 ?_ | refine ω5 ?_ | refine χ1 ?_ | refine κ1 ?_ | refine κ2 ?_ | refine χ2 ?_ | refine κ3 ?_ | refine ω6 ?_ | refine ω7 ?_ | refine ω9 ?_ | refine κ4 ?_ | refine κ7 ?_ | refine κ8 ?_ | refine χ3 ?_ | refine χ4 ?_ | refine κ5 ?_ | refine κ6 ?_ | refine χ5 ?_ | refine χ6 ?_ | refine χ7 ?_ | refine ω8 ?_
      refine fin1 ⟨?_, hx1⟩
      rw [hyes (by unfold greatR; simp [hgt])]
    · have hle : ¬ 8 < r.length := by have := of_decide_eq_false h; omega
      repeat first | refine ω1 ?_ | refine ω2 ?_ | refine ω3 ?_ | refine ω4 ?_ | refine ω5 ?_ | refine χ1 ?_ | refine κ1 ?_ | refine κ2 ?_ | refine χ2 ?_ | refine κ3 ?_ | refine ω6 ?_ | refine ω7 ?_ | refine ω9 ?_ | refine κ4 ?_ | refine κ7 ?_ | refine κ8 ?_ | refine χ3 ?_ | refine χ4 ?_ | refine κ5 ?_ | refine κ6 ?_ | refine χ5 ?_ | refine χ6 ?_ | refine χ7 ?_ | refine ω8 ?_
      refine wloop1 (fun (j : Nat) => [(0, .slice A ps.length c), (7, .slice A ps.length c), (8, .int .i64 (ps.length : Int)), (9, .int .i64 (k : Int)), (16, .slice B r.length bc), (17, .int .i64 (r.length : Int)), (18, .int .i64 (j : Int))])
        (fun j w' => j ≤ r.length ∧ Ext w w' ∧ ∀ i, i < j → greatV (r.getD i V0) = false) (fun j => r.length - j) 0 (by repeat' (first | exact Sub.nil | refine Sub.cons rfl ?_)) ⟨Nat.zero_le _, hx1, fun i hi => by omega⟩ ?_
      rintro j w2 ⟨hj, hx2, hq⟩
      repeat first | refine ω1 ?_ | refine ω2 ?_ | refine ω3 ?_ | refine ω4 ?_ | refine ω5 ?_ | refine χ1 ?_ | refine κ1 ?_ | refine κ2 ?_ | refine χ2 ?_ | refine κ3 ?_ | refine ω6 ?_ | refine ω7 ?_ | refine ω9 ?_ | refine κ4 ?_ | refine κ7 ?_ | refine κ8 ?_ | refine χ3 ?_ | refine χ4 ?_ | refine κ5 ?_ | refine κ6 ?_ | refine χ5 ?_ | refine χ6 ?_ | refine χ7 ?_ | refine ω8 ?_
      refine ci (fun h => ?_) (fun h => ?_)
      · have hjl : j < r.length := by have := of_decide_eq_true h; omega
        have hbr2 : RdR w2 B r := Rd.ext hbr hx2
        repeat first | refine ω1 ?_ | refine ω2 ?_ | refine ω3 ?_ | refine ω4 ?_ | refine ω5 ?_ | refine χ1 ?_ | refine κ1 ?_ | refine κ2 ?_ | refine χ2 ?_ | refine κ3 ?_ | refine ω6 ?_ | refine ω7 ?_ | refine ω9 ?_ | refine κ4 ?_ | refine κ7 ?_ | refine κ8 ?_ | refine χ3 ?_ | refine χ4 ?_ | refine κ5 ?_ | refine κ6 ?_ | refine χ5 ?_ | refine χ6 ?_ | refine χ7 ?_ | refine ω8 ?_
        refine ixq 3 j hbr2 hjl ?_
        repeat first | refine ω1 ?_ | refine ω2 ?_ | refine ω3 ?_ | refine ω4 ?_ | refine ω5 ?_ | refine χ1 ?_ | refine κ1 ?_ | refine κ2 ?_ | refine χ2 ?_ | refine κ3 ?_ | refine ω6 ?_ | refine ω7 ?_ | refine ω9 ?_ | refine κ4 ?_ | refine κ7 ?_ | refine κ8 ?_ | refine χ3 ?_ | refine χ4 ?_ | refine κ5 ?_ | refine κ6 ?_ | refine χ5 ?_ | refine χ6 ?_ | refine χ7 ?_ | refine ω8 ?_
        refine lds (fun i u hu => RdR.cell hbr2 hjl hu) ?_
        repeat first | refine ω1 ?_ | refine ω2 ?_ | refine ω3 ?_ | refine ω4 ?_ | refine ω5 ?_ | refine χ1 ?_ | refine κ1 ?_ | refine κ2 ?_ | refine χ2 ?_ | refine κ3 ?_ | refine ω6 ?_ | refine ω7 ?_ | refine ω9 ?_ | refine κ4 ?_ | refine κ7 ?_ | refine κ8 ?_ | refine χ3 ?_ | refine χ4 ?_ | refine κ5 ?_ | refine κ6 ?_ | refine χ5 ?_ | refine χ6 ?_ | refine χ7 ?_ | refine ω8 ?_
        refine alc (cs := [.int .i64 0, .int .i64 0, .string ⟨#[]⟩]) zVal ?_
        intro w3 b hx3 hb3 hk3
        repeat first | refine ω1 ?_ | refine ω2 ?_ | refine ω3 ?_ | refine ω4 ?_ | refine ω5 ?_ | refine χ1 ?_ | refine κ1 ?_ | refine κ2 ?_ | refine χ2 ?_ | refine κ3 ?_ | refine ω6 ?_ | refine ω7 ?_ | refine ω9 ?_ | refine κ4 ?_ | refine κ7 ?_ | refine κ8 ?_ | refine χ3 ?_ | refine χ4 ?_ | refine κ5 ?_ | refine κ6 ?_ | refine χ5 ?_ | refine χ6 ?_ | refine χ7 ?_ | refine ω8 ?_
        refine stb hk3 (cs' := (r.getD j V0).cells) ?_ (V.one _)
        intro w4 hk4 hg4 hx4
        have hx14 : Ext w w4 := hx4 w (hx2.trans hx3) (by have := hx2.size; omega)
        repeat first | refine ω1 ?_ | refine ω2 ?_ | refine ω3 ?_ | refine ω4 ?_ | refine ω5 ?_ | refine χ1 ?_ | refine κ1 ?_ | refine κ2 ?_ | refine χ2 ?_ | refine κ3 ?_ | refine ω6 ?_ | refine ω7 ?_ | refine ω9 ?_ | refine κ4 ?_ | refine κ7 ?_ | refine κ8 ?_ | refine χ3 ?_ | refine χ4 ?_ | refine κ5 ?_ | refine κ6 ?_ | refine χ5 ?_ | refine χ6 ?_ | refine χ7 ?_ | refine ω8 ?_
        refine ld (hk4.at (i := 2) rfl) ?_
        repeat first | refine ω1 ?_ | refine ω2 ?_ | refine ω3 ?_ | refine ω4 ?_ | refine ω5 ?_ | refine χ1 ?_ | refine κ1 ?_ | refine κ2 ?_ | refine χ2 ?_ | refine κ3 ?_ | refine ω6 ?_ | refine ω7 ?_ | refine ω9 ?_ | refine κ4 ?_ | refine κ7 ?_ | refine κ8 ?_ | refine χ3 ?_ | refine χ4 ?_ | refine κ5 ?_ | refine κ6 ?_ | refine χ5 ?_ | refine χ6 ?_ | refine χ7 ?_ | refine ω8 ?_
        refine ci (fun h => ?_) (fun h => ?_)
        · have hgt : 60 < (r.getD j V0).str.size := by have := of_decide_eq_true h; omega
          repeat first | refine ω1 ?_ | refine ω2 ?_ | refine ω3 ?_ | refine ω4 ?_ | refine ω5 ?_ | refine χ1 ?_ | refine κ1 ?_ | refine κ2 ?_ | refine χ2 ?_ | refine κ3 ?_ | refine ω6 ?_ | refine ω7 ?_ | refine ω9 ?_ | refine κ4 ?_ | refine κ7 ?_ | refine κ8 ?_ | refine χ3 ?_ | refine χ4 ?_ | refine κ5 ?_ | refine κ6 ?_ | refine χ5 ?_ | refine χ6 ?_ | refine χ7 ?_ | refine ω8 ?_
          refine fin1 ⟨?_, hx14⟩
          rw [hyes ?_]
          unfold greatR
          rw [Bool.or_eq_true]; right
          rw [List.any_eq_true]
          exact ⟨_, getD_mem hjl, decide_eq_true hgt⟩
        · have hgt : ¬ 60 < (r.getD j V0).str.size := by have := of_decide_eq_false h; omega
          repeat first | refine ω1 ?_ | refine ω2 ?_ | refine ω3 ?_ | refine ω4 ?_ | refine ω5 ?_ | refine χ1 ?_ | refine κ1 ?_ | refine κ2 ?_ | refine χ2 ?_ | refine κ3 ?_ | refine ω6 ?_ | refine ω7 ?_ | refine ω9 ?_ | refine κ4 ?_ | refine κ7 ?_ | refine κ8 ?_ | refine χ3 ?_ | refine χ4 ?_ | refine κ5 ?_ | refine κ6 ?_ | refine χ5 ?_ | refine χ6 ?_ | refine χ7 ?_ | refine ω8 ?_
          refine qround1 (j + 1) (by repeat' (first | exact Sub.nil | refine Sub.cons rfl ?_)) ⟨by omega, hx14, fun i hi => ?_⟩ (by omega)
          by_cases e : i = j
          · rw [e]; exact decide_eq_false hgt
          · exact hq i (by omega)
      · have hjn : j = r.length := by have := of_decide_eq_false h; omega
        repeat first | refine ω1 ?_ | refine ω2 ?_ | refine ω3 ?_ | refine ω4 ?_ | refine ω5 ?_ | refine χ1 ?_ | refine κ1 ?_ | refine κ2 ?_ | refine χ2 ?_ | refine κ3 ?_ | refine ω6 ?_ | refine ω7 ?_ | refine ω9 ?_ | refine κ4 ?_ | refine κ7 ?_ | refine κ8 ?_ | refine χ3 ?_ | refine χ4 ?_ | refine κ5 ?_ | refine κ6 ?_ | refine χ5 ?_ | refine χ6 ?_ | refine χ7 ?_ | refine ω8 ?_
        refine qround1 (k + 1) (by repeat' (first | exact Sub.nil | refine Sub.cons rfl ?_)) ⟨by omega, hx2, fun i hi => ?_⟩ (by omega)
        by_cases e : i = k
        · rw [e, hr]
          unfold greatR
          rw [Bool.or_eq_false_iff]
          refine ⟨decide_eq_false hle, ?_⟩
          rw [List.any_eq_false]
          intro x hx
          obtain ⟨i', hi', rfl⟩ := List.getElem_of_mem hx
          have := hq i' (by omega)
          rw [getD_get V0 r hi'] at this
          simp [this]
        · exact hp i (by omega)
  · have hkn : k = ps.length := by have := of_decide_eq_false h; omega
    repeat first | refine ω1 ?_ | refine ω2 ?_ | refine ω3 ?_ | refine ω4 ?_ | refine ω5 ?_ | refine χ1 ?_ | refine κ1 ?_ | refine κ2 ?_ | refine χ2 ?_ | refine κ3 ?_ | refine ω6 ?_ | refine ω7 ?_ | refine ω9 ?_ | refine κ4 ?_ | refine κ7 ?_ | refine κ8 ?_ | refine χ3 ?_ | refine χ4 ?_ | refine κ5 ?_ | refine κ6 ?_ | refine χ5 ?_ | refine χ6 ?_ | refine χ7 ?_ | refine ω8 ?_
    refine fin1 ⟨?_, hx1⟩
    have h0 : (ps.map (·.2)).any greatR = false := by
      rw [List.any_eq_false]
      intro x hx
      obtain ⟨p, hp', rfl⟩ := List.mem_map.1 hx
      obtain ⟨i', hi', rfl⟩ := List.getElem_of_mem hp'
      have := hp i' (by omega)
      rw [getD_get z0 ps hi'] at this
      simp [this]
    unfold greatB
    rw [h0, Bool.false_or, List.length_map]
    rw [show decide ((40 : Int) < (ps.length : Int)) = decide (40 < ps.length) by rw [Bool.eq_iff_iff, decide_eq_true_iff, decide_eq_true_iff]; omega]
end Go.Proofs.Ytpahjnfolbnloaa
