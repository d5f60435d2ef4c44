/- The walks of ArrayRows and ArrayReverses. -/
import Derived.Test.YtpahjnfolbnloaaAwk
set_option linter.unusedVariables false
namespace Go.Proofs.Ytpahjnfolbnloaa
open Go.RowKit Pl Go.Wk
attribute [local irreducible] WC WL QX WD WDB WP WG
/-- truth values in memory, as they come in -/
def BoolsG (w : World) (v : Value) (ds : List Bool) : Prop := ∃ A c, v = .slice A ds.length c ∧ ds.length ≤ c ∧ ds.length ≤ 9223372036854775807 ∧ RdB w A ds
theorem BoolsG.v {w : World} {v : Value} {ds : List Bool} (h : BoolsG w v ds) (hl : ds.length ≤ 1100000) : BoolsV w v ds := by obtain ⟨A, c, h1, h2, h3, h4⟩ := h; exact ⟨A, c, h1, h2, hl, h4⟩
theorem BoolsG.ext {w w' : World} {v : Value} {ds : List Bool} (h : BoolsG w v ds) (hx : Ext w w') : BoolsG w' v ds := by obtain ⟨A, c, h1, h2, h3, h4⟩ := h; exact ⟨A, c, h1, h2, h3, h4.ext hx⟩
theorem BoolsV.g {w : World} {v : Value} {ds : List Bool} (h : BoolsV w v ds) : BoolsG w v ds := by obtain ⟨A, c, h1, h2, h3, h4⟩ := h; exact ⟨A, c, h1, h2, by omega, h4⟩
set_option maxRecDepth 100000 in
theorem odd_any {v vd : Value} {ls : List Row} {ds : List Bool} {w : World} (h : RowsG w v ls) (hd : BoolsG w vd ds) : Ret Try.prog 12 [v, vd] w fun x w' => x = .bool (greatB ls || decide (10 < ds.length)) ∧ Ext w w' := by
  obtain ⟨D, dc, rfl, _⟩ := hd
  refine enterR Try.func12 Try.ntmps12 rfl (by kernel_rfl) rfl ?_
  repeat first | refine ω1 ?_ | refine ω2 ?_ | refine ω3 ?_ | refine ω4 ?_ | refine ω5 ?_ | refine χ1 ?_ | refine κ1 ?_ | refine κ2 ?_ | refine χ2 ?_ | refine κ3 ?_ | refine ω6 ?_ | refine ω7 ?_ | refine ω9 ?_ | refine κ4 ?_ | refine κ7 ?_ | refine κ8 ?_ | refine χ3 ?_ | refine χ4 ?_ | refine κ5 ?_ | refine κ6 ?_ | refine χ5 ?_ | refine χ6 ?_ | refine χ7 ?_ | refine ω8 ?_
  refine cl (great_any h) ?_
  rintro x w1 ⟨rfl, hx1⟩
  repeat first | refine ω1 ?_ | refine ω2 ?_ | refine ω3 ?_ | refine ω4 ?_ | refine ω5 ?_ | refine χ1 ?_ | refine κ1 ?_ | refine κ2 ?_ | refine χ2 ?_ | refine κ3 ?_ | refine ω6 ?_ | refine ω7 ?_ | refine ω9 ?_ | refine κ4 ?_ | refine κ7 ?_ | refine κ8 ?_ | refine χ3 ?_ | refine χ4 ?_ | refine κ5 ?_ | refine κ6 ?_ | refine χ5 ?_ | refine χ6 ?_ | refine χ7 ?_ | refine ω8 ?_
  refine ki 7 (fun h => ?_) (fun h => ?_)
  · repeat first | refine ω1 ?_ | refine ω2 ?_ | refine ω3 ?_ | refine ω4 ?_ | refine ω5 ?_ | refine χ1 ?_ | refine κ1 ?_ | refine κ2 ?_ | refine χ2 ?_ | refine κ3 ?_ | refine ω6 ?_ | refine ω7 ?_ | refine ω9 ?_ | refine κ4 ?_ | refine κ7 ?_ | refine κ8 ?_ | refine χ3 ?_ | refine χ4 ?_ | refine κ5 ?_ | refine κ6 ?_ | refine χ5 ?_ | refine χ6 ?_ | refine χ7 ?_ | refine ω8 ?_
    refine fin1 ⟨?_, hx1⟩
    rw [h]; rfl
  · repeat first | refine ω1 ?_ | refine ω2 ?_ | refine ω3 ?_ | refine ω4 ?_ | refine ω5 ?_ | refine χ1 ?_ | refine κ1 ?_ | refine κ2 ?_ | refine χ2 ?_ | refine κ3 ?_ | refine ω6 ?_ | refine ω7 ?_ | refine ω9 ?_ | refine κ4 ?_ | refine κ7 ?_ | refine κ8 ?_ | refine χ3 ?_ | refine χ4 ?_ | refine κ5 ?_ | refine κ6 ?_ | refine χ5 ?_ | refine χ6 ?_ | refine χ7 ?_ | refine ω8 ?_
    refine fin1 ⟨?_, hx1⟩
    rw [h, Bool.false_or, show decide ((10 : Int) < (ds.length : Int)) = decide (10 < ds.length) by rw [Bool.eq_iff_iff, decide_eq_true_iff, decide_eq_true_iff]; omega]
theorem not_great {ls : List Row} (h : greatB ls = false) : ls.length ≤ 40 ∧ ∀ r ∈ ls, r.length ≤ 8 := by
  unfold greatB at h
  rw [Bool.or_eq_false_iff] at h
  refine ⟨by have := of_decide_eq_false h.2; omega, fun r hr => ?_⟩
  have h1 := List.any_eq_false.1 h.1 r hr
  rcases Nat.lt_or_ge 8 r.length with h2 | h2
  · exact absurd (show greatR r = true by unfold greatR; simp [h2]) h1
  · exact h2
/-- rows, and one more, as one slice -/
theorem rows_more {w w' : World} {ps : List Pr} {vr v' : Value} {r : Row} (hx : Ext w w') {base : Nat} (ho : w'.ownsRow base 25 1 v' (0 + ps.length + 1) ([] ++ ps.map (·.1) ++ [vr])) (h6 : ∀ p ∈ ps, RowG w p.1 p.2) (hr : RowG w vr r) (hl : ps.length + 1 ≤ 9223372036854775807) : RowsG w' v' (ps.map (·.2) ++ [r]) := by
  obtain ⟨A8, c8, rfl, hc8, _⟩ := own_form ho
  refine ⟨ps ++ [(vr, r)], A8, c8, by simp, by simp, by simpa using hc8, by simpa using hl, by simpa using Rd.own ho, fun p hp => ?_⟩
  rcases List.mem_append.1 hp with hp | hp
  · exact (h6 p hp).ext hx
  · rw [List.mem_singleton.1 hp]; exact hr.ext hx
theorem RowG.one {w : World} {v : Value} {r : Row} (h : RowG w v r) : v.oneCell' = true := by obtain ⟨A, c, rfl, _⟩ := h; rfl
theorem RowG.ones {w : World} {ps : List Pr} (h : ∀ p ∈ ps, RowG w p.1 p.2) : ∀ u ∈ ps.map (·.1), u.oneCell' = true := by
  intro u hu; obtain ⟨p, hp, rfl⟩ := List.mem_map.1 hu; exact (h p hp).one
theorem RowsA.zero (w : World) : RowsA w (.agg #[.slice none 0 0, .slice none 0 0]) [] [] := ⟨_, _, rfl, RowsV.nil _ _ _, BoolsV.nil _ _ _⟩
theorem bldZero (w : World) : (Instr.build 29 #[]).run Try.prog w = .ok (.agg #[.slice none 0 0, .slice none 0 0]) w := by kernel_rfl
set_option maxRecDepth 100000 in
theorem arrayRows_any {v vd vr : Value} {l : List Row} {ds : List Bool} {r : Row} {w : World} (hlG : RowsG w v l) (hdG : BoolsG w vd ds) (hrG : RowG w vr r) (hby : l.length * 24 ≤ 140737488351232) :
    Ret Try.prog 3 [v, vd, vr] w fun x w' => x = .bool true ∧ Ext w w' := by
  obtain ⟨ps, A, c, rfl, rfl, h3, h4, h5, h6⟩ := id hlG
  have hn : ps.length * 24 ≤ 140737488351232 := by simpa using hby
  obtain ⟨B, bc, hvr, hbc, hbm, hbr⟩ := id hrG
  have hone := RowG.ones h6
  refine enterR Try.func3 Try.ntmps3 rfl (by kernel_rfl) rfl ?_
  repeat first | refine ω1 ?_ | refine ω2 ?_ | refine ω3 ?_ | refine ω4 ?_ | refine ω5 ?_ | refine χ1 ?_ | refine κ1 ?_ | refine κ2 ?_ | refine χ2 ?_ | refine κ3 ?_ | refine ω6 ?_ | refine ω7 ?_ | refine ω9 ?_ | refine κ4 ?_ | refine κ7 ?_ | refine κ8 ?_ | refine χ3 ?_ | refine χ4 ?_ | refine κ5 ?_ | refine κ6 ?_ | refine χ5 ?_ | refine χ6 ?_ | refine χ7 ?_ | refine ω8 ?_
  refine bsl bs0Rows ?_
  intro w1 b1 hx1 hb1 hk1
  repeat first | refine ω1 ?_ | refine ω2 ?_ | refine ω3 ?_ | refine ω4 ?_ | refine ω5 ?_ | refine χ1 ?_ | refine κ1 ?_ | refine κ2 ?_ | refine χ2 ?_ | refine κ3 ?_ | refine ω6 ?_ | refine ω7 ?_ | refine ω9 ?_ | refine κ4 ?_ | refine κ7 ?_ | refine κ8 ?_ | refine χ3 ?_ | refine χ4 ?_ | refine κ5 ?_ | refine κ6 ?_ | refine χ5 ?_ | refine χ6 ?_ | refine χ7 ?_ | refine ω8 ?_
  refine apo (a := w) hx1 ER (hk1.own (n := 0) hb1 rfl (Nat.zero_le _)) (h5.ext hx1) hone (by unfold maxLen; omega) (by omega) ?_
  intro v2 w2 ho2 hx2 _ _
  repeat first | refine ω1 ?_ | refine ω2 ?_ | refine ω3 ?_ | refine ω4 ?_ | refine ω5 ?_ | refine χ1 ?_ | refine κ1 ?_ | refine κ2 ?_ | refine χ2 ?_ | refine κ3 ?_ | refine ω6 ?_ | refine ω7 ?_ | refine ω9 ?_ | refine κ4 ?_ | refine κ7 ?_ | refine κ8 ?_ | refine χ3 ?_ | refine χ4 ?_ | refine κ5 ?_ | refine κ6 ?_ | refine χ5 ?_ | refine χ6 ?_ | refine χ7 ?_ | refine ω8 ?_
  refine bsl (fun w => bs1Row vr w B _ bc hvr) ?_
  intro w3 b3 hx3 hb3 hk3
  repeat first | refine ω1 ?_ | refine ω2 ?_ | refine ω3 ?_ | refine ω4 ?_ | refine ω5 ?_ | refine χ1 ?_ | refine κ1 ?_ | refine κ2 ?_ | refine χ2 ?_ | refine κ3 ?_ | refine ω6 ?_ | refine ω7 ?_ | refine ω9 ?_ | refine κ4 ?_ | refine κ7 ?_ | refine κ8 ?_ | refine χ3 ?_ | refine χ4 ?_ | refine κ5 ?_ | refine κ6 ?_ | refine χ5 ?_ | refine χ6 ?_ | refine χ7 ?_ | refine ω8 ?_
  refine apo (a := w) (hx2.trans hx3) ER (own_ext ho2 hx3) hk3.one (fun u hu => by rw [List.mem_singleton.1 hu]; exact hrG.one) (by unfold maxLen; omega) (by omega) ?_
  intro v4 w4 ho4 hx4 _ _
  repeat first | refine ω1 ?_ | refine ω2 ?_ | refine ω3 ?_ | refine ω4 ?_ | refine ω5 ?_ | refine χ1 ?_ | refine κ1 ?_ | refine κ2 ?_ | refine χ2 ?_ | refine κ3 ?_ | refine ω6 ?_ | refine ω7 ?_ | refine ω9 ?_ | refine κ4 ?_ | refine κ7 ?_ | refine κ8 ?_ | refine χ3 ?_ | refine χ4 ?_ | refine κ5 ?_ | refine κ6 ?_ | refine χ5 ?_ | refine χ6 ?_ | refine χ7 ?_ | refine ω8 ?_
  refine cl (odd_any (rows_more hx4 ho4 h6 hrG (by omega)) (hdG.ext hx4)) ?_
  rintro x w5 ⟨rfl, hx5⟩
  have hx05 := hx4.trans hx5
  repeat first | refine ω1 ?_ | refine ω2 ?_ | refine ω3 ?_ | refine ω4 ?_ | refine ω5 ?_ | refine χ1 ?_ | refine κ1 ?_ | refine κ2 ?_ | refine χ2 ?_ | refine κ3 ?_ | refine ω6 ?_ | refine ω7 ?_ | refine ω9 ?_ | refine κ4 ?_ | refine κ7 ?_ | refine κ8 ?_ | refine χ3 ?_ | refine χ4 ?_ | refine κ5 ?_ | refine κ6 ?_ | refine χ5 ?_ | refine χ6 ?_ | refine χ7 ?_ | refine ω8 ?_
  refine ci (fun hodd => ?_) (fun hodd => ?_)
  · repeat first | refine ω1 ?_ | refine ω2 ?_ | refine ω3 ?_ | refine ω4 ?_ | refine ω5 ?_ | refine χ1 ?_ | refine κ1 ?_ | refine κ2 ?_ | refine χ2 ?_ | refine κ3 ?_ | refine ω6 ?_ | refine ω7 ?_ | refine ω9 ?_ | refine κ4 ?_ | refine κ7 ?_ | refine κ8 ?_ | refine χ3 ?_ | refine χ4 ?_ | refine κ5 ?_ | refine κ6 ?_ | refine χ5 ?_ | refine χ6 ?_ | refine χ7 ?_ | refine ω8 ?_
    refine cl (awake43_any _) ?_
    rintro _ w6 ⟨rfl, hx6⟩
    repeat first | refine ω1 ?_ | refine ω2 ?_ | refine ω3 ?_ | refine ω4 ?_ | refine ω5 ?_ | refine χ1 ?_ | refine κ1 ?_ | refine κ2 ?_ | refine χ2 ?_ | refine κ3 ?_ | refine ω6 ?_ | refine ω7 ?_ | refine ω9 ?_ | refine κ4 ?_ | refine κ7 ?_ | refine κ8 ?_ | refine χ3 ?_ | refine χ4 ?_ | refine κ5 ?_ | refine κ6 ?_ | refine χ5 ?_ | refine χ6 ?_ | refine χ7 ?_ | refine ω8 ?_
    exact fin1 ⟨rfl, hx05.trans hx6⟩
  rw [Bool.or_eq_false_iff] at hodd
  obtain ⟨hlen40, hrow8⟩ := not_great hodd.1
  have hl40 : ps.length ≤ 40 := by simp at hlen40; omega
  have hl := hlG.v (by simp; omega) (fun x hx => by have := hrow8 x (List.mem_append_left _ hx); omega)
  have hr := hrG.v (by have := hrow8 r (by simp); omega)
  have hd := hdG.v (by have := of_decide_eq_false hodd.2; omega)
  repeat first | refine ω1 ?_ | refine ω2 ?_ | refine ω3 ?_ | refine ω4 ?_ | refine ω5 ?_ | refine χ1 ?_ | refine κ1 ?_ | refine κ2 ?_ | refine χ2 ?_ | refine κ3 ?_ | refine ω6 ?_ | refine ω7 ?_ | refine ω9 ?_ | refine κ4 ?_ | refine κ7 ?_ | refine κ8 ?_ | refine χ3 ?_ | refine χ4 ?_ | refine κ5 ?_ | refine κ6 ?_ | refine χ5 ?_ | refine χ6 ?_ | refine χ7 ?_ | refine ω8 ?_
  refine cl (ofRows_any (hl.ext hx05) (hd.ext hx05)) ?_
  rintro va w6 ⟨⟨m, hA, hset, hml⟩, hx6⟩
  have hml40 : m.length ≤ 40 := by simp at hml; omega
  obtain ⟨u1, u2, rfl, hu12⟩ := hA.cells
  repeat first | refine ω1 ?_ | refine ω2 ?_ | refine ω3 ?_ | refine ω4 ?_ | refine ω5 ?_ | refine χ1 ?_ | refine κ1 ?_ | refine κ2 ?_ | refine χ2 ?_ | refine κ3 ?_ | refine ω6 ?_ | refine ω7 ?_ | refine ω9 ?_ | refine κ4 ?_ | refine κ7 ?_ | refine κ8 ?_ | refine χ3 ?_ | refine χ4 ?_ | refine κ5 ?_ | refine κ6 ?_ | refine χ5 ?_ | refine χ6 ?_ | refine χ7 ?_ | refine ω8 ?_
  refine alc (cs := [.slice none 0 0, .slice none 0 0]) zRows ?_
  intro w7 b7 hx7 hb7 hk7
  repeat first | refine ω1 ?_ | refine ω2 ?_ | refine ω3 ?_ | refine ω4 ?_ | refine ω5 ?_ | refine χ1 ?_ | refine κ1 ?_ | refine κ2 ?_ | refine χ2 ?_ | refine κ3 ?_ | refine ω6 ?_ | refine ω7 ?_ | refine ω9 ?_ | refine κ4 ?_ | refine κ7 ?_ | refine κ8 ?_ | refine χ3 ?_ | refine χ4 ?_ | refine κ5 ?_ | refine κ6 ?_ | refine χ5 ?_ | refine χ6 ?_ | refine χ7 ?_ | refine ω8 ?_
  refine stb hk7 (cs' := [u1, u2]) ?_ hu12
  intro w8 hk8 hg8 hx8
  have hx68 : Ext w6 w8 := hx8 w6 hx7 hb7
  have hx08 := (hx05.trans hx6).trans hx68
  repeat first | refine ω1 ?_ | refine ω2 ?_ | refine ω3 ?_ | refine ω4 ?_ | refine ω5 ?_ | refine χ1 ?_ | refine κ1 ?_ | refine κ2 ?_ | refine χ2 ?_ | refine κ3 ?_ | refine ω6 ?_ | refine ω7 ?_ | refine ω9 ?_ | refine κ4 ?_ | refine κ7 ?_ | refine κ8 ?_ | refine χ3 ?_ | refine χ4 ?_ | refine κ5 ?_ | refine κ6 ?_ | refine χ5 ?_ | refine χ6 ?_ | refine χ7 ?_ | refine ω8 ?_
  refine cl (refOf_any (hl.ext hx08) (hd.ext hx08) (by simp; omega)) ?_
  rintro vm w9 ⟨⟨m', hM, hset', _⟩, hx9⟩
  have hmm : m' = m := hset'.uniq hset
  subst hmm
  have hx09 := hx08.trans hx9
  have hA9 := hA.ext (hx68.trans hx9)
  repeat first | refine ω1 ?_ | refine ω2 ?_ | refine ω3 ?_ | refine ω4 ?_ | refine ω5 ?_ | refine χ1 ?_ | refine κ1 ?_ | refine κ2 ?_ | refine χ2 ?_ | refine κ3 ?_ | refine ω6 ?_ | refine ω7 ?_ | refine ω9 ?_ | refine κ4 ?_ | refine κ7 ?_ | refine κ8 ?_ | refine χ3 ?_ | refine χ4 ?_ | refine κ5 ?_ | refine κ6 ?_ | refine χ5 ?_ | refine χ6 ?_ | refine χ7 ?_ | refine ω8 ?_
  refine lds (fun j u hu => (hk8.ext hx9).at hu) ?_
  repeat first | refine ω1 ?_ | refine ω2 ?_ | refine ω3 ?_ | refine ω4 ?_ | refine ω5 ?_ | refine χ1 ?_ | refine κ1 ?_ | refine κ2 ?_ | refine χ2 ?_ | refine κ3 ?_ | refine ω6 ?_ | refine ω7 ?_ | refine ω9 ?_ | refine κ4 ?_ | refine κ7 ?_ | refine κ8 ?_ | refine χ3 ?_ | refine χ4 ?_ | refine κ5 ?_ | refine κ6 ?_ | refine χ5 ?_ | refine χ6 ?_ | refine χ7 ?_ | refine ω8 ?_
  refine cl (rowsRank_any hA9 (hr.ext hx09) hset.1 (by omega)) ?_
  rintro _ w10 ⟨⟨vn, rfl, hn10⟩, hx10⟩
  have hx010 := hx09.trans hx10
  repeat first | refine ω1 ?_ | refine ω2 ?_ | refine ω3 ?_ | refine ω4 ?_ | refine ω5 ?_ | refine χ1 ?_ | refine κ1 ?_ | refine κ2 ?_ | refine χ2 ?_ | refine κ3 ?_ | refine ω6 ?_ | refine ω7 ?_ | refine ω9 ?_ | refine κ4 ?_ | refine κ7 ?_ | refine κ8 ?_ | refine χ3 ?_ | refine χ4 ?_ | refine κ5 ?_ | refine κ6 ?_ | refine χ5 ?_ | refine χ6 ?_ | refine χ7 ?_ | refine ω8 ?_
  refine cl (refRank_any (hM.ext hx10) (hr.ext hx010) (hd.ext hx010)) ?_
  rintro _ w11 ⟨rfl, hx11⟩
  have hcl := cnt_le ds m' r
  obtain ⟨Am, cm, rfl, hcm, hmm, _⟩ := hM.parts
  repeat first | refine ω1 ?_ | refine ω2 ?_ | refine ω3 ?_ | refine ω4 ?_ | refine ω5 ?_ | refine χ1 ?_ | refine κ1 ?_ | refine κ2 ?_ | refine χ2 ?_ | refine κ3 ?_ | refine ω6 ?_ | refine ω7 ?_ | refine ω9 ?_ | refine κ4 ?_ | refine κ7 ?_ | refine κ8 ?_ | refine χ3 ?_ | refine χ4 ?_ | refine κ5 ?_ | refine κ6 ?_ | refine χ5 ?_ | refine χ6 ?_ | refine χ7 ?_ | refine ω8 ?_
  refine lds (fun j u hu => (((hk8.ext hx9).ext hx10).ext hx11).at hu) ?_
  repeat first | refine ω1 ?_ | refine ω2 ?_ | refine ω3 ?_ | refine ω4 ?_ | refine ω5 ?_ | refine χ1 ?_ | refine κ1 ?_ | refine κ2 ?_ | refine χ2 ?_ | refine κ3 ?_ | refine ω6 ?_ | refine ω7 ?_ | refine ω9 ?_ | refine κ4 ?_ | refine κ7 ?_ | refine κ8 ?_ | refine χ3 ?_ | refine χ4 ?_ | refine κ5 ?_ | refine κ6 ?_ | refine χ5 ?_ | refine χ6 ?_ | refine χ7 ?_ | refine ω8 ?_
  refine mki Try.underlying29 (fun ms e => by cases e) ?_
  repeat first | refine ω1 ?_ | refine ω2 ?_ | refine ω3 ?_ | refine ω4 ?_ | refine ω5 ?_ | refine χ1 ?_ | refine κ1 ?_ | refine κ2 ?_ | refine χ2 ?_ | refine κ3 ?_ | refine ω6 ?_ | refine ω7 ?_ | refine ω9 ?_ | refine κ4 ?_ | refine κ7 ?_ | refine κ8 ?_ | refine χ3 ?_ | refine χ4 ?_ | refine κ5 ?_ | refine κ6 ?_ | refine χ5 ?_ | refine χ6 ?_ | refine χ7 ?_ | refine ω8 ?_
  have hI := rowsI ((hA9.ext hx10).ext hx11) hset.1 (by omega)
  refine cl (is_any hI.w ((hM.ext hx10).ext hx11)) ?_
  rintro _ w12 ⟨rfl, hx12⟩
  repeat first | refine ω1 ?_ | refine ω2 ?_ | refine ω3 ?_ | refine ω4 ?_ | refine ω5 ?_ | refine χ1 ?_ | refine κ1 ?_ | refine κ2 ?_ | refine χ2 ?_ | refine κ3 ?_ | refine ω6 ?_ | refine ω7 ?_ | refine ω9 ?_ | refine κ4 ?_ | refine κ7 ?_ | refine κ8 ?_ | refine χ3 ?_ | refine χ4 ?_ | refine κ5 ?_ | refine κ6 ?_ | refine χ5 ?_ | refine χ6 ?_ | refine χ7 ?_ | refine ω8 ?_
  refine eqb ?_
  rw [beq_self_eq_true]
  repeat first | refine ω1 ?_ | refine ω2 ?_ | refine ω3 ?_ | refine ω4 ?_ | refine ω5 ?_ | refine χ1 ?_ | refine κ1 ?_ | refine κ2 ?_ | refine χ2 ?_ | refine κ3 ?_ | refine ω6 ?_ | refine ω7 ?_ | refine ω9 ?_ | refine κ4 ?_ | refine κ7 ?_ | refine κ8 ?_ | refine χ3 ?_ | refine χ4 ?_ | refine κ5 ?_ | refine κ6 ?_ | refine χ5 ?_ | refine χ6 ?_ | refine χ7 ?_ | refine ω8 ?_
  refine cl (of43_any (n := cnt ds m' r) (by omega) _) ?_
  rintro _ w13 ⟨hn13, hx13⟩
  repeat first | refine ω1 ?_ | refine ω2 ?_ | refine ω3 ?_ | refine ω4 ?_ | refine ω5 ?_ | refine χ1 ?_ | refine κ1 ?_ | refine κ2 ?_ | refine χ2 ?_ | refine κ3 ?_ | refine ω6 ?_ | refine ω7 ?_ | refine ω9 ?_ | refine κ4 ?_ | refine κ7 ?_ | refine κ8 ?_ | refine χ3 ?_ | refine χ4 ?_ | refine κ5 ?_ | refine κ6 ?_ | refine χ5 ?_ | refine χ6 ?_ | refine χ7 ?_ | refine ω8 ?_
  refine cl (natCmp_any (((hn10.ext hx11).ext hx12).ext hx13) hn13) ?_
  rintro _ w14 ⟨rfl, hx14⟩
  rw [cmpN_eq.2 rfl]
  have hlb := lenB_le (show m'.length < 256 by omega)
  repeat first | refine ω1 ?_ | refine ω2 ?_ | refine ω3 ?_ | refine ω4 ?_ | refine ω5 ?_ | refine χ1 ?_ | refine κ1 ?_ | refine κ2 ?_ | refine χ2 ?_ | refine κ3 ?_ | refine ω6 ?_ | refine ω7 ?_ | refine ω9 ?_ | refine κ4 ?_ | refine κ7 ?_ | refine κ8 ?_ | refine χ3 ?_ | refine χ4 ?_ | refine κ5 ?_ | refine κ6 ?_ | refine χ5 ?_ | refine χ6 ?_ | refine χ7 ?_ | refine ω8 ?_
  refine kt 69 ?_ ?_
  · exact decide_eq_true (by omega)
  repeat first | refine ω1 ?_ | refine ω2 ?_ | refine ω3 ?_ | refine ω4 ?_ | refine ω5 ?_ | refine χ1 ?_ | refine κ1 ?_ | refine κ2 ?_ | refine χ2 ?_ | refine κ3 ?_ | refine ω6 ?_ | refine ω7 ?_ | refine ω9 ?_ | refine κ4 ?_ | refine κ7 ?_ | refine κ8 ?_ | refine χ3 ?_ | refine χ4 ?_ | refine κ5 ?_ | refine κ6 ?_ | refine χ5 ?_ | refine χ6 ?_ | refine χ7 ?_ | refine ω8 ?_
  rw [u64w (z := (m'.length : Int)) (by omega)]
  refine cl (bitsLen_any (x := m'.length) (by omega) _) ?_
  rintro _ w15 ⟨rfl, rfl⟩
  repeat first | refine ω1 ?_ | refine ω2 ?_ | refine ω3 ?_ | refine ω4 ?_ | refine ω5 ?_ | refine χ1 ?_ | refine κ1 ?_ | refine κ2 ?_ | refine χ2 ?_ | refine κ3 ?_ | refine ω6 ?_ | refine ω7 ?_ | refine ω9 ?_ | refine κ4 ?_ | refine κ7 ?_ | refine κ8 ?_ | refine χ3 ?_ | refine χ4 ?_ | refine κ5 ?_ | refine κ6 ?_ | refine χ5 ?_ | refine χ6 ?_ | refine χ7 ?_ | refine ω8 ?_
  refine kt 78 ?_ ?_
  · exact decide_eq_true (by omega)
  repeat first | refine ω1 ?_ | refine ω2 ?_ | refine ω3 ?_ | refine ω4 ?_ | refine ω5 ?_ | refine χ1 ?_ | refine κ1 ?_ | refine κ2 ?_ | refine χ2 ?_ | refine κ3 ?_ | refine ω6 ?_ | refine ω7 ?_ | refine ω9 ?_ | refine κ4 ?_ | refine κ7 ?_ | refine κ8 ?_ | refine χ3 ?_ | refine χ4 ?_ | refine κ5 ?_ | refine κ6 ?_ | refine χ5 ?_ | refine χ6 ?_ | refine χ7 ?_ | refine ω8 ?_
  refine bld (bldZero _) ?_
  repeat first | refine ω1 ?_ | refine ω2 ?_ | refine ω3 ?_ | refine ω4 ?_ | refine ω5 ?_ | refine χ1 ?_ | refine κ1 ?_ | refine κ2 ?_ | refine χ2 ?_ | refine κ3 ?_ | refine ω6 ?_ | refine ω7 ?_ | refine ω9 ?_ | refine κ4 ?_ | refine κ7 ?_ | refine κ8 ?_ | refine χ3 ?_ | refine χ4 ?_ | refine κ5 ?_ | refine κ6 ?_ | refine χ5 ?_ | refine χ6 ?_ | refine χ7 ?_ | refine ω8 ?_
  refine mki Try.underlying29 (fun ms e => by cases e) ?_
  repeat first | refine ω1 ?_ | refine ω2 ?_ | refine ω3 ?_ | refine ω4 ?_ | refine ω5 ?_ | refine χ1 ?_ | refine κ1 ?_ | refine κ2 ?_ | refine χ2 ?_ | refine κ3 ?_ | refine ω6 ?_ | refine ω7 ?_ | refine ω9 ?_ | refine κ4 ?_ | refine κ7 ?_ | refine κ8 ?_ | refine χ3 ?_ | refine χ4 ?_ | refine κ5 ?_ | refine κ6 ?_ | refine χ5 ?_ | refine χ6 ?_ | refine χ7 ?_ | refine ω8 ?_
  refine cl (is_any (rowsI (RowsA.zero _) List.Pairwise.nil (by decide)).w (RowsV.nil _ none 0)) ?_
  rintro _ w16 ⟨rfl, hx16⟩
  repeat first | refine ω1 ?_ | refine ω2 ?_ | refine ω3 ?_ | refine ω4 ?_ | refine ω5 ?_ | refine χ1 ?_ | refine κ1 ?_ | refine κ2 ?_ | refine χ2 ?_ | refine κ3 ?_ | refine ω6 ?_ | refine ω7 ?_ | refine ω9 ?_ | refine κ4 ?_ | refine κ7 ?_ | refine κ8 ?_ | refine χ3 ?_ | refine χ4 ?_ | refine κ5 ?_ | refine κ6 ?_ | refine χ5 ?_ | refine χ6 ?_ | refine χ7 ?_ | refine ω8 ?_
  refine cl (awake43_any _) ?_
  rintro _ w17 ⟨rfl, hx17⟩
  repeat first | refine ω1 ?_ | refine ω2 ?_ | refine ω3 ?_ | refine ω4 ?_ | refine ω5 ?_ | refine χ1 ?_ | refine κ1 ?_ | refine κ2 ?_ | refine χ2 ?_ | refine κ3 ?_ | refine ω6 ?_ | refine ω7 ?_ | refine ω9 ?_ | refine κ4 ?_ | refine κ7 ?_ | refine κ8 ?_ | refine χ3 ?_ | refine χ4 ?_ | refine κ5 ?_ | refine κ6 ?_ | refine χ5 ?_ | refine χ6 ?_ | refine χ7 ?_ | refine ω8 ?_
  exact fin1 ⟨rfl, (((((hx010.trans hx11).trans hx12).trans hx13).trans hx14).trans hx16).trans hx17⟩
end Go.Proofs.Ytpahjnfolbnloaa
