/- Lists of rows in memory; contracts of row.clone and row.Sort. -/
import Derived.Test.YtpahjnfolbnloaaSort4
import Derived.Test.YtpahjnfolbnloaaClone
set_option linter.unusedVariables false
namespace Go.Proofs.Ytpahjnfolbnloaa
open Go.RowKit Pl Go.Wk
attribute [local irreducible] WC WL QX WD WDB WP
/-- a row that lies off some blocks -/
def RowX (w : World) (N : Nat → Prop) (v : Value) (r : List V) : Prop := ∃ A c, v = .slice A r.length c ∧ r.length ≤ c ∧ r.length ≤ 1100000 ∧ RdR w A r ∧ (r ≠ [] → ∀ ad, A = some ad → ¬ N ad.block)
/-- one block, or none -/
def one (g : Option Nat) (k : Nat) : Prop := g = some k
theorem RowX.v {w : World} {N : Nat → Prop} {v : Value} {r : List V} (h : RowX w N v r) : RowV w v r := by
  obtain ⟨A, c, h1, h2, h3, h4, _⟩ := h; exact ⟨A, c, h1, h2, h3, h4⟩
theorem RowX.ext {w w' : World} {N : Nat → Prop} {v : Value} {r : List V} (h : RowX w N v r) (hx : Ext w w') : RowX w' N v r := by
  obtain ⟨A, c, h1, h2, h3, h4, h5⟩ := h; exact ⟨A, c, h1, h2, h3, h4.ext hx, h5⟩
theorem RowX.mono {w : World} {N N' : Nat → Prop} {v : Value} {r : List V} (h : RowX w N v r) (hN : ∀ k, k < w.heap.size → N' k → N k) : RowX w N' v r := by
  obtain ⟨A, c, h1, h2, h3, h4, h5⟩ := h
  refine ⟨A, c, h1, h2, h3, h4, fun h0 ad e hn => h5 h0 ad e (hN _ ?_ hn)⟩
  obtain ⟨ad', e7, e8⟩ := Rd.isome h4 (List.length_pos_iff.2 h0) (by omega)
  rw [e] at e7; injection e7 with e7; subst e7; exact e8
theorem RowX.grown {w w' : World} {N : Nat → Prop} {g : Option Nat} {v : Value} {r : List V} (h : RowX w N v r) (hg : w.grownBy w' g) (hN : ∀ k, g = some k → N k) : RowX w' N v r := by
  obtain ⟨A, c, h1, h2, h3, h4, h5⟩ := h
  refine ⟨A, c, h1, h2, h3, ?_, h5⟩
  by_cases h0 : r = []
  · subst h0; exact Rd.nil
  · exact Rd.grown h4 hg (fun ad e e2 => h5 h0 ad e (hN _ e2))
theorem RowX.nil (w : World) (N : Nat → Prop) : RowX w N (.slice none 0 0) [] := ⟨none, 0, rfl, by simp, by simp, Rd.nil, fun h => absurd rfl h⟩
theorem RowV.off {w : World} {N : Nat → Prop} {v : Value} {r : List V} (h : RowV w v r) (hg : ∀ k, N k → w.heap.size ≤ k) : RowX w N v r := by
  obtain ⟨A, c, h1, h2, h3, h4⟩ := h
  refine ⟨A, c, h1, h2, h3, h4, fun h0 ad e e2 => ?_⟩
  obtain ⟨ad', e7, e8⟩ := Rd.isome h4 (List.length_pos_iff.2 h0) (by omega)
  rw [e] at e7; injection e7 with e7; subst e7
  have := hg _ e2
  omega
/-- rows in memory -/
def RowsV (w : World) (v : Value) (ls : List (List V)) : Prop := ∃ (ps : List Pr) (A : Option Addr) (c : Nat), ls = ps.map (·.2) ∧ v = .slice A ps.length c ∧ ps.length ≤ c ∧ ps.length ≤ 1100000 ∧ Rd w 1 A ps.length (ps.map (·.1)) ∧ ∀ p ∈ ps, RowV w p.1 p.2
theorem RowsV.ext {w w' : World} {v : Value} {ls : List (List V)} (h : RowsV w v ls) (hx : Ext w w') : RowsV w' v ls := by
  obtain ⟨ps, A, c, h1, h2, h3, h4, h5, h6⟩ := h; exact ⟨ps, A, c, h1, h2, h3, h4, h5.ext hx, fun p hp => (h6 p hp).ext hx⟩
theorem RowsV.nil (w : World) (A : Option Addr) (c : Nat) : RowsV w (.slice A 0 c) [] := ⟨[], A, c, rfl, rfl, by simp, by simp, Rd.nil, fun p hp => by cases hp⟩
theorem RowV.one {w : World} {v : Value} {r : List V} (h : RowV w v r) : v.oneCell' = true := by obtain ⟨A, c, rfl, _⟩ := h; rfl
set_option maxRecDepth 100000 in
theorem cloneRowV {v : Value} {r : List V} {w : World} (h : RowV w v r) (N : Nat → Prop) (hg : ∀ k, N k → k < w.heap.size) :
    Ret Try.prog 64 [v] w fun v' w' => RowX w' N v' r ∧ Ext w w' := by
  obtain ⟨A, c, rfl, h2, h3, hr⟩ := h
  refine enterR Try.func64 Try.ntmps64 rfl (by kernel_rfl) rfl ?_
  repeat first | refine ω1 ?_ | refine ω2 ?_ | refine ω3 ?_ | refine ω4 ?_ | refine ω5 ?_ | refine χ1 ?_ | refine κ1 ?_ | refine κ2 ?_ | refine χ2 ?_ | refine κ3 ?_ | refine ω6 ?_ | refine ω7 ?_ | refine ω9 ?_ | refine κ4 ?_ | refine κ7 ?_ | refine κ8 ?_ | refine χ3 ?_ | refine χ4 ?_ | refine κ5 ?_ | refine κ6 ?_ | refine χ5 ?_ | refine χ6 ?_ | refine χ7 ?_ | refine ω8 ?_
  refine snil ?_
  repeat first | refine ω1 ?_ | refine ω2 ?_ | refine ω3 ?_ | refine ω4 ?_ | refine ω5 ?_ | refine χ1 ?_ | refine κ1 ?_ | refine κ2 ?_ | refine χ2 ?_ | refine κ3 ?_ | refine ω6 ?_ | refine ω7 ?_ | refine ω9 ?_ | refine κ4 ?_ | refine κ7 ?_ | refine κ8 ?_ | refine χ3 ?_ | refine χ4 ?_ | refine κ5 ?_ | refine κ6 ?_ | refine χ5 ?_ | refine χ6 ?_ | refine χ7 ?_ | refine ω8 ?_
  refine ci (fun h => ?_) (fun h => ?_)
  · have hA : A = none := by simpa using h
    subst hA
    have hn : r.length = 0 := by
      rcases Nat.eq_zero_or_pos r.length with h0 | h0
      · exact h0
      · obtain ⟨ad, h2, _⟩ := hr.isome h0 (by omega); cases h2
    obtain rfl := List.eq_nil_of_length_eq_zero hn
    repeat first | refine ω1 ?_ | refine ω2 ?_ | refine ω3 ?_ | refine ω4 ?_ | refine ω5 ?_ | refine χ1 ?_ | refine κ1 ?_ | refine κ2 ?_ | refine χ2 ?_ | refine κ3 ?_ | refine ω6 ?_ | refine ω7 ?_ | refine ω9 ?_ | refine κ4 ?_ | refine κ7 ?_ | refine κ8 ?_ | refine χ3 ?_ | refine χ4 ?_ | refine κ5 ?_ | refine κ6 ?_ | refine χ5 ?_ | refine χ6 ?_ | refine χ7 ?_ | refine ω8 ?_
    exact fin1 ⟨RowX.nil w N, Ext.refl w⟩
  · repeat first | refine ω1 ?_ | refine ω2 ?_ | refine ω3 ?_ | refine ω4 ?_ | refine ω5 ?_ | refine χ1 ?_ | refine κ1 ?_ | refine κ2 ?_ | refine χ2 ?_ | refine κ3 ?_ | refine ω6 ?_ | refine ω7 ?_ | refine ω9 ?_ | refine κ4 ?_ | refine κ7 ?_ | refine κ8 ?_ | refine χ3 ?_ | refine χ4 ?_ | refine κ5 ?_ | refine κ6 ?_ | refine χ5 ?_ | refine χ6 ?_ | refine χ7 ?_ | refine ω8 ?_
    refine bsl bs0Row ?_
    intro w1 b hx1 hb1 hk1
    repeat first | refine ω1 ?_ | refine ω2 ?_ | refine ω3 ?_ | refine ω4 ?_ | refine ω5 ?_ | refine χ1 ?_ | refine κ1 ?_ | refine κ2 ?_ | refine χ2 ?_ | refine κ3 ?_ | refine ω6 ?_ | refine ω7 ?_ | refine ω9 ?_ | refine κ4 ?_ | refine κ7 ?_ | refine κ8 ?_ | refine χ3 ?_ | refine χ4 ?_ | refine κ5 ?_ | refine κ6 ?_ | refine χ5 ?_ | refine χ6 ?_ | refine χ7 ?_ | refine ω8 ?_
    refine apo hx1 EV (hk1.own (n := 0) hb1 rfl (Nat.zero_le _)) (hr.ext hx1) (rowC_one r) (by unfold maxLen; omega) (by omega) ?_
    intro v2 w2 ho2 hx2 _ _
    obtain ⟨A2, c2, rfl, hc2, hf⟩ := own_form ho2
    repeat first | refine ω1 ?_ | refine ω2 ?_ | refine ω3 ?_ | refine ω4 ?_ | refine ω5 ?_ | refine χ1 ?_ | refine κ1 ?_ | refine κ2 ?_ | refine χ2 ?_ | refine κ3 ?_ | refine ω6 ?_ | refine ω7 ?_ | refine ω9 ?_ | refine κ4 ?_ | refine κ7 ?_ | refine κ8 ?_ | refine χ3 ?_ | refine χ4 ?_ | refine κ5 ?_ | refine κ6 ?_ | refine χ5 ?_ | refine χ6 ?_ | refine χ7 ?_ | refine ω8 ?_
    rw [Nat.zero_add] at ho2 hc2 ⊢
    refine fin1 ⟨⟨A2, c2, rfl, hc2, h3, Rd.own ho2, fun _ ad e => ?_⟩, hx2⟩
    subst e
    intro e2
    have h4 := hg _ e2
    have h5 := (hf ad.block rfl).1
    omega
theorem Pr.rep (n : Nat) : (List.replicate n ((.slice none 0 0, []) : Pr)).map (·.1) = List.replicate n (.slice none 0 0) := by simp
set_option maxRecDepth 100000 in
/-- the copy: its cells are the call's own, its rows lie elsewhere -/
theorem rowClone_any {v : Value} {ls : List (List V)} {w : World} (h : RowsV w v ls) :
    Ret Try.prog 78 [v] w fun v' w' => (∃ (ps : List Pr) (A : Option Addr), v' = .slice A ps.length ps.length ∧ ps.map (·.2) = ls ∧ ps.length ≤ 1100000 ∧ Dat w' w.heap.size (.slice A ps.length ps.length) ps ∧ ∀ p ∈ ps, RowX w' (one (Value.slice A ps.length ps.length).ownBlock) p.1 p.2) ∧ Ext w w' := by
  obtain ⟨ps, A, c, rfl, rfl, h3, h4, h5, h6⟩ := h
  generalize hn : ps.length = n at *
  refine enterR Try.func78 Try.ntmps78 rfl (by kernel_rfl) rfl ?_
  repeat first | refine ω1 ?_ | refine ω2 ?_ | refine ω3 ?_ | refine ω4 ?_ | refine ω5 ?_ | refine χ1 ?_ | refine κ1 ?_ | refine κ2 ?_ | refine χ2 ?_ | refine κ3 ?_ | refine ω6 ?_ | refine ω7 ?_ | refine ω9 ?_ | refine κ4 ?_ | refine κ7 ?_ | refine κ8 ?_ | refine χ3 ?_ | refine χ4 ?_ | refine κ5 ?_ | refine κ6 ?_ | refine χ5 ?_ | refine χ6 ?_ | refine χ7 ?_ | refine ω8 ?_
  refine mkn ER n (by omega) (by unfold maxLen; omega) ?_
  intro w1 O hx1 ho1 hO
  have hg0 : ∀ k, (Value.slice O n n).ownBlock = some k → w.heap.size ≤ k ∧ k < w1.heap.size := by
    obtain ⟨_, _, e, _, hf⟩ := own_form ho1
    exact hf
  have hD1 : Dat w1 w.heap.size (.slice O n n) ([] ++ List.replicate n (.slice none 0 0, [])) := by
    refine ⟨?_, fun p hp => ?_⟩
    · rw [List.nil_append, List.length_replicate, Pr.rep]
      have e : (madeCells (Value.slice none 0 0).cells (n * 1)).toList = List.replicate n (.slice none 0 0) := by rw [Nat.mul_one]; exact made1 _ _
      rw [e] at ho1; exact ho1
    · rw [List.nil_append] at hp; rw [(List.mem_replicate.1 hp).2]; rfl
  repeat first | refine ω1 ?_ | refine ω2 ?_ | refine ω3 ?_ | refine ω4 ?_ | refine ω5 ?_ | refine χ1 ?_ | refine κ1 ?_ | refine κ2 ?_ | refine χ2 ?_ | refine κ3 ?_ | refine ω6 ?_ | refine ω7 ?_ | refine ω9 ?_ | refine κ4 ?_ | refine κ7 ?_ | refine κ8 ?_ | refine χ3 ?_ | refine χ4 ?_ | refine κ5 ?_ | refine κ6 ?_ | refine χ5 ?_ | refine χ6 ?_ | refine χ7 ?_ | refine ω8 ?_
  refine wloop2 (fun (k : Nat) (qs : List Pr) => [(0, .slice A n c), (3, .slice O n n), (9, .int .i64 (n : Int)), (10, .int .i64 (k : Int))])
    (fun k qs w2 => k ≤ n ∧ qs.length = k ∧ qs.map (·.2) = (ps.take k).map (·.2) ∧ Ext w w2 ∧ Dat w2 w.heap.size (.slice O n n) (qs ++ List.replicate (n - k) (.slice none 0 0, [])) ∧ (∀ p ∈ qs, RowX w2 (one (Value.slice O n n).ownBlock) p.1 p.2) ∧ w1.heap.size ≤ w2.heap.size) (fun k _ => n - k) 0 [] (by repeat' (first | exact Sub.nil | refine Sub.cons rfl ?_))
    ⟨Nat.zero_le _, rfl, rfl, hx1, hD1, fun p hp => (by cases hp), Nat.le_refl _⟩ ?_
  rintro k qs w2 ⟨hk, hq1, hq2, hx2, hD2, hR2, hsz2⟩
  repeat first | refine ω1 ?_ | refine ω2 ?_ | refine ω3 ?_ | refine ω4 ?_ | refine ω5 ?_ | refine χ1 ?_ | refine κ1 ?_ | refine κ2 ?_ | refine χ2 ?_ | refine κ3 ?_ | refine ω6 ?_ | refine ω7 ?_ | refine ω9 ?_ | refine κ4 ?_ | refine κ7 ?_ | refine κ8 ?_ | refine χ3 ?_ | refine χ4 ?_ | refine κ5 ?_ | refine κ6 ?_ | refine χ5 ?_ | refine χ6 ?_ | refine χ7 ?_ | refine ω8 ?_
  refine ci (fun h => ?_) (fun h => ?_)
  · have hlt : k < n := by have := of_decide_eq_true h; omega
    have hps : k < ps.length := by omega
    repeat first | refine ω1 ?_ | refine ω2 ?_ | refine ω3 ?_ | refine ω4 ?_ | refine ω5 ?_ | refine χ1 ?_ | refine κ1 ?_ | refine κ2 ?_ | refine χ2 ?_ | refine κ3 ?_ | refine ω6 ?_ | refine ω7 ?_ | refine ω9 ?_ | refine κ4 ?_ | refine κ7 ?_ | refine κ8 ?_ | refine χ3 ?_ | refine χ4 ?_ | refine κ5 ?_ | refine κ6 ?_ | refine χ5 ?_ | refine χ6 ?_ | refine χ7 ?_ | refine ω8 ?_
    refine ix k (h5.ext hx2) hlt ?_
    repeat first | refine ω1 ?_ | refine ω2 ?_ | refine ω3 ?_ | refine ω4 ?_ | refine ω5 ?_ | refine χ1 ?_ | refine κ1 ?_ | refine κ2 ?_ | refine χ2 ?_ | refine κ3 ?_ | refine ω6 ?_ | refine ω7 ?_ | refine ω9 ?_ | refine κ4 ?_ | refine κ7 ?_ | refine κ8 ?_ | refine χ3 ?_ | refine χ4 ?_ | refine κ5 ?_ | refine κ6 ?_ | refine χ5 ?_ | refine χ6 ?_ | refine χ7 ?_ | refine ω8 ?_
    refine ld ((h5.ext hx2).cell (ps_get hps)) ?_
    repeat first | refine ω1 ?_ | refine ω2 ?_ | refine ω3 ?_ | refine ω4 ?_ | refine ω5 ?_ | refine χ1 ?_ | refine κ1 ?_ | refine κ2 ?_ | refine χ2 ?_ | refine κ3 ?_ | refine ω6 ?_ | refine ω7 ?_ | refine ω9 ?_ | refine κ4 ?_ | refine κ7 ?_ | refine κ8 ?_ | refine χ3 ?_ | refine χ4 ?_ | refine κ5 ?_ | refine κ6 ?_ | refine χ5 ?_ | refine χ6 ?_ | refine χ7 ?_ | refine ω8 ?_
    refine cl (cloneRowV ((h6 _ (getD_mem' z0 ps hps)).ext hx2) (one (Value.slice O n n).ownBlock) (fun j hj => by have := hg0 j hj; omega)) ?_
    rintro v3 w3 ⟨hr3, hx3⟩
    have hD3 := hD2.ext hx3
    have hl3 : (qs ++ List.replicate (n - k) ((.slice none 0 0, []) : Pr)).length = n := by simp; omega
    obtain ⟨s1, s2, s3⟩ := hD3.store hl3 hlt (p := (v3, (ps.getD k z0).2)) hr3.v.one
    repeat first | refine ω1 ?_ | refine ω2 ?_ | refine ω3 ?_ | refine ω4 ?_ | refine ω5 ?_ | refine χ1 ?_ | refine κ1 ?_ | refine κ2 ?_ | refine χ2 ?_ | refine κ3 ?_ | refine ω6 ?_ | refine ω7 ?_ | refine ω9 ?_ | refine κ4 ?_ | refine κ7 ?_ | refine κ8 ?_ | refine χ3 ?_ | refine χ4 ?_ | refine κ5 ?_ | refine κ6 ?_ | refine χ5 ?_ | refine χ6 ?_ | refine χ7 ?_ | refine ω8 ?_
    refine ix k (hD3.rd hl3) hlt ?_
    repeat first | refine ω1 ?_ | refine ω2 ?_ | refine ω3 ?_ | refine ω4 ?_ | refine ω5 ?_ | refine χ1 ?_ | refine κ1 ?_ | refine κ2 ?_ | refine χ2 ?_ | refine κ3 ?_ | refine ω6 ?_ | refine ω7 ?_ | refine ω9 ?_ | refine κ4 ?_ | refine κ7 ?_ | refine κ8 ?_ | refine χ3 ?_ | refine χ4 ?_ | refine κ5 ?_ | refine κ6 ?_ | refine χ5 ?_ | refine χ6 ?_ | refine χ7 ?_ | refine ω8 ?_
    refine sto (hD3.cell hl3 hlt) s1 ?_ (hv := hr3.v.one)
    repeat first | refine ω1 ?_ | refine ω2 ?_ | refine ω3 ?_ | refine ω4 ?_ | refine ω5 ?_ | refine χ1 ?_ | refine κ1 ?_ | refine κ2 ?_ | refine χ2 ?_ | refine κ3 ?_ | refine ω6 ?_ | refine ω7 ?_ | refine ω9 ?_ | refine κ4 ?_ | refine κ7 ?_ | refine κ8 ?_ | refine χ3 ?_ | refine χ4 ?_ | refine κ5 ?_ | refine κ6 ?_ | refine χ5 ?_ | refine χ6 ?_ | refine χ7 ?_ | refine ω8 ?_
    have e : (qs ++ List.replicate (n - k) ((.slice none 0 0, []) : Pr)).set k (v3, (ps.getD k z0).2) = (qs ++ [(v3, (ps.getD k z0).2)]) ++ List.replicate (n - (k + 1)) (.slice none 0 0, []) := by
      rw [show n - k = (n - (k + 1)) + 1 by omega, List.replicate_succ, List.set_append_right _ _ (by omega), hq1, Nat.sub_self, List.set_cons_zero, List.append_assoc]; rfl
    rw [e] at s2
    refine qround2 (k + 1) (qs ++ [(v3, (ps.getD k z0).2)]) (by repeat' (first | exact Sub.nil | refine Sub.cons rfl ?_)) ⟨by omega, by simp [hq1], ?_, grown_ext (hx2.trans hx3) s3 (fun j hj => (hg0 j hj).1), s2, fun p hp => ?_, ?_⟩ (by omega)
    · rw [List.map_append, hq2, List.take_succ_eq_append_getElem hps, List.map_append, getD_get z0 ps hps]; rfl
    · rcases List.mem_append.1 hp with h' | h'
      · exact ((hR2 p h').ext hx3).grown s3 (fun _ e => e)
      · rw [List.mem_singleton.1 h']; exact hr3.grown s3 (fun _ e => e)
    · exact Nat.le_trans hsz2 (Nat.le_trans hx3.size s3.size)
  · have hkn : k = n := by have := of_decide_eq_false h; omega
    subst hkn
    rw [Nat.sub_self, List.replicate_zero, List.append_nil] at hD2
    repeat first | refine ω1 ?_ | refine ω2 ?_ | refine ω3 ?_ | refine ω4 ?_ | refine ω5 ?_ | refine χ1 ?_ | refine κ1 ?_ | refine κ2 ?_ | refine χ2 ?_ | refine κ3 ?_ | refine ω6 ?_ | refine ω7 ?_ | refine ω9 ?_ | refine κ4 ?_ | refine κ7 ?_ | refine κ8 ?_ | refine χ3 ?_ | refine χ4 ?_ | refine κ5 ?_ | refine κ6 ?_ | refine χ5 ?_ | refine χ6 ?_ | refine χ7 ?_ | refine ω8 ?_
    subst hq1
    exact fin1 ⟨⟨qs, O, rfl, by rw [hq2, ← hn, List.take_length], h4, hD2, hR2⟩, hx2⟩
set_option maxRecDepth 100000 in
theorem sortCmp_any {va vb vd : Value} {a b : List V} {ds : List Bool} {w : World} {g : Nat} (ha : RowV w va a) (hb : RowV w vb b) (hd : BoolsV w vd ds) (hk : Blk w g 23 [vd]) :
    Ret Try.prog 80 [va, vb, .pointer (some ⟨g, 0, none⟩)] w fun r w' => r = .int .i64 (cmpR a b ds) ∧ Ext w w' := by
  refine enterR Try.func80 Try.ntmps80 rfl (by kernel_rfl) rfl ?_
  repeat first | refine ω1 ?_ | refine ω2 ?_ | refine ω3 ?_ | refine ω4 ?_ | refine ω5 ?_ | refine χ1 ?_ | refine κ1 ?_ | refine κ2 ?_ | refine χ2 ?_ | refine κ3 ?_ | refine ω6 ?_ | refine ω7 ?_ | refine ω9 ?_ | refine κ4 ?_ | refine κ7 ?_ | refine κ8 ?_ | refine χ3 ?_ | refine χ4 ?_ | refine κ5 ?_ | refine κ6 ?_ | refine χ5 ?_ | refine χ6 ?_ | refine χ7 ?_ | refine ω8 ?_
  refine ld (hk.at (i := 0) rfl) ?_
  repeat first | refine ω1 ?_ | refine ω2 ?_ | refine ω3 ?_ | refine ω4 ?_ | refine ω5 ?_ | refine χ1 ?_ | refine κ1 ?_ | refine κ2 ?_ | refine χ2 ?_ | refine κ3 ?_ | refine ω6 ?_ | refine ω7 ?_ | refine ω9 ?_ | refine κ4 ?_ | refine κ7 ?_ | refine κ8 ?_ | refine χ3 ?_ | refine χ4 ?_ | refine κ5 ?_ | refine κ6 ?_ | refine χ5 ?_ | refine χ6 ?_ | refine χ7 ?_ | refine ω8 ?_
  refine cl (compareBy_any ha hb hd) ?_
  rintro v w1 ⟨rfl, hx⟩
  repeat first | refine ω1 ?_ | refine ω2 ?_ | refine ω3 ?_ | refine ω4 ?_ | refine ω5 ?_ | refine χ1 ?_ | refine κ1 ?_ | refine κ2 ?_ | refine χ2 ?_ | refine κ3 ?_ | refine ω6 ?_ | refine ω7 ?_ | refine ω9 ?_ | refine κ4 ?_ | refine κ7 ?_ | refine κ8 ?_ | refine χ3 ?_ | refine χ4 ?_ | refine κ5 ?_ | refine κ6 ?_ | refine χ5 ?_ | refine χ6 ?_ | refine χ7 ?_ | refine ω8 ?_
  exact fin1 ⟨rfl, hx⟩
/-- sorted -/
def Srt (ds : List Bool) (ls : List (List V)) : Prop := ls.Pairwise fun a b => cmpR a b ds ≤ 0
theorem srt_of {ds : List Bool} {ps : List Pr} (h : SOn z0 (fP ds) ps 0 ps.length) : Srt ds (ps.map (·.2)) := by
  unfold Srt
  rw [List.pairwise_map, List.pairwise_iff_getElem]
  intro i j hi hj hij
  have := h i j (Nat.zero_le _) hij hj
  rw [getD_get z0 ps hi, getD_get z0 ps hj] at this
  exact this
set_option maxRecDepth 100000 in
theorem rowSort_any {v vd : Value} {ls : List (List V)} {ds : List Bool} {w : World} (h : RowsV w v ls) (hd : BoolsV w vd ds) :
    Ret Try.prog 51 [v, vd] w fun v' w' => (∃ ls', RowsV w' v' ls' ∧ ls'.Perm ls ∧ Srt ds ls') ∧ Ext w w' := by
  obtain ⟨D, dc, rfl, hdc, hdm, hdr⟩ := id hd
  refine enterR Try.func51 Try.ntmps51 rfl (by kernel_rfl) rfl ?_
  repeat first | refine ω1 ?_ | refine ω2 ?_ | refine ω3 ?_ | refine ω4 ?_ | refine ω5 ?_ | refine χ1 ?_ | refine κ1 ?_ | refine κ2 ?_ | refine χ2 ?_ | refine κ3 ?_ | refine ω6 ?_ | refine ω7 ?_ | refine ω9 ?_ | refine κ4 ?_ | refine κ7 ?_ | refine κ8 ?_ | refine χ3 ?_ | refine χ4 ?_ | refine κ5 ?_ | refine κ6 ?_ | refine χ5 ?_ | refine χ6 ?_ | refine χ7 ?_ | refine ω8 ?_
  refine bx ?_
  intro w1 b hx1 hb1 hk1
  repeat first | refine ω1 ?_ | refine ω2 ?_ | refine ω3 ?_ | refine ω4 ?_ | refine ω5 ?_ | refine χ1 ?_ | refine κ1 ?_ | refine κ2 ?_ | refine χ2 ?_ | refine κ3 ?_ | refine ω6 ?_ | refine ω7 ?_ | refine ω9 ?_ | refine κ4 ?_ | refine κ7 ?_ | refine κ8 ?_ | refine χ3 ?_ | refine χ4 ?_ | refine κ5 ?_ | refine κ6 ?_ | refine χ5 ?_ | refine χ6 ?_ | refine χ7 ?_ | refine ω8 ?_
  refine cl (rowClone_any (h.ext hx1)) ?_
  rintro v2 w2 ⟨⟨ps, A, rfl, hps, hlen, hD2, hR2⟩, hx2⟩
  repeat first | refine ω1 ?_ | refine ω2 ?_ | refine ω3 ?_ | refine ω4 ?_ | refine ω5 ?_ | refine χ1 ?_ | refine κ1 ?_ | refine κ2 ?_ | refine χ2 ?_ | refine κ3 ?_ | refine ω6 ?_ | refine ω7 ?_ | refine ω9 ?_ | refine κ4 ?_ | refine κ7 ?_ | refine κ8 ?_ | refine χ3 ?_ | refine χ4 ?_ | refine κ5 ?_ | refine κ6 ?_ | refine χ5 ?_ | refine χ6 ?_ | refine χ7 ?_ | refine ω8 ?_
  have hown : ∀ k, (Value.slice A ps.length ps.length).ownBlock = some k → w1.heap.size ≤ k := fun k hk => by
    obtain ⟨_, _, _, _, hf⟩ := own_form hD2.1
    exact (hf k hk).1
  refine cl (sortStable_any (fv := .func (.func 80) #[] #[.pointer (some ⟨b, 0, none⟩)]) (ds := ds) hD2 rfl hlen ⟨_, _, _, rfl, fun w' hg p q hp hq => ?_⟩) ?_
  · have hx' : Ext w1 w' := grown_ext hx2 hg hown
    exact sortCmp_any ((hR2 p hp).grown hg (fun _ e => e)).v ((hR2 q hq).grown hg (fun _ e => e)).v (hd.ext (hx1.trans hx')) (hk1.ext hx')
  rintro v3 w3 ⟨qs, hD3, hS3, hO3, hg3⟩
  have hlq : qs.length = ps.length := hS3.len
  repeat first | refine ω1 ?_ | refine ω2 ?_ | refine ω3 ?_ | refine ω4 ?_ | refine ω5 ?_ | refine χ1 ?_ | refine κ1 ?_ | refine κ2 ?_ | refine χ2 ?_ | refine κ3 ?_ | refine ω6 ?_ | refine ω7 ?_ | refine ω9 ?_ | refine κ4 ?_ | refine κ7 ?_ | refine κ8 ?_ | refine χ3 ?_ | refine χ4 ?_ | refine κ5 ?_ | refine κ6 ?_ | refine χ5 ?_ | refine χ6 ?_ | refine χ7 ?_ | refine ω8 ?_
  refine fin1 ⟨⟨qs.map (·.2), ⟨qs, A, ps.length, rfl, by rw [hlq], by omega, by omega, ?_, fun p hp => ?_⟩, ?_, ?_⟩, hx1.trans (grown_ext hx2 hg3 hown)⟩
  · exact hlq ▸ hD3.rd hlq
  · exact ((hR2 p (hS3.perm.mem_iff.1 hp)).grown hg3 (fun _ e => e)).v
  · rw [← hps]; exact hS3.perm.map _
  · exact srt_of (by rw [hlq]; exact hO3)
end Go.Proofs.Ytpahjnfolbnloaa
