/- Lists of rows in memory; contracts of row.clone and row.Sort. -/
import Derived.Test.YtpahjnfolbnloaaSort
import Derived.Test.YtpahjnfolbnloaaNat4
set_option linter.unusedVariables false
namespace Go.Proofs.Ytpahjnfolbnloaa
open Go.RowKit Pl Go.Wk
attribute [local irreducible] WC WL QX WD WDB WP
/-- a row that lies off some blocks -/
def RowX (w : World) (N : Nat → Prop) (v : Value) (r : List V) : Prop := ∃ A c, v = .slice A r.length c ∧ r.length ≤ c ∧ r.length ≤ 1100000 ∧ RdR w A r ∧ (r ≠ [] → ∀ ad, A = some ad → ¬ N ad.block)
/-- one block, or none -/
def one (g : Option Nat) (k : Nat) : Prop := g = some k
theorem RowX.v {w : World} {N : Nat → Prop} {v : Value} {r : List V} (h : RowX w N v r) : RowV w v r := by
  obtain ⟨A, c, h1, h2, h3, h4, _⟩ := h; exact ⟨A, c, h1, h2, h3, h4⟩
theorem RowX.ext {w w' : World} {N : Nat → Prop} {v : Value} {r : List V} (h : RowX w N v r) (hx : Ext w w') : RowX w' N v r := by
  obtain ⟨A, c, h1, h2, h3, h4, h5⟩ := h; exact ⟨A, c, h1, h2, h3, h4.ext hx, h5⟩
theorem RowX.mono {w : World} {N N' : Nat → Prop} {v : Value} {r : List V} (h : RowX w N v r) (hN : ∀ k, k < w.heap.size → N' k → N k) : RowX w N' v r := by
  obtain ⟨A, c, h1, h2, h3, h4, h5⟩ := h
  refine ⟨A, c, h1, h2, h3, h4, fun h0 ad e hn => h5 h0 ad e (hN _ ?_ hn)⟩
  obtain ⟨ad', e7, e8⟩ := Rd.isome h4 (List.length_pos_iff.2 h0) (by omega)
  rw [e] at e7; injection e7 with e7; subst e7; exact e8
theorem RowX.grown {w w' : World} {N : Nat → Prop} {g : Option Nat} {v : Value} {r : List V} (h : RowX w N v r) (hg : w.grownBy w' g) (hN : ∀ k, g = some k → N k) : RowX w' N v r := by
  obtain ⟨A, c, h1, h2, h3, h4, h5⟩ := h
  refine ⟨A, c, h1, h2, h3, ?_, h5⟩
  by_cases h0 : r = []
  · subst h0; exact Rd.nil
  · exact Rd.grown h4 hg (fun ad e e2 => h5 h0 ad e (hN _ e2))
theorem RowX.nil (w : World) (N : Nat → Prop) : RowX w N (.slice none 0 0) [] := ⟨none, 0, rfl, by simp, by simp, Rd.nil, fun h => absurd rfl h⟩
theorem RowV.off {w : World} {N : Nat → Prop} {v : Value} {r : List V} (h : RowV w v r) (hg : ∀ k, N k → w.heap.size ≤ k) : RowX w N v r := by
  obtain ⟨A, c, h1, h2, h3, h4⟩ := h
  refine ⟨A, c, h1, h2, h3, h4, fun h0 ad e e2 => ?_⟩
  obtain ⟨ad', e7, e8⟩ := Rd.isome h4 (List.length_pos_iff.2 h0) (by omega)
  rw [e] at e7; injection e7 with e7; subst e7
  have := hg _ e2
  omega
/-- rows in memory -/
def RowsV (w : World) (v : Value) (ls : List (List V)) : Prop := ∃ (ps : List Pr) (A : Option Addr) (c : Nat), ls = ps.map (·.2) ∧ v = .slice A ps.length c ∧ ps.length ≤ c ∧ ps.length ≤ 1100000 ∧ Rd w 1 A ps.length (ps.map (·.1)) ∧ ∀ p ∈ ps, RowV w p.1 p.2
theorem RowsV.ext {w w' : World} {v : Value} {ls : List (List V)} (h : RowsV w v ls) (hx : Ext w w') : RowsV w' v ls := by
  obtain ⟨ps, A, c, h1, h2, h3, h4, h5, h6⟩ := h; exact ⟨ps, A, c, h1, h2, h3, h4, h5.ext hx, fun p hp => (h6 p hp).ext hx⟩
theorem RowsV.nil (w : World) (A : Option Addr) (c : Nat) : RowsV w (.slice A 0 c) [] := ⟨[], A, c, rfl, rfl, by simp, by simp, Rd.nil, fun p hp => by cases hp⟩
theorem RowV.one {w : World} {v : Value} {r : List V} (h : RowV w v r) : v.oneCell' = true := by obtain ⟨A, c, rfl, _⟩ := h; rfl
set_option maxRecDepth 100000 in
theorem cloneRowV {v : Value} {r : List V} {w : World} (h : RowV w v r) (N : Nat → Prop) (hg : ∀ k, N k → k < w.heap.size) :
    Ret Try.prog 64 [v] w fun v' w' => RowX w' N v' r ∧ Ext w w' := by
  obtain ⟨A, c, rfl, h2, h3, hr⟩ := h
  refine enterR Try.func64 Try.ntmps64 rfl (by kernel_rfl) rfl ?_
  repeat first | refine ω1 ?_ | refine ω2 ?_ | refine ω3 ?_ | refine ω4 ?_ | refine ω5 ?_ | refine χ1 ?_ | refine κ1 ?_ | refine κ2 ?_ | refine χ2 ?_ | refine κ3 ?_ | refine ω6 ?_ | refine ω7 ?_ | refine ω9 ?_ | refine κ4 ?_ | refine κ7 ?_ | refine κ8 ?_ | refine χ3 ?_ | refine χ4 ?_ | refine κ5 ?_ | refine κ6 ?_ | refine χ5 ?_ | refine χ6 ?_ | refine χ7 ?_ | refine ω8 ?_
  refine snil ?_
  repeat first | refine ω1 ?_ | refine ω2 ?_ | refine ω3 ?_ | refine ω4 ?_ | refine ω5 ?_ | refine χ1 ?_ | refine κ1 ?_ | refine κ2 ?_ | refine χ2 ?_ | refine κ3 ?_ | refine ω6 ?_ | refine ω7 ?_ | refine ω9 ?_ | refine κ4 ?_ | refine κ7 ?_ | refine κ8 ?_ | refine χ3 ?_ | refine χ4 ?_ | refine κ5 ?_ | refine κ6 ?_ | refine χ5 ?_ | refine χ6 ?_ | refine χ7 ?_ | refine ω8 ?_
  refine ci (fun h => ?_) (fun h => ?_)
  · have hA : A = none := by simpa using h
    subst hA
    have hn : r.length = 0 := by
      rcases Nat.eq_zero_or_pos r.length with h0 | h0
      · exact h0
      · obtain ⟨ad, h2, _⟩ := hr.isome h0 (by omega); cases h2
    obtain rfl := List.eq_nil_of_length_eq_zero hn
    repeat first | refine ω1 ?_ | refine ω2 ?_ | refine ω3 ?_ | refine ω4 ?_ | refine ω5 ?_ | refine χ1 ?_ | refine κ1 ?_ | refine κ2 ?_ | refine χ2 ?_ | refine κ3 ?_ | refine ω6 ?_ | refine ω7 ?_ | refine ω9 ?_ | refine κ4 ?_ | refine κ7 ?_ | refine κ8 ?_ | refine χ3 ?_ | refine χ4 ?_ | refine κ5 ?_ | refine κ6 ?_ | refine χ5 ?_ | refine χ6 ?_ | refine χ7 ?_ | refine ω8 ?_
    exact fin1 ⟨RowX.nil w N, Ext.refl w⟩
  · repeat first | refine ω1 ?_ | refine ω2 ?_ | refine ω3 ?_ | refine ω4 ?_ | refine ω5 ?_ | refine χ1 ?_ | refine κ1 ?_ | refine κ2 ?_ | refine χ2 ?_ | refine κ3 ?_ | refine ω6 ?_ | refine ω7 ?_ | refine ω9 ?_ | refine κ4 ?_ | refine κ7 ?_ | refine κ8 ?_ | refine χ3 ?_ | refine χ4 ?_ | refine κ5 ?_ | refine κ6 ?_ | refine χ5 ?_ | refine χ6 ?_ | refine χ7 ?_ | refine ω8 ?_
    refine bsl bs0Row ?_
    intro w1 b hx1 hb1 hk1
    repeat first | refine ω1 ?_ | refine ω2 ?_ | refine ω3 ?_ | refine ω4 ?_ | refine ω5 ?_ | refine χ1 ?_ | refine κ1 ?_ | refine κ2 ?_ | refine χ2 ?_ | refine κ3 ?_ | refine ω6 ?_ | refine ω7 ?_ | refine ω9 ?_ | refine κ4 ?_ | refine κ7 ?_ | refine κ8 ?_ | refine χ3 ?_ | refine χ4 ?_ | refine κ5 ?_ | refine κ6 ?_ | refine χ5 ?_ | refine χ6 ?_ | refine χ7 ?_ | refine ω8 ?_
    refine apo hx1 EV (hk1.own (n := 0) hb1 rfl (Nat.zero_le _)) (hr.ext hx1) (rowC_one r) (by unfold maxLen; omega) (by omega) ?_
    intro v2 w2 ho2 hx2 _ _
    obtain ⟨A2, c2, rfl, hc2, hf⟩ := own_form ho2
    repeat first | refine ω1 ?_ | refine ω2 ?_ | refine ω3 ?_ | refine ω4 ?_ | refine ω5 ?_ | refine χ1 ?_ | refine κ1 ?_ | refine κ2 ?_ | refine χ2 ?_ | refine κ3 ?_ | refine ω6 ?_ | refine ω7 ?_ | refine ω9 ?_ | refine κ4 ?_ | refine κ7 ?_ | refine κ8 ?_ | refine χ3 ?_ | refine χ4 ?_ | refine κ5 ?_ | refine κ6 ?_ | refine χ5 ?_ | refine χ6 ?_ | refine χ7 ?_ | refine ω8 ?_
    rw [Nat.zero_add] at ho2 hc2 ⊢
    refine fin1 ⟨⟨A2, c2, rfl, hc2, h3, Rd.own ho2, fun _ ad e => ?_⟩, hx2⟩
    subst e
    intro e2
    have h4 := hg _ e2
    have h5 := (hf ad.block rfl).1
    omega
theorem Pr.rep (n : Nat) : (List.replicate n ((.slice none 0 0, []) : Pr)).map (·.1) = List.replicate n (.slice none 0 0) := by simp
set_option maxRecDepth 100000 in
/-- the copy: its cells are the call's own, its rows lie elsewhere -/
theorem rowClone_any {v : Value} {ls : List (List V)} {w : World} (h : RowsV w v ls) :
    Ret Try.prog 78 [v] w fun v' w' => (∃ (ps : List Pr) (A : Option Addr), v' = .slice A ps.length ps.length ∧ ps.map (·.2) = ls ∧ ps.length ≤ 1100000 ∧ Dat w' w.heap.size (.slice A ps.length ps.length) ps ∧ ∀ p ∈ ps, RowX w' (one (Value.slice A ps.length ps.length).ownBlock) p.1 p.2) ∧ Ext w w' := by
  obtain ⟨ps, A, c, rfl, rfl, h3, h4, h5, h6⟩ := h
  generalize hn : ps.length = n at *
  refine enterR Try.func78 Try.ntmps78 rfl (by kernel_rfl) rfl ?_
  repeat first | refine ω1 ?_ | refine ω2 ?_ | refine ω3 ?_ | refine ω4 ?_ | refine ω5 ?_ | refine χ1 ?_ | refine κ1 ?_ | refine κ2 ?_ | refine χ2 ?_ | refine κ3 ?_ | refine ω6 ?_ | refine ω7 ?_ | refine ω9 ?_ | refine κ4 ?_ | refine κ7 ?_ | refine κ8 ?_ | refine χ3 ?_ | refine χ4 ?_ | refine κ5 ?_ | refine κ6 ?_ | refine χ5 ?_ | refine χ6 ?_ | refine χ7 ?_ | refine ω8 ?_
  refine mkn ER n (by omega) (by unfold maxLen; omega) ?_
  intro w1 O hx1 ho1 hO
  have hg0 : ∀ k, (Value.slice O n n).ownBlock = some k → w.heap.size ≤ k ∧ k < w1.heap.size := by
    obtain ⟨_, _, e, _, hf⟩ := own_form ho1
    exact hf
  have hD1 : Dat w1 w.heap.size (.slice O n n) ([] ++ List.replicate n (.slice none 0 0, [])) := by
    refine ⟨?_, fun p hp => ?_⟩
    · rw [List.nil_append, List.length_replicate, Pr.rep]
      have e : (madeCells (Value.slice none 0 0).cells (n * 1)).toList = List.replicate n (.slice none 0 0) := by rw [Nat.mul_one]; exact made1 _ _
      rw [e] at ho1; exact ho1
    · rw [List.nil_append] at hp; rw [(List.mem_replicate.1 hp).2]; rfl
  repeat first | refine ω1 ?_ | refine ω2 ?_ | refine ω3 ?_ | refine ω4 ?_ | refine ω5 ?_ | refine χ1 ?_ | refine κ1 ?_ | refine κ2 ?_ | refine χ2 ?_ | refine κ3 ?_ | refine ω6 ?_ | refine ω7 ?_ | refine ω9 ?_ | refine κ4 ?_ | refine κ7 ?_ | refine κ8 ?_ | refine χ3 ?_ | refine χ4 ?_ | refine κ5 ?_ | refine κ6 ?_ | refine χ5 ?_ | refine χ6 ?_ | refine χ7 ?_ | refine ω8 ?_
  refine wloop2 (fun (k : Nat) (qs : List Pr) => [(0, .slice A n c), (3, .slice O n n), (9, .int .i64 (n : Int)), (10, .int .i64 (k : Int))])
    (fun k qs w2 => k ≤ n ∧ qs.length = k ∧ qs.map (·.2) = (ps.take k).map (·.2) ∧ Ext w w2 ∧ Dat w2 w.heap.size (.slice O n n) (qs ++ List.replicate (n - k) (.slice none 0 0, [])) ∧ (∀ p ∈ qs, RowX w2 (one (Value.slice O n n).ownBlock) p.1 p.2) ∧ w1.heap.size ≤ w2.heap.size) (fun k _ => n - k) 0 [] (by repeat' (first | exact Sub.nil | refine Sub.cons rfl ?_))
    ⟨Nat.zero_le _, rfl, rfl, hx1, hD1, fun p hp => (by cases hp), Nat.le_refl _⟩ ?_
  rintro k qs w2 ⟨hk, hq1, hq2, hx2, hD2, hR2, hsz2⟩
  repeat first | refine ω1 ?_ | refine ω2 ?_ | refine ω3 ?_ | refine ω4 ?_ | refine ω5 ?_ | refine χ1 ?_ | refine κ1 ?_ | refine κ2 ?_ | refine χ2 ?_ | refine κ3 ?_ | refine ω6 ?_ | refine ω7 ?_ | refine ω9 ?_ | refine κ4 ?_ | refine κ7 ?_ | refine κ8 ?_ | refine χ3 ?_ | refine χ4 ?_ | refine κ5 ?_ | refine κ6 ?_ | refine χ5 ?_ | refine χ6 ?_ | refine χ7 ?_ | refine ω8 ?_
  refine ci (fun h => ?_) (fun h => ?_)
  · have hlt : k < n := by have := of_decide_eq_true h; omega
    have hps : k < ps.length := by omega
    repeat first | refine ω1 ?_ | refine ω2 ?_ | refine ω3 ?_ | refine ω4 ?_ | refine ω5 ?_ | refine χ1 ?_ | refine κ1 ?_ | refine κ2 ?_ | refine χ2 ?_ | refine κ3 ?_ | refine ω6 ?_ | refine ω7 ?_ | refine ω9 ?_ | refine κ4 ?_ | refine κ7 ?_ | refine κ8 ?_ | refine χ3 ?_ | refine χ4 ?_ | refine κ5 ?_ | refine κ6 ?_ | refine χ5 ?_ | refine χ6 ?_ | refine χ7 ?_ | refine ω8 ?_
    refine ix k (h5.ext hx2) hlt ?_
    repeat first | refine ω1 ?_ | refine ω2 ?_ | refine ω3 ?_ | refine ω4 ?_ | refine ω5 ?_ | refine χ1 ?_ | refine κ1 ?_ | refine κ2 ?_ | refine χ2 ?_ | refine κ3 ?_ | refine ω6 ?_ | refine ω7 ?_ | refine ω9 ?_ | refine κ4 ?_ | refine κ7 ?_ | refine κ8 ?_ | refine χ3 ?_ | refine χ4 ?_ | refine κ5 ?_ | refine κ6 ?_ | refine χ5 ?_ | refine χ6 ?_ | refine χ7 ?_ | refine ω8 ?_
    refine ld ((h5.ext hx2).cell (ps_get hps)) ?_
    repeat first | refine ω1 ?_ | refine ω2 ?_ | refine ω3 ?_ | refine ω4 ?_ | refine ω5 ?_ | refine χ1 ?_ | refine κ1 ?_ | refine κ2 ?_ | refine χ2 ?_ | refine κ3 ?_ | refine ω6 ?_ | refine ω7 ?_ | refine ω9 ?_ | refine κ4 ?_ | refine κ7 ?_ | refine κ8 ?_ | refine χ3 ?_ | refine χ4 ?_ | refine κ5 ?_ | refine κ6 ?_ | refine χ5 ?_ | refine χ6 ?_ | refine χ7 ?_ | refine ω8 ?_
    refine cl (cloneRowV ((h6 _ (getD_mem' z0 ps hps)).ext hx2) (one (Value.slice O n n).ownBlock) (fun j hj => by have := hg0 j hj; omega)) ?_
    rintro v3 w3 ⟨hr3, hx3⟩
    have hD3 := hD2.ext hx3
    have hl3 : (qs ++ List.replicate (n - k) ((.slice none 0 0, []) : Pr)).length = n := by simp; omega
    obtain ⟨s1, s2, s3⟩ := hD3.store hl3 hlt (p := (v3, (ps.getD k z0).2)) hr3.v.one
    repeat first | refine ω1 ?_ | refine ω2 ?_ | refine ω3 ?_ | refine ω4 ?_ | refine ω5 ?_ | refine χ1 ?_ | refine κ1 ?_ | refine κ2 ?_ | refine χ2 ?_ | refine κ3 ?_ | refine ω6 ?_ | refine ω7 ?_ | refine ω9 ?_ | refine κ4 ?_ | refine κ7 ?_ | refine κ8 ?_ | refine χ3 ?_ | refine χ4 ?_ | refine κ5 ?_ | refine κ6 ?_ | refine χ5 ?_ | refine χ6 ?_ | refine χ7 ?_ | refine ω8 ?_
    refine ix k (hD3.rd hl3) hlt ?_
    repeat first | refine ω1 ?_ | refine ω2 ?_ | refine ω3 ?_ | refine ω4 ?_ | refine ω5 ?_ | refine χ1 ?_ | refine κ1 ?_ | refine κ2 ?_ | refine χ2 ?_ | refine κ3 ?_ | refine ω6 ?_ | refine ω7 ?_ | refine ω9 ?_ | refine κ4 ?_ | refine κ7 ?_ | refine κ8 ?_ | refine χ3 ?_ | refine χ4 ?_ | refine κ5 ?_ | refine κ6 ?_ | refine χ5 ?_ | refine χ6 ?_ | refine χ7 ?_ | refine ω8 ?_
    refine sto (hD3.cell hl3 hlt) s1 ?_ (hv := hr3.v.one)
    repeat first | refine ω1 ?_ | refine ω2 ?_ | refine ω3 ?_ | refine ω4 ?_ | refine ω5 ?_ | refine χ1 ?_ | refine κ1 ?_ | refine κ2 ?_ | refine χ2 ?_ | refine κ3 ?_ | refine ω6 ?_ | refine ω7 ?_ | refine ω9 ?_ | refine κ4 ?_ | refine κ7 ?_ | refine κ8 ?_ | refine χ3 ?_ | refine χ4 ?_ | refine κ5 ?_ | refine κ6 ?_ | refine χ5 ?_ | refine χ6 ?_ | refine χ7 ?_ | refine ω8 ?_
    have e : (qs ++ List.replicate (n - k) ((.slice none 0 0, []) : Pr)).set k (v3, (ps.getD k z0).2) = (qs ++ [(v3, (ps.getD k z0).2)]) ++ List.replicate (n - (k + 1)) (.slice none 0 0, []) := by
      rw [show n - k = (n - (k + 1)) + 1 by omega, List.replicate_succ, List.set_append_right _ _ (by omega), hq1, Nat.sub_self, List.set_cons_zero, List.append_assoc]; rfl
    rw [e] at s2
    refine qround2 (k + 1) (qs ++ [(v3, (ps.getD k z0).2)]) (by repeat' (first | exact Sub.nil | refine Sub.cons rfl ?_)) ⟨by omega, by simp [hq1], ?_, grown_ext (hx2.trans hx3) s3 (fun j hj => (hg0 j hj).1), s2, fun p hp => ?_, ?_⟩ (by omega)
    · rw [List.map_append, hq2, List.take_succ_eq_append_getElem hps, List.map_append, getD_get z0 ps hps]; rfl
    · rcases List.mem_append.1 hp with h' | h'
      · exact ((hR2 p h').ext hx3).grown s3 (fun _ e => e)
      · rw [List.mem_singleton.1 h']; exact hr3.grown s3 (fun _ e => e)
    · exact Nat.le_trans hsz2 (Nat.le_trans hx3.size s3.size)
  · have hkn : k = n := by have := of_decide_eq_false h; omega
    subst hkn
    rw [Nat.sub_self, List.replicate_zero, List.append_nil] at hD2
    repeat first | refine ω1 ?_ | refine ω2 ?_ | refine ω3 ?_ | refine ω4 ?_ | refine ω5 ?_ | refine χ1 ?_ | refine κ1 ?_ | refine κ2 ?_ | refine χ2 ?_ | refine κ3 ?_ | refine ω6 ?_ | refine ω7 ?_ | refine ω9 ?_ | refine κ4 ?_ | refine κ7 ?_ | refine κ8 ?_ | refine χ3 ?_ | refine χ4 ?_ | refine κ5 ?_ | refine κ6 ?_ | refine χ5 ?_ | refine χ6 ?_ | refine χ7 ?_ | refine ω8 ?_
    subst hq1
    exact fin1 ⟨⟨qs, O, rfl, by rw [hq2, ← hn, List.take_length], h4, hD2, hR2⟩, hx2⟩
set_option maxRecDepth 100000 in
theorem sortCmp_any {va vb vd : Value} {a b : List V} {ds : List Bool} {w : World} {g : Nat} (ha : RowV w va a) (hb : RowV w vb b) (hd : BoolsV w vd ds) (hk : Blk w g 23 [vd]) :
    Ret Try.prog 80 [va, vb, .pointer (some ⟨g, 0, none⟩)] w fun r w' => r = .int .i64 (cmpR a b ds) ∧ Ext w w' := by
  refine enterR Try.func80 Try.ntmps80 rfl (by kernel_rfl) rfl ?_
  repeat first | refine ω1 ?_ | refine ω2 ?_ | refine ω3 ?_ | refine ω4 ?_ | refine ω5 ?_ | refine χ1 ?_ | refine κ1 ?_ | refine κ2 ?_ | refine χ2 ?_ | refine κ3 ?_ | refine ω6 ?_ | refine ω7 ?_ | refine ω9 ?_ | refine κ4 ?_ | refine κ7 ?_ | refine κ8 ?_ | refine χ3 ?_ | refine χ4 ?_ | refine κ5 ?_ | refine κ6 ?_ | refine χ5 ?_ | refine χ6 ?_ | refine χ7 ?_ | refine ω8 ?_
  refine ld (hk.at (i := 0) rfl) ?_
  repeat first | refine ω1 ?_ | refine ω2 ?_ | refine ω3 ?_ | refine ω4 ?_ | refine ω5 ?_ | refine χ1 ?_ | refine κ1 ?_ | refine κ2 ?_ | refine χ2 ?_ | refine κ3 ?_ | refine ω6 ?_ | refine ω7 ?_ | refine ω9 ?_ | refine κ4 ?_ | refine κ7 ?_ | refine κ8 ?_ | refine χ3 ?_ | refine χ4 ?_ | refine κ5 ?_ | refine κ6 ?_ | refine χ5 ?_ | refine χ6 ?_ | refine χ7 ?_ | refine ω8 ?_
  refine cl (compareBy_any ha hb hd) ?_
  rintro v w1 ⟨rfl, hx⟩
  repeat first | refine ω1 ?_ | refine ω2 ?_ | refine ω3 ?_ | refine ω4 ?_ | refine ω5 ?_ | refine χ1 ?_ | refine κ1 ?_ | refine κ2 ?_ | refine χ2 ?_ | refine κ3 ?_ | refine ω6 ?_ | refine ω7 ?_ | refine ω9 ?_ | refine κ4 ?_ | refine κ7 ?_ | refine κ8 ?_ | refine χ3 ?_ | refine χ4 ?_ | refine κ5 ?_ | refine κ6 ?_ | refine χ5 ?_ | refine χ6 ?_ | refine χ7 ?_ | refine ω8 ?_
  exact fin1 ⟨rfl, hx⟩
/-- sorted -/
def Srt (ds : List Bool) (ls : List (List V)) : Prop := ls.Pairwise fun a b => cmpR a b ds ≤ 0
theorem srt_of {ds : List Bool} {ps : List Pr} (h : SOn z0 (fP ds) ps 0 ps.length) : Srt ds (ps.map (·.2)) := by
  unfold Srt
  rw [List.pairwise_map, List.pairwise_iff_getElem]
  intro i j hi hj hij
  have := h i j (Nat.zero_le _) hij hj
  rw [getD_get z0 ps hi, getD_get z0 ps hj] at this
  exact this
set_option maxRecDepth 100000 in
theorem rowSort_any {v vd : Value} {ls : List (List V)} {ds : List Bool} {w : World} (h : RowsV w v ls) (hd : BoolsV w vd ds) :
    Ret Try.prog 51 [v, vd] w fun v' w' => (∃ ls', RowsV w' v' ls' ∧ ls'.Perm ls ∧ Srt ds ls') ∧ Ext w w' := by
  obtain ⟨D, dc, rfl, hdc, hdm, hdr⟩ := id hd
  refine enterR Try.func51 Try.ntmps51 rfl (by kernel_rfl) rfl ?_
  repeat first | refine ω1 ?_ | refine ω2 ?_ | refine ω3 ?_ | refine ω4 ?_ | refine ω5 ?_ | refine χ1 ?_ | refine κ1 ?_ | refine κ2 ?_ | refine χ2 ?_ | refine κ3 ?_ | refine ω6 ?_ | refine ω7 ?_ | refine ω9 ?_ | refine κ4 ?_ | refine κ7 ?_ | refine κ8 ?_ | refine χ3 ?_ | refine χ4 ?_ | refine κ5 ?_ | refine κ6 ?_ | refine χ5 ?_ | refine χ6 ?_ | refine χ7 ?_ | refine ω8 ?_
  refine bx ?_
  intro w1 b hx1 hb1 hk1
  repeat first | refine ω1 ?_ | refine ω2 ?_ | refine ω3 ?_ | refine ω4 ?_ | refine ω5 ?_ | refine χ1 ?_ | refine κ1 ?_ | refine κ2 ?_ | refine χ2 ?_ | refine κ3 ?_ | refine ω6 ?_ | refine ω7 ?_ | refine ω9 ?_ | refine κ4 ?_ | refine κ7 ?_ | refine κ8 ?_ | refine χ3 ?_ | refine χ4 ?_ | refine κ5 ?_ | refine κ6 ?_ | refine χ5 ?_ | refine χ6 ?_ | refine χ7 ?_ | refine ω8 ?_
  refine cl (rowClone_any (h.ext hx1)) ?_
  rintro v2 w2 ⟨⟨ps, A, rfl, hps, hlen, hD2, hR2⟩, hx2⟩
  repeat first | refine ω1 ?_ | refine ω2 ?_ | refine ω3 ?_ | refine ω4 ?_ | refine ω5 ?_ | refine χ1 ?_ | refine κ1 ?_ | refine κ2 ?_ | refine χ2 ?_ | refine κ3 ?_ | refine ω6 ?_ | refine ω7 ?_ | refine ω9 ?_ | refine κ4 ?_ | refine κ7 ?_ | refine κ8 ?_ | refine χ3 ?_ | refine χ4 ?_ | refine κ5 ?_ | refine κ6 ?_ | refine χ5 ?_ | refine χ6 ?_ | refine χ7 ?_ | refine ω8 ?_
  have hown : ∀ k, (Value.slice A ps.length ps.length).ownBlock = some k → w1.heap.size ≤ k := fun k hk => by
    obtain ⟨_, _, _, _, hf⟩ := own_form hD2.1
    exact (hf k hk).1
  refine cl (sortStable_any (fv := .func (.func 80) #[] #[.pointer (some ⟨b, 0, none⟩)]) (ds := ds) hD2 rfl hlen ⟨_, _, _, rfl, fun w' hg p q hp hq => ?_⟩) ?_
  · have hx' : Ext w1 w' := grown_ext hx2 hg hown
    exact sortCmp_any ((hR2 p hp).grown hg (fun _ e => e)).v ((hR2 q hq).grown hg (fun _ e => e)).v (hd.ext (hx1.trans hx')) (hk1.ext hx')
  rintro v3 w3 ⟨qs, hD3, hS3, hO3, hg3⟩
  have hlq : qs.length = ps.length := hS3.len
  repeat first | refine ω1 ?_ | refine ω2 ?_ | refine ω3 ?_ | refine ω4 ?_ | refine ω5 ?_ | refine χ1 ?_ | refine κ1 ?_ | refine κ2 ?_ | refine χ2 ?_ | refine κ3 ?_ | refine ω6 ?_ | refine ω7 ?_ | refine ω9 ?_ | refine κ4 ?_ | refine κ7 ?_ | refine κ8 ?_ | refine χ3 ?_ | refine χ4 ?_ | refine κ5 ?_ | refine κ6 ?_ | refine χ5 ?_ | refine χ6 ?_ | refine χ7 ?_ | refine ω8 ?_
  refine fin1 ⟨⟨qs.map (·.2), ⟨qs, A, ps.length, rfl, by rw [hlq], by omega, by omega, ?_, fun p hp => ?_⟩, ?_, ?_⟩, hx1.trans (grown_ext hx2 hg3 hown)⟩
  · exact hlq ▸ hD3.rd hlq
  · exact ((hR2 p (hS3.perm.mem_iff.1 hp)).grown hg3 (fun _ e => e)).v
  · rw [← hps]; exact hS3.perm.map _
  · exact srt_of (by rw [hlq]; exact hO3)
end Go.Proofs.Ytpahjnfolbnloaa
/- Plain lists of rows: strictly sorted lists, ranks, insertion. No program in sight. -/
set_option linter.unusedVariables false
namespace Go.Proofs.Ytpahjnfolbnloaa
open Pl
abbrev Row := List V
def Lt (ds : List Bool) (ls : List Row) : Prop := ls.Pairwise fun a b => cmpR a b ds < 0
/-- the strictly sorted list of the rows -/
def IsSet (ds : List Bool) (ls m : List Row) : Prop := Lt ds m ∧ ∀ x, x ∈ m ↔ x ∈ ls
theorem lt_irr (ds : List Bool) (a : Row) : ¬ cmpR a a ds < 0 := by rw [cmpR_self]; omega
theorem lt_asym {ds : List Bool} {a b : Row} (h : cmpR a b ds < 0) : ¬ cmpR b a ds < 0 := by rw [cmpR_anti a b]; omega
theorem set_uniq {ds : List Bool} : ∀ {l m : List Row}, Lt ds l → Lt ds m → (∀ x, x ∈ l ↔ x ∈ m) → l = m
  | [], [], _, _, _ => rfl
  | [], b :: m, _, _, h => absurd ((h b).2 (List.mem_cons_self ..)) (by simp)
  | a :: l, [], _, _, h => absurd ((h a).1 (List.mem_cons_self ..)) (by simp)
  | a :: l, b :: m, h1, h2, h => by
    have p1 := List.pairwise_cons.1 h1
    have p2 := List.pairwise_cons.1 h2
    have hab : a = b := by
      rcases List.mem_cons.1 ((h a).1 (List.mem_cons_self ..)) with e | e
      · exact e
      · rcases List.mem_cons.1 ((h b).2 (List.mem_cons_self ..)) with e2 | e2
        · exact e2.symm
        · exact absurd (p1.1 _ e2) (lt_asym (p2.1 _ e))
    subst hab
    congr 1
    refine set_uniq p1.2 p2.2 fun x => ?_
    have hx := h x
    constructor
    · intro hm
      rcases List.mem_cons.1 (hx.1 (List.mem_cons_of_mem _ hm)) with e | e
      · subst e; exact absurd (p1.1 _ hm) (lt_irr ds x)
      · exact e
    · intro hm
      rcases List.mem_cons.1 (hx.2 (List.mem_cons_of_mem _ hm)) with e | e
      · subst e; exact absurd (p2.1 _ hm) (lt_irr ds x)
      · exact e
theorem IsSet.uniq {ds : List Bool} {ls m m' : List Row} (h : IsSet ds ls m) (h' : IsSet ds ls m') : m = m' := set_uniq h.1 h'.1 fun x => (h.2 x).trans (h'.2 x).symm
/-! ### adjacent equals struck -/
def ddS (out : List Row) (x : Row) : List Row := if out.getLast? = some x then out else out ++ [x]
def ddF (l : List Row) : List Row := l.foldl ddS []
theorem ddF_snoc (l : List Row) (x : Row) : ddF (l ++ [x]) = ddS (ddF l) x := by simp [ddF, List.foldl_append]
theorem ddS_last (out : List Row) (x : Row) : (ddS out x).getLast? = some x := by
  unfold ddS; split
  · assumption
  · simp
theorem getLast_mem' {l : List Row} {x : Row} (h : l.getLast? = some x) : x ∈ l := by
  rw [List.getLast?_eq_some_iff] at h
  obtain ⟨ys, rfl⟩ := h; simp
theorem dd_fold {ds : List Bool} : ∀ (l out : List Row), Lt ds out → (∀ a ∈ out, ∀ b ∈ l, cmpR a b ds ≤ 0) → Srt ds l → Lt ds (l.foldl ddS out) ∧ ∀ x, x ∈ l.foldl ddS out ↔ (x ∈ out ∨ x ∈ l)
  | [], out, h, _, _ => ⟨h, fun x => by simp⟩
  | y :: l, out, h, hle, hs => by
    have p := List.pairwise_cons.1 hs
    simp only [List.foldl_cons]
    by_cases e : out.getLast? = some y
    · have hy := getLast_mem' e
      have e1 : ddS out y = out := by unfold ddS; rw [if_pos e]
      rw [e1]
      obtain ⟨k1, k2⟩ := dd_fold l out h (fun a ha b hb => hle a ha b (List.mem_cons_of_mem _ hb)) p.2
      refine ⟨k1, fun x => (k2 x).trans ?_⟩
      constructor
      · rintro (h' | h')
        · exact .inl h'
        · exact .inr (List.mem_cons_of_mem _ h')
      · rintro (h' | h')
        · exact .inl h'
        · rcases List.mem_cons.1 h' with rfl | h'
          · exact .inl hy
          · exact .inr h'
    · have e1 : ddS out y = out ++ [y] := by unfold ddS; rw [if_neg e]
      rw [e1]
      have hlt : ∀ a ∈ out, cmpR a y ds < 0 := by
        intro a ha
        have h1 := hle a ha y (List.mem_cons_self ..)
        rcases Int.lt_or_eq_of_le h1 with h2 | h2
        · exact h2
        · exfalso
          have := cmpR_zero _ _ _ h2
          subst this
          -- a is in out, and everything in out is below a; so a is the last
          obtain ⟨z, hz⟩ : ∃ z, out.getLast? = some z := by
            cases hq : out.getLast? with
            | none => rw [List.getLast?_eq_none_iff] at hq; rw [hq] at ha; cases ha
            | some z => exact ⟨z, rfl⟩
          rw [List.getLast?_eq_some_iff] at hz
          obtain ⟨ys, rfl⟩ := hz
          rcases List.mem_append.1 ha with h3 | h3
          · have h4 := (List.pairwise_append.1 h).2.2 _ h3 z (by simp)
            have h5 := hle z (by simp) a (List.mem_cons_self ..)
            exact absurd ((cmp_R ds).lt_le h4 h5) (lt_irr ds a)
          · rw [List.mem_singleton.1 h3] at e; simp at e
      obtain ⟨k1, k2⟩ := dd_fold l (out ++ [y]) (List.pairwise_append.2 ⟨h, List.pairwise_singleton _ _, fun a ha b hb => by rw [List.mem_singleton.1 hb]; exact hlt a ha⟩) (fun a ha b hb => by
        rcases List.mem_append.1 ha with h' | h'
        · exact hle a h' b (List.mem_cons_of_mem _ hb)
        · rw [List.mem_singleton.1 h']; exact p.1 b hb) p.2
      refine ⟨k1, fun x => (k2 x).trans ?_⟩
      rw [List.mem_append, List.mem_singleton, List.mem_cons, or_assoc]
theorem dd_len : ∀ (l out : List Row), (l.foldl ddS out).length ≤ out.length + l.length
  | [], out => by simp
  | y :: l, out => by
    simp only [List.foldl_cons]
    have := dd_len l (ddS out y)
    have h2 : (ddS out y).length ≤ out.length + 1 := by unfold ddS; split <;> simp
    simp only [List.length_cons]; omega
theorem ddF_len (l : List Row) : (ddF l).length ≤ l.length := by have := dd_len l []; simpa [ddF] using this
theorem ddF_set {ds : List Bool} {l : List Row} (h : Srt ds l) : IsSet ds l (ddF l) := by
  obtain ⟨h1, h2⟩ := dd_fold l [] List.Pairwise.nil (fun a ha => by cases ha) h
  exact ⟨h1, fun x => (h2 x).trans (by simp)⟩
theorem ddF_take {l : List Row} {k : Nat} (hk : k < l.length) : ddF (l.take (k + 1)) = if k ≠ 0 ∧ l.getD (k - 1) [] = l.getD k [] then ddF (l.take k) else ddF (l.take k) ++ [l.getD k []] := by
  rw [List.take_succ_eq_append_getElem hk, ddF_snoc, ← getD_get [] l hk]
  unfold ddS
  by_cases h0 : k = 0
  · subst h0; rw [if_neg (by simp [ddF]), if_neg (by simp)]
  · have hk1 : k - 1 < l.length := by omega
    have e : ddF (l.take k) = ddS (ddF (l.take (k - 1))) (l.getD (k - 1) []) := by
      have := List.take_succ_eq_append_getElem hk1
      rw [show k - 1 + 1 = k by omega] at this
      rw [this, ddF_snoc, getD_get [] l hk1]
    rw [e, ddS_last]
    by_cases h1 : l.getD (k - 1) [] = l.getD k []
    · rw [if_pos (by rw [h1]), if_pos ⟨h0, h1⟩]
    · rw [if_neg (by simpa using h1), if_neg (fun h => h1 h.2)]
/-! ### ranks -/
def cnt (ds : List Bool) (l : List Row) (r : Row) : Nat := (l.filter fun x => decide (cmpR x r ds < 0)).length
theorem cnt_nil (ds : List Bool) (r : Row) : cnt ds [] r = 0 := rfl
theorem cnt_le (ds : List Bool) (l : List Row) (r : Row) : cnt ds l r ≤ l.length := List.length_filter_le _ _
theorem Lt.at {ds : List Bool} {l : List Row} (h : Lt ds l) {i j : Nat} (hij : i < j) (hj : j < l.length) : cmpR (l.getD i []) (l.getD j []) ds < 0 := by
  have := List.pairwise_iff_getElem.1 h i j (by omega) hj hij
  rw [getD_get [] l hj, getD_get [] l (by omega)]; exact this
theorem cnt_take {ds : List Bool} {l : List Row} {r : Row} {k : Nat} (hk : k ≤ l.length) (hlo : ∀ i, i < k → cmpR (l.getD i []) r ds < 0) (hhi : ∀ i, k ≤ i → i < l.length → ¬ cmpR (l.getD i []) r ds < 0) : cnt ds l r = k := by
  unfold cnt
  have e : l = l.take k ++ l.drop k := (List.take_append_drop k l).symm
  rw [e, List.filter_append, List.length_append]
  have h1 : (l.take k).filter (fun x => decide (cmpR x r ds < 0)) = l.take k := by
    rw [List.filter_eq_self]
    intro x hx
    obtain ⟨i, hi, rfl⟩ := List.getElem_of_mem hx
    have hik : i < k := by simp at hi; omega
    have := hlo i hik
    rw [getD_get [] l (by omega)] at this
    simpa using this
  have h2 : (l.drop k).filter (fun x => decide (cmpR x r ds < 0)) = [] := by
    rw [List.filter_eq_nil_iff]
    intro x hx
    obtain ⟨i, hi, rfl⟩ := List.getElem_of_mem hx
    have hik : k + i < l.length := by simp at hi; omega
    have := hhi (k + i) (by omega) hik
    rw [getD_get [] l hik] at this
    simpa using this
  rw [h1, h2]; simp; omega
theorem rank_at {ds : List Bool} {l : List Row} (h : Lt ds l) {r : Row} {k : Nat} (hk : k ≤ l.length) (hlo : k = 0 ∨ cmpR (l.getD (k - 1) []) r ds < 0) (hhi : k = l.length ∨ ¬ cmpR (l.getD k []) r ds < 0) :
    cnt ds l r = k ∧ (r ∈ l ↔ k < l.length ∧ l.getD k [] = r) := by
  have lo : ∀ i, i < k → cmpR (l.getD i []) r ds < 0 := fun i hi => by
    rcases hlo with h0 | h0
    · omega
    · by_cases e : i = k - 1
      · rw [e]; exact h0
      · exact (cmp_R ds).lt_trans (h.at (i := i) (j := k - 1) (by omega) (by omega)) h0
  have hi : ∀ i, k ≤ i → i < l.length → ¬ cmpR (l.getD i []) r ds < 0 := fun i h1 h2 => by
    rcases hhi with h0 | h0
    · omega
    · by_cases e : i = k
      · rw [e]; exact h0
      · exact fun h3 => h0 ((cmp_R ds).lt_trans (h.at (i := k) (j := i) (by omega) h2) h3)
  refine ⟨cnt_take hk lo hi, fun hm => ?_, fun ⟨h1, h2⟩ => ?_⟩
  · obtain ⟨j, hj, he⟩ := List.getElem_of_mem hm
    rw [← getD_get [] l hj] at he
    have hjk : k ≤ j := by
      rcases Nat.lt_or_ge j k with h1 | h1
      · exact absurd (he ▸ lo j h1) (lt_irr ds r)
      · exact h1
    have : j = k := by
      rcases Nat.lt_or_ge k j with h1 | h1
      · exact absurd (he ▸ h.at h1 hj) (hi k (Nat.le_refl _) (by omega))
      · omega
    subst this
    exact ⟨hj, he⟩
  · rw [← h2]; exact getD_mem' [] l h1
/-- the place of a member -/
theorem cnt_at {ds : List Bool} {l : List Row} (h : Lt ds l) {i : Nat} (hi : i < l.length) : cnt ds l (l.getD i []) = i := by
  refine (rank_at h (Nat.le_of_lt hi) ?_ (.inr (lt_irr _ _))).1
  by_cases h0 : i = 0
  · exact .inl h0
  · exact .inr (h.at (by omega) hi)
/-! ### insertion -/
def putL (ds : List Bool) (l : List Row) (r : Row) : List Row := if r ∈ l then l else l.take (cnt ds l r) ++ r :: l.drop (cnt ds l r)
theorem put_set {ds : List Bool} {l ls : List Row} {r : Row} (h : IsSet ds ls l) : IsSet ds (ls ++ [r]) (putL ds l r) := by
  unfold putL
  split
  · rename_i hm
    refine ⟨h.1, fun x => ?_⟩
    rw [List.mem_append, List.mem_singleton, ← h.2 x]
    exact ⟨.inl, fun h' => h'.elim id fun e => e ▸ hm⟩
  · rename_i hm
    have hkle := cnt_le ds l r
    -- what is below the place is smaller, what is above is greater
    have hall : ∃ k, cnt ds l r = k ∧ k ≤ l.length ∧ (∀ i, i < k → cmpR (l.getD i []) r ds < 0) ∧ (∀ i, k ≤ i → i < l.length → ¬ cmpR (l.getD i []) r ds < 0) := by
      have ex : ∀ n, n ≤ l.length → ∃ k, k ≤ n ∧ (∀ i, i < k → cmpR (l.getD i []) r ds < 0) ∧ (k = n ∨ ¬ cmpR (l.getD k []) r ds < 0) := by
        intro n
        induction n with
        | zero => exact fun _ => ⟨0, Nat.le_refl _, fun i hi => by omega, .inl rfl⟩
        | succ n ih =>
          intro hn
          obtain ⟨k, k1, k2, k3⟩ := ih (by omega)
          rcases k3 with k3 | k3
          · subst k3
            by_cases h0 : cmpR (l.getD k []) r ds < 0
            · exact ⟨k + 1, Nat.le_refl _, fun i hi => by
                by_cases e : i = k
                · rw [e]; exact h0
                · exact k2 i (by omega), .inl rfl⟩
            · exact ⟨k, by omega, k2, .inr h0⟩
          · exact ⟨k, by omega, k2, .inr k3⟩
      obtain ⟨k, k1, k2, k3⟩ := ex l.length (Nat.le_refl _)
      have hi : ∀ i, k ≤ i → i < l.length → ¬ cmpR (l.getD i []) r ds < 0 := fun i h1 h2 => by
        rcases k3 with k3 | k3
        · omega
        · by_cases e : i = k
          · rw [e]; exact k3
          · exact fun h3 => k3 ((cmp_R ds).lt_trans (h.1.at (i := k) (j := i) (by omega) h2) h3)
      exact ⟨k, cnt_take k1 k2 hi, k1, k2, hi⟩
    obtain ⟨k, hk, k1, k2, k3⟩ := hall
    rw [hk]
    have hlt := h.1
    refine ⟨?_, fun x => ?_⟩
    · unfold Lt at hlt ⊢
      rw [List.pairwise_append]
      refine ⟨hlt.sublist (List.take_sublist _ _), List.pairwise_cons.2 ⟨fun b hb => ?_, hlt.sublist (List.drop_sublist _ _)⟩, fun a ha b hb => ?_⟩
      · obtain ⟨i, hi, rfl⟩ := List.getElem_of_mem hb
        have hik : k + i < l.length := by simp at hi; omega
        have := k3 (k + i) (by omega) hik
        rw [getD_get [] l hik] at this
        rw [List.getElem_drop]
        rcases (cmp_R ds).tot l[k + i] r with e | e | e
        · exact absurd e this
        · exact absurd (e ▸ List.getElem_mem hik) hm
        · exact e
      · obtain ⟨i, hi, rfl⟩ := List.getElem_of_mem ha
        have hik : i < k := by simp at hi; omega
        have h1 := k2 i hik
        rw [getD_get [] l (by omega)] at h1
        rw [List.getElem_take]
        rcases List.mem_cons.1 hb with rfl | hb
        · exact h1
        · obtain ⟨j, hj, rfl⟩ := List.getElem_of_mem hb
          have hjk : k + j < l.length := by simp at hj; omega
          rw [List.getElem_drop]
          have := h.1.at (i := i) (j := k + j) (by omega) hjk
          rw [getD_get [] l hjk, getD_get [] l (by omega)] at this
          exact this
    · rw [List.mem_append, List.mem_cons, List.mem_append, List.mem_singleton, ← h.2 x]
      have e : x ∈ l ↔ x ∈ l.take k ∨ x ∈ l.drop k := by
        conv => lhs; rw [← List.take_append_drop k l]
        exact List.mem_append
      rw [e]
      constructor
      · rintro (h' | h' | h')
        · exact .inl (.inl h')
        · exact .inr h'
        · exact .inl (.inr h')
      · rintro ((h' | h') | h')
        · exact .inl h'
        · exact .inr (.inr h')
        · exact .inr (.inl h')
end Go.Proofs.Ytpahjnfolbnloaa
/- Contracts of row.Dedup, sort.Search, row.Search, array.OfRows. -/
set_option linter.unusedVariables false
namespace Go.Proofs.Ytpahjnfolbnloaa
open Go.RowKit Pl Go.Wk
attribute [local irreducible] WC WL QX WD WDB WP
theorem bs1Row (v : Value) (w : World) (A : Option Addr) (n c : Nat) (hv : v = .slice A n c) : (Instr.buildSlice 22 1 #[(0, v)]).run Try.prog w = .ok (.slice (some ⟨w.heap.size, 0, none⟩) 1 1) (w.alloc (.cells [v].toArray 25)) := by
  subst hv; kernel_rfl
theorem ls_get {ps : List Pr} {i : Nat} : (ps.map (·.2)).getD i [] = (ps.getD i z0).2 := by
  simp only [List.getD, List.getElem?_map]
  cases ps[i]? <;> rfl
/-- old memory, and the block of a slice -/
def own (base : Nat) (v : Value) (k : Nat) : Prop := k < base ∨ v.ownBlock = some k
/-- rows that the call owns: they may be appended to -/
def OwnR (w : World) (base : Nat) (v : Value) (ls : List Row) : Prop := ∃ ps : List Pr, ls = ps.map (·.2) ∧ w.ownsRow base 25 1 v ps.length (ps.map (·.1)) ∧ ∀ p ∈ ps, RowX w (own base v) p.1 p.2
theorem OwnR.nil (w : World) (base : Nat) : OwnR w base (.slice none 0 0) [] := ⟨[], rfl, own_nil _ _ _ _, fun p hp => by cases hp⟩
theorem OwnR.ext {w w' : World} {base : Nat} {v : Value} {ls : List Row} (h : OwnR w base v ls) (hx : Ext w w') : OwnR w' base v ls := by
  obtain ⟨ps, h1, h2, h3⟩ := h; exact ⟨ps, h1, own_ext h2 hx, fun p hp => (h3 p hp).ext hx⟩
theorem OwnR.rows {w : World} {base : Nat} {v : Value} {ls : List Row} (h : OwnR w base v ls) (hm : ls.length ≤ 1100000) : RowsV w v ls := by
  obtain ⟨ps, rfl, h2, h3⟩ := h
  obtain ⟨A, c, rfl, hc, _⟩ := own_form h2
  exact ⟨ps, A, c, rfl, rfl, hc, by simpa using hm, Rd.own h2, fun p hp => (h3 p hp).v⟩
theorem OwnR.form {w : World} {base : Nat} {v : Value} {ls : List Row} (h : OwnR w base v ls) : ∃ A c, v = .slice A ls.length c := by
  obtain ⟨ps, rfl, h2, h3⟩ := h
  obtain ⟨A, c, rfl, hc, _⟩ := own_form h2
  exact ⟨A, c, by simp⟩
theorem OwnR.lt {w : World} {base : Nat} {v : Value} {ls : List Row} (h : OwnR w base v ls) : ∀ k, v.ownBlock = some k → base ≤ k ∧ k < w.heap.size := by
  obtain ⟨ps, rfl, h2, h3⟩ := h
  obtain ⟨A, c, rfl, hc, hf⟩ := own_form h2
  exact hf
theorem OwnR.grown {w w' : World} {base g : Nat} {v : Value} {ls : List Row} (h : OwnR w base v ls) (hg : w.grownBy w' (some g)) (hb : g < base) : OwnR w' base v ls := by
  obtain ⟨ps, h1, h2, h3⟩ := id h
  refine ⟨ps, h1, World.ownsRow.kept h2 hg ?_, fun p hp => (h3 p hp).grown hg (fun k hk => .inl (by injection hk with hk; omega))⟩
  cases hv : v.ownBlock with
  | none => exact .inl rfl
  | some k => exact .inr (fun e => by injection e with e; have := (h.lt k hv).1; omega)
/-- 'out = append(out, r)' -/
theorem appR {P : Program} {n : Nat} {al : AL} {w : World} {Q : Exit → Act → World → Prop} {ops : Array Oper} {rest : List Oper} {d ty : Nat} {pos : String} {aft : Array Edge} {a : World} (hxa : Ext a w) {x y : Operand} {v : Value} {ls : List Row} {b : Nat} {vr : Value} {r : Row}
    (hE : ElT P 22 25 1 24 (.slice none 0 0)) (ho : OwnR w a.heap.size v ls) (hb : Blk w b 25 [vr]) (hr : RowX w (own a.heap.size v) vr r) (hm : ls.length ≤ 1100000)
    (kk : ∀ v' w', OwnR w' a.heap.size v' (ls ++ [r]) → Ext a w' → w.grownBy w' v.ownBlock → WL P n ops Q rest ((d, v') :: al) w')
    (hx : ev al x = some v := by rfl) (hy : ev al y = some (.slice (some ⟨b, 0, none⟩) 1 1) := by rfl) (hd : Nat.blt d n = true := by rfl) :
    WL P n ops Q (⟨some d, .call { callee := .builtin .append, args := #[x, y], argTypes := #[22, 22] }, ty, pos, aft, none⟩ :: rest) al w := by
  obtain ⟨ps, rfl, h2, h3⟩ := ho
  have hone : vr.oneCell' = true := hr.v.one
  refine apo hxa hE h2 hb.one (fun u hu => by rw [List.mem_singleton.1 hu]; exact hone) (by unfold maxLen; simp at hm; omega) (by simp at hm; omega) ?_ hx hy hd
  intro v' w' ho' hx' hg' hn'
  have hnew : ∀ (p : Pr), RowX w (own a.heap.size v) p.1 p.2 → RowX w' (own a.heap.size v') p.1 p.2 := fun p hp => by
    have h1 := hp.mono (N' := fun k => own a.heap.size v k ∨ own a.heap.size v' k) (fun k hk h => by
      rcases h with h | h | h
      · exact h
      · exact .inl h
      · rcases hn' k h with h4 | h4
        · exact .inr h4
        · omega)
    obtain ⟨A, c, e1, e2, e3, e4, e5⟩ := h1.grown hg' (fun k hk => .inl (.inr hk))
    exact ⟨A, c, e1, e2, e3, e4, fun h0 ad e hn => e5 h0 ad e (.inr hn)⟩
  refine kk v' w' ⟨ps ++ [(vr, r)], by simp, ?_, fun p hp => ?_⟩ hx' hg'
  · rw [List.length_append, List.map_append]; exact ho'
  · rcases List.mem_append.1 hp with h' | h'
    · exact hnew p (h3 p h')
    · rw [List.mem_singleton.1 h']; exact hnew (vr, r) hr
set_option maxRecDepth 100000 in
theorem dedup_any {v : Value} {ls : List Row} {w : World} (h : RowsV w v ls) :
    Ret Try.prog 50 [v] w fun v' w' => OwnR w' w.heap.size v' (ddF ls) ∧ Ext w w' := by
  obtain ⟨ps, A, c, hls, rfl, h3, h4, h5, h6⟩ := id h
  have hn : ls.length = ps.length := by rw [hls]; simp
  generalize hN : ps.length = n at *
  refine enterR Try.func50 Try.ntmps50 rfl (by kernel_rfl) rfl ?_
  repeat first | refine ω1 ?_ | refine ω2 ?_ | refine ω3 ?_ | refine ω4 ?_ | refine ω5 ?_ | refine χ1 ?_ | refine κ1 ?_ | refine κ2 ?_ | refine χ2 ?_ | refine κ3 ?_ | refine ω6 ?_ | refine ω7 ?_ | refine ω9 ?_ | refine κ4 ?_ | refine κ7 ?_ | refine κ8 ?_ | refine χ3 ?_ | refine χ4 ?_ | refine κ5 ?_ | refine κ6 ?_ | refine χ5 ?_ | refine χ6 ?_ | refine χ7 ?_ | refine ω8 ?_
  refine wloop2 (fun (k : Nat) (v3 : Value) => [(0, .slice A n c), (3, v3), (6, .int .i64 (n : Int)), (7, .int .i64 (k : Int))])
    (fun k v3 w2 => k ≤ n ∧ Ext w w2 ∧ OwnR w2 w.heap.size v3 (ddF (ls.take k)) ∧ (ddF (ls.take k)).length ≤ k) (fun k _ => n - k) 0 (.slice none 0 0) (by repeat' (first | exact Sub.nil | refine Sub.cons rfl ?_))
    ⟨Nat.zero_le _, Ext.refl w, OwnR.nil _ _, by simp [ddF]⟩ ?_
  rintro k v3 w2 ⟨hk, hx2, ho2, hl2⟩
  repeat first | refine ω1 ?_ | refine ω2 ?_ | refine ω3 ?_ | refine ω4 ?_ | refine ω5 ?_ | refine χ1 ?_ | refine κ1 ?_ | refine κ2 ?_ | refine χ2 ?_ | refine κ3 ?_ | refine ω6 ?_ | refine ω7 ?_ | refine ω9 ?_ | refine κ4 ?_ | refine κ7 ?_ | refine κ8 ?_ | refine χ3 ?_ | refine χ4 ?_ | refine κ5 ?_ | refine κ6 ?_ | refine χ5 ?_ | refine χ6 ?_ | refine χ7 ?_ | refine ω8 ?_
  refine ci (fun h => ?_) (fun h => ?_)
  · have hlt : k < n := by have := of_decide_eq_true h; omega
    have hps : k < ps.length := by omega
    have step := ddF_take (l := ls) (k := k) (by omega)
    repeat first | refine ω1 ?_ | refine ω2 ?_ | refine ω3 ?_ | refine ω4 ?_ | refine ω5 ?_ | refine χ1 ?_ | refine κ1 ?_ | refine κ2 ?_ | refine χ2 ?_ | refine κ3 ?_ | refine ω6 ?_ | refine ω7 ?_ | refine ω9 ?_ | refine κ4 ?_ | refine κ7 ?_ | refine κ8 ?_ | refine χ3 ?_ | refine χ4 ?_ | refine κ5 ?_ | refine κ6 ?_ | refine χ5 ?_ | refine χ6 ?_ | refine χ7 ?_ | refine ω8 ?_
    refine wjoin1 (fun (t : Bool) => [(0, .slice A n c), (3, v3), (4, .int .i64 (k : Int)), (6, .int .i64 (n : Int)), (7, .int .i64 (k : Int)), (24, .bool t)])
      (fun t w3 => t = !decide (k ≠ 0 ∧ ls.getD (k - 1) [] = ls.getD k []) ∧ Ext w2 w3) ?_ ?_
    · refine dr [(0, 0), (0, 1), (0, 2), (0, 3), (0, 4), (0, 5), (0, 6), (0, 7), (0, 8), (0, 9), (0, 10), (0, 11), (1, 12), (0, 13), (0, 14)] (by kernel_rfl) ?_
      have hxd : Ext w2 w2.drew := (Ext.refl w2).drew
      have h5d := h5.ext (hx2.trans hxd)
      repeat first | refine δ1 ?_ | refine δ2 ?_ | refine δ4 ?_ | refine δ5 ?_ | refine δ6 ?_ | refine δ7 ?_ | refine δ9 ?_ | refine δ8 ?_ | refine χ1 ?_ | refine χ2 ?_ | refine χ3 ?_ | refine χ4 ?_ | refine χ5 ?_ | refine χ6 ?_ | refine χ7 ?_
      refine dki 12 (fun h => ?_) (fun h => ?_)
      · have hk0 : k = 0 := by have := of_beq_t h; omega
        repeat first | refine δ1 ?_ | refine δ2 ?_ | refine δ4 ?_ | refine δ5 ?_ | refine δ6 ?_ | refine δ7 ?_ | refine δ9 ?_ | refine δ8 ?_ | refine χ1 ?_ | refine χ2 ?_ | refine χ3 ?_ | refine χ4 ?_ | refine χ5 ?_ | refine χ6 ?_ | refine χ7 ?_
        exact qjoin1 true (by repeat' (first | exact Sub.nil | refine Sub.cons rfl ?_)) ⟨by simp [hk0], hxd⟩
      · have hk0 : k ≠ 0 := by have := of_beq_f h; omega
        have hps1 : k - 1 < ps.length := by omega
        repeat first | refine δ1 ?_ | refine δ2 ?_ | refine δ4 ?_ | refine δ5 ?_ | refine δ6 ?_ | refine δ7 ?_ | refine δ9 ?_ | refine δ8 ?_ | refine χ1 ?_ | refine χ2 ?_ | refine χ3 ?_ | refine χ4 ?_ | refine χ5 ?_ | refine χ6 ?_ | refine χ7 ?_
        refine dix (k - 1) h5d (by omega) ?_
        repeat first | refine δ1 ?_ | refine δ2 ?_ | refine δ4 ?_ | refine δ5 ?_ | refine δ6 ?_ | refine δ7 ?_ | refine δ9 ?_ | refine δ8 ?_ | refine χ1 ?_ | refine χ2 ?_ | refine χ3 ?_ | refine χ4 ?_ | refine χ5 ?_ | refine χ6 ?_ | refine χ7 ?_
        refine dld (h5d.cell (ps_get hps1)) ?_
        repeat first | refine δ1 ?_ | refine δ2 ?_ | refine δ4 ?_ | refine δ5 ?_ | refine δ6 ?_ | refine δ7 ?_ | refine δ9 ?_ | refine δ8 ?_ | refine χ1 ?_ | refine χ2 ?_ | refine χ3 ?_ | refine χ4 ?_ | refine χ5 ?_ | refine χ6 ?_ | refine χ7 ?_
        refine dix k h5d hlt ?_
        repeat first | refine δ1 ?_ | refine δ2 ?_ | refine δ4 ?_ | refine δ5 ?_ | refine δ6 ?_ | refine δ7 ?_ | refine δ9 ?_ | refine δ8 ?_ | refine χ1 ?_ | refine χ2 ?_ | refine χ3 ?_ | refine χ4 ?_ | refine χ5 ?_ | refine χ6 ?_ | refine χ7 ?_
        refine dld (h5d.cell (ps_get hps)) ?_
        repeat first | refine δ1 ?_ | refine δ2 ?_ | refine δ4 ?_ | refine δ5 ?_ | refine δ6 ?_ | refine δ7 ?_ | refine δ9 ?_ | refine δ8 ?_ | refine χ1 ?_ | refine χ2 ?_ | refine χ3 ?_ | refine χ4 ?_ | refine χ5 ?_ | refine χ6 ?_ | refine χ7 ?_
        refine dcl (rowEqual_any ((h6 _ (getD_mem' z0 ps hps1)).ext (hx2.trans hxd)) ((h6 _ (getD_mem' z0 ps hps)).ext (hx2.trans hxd))) ?_
        rintro x w3 ⟨rfl, hx3⟩
        refine ⟨hx3, ?_⟩
        repeat first | refine δ1 ?_ | refine δ2 ?_ | refine δ4 ?_ | refine δ5 ?_ | refine δ6 ?_ | refine δ7 ?_ | refine δ9 ?_ | refine δ8 ?_ | refine χ1 ?_ | refine χ2 ?_ | refine χ3 ?_ | refine χ4 ?_ | refine χ5 ?_ | refine χ6 ?_ | refine χ7 ?_
        refine qjoin1 (!decide ((ps.getD (k - 1) z0).2 = (ps.getD k z0).2)) (by repeat' (first | exact Sub.nil | refine Sub.cons rfl ?_)) ⟨?_, hxd.trans hx3⟩
        rw [hls, ls_get, ls_get]; simp [hk0]
    rintro t w3 ⟨rfl, hx3⟩
    have ho3 := ho2.ext hx3
    have hx23 := hx2.trans hx3
    repeat first | refine ω1 ?_ | refine ω2 ?_ | refine ω3 ?_ | refine ω4 ?_ | refine ω5 ?_ | refine χ1 ?_ | refine κ1 ?_ | refine κ2 ?_ | refine χ2 ?_ | refine κ3 ?_ | refine ω6 ?_ | refine ω7 ?_ | refine ω9 ?_ | refine κ4 ?_ | refine κ7 ?_ | refine κ8 ?_ | refine χ3 ?_ | refine χ4 ?_ | refine κ5 ?_ | refine κ6 ?_ | refine χ5 ?_ | refine χ6 ?_ | refine χ7 ?_ | refine ω8 ?_
    refine ci (fun h => ?_) (fun h => ?_)
    · rw [if_neg (by rw [Bool.not_eq_true'] at h; exact of_decide_eq_false h)] at step
      repeat first | refine ω1 ?_ | refine ω2 ?_ | refine ω3 ?_ | refine ω4 ?_ | refine ω5 ?_ | refine χ1 ?_ | refine κ1 ?_ | refine κ2 ?_ | refine χ2 ?_ | refine κ3 ?_ | refine ω6 ?_ | refine ω7 ?_ | refine ω9 ?_ | refine κ4 ?_ | refine κ7 ?_ | refine κ8 ?_ | refine χ3 ?_ | refine χ4 ?_ | refine κ5 ?_ | refine κ6 ?_ | refine χ5 ?_ | refine χ6 ?_ | refine χ7 ?_ | refine ω8 ?_
      refine ix k (h5.ext hx23) hlt ?_
      repeat first | refine ω1 ?_ | refine ω2 ?_ | refine ω3 ?_ | refine ω4 ?_ | refine ω5 ?_ | refine χ1 ?_ | refine κ1 ?_ | refine κ2 ?_ | refine χ2 ?_ | refine κ3 ?_ | refine ω6 ?_ | refine ω7 ?_ | refine ω9 ?_ | refine κ4 ?_ | refine κ7 ?_ | refine κ8 ?_ | refine χ3 ?_ | refine χ4 ?_ | refine κ5 ?_ | refine κ6 ?_ | refine χ5 ?_ | refine χ6 ?_ | refine χ7 ?_ | refine ω8 ?_
      refine ld ((h5.ext hx23).cell (ps_get hps)) ?_
      repeat first | refine ω1 ?_ | refine ω2 ?_ | refine ω3 ?_ | refine ω4 ?_ | refine ω5 ?_ | refine χ1 ?_ | refine κ1 ?_ | refine κ2 ?_ | refine χ2 ?_ | refine κ3 ?_ | refine ω6 ?_ | refine ω7 ?_ | refine ω9 ?_ | refine κ4 ?_ | refine κ7 ?_ | refine κ8 ?_ | refine χ3 ?_ | refine χ4 ?_ | refine κ5 ?_ | refine κ6 ?_ | refine χ5 ?_ | refine χ6 ?_ | refine χ7 ?_ | refine ω8 ?_
      refine cl (cloneRowV ((h6 _ (getD_mem' z0 ps hps)).ext hx23) (own w.heap.size v3) (fun j hj => by
        rcases hj with hj | hj
        · have := hx23.size; omega
        · exact (ho3.lt j hj).2)) ?_
      rintro v4 w4 ⟨hr4, hx4⟩
      obtain ⟨B, bc, hv4, _⟩ := hr4.v
      repeat first | refine ω1 ?_ | refine ω2 ?_ | refine ω3 ?_ | refine ω4 ?_ | refine ω5 ?_ | refine χ1 ?_ | refine κ1 ?_ | refine κ2 ?_ | refine χ2 ?_ | refine κ3 ?_ | refine ω6 ?_ | refine ω7 ?_ | refine ω9 ?_ | refine κ4 ?_ | refine κ7 ?_ | refine κ8 ?_ | refine χ3 ?_ | refine χ4 ?_ | refine κ5 ?_ | refine κ6 ?_ | refine χ5 ?_ | refine χ6 ?_ | refine χ7 ?_ | refine ω8 ?_
      refine bsl (fun w => bs1Row v4 w B _ bc hv4) ?_
      intro w5 b hx5 hb5 hk5
      repeat first | refine ω1 ?_ | refine ω2 ?_ | refine ω3 ?_ | refine ω4 ?_ | refine ω5 ?_ | refine χ1 ?_ | refine κ1 ?_ | refine κ2 ?_ | refine χ2 ?_ | refine κ3 ?_ | refine ω6 ?_ | refine ω7 ?_ | refine ω9 ?_ | refine κ4 ?_ | refine κ7 ?_ | refine κ8 ?_ | refine χ3 ?_ | refine χ4 ?_ | refine κ5 ?_ | refine κ6 ?_ | refine χ5 ?_ | refine χ6 ?_ | refine χ7 ?_ | refine ω8 ?_
      refine appR (a := w) ((hx23.trans hx4).trans hx5) ER ((ho3.ext hx4).ext hx5) hk5 (hr4.ext hx5) (by omega) ?_
      intro v6 w6 ho6 hx6 _
      repeat first | refine ω1 ?_ | refine ω2 ?_ | refine ω3 ?_ | refine ω4 ?_ | refine ω5 ?_ | refine χ1 ?_ | refine κ1 ?_ | refine κ2 ?_ | refine χ2 ?_ | refine κ3 ?_ | refine ω6 ?_ | refine ω7 ?_ | refine ω9 ?_ | refine κ4 ?_ | refine κ7 ?_ | refine κ8 ?_ | refine χ3 ?_ | refine χ4 ?_ | refine κ5 ?_ | refine κ6 ?_ | refine χ5 ?_ | refine χ6 ?_ | refine χ7 ?_ | refine ω8 ?_
      refine qround2 (k + 1) v6 (by repeat' (first | exact Sub.nil | refine Sub.cons rfl ?_)) ⟨by omega, hx6, ?_, ?_⟩ (by omega)
      · rw [step, hls, ls_get, ← hls]; exact ho6
      · rw [step]; simp; omega
    · rw [if_pos (by simpa using h)] at step
      repeat first | refine ω1 ?_ | refine ω2 ?_ | refine ω3 ?_ | refine ω4 ?_ | refine ω5 ?_ | refine χ1 ?_ | refine κ1 ?_ | refine κ2 ?_ | refine χ2 ?_ | refine κ3 ?_ | refine ω6 ?_ | refine ω7 ?_ | refine ω9 ?_ | refine κ4 ?_ | refine κ7 ?_ | refine κ8 ?_ | refine χ3 ?_ | refine χ4 ?_ | refine κ5 ?_ | refine κ6 ?_ | refine χ5 ?_ | refine χ6 ?_ | refine χ7 ?_ | refine ω8 ?_
      refine qround2 (k + 1) v3 (by repeat' (first | exact Sub.nil | refine Sub.cons rfl ?_)) ⟨by omega, hx23, ?_, ?_⟩ (by omega)
      · rw [step]; exact ho3
      · rw [step]; omega
  · have hkn : k = n := by have := of_decide_eq_false h; omega
    subst hkn
    repeat first | refine ω1 ?_ | refine ω2 ?_ | refine ω3 ?_ | refine ω4 ?_ | refine ω5 ?_ | refine χ1 ?_ | refine κ1 ?_ | refine κ2 ?_ | refine χ2 ?_ | refine κ3 ?_ | refine ω6 ?_ | refine ω7 ?_ | refine ω9 ?_ | refine κ4 ?_ | refine κ7 ?_ | refine κ8 ?_ | refine χ3 ?_ | refine χ4 ?_ | refine κ5 ?_ | refine κ6 ?_ | refine χ5 ?_ | refine χ6 ?_ | refine χ7 ?_ | refine ω8 ?_
    rw [List.take_of_length_le (by omega)] at ho2 hl2
    exact fin1 ⟨ho2, hx2⟩
/-- a test of numbers below n, as a function value -/
def TestF (w : World) (fv : Value) (n : Nat) (pr : Nat → Bool) : Prop := ∃ fid first cap, fv = .func (.func fid) first cap ∧
  ∀ w', Ext w w' → ∀ i : Nat, i < n → Ret Try.prog fid (first.toList ++ [.int .i64 (i : Int)] ++ cap.toList) w' fun r w'' => r = .bool (pr i) ∧ Ext w' w''
set_option maxRecDepth 100000 in
theorem sortSearch_any {w : World} {fv : Value} {n : Nat} {pr : Nat → Bool} (hT : TestF w fv n pr) (hn : n ≤ 1100000) :
    Ret Try.prog 82 [.int .i64 (n : Int), fv] w fun v w' => (∃ k : Nat, v = .int .i64 (k : Int) ∧ k ≤ n ∧ (k = 0 ∨ pr (k - 1) = false) ∧ (k = n ∨ pr k = true)) ∧ Ext w w' := by
  obtain ⟨fid, first, cap, rfl, hT⟩ := hT
  refine enterR Try.func82 Try.ntmps82 rfl (by kernel_rfl) rfl ?_
  repeat first | refine ω1 ?_ | refine ω2 ?_ | refine ω3 ?_ | refine ω4 ?_ | refine ω5 ?_ | refine χ1 ?_ | refine κ1 ?_ | refine κ2 ?_ | refine χ2 ?_ | refine κ3 ?_ | refine ω6 ?_ | refine ω7 ?_ | refine ω9 ?_ | refine κ4 ?_ | refine κ7 ?_ | refine κ8 ?_ | refine χ3 ?_ | refine χ4 ?_ | refine κ5 ?_ | refine κ6 ?_ | refine χ5 ?_ | refine χ6 ?_ | refine χ7 ?_ | refine ω8 ?_
  refine wloop2 (fun (i j : Nat) => [(1, .func (.func fid) first cap), (5, .int .i64 (i : Int)), (6, .int .i64 (j : Int))])
    (fun i j w' => i ≤ j ∧ j ≤ n ∧ (i = 0 ∨ pr (i - 1) = false) ∧ (j = n ∨ pr j = true) ∧ Ext w w') (fun i j => j - i) 0 n (by repeat' (first | exact Sub.nil | refine Sub.cons rfl ?_)) ⟨Nat.zero_le _, Nat.le_refl _, .inl rfl, .inl rfl, Ext.refl w⟩ ?_
  rintro i j w1 ⟨h1, h2, h3, h4, hx1⟩
  repeat first | refine ω1 ?_ | refine ω2 ?_ | refine ω3 ?_ | refine ω4 ?_ | refine ω5 ?_ | refine χ1 ?_ | refine κ1 ?_ | refine κ2 ?_ | refine χ2 ?_ | refine κ3 ?_ | refine ω6 ?_ | refine ω7 ?_ | refine ω9 ?_ | refine κ4 ?_ | refine κ7 ?_ | refine κ8 ?_ | refine χ3 ?_ | refine χ4 ?_ | refine κ5 ?_ | refine κ6 ?_ | refine χ5 ?_ | refine χ6 ?_ | refine χ7 ?_ | refine ω8 ?_
  refine ci (fun h => ?_) (fun h => ?_)
  · have hij : i < j := by have := of_decide_eq_true h; omega
    repeat first | refine ω1 ?_ | refine ω2 ?_ | refine ω3 ?_ | refine ω4 ?_ | refine ω5 ?_ | refine χ1 ?_ | refine κ1 ?_ | refine κ2 ?_ | refine χ2 ?_ | refine κ3 ?_ | refine ω6 ?_ | refine ω7 ?_ | refine ω9 ?_ | refine κ4 ?_ | refine κ7 ?_ | refine κ8 ?_ | refine χ3 ?_ | refine χ4 ?_ | refine κ5 ?_ | refine κ6 ?_ | refine χ5 ?_ | refine χ6 ?_ | refine χ7 ?_ | refine ω8 ?_
    refine wshr rfl rfl (by decide) rfl ?_
    repeat first | refine ω1 ?_ | refine ω2 ?_ | refine ω3 ?_ | refine ω4 ?_ | refine ω5 ?_ | refine χ1 ?_ | refine κ1 ?_ | refine κ2 ?_ | refine χ2 ?_ | refine κ3 ?_ | refine ω6 ?_ | refine ω7 ?_ | refine ω9 ?_ | refine κ4 ?_ | refine κ7 ?_ | refine κ8 ?_ | refine χ3 ?_ | refine χ4 ?_ | refine κ5 ?_ | refine κ6 ?_ | refine χ5 ?_ | refine χ6 ?_ | refine χ7 ?_ | refine ω8 ?_
    rw [half i j (by omega)]
    generalize hc : (i + j) / 2 = k
    refine clv (hT _ hx1 k (by omega)) ?_
    rintro r w2 ⟨rfl, hx2⟩
    repeat first | refine ω1 ?_ | refine ω2 ?_ | refine ω3 ?_ | refine ω4 ?_ | refine ω5 ?_ | refine χ1 ?_ | refine κ1 ?_ | refine κ2 ?_ | refine χ2 ?_ | refine κ3 ?_ | refine ω6 ?_ | refine ω7 ?_ | refine ω9 ?_ | refine κ4 ?_ | refine κ7 ?_ | refine κ8 ?_ | refine χ3 ?_ | refine χ4 ?_ | refine κ5 ?_ | refine κ6 ?_ | refine χ5 ?_ | refine χ6 ?_ | refine χ7 ?_ | refine ω8 ?_
    refine ci (fun h => ?_) (fun h => ?_)
    · have hp : pr k = false := by simpa using h
      repeat first | refine ω1 ?_ | refine ω2 ?_ | refine ω3 ?_ | refine ω4 ?_ | refine ω5 ?_ | refine χ1 ?_ | refine κ1 ?_ | refine κ2 ?_ | refine χ2 ?_ | refine κ3 ?_ | refine ω6 ?_ | refine ω7 ?_ | refine ω9 ?_ | refine κ4 ?_ | refine κ7 ?_ | refine κ8 ?_ | refine χ3 ?_ | refine χ4 ?_ | refine κ5 ?_ | refine κ6 ?_ | refine χ5 ?_ | refine χ6 ?_ | refine χ7 ?_ | refine ω8 ?_
      exact qround2 (k + 1) j (by repeat' (first | exact Sub.nil | refine Sub.cons (by first | rfl | (refine congrArg (fun z => some (Value.int .i64 z)) ?_; omega)) ?_)) ⟨by omega, h2, .inr (by rw [Nat.add_sub_cancel]; exact hp), h4, hx1.trans hx2⟩ (by omega)
    · have hp : pr k = true := by simpa using h
      repeat first | refine ω1 ?_ | refine ω2 ?_ | refine ω3 ?_ | refine ω4 ?_ | refine ω5 ?_ | refine χ1 ?_ | refine κ1 ?_ | refine κ2 ?_ | refine χ2 ?_ | refine κ3 ?_ | refine ω6 ?_ | refine ω7 ?_ | refine ω9 ?_ | refine κ4 ?_ | refine κ7 ?_ | refine κ8 ?_ | refine χ3 ?_ | refine χ4 ?_ | refine κ5 ?_ | refine κ6 ?_ | refine χ5 ?_ | refine χ6 ?_ | refine χ7 ?_ | refine ω8 ?_
      exact qround2 i k (by repeat' (first | exact Sub.nil | refine Sub.cons (by first | rfl | (refine congrArg (fun z => some (Value.int .i64 z)) ?_; omega)) ?_)) ⟨by omega, by omega, h3, .inr hp, hx1.trans hx2⟩ (by omega)
  · have hij : i = j := by have := of_decide_eq_false h; omega
    subst hij
    repeat first | refine ω1 ?_ | refine ω2 ?_ | refine ω3 ?_ | refine ω4 ?_ | refine ω5 ?_ | refine χ1 ?_ | refine κ1 ?_ | refine κ2 ?_ | refine χ2 ?_ | refine κ3 ?_ | refine ω6 ?_ | refine ω7 ?_ | refine ω9 ?_ | refine κ4 ?_ | refine κ7 ?_ | refine κ8 ?_ | refine χ3 ?_ | refine χ4 ?_ | refine κ5 ?_ | refine κ6 ?_ | refine χ5 ?_ | refine χ6 ?_ | refine χ7 ?_ | refine ω8 ?_
    exact fin1 ⟨⟨i, rfl, h2, h3, h4⟩, hx1⟩
theorem RowsV.parts {w : World} {v : Value} {ls : List Row} (h : RowsV w v ls) : ∃ A c, v = .slice A ls.length c ∧ ls.length ≤ c ∧ ls.length ≤ 1100000 ∧ ∃ cs : List Value, Rd w 1 A ls.length cs ∧ ∀ i, i < ls.length → ∃ u, cs[i]? = some u ∧ RowV w u (ls.getD i []) := by
  obtain ⟨ps, A, c, rfl, rfl, h3, h4, h5, h6⟩ := h
  refine ⟨A, c, by simp, by simpa using h3, by simpa using h4, ps.map (·.1), by simpa using h5, fun i hi => ?_⟩
  have hi' : i < ps.length := by simpa using hi
  exact ⟨_, ps_get hi', by rw [ls_get]; exact h6 _ (getD_mem' z0 ps hi')⟩
set_option maxRecDepth 100000 in
theorem searchTest_any {vs vr vd : Value} {ls : List Row} {r : Row} {ds : List Bool} {w : World} {b1 b2 b3 : Nat} (hs : RowsV w vs ls) (hr : RowV w vr r) (hd : BoolsV w vd ds) (hk1 : Blk w b1 22 [vs]) (hk2 : Blk w b2 25 [vr]) (hk3 : Blk w b3 23 [vd]) {i : Nat} (hi : i < ls.length) :
    Ret Try.prog 83 [.int .i64 (i : Int), .pointer (some ⟨b1, 0, none⟩), .pointer (some ⟨b2, 0, none⟩), .pointer (some ⟨b3, 0, none⟩)] w fun v w' => v = .bool (decide (0 ≤ cmpR (ls.getD i []) r ds)) ∧ Ext w w' := by
  have hx0 : Ext w w.drew := (Ext.refl w).drew
  obtain ⟨A, c, rfl, hc, hm, cs, hrd, hcs⟩ := (hs.ext hx0).parts
  obtain ⟨u, hu, hru⟩ := hcs i hi
  refine enterR Try.func83 Try.ntmps83 rfl (by kernel_rfl) rfl ?_
  repeat first | refine ω1 ?_ | refine ω2 ?_ | refine ω3 ?_ | refine ω4 ?_ | refine ω5 ?_ | refine χ1 ?_ | refine κ1 ?_ | refine κ2 ?_ | refine χ2 ?_ | refine κ3 ?_ | refine ω6 ?_ | refine ω7 ?_ | refine ω9 ?_ | refine κ4 ?_ | refine κ7 ?_ | refine κ8 ?_ | refine χ3 ?_ | refine χ4 ?_ | refine κ5 ?_ | refine κ6 ?_ | refine χ5 ?_ | refine χ6 ?_ | refine χ7 ?_ | refine ω8 ?_
  refine dr [(0, 0), (0, 1), (0, 2), (0, 3), (0, 4), (0, 5), (1, 6), (0, 7), (0, 8)] (by kernel_rfl) ?_
  refine dld ((hk1.ext hx0).at (i := 0) rfl) ?_
  repeat first | refine δ1 ?_ | refine δ2 ?_ | refine δ4 ?_ | refine δ5 ?_ | refine δ6 ?_ | refine δ7 ?_ | refine δ9 ?_ | refine δ8 ?_ | refine χ1 ?_ | refine χ2 ?_ | refine χ3 ?_ | refine χ4 ?_ | refine χ5 ?_ | refine χ6 ?_ | refine χ7 ?_
  refine dix i hrd hi ?_
  repeat first | refine δ1 ?_ | refine δ2 ?_ | refine δ4 ?_ | refine δ5 ?_ | refine δ6 ?_ | refine δ7 ?_ | refine δ9 ?_ | refine δ8 ?_ | refine χ1 ?_ | refine χ2 ?_ | refine χ3 ?_ | refine χ4 ?_ | refine χ5 ?_ | refine χ6 ?_ | refine χ7 ?_
  refine dld (hrd.cell hu) ?_
  repeat first | refine δ1 ?_ | refine δ2 ?_ | refine δ4 ?_ | refine δ5 ?_ | refine δ6 ?_ | refine δ7 ?_ | refine δ9 ?_ | refine δ8 ?_ | refine χ1 ?_ | refine χ2 ?_ | refine χ3 ?_ | refine χ4 ?_ | refine χ5 ?_ | refine χ6 ?_ | refine χ7 ?_
  refine dld ((hk2.ext hx0).at (i := 0) rfl) ?_
  repeat first | refine δ1 ?_ | refine δ2 ?_ | refine δ4 ?_ | refine δ5 ?_ | refine δ6 ?_ | refine δ7 ?_ | refine δ9 ?_ | refine δ8 ?_ | refine χ1 ?_ | refine χ2 ?_ | refine χ3 ?_ | refine χ4 ?_ | refine χ5 ?_ | refine χ6 ?_ | refine χ7 ?_
  refine dld ((hk3.ext hx0).at (i := 0) rfl) ?_
  repeat first | refine δ1 ?_ | refine δ2 ?_ | refine δ4 ?_ | refine δ5 ?_ | refine δ6 ?_ | refine δ7 ?_ | refine δ9 ?_ | refine δ8 ?_ | refine χ1 ?_ | refine χ2 ?_ | refine χ3 ?_ | refine χ4 ?_ | refine χ5 ?_ | refine χ6 ?_ | refine χ7 ?_
  refine dcl (compareBy_any hru (hr.ext hx0) (hd.ext hx0)) ?_
  rintro x w1 ⟨rfl, hx1⟩
  refine ⟨hx1, ?_⟩
  repeat first | refine δ1 ?_ | refine δ2 ?_ | refine δ4 ?_ | refine δ5 ?_ | refine δ6 ?_ | refine δ7 ?_ | refine δ9 ?_ | refine δ8 ?_ | refine χ1 ?_ | refine χ2 ?_ | refine χ3 ?_ | refine χ4 ?_ | refine χ5 ?_ | refine χ6 ?_ | refine χ7 ?_
  repeat first | refine ω1 ?_ | refine ω2 ?_ | refine ω3 ?_ | refine ω4 ?_ | refine ω5 ?_ | refine χ1 ?_ | refine κ1 ?_ | refine κ2 ?_ | refine χ2 ?_ | refine κ3 ?_ | refine ω6 ?_ | refine ω7 ?_ | refine ω9 ?_ | refine κ4 ?_ | refine κ7 ?_ | refine κ8 ?_ | refine χ3 ?_ | refine χ4 ?_ | refine κ5 ?_ | refine κ6 ?_ | refine χ5 ?_ | refine χ6 ?_ | refine χ7 ?_ | refine ω8 ?_
  exact fin1 ⟨rfl, hx0.trans hx1⟩
set_option maxRecDepth 100000 in
theorem rowSearch_any {vs vr vd : Value} {ls : List Row} {r : Row} {ds : List Bool} {w : World} (hs : RowsV w vs ls) (hr : RowV w vr r) (hd : BoolsV w vd ds) (hlt : Lt ds ls) :
    Ret Try.prog 54 [vs, vr, vd] w fun v w' => v = .tuple #[.int .i64 (cnt ds ls r : Int), .bool (decide (r ∈ ls))] ∧ Ext w w' := by
  refine enterR Try.func54 Try.ntmps54 rfl (by kernel_rfl) rfl ?_
  obtain ⟨A, c, rfl, hc, hm, cs, hrd, hcs⟩ := hs.parts
  obtain ⟨B, bc, rfl, _⟩ := id hr
  obtain ⟨D, dc, rfl, _⟩ := id hd
  repeat first | refine ω1 ?_ | refine ω2 ?_ | refine ω3 ?_ | refine ω4 ?_ | refine ω5 ?_ | refine χ1 ?_ | refine κ1 ?_ | refine κ2 ?_ | refine χ2 ?_ | refine κ3 ?_ | refine ω6 ?_ | refine ω7 ?_ | refine ω9 ?_ | refine κ4 ?_ | refine κ7 ?_ | refine κ8 ?_ | refine χ3 ?_ | refine χ4 ?_ | refine κ5 ?_ | refine κ6 ?_ | refine χ5 ?_ | refine χ6 ?_ | refine χ7 ?_ | refine ω8 ?_
  refine bx ?_
  intro w1 b1 hx1 hb1 hk1
  repeat first | refine ω1 ?_ | refine ω2 ?_ | refine ω3 ?_ | refine ω4 ?_ | refine ω5 ?_ | refine χ1 ?_ | refine κ1 ?_ | refine κ2 ?_ | refine χ2 ?_ | refine κ3 ?_ | refine ω6 ?_ | refine ω7 ?_ | refine ω9 ?_ | refine κ4 ?_ | refine κ7 ?_ | refine κ8 ?_ | refine χ3 ?_ | refine χ4 ?_ | refine κ5 ?_ | refine κ6 ?_ | refine χ5 ?_ | refine χ6 ?_ | refine χ7 ?_ | refine ω8 ?_
  refine bx ?_
  intro w2 b2 hx2 hb2 hk2
  repeat first | refine ω1 ?_ | refine ω2 ?_ | refine ω3 ?_ | refine ω4 ?_ | refine ω5 ?_ | refine χ1 ?_ | refine κ1 ?_ | refine κ2 ?_ | refine χ2 ?_ | refine κ3 ?_ | refine ω6 ?_ | refine ω7 ?_ | refine ω9 ?_ | refine κ4 ?_ | refine κ7 ?_ | refine κ8 ?_ | refine χ3 ?_ | refine χ4 ?_ | refine κ5 ?_ | refine κ6 ?_ | refine χ5 ?_ | refine χ6 ?_ | refine χ7 ?_ | refine ω8 ?_
  refine bx ?_
  intro w3 b3 hx3 hb3 hk3
  have hk1 := (hk1.ext hx2).ext hx3
  have hk2 := hk2.ext hx3
  have hx := (hx1.trans hx2).trans hx3
  repeat first | refine ω1 ?_ | refine ω2 ?_ | refine ω3 ?_ | refine ω4 ?_ | refine ω5 ?_ | refine χ1 ?_ | refine κ1 ?_ | refine κ2 ?_ | refine χ2 ?_ | refine κ3 ?_ | refine ω6 ?_ | refine ω7 ?_ | refine ω9 ?_ | refine κ4 ?_ | refine κ7 ?_ | refine κ8 ?_ | refine χ3 ?_ | refine χ4 ?_ | refine κ5 ?_ | refine κ6 ?_ | refine χ5 ?_ | refine χ6 ?_ | refine χ7 ?_ | refine ω8 ?_
  refine ld (hk1.at (i := 0) rfl) ?_
  repeat first | refine ω1 ?_ | refine ω2 ?_ | refine ω3 ?_ | refine ω4 ?_ | refine ω5 ?_ | refine χ1 ?_ | refine κ1 ?_ | refine κ2 ?_ | refine χ2 ?_ | refine κ3 ?_ | refine ω6 ?_ | refine ω7 ?_ | refine ω9 ?_ | refine κ4 ?_ | refine κ7 ?_ | refine κ8 ?_ | refine χ3 ?_ | refine χ4 ?_ | refine κ5 ?_ | refine κ6 ?_ | refine χ5 ?_ | refine χ6 ?_ | refine χ7 ?_ | refine ω8 ?_
  refine cl (sortSearch_any (n := ls.length) (pr := fun i => decide (0 ≤ cmpR (ls.getD i []) r ds)) ⟨_, _, _, rfl, fun w' hx' i hi => searchTest_any (hs.ext (hx.trans hx')) (hr.ext (hx.trans hx')) (hd.ext (hx.trans hx')) (hk1.ext hx') (hk2.ext hx') (hk3.ext hx') hi⟩ hm) ?_
  rintro v w4 ⟨⟨k, rfl, hkn, hlo, hhi⟩, hx4⟩
  obtain ⟨hcnt, hmem⟩ := rank_at hlt hkn (r := r) (hlo.imp id fun h => by have := of_decide_eq_false h; omega) (hhi.imp id fun h => by have := of_decide_eq_true h; omega)
  have hk1 := hk1.ext hx4
  have hk2 := hk2.ext hx4
  repeat first | refine ω1 ?_ | refine ω2 ?_ | refine ω3 ?_ | refine ω4 ?_ | refine ω5 ?_ | refine χ1 ?_ | refine κ1 ?_ | refine κ2 ?_ | refine χ2 ?_ | refine κ3 ?_ | refine ω6 ?_ | refine ω7 ?_ | refine ω9 ?_ | refine κ4 ?_ | refine κ7 ?_ | refine κ8 ?_ | refine χ3 ?_ | refine χ4 ?_ | refine κ5 ?_ | refine κ6 ?_ | refine χ5 ?_ | refine χ6 ?_ | refine χ7 ?_ | refine ω8 ?_
  refine dr [(0, 0), (0, 1), (0, 2), (0, 3), (0, 4), (0, 5), (0, 6), (0, 7), (0, 8), (0, 9), (0, 10), (1, 11), (0, 12), (0, 13), (0, 14)] (by kernel_rfl) ?_
  have hxd : Ext w4 w4.drew := (Ext.refl w4).drew
  have hxa := (hx.trans hx4).trans hxd
  repeat first | refine δ1 ?_ | refine δ2 ?_ | refine δ4 ?_ | refine δ5 ?_ | refine δ6 ?_ | refine δ7 ?_ | refine δ9 ?_ | refine δ8 ?_ | refine χ1 ?_ | refine χ2 ?_ | refine χ3 ?_ | refine χ4 ?_ | refine χ5 ?_ | refine χ6 ?_ | refine χ7 ?_
  refine dld ((hk1.ext hxd).at (i := 0) rfl) ?_
  repeat first | refine δ1 ?_ | refine δ2 ?_ | refine δ4 ?_ | refine δ5 ?_ | refine δ6 ?_ | refine δ7 ?_ | refine δ9 ?_ | refine δ8 ?_ | refine χ1 ?_ | refine χ2 ?_ | refine χ3 ?_ | refine χ4 ?_ | refine χ5 ?_ | refine χ6 ?_ | refine χ7 ?_
  refine dki 18 (fun h => ?_) (fun h => ?_)
  · have hkl : k < ls.length := by have := of_decide_eq_true h; omega
    obtain ⟨u, hu, hru⟩ := hcs k hkl
    repeat first | refine δ1 ?_ | refine δ2 ?_ | refine δ4 ?_ | refine δ5 ?_ | refine δ6 ?_ | refine δ7 ?_ | refine δ9 ?_ | refine δ8 ?_ | refine χ1 ?_ | refine χ2 ?_ | refine χ3 ?_ | refine χ4 ?_ | refine χ5 ?_ | refine χ6 ?_ | refine χ7 ?_
    refine dld ((hk1.ext hxd).at (i := 0) rfl) ?_
    repeat first | refine δ1 ?_ | refine δ2 ?_ | refine δ4 ?_ | refine δ5 ?_ | refine δ6 ?_ | refine δ7 ?_ | refine δ9 ?_ | refine δ8 ?_ | refine χ1 ?_ | refine χ2 ?_ | refine χ3 ?_ | refine χ4 ?_ | refine χ5 ?_ | refine χ6 ?_ | refine χ7 ?_
    refine dix k (hrd.ext hxa) hkl ?_
    repeat first | refine δ1 ?_ | refine δ2 ?_ | refine δ4 ?_ | refine δ5 ?_ | refine δ6 ?_ | refine δ7 ?_ | refine δ9 ?_ | refine δ8 ?_ | refine χ1 ?_ | refine χ2 ?_ | refine χ3 ?_ | refine χ4 ?_ | refine χ5 ?_ | refine χ6 ?_ | refine χ7 ?_
    refine dld ((hrd.ext hxa).cell hu) ?_
    repeat first | refine δ1 ?_ | refine δ2 ?_ | refine δ4 ?_ | refine δ5 ?_ | refine δ6 ?_ | refine δ7 ?_ | refine δ9 ?_ | refine δ8 ?_ | refine χ1 ?_ | refine χ2 ?_ | refine χ3 ?_ | refine χ4 ?_ | refine χ5 ?_ | refine χ6 ?_ | refine χ7 ?_
    refine dld ((hk2.ext hxd).at (i := 0) rfl) ?_
    repeat first | refine δ1 ?_ | refine δ2 ?_ | refine δ4 ?_ | refine δ5 ?_ | refine δ6 ?_ | refine δ7 ?_ | refine δ9 ?_ | refine δ8 ?_ | refine χ1 ?_ | refine χ2 ?_ | refine χ3 ?_ | refine χ4 ?_ | refine χ5 ?_ | refine χ6 ?_ | refine χ7 ?_
    refine dcl (rowEqual_any (hru.ext hxa) (hr.ext hxa)) ?_
    rintro x w5 ⟨rfl, hx5⟩
    refine ⟨hx5, ?_⟩
    repeat first | refine δ1 ?_ | refine δ2 ?_ | refine δ4 ?_ | refine δ5 ?_ | refine δ6 ?_ | refine δ7 ?_ | refine δ9 ?_ | refine δ8 ?_ | refine χ1 ?_ | refine χ2 ?_ | refine χ3 ?_ | refine χ4 ?_ | refine χ5 ?_ | refine χ6 ?_ | refine χ7 ?_
    repeat first | refine ω1 ?_ | refine ω2 ?_ | refine ω3 ?_ | refine ω4 ?_ | refine ω5 ?_ | refine χ1 ?_ | refine κ1 ?_ | refine κ2 ?_ | refine χ2 ?_ | refine κ3 ?_ | refine ω6 ?_ | refine ω7 ?_ | refine ω9 ?_ | refine κ4 ?_ | refine κ7 ?_ | refine κ8 ?_ | refine χ3 ?_ | refine χ4 ?_ | refine κ5 ?_ | refine κ6 ?_ | refine χ5 ?_ | refine χ6 ?_ | refine χ7 ?_ | refine ω8 ?_
    refine fin2 ⟨?_, hxa.trans hx5⟩
    have e : decide (r ∈ ls) = decide (ls.getD k [] = r) := by rw [Bool.eq_iff_iff, decide_eq_true_iff, decide_eq_true_iff, hmem]; simp [hkl]
    rw [hcnt, e]
  · have hkl : ¬ k < ls.length := by have := of_decide_eq_false h; omega
    repeat first | refine δ1 ?_ | refine δ2 ?_ | refine δ4 ?_ | refine δ5 ?_ | refine δ6 ?_ | refine δ7 ?_ | refine δ9 ?_ | refine δ8 ?_ | refine χ1 ?_ | refine χ2 ?_ | refine χ3 ?_ | refine χ4 ?_ | refine χ5 ?_ | refine χ6 ?_ | refine χ7 ?_
    repeat first | refine ω1 ?_ | refine ω2 ?_ | refine ω3 ?_ | refine ω4 ?_ | refine ω5 ?_ | refine χ1 ?_ | refine κ1 ?_ | refine κ2 ?_ | refine χ2 ?_ | refine κ3 ?_ | refine ω6 ?_ | refine ω7 ?_ | refine ω9 ?_ | refine κ4 ?_ | refine κ7 ?_ | refine κ8 ?_ | refine χ3 ?_ | refine χ4 ?_ | refine κ5 ?_ | refine κ6 ?_ | refine χ5 ?_ | refine χ6 ?_ | refine χ7 ?_ | refine ω8 ?_
    refine fin2 ⟨?_, hxa⟩
    have e : decide (r ∈ ls) = false := by rw [decide_eq_false_iff_not, hmem]; exact fun h => hkl h.1
    rw [hcnt, e]
/-! ### the array of rows -/
/-- a value of type array.Rows -/
def RowsA (w : World) (v : Value) (ds : List Bool) (ls : List Row) : Prop := ∃ v1 v2, v = .agg #[v1, v2] ∧ RowsV w v1 ls ∧ BoolsV w v2 ds
theorem RowsA.ext {w w' : World} {v : Value} {ds : List Bool} {ls : List Row} (h : RowsA w v ds ls) (hx : Ext w w') : RowsA w' v ds ls := by
  obtain ⟨v1, v2, h1, h2, h3⟩ := h; exact ⟨v1, v2, h1, h2.ext hx, h3.ext hx⟩
theorem RowsV.slc {w : World} {v : Value} {ls : List Row} (h : RowsV w v ls) : ∃ A n c, v = .slice A n c := by obtain ⟨_, A, c, _, rfl, _⟩ := h; exact ⟨A, _, c, rfl⟩
theorem BoolsV.slc {w : World} {v : Value} {ls : List Bool} (h : BoolsV w v ls) : ∃ A n c, v = .slice A n c := by obtain ⟨A, c, rfl, _⟩ := h; exact ⟨A, _, c, rfl⟩
theorem bldRows (A B : Option Addr) (n c m e : Nat) (w : World) : (Instr.build 29 #[(0, .slice A n c), (1, .slice B m e)]).run Try.prog w = .ok (.agg #[.slice A n c, .slice B m e]) w := by kernel_rfl
theorem zRows : zeroOf Try.prog 29 = some (.agg #[.slice none 0 0, .slice none 0 0]) := by kernel_rfl
theorem BoolsV.one (ds : List Bool) : ∀ u ∈ ds.map Value.bool, u.oneCell' = true := by
  intro u hu; obtain ⟨b, _, rfl⟩ := List.mem_map.1 hu; rfl
set_option maxRecDepth 100000 in
theorem ofRows_any {v vd : Value} {ls : List Row} {ds : List Bool} {w : World} (h : RowsV w v ls) (hd : BoolsV w vd ds) :
    Ret Try.prog 14 [v, vd] w fun v' w' => (∃ m, RowsA w' v' ds m ∧ IsSet ds ls m ∧ m.length ≤ ls.length) ∧ Ext w w' := by
  refine enterR Try.func14 Try.ntmps14 rfl (by kernel_rfl) rfl ?_
  repeat first | refine ω1 ?_ | refine ω2 ?_ | refine ω3 ?_ | refine ω4 ?_ | refine ω5 ?_ | refine χ1 ?_ | refine κ1 ?_ | refine κ2 ?_ | refine χ2 ?_ | refine κ3 ?_ | refine ω6 ?_ | refine ω7 ?_ | refine ω9 ?_ | refine κ4 ?_ | refine κ7 ?_ | refine κ8 ?_ | refine χ3 ?_ | refine χ4 ?_ | refine κ5 ?_ | refine κ6 ?_ | refine χ5 ?_ | refine χ6 ?_ | refine χ7 ?_ | refine ω8 ?_
  refine alc (cs := [.slice none 0 0, .slice none 0 0]) zRows ?_
  intro w1 b hx1 hb1 hk1
  repeat first | refine ω1 ?_ | refine ω2 ?_ | refine ω3 ?_ | refine ω4 ?_ | refine ω5 ?_ | refine χ1 ?_ | refine κ1 ?_ | refine κ2 ?_ | refine χ2 ?_ | refine κ3 ?_ | refine ω6 ?_ | refine ω7 ?_ | refine ω9 ?_ | refine κ4 ?_ | refine κ7 ?_ | refine κ8 ?_ | refine χ3 ?_ | refine χ4 ?_ | refine κ5 ?_ | refine κ6 ?_ | refine χ5 ?_ | refine χ6 ?_ | refine χ7 ?_ | refine ω8 ?_
  refine cl (rowSort_any (h.ext hx1) (hd.ext hx1)) ?_
  rintro v2 w2 ⟨⟨ls', hr2, hp2, hs2⟩, hx2⟩
  repeat first | refine ω1 ?_ | refine ω2 ?_ | refine ω3 ?_ | refine ω4 ?_ | refine ω5 ?_ | refine χ1 ?_ | refine κ1 ?_ | refine κ2 ?_ | refine χ2 ?_ | refine κ3 ?_ | refine ω6 ?_ | refine ω7 ?_ | refine ω9 ?_ | refine κ4 ?_ | refine κ7 ?_ | refine κ8 ?_ | refine χ3 ?_ | refine χ4 ?_ | refine κ5 ?_ | refine κ6 ?_ | refine χ5 ?_ | refine χ6 ?_ | refine χ7 ?_ | refine ω8 ?_
  refine cl (dedup_any hr2) ?_
  rintro v3 w3 ⟨hr3, hx3⟩
  repeat first | refine ω1 ?_ | refine ω2 ?_ | refine ω3 ?_ | refine ω4 ?_ | refine ω5 ?_ | refine χ1 ?_ | refine κ1 ?_ | refine κ2 ?_ | refine χ2 ?_ | refine κ3 ?_ | refine ω6 ?_ | refine ω7 ?_ | refine ω9 ?_ | refine κ4 ?_ | refine κ7 ?_ | refine κ8 ?_ | refine χ3 ?_ | refine χ4 ?_ | refine κ5 ?_ | refine κ6 ?_ | refine χ5 ?_ | refine χ6 ?_ | refine χ7 ?_ | refine ω8 ?_
  obtain ⟨D, dc, rfl, hdc, hdm, hdr⟩ := id hd
  have hx13 := (hx1.trans hx2).trans hx3
  refine cl (cloneBoolF (hdr.ext hx13) (BoolsV.one ds) (by omega)) ?_
  rintro v4 w4 ⟨⟨D', c', rfl, hc', hd4, hD'⟩, hx4⟩
  obtain ⟨A3, c3, rfl⟩ := hr3.form
  repeat first | refine ω1 ?_ | refine ω2 ?_ | refine ω3 ?_ | refine ω4 ?_ | refine ω5 ?_ | refine χ1 ?_ | refine κ1 ?_ | refine κ2 ?_ | refine χ2 ?_ | refine κ3 ?_ | refine ω6 ?_ | refine ω7 ?_ | refine ω9 ?_ | refine κ4 ?_ | refine κ7 ?_ | refine κ8 ?_ | refine χ3 ?_ | refine χ4 ?_ | refine κ5 ?_ | refine κ6 ?_ | refine χ5 ?_ | refine χ6 ?_ | refine χ7 ?_ | refine ω8 ?_
  refine bld (bldRows _ _ _ _ _ _ _) ?_
  repeat first | refine ω1 ?_ | refine ω2 ?_ | refine ω3 ?_ | refine ω4 ?_ | refine ω5 ?_ | refine χ1 ?_ | refine κ1 ?_ | refine κ2 ?_ | refine χ2 ?_ | refine κ3 ?_ | refine ω6 ?_ | refine ω7 ?_ | refine ω9 ?_ | refine κ4 ?_ | refine κ7 ?_ | refine κ8 ?_ | refine χ3 ?_ | refine χ4 ?_ | refine κ5 ?_ | refine κ6 ?_ | refine χ5 ?_ | refine χ6 ?_ | refine χ7 ?_ | refine ω8 ?_
  refine stb (((hk1.ext hx2).ext hx3).ext hx4) (cs' := [.slice A3 (ddF ls').length c3, .slice D' ds.length c']) ?_ (fun u hu => by simp at hu; rcases hu with rfl | rfl <;> rfl)
  intro w5 hk5 hg5 hx5
  have hset := ddF_set hs2
  have hset' : IsSet ds ls (ddF ls') := ⟨hset.1, fun x => (hset.2 x).trans hp2.mem_iff⟩
  have hfin : Ext w w5 := hx5 w (hx13.trans hx4) hb1
  have hb2 : b < w2.heap.size := (hk1.ext hx2).lt
  have hlen : ls'.length ≤ 1100000 := by obtain ⟨_, _, _, _, h0, _⟩ := hr2.parts; exact h0
  have hr5 : OwnR w5 w2.heap.size (.slice A3 (ddF ls').length c3) (ddF ls') := (hr3.ext hx4).grown hg5 hb2
  repeat first | refine ω1 ?_ | refine ω2 ?_ | refine ω3 ?_ | refine ω4 ?_ | refine ω5 ?_ | refine χ1 ?_ | refine κ1 ?_ | refine κ2 ?_ | refine χ2 ?_ | refine κ3 ?_ | refine ω6 ?_ | refine ω7 ?_ | refine ω9 ?_ | refine κ4 ?_ | refine κ7 ?_ | refine κ8 ?_ | refine χ3 ?_ | refine χ4 ?_ | refine κ5 ?_ | refine κ6 ?_ | refine χ5 ?_ | refine χ6 ?_ | refine χ7 ?_ | refine ω8 ?_
  refine finC1 hk5 ⟨⟨ddF ls', ⟨_, _, rfl, hr5.rows (by have := ddF_len ls'; omega), ⟨D', c', rfl, hc', hdm, ?_⟩⟩, hset', ?_⟩, hfin⟩
  · refine Rd.grown hd4 hg5 (fun ad e e2 => ?_)
    have := hD' ad e
    injection e2 with e2
    have := hx3.size
    omega
  · rw [← hp2.length_eq]; exact ddF_len ls'
end Go.Proofs.Ytpahjnfolbnloaa
