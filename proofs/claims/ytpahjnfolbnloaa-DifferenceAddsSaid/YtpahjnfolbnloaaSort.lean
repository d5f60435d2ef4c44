/- The sorting functions of package slices, at rows: swapRange, rotate. -/
import Derived.Test.YtpahjnfolbnloaaRow
import Derived.Test.YtpahjnfolbnloaaSortP
import Derived.Test.YtpahjnfolbnloaaRegC
set_option linter.unusedVariables false
namespace Go.Proofs.Ytpahjnfolbnloaa
open Go.RowKit Pl Go.Wk
attribute [local irreducible] WC WL QX WD WDB WP
abbrev Pr := Value × List V
def z0 : Pr := (undef, [])
/-- the slice's cells, the call's own -/
def Dat (w : World) (base : Nat) (v : Value) (ps : List Pr) : Prop := w.ownsRow base 25 1 v ps.length (ps.map (·.1)) ∧ ∀ p ∈ ps, p.1.oneCell' = true
theorem Dat.ext {w w' : World} {base : Nat} {v : Value} {ps : List Pr} (h : Dat w base v ps) (hx : Ext w w') : Dat w' base v ps := ⟨own_ext h.1 hx, h.2⟩
theorem Dat.rd {w : World} {base : Nat} {A : Option Addr} {n c : Nat} {ps : List Pr} (h : Dat w base (.slice A n c) ps) (hn : ps.length = n) : Rd w 1 A n (ps.map (·.1)) := by
  have := h.1; rw [hn] at this; exact Rd.own this
theorem ps_get {ps : List Pr} {i : Nat} (h : i < ps.length) : (ps.map (·.1))[i]? = some (ps.getD i z0).1 := by simp [List.getD, List.getElem?_eq_getElem h]
theorem Dat.cell {w : World} {base : Nat} {A : Option Addr} {n c : Nat} {ps : List Pr} (h : Dat w base (.slice A n c) ps) (hn : ps.length = n) {i : Nat} (hi : i < n) : w.cell? (adr A i) = some (ps.getD i z0).1 :=
  (h.rd hn).cell (ps_get (by omega))
theorem Dat.one {w : World} {base : Nat} {v : Value} {ps : List Pr} (h : Dat w base v ps) {i : Nat} (hi : i < ps.length) : (ps.getD i z0).1.oneCell' = true := h.2 _ (getD_mem' z0 ps hi)
theorem Dat.store {w : World} {base : Nat} {A : Option Addr} {n c : Nat} {ps : List Pr} (h : Dat w base (.slice A n c) ps) (hn : ps.length = n) {i : Nat} (hi : i < n) {p : Pr} (hp : p.1.oneCell' = true) :
    w.frozen? (adr A i) = false ∧ Dat (w.setCell (adr A i) p.1) base (.slice A n c) (ps.set i p) ∧ w.grownBy (w.setCell (adr A i) p.1) (Value.slice A n c).ownBlock := by
  have h1 := h.1
  rw [hn] at h1
  obtain ⟨s1, s2, s3, s4, s5⟩ := own_store h1 (q := i) (by omega) p.1
  refine ⟨s2, ⟨?_, fun q hq => ?_⟩, s5⟩
  · rw [List.length_set, hn, List.map_set]; exact s3
  · rcases List.mem_or_eq_of_mem_set hq with h' | h'
    · exact h.2 q h'
    · rw [h']; exact hp
/-- two elements change places: what holds before, between and after the stores -/
theorem Dat.swap {w : World} {base : Nat} {A : Option Addr} {n c : Nat} {ps : List Pr} (h : Dat w base (.slice A n c) ps) (hn : ps.length = n) {i j : Nat} (hi : i < n) (hj : j < n) :
    w.frozen? (adr A i) = false ∧ Rd (w.setCell (adr A i) (ps.getD j z0).1) 1 A n ((ps.set i (ps.getD j z0)).map (·.1)) ∧ (w.setCell (adr A i) (ps.getD j z0).1).frozen? (adr A j) = false ∧
    (∃ u, (w.setCell (adr A i) (ps.getD j z0).1).cell? (adr A j) = some u) ∧ Dat ((w.setCell (adr A i) (ps.getD j z0).1).setCell (adr A j) (ps.getD i z0).1) base (.slice A n c) (swp z0 ps i j) ∧
    w.grownBy ((w.setCell (adr A i) (ps.getD j z0).1).setCell (adr A j) (ps.getD i z0).1) (Value.slice A n c).ownBlock := by
  obtain ⟨a1, a2, a3⟩ := h.store hn hi (p := ps.getD j z0) (h.one (by omega))
  have hn2 : (ps.set i (ps.getD j z0)).length = n := by simp [hn]
  obtain ⟨b1, b2, b3⟩ := a2.store hn2 hj (p := ps.getD i z0) (h.one (by omega))
  exact ⟨a1, a2.rd hn2, b1, ⟨_, a2.cell hn2 hj⟩, b2, grown_trans a3 b3⟩
theorem Seg.of_swr {a b k : Nat} {q q' : List Pr} (h : SwR z0 q q' a b k) (hp : q'.Perm q) (hab : a ≤ b) : Seg z0 a (b + k) q q' :=
  ⟨hp, fun i hi => by rw [h i, if_neg (by omega), if_neg (by omega)], fun i hi => by rw [h i, if_neg (by omega), if_neg (by omega)]⟩
set_option maxRecDepth 100000 in
theorem swapRange_any {w : World} {base : Nat} {A : Option Addr} {n c a b k : Nat} {ai bi ki : Int} {fv : Value} {ps : List Pr} (hD : Dat w base (.slice A n c) ps) (hn : ps.length = n) (hai : ai = (a : Int)) (hbi : bi = (b : Int)) (hki : ki = (k : Int)) (hab : a + k ≤ b) (hb : b + k ≤ n) (hm : n ≤ 1100000) :
    Ret Try.prog 111 [.slice A n c, .int .i64 ai, .int .i64 bi, .int .i64 ki, fv] w fun v w' => ∃ ps', Dat w' base (.slice A n c) ps' ∧ ps'.Perm ps ∧ SwR z0 ps ps' a b k ∧ w.grownBy w' (Value.slice A n c).ownBlock := by
  subst hai; subst hbi; subst hki
  refine enterR Try.func111 Try.ntmps111 rfl (by kernel_rfl) rfl ?_
  repeat first | refine ω1 ?_ | refine ω2 ?_ | refine ω3 ?_ | refine ω4 ?_ | refine ω5 ?_ | refine χ1 ?_ | refine κ1 ?_ | refine κ2 ?_ | refine χ2 ?_ | refine κ3 ?_ | refine ω6 ?_ | refine ω7 ?_ | refine ω9 ?_ | refine κ4 ?_ | refine κ7 ?_ | refine κ8 ?_ | refine χ3 ?_ | refine χ4 ?_ | refine κ5 ?_ | refine κ6 ?_ | refine χ5 ?_ | refine χ6 ?_ | refine χ7 ?_ | refine ω8 ?_
  refine wloop2 (fun (i : Nat) (q : List Pr) => [(0, .slice A n c), (1, .int .i64 (a : Int)), (2, .int .i64 (b : Int)), (3, .int .i64 (k : Int)), (10, .int .i64 ((i : Nat) : Int))])
    (fun i q w' => i ≤ k ∧ Dat w' base (.slice A n c) q ∧ q.Perm ps ∧ SwR z0 ps q a b i ∧ w.grownBy w' (Value.slice A n c).ownBlock) (fun i _ => k - i) 0 ps (by repeat' (first | exact Sub.nil | refine Sub.cons rfl ?_)) ⟨Nat.zero_le _, hD, List.Perm.refl _, SwR.start _ _ _, ext_grown (Ext.refl w) _⟩ ?_
  rintro i q w1 ⟨hik, hD1, hp1, hS, hg1⟩
  have hl1 : q.length = n := by rw [hp1.length_eq, hn]
  repeat first | refine ω1 ?_ | refine ω2 ?_ | refine ω3 ?_ | refine ω4 ?_ | refine ω5 ?_ | refine χ1 ?_ | refine κ1 ?_ | refine κ2 ?_ | refine χ2 ?_ | refine κ3 ?_ | refine ω6 ?_ | refine ω7 ?_ | refine ω9 ?_ | refine κ4 ?_ | refine κ7 ?_ | refine κ8 ?_ | refine χ3 ?_ | refine χ4 ?_ | refine κ5 ?_ | refine κ6 ?_ | refine χ5 ?_ | refine χ6 ?_ | refine χ7 ?_ | refine ω8 ?_
  refine ci (fun h => ?_) (fun h => ?_)
  · have hlt : i < k := by have := of_decide_eq_true h; omega
    repeat first | refine ω1 ?_ | refine ω2 ?_ | refine ω3 ?_ | refine ω4 ?_ | refine ω5 ?_ | refine χ1 ?_ | refine κ1 ?_ | refine κ2 ?_ | refine χ2 ?_ | refine κ3 ?_ | refine ω6 ?_ | refine ω7 ?_ | refine ω9 ?_ | refine κ4 ?_ | refine κ7 ?_ | refine κ8 ?_ | refine χ3 ?_ | refine χ4 ?_ | refine κ5 ?_ | refine κ6 ?_ | refine χ5 ?_ | refine χ6 ?_ | refine χ7 ?_ | refine ω8 ?_
    refine drC 4 [0, 1, 2, 3, 4, 5, 6, 7, 8, 9, 10, 11, 14, 15, 16, 17] [(0, 12), (0, 13), (0, 18), (0, 19), (0, 20), (2, 21), (2, 22), (2, 23)] (by kernel_rfl) ?_
    have hxd : Ext w1 w1.drew := (Ext.refl w1).drew
    have hD2 := hD1.ext hxd
    have hR := hD2.rd hl1
    have la : a + i < n := by omega
    have lb : b + i < n := by omega
    obtain ⟨s1, s2, s3, ⟨u, s4⟩, s5, s6⟩ := hD2.swap hl1 la lb
    repeat first | refine π1 ?_ | refine π2 ?_ | refine π4 ?_ | refine π5 ?_
    refine dix (b + i) hR lb ?_
    repeat first | refine δ1 ?_ | refine δ2 ?_ | refine δ4 ?_ | refine δ5 ?_ | refine δ6 ?_ | refine δ7 ?_ | refine δ9 ?_ | refine δ8 ?_ | refine χ1 ?_ | refine χ2 ?_ | refine χ3 ?_ | refine χ4 ?_ | refine χ5 ?_ | refine χ6 ?_ | refine χ7 ?_
    refine dld (hD2.cell hl1 lb) ?_
    repeat first | refine δ1 ?_ | refine δ2 ?_ | refine δ4 ?_ | refine δ5 ?_ | refine δ6 ?_ | refine δ7 ?_ | refine δ9 ?_ | refine δ8 ?_ | refine χ1 ?_ | refine χ2 ?_ | refine χ3 ?_ | refine χ4 ?_ | refine χ5 ?_ | refine χ6 ?_ | refine χ7 ?_
    refine dix (a + i) hR la ?_
    repeat first | refine δ1 ?_ | refine δ2 ?_ | refine δ4 ?_ | refine δ5 ?_ | refine δ6 ?_ | refine δ7 ?_ | refine δ9 ?_ | refine δ8 ?_ | refine χ1 ?_ | refine χ2 ?_ | refine χ3 ?_ | refine χ4 ?_ | refine χ5 ?_ | refine χ6 ?_ | refine χ7 ?_
    refine dld (hD2.cell hl1 la) ?_
    repeat first | refine δ1 ?_ | refine δ2 ?_ | refine δ4 ?_ | refine δ5 ?_ | refine δ6 ?_ | refine δ7 ?_ | refine δ9 ?_ | refine δ8 ?_ | refine χ1 ?_ | refine χ2 ?_ | refine χ3 ?_ | refine χ4 ?_ | refine χ5 ?_ | refine χ6 ?_ | refine χ7 ?_
    refine dix (a + i) hR la ?_
    repeat first | refine δ1 ?_ | refine δ2 ?_ | refine δ4 ?_ | refine δ5 ?_ | refine δ6 ?_ | refine δ7 ?_ | refine δ9 ?_ | refine δ8 ?_ | refine χ1 ?_ | refine χ2 ?_ | refine χ3 ?_ | refine χ4 ?_ | refine χ5 ?_ | refine χ6 ?_ | refine χ7 ?_
    refine dtail ?_
    refine sto (hD2.cell hl1 la) s1 ?_ (hv := hD2.one (hl1.symm ▸ lb))
    repeat first | refine ω1 ?_ | refine ω2 ?_ | refine ω3 ?_ | refine ω4 ?_ | refine ω5 ?_ | refine χ1 ?_ | refine κ1 ?_ | refine κ2 ?_ | refine χ2 ?_ | refine κ3 ?_ | refine ω6 ?_ | refine ω7 ?_ | refine ω9 ?_ | refine κ4 ?_ | refine κ7 ?_ | refine κ8 ?_ | refine χ3 ?_ | refine χ4 ?_ | refine κ5 ?_ | refine κ6 ?_ | refine χ5 ?_ | refine χ6 ?_ | refine χ7 ?_ | refine ω8 ?_
    refine dback ?_
    refine dtail ?_
    refine ix (b + i) s2 lb ?_
    repeat first | refine ω1 ?_ | refine ω2 ?_ | refine ω3 ?_ | refine ω4 ?_ | refine ω5 ?_ | refine χ1 ?_ | refine κ1 ?_ | refine κ2 ?_ | refine χ2 ?_ | refine κ3 ?_ | refine ω6 ?_ | refine ω7 ?_ | refine ω9 ?_ | refine κ4 ?_ | refine κ7 ?_ | refine κ8 ?_ | refine χ3 ?_ | refine χ4 ?_ | refine κ5 ?_ | refine κ6 ?_ | refine χ5 ?_ | refine χ6 ?_ | refine χ7 ?_ | refine ω8 ?_
    refine dback ?_
    refine dtail ?_
    refine sto s4 s3 ?_ (hv := hD2.one (hl1.symm ▸ la))
    repeat first | refine ω1 ?_ | refine ω2 ?_ | refine ω3 ?_ | refine ω4 ?_ | refine ω5 ?_ | refine χ1 ?_ | refine κ1 ?_ | refine κ2 ?_ | refine χ2 ?_ | refine κ3 ?_ | refine ω6 ?_ | refine ω7 ?_ | refine ω9 ?_ | refine κ4 ?_ | refine κ7 ?_ | refine κ8 ?_ | refine χ3 ?_ | refine χ4 ?_ | refine κ5 ?_ | refine κ6 ?_ | refine χ5 ?_ | refine χ6 ?_ | refine χ7 ?_ | refine ω8 ?_
    refine qround2 (i + 1) (swp z0 q (a + i) (b + i)) (by repeat' (first | exact Sub.nil | refine Sub.cons (by first | rfl | (refine congrArg (fun z => some (Value.int .i64 z)) ?_; omega)) ?_)) ⟨by omega, s5, (swp_perm z0 q (by omega) (by omega)).trans hp1, hS.step hlt hab (by omega), grown_trans hg1 (grown_trans (ext_grown hxd _) s6)⟩ (by omega)
  · have hik2 : i = k := by have := of_decide_eq_false h; omega
    subst hik2
    repeat first | refine ω1 ?_ | refine ω2 ?_ | refine ω3 ?_ | refine ω4 ?_ | refine ω5 ?_ | refine χ1 ?_ | refine κ1 ?_ | refine κ2 ?_ | refine χ2 ?_ | refine κ3 ?_ | refine ω6 ?_ | refine ω7 ?_ | refine ω9 ?_ | refine κ4 ?_ | refine κ7 ?_ | refine κ8 ?_ | refine χ3 ?_ | refine χ4 ?_ | refine κ5 ?_ | refine κ6 ?_ | refine χ5 ?_ | refine χ6 ?_ | refine χ7 ?_ | refine ω8 ?_
    exact finE ⟨q, hD1, hp1, hS, hg1⟩
end Go.Proofs.Ytpahjnfolbnloaa
