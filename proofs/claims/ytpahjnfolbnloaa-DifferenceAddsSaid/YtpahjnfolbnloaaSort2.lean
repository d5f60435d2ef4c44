/- The sorting functions of package slices, at rows: rotate, insertionSort. -/
import Derived.Test.YtpahjnfolbnloaaSort
set_option linter.unusedVariables false
namespace Go.Proofs.Ytpahjnfolbnloaa
open Go.RowKit Pl Go.Wk
attribute [local irreducible] WC WL QX WD WDB WP
/-- the order of the pairs -/
def fP (ds : List Bool) (p q : Pr) : Int := cmpR p.2 q.2 ds
theorem preP (ds : List Bool) : PreC (fP ds) := (cmp_R ds).pre (β := Pr) (fun p => p.2)
/-- a comparing function value, while the row of memory may change -/
def CmpF (w : World) (row : Option Nat) (fv : Value) (M : List Pr) (ds : List Bool) : Prop := ∃ fid first cap, fv = .func (.func fid) first cap ∧
  ∀ w', w.grownBy w' row → ∀ p q, p ∈ M → q ∈ M → Ret Try.prog fid (first.toList ++ [p.1, q.1] ++ cap.toList) w' fun r w'' => r = .int .i64 (fP ds p q) ∧ Ext w' w''
theorem CmpF.step {w w1 : World} {row : Option Nat} {fv : Value} {M M' : List Pr} {ds : List Bool} (h : CmpF w row fv M ds) (hg : w.grownBy w1 row) (hp : M'.Perm M) : CmpF w1 row fv M' ds := by
  obtain ⟨fid, first, cap, h1, h2⟩ := h
  exact ⟨fid, first, cap, h1, fun w' hg' p q hpM hqM => h2 w' (grown_trans hg hg') p q (hp.mem_iff.1 hpM) (hp.mem_iff.1 hqM)⟩
set_option maxRecDepth 100000 in
theorem rotate_any {w : World} {base : Nat} {A : Option Addr} {n c s m e : Nat} {si mi ei : Int} {fv : Value} {ps : List Pr} (hD : Dat w base (.slice A n c) ps) (hn : ps.length = n) (hsi : si = (s : Int)) (hmi : mi = (m : Int)) (hei : ei = (e : Int)) (hsm : s < m) (hme : m < e) (hen : e ≤ n) (hmx : n ≤ 1100000) :
    Ret Try.prog 108 [.slice A n c, .int .i64 si, .int .i64 mi, .int .i64 ei, fv] w fun v w' => ∃ ps', Dat w' base (.slice A n c) ps' ∧ ps'.Perm ps ∧ (∀ k, ps'.getD k z0 = rotf z0 ps s m e k) ∧ w.grownBy w' (Value.slice A n c).ownBlock := by
  subst hsi; subst hmi; subst hei
  refine enterR Try.func108 Try.ntmps108 rfl (by kernel_rfl) rfl ?_
  repeat first | refine ω1 ?_ | refine ω2 ?_ | refine ω3 ?_ | refine ω4 ?_ | refine ω5 ?_ | refine χ1 ?_ | refine κ1 ?_ | refine κ2 ?_ | refine χ2 ?_ | refine κ3 ?_ | refine ω6 ?_ | refine ω7 ?_ | refine ω9 ?_ | refine κ4 ?_ | refine κ7 ?_ | refine κ8 ?_ | refine χ3 ?_ | refine χ4 ?_ | refine κ5 ?_ | refine κ6 ?_ | refine χ5 ?_ | refine χ6 ?_ | refine χ7 ?_ | refine ω8 ?_
  refine wloop3 (fun (i j : Nat) (q : List Pr) => [(0, .slice A n c), (1, .int .i64 (s : Int)), (2, .int .i64 (m : Int)), (3, .int .i64 (e : Int)), (4, fv), (10, .int .i64 ((i : Nat) : Int)), (11, .int .i64 ((j : Nat) : Int))])
    (fun i j q w' => RotI z0 ps q s m e i j ∧ Dat w' base (.slice A n c) q ∧ q.Perm ps ∧ w.grownBy w' (Value.slice A n c).ownBlock) (fun i j _ => i + j) (m - s) (e - m) ps (by repeat' (first | exact Sub.nil | refine Sub.cons (by first | rfl | (refine congrArg (fun z => some (Value.int .i64 z)) ?_; omega)) ?_)) ⟨RotI.start ps hsm hme, hD, List.Perm.refl _, ext_grown (Ext.refl w) _⟩ ?_
  rintro i j q w1 ⟨hI, hD1, hp1, hg1⟩
  have hl1 : q.length = n := by rw [hp1.length_eq, hn]
  obtain ⟨h1, h2, h3, h4, h5, _⟩ := id hI
  repeat first | refine ω1 ?_ | refine ω2 ?_ | refine ω3 ?_ | refine ω4 ?_ | refine ω5 ?_ | refine χ1 ?_ | refine κ1 ?_ | refine κ2 ?_ | refine χ2 ?_ | refine κ3 ?_ | refine ω6 ?_ | refine ω7 ?_ | refine ω9 ?_ | refine κ4 ?_ | refine κ7 ?_ | refine κ8 ?_ | refine χ3 ?_ | refine χ4 ?_ | refine κ5 ?_ | refine κ6 ?_ | refine χ5 ?_ | refine χ6 ?_ | refine χ7 ?_ | refine ω8 ?_
  refine ci (fun h => ?_) (fun h => ?_)
  · have hne : i ≠ j := by have := of_bne_t h; omega
    repeat first | refine ω1 ?_ | refine ω2 ?_ | refine ω3 ?_ | refine ω4 ?_ | refine ω5 ?_ | refine χ1 ?_ | refine κ1 ?_ | refine κ2 ?_ | refine χ2 ?_ | refine κ3 ?_ | refine ω6 ?_ | refine ω7 ?_ | refine ω9 ?_ | refine κ4 ?_ | refine κ7 ?_ | refine κ8 ?_ | refine χ3 ?_ | refine χ4 ?_ | refine κ5 ?_ | refine κ6 ?_ | refine χ5 ?_ | refine χ6 ?_ | refine χ7 ?_ | refine ω8 ?_
    refine ci (fun h => ?_) (fun h => ?_)
    · have hlt : j < i := by have := of_decide_eq_true h; omega
      repeat first | refine ω1 ?_ | refine ω2 ?_ | refine ω3 ?_ | refine ω4 ?_ | refine ω5 ?_ | refine χ1 ?_ | refine κ1 ?_ | refine κ2 ?_ | refine χ2 ?_ | refine κ3 ?_ | refine ω6 ?_ | refine ω7 ?_ | refine ω9 ?_ | refine κ4 ?_ | refine κ7 ?_ | refine κ8 ?_ | refine χ3 ?_ | refine χ4 ?_ | refine κ5 ?_ | refine κ6 ?_ | refine χ5 ?_ | refine χ6 ?_ | refine χ7 ?_ | refine ω8 ?_
      refine cl (swapRange_any (a := m - i) (b := m) (k := j) (ai := (m : Int) - (i : Int)) (bi := (m : Int)) (ki := (j : Int)) hD1 hl1 (by omega) rfl rfl (by omega) (by omega) hmx) ?_
      rintro v w2 ⟨q2, hD2, hp2, hS2, hg2⟩
      repeat first | refine ω1 ?_ | refine ω2 ?_ | refine ω3 ?_ | refine ω4 ?_ | refine ω5 ?_ | refine χ1 ?_ | refine κ1 ?_ | refine κ2 ?_ | refine χ2 ?_ | refine κ3 ?_ | refine ω6 ?_ | refine ω7 ?_ | refine ω9 ?_ | refine κ4 ?_ | refine κ7 ?_ | refine κ8 ?_ | refine χ3 ?_ | refine χ4 ?_ | refine κ5 ?_ | refine κ6 ?_ | refine χ5 ?_ | refine χ6 ?_ | refine χ7 ?_ | refine ω8 ?_
      exact qround3 (i - j) j q2 (by repeat' (first | exact Sub.nil | refine Sub.cons (by first | rfl | (refine congrArg (fun z => some (Value.int .i64 z)) ?_; omega)) ?_)) ⟨hI.left hlt hS2, hD2, hp2.trans hp1, grown_trans hg1 hg2⟩ (by omega)
    · have hlt : i < j := by have := of_decide_eq_false h; omega
      repeat first | refine ω1 ?_ | refine ω2 ?_ | refine ω3 ?_ | refine ω4 ?_ | refine ω5 ?_ | refine χ1 ?_ | refine κ1 ?_ | refine κ2 ?_ | refine χ2 ?_ | refine κ3 ?_ | refine ω6 ?_ | refine ω7 ?_ | refine ω9 ?_ | refine κ4 ?_ | refine κ7 ?_ | refine κ8 ?_ | refine χ3 ?_ | refine χ4 ?_ | refine κ5 ?_ | refine κ6 ?_ | refine χ5 ?_ | refine χ6 ?_ | refine χ7 ?_ | refine ω8 ?_
      refine cl (swapRange_any (a := m - i) (b := m + j - i) (k := i) (ai := (m : Int) - (i : Int)) (bi := (m : Int) + (j : Int) - (i : Int)) (ki := (i : Int)) hD1 hl1 (by omega) (by omega) rfl (by omega) (by omega) hmx) ?_
      rintro v w2 ⟨q2, hD2, hp2, hS2, hg2⟩
      repeat first | refine ω1 ?_ | refine ω2 ?_ | refine ω3 ?_ | refine ω4 ?_ | refine ω5 ?_ | refine χ1 ?_ | refine κ1 ?_ | refine κ2 ?_ | refine χ2 ?_ | refine κ3 ?_ | refine ω6 ?_ | refine ω7 ?_ | refine ω9 ?_ | refine κ4 ?_ | refine κ7 ?_ | refine κ8 ?_ | refine χ3 ?_ | refine χ4 ?_ | refine κ5 ?_ | refine κ6 ?_ | refine χ5 ?_ | refine χ6 ?_ | refine χ7 ?_ | refine ω8 ?_
      exact qround3 i (j - i) q2 (by repeat' (first | exact Sub.nil | refine Sub.cons (by first | rfl | (refine congrArg (fun z => some (Value.int .i64 z)) ?_; omega)) ?_)) ⟨hI.right hlt hS2, hD2, hp2.trans hp1, grown_trans hg1 hg2⟩ (by omega)
  · have he : i = j := by have := of_bne_f h; omega
    subst he
    repeat first | refine ω1 ?_ | refine ω2 ?_ | refine ω3 ?_ | refine ω4 ?_ | refine ω5 ?_ | refine χ1 ?_ | refine κ1 ?_ | refine κ2 ?_ | refine χ2 ?_ | refine κ3 ?_ | refine ω6 ?_ | refine ω7 ?_ | refine ω9 ?_ | refine κ4 ?_ | refine κ7 ?_ | refine κ8 ?_ | refine χ3 ?_ | refine χ4 ?_ | refine κ5 ?_ | refine κ6 ?_ | refine χ5 ?_ | refine χ6 ?_ | refine χ7 ?_ | refine ω8 ?_
    refine cl (swapRange_any (a := m - i) (b := m) (k := i) (ai := (m : Int) - (i : Int)) (bi := (m : Int)) (ki := (i : Int)) hD1 hl1 (by omega) rfl rfl (by omega) (by omega) hmx) ?_
    rintro v w2 ⟨q2, hD2, hp2, hS2, hg2⟩
    repeat first | refine ω1 ?_ | refine ω2 ?_ | refine ω3 ?_ | refine ω4 ?_ | refine ω5 ?_ | refine χ1 ?_ | refine κ1 ?_ | refine κ2 ?_ | refine χ2 ?_ | refine κ3 ?_ | refine ω6 ?_ | refine ω7 ?_ | refine ω9 ?_ | refine κ4 ?_ | refine κ7 ?_ | refine κ8 ?_ | refine χ3 ?_ | refine χ4 ?_ | refine κ5 ?_ | refine κ6 ?_ | refine χ5 ?_ | refine χ6 ?_ | refine χ7 ?_ | refine ω8 ?_
    exact finE ⟨q2, hD2, hp2.trans hp1, hI.done hS2, grown_trans hg1 hg2⟩
set_option maxRecDepth 100000 in
theorem insertion_any {w : World} {base : Nat} {A : Option Addr} {n c a b : Nat} {ai bi : Int} {fv : Value} {ps : List Pr} {ds : List Bool} (hD : Dat w base (.slice A n c) ps) (hn : ps.length = n) (hai : ai = (a : Int)) (hbi : bi = (b : Int)) (hb : b ≤ n) (ha : a ≤ n) (hmx : n ≤ 1100000) (hC : CmpF w (Value.slice A n c).ownBlock fv ps ds) :
    Ret Try.prog 98 [.slice A n c, .int .i64 ai, .int .i64 bi, fv] w fun v w' => ∃ ps', Dat w' base (.slice A n c) ps' ∧ Seg z0 a b ps ps' ∧ SOn z0 (fP ds) ps' a b ∧ w.grownBy w' (Value.slice A n c).ownBlock := by
  subst hai; subst hbi
  obtain ⟨fid, first, cap, rfl, hC⟩ := hC
  refine enterR Try.func98 Try.ntmps98 rfl (by kernel_rfl) rfl ?_
  repeat first | refine ω1 ?_ | refine ω2 ?_ | refine ω3 ?_ | refine ω4 ?_ | refine ω5 ?_ | refine χ1 ?_ | refine κ1 ?_ | refine κ2 ?_ | refine χ2 ?_ | refine κ3 ?_ | refine ω6 ?_ | refine ω7 ?_ | refine ω9 ?_ | refine κ4 ?_ | refine κ7 ?_ | refine κ8 ?_ | refine χ3 ?_ | refine χ4 ?_ | refine κ5 ?_ | refine κ6 ?_ | refine χ5 ?_ | refine χ6 ?_ | refine χ7 ?_ | refine ω8 ?_
  refine wloop2 (fun (i : Nat) (q : List Pr) => [(0, .slice A n c), (1, .int .i64 (a : Int)), (2, .int .i64 (b : Int)), (3, .func (.func fid) first cap), (8, .int .i64 ((i : Nat) : Int))])
    (fun i q w' => a + 1 ≤ i ∧ (i ≤ b ∨ i = a + 1) ∧ Seg z0 a b ps q ∧ SOn z0 (fP ds) q a i ∧ Dat w' base (.slice A n c) q ∧ w.grownBy w' (Value.slice A n c).ownBlock) (fun i _ => b + 1 - i) (a + 1) ps (by repeat' (first | exact Sub.nil | refine Sub.cons (by first | rfl | (refine congrArg (fun z => some (Value.int .i64 z)) ?_; omega)) ?_))
    ⟨Nat.le_refl _, .inr rfl, Seg.refl _ _ _, SOn.one _ (by omega), hD, ext_grown (Ext.refl w) _⟩ ?_
  rintro i q w1 ⟨hai, hib, hS1, hO1, hD1, hg1⟩
  repeat first | refine ω1 ?_ | refine ω2 ?_ | refine ω3 ?_ | refine ω4 ?_ | refine ω5 ?_ | refine χ1 ?_ | refine κ1 ?_ | refine κ2 ?_ | refine χ2 ?_ | refine κ3 ?_ | refine ω6 ?_ | refine ω7 ?_ | refine ω9 ?_ | refine κ4 ?_ | refine κ7 ?_ | refine κ8 ?_ | refine χ3 ?_ | refine χ4 ?_ | refine κ5 ?_ | refine κ6 ?_ | refine χ5 ?_ | refine χ6 ?_ | refine χ7 ?_ | refine ω8 ?_
  refine ci (fun h => ?_) (fun h => ?_)
  · have hlt : i < b := by have := of_decide_eq_true h; omega
    repeat first | refine ω1 ?_ | refine ω2 ?_ | refine ω3 ?_ | refine ω4 ?_ | refine ω5 ?_ | refine χ1 ?_ | refine κ1 ?_ | refine κ2 ?_ | refine χ2 ?_ | refine κ3 ?_ | refine ω6 ?_ | refine ω7 ?_ | refine ω9 ?_ | refine κ4 ?_ | refine κ7 ?_ | refine κ8 ?_ | refine χ3 ?_ | refine χ4 ?_ | refine κ5 ?_ | refine κ6 ?_ | refine χ5 ?_ | refine χ6 ?_ | refine χ7 ?_ | refine ω8 ?_
    refine wloop2 (fun (j : Nat) (q : List Pr) => [(0, .slice A n c), (1, .int .i64 (a : Int)), (2, .int .i64 (b : Int)), (3, .func (.func fid) first cap), (8, .int .i64 ((i : Nat) : Int)), (9, .int .i64 ((j : Nat) : Int))])
      (fun j q w' => InsI z0 (fP ds) q a i j ∧ Seg z0 a b ps q ∧ Dat w' base (.slice A n c) q ∧ w.grownBy w' (Value.slice A n c).ownBlock) (fun j _ => j) i q (by repeat' (first | exact Sub.nil | refine Sub.cons rfl ?_)) ⟨InsI.start hO1 (by omega), hS1, hD1, hg1⟩ ?_
    rintro j q w2 ⟨hI, hS2, hD2, hg2⟩
    have hl2 : q.length = n := by rw [hS2.len, hn]
    obtain ⟨h1, h2, _, _⟩ := id hI
    repeat first | refine ω1 ?_ | refine ω2 ?_ | refine ω3 ?_ | refine ω4 ?_ | refine ω5 ?_ | refine χ1 ?_ | refine κ1 ?_ | refine κ2 ?_ | refine χ2 ?_ | refine κ3 ?_ | refine ω6 ?_ | refine ω7 ?_ | refine ω9 ?_ | refine κ4 ?_ | refine κ7 ?_ | refine κ8 ?_ | refine χ3 ?_ | refine χ4 ?_ | refine κ5 ?_ | refine κ6 ?_ | refine χ5 ?_ | refine χ6 ?_ | refine χ7 ?_ | refine ω8 ?_
    refine dr [(0, 0), (0, 1), (0, 2), (0, 3), (0, 4), (0, 5), (0, 6), (0, 7), (0, 8), (0, 9), (0, 10), (0, 11), (0, 12), (0, 13), (1, 14), (0, 15), (0, 16)] (by kernel_rfl) ?_
    have hxd : Ext w2 w2.drew := (Ext.refl w2).drew
    have hD3 := hD2.ext hxd
    have hg3 := grown_trans hg2 (ext_grown hxd _)
    repeat first | refine δ1 ?_ | refine δ2 ?_ | refine δ4 ?_ | refine δ5 ?_ | refine δ6 ?_ | refine δ7 ?_ | refine δ9 ?_ | refine δ8 ?_ | refine χ1 ?_ | refine χ2 ?_ | refine χ3 ?_ | refine χ4 ?_ | refine χ5 ?_ | refine χ6 ?_ | refine χ7 ?_
    refine dki 21 (fun h => ?_) (fun h => ?_)
    · have hj : a < j := by have := of_decide_eq_true h; omega
      have lj : j < n := by omega
      have lj1 : j - 1 < n := by omega
      repeat first | refine δ1 ?_ | refine δ2 ?_ | refine δ4 ?_ | refine δ5 ?_ | refine δ6 ?_ | refine δ7 ?_ | refine δ9 ?_ | refine δ8 ?_ | refine χ1 ?_ | refine χ2 ?_ | refine χ3 ?_ | refine χ4 ?_ | refine χ5 ?_ | refine χ6 ?_ | refine χ7 ?_
      refine dix j (hD3.rd hl2) lj ?_
      repeat first | refine δ1 ?_ | refine δ2 ?_ | refine δ4 ?_ | refine δ5 ?_ | refine δ6 ?_ | refine δ7 ?_ | refine δ9 ?_ | refine δ8 ?_ | refine χ1 ?_ | refine χ2 ?_ | refine χ3 ?_ | refine χ4 ?_ | refine χ5 ?_ | refine χ6 ?_ | refine χ7 ?_
      refine dld (hD3.cell hl2 lj) ?_
      repeat first | refine δ1 ?_ | refine δ2 ?_ | refine δ4 ?_ | refine δ5 ?_ | refine δ6 ?_ | refine δ7 ?_ | refine δ9 ?_ | refine δ8 ?_ | refine χ1 ?_ | refine χ2 ?_ | refine χ3 ?_ | refine χ4 ?_ | refine χ5 ?_ | refine χ6 ?_ | refine χ7 ?_
      refine dix (j - 1) (hD3.rd hl2) lj1 ?_
      repeat first | refine δ1 ?_ | refine δ2 ?_ | refine δ4 ?_ | refine δ5 ?_ | refine δ6 ?_ | refine δ7 ?_ | refine δ9 ?_ | refine δ8 ?_ | refine χ1 ?_ | refine χ2 ?_ | refine χ3 ?_ | refine χ4 ?_ | refine χ5 ?_ | refine χ6 ?_ | refine χ7 ?_
      refine dld (hD3.cell hl2 lj1) ?_
      repeat first | refine δ1 ?_ | refine δ2 ?_ | refine δ4 ?_ | refine δ5 ?_ | refine δ6 ?_ | refine δ7 ?_ | refine δ9 ?_ | refine δ8 ?_ | refine χ1 ?_ | refine χ2 ?_ | refine χ3 ?_ | refine χ4 ?_ | refine χ5 ?_ | refine χ6 ?_ | refine χ7 ?_
      refine dclv (hC _ hg3 (q.getD j z0) (q.getD (j - 1) z0) (hS2.perm.mem_iff.1 (getD_mem' z0 q (by omega))) (hS2.perm.mem_iff.1 (getD_mem' z0 q (by omega)))) ?_
      rintro r w4 ⟨rfl, hx4⟩
      refine ⟨hx4, ?_⟩
      have hD4 := hD3.ext hx4
      have hg4 := grown_trans hg3 (ext_grown hx4 _)
      repeat first | refine δ1 ?_ | refine δ2 ?_ | refine δ4 ?_ | refine δ5 ?_ | refine δ6 ?_ | refine δ7 ?_ | refine δ9 ?_ | refine δ8 ?_ | refine χ1 ?_ | refine χ2 ?_ | refine χ3 ?_ | refine χ4 ?_ | refine χ5 ?_ | refine χ6 ?_ | refine χ7 ?_
      repeat first | refine ω1 ?_ | refine ω2 ?_ | refine ω3 ?_ | refine ω4 ?_ | refine ω5 ?_ | refine χ1 ?_ | refine κ1 ?_ | refine κ2 ?_ | refine χ2 ?_ | refine κ3 ?_ | refine ω6 ?_ | refine ω7 ?_ | refine ω9 ?_ | refine κ4 ?_ | refine κ7 ?_ | refine κ8 ?_ | refine χ3 ?_ | refine χ4 ?_ | refine κ5 ?_ | refine κ6 ?_ | refine χ5 ?_ | refine χ6 ?_ | refine χ7 ?_ | refine ω8 ?_
      refine ci (fun h => ?_) (fun h => ?_)
      · have hneg := of_decide_eq_true h
        repeat first | refine ω1 ?_ | refine ω2 ?_ | refine ω3 ?_ | refine ω4 ?_ | refine ω5 ?_ | refine χ1 ?_ | refine κ1 ?_ | refine κ2 ?_ | refine χ2 ?_ | refine κ3 ?_ | refine ω6 ?_ | refine ω7 ?_ | refine ω9 ?_ | refine κ4 ?_ | refine κ7 ?_ | refine κ8 ?_ | refine χ3 ?_ | refine χ4 ?_ | refine κ5 ?_ | refine κ6 ?_ | refine χ5 ?_ | refine χ6 ?_ | refine χ7 ?_ | refine ω8 ?_
        refine drC 4 [0, 1, 2, 3, 4, 5, 6, 7, 10, 11] [(0, 8), (0, 9), (0, 12), (0, 13), (0, 14), (2, 15), (2, 16), (2, 17)] (by kernel_rfl) ?_
        have hxe : Ext w4 w4.drew := (Ext.refl w4).drew
        have hD5 := hD4.ext hxe
        obtain ⟨s1, s2, s3, ⟨u, s4⟩, s5, s6⟩ := hD5.swap hl2 lj lj1
        repeat first | refine π1 ?_ | refine π2 ?_ | refine π4 ?_ | refine π5 ?_
        refine dix (j - 1) (hD5.rd hl2) lj1 ?_
        repeat first | refine δ1 ?_ | refine δ2 ?_ | refine δ4 ?_ | refine δ5 ?_ | refine δ6 ?_ | refine δ7 ?_ | refine δ9 ?_ | refine δ8 ?_ | refine χ1 ?_ | refine χ2 ?_ | refine χ3 ?_ | refine χ4 ?_ | refine χ5 ?_ | refine χ6 ?_ | refine χ7 ?_
        refine dld (hD5.cell hl2 lj1) ?_
        repeat first | refine δ1 ?_ | refine δ2 ?_ | refine δ4 ?_ | refine δ5 ?_ | refine δ6 ?_ | refine δ7 ?_ | refine δ9 ?_ | refine δ8 ?_ | refine χ1 ?_ | refine χ2 ?_ | refine χ3 ?_ | refine χ4 ?_ | refine χ5 ?_ | refine χ6 ?_ | refine χ7 ?_
        refine dix j (hD5.rd hl2) lj ?_
        repeat first | refine δ1 ?_ | refine δ2 ?_ | refine δ4 ?_ | refine δ5 ?_ | refine δ6 ?_ | refine δ7 ?_ | refine δ9 ?_ | refine δ8 ?_ | refine χ1 ?_ | refine χ2 ?_ | refine χ3 ?_ | refine χ4 ?_ | refine χ5 ?_ | refine χ6 ?_ | refine χ7 ?_
        refine dld (hD5.cell hl2 lj) ?_
        repeat first | refine δ1 ?_ | refine δ2 ?_ | refine δ4 ?_ | refine δ5 ?_ | refine δ6 ?_ | refine δ7 ?_ | refine δ9 ?_ | refine δ8 ?_ | refine χ1 ?_ | refine χ2 ?_ | refine χ3 ?_ | refine χ4 ?_ | refine χ5 ?_ | refine χ6 ?_ | refine χ7 ?_
        refine dix j (hD5.rd hl2) lj ?_
        repeat first | refine δ1 ?_ | refine δ2 ?_ | refine δ4 ?_ | refine δ5 ?_ | refine δ6 ?_ | refine δ7 ?_ | refine δ9 ?_ | refine δ8 ?_ | refine χ1 ?_ | refine χ2 ?_ | refine χ3 ?_ | refine χ4 ?_ | refine χ5 ?_ | refine χ6 ?_ | refine χ7 ?_
        refine dtail ?_
        refine sto (hD5.cell hl2 lj) s1 ?_ (hv := hD5.one (hl2.symm ▸ lj1))
        repeat first | refine ω1 ?_ | refine ω2 ?_ | refine ω3 ?_ | refine ω4 ?_ | refine ω5 ?_ | refine χ1 ?_ | refine κ1 ?_ | refine κ2 ?_ | refine χ2 ?_ | refine κ3 ?_ | refine ω6 ?_ | refine ω7 ?_ | refine ω9 ?_ | refine κ4 ?_ | refine κ7 ?_ | refine κ8 ?_ | refine χ3 ?_ | refine χ4 ?_ | refine κ5 ?_ | refine κ6 ?_ | refine χ5 ?_ | refine χ6 ?_ | refine χ7 ?_ | refine ω8 ?_
        refine dback ?_
        refine dtail ?_
        refine ix (j - 1) s2 lj1 ?_
        repeat first | refine ω1 ?_ | refine ω2 ?_ | refine ω3 ?_ | refine ω4 ?_ | refine ω5 ?_ | refine χ1 ?_ | refine κ1 ?_ | refine κ2 ?_ | refine χ2 ?_ | refine κ3 ?_ | refine ω6 ?_ | refine ω7 ?_ | refine ω9 ?_ | refine κ4 ?_ | refine κ7 ?_ | refine κ8 ?_ | refine χ3 ?_ | refine χ4 ?_ | refine κ5 ?_ | refine κ6 ?_ | refine χ5 ?_ | refine χ6 ?_ | refine χ7 ?_ | refine ω8 ?_
        refine dback ?_
        refine dtail ?_
        refine sto s4 s3 ?_ (hv := hD5.one (hl2.symm ▸ lj))
        repeat first | refine ω1 ?_ | refine ω2 ?_ | refine ω3 ?_ | refine ω4 ?_ | refine ω5 ?_ | refine χ1 ?_ | refine κ1 ?_ | refine κ2 ?_ | refine χ2 ?_ | refine κ3 ?_ | refine ω6 ?_ | refine ω7 ?_ | refine ω9 ?_ | refine κ4 ?_ | refine κ7 ?_ | refine κ8 ?_ | refine χ3 ?_ | refine χ4 ?_ | refine κ5 ?_ | refine κ6 ?_ | refine χ5 ?_ | refine χ6 ?_ | refine χ7 ?_ | refine ω8 ?_
        exact qround2 (j - 1) (swp z0 q j (j - 1)) (by repeat' (first | exact Sub.nil | refine Sub.cons (by first | rfl | (refine congrArg (fun z => some (Value.int .i64 z)) ?_; omega)) ?_)) ⟨hI.step hj (by omega) hneg, hS2.trans (Seg.swp (by omega) (by omega) (by omega) (by omega) (by omega)), s5, grown_trans hg4 (grown_trans (ext_grown hxe _) s6)⟩ (by omega)
      · have hneg := of_decide_eq_false h
        repeat first | refine ω1 ?_ | refine ω2 ?_ | refine ω3 ?_ | refine ω4 ?_ | refine ω5 ?_ | refine χ1 ?_ | refine κ1 ?_ | refine κ2 ?_ | refine χ2 ?_ | refine κ3 ?_ | refine ω6 ?_ | refine ω7 ?_ | refine ω9 ?_ | refine κ4 ?_ | refine κ7 ?_ | refine κ8 ?_ | refine χ3 ?_ | refine χ4 ?_ | refine κ5 ?_ | refine κ6 ?_ | refine χ5 ?_ | refine χ6 ?_ | refine χ7 ?_ | refine ω8 ?_
        exact qround2 (i + 1) q (by repeat' (first | exact Sub.nil | refine Sub.cons rfl ?_)) ⟨by omega, by omega, hS2, hI.done (preP ds) hj hneg, hD4, hg4⟩ (by omega)
    · have hj : j = a := by have := of_decide_eq_false h; omega
      subst hj
      repeat first | refine δ1 ?_ | refine δ2 ?_ | refine δ4 ?_ | refine δ5 ?_ | refine δ6 ?_ | refine δ7 ?_ | refine δ9 ?_ | refine δ8 ?_ | refine χ1 ?_ | refine χ2 ?_ | refine χ3 ?_ | refine χ4 ?_ | refine χ5 ?_ | refine χ6 ?_ | refine χ7 ?_
      repeat first | refine ω1 ?_ | refine ω2 ?_ | refine ω3 ?_ | refine ω4 ?_ | refine ω5 ?_ | refine χ1 ?_ | refine κ1 ?_ | refine κ2 ?_ | refine χ2 ?_ | refine κ3 ?_ | refine ω6 ?_ | refine ω7 ?_ | refine ω9 ?_ | refine κ4 ?_ | refine κ7 ?_ | refine κ8 ?_ | refine χ3 ?_ | refine χ4 ?_ | refine κ5 ?_ | refine κ6 ?_ | refine χ5 ?_ | refine χ6 ?_ | refine χ7 ?_ | refine ω8 ?_
      exact qround2 (i + 1) q (by repeat' (first | exact Sub.nil | refine Sub.cons rfl ?_)) ⟨by omega, by omega, hS2, hI.done0, hD3, hg3⟩ (by omega)
  · repeat first | refine ω1 ?_ | refine ω2 ?_ | refine ω3 ?_ | refine ω4 ?_ | refine ω5 ?_ | refine χ1 ?_ | refine κ1 ?_ | refine κ2 ?_ | refine χ2 ?_ | refine κ3 ?_ | refine ω6 ?_ | refine ω7 ?_ | refine ω9 ?_ | refine κ4 ?_ | refine κ7 ?_ | refine κ8 ?_ | refine χ3 ?_ | refine χ4 ?_ | refine κ5 ?_ | refine κ6 ?_ | refine χ5 ?_ | refine χ6 ?_ | refine χ7 ?_ | refine ω8 ?_
    have hbi : b ≤ i := by have := of_decide_eq_false h; omega
    exact finE ⟨q, hD1, hS1, hO1.mono (Nat.le_refl _) hbi, hg1⟩
end Go.Proofs.Ytpahjnfolbnloaa
