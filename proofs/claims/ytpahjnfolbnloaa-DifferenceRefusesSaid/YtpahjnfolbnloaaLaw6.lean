/- The walk of the law DifferenceAdds. -/
import Derived.Test.YtpahjnfolbnloaaLaw5
import Derived.Test.YtpahjnfolbnloaaMak
set_option linter.unusedVariables false
namespace Go.Proofs.Ytpahjnfolbnloaa
open Go.RowKit Pl Go.Wk
attribute [local irreducible] WC WL QX WD WDB WP WG WH
/-- a new variable, in a region that draws -/
theorem dalc {P : Program} {n : Nat} {al : AL} {w : World} {Q : Exit → Act → World → Prop} {ops : Array Oper} {drest : List (Nat × Oper)} {d ty : Nat} {pos : String} {aft : Array Edge} {t : Nat} {z : Value} {cs : List Value} (hz : zeroOf P t = some z) (kk : ∀ w1 b, Ext w w1 → w.heap.size ≤ b → Blk w1 b t cs → WD P n ops Q drest ((d, .pointer (some ⟨b, 0, none⟩)) :: al) w1) (hv : z.cells = cs.toArray := by rfl) (hd : Nat.blt d n = true := by rfl) :
    WD P n ops Q ((1, ⟨some d, .alloc t, ty, pos, aft, none⟩) :: drest) al w :=
  done_ (alc hz (fun w1 b hx1 hb1 hk1 => wnil (eback hx1 (kk w1 b hx1 hb1 hk1))) hv hd)
/-- an array of rows whose memory begins at a block -/
def RowsAB (w : World) (B : Nat) (v : Value) (ds : List Bool) (m : List Row) : Prop := ∃ v1 A c, v = .agg #[v1, .slice A ds.length c] ∧ OwnR w B v1 m ∧ m.length ≤ 1100000 ∧ ds.length ≤ c ∧ ds.length ≤ 1100000 ∧ RdB w A ds ∧ ∀ ad, A = some ad → B ≤ ad.block
theorem RowsAB.ext {w w' : World} {B : Nat} {v : Value} {ds : List Bool} {m : List Row} (h : RowsAB w B v ds m) (hx : Ext w w') : RowsAB w' B v ds m := by
  obtain ⟨v1, A, c, h1, h2, h3, h4, h5, h6, h7⟩ := h; exact ⟨v1, A, c, h1, h2.ext hx, h3, h4, h5, h6.ext hx, h7⟩
theorem RowsAB.grown {w w' : World} {B g : Nat} {v : Value} {ds : List Bool} {m : List Row} (h : RowsAB w B v ds m) (hg : w.grownBy w' (some g)) (hb : g < B) : RowsAB w' B v ds m := by
  obtain ⟨v1, A, c, h1, h2, h3, h4, h5, h6, h7⟩ := h
  exact ⟨v1, A, c, h1, h2.grown hg hb, h3, h4, h5, Rd.grown h6 hg (fun ad e e2 => by have := h7 ad e; injection e2 with e2; omega), h7⟩
theorem RowsAB.a {w : World} {B : Nat} {v : Value} {ds : List Bool} {m : List Row} (h : RowsAB w B v ds m) : RowsA w v ds m := by
  obtain ⟨v1, A, c, h1, h2, h3, h4, h5, h6, h7⟩ := h
  exact ⟨v1, _, h1, h2.rows h3, A, c, rfl, h4, h5, h6⟩
set_option maxRecDepth 100000 in
theorem ofRowsB {v vd : Value} {ls : List Row} {ds : List Bool} {w : World} (h : RowsV w v ls) (hd : BoolsV w vd ds) :
    Ret Try.prog 14 [v, vd] w fun v' w' => (∃ m B, w.heap.size ≤ B ∧ RowsAB w' B v' ds m ∧ IsSet ds ls m ∧ m.length ≤ ls.length) ∧ Ext w w' := by
  refine enterR Try.func14 Try.ntmps14 rfl (by kernel_rfl) rfl ?_
  repeat first | refine ω1 ?_ | refine ω2 ?_ | refine ω3 ?_ | refine ω4 ?_ | refine ω5 ?_ | refine χ1 ?_ | refine κ1 ?_ | refine κ2 ?_ | refine χ2 ?_ | refine κ3 ?_ | refine ω6 ?_ | refine ω7 ?_ | refine ω9 ?_ | refine κ4 ?_ | refine κ7 ?_ | refine κ8 ?_ | refine χ3 ?_ | refine χ4 ?_ | refine κ5 ?_ | refine κ6 ?_ | refine χ5 ?_ | refine χ6 ?_ | refine χ7 ?_ | refine ω8 ?_
  refine alc (cs := [.slice none 0 0, .slice none 0 0]) zRows ?_
  intro w1 b hx1 hb1 hk1
  repeat first | refine ω1 ?_ | refine ω2 ?_ | refine ω3 ?_ | refine ω4 ?_ | refine ω5 ?_ | refine χ1 ?_ | refine κ1 ?_ | refine κ2 ?_ | refine χ2 ?_ | refine κ3 ?_ | refine ω6 ?_ | refine ω7 ?_ | refine ω9 ?_ | refine κ4 ?_ | refine κ7 ?_ | refine κ8 ?_ | refine χ3 ?_ | refine χ4 ?_ | refine κ5 ?_ | refine κ6 ?_ | refine χ5 ?_ | refine χ6 ?_ | refine χ7 ?_ | refine ω8 ?_
  refine cl (rowSort_any (h.ext hx1) (hd.ext hx1)) ?_
  rintro v2 w2 ⟨⟨ls', hr2, hp2, hs2⟩, hx2⟩
  repeat first | refine ω1 ?_ | refine ω2 ?_ | refine ω3 ?_ | refine ω4 ?_ | refine ω5 ?_ | refine χ1 ?_ | refine κ1 ?_ | refine κ2 ?_ | refine χ2 ?_ | refine κ3 ?_ | refine ω6 ?_ | refine ω7 ?_ | refine ω9 ?_ | refine κ4 ?_ | refine κ7 ?_ | refine κ8 ?_ | refine χ3 ?_ | refine χ4 ?_ | refine κ5 ?_ | refine κ6 ?_ | refine χ5 ?_ | refine χ6 ?_ | refine χ7 ?_ | refine ω8 ?_
  refine cl (dedup_any hr2) ?_
  rintro v3 w3 ⟨hr3, hx3⟩
  repeat first | refine ω1 ?_ | refine ω2 ?_ | refine ω3 ?_ | refine ω4 ?_ | refine ω5 ?_ | refine χ1 ?_ | refine κ1 ?_ | refine κ2 ?_ | refine χ2 ?_ | refine κ3 ?_ | refine ω6 ?_ | refine ω7 ?_ | refine ω9 ?_ | refine κ4 ?_ | refine κ7 ?_ | refine κ8 ?_ | refine χ3 ?_ | refine χ4 ?_ | refine κ5 ?_ | refine κ6 ?_ | refine χ5 ?_ | refine χ6 ?_ | refine χ7 ?_ | refine ω8 ?_
  obtain ⟨D, dc, rfl, hdc, hdm, hdr⟩ := id hd
  have hx13 := (hx1.trans hx2).trans hx3
  refine cl (cloneBoolF (hdr.ext hx13) (BoolsV.one ds) (by omega)) ?_
  rintro v4 w4 ⟨⟨D', c', rfl, hc', hd4, hD'⟩, hx4⟩
  obtain ⟨A3, c3, rfl⟩ := hr3.form
  repeat first | refine ω1 ?_ | refine ω2 ?_ | refine ω3 ?_ | refine ω4 ?_ | refine ω5 ?_ | refine χ1 ?_ | refine κ1 ?_ | refine κ2 ?_ | refine χ2 ?_ | refine κ3 ?_ | refine ω6 ?_ | refine ω7 ?_ | refine ω9 ?_ | refine κ4 ?_ | refine κ7 ?_ | refine κ8 ?_ | refine χ3 ?_ | refine χ4 ?_ | refine κ5 ?_ | refine κ6 ?_ | refine χ5 ?_ | refine χ6 ?_ | refine χ7 ?_ | refine ω8 ?_
  refine bld (bldRows _ _ _ _ _ _ _) ?_
  repeat first | refine ω1 ?_ | refine ω2 ?_ | refine ω3 ?_ | refine ω4 ?_ | refine ω5 ?_ | refine χ1 ?_ | refine κ1 ?_ | refine κ2 ?_ | refine χ2 ?_ | refine κ3 ?_ | refine ω6 ?_ | refine ω7 ?_ | refine ω9 ?_ | refine κ4 ?_ | refine κ7 ?_ | refine κ8 ?_ | refine χ3 ?_ | refine χ4 ?_ | refine κ5 ?_ | refine κ6 ?_ | refine χ5 ?_ | refine χ6 ?_ | refine χ7 ?_ | refine ω8 ?_
  refine stb (((hk1.ext hx2).ext hx3).ext hx4) (cs' := [.slice A3 (ddF ls').length c3, .slice D' ds.length c']) ?_ (fun u hu => by simp at hu; rcases hu with rfl | rfl <;> rfl)
  intro w5 hk5 hg5 hx5
  have hset := ddF_set hs2
  have hset' : IsSet ds ls (ddF ls') := ⟨hset.1, fun x => (hset.2 x).trans hp2.mem_iff⟩
  have hfin : Ext w w5 := hx5 w (hx13.trans hx4) hb1
  have hb2 : b < w2.heap.size := (hk1.ext hx2).lt
  have hlen : ls'.length ≤ 1100000 := by obtain ⟨_, _, _, _, h0, _⟩ := hr2.parts; exact h0
  have hr5 : OwnR w5 w2.heap.size (.slice A3 (ddF ls').length c3) (ddF ls') := (hr3.ext hx4).grown hg5 hb2
  repeat first | refine ω1 ?_ | refine ω2 ?_ | refine ω3 ?_ | refine ω4 ?_ | refine ω5 ?_ | refine χ1 ?_ | refine κ1 ?_ | refine κ2 ?_ | refine χ2 ?_ | refine κ3 ?_ | refine ω6 ?_ | refine ω7 ?_ | refine ω9 ?_ | refine κ4 ?_ | refine κ7 ?_ | refine κ8 ?_ | refine χ3 ?_ | refine χ4 ?_ | refine κ5 ?_ | refine κ6 ?_ | refine χ5 ?_ | refine χ6 ?_ | refine χ7 ?_ | refine ω8 ?_
  have hsz2 := (hx1.trans hx2).size
  have hsz3 := hx3.size
  refine finC1 hk5 ⟨⟨ddF ls', w2.heap.size, hsz2, ⟨_, D', c', rfl, hr5, by have := ddF_len ls'; omega, hc', hdm, ?_, fun ad e => Nat.le_trans hsz3 (hD' ad e)⟩, hset', ?_⟩, hfin⟩
  · refine Rd.grown hd4 hg5 (fun ad e e2 => ?_)
    have := hD' ad e
    injection e2 with e2
    omega
  · rw [← hp2.length_eq]; exact ddF_len ls'
theorem rowsA_cells {w : World} {v : Value} {ds : List Bool} {m : List Row} (h : RowsA w v ds m) : ∃ v1 v2, v = .agg #[v1, v2] ∧ (∀ u ∈ [v1, v2], u.oneCell' = true) := by
  obtain ⟨v1, v2, rfl, h1, h2⟩ := h
  obtain ⟨_, _, _, rfl⟩ := h1.slc
  obtain ⟨_, _, _, rfl⟩ := h2.slc
  exact ⟨_, _, rfl, fun u hu => by simp at hu; rcases hu with rfl | rfl <;> rfl⟩
set_option maxRecDepth 100000 in
set_option maxHeartbeats 2000000 in
theorem differenceAdds_any {v vd vl : Value} {a b l : List (UInt8 × UInt8)} {ds : List Bool} {w : World} (hS : SetsG w v a b) (hdG : BlsG w vd ds) (hPl : PairsG w vl l) :
    Ret Try.prog 9 [v, vd, vl] w fun x w' => x = .bool true ∧ Ext w w' := by
  obtain ⟨xa, xb, rfl, hPa, hPb⟩ := id hS
  obtain ⟨Aa, ca, rfl, _⟩ := id hPa
  obtain ⟨Ab, cb, rfl, _⟩ := id hPb
  obtain ⟨Al, cl', rfl, _⟩ := id hPl
  obtain ⟨Ad, cd, hvd, _⟩ := id hdG
  refine enterR Try.func9 Try.ntmps9 rfl (by kernel_rfl) rfl ?_
  repeat first | refine ω1 ?_ | refine ω2 ?_ | refine ω3 ?_ | refine ω4 ?_ | refine ω5 ?_ | refine χ1 ?_ | refine κ1 ?_ | refine κ2 ?_ | refine χ2 ?_ | refine κ3 ?_ | refine ω6 ?_ | refine ω7 ?_ | refine ω9 ?_ | refine κ4 ?_ | refine κ7 ?_ | refine κ8 ?_ | refine χ3 ?_ | refine χ4 ?_ | refine κ5 ?_ | refine κ6 ?_ | refine χ5 ?_ | refine χ6 ?_ | refine χ7 ?_ | refine ω8 ?_
  refine bx ?_
  intro w1 b1 hx1 hb1 hk1
  repeat first | refine ω1 ?_ | refine ω2 ?_ | refine ω3 ?_ | refine ω4 ?_ | refine ω5 ?_ | refine χ1 ?_ | refine κ1 ?_ | refine κ2 ?_ | refine χ2 ?_ | refine κ3 ?_ | refine ω6 ?_ | refine ω7 ?_ | refine ω9 ?_ | refine κ4 ?_ | refine κ7 ?_ | refine κ8 ?_ | refine χ3 ?_ | refine χ4 ?_ | refine κ5 ?_ | refine κ6 ?_ | refine χ5 ?_ | refine χ6 ?_ | refine χ7 ?_ | refine ω8 ?_
  refine lds (fun j u hu => hk1.at hu) ?_
  repeat first | refine ω1 ?_ | refine ω2 ?_ | refine ω3 ?_ | refine ω4 ?_ | refine ω5 ?_ | refine χ1 ?_ | refine κ1 ?_ | refine κ2 ?_ | refine χ2 ?_ | refine κ3 ?_ | refine ω6 ?_ | refine ω7 ?_ | refine ω9 ?_ | refine κ4 ?_ | refine κ7 ?_ | refine κ8 ?_ | refine χ3 ?_ | refine χ4 ?_ | refine κ5 ?_ | refine κ6 ?_ | refine χ5 ?_ | refine χ6 ?_ | refine χ7 ?_ | refine ω8 ?_
  refine cl (great47_any (hS.ext hx1) (hdG.ext hx1)) ?_
  rintro _ w3 ⟨rfl, hx3⟩
  have hx03 := hx1.trans hx3
  repeat first | refine ω1 ?_ | refine ω2 ?_ | refine ω3 ?_ | refine ω4 ?_ | refine ω5 ?_ | refine χ1 ?_ | refine κ1 ?_ | refine κ2 ?_ | refine χ2 ?_ | refine κ3 ?_ | refine ω6 ?_ | refine ω7 ?_ | refine ω9 ?_ | refine κ4 ?_ | refine κ7 ?_ | refine κ8 ?_ | refine χ3 ?_ | refine χ4 ?_ | refine κ5 ?_ | refine κ6 ?_ | refine χ5 ?_ | refine χ6 ?_ | refine χ7 ?_ | refine ω8 ?_
  refine wljoin1 (fun (t : Bool) => [(1, vd), (2, .slice Al l.length cl'), (3, .pointer (some ⟨b1, 0, none⟩)), (6, .bool false), (32, .bool t)])
    (fun t w' => w' = w3 ∧ t = (decide (40 < a.length) || decide (40 < b.length) || decide (10 < ds.length) || decide (20 < l.length))) ?_ ?_
  · refine ki 28 (fun h => ?_) (fun h => ?_)
    · repeat first | refine ω1 ?_ | refine ω2 ?_ | refine ω3 ?_ | refine ω4 ?_ | refine ω5 ?_ | refine χ1 ?_ | refine κ1 ?_ | refine κ2 ?_ | refine χ2 ?_ | refine κ3 ?_ | refine ω6 ?_ | refine ω7 ?_ | refine ω9 ?_ | refine κ4 ?_ | refine κ7 ?_ | refine κ8 ?_ | refine χ3 ?_ | refine χ4 ?_ | refine κ5 ?_ | refine κ6 ?_ | refine χ5 ?_ | refine χ6 ?_ | refine χ7 ?_ | refine ω8 ?_
      exact qjoin1 true (by repeat' (first | exact Sub.nil | refine Sub.cons rfl ?_)) ⟨rfl, by rw [h]; rfl⟩
    · repeat first | refine ω1 ?_ | refine ω2 ?_ | refine ω3 ?_ | refine ω4 ?_ | refine ω5 ?_ | refine χ1 ?_ | refine κ1 ?_ | refine κ2 ?_ | refine χ2 ?_ | refine κ3 ?_ | refine ω6 ?_ | refine ω7 ?_ | refine ω9 ?_ | refine κ4 ?_ | refine κ7 ?_ | refine κ8 ?_ | refine χ3 ?_ | refine χ4 ?_ | refine κ5 ?_ | refine κ6 ?_ | refine χ5 ?_ | refine χ6 ?_ | refine χ7 ?_ | refine ω8 ?_
      refine qjoin1 _ (by repeat' (first | exact Sub.nil | refine Sub.cons rfl ?_)) ⟨rfl, ?_⟩
      rw [h, Bool.false_or, Bool.eq_iff_iff, decide_eq_true_iff, decide_eq_true_iff]; omega
  rintro t w3' ⟨rfl, rfl⟩
  repeat first | refine ω1 ?_ | refine ω2 ?_ | refine ω3 ?_ | refine ω4 ?_ | refine ω5 ?_ | refine χ1 ?_ | refine κ1 ?_ | refine κ2 ?_ | refine χ2 ?_ | refine κ3 ?_ | refine ω6 ?_ | refine ω7 ?_ | refine ω9 ?_ | refine κ4 ?_ | refine κ7 ?_ | refine κ8 ?_ | refine χ3 ?_ | refine χ4 ?_ | refine κ5 ?_ | refine κ6 ?_ | refine χ5 ?_ | refine χ6 ?_ | refine χ7 ?_ | refine ω8 ?_
  refine ci (fun hg => ?_) (fun hg => ?_)
  · repeat first | refine ω1 ?_ | refine ω2 ?_ | refine ω3 ?_ | refine ω4 ?_ | refine ω5 ?_ | refine χ1 ?_ | refine κ1 ?_ | refine κ2 ?_ | refine χ2 ?_ | refine κ3 ?_ | refine ω6 ?_ | refine ω7 ?_ | refine ω9 ?_ | refine κ4 ?_ | refine κ7 ?_ | refine κ8 ?_ | refine χ3 ?_ | refine χ4 ?_ | refine κ5 ?_ | refine κ6 ?_ | refine χ5 ?_ | refine χ6 ?_ | refine χ7 ?_ | refine ω8 ?_
    refine cl (awake47_any _) ?_
    rintro _ w4 ⟨rfl, hx4⟩
    repeat first | refine ω1 ?_ | refine ω2 ?_ | refine ω3 ?_ | refine ω4 ?_ | refine ω5 ?_ | refine χ1 ?_ | refine κ1 ?_ | refine κ2 ?_ | refine χ2 ?_ | refine κ3 ?_ | refine ω6 ?_ | refine ω7 ?_ | refine ω9 ?_ | refine κ4 ?_ | refine κ7 ?_ | refine κ8 ?_ | refine χ3 ?_ | refine χ4 ?_ | refine κ5 ?_ | refine κ6 ?_ | refine χ5 ?_ | refine χ6 ?_ | refine χ7 ?_ | refine ω8 ?_
    exact fin1 ⟨rfl, hx03.trans hx4⟩
  simp only [Bool.or_eq_false_iff, decide_eq_false_iff_not] at hg
  obtain ⟨⟨⟨hla, hlb⟩, hld⟩, hll⟩ := hg
  have hd := hdG.v (by omega)
  have hk3 := hk1.ext hx3
  repeat first | refine ω1 ?_ | refine ω2 ?_ | refine ω3 ?_ | refine ω4 ?_ | refine ω5 ?_ | refine χ1 ?_ | refine κ1 ?_ | refine κ2 ?_ | refine χ2 ?_ | refine κ3 ?_ | refine ω6 ?_ | refine ω7 ?_ | refine ω9 ?_ | refine κ4 ?_ | refine κ7 ?_ | refine κ8 ?_ | refine χ3 ?_ | refine χ4 ?_ | refine κ5 ?_ | refine κ6 ?_ | refine χ5 ?_ | refine χ6 ?_ | refine χ7 ?_ | refine ω8 ?_
  refine ld (hk3.at rfl) ?_
  repeat first | refine ω1 ?_ | refine ω2 ?_ | refine ω3 ?_ | refine ω4 ?_ | refine ω5 ?_ | refine χ1 ?_ | refine κ1 ?_ | refine κ2 ?_ | refine χ2 ?_ | refine κ3 ?_ | refine ω6 ?_ | refine ω7 ?_ | refine ω9 ?_ | refine κ4 ?_ | refine κ7 ?_ | refine κ8 ?_ | refine χ3 ?_ | refine χ4 ?_ | refine κ5 ?_ | refine κ6 ?_ | refine χ5 ?_ | refine χ6 ?_ | refine χ7 ?_ | refine ω8 ?_
  refine cl (rows47_any (hPa.ext hx03) (by omega)) ?_
  rintro va2 w9 ⟨ha9, hx9⟩
  have hx09 := hx03.trans hx9
  repeat first | refine ω1 ?_ | refine ω2 ?_ | refine ω3 ?_ | refine ω4 ?_ | refine ω5 ?_ | refine χ1 ?_ | refine κ1 ?_ | refine κ2 ?_ | refine χ2 ?_ | refine κ3 ?_ | refine ω6 ?_ | refine ω7 ?_ | refine ω9 ?_ | refine κ4 ?_ | refine κ7 ?_ | refine κ8 ?_ | refine χ3 ?_ | refine χ4 ?_ | refine κ5 ?_ | refine κ6 ?_ | refine χ5 ?_ | refine χ6 ?_ | refine χ7 ?_ | refine ω8 ?_
  refine cl (ofRows_any ha9 (hd.ext hx09)) ?_
  rintro vO w10 ⟨⟨m, hO10, hsO, hlm⟩, hx10⟩
  have hx010 := hx09.trans hx10
  obtain ⟨o1, o2, rfl, hone⟩ := rowsA_cells hO10
  repeat first | refine ω1 ?_ | refine ω2 ?_ | refine ω3 ?_ | refine ω4 ?_ | refine ω5 ?_ | refine χ1 ?_ | refine κ1 ?_ | refine κ2 ?_ | refine χ2 ?_ | refine κ3 ?_ | refine ω6 ?_ | refine ω7 ?_ | refine ω9 ?_ | refine κ4 ?_ | refine κ7 ?_ | refine κ8 ?_ | refine χ3 ?_ | refine χ4 ?_ | refine κ5 ?_ | refine κ6 ?_ | refine χ5 ?_ | refine χ6 ?_ | refine χ7 ?_ | refine ω8 ?_
  refine alc (cs := [.slice none 0 0, .slice none 0 0]) zRows ?_
  intro w11 b11 hx11 hb11 hk11
  repeat first | refine ω1 ?_ | refine ω2 ?_ | refine ω3 ?_ | refine ω4 ?_ | refine ω5 ?_ | refine χ1 ?_ | refine κ1 ?_ | refine κ2 ?_ | refine χ2 ?_ | refine κ3 ?_ | refine ω6 ?_ | refine ω7 ?_ | refine ω9 ?_ | refine κ4 ?_ | refine κ7 ?_ | refine κ8 ?_ | refine χ3 ?_ | refine χ4 ?_ | refine κ5 ?_ | refine κ6 ?_ | refine χ5 ?_ | refine χ6 ?_ | refine χ7 ?_ | refine ω8 ?_
  refine stb hk11 (cs' := [o1, o2]) ?_ hone
  intro w12 hk12 hg12 hx12
  have hx1012 : Ext w10 w12 := hx12 w10 hx11 hb11
  have hx012 := hx010.trans hx1012
  have hx312 := (hx9.trans hx10).trans hx1012
  have hk3 := hk3.ext hx312
  have hO12 := hO10.ext hx1012
  repeat first | refine ω1 ?_ | refine ω2 ?_ | refine ω3 ?_ | refine ω4 ?_ | refine ω5 ?_ | refine χ1 ?_ | refine κ1 ?_ | refine κ2 ?_ | refine χ2 ?_ | refine κ3 ?_ | refine ω6 ?_ | refine ω7 ?_ | refine ω9 ?_ | refine κ4 ?_ | refine κ7 ?_ | refine κ8 ?_ | refine χ3 ?_ | refine χ4 ?_ | refine κ5 ?_ | refine κ6 ?_ | refine χ5 ?_ | refine χ6 ?_ | refine χ7 ?_ | refine ω8 ?_
  generalize hq : (fun r : Row => decide (r ∈ b.map pRow)) = q at *
  refine drH (fun i => Nat.beq i 12) ?_
  have hxd : Ext w12 w12.drew := (Ext.refl w12).drew
  refine hpre (fuel' := 7) 8 [(0, 0), (0, 1), (0, 3), (0, 5), (0, 6), (0, 9)] #[true, true, false, true, false, true, true, false, false, true, false, false, false] (by kernel_rfl) (by kernel_rfl) rfl ?_
  repeat first | refine δ1 ?_ | refine δ2 ?_ | refine δ4 ?_ | refine δ5 ?_ | refine δ6 ?_ | refine δ7 ?_ | refine δ9 ?_ | refine δ8 ?_ | refine χ1 ?_ | refine χ2 ?_ | refine χ3 ?_ | refine χ4 ?_ | refine χ5 ?_ | refine χ6 ?_ | refine χ7 ?_
  refine dld ((hk3.ext hxd).at rfl) ?_
  repeat first | refine δ1 ?_ | refine δ2 ?_ | refine δ4 ?_ | refine δ5 ?_ | refine δ6 ?_ | refine δ7 ?_ | refine δ9 ?_ | refine δ8 ?_ | refine χ1 ?_ | refine χ2 ?_ | refine χ3 ?_ | refine χ4 ?_ | refine χ5 ?_ | refine χ6 ?_ | refine χ7 ?_
  refine dld ((hk3.ext hxd).at rfl) ?_
  repeat first | refine δ1 ?_ | refine δ2 ?_ | refine δ4 ?_ | refine δ5 ?_ | refine δ6 ?_ | refine δ7 ?_ | refine δ9 ?_ | refine δ8 ?_ | refine χ1 ?_ | refine χ2 ?_ | refine χ3 ?_ | refine χ4 ?_ | refine χ5 ?_ | refine χ6 ?_ | refine χ7 ?_
  refine hback ?_
  refine hcut 1 (lst 13 12) (fun (x : Nat × Value) => [(1, vd), (2, .slice Al l.length cl'), (3, .pointer (some ⟨b1, 0, none⟩)), (6, .bool false), (7, .pointer (some ⟨b11, 0, none⟩)), (8, .pointer (some ⟨x.1, 0, none⟩)), (49, x.2)])
    (fun x W => Ext w12 W ∧ Blk W x.1 29 [.slice none 0 0, .slice none 0 0] ∧ w12.heap.size ≤ x.1 ∧ ∀ w', W.grownBy w' (some x.1) → RowsA w' x.2 ds (m.filter q)) ?_ ?_
  · rintro ⟨bB, vP⟩ w13 ⟨hx13, hkB, hbB, hP13⟩
    have hP13' := hP13 w13 (ext_grown (Ext.refl w13) _)
    obtain ⟨p1, p2, rfl, hone2⟩ := rowsA_cells hP13'
    refine hpre (fuel' := 0) 8 [(2, 12)] (lst 13 13) (by kernel_rfl) (by kernel_rfl) rfl ?_
    refine dtail ?_
    refine stb hkB (cs' := [p1, p2]) ?_ hone2
    intro w14 hk14 hg14 hx14
    have hP14 := hP13 w14 hg14
    have hx1214 : Ext w12 w14 := hx14 w12 hx13 hbB
    have hk12' := hk12.ext hx1214
    have hO14 := hO12.ext hx1214
    have hx014 := hx012.trans hx1214
    refine wnil (dback ?_)
    refine dnil (hback ?_)
    refine hend (by kernel_rfl) ?_
    have hlm40 : m.length ≤ 40 := by simp at hlm; omega
    have hlC : (m.filter q).length ≤ m.length := List.length_filter_le _ _
    repeat first | refine ω1 ?_ | refine ω2 ?_ | refine ω3 ?_ | refine ω4 ?_ | refine ω5 ?_ | refine χ1 ?_ | refine κ1 ?_ | refine κ2 ?_ | refine χ2 ?_ | refine κ3 ?_ | refine ω6 ?_ | refine ω7 ?_ | refine ω9 ?_ | refine κ4 ?_ | refine κ7 ?_ | refine κ8 ?_ | refine χ3 ?_ | refine χ4 ?_ | refine κ5 ?_ | refine κ6 ?_ | refine χ5 ?_ | refine χ6 ?_ | refine χ7 ?_ | refine ω8 ?_
    refine lds (fun j u hu => hk12'.at hu) ?_
    repeat first | refine ω1 ?_ | refine ω2 ?_ | refine ω3 ?_ | refine ω4 ?_ | refine ω5 ?_ | refine χ1 ?_ | refine κ1 ?_ | refine κ2 ?_ | refine χ2 ?_ | refine κ3 ?_ | refine ω6 ?_ | refine ω7 ?_ | refine ω9 ?_ | refine κ4 ?_ | refine κ7 ?_ | refine κ8 ?_ | refine χ3 ?_ | refine χ4 ?_ | refine κ5 ?_ | refine κ6 ?_ | refine χ5 ?_ | refine χ6 ?_ | refine χ7 ?_ | refine ω8 ?_
    refine mki Try.underlying29 (fun ms e => by cases e) ?_
    repeat first | refine ω1 ?_ | refine ω2 ?_ | refine ω3 ?_ | refine ω4 ?_ | refine ω5 ?_ | refine χ1 ?_ | refine κ1 ?_ | refine κ2 ?_ | refine χ2 ?_ | refine κ3 ?_ | refine ω6 ?_ | refine ω7 ?_ | refine ω9 ?_ | refine κ4 ?_ | refine κ7 ?_ | refine κ8 ?_ | refine χ3 ?_ | refine χ4 ?_ | refine κ5 ?_ | refine κ6 ?_ | refine χ5 ?_ | refine χ6 ?_ | refine χ7 ?_ | refine ω8 ?_
    refine lds (fun j u hu => hk14.at hu) ?_
    repeat first | refine ω1 ?_ | refine ω2 ?_ | refine ω3 ?_ | refine ω4 ?_ | refine ω5 ?_ | refine χ1 ?_ | refine κ1 ?_ | refine κ2 ?_ | refine χ2 ?_ | refine κ3 ?_ | refine ω6 ?_ | refine ω7 ?_ | refine ω9 ?_ | refine κ4 ?_ | refine κ7 ?_ | refine κ8 ?_ | refine χ3 ?_ | refine χ4 ?_ | refine κ5 ?_ | refine κ6 ?_ | refine χ5 ?_ | refine χ6 ?_ | refine χ7 ?_ | refine ω8 ?_
    refine mki Try.underlying29 (fun ms e => by cases e) ?_
    repeat first | refine ω1 ?_ | refine ω2 ?_ | refine ω3 ?_ | refine ω4 ?_ | refine ω5 ?_ | refine χ1 ?_ | refine κ1 ?_ | refine κ2 ?_ | refine χ2 ?_ | refine κ3 ?_ | refine ω6 ?_ | refine ω7 ?_ | refine ω9 ?_ | refine κ4 ?_ | refine κ7 ?_ | refine κ8 ?_ | refine χ3 ?_ | refine χ4 ?_ | refine κ5 ?_ | refine κ6 ?_ | refine χ5 ?_ | refine χ6 ?_ | refine χ7 ?_ | refine ω8 ?_
    have hAO := rowsO hO14 hsO.1 (by omega) (fun _ => True)
    have hCO := rowsO hP14 (filt_lt hsO.1 q) (by omega) (fun _ => True)
    refine cl (difOf_any hAO hCO) ?_
    rintro _ w15 ⟨rfl, hx15⟩
    rw [if_pos hlC]
    repeat first | refine ω1 ?_ | refine ω2 ?_ | refine ω3 ?_ | refine ω4 ?_ | refine ω5 ?_ | refine χ1 ?_ | refine κ1 ?_ | refine κ2 ?_ | refine χ2 ?_ | refine κ3 ?_ | refine ω6 ?_ | refine ω7 ?_ | refine ω9 ?_ | refine κ4 ?_ | refine κ7 ?_ | refine κ8 ?_ | refine χ3 ?_ | refine χ4 ?_ | refine κ5 ?_ | refine κ6 ?_ | refine χ5 ?_ | refine χ6 ?_ | refine χ7 ?_ | refine ω8 ?_
    refine alc zDif ?_
    intro w16 b16 hx16 hb16 hk16
    repeat first | refine ω1 ?_ | refine ω2 ?_ | refine ω3 ?_ | refine ω4 ?_ | refine ω5 ?_ | refine χ1 ?_ | refine κ1 ?_ | refine κ2 ?_ | refine χ2 ?_ | refine κ3 ?_ | refine ω6 ?_ | refine ω7 ?_ | refine ω9 ?_ | refine κ4 ?_ | refine κ7 ?_ | refine κ8 ?_ | refine χ3 ?_ | refine χ4 ?_ | refine κ5 ?_ | refine κ6 ?_ | refine χ5 ?_ | refine χ6 ?_ | refine χ7 ?_ | refine ω8 ?_
    refine stb hk16 (cs' := [.iface 29 (.agg #[o1, o2]), .iface 29 (.agg #[p1, p2])]) ?_ (fun u hu => by simp at hu; rcases hu with rfl | rfl <;> rfl)
    intro w17 hk17 hg17 hx17
    have hx1517 : Ext w15 w17 := hx17 w15 hx16 hb16
    have hx1417 := hx15.trans hx1517
    have hx017 := hx014.trans hx1417
    repeat first | refine ω1 ?_ | refine ω2 ?_ | refine ω3 ?_ | refine ω4 ?_ | refine ω5 ?_ | refine χ1 ?_ | refine κ1 ?_ | refine κ2 ?_ | refine χ2 ?_ | refine κ3 ?_ | refine ω6 ?_ | refine ω7 ?_ | refine ω9 ?_ | refine κ4 ?_ | refine κ7 ?_ | refine κ8 ?_ | refine χ3 ?_ | refine χ4 ?_ | refine κ5 ?_ | refine κ6 ?_ | refine χ5 ?_ | refine χ6 ?_ | refine χ7 ?_ | refine ω8 ?_
    refine cl (rows47_any (hPl.ext hx017) (by omega)) ?_
    rintro vL w18 ⟨hL18, hx18⟩
    have hx1418 := hx1417.trans hx18
    obtain ⟨AL, cL, rfl, _, _, csL, hrL, hcL⟩ := hL18.parts
    have hlL : (l.map pRow).length ≤ 20 := by simp; omega
    generalize hLn : l.map pRow = L at *
    have hkA := hk12'.ext hx1418
    have hkC := hk14.ext hx1418
    have hkD := hk17.ext hx18
    repeat first | refine ω1 ?_ | refine ω2 ?_ | refine ω3 ?_ | refine ω4 ?_ | refine ω5 ?_ | refine χ1 ?_ | refine κ1 ?_ | refine κ2 ?_ | refine χ2 ?_ | refine κ3 ?_ | refine ω6 ?_ | refine ω7 ?_ | refine ω9 ?_ | refine κ4 ?_ | refine κ7 ?_ | refine κ8 ?_ | refine χ3 ?_ | refine χ4 ?_ | refine κ5 ?_ | refine κ6 ?_ | refine χ5 ?_ | refine χ6 ?_ | refine χ7 ?_ | refine ω8 ?_
    refine wloop1 (fun (k : Nat) => [(7, .pointer (some ⟨b11, 0, none⟩)), (8, .pointer (some ⟨bB, 0, none⟩)), (9, .pointer (some ⟨b16, 0, none⟩)), (11, .slice AL L.length cL), (12, .int .i64 (k : Int))])
      (fun k w' => Ext w18 w' ∧ k ≤ L.length) (fun k => L.length - k) 0 (by repeat' (first | exact Sub.nil | refine Sub.cons rfl ?_)) ⟨Ext.refl _, Nat.zero_le _⟩ ?_
    rintro k w19 ⟨hx19, hk⟩
    have hx1419 := hx1418.trans hx19
    repeat first | refine ω1 ?_ | refine ω2 ?_ | refine ω3 ?_ | refine ω4 ?_ | refine ω5 ?_ | refine χ1 ?_ | refine κ1 ?_ | refine κ2 ?_ | refine χ2 ?_ | refine κ3 ?_ | refine ω6 ?_ | refine ω7 ?_ | refine ω9 ?_ | refine κ4 ?_ | refine κ7 ?_ | refine κ8 ?_ | refine χ3 ?_ | refine χ4 ?_ | refine κ5 ?_ | refine κ6 ?_ | refine χ5 ?_ | refine χ6 ?_ | refine χ7 ?_ | refine ω8 ?_
    refine ci (fun h => ?_) (fun h => ?_)
    · have hlt : k < L.length := by have := of_decide_eq_true h; omega
      obtain ⟨u, hu, hru⟩ := hcL k hlt
      repeat first | refine ω1 ?_ | refine ω2 ?_ | refine ω3 ?_ | refine ω4 ?_ | refine ω5 ?_ | refine χ1 ?_ | refine κ1 ?_ | refine κ2 ?_ | refine χ2 ?_ | refine κ3 ?_ | refine ω6 ?_ | refine ω7 ?_ | refine ω9 ?_ | refine κ4 ?_ | refine κ7 ?_ | refine κ8 ?_ | refine χ3 ?_ | refine χ4 ?_ | refine κ5 ?_ | refine κ6 ?_ | refine χ5 ?_ | refine χ6 ?_ | refine χ7 ?_ | refine ω8 ?_
      refine dr [(0, 0), (0, 1), (0, 2), (0, 3), (0, 4), (1, 5), (0, 6), (0, 7), (0, 8), (0, 9), (0, 10), (0, 11), (0, 12), (0, 13), (0, 14)] (by kernel_rfl) ?_
      have hxd1 : Ext w19 w19.drew := (Ext.refl w19).drew
      have hx1820 := hx19.trans hxd1
      have hx1420 := hx1418.trans hx1820
      repeat first | refine δ1 ?_ | refine δ2 ?_ | refine δ4 ?_ | refine δ5 ?_ | refine δ6 ?_ | refine δ7 ?_ | refine δ9 ?_ | refine δ8 ?_ | refine χ1 ?_ | refine χ2 ?_ | refine χ3 ?_ | refine χ4 ?_ | refine χ5 ?_ | refine χ6 ?_ | refine χ7 ?_
      refine dlds (fun j u hu => (hkA.ext hx1820).at hu) ?_
      repeat first | refine δ1 ?_ | refine δ2 ?_ | refine δ4 ?_ | refine δ5 ?_ | refine δ6 ?_ | refine δ7 ?_ | refine δ9 ?_ | refine δ8 ?_ | refine χ1 ?_ | refine χ2 ?_ | refine χ3 ?_ | refine χ4 ?_ | refine χ5 ?_ | refine χ6 ?_ | refine χ7 ?_
      refine dix k (hrL.ext hx1820) hlt ?_
      repeat first | refine δ1 ?_ | refine δ2 ?_ | refine δ4 ?_ | refine δ5 ?_ | refine δ6 ?_ | refine δ7 ?_ | refine δ9 ?_ | refine δ8 ?_ | refine χ1 ?_ | refine χ2 ?_ | refine χ3 ?_ | refine χ4 ?_ | refine χ5 ?_ | refine χ6 ?_ | refine χ7 ?_
      refine dld ((hrL.ext hx1820).cell hu) ?_
      repeat first | refine δ1 ?_ | refine δ2 ?_ | refine δ4 ?_ | refine δ5 ?_ | refine δ6 ?_ | refine δ7 ?_ | refine δ9 ?_ | refine δ8 ?_ | refine χ1 ?_ | refine χ2 ?_ | refine χ3 ?_ | refine χ4 ?_ | refine χ5 ?_ | refine χ6 ?_ | refine χ7 ?_
      refine dcl (rowsRank_any (hO14.ext hx1420) (hru.ext hx1820) hsO.1 (by omega)) ?_
      rintro _ w21 ⟨⟨vn1, rfl, hn21⟩, hx21⟩
      refine ⟨hx21, ?_⟩
      have hx1821 := hx1820.trans hx21
      repeat first | refine δ1 ?_ | refine δ2 ?_ | refine δ4 ?_ | refine δ5 ?_ | refine δ6 ?_ | refine δ7 ?_ | refine δ9 ?_ | refine δ8 ?_ | refine χ1 ?_ | refine χ2 ?_ | refine χ3 ?_ | refine χ4 ?_ | refine χ5 ?_ | refine χ6 ?_ | refine χ7 ?_
      repeat first | refine ω1 ?_ | refine ω2 ?_ | refine ω3 ?_ | refine ω4 ?_ | refine ω5 ?_ | refine χ1 ?_ | refine κ1 ?_ | refine κ2 ?_ | refine χ2 ?_ | refine κ3 ?_ | refine ω6 ?_ | refine ω7 ?_ | refine ω9 ?_ | refine κ4 ?_ | refine κ7 ?_ | refine κ8 ?_ | refine χ3 ?_ | refine χ4 ?_ | refine κ5 ?_ | refine κ6 ?_ | refine χ5 ?_ | refine χ6 ?_ | refine χ7 ?_ | refine ω8 ?_
      refine dr [(0, 0), (0, 1), (0, 2), (0, 3), (0, 4), (1, 5), (0, 6), (0, 7), (0, 8), (0, 9), (0, 10), (0, 11), (0, 12), (0, 13), (0, 14)] (by kernel_rfl) ?_
      have hxd2 : Ext w21 w21.drew := (Ext.refl w21).drew
      have hx1822 := hx1821.trans hxd2
      have hx1422 := hx1418.trans hx1822
      repeat first | refine δ1 ?_ | refine δ2 ?_ | refine δ4 ?_ | refine δ5 ?_ | refine δ6 ?_ | refine δ7 ?_ | refine δ9 ?_ | refine δ8 ?_ | refine χ1 ?_ | refine χ2 ?_ | refine χ3 ?_ | refine χ4 ?_ | refine χ5 ?_ | refine χ6 ?_ | refine χ7 ?_
      refine dlds (fun j u hu => (hkD.ext hx1822).at hu) ?_
      repeat first | refine δ1 ?_ | refine δ2 ?_ | refine δ4 ?_ | refine δ5 ?_ | refine δ6 ?_ | refine δ7 ?_ | refine δ9 ?_ | refine δ8 ?_ | refine χ1 ?_ | refine χ2 ?_ | refine χ3 ?_ | refine χ4 ?_ | refine χ5 ?_ | refine χ6 ?_ | refine χ7 ?_
      refine dix k (hrL.ext hx1822) hlt ?_
      repeat first | refine δ1 ?_ | refine δ2 ?_ | refine δ4 ?_ | refine δ5 ?_ | refine δ6 ?_ | refine δ7 ?_ | refine δ9 ?_ | refine δ8 ?_ | refine χ1 ?_ | refine χ2 ?_ | refine χ3 ?_ | refine χ4 ?_ | refine χ5 ?_ | refine χ6 ?_ | refine χ7 ?_
      refine dld ((hrL.ext hx1822).cell hu) ?_
      repeat first | refine δ1 ?_ | refine δ2 ?_ | refine δ4 ?_ | refine δ5 ?_ | refine δ6 ?_ | refine δ7 ?_ | refine δ9 ?_ | refine δ8 ?_ | refine χ1 ?_ | refine χ2 ?_ | refine χ3 ?_ | refine χ4 ?_ | refine χ5 ?_ | refine χ6 ?_ | refine χ7 ?_
      refine dcl (difRank_any (hAO.ext hx1422) (hCO.ext hx1422) (hru.ext hx1822) trivial trivial) ?_
      rintro _ w23 ⟨⟨vn2, s2, rfl, hn23⟩, hx23⟩
      refine ⟨hx23, ?_⟩
      have hx1823 := hx1822.trans hx23
      repeat first | refine δ1 ?_ | refine δ2 ?_ | refine δ4 ?_ | refine δ5 ?_ | refine δ6 ?_ | refine δ7 ?_ | refine δ9 ?_ | refine δ8 ?_ | refine χ1 ?_ | refine χ2 ?_ | refine χ3 ?_ | refine χ4 ?_ | refine χ5 ?_ | refine χ6 ?_ | refine χ7 ?_
      repeat first | refine ω1 ?_ | refine ω2 ?_ | refine ω3 ?_ | refine ω4 ?_ | refine ω5 ?_ | refine χ1 ?_ | refine κ1 ?_ | refine κ2 ?_ | refine χ2 ?_ | refine κ3 ?_ | refine ω6 ?_ | refine ω7 ?_ | refine ω9 ?_ | refine κ4 ?_ | refine κ7 ?_ | refine κ8 ?_ | refine χ3 ?_ | refine χ4 ?_ | refine κ5 ?_ | refine κ6 ?_ | refine χ5 ?_ | refine χ6 ?_ | refine χ7 ?_ | refine ω8 ?_
      refine dr [(0, 0), (0, 1), (0, 2), (0, 3), (0, 4), (1, 5), (0, 6), (0, 7), (0, 8), (0, 9), (0, 10), (0, 11), (0, 12), (0, 13), (0, 14)] (by kernel_rfl) ?_
      have hxd3 : Ext w23 w23.drew := (Ext.refl w23).drew
      have hx1824 := hx1823.trans hxd3
      have hx1424 := hx1418.trans hx1824
      repeat first | refine δ1 ?_ | refine δ2 ?_ | refine δ4 ?_ | refine δ5 ?_ | refine δ6 ?_ | refine δ7 ?_ | refine δ9 ?_ | refine δ8 ?_ | refine χ1 ?_ | refine χ2 ?_ | refine χ3 ?_ | refine χ4 ?_ | refine χ5 ?_ | refine χ6 ?_ | refine χ7 ?_
      refine dlds (fun j u hu => (hkC.ext hx1824).at hu) ?_
      repeat first | refine δ1 ?_ | refine δ2 ?_ | refine δ4 ?_ | refine δ5 ?_ | refine δ6 ?_ | refine δ7 ?_ | refine δ9 ?_ | refine δ8 ?_ | refine χ1 ?_ | refine χ2 ?_ | refine χ3 ?_ | refine χ4 ?_ | refine χ5 ?_ | refine χ6 ?_ | refine χ7 ?_
      refine dix k (hrL.ext hx1824) hlt ?_
      repeat first | refine δ1 ?_ | refine δ2 ?_ | refine δ4 ?_ | refine δ5 ?_ | refine δ6 ?_ | refine δ7 ?_ | refine δ9 ?_ | refine δ8 ?_ | refine χ1 ?_ | refine χ2 ?_ | refine χ3 ?_ | refine χ4 ?_ | refine χ5 ?_ | refine χ6 ?_ | refine χ7 ?_
      refine dld ((hrL.ext hx1824).cell hu) ?_
      repeat first | refine δ1 ?_ | refine δ2 ?_ | refine δ4 ?_ | refine δ5 ?_ | refine δ6 ?_ | refine δ7 ?_ | refine δ9 ?_ | refine δ8 ?_ | refine χ1 ?_ | refine χ2 ?_ | refine χ3 ?_ | refine χ4 ?_ | refine χ5 ?_ | refine χ6 ?_ | refine χ7 ?_
      refine dcl (rowsRank_any (hP14.ext hx1424) (hru.ext hx1824) (filt_lt hsO.1 q) (by omega)) ?_
      rintro _ w25 ⟨⟨vn3, rfl, hn25⟩, hx25⟩
      refine ⟨hx25, ?_⟩
      have hx1825 := hx1824.trans hx25
      have hc1 := cnt_le ds m (L.getD k [])
      have hc2 := cnt_le ds (m.filter q) (L.getD k [])
      have hc3 := filt_cnt ds m q (L.getD k [])
      have hcm : L.getD k [] ∈ m.filter q → L.getD k [] ∈ m := fun h => (List.mem_filter.1 h).1
      generalize L.getD k [] = r at *
      repeat first | refine δ1 ?_ | refine δ2 ?_ | refine δ4 ?_ | refine δ5 ?_ | refine δ6 ?_ | refine δ7 ?_ | refine δ9 ?_ | refine δ8 ?_ | refine χ1 ?_ | refine χ2 ?_ | refine χ3 ?_ | refine χ4 ?_ | refine χ5 ?_ | refine χ6 ?_ | refine χ7 ?_
      repeat first | refine ω1 ?_ | refine ω2 ?_ | refine ω3 ?_ | refine ω4 ?_ | refine ω5 ?_ | refine χ1 ?_ | refine κ1 ?_ | refine κ2 ?_ | refine χ2 ?_ | refine κ3 ?_ | refine ω6 ?_ | refine ω7 ?_ | refine ω9 ?_ | refine κ4 ?_ | refine κ7 ?_ | refine κ8 ?_ | refine χ3 ?_ | refine χ4 ?_ | refine κ5 ?_ | refine κ6 ?_ | refine χ5 ?_ | refine χ6 ?_ | refine χ7 ?_ | refine ω8 ?_
      refine cl (natAdd_any ((hn23.ext hxd3).ext hx25) hn25 (small1000 (by omega)) (small1000 (by omega))) ?_
      rintro vs w26 ⟨hs26, hx26⟩
      repeat first | refine ω1 ?_ | refine ω2 ?_ | refine ω3 ?_ | refine ω4 ?_ | refine ω5 ?_ | refine χ1 ?_ | refine κ1 ?_ | refine κ2 ?_ | refine χ2 ?_ | refine κ3 ?_ | refine ω6 ?_ | refine ω7 ?_ | refine ω9 ?_ | refine κ4 ?_ | refine κ7 ?_ | refine κ8 ?_ | refine χ3 ?_ | refine χ4 ?_ | refine κ5 ?_ | refine κ6 ?_ | refine χ5 ?_ | refine χ6 ?_ | refine χ7 ?_ | refine ω8 ?_
      refine cl (natCmp_any (((((hn21.ext hxd2).ext hx23).ext hxd3).ext hx25).ext hx26) hs26) ?_
      rintro _ w27 ⟨rfl, hx27⟩
      rw [cmpN_eq.2 (show cnt ds m r = cnt ds m r - cnt ds (m.filter q) r + cnt ds (m.filter q) r by omega)]
      have hx1827 := (hx1825.trans hx26).trans hx27
      by_cases h1 : r ∈ m
      · rw [decide_eq_true h1]
        by_cases h2 : r ∈ m.filter q
        · rw [decide_eq_true h2]
          repeat first | refine ω1 ?_ | refine ω2 ?_ | refine ω3 ?_ | refine ω4 ?_ | refine ω5 ?_ | refine χ1 ?_ | refine κ1 ?_ | refine κ2 ?_ | refine χ2 ?_ | refine κ3 ?_ | refine ω6 ?_ | refine ω7 ?_ | refine ω9 ?_ | refine κ4 ?_ | refine κ7 ?_ | refine κ8 ?_ | refine χ3 ?_ | refine χ4 ?_ | refine κ5 ?_ | refine κ6 ?_ | refine χ5 ?_ | refine χ6 ?_ | refine χ7 ?_ | refine ω8 ?_
          refine neb ?_
          repeat first | refine ω1 ?_ | refine ω2 ?_ | refine ω3 ?_ | refine ω4 ?_ | refine ω5 ?_ | refine χ1 ?_ | refine κ1 ?_ | refine κ2 ?_ | refine χ2 ?_ | refine κ3 ?_ | refine ω6 ?_ | refine ω7 ?_ | refine ω9 ?_ | refine κ4 ?_ | refine κ7 ?_ | refine κ8 ?_ | refine χ3 ?_ | refine χ4 ?_ | refine κ5 ?_ | refine κ6 ?_ | refine χ5 ?_ | refine χ6 ?_ | refine χ7 ?_ | refine ω8 ?_
          exact qround1 (k + 1) (by repeat' (first | exact Sub.nil | refine Sub.cons rfl ?_)) ⟨hx1827, by omega⟩ (by omega)
        · rw [decide_eq_false h2]
          repeat first | refine ω1 ?_ | refine ω2 ?_ | refine ω3 ?_ | refine ω4 ?_ | refine ω5 ?_ | refine χ1 ?_ | refine κ1 ?_ | refine κ2 ?_ | refine χ2 ?_ | refine κ3 ?_ | refine ω6 ?_ | refine ω7 ?_ | refine ω9 ?_ | refine κ4 ?_ | refine κ7 ?_ | refine κ8 ?_ | refine χ3 ?_ | refine χ4 ?_ | refine κ5 ?_ | refine κ6 ?_ | refine χ5 ?_ | refine χ6 ?_ | refine χ7 ?_ | refine ω8 ?_
          refine neb ?_
          repeat first | refine ω1 ?_ | refine ω2 ?_ | refine ω3 ?_ | refine ω4 ?_ | refine ω5 ?_ | refine χ1 ?_ | refine κ1 ?_ | refine κ2 ?_ | refine χ2 ?_ | refine κ3 ?_ | refine ω6 ?_ | refine ω7 ?_ | refine ω9 ?_ | refine κ4 ?_ | refine κ7 ?_ | refine κ8 ?_ | refine χ3 ?_ | refine χ4 ?_ | refine κ5 ?_ | refine κ6 ?_ | refine χ5 ?_ | refine χ6 ?_ | refine χ7 ?_ | refine ω8 ?_
          exact qround1 (k + 1) (by repeat' (first | exact Sub.nil | refine Sub.cons rfl ?_)) ⟨hx1827, by omega⟩ (by omega)
      · have h2 : r ∉ m.filter q := fun h => h1 (hcm h)
        rw [decide_eq_false h1, decide_eq_false h2]
        repeat first | refine ω1 ?_ | refine ω2 ?_ | refine ω3 ?_ | refine ω4 ?_ | refine ω5 ?_ | refine χ1 ?_ | refine κ1 ?_ | refine κ2 ?_ | refine χ2 ?_ | refine κ3 ?_ | refine ω6 ?_ | refine ω7 ?_ | refine ω9 ?_ | refine κ4 ?_ | refine κ7 ?_ | refine κ8 ?_ | refine χ3 ?_ | refine χ4 ?_ | refine κ5 ?_ | refine κ6 ?_ | refine χ5 ?_ | refine χ6 ?_ | refine χ7 ?_ | refine ω8 ?_
        refine neb ?_
        repeat first | refine ω1 ?_ | refine ω2 ?_ | refine ω3 ?_ | refine ω4 ?_ | refine ω5 ?_ | refine χ1 ?_ | refine κ1 ?_ | refine κ2 ?_ | refine χ2 ?_ | refine κ3 ?_ | refine ω6 ?_ | refine ω7 ?_ | refine ω9 ?_ | refine κ4 ?_ | refine κ7 ?_ | refine κ8 ?_ | refine χ3 ?_ | refine χ4 ?_ | refine κ5 ?_ | refine κ6 ?_ | refine χ5 ?_ | refine χ6 ?_ | refine χ7 ?_ | refine ω8 ?_
        exact qround1 (k + 1) (by repeat' (first | exact Sub.nil | refine Sub.cons rfl ?_)) ⟨hx1827, by omega⟩ (by omega)
    · repeat first | refine ω1 ?_ | refine ω2 ?_ | refine ω3 ?_ | refine ω4 ?_ | refine ω5 ?_ | refine χ1 ?_ | refine κ1 ?_ | refine κ2 ?_ | refine χ2 ?_ | refine κ3 ?_ | refine ω6 ?_ | refine ω7 ?_ | refine ω9 ?_ | refine κ4 ?_ | refine κ7 ?_ | refine κ8 ?_ | refine χ3 ?_ | refine χ4 ?_ | refine κ5 ?_ | refine κ6 ?_ | refine χ5 ?_ | refine χ6 ?_ | refine χ7 ?_ | refine ω8 ?_
      refine cl (awake47_any _) ?_
      rintro _ w20 ⟨rfl, hx20⟩
      repeat first | refine ω1 ?_ | refine ω2 ?_ | refine ω3 ?_ | refine ω4 ?_ | refine ω5 ?_ | refine χ1 ?_ | refine κ1 ?_ | refine κ2 ?_ | refine χ2 ?_ | refine κ3 ?_ | refine ω6 ?_ | refine ω7 ?_ | refine ω9 ?_ | refine κ4 ?_ | refine κ7 ?_ | refine κ8 ?_ | refine χ3 ?_ | refine χ4 ?_ | refine κ5 ?_ | refine κ6 ?_ | refine χ5 ?_ | refine χ6 ?_ | refine χ7 ?_ | refine ω8 ?_
      exact fin1 ⟨rfl, (hx014.trans hx1419).trans hx20⟩
  · intro rest
    have hxW := hxd
    have hPaW := hPa.ext (hx012.trans hxd)
    have hPbW := hPb.ext (hx012.trans hxd)
    have hdW := hd.ext (hx012.trans hxd)
    refine htwo 2 11 (by kernel_rfl) rfl rfl rfl ?_ ?_
    · repeat first | refine ω1 ?_ | refine ω2 ?_ | refine ω3 ?_ | refine ω4 ?_ | refine ω5 ?_ | refine χ1 ?_ | refine κ1 ?_ | refine κ2 ?_ | refine χ2 ?_ | refine κ3 ?_ | refine ω6 ?_ | refine ω7 ?_ | refine ω9 ?_ | refine κ4 ?_ | refine κ7 ?_ | refine κ8 ?_ | refine χ3 ?_ | refine χ4 ?_ | refine κ5 ?_ | refine κ6 ?_ | refine χ5 ?_ | refine χ6 ?_ | refine χ7 ?_ | refine ω8 ?_
      refine cl (rows47_any hPaW (by omega)) ?_
      rintro va W ⟨haW, hy⟩
      have hxW := hxW.trans hy
      have hPaW := hPaW.ext hy
      have hPbW := hPbW.ext hy
      have hdW := hdW.ext hy
      have hxOld := hxW
      refine wnil (jhback hy ?_)
      refine htwo 4 11 (by kernel_rfl) rfl rfl rfl ?_ ?_
      · repeat first | refine ω1 ?_ | refine ω2 ?_ | refine ω3 ?_ | refine ω4 ?_ | refine ω5 ?_ | refine χ1 ?_ | refine κ1 ?_ | refine κ2 ?_ | refine χ2 ?_ | refine κ3 ?_ | refine ω6 ?_ | refine ω7 ?_ | refine ω9 ?_ | refine κ4 ?_ | refine κ7 ?_ | refine κ8 ?_ | refine χ3 ?_ | refine χ4 ?_ | refine κ5 ?_ | refine κ6 ?_ | refine χ5 ?_ | refine χ6 ?_ | refine χ7 ?_ | refine ω8 ?_
        refine cl (sort47_any haW hdW (by simp; omega)) ?_
        rintro vA W ⟨⟨A, hAW, hsA, hlA⟩, hy⟩
        have hxW := hxW.trans hy
        have hPaW := hPaW.ext hy
        have hPbW := hPbW.ext hy
        have hdW := hdW.ext hy
        have haW := haW.ext hy
        have hmA : A = m := hsA.uniq hsO
        subst hmA
        have hxOld := hxW
        refine wnil (jhback hy ?_)
        refine htwo 7 11 (by kernel_rfl) rfl rfl rfl ?_ ?_
        · repeat first | refine ω1 ?_ | refine ω2 ?_ | refine ω3 ?_ | refine ω4 ?_ | refine ω5 ?_ | refine χ1 ?_ | refine κ1 ?_ | refine κ2 ?_ | refine χ2 ?_ | refine κ3 ?_ | refine ω6 ?_ | refine ω7 ?_ | refine ω9 ?_ | refine κ4 ?_ | refine κ7 ?_ | refine κ8 ?_ | refine χ3 ?_ | refine χ4 ?_ | refine κ5 ?_ | refine κ6 ?_ | refine χ5 ?_ | refine χ6 ?_ | refine χ7 ?_ | refine ω8 ?_
          refine cl (rows47_any hPbW (by omega)) ?_
          rintro vb W ⟨hbW, hy⟩
          have hxW := hxW.trans hy
          have hPaW := hPaW.ext hy
          have hPbW := hPbW.ext hy
          have hdW := hdW.ext hy
          have hAW := hAW.ext hy
          have hxOld := hxW
          refine wnil (jhback hy ?_)
          refine htwo 8 11 (by kernel_rfl) rfl rfl rfl ?_ ?_
          · repeat first | refine ω1 ?_ | refine ω2 ?_ | refine ω3 ?_ | refine ω4 ?_ | refine ω5 ?_ | refine χ1 ?_ | refine κ1 ?_ | refine κ2 ?_ | refine χ2 ?_ | refine κ3 ?_ | refine ω6 ?_ | refine ω7 ?_ | refine ω9 ?_ | refine κ4 ?_ | refine κ7 ?_ | refine κ8 ?_ | refine χ3 ?_ | refine χ4 ?_ | refine κ5 ?_ | refine κ6 ?_ | refine χ5 ?_ | refine χ6 ?_ | refine χ7 ?_ | refine ω8 ?_
            refine cl (both47_any hAW hbW) ?_
            rintro vC W ⟨hCW, hy⟩
            have hxW := hxW.trans hy
            have hPaW := hPaW.ext hy
            have hPbW := hPbW.ext hy
            have hdW := hdW.ext hy
            have hAW := hAW.ext hy
            have hbW := hbW.ext hy
            rw [hq] at hCW
            have hxOld := hxW
            refine wnil (jhback hy ?_)
            refine htwo 10 11 (by kernel_rfl) rfl rfl rfl ?_ ?_
            · repeat first | refine ω1 ?_ | refine ω2 ?_ | refine ω3 ?_ | refine ω4 ?_ | refine ω5 ?_ | refine χ1 ?_ | refine κ1 ?_ | refine κ2 ?_ | refine χ2 ?_ | refine κ3 ?_ | refine ω6 ?_ | refine ω7 ?_ | refine ω9 ?_ | refine κ4 ?_ | refine κ7 ?_ | refine κ8 ?_ | refine χ3 ?_ | refine χ4 ?_ | refine κ5 ?_ | refine κ6 ?_ | refine χ5 ?_ | refine χ6 ?_ | refine χ7 ?_ | refine ω8 ?_
              refine cl (ofRowsB hCW hdW) ?_
              rintro vP W ⟨⟨m2, B, hB, hPW, hsP, _⟩, hy⟩
              have hxW := hxW.trans hy
              have hPaW := hPaW.ext hy
              have hPbW := hPbW.ext hy
              have hdW := hdW.ext hy
              have hCW := hCW.ext hy
              have hm2 : m2 = A.filter q := hsP.uniq (filt_set hsO.1 q)
              subst hm2
              have hxOld := hxW
              refine wnil (jhback hy ?_)
              refine hpre (fuel' := 1) 8 [(1, 11)] (lst 13 12) (by kernel_rfl) (by kernel_rfl) rfl ?_
              repeat first | refine δ1 ?_ | refine δ2 ?_ | refine δ4 ?_ | refine δ5 ?_ | refine δ6 ?_ | refine δ7 ?_ | refine δ9 ?_ | refine δ8 ?_ | refine χ1 ?_ | refine χ2 ?_ | refine χ3 ?_ | refine χ4 ?_ | refine χ5 ?_ | refine χ6 ?_ | refine χ7 ?_
              refine dalc zRows ?_
              intro W bB hy hbB0 hkB
              have hPold := hPW
              have hxW := hxW.trans hy
              have hPaW := hPaW.ext hy
              have hPbW := hPbW.ext hy
              have hdW := hdW.ext hy
              have hPW := hPW.ext hy
              have hbB : w12.heap.size ≤ bB := by have := hxOld.size; omega
              refine dnil (hback ?_)
              exact rest (bB, vP) _ _ ⟨hxW, hkB, hbB, fun w' hg => hPold.a.ext (grown_ext hy hg (fun k e => by injection e with e; omega))⟩ (by repeat' (first | exact Sub.nil | refine Sub.cons rfl ?_))
            · repeat first | refine ω1 ?_ | refine ω2 ?_ | refine ω3 ?_ | refine ω4 ?_ | refine ω5 ?_ | refine χ1 ?_ | refine κ1 ?_ | refine κ2 ?_ | refine χ2 ?_ | refine κ3 ?_ | refine ω6 ?_ | refine ω7 ?_ | refine ω9 ?_ | refine κ4 ?_ | refine κ7 ?_ | refine κ8 ?_ | refine χ3 ?_ | refine χ4 ?_ | refine κ5 ?_ | refine κ6 ?_ | refine χ5 ?_ | refine χ6 ?_ | refine χ7 ?_ | refine ω8 ?_
              refine alc (cs := [.slice none 0 0, .slice none 0 0]) zRows ?_
              intro W bB hy hbB hkB
              have hbB : w12.heap.size ≤ bB := by have := hxW.size; omega
              have hxW := hxW.trans hy
              have hPaW := hPaW.ext hy
              have hPbW := hPbW.ext hy
              have hdW := hdW.ext hy
              have hCW := hCW.ext hy
              refine wnil (jhback hy ?_)
              refine hpre (fuel' := 1) 8 [(1, 10)] (lst 13 12) (by kernel_rfl) (by kernel_rfl) rfl ?_
              repeat first | refine δ1 ?_ | refine δ2 ?_ | refine δ4 ?_ | refine δ5 ?_ | refine δ6 ?_ | refine δ7 ?_ | refine δ9 ?_ | refine δ8 ?_ | refine χ1 ?_ | refine χ2 ?_ | refine χ3 ?_ | refine χ4 ?_ | refine χ5 ?_ | refine χ6 ?_ | refine χ7 ?_
              have hltB := hkB.lt
              refine dcl (ofRowsB hCW hdW) ?_
              rintro vP W ⟨⟨m2, B, hB, hPW, hsP, _⟩, hy⟩
              refine ⟨hy, ?_⟩
              have hxW := hxW.trans hy
              have hPaW := hPaW.ext hy
              have hPbW := hPbW.ext hy
              have hdW := hdW.ext hy
              have hCW := hCW.ext hy
              have hkB := hkB.ext hy
              have hm2 : m2 = A.filter q := hsP.uniq (filt_set hsO.1 q)
              subst hm2
              refine dnil (hback ?_)
              exact rest (bB, vP) _ _ ⟨hxW, hkB, hbB, fun w' hg => (hPW.grown hg (by omega)).a⟩ (by repeat' (first | exact Sub.nil | refine Sub.cons rfl ?_))
          · repeat first | refine ω1 ?_ | refine ω2 ?_ | refine ω3 ?_ | refine ω4 ?_ | refine ω5 ?_ | refine χ1 ?_ | refine κ1 ?_ | refine κ2 ?_ | refine χ2 ?_ | refine κ3 ?_ | refine ω6 ?_ | refine ω7 ?_ | refine ω9 ?_ | refine κ4 ?_ | refine κ7 ?_ | refine κ8 ?_ | refine χ3 ?_ | refine χ4 ?_ | refine κ5 ?_ | refine κ6 ?_ | refine χ5 ?_ | refine χ6 ?_ | refine χ7 ?_ | refine ω8 ?_
            refine alc (cs := [.slice none 0 0, .slice none 0 0]) zRows ?_
            intro W bB hy hbB hkB
            have hbB : w12.heap.size ≤ bB := by have := hxW.size; omega
            have hxW := hxW.trans hy
            have hPaW := hPaW.ext hy
            have hPbW := hPbW.ext hy
            have hdW := hdW.ext hy
            have hAW := hAW.ext hy
            have hbW := hbW.ext hy
            refine wnil (jhback hy ?_)
            refine hpre (fuel' := 1) 8 [(1, 8), (1, 10)] (lst 13 12) (by kernel_rfl) (by kernel_rfl) rfl ?_
            repeat first | refine δ1 ?_ | refine δ2 ?_ | refine δ4 ?_ | refine δ5 ?_ | refine δ6 ?_ | refine δ7 ?_ | refine δ9 ?_ | refine δ8 ?_ | refine χ1 ?_ | refine χ2 ?_ | refine χ3 ?_ | refine χ4 ?_ | refine χ5 ?_ | refine χ6 ?_ | refine χ7 ?_
            refine dcl (both47_any hAW hbW) ?_
            rintro vC W ⟨hCW, hy⟩
            refine ⟨hy, ?_⟩
            have hxW := hxW.trans hy
            have hPaW := hPaW.ext hy
            have hPbW := hPbW.ext hy
            have hdW := hdW.ext hy
            have hAW := hAW.ext hy
            have hbW := hbW.ext hy
            have hkB := hkB.ext hy
            rw [hq] at hCW
            repeat first | refine δ1 ?_ | refine δ2 ?_ | refine δ4 ?_ | refine δ5 ?_ | refine δ6 ?_ | refine δ7 ?_ | refine δ9 ?_ | refine δ8 ?_ | refine χ1 ?_ | refine χ2 ?_ | refine χ3 ?_ | refine χ4 ?_ | refine χ5 ?_ | refine χ6 ?_ | refine χ7 ?_
            have hltB := hkB.lt
            refine dcl (ofRowsB hCW hdW) ?_
            rintro vP W ⟨⟨m2, B, hB, hPW, hsP, _⟩, hy⟩
            refine ⟨hy, ?_⟩
            have hxW := hxW.trans hy
            have hPaW := hPaW.ext hy
            have hPbW := hPbW.ext hy
            have hdW := hdW.ext hy
            have hCW := hCW.ext hy
            have hkB := hkB.ext hy
            have hm2 : m2 = A.filter q := hsP.uniq (filt_set hsO.1 q)
            subst hm2
            refine dnil (hback ?_)
            exact rest (bB, vP) _ _ ⟨hxW, hkB, hbB, fun w' hg => (hPW.grown hg (by omega)).a⟩ (by repeat' (first | exact Sub.nil | refine Sub.cons rfl ?_))
        · repeat first | refine ω1 ?_ | refine ω2 ?_ | refine ω3 ?_ | refine ω4 ?_ | refine ω5 ?_ | refine χ1 ?_ | refine κ1 ?_ | refine κ2 ?_ | refine χ2 ?_ | refine κ3 ?_ | refine ω6 ?_ | refine ω7 ?_ | refine ω9 ?_ | refine κ4 ?_ | refine κ7 ?_ | refine κ8 ?_ | refine χ3 ?_ | refine χ4 ?_ | refine κ5 ?_ | refine κ6 ?_ | refine χ5 ?_ | refine χ6 ?_ | refine χ7 ?_ | refine ω8 ?_
          refine alc (cs := [.slice none 0 0, .slice none 0 0]) zRows ?_
          intro W bB hy hbB hkB
          have hbB : w12.heap.size ≤ bB := by have := hxW.size; omega
          have hxW := hxW.trans hy
          have hPaW := hPaW.ext hy
          have hPbW := hPbW.ext hy
          have hdW := hdW.ext hy
          have hAW := hAW.ext hy
          refine wnil (jhback hy ?_)
          refine hpre (fuel' := 1) 8 [(1, 7), (1, 8), (1, 10)] (lst 13 12) (by kernel_rfl) (by kernel_rfl) rfl ?_
          repeat first | refine δ1 ?_ | refine δ2 ?_ | refine δ4 ?_ | refine δ5 ?_ | refine δ6 ?_ | refine δ7 ?_ | refine δ9 ?_ | refine δ8 ?_ | refine χ1 ?_ | refine χ2 ?_ | refine χ3 ?_ | refine χ4 ?_ | refine χ5 ?_ | refine χ6 ?_ | refine χ7 ?_
          refine dcl (rows47_any hPbW (by omega)) ?_
          rintro vb W ⟨hbW, hy⟩
          refine ⟨hy, ?_⟩
          have hxW := hxW.trans hy
          have hPaW := hPaW.ext hy
          have hPbW := hPbW.ext hy
          have hdW := hdW.ext hy
          have hAW := hAW.ext hy
          have hkB := hkB.ext hy
          repeat first | refine δ1 ?_ | refine δ2 ?_ | refine δ4 ?_ | refine δ5 ?_ | refine δ6 ?_ | refine δ7 ?_ | refine δ9 ?_ | refine δ8 ?_ | refine χ1 ?_ | refine χ2 ?_ | refine χ3 ?_ | refine χ4 ?_ | refine χ5 ?_ | refine χ6 ?_ | refine χ7 ?_
          refine dcl (both47_any hAW hbW) ?_
          rintro vC W ⟨hCW, hy⟩
          refine ⟨hy, ?_⟩
          have hxW := hxW.trans hy
          have hPaW := hPaW.ext hy
          have hPbW := hPbW.ext hy
          have hdW := hdW.ext hy
          have hAW := hAW.ext hy
          have hbW := hbW.ext hy
          have hkB := hkB.ext hy
          rw [hq] at hCW
          repeat first | refine δ1 ?_ | refine δ2 ?_ | refine δ4 ?_ | refine δ5 ?_ | refine δ6 ?_ | refine δ7 ?_ | refine δ9 ?_ | refine δ8 ?_ | refine χ1 ?_ | refine χ2 ?_ | refine χ3 ?_ | refine χ4 ?_ | refine χ5 ?_ | refine χ6 ?_ | refine χ7 ?_
          have hltB := hkB.lt
          refine dcl (ofRowsB hCW hdW) ?_
          rintro vP W ⟨⟨m2, B, hB, hPW, hsP, _⟩, hy⟩
          refine ⟨hy, ?_⟩
          have hxW := hxW.trans hy
          have hPaW := hPaW.ext hy
          have hPbW := hPbW.ext hy
          have hdW := hdW.ext hy
          have hCW := hCW.ext hy
          have hkB := hkB.ext hy
          have hm2 : m2 = A.filter q := hsP.uniq (filt_set hsO.1 q)
          subst hm2
          refine dnil (hback ?_)
          exact rest (bB, vP) _ _ ⟨hxW, hkB, hbB, fun w' hg => (hPW.grown hg (by omega)).a⟩ (by repeat' (first | exact Sub.nil | refine Sub.cons rfl ?_))
      · repeat first | refine ω1 ?_ | refine ω2 ?_ | refine ω3 ?_ | refine ω4 ?_ | refine ω5 ?_ | refine χ1 ?_ | refine κ1 ?_ | refine κ2 ?_ | refine χ2 ?_ | refine κ3 ?_ | refine ω6 ?_ | refine ω7 ?_ | refine ω9 ?_ | refine κ4 ?_ | refine κ7 ?_ | refine κ8 ?_ | refine χ3 ?_ | refine χ4 ?_ | refine κ5 ?_ | refine κ6 ?_ | refine χ5 ?_ | refine χ6 ?_ | refine χ7 ?_ | refine ω8 ?_
        refine alc (cs := [.slice none 0 0, .slice none 0 0]) zRows ?_
        intro W bB hy hbB hkB
        have hbB : w12.heap.size ≤ bB := by have := hxW.size; omega
        have hxW := hxW.trans hy
        have hPaW := hPaW.ext hy
        have hPbW := hPbW.ext hy
        have hdW := hdW.ext hy
        have haW := haW.ext hy
        refine wnil (jhback hy ?_)
        refine hpre (fuel' := 1) 8 [(1, 4), (1, 7), (1, 8), (1, 10)] (lst 13 12) (by kernel_rfl) (by kernel_rfl) rfl ?_
        repeat first | refine δ1 ?_ | refine δ2 ?_ | refine δ4 ?_ | refine δ5 ?_ | refine δ6 ?_ | refine δ7 ?_ | refine δ9 ?_ | refine δ8 ?_ | refine χ1 ?_ | refine χ2 ?_ | refine χ3 ?_ | refine χ4 ?_ | refine χ5 ?_ | refine χ6 ?_ | refine χ7 ?_
        refine dcl (sort47_any haW hdW (by simp; omega)) ?_
        rintro vA W ⟨⟨A, hAW, hsA, hlA⟩, hy⟩
        refine ⟨hy, ?_⟩
        have hxW := hxW.trans hy
        have hPaW := hPaW.ext hy
        have hPbW := hPbW.ext hy
        have hdW := hdW.ext hy
        have haW := haW.ext hy
        have hkB := hkB.ext hy
        have hmA : A = m := hsA.uniq hsO
        subst hmA
        repeat first | refine δ1 ?_ | refine δ2 ?_ | refine δ4 ?_ | refine δ5 ?_ | refine δ6 ?_ | refine δ7 ?_ | refine δ9 ?_ | refine δ8 ?_ | refine χ1 ?_ | refine χ2 ?_ | refine χ3 ?_ | refine χ4 ?_ | refine χ5 ?_ | refine χ6 ?_ | refine χ7 ?_
        refine dcl (rows47_any hPbW (by omega)) ?_
        rintro vb W ⟨hbW, hy⟩
        refine ⟨hy, ?_⟩
        have hxW := hxW.trans hy
        have hPaW := hPaW.ext hy
        have hPbW := hPbW.ext hy
        have hdW := hdW.ext hy
        have hAW := hAW.ext hy
        have hkB := hkB.ext hy
        repeat first | refine δ1 ?_ | refine δ2 ?_ | refine δ4 ?_ | refine δ5 ?_ | refine δ6 ?_ | refine δ7 ?_ | refine δ9 ?_ | refine δ8 ?_ | refine χ1 ?_ | refine χ2 ?_ | refine χ3 ?_ | refine χ4 ?_ | refine χ5 ?_ | refine χ6 ?_ | refine χ7 ?_
        refine dcl (both47_any hAW hbW) ?_
        rintro vC W ⟨hCW, hy⟩
        refine ⟨hy, ?_⟩
        have hxW := hxW.trans hy
        have hPaW := hPaW.ext hy
        have hPbW := hPbW.ext hy
        have hdW := hdW.ext hy
        have hAW := hAW.ext hy
        have hbW := hbW.ext hy
        have hkB := hkB.ext hy
        rw [hq] at hCW
        repeat first | refine δ1 ?_ | refine δ2 ?_ | refine δ4 ?_ | refine δ5 ?_ | refine δ6 ?_ | refine δ7 ?_ | refine δ9 ?_ | refine δ8 ?_ | refine χ1 ?_ | refine χ2 ?_ | refine χ3 ?_ | refine χ4 ?_ | refine χ5 ?_ | refine χ6 ?_ | refine χ7 ?_
        have hltB := hkB.lt
        refine dcl (ofRowsB hCW hdW) ?_
        rintro vP W ⟨⟨m2, B, hB, hPW, hsP, _⟩, hy⟩
        refine ⟨hy, ?_⟩
        have hxW := hxW.trans hy
        have hPaW := hPaW.ext hy
        have hPbW := hPbW.ext hy
        have hdW := hdW.ext hy
        have hCW := hCW.ext hy
        have hkB := hkB.ext hy
        have hm2 : m2 = A.filter q := hsP.uniq (filt_set hsO.1 q)
        subst hm2
        refine dnil (hback ?_)
        exact rest (bB, vP) _ _ ⟨hxW, hkB, hbB, fun w' hg => (hPW.grown hg (by omega)).a⟩ (by repeat' (first | exact Sub.nil | refine Sub.cons rfl ?_))
    · repeat first | refine ω1 ?_ | refine ω2 ?_ | refine ω3 ?_ | refine ω4 ?_ | refine ω5 ?_ | refine χ1 ?_ | refine κ1 ?_ | refine κ2 ?_ | refine χ2 ?_ | refine κ3 ?_ | refine ω6 ?_ | refine ω7 ?_ | refine ω9 ?_ | refine κ4 ?_ | refine κ7 ?_ | refine κ8 ?_ | refine χ3 ?_ | refine χ4 ?_ | refine κ5 ?_ | refine κ6 ?_ | refine χ5 ?_ | refine χ6 ?_ | refine χ7 ?_ | refine ω8 ?_
      refine alc (cs := [.slice none 0 0, .slice none 0 0]) zRows ?_
      intro W bB hy hbB hkB
      have hbB : w12.heap.size ≤ bB := by have := hxW.size; omega
      have hxW := hxW.trans hy
      have hPaW := hPaW.ext hy
      have hPbW := hPbW.ext hy
      have hdW := hdW.ext hy
      refine wnil (jhback hy ?_)
      refine hpre (fuel' := 1) 8 [(1, 2), (1, 4), (1, 7), (1, 8), (1, 10)] (lst 13 12) (by kernel_rfl) (by kernel_rfl) rfl ?_
      repeat first | refine δ1 ?_ | refine δ2 ?_ | refine δ4 ?_ | refine δ5 ?_ | refine δ6 ?_ | refine δ7 ?_ | refine δ9 ?_ | refine δ8 ?_ | refine χ1 ?_ | refine χ2 ?_ | refine χ3 ?_ | refine χ4 ?_ | refine χ5 ?_ | refine χ6 ?_ | refine χ7 ?_
      refine dcl (rows47_any hPaW (by omega)) ?_
      rintro va W ⟨haW, hy⟩
      refine ⟨hy, ?_⟩
      have hxW := hxW.trans hy
      have hPaW := hPaW.ext hy
      have hPbW := hPbW.ext hy
      have hdW := hdW.ext hy
      have hkB := hkB.ext hy
      repeat first | refine δ1 ?_ | refine δ2 ?_ | refine δ4 ?_ | refine δ5 ?_ | refine δ6 ?_ | refine δ7 ?_ | refine δ9 ?_ | refine δ8 ?_ | refine χ1 ?_ | refine χ2 ?_ | refine χ3 ?_ | refine χ4 ?_ | refine χ5 ?_ | refine χ6 ?_ | refine χ7 ?_
      refine dcl (sort47_any haW hdW (by simp; omega)) ?_
      rintro vA W ⟨⟨A, hAW, hsA, hlA⟩, hy⟩
      refine ⟨hy, ?_⟩
      have hxW := hxW.trans hy
      have hPaW := hPaW.ext hy
      have hPbW := hPbW.ext hy
      have hdW := hdW.ext hy
      have haW := haW.ext hy
      have hkB := hkB.ext hy
      have hmA : A = m := hsA.uniq hsO
      subst hmA
      repeat first | refine δ1 ?_ | refine δ2 ?_ | refine δ4 ?_ | refine δ5 ?_ | refine δ6 ?_ | refine δ7 ?_ | refine δ9 ?_ | refine δ8 ?_ | refine χ1 ?_ | refine χ2 ?_ | refine χ3 ?_ | refine χ4 ?_ | refine χ5 ?_ | refine χ6 ?_ | refine χ7 ?_
      refine dcl (rows47_any hPbW (by omega)) ?_
      rintro vb W ⟨hbW, hy⟩
      refine ⟨hy, ?_⟩
      have hxW := hxW.trans hy
      have hPaW := hPaW.ext hy
      have hPbW := hPbW.ext hy
      have hdW := hdW.ext hy
      have hAW := hAW.ext hy
      have hkB := hkB.ext hy
      repeat first | refine δ1 ?_ | refine δ2 ?_ | refine δ4 ?_ | refine δ5 ?_ | refine δ6 ?_ | refine δ7 ?_ | refine δ9 ?_ | refine δ8 ?_ | refine χ1 ?_ | refine χ2 ?_ | refine χ3 ?_ | refine χ4 ?_ | refine χ5 ?_ | refine χ6 ?_ | refine χ7 ?_
      refine dcl (both47_any hAW hbW) ?_
      rintro vC W ⟨hCW, hy⟩
      refine ⟨hy, ?_⟩
      have hxW := hxW.trans hy
      have hPaW := hPaW.ext hy
      have hPbW := hPbW.ext hy
      have hdW := hdW.ext hy
      have hAW := hAW.ext hy
      have hbW := hbW.ext hy
      have hkB := hkB.ext hy
      rw [hq] at hCW
      repeat first | refine δ1 ?_ | refine δ2 ?_ | refine δ4 ?_ | refine δ5 ?_ | refine δ6 ?_ | refine δ7 ?_ | refine δ9 ?_ | refine δ8 ?_ | refine χ1 ?_ | refine χ2 ?_ | refine χ3 ?_ | refine χ4 ?_ | refine χ5 ?_ | refine χ6 ?_ | refine χ7 ?_
      have hltB := hkB.lt
      refine dcl (ofRowsB hCW hdW) ?_
      rintro vP W ⟨⟨m2, B, hB, hPW, hsP, _⟩, hy⟩
      refine ⟨hy, ?_⟩
      have hxW := hxW.trans hy
      have hPaW := hPaW.ext hy
      have hPbW := hPbW.ext hy
      have hdW := hdW.ext hy
      have hCW := hCW.ext hy
      have hkB := hkB.ext hy
      have hm2 : m2 = A.filter q := hsP.uniq (filt_set hsO.1 q)
      subst hm2
      refine dnil (hback ?_)
      exact rest (bB, vP) _ _ ⟨hxW, hkB, hbB, fun w' hg => (hPW.grown hg (by omega)).a⟩ (by repeat' (first | exact Sub.nil | refine Sub.cons rfl ?_))
end Go.Proofs.Ytpahjnfolbnloaa
