/- The readers of difference.Changes. -/
import Derived.Test.YtpahjnfolbnloaaLaw7
import Derived.Test.YtpahjnfolbnloaaLaw6
set_option linter.unusedVariables false
namespace Go.Proofs.Ytpahjnfolbnloaa
open Go.RowKit Pl Go.Wk
attribute [local irreducible] WC WL QX WD WDB WP WG
theorem GrN.mono {N N' : Nat → Prop} {w w' : World} (h : GrN N w w') (hN : ∀ k, N k → N' k) : GrN N' w w' := ⟨h.os, h.tape, h.output, h.size, fun k hk hn => h.block k hk (fun e => hn (hN k e))⟩
/-- a natural number whose memory, if any, lies off some blocks -/
def NatY (w : World) (N : Nat → Prop) (v : Value) (n : Nat) : Prop := NatV w v n ∧ (n ≠ 0 → ∀ ad m c, v = .slice (some ad) m c → ¬ N ad.block)
theorem NatX.y {w : World} {N : Nat → Prop} {v : Value} {n : Nat} (h : NatX w N v n) : NatY w N v n := ⟨h.1, fun _ => h.2⟩
theorem NatY.ext {N : Nat → Prop} {w w' : World} {v : Value} {n : Nat} (h : NatY w N v n) (hx : Ext w w') : NatY w' N v n := ⟨h.1.ext hx, h.2⟩
theorem NatY.gr {N : Nat → Prop} {w w' : World} {v : Value} {n : Nat} (h : NatY w N v n) (hg : GrN N w w') : NatY w' N v n := by
  obtain ⟨⟨A, c, rfl, h2, h3, h4⟩, h5⟩ := h
  refine ⟨⟨A, c, rfl, h2, h3, ?_⟩, h5⟩
  by_cases h0 : n = 0
  · subst h0; rw [limbs_0] at h4 ⊢; exact Rd.nil
  · exact rdGr h4 hg (fun ad e => h5 h0 ad _ _ (by rw [e]))
/-- other blocks, too: old ones of before, or new ones -/
theorem NatY.re {N N' : Nat → Prop} {w w' : World} {v : Value} {n : Nat} (h : NatY w N v n) (h' : NatV w' v n) (hN : ∀ k, N' k → N k ∨ w.heap.size ≤ k) : NatY w' N' v n := by
  refine ⟨h', fun h0 ad m c e hk => ?_⟩
  rcases hN _ hk with h1 | h1
  · exact h.2 h0 ad m c e h1
  · obtain ⟨⟨A, c', e2, _, _, hr⟩, _⟩ := h
    subst e2
    injection e with e3 _ _
    subst e3
    obtain ⟨ad', e4, hb, _⟩ := hr.2 (by
      obtain ⟨l, x, hl, _⟩ := limbs_last h0
      rw [hl]; simp [Nc])
    injection e4 with e4
    subst e4
    omega
theorem NatV.y {N : Nat → Prop} {w : World} {v : Value} {n : Nat} (h : NatV w v n) (hN : ∀ k, N k → w.heap.size ≤ k) : NatY w N v n := NatY.re (N := fun _ => False) ⟨h, fun _ _ _ _ _ hk => hk⟩ h (fun k hk => .inr (hN k hk))
theorem RowX.re {N N' : Nat → Prop} {w w' : World} {v : Value} {r : List V} (h : RowX w N v r) (h' : RowX w' N v r) (hN : ∀ k, N' k → N k ∨ w.heap.size ≤ k) : RowX w' N' v r := by
  obtain ⟨A, c, rfl, h2, h3, h4, h5⟩ := h
  obtain ⟨A', c', e, g2, g3, g4, g5⟩ := h'
  injection e with e1 _ e2
  subst e1; subst e2
  refine ⟨A, c, rfl, g2, g3, g4, fun h0 ad e hk => ?_⟩
  rcases hN _ hk with h1 | h1
  · exact h5 h0 ad e h1
  · have hl : 0 < r.length := List.length_pos_iff.2 h0
    obtain ⟨ad', e4, hb⟩ := Rd.isome h4 hl (by omega)
    rw [e] at e4
    injection e4 with e4
    subst e4
    omega
/-- a reader at a position; its row may be anything -/
def RdrP (w : World) (N : Nat → Prop) (b : Nat) (va : Value) (L : List Row) (p : Nat) (vr : Value) : Prop :=
  ∃ vn vp, Blk w b 120 [va, vn, vp, vr] ∧ NatY w N vn L.length ∧ NatY w N vp p ∧ vr.oneCell' = true
/-- a reader that holds its row -/
def Rdr (w : World) (N : Nat → Prop) (b : Nat) (va : Value) (L : List Row) (p : Nat) : Prop := ∃ vr, RdrP w N b va L p vr ∧ (p < L.length → RowX w N vr (L.getD p []))
theorem RdrP.ext {w w' : World} {N : Nat → Prop} {b : Nat} {va : Value} {L : List Row} {p : Nat} {vr : Value} (h : RdrP w N b va L p vr) (hx : Ext w w') : RdrP w' N b va L p vr := by
  obtain ⟨vn, vp, h1, h2, h3, h4⟩ := h; exact ⟨vn, vp, h1.ext hx, h2.ext hx, h3.ext hx, h4⟩
theorem Rdr.ext {w w' : World} {N : Nat → Prop} {b : Nat} {va : Value} {L : List Row} {p : Nat} (h : Rdr w N b va L p) (hx : Ext w w') : Rdr w' N b va L p := by
  obtain ⟨vr, h1, h2⟩ := h; exact ⟨vr, h1.ext hx, fun hp => (h2 hp).ext hx⟩
theorem RdrP.gr {w w' : World} {N : Nat → Prop} {b b' : Nat} {va : Value} {L : List Row} {p : Nat} {vr : Value} (h : RdrP w N b va L p vr) (hg : GrN (fun k => k = b') w w') (hn : N b') (hne : b ≠ b') : RdrP w' N b va L p vr := by
  obtain ⟨vn, vp, h1, h2, h3, h4⟩ := h
  have hg' : GrN N w w' := hg.mono (fun k e => e ▸ hn)
  exact ⟨vn, vp, blkGr h1 hg hne, h2.gr hg', h3.gr hg', h4⟩
theorem Rdr.gr {w w' : World} {N : Nat → Prop} {b b' : Nat} {va : Value} {L : List Row} {p : Nat} (h : Rdr w N b va L p) (hg : GrN (fun k => k = b') w w') (hn : N b') (hne : b ≠ b') : Rdr w' N b va L p := by
  obtain ⟨vr, h1, h2⟩ := h; exact ⟨vr, h1.gr hg hn hne, fun hp => (h2 hp).gr (hg.mono (fun k e => e ▸ hn))⟩
set_option maxRecDepth 100000 in
theorem rdDone_any {w : World} {N : Nat → Prop} {b : Nat} {va : Value} {L : List Row} {p : Nat} {vr : Value} (h : RdrP w N b va L p vr) : Ret Try.prog 71 [.pointer (some ⟨b, 0, none⟩)] w fun x w' => x = .bool (decide (L.length ≤ p)) ∧ Ext w w' := by
  obtain ⟨vn, vp, h1, h2, h3, h4⟩ := h
  refine enterR Try.func71 Try.ntmps71 rfl (by kernel_rfl) rfl ?_
  have hxd : Ext w w.drew := (Ext.refl w).drew
  repeat first | refine ω1 ?_ | refine ω2 ?_ | refine ω3 ?_ | refine ω4 ?_ | refine ω5 ?_ | refine χ1 ?_ | refine κ1 ?_ | refine κ2 ?_ | refine χ2 ?_ | refine κ3 ?_ | refine ω6 ?_ | refine ω7 ?_ | refine ω9 ?_ | refine κ4 ?_ | refine κ7 ?_ | refine κ8 ?_ | refine χ3 ?_ | refine χ4 ?_ | refine κ5 ?_ | refine κ6 ?_ | refine χ5 ?_ | refine χ6 ?_ | refine χ7 ?_ | refine ω8 ?_
  refine dr [(0, 0), (0, 1), (0, 2), (0, 3), (0, 4), (0, 5), (0, 6), (0, 7), (1, 8), (0, 9), (0, 10)] (by kernel_rfl) ?_
  repeat first | refine δ1 ?_ | refine δ2 ?_ | refine δ4 ?_ | refine δ5 ?_ | refine δ6 ?_ | refine δ7 ?_ | refine δ9 ?_ | refine δ8 ?_ | refine χ1 ?_ | refine χ2 ?_ | refine χ3 ?_ | refine χ4 ?_ | refine χ5 ?_ | refine χ6 ?_ | refine χ7 ?_
  refine dld ((h1.ext hxd).at rfl) ?_
  repeat first | refine δ1 ?_ | refine δ2 ?_ | refine δ4 ?_ | refine δ5 ?_ | refine δ6 ?_ | refine δ7 ?_ | refine δ9 ?_ | refine δ8 ?_ | refine χ1 ?_ | refine χ2 ?_ | refine χ3 ?_ | refine χ4 ?_ | refine χ5 ?_ | refine χ6 ?_ | refine χ7 ?_
  refine dld ((h1.ext hxd).at rfl) ?_
  repeat first | refine δ1 ?_ | refine δ2 ?_ | refine δ4 ?_ | refine δ5 ?_ | refine δ6 ?_ | refine δ7 ?_ | refine δ9 ?_ | refine δ8 ?_ | refine χ1 ?_ | refine χ2 ?_ | refine χ3 ?_ | refine χ4 ?_ | refine χ5 ?_ | refine χ6 ?_ | refine χ7 ?_
  refine dcl (natCmp_any (h3.1.ext hxd) (h2.1.ext hxd)) ?_
  rintro _ w2 ⟨rfl, hx2⟩
  refine ⟨hx2, ?_⟩
  repeat first | refine δ1 ?_ | refine δ2 ?_ | refine δ4 ?_ | refine δ5 ?_ | refine δ6 ?_ | refine δ7 ?_ | refine δ9 ?_ | refine δ8 ?_ | refine χ1 ?_ | refine χ2 ?_ | refine χ3 ?_ | refine χ4 ?_ | refine χ5 ?_ | refine χ6 ?_ | refine χ7 ?_
  repeat first | refine ω1 ?_ | refine ω2 ?_ | refine ω3 ?_ | refine ω4 ?_ | refine ω5 ?_ | refine χ1 ?_ | refine κ1 ?_ | refine κ2 ?_ | refine χ2 ?_ | refine κ3 ?_ | refine ω6 ?_ | refine ω7 ?_ | refine ω9 ?_ | refine κ4 ?_ | refine κ7 ?_ | refine κ8 ?_ | refine χ3 ?_ | refine χ4 ?_ | refine κ5 ?_ | refine κ6 ?_ | refine χ5 ?_ | refine χ6 ?_ | refine χ7 ?_ | refine ω8 ?_
  refine fin1 ⟨?_, hxd.trans hx2⟩
  congr 1
  rw [Bool.eq_iff_iff, decide_eq_true_iff, decide_eq_true_iff]
  exact cmpN_ge
set_option maxRecDepth 100000 in
theorem rdLoad_any {w0 w : World} {N : Nat → Prop} {b : Nat} {va : Value} {L : List Row} {R : Row → Nat} {B : Nat} {S : Row → Prop} {p : Nat} {vr : Value} (ha : ArrO w0 va L R B S) (hx : Ext w0 w) (hN : ∀ k, N k → w0.heap.size ≤ k ∧ k < w.heap.size) (hb : N b) (h : RdrP w N b va L p vr) :
    Ret Try.prog 70 [.pointer (some ⟨b, 0, none⟩)] w fun x w' => x = .int .i64 0 ∧ GrN (fun k => k = b) w w' ∧ Rdr w' N b va L p := by
  have hsm := ha.small
  refine enterR Try.func70 Try.ntmps70 rfl (by kernel_rfl) rfl ?_
  repeat first | refine ω1 ?_ | refine ω2 ?_ | refine ω3 ?_ | refine ω4 ?_ | refine ω5 ?_ | refine χ1 ?_ | refine κ1 ?_ | refine κ2 ?_ | refine χ2 ?_ | refine κ3 ?_ | refine ω6 ?_ | refine ω7 ?_ | refine ω9 ?_ | refine κ4 ?_ | refine κ7 ?_ | refine κ8 ?_ | refine χ3 ?_ | refine χ4 ?_ | refine κ5 ?_ | refine κ6 ?_ | refine χ5 ?_ | refine χ6 ?_ | refine χ7 ?_ | refine ω8 ?_
  refine cl (rdDone_any h) ?_
  rintro _ w1 ⟨rfl, hx1⟩
  repeat first | refine ω1 ?_ | refine ω2 ?_ | refine ω3 ?_ | refine ω4 ?_ | refine ω5 ?_ | refine χ1 ?_ | refine κ1 ?_ | refine κ2 ?_ | refine χ2 ?_ | refine κ3 ?_ | refine ω6 ?_ | refine ω7 ?_ | refine ω9 ?_ | refine κ4 ?_ | refine κ7 ?_ | refine κ8 ?_ | refine χ3 ?_ | refine χ4 ?_ | refine κ5 ?_ | refine κ6 ?_ | refine χ5 ?_ | refine χ6 ?_ | refine χ7 ?_ | refine ω8 ?_
  refine ci (fun hd => ?_) (fun hd => ?_)
  · repeat first | refine ω1 ?_ | refine ω2 ?_ | refine ω3 ?_ | refine ω4 ?_ | refine ω5 ?_ | refine χ1 ?_ | refine κ1 ?_ | refine κ2 ?_ | refine χ2 ?_ | refine κ3 ?_ | refine ω6 ?_ | refine ω7 ?_ | refine ω9 ?_ | refine κ4 ?_ | refine κ7 ?_ | refine κ8 ?_ | refine χ3 ?_ | refine χ4 ?_ | refine κ5 ?_ | refine κ6 ?_ | refine χ5 ?_ | refine χ6 ?_ | refine χ7 ?_ | refine ω8 ?_
    exact fin1 ⟨rfl, GrN.ext hx1, vr, h.ext hx1, fun hp => by have := of_decide_eq_true hd; omega⟩
  have hlt : p < L.length := by have := of_decide_eq_false hd; omega
  have h1 := h.ext hx1
  obtain ⟨vn, vp, hk, hn, hp, ho⟩ := id h1
  obtain ⟨f, rv, m, hA⟩ := ha.at_
  obtain ⟨ta, xa, rfl⟩ := ha.form
  have hxd : Ext w1 w1.drew := (Ext.refl w1).drew
  repeat first | refine ω1 ?_ | refine ω2 ?_ | refine ω3 ?_ | refine ω4 ?_ | refine ω5 ?_ | refine χ1 ?_ | refine κ1 ?_ | refine κ2 ?_ | refine χ2 ?_ | refine κ3 ?_ | refine ω6 ?_ | refine ω7 ?_ | refine ω9 ?_ | refine κ4 ?_ | refine κ7 ?_ | refine κ8 ?_ | refine χ3 ?_ | refine χ4 ?_ | refine κ5 ?_ | refine κ6 ?_ | refine χ5 ?_ | refine χ6 ?_ | refine χ7 ?_ | refine ω8 ?_
  have hx0d := (hx.trans hx1).trans hxd
  refine dr [(0, 0), (0, 1), (0, 2), (0, 3), (0, 4), (0, 5), (0, 6), (0, 7), (0, 8), (0, 9), (1, 10), (0, 11), (0, 12), (0, 13), (0, 14), (0, 15), (0, 16), (0, 17)] (by kernel_rfl) ?_
  repeat first | refine δ1 ?_ | refine δ2 ?_ | refine δ4 ?_ | refine δ5 ?_ | refine δ6 ?_ | refine δ7 ?_ | refine δ9 ?_ | refine δ8 ?_ | refine χ1 ?_ | refine χ2 ?_ | refine χ3 ?_ | refine χ4 ?_ | refine χ5 ?_ | refine χ6 ?_ | refine χ7 ?_
  refine dld ((hk.ext hxd).at rfl) ?_
  repeat first | refine δ1 ?_ | refine δ2 ?_ | refine δ4 ?_ | refine δ5 ?_ | refine δ6 ?_ | refine δ7 ?_ | refine δ9 ?_ | refine δ8 ?_ | refine χ1 ?_ | refine χ2 ?_ | refine χ3 ?_ | refine χ4 ?_ | refine χ5 ?_ | refine χ6 ?_ | refine χ7 ?_
  refine dld ((hk.ext hxd).at rfl) ?_
  repeat first | refine δ1 ?_ | refine δ2 ?_ | refine δ4 ?_ | refine δ5 ?_ | refine δ6 ?_ | refine δ7 ?_ | refine δ9 ?_ | refine δ8 ?_ | refine χ1 ?_ | refine χ2 ?_ | refine χ3 ?_ | refine χ4 ?_ | refine χ5 ?_ | refine χ6 ?_ | refine χ7 ?_
  refine dnci ?_
  repeat first | refine δ1 ?_ | refine δ2 ?_ | refine δ4 ?_ | refine δ5 ?_ | refine δ6 ?_ | refine δ7 ?_ | refine δ9 ?_ | refine δ8 ?_ | refine χ1 ?_ | refine χ2 ?_ | refine χ3 ?_ | refine χ4 ?_ | refine χ5 ?_ | refine χ6 ?_ | refine χ7 ?_
  refine dinv m (hA w1.drew hx0d N (fun k hk => ⟨(hN k hk).1, Nat.lt_of_lt_of_le (hN k hk).2 (hx1.trans hxd).size⟩) p vp (hp.1.ext hxd) (by omega)) ?_
  rintro y w2 ⟨hy, hx2⟩
  refine ⟨hx2, ?_⟩
  unfold AtX at hy
  rw [if_pos hlt] at hy
  obtain ⟨vr1, s1, rfl, hr1, hs1⟩ := hy
  have hx12 := hxd.trans hx2
  repeat first | refine δ1 ?_ | refine δ2 ?_ | refine δ4 ?_ | refine δ5 ?_ | refine δ6 ?_ | refine δ7 ?_ | refine δ9 ?_ | refine δ8 ?_ | refine χ1 ?_ | refine χ2 ?_ | refine χ3 ?_ | refine χ4 ?_ | refine χ5 ?_ | refine χ6 ?_ | refine χ7 ?_
  repeat first | refine ω1 ?_ | refine ω2 ?_ | refine ω3 ?_ | refine ω4 ?_ | refine ω5 ?_ | refine χ1 ?_ | refine κ1 ?_ | refine κ2 ?_ | refine χ2 ?_ | refine κ3 ?_ | refine ω6 ?_ | refine ω7 ?_ | refine ω9 ?_ | refine κ4 ?_ | refine κ7 ?_ | refine κ8 ?_ | refine χ3 ?_ | refine χ4 ?_ | refine κ5 ?_ | refine κ6 ?_ | refine χ5 ?_ | refine χ6 ?_ | refine χ7 ?_ | refine ω8 ?_
  refine cl (cloneRowV hr1.v N (fun k hk => Nat.lt_of_lt_of_le (hN k hk).2 (hx1.trans hx12).size)) ?_
  rintro vr2 w3 ⟨hr3, hx3⟩
  obtain ⟨A3, c3, rfl, _⟩ := id hr3
  have hx13 := hx12.trans hx3
  have hk3 := hk.ext hx13
  repeat first | refine ω1 ?_ | refine ω2 ?_ | refine ω3 ?_ | refine ω4 ?_ | refine ω5 ?_ | refine χ1 ?_ | refine κ1 ?_ | refine κ2 ?_ | refine χ2 ?_ | refine κ3 ?_ | refine ω6 ?_ | refine ω7 ?_ | refine ω9 ?_ | refine κ4 ?_ | refine κ7 ?_ | refine κ8 ?_ | refine χ3 ?_ | refine χ4 ?_ | refine κ5 ?_ | refine κ6 ?_ | refine χ5 ?_ | refine χ6 ?_ | refine χ7 ?_ | refine ω8 ?_
  refine sto (p := ⟨b, 3, none⟩) (hk3.cell 3) (hk3.frozen 3) ?_
  have hk4 := hk3.set 3 (.slice A3 (L.getD p []).length c3)
  have hg4 : GrN (fun k => k = b) w3 (w3.setCell ⟨b, 3, none⟩ (.slice A3 (L.getD p []).length c3)) := GrN.set _ rfl
  have hg4' : GrN N w3 (w3.setCell ⟨b, 3, none⟩ (.slice A3 (L.getD p []).length c3)) := hg4.mono (fun k e => e ▸ hb)
  generalize w3.setCell ⟨b, 3, none⟩ (.slice A3 (L.getD p []).length c3) = w4 at *
  repeat first | refine ω1 ?_ | refine ω2 ?_ | refine ω3 ?_ | refine ω4 ?_ | refine ω5 ?_ | refine χ1 ?_ | refine κ1 ?_ | refine κ2 ?_ | refine χ2 ?_ | refine κ3 ?_ | refine ω6 ?_ | refine ω7 ?_ | refine ω9 ?_ | refine κ4 ?_ | refine κ7 ?_ | refine κ8 ?_ | refine χ3 ?_ | refine χ4 ?_ | refine κ5 ?_ | refine κ6 ?_ | refine χ5 ?_ | refine χ6 ?_ | refine χ7 ?_ | refine ω8 ?_
  exact fin1 ⟨rfl, (GrN.ext (hx1.trans hx13)).trans hg4, _, ⟨vn, vp, hk4, (hn.ext hx13).gr hg4', (hp.ext hx13).gr hg4', rfl⟩, fun _ => hr3.gr hg4'⟩
set_option maxRecDepth 100000 in
theorem rdAdvance_any {w0 w : World} {N : Nat → Prop} {b : Nat} {va : Value} {L : List Row} {R : Row → Nat} {B : Nat} {S : Row → Prop} {p : Nat} {vr : Value} (ha : ArrO w0 va L R B S) (hx : Ext w0 w) (hN : ∀ k, N k → w0.heap.size ≤ k ∧ k < w.heap.size) (hb : N b) (h : RdrP w N b va L p vr) (hp0 : p ≤ 2000000) :
    Ret Try.prog 73 [.pointer (some ⟨b, 0, none⟩)] w fun x w' => x = .int .i64 0 ∧ GrN (fun k => k = b) w w' ∧ Rdr w' N b va L (p + 1) := by
  obtain ⟨vn, vp, hk, hn, hp, ho⟩ := id h
  refine enterR Try.func73 Try.ntmps73 rfl (by kernel_rfl) rfl ?_
  have hxd : Ext w w.drew := (Ext.refl w).drew
  repeat first | refine ω1 ?_ | refine ω2 ?_ | refine ω3 ?_ | refine ω4 ?_ | refine ω5 ?_ | refine χ1 ?_ | refine κ1 ?_ | refine κ2 ?_ | refine χ2 ?_ | refine κ3 ?_ | refine ω6 ?_ | refine ω7 ?_ | refine ω9 ?_ | refine κ4 ?_ | refine κ7 ?_ | refine κ8 ?_ | refine χ3 ?_ | refine χ4 ?_ | refine κ5 ?_ | refine κ6 ?_ | refine χ5 ?_ | refine χ6 ?_ | refine χ7 ?_ | refine ω8 ?_
  refine drC 10 [0, 1] [(0, 2), (0, 3), (0, 4), (1, 5), (1, 6), (0, 7), (0, 8), (2, 9)] (by kernel_rfl) ?_
  repeat first | refine π1 ?_ | refine π2 ?_ | refine π4 ?_ | refine π5 ?_
  repeat first | refine δ1 ?_ | refine δ2 ?_ | refine δ4 ?_ | refine δ5 ?_ | refine δ6 ?_ | refine δ7 ?_ | refine δ9 ?_ | refine δ8 ?_ | refine χ1 ?_ | refine χ2 ?_ | refine χ3 ?_ | refine χ4 ?_ | refine χ5 ?_ | refine χ6 ?_ | refine χ7 ?_
  refine dld ((hk.ext hxd).at rfl) ?_
  repeat first | refine δ1 ?_ | refine δ2 ?_ | refine δ4 ?_ | refine δ5 ?_ | refine δ6 ?_ | refine δ7 ?_ | refine δ9 ?_ | refine δ8 ?_ | refine χ1 ?_ | refine χ2 ?_ | refine χ3 ?_ | refine χ4 ?_ | refine χ5 ?_ | refine χ6 ?_ | refine χ7 ?_
  refine dcl (natOf_any 1 (by omega) _) ?_
  rintro v1 w1 ⟨hv1, hx1⟩
  refine ⟨hx1, ?_⟩
  have hx01 := hxd.trans hx1
  repeat first | refine δ1 ?_ | refine δ2 ?_ | refine δ4 ?_ | refine δ5 ?_ | refine δ6 ?_ | refine δ7 ?_ | refine δ9 ?_ | refine δ8 ?_ | refine χ1 ?_ | refine χ2 ?_ | refine χ3 ?_ | refine χ4 ?_ | refine χ5 ?_ | refine χ6 ?_ | refine χ7 ?_
  refine dcl (natAddF_any (hp.1.ext hx01) hv1 (small1000 (by omega)) (small1000 (by omega))) ?_
  rintro v2 w2 ⟨hv2, hf2, hx2⟩
  refine ⟨hx2, ?_⟩
  have hx02 := hx01.trans hx2
  have hp2 : NatY w2 N v2 (p + 1) := (hf2.x hv2 (fun k hk => Nat.lt_of_lt_of_le (hN k hk).2 hx01.size)).y
  obtain ⟨A2, c2, hv2e, _⟩ := id hv2
  subst hv2e
  have hk2 := hk.ext hx02
  repeat first | refine δ1 ?_ | refine δ2 ?_ | refine δ4 ?_ | refine δ5 ?_ | refine δ6 ?_ | refine δ7 ?_ | refine δ9 ?_ | refine δ8 ?_ | refine χ1 ?_ | refine χ2 ?_ | refine χ3 ?_ | refine χ4 ?_ | refine χ5 ?_ | refine χ6 ?_ | refine χ7 ?_
  refine dtail ?_
  refine sto (p := ⟨b, 2, none⟩) (hk2.cell 2) (hk2.frozen 2) ?_
  have hk3 := hk2.set 2 (.slice A2 (limbs (p + 1)).length c2)
  have hg3 : GrN (fun k => k = b) w2 (w2.setCell ⟨b, 2, none⟩ (.slice A2 (limbs (p + 1)).length c2)) := GrN.set _ rfl
  have hg3' : GrN N w2 (w2.setCell ⟨b, 2, none⟩ (.slice A2 (limbs (p + 1)).length c2)) := hg3.mono (fun k e => e ▸ hb)
  generalize w2.setCell ⟨b, 2, none⟩ (.slice A2 (limbs (p + 1)).length c2) = w3 at *
  refine wnil (dback ?_)
  have hg03 : GrN (fun k => k = b) w w3 := (GrN.ext hx02).trans hg3
  have h3 : RdrP w3 N b va L (p + 1) vr := ⟨vn, _, hk3, (hn.ext hx02).gr hg3', hp2.gr hg3', ho⟩
  repeat first | refine δ1 ?_ | refine δ2 ?_ | refine δ4 ?_ | refine δ5 ?_ | refine δ6 ?_ | refine δ7 ?_ | refine δ9 ?_ | refine δ8 ?_ | refine χ1 ?_ | refine χ2 ?_ | refine χ3 ?_ | refine χ4 ?_ | refine χ5 ?_ | refine χ6 ?_ | refine χ7 ?_
  repeat first | refine ω1 ?_ | refine ω2 ?_ | refine ω3 ?_ | refine ω4 ?_ | refine ω5 ?_ | refine χ1 ?_ | refine κ1 ?_ | refine κ2 ?_ | refine χ2 ?_ | refine κ3 ?_ | refine ω6 ?_ | refine ω7 ?_ | refine ω9 ?_ | refine κ4 ?_ | refine κ7 ?_ | refine κ8 ?_ | refine χ3 ?_ | refine χ4 ?_ | refine κ5 ?_ | refine κ6 ?_ | refine χ5 ?_ | refine χ6 ?_ | refine χ7 ?_ | refine ω8 ?_
  refine cl (rdLoad_any ha (hg03.old hx (fun k e => by subst e; exact (hN _ hb).1)) (fun k hk => ⟨(hN k hk).1, Nat.lt_of_lt_of_le (hN k hk).2 hg03.size⟩) hb h3) ?_
  rintro _ w4 ⟨rfl, hg4, h4⟩
  repeat first | refine ω1 ?_ | refine ω2 ?_ | refine ω3 ?_ | refine ω4 ?_ | refine ω5 ?_ | refine χ1 ?_ | refine κ1 ?_ | refine κ2 ?_ | refine χ2 ?_ | refine κ3 ?_ | refine ω6 ?_ | refine ω7 ?_ | refine ω9 ?_ | refine κ4 ?_ | refine κ7 ?_ | refine κ8 ?_ | refine χ3 ?_ | refine χ4 ?_ | refine κ5 ?_ | refine κ6 ?_ | refine χ5 ?_ | refine χ6 ?_ | refine χ7 ?_ | refine ω8 ?_
  exact fin1 ⟨rfl, hg03.trans hg4, h4⟩
/-- a slice of one column, the second -/
def Col1 (w : World) (v : Value) : Prop := ∃ b, v = .slice (some ⟨b, 0, none⟩) 1 1 ∧ Blk w b 3 [.int .i64 1]
theorem Col1.ext {w w' : World} {v : Value} (h : Col1 w v) (hx : Ext w w') : Col1 w' v := by obtain ⟨b, h1, h2⟩ := h; exact ⟨b, h1, h2.ext hx⟩
set_option maxRecDepth 100000 in
theorem lacks1_any {w : World} {bp b : Nat} {va vn vp : Value} {A : Option Addr} {n c : Nat} (hb : Blk w bp 118 [.pointer (some ⟨b, 0, none⟩)]) (hk : Blk w b 120 [va, vn, vp, .slice A n c]) (hn : n ≤ 1) :
    Ret Try.prog 97 [.int .i64 1, .pointer (some ⟨bp, 0, none⟩)] w fun x w' => x = .bool true ∧ w' = w := by
  refine enterR Try.func97 Try.ntmps97 rfl (by kernel_rfl) rfl ?_
  repeat first | refine ω1 ?_ | refine ω2 ?_ | refine ω3 ?_ | refine ω4 ?_ | refine ω5 ?_ | refine χ1 ?_ | refine κ1 ?_ | refine κ2 ?_ | refine χ2 ?_ | refine κ3 ?_ | refine ω6 ?_ | refine ω7 ?_ | refine ω9 ?_ | refine κ4 ?_ | refine κ7 ?_ | refine κ8 ?_ | refine χ3 ?_ | refine χ4 ?_ | refine κ5 ?_ | refine κ6 ?_ | refine χ5 ?_ | refine χ6 ?_ | refine χ7 ?_ | refine ω8 ?_
  refine ld (hb.cell 0) ?_
  repeat first | refine ω1 ?_ | refine ω2 ?_ | refine ω3 ?_ | refine ω4 ?_ | refine ω5 ?_ | refine χ1 ?_ | refine κ1 ?_ | refine κ2 ?_ | refine χ2 ?_ | refine κ3 ?_ | refine ω6 ?_ | refine ω7 ?_ | refine ω9 ?_ | refine κ4 ?_ | refine κ7 ?_ | refine κ8 ?_ | refine χ3 ?_ | refine χ4 ?_ | refine κ5 ?_ | refine κ6 ?_ | refine χ5 ?_ | refine χ6 ?_ | refine χ7 ?_ | refine ω8 ?_
  refine ld (hk.at rfl) ?_
  repeat first | refine ω1 ?_ | refine ω2 ?_ | refine ω3 ?_ | refine ω4 ?_ | refine ω5 ?_ | refine χ1 ?_ | refine κ1 ?_ | refine κ2 ?_ | refine χ2 ?_ | refine κ3 ?_ | refine ω6 ?_ | refine ω7 ?_ | refine ω9 ?_ | refine κ4 ?_ | refine κ7 ?_ | refine κ8 ?_ | refine χ3 ?_ | refine χ4 ?_ | refine κ5 ?_ | refine κ6 ?_ | refine χ5 ?_ | refine χ6 ?_ | refine χ7 ?_ | refine ω8 ?_
  refine fin1 ⟨?_, rfl⟩
  congr 1
  exact decide_eq_true (by omega)
set_option maxRecDepth 100000 in
theorem indexFunc1_any {w : World} {bp b : Nat} {va vn vp v : Value} {A : Option Addr} {n c : Nat} (hv : Col1 w v) (hb : Blk w bp 118 [.pointer (some ⟨b, 0, none⟩)]) (hk : Blk w b 120 [va, vn, vp, .slice A n c]) (hn : n ≤ 1) :
    Ret Try.prog 91 [v, .func (.func 97) #[] #[.pointer (some ⟨bp, 0, none⟩)]] w fun x w' => x = .int .i64 0 ∧ w' = w := by
  obtain ⟨bc, rfl, hc⟩ := hv
  refine enterR Try.func91 Try.ntmps91 rfl (by kernel_rfl) rfl ?_
  repeat first | refine ω1 ?_ | refine ω2 ?_ | refine ω3 ?_ | refine ω4 ?_ | refine ω5 ?_ | refine χ1 ?_ | refine κ1 ?_ | refine κ2 ?_ | refine χ2 ?_ | refine κ3 ?_ | refine ω6 ?_ | refine ω7 ?_ | refine ω9 ?_ | refine κ4 ?_ | refine κ7 ?_ | refine κ8 ?_ | refine χ3 ?_ | refine χ4 ?_ | refine κ5 ?_ | refine κ6 ?_ | refine χ5 ?_ | refine χ6 ?_ | refine χ7 ?_ | refine ω8 ?_
  refine wloop1 (fun (_ : Unit) => [(0, .slice (some ⟨bc, 0, none⟩) 1 1), (1, .func (.func 97) #[] #[.pointer (some ⟨bp, 0, none⟩)]), (7, .int .i64 1), (8, .int .i64 0)]) (fun _ w' => w' = w) (fun _ => 0) () (by repeat' (first | exact Sub.nil | refine Sub.cons rfl ?_)) rfl ?_
  rintro _ w1 rfl
  repeat first | refine ω1 ?_ | refine ω2 ?_ | refine ω3 ?_ | refine ω4 ?_ | refine ω5 ?_ | refine χ1 ?_ | refine κ1 ?_ | refine κ2 ?_ | refine χ2 ?_ | refine κ3 ?_ | refine ω6 ?_ | refine ω7 ?_ | refine ω9 ?_ | refine κ4 ?_ | refine κ7 ?_ | refine κ8 ?_ | refine χ3 ?_ | refine χ4 ?_ | refine κ5 ?_ | refine κ6 ?_ | refine χ5 ?_ | refine χ6 ?_ | refine χ7 ?_ | refine ω8 ?_
  refine ix 0 (hc.rd (sz := 1) (n := 1) rfl) (by omega) ?_
  repeat first | refine ω1 ?_ | refine ω2 ?_ | refine ω3 ?_ | refine ω4 ?_ | refine ω5 ?_ | refine χ1 ?_ | refine κ1 ?_ | refine κ2 ?_ | refine χ2 ?_ | refine κ3 ?_ | refine ω6 ?_ | refine ω7 ?_ | refine ω9 ?_ | refine κ4 ?_ | refine κ7 ?_ | refine κ8 ?_ | refine χ3 ?_ | refine χ4 ?_ | refine κ5 ?_ | refine κ6 ?_ | refine χ5 ?_ | refine χ6 ?_ | refine χ7 ?_ | refine ω8 ?_
  refine ld (hc.at rfl) ?_
  repeat first | refine ω1 ?_ | refine ω2 ?_ | refine ω3 ?_ | refine ω4 ?_ | refine ω5 ?_ | refine χ1 ?_ | refine κ1 ?_ | refine κ2 ?_ | refine χ2 ?_ | refine κ3 ?_ | refine ω6 ?_ | refine ω7 ?_ | refine ω9 ?_ | refine κ4 ?_ | refine κ7 ?_ | refine κ8 ?_ | refine χ3 ?_ | refine χ4 ?_ | refine κ5 ?_ | refine κ6 ?_ | refine χ5 ?_ | refine χ6 ?_ | refine χ7 ?_ | refine ω8 ?_
  refine clv (lacks1_any hb hk hn) ?_
  rintro _ w2 ⟨rfl, rfl⟩
  repeat first | refine ω1 ?_ | refine ω2 ?_ | refine ω3 ?_ | refine ω4 ?_ | refine ω5 ?_ | refine χ1 ?_ | refine κ1 ?_ | refine κ2 ?_ | refine χ2 ?_ | refine κ3 ?_ | refine ω6 ?_ | refine ω7 ?_ | refine ω9 ?_ | refine κ4 ?_ | refine κ7 ?_ | refine κ8 ?_ | refine χ3 ?_ | refine χ4 ?_ | refine κ5 ?_ | refine κ6 ?_ | refine χ5 ?_ | refine χ6 ?_ | refine χ7 ?_ | refine ω8 ?_
  exact fin1 ⟨rfl, rfl⟩
set_option maxRecDepth 100000 in
theorem containsFunc1_any {w : World} {bp b : Nat} {va vn vp v : Value} {A : Option Addr} {n c : Nat} (hv : Col1 w v) (hb : Blk w bp 118 [.pointer (some ⟨b, 0, none⟩)]) (hk : Blk w b 120 [va, vn, vp, .slice A n c]) (hn : n ≤ 1) :
    Ret Try.prog 74 [v, .func (.func 97) #[] #[.pointer (some ⟨bp, 0, none⟩)]] w fun x w' => x = .bool true ∧ w' = w := by
  refine enterR Try.func74 Try.ntmps74 rfl (by kernel_rfl) rfl ?_
  repeat first | refine ω1 ?_ | refine ω2 ?_ | refine ω3 ?_ | refine ω4 ?_ | refine ω5 ?_ | refine χ1 ?_ | refine κ1 ?_ | refine κ2 ?_ | refine χ2 ?_ | refine κ3 ?_ | refine ω6 ?_ | refine ω7 ?_ | refine ω9 ?_ | refine κ4 ?_ | refine κ7 ?_ | refine κ8 ?_ | refine χ3 ?_ | refine χ4 ?_ | refine κ5 ?_ | refine κ6 ?_ | refine χ5 ?_ | refine χ6 ?_ | refine χ7 ?_ | refine ω8 ?_
  refine cl (indexFunc1_any hv hb hk hn) ?_
  rintro _ w2 ⟨rfl, rfl⟩
  repeat first | refine ω1 ?_ | refine ω2 ?_ | refine ω3 ?_ | refine ω4 ?_ | refine ω5 ?_ | refine χ1 ?_ | refine κ1 ?_ | refine κ2 ?_ | refine χ2 ?_ | refine κ3 ?_ | refine ω6 ?_ | refine ω7 ?_ | refine ω9 ?_ | refine κ4 ?_ | refine κ7 ?_ | refine κ8 ?_ | refine χ3 ?_ | refine χ4 ?_ | refine κ5 ?_ | refine κ6 ?_ | refine χ5 ?_ | refine χ6 ?_ | refine χ7 ?_ | refine ω8 ?_
  exact fin1 ⟨rfl, rfl⟩
set_option maxRecDepth 100000 in
theorem lacks_any {w : World} {b : Nat} {va vn vp v : Value} {A : Option Addr} {n c : Nat} (hv : Col1 w v) (hk : Blk w b 120 [va, vn, vp, .slice A n c]) (hn : n ≤ 1) :
    Ret Try.prog 89 [.pointer (some ⟨b, 0, none⟩), v] w fun x w' => x = .bool true ∧ Ext w w' := by
  refine enterR Try.func89 Try.ntmps89 rfl (by kernel_rfl) rfl ?_
  repeat first | refine ω1 ?_ | refine ω2 ?_ | refine ω3 ?_ | refine ω4 ?_ | refine ω5 ?_ | refine χ1 ?_ | refine κ1 ?_ | refine κ2 ?_ | refine χ2 ?_ | refine κ3 ?_ | refine ω6 ?_ | refine ω7 ?_ | refine ω9 ?_ | refine κ4 ?_ | refine κ7 ?_ | refine κ8 ?_ | refine χ3 ?_ | refine χ4 ?_ | refine κ5 ?_ | refine κ6 ?_ | refine χ5 ?_ | refine χ6 ?_ | refine χ7 ?_ | refine ω8 ?_
  refine bx ?_
  intro w1 b1 hx1 hb1 hk1
  repeat first | refine ω1 ?_ | refine ω2 ?_ | refine ω3 ?_ | refine ω4 ?_ | refine ω5 ?_ | refine χ1 ?_ | refine κ1 ?_ | refine κ2 ?_ | refine χ2 ?_ | refine κ3 ?_ | refine ω6 ?_ | refine ω7 ?_ | refine ω9 ?_ | refine κ4 ?_ | refine κ7 ?_ | refine κ8 ?_ | refine χ3 ?_ | refine χ4 ?_ | refine κ5 ?_ | refine κ6 ?_ | refine χ5 ?_ | refine χ6 ?_ | refine χ7 ?_ | refine ω8 ?_
  refine cl (containsFunc1_any (hv.ext hx1) hk1 (hk.ext hx1) hn) ?_
  rintro _ w2 ⟨rfl, rfl⟩
  repeat first | refine ω1 ?_ | refine ω2 ?_ | refine ω3 ?_ | refine ω4 ?_ | refine ω5 ?_ | refine χ1 ?_ | refine κ1 ?_ | refine κ2 ?_ | refine χ2 ?_ | refine κ3 ?_ | refine ω6 ?_ | refine ω7 ?_ | refine ω9 ?_ | refine κ4 ?_ | refine κ7 ?_ | refine κ8 ?_ | refine χ3 ?_ | refine χ4 ?_ | refine κ5 ?_ | refine κ6 ?_ | refine χ5 ?_ | refine χ6 ?_ | refine χ7 ?_ | refine ω8 ?_
  exact fin1 ⟨rfl, hx1⟩
set_option maxRecDepth 100000 in
/-- against, where both rows lack the column -/
theorem against_any {w : World} {N : Nat → Prop} {bf bt : Nat} {va vb vc vd : Value} {L M : List Row} {p q : Nat} (hv : Col1 w vc) (hf : Rdr w N bf va L p) (ht : Rdr w N bt vb M q) (hL : ∀ r ∈ L, r.length ≤ 1) :
    Ret Try.prog 72 [.pointer (some ⟨bf, 0, none⟩), .pointer (some ⟨bt, 0, none⟩), vc, vd] w fun x w' => x = (if M.length ≤ q then .tuple #[.int .i64 (-1), .int .i64 0] else if L.length ≤ p then .tuple #[.int .i64 1, .int .i64 0] else .tuple #[.int .i64 0, .int .i64 6]) ∧ Ext w w' := by
  obtain ⟨vr, hfp, hfr⟩ := hf
  obtain ⟨vs, htp, htr⟩ := ht
  refine enterR Try.func72 Try.ntmps72 rfl (by kernel_rfl) rfl ?_
  repeat first | refine ω1 ?_ | refine ω2 ?_ | refine ω3 ?_ | refine ω4 ?_ | refine ω5 ?_ | refine χ1 ?_ | refine κ1 ?_ | refine κ2 ?_ | refine χ2 ?_ | refine κ3 ?_ | refine ω6 ?_ | refine ω7 ?_ | refine ω9 ?_ | refine κ4 ?_ | refine κ7 ?_ | refine κ8 ?_ | refine χ3 ?_ | refine χ4 ?_ | refine κ5 ?_ | refine κ6 ?_ | refine χ5 ?_ | refine χ6 ?_ | refine χ7 ?_ | refine ω8 ?_
  refine cl (rdDone_any htp) ?_
  rintro _ w1 ⟨rfl, hx1⟩
  repeat first | refine ω1 ?_ | refine ω2 ?_ | refine ω3 ?_ | refine ω4 ?_ | refine ω5 ?_ | refine χ1 ?_ | refine κ1 ?_ | refine κ2 ?_ | refine χ2 ?_ | refine κ3 ?_ | refine ω6 ?_ | refine ω7 ?_ | refine ω9 ?_ | refine κ4 ?_ | refine κ7 ?_ | refine κ8 ?_ | refine χ3 ?_ | refine χ4 ?_ | refine κ5 ?_ | refine κ6 ?_ | refine χ5 ?_ | refine χ6 ?_ | refine χ7 ?_ | refine ω8 ?_
  refine ci (fun h => ?_) (fun h => ?_)
  · rw [if_pos (of_decide_eq_true h)]
    repeat first | refine ω1 ?_ | refine ω2 ?_ | refine ω3 ?_ | refine ω4 ?_ | refine ω5 ?_ | refine χ1 ?_ | refine κ1 ?_ | refine κ2 ?_ | refine χ2 ?_ | refine κ3 ?_ | refine ω6 ?_ | refine ω7 ?_ | refine ω9 ?_ | refine κ4 ?_ | refine κ7 ?_ | refine κ8 ?_ | refine χ3 ?_ | refine χ4 ?_ | refine κ5 ?_ | refine κ6 ?_ | refine χ5 ?_ | refine χ6 ?_ | refine χ7 ?_ | refine ω8 ?_
    exact fin2 ⟨rfl, hx1⟩
  rw [if_neg (of_decide_eq_false h)]
  repeat first | refine ω1 ?_ | refine ω2 ?_ | refine ω3 ?_ | refine ω4 ?_ | refine ω5 ?_ | refine χ1 ?_ | refine κ1 ?_ | refine κ2 ?_ | refine χ2 ?_ | refine κ3 ?_ | refine ω6 ?_ | refine ω7 ?_ | refine ω9 ?_ | refine κ4 ?_ | refine κ7 ?_ | refine κ8 ?_ | refine χ3 ?_ | refine χ4 ?_ | refine κ5 ?_ | refine κ6 ?_ | refine χ5 ?_ | refine χ6 ?_ | refine χ7 ?_ | refine ω8 ?_
  refine cl (rdDone_any (hfp.ext hx1)) ?_
  rintro _ w2 ⟨rfl, hx2⟩
  repeat first | refine ω1 ?_ | refine ω2 ?_ | refine ω3 ?_ | refine ω4 ?_ | refine ω5 ?_ | refine χ1 ?_ | refine κ1 ?_ | refine κ2 ?_ | refine χ2 ?_ | refine κ3 ?_ | refine ω6 ?_ | refine ω7 ?_ | refine ω9 ?_ | refine κ4 ?_ | refine κ7 ?_ | refine κ8 ?_ | refine χ3 ?_ | refine χ4 ?_ | refine κ5 ?_ | refine κ6 ?_ | refine χ5 ?_ | refine χ6 ?_ | refine χ7 ?_ | refine ω8 ?_
  refine ci (fun h => ?_) (fun h => ?_)
  · rw [if_pos (of_decide_eq_true h)]
    repeat first | refine ω1 ?_ | refine ω2 ?_ | refine ω3 ?_ | refine ω4 ?_ | refine ω5 ?_ | refine χ1 ?_ | refine κ1 ?_ | refine κ2 ?_ | refine χ2 ?_ | refine κ3 ?_ | refine ω6 ?_ | refine ω7 ?_ | refine ω9 ?_ | refine κ4 ?_ | refine κ7 ?_ | refine κ8 ?_ | refine χ3 ?_ | refine χ4 ?_ | refine κ5 ?_ | refine κ6 ?_ | refine χ5 ?_ | refine χ6 ?_ | refine χ7 ?_ | refine ω8 ?_
    exact fin2 ⟨rfl, hx1.trans hx2⟩
  have hge := of_decide_eq_false h
  rw [if_neg hge]
  have hlt : p < L.length := by omega
  obtain ⟨vn, vp, hk, _⟩ := hfp.ext (hx1.trans hx2)
  obtain ⟨A, c, rfl, _⟩ := hfr hlt
  have hlen : (L.getD p []).length ≤ 1 := hL _ (getD_mem' [] L hlt)
  repeat first | refine ω1 ?_ | refine ω2 ?_ | refine ω3 ?_ | refine ω4 ?_ | refine ω5 ?_ | refine χ1 ?_ | refine κ1 ?_ | refine κ2 ?_ | refine χ2 ?_ | refine κ3 ?_ | refine ω6 ?_ | refine ω7 ?_ | refine ω9 ?_ | refine κ4 ?_ | refine κ7 ?_ | refine κ8 ?_ | refine χ3 ?_ | refine χ4 ?_ | refine κ5 ?_ | refine κ6 ?_ | refine χ5 ?_ | refine χ6 ?_ | refine χ7 ?_ | refine ω8 ?_
  refine cl (lacks_any (hv.ext (hx1.trans hx2)) hk hlen) ?_
  rintro _ w3 ⟨rfl, hx3⟩
  repeat first | refine ω1 ?_ | refine ω2 ?_ | refine ω3 ?_ | refine ω4 ?_ | refine ω5 ?_ | refine χ1 ?_ | refine κ1 ?_ | refine κ2 ?_ | refine χ2 ?_ | refine κ3 ?_ | refine ω6 ?_ | refine ω7 ?_ | refine ω9 ?_ | refine κ4 ?_ | refine κ7 ?_ | refine κ8 ?_ | refine χ3 ?_ | refine χ4 ?_ | refine κ5 ?_ | refine κ6 ?_ | refine χ5 ?_ | refine χ6 ?_ | refine χ7 ?_ | refine ω8 ?_
  exact fin2 ⟨rfl, (hx1.trans hx2).trans hx3⟩
end Go.Proofs.Ytpahjnfolbnloaa
