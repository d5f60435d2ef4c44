/- The difference of two arrays: the closure of At. -/
import Derived.Test.YtpahjnfolbnloaaSrch
import Derived.Test.YtpahjnfolbnloaaDifP
set_option linter.unusedVariables false
namespace Go.Proofs.Ytpahjnfolbnloaa
open Go.RowKit Pl Go.Wk
attribute [local irreducible] WC WL QX WD WDB WP
theorem RowX.gr {N : Nat → Prop} {w w' : World} {v : Value} {r : List V} (h : RowX w N v r) (hg : GrN N w w') : RowX w' N v r := by
  obtain ⟨A, c, h1, h2, h3, h4, h5⟩ := h
  refine ⟨A, c, h1, h2, h3, ?_, h5⟩
  by_cases h0 : r = []
  · subst h0; exact Rd.nil
  · exact rdGr h4 hg (fun ad e => h5 h0 ad e)
/-- what Rank returns, off some blocks -/
def RankX (w : World) (N : Nat → Prop) (L : List Row) (R : Row → Nat) (B : Nat) (r : Row) (x : Value) : Prop :=
  ∃ vn, ∃ s : Nat, x = .tuple #[vn, .bool (decide (r ∈ L)), .int .i64 (s : Int), .int .i64 0] ∧ NatX w N vn (R r) ∧ s ≤ B
/-- an array whose answers lie off whatever was made between; Rank is known for some rows -/
structure ArrO (w : World) (v : Value) (L : List Row) (R : Row → Nat) (B : Nat) (S : Row → Prop) : Prop where
  len : ∃ f rv, Meth Try.prog v "Len" f rv ∧ ∀ w', Ext w w' → Ret Try.prog f [rv] w' fun x w'' => NatV w'' x L.length ∧ Ext w' w''
  at_ : ∃ f rv, Meth Try.prog v "At" f rv ∧ ∀ w', Ext w w' → ∀ (N : Nat → Prop), (∀ k, N k → w.heap.size ≤ k ∧ k < w'.heap.size) → ∀ k vk, NatV w' vk k → k < 9223372036854775808 → Ret Try.prog f [rv, vk] w' fun x w'' => AtX w'' N L B k x ∧ Ext w' w''
  rank : ∃ f rv, Meth Try.prog v "Rank" f rv ∧ ∀ w', Ext w w' → ∀ (N : Nat → Prop), (∀ k, N k → w.heap.size ≤ k ∧ k < w'.heap.size) → ∀ r vr, S r → RowV w' vr r → Ret Try.prog f [rv, vr] w' fun x w'' => RankX w'' N L R B r x ∧ Ext w' w''
  small : L.length ≤ 1100000
  rk : ∀ r, S r → R r ≤ L.length
  bd : B ≤ 1000000
theorem ArrO.ext {w w' : World} {v : Value} {L : List Row} {R : Row → Nat} {B : Nat} {S : Row → Prop} (h : ArrO w v L R B S) (hx : Ext w w') : ArrO w' v L R B S := by
  obtain ⟨⟨f1, r1, m1, h1⟩, ⟨f2, r2, m2, h2⟩, ⟨f3, r3, m3, h3⟩, h4, h5, h6⟩ := h
  exact ⟨⟨f1, r1, m1, fun w2 hx2 => h1 w2 (hx.trans hx2)⟩, ⟨f2, r2, m2, fun w2 hx2 N hN => h2 w2 (hx.trans hx2) N (fun k hk => ⟨Nat.le_trans hx.size (hN k hk).1, (hN k hk).2⟩)⟩, ⟨f3, r3, m3, fun w2 hx2 N hN => h3 w2 (hx.trans hx2) N (fun k hk => ⟨Nat.le_trans hx.size (hN k hk).1, (hN k hk).2⟩)⟩, h4, h5, h6⟩
theorem ArrO.form {w : World} {v : Value} {L : List Row} {R : Row → Nat} {B : Nat} {S : Row → Prop} (h : ArrO w v L R B S) : ∃ t x, v = .iface t x := by
  obtain ⟨⟨f1, r1, ⟨t, x, rfl, _⟩, h1⟩, _⟩ := h; exact ⟨t, x, rfl⟩
/-- the boxes of the closure -/
def box3 (bs bl bn : Nat) (k : Nat) : Prop := k = bs ∨ k = bl ∨ k = bn
/-- what the boxes hold -/
structure AtI (A C : List Row) (k S bs bl bn : Nat) (a w : World) (hi c : Nat) : Prop where
  old : Ext a w
  steps : ∃ s : Nat, Blk w bs 3 [.int .i64 (s : Int)] ∧ s ≤ S * c
  last : ∃ kn vl, Blk w bl 25 [vl] ∧ vl.oneCell' = true ∧ Blk w bn 4 [.bool kn] ∧ (kn = true → RowX w (box3 bs bl bn) vl (A.getD hi [])) ∧ (kn = false → hi = k + C.length)
theorem lenB_pow {x k : Nat} (h : x < 2 ^ k) : lenB x ≤ k := by
  unfold lenB
  split
  · omega
  · rename_i h0
    have := (Nat.log2_lt h0).2 h
    omega
set_option maxRecDepth 100000 in
theorem at1_any {A C : List Row} {RA RC : Row → Nat} {BA BC : Nat} {SA SC : Row → Prop} {va vc vk vp : Value} {k p bd bk bs bl bn hi c : Nat} {w0 a w : World}
    (hD : DifH A C RC) (ha : ArrO w0 va A RA BA SA) (hc : ArrO w0 vc C RC BC SC) (hSC : ∀ r, r ∈ A → SC r) (hx0 : Ext w0 a) (hbd : Blk a bd 66 [va, vc]) (hbk : Blk a bk 33 [vk]) (hk : NatV a vk k) (hkb : k < 2000000)
    (h1 : a.heap.size ≤ bs) (h2 : a.heap.size ≤ bl) (h3 : a.heap.size ≤ bn) (hsl : bs ≠ bl) (hsn : bs ≠ bn) (hln : bl ≠ bn)
    (hI : AtI A C k (BA + BC) bs bl bn a w hi c) (hp : NatX w (box3 bs bl bn) vp p) (hpA : p < A.length) (hcb : c ≤ 64) :
    Ret Try.prog 69 [vp, .pointer (some ⟨bd, 0, none⟩), .pointer (some ⟨bs, 0, none⟩), .pointer (some ⟨bk, 0, none⟩), .pointer (some ⟨bl, 0, none⟩), .pointer (some ⟨bn, 0, none⟩)] w
      fun x w' => x = .tuple #[.bool (prD A C k p), .int .i64 0] ∧ GrN (box3 bs bl bn) w w' ∧ AtI A C k (BA + BC) bs bl bn a w' (if prD A C k p then p else hi) (c + 1) := by
  have hba := ha.bd
  have hbc := hc.bd
  have hsA := ha.small
  obtain ⟨hxa, ⟨s0, hbs, hs0⟩, kn, vl, hbl, hvl, hbn, hkn1, hkn0⟩ := hI
  obtain ⟨fA, rA, mA, hA⟩ := ha.at_
  obtain ⟨fC, rC, mC, hCk⟩ := hc.rank
  have hN : ∀ k, box3 bs bl bn k → w0.heap.size ≤ k ∧ k < w.heap.size := fun k hk => by
    have := hx0.size
    have l1 := hbs.lt
    have l2 := hbl.lt
    have l3 := hbn.lt
    rcases hk with rfl | rfl | rfl <;> constructor <;> omega
  have hbd0 := hbd.ext hxa
  refine enterR Try.func69 Try.ntmps69 rfl (by kernel_rfl) rfl ?_
  repeat first | refine ω1 ?_ | refine ω2 ?_ | refine ω3 ?_ | refine ω4 ?_ | refine ω5 ?_ | refine χ1 ?_ | refine κ1 ?_ | refine κ2 ?_ | refine χ2 ?_ | refine κ3 ?_ | refine ω6 ?_ | refine ω7 ?_ | refine ω9 ?_ | refine κ4 ?_ | refine κ7 ?_ | refine κ8 ?_ | refine χ3 ?_ | refine χ4 ?_ | refine κ5 ?_ | refine κ6 ?_ | refine χ5 ?_ | refine χ6 ?_ | refine χ7 ?_ | refine ω8 ?_
  refine ld (hbd0.at rfl) ?_
  repeat first | refine ω1 ?_ | refine ω2 ?_ | refine ω3 ?_ | refine ω4 ?_ | refine ω5 ?_ | refine χ1 ?_ | refine κ1 ?_ | refine κ2 ?_ | refine χ2 ?_ | refine κ3 ?_ | refine ω6 ?_ | refine ω7 ?_ | refine ω9 ?_ | refine κ4 ?_ | refine κ7 ?_ | refine κ8 ?_ | refine χ3 ?_ | refine χ4 ?_ | refine κ5 ?_ | refine κ6 ?_ | refine χ5 ?_ | refine χ6 ?_ | refine χ7 ?_ | refine ω8 ?_
  refine inv mA (hA w (hx0.trans hxa) _ hN p vp hp.1 (by omega)) ?_
  rintro y w1 ⟨hy, hx1⟩
  unfold AtX at hy
  rw [if_pos hpA] at hy
  obtain ⟨vr, s1, rfl, hr1, hs1⟩ := hy
  have hbs1 := hbs.ext hx1
  repeat first | refine ω1 ?_ | refine ω2 ?_ | refine ω3 ?_ | refine ω4 ?_ | refine ω5 ?_ | refine χ1 ?_ | refine κ1 ?_ | refine κ2 ?_ | refine χ2 ?_ | refine κ3 ?_ | refine ω6 ?_ | refine ω7 ?_ | refine ω9 ?_ | refine κ4 ?_ | refine κ7 ?_ | refine κ8 ?_ | refine χ3 ?_ | refine χ4 ?_ | refine κ5 ?_ | refine κ6 ?_ | refine χ5 ?_ | refine χ6 ?_ | refine χ7 ?_ | refine ω8 ?_
  refine ld (hbs1.cell 0) ?_
  have hm : (BA + BC) * c ≤ 2000000 * 64 := Nat.mul_le_mul (by omega) hcb
  repeat first | refine ω1 ?_ | refine ω2 ?_ | refine ω3 ?_ | refine ω4 ?_ | refine ω5 ?_ | refine χ1 ?_ | refine κ1 ?_ | refine κ2 ?_ | refine χ2 ?_ | refine κ3 ?_ | refine ω6 ?_ | refine ω7 ?_ | refine ω9 ?_ | refine κ4 ?_ | refine κ7 ?_ | refine κ8 ?_ | refine χ3 ?_ | refine χ4 ?_ | refine κ5 ?_ | refine κ6 ?_ | refine χ5 ?_ | refine χ6 ?_ | refine χ7 ?_ | refine ω8 ?_
  refine sto (hbs1.cell 0) (hbs1.frozen 0) ?_
  have hbs2 := hbs1.set 0 (.int .i64 ((s0 : Int) + (s1 : Int)))
  have hg2 : GrN (box3 bs bl bn) w1 (w1.setCell ⟨bs, 0, none⟩ (.int .i64 ((s0 : Int) + (s1 : Int)))) := GrN.set _ (.inl rfl)
  have hx2 : Ext a (w1.setCell ⟨bs, 0, none⟩ (.int .i64 ((s0 : Int) + (s1 : Int)))) := (hxa.trans hx1).setCell h1 _
  have hg02 := (GrN.ext hx1).trans hg2
  have hbl2 := (hbl.ext hx1).far (p := ⟨bs, 0, none⟩) (Ne.symm hsl) (.int .i64 ((s0 : Int) + (s1 : Int)))
  have hbn2 := (hbn.ext hx1).far (p := ⟨bs, 0, none⟩) (Ne.symm hsn) (.int .i64 ((s0 : Int) + (s1 : Int)))
  generalize w1.setCell ⟨bs, 0, none⟩ (.int .i64 ((s0 : Int) + (s1 : Int))) = w2 at *
  simp only [List.set_cons_zero] at hbs2
  have hr2 := hr1.gr hg2
  have hp2 := hp.gr hg02
  repeat first | refine ω1 ?_ | refine ω2 ?_ | refine ω3 ?_ | refine ω4 ?_ | refine ω5 ?_ | refine χ1 ?_ | refine κ1 ?_ | refine κ2 ?_ | refine χ2 ?_ | refine κ3 ?_ | refine ω6 ?_ | refine ω7 ?_ | refine ω9 ?_ | refine κ4 ?_ | refine κ7 ?_ | refine κ8 ?_ | refine χ3 ?_ | refine χ4 ?_ | refine κ5 ?_ | refine κ6 ?_ | refine χ5 ?_ | refine χ6 ?_ | refine χ7 ?_ | refine ω8 ?_
  obtain ⟨tc, xc, rfl⟩ := hc.form
  refine dr [(0, 0), (0, 1), (0, 2), (0, 4), (0, 5), (1, 3), (1, 6), (0, 7), (0, 8), (0, 9), (0, 10), (0, 11), (0, 12), (0, 13), (0, 14), (0, 15)] (by kernel_rfl) ?_
  have hxd : Ext w2 w2.drew := (Ext.refl w2).drew
  repeat first | refine δ1 ?_ | refine δ2 ?_ | refine δ4 ?_ | refine δ5 ?_ | refine δ6 ?_ | refine δ7 ?_ | refine δ9 ?_ | refine δ8 ?_ | refine χ1 ?_ | refine χ2 ?_ | refine χ3 ?_ | refine χ4 ?_ | refine χ5 ?_ | refine χ6 ?_ | refine χ7 ?_
  refine dld (((hbd.ext hx2).ext hxd).at rfl) ?_
  repeat first | refine δ1 ?_ | refine δ2 ?_ | refine δ4 ?_ | refine δ5 ?_ | refine δ6 ?_ | refine δ7 ?_ | refine δ9 ?_ | refine δ8 ?_ | refine χ1 ?_ | refine χ2 ?_ | refine χ3 ?_ | refine χ4 ?_ | refine χ5 ?_ | refine χ6 ?_ | refine χ7 ?_
  refine dnci ?_
  repeat first | refine δ1 ?_ | refine δ2 ?_ | refine δ4 ?_ | refine δ5 ?_ | refine δ6 ?_ | refine δ7 ?_ | refine δ9 ?_ | refine δ8 ?_ | refine χ1 ?_ | refine χ2 ?_ | refine χ3 ?_ | refine χ4 ?_ | refine χ5 ?_ | refine χ6 ?_ | refine χ7 ?_
  refine dcl (cloneRowV (hr2.v.ext hxd) (fun _ => False) (fun _ h => h.elim)) ?_
  rintro vr3 w3 ⟨hr3, hx3⟩
  refine ⟨hx3, ?_⟩
  have hx23 := hxd.trans hx3
  have hmem : A.getD p [] ∈ A := by simp [List.getD, List.getElem?_eq_getElem hpA]
  have hN3 : ∀ k, box3 bs bl bn k → w0.heap.size ≤ k ∧ k < w3.heap.size := fun k hk => ⟨(hN k hk).1, Nat.lt_of_lt_of_le (hN k hk).2 (Nat.le_trans hg02.size hx23.size)⟩
  repeat first | refine δ1 ?_ | refine δ2 ?_ | refine δ4 ?_ | refine δ5 ?_ | refine δ6 ?_ | refine δ7 ?_ | refine δ9 ?_ | refine δ8 ?_ | refine χ1 ?_ | refine χ2 ?_ | refine χ3 ?_ | refine χ4 ?_ | refine χ5 ?_ | refine χ6 ?_ | refine χ7 ?_
  refine dinv mC (hCk w3 ((hx0.trans hx2).trans hx23) _ hN3 (A.getD p []) vr3 (hSC _ hmem) hr3.v) ?_
  rintro y w4 ⟨⟨vn, s2, rfl, hn4, hs2⟩, hx4⟩
  refine ⟨hx4, ?_⟩
  have hx24 := hx23.trans hx4
  have hbs4 := hbs2.ext hx24
  repeat first | refine δ1 ?_ | refine δ2 ?_ | refine δ4 ?_ | refine δ5 ?_ | refine δ6 ?_ | refine δ7 ?_ | refine δ9 ?_ | refine δ8 ?_ | refine χ1 ?_ | refine χ2 ?_ | refine χ3 ?_ | refine χ4 ?_ | refine χ5 ?_ | refine χ6 ?_ | refine χ7 ?_
  repeat first | refine ω1 ?_ | refine ω2 ?_ | refine ω3 ?_ | refine ω4 ?_ | refine ω5 ?_ | refine χ1 ?_ | refine κ1 ?_ | refine κ2 ?_ | refine χ2 ?_ | refine κ3 ?_ | refine ω6 ?_ | refine ω7 ?_ | refine ω9 ?_ | refine κ4 ?_ | refine κ7 ?_ | refine κ8 ?_ | refine χ3 ?_ | refine χ4 ?_ | refine κ5 ?_ | refine κ6 ?_ | refine χ5 ?_ | refine χ6 ?_ | refine χ7 ?_ | refine ω8 ?_
  refine ld (hbs4.cell 0) ?_
  repeat first | refine ω1 ?_ | refine ω2 ?_ | refine ω3 ?_ | refine ω4 ?_ | refine ω5 ?_ | refine χ1 ?_ | refine κ1 ?_ | refine κ2 ?_ | refine χ2 ?_ | refine κ3 ?_ | refine ω6 ?_ | refine ω7 ?_ | refine ω9 ?_ | refine κ4 ?_ | refine κ7 ?_ | refine κ8 ?_ | refine χ3 ?_ | refine χ4 ?_ | refine κ5 ?_ | refine κ6 ?_ | refine χ5 ?_ | refine χ6 ?_ | refine χ7 ?_ | refine ω8 ?_
  refine sto (hbs4.cell 0) (hbs4.frozen 0) ?_
  have hbs5 := hbs4.set 0 (.int .i64 ((s0 : Int) + (s1 : Int) + (s2 : Int)))
  have hg5 : GrN (box3 bs bl bn) w4 (w4.setCell ⟨bs, 0, none⟩ (.int .i64 ((s0 : Int) + (s1 : Int) + (s2 : Int)))) := GrN.set _ (.inl rfl)
  have hx5 : Ext a (w4.setCell ⟨bs, 0, none⟩ (.int .i64 ((s0 : Int) + (s1 : Int) + (s2 : Int)))) := (hx2.trans hx24).setCell h1 _
  have hg05 := (hg02.trans (GrN.ext hx24)).trans hg5
  have hbl5 := (hbl2.ext hx24).far (p := ⟨bs, 0, none⟩) (Ne.symm hsl) (.int .i64 ((s0 : Int) + (s1 : Int) + (s2 : Int)))
  have hbn5 := (hbn2.ext hx24).far (p := ⟨bs, 0, none⟩) (Ne.symm hsn) (.int .i64 ((s0 : Int) + (s1 : Int) + (s2 : Int)))
  have hr5 := (hr2.ext hx24).gr hg5
  have hp5 := (hp2.ext hx24).gr hg5
  have hn5 := hn4.gr hg5
  generalize w4.setCell ⟨bs, 0, none⟩ (.int .i64 ((s0 : Int) + (s1 : Int) + (s2 : Int))) = w5 at *
  simp only [List.set_cons_zero] at hbs5
  rw [hD.rank p hpA] at hn5
  have hcl : cF A C p ≤ A.length := by have := cd_sum (A := A) (C := C) (i := p) (by omega); omega
  repeat first | refine ω1 ?_ | refine ω2 ?_ | refine ω3 ?_ | refine ω4 ?_ | refine ω5 ?_ | refine χ1 ?_ | refine κ1 ?_ | refine κ2 ?_ | refine χ2 ?_ | refine κ3 ?_ | refine ω6 ?_ | refine ω7 ?_ | refine ω9 ?_ | refine κ4 ?_ | refine κ7 ?_ | refine κ8 ?_ | refine χ3 ?_ | refine χ4 ?_ | refine κ5 ?_ | refine κ6 ?_ | refine χ5 ?_ | refine χ6 ?_ | refine χ7 ?_ | refine ω8 ?_
  refine wjoin1 (fun u : Value => [(9, vr), (0, vp), (2, .pointer (some ⟨bs, 0, none⟩)), (3, .pointer (some ⟨bk, 0, none⟩)), (4, .pointer (some ⟨bl, 0, none⟩)), (5, .pointer (some ⟨bn, 0, none⟩)), (12, u)])
    (fun u w6 => Ext w5 w6 ∧ NatV w6 u (cF A C (p + 1))) ?_ ?_
  · refine ci (fun h => ?_) (fun h => ?_)
    · have hin : A.getD p [] ∈ C := of_decide_eq_true h
      repeat first | refine ω1 ?_ | refine ω2 ?_ | refine ω3 ?_ | refine ω4 ?_ | refine ω5 ?_ | refine χ1 ?_ | refine κ1 ?_ | refine κ2 ?_ | refine χ2 ?_ | refine κ3 ?_ | refine ω6 ?_ | refine ω7 ?_ | refine ω9 ?_ | refine κ4 ?_ | refine κ7 ?_ | refine κ8 ?_ | refine χ3 ?_ | refine χ4 ?_ | refine κ5 ?_ | refine κ6 ?_ | refine χ5 ?_ | refine χ6 ?_ | refine χ7 ?_ | refine ω8 ?_
      refine cl (natOf_any 1 (by omega) _) ?_
      rintro u1 w6 ⟨hu1, hx6⟩
      repeat first | refine ω1 ?_ | refine ω2 ?_ | refine ω3 ?_ | refine ω4 ?_ | refine ω5 ?_ | refine χ1 ?_ | refine κ1 ?_ | refine κ2 ?_ | refine χ2 ?_ | refine κ3 ?_ | refine ω6 ?_ | refine ω7 ?_ | refine ω9 ?_ | refine κ4 ?_ | refine κ7 ?_ | refine κ8 ?_ | refine χ3 ?_ | refine χ4 ?_ | refine κ5 ?_ | refine κ6 ?_ | refine χ5 ?_ | refine χ6 ?_ | refine χ7 ?_ | refine ω8 ?_
      refine cl (natAdd_any (hn5.1.ext hx6) hu1 (small1000 (by omega)) (small1000 (by omega))) ?_
      rintro u2 w7 ⟨hu2, hx7⟩
      repeat first | refine ω1 ?_ | refine ω2 ?_ | refine ω3 ?_ | refine ω4 ?_ | refine ω5 ?_ | refine χ1 ?_ | refine κ1 ?_ | refine κ2 ?_ | refine χ2 ?_ | refine κ3 ?_ | refine ω6 ?_ | refine ω7 ?_ | refine ω9 ?_ | refine κ4 ?_ | refine κ7 ?_ | refine κ8 ?_ | refine χ3 ?_ | refine χ4 ?_ | refine κ5 ?_ | refine κ6 ?_ | refine χ5 ?_ | refine χ6 ?_ | refine χ7 ?_ | refine ω8 ?_
      exact qjoin1 u2 (by repeat' (first | exact Sub.nil | refine Sub.cons rfl ?_)) ⟨hx6.trans hx7, by rw [cF_succ hpA, if_pos hin]; exact hu2⟩
    · have hin : A.getD p [] ∉ C := of_decide_eq_false h
      repeat first | refine ω1 ?_ | refine ω2 ?_ | refine ω3 ?_ | refine ω4 ?_ | refine ω5 ?_ | refine χ1 ?_ | refine κ1 ?_ | refine κ2 ?_ | refine χ2 ?_ | refine κ3 ?_ | refine ω6 ?_ | refine ω7 ?_ | refine ω9 ?_ | refine κ4 ?_ | refine κ7 ?_ | refine κ8 ?_ | refine χ3 ?_ | refine χ4 ?_ | refine κ5 ?_ | refine κ6 ?_ | refine χ5 ?_ | refine χ6 ?_ | refine χ7 ?_ | refine ω8 ?_
      exact qjoin1 vn (by repeat' (first | exact Sub.nil | refine Sub.cons rfl ?_)) ⟨Ext.refl _, by rw [cF_succ hpA, if_neg hin]; exact hn5.1⟩
  rintro u w6 ⟨hx6, hu⟩
  have hx6a := hx5.trans hx6
  have hcl2 : cF A C (p + 1) ≤ A.length := by have := cd_sum (A := A) (C := C) (i := p + 1) (by omega); omega
  repeat first | refine ω1 ?_ | refine ω2 ?_ | refine ω3 ?_ | refine ω4 ?_ | refine ω5 ?_ | refine χ1 ?_ | refine κ1 ?_ | refine κ2 ?_ | refine χ2 ?_ | refine κ3 ?_ | refine ω6 ?_ | refine ω7 ?_ | refine ω9 ?_ | refine κ4 ?_ | refine κ7 ?_ | refine κ8 ?_ | refine χ3 ?_ | refine χ4 ?_ | refine κ5 ?_ | refine κ6 ?_ | refine χ5 ?_ | refine χ6 ?_ | refine χ7 ?_ | refine ω8 ?_
  refine ld ((hbk.ext hx6a).cell 0) ?_
  repeat first | refine ω1 ?_ | refine ω2 ?_ | refine ω3 ?_ | refine ω4 ?_ | refine ω5 ?_ | refine χ1 ?_ | refine κ1 ?_ | refine κ2 ?_ | refine χ2 ?_ | refine κ3 ?_ | refine ω6 ?_ | refine ω7 ?_ | refine ω9 ?_ | refine κ4 ?_ | refine κ7 ?_ | refine κ8 ?_ | refine χ3 ?_ | refine χ4 ?_ | refine κ5 ?_ | refine κ6 ?_ | refine χ5 ?_ | refine χ6 ?_ | refine χ7 ?_ | refine ω8 ?_
  refine cl (natAdd_any (hk.ext hx6a) hu (small1000 (by omega)) (small1000 (by omega))) ?_
  rintro v7 w7 ⟨hv7, hx7⟩
  repeat first | refine ω1 ?_ | refine ω2 ?_ | refine ω3 ?_ | refine ω4 ?_ | refine ω5 ?_ | refine χ1 ?_ | refine κ1 ?_ | refine κ2 ?_ | refine χ2 ?_ | refine κ3 ?_ | refine ω6 ?_ | refine ω7 ?_ | refine ω9 ?_ | refine κ4 ?_ | refine κ7 ?_ | refine κ8 ?_ | refine χ3 ?_ | refine χ4 ?_ | refine κ5 ?_ | refine κ6 ?_ | refine χ5 ?_ | refine χ6 ?_ | refine χ7 ?_ | refine ω8 ?_
  refine cl (natCmp_any ((hp5.1.ext hx6).ext hx7) hv7) ?_
  rintro t w8 ⟨rfl, hx8⟩
  have hx58 := (hx6.trans hx7).trans hx8
  have hsum : s0 + s1 + s2 ≤ (BA + BC) * (c + 1) := by rw [Nat.mul_succ]; omega
  repeat first | refine ω1 ?_ | refine ω2 ?_ | refine ω3 ?_ | refine ω4 ?_ | refine ω5 ?_ | refine χ1 ?_ | refine κ1 ?_ | refine κ2 ?_ | refine χ2 ?_ | refine κ3 ?_ | refine ω6 ?_ | refine ω7 ?_ | refine ω9 ?_ | refine κ4 ?_ | refine κ7 ?_ | refine κ8 ?_ | refine χ3 ?_ | refine χ4 ?_ | refine κ5 ?_ | refine κ6 ?_ | refine χ5 ?_ | refine χ6 ?_ | refine χ7 ?_ | refine ω8 ?_
  refine ci (fun h => ?_) (fun h => ?_)
  · have hlt := cmpN_lt.1 (of_decide_eq_true h)
    have hpr : prD A C k p = false := decide_eq_false (by omega)
    repeat first | refine ω1 ?_ | refine ω2 ?_ | refine ω3 ?_ | refine ω4 ?_ | refine ω5 ?_ | refine χ1 ?_ | refine κ1 ?_ | refine κ2 ?_ | refine χ2 ?_ | refine κ3 ?_ | refine ω6 ?_ | refine ω7 ?_ | refine ω9 ?_ | refine κ4 ?_ | refine κ7 ?_ | refine κ8 ?_ | refine χ3 ?_ | refine χ4 ?_ | refine κ5 ?_ | refine κ6 ?_ | refine χ5 ?_ | refine χ6 ?_ | refine χ7 ?_ | refine ω8 ?_
    rw [hpr, if_neg (by decide)]
    refine fin2 ⟨rfl, hg05.trans (GrN.ext hx58), ⟨hx5.trans hx58, ⟨s0 + s1 + s2, ?_, hsum⟩, kn, vl, hbl5.ext hx58, hvl, hbn5.ext hx58, fun e => ((hkn1 e).gr hg05).ext hx58, hkn0⟩⟩
    have := hbs5.ext hx58
    simpa using this
  · have hge : ¬ p < k + cF A C (p + 1) := fun h' => of_decide_eq_false h (cmpN_lt.2 h')
    have hpr : prD A C k p = true := decide_eq_true (by omega)
    have hN8 : ∀ k, box3 bs bl bn k → k < w8.heap.size := fun k hk => Nat.lt_of_lt_of_le (hN k hk).2 (Nat.le_trans hg05.size hx58.size)
    repeat first | refine ω1 ?_ | refine ω2 ?_ | refine ω3 ?_ | refine ω4 ?_ | refine ω5 ?_ | refine χ1 ?_ | refine κ1 ?_ | refine κ2 ?_ | refine χ2 ?_ | refine κ3 ?_ | refine ω6 ?_ | refine ω7 ?_ | refine ω9 ?_ | refine κ4 ?_ | refine κ7 ?_ | refine κ8 ?_ | refine χ3 ?_ | refine χ4 ?_ | refine κ5 ?_ | refine κ6 ?_ | refine χ5 ?_ | refine χ6 ?_ | refine χ7 ?_ | refine ω8 ?_
    refine cl (cloneRowV (hr5.v.ext hx58) (box3 bs bl bn) hN8) ?_
    rintro vr9 w9 ⟨hr9, hx9⟩
    have hx59 := hx58.trans hx9
    have hbl9 := hbl5.ext hx59
    have hbn9 := hbn5.ext hx59
    have hbs9 := hbs5.ext hx59
    have hx9a := hx5.trans hx59
    have hg09 := hg05.trans (GrN.ext hx59)
    obtain ⟨A9, c9, rfl, _⟩ := id hr9
    repeat first | refine ω1 ?_ | refine ω2 ?_ | refine ω3 ?_ | refine ω4 ?_ | refine ω5 ?_ | refine χ1 ?_ | refine κ1 ?_ | refine κ2 ?_ | refine χ2 ?_ | refine κ3 ?_ | refine ω6 ?_ | refine ω7 ?_ | refine ω9 ?_ | refine κ4 ?_ | refine κ7 ?_ | refine κ8 ?_ | refine χ3 ?_ | refine χ4 ?_ | refine κ5 ?_ | refine κ6 ?_ | refine χ5 ?_ | refine χ6 ?_ | refine χ7 ?_ | refine ω8 ?_
    refine sto (hbl9.cell 0) (hbl9.frozen 0) ?_
    have hbl10 := hbl9.set 0 (.slice A9 (A.getD p []).length c9)
    have hbn10 := hbn9.far (p := ⟨bl, 0, none⟩) (Ne.symm hln) (.slice A9 (A.getD p []).length c9)
    have hbs10 := hbs9.far (p := ⟨bl, 0, none⟩) hsl (.slice A9 (A.getD p []).length c9)
    have hx10 := hx9a.setCell (p := ⟨bl, 0, none⟩) h2 (.slice A9 (A.getD p []).length c9)
    have hg10 : GrN (box3 bs bl bn) w9 (w9.setCell ⟨bl, 0, none⟩ (.slice A9 (A.getD p []).length c9)) := GrN.set _ (.inr (.inl rfl))
    have hr10 := hr9.gr hg10
    generalize w9.setCell ⟨bl, 0, none⟩ (.slice A9 (A.getD p []).length c9) = w10 at *
    simp only [List.set_cons_zero] at hbl10
    repeat first | refine ω1 ?_ | refine ω2 ?_ | refine ω3 ?_ | refine ω4 ?_ | refine ω5 ?_ | refine χ1 ?_ | refine κ1 ?_ | refine κ2 ?_ | refine χ2 ?_ | refine κ3 ?_ | refine ω6 ?_ | refine ω7 ?_ | refine ω9 ?_ | refine κ4 ?_ | refine κ7 ?_ | refine κ8 ?_ | refine χ3 ?_ | refine χ4 ?_ | refine κ5 ?_ | refine κ6 ?_ | refine χ5 ?_ | refine χ6 ?_ | refine χ7 ?_ | refine ω8 ?_
    refine sto (hbn10.cell 0) (hbn10.frozen 0) ?_
    have hbn11 := hbn10.set 0 (.bool true)
    have hbl11 := hbl10.far (p := ⟨bn, 0, none⟩) hln (.bool true)
    have hbs11 := hbs10.far (p := ⟨bn, 0, none⟩) hsn (.bool true)
    have hx11 := hx10.setCell (p := ⟨bn, 0, none⟩) h3 (.bool true)
    have hg11 : GrN (box3 bs bl bn) w10 (w10.setCell ⟨bn, 0, none⟩ (.bool true)) := GrN.set _ (.inr (.inr rfl))
    have hr11 := hr10.gr hg11
    generalize w10.setCell ⟨bn, 0, none⟩ (.bool true) = w11 at *
    simp only [List.set_cons_zero] at hbn11
    repeat first | refine ω1 ?_ | refine ω2 ?_ | refine ω3 ?_ | refine ω4 ?_ | refine ω5 ?_ | refine χ1 ?_ | refine κ1 ?_ | refine κ2 ?_ | refine χ2 ?_ | refine κ3 ?_ | refine ω6 ?_ | refine ω7 ?_ | refine ω9 ?_ | refine κ4 ?_ | refine κ7 ?_ | refine κ8 ?_ | refine χ3 ?_ | refine χ4 ?_ | refine κ5 ?_ | refine κ6 ?_ | refine χ5 ?_ | refine χ6 ?_ | refine χ7 ?_ | refine ω8 ?_
    rw [hpr, if_pos rfl]
    refine fin2 ⟨rfl, (hg09.trans hg10).trans hg11, ⟨hx11, ⟨s0 + s1 + s2, ?_, hsum⟩, true, _, hbl11, rfl, hbn11, fun e => hr11, fun e => by cases e⟩⟩
    simpa using hbs11
end Go.Proofs.Ytpahjnfolbnloaa
