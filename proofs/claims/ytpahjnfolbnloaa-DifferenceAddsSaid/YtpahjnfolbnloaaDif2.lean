/- The difference of two arrays: Of, Len, At, Rank. -/
import Derived.Test.YtpahjnfolbnloaaDif
set_option linter.unusedVariables false
namespace Go.Proofs.Ytpahjnfolbnloaa
open Go.RowKit Pl Go.Wk
attribute [local irreducible] WC WL QX WD WDB WP
theorem zInt : zeroOf Try.prog 3 = some (.int .i64 0) := by kernel_rfl
theorem zBool : zeroOf Try.prog 4 = some (.bool false) := by kernel_rfl
theorem zRow : zeroOf Try.prog 25 = some (.slice none 0 0) := by kernel_rfl
theorem zDif : zeroOf Try.prog 66 = some (.agg #[.nilIface, .nilIface]) := by kernel_rfl
/-- what At returns -/
def DAt (w : World) (D : List Row) (B k : Nat) (x : Value) : Prop :=
  if k < D.length then ∃ vr, ∃ s : Nat, x = .tuple #[vr, .int .i64 (s : Int), .int .i64 0] ∧ RowV w vr (D.getD k []) ∧ s ≤ B
  else x = .tuple #[.slice none 0 0, .int .i64 0, .int .i64 3]
set_option maxRecDepth 100000 in
set_option maxHeartbeats 1000000 in
theorem difAt_any {A C : List Row} {RA RC : Row → Nat} {BA BC : Nat} {SA SC : Row → Prop} {va vc vk : Value} {k : Nat} {w : World}
    (hD : DifH A C RC) (ha : ArrO w va A RA BA SA) (hc : ArrO w vc C RC BC SC) (hSC : ∀ r, r ∈ A → SC r) (hk : NatV w vk k) (hkb : k < 2000000) :
    Ret Try.prog 41 [.agg #[va, vc], vk] w fun x w' => DAt w' (dif2 A C) ((BA + BC) * lenB C.length + BA) k x ∧ Ext w w' := by
  obtain ⟨hlD, hCA⟩ := hD.len
  have hsA := ha.small
  have hsC := hc.small
  have hba := ha.bd
  have hbc := hc.bd
  obtain ⟨ta, xa, rfl⟩ := ha.form
  obtain ⟨tc, xc, rfl⟩ := hc.form
  obtain ⟨fL, rL, mL, hL⟩ := ha.len
  obtain ⟨fM, rM, mM, hM⟩ := hc.len
  obtain ⟨A0, c0, rfl, hc0, hl0, hr0⟩ := id hk
  refine enterR Try.func41 Try.ntmps41 rfl (by kernel_rfl) rfl ?_
  repeat first | refine ω1 ?_ | refine ω2 ?_ | refine ω3 ?_ | refine ω4 ?_ | refine ω5 ?_ | refine χ1 ?_ | refine κ1 ?_ | refine κ2 ?_ | refine χ2 ?_ | refine κ3 ?_ | refine ω6 ?_ | refine ω7 ?_ | refine ω9 ?_ | refine κ4 ?_ | refine κ7 ?_ | refine κ8 ?_ | refine χ3 ?_ | refine χ4 ?_ | refine κ5 ?_ | refine κ6 ?_ | refine χ5 ?_ | refine χ6 ?_ | refine χ7 ?_ | refine ω8 ?_
  refine bx ?_
  intro w1 bd hx1 hb1 hbd
  repeat first | refine ω1 ?_ | refine ω2 ?_ | refine ω3 ?_ | refine ω4 ?_ | refine ω5 ?_ | refine χ1 ?_ | refine κ1 ?_ | refine κ2 ?_ | refine χ2 ?_ | refine κ3 ?_ | refine ω6 ?_ | refine ω7 ?_ | refine ω9 ?_ | refine κ4 ?_ | refine κ7 ?_ | refine κ8 ?_ | refine χ3 ?_ | refine χ4 ?_ | refine κ5 ?_ | refine κ6 ?_ | refine χ5 ?_ | refine χ6 ?_ | refine χ7 ?_ | refine ω8 ?_
  refine bx ?_
  intro w2 bk hx2 hb2 hbk
  have hbd2 := hbd.ext hx2
  have hx02 := hx1.trans hx2
  repeat first | refine ω1 ?_ | refine ω2 ?_ | refine ω3 ?_ | refine ω4 ?_ | refine ω5 ?_ | refine χ1 ?_ | refine κ1 ?_ | refine κ2 ?_ | refine χ2 ?_ | refine κ3 ?_ | refine ω6 ?_ | refine ω7 ?_ | refine ω9 ?_ | refine κ4 ?_ | refine κ7 ?_ | refine κ8 ?_ | refine χ3 ?_ | refine χ4 ?_ | refine κ5 ?_ | refine κ6 ?_ | refine χ5 ?_ | refine χ6 ?_ | refine χ7 ?_ | refine ω8 ?_
  refine ld (hbd2.at rfl) ?_
  repeat first | refine ω1 ?_ | refine ω2 ?_ | refine ω3 ?_ | refine ω4 ?_ | refine ω5 ?_ | refine χ1 ?_ | refine κ1 ?_ | refine κ2 ?_ | refine χ2 ?_ | refine κ3 ?_ | refine ω6 ?_ | refine ω7 ?_ | refine ω9 ?_ | refine κ4 ?_ | refine κ7 ?_ | refine κ8 ?_ | refine χ3 ?_ | refine χ4 ?_ | refine κ5 ?_ | refine κ6 ?_ | refine χ5 ?_ | refine χ6 ?_ | refine χ7 ?_ | refine ω8 ?_
  refine inil ifA (.inr ⟨_, _, rfl⟩) ?_
  repeat first | refine ω1 ?_ | refine ω2 ?_ | refine ω3 ?_ | refine ω4 ?_ | refine ω5 ?_ | refine χ1 ?_ | refine κ1 ?_ | refine κ2 ?_ | refine χ2 ?_ | refine κ3 ?_ | refine ω6 ?_ | refine ω7 ?_ | refine ω9 ?_ | refine κ4 ?_ | refine κ7 ?_ | refine κ8 ?_ | refine χ3 ?_ | refine χ4 ?_ | refine κ5 ?_ | refine κ6 ?_ | refine χ5 ?_ | refine χ6 ?_ | refine χ7 ?_ | refine ω8 ?_
  refine ld (hbd2.at rfl) ?_
  repeat first | refine ω1 ?_ | refine ω2 ?_ | refine ω3 ?_ | refine ω4 ?_ | refine ω5 ?_ | refine χ1 ?_ | refine κ1 ?_ | refine κ2 ?_ | refine χ2 ?_ | refine κ3 ?_ | refine ω6 ?_ | refine ω7 ?_ | refine ω9 ?_ | refine κ4 ?_ | refine κ7 ?_ | refine κ8 ?_ | refine χ3 ?_ | refine χ4 ?_ | refine κ5 ?_ | refine κ6 ?_ | refine χ5 ?_ | refine χ6 ?_ | refine χ7 ?_ | refine ω8 ?_
  refine inv mM (hM w2 hx02) ?_
  rintro vm w3 ⟨hm3, hx3⟩
  repeat first | refine ω1 ?_ | refine ω2 ?_ | refine ω3 ?_ | refine ω4 ?_ | refine ω5 ?_ | refine χ1 ?_ | refine κ1 ?_ | refine κ2 ?_ | refine χ2 ?_ | refine κ3 ?_ | refine ω6 ?_ | refine ω7 ?_ | refine ω9 ?_ | refine κ4 ?_ | refine κ7 ?_ | refine κ8 ?_ | refine χ3 ?_ | refine χ4 ?_ | refine κ5 ?_ | refine κ6 ?_ | refine χ5 ?_ | refine χ6 ?_ | refine χ7 ?_ | refine ω8 ?_
  refine ld ((hbd2.ext hx3).at rfl) ?_
  repeat first | refine ω1 ?_ | refine ω2 ?_ | refine ω3 ?_ | refine ω4 ?_ | refine ω5 ?_ | refine χ1 ?_ | refine κ1 ?_ | refine κ2 ?_ | refine χ2 ?_ | refine κ3 ?_ | refine ω6 ?_ | refine ω7 ?_ | refine ω9 ?_ | refine κ4 ?_ | refine κ7 ?_ | refine κ8 ?_ | refine χ3 ?_ | refine χ4 ?_ | refine κ5 ?_ | refine κ6 ?_ | refine χ5 ?_ | refine χ6 ?_ | refine χ7 ?_ | refine ω8 ?_
  refine inv mL (hL w3 (hx02.trans hx3)) ?_
  rintro vl w4 ⟨hl4, hx4⟩
  repeat first | refine ω1 ?_ | refine ω2 ?_ | refine ω3 ?_ | refine ω4 ?_ | refine ω5 ?_ | refine χ1 ?_ | refine κ1 ?_ | refine κ2 ?_ | refine χ2 ?_ | refine κ3 ?_ | refine ω6 ?_ | refine ω7 ?_ | refine ω9 ?_ | refine κ4 ?_ | refine κ7 ?_ | refine κ8 ?_ | refine χ3 ?_ | refine χ4 ?_ | refine κ5 ?_ | refine κ6 ?_ | refine χ5 ?_ | refine χ6 ?_ | refine χ7 ?_ | refine ω8 ?_
  refine cl (natSub_any hl4 (hm3.ext hx4) (small1000 (by omega))) ?_
  rintro y w5 ⟨⟨vd, rfl, hd5⟩, hx5⟩
  rw [if_neg (show ¬ A.length < C.length by omega)]
  have hx25 := (hx3.trans hx4).trans hx5
  have hbk5 := hbk.ext hx25
  repeat first | refine ω1 ?_ | refine ω2 ?_ | refine ω3 ?_ | refine ω4 ?_ | refine ω5 ?_ | refine χ1 ?_ | refine κ1 ?_ | refine κ2 ?_ | refine χ2 ?_ | refine κ3 ?_ | refine ω6 ?_ | refine ω7 ?_ | refine ω9 ?_ | refine κ4 ?_ | refine κ7 ?_ | refine κ8 ?_ | refine χ3 ?_ | refine χ4 ?_ | refine κ5 ?_ | refine κ6 ?_ | refine χ5 ?_ | refine χ6 ?_ | refine χ7 ?_ | refine ω8 ?_
  refine ld (hbk5.cell 0) ?_
  repeat first | refine ω1 ?_ | refine ω2 ?_ | refine ω3 ?_ | refine ω4 ?_ | refine ω5 ?_ | refine χ1 ?_ | refine κ1 ?_ | refine κ2 ?_ | refine χ2 ?_ | refine κ3 ?_ | refine ω6 ?_ | refine ω7 ?_ | refine ω9 ?_ | refine κ4 ?_ | refine κ7 ?_ | refine κ8 ?_ | refine χ3 ?_ | refine χ4 ?_ | refine κ5 ?_ | refine κ6 ?_ | refine χ5 ?_ | refine χ6 ?_ | refine χ7 ?_ | refine ω8 ?_
  refine cl (natCmp_any ((hk.ext hx02).ext hx25) hd5) ?_
  rintro t w6 ⟨rfl, hx6⟩
  have hx26 := hx25.trans hx6
  repeat first | refine ω1 ?_ | refine ω2 ?_ | refine ω3 ?_ | refine ω4 ?_ | refine ω5 ?_ | refine χ1 ?_ | refine κ1 ?_ | refine κ2 ?_ | refine χ2 ?_ | refine κ3 ?_ | refine ω6 ?_ | refine ω7 ?_ | refine ω9 ?_ | refine κ4 ?_ | refine κ7 ?_ | refine κ8 ?_ | refine χ3 ?_ | refine χ4 ?_ | refine κ5 ?_ | refine κ6 ?_ | refine χ5 ?_ | refine χ6 ?_ | refine χ7 ?_ | refine ω8 ?_
  refine ci (fun h => ?_) (fun h => ?_)
  · have hge := cmpN_ge.1 (of_decide_eq_true h)
    repeat first | refine ω1 ?_ | refine ω2 ?_ | refine ω3 ?_ | refine ω4 ?_ | refine ω5 ?_ | refine χ1 ?_ | refine κ1 ?_ | refine κ2 ?_ | refine χ2 ?_ | refine κ3 ?_ | refine ω6 ?_ | refine ω7 ?_ | refine ω9 ?_ | refine κ4 ?_ | refine κ7 ?_ | refine κ8 ?_ | refine χ3 ?_ | refine χ4 ?_ | refine κ5 ?_ | refine κ6 ?_ | refine χ5 ?_ | refine χ6 ?_ | refine χ7 ?_ | refine ω8 ?_
    refine fin3 ⟨?_, hx02.trans hx26⟩
    unfold DAt
    rw [if_neg (by omega)]
  have hlt : k < (dif2 A C).length := by
    have := of_decide_eq_false h
    rcases Nat.lt_or_ge k (A.length - C.length) with h1 | h1
    · omega
    · exact absurd (cmpN_ge.2 h1) this
  repeat first | refine ω1 ?_ | refine ω2 ?_ | refine ω3 ?_ | refine ω4 ?_ | refine ω5 ?_ | refine χ1 ?_ | refine κ1 ?_ | refine κ2 ?_ | refine χ2 ?_ | refine κ3 ?_ | refine ω6 ?_ | refine ω7 ?_ | refine ω9 ?_ | refine κ4 ?_ | refine κ7 ?_ | refine κ8 ?_ | refine χ3 ?_ | refine χ4 ?_ | refine κ5 ?_ | refine κ6 ?_ | refine χ5 ?_ | refine χ6 ?_ | refine χ7 ?_ | refine ω8 ?_
  refine alc zInt ?_
  intro w7 bs hx7 hb7 hbs
  repeat first | refine ω1 ?_ | refine ω2 ?_ | refine ω3 ?_ | refine ω4 ?_ | refine ω5 ?_ | refine χ1 ?_ | refine κ1 ?_ | refine κ2 ?_ | refine χ2 ?_ | refine κ3 ?_ | refine ω6 ?_ | refine ω7 ?_ | refine ω9 ?_ | refine κ4 ?_ | refine κ7 ?_ | refine κ8 ?_ | refine χ3 ?_ | refine χ4 ?_ | refine κ5 ?_ | refine κ6 ?_ | refine χ5 ?_ | refine χ6 ?_ | refine χ7 ?_ | refine ω8 ?_
  refine alc zBool ?_
  intro w8 bn hx8 hb8 hbn
  repeat first | refine ω1 ?_ | refine ω2 ?_ | refine ω3 ?_ | refine ω4 ?_ | refine ω5 ?_ | refine χ1 ?_ | refine κ1 ?_ | refine κ2 ?_ | refine χ2 ?_ | refine κ3 ?_ | refine ω6 ?_ | refine ω7 ?_ | refine ω9 ?_ | refine κ4 ?_ | refine κ7 ?_ | refine κ8 ?_ | refine χ3 ?_ | refine χ4 ?_ | refine κ5 ?_ | refine κ6 ?_ | refine χ5 ?_ | refine χ6 ?_ | refine χ7 ?_ | refine ω8 ?_
  have hbs8 := hbs.ext hx8
  refine sto (hbs8.cell 0) (hbs8.frozen 0) ?_
  have hsn : bs ≠ bn := by have := hbs.lt; omega
  have hx68 := hx7.trans hx8
  have hbs9 := hbs8.set 0 (.int .i64 0)
  have hbn9 := hbn.far (p := ⟨bs, 0, none⟩) (Ne.symm hsn) (.int .i64 0)
  have hx9 : Ext w6 (w8.setCell ⟨bs, 0, none⟩ (.int .i64 0)) := hx68.setCell hb7 _
  generalize w8.setCell ⟨bs, 0, none⟩ (.int .i64 0) = w9 at *
  simp only [List.set_cons_zero] at hbs9
  repeat first | refine ω1 ?_ | refine ω2 ?_ | refine ω3 ?_ | refine ω4 ?_ | refine ω5 ?_ | refine χ1 ?_ | refine κ1 ?_ | refine κ2 ?_ | refine χ2 ?_ | refine κ3 ?_ | refine ω6 ?_ | refine ω7 ?_ | refine ω9 ?_ | refine κ4 ?_ | refine κ7 ?_ | refine κ8 ?_ | refine χ3 ?_ | refine χ4 ?_ | refine κ5 ?_ | refine κ6 ?_ | refine χ5 ?_ | refine χ6 ?_ | refine χ7 ?_ | refine ω8 ?_
  refine sto (hbn9.cell 0) (hbn9.frozen 0) ?_
  have hb68 : w6.heap.size ≤ bn := Nat.le_trans hx7.size hb8
  have hbn10 := hbn9.set 0 (.bool false)
  have hbs10 := hbs9.far (p := ⟨bn, 0, none⟩) hsn (.bool false)
  have hx10 : Ext w6 (w9.setCell ⟨bn, 0, none⟩ (.bool false)) := hx9.setCell hb68 _
  generalize w9.setCell ⟨bn, 0, none⟩ (.bool false) = w10 at *
  simp only [List.set_cons_zero] at hbn10
  repeat first | refine ω1 ?_ | refine ω2 ?_ | refine ω3 ?_ | refine ω4 ?_ | refine ω5 ?_ | refine χ1 ?_ | refine κ1 ?_ | refine κ2 ?_ | refine χ2 ?_ | refine κ3 ?_ | refine ω6 ?_ | refine ω7 ?_ | refine ω9 ?_ | refine κ4 ?_ | refine κ7 ?_ | refine κ8 ?_ | refine χ3 ?_ | refine χ4 ?_ | refine κ5 ?_ | refine κ6 ?_ | refine χ5 ?_ | refine χ6 ?_ | refine χ7 ?_ | refine ω8 ?_
  refine alc zRow ?_
  intro w11 bl hx11 hb11 hbl
  have hsl : bs ≠ bl := by have := hbs10.lt; omega
  have hln : bl ≠ bn := by have := hbn10.lt; omega
  have hx611 := hx10.trans hx11
  have hb6l : w6.heap.size ≤ bl := Nat.le_trans hx10.size hb11
  have hbs11 := hbs10.ext hx11
  have hbn11 := hbn10.ext hx11
  have hbd6 := hbd2.ext hx26
  have hbk6 := hbk5.ext hx6
  have hx06 := hx02.trans hx26
  have hk6 := hk.ext hx06
  repeat first | refine ω1 ?_ | refine ω2 ?_ | refine ω3 ?_ | refine ω4 ?_ | refine ω5 ?_ | refine χ1 ?_ | refine κ1 ?_ | refine κ2 ?_ | refine χ2 ?_ | refine κ3 ?_ | refine ω6 ?_ | refine ω7 ?_ | refine ω9 ?_ | refine κ4 ?_ | refine κ7 ?_ | refine κ8 ?_ | refine χ3 ?_ | refine χ4 ?_ | refine κ5 ?_ | refine κ6 ?_ | refine χ5 ?_ | refine χ6 ?_ | refine χ7 ?_ | refine ω8 ?_
  refine ld ((hbk6.ext hx611).cell 0) ?_
  have hCb : lenB C.length ≤ 21 := lenB_pow (by omega)
  have hN : ∀ j, box3 bs bl bn j → j < w11.heap.size := fun j hj => by
    have l1 := hbs11.lt
    have l2 := hbl.lt
    have l3 := hbn11.lt
    rcases hj with rfl | rfl | rfl <;> omega
  have hN6 : ∀ j, box3 bs bl bn j → w6.heap.size ≤ j := fun j hj => by rcases hj with rfl | rfl | rfl <;> omega
  repeat first | refine ω1 ?_ | refine ω2 ?_ | refine ω3 ?_ | refine ω4 ?_ | refine ω5 ?_ | refine χ1 ?_ | refine κ1 ?_ | refine κ2 ?_ | refine χ2 ?_ | refine κ3 ?_ | refine ω6 ?_ | refine ω7 ?_ | refine ω9 ?_ | refine κ4 ?_ | refine κ7 ?_ | refine κ8 ?_ | refine χ3 ?_ | refine χ4 ?_ | refine κ5 ?_ | refine κ6 ?_ | refine χ5 ?_ | refine χ6 ?_ | refine χ7 ?_ | refine ω8 ?_
  refine cl (search_any (pr := prD A C k) (I := AtI A C k (BA + BC) bs bl bn w6) (N := box3 bs bl bn) (lo0 := k) (sz0 := C.length)
    (fun w w' hi c h hx => ⟨h.old.trans hx, by obtain ⟨s, h1, h2⟩ := h.steps; exact ⟨s, h1.ext hx, h2⟩, by obtain ⟨kn, vl, h1, h2, h3, h4, h5⟩ := h.last; exact ⟨kn, vl, h1.ext hx, h2, h3.ext hx, fun e => (h4 e).ext hx, h5⟩⟩)
    hN
    (fun w1 p vp hi c hg hI hp hlo hhi hcl => at1_any hD (ha.ext hx06) (hc.ext hx06) hSC (Ext.refl _) hbd6 hbk6 hk6 hkb hb7 hb6l hb68 hsl hsn hln hI hp (by omega) (by omega))
    ⟨hx611, ⟨0, hbs11, Nat.zero_le _⟩, false, _, hbl, rfl, hbn11, fun e => (by cases e), fun _ => rfl⟩
    (hk6.ext hx611) ((((hm3.ext hx4).ext hx5).ext hx6).ext hx611) (by omega) (by omega)) ?_
  rintro y w12 ⟨vp, p, c, rfl, hp12, hI12, hg12, hcc, hp1, hp2, hp3, hp4⟩
  obtain ⟨hpA, hpe⟩ := found hD hlt hp1 hp2 hp3 hp4
  obtain ⟨hxa, ⟨s, hbs12, hs⟩, kn, vw, hbl12, hvw, hbn12, hk1, hk0⟩ := hI12
  have hm : (BA + BC) * c ≤ (BA + BC) * lenB C.length := Nat.mul_le_mul_left _ hcc
  have hm2 : (BA + BC) * lenB C.length ≤ 2000000 * 21 := Nat.mul_le_mul (by omega) hCb
  repeat first | refine ω1 ?_ | refine ω2 ?_ | refine ω3 ?_ | refine ω4 ?_ | refine ω5 ?_ | refine χ1 ?_ | refine κ1 ?_ | refine κ2 ?_ | refine χ2 ?_ | refine κ3 ?_ | refine ω6 ?_ | refine ω7 ?_ | refine ω9 ?_ | refine κ4 ?_ | refine κ7 ?_ | refine κ8 ?_ | refine χ3 ?_ | refine χ4 ?_ | refine κ5 ?_ | refine κ6 ?_ | refine χ5 ?_ | refine χ6 ?_ | refine χ7 ?_ | refine ω8 ?_
  refine ld (hbn12.cell 0) ?_
  repeat first | refine ω1 ?_ | refine ω2 ?_ | refine ω3 ?_ | refine ω4 ?_ | refine ω5 ?_ | refine χ1 ?_ | refine κ1 ?_ | refine κ2 ?_ | refine χ2 ?_ | refine κ3 ?_ | refine ω6 ?_ | refine ω7 ?_ | refine ω9 ?_ | refine κ4 ?_ | refine κ7 ?_ | refine κ8 ?_ | refine χ3 ?_ | refine χ4 ?_ | refine κ5 ?_ | refine κ6 ?_ | refine χ5 ?_ | refine χ6 ?_ | refine χ7 ?_ | refine ω8 ?_
  refine ci (fun h => ?_) (fun h => ?_)
  · subst h
    obtain ⟨A9, c9, rfl, _⟩ := id (hk1 rfl)
    repeat first | refine ω1 ?_ | refine ω2 ?_ | refine ω3 ?_ | refine ω4 ?_ | refine ω5 ?_ | refine χ1 ?_ | refine κ1 ?_ | refine κ2 ?_ | refine χ2 ?_ | refine κ3 ?_ | refine ω6 ?_ | refine ω7 ?_ | refine ω9 ?_ | refine κ4 ?_ | refine κ7 ?_ | refine κ8 ?_ | refine χ3 ?_ | refine χ4 ?_ | refine κ5 ?_ | refine κ6 ?_ | refine χ5 ?_ | refine χ6 ?_ | refine χ7 ?_ | refine ω8 ?_
    refine dr [(0, 0), (0, 1), (0, 2), (0, 3), (0, 4)] (by kernel_rfl) ?_
    have hxd : Ext w12 w12.drew := (Ext.refl w12).drew
    repeat first | refine δ1 ?_ | refine δ2 ?_ | refine δ4 ?_ | refine δ5 ?_ | refine δ6 ?_ | refine δ7 ?_ | refine δ9 ?_ | refine δ8 ?_ | refine χ1 ?_ | refine χ2 ?_ | refine χ3 ?_ | refine χ4 ?_ | refine χ5 ?_ | refine χ6 ?_ | refine χ7 ?_
    refine dld ((hbl12.ext hxd).cell 0) ?_
    repeat first | refine δ1 ?_ | refine δ2 ?_ | refine δ4 ?_ | refine δ5 ?_ | refine δ6 ?_ | refine δ7 ?_ | refine δ9 ?_ | refine δ8 ?_ | refine χ1 ?_ | refine χ2 ?_ | refine χ3 ?_ | refine χ4 ?_ | refine χ5 ?_ | refine χ6 ?_ | refine χ7 ?_
    refine dld ((hbs12.ext hxd).cell 0) ?_
    repeat first | refine δ1 ?_ | refine δ2 ?_ | refine δ4 ?_ | refine δ5 ?_ | refine δ6 ?_ | refine δ7 ?_ | refine δ9 ?_ | refine δ8 ?_ | refine χ1 ?_ | refine χ2 ?_ | refine χ3 ?_ | refine χ4 ?_ | refine χ5 ?_ | refine χ6 ?_ | refine χ7 ?_
    repeat first | refine ω1 ?_ | refine ω2 ?_ | refine ω3 ?_ | refine ω4 ?_ | refine ω5 ?_ | refine χ1 ?_ | refine κ1 ?_ | refine κ2 ?_ | refine χ2 ?_ | refine κ3 ?_ | refine ω6 ?_ | refine ω7 ?_ | refine ω9 ?_ | refine κ4 ?_ | refine κ7 ?_ | refine κ8 ?_ | refine χ3 ?_ | refine χ4 ?_ | refine κ5 ?_ | refine κ6 ?_ | refine χ5 ?_ | refine χ6 ?_ | refine χ7 ?_ | refine ω8 ?_
    refine fin3 ⟨?_, (hx06.trans hxa).trans hxd⟩
    unfold DAt
    rw [if_pos hlt, ← hpe]
    exact ⟨_, s, rfl, (hk1 rfl).v.ext hxd, by omega⟩
  · subst h
    have hpe2 := hk0 rfl
    obtain ⟨fA, rA, mA, hA⟩ := ha.at_
    have hx012 := hx06.trans hxa
    repeat first | refine ω1 ?_ | refine ω2 ?_ | refine ω3 ?_ | refine ω4 ?_ | refine ω5 ?_ | refine χ1 ?_ | refine κ1 ?_ | refine κ2 ?_ | refine χ2 ?_ | refine κ3 ?_ | refine ω6 ?_ | refine ω7 ?_ | refine ω9 ?_ | refine κ4 ?_ | refine κ7 ?_ | refine κ8 ?_ | refine χ3 ?_ | refine χ4 ?_ | refine κ5 ?_ | refine κ6 ?_ | refine χ5 ?_ | refine χ6 ?_ | refine χ7 ?_ | refine ω8 ?_
    refine ld ((hbd6.ext hxa).at rfl) ?_
    repeat first | refine ω1 ?_ | refine ω2 ?_ | refine ω3 ?_ | refine ω4 ?_ | refine ω5 ?_ | refine χ1 ?_ | refine κ1 ?_ | refine κ2 ?_ | refine χ2 ?_ | refine κ3 ?_ | refine ω6 ?_ | refine ω7 ?_ | refine ω9 ?_ | refine κ4 ?_ | refine κ7 ?_ | refine κ8 ?_ | refine χ3 ?_ | refine χ4 ?_ | refine κ5 ?_ | refine κ6 ?_ | refine χ5 ?_ | refine χ6 ?_ | refine χ7 ?_ | refine ω8 ?_
    have hN0 : ∀ j, box3 bs bl bn j → w.heap.size ≤ j ∧ j < w12.heap.size := fun j hj => ⟨Nat.le_trans hx06.size (hN6 j hj), Nat.lt_of_lt_of_le (hN j hj) hg12.size⟩
    refine inv mA (hA w12 hx012 _ hN0 p vp hp12 (by omega)) ?_
    rintro y w13 ⟨hy, hx13⟩
    unfold AtX at hy
    rw [if_pos hpA] at hy
    obtain ⟨vr, s1, rfl, hr1, hs1⟩ := hy
    repeat first | refine ω1 ?_ | refine ω2 ?_ | refine ω3 ?_ | refine ω4 ?_ | refine ω5 ?_ | refine χ1 ?_ | refine κ1 ?_ | refine κ2 ?_ | refine χ2 ?_ | refine κ3 ?_ | refine ω6 ?_ | refine ω7 ?_ | refine ω9 ?_ | refine κ4 ?_ | refine κ7 ?_ | refine κ8 ?_ | refine χ3 ?_ | refine χ4 ?_ | refine κ5 ?_ | refine κ6 ?_ | refine χ5 ?_ | refine χ6 ?_ | refine χ7 ?_ | refine ω8 ?_
    refine dr [(0, 0), (0, 2), (0, 3), (0, 4), (1, 1), (0, 5), (0, 6), (0, 7)] (by kernel_rfl) ?_
    have hxd : Ext w13 w13.drew := (Ext.refl w13).drew
    repeat first | refine δ1 ?_ | refine δ2 ?_ | refine δ4 ?_ | refine δ5 ?_ | refine δ6 ?_ | refine δ7 ?_ | refine δ9 ?_ | refine δ8 ?_ | refine χ1 ?_ | refine χ2 ?_ | refine χ3 ?_ | refine χ4 ?_ | refine χ5 ?_ | refine χ6 ?_ | refine χ7 ?_
    refine dld (((hbs12.ext hx13).ext hxd).cell 0) ?_
    repeat first | refine δ1 ?_ | refine δ2 ?_ | refine δ4 ?_ | refine δ5 ?_ | refine δ6 ?_ | refine δ7 ?_ | refine δ9 ?_ | refine δ8 ?_ | refine χ1 ?_ | refine χ2 ?_ | refine χ3 ?_ | refine χ4 ?_ | refine χ5 ?_ | refine χ6 ?_ | refine χ7 ?_
    refine dcl (cloneRowV (hr1.v.ext hxd) (fun _ => False) (fun _ h => h.elim)) ?_
    rintro vr3 w14 ⟨hr3, hx14⟩
    refine ⟨hx14, ?_⟩
    repeat first | refine δ1 ?_ | refine δ2 ?_ | refine δ4 ?_ | refine δ5 ?_ | refine δ6 ?_ | refine δ7 ?_ | refine δ9 ?_ | refine δ8 ?_ | refine χ1 ?_ | refine χ2 ?_ | refine χ3 ?_ | refine χ4 ?_ | refine χ5 ?_ | refine χ6 ?_ | refine χ7 ?_
    repeat first | refine ω1 ?_ | refine ω2 ?_ | refine ω3 ?_ | refine ω4 ?_ | refine ω5 ?_ | refine χ1 ?_ | refine κ1 ?_ | refine κ2 ?_ | refine χ2 ?_ | refine κ3 ?_ | refine ω6 ?_ | refine ω7 ?_ | refine ω9 ?_ | refine κ4 ?_ | refine κ7 ?_ | refine κ8 ?_ | refine χ3 ?_ | refine χ4 ?_ | refine κ5 ?_ | refine κ6 ?_ | refine χ5 ?_ | refine χ6 ?_ | refine χ7 ?_ | refine ω8 ?_
    refine fin3 ⟨?_, ((hx012.trans hx13).trans hxd).trans hx14⟩
    unfold DAt
    rw [if_pos hlt, ← hpe]
    exact ⟨_, s + s1, rfl, hr3.v, by omega⟩
set_option maxRecDepth 100000 in
theorem difLen_any {A C : List Row} {RA RC : Row → Nat} {BA BC : Nat} {SA SC : Row → Prop} {va vc : Value} {w : World}
    (ha : ArrO w va A RA BA SA) (hc : ArrO w vc C RC BC SC) :
    Ret Try.prog 46 [.agg #[va, vc]] w fun x w' => NatV w' x (A.length - C.length) ∧ Ext w w' := by
  have hsA := ha.small
  obtain ⟨ta, xa, rfl⟩ := ha.form
  obtain ⟨tc, xc, rfl⟩ := hc.form
  obtain ⟨fL, rL, mL, hL⟩ := ha.len
  obtain ⟨fM, rM, mM, hM⟩ := hc.len
  refine enterR Try.func46 Try.ntmps46 rfl (by kernel_rfl) rfl ?_
  repeat first | refine ω1 ?_ | refine ω2 ?_ | refine ω3 ?_ | refine ω4 ?_ | refine ω5 ?_ | refine χ1 ?_ | refine κ1 ?_ | refine κ2 ?_ | refine χ2 ?_ | refine κ3 ?_ | refine ω6 ?_ | refine ω7 ?_ | refine ω9 ?_ | refine κ4 ?_ | refine κ7 ?_ | refine κ8 ?_ | refine χ3 ?_ | refine χ4 ?_ | refine κ5 ?_ | refine κ6 ?_ | refine χ5 ?_ | refine χ6 ?_ | refine χ7 ?_ | refine ω8 ?_
  refine bx ?_
  intro w1 bd hx1 hb1 hbd
  repeat first | refine ω1 ?_ | refine ω2 ?_ | refine ω3 ?_ | refine ω4 ?_ | refine ω5 ?_ | refine χ1 ?_ | refine κ1 ?_ | refine κ2 ?_ | refine χ2 ?_ | refine κ3 ?_ | refine ω6 ?_ | refine ω7 ?_ | refine ω9 ?_ | refine κ4 ?_ | refine κ7 ?_ | refine κ8 ?_ | refine χ3 ?_ | refine χ4 ?_ | refine κ5 ?_ | refine κ6 ?_ | refine χ5 ?_ | refine χ6 ?_ | refine χ7 ?_ | refine ω8 ?_
  refine ld (hbd.at rfl) ?_
  repeat first | refine ω1 ?_ | refine ω2 ?_ | refine ω3 ?_ | refine ω4 ?_ | refine ω5 ?_ | refine χ1 ?_ | refine κ1 ?_ | refine κ2 ?_ | refine χ2 ?_ | refine κ3 ?_ | refine ω6 ?_ | refine ω7 ?_ | refine ω9 ?_ | refine κ4 ?_ | refine κ7 ?_ | refine κ8 ?_ | refine χ3 ?_ | refine χ4 ?_ | refine κ5 ?_ | refine κ6 ?_ | refine χ5 ?_ | refine χ6 ?_ | refine χ7 ?_ | refine ω8 ?_
  refine inil ifA (.inr ⟨_, _, rfl⟩) ?_
  repeat first | refine ω1 ?_ | refine ω2 ?_ | refine ω3 ?_ | refine ω4 ?_ | refine ω5 ?_ | refine χ1 ?_ | refine κ1 ?_ | refine κ2 ?_ | refine χ2 ?_ | refine κ3 ?_ | refine ω6 ?_ | refine ω7 ?_ | refine ω9 ?_ | refine κ4 ?_ | refine κ7 ?_ | refine κ8 ?_ | refine χ3 ?_ | refine χ4 ?_ | refine κ5 ?_ | refine κ6 ?_ | refine χ5 ?_ | refine χ6 ?_ | refine χ7 ?_ | refine ω8 ?_
  refine dr [(0, 0), (0, 1), (0, 3), (0, 4), (1, 2), (1, 5), (1, 6), (0, 7), (0, 8), (0, 9), (0, 10), (0, 11)] (by kernel_rfl) ?_
  have hxd : Ext w1 w1.drew := (Ext.refl w1).drew
  repeat first | refine δ1 ?_ | refine δ2 ?_ | refine δ4 ?_ | refine δ5 ?_ | refine δ6 ?_ | refine δ7 ?_ | refine δ9 ?_ | refine δ8 ?_ | refine χ1 ?_ | refine χ2 ?_ | refine χ3 ?_ | refine χ4 ?_ | refine χ5 ?_ | refine χ6 ?_ | refine χ7 ?_
  refine dld ((hbd.ext hxd).at rfl) ?_
  repeat first | refine δ1 ?_ | refine δ2 ?_ | refine δ4 ?_ | refine δ5 ?_ | refine δ6 ?_ | refine δ7 ?_ | refine δ9 ?_ | refine δ8 ?_ | refine χ1 ?_ | refine χ2 ?_ | refine χ3 ?_ | refine χ4 ?_ | refine χ5 ?_ | refine χ6 ?_ | refine χ7 ?_
  refine dld ((hbd.ext hxd).at rfl) ?_
  repeat first | refine δ1 ?_ | refine δ2 ?_ | refine δ4 ?_ | refine δ5 ?_ | refine δ6 ?_ | refine δ7 ?_ | refine δ9 ?_ | refine δ8 ?_ | refine χ1 ?_ | refine χ2 ?_ | refine χ3 ?_ | refine χ4 ?_ | refine χ5 ?_ | refine χ6 ?_ | refine χ7 ?_
  refine dinv mL (hL _ (hx1.trans hxd)) ?_
  rintro vl w2 ⟨hl2, hx2⟩
  refine ⟨hx2, ?_⟩
  repeat first | refine δ1 ?_ | refine δ2 ?_ | refine δ4 ?_ | refine δ5 ?_ | refine δ6 ?_ | refine δ7 ?_ | refine δ9 ?_ | refine δ8 ?_ | refine χ1 ?_ | refine χ2 ?_ | refine χ3 ?_ | refine χ4 ?_ | refine χ5 ?_ | refine χ6 ?_ | refine χ7 ?_
  refine dinv mM (hM w2 ((hx1.trans hxd).trans hx2)) ?_
  rintro vm w3 ⟨hm3, hx3⟩
  refine ⟨hx3, ?_⟩
  repeat first | refine δ1 ?_ | refine δ2 ?_ | refine δ4 ?_ | refine δ5 ?_ | refine δ6 ?_ | refine δ7 ?_ | refine δ9 ?_ | refine δ8 ?_ | refine χ1 ?_ | refine χ2 ?_ | refine χ3 ?_ | refine χ4 ?_ | refine χ5 ?_ | refine χ6 ?_ | refine χ7 ?_
  refine dcl (natSub_any (hl2.ext hx3) hm3 (small1000 (by omega))) ?_
  rintro y w4 ⟨⟨vd, rfl, hd4⟩, hx4⟩
  refine ⟨hx4, ?_⟩
  repeat first | refine δ1 ?_ | refine δ2 ?_ | refine δ4 ?_ | refine δ5 ?_ | refine δ6 ?_ | refine δ7 ?_ | refine δ9 ?_ | refine δ8 ?_ | refine χ1 ?_ | refine χ2 ?_ | refine χ3 ?_ | refine χ4 ?_ | refine χ5 ?_ | refine χ6 ?_ | refine χ7 ?_
  repeat first | refine ω1 ?_ | refine ω2 ?_ | refine ω3 ?_ | refine ω4 ?_ | refine ω5 ?_ | refine χ1 ?_ | refine κ1 ?_ | refine κ2 ?_ | refine χ2 ?_ | refine κ3 ?_ | refine ω6 ?_ | refine ω7 ?_ | refine ω9 ?_ | refine κ4 ?_ | refine κ7 ?_ | refine κ8 ?_ | refine χ3 ?_ | refine χ4 ?_ | refine κ5 ?_ | refine κ6 ?_ | refine χ5 ?_ | refine χ6 ?_ | refine χ7 ?_ | refine ω8 ?_
  exact fin1 ⟨hd4, (((hx1.trans hxd).trans hx2).trans hx3).trans hx4⟩
set_option maxRecDepth 100000 in
theorem difRank_any {A C : List Row} {RA RC : Row → Nat} {BA BC : Nat} {SA SC : Row → Prop} {va vc vr : Value} {r : Row} {w : World}
    (ha : ArrO w va A RA BA SA) (hc : ArrO w vc C RC BC SC) (hr : RowV w vr r) (h1 : SA r) (h2 : SC r) :
    Ret Try.prog 35 [.agg #[va, vc], vr] w fun x w' => (∃ vn, ∃ s : Nat, x = .tuple #[vn, .bool (decide (r ∈ A) && !decide (r ∈ C)), .int .i64 (s : Int), .int .i64 0] ∧ NatV w' vn (RA r - RC r)) ∧ Ext w w' := by
  have hsA := ha.small
  have hba := ha.bd
  have hbc := hc.bd
  have hrk := ha.rk r h1
  obtain ⟨ta, xa, rfl⟩ := ha.form
  obtain ⟨tc, xc, rfl⟩ := hc.form
  obtain ⟨fL, rL, mL, hL⟩ := ha.rank
  obtain ⟨fM, rM, mM, hM⟩ := hc.rank
  obtain ⟨A0, c0, rfl, _⟩ := id hr
  refine enterR Try.func35 Try.ntmps35 rfl (by kernel_rfl) rfl ?_
  repeat first | refine ω1 ?_ | refine ω2 ?_ | refine ω3 ?_ | refine ω4 ?_ | refine ω5 ?_ | refine χ1 ?_ | refine κ1 ?_ | refine κ2 ?_ | refine χ2 ?_ | refine κ3 ?_ | refine ω6 ?_ | refine ω7 ?_ | refine ω9 ?_ | refine κ4 ?_ | refine κ7 ?_ | refine κ8 ?_ | refine χ3 ?_ | refine χ4 ?_ | refine κ5 ?_ | refine κ6 ?_ | refine χ5 ?_ | refine χ6 ?_ | refine χ7 ?_ | refine ω8 ?_
  refine bx ?_
  intro w1 bd hx1 hb1 hbd
  repeat first | refine ω1 ?_ | refine ω2 ?_ | refine ω3 ?_ | refine ω4 ?_ | refine ω5 ?_ | refine χ1 ?_ | refine κ1 ?_ | refine κ2 ?_ | refine χ2 ?_ | refine κ3 ?_ | refine ω6 ?_ | refine ω7 ?_ | refine ω9 ?_ | refine κ4 ?_ | refine κ7 ?_ | refine κ8 ?_ | refine χ3 ?_ | refine χ4 ?_ | refine κ5 ?_ | refine κ6 ?_ | refine χ5 ?_ | refine χ6 ?_ | refine χ7 ?_ | refine ω8 ?_
  refine ld (hbd.at rfl) ?_
  repeat first | refine ω1 ?_ | refine ω2 ?_ | refine ω3 ?_ | refine ω4 ?_ | refine ω5 ?_ | refine χ1 ?_ | refine κ1 ?_ | refine κ2 ?_ | refine χ2 ?_ | refine κ3 ?_ | refine ω6 ?_ | refine ω7 ?_ | refine ω9 ?_ | refine κ4 ?_ | refine κ7 ?_ | refine κ8 ?_ | refine χ3 ?_ | refine χ4 ?_ | refine κ5 ?_ | refine κ6 ?_ | refine χ5 ?_ | refine χ6 ?_ | refine χ7 ?_ | refine ω8 ?_
  refine inil ifA (.inr ⟨_, _, rfl⟩) ?_
  repeat first | refine ω1 ?_ | refine ω2 ?_ | refine ω3 ?_ | refine ω4 ?_ | refine ω5 ?_ | refine χ1 ?_ | refine κ1 ?_ | refine κ2 ?_ | refine χ2 ?_ | refine κ3 ?_ | refine ω6 ?_ | refine ω7 ?_ | refine ω9 ?_ | refine κ4 ?_ | refine κ7 ?_ | refine κ8 ?_ | refine χ3 ?_ | refine χ4 ?_ | refine κ5 ?_ | refine κ6 ?_ | refine χ5 ?_ | refine χ6 ?_ | refine χ7 ?_ | refine ω8 ?_
  refine dr [(0, 0), (0, 1), (0, 2), (0, 4), (0, 5), (1, 3), (1, 6), (0, 7), (0, 8), (0, 9), (0, 10), (0, 11), (0, 12), (0, 13), (0, 14), (0, 15)] (by kernel_rfl) ?_
  have hxd : Ext w1 w1.drew := (Ext.refl w1).drew
  repeat first | refine δ1 ?_ | refine δ2 ?_ | refine δ4 ?_ | refine δ5 ?_ | refine δ6 ?_ | refine δ7 ?_ | refine δ9 ?_ | refine δ8 ?_ | refine χ1 ?_ | refine χ2 ?_ | refine χ3 ?_ | refine χ4 ?_ | refine χ5 ?_ | refine χ6 ?_ | refine χ7 ?_
  refine dld ((hbd.ext hxd).at rfl) ?_
  repeat first | refine δ1 ?_ | refine δ2 ?_ | refine δ4 ?_ | refine δ5 ?_ | refine δ6 ?_ | refine δ7 ?_ | refine δ9 ?_ | refine δ8 ?_ | refine χ1 ?_ | refine χ2 ?_ | refine χ3 ?_ | refine χ4 ?_ | refine χ5 ?_ | refine χ6 ?_ | refine χ7 ?_
  refine dnci ?_
  repeat first | refine δ1 ?_ | refine δ2 ?_ | refine δ4 ?_ | refine δ5 ?_ | refine δ6 ?_ | refine δ7 ?_ | refine δ9 ?_ | refine δ8 ?_ | refine χ1 ?_ | refine χ2 ?_ | refine χ3 ?_ | refine χ4 ?_ | refine χ5 ?_ | refine χ6 ?_ | refine χ7 ?_
  refine dcl (cloneRowV ((hr.ext hx1).ext hxd) (fun _ => False) (fun _ h => h.elim)) ?_
  rintro vr2 w2 ⟨hr2, hx2⟩
  refine ⟨hx2, ?_⟩
  have hx02 := (hx1.trans hxd).trans hx2
  repeat first | refine δ1 ?_ | refine δ2 ?_ | refine δ4 ?_ | refine δ5 ?_ | refine δ6 ?_ | refine δ7 ?_ | refine δ9 ?_ | refine δ8 ?_ | refine χ1 ?_ | refine χ2 ?_ | refine χ3 ?_ | refine χ4 ?_ | refine χ5 ?_ | refine χ6 ?_ | refine χ7 ?_
  refine dinv mL (hL w2 hx02 (fun _ => False) (fun _ h => h.elim) r vr2 h1 hr2.v) ?_
  rintro y w3 ⟨⟨vn, s1, rfl, hn3, hs1⟩, hx3⟩
  refine ⟨hx3, ?_⟩
  repeat first | refine δ1 ?_ | refine δ2 ?_ | refine δ4 ?_ | refine δ5 ?_ | refine δ6 ?_ | refine δ7 ?_ | refine δ9 ?_ | refine δ8 ?_ | refine χ1 ?_ | refine χ2 ?_ | refine χ3 ?_ | refine χ4 ?_ | refine χ5 ?_ | refine χ6 ?_ | refine χ7 ?_
  repeat first | refine ω1 ?_ | refine ω2 ?_ | refine ω3 ?_ | refine ω4 ?_ | refine ω5 ?_ | refine χ1 ?_ | refine κ1 ?_ | refine κ2 ?_ | refine χ2 ?_ | refine κ3 ?_ | refine ω6 ?_ | refine ω7 ?_ | refine ω9 ?_ | refine κ4 ?_ | refine κ7 ?_ | refine κ8 ?_ | refine χ3 ?_ | refine χ4 ?_ | refine κ5 ?_ | refine κ6 ?_ | refine χ5 ?_ | refine χ6 ?_ | refine χ7 ?_ | refine ω8 ?_
  refine dr [(0, 0), (0, 1), (0, 2), (0, 4), (0, 5), (1, 3), (1, 6), (0, 7), (0, 8), (0, 9), (0, 10), (0, 11), (0, 12), (0, 13), (0, 14), (0, 15)] (by kernel_rfl) ?_
  have hxd3 : Ext w3 w3.drew := (Ext.refl w3).drew
  have hx03 := (hx02.trans hx3).trans hxd3
  repeat first | refine δ1 ?_ | refine δ2 ?_ | refine δ4 ?_ | refine δ5 ?_ | refine δ6 ?_ | refine δ7 ?_ | refine δ9 ?_ | refine δ8 ?_ | refine χ1 ?_ | refine χ2 ?_ | refine χ3 ?_ | refine χ4 ?_ | refine χ5 ?_ | refine χ6 ?_ | refine χ7 ?_
  refine dld (((((hbd.ext hxd).ext hx2).ext hx3).ext hxd3).at rfl) ?_
  repeat first | refine δ1 ?_ | refine δ2 ?_ | refine δ4 ?_ | refine δ5 ?_ | refine δ6 ?_ | refine δ7 ?_ | refine δ9 ?_ | refine δ8 ?_ | refine χ1 ?_ | refine χ2 ?_ | refine χ3 ?_ | refine χ4 ?_ | refine χ5 ?_ | refine χ6 ?_ | refine χ7 ?_
  refine dnci ?_
  repeat first | refine δ1 ?_ | refine δ2 ?_ | refine δ4 ?_ | refine δ5 ?_ | refine δ6 ?_ | refine δ7 ?_ | refine δ9 ?_ | refine δ8 ?_ | refine χ1 ?_ | refine χ2 ?_ | refine χ3 ?_ | refine χ4 ?_ | refine χ5 ?_ | refine χ6 ?_ | refine χ7 ?_
  refine dcl (cloneRowV (hr.ext hx03) (fun _ => False) (fun _ h => h.elim)) ?_
  rintro vr4 w4 ⟨hr4, hx4⟩
  refine ⟨hx4, ?_⟩
  repeat first | refine δ1 ?_ | refine δ2 ?_ | refine δ4 ?_ | refine δ5 ?_ | refine δ6 ?_ | refine δ7 ?_ | refine δ9 ?_ | refine δ8 ?_ | refine χ1 ?_ | refine χ2 ?_ | refine χ3 ?_ | refine χ4 ?_ | refine χ5 ?_ | refine χ6 ?_ | refine χ7 ?_
  refine dinv mM (hM w4 (hx03.trans hx4) (fun _ => False) (fun _ h => h.elim) r vr4 h2 hr4.v) ?_
  rintro y w5 ⟨⟨vm, s2, rfl, hm5, hs2⟩, hx5⟩
  refine ⟨hx5, ?_⟩
  repeat first | refine δ1 ?_ | refine δ2 ?_ | refine δ4 ?_ | refine δ5 ?_ | refine δ6 ?_ | refine δ7 ?_ | refine δ9 ?_ | refine δ8 ?_ | refine χ1 ?_ | refine χ2 ?_ | refine χ3 ?_ | refine χ4 ?_ | refine χ5 ?_ | refine χ6 ?_ | refine χ7 ?_
  repeat first | refine ω1 ?_ | refine ω2 ?_ | refine ω3 ?_ | refine ω4 ?_ | refine ω5 ?_ | refine χ1 ?_ | refine κ1 ?_ | refine κ2 ?_ | refine χ2 ?_ | refine κ3 ?_ | refine ω6 ?_ | refine ω7 ?_ | refine ω9 ?_ | refine κ4 ?_ | refine κ7 ?_ | refine κ8 ?_ | refine χ3 ?_ | refine χ4 ?_ | refine κ5 ?_ | refine κ6 ?_ | refine χ5 ?_ | refine χ6 ?_ | refine χ7 ?_ | refine ω8 ?_
  refine cl (natSub_any (((hn3.1.ext hxd3).ext hx4).ext hx5) hm5.1 (small1000 (by omega))) ?_
  rintro y w6 ⟨⟨vd, rfl, hd6⟩, hx6⟩
  have hx06 := ((hx03.trans hx4).trans hx5).trans hx6
  repeat first | refine ω1 ?_ | refine ω2 ?_ | refine ω3 ?_ | refine ω4 ?_ | refine ω5 ?_ | refine χ1 ?_ | refine κ1 ?_ | refine κ2 ?_ | refine χ2 ?_ | refine κ3 ?_ | refine ω6 ?_ | refine ω7 ?_ | refine ω9 ?_ | refine κ4 ?_ | refine κ7 ?_ | refine κ8 ?_ | refine χ3 ?_ | refine χ4 ?_ | refine κ5 ?_ | refine κ6 ?_ | refine χ5 ?_ | refine χ6 ?_ | refine χ7 ?_ | refine ω8 ?_
  refine ki 58 (fun h => ?_) (fun h => ?_)
  · repeat first | refine ω1 ?_ | refine ω2 ?_ | refine ω3 ?_ | refine ω4 ?_ | refine ω5 ?_ | refine χ1 ?_ | refine κ1 ?_ | refine κ2 ?_ | refine χ2 ?_ | refine κ3 ?_ | refine ω6 ?_ | refine ω7 ?_ | refine ω9 ?_ | refine κ4 ?_ | refine κ7 ?_ | refine κ8 ?_ | refine χ3 ?_ | refine χ4 ?_ | refine κ5 ?_ | refine κ6 ?_ | refine χ5 ?_ | refine χ6 ?_ | refine χ7 ?_ | refine ω8 ?_
    refine fin4 ⟨⟨vd, s1 + s2, ?_, hd6⟩, hx06⟩
    rw [h]; rfl
  · repeat first | refine ω1 ?_ | refine ω2 ?_ | refine ω3 ?_ | refine ω4 ?_ | refine ω5 ?_ | refine χ1 ?_ | refine κ1 ?_ | refine κ2 ?_ | refine χ2 ?_ | refine κ3 ?_ | refine ω6 ?_ | refine ω7 ?_ | refine ω9 ?_ | refine κ4 ?_ | refine κ7 ?_ | refine κ8 ?_ | refine χ3 ?_ | refine χ4 ?_ | refine κ5 ?_ | refine κ6 ?_ | refine χ5 ?_ | refine χ6 ?_ | refine χ7 ?_ | refine ω8 ?_
    refine fin4 ⟨⟨vd, s1 + s2, ?_, hd6⟩, hx06⟩
    rw [h]; rfl
theorem bldDif (x y : Value) (t s : TypeId) (u v : Value) (hx : x = .iface t u) (hy : y = .iface s v) (w : World) : (Instr.build 66 #[(0, x), (1, y)]).run Try.prog w = .ok (.agg #[x, y]) w := by subst hx; subst hy; kernel_rfl
theorem bldDif0 (w : World) : (Instr.build 66 #[]).run Try.prog w = .ok (.agg #[.nilIface, .nilIface]) w := by kernel_rfl
/-- results: a box, one slot -/
theorem finC2 {n : Nat} {al : AL} {w : World} {fn : Func} {Φ : Value → World → Prop} {c t t1 b : Nat} {k : TK} {cs : List Value} {x : Value} (hb : Blk w b t cs) (hp : Φ (.tuple #[.agg cs.toArray, x]) w)
    (hr : fn.results = #[.cell c t, .tmp t1] := by rfl) (ht : tk tt t = some k := by rfl) (hk : k.desc = .invalid := by rfl) (hs : k.size = cs.length := by rfl) (hc : lk al c = some (.pointer (some ⟨b, 0, none⟩)) := by rfl) (h1 : lk al t1 = some x := by rfl) :
    QX n (Body Try.prog fn Φ) .ret al w :=
  doneR (rs := [.cell c t, .tmp t1]) (vs := [.agg cs.toArray, x]) hr ⟨⟨_, hc, run_loadS tt_ok ht hk hs (fun j u hu => hb.at hu)⟩, h1, trivial⟩ rfl hp
set_option maxRecDepth 100000 in
theorem difOf_any {A C : List Row} {RA RC : Row → Nat} {BA BC : Nat} {SA SC : Row → Prop} {va vc : Value} {w : World} (ha : ArrO w va A RA BA SA) (hc : ArrO w vc C RC BC SC) :
    Ret Try.prog 32 [va, vc] w fun x w' => x = (if C.length ≤ A.length then .tuple #[.agg #[va, vc], .int .i64 0] else .tuple #[.agg #[.nilIface, .nilIface], .int .i64 28]) ∧ Ext w w' := by
  obtain ⟨ta, xa, rfl⟩ := ha.form
  obtain ⟨tc, xc, rfl⟩ := hc.form
  obtain ⟨fL, rL, mL, hL⟩ := ha.len
  obtain ⟨fM, rM, mM, hM⟩ := hc.len
  refine enterR Try.func32 Try.ntmps32 rfl (by kernel_rfl) rfl ?_
  repeat first | refine ω1 ?_ | refine ω2 ?_ | refine ω3 ?_ | refine ω4 ?_ | refine ω5 ?_ | refine χ1 ?_ | refine κ1 ?_ | refine κ2 ?_ | refine χ2 ?_ | refine κ3 ?_ | refine ω6 ?_ | refine ω7 ?_ | refine ω9 ?_ | refine κ4 ?_ | refine κ7 ?_ | refine κ8 ?_ | refine χ3 ?_ | refine χ4 ?_ | refine κ5 ?_ | refine κ6 ?_ | refine χ5 ?_ | refine χ6 ?_ | refine χ7 ?_ | refine ω8 ?_
  refine alc zDif ?_
  intro w1 b hx1 hb1 hk1
  repeat first | refine ω1 ?_ | refine ω2 ?_ | refine ω3 ?_ | refine ω4 ?_ | refine ω5 ?_ | refine χ1 ?_ | refine κ1 ?_ | refine κ2 ?_ | refine χ2 ?_ | refine κ3 ?_ | refine ω6 ?_ | refine ω7 ?_ | refine ω9 ?_ | refine κ4 ?_ | refine κ7 ?_ | refine κ8 ?_ | refine χ3 ?_ | refine χ4 ?_ | refine κ5 ?_ | refine κ6 ?_ | refine χ5 ?_ | refine χ6 ?_ | refine χ7 ?_ | refine ω8 ?_
  refine inil ifA (.inr ⟨_, _, rfl⟩) ?_
  repeat first | refine ω1 ?_ | refine ω2 ?_ | refine ω3 ?_ | refine ω4 ?_ | refine ω5 ?_ | refine χ1 ?_ | refine κ1 ?_ | refine κ2 ?_ | refine χ2 ?_ | refine κ3 ?_ | refine ω6 ?_ | refine ω7 ?_ | refine ω9 ?_ | refine κ4 ?_ | refine κ7 ?_ | refine κ8 ?_ | refine χ3 ?_ | refine χ4 ?_ | refine κ5 ?_ | refine κ6 ?_ | refine χ5 ?_ | refine χ6 ?_ | refine χ7 ?_ | refine ω8 ?_
  refine inil ifA (.inr ⟨_, _, rfl⟩) ?_
  repeat first | refine ω1 ?_ | refine ω2 ?_ | refine ω3 ?_ | refine ω4 ?_ | refine ω5 ?_ | refine χ1 ?_ | refine κ1 ?_ | refine κ2 ?_ | refine χ2 ?_ | refine κ3 ?_ | refine ω6 ?_ | refine ω7 ?_ | refine ω9 ?_ | refine κ4 ?_ | refine κ7 ?_ | refine κ8 ?_ | refine χ3 ?_ | refine χ4 ?_ | refine κ5 ?_ | refine κ6 ?_ | refine χ5 ?_ | refine χ6 ?_ | refine χ7 ?_ | refine ω8 ?_
  refine inv mM (hM w1 hx1) ?_
  rintro vm w2 ⟨hm2, hx2⟩
  repeat first | refine ω1 ?_ | refine ω2 ?_ | refine ω3 ?_ | refine ω4 ?_ | refine ω5 ?_ | refine χ1 ?_ | refine κ1 ?_ | refine κ2 ?_ | refine χ2 ?_ | refine κ3 ?_ | refine ω6 ?_ | refine ω7 ?_ | refine ω9 ?_ | refine κ4 ?_ | refine κ7 ?_ | refine κ8 ?_ | refine χ3 ?_ | refine χ4 ?_ | refine κ5 ?_ | refine κ6 ?_ | refine χ5 ?_ | refine χ6 ?_ | refine χ7 ?_ | refine ω8 ?_
  refine inv mL (hL w2 (hx1.trans hx2)) ?_
  rintro vl w3 ⟨hl3, hx3⟩
  repeat first | refine ω1 ?_ | refine ω2 ?_ | refine ω3 ?_ | refine ω4 ?_ | refine ω5 ?_ | refine χ1 ?_ | refine κ1 ?_ | refine κ2 ?_ | refine χ2 ?_ | refine κ3 ?_ | refine ω6 ?_ | refine ω7 ?_ | refine ω9 ?_ | refine κ4 ?_ | refine κ7 ?_ | refine κ8 ?_ | refine χ3 ?_ | refine χ4 ?_ | refine κ5 ?_ | refine κ6 ?_ | refine χ5 ?_ | refine χ6 ?_ | refine χ7 ?_ | refine ω8 ?_
  refine cl (natCmp_any (hm2.ext hx3) hl3) ?_
  rintro t w4 ⟨rfl, hx4⟩
  have hx14 := (hx2.trans hx3).trans hx4
  have hk4 := hk1.ext hx14
  repeat first | refine ω1 ?_ | refine ω2 ?_ | refine ω3 ?_ | refine ω4 ?_ | refine ω5 ?_ | refine χ1 ?_ | refine κ1 ?_ | refine κ2 ?_ | refine χ2 ?_ | refine κ3 ?_ | refine ω6 ?_ | refine ω7 ?_ | refine ω9 ?_ | refine κ4 ?_ | refine κ7 ?_ | refine κ8 ?_ | refine χ3 ?_ | refine χ4 ?_ | refine κ5 ?_ | refine κ6 ?_ | refine χ5 ?_ | refine χ6 ?_ | refine χ7 ?_ | refine ω8 ?_
  refine ci (fun h => ?_) (fun h => ?_)
  · have hgt := cmpN_gt.1 (of_decide_eq_true h)
    repeat first | refine ω1 ?_ | refine ω2 ?_ | refine ω3 ?_ | refine ω4 ?_ | refine ω5 ?_ | refine χ1 ?_ | refine κ1 ?_ | refine κ2 ?_ | refine χ2 ?_ | refine κ3 ?_ | refine ω6 ?_ | refine ω7 ?_ | refine ω9 ?_ | refine κ4 ?_ | refine κ7 ?_ | refine κ8 ?_ | refine χ3 ?_ | refine χ4 ?_ | refine κ5 ?_ | refine κ6 ?_ | refine χ5 ?_ | refine χ6 ?_ | refine χ7 ?_ | refine ω8 ?_
    refine bld (bldDif0 _) ?_
    repeat first | refine ω1 ?_ | refine ω2 ?_ | refine ω3 ?_ | refine ω4 ?_ | refine ω5 ?_ | refine χ1 ?_ | refine κ1 ?_ | refine κ2 ?_ | refine χ2 ?_ | refine κ3 ?_ | refine ω6 ?_ | refine ω7 ?_ | refine ω9 ?_ | refine κ4 ?_ | refine κ7 ?_ | refine κ8 ?_ | refine χ3 ?_ | refine χ4 ?_ | refine κ5 ?_ | refine κ6 ?_ | refine χ5 ?_ | refine χ6 ?_ | refine χ7 ?_ | refine ω8 ?_
    refine stb hk4 (cs' := [.nilIface, .nilIface]) ?_ (fun u hu => by simp at hu; subst hu; rfl)
    intro w5 hk5 hg5 hx5
    repeat first | refine ω1 ?_ | refine ω2 ?_ | refine ω3 ?_ | refine ω4 ?_ | refine ω5 ?_ | refine χ1 ?_ | refine κ1 ?_ | refine κ2 ?_ | refine χ2 ?_ | refine κ3 ?_ | refine ω6 ?_ | refine ω7 ?_ | refine ω9 ?_ | refine κ4 ?_ | refine κ7 ?_ | refine κ8 ?_ | refine χ3 ?_ | refine χ4 ?_ | refine κ5 ?_ | refine κ6 ?_ | refine χ5 ?_ | refine χ6 ?_ | refine χ7 ?_ | refine ω8 ?_
    refine finC2 hk5 ⟨?_, hx5 w (hx1.trans hx14) hb1⟩
    rw [if_neg (by omega)]
  · have hle : C.length ≤ A.length := by
      have := of_decide_eq_false h
      rcases Nat.lt_or_ge A.length C.length with h1 | h1
      · exact absurd (cmpN_gt.2 h1) this
      · exact h1
    repeat first | refine ω1 ?_ | refine ω2 ?_ | refine ω3 ?_ | refine ω4 ?_ | refine ω5 ?_ | refine χ1 ?_ | refine κ1 ?_ | refine κ2 ?_ | refine χ2 ?_ | refine κ3 ?_ | refine ω6 ?_ | refine ω7 ?_ | refine ω9 ?_ | refine κ4 ?_ | refine κ7 ?_ | refine κ8 ?_ | refine χ3 ?_ | refine χ4 ?_ | refine κ5 ?_ | refine κ6 ?_ | refine χ5 ?_ | refine χ6 ?_ | refine χ7 ?_ | refine ω8 ?_
    refine bld (bldDif _ _ _ _ _ _ rfl rfl _) ?_
    repeat first | refine ω1 ?_ | refine ω2 ?_ | refine ω3 ?_ | refine ω4 ?_ | refine ω5 ?_ | refine χ1 ?_ | refine κ1 ?_ | refine κ2 ?_ | refine χ2 ?_ | refine κ3 ?_ | refine ω6 ?_ | refine ω7 ?_ | refine ω9 ?_ | refine κ4 ?_ | refine κ7 ?_ | refine κ8 ?_ | refine χ3 ?_ | refine χ4 ?_ | refine κ5 ?_ | refine κ6 ?_ | refine χ5 ?_ | refine χ6 ?_ | refine χ7 ?_ | refine ω8 ?_
    refine stb hk4 (cs' := [.iface ta xa, .iface tc xc]) ?_ (fun u hu => by simp at hu; rcases hu with rfl | rfl <;> rfl)
    intro w5 hk5 hg5 hx5
    repeat first | refine ω1 ?_ | refine ω2 ?_ | refine ω3 ?_ | refine ω4 ?_ | refine ω5 ?_ | refine χ1 ?_ | refine κ1 ?_ | refine κ2 ?_ | refine χ2 ?_ | refine κ3 ?_ | refine ω6 ?_ | refine ω7 ?_ | refine ω9 ?_ | refine κ4 ?_ | refine κ7 ?_ | refine κ8 ?_ | refine χ3 ?_ | refine χ4 ?_ | refine κ5 ?_ | refine κ6 ?_ | refine χ5 ?_ | refine χ6 ?_ | refine χ7 ?_ | refine ω8 ?_
    refine finC2 hk5 ⟨?_, hx5 w (hx1.trans hx14) hb1⟩
    rw [if_pos hle]
end Go.Proofs.Ytpahjnfolbnloaa
