/- Arrays: slice. -/
import Derived.Test.YtpahjnfolbnloaaArr2
set_option linter.unusedVariables false
namespace Go.Proofs.Ytpahjnfolbnloaa
open Go.RowKit Pl Go.Wk
attribute [local irreducible] WC WL QX WD WDB WP
def cutL (L : List Row) (lo hi : Nat) : List Row := (L.take hi).drop lo
def cutR (R : Row → Nat) (lo hi : Nat) (r : Row) : Nat := min (R r) hi - lo
theorem cut_len {L : List Row} {lo hi : Nat} (h : hi ≤ L.length) : (cutL L lo hi).length = hi - lo := by simp [cutL]; omega
theorem cut_get {L : List Row} {lo hi k : Nat} (h : lo + k < hi) : (cutL L lo hi).getD k [] = L.getD (lo + k) [] := by
  rw [cutL, getD_drop, getD_take _ _ _ h]
theorem cut_mem {L : List Row} {R : Row → Nat} (hp : ∀ i, i < L.length → R (L.getD i []) = i) {lo hi : Nat} (hh : hi ≤ L.length) (r : Row) : r ∈ cutL L lo hi ↔ (r ∈ L ∧ lo ≤ R r ∧ R r < hi) := by
  constructor
  · intro h
    obtain ⟨i, hi', rfl⟩ := List.getElem_of_mem h
    have hl : i < hi - lo := by rw [cut_len hh] at hi'; exact hi'
    rw [← getD_get [] _ hi', cut_get (by omega), hp _ (by omega)]
    exact ⟨getD_mem' [] L (by omega), by omega, by omega⟩
  · rintro ⟨h1, h2, h3⟩
    obtain ⟨i, hi', rfl⟩ := List.getElem_of_mem h1
    rw [← getD_get [] _ hi'] at *
    rw [hp _ hi'] at h2 h3
    have : (cutL L lo hi).getD (i - lo) [] = L.getD i [] := by rw [cut_get (by omega)]; congr 1; omega
    rw [← this]
    exact getD_mem' [] _ (by rw [cut_len hh]; omega)
/-- a value of type array.slice -/
structure SlcV (w : World) (x : Value) (L : List Row) (R : Row → Nat) (B lo hi : Nat) : Prop where
  ex : ∃ v vl vh, x = .agg #[v, vl, vh] ∧ ArrI w v L R B ∧ NatV w vl lo ∧ NatV w vh hi
  le : lo ≤ hi ∧ hi ≤ L.length
theorem SlcV.ext {w w' : World} {x : Value} {L : List Row} {R : Row → Nat} {B lo hi : Nat} (h : SlcV w x L R B lo hi) (hx : Ext w w') : SlcV w' x L R B lo hi := by
  obtain ⟨⟨v, vl, vh, h1, h2, h3, h4⟩, h5⟩ := h; exact ⟨⟨v, vl, vh, h1, h2.ext hx, h3.ext hx, h4.ext hx⟩, h5⟩
theorem NatV.slc {w : World} {v : Value} {n : Nat} (h : NatV w v n) : ∃ A m c, v = .slice A m c := by obtain ⟨A, c, rfl, _⟩ := h; exact ⟨A, _, c, rfl⟩
set_option maxRecDepth 100000 in
theorem slcLen_any {x : Value} {L : List Row} {R : Row → Nat} {B lo hi : Nat} {w : World} (h : SlcV w x L R B lo hi) : Ret Try.prog 141 [x] w fun x w' => NatV w' x (hi - lo) ∧ Ext w w' := by
  obtain ⟨⟨v, vl, vh, rfl, h2, h3, h4⟩, h5⟩ := h
  obtain ⟨t, y, rfl⟩ := h2.form
  obtain ⟨_, _, _, rfl⟩ := h3.slc
  obtain ⟨_, _, _, rfl⟩ := h4.slc
  have hs := h2.small
  refine enterR Try.func141 Try.ntmps141 rfl (by kernel_rfl) rfl ?_
  repeat first | refine ω1 ?_ | refine ω2 ?_ | refine ω3 ?_ | refine ω4 ?_ | refine ω5 ?_ | refine χ1 ?_ | refine κ1 ?_ | refine κ2 ?_ | refine χ2 ?_ | refine κ3 ?_ | refine ω6 ?_ | refine ω7 ?_ | refine ω9 ?_ | refine κ4 ?_ | refine κ7 ?_ | refine κ8 ?_ | refine χ3 ?_ | refine χ4 ?_ | refine κ5 ?_ | refine κ6 ?_ | refine χ5 ?_ | refine χ6 ?_ | refine χ7 ?_ | refine ω8 ?_
  refine bx ?_
  intro w1 b1 hx1 hb1 hk1
  repeat first | refine ω1 ?_ | refine ω2 ?_ | refine ω3 ?_ | refine ω4 ?_ | refine ω5 ?_ | refine χ1 ?_ | refine κ1 ?_ | refine κ2 ?_ | refine χ2 ?_ | refine κ3 ?_ | refine ω6 ?_ | refine ω7 ?_ | refine ω9 ?_ | refine κ4 ?_ | refine κ7 ?_ | refine κ8 ?_ | refine χ3 ?_ | refine χ4 ?_ | refine κ5 ?_ | refine κ6 ?_ | refine χ5 ?_ | refine χ6 ?_ | refine χ7 ?_ | refine ω8 ?_
  refine ld (hk1.at rfl) ?_
  repeat first | refine ω1 ?_ | refine ω2 ?_ | refine ω3 ?_ | refine ω4 ?_ | refine ω5 ?_ | refine χ1 ?_ | refine κ1 ?_ | refine κ2 ?_ | refine χ2 ?_ | refine κ3 ?_ | refine ω6 ?_ | refine ω7 ?_ | refine ω9 ?_ | refine κ4 ?_ | refine κ7 ?_ | refine κ8 ?_ | refine χ3 ?_ | refine χ4 ?_ | refine κ5 ?_ | refine κ6 ?_ | refine χ5 ?_ | refine χ6 ?_ | refine χ7 ?_ | refine ω8 ?_
  refine ld (hk1.at rfl) ?_
  repeat first | refine ω1 ?_ | refine ω2 ?_ | refine ω3 ?_ | refine ω4 ?_ | refine ω5 ?_ | refine χ1 ?_ | refine κ1 ?_ | refine κ2 ?_ | refine χ2 ?_ | refine κ3 ?_ | refine ω6 ?_ | refine ω7 ?_ | refine ω9 ?_ | refine κ4 ?_ | refine κ7 ?_ | refine κ8 ?_ | refine χ3 ?_ | refine χ4 ?_ | refine κ5 ?_ | refine κ6 ?_ | refine χ5 ?_ | refine χ6 ?_ | refine χ7 ?_ | refine ω8 ?_
  refine cl (minus_any (h4.ext hx1) (h3.ext hx1) (by omega)) ?_
  rintro x w2 ⟨hn, hx2⟩
  repeat first | refine ω1 ?_ | refine ω2 ?_ | refine ω3 ?_ | refine ω4 ?_ | refine ω5 ?_ | refine χ1 ?_ | refine κ1 ?_ | refine κ2 ?_ | refine χ2 ?_ | refine κ3 ?_ | refine ω6 ?_ | refine ω7 ?_ | refine ω9 ?_ | refine κ4 ?_ | refine κ7 ?_ | refine κ8 ?_ | refine χ3 ?_ | refine χ4 ?_ | refine κ5 ?_ | refine κ6 ?_ | refine χ5 ?_ | refine χ6 ?_ | refine χ7 ?_ | refine ω8 ?_
  exact fin1 ⟨hn, hx1.trans hx2⟩
set_option maxRecDepth 100000 in
theorem slcAt_any {x vk : Value} {L : List Row} {R : Row → Nat} {B lo hi k : Nat} {w : World} (h : SlcV w x L R B lo hi) (hk : NatV w vk k) (hkb : k < 9223372036854775808) : Ret Try.prog 140 [x, vk] w fun x w' => AtR w' (cutL L lo hi) B k x ∧ Ext w w' := by
  have h0 := h
  obtain ⟨⟨v, vl, vh, rfl, h2, h3, h4⟩, h5⟩ := h
  obtain ⟨t, y, rfl⟩ := h2.form
  obtain ⟨_, _, _, rfl⟩ := h3.slc
  obtain ⟨_, _, _, rfl⟩ := h4.slc
  have hs := h2.small
  refine enterR Try.func140 Try.ntmps140 rfl (by kernel_rfl) rfl ?_
  repeat first | refine ω1 ?_ | refine ω2 ?_ | refine ω3 ?_ | refine ω4 ?_ | refine ω5 ?_ | refine χ1 ?_ | refine κ1 ?_ | refine κ2 ?_ | refine χ2 ?_ | refine κ3 ?_ | refine ω6 ?_ | refine ω7 ?_ | refine ω9 ?_ | refine κ4 ?_ | refine κ7 ?_ | refine κ8 ?_ | refine χ3 ?_ | refine χ4 ?_ | refine κ5 ?_ | refine κ6 ?_ | refine χ5 ?_ | refine χ6 ?_ | refine χ7 ?_ | refine ω8 ?_
  refine bx ?_
  intro w1 b1 hx1 hb1 hk1
  repeat first | refine ω1 ?_ | refine ω2 ?_ | refine ω3 ?_ | refine ω4 ?_ | refine ω5 ?_ | refine χ1 ?_ | refine κ1 ?_ | refine κ2 ?_ | refine χ2 ?_ | refine κ3 ?_ | refine ω6 ?_ | refine ω7 ?_ | refine ω9 ?_ | refine κ4 ?_ | refine κ7 ?_ | refine κ8 ?_ | refine χ3 ?_ | refine χ4 ?_ | refine κ5 ?_ | refine κ6 ?_ | refine χ5 ?_ | refine χ6 ?_ | refine χ7 ?_ | refine ω8 ?_
  refine lds (fun j u hu => hk1.at hu) ?_
  repeat first | refine ω1 ?_ | refine ω2 ?_ | refine ω3 ?_ | refine ω4 ?_ | refine ω5 ?_ | refine χ1 ?_ | refine κ1 ?_ | refine κ2 ?_ | refine χ2 ?_ | refine κ3 ?_ | refine ω6 ?_ | refine ω7 ?_ | refine ω9 ?_ | refine κ4 ?_ | refine κ7 ?_ | refine κ8 ?_ | refine χ3 ?_ | refine χ4 ?_ | refine κ5 ?_ | refine κ6 ?_ | refine χ5 ?_ | refine χ6 ?_ | refine χ7 ?_ | refine ω8 ?_
  refine cl (slcLen_any (h0.ext hx1)) ?_
  rintro x w2 ⟨hn, hx2⟩
  repeat first | refine ω1 ?_ | refine ω2 ?_ | refine ω3 ?_ | refine ω4 ?_ | refine ω5 ?_ | refine χ1 ?_ | refine κ1 ?_ | refine κ2 ?_ | refine χ2 ?_ | refine κ3 ?_ | refine ω6 ?_ | refine ω7 ?_ | refine ω9 ?_ | refine κ4 ?_ | refine κ7 ?_ | refine κ8 ?_ | refine χ3 ?_ | refine χ4 ?_ | refine κ5 ?_ | refine κ6 ?_ | refine χ5 ?_ | refine χ6 ?_ | refine χ7 ?_ | refine ω8 ?_
  refine cl (natCmp_any ((hk.ext hx1).ext hx2) hn) ?_
  rintro z w3 ⟨rfl, hx3⟩
  have hx13 := (hx1.trans hx2).trans hx3
  repeat first | refine ω1 ?_ | refine ω2 ?_ | refine ω3 ?_ | refine ω4 ?_ | refine ω5 ?_ | refine χ1 ?_ | refine κ1 ?_ | refine κ2 ?_ | refine χ2 ?_ | refine κ3 ?_ | refine ω6 ?_ | refine ω7 ?_ | refine ω9 ?_ | refine κ4 ?_ | refine κ7 ?_ | refine κ8 ?_ | refine χ3 ?_ | refine χ4 ?_ | refine κ5 ?_ | refine κ6 ?_ | refine χ5 ?_ | refine χ6 ?_ | refine χ7 ?_ | refine ω8 ?_
  refine ci (fun h0 => ?_) (fun h0 => ?_)
  · have hge := cmpN_ge.1 (of_decide_eq_true h0)
    repeat first | refine ω1 ?_ | refine ω2 ?_ | refine ω3 ?_ | refine ω4 ?_ | refine ω5 ?_ | refine χ1 ?_ | refine κ1 ?_ | refine κ2 ?_ | refine χ2 ?_ | refine κ3 ?_ | refine ω6 ?_ | refine ω7 ?_ | refine ω9 ?_ | refine κ4 ?_ | refine κ7 ?_ | refine κ8 ?_ | refine χ3 ?_ | refine χ4 ?_ | refine κ5 ?_ | refine κ6 ?_ | refine χ5 ?_ | refine χ6 ?_ | refine χ7 ?_ | refine ω8 ?_
    refine fin3 ⟨?_, hx13⟩
    unfold AtR
    rw [if_neg (by rw [cut_len h5.2]; omega)]
    exact ⟨0, rfl, by omega⟩
  · have hlt : k < hi - lo := by
      have h1 := of_decide_eq_false h0
      rw [cmpN_ge] at h1; omega
    repeat first | refine ω1 ?_ | refine ω2 ?_ | refine ω3 ?_ | refine ω4 ?_ | refine ω5 ?_ | refine χ1 ?_ | refine κ1 ?_ | refine κ2 ?_ | refine χ2 ?_ | refine κ3 ?_ | refine ω6 ?_ | refine ω7 ?_ | refine ω9 ?_ | refine κ4 ?_ | refine κ7 ?_ | refine κ8 ?_ | refine χ3 ?_ | refine χ4 ?_ | refine κ5 ?_ | refine κ6 ?_ | refine χ5 ?_ | refine χ6 ?_ | refine χ7 ?_ | refine ω8 ?_
    refine dr [(0, 0), (0, 1), (0, 2), (0, 3), (0, 4), (1, 5), (1, 6), (0, 7), (0, 8), (0, 9), (0, 10), (0, 11), (0, 12)] (by kernel_rfl) ?_
    have hxd : Ext w3 w3.drew := (Ext.refl w3).drew
    have hk3 := (((hk1.ext hx2).ext hx3).ext hxd)
    repeat first | refine δ1 ?_ | refine δ2 ?_ | refine δ4 ?_ | refine δ5 ?_ | refine δ6 ?_ | refine δ7 ?_ | refine δ9 ?_ | refine δ8 ?_ | refine χ1 ?_ | refine χ2 ?_ | refine χ3 ?_ | refine χ4 ?_ | refine χ5 ?_ | refine χ6 ?_ | refine χ7 ?_
    refine dld (hk3.at rfl) ?_
    repeat first | refine δ1 ?_ | refine δ2 ?_ | refine δ4 ?_ | refine δ5 ?_ | refine δ6 ?_ | refine δ7 ?_ | refine δ9 ?_ | refine δ8 ?_ | refine χ1 ?_ | refine χ2 ?_ | refine χ3 ?_ | refine χ4 ?_ | refine χ5 ?_ | refine χ6 ?_ | refine χ7 ?_
    refine dld (hk3.at rfl) ?_
    repeat first | refine δ1 ?_ | refine δ2 ?_ | refine δ4 ?_ | refine δ5 ?_ | refine δ6 ?_ | refine δ7 ?_ | refine δ9 ?_ | refine δ8 ?_ | refine χ1 ?_ | refine χ2 ?_ | refine χ3 ?_ | refine χ4 ?_ | refine χ5 ?_ | refine χ6 ?_ | refine χ7 ?_
    refine dcl (natAdd_any ((h3.ext hx13).ext hxd) ((hk.ext hx13).ext hxd) (small1000 (by omega)) (small1000 (by omega))) ?_
    rintro x2 w5 ⟨hn2, hx5⟩
    refine ⟨hx5, ?_⟩
    have hx35 : Ext w w5 := (hx13.trans hxd).trans hx5
    refine dcl (at_any (h2.ext hx35) hn2 (by omega)) ?_
    rintro x4 w7 ⟨hA, hx7⟩
    refine ⟨hx7, ?_⟩
    unfold AtR at hA
    rw [if_pos (by omega)] at hA
    obtain ⟨vr, s, rfl, hr, hs'⟩ := hA
    repeat first | refine δ1 ?_ | refine δ2 ?_ | refine δ4 ?_ | refine δ5 ?_ | refine δ6 ?_ | refine δ7 ?_ | refine δ9 ?_ | refine δ8 ?_ | refine χ1 ?_ | refine χ2 ?_ | refine χ3 ?_ | refine χ4 ?_ | refine χ5 ?_ | refine χ6 ?_ | refine χ7 ?_
    repeat first | refine ω1 ?_ | refine ω2 ?_ | refine ω3 ?_ | refine ω4 ?_ | refine ω5 ?_ | refine χ1 ?_ | refine κ1 ?_ | refine κ2 ?_ | refine χ2 ?_ | refine κ3 ?_ | refine ω6 ?_ | refine ω7 ?_ | refine ω9 ?_ | refine κ4 ?_ | refine κ7 ?_ | refine κ8 ?_ | refine χ3 ?_ | refine χ4 ?_ | refine κ5 ?_ | refine κ6 ?_ | refine χ5 ?_ | refine χ6 ?_ | refine χ7 ?_ | refine ω8 ?_
    refine fin3 ⟨?_, hx35.trans hx7⟩
    unfold AtR
    rw [if_pos (by rw [cut_len h5.2]; omega), cut_get (by omega)]
    exact ⟨vr, s, rfl, hr, hs'⟩
set_option maxRecDepth 100000 in
theorem slcRank_any {x vr : Value} {L : List Row} {R : Row → Nat} {B lo hi : Nat} {r : Row} {w : World} (h : SlcV w x L R B lo hi) (hr : RowV w vr r) : Ret Try.prog 142 [x, vr] w fun x w' => RankR w' (cutL L lo hi) (cutR R lo hi) B r x ∧ Ext w w' := by
  obtain ⟨⟨v, vl, vh, rfl, h2, h3, h4⟩, h5⟩ := h
  obtain ⟨t, y, rfl⟩ := h2.form
  obtain ⟨_, _, _, rfl⟩ := h3.slc
  obtain ⟨_, _, _, rfl⟩ := h4.slc
  have hs := h2.small
  have hrk := h2.rk r
  have hbd := h2.bd
  have hmem := cut_mem h2.pos (lo := lo) h5.2 r
  refine enterR Try.func142 Try.ntmps142 rfl (by kernel_rfl) rfl ?_
  repeat first | refine ω1 ?_ | refine ω2 ?_ | refine ω3 ?_ | refine ω4 ?_ | refine ω5 ?_ | refine χ1 ?_ | refine κ1 ?_ | refine κ2 ?_ | refine χ2 ?_ | refine κ3 ?_ | refine ω6 ?_ | refine ω7 ?_ | refine ω9 ?_ | refine κ4 ?_ | refine κ7 ?_ | refine κ8 ?_ | refine χ3 ?_ | refine χ4 ?_ | refine κ5 ?_ | refine κ6 ?_ | refine χ5 ?_ | refine χ6 ?_ | refine χ7 ?_ | refine ω8 ?_
  refine bx ?_
  intro w1 b1 hx1 hb1 hk1
  repeat first | refine ω1 ?_ | refine ω2 ?_ | refine ω3 ?_ | refine ω4 ?_ | refine ω5 ?_ | refine χ1 ?_ | refine κ1 ?_ | refine κ2 ?_ | refine χ2 ?_ | refine κ3 ?_ | refine ω6 ?_ | refine ω7 ?_ | refine ω9 ?_ | refine κ4 ?_ | refine κ7 ?_ | refine κ8 ?_ | refine χ3 ?_ | refine χ4 ?_ | refine κ5 ?_ | refine κ6 ?_ | refine χ5 ?_ | refine χ6 ?_ | refine χ7 ?_ | refine ω8 ?_
  refine dr [(0, 0), (0, 1), (0, 2), (0, 4), (0, 5), (1, 3), (1, 6), (0, 7), (0, 8), (0, 9), (0, 10), (0, 11), (0, 12), (0, 13), (0, 14), (0, 15)] (by kernel_rfl) ?_
  have hxd : Ext w1 w1.drew := (Ext.refl w1).drew
  repeat first | refine δ1 ?_ | refine δ2 ?_ | refine δ4 ?_ | refine δ5 ?_ | refine δ6 ?_ | refine δ7 ?_ | refine δ9 ?_ | refine δ8 ?_ | refine χ1 ?_ | refine χ2 ?_ | refine χ3 ?_ | refine χ4 ?_ | refine χ5 ?_ | refine χ6 ?_ | refine χ7 ?_
  refine dld ((hk1.ext hxd).at rfl) ?_
  repeat first | refine δ1 ?_ | refine δ2 ?_ | refine δ4 ?_ | refine δ5 ?_ | refine δ6 ?_ | refine δ7 ?_ | refine δ9 ?_ | refine δ8 ?_ | refine χ1 ?_ | refine χ2 ?_ | refine χ3 ?_ | refine χ4 ?_ | refine χ5 ?_ | refine χ6 ?_ | refine χ7 ?_
  refine dnci ?_
  repeat first | refine δ1 ?_ | refine δ2 ?_ | refine δ4 ?_ | refine δ5 ?_ | refine δ6 ?_ | refine δ7 ?_ | refine δ9 ?_ | refine δ8 ?_ | refine χ1 ?_ | refine χ2 ?_ | refine χ3 ?_ | refine χ4 ?_ | refine χ5 ?_ | refine χ6 ?_ | refine χ7 ?_
  refine dcl (cloneRowV ((hr.ext hx1).ext hxd) (fun _ => False) (fun _ h => h.elim)) ?_
  rintro x w2 ⟨hr2, hx2⟩
  refine ⟨hx2, ?_⟩
  obtain ⟨f, rv, hm, hf⟩ := h2.rank
  refine dinv hm (hf w2 ((hx1.trans hxd).trans hx2) r x hr2.v) ?_
  rintro y w3 ⟨⟨vn, s, rfl, hn3, hs3⟩, hx3⟩
  refine ⟨hx3, ?_⟩
  have hx13 : Ext w w3 := ((hx1.trans hxd).trans hx2).trans hx3
  have hk3 := ((hk1.ext hxd).ext hx2).ext hx3
  repeat first | refine δ1 ?_ | refine δ2 ?_ | refine δ4 ?_ | refine δ5 ?_ | refine δ6 ?_ | refine δ7 ?_ | refine δ9 ?_ | refine δ8 ?_ | refine χ1 ?_ | refine χ2 ?_ | refine χ3 ?_ | refine χ4 ?_ | refine χ5 ?_ | refine χ6 ?_ | refine χ7 ?_
  repeat first | refine ω1 ?_ | refine ω2 ?_ | refine ω3 ?_ | refine ω4 ?_ | refine ω5 ?_ | refine χ1 ?_ | refine κ1 ?_ | refine κ2 ?_ | refine χ2 ?_ | refine κ3 ?_ | refine ω6 ?_ | refine ω7 ?_ | refine ω9 ?_ | refine κ4 ?_ | refine κ7 ?_ | refine κ8 ?_ | refine χ3 ?_ | refine χ4 ?_ | refine κ5 ?_ | refine κ6 ?_ | refine χ5 ?_ | refine χ6 ?_ | refine χ7 ?_ | refine ω8 ?_
  refine wljoin1 (fun (b : Bool) => [(2, .pointer (some ⟨b1, 0, none⟩)), (8, vn), (10, .int .i64 (s : Int)), (12, .bool b)])
    (fun b w4 => b = decide (r ∈ cutL L lo hi) ∧ Ext w3 w4) ?_ ?_
  · refine ki 30 (fun h => ?_) (fun h => ?_)
    · have hin := of_decide_eq_true h
      repeat first | refine ω1 ?_ | refine ω2 ?_ | refine ω3 ?_ | refine ω4 ?_ | refine ω5 ?_ | refine χ1 ?_ | refine κ1 ?_ | refine κ2 ?_ | refine χ2 ?_ | refine κ3 ?_ | refine ω6 ?_ | refine ω7 ?_ | refine ω9 ?_ | refine κ4 ?_ | refine κ7 ?_ | refine κ8 ?_ | refine χ3 ?_ | refine χ4 ?_ | refine κ5 ?_ | refine κ6 ?_ | refine χ5 ?_ | refine χ6 ?_ | refine χ7 ?_ | refine ω8 ?_
      refine ld (hk3.at rfl) ?_
      repeat first | refine ω1 ?_ | refine ω2 ?_ | refine ω3 ?_ | refine ω4 ?_ | refine ω5 ?_ | refine χ1 ?_ | refine κ1 ?_ | refine κ2 ?_ | refine χ2 ?_ | refine κ3 ?_ | refine ω6 ?_ | refine ω7 ?_ | refine ω9 ?_ | refine κ4 ?_ | refine κ7 ?_ | refine κ8 ?_ | refine χ3 ?_ | refine χ4 ?_ | refine κ5 ?_ | refine κ6 ?_ | refine χ5 ?_ | refine χ6 ?_ | refine χ7 ?_ | refine ω8 ?_
      refine cl (natCmp_any (h3.ext hx13) hn3) ?_
      rintro z w4 ⟨rfl, hx4⟩
      repeat first | refine ω1 ?_ | refine ω2 ?_ | refine ω3 ?_ | refine ω4 ?_ | refine ω5 ?_ | refine χ1 ?_ | refine κ1 ?_ | refine κ2 ?_ | refine χ2 ?_ | refine κ3 ?_ | refine ω6 ?_ | refine ω7 ?_ | refine ω9 ?_ | refine κ4 ?_ | refine κ7 ?_ | refine κ8 ?_ | refine χ3 ?_ | refine χ4 ?_ | refine κ5 ?_ | refine κ6 ?_ | refine χ5 ?_ | refine χ6 ?_ | refine χ7 ?_ | refine ω8 ?_
      refine ki 37 (fun h => ?_) (fun h => ?_)
      · have hle := cmpN_le.1 (of_decide_eq_true h)
        repeat first | refine ω1 ?_ | refine ω2 ?_ | refine ω3 ?_ | refine ω4 ?_ | refine ω5 ?_ | refine χ1 ?_ | refine κ1 ?_ | refine κ2 ?_ | refine χ2 ?_ | refine κ3 ?_ | refine ω6 ?_ | refine ω7 ?_ | refine ω9 ?_ | refine κ4 ?_ | refine κ7 ?_ | refine κ8 ?_ | refine χ3 ?_ | refine χ4 ?_ | refine κ5 ?_ | refine κ6 ?_ | refine χ5 ?_ | refine χ6 ?_ | refine χ7 ?_ | refine ω8 ?_
        refine ld ((hk3.ext hx4).at rfl) ?_
        repeat first | refine ω1 ?_ | refine ω2 ?_ | refine ω3 ?_ | refine ω4 ?_ | refine ω5 ?_ | refine χ1 ?_ | refine κ1 ?_ | refine κ2 ?_ | refine χ2 ?_ | refine κ3 ?_ | refine ω6 ?_ | refine ω7 ?_ | refine ω9 ?_ | refine κ4 ?_ | refine κ7 ?_ | refine κ8 ?_ | refine χ3 ?_ | refine χ4 ?_ | refine κ5 ?_ | refine κ6 ?_ | refine χ5 ?_ | refine χ6 ?_ | refine χ7 ?_ | refine ω8 ?_
        refine cl (natCmp_any (hn3.ext hx4) ((h4.ext hx13).ext hx4)) ?_
        rintro z w5 ⟨rfl, hx5⟩
        repeat first | refine ω1 ?_ | refine ω2 ?_ | refine ω3 ?_ | refine ω4 ?_ | refine ω5 ?_ | refine χ1 ?_ | refine κ1 ?_ | refine κ2 ?_ | refine χ2 ?_ | refine κ3 ?_ | refine ω6 ?_ | refine ω7 ?_ | refine ω9 ?_ | refine κ4 ?_ | refine κ7 ?_ | refine κ8 ?_ | refine χ3 ?_ | refine χ4 ?_ | refine κ5 ?_ | refine κ6 ?_ | refine χ5 ?_ | refine χ6 ?_ | refine χ7 ?_ | refine ω8 ?_
        refine qjoin1 _ (by repeat' (first | exact Sub.nil | refine Sub.cons rfl ?_)) ⟨?_, hx4.trans hx5⟩
        rw [Bool.eq_iff_iff, decide_eq_true_iff, decide_eq_true_iff, cmpN_lt, hmem]
        exact ⟨fun h => ⟨hin, hle, h⟩, fun h => h.2.2⟩
      · have hle : ¬ lo ≤ R r := fun h' => (of_decide_eq_false h) (cmpN_le.2 h')
        repeat first | refine ω1 ?_ | refine ω2 ?_ | refine ω3 ?_ | refine ω4 ?_ | refine ω5 ?_ | refine χ1 ?_ | refine κ1 ?_ | refine κ2 ?_ | refine χ2 ?_ | refine κ3 ?_ | refine ω6 ?_ | refine ω7 ?_ | refine ω9 ?_ | refine κ4 ?_ | refine κ7 ?_ | refine κ8 ?_ | refine χ3 ?_ | refine χ4 ?_ | refine κ5 ?_ | refine κ6 ?_ | refine χ5 ?_ | refine χ6 ?_ | refine χ7 ?_ | refine ω8 ?_
        refine qjoin1 false (by repeat' (first | exact Sub.nil | refine Sub.cons rfl ?_)) ⟨?_, hx4⟩
        exact (decide_eq_false (fun h' => hle (hmem.1 h').2.1)).symm
    · have hin := of_decide_eq_false h
      repeat first | refine ω1 ?_ | refine ω2 ?_ | refine ω3 ?_ | refine ω4 ?_ | refine ω5 ?_ | refine χ1 ?_ | refine κ1 ?_ | refine κ2 ?_ | refine χ2 ?_ | refine κ3 ?_ | refine ω6 ?_ | refine ω7 ?_ | refine ω9 ?_ | refine κ4 ?_ | refine κ7 ?_ | refine κ8 ?_ | refine χ3 ?_ | refine χ4 ?_ | refine κ5 ?_ | refine κ6 ?_ | refine χ5 ?_ | refine χ6 ?_ | refine χ7 ?_ | refine ω8 ?_
      refine qjoin1 false (by repeat' (first | exact Sub.nil | refine Sub.cons rfl ?_)) ⟨?_, Ext.refl _⟩
      exact (decide_eq_false (fun h' => hin (hmem.1 h').1)).symm
  rintro b w4 ⟨rfl, hx4⟩
  repeat first | refine ω1 ?_ | refine ω2 ?_ | refine ω3 ?_ | refine ω4 ?_ | refine ω5 ?_ | refine χ1 ?_ | refine κ1 ?_ | refine κ2 ?_ | refine χ2 ?_ | refine κ3 ?_ | refine ω6 ?_ | refine ω7 ?_ | refine ω9 ?_ | refine κ4 ?_ | refine κ7 ?_ | refine κ8 ?_ | refine χ3 ?_ | refine χ4 ?_ | refine κ5 ?_ | refine κ6 ?_ | refine χ5 ?_ | refine χ6 ?_ | refine χ7 ?_ | refine ω8 ?_
  refine dr [(0, 0), (0, 1), (0, 2), (0, 4), (0, 5), (0, 7), (0, 8), (1, 3), (1, 6), (0, 9), (0, 10), (0, 11), (0, 12)] (by kernel_rfl) ?_
  have hxe : Ext w4 w4.drew := (Ext.refl w4).drew
  have hk4 := (hk3.ext hx4).ext hxe
  have hx14 := (hx13.trans hx4).trans hxe
  repeat first | refine δ1 ?_ | refine δ2 ?_ | refine δ4 ?_ | refine δ5 ?_ | refine δ6 ?_ | refine δ7 ?_ | refine δ9 ?_ | refine δ8 ?_ | refine χ1 ?_ | refine χ2 ?_ | refine χ3 ?_ | refine χ4 ?_ | refine χ5 ?_ | refine χ6 ?_ | refine χ7 ?_
  refine dld (hk4.at rfl) ?_
  repeat first | refine δ1 ?_ | refine δ2 ?_ | refine δ4 ?_ | refine δ5 ?_ | refine δ6 ?_ | refine δ7 ?_ | refine δ9 ?_ | refine δ8 ?_ | refine χ1 ?_ | refine χ2 ?_ | refine χ3 ?_ | refine χ4 ?_ | refine χ5 ?_ | refine χ6 ?_ | refine χ7 ?_
  refine dld (hk4.at rfl) ?_
  repeat first | refine δ1 ?_ | refine δ2 ?_ | refine δ4 ?_ | refine δ5 ?_ | refine δ6 ?_ | refine δ7 ?_ | refine δ9 ?_ | refine δ8 ?_ | refine χ1 ?_ | refine χ2 ?_ | refine χ3 ?_ | refine χ4 ?_ | refine χ5 ?_ | refine χ6 ?_ | refine χ7 ?_
  refine dcl (least_any ((hn3.ext hx4).ext hxe) (h4.ext hx14) (by omega) (by omega)) ?_
  rintro x5 w5 ⟨hn5, hx5⟩
  refine ⟨hx5, ?_⟩
  refine dcl (minus_any hn5 ((h3.ext hx14).ext hx5) (by omega)) ?_
  rintro x6 w6 ⟨hn6, hx6⟩
  refine ⟨hx6, ?_⟩
  repeat first | refine δ1 ?_ | refine δ2 ?_ | refine δ4 ?_ | refine δ5 ?_ | refine δ6 ?_ | refine δ7 ?_ | refine δ9 ?_ | refine δ8 ?_ | refine χ1 ?_ | refine χ2 ?_ | refine χ3 ?_ | refine χ4 ?_ | refine χ5 ?_ | refine χ6 ?_ | refine χ7 ?_
  repeat first | refine ω1 ?_ | refine ω2 ?_ | refine ω3 ?_ | refine ω4 ?_ | refine ω5 ?_ | refine χ1 ?_ | refine κ1 ?_ | refine κ2 ?_ | refine χ2 ?_ | refine κ3 ?_ | refine ω6 ?_ | refine ω7 ?_ | refine ω9 ?_ | refine κ4 ?_ | refine κ7 ?_ | refine κ8 ?_ | refine χ3 ?_ | refine χ4 ?_ | refine κ5 ?_ | refine κ6 ?_ | refine χ5 ?_ | refine χ6 ?_ | refine χ7 ?_ | refine ω8 ?_
  exact fin4 ⟨⟨x6, s, rfl, hn6, hs3⟩, (hx14.trans hx5).trans hx6⟩
theorem mSlcLen (x y z : Value) : Meth Try.prog (.iface 110 (.agg #[x, y, z])) "Len" 141 (.agg #[x, y, z]) := ⟨_, _, rfl, fun w => by kernel_rfl, fun w => by kernel_rfl⟩
theorem mSlcAt (x y z : Value) : Meth Try.prog (.iface 110 (.agg #[x, y, z])) "At" 140 (.agg #[x, y, z]) := ⟨_, _, rfl, fun w => by kernel_rfl, fun w => by kernel_rfl⟩
theorem mSlcRank (x y z : Value) : Meth Try.prog (.iface 110 (.agg #[x, y, z])) "Rank" 142 (.agg #[x, y, z]) := ⟨_, _, rfl, fun w => by kernel_rfl, fun w => by kernel_rfl⟩
theorem slcI {w : World} {x : Value} {L : List Row} {R : Row → Nat} {B lo hi : Nat} (h : SlcV w x L R B lo hi) : ArrI w (.iface 110 x) (cutL L lo hi) (cutR R lo hi) B := by
  obtain ⟨⟨v, vl, vh, rfl, h2, h3, h4⟩, h5⟩ := id h
  refine ⟨⟨_, _, mSlcLen _ _ _, fun w' hx => by rw [cut_len h5.2]; exact slcLen_any (h.ext hx)⟩, ⟨_, _, mSlcAt _ _ _, fun w' hx k vk hk hkb => slcAt_any (h.ext hx) hk hkb⟩, ⟨_, _, mSlcRank _ _ _, fun w' hx r vr hr => slcRank_any (h.ext hx) hr⟩, ?_, fun r => ?_, h2.bd, fun i hi' => ?_⟩
  · have := h2.small; rw [cut_len h5.2]; omega
  · rw [cut_len h5.2]; unfold cutR; omega
  · rw [cut_len h5.2] at hi'
    rw [cut_get (by omega), cutR, h2.pos _ (by omega)]; omega
theorem bldSlc (x y z : Value) (t : TypeId) (u : Value) (A A' : Option Addr) (n c n' c' : Nat) (hx : x = .iface t u) (hy : y = .slice A n c) (hz : z = .slice A' n' c') (w : World) : (Instr.build 110 #[(0, x), (1, y), (2, z)]).run Try.prog w = .ok (.agg #[x, y, z]) w := by subst hx; subst hy; subst hz; kernel_rfl
set_option maxRecDepth 100000 in
theorem slice_any {w : World} {v vl vh : Value} {L : List Row} {R : Row → Nat} {B lo hi : Nat} (h : ArrI w v L R B) (hl : NatV w vl lo) (hh : NatV w vh hi) (hls : lo < 18446744073709551616) (hhs : hi < 18446744073709551616) :
    Ret Try.prog 24 [v, vl, vh] w fun x w' => (if lo ≤ hi ∧ hi ≤ L.length then ∃ y, x = .tuple #[y, .int .i64 0] ∧ ArrI w' y (cutL L lo hi) (cutR R lo hi) B else x = .tuple #[.nilIface, .int .i64 3]) ∧ Ext w w' := by
  obtain ⟨t, y, rfl⟩ := h.form
  have hsm := h.small
  refine enterR Try.func24 Try.ntmps24 rfl (by kernel_rfl) rfl ?_
  repeat first | refine ω1 ?_ | refine ω2 ?_ | refine ω3 ?_ | refine ω4 ?_ | refine ω5 ?_ | refine χ1 ?_ | refine κ1 ?_ | refine κ2 ?_ | refine χ2 ?_ | refine κ3 ?_ | refine ω6 ?_ | refine ω7 ?_ | refine ω9 ?_ | refine κ4 ?_ | refine κ7 ?_ | refine κ8 ?_ | refine χ3 ?_ | refine χ4 ?_ | refine κ5 ?_ | refine κ6 ?_ | refine χ5 ?_ | refine χ6 ?_ | refine χ7 ?_ | refine ω8 ?_
  refine inil ifA (.inr ⟨_, _, rfl⟩) ?_
  repeat first | refine ω1 ?_ | refine ω2 ?_ | refine ω3 ?_ | refine ω4 ?_ | refine ω5 ?_ | refine χ1 ?_ | refine κ1 ?_ | refine κ2 ?_ | refine χ2 ?_ | refine κ3 ?_ | refine ω6 ?_ | refine ω7 ?_ | refine ω9 ?_ | refine κ4 ?_ | refine κ7 ?_ | refine κ8 ?_ | refine χ3 ?_ | refine χ4 ?_ | refine κ5 ?_ | refine κ6 ?_ | refine χ5 ?_ | refine χ6 ?_ | refine χ7 ?_ | refine ω8 ?_
  refine cl (natCmp_any hl hh) ?_
  rintro z w1 ⟨rfl, hx1⟩
  repeat first | refine ω1 ?_ | refine ω2 ?_ | refine ω3 ?_ | refine ω4 ?_ | refine ω5 ?_ | refine χ1 ?_ | refine κ1 ?_ | refine κ2 ?_ | refine χ2 ?_ | refine κ3 ?_ | refine ω6 ?_ | refine ω7 ?_ | refine ω9 ?_ | refine κ4 ?_ | refine κ7 ?_ | refine κ8 ?_ | refine χ3 ?_ | refine χ4 ?_ | refine κ5 ?_ | refine κ6 ?_ | refine χ5 ?_ | refine χ6 ?_ | refine χ7 ?_ | refine ω8 ?_
  refine ki 14 (fun h0 => ?_) (fun h0 => ?_)
  · have hgt := cmpN_gt.1 (of_decide_eq_true h0)
    repeat first | refine ω1 ?_ | refine ω2 ?_ | refine ω3 ?_ | refine ω4 ?_ | refine ω5 ?_ | refine χ1 ?_ | refine κ1 ?_ | refine κ2 ?_ | refine χ2 ?_ | refine κ3 ?_ | refine ω6 ?_ | refine ω7 ?_ | refine ω9 ?_ | refine κ4 ?_ | refine κ7 ?_ | refine κ8 ?_ | refine χ3 ?_ | refine χ4 ?_ | refine κ5 ?_ | refine κ6 ?_ | refine χ5 ?_ | refine χ6 ?_ | refine χ7 ?_ | refine ω8 ?_
    refine fin2 ⟨?_, hx1⟩
    rw [if_neg (by omega)]
  · have hle : lo ≤ hi := by
      have := of_decide_eq_false h0
      rw [cmpN_gt] at this; omega
    repeat first | refine ω1 ?_ | refine ω2 ?_ | refine ω3 ?_ | refine ω4 ?_ | refine ω5 ?_ | refine χ1 ?_ | refine κ1 ?_ | refine κ2 ?_ | refine χ2 ?_ | refine κ3 ?_ | refine ω6 ?_ | refine ω7 ?_ | refine ω9 ?_ | refine κ4 ?_ | refine κ7 ?_ | refine κ8 ?_ | refine χ3 ?_ | refine χ4 ?_ | refine κ5 ?_ | refine κ6 ?_ | refine χ5 ?_ | refine χ6 ?_ | refine χ7 ?_ | refine ω8 ?_
    obtain ⟨f, rv, hm, hf⟩ := h.len
    refine inv hm (hf w1 hx1) ?_
    rintro x w2 ⟨hn, hx2⟩
    repeat first | refine ω1 ?_ | refine ω2 ?_ | refine ω3 ?_ | refine ω4 ?_ | refine ω5 ?_ | refine χ1 ?_ | refine κ1 ?_ | refine κ2 ?_ | refine χ2 ?_ | refine κ3 ?_ | refine ω6 ?_ | refine ω7 ?_ | refine ω9 ?_ | refine κ4 ?_ | refine κ7 ?_ | refine κ8 ?_ | refine χ3 ?_ | refine χ4 ?_ | refine κ5 ?_ | refine κ6 ?_ | refine χ5 ?_ | refine χ6 ?_ | refine χ7 ?_ | refine ω8 ?_
    refine cl (natCmp_any ((hh.ext hx1).ext hx2) hn) ?_
    rintro z w3 ⟨rfl, hx3⟩
    have hx13 := (hx1.trans hx2).trans hx3
    repeat first | refine ω1 ?_ | refine ω2 ?_ | refine ω3 ?_ | refine ω4 ?_ | refine ω5 ?_ | refine χ1 ?_ | refine κ1 ?_ | refine κ2 ?_ | refine χ2 ?_ | refine κ3 ?_ | refine ω6 ?_ | refine ω7 ?_ | refine ω9 ?_ | refine κ4 ?_ | refine κ7 ?_ | refine κ8 ?_ | refine χ3 ?_ | refine χ4 ?_ | refine κ5 ?_ | refine κ6 ?_ | refine χ5 ?_ | refine χ6 ?_ | refine χ7 ?_ | refine ω8 ?_
    refine ci (fun h0 => ?_) (fun h0 => ?_)
    · have hgt := cmpN_gt.1 (of_decide_eq_true h0)
      repeat first | refine ω1 ?_ | refine ω2 ?_ | refine ω3 ?_ | refine ω4 ?_ | refine ω5 ?_ | refine χ1 ?_ | refine κ1 ?_ | refine κ2 ?_ | refine χ2 ?_ | refine κ3 ?_ | refine ω6 ?_ | refine ω7 ?_ | refine ω9 ?_ | refine κ4 ?_ | refine κ7 ?_ | refine κ8 ?_ | refine χ3 ?_ | refine χ4 ?_ | refine κ5 ?_ | refine κ6 ?_ | refine χ5 ?_ | refine χ6 ?_ | refine χ7 ?_ | refine ω8 ?_
      refine fin2 ⟨?_, hx13⟩
      rw [if_neg (by omega)]
    · have hle2 : hi ≤ L.length := by
        have := of_decide_eq_false h0
        rw [cmpN_gt] at this; omega
      repeat first | refine ω1 ?_ | refine ω2 ?_ | refine ω3 ?_ | refine ω4 ?_ | refine ω5 ?_ | refine χ1 ?_ | refine κ1 ?_ | refine κ2 ?_ | refine χ2 ?_ | refine κ3 ?_ | refine ω6 ?_ | refine ω7 ?_ | refine ω9 ?_ | refine κ4 ?_ | refine κ7 ?_ | refine κ8 ?_ | refine χ3 ?_ | refine χ4 ?_ | refine κ5 ?_ | refine κ6 ?_ | refine χ5 ?_ | refine χ6 ?_ | refine χ7 ?_ | refine ω8 ?_
      refine cl (natNorm_any (hl.ext hx13) (small1000 hls)) ?_
      rintro x4 w4 ⟨hn4, hx4⟩
      repeat first | refine ω1 ?_ | refine ω2 ?_ | refine ω3 ?_ | refine ω4 ?_ | refine ω5 ?_ | refine χ1 ?_ | refine κ1 ?_ | refine κ2 ?_ | refine χ2 ?_ | refine κ3 ?_ | refine ω6 ?_ | refine ω7 ?_ | refine ω9 ?_ | refine κ4 ?_ | refine κ7 ?_ | refine κ8 ?_ | refine χ3 ?_ | refine χ4 ?_ | refine κ5 ?_ | refine κ6 ?_ | refine χ5 ?_ | refine χ6 ?_ | refine χ7 ?_ | refine ω8 ?_
      refine cl (natNorm_any ((hh.ext hx13).ext hx4) (small1000 hhs)) ?_
      rintro x5 w5 ⟨hn5, hx5⟩
      obtain ⟨_, _, _, e4⟩ := hn4.slc
      obtain ⟨_, _, _, e5⟩ := hn5.slc
      repeat first | refine ω1 ?_ | refine ω2 ?_ | refine ω3 ?_ | refine ω4 ?_ | refine ω5 ?_ | refine χ1 ?_ | refine κ1 ?_ | refine κ2 ?_ | refine χ2 ?_ | refine κ3 ?_ | refine ω6 ?_ | refine ω7 ?_ | refine ω9 ?_ | refine κ4 ?_ | refine κ7 ?_ | refine κ8 ?_ | refine χ3 ?_ | refine χ4 ?_ | refine κ5 ?_ | refine κ6 ?_ | refine χ5 ?_ | refine χ6 ?_ | refine χ7 ?_ | refine ω8 ?_
      refine bld (bldSlc _ _ _ _ _ _ _ _ _ _ _ rfl e4 e5 _) ?_
      repeat first | refine ω1 ?_ | refine ω2 ?_ | refine ω3 ?_ | refine ω4 ?_ | refine ω5 ?_ | refine χ1 ?_ | refine κ1 ?_ | refine κ2 ?_ | refine χ2 ?_ | refine κ3 ?_ | refine ω6 ?_ | refine ω7 ?_ | refine ω9 ?_ | refine κ4 ?_ | refine κ7 ?_ | refine κ8 ?_ | refine χ3 ?_ | refine χ4 ?_ | refine κ5 ?_ | refine κ6 ?_ | refine χ5 ?_ | refine χ6 ?_ | refine χ7 ?_ | refine ω8 ?_
      refine mki Try.underlying110 (fun ms e => by cases e) ?_
      repeat first | refine ω1 ?_ | refine ω2 ?_ | refine ω3 ?_ | refine ω4 ?_ | refine ω5 ?_ | refine χ1 ?_ | refine κ1 ?_ | refine κ2 ?_ | refine χ2 ?_ | refine κ3 ?_ | refine ω6 ?_ | refine ω7 ?_ | refine ω9 ?_ | refine κ4 ?_ | refine κ7 ?_ | refine κ8 ?_ | refine χ3 ?_ | refine χ4 ?_ | refine κ5 ?_ | refine κ6 ?_ | refine χ5 ?_ | refine χ6 ?_ | refine χ7 ?_ | refine ω8 ?_
      refine fin2 ⟨?_, (hx13.trans hx4).trans hx5⟩
      rw [if_pos ⟨hle, hle2⟩]
      exact ⟨_, rfl, slcI ⟨⟨_, _, _, rfl, h.ext ((hx13.trans hx4).trans hx5), hn4.ext hx5, hn5⟩, hle, hle2⟩⟩
set_option maxRecDepth 100000 in
theorem slice_nil {w : World} (x y : Value) : Ret Try.prog 24 [.nilIface, x, y] w fun x w' => x = .tuple #[.nilIface, .int .i64 1] ∧ w' = w := by
  refine enterR Try.func24 Try.ntmps24 rfl (by kernel_rfl) rfl ?_
  repeat first | refine ω1 ?_ | refine ω2 ?_ | refine ω3 ?_ | refine ω4 ?_ | refine ω5 ?_ | refine χ1 ?_ | refine κ1 ?_ | refine κ2 ?_ | refine χ2 ?_ | refine κ3 ?_ | refine ω6 ?_ | refine ω7 ?_ | refine ω9 ?_ | refine κ4 ?_ | refine κ7 ?_ | refine κ8 ?_ | refine χ3 ?_ | refine χ4 ?_ | refine κ5 ?_ | refine κ6 ?_ | refine χ5 ?_ | refine χ6 ?_ | refine χ7 ?_ | refine ω8 ?_
  refine inil ifA (.inl rfl) ?_
  repeat first | refine ω1 ?_ | refine ω2 ?_ | refine ω3 ?_ | refine ω4 ?_ | refine ω5 ?_ | refine χ1 ?_ | refine κ1 ?_ | refine κ2 ?_ | refine χ2 ?_ | refine κ3 ?_ | refine ω6 ?_ | refine ω7 ?_ | refine ω9 ?_ | refine κ4 ?_ | refine κ7 ?_ | refine κ8 ?_ | refine χ3 ?_ | refine χ4 ?_ | refine κ5 ?_ | refine κ6 ?_ | refine χ5 ?_ | refine χ6 ?_ | refine χ7 ?_ | refine ω8 ?_
  exact fin2 ⟨rfl, rfl⟩
end Go.Proofs.Ytpahjnfolbnloaa
