/- Sorted rows as arrays of a difference; what the laws of chapter 47 build their inputs with. -/
import Derived.Test.YtpahjnfolbnloaaDif2
import Derived.Test.YtpahjnfolbnloaaRef47
import Derived.Test.YtpahjnfolbnloaaIdx
set_option linter.unusedVariables false
namespace Go.Proofs.Ytpahjnfolbnloaa
open Go.RowKit Pl Go.Wk
attribute [local irreducible] WC WL QX WD WDB WP WG
set_option maxRecDepth 100000 in
theorem rowsAtO {v vk : Value} {ds : List Bool} {m : List Row} {k : Nat} {w : World} (h : RowsA w v ds m) (N : Nat → Prop) (hN : ∀ k, N k → k < w.heap.size) (hk : NatV w vk k) (hkb : k < 9223372036854775808) : Ret Try.prog 129 [v, vk] w fun x w' => AtX w' N m 1 k x ∧ Ext w w' := by
  obtain ⟨v1, v2, rfl, h1, h2⟩ := h
  obtain ⟨A, c, rfl, hc, hm, cs, hrd, hcs⟩ := h1.parts
  obtain ⟨D, dn, dc, rfl⟩ := h2.slc
  refine enterR Try.func129 Try.ntmps129 rfl (by kernel_rfl) rfl ?_
  repeat first | refine ω1 ?_ | refine ω2 ?_ | refine ω3 ?_ | refine ω4 ?_ | refine ω5 ?_ | refine χ1 ?_ | refine κ1 ?_ | refine κ2 ?_ | refine χ2 ?_ | refine κ3 ?_ | refine ω6 ?_ | refine ω7 ?_ | refine ω9 ?_ | refine κ4 ?_ | refine κ7 ?_ | refine κ8 ?_ | refine χ3 ?_ | refine χ4 ?_ | refine κ5 ?_ | refine κ6 ?_ | refine χ5 ?_ | refine χ6 ?_ | refine χ7 ?_ | refine ω8 ?_
  refine bx ?_
  intro w1 b1 hx1 hb1 hk1
  repeat first | refine ω1 ?_ | refine ω2 ?_ | refine ω3 ?_ | refine ω4 ?_ | refine ω5 ?_ | refine χ1 ?_ | refine κ1 ?_ | refine κ2 ?_ | refine χ2 ?_ | refine κ3 ?_ | refine ω6 ?_ | refine ω7 ?_ | refine ω9 ?_ | refine κ4 ?_ | refine κ7 ?_ | refine κ8 ?_ | refine χ3 ?_ | refine χ4 ?_ | refine κ5 ?_ | refine κ6 ?_ | refine χ5 ?_ | refine χ6 ?_ | refine χ7 ?_ | refine ω8 ?_
  refine cl (natUint64_any (hk.ext hx1) (by omega)) ?_
  rintro x w2 ⟨rfl, rfl⟩
  repeat first | refine ω1 ?_ | refine ω2 ?_ | refine ω3 ?_ | refine ω4 ?_ | refine ω5 ?_ | refine χ1 ?_ | refine κ1 ?_ | refine κ2 ?_ | refine χ2 ?_ | refine κ3 ?_ | refine ω6 ?_ | refine ω7 ?_ | refine ω9 ?_ | refine κ4 ?_ | refine κ7 ?_ | refine κ8 ?_ | refine χ3 ?_ | refine χ4 ?_ | refine κ5 ?_ | refine κ6 ?_ | refine χ5 ?_ | refine χ6 ?_ | refine χ7 ?_ | refine ω8 ?_
  refine ld (hk1.at rfl) ?_
  repeat first | refine ω1 ?_ | refine ω2 ?_ | refine ω3 ?_ | refine ω4 ?_ | refine ω5 ?_ | refine χ1 ?_ | refine κ1 ?_ | refine κ2 ?_ | refine χ2 ?_ | refine κ3 ?_ | refine ω6 ?_ | refine ω7 ?_ | refine ω9 ?_ | refine κ4 ?_ | refine κ7 ?_ | refine κ8 ?_ | refine χ3 ?_ | refine χ4 ?_ | refine κ5 ?_ | refine κ6 ?_ | refine χ5 ?_ | refine χ6 ?_ | refine χ7 ?_ | refine ω8 ?_
  rw [u64c _ hm]
  refine ci (fun hge => ?_) (fun hlt => ?_)
  · have hge : ¬ k < m.length := by have := of_decide_eq_true hge; omega
    repeat first | refine ω1 ?_ | refine ω2 ?_ | refine ω3 ?_ | refine ω4 ?_ | refine ω5 ?_ | refine χ1 ?_ | refine κ1 ?_ | refine κ2 ?_ | refine χ2 ?_ | refine κ3 ?_ | refine ω6 ?_ | refine ω7 ?_ | refine ω9 ?_ | refine κ4 ?_ | refine κ7 ?_ | refine κ8 ?_ | refine χ3 ?_ | refine χ4 ?_ | refine κ5 ?_ | refine κ6 ?_ | refine χ5 ?_ | refine χ6 ?_ | refine χ7 ?_ | refine ω8 ?_
    refine fin3 ⟨?_, hx1⟩
    unfold AtX
    rw [if_neg hge]
    exact ⟨0, rfl, by omega⟩
  · have hlt : k < m.length := by have := of_decide_eq_false hlt; omega
    obtain ⟨u, hu, hru⟩ := hcs k hlt
    repeat first | refine ω1 ?_ | refine ω2 ?_ | refine ω3 ?_ | refine ω4 ?_ | refine ω5 ?_ | refine χ1 ?_ | refine κ1 ?_ | refine κ2 ?_ | refine χ2 ?_ | refine κ3 ?_ | refine ω6 ?_ | refine ω7 ?_ | refine ω9 ?_ | refine κ4 ?_ | refine κ7 ?_ | refine κ8 ?_ | refine χ3 ?_ | refine χ4 ?_ | refine κ5 ?_ | refine κ6 ?_ | refine χ5 ?_ | refine χ6 ?_ | refine χ7 ?_ | refine ω8 ?_
    refine ld (hk1.at rfl) ?_
    repeat first | refine ω1 ?_ | refine ω2 ?_ | refine ω3 ?_ | refine ω4 ?_ | refine ω5 ?_ | refine χ1 ?_ | refine κ1 ?_ | refine κ2 ?_ | refine χ2 ?_ | refine κ3 ?_ | refine ω6 ?_ | refine ω7 ?_ | refine ω9 ?_ | refine κ4 ?_ | refine κ7 ?_ | refine κ8 ?_ | refine χ3 ?_ | refine χ4 ?_ | refine κ5 ?_ | refine κ6 ?_ | refine χ5 ?_ | refine χ6 ?_ | refine χ7 ?_ | refine ω8 ?_
    refine ix k (hrd.ext hx1) hlt ?_
    repeat first | refine ω1 ?_ | refine ω2 ?_ | refine ω3 ?_ | refine ω4 ?_ | refine ω5 ?_ | refine χ1 ?_ | refine κ1 ?_ | refine κ2 ?_ | refine χ2 ?_ | refine κ3 ?_ | refine ω6 ?_ | refine ω7 ?_ | refine ω9 ?_ | refine κ4 ?_ | refine κ7 ?_ | refine κ8 ?_ | refine χ3 ?_ | refine χ4 ?_ | refine κ5 ?_ | refine κ6 ?_ | refine χ5 ?_ | refine χ6 ?_ | refine χ7 ?_ | refine ω8 ?_
    refine ld ((hrd.ext hx1).cell hu) ?_
    repeat first | refine ω1 ?_ | refine ω2 ?_ | refine ω3 ?_ | refine ω4 ?_ | refine ω5 ?_ | refine χ1 ?_ | refine κ1 ?_ | refine κ2 ?_ | refine χ2 ?_ | refine κ3 ?_ | refine ω6 ?_ | refine ω7 ?_ | refine ω9 ?_ | refine κ4 ?_ | refine κ7 ?_ | refine κ8 ?_ | refine χ3 ?_ | refine χ4 ?_ | refine κ5 ?_ | refine κ6 ?_ | refine χ5 ?_ | refine χ6 ?_ | refine χ7 ?_ | refine ω8 ?_
    refine cl (cloneRowV (hru.ext hx1) N (fun k hk => Nat.lt_of_lt_of_le (hN k hk) hx1.size)) ?_
    rintro x w3 ⟨hr3, hx3⟩
    repeat first | refine ω1 ?_ | refine ω2 ?_ | refine ω3 ?_ | refine ω4 ?_ | refine ω5 ?_ | refine χ1 ?_ | refine κ1 ?_ | refine κ2 ?_ | refine χ2 ?_ | refine κ3 ?_ | refine ω6 ?_ | refine ω7 ?_ | refine ω9 ?_ | refine κ4 ?_ | refine κ7 ?_ | refine κ8 ?_ | refine χ3 ?_ | refine χ4 ?_ | refine κ5 ?_ | refine κ6 ?_ | refine χ5 ?_ | refine χ6 ?_ | refine χ7 ?_ | refine ω8 ?_
    refine fin3 ⟨?_, hx1.trans hx3⟩
    unfold AtX
    rw [if_pos hlt]
    exact ⟨x, 1, rfl, hr3, Nat.le_refl _⟩
set_option maxRecDepth 100000 in
theorem rowsRankO {v vr : Value} {ds : List Bool} {m : List Row} {r : Row} {w : World} (h : RowsA w v ds m) (N : Nat → Prop) (hN : ∀ k, N k → k < w.heap.size) (hr : RowV w vr r) (hl : Lt ds m) (hms : m.length < 256) : Ret Try.prog 16 [v, vr] w fun x w' => RankX w' N m (cnt ds m) 64 r x ∧ Ext w w' := by
  obtain ⟨v1, v2, rfl, h1, h2⟩ := h
  obtain ⟨A, c, rfl, hc, hm, cs, hrd, hcs⟩ := h1.parts
  obtain ⟨D, dn, dc, rfl⟩ := h2.slc
  have hcl := cnt_le ds m r
  refine enterR Try.func16 Try.ntmps16 rfl (by kernel_rfl) rfl ?_
  repeat first | refine ω1 ?_ | refine ω2 ?_ | refine ω3 ?_ | refine ω4 ?_ | refine ω5 ?_ | refine χ1 ?_ | refine κ1 ?_ | refine κ2 ?_ | refine χ2 ?_ | refine κ3 ?_ | refine ω6 ?_ | refine ω7 ?_ | refine ω9 ?_ | refine κ4 ?_ | refine κ7 ?_ | refine κ8 ?_ | refine χ3 ?_ | refine χ4 ?_ | refine κ5 ?_ | refine κ6 ?_ | refine χ5 ?_ | refine χ6 ?_ | refine χ7 ?_ | refine ω8 ?_
  refine bx ?_
  intro w1 b1 hx1 hb1 hk1
  repeat first | refine ω1 ?_ | refine ω2 ?_ | refine ω3 ?_ | refine ω4 ?_ | refine ω5 ?_ | refine χ1 ?_ | refine κ1 ?_ | refine κ2 ?_ | refine χ2 ?_ | refine κ3 ?_ | refine ω6 ?_ | refine ω7 ?_ | refine ω9 ?_ | refine κ4 ?_ | refine κ7 ?_ | refine κ8 ?_ | refine χ3 ?_ | refine χ4 ?_ | refine κ5 ?_ | refine κ6 ?_ | refine χ5 ?_ | refine χ6 ?_ | refine χ7 ?_ | refine ω8 ?_
  refine ld (hk1.at rfl) ?_
  repeat first | refine ω1 ?_ | refine ω2 ?_ | refine ω3 ?_ | refine ω4 ?_ | refine ω5 ?_ | refine χ1 ?_ | refine κ1 ?_ | refine κ2 ?_ | refine χ2 ?_ | refine κ3 ?_ | refine ω6 ?_ | refine ω7 ?_ | refine ω9 ?_ | refine κ4 ?_ | refine κ7 ?_ | refine κ8 ?_ | refine χ3 ?_ | refine χ4 ?_ | refine κ5 ?_ | refine κ6 ?_ | refine χ5 ?_ | refine χ6 ?_ | refine χ7 ?_ | refine ω8 ?_
  refine ld (hk1.at rfl) ?_
  repeat first | refine ω1 ?_ | refine ω2 ?_ | refine ω3 ?_ | refine ω4 ?_ | refine ω5 ?_ | refine χ1 ?_ | refine κ1 ?_ | refine κ2 ?_ | refine χ2 ?_ | refine κ3 ?_ | refine ω6 ?_ | refine ω7 ?_ | refine ω9 ?_ | refine κ4 ?_ | refine κ7 ?_ | refine κ8 ?_ | refine χ3 ?_ | refine χ4 ?_ | refine κ5 ?_ | refine κ6 ?_ | refine χ5 ?_ | refine χ6 ?_ | refine χ7 ?_ | refine ω8 ?_
  refine cl (rowSearch_any (h1.ext hx1) (hr.ext hx1) (h2.ext hx1) hl) ?_
  rintro x w2 ⟨rfl, hx2⟩
  repeat first | refine ω1 ?_ | refine ω2 ?_ | refine ω3 ?_ | refine ω4 ?_ | refine ω5 ?_ | refine χ1 ?_ | refine κ1 ?_ | refine κ2 ?_ | refine χ2 ?_ | refine κ3 ?_ | refine ω6 ?_ | refine ω7 ?_ | refine ω9 ?_ | refine κ4 ?_ | refine κ7 ?_ | refine κ8 ?_ | refine χ3 ?_ | refine χ4 ?_ | refine κ5 ?_ | refine κ6 ?_ | refine χ5 ?_ | refine χ6 ?_ | refine χ7 ?_ | refine ω8 ?_
  refine dr [(0, 0), (0, 1), (0, 3), (0, 4), (0, 5), (0, 6), (0, 7), (1, 2), (1, 8), (0, 9), (0, 10), (0, 11), (0, 12)] (by kernel_rfl) ?_
  have hxd : Ext w2 w2.drew := (Ext.refl w2).drew
  have hk2 := (hk1.ext hx2).ext hxd
  repeat first | refine δ1 ?_ | refine δ2 ?_ | refine δ4 ?_ | refine δ5 ?_ | refine δ6 ?_ | refine δ7 ?_ | refine δ9 ?_ | refine δ8 ?_ | refine χ1 ?_ | refine χ2 ?_ | refine χ3 ?_ | refine χ4 ?_ | refine χ5 ?_ | refine χ6 ?_ | refine χ7 ?_
  refine dld (hk2.at rfl) ?_
  repeat first | refine δ1 ?_ | refine δ2 ?_ | refine δ4 ?_ | refine δ5 ?_ | refine δ6 ?_ | refine δ7 ?_ | refine δ9 ?_ | refine δ8 ?_ | refine χ1 ?_ | refine χ2 ?_ | refine χ3 ?_ | refine χ4 ?_ | refine χ5 ?_ | refine χ6 ?_ | refine χ7 ?_
  rw [u64c _ hm, u64c _ (show cnt ds m r ≤ 1100000 by omega)]
  refine dcl (natOfF_any (cnt ds m r) (by omega) _) ?_
  rintro x w3 ⟨hn3, hf3, hx3⟩
  refine ⟨hx3, ?_⟩
  refine dcl (bitsLen_any hms _) ?_
  rintro y w4 ⟨rfl, rfl⟩
  refine ⟨Ext.refl _, ?_⟩
  have hx0d := (hx1.trans hx2).trans hxd
  repeat first | refine δ1 ?_ | refine δ2 ?_ | refine δ4 ?_ | refine δ5 ?_ | refine δ6 ?_ | refine δ7 ?_ | refine δ9 ?_ | refine δ8 ?_ | refine χ1 ?_ | refine χ2 ?_ | refine χ3 ?_ | refine χ4 ?_ | refine χ5 ?_ | refine χ6 ?_ | refine χ7 ?_
  repeat first | refine ω1 ?_ | refine ω2 ?_ | refine ω3 ?_ | refine ω4 ?_ | refine ω5 ?_ | refine χ1 ?_ | refine κ1 ?_ | refine κ2 ?_ | refine χ2 ?_ | refine κ3 ?_ | refine ω6 ?_ | refine ω7 ?_ | refine ω9 ?_ | refine κ4 ?_ | refine κ7 ?_ | refine κ8 ?_ | refine χ3 ?_ | refine χ4 ?_ | refine κ5 ?_ | refine κ6 ?_ | refine χ5 ?_ | refine χ6 ?_ | refine χ7 ?_ | refine ω8 ?_
  exact fin4 ⟨⟨x, lenB m.length, rfl, hf3.x hn3 (fun k hk => Nat.lt_of_lt_of_le (hN k hk) hx0d.size), by have := lenB_le hms; omega⟩, hx0d.trans hx3⟩
/-- rows are an array -/
theorem rowsO {w : World} {v : Value} {ds : List Bool} {m : List Row} (h : RowsA w v ds m) (hl : Lt ds m) (hms : m.length < 256) (S : Row → Prop) : ArrO w (.iface 29 v) m (cnt ds m) 64 S := by
  obtain ⟨v1, v2, rfl, h1, h2⟩ := id h
  exact ⟨⟨_, _, mRowsLen _ _, fun w' hx => rowsLen_any (h.ext hx)⟩,
    ⟨_, _, mRowsAt _ _, fun w' hx N hN k vk hk hkb => (rowsAtO (h.ext hx) N (fun k hk => (hN k hk).2) hk hkb).mono fun x w'' ⟨h1, h2⟩ => ⟨by
      unfold AtX at *
      split
      · rename_i hk; rw [if_pos hk] at h1; obtain ⟨vr, s, e1, e2, e3⟩ := h1; exact ⟨vr, s, e1, e2, by omega⟩
      · rename_i hk; rw [if_neg hk] at h1; obtain ⟨s, e1, e2⟩ := h1; exact ⟨s, e1, by omega⟩, h2⟩⟩,
    ⟨_, _, mRowsRank _ _, fun w' hx N hN r vr _ hr => rowsRankO (h.ext hx) N (fun k hk => (hN k hk).2) hr hl hms⟩, by omega, fun r _ => cnt_le _ _ _, by omega⟩
/-! ### plain -/
theorem filt_cF {A : List Row} {q : Row → Bool} (i : Nat) : cF A (A.filter q) i = ((A.take i).filter q).length := by
  unfold cF
  congr 1
  apply List.filter_congr
  intro x hx
  have hxA : x ∈ A := List.mem_of_mem_take hx
  rw [Bool.eq_iff_iff, decide_eq_true_iff, List.mem_filter]
  exact ⟨fun h => h.2, fun h => ⟨hxA, h⟩⟩
theorem filt_below {ds : List Bool} {A : List Row} (h : Lt ds A) {i : Nat} (hi : i < A.length) : A.filter (fun x => decide (cmpR x (A.getD i []) ds < 0)) = A.take i := by
  have h0 : ∀ p : Row → Bool, A.filter p = (A.take i).filter p ++ (A.drop i).filter p := fun p => by rw [← List.filter_append, List.take_append_drop]
  rw [h0]
  have h1 : (A.take i).filter (fun x => decide (cmpR x (A.getD i []) ds < 0)) = A.take i := by
    rw [List.filter_eq_self]
    intro x hx
    obtain ⟨j, hj, rfl⟩ := List.getElem_of_mem hx
    have hji : j < i := by simp at hj; omega
    have := h.at hji hi
    rw [getD_get [] A (by omega : j < A.length)] at this
    simpa using this
  have h2 : (A.drop i).filter (fun x => decide (cmpR x (A.getD i []) ds < 0)) = [] := by
    rw [List.filter_eq_nil_iff]
    intro x hx
    obtain ⟨j, hj, rfl⟩ := List.getElem_of_mem hx
    have hji : i + j < A.length := by simp at hj; omega
    rw [List.getElem_drop, ← getD_get [] A hji]
    intro hc
    have hc := of_decide_eq_true hc
    by_cases e : j = 0
    · subst e; exact lt_irr _ _ hc
    · exact lt_asym (h.at (i := i) (j := i + j) (by omega) hji) hc
  rw [h1, h2, List.append_nil]
/-- the common rows of a sorted list, with their ranks -/
theorem filt_H {ds : List Bool} {A : List Row} (h : Lt ds A) (q : Row → Bool) : DifH A (A.filter q) (cnt ds (A.filter q)) := by
  refine ⟨fun i hi => ?_, ?_⟩
  · rw [filt_cF]
    unfold cnt
    rw [List.filter_filter]
    have : A.filter (fun a => decide (cmpR a (A.getD i []) ds < 0) && q a) = (A.filter (fun x => decide (cmpR x (A.getD i []) ds < 0))).filter q := by
      rw [List.filter_filter]
      apply List.filter_congr
      intro x _
      rw [Bool.and_comm]
    rw [this, filt_below h hi]
  · rw [filt_cF, List.take_length]
theorem filt_dif {A : List Row} (q : Row → Bool) : dif2 A (A.filter q) = A.filter (fun r => !q r) := by
  unfold dif2
  apply List.filter_congr
  intro x hx
  congr 1
  rw [Bool.eq_iff_iff, decide_eq_true_iff, List.mem_filter]
  exact ⟨fun h => h.2, fun h => ⟨hx, h⟩⟩
theorem filt_lt {ds : List Bool} {A : List Row} (h : Lt ds A) (q : Row → Bool) : Lt ds (A.filter q) := h.sublist List.filter_sublist
theorem filt_set {ds : List Bool} {A : List Row} (h : Lt ds A) (q : Row → Bool) : IsSet ds (A.filter q) (A.filter q) := ⟨filt_lt h q, fun _ => Iff.rfl⟩
theorem filt_cnt (ds : List Bool) (A : List Row) (q : Row → Bool) (r : Row) : cnt ds A r = cnt ds (A.filter q) r + cnt ds (A.filter (fun x => !q x)) r := by
  unfold cnt
  induction A with
  | nil => rfl
  | cons a A ih =>
    by_cases h1 : q a = true
    · rw [List.filter_cons_of_pos (p := q) h1, List.filter_cons_of_neg (p := fun x => !q x) (by simp [h1])]
      by_cases h2 : cmpR a r ds < 0
      · rw [List.filter_cons_of_pos (by simpa using h2), List.filter_cons_of_pos (by simpa using h2)]
        simp only [List.length_cons]; omega
      · rw [List.filter_cons_of_neg (by simpa using h2), List.filter_cons_of_neg (by simpa using h2)]; exact ih
    · rw [List.filter_cons_of_neg (p := q) h1, List.filter_cons_of_pos (p := fun x => !q x) (by simpa using h1)]
      by_cases h2 : cmpR a r ds < 0
      · rw [List.filter_cons_of_pos (by simpa using h2), List.filter_cons_of_pos (by simpa using h2)]
        simp only [List.length_cons]; omega
      · rw [List.filter_cons_of_neg (by simpa using h2), List.filter_cons_of_neg (by simpa using h2)]; exact ih
end Go.Proofs.Ytpahjnfolbnloaa
