/- Arrays: Columns; the law's Is. -/
import Derived.Test.YtpahjnfolbnloaaArr6
import Derived.Test.YtpahjnfolbnloaaRef40
set_option linter.unusedVariables false
namespace Go.Proofs.Ytpahjnfolbnloaa
open Go.RowKit Pl Go.Wk
attribute [local irreducible] WC WL QX WD WDB WP
/-- an array whose own rows have their places as ranks -/
structure ArrW (w : World) (v : Value) (L : List Row) (B : Nat) : Prop where
  len : ∃ f rv, Meth Try.prog v "Len" f rv ∧ ∀ w', Ext w w' → Ret Try.prog f [rv] w' fun x w'' => NatV w'' x L.length ∧ Ext w' w''
  at_ : ∃ f rv, Meth Try.prog v "At" f rv ∧ ∀ w', Ext w w' → ∀ k vk, NatV w' vk k → k < 9223372036854775808 → Ret Try.prog f [rv, vk] w' fun x w'' => AtR w'' L B k x ∧ Ext w' w''
  rank : ∃ f rv, Meth Try.prog v "Rank" f rv ∧ ∀ w', Ext w w' → ∀ i vr, i < L.length → RowV w' vr (L.getD i []) → Ret Try.prog f [rv, vr] w' fun x w'' => (∃ vn, ∃ s : Nat, x = .tuple #[vn, .bool true, .int .i64 (s : Int), .int .i64 0] ∧ NatV w'' vn i ∧ s ≤ B) ∧ Ext w' w''
  small : L.length ≤ 1100000
  bd : B ≤ 1000000
theorem ArrI.w {w : World} {v : Value} {L : List Row} {R : Row → Nat} {B : Nat} (h : ArrI w v L R B) : ArrW w v L B := by
  refine ⟨h.len, h.at_, ?_, h.small, h.bd⟩
  obtain ⟨f, rv, hm, hf⟩ := h.rank
  refine ⟨f, rv, hm, fun w' hx i vr hi hr => (hf w' hx _ vr hr).mono ?_⟩
  rintro x w'' ⟨⟨vn, s, rfl, hn, hs⟩, hx'⟩
  rw [h.pos i hi] at hn
  exact ⟨⟨vn, s, by rw [decide_eq_true (getD_mem' [] L hi)], hn, hs⟩, hx'⟩
theorem mPerLen (x y : Value) : Meth Try.prog (.iface 130 (.agg #[x, y])) "Len" 145 (.agg #[x, y]) := ⟨_, _, rfl, fun w => by kernel_rfl, fun w => by kernel_rfl⟩
theorem mPerAt (x y : Value) : Meth Try.prog (.iface 130 (.agg #[x, y])) "At" 144 (.agg #[x, y]) := ⟨_, _, rfl, fun w => by kernel_rfl, fun w => by kernel_rfl⟩
theorem mPerRank (x y : Value) : Meth Try.prog (.iface 130 (.agg #[x, y])) "Rank" 146 (.agg #[x, y]) := ⟨_, _, rfl, fun w => by kernel_rfl, fun w => by kernel_rfl⟩
theorem PerV.w {w : World} {x : Value} {L : List Row} {R : Row → Nat} {B : Nat} {cs : List Nat} (h : PerV w x L R B cs) : ArrW w (.iface 130 x) (L.map (pmR cs)) B := by
  obtain ⟨⟨v, vc, rfl, h2, h3⟩, h5, h6, h7⟩ := id h
  refine ⟨⟨_, _, mPerLen _ _, fun w' hx => by rw [List.length_map]; exact perLen_any (h.ext hx)⟩, ⟨_, _, mPerAt _ _, fun w' hx k vk hk hkb => perAt_any (h.ext hx) hk hkb⟩, ⟨_, _, mPerRank _ _, fun w' hx i vr hi hr => ?_⟩, by simpa using h2.small, h2.bd⟩
  have hi' : i < L.length := by simpa using hi
  have e : (L.map (pmR cs)).getD i [] = pmR cs (L.getD i []) := by rw [getD_get [] _ hi, List.getElem_map, ← getD_get [] L hi']
  rw [e] at hr
  refine (perRank_any (h.ext hx) hr (pm_len _ _)).mono ?_
  rintro x w'' ⟨⟨vn, s, rfl, hn, hs⟩, hx'⟩
  have hmem := getD_mem' [] L hi'
  rw [h7 _ hmem] at hn
  rw [h7 _ hmem, decide_eq_true hmem]
  rw [h2.pos i hi'] at hn
  exact ⟨⟨vn, s, rfl, hn, hs⟩, hx'⟩
theorem bldPer (x y : Value) (t : TypeId) (u : Value) (A : Option Addr) (n c : Nat) (hx : x = .iface t u) (hy : y = .slice A n c) (w : World) : (Instr.build 130 #[(0, x), (1, y)]).run Try.prog w = .ok (.agg #[x, y]) w := by subst hx; subst hy; kernel_rfl
def seenC (n : Nat) (l : List Nat) : List Value := (List.range n).map fun c => .bool (decide (c ∈ l))
theorem seenC_len (n : Nat) (l : List Nat) : (seenC n l).length = n := by simp [seenC]
theorem seenC_get {n : Nat} (l : List Nat) {c : Nat} (h : c < n) : (seenC n l)[c]? = some (.bool (decide (c ∈ l))) := by simp [seenC, h]
theorem seenC_set {n : Nat} (l : List Nat) {c : Nat} (h : c < n) : (seenC n l).set c (.bool true) = seenC n (l ++ [c]) := by
  apply List.ext_getElem?
  intro k
  rw [List.getElem?_set, seenC_len]
  by_cases e : c = k
  · subst e; rw [if_pos rfl, if_pos h, seenC_get _ h]; simp
  · rw [if_neg e]
    by_cases hk : k < n
    · rw [seenC_get _ hk, seenC_get _ hk]
      have : (k ∈ l ++ [c]) ↔ k ∈ l := by simp; intro e2; exact absurd e2.symm e
      simp [this]
    · rw [List.getElem?_eq_none (by rw [seenC_len]; omega), List.getElem?_eq_none (by rw [seenC_len]; omega)]
set_option maxRecDepth 100000 in
/-- Columns, by a permutation -/
theorem columns_any {w : World} {v vc : Value} {L : List Row} {R : Row → Nat} {B : Nat} {cs : List Nat} (h : ArrI w v L R B) (hc : IntsV w vc cs) (h5 : ∀ c ∈ cs, c < cs.length) (hnd : cs.Nodup) (h6 : ∀ r ∈ L, r.length = cs.length) (h7 : ∀ r ∈ L, unR cs (pmR cs r) cs.length = r) :
    Ret Try.prog 49 [v, vc] w fun x w' => (∃ y, x = .tuple #[y, .int .i64 0] ∧ ArrW w' y (L.map (pmR cs)) B) ∧ Ext w w' := by
  obtain ⟨t, y, rfl⟩ := h.form
  obtain ⟨C, cc, rfl, hcc, hcl, hcr, hcb⟩ := id hc
  refine enterR Try.func49 Try.ntmps49 rfl (by kernel_rfl) rfl ?_
  repeat first | refine ω1 ?_ | refine ω2 ?_ | refine ω3 ?_ | refine ω4 ?_ | refine ω5 ?_ | refine χ1 ?_ | refine κ1 ?_ | refine κ2 ?_ | refine χ2 ?_ | refine κ3 ?_ | refine ω6 ?_ | refine ω7 ?_ | refine ω9 ?_ | refine κ4 ?_ | refine κ7 ?_ | refine κ8 ?_ | refine χ3 ?_ | refine χ4 ?_ | refine κ5 ?_ | refine κ6 ?_ | refine χ5 ?_ | refine χ6 ?_ | refine χ7 ?_ | refine ω8 ?_
  refine bx ?_
  intro w1 b1 hx1 hb1 hk1
  repeat first | refine ω1 ?_ | refine ω2 ?_ | refine ω3 ?_ | refine ω4 ?_ | refine ω5 ?_ | refine χ1 ?_ | refine κ1 ?_ | refine κ2 ?_ | refine χ2 ?_ | refine κ3 ?_ | refine ω6 ?_ | refine ω7 ?_ | refine ω9 ?_ | refine κ4 ?_ | refine κ7 ?_ | refine κ8 ?_ | refine χ3 ?_ | refine χ4 ?_ | refine κ5 ?_ | refine κ6 ?_ | refine χ5 ?_ | refine χ6 ?_ | refine χ7 ?_ | refine ω8 ?_
  refine inil ifA (.inr ⟨_, _, rfl⟩) ?_
  repeat first | refine ω1 ?_ | refine ω2 ?_ | refine ω3 ?_ | refine ω4 ?_ | refine ω5 ?_ | refine χ1 ?_ | refine κ1 ?_ | refine κ2 ?_ | refine χ2 ?_ | refine κ3 ?_ | refine ω6 ?_ | refine ω7 ?_ | refine ω9 ?_ | refine κ4 ?_ | refine κ7 ?_ | refine κ8 ?_ | refine χ3 ?_ | refine χ4 ?_ | refine κ5 ?_ | refine κ6 ?_ | refine χ5 ?_ | refine χ6 ?_ | refine χ7 ?_ | refine ω8 ?_
  refine ld (hk1.at (i := 0) rfl) ?_
  repeat first | refine ω1 ?_ | refine ω2 ?_ | refine ω3 ?_ | refine ω4 ?_ | refine ω5 ?_ | refine χ1 ?_ | refine κ1 ?_ | refine κ2 ?_ | refine χ2 ?_ | refine κ3 ?_ | refine ω6 ?_ | refine ω7 ?_ | refine ω9 ?_ | refine κ4 ?_ | refine κ7 ?_ | refine κ8 ?_ | refine χ3 ?_ | refine χ4 ?_ | refine κ5 ?_ | refine κ6 ?_ | refine χ5 ?_ | refine χ6 ?_ | refine χ7 ?_ | refine ω8 ?_
  refine cl (containsFunc_any (hc.ext hx1) (pr := fun x => decide (cs.length ≤ x)) ⟨_, _, _, rfl, fun w' hx x hxm => colTest_any (hc.ext (hx1.trans hx)) (hk1.ext hx) (hcb x hxm)⟩) ?_
  rintro x w2 ⟨rfl, hx2⟩
  have hany : cs.any (fun x => decide (cs.length ≤ x)) = false := by
    rw [List.any_eq_false]; intro x hx; have := h5 x hx; simp; omega
  rw [hany]
  repeat first | refine ω1 ?_ | refine ω2 ?_ | refine ω3 ?_ | refine ω4 ?_ | refine ω5 ?_ | refine χ1 ?_ | refine κ1 ?_ | refine κ2 ?_ | refine χ2 ?_ | refine κ3 ?_ | refine ω6 ?_ | refine ω7 ?_ | refine ω9 ?_ | refine κ4 ?_ | refine κ7 ?_ | refine κ8 ?_ | refine χ3 ?_ | refine χ4 ?_ | refine κ5 ?_ | refine κ6 ?_ | refine χ5 ?_ | refine χ6 ?_ | refine χ7 ?_ | refine ω8 ?_
  refine ld ((hk1.ext hx2).at (i := 0) rfl) ?_
  repeat first | refine ω1 ?_ | refine ω2 ?_ | refine ω3 ?_ | refine ω4 ?_ | refine ω5 ?_ | refine χ1 ?_ | refine κ1 ?_ | refine κ2 ?_ | refine χ2 ?_ | refine κ3 ?_ | refine ω6 ?_ | refine ω7 ?_ | refine ω9 ?_ | refine κ4 ?_ | refine κ7 ?_ | refine κ8 ?_ | refine χ3 ?_ | refine χ4 ?_ | refine κ5 ?_ | refine κ6 ?_ | refine χ5 ?_ | refine χ6 ?_ | refine χ7 ?_ | refine ω8 ?_
  refine mkn EB cs.length (by omega) (by unfold maxLen; omega) ?_
  intro w3 O hx3 ho3 hO
  have ho3' : w3.ownsRow w2.heap.size 4 1 (.slice O cs.length cs.length) cs.length (seenC cs.length (cs.take 0)) := by
    have e : (madeCells (Value.bool false).cells (cs.length * 1)).toList = seenC cs.length (cs.take 0) := by
      rw [Nat.mul_one]
      refine (made1 _ _).trans ?_
      simp only [seenC, List.take_zero, List.not_mem_nil, decide_false]
      rw [List.map_const', List.length_range]
    rw [e] at ho3; exact ho3
  have hx13 := (hx1.trans hx2).trans hx3
  repeat first | refine ω1 ?_ | refine ω2 ?_ | refine ω3 ?_ | refine ω4 ?_ | refine ω5 ?_ | refine χ1 ?_ | refine κ1 ?_ | refine κ2 ?_ | refine χ2 ?_ | refine κ3 ?_ | refine ω6 ?_ | refine ω7 ?_ | refine ω9 ?_ | refine κ4 ?_ | refine κ7 ?_ | refine κ8 ?_ | refine χ3 ?_ | refine χ4 ?_ | refine κ5 ?_ | refine κ6 ?_ | refine χ5 ?_ | refine χ6 ?_ | refine χ7 ?_ | refine ω8 ?_
  refine ld (((hk1.ext hx2).ext hx3).at (i := 0) rfl) ?_
  repeat first | refine ω1 ?_ | refine ω2 ?_ | refine ω3 ?_ | refine ω4 ?_ | refine ω5 ?_ | refine χ1 ?_ | refine κ1 ?_ | refine κ2 ?_ | refine χ2 ?_ | refine κ3 ?_ | refine ω6 ?_ | refine ω7 ?_ | refine ω9 ?_ | refine κ4 ?_ | refine κ7 ?_ | refine κ8 ?_ | refine χ3 ?_ | refine χ4 ?_ | refine κ5 ?_ | refine κ6 ?_ | refine χ5 ?_ | refine χ6 ?_ | refine χ7 ?_ | refine ω8 ?_
  refine wloop1 (fun (k : Nat) => [(0, .iface t y), (3, .pointer (some ⟨b1, 0, none⟩)), (6, .slice O cs.length cs.length), (17, .slice C cs.length cc), (18, .int .i64 (cs.length : Int)), (19, .int .i64 (k : Int))])
    (fun k w' => k ≤ cs.length ∧ Ext w2 w' ∧ w'.ownsRow w2.heap.size 4 1 (.slice O cs.length cs.length) cs.length (seenC cs.length (cs.take k))) (fun k => cs.length - k) 0 (by repeat' (first | exact Sub.nil | refine Sub.cons rfl ?_)) ⟨Nat.zero_le _, hx3, ho3'⟩ ?_
  rintro k w4 ⟨hk, hx4, ho4⟩
  have hx14 := (hx1.trans hx2).trans hx4
  repeat first | refine ω1 ?_ | refine ω2 ?_ | refine ω3 ?_ | refine ω4 ?_ | refine ω5 ?_ | refine χ1 ?_ | refine κ1 ?_ | refine κ2 ?_ | refine χ2 ?_ | refine κ3 ?_ | refine ω6 ?_ | refine ω7 ?_ | refine ω9 ?_ | refine κ4 ?_ | refine κ7 ?_ | refine κ8 ?_ | refine χ3 ?_ | refine χ4 ?_ | refine κ5 ?_ | refine κ6 ?_ | refine χ5 ?_ | refine χ6 ?_ | refine χ7 ?_ | refine ω8 ?_
  refine ci (fun h0 => ?_) (fun h0 => ?_)
  · have hlt : k < cs.length := by have := of_decide_eq_true h0; omega
    have hcx := h5 _ (getD_mem' 0 cs hlt)
    have hcr4 := hcr.ext hx14
    have hnot : ¬ cs.getD k 0 ∈ cs.take k := by
      intro hm
      obtain ⟨j, hj, he⟩ := List.getElem_of_mem hm
      have hjk : j < k := by simp at hj; omega
      rw [List.getElem_take, getD_get 0 cs hlt] at he
      exact List.pairwise_iff_getElem.1 hnd j k (by omega) hlt hjk he
    repeat first | refine ω1 ?_ | refine ω2 ?_ | refine ω3 ?_ | refine ω4 ?_ | refine ω5 ?_ | refine χ1 ?_ | refine κ1 ?_ | refine κ2 ?_ | refine χ2 ?_ | refine κ3 ?_ | refine ω6 ?_ | refine ω7 ?_ | refine ω9 ?_ | refine κ4 ?_ | refine κ7 ?_ | refine κ8 ?_ | refine χ3 ?_ | refine χ4 ?_ | refine κ5 ?_ | refine κ6 ?_ | refine χ5 ?_ | refine χ6 ?_ | refine χ7 ?_ | refine ω8 ?_
    refine ix k hcr4 hlt ?_
    repeat first | refine ω1 ?_ | refine ω2 ?_ | refine ω3 ?_ | refine ω4 ?_ | refine ω5 ?_ | refine χ1 ?_ | refine κ1 ?_ | refine κ2 ?_ | refine χ2 ?_ | refine κ3 ?_ | refine ω6 ?_ | refine ω7 ?_ | refine ω9 ?_ | refine κ4 ?_ | refine κ7 ?_ | refine κ8 ?_ | refine χ3 ?_ | refine χ4 ?_ | refine κ5 ?_ | refine κ6 ?_ | refine χ5 ?_ | refine χ6 ?_ | refine χ7 ?_ | refine ω8 ?_
    refine ld (hcr4.cell (intC_get hlt)) ?_
    repeat first | refine ω1 ?_ | refine ω2 ?_ | refine ω3 ?_ | refine ω4 ?_ | refine ω5 ?_ | refine χ1 ?_ | refine κ1 ?_ | refine κ2 ?_ | refine χ2 ?_ | refine κ3 ?_ | refine ω6 ?_ | refine ω7 ?_ | refine ω9 ?_ | refine κ4 ?_ | refine κ7 ?_ | refine κ8 ?_ | refine χ3 ?_ | refine χ4 ?_ | refine κ5 ?_ | refine κ6 ?_ | refine χ5 ?_ | refine χ6 ?_ | refine χ7 ?_ | refine ω8 ?_
    refine ix (cs.getD k 0) (Rd.own ho4) hcx ?_
    repeat first | refine ω1 ?_ | refine ω2 ?_ | refine ω3 ?_ | refine ω4 ?_ | refine ω5 ?_ | refine χ1 ?_ | refine κ1 ?_ | refine κ2 ?_ | refine χ2 ?_ | refine κ3 ?_ | refine ω6 ?_ | refine ω7 ?_ | refine ω9 ?_ | refine κ4 ?_ | refine κ7 ?_ | refine κ8 ?_ | refine χ3 ?_ | refine χ4 ?_ | refine κ5 ?_ | refine κ6 ?_ | refine χ5 ?_ | refine χ6 ?_ | refine χ7 ?_ | refine ω8 ?_
    refine ld ((Rd.own ho4).cell (seenC_get _ hcx)) ?_
    rw [decide_eq_false hnot]
    obtain ⟨s1, s2, s3, s4, s5⟩ := own_store ho4 (q := cs.getD k 0) (by omega) (.bool true)
    repeat first | refine ω1 ?_ | refine ω2 ?_ | refine ω3 ?_ | refine ω4 ?_ | refine ω5 ?_ | refine χ1 ?_ | refine κ1 ?_ | refine κ2 ?_ | refine χ2 ?_ | refine κ3 ?_ | refine ω6 ?_ | refine ω7 ?_ | refine ω9 ?_ | refine κ4 ?_ | refine κ7 ?_ | refine κ8 ?_ | refine χ3 ?_ | refine χ4 ?_ | refine κ5 ?_ | refine κ6 ?_ | refine χ5 ?_ | refine χ6 ?_ | refine χ7 ?_ | refine ω8 ?_
    refine ix (cs.getD k 0) (Rd.own ho4) hcx ?_
    repeat first | refine ω1 ?_ | refine ω2 ?_ | refine ω3 ?_ | refine ω4 ?_ | refine ω5 ?_ | refine χ1 ?_ | refine κ1 ?_ | refine κ2 ?_ | refine χ2 ?_ | refine κ3 ?_ | refine ω6 ?_ | refine ω7 ?_ | refine ω9 ?_ | refine κ4 ?_ | refine κ7 ?_ | refine κ8 ?_ | refine χ3 ?_ | refine χ4 ?_ | refine κ5 ?_ | refine κ6 ?_ | refine χ5 ?_ | refine χ6 ?_ | refine χ7 ?_ | refine ω8 ?_
    refine sto (s1.trans (seenC_get _ hcx)) s2 ?_
    repeat first | refine ω1 ?_ | refine ω2 ?_ | refine ω3 ?_ | refine ω4 ?_ | refine ω5 ?_ | refine χ1 ?_ | refine κ1 ?_ | refine κ2 ?_ | refine χ2 ?_ | refine κ3 ?_ | refine ω6 ?_ | refine ω7 ?_ | refine ω9 ?_ | refine κ4 ?_ | refine κ7 ?_ | refine κ8 ?_ | refine χ3 ?_ | refine χ4 ?_ | refine κ5 ?_ | refine κ6 ?_ | refine χ5 ?_ | refine χ6 ?_ | refine χ7 ?_ | refine ω8 ?_
    refine qround1 (k + 1) (by repeat' (first | exact Sub.nil | refine Sub.cons rfl ?_)) ⟨by omega, hx4.setCell s4 _, ?_⟩ (by omega)
    rw [seenC_set _ hcx] at s3
    rw [List.take_succ_eq_append_getElem hlt, ← getD_get 0 cs hlt]
    exact s3
  · repeat first | refine ω1 ?_ | refine ω2 ?_ | refine ω3 ?_ | refine ω4 ?_ | refine ω5 ?_ | refine χ1 ?_ | refine κ1 ?_ | refine κ2 ?_ | refine χ2 ?_ | refine κ3 ?_ | refine ω6 ?_ | refine ω7 ?_ | refine ω9 ?_ | refine κ4 ?_ | refine κ7 ?_ | refine κ8 ?_ | refine χ3 ?_ | refine χ4 ?_ | refine κ5 ?_ | refine κ6 ?_ | refine χ5 ?_ | refine χ6 ?_ | refine χ7 ?_ | refine ω8 ?_
    refine ld (((hk1.ext hx2).ext hx4).at (i := 0) rfl) ?_
    repeat first | refine ω1 ?_ | refine ω2 ?_ | refine ω3 ?_ | refine ω4 ?_ | refine ω5 ?_ | refine χ1 ?_ | refine κ1 ?_ | refine κ2 ?_ | refine χ2 ?_ | refine κ3 ?_ | refine ω6 ?_ | refine ω7 ?_ | refine ω9 ?_ | refine κ4 ?_ | refine κ7 ?_ | refine κ8 ?_ | refine χ3 ?_ | refine χ4 ?_ | refine κ5 ?_ | refine κ6 ?_ | refine χ5 ?_ | refine χ6 ?_ | refine χ7 ?_ | refine ω8 ?_
    refine cl (cloneInt (hcr.ext hx14) (intC_one cs) (by omega)) ?_
    rintro x5 w5 ⟨⟨C', cc', rfl, hcc', hcr'⟩, hx5⟩
    repeat first | refine ω1 ?_ | refine ω2 ?_ | refine ω3 ?_ | refine ω4 ?_ | refine ω5 ?_ | refine χ1 ?_ | refine κ1 ?_ | refine κ2 ?_ | refine χ2 ?_ | refine κ3 ?_ | refine ω6 ?_ | refine ω7 ?_ | refine ω9 ?_ | refine κ4 ?_ | refine κ7 ?_ | refine κ8 ?_ | refine χ3 ?_ | refine χ4 ?_ | refine κ5 ?_ | refine κ6 ?_ | refine χ5 ?_ | refine χ6 ?_ | refine χ7 ?_ | refine ω8 ?_
    refine bld (bldPer _ _ _ _ _ _ _ rfl rfl _) ?_
    repeat first | refine ω1 ?_ | refine ω2 ?_ | refine ω3 ?_ | refine ω4 ?_ | refine ω5 ?_ | refine χ1 ?_ | refine κ1 ?_ | refine κ2 ?_ | refine χ2 ?_ | refine κ3 ?_ | refine ω6 ?_ | refine ω7 ?_ | refine ω9 ?_ | refine κ4 ?_ | refine κ7 ?_ | refine κ8 ?_ | refine χ3 ?_ | refine χ4 ?_ | refine κ5 ?_ | refine κ6 ?_ | refine χ5 ?_ | refine χ6 ?_ | refine χ7 ?_ | refine ω8 ?_
    refine mki Try.underlying130 (fun ms e => by cases e) ?_
    repeat first | refine ω1 ?_ | refine ω2 ?_ | refine ω3 ?_ | refine ω4 ?_ | refine ω5 ?_ | refine χ1 ?_ | refine κ1 ?_ | refine κ2 ?_ | refine χ2 ?_ | refine κ3 ?_ | refine ω6 ?_ | refine ω7 ?_ | refine ω9 ?_ | refine κ4 ?_ | refine κ7 ?_ | refine κ8 ?_ | refine χ3 ?_ | refine χ4 ?_ | refine κ5 ?_ | refine κ6 ?_ | refine χ5 ?_ | refine χ6 ?_ | refine χ7 ?_ | refine ω8 ?_
    exact fin2 ⟨⟨_, rfl, PerV.w (R := R) ⟨⟨_, _, rfl, h.ext (hx14.trans hx5), C', cc', rfl, hcc', hcl, hcr', hcb⟩, h5, h6, h7⟩⟩, hx14.trans hx5⟩
/-! ### the law's own functions -/
set_option maxRecDepth 100000 in
theorem of43_any {n : Nat} (h : n ≤ 9223372036854775807) (w : World) : Ret Try.prog 20 [.int .i64 (n : Int)] w fun x w' => NatV w' x n ∧ Ext w w' := by
  refine enterR Try.func20 Try.ntmps20 rfl (by kernel_rfl) rfl ?_
  repeat first | refine ω1 ?_ | refine ω2 ?_ | refine ω3 ?_ | refine ω4 ?_ | refine ω5 ?_ | refine χ1 ?_ | refine κ1 ?_ | refine κ2 ?_ | refine χ2 ?_ | refine κ3 ?_ | refine ω6 ?_ | refine ω7 ?_ | refine ω9 ?_ | refine κ4 ?_ | refine κ7 ?_ | refine κ8 ?_ | refine χ3 ?_ | refine χ4 ?_ | refine κ5 ?_ | refine κ6 ?_ | refine χ5 ?_ | refine χ6 ?_ | refine χ7 ?_ | refine ω8 ?_
  rw [if_neg (show ¬ (n : Int) < 0 by omega), u64w (z := (n : Int)) (by omega)]
  refine cl (natOf_any n (by omega) _) ?_
  rintro x w1 ⟨hn, hx⟩
  repeat first | refine ω1 ?_ | refine ω2 ?_ | refine ω3 ?_ | refine ω4 ?_ | refine ω5 ?_ | refine χ1 ?_ | refine κ1 ?_ | refine κ2 ?_ | refine χ2 ?_ | refine κ3 ?_ | refine ω6 ?_ | refine ω7 ?_ | refine ω9 ?_ | refine κ4 ?_ | refine κ7 ?_ | refine κ8 ?_ | refine χ3 ?_ | refine χ4 ?_ | refine κ5 ?_ | refine κ6 ?_ | refine χ5 ?_ | refine χ6 ?_ | refine χ7 ?_ | refine ω8 ?_
  exact fin1 ⟨hn, hx⟩
set_option maxRecDepth 100000 in
theorem is_any {w : World} {v vl : Value} {L : List Row} {B : Nat} (h : ArrW w v L B) (hl : RowsV w vl L) : Ret Try.prog 18 [v, vl] w fun x w' => x = .bool true ∧ Ext w w' := by
  obtain ⟨fl, rl, hml, hfl⟩ := h.len
  obtain ⟨fa, ra, hma, hfa⟩ := h.at_
  obtain ⟨fr, rr, hmr, hfr⟩ := h.rank
  obtain ⟨t, y, rfl⟩ : ∃ t y, v = .iface t y := by obtain ⟨t, y, e, _⟩ := hml; exact ⟨t, y, e⟩
  obtain ⟨A, c, rfl, hc, hm, cs, hrd, hcs⟩ := hl.parts
  have hbd := h.bd
  refine enterR Try.func18 Try.ntmps18 rfl (by kernel_rfl) rfl ?_
  repeat first | refine ω1 ?_ | refine ω2 ?_ | refine ω3 ?_ | refine ω4 ?_ | refine ω5 ?_ | refine χ1 ?_ | refine κ1 ?_ | refine κ2 ?_ | refine χ2 ?_ | refine κ3 ?_ | refine ω6 ?_ | refine ω7 ?_ | refine ω9 ?_ | refine κ4 ?_ | refine κ7 ?_ | refine κ8 ?_ | refine χ3 ?_ | refine χ4 ?_ | refine κ5 ?_ | refine κ6 ?_ | refine χ5 ?_ | refine χ6 ?_ | refine χ7 ?_ | refine ω8 ?_
  refine inil ifA (.inr ⟨_, _, rfl⟩) ?_
  repeat first | refine ω1 ?_ | refine ω2 ?_ | refine ω3 ?_ | refine ω4 ?_ | refine ω5 ?_ | refine χ1 ?_ | refine κ1 ?_ | refine κ2 ?_ | refine χ2 ?_ | refine κ3 ?_ | refine ω6 ?_ | refine ω7 ?_ | refine ω9 ?_ | refine κ4 ?_ | refine κ7 ?_ | refine κ8 ?_ | refine χ3 ?_ | refine χ4 ?_ | refine κ5 ?_ | refine κ6 ?_ | refine χ5 ?_ | refine χ6 ?_ | refine χ7 ?_ | refine ω8 ?_
  refine inv hml (hfl w (Ext.refl w)) ?_
  rintro x w1 ⟨hn1, hx1⟩
  repeat first | refine ω1 ?_ | refine ω2 ?_ | refine ω3 ?_ | refine ω4 ?_ | refine ω5 ?_ | refine χ1 ?_ | refine κ1 ?_ | refine κ2 ?_ | refine χ2 ?_ | refine κ3 ?_ | refine ω6 ?_ | refine ω7 ?_ | refine ω9 ?_ | refine κ4 ?_ | refine κ7 ?_ | refine κ8 ?_ | refine χ3 ?_ | refine χ4 ?_ | refine κ5 ?_ | refine κ6 ?_ | refine χ5 ?_ | refine χ6 ?_ | refine χ7 ?_ | refine ω8 ?_
  refine cl (of43_any (n := L.length) (by omega) _) ?_
  rintro x2 w2 ⟨hn2, hx2⟩
  repeat first | refine ω1 ?_ | refine ω2 ?_ | refine ω3 ?_ | refine ω4 ?_ | refine ω5 ?_ | refine χ1 ?_ | refine κ1 ?_ | refine κ2 ?_ | refine χ2 ?_ | refine κ3 ?_ | refine ω6 ?_ | refine ω7 ?_ | refine ω9 ?_ | refine κ4 ?_ | refine κ7 ?_ | refine κ8 ?_ | refine χ3 ?_ | refine χ4 ?_ | refine κ5 ?_ | refine κ6 ?_ | refine χ5 ?_ | refine χ6 ?_ | refine χ7 ?_ | refine ω8 ?_
  refine cl (natCmp_any (hn1.ext hx2) hn2) ?_
  rintro z w3 ⟨rfl, hx3⟩
  rw [cmpN_eq.2 rfl]
  have hx13 := (hx1.trans hx2).trans hx3
  repeat first | refine ω1 ?_ | refine ω2 ?_ | refine ω3 ?_ | refine ω4 ?_ | refine ω5 ?_ | refine χ1 ?_ | refine κ1 ?_ | refine κ2 ?_ | refine χ2 ?_ | refine κ3 ?_ | refine ω6 ?_ | refine ω7 ?_ | refine ω9 ?_ | refine κ4 ?_ | refine κ7 ?_ | refine κ8 ?_ | refine χ3 ?_ | refine χ4 ?_ | refine κ5 ?_ | refine κ6 ?_ | refine χ5 ?_ | refine χ6 ?_ | refine χ7 ?_ | refine ω8 ?_
  refine wloop1 (fun (k : Nat) => [(0, .iface t y), (1, .slice A L.length c), (28, .int .i64 (L.length : Int)), (29, .int .i64 (k : Int))])
    (fun k w' => k ≤ L.length ∧ Ext w w') (fun k => L.length - k) 0 (by repeat' (first | exact Sub.nil | refine Sub.cons rfl ?_)) ⟨Nat.zero_le _, hx13⟩ ?_
  rintro k w4 ⟨hk, hx4⟩
  repeat first | refine ω1 ?_ | refine ω2 ?_ | refine ω3 ?_ | refine ω4 ?_ | refine ω5 ?_ | refine χ1 ?_ | refine κ1 ?_ | refine κ2 ?_ | refine χ2 ?_ | refine κ3 ?_ | refine ω6 ?_ | refine ω7 ?_ | refine ω9 ?_ | refine κ4 ?_ | refine κ7 ?_ | refine κ8 ?_ | refine χ3 ?_ | refine χ4 ?_ | refine κ5 ?_ | refine κ6 ?_ | refine χ5 ?_ | refine χ6 ?_ | refine χ7 ?_ | refine ω8 ?_
  refine ci (fun h0 => ?_) (fun h0 => ?_)
  · have hlt : k < L.length := by have := of_decide_eq_true h0; omega
    obtain ⟨u, hu, hru⟩ := hcs k hlt
    repeat first | refine ω1 ?_ | refine ω2 ?_ | refine ω3 ?_ | refine ω4 ?_ | refine ω5 ?_ | refine χ1 ?_ | refine κ1 ?_ | refine κ2 ?_ | refine χ2 ?_ | refine κ3 ?_ | refine ω6 ?_ | refine ω7 ?_ | refine ω9 ?_ | refine κ4 ?_ | refine κ7 ?_ | refine κ8 ?_ | refine χ3 ?_ | refine χ4 ?_ | refine κ5 ?_ | refine κ6 ?_ | refine χ5 ?_ | refine χ6 ?_ | refine χ7 ?_ | refine ω8 ?_
    refine dr [(0, 0), (0, 1), (0, 3), (0, 4), (0, 5), (1, 2), (1, 6), (0, 7), (0, 8), (0, 9), (0, 10), (0, 11), (0, 12), (0, 13)] (by kernel_rfl) ?_
    have hxd : Ext w4 w4.drew := (Ext.refl w4).drew
    repeat first | refine δ1 ?_ | refine δ2 ?_ | refine δ4 ?_ | refine δ5 ?_ | refine δ6 ?_ | refine δ7 ?_ | refine δ9 ?_ | refine δ8 ?_ | refine χ1 ?_ | refine χ2 ?_ | refine χ3 ?_ | refine χ4 ?_ | refine χ5 ?_ | refine χ6 ?_ | refine χ7 ?_
    refine dncm hma ?_
    repeat first | refine δ1 ?_ | refine δ2 ?_ | refine δ4 ?_ | refine δ5 ?_ | refine δ6 ?_ | refine δ7 ?_ | refine δ9 ?_ | refine δ8 ?_ | refine χ1 ?_ | refine χ2 ?_ | refine χ3 ?_ | refine χ4 ?_ | refine χ5 ?_ | refine χ6 ?_ | refine χ7 ?_
    refine dcl (of43_any (n := k) (by omega) _) ?_
    rintro x5 w5 ⟨hn5, hx5⟩
    refine ⟨hx5, ?_⟩
    have hx15 := (hx4.trans hxd).trans hx5
    refine dinv hma (hfa w5 hx15 k x5 hn5 (by omega)) ?_
    rintro x6 w6 ⟨hA, hx6⟩
    refine ⟨hx6, ?_⟩
    unfold AtR at hA
    rw [if_pos hlt] at hA
    obtain ⟨vr, s, rfl, hr6, hs6⟩ := hA
    have hx16 := hx15.trans hx6
    repeat first | refine δ1 ?_ | refine δ2 ?_ | refine δ4 ?_ | refine δ5 ?_ | refine δ6 ?_ | refine δ7 ?_ | refine δ9 ?_ | refine δ8 ?_ | refine χ1 ?_ | refine χ2 ?_ | refine χ3 ?_ | refine χ4 ?_ | refine χ5 ?_ | refine χ6 ?_ | refine χ7 ?_
    repeat first | refine ω1 ?_ | refine ω2 ?_ | refine ω3 ?_ | refine ω4 ?_ | refine ω5 ?_ | refine χ1 ?_ | refine κ1 ?_ | refine κ2 ?_ | refine χ2 ?_ | refine κ3 ?_ | refine ω6 ?_ | refine ω7 ?_ | refine ω9 ?_ | refine κ4 ?_ | refine κ7 ?_ | refine κ8 ?_ | refine χ3 ?_ | refine χ4 ?_ | refine κ5 ?_ | refine κ6 ?_ | refine χ5 ?_ | refine χ6 ?_ | refine χ7 ?_ | refine ω8 ?_
    refine dr [(0, 0), (0, 1), (0, 2), (0, 3), (0, 4), (0, 5), (0, 6), (0, 7), (1, 8), (0, 9), (0, 10), (0, 11), (0, 12), (0, 13), (0, 14), (0, 15), (0, 16), (0, 17)] (by kernel_rfl) ?_
    have hxe : Ext w6 w6.drew := (Ext.refl w6).drew
    have hx16e := hx16.trans hxe
    repeat first | refine δ1 ?_ | refine δ2 ?_ | refine δ4 ?_ | refine δ5 ?_ | refine δ6 ?_ | refine δ7 ?_ | refine δ9 ?_ | refine δ8 ?_ | refine χ1 ?_ | refine χ2 ?_ | refine χ3 ?_ | refine χ4 ?_ | refine χ5 ?_ | refine χ6 ?_ | refine χ7 ?_
    refine dix k (hrd.ext hx16e) hlt ?_
    repeat first | refine δ1 ?_ | refine δ2 ?_ | refine δ4 ?_ | refine δ5 ?_ | refine δ6 ?_ | refine δ7 ?_ | refine δ9 ?_ | refine δ8 ?_ | refine χ1 ?_ | refine χ2 ?_ | refine χ3 ?_ | refine χ4 ?_ | refine χ5 ?_ | refine χ6 ?_ | refine χ7 ?_
    refine dld ((hrd.ext hx16e).cell hu) ?_
    repeat first | refine δ1 ?_ | refine δ2 ?_ | refine δ4 ?_ | refine δ5 ?_ | refine δ6 ?_ | refine δ7 ?_ | refine δ9 ?_ | refine δ8 ?_ | refine χ1 ?_ | refine χ2 ?_ | refine χ3 ?_ | refine χ4 ?_ | refine χ5 ?_ | refine χ6 ?_ | refine χ7 ?_
    refine dncm hmr ?_
    repeat first | refine δ1 ?_ | refine δ2 ?_ | refine δ4 ?_ | refine δ5 ?_ | refine δ6 ?_ | refine δ7 ?_ | refine δ9 ?_ | refine δ8 ?_ | refine χ1 ?_ | refine χ2 ?_ | refine χ3 ?_ | refine χ4 ?_ | refine χ5 ?_ | refine χ6 ?_ | refine χ7 ?_
    refine dinv hmr (hfr w6.drew hx16e k u hlt (hru.ext hx16e)) ?_
    rintro x7 w7 ⟨⟨vn, s2, rfl, hn7, hs7⟩, hx7⟩
    refine ⟨hx7, ?_⟩
    have hx17 := hx16e.trans hx7
    repeat first | refine δ1 ?_ | refine δ2 ?_ | refine δ4 ?_ | refine δ5 ?_ | refine δ6 ?_ | refine δ7 ?_ | refine δ9 ?_ | refine δ8 ?_ | refine χ1 ?_ | refine χ2 ?_ | refine χ3 ?_ | refine χ4 ?_ | refine χ5 ?_ | refine χ6 ?_ | refine χ7 ?_
    repeat first | refine ω1 ?_ | refine ω2 ?_ | refine ω3 ?_ | refine ω4 ?_ | refine ω5 ?_ | refine χ1 ?_ | refine κ1 ?_ | refine κ2 ?_ | refine χ2 ?_ | refine κ3 ?_ | refine ω6 ?_ | refine ω7 ?_ | refine ω9 ?_ | refine κ4 ?_ | refine κ7 ?_ | refine κ8 ?_ | refine χ3 ?_ | refine χ4 ?_ | refine κ5 ?_ | refine κ6 ?_ | refine χ5 ?_ | refine χ6 ?_ | refine χ7 ?_ | refine ω8 ?_
    refine kf 67 ?_ ?_
    · exact decide_eq_false (by omega)
    repeat first | refine ω1 ?_ | refine ω2 ?_ | refine ω3 ?_ | refine ω4 ?_ | refine ω5 ?_ | refine χ1 ?_ | refine κ1 ?_ | refine κ2 ?_ | refine χ2 ?_ | refine κ3 ?_ | refine ω6 ?_ | refine ω7 ?_ | refine ω9 ?_ | refine κ4 ?_ | refine κ7 ?_ | refine κ8 ?_ | refine χ3 ?_ | refine χ4 ?_ | refine κ5 ?_ | refine κ6 ?_ | refine χ5 ?_ | refine χ6 ?_ | refine χ7 ?_ | refine ω8 ?_
    refine kf 71 ?_ ?_
    · exact decide_eq_false (by omega)
    repeat first | refine ω1 ?_ | refine ω2 ?_ | refine ω3 ?_ | refine ω4 ?_ | refine ω5 ?_ | refine χ1 ?_ | refine κ1 ?_ | refine κ2 ?_ | refine χ2 ?_ | refine κ3 ?_ | refine ω6 ?_ | refine ω7 ?_ | refine ω9 ?_ | refine κ4 ?_ | refine κ7 ?_ | refine κ8 ?_ | refine χ3 ?_ | refine χ4 ?_ | refine κ5 ?_ | refine κ6 ?_ | refine χ5 ?_ | refine χ6 ?_ | refine χ7 ?_ | refine ω8 ?_
    refine ix k (hrd.ext hx17) hlt ?_
    repeat first | refine ω1 ?_ | refine ω2 ?_ | refine ω3 ?_ | refine ω4 ?_ | refine ω5 ?_ | refine χ1 ?_ | refine κ1 ?_ | refine κ2 ?_ | refine χ2 ?_ | refine κ3 ?_ | refine ω6 ?_ | refine ω7 ?_ | refine ω9 ?_ | refine κ4 ?_ | refine κ7 ?_ | refine κ8 ?_ | refine χ3 ?_ | refine χ4 ?_ | refine κ5 ?_ | refine κ6 ?_ | refine χ5 ?_ | refine χ6 ?_ | refine χ7 ?_ | refine ω8 ?_
    refine ld ((hrd.ext hx17).cell hu) ?_
    repeat first | refine ω1 ?_ | refine ω2 ?_ | refine ω3 ?_ | refine ω4 ?_ | refine ω5 ?_ | refine χ1 ?_ | refine κ1 ?_ | refine κ2 ?_ | refine χ2 ?_ | refine κ3 ?_ | refine ω6 ?_ | refine ω7 ?_ | refine ω9 ?_ | refine κ4 ?_ | refine κ7 ?_ | refine κ8 ?_ | refine χ3 ?_ | refine χ4 ?_ | refine κ5 ?_ | refine κ6 ?_ | refine χ5 ?_ | refine χ6 ?_ | refine χ7 ?_ | refine ω8 ?_
    refine cl (same40_any (hr6.ext (hxe.trans hx7)) (hru.ext hx17)) ?_
    rintro x8 w8 ⟨rfl, hx8⟩
    rw [decide_eq_true (rfl : L.getD k [] = L.getD k [])]
    repeat first | refine ω1 ?_ | refine ω2 ?_ | refine ω3 ?_ | refine ω4 ?_ | refine ω5 ?_ | refine χ1 ?_ | refine κ1 ?_ | refine κ2 ?_ | refine χ2 ?_ | refine κ3 ?_ | refine ω6 ?_ | refine ω7 ?_ | refine ω9 ?_ | refine κ4 ?_ | refine κ7 ?_ | refine κ8 ?_ | refine χ3 ?_ | refine χ4 ?_ | refine κ5 ?_ | refine κ6 ?_ | refine χ5 ?_ | refine χ6 ?_ | refine χ7 ?_ | refine ω8 ?_
    refine cl (of43_any (n := k) (by omega) _) ?_
    rintro x9 w9 ⟨hn9, hx9⟩
    repeat first | refine ω1 ?_ | refine ω2 ?_ | refine ω3 ?_ | refine ω4 ?_ | refine ω5 ?_ | refine χ1 ?_ | refine κ1 ?_ | refine κ2 ?_ | refine χ2 ?_ | refine κ3 ?_ | refine ω6 ?_ | refine ω7 ?_ | refine ω9 ?_ | refine κ4 ?_ | refine κ7 ?_ | refine κ8 ?_ | refine χ3 ?_ | refine χ4 ?_ | refine κ5 ?_ | refine κ6 ?_ | refine χ5 ?_ | refine χ6 ?_ | refine χ7 ?_ | refine ω8 ?_
    refine cl (natCmp_any ((hn7.ext hx8).ext hx9) hn9) ?_
    rintro z w10 ⟨rfl, hx10⟩
    rw [cmpN_eq.2 rfl]
    repeat first | refine ω1 ?_ | refine ω2 ?_ | refine ω3 ?_ | refine ω4 ?_ | refine ω5 ?_ | refine χ1 ?_ | refine κ1 ?_ | refine κ2 ?_ | refine χ2 ?_ | refine κ3 ?_ | refine ω6 ?_ | refine ω7 ?_ | refine ω9 ?_ | refine κ4 ?_ | refine κ7 ?_ | refine κ8 ?_ | refine χ3 ?_ | refine χ4 ?_ | refine κ5 ?_ | refine κ6 ?_ | refine χ5 ?_ | refine χ6 ?_ | refine χ7 ?_ | refine ω8 ?_
    exact qround1 (k + 1) (by repeat' (first | exact Sub.nil | refine Sub.cons rfl ?_)) ⟨by omega, ((hx17.trans hx8).trans hx9).trans hx10⟩ (by omega)
  · repeat first | refine ω1 ?_ | refine ω2 ?_ | refine ω3 ?_ | refine ω4 ?_ | refine ω5 ?_ | refine χ1 ?_ | refine κ1 ?_ | refine κ2 ?_ | refine χ2 ?_ | refine κ3 ?_ | refine ω6 ?_ | refine ω7 ?_ | refine ω9 ?_ | refine κ4 ?_ | refine κ7 ?_ | refine κ8 ?_ | refine χ3 ?_ | refine χ4 ?_ | refine κ5 ?_ | refine κ6 ?_ | refine χ5 ?_ | refine χ6 ?_ | refine χ7 ?_ | refine ω8 ?_
    refine dr [(0, 0), (0, 1), (0, 2), (0, 4), (0, 5), (0, 6), (1, 3), (1, 7), (0, 8), (0, 9), (0, 10), (0, 11), (0, 12), (0, 13), (0, 14)] (by kernel_rfl) ?_
    have hxd : Ext w4 w4.drew := (Ext.refl w4).drew
    repeat first | refine δ1 ?_ | refine δ2 ?_ | refine δ4 ?_ | refine δ5 ?_ | refine δ6 ?_ | refine δ7 ?_ | refine δ9 ?_ | refine δ8 ?_ | refine χ1 ?_ | refine χ2 ?_ | refine χ3 ?_ | refine χ4 ?_ | refine χ5 ?_ | refine χ6 ?_ | refine χ7 ?_
    refine dncm hma ?_
    repeat first | refine δ1 ?_ | refine δ2 ?_ | refine δ4 ?_ | refine δ5 ?_ | refine δ6 ?_ | refine δ7 ?_ | refine δ9 ?_ | refine δ8 ?_ | refine χ1 ?_ | refine χ2 ?_ | refine χ3 ?_ | refine χ4 ?_ | refine χ5 ?_ | refine χ6 ?_ | refine χ7 ?_
    refine dcl (of43_any (n := L.length) (by omega) _) ?_
    rintro x5 w5 ⟨hn5, hx5⟩
    refine ⟨hx5, ?_⟩
    have hx15 := (hx4.trans hxd).trans hx5
    refine dinv hma (hfa w5 hx15 L.length x5 hn5 (by omega)) ?_
    rintro x6 w6 ⟨hA, hx6⟩
    refine ⟨hx6, ?_⟩
    unfold AtR at hA
    rw [if_neg (by omega)] at hA
    obtain ⟨s, rfl, hs6⟩ := hA
    repeat first | refine δ1 ?_ | refine δ2 ?_ | refine δ4 ?_ | refine δ5 ?_ | refine δ6 ?_ | refine δ7 ?_ | refine δ9 ?_ | refine δ8 ?_ | refine χ1 ?_ | refine χ2 ?_ | refine χ3 ?_ | refine χ4 ?_ | refine χ5 ?_ | refine χ6 ?_ | refine χ7 ?_
    repeat first | refine ω1 ?_ | refine ω2 ?_ | refine ω3 ?_ | refine ω4 ?_ | refine ω5 ?_ | refine χ1 ?_ | refine κ1 ?_ | refine κ2 ?_ | refine χ2 ?_ | refine κ3 ?_ | refine ω6 ?_ | refine ω7 ?_ | refine ω9 ?_ | refine κ4 ?_ | refine κ7 ?_ | refine κ8 ?_ | refine χ3 ?_ | refine χ4 ?_ | refine κ5 ?_ | refine κ6 ?_ | refine χ5 ?_ | refine χ6 ?_ | refine χ7 ?_ | refine ω8 ?_
    exact fin1 ⟨rfl, hx15.trans hx6⟩
end Go.Proofs.Ytpahjnfolbnloaa
