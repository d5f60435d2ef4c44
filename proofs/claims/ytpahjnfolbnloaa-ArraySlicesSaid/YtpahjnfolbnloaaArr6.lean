/- Arrays: columns permuted, their rows and ranks; what the law's Is needs of an array. -/
import Derived.Test.YtpahjnfolbnloaaArr5
set_option linter.unusedVariables false
namespace Go.Proofs.Ytpahjnfolbnloaa
open Go.RowKit Pl Go.Wk
attribute [local irreducible] WC WL QX WD WDB WP
abbrev OwnV (w : World) (base : Nat) (v : Value) (q : Row) : Prop := w.ownsRow base 86 3 v q.length (rowC q)
theorem pm_len (cs : List Nat) (r : Row) : (pmR cs r).length = cs.length := by simp [pmR]
theorem pm_take {cs : List Nat} {r : Row} {k : Nat} (hk : k < cs.length) : (pmR cs r).getD k V0 = r.getD (cs.getD k 0) V0 := by
  rw [getD_get V0 _ (by simpa [pmR] using hk), getD_get 0 cs hk]; simp [pmR]
set_option maxRecDepth 100000 in
theorem perAt_any {x vk : Value} {L : List Row} {R : Row → Nat} {B k : Nat} {cs : List Nat} {w : World} (h : PerV w x L R B cs) (hk : NatV w vk k) (hkb : k < 9223372036854775808) : Ret Try.prog 144 [x, vk] w fun x w' => AtR w' (L.map (pmR cs)) B k x ∧ Ext w w' := by
  obtain ⟨⟨v, vc, rfl, h2, h3⟩, h5, h6, h7⟩ := h
  obtain ⟨t, y, rfl⟩ := h2.form
  obtain ⟨C, cc, rfl, hcc, hcl, hcr, hcb⟩ := id h3
  have hs := h2.small
  have hbd := h2.bd
  refine enterR Try.func144 Try.ntmps144 rfl (by kernel_rfl) rfl ?_
  repeat first | refine ω1 ?_ | refine ω2 ?_ | refine ω3 ?_ | refine ω4 ?_ | refine ω5 ?_ | refine χ1 ?_ | refine κ1 ?_ | refine κ2 ?_ | refine χ2 ?_ | refine κ3 ?_ | refine ω6 ?_ | refine ω7 ?_ | refine ω9 ?_ | refine κ4 ?_ | refine κ7 ?_ | refine κ8 ?_ | refine χ3 ?_ | refine χ4 ?_ | refine κ5 ?_ | refine κ6 ?_ | refine χ5 ?_ | refine χ6 ?_ | refine χ7 ?_ | refine ω8 ?_
  refine bx ?_
  intro w1 b1 hx1 hb1 hk1
  repeat first | refine ω1 ?_ | refine ω2 ?_ | refine ω3 ?_ | refine ω4 ?_ | refine ω5 ?_ | refine χ1 ?_ | refine κ1 ?_ | refine κ2 ?_ | refine χ2 ?_ | refine κ3 ?_ | refine ω6 ?_ | refine ω7 ?_ | refine ω9 ?_ | refine κ4 ?_ | refine κ7 ?_ | refine κ8 ?_ | refine χ3 ?_ | refine χ4 ?_ | refine κ5 ?_ | refine κ6 ?_ | refine χ5 ?_ | refine χ6 ?_ | refine χ7 ?_ | refine ω8 ?_
  refine dr [(0, 0), (0, 1), (0, 2), (0, 4), (0, 5), (1, 3), (1, 6), (0, 7), (0, 8), (0, 9), (0, 10), (0, 11), (0, 12), (0, 13)] (by kernel_rfl) ?_
  have hxd : Ext w1 w1.drew := (Ext.refl w1).drew
  repeat first | refine δ1 ?_ | refine δ2 ?_ | refine δ4 ?_ | refine δ5 ?_ | refine δ6 ?_ | refine δ7 ?_ | refine δ9 ?_ | refine δ8 ?_ | refine χ1 ?_ | refine χ2 ?_ | refine χ3 ?_ | refine χ4 ?_ | refine χ5 ?_ | refine χ6 ?_ | refine χ7 ?_
  refine dld ((hk1.ext hxd).at (i := 0) rfl) ?_
  repeat first | refine δ1 ?_ | refine δ2 ?_ | refine δ4 ?_ | refine δ5 ?_ | refine δ6 ?_ | refine δ7 ?_ | refine δ9 ?_ | refine δ8 ?_ | refine χ1 ?_ | refine χ2 ?_ | refine χ3 ?_ | refine χ4 ?_ | refine χ5 ?_ | refine χ6 ?_ | refine χ7 ?_
  refine dnci ?_
  repeat first | refine δ1 ?_ | refine δ2 ?_ | refine δ4 ?_ | refine δ5 ?_ | refine δ6 ?_ | refine δ7 ?_ | refine δ9 ?_ | refine δ8 ?_ | refine χ1 ?_ | refine χ2 ?_ | refine χ3 ?_ | refine χ4 ?_ | refine χ5 ?_ | refine χ6 ?_ | refine χ7 ?_
  refine dcl (natNorm_any ((hk.ext hx1).ext hxd) (small1000 (by omega))) ?_
  rintro x w2 ⟨hn2, hx2⟩
  refine ⟨hx2, ?_⟩
  obtain ⟨f, rv, hm, hf⟩ := h2.at_
  refine dinv hm (hf w2 ((hx1.trans hxd).trans hx2) k x hn2 hkb) ?_
  rintro y w3 ⟨hA, hx3⟩
  refine ⟨hx3, ?_⟩
  have hx13 : Ext w w3 := ((hx1.trans hxd).trans hx2).trans hx3
  have hk3 := ((hk1.ext hxd).ext hx2).ext hx3
  unfold AtR at hA
  split at hA
  · rename_i hlt
    obtain ⟨vr, s, rfl, hr, hs'⟩ := hA
    have hrl : (L.getD k []).length = cs.length := h6 _ (getD_mem' [] L hlt)
    obtain ⟨A, ac, rfl, hac, ham, har⟩ := id hr
    generalize hrr : L.getD k [] = r at *
    repeat first | refine δ1 ?_ | refine δ2 ?_ | refine δ4 ?_ | refine δ5 ?_ | refine δ6 ?_ | refine δ7 ?_ | refine δ9 ?_ | refine δ8 ?_ | refine χ1 ?_ | refine χ2 ?_ | refine χ3 ?_ | refine χ4 ?_ | refine χ5 ?_ | refine χ6 ?_ | refine χ7 ?_
    repeat first | refine ω1 ?_ | refine ω2 ?_ | refine ω3 ?_ | refine ω4 ?_ | refine ω5 ?_ | refine χ1 ?_ | refine κ1 ?_ | refine κ2 ?_ | refine χ2 ?_ | refine κ3 ?_ | refine ω6 ?_ | refine ω7 ?_ | refine ω9 ?_ | refine κ4 ?_ | refine κ7 ?_ | refine κ8 ?_ | refine χ3 ?_ | refine χ4 ?_ | refine κ5 ?_ | refine κ6 ?_ | refine χ5 ?_ | refine χ6 ?_ | refine χ7 ?_ | refine ω8 ?_
    refine ld (hk3.at (i := 1) rfl) ?_
    repeat first | refine ω1 ?_ | refine ω2 ?_ | refine ω3 ?_ | refine ω4 ?_ | refine ω5 ?_ | refine χ1 ?_ | refine κ1 ?_ | refine κ2 ?_ | refine χ2 ?_ | refine κ3 ?_ | refine ω6 ?_ | refine ω7 ?_ | refine ω9 ?_ | refine κ4 ?_ | refine κ7 ?_ | refine κ8 ?_ | refine χ3 ?_ | refine χ4 ?_ | refine κ5 ?_ | refine κ6 ?_ | refine χ5 ?_ | refine χ6 ?_ | refine χ7 ?_ | refine ω8 ?_
    refine cf ?_ ?_
    · exact bne_f (by omega)
    repeat first | refine ω1 ?_ | refine ω2 ?_ | refine ω3 ?_ | refine ω4 ?_ | refine ω5 ?_ | refine χ1 ?_ | refine κ1 ?_ | refine κ2 ?_ | refine χ2 ?_ | refine κ3 ?_ | refine ω6 ?_ | refine ω7 ?_ | refine ω9 ?_ | refine κ4 ?_ | refine κ7 ?_ | refine κ8 ?_ | refine χ3 ?_ | refine χ4 ?_ | refine κ5 ?_ | refine κ6 ?_ | refine χ5 ?_ | refine χ6 ?_ | refine χ7 ?_ | refine ω8 ?_
    refine mkn EV r.length (by omega) (by unfold maxLen; omega) ?_
    intro w4 O hx4 ho4 hO
    rw [rowC_zero] at ho4
    have ho4' : OwnV w4 w3.heap.size (.slice O r.length r.length) ([] ++ List.replicate r.length V0) := by
      rw [OwnV, List.nil_append, List.length_replicate]; exact ho4
    repeat first | refine ω1 ?_ | refine ω2 ?_ | refine ω3 ?_ | refine ω4 ?_ | refine ω5 ?_ | refine χ1 ?_ | refine κ1 ?_ | refine κ2 ?_ | refine χ2 ?_ | refine κ3 ?_ | refine ω6 ?_ | refine ω7 ?_ | refine ω9 ?_ | refine κ4 ?_ | refine κ7 ?_ | refine κ8 ?_ | refine χ3 ?_ | refine χ4 ?_ | refine κ5 ?_ | refine κ6 ?_ | refine χ5 ?_ | refine χ6 ?_ | refine χ7 ?_ | refine ω8 ?_
    refine ld ((hk3.ext hx4).at (i := 1) rfl) ?_
    repeat first | refine ω1 ?_ | refine ω2 ?_ | refine ω3 ?_ | refine ω4 ?_ | refine ω5 ?_ | refine χ1 ?_ | refine κ1 ?_ | refine κ2 ?_ | refine χ2 ?_ | refine κ3 ?_ | refine ω6 ?_ | refine ω7 ?_ | refine ω9 ?_ | refine κ4 ?_ | refine κ7 ?_ | refine κ8 ?_ | refine χ3 ?_ | refine χ4 ?_ | refine κ5 ?_ | refine κ6 ?_ | refine χ5 ?_ | refine χ6 ?_ | refine χ7 ?_ | refine ω8 ?_
    refine wloop1 (fun (i : Nat) => [(2, .pointer (some ⟨b1, 0, none⟩)), (7, .slice A r.length ac), (8, .int .i64 (s : Int)), (10, .slice O r.length r.length), (39, .slice C cs.length cc), (40, .int .i64 (cs.length : Int)), (41, .int .i64 (i : Int))])
      (fun i w' => i ≤ cs.length ∧ Ext w3 w' ∧ OwnV w' w3.heap.size (.slice O r.length r.length) ((pmR cs r).take i ++ List.replicate (r.length - i) V0)) (fun i => cs.length - i) 0 (by repeat' (first | exact Sub.nil | refine Sub.cons rfl ?_))
      ⟨Nat.zero_le _, hx4, ho4'⟩ ?_
    rintro i w5 ⟨hi, hx5, ho5⟩
    have hlen5 : ((pmR cs r).take i ++ List.replicate (r.length - i) V0).length = r.length := by simp [pm_len]; omega
    rw [OwnV, hlen5] at ho5
    have hx15 := hx13.trans hx5
    repeat first | refine ω1 ?_ | refine ω2 ?_ | refine ω3 ?_ | refine ω4 ?_ | refine ω5 ?_ | refine χ1 ?_ | refine κ1 ?_ | refine κ2 ?_ | refine χ2 ?_ | refine κ3 ?_ | refine ω6 ?_ | refine ω7 ?_ | refine ω9 ?_ | refine κ4 ?_ | refine κ7 ?_ | refine κ8 ?_ | refine χ3 ?_ | refine χ4 ?_ | refine κ5 ?_ | refine κ6 ?_ | refine χ5 ?_ | refine χ6 ?_ | refine χ7 ?_ | refine ω8 ?_
    refine ci (fun h0 => ?_) (fun h0 => ?_)
    · have hlt2 : i < cs.length := by have := of_decide_eq_true h0; omega
      have hcr5 := hcr.ext hx15
      have har5 : RdR w5 A r := Rd.ext har hx5
      have hc := h5 _ (getD_mem' 0 cs hlt2)
      have lc : cs.getD i 0 < r.length := by omega
      have li : i < r.length := by omega
      repeat first | refine ω1 ?_ | refine ω2 ?_ | refine ω3 ?_ | refine ω4 ?_ | refine ω5 ?_ | refine χ1 ?_ | refine κ1 ?_ | refine κ2 ?_ | refine χ2 ?_ | refine κ3 ?_ | refine ω6 ?_ | refine ω7 ?_ | refine ω9 ?_ | refine κ4 ?_ | refine κ7 ?_ | refine κ8 ?_ | refine χ3 ?_ | refine χ4 ?_ | refine κ5 ?_ | refine κ6 ?_ | refine χ5 ?_ | refine χ6 ?_ | refine χ7 ?_ | refine ω8 ?_
      refine ix i hcr5 hlt2 ?_
      repeat first | refine ω1 ?_ | refine ω2 ?_ | refine ω3 ?_ | refine ω4 ?_ | refine ω5 ?_ | refine χ1 ?_ | refine κ1 ?_ | refine κ2 ?_ | refine χ2 ?_ | refine κ3 ?_ | refine ω6 ?_ | refine ω7 ?_ | refine ω9 ?_ | refine κ4 ?_ | refine κ7 ?_ | refine κ8 ?_ | refine χ3 ?_ | refine χ4 ?_ | refine κ5 ?_ | refine κ6 ?_ | refine χ5 ?_ | refine χ6 ?_ | refine χ7 ?_ | refine ω8 ?_
      refine ld (hcr5.cell (intC_get hlt2)) ?_
      repeat first | refine ω1 ?_ | refine ω2 ?_ | refine ω3 ?_ | refine ω4 ?_ | refine ω5 ?_ | refine χ1 ?_ | refine κ1 ?_ | refine κ2 ?_ | refine χ2 ?_ | refine κ3 ?_ | refine ω6 ?_ | refine ω7 ?_ | refine ω9 ?_ | refine κ4 ?_ | refine κ7 ?_ | refine κ8 ?_ | refine χ3 ?_ | refine χ4 ?_ | refine κ5 ?_ | refine κ6 ?_ | refine χ5 ?_ | refine χ6 ?_ | refine χ7 ?_ | refine ω8 ?_
      refine ixq 3 (cs.getD i 0) har5 lc ?_
      repeat first | refine ω1 ?_ | refine ω2 ?_ | refine ω3 ?_ | refine ω4 ?_ | refine ω5 ?_ | refine χ1 ?_ | refine κ1 ?_ | refine κ2 ?_ | refine χ2 ?_ | refine κ3 ?_ | refine ω6 ?_ | refine ω7 ?_ | refine ω9 ?_ | refine κ4 ?_ | refine κ7 ?_ | refine κ8 ?_ | refine χ3 ?_ | refine χ4 ?_ | refine κ5 ?_ | refine κ6 ?_ | refine χ5 ?_ | refine χ6 ?_ | refine χ7 ?_ | refine ω8 ?_
      refine lds (fun j u hu => RdR.cell har5 lc hu) ?_
      repeat first | refine ω1 ?_ | refine ω2 ?_ | refine ω3 ?_ | refine ω4 ?_ | refine ω5 ?_ | refine χ1 ?_ | refine κ1 ?_ | refine κ2 ?_ | refine χ2 ?_ | refine κ3 ?_ | refine ω6 ?_ | refine ω7 ?_ | refine ω9 ?_ | refine κ4 ?_ | refine κ7 ?_ | refine κ8 ?_ | refine χ3 ?_ | refine χ4 ?_ | refine κ5 ?_ | refine κ6 ?_ | refine χ5 ?_ | refine χ6 ?_ | refine χ7 ?_ | refine ω8 ?_
      refine ixq 3 i (Rd.own ho5) li ?_
      repeat first | refine ω1 ?_ | refine ω2 ?_ | refine ω3 ?_ | refine ω4 ?_ | refine ω5 ?_ | refine χ1 ?_ | refine κ1 ?_ | refine κ2 ?_ | refine χ2 ?_ | refine κ3 ?_ | refine ω6 ?_ | refine ω7 ?_ | refine ω9 ?_ | refine κ4 ?_ | refine κ7 ?_ | refine κ8 ?_ | refine χ3 ?_ | refine χ4 ?_ | refine κ5 ?_ | refine κ6 ?_ | refine χ5 ?_ | refine χ6 ?_ | refine χ7 ?_ | refine ω8 ?_
      refine stoE (cs := (r.getD (cs.getD i 0) V0).cells) ho5 li ?_ (V.one _)
      intro w6 ho6 hg6
      have hx6 : Ext w3 w6 := grown_ext hx5 hg6 (fun k hk => by
        obtain ⟨_, _, e, _, hf⟩ := own_form ho5
        exact (hf k hk).1)
      repeat first | refine ω1 ?_ | refine ω2 ?_ | refine ω3 ?_ | refine ω4 ?_ | refine ω5 ?_ | refine χ1 ?_ | refine κ1 ?_ | refine κ2 ?_ | refine χ2 ?_ | refine κ3 ?_ | refine ω6 ?_ | refine ω7 ?_ | refine ω9 ?_ | refine κ4 ?_ | refine κ7 ?_ | refine κ8 ?_ | refine χ3 ?_ | refine χ4 ?_ | refine κ5 ?_ | refine κ6 ?_ | refine χ5 ?_ | refine χ6 ?_ | refine χ7 ?_ | refine ω8 ?_
      refine qround1 (i + 1) (by repeat' (first | exact Sub.nil | refine Sub.cons rfl ?_)) ⟨by omega, hx6, ?_⟩ (by omega)
      have e : ((pmR cs r).take i ++ List.replicate (r.length - i) V0).set i (r.getD (cs.getD i 0) V0) = (pmR cs r).take (i + 1) ++ List.replicate (r.length - (i + 1)) V0 := by
        have hl : ((pmR cs r).take i).length = i := by simp [pm_len]; omega
        rw [List.set_append_right _ _ (by omega), hl, Nat.sub_self, show r.length - i = (r.length - (i + 1)) + 1 by omega, List.replicate_succ, List.set_cons_zero, List.take_succ_eq_append_getElem (by rw [pm_len]; omega), List.append_assoc]
        rw [← pm_take hlt2, getD_get V0 _ (by rw [pm_len]; omega)]; rfl
      have hlen6 : ((pmR cs r).take (i + 1) ++ List.replicate (r.length - (i + 1)) V0).length = r.length := by rw [← e]; simp [pm_len]; omega
      rw [OwnV, hlen6, ← e, rowC_set _ _ _ (by rw [hlen5]; omega)]
      exact ho6
    · have hie : i = cs.length := by have := of_decide_eq_false h0; omega
      subst hie
      have e : (pmR cs r).take cs.length ++ List.replicate (r.length - cs.length) V0 = pmR cs r := by
        rw [hrl, Nat.sub_self, List.replicate_zero, List.append_nil, List.take_of_length_le (by rw [pm_len]; omega)]
      rw [e] at ho5
      repeat first | refine ω1 ?_ | refine ω2 ?_ | refine ω3 ?_ | refine ω4 ?_ | refine ω5 ?_ | refine χ1 ?_ | refine κ1 ?_ | refine κ2 ?_ | refine χ2 ?_ | refine κ3 ?_ | refine ω6 ?_ | refine ω7 ?_ | refine ω9 ?_ | refine κ4 ?_ | refine κ7 ?_ | refine κ8 ?_ | refine χ3 ?_ | refine χ4 ?_ | refine κ5 ?_ | refine κ6 ?_ | refine χ5 ?_ | refine χ6 ?_ | refine χ7 ?_ | refine ω8 ?_
      refine fin3 ⟨?_, hx15⟩
      unfold AtR
      rw [if_pos (by simpa using hlt)]
      have e2 : (L.map (pmR cs)).getD k [] = pmR cs r := by
        rw [getD_get [] _ (by simpa using hlt), List.getElem_map, ← getD_get [] L hlt, hrr]
      rw [e2]
      refine ⟨_, s, rfl, ⟨O, r.length, by rw [pm_len, hrl], by rw [pm_len]; omega, by rw [pm_len]; omega, ?_⟩, hs'⟩
      have := Rd.own ho5
      rw [RdR, pm_len, ← hrl]; exact this
  · rename_i hlt
    obtain ⟨s, rfl, hs'⟩ := hA
    repeat first | refine δ1 ?_ | refine δ2 ?_ | refine δ4 ?_ | refine δ5 ?_ | refine δ6 ?_ | refine δ7 ?_ | refine δ9 ?_ | refine δ8 ?_ | refine χ1 ?_ | refine χ2 ?_ | refine χ3 ?_ | refine χ4 ?_ | refine χ5 ?_ | refine χ6 ?_ | refine χ7 ?_
    repeat first | refine ω1 ?_ | refine ω2 ?_ | refine ω3 ?_ | refine ω4 ?_ | refine ω5 ?_ | refine χ1 ?_ | refine κ1 ?_ | refine κ2 ?_ | refine χ2 ?_ | refine κ3 ?_ | refine ω6 ?_ | refine ω7 ?_ | refine ω9 ?_ | refine κ4 ?_ | refine κ7 ?_ | refine κ8 ?_ | refine χ3 ?_ | refine χ4 ?_ | refine κ5 ?_ | refine κ6 ?_ | refine χ5 ?_ | refine χ6 ?_ | refine χ7 ?_ | refine ω8 ?_
    refine fin3 ⟨?_, hx13⟩
    unfold AtR
    rw [if_neg (by simpa using hlt)]
    exact ⟨s, rfl, hs'⟩
set_option maxRecDepth 100000 in
/-- the rank of a permuted row -/
theorem perRank_any {x vr : Value} {L : List Row} {R : Row → Nat} {B : Nat} {cs : List Nat} {r : Row} {w : World} (h : PerV w x L R B cs) (hr : RowV w vr r) (hrl : r.length = cs.length) :
    Ret Try.prog 146 [x, vr] w fun x w' => (∃ vn, ∃ s : Nat, x = .tuple #[vn, .bool (decide (unR cs r cs.length ∈ L)), .int .i64 (s : Int), .int .i64 0] ∧ NatV w' vn (R (unR cs r cs.length)) ∧ s ≤ B) ∧ Ext w w' := by
  obtain ⟨⟨v, vc, rfl, h2, h3⟩, h5, h6, h7⟩ := h
  obtain ⟨t, y, rfl⟩ := h2.form
  obtain ⟨C, cc, rfl, hcc, hcl, hcr, hcb⟩ := id h3
  obtain ⟨A, ac, rfl, hac, ham, har⟩ := id hr
  have hs := h2.small
  have hbd := h2.bd
  refine enterR Try.func146 Try.ntmps146 rfl (by kernel_rfl) rfl ?_
  repeat first | refine ω1 ?_ | refine ω2 ?_ | refine ω3 ?_ | refine ω4 ?_ | refine ω5 ?_ | refine χ1 ?_ | refine κ1 ?_ | refine κ2 ?_ | refine χ2 ?_ | refine κ3 ?_ | refine ω6 ?_ | refine ω7 ?_ | refine ω9 ?_ | refine κ4 ?_ | refine κ7 ?_ | refine κ8 ?_ | refine χ3 ?_ | refine χ4 ?_ | refine κ5 ?_ | refine κ6 ?_ | refine χ5 ?_ | refine χ6 ?_ | refine χ7 ?_ | refine ω8 ?_
  refine bx ?_
  intro w3 b1 hx13 hb1 hk3
  repeat first | refine ω1 ?_ | refine ω2 ?_ | refine ω3 ?_ | refine ω4 ?_ | refine ω5 ?_ | refine χ1 ?_ | refine κ1 ?_ | refine κ2 ?_ | refine χ2 ?_ | refine κ3 ?_ | refine ω6 ?_ | refine ω7 ?_ | refine ω9 ?_ | refine κ4 ?_ | refine κ7 ?_ | refine κ8 ?_ | refine χ3 ?_ | refine χ4 ?_ | refine κ5 ?_ | refine κ6 ?_ | refine χ5 ?_ | refine χ6 ?_ | refine χ7 ?_ | refine ω8 ?_
  refine ld (hk3.at (i := 1) rfl) ?_
  repeat first | refine ω1 ?_ | refine ω2 ?_ | refine ω3 ?_ | refine ω4 ?_ | refine ω5 ?_ | refine χ1 ?_ | refine κ1 ?_ | refine κ2 ?_ | refine χ2 ?_ | refine κ3 ?_ | refine ω6 ?_ | refine ω7 ?_ | refine ω9 ?_ | refine κ4 ?_ | refine κ7 ?_ | refine κ8 ?_ | refine χ3 ?_ | refine χ4 ?_ | refine κ5 ?_ | refine κ6 ?_ | refine χ5 ?_ | refine χ6 ?_ | refine χ7 ?_ | refine ω8 ?_
  refine cf ?_ ?_
  · exact bne_f (by omega)
  repeat first | refine ω1 ?_ | refine ω2 ?_ | refine ω3 ?_ | refine ω4 ?_ | refine ω5 ?_ | refine χ1 ?_ | refine κ1 ?_ | refine κ2 ?_ | refine χ2 ?_ | refine κ3 ?_ | refine ω6 ?_ | refine ω7 ?_ | refine ω9 ?_ | refine κ4 ?_ | refine κ7 ?_ | refine κ8 ?_ | refine χ3 ?_ | refine χ4 ?_ | refine κ5 ?_ | refine κ6 ?_ | refine χ5 ?_ | refine χ6 ?_ | refine χ7 ?_ | refine ω8 ?_
  refine mkn EV r.length (by omega) (by unfold maxLen; omega) ?_
  intro w4 O hx4 ho4 hO
  rw [rowC_zero] at ho4
  have ho4' : OwnV w4 w3.heap.size (.slice O r.length r.length) (unR cs r 0) := by
    rw [OwnV, unR, List.length_replicate]; exact ho4
  repeat first | refine ω1 ?_ | refine ω2 ?_ | refine ω3 ?_ | refine ω4 ?_ | refine ω5 ?_ | refine χ1 ?_ | refine κ1 ?_ | refine κ2 ?_ | refine χ2 ?_ | refine κ3 ?_ | refine ω6 ?_ | refine ω7 ?_ | refine ω9 ?_ | refine κ4 ?_ | refine κ7 ?_ | refine κ8 ?_ | refine χ3 ?_ | refine χ4 ?_ | refine κ5 ?_ | refine κ6 ?_ | refine χ5 ?_ | refine χ6 ?_ | refine χ7 ?_ | refine ω8 ?_
  refine ld ((hk3.ext hx4).at (i := 1) rfl) ?_
  repeat first | refine ω1 ?_ | refine ω2 ?_ | refine ω3 ?_ | refine ω4 ?_ | refine ω5 ?_ | refine χ1 ?_ | refine κ1 ?_ | refine κ2 ?_ | refine χ2 ?_ | refine κ3 ?_ | refine ω6 ?_ | refine ω7 ?_ | refine ω9 ?_ | refine κ4 ?_ | refine κ7 ?_ | refine κ8 ?_ | refine χ3 ?_ | refine χ4 ?_ | refine κ5 ?_ | refine κ6 ?_ | refine χ5 ?_ | refine χ6 ?_ | refine χ7 ?_ | refine ω8 ?_
  refine wloop1 (fun (i : Nat) => [(1, .slice A r.length ac), (2, .pointer (some ⟨b1, 0, none⟩)), (8, .slice O r.length r.length), (25, .slice C cs.length cc), (26, .int .i64 (cs.length : Int)), (27, .int .i64 (i : Int))])
    (fun i w' => i ≤ cs.length ∧ Ext w3 w' ∧ OwnV w' w3.heap.size (.slice O r.length r.length) (unR cs r i)) (fun i => cs.length - i) 0 (by repeat' (first | exact Sub.nil | refine Sub.cons rfl ?_))
    ⟨Nat.zero_le _, hx4, ho4'⟩ ?_
  rintro i w5 ⟨hi, hx5, ho5⟩
  rw [OwnV, unR_len] at ho5
  have hx15 := hx13.trans hx5
  repeat first | refine ω1 ?_ | refine ω2 ?_ | refine ω3 ?_ | refine ω4 ?_ | refine ω5 ?_ | refine χ1 ?_ | refine κ1 ?_ | refine κ2 ?_ | refine χ2 ?_ | refine κ3 ?_ | refine ω6 ?_ | refine ω7 ?_ | refine ω9 ?_ | refine κ4 ?_ | refine κ7 ?_ | refine κ8 ?_ | refine χ3 ?_ | refine χ4 ?_ | refine κ5 ?_ | refine κ6 ?_ | refine χ5 ?_ | refine χ6 ?_ | refine χ7 ?_ | refine ω8 ?_
  refine ci (fun h0 => ?_) (fun h0 => ?_)
  · have hlt2 : i < cs.length := by have := of_decide_eq_true h0; omega
    have hcr5 := hcr.ext hx15
    have har5 : RdR w5 A r := Rd.ext har hx15
    have hc := h5 _ (getD_mem' 0 cs hlt2)
    have lc : cs.getD i 0 < r.length := by omega
    have li : i < r.length := by omega
    repeat first | refine ω1 ?_ | refine ω2 ?_ | refine ω3 ?_ | refine ω4 ?_ | refine ω5 ?_ | refine χ1 ?_ | refine κ1 ?_ | refine κ2 ?_ | refine χ2 ?_ | refine κ3 ?_ | refine ω6 ?_ | refine ω7 ?_ | refine ω9 ?_ | refine κ4 ?_ | refine κ7 ?_ | refine κ8 ?_ | refine χ3 ?_ | refine χ4 ?_ | refine κ5 ?_ | refine κ6 ?_ | refine χ5 ?_ | refine χ6 ?_ | refine χ7 ?_ | refine ω8 ?_
    refine ix i hcr5 hlt2 ?_
    repeat first | refine ω1 ?_ | refine ω2 ?_ | refine ω3 ?_ | refine ω4 ?_ | refine ω5 ?_ | refine χ1 ?_ | refine κ1 ?_ | refine κ2 ?_ | refine χ2 ?_ | refine κ3 ?_ | refine ω6 ?_ | refine ω7 ?_ | refine ω9 ?_ | refine κ4 ?_ | refine κ7 ?_ | refine κ8 ?_ | refine χ3 ?_ | refine χ4 ?_ | refine κ5 ?_ | refine κ6 ?_ | refine χ5 ?_ | refine χ6 ?_ | refine χ7 ?_ | refine ω8 ?_
    refine ld (hcr5.cell (intC_get hlt2)) ?_
    repeat first | refine ω1 ?_ | refine ω2 ?_ | refine ω3 ?_ | refine ω4 ?_ | refine ω5 ?_ | refine χ1 ?_ | refine κ1 ?_ | refine κ2 ?_ | refine χ2 ?_ | refine κ3 ?_ | refine ω6 ?_ | refine ω7 ?_ | refine ω9 ?_ | refine κ4 ?_ | refine κ7 ?_ | refine κ8 ?_ | refine χ3 ?_ | refine χ4 ?_ | refine κ5 ?_ | refine κ6 ?_ | refine χ5 ?_ | refine χ6 ?_ | refine χ7 ?_ | refine ω8 ?_
    refine ixq 3 i har5 li ?_
    repeat first | refine ω1 ?_ | refine ω2 ?_ | refine ω3 ?_ | refine ω4 ?_ | refine ω5 ?_ | refine χ1 ?_ | refine κ1 ?_ | refine κ2 ?_ | refine χ2 ?_ | refine κ3 ?_ | refine ω6 ?_ | refine ω7 ?_ | refine ω9 ?_ | refine κ4 ?_ | refine κ7 ?_ | refine κ8 ?_ | refine χ3 ?_ | refine χ4 ?_ | refine κ5 ?_ | refine κ6 ?_ | refine χ5 ?_ | refine χ6 ?_ | refine χ7 ?_ | refine ω8 ?_
    refine lds (fun j u hu => RdR.cell har5 li hu) ?_
    repeat first | refine ω1 ?_ | refine ω2 ?_ | refine ω3 ?_ | refine ω4 ?_ | refine ω5 ?_ | refine χ1 ?_ | refine κ1 ?_ | refine κ2 ?_ | refine χ2 ?_ | refine κ3 ?_ | refine ω6 ?_ | refine ω7 ?_ | refine ω9 ?_ | refine κ4 ?_ | refine κ7 ?_ | refine κ8 ?_ | refine χ3 ?_ | refine χ4 ?_ | refine κ5 ?_ | refine κ6 ?_ | refine χ5 ?_ | refine χ6 ?_ | refine χ7 ?_ | refine ω8 ?_
    refine ixq 3 (cs.getD i 0) (Rd.own ho5) lc ?_
    repeat first | refine ω1 ?_ | refine ω2 ?_ | refine ω3 ?_ | refine ω4 ?_ | refine ω5 ?_ | refine χ1 ?_ | refine κ1 ?_ | refine κ2 ?_ | refine χ2 ?_ | refine κ3 ?_ | refine ω6 ?_ | refine ω7 ?_ | refine ω9 ?_ | refine κ4 ?_ | refine κ7 ?_ | refine κ8 ?_ | refine χ3 ?_ | refine χ4 ?_ | refine κ5 ?_ | refine κ6 ?_ | refine χ5 ?_ | refine χ6 ?_ | refine χ7 ?_ | refine ω8 ?_
    refine stoE (cs := (r.getD i V0).cells) ho5 lc ?_ (V.one _)
    intro w6 ho6 hg6
    have hx6 : Ext w3 w6 := grown_ext hx5 hg6 (fun k hk => by
      obtain ⟨_, _, e, _, hf⟩ := own_form ho5
      exact (hf k hk).1)
    repeat first | refine ω1 ?_ | refine ω2 ?_ | refine ω3 ?_ | refine ω4 ?_ | refine ω5 ?_ | refine χ1 ?_ | refine κ1 ?_ | refine κ2 ?_ | refine χ2 ?_ | refine κ3 ?_ | refine ω6 ?_ | refine ω7 ?_ | refine ω9 ?_ | refine κ4 ?_ | refine κ7 ?_ | refine κ8 ?_ | refine χ3 ?_ | refine χ4 ?_ | refine κ5 ?_ | refine κ6 ?_ | refine χ5 ?_ | refine χ6 ?_ | refine χ7 ?_ | refine ω8 ?_
    refine qround1 (i + 1) (by repeat' (first | exact Sub.nil | refine Sub.cons rfl ?_)) ⟨by omega, hx6, ?_⟩ (by omega)
    rw [OwnV, unR_len, unR, rowC_set _ _ _ (by rw [unR_len]; omega)]
    exact ho6
  · have hie : i = cs.length := by have := of_decide_eq_false h0; omega
    subst hie
    repeat first | refine ω1 ?_ | refine ω2 ?_ | refine ω3 ?_ | refine ω4 ?_ | refine ω5 ?_ | refine χ1 ?_ | refine κ1 ?_ | refine κ2 ?_ | refine χ2 ?_ | refine κ3 ?_ | refine ω6 ?_ | refine ω7 ?_ | refine ω9 ?_ | refine κ4 ?_ | refine κ7 ?_ | refine κ8 ?_ | refine χ3 ?_ | refine χ4 ?_ | refine κ5 ?_ | refine κ6 ?_ | refine χ5 ?_ | refine χ6 ?_ | refine χ7 ?_ | refine ω8 ?_
    refine ld ((hk3.ext hx5).at (i := 0) rfl) ?_
    repeat first | refine ω1 ?_ | refine ω2 ?_ | refine ω3 ?_ | refine ω4 ?_ | refine ω5 ?_ | refine χ1 ?_ | refine κ1 ?_ | refine κ2 ?_ | refine χ2 ?_ | refine κ3 ?_ | refine ω6 ?_ | refine ω7 ?_ | refine ω9 ?_ | refine κ4 ?_ | refine κ7 ?_ | refine κ8 ?_ | refine χ3 ?_ | refine χ4 ?_ | refine κ5 ?_ | refine κ6 ?_ | refine χ5 ?_ | refine χ6 ?_ | refine χ7 ?_ | refine ω8 ?_
    have hru : RowV w5 (.slice O r.length r.length) (unR cs r cs.length) := ⟨O, r.length, by rw [unR_len], by rw [unR_len]; omega, by rw [unR_len]; omega, by rw [RdR, unR_len]; exact Rd.own ho5⟩
    obtain ⟨f, rv, hm, hf⟩ := h2.rank
    refine inv hm (hf w5 hx15 (unR cs r cs.length) _ hru) ?_
    rintro y w6 ⟨⟨vn, s, rfl, hn6, hs6⟩, hx6⟩
    have hrk := h2.rk (unR cs r cs.length)
    repeat first | refine ω1 ?_ | refine ω2 ?_ | refine ω3 ?_ | refine ω4 ?_ | refine ω5 ?_ | refine χ1 ?_ | refine κ1 ?_ | refine κ2 ?_ | refine χ2 ?_ | refine κ3 ?_ | refine ω6 ?_ | refine ω7 ?_ | refine ω9 ?_ | refine κ4 ?_ | refine κ7 ?_ | refine κ8 ?_ | refine χ3 ?_ | refine χ4 ?_ | refine κ5 ?_ | refine κ6 ?_ | refine χ5 ?_ | refine χ6 ?_ | refine χ7 ?_ | refine ω8 ?_
    refine cl (natNorm_any hn6 (small1000 (by omega))) ?_
    rintro x7 w7 ⟨hn7, hx7⟩
    repeat first | refine ω1 ?_ | refine ω2 ?_ | refine ω3 ?_ | refine ω4 ?_ | refine ω5 ?_ | refine χ1 ?_ | refine κ1 ?_ | refine κ2 ?_ | refine χ2 ?_ | refine κ3 ?_ | refine ω6 ?_ | refine ω7 ?_ | refine ω9 ?_ | refine κ4 ?_ | refine κ7 ?_ | refine κ8 ?_ | refine χ3 ?_ | refine χ4 ?_ | refine κ5 ?_ | refine κ6 ?_ | refine χ5 ?_ | refine χ6 ?_ | refine χ7 ?_ | refine ω8 ?_
    exact fin4 ⟨⟨x7, s, rfl, hn7, hs6⟩, (hx15.trans hx6).trans hx7⟩
end Go.Proofs.Ytpahjnfolbnloaa
