/- Arrays: All; columns permuted. -/
import Derived.Test.YtpahjnfolbnloaaArr3
import Derived.Test.YtpahjnfolbnloaaSto
set_option linter.unusedVariables false
namespace Go.Proofs.Ytpahjnfolbnloaa
open Go.RowKit Pl Go.Wk
attribute [local irreducible] WC WL QX WD WDB WP
set_option maxRecDepth 100000 in
/-- All, from a position inside -/
theorem all_any {w : World} {v vl : Value} {L : List Row} {R : Row → Nat} {B lo : Nat} {most : Int} (h : ArrI w v L R B) (hl : NatV w vl lo) (hlb : lo < 9223372036854775808) (hmost : most ≤ 9223372036854775807) :
    Ret Try.prog 25 [v, vl, .int .i64 most] w fun x w' => (if 0 ≤ most ∧ lo ≤ L.length then ∃ y, x = .tuple #[y, .int .i64 0] ∧ RowsV w' y ((L.drop lo).take most.toNat) else x = .tuple #[.slice none 0 0, .int .i64 3]) ∧ Ext w w' := by
  obtain ⟨t, y, rfl⟩ := h.form
  have hsm := h.small
  refine enterR Try.func25 Try.ntmps25 rfl (by kernel_rfl) rfl ?_
  repeat first | refine ω1 ?_ | refine ω2 ?_ | refine ω3 ?_ | refine ω4 ?_ | refine ω5 ?_ | refine χ1 ?_ | refine κ1 ?_ | refine κ2 ?_ | refine χ2 ?_ | refine κ3 ?_ | refine ω6 ?_ | refine ω7 ?_ | refine ω9 ?_ | refine κ4 ?_ | refine κ7 ?_ | refine κ8 ?_ | refine χ3 ?_ | refine χ4 ?_ | refine κ5 ?_ | refine κ6 ?_ | refine χ5 ?_ | refine χ6 ?_ | refine χ7 ?_ | refine ω8 ?_
  refine inil ifA (.inr ⟨_, _, rfl⟩) ?_
  repeat first | refine ω1 ?_ | refine ω2 ?_ | refine ω3 ?_ | refine ω4 ?_ | refine ω5 ?_ | refine χ1 ?_ | refine κ1 ?_ | refine κ2 ?_ | refine χ2 ?_ | refine κ3 ?_ | refine ω6 ?_ | refine ω7 ?_ | refine ω9 ?_ | refine κ4 ?_ | refine κ7 ?_ | refine κ8 ?_ | refine χ3 ?_ | refine χ4 ?_ | refine κ5 ?_ | refine κ6 ?_ | refine χ5 ?_ | refine χ6 ?_ | refine χ7 ?_ | refine ω8 ?_
  obtain ⟨f, rv, hm, hf⟩ := h.len
  refine inv hm (hf w (Ext.refl w)) ?_
  rintro x8 w1 ⟨hn8, hx1⟩
  repeat first | refine ω1 ?_ | refine ω2 ?_ | refine ω3 ?_ | refine ω4 ?_ | refine ω5 ?_ | refine χ1 ?_ | refine κ1 ?_ | refine κ2 ?_ | refine χ2 ?_ | refine κ3 ?_ | refine ω6 ?_ | refine ω7 ?_ | refine ω9 ?_ | refine κ4 ?_ | refine κ7 ?_ | refine κ8 ?_ | refine χ3 ?_ | refine χ4 ?_ | refine κ5 ?_ | refine κ6 ?_ | refine χ5 ?_ | refine χ6 ?_ | refine χ7 ?_ | refine ω8 ?_
  refine ki 20 (fun h0 => ?_) (fun h0 => ?_)
  · have hneg := of_decide_eq_true h0
    repeat first | refine ω1 ?_ | refine ω2 ?_ | refine ω3 ?_ | refine ω4 ?_ | refine ω5 ?_ | refine χ1 ?_ | refine κ1 ?_ | refine κ2 ?_ | refine χ2 ?_ | refine κ3 ?_ | refine ω6 ?_ | refine ω7 ?_ | refine ω9 ?_ | refine κ4 ?_ | refine κ7 ?_ | refine κ8 ?_ | refine χ3 ?_ | refine χ4 ?_ | refine κ5 ?_ | refine κ6 ?_ | refine χ5 ?_ | refine χ6 ?_ | refine χ7 ?_ | refine ω8 ?_
    refine fin2 ⟨?_, hx1⟩
    rw [if_neg (by omega)]
  have hpos := of_decide_eq_false h0
  repeat first | refine ω1 ?_ | refine ω2 ?_ | refine ω3 ?_ | refine ω4 ?_ | refine ω5 ?_ | refine χ1 ?_ | refine κ1 ?_ | refine κ2 ?_ | refine χ2 ?_ | refine κ3 ?_ | refine ω6 ?_ | refine ω7 ?_ | refine ω9 ?_ | refine κ4 ?_ | refine κ7 ?_ | refine κ8 ?_ | refine χ3 ?_ | refine χ4 ?_ | refine κ5 ?_ | refine κ6 ?_ | refine χ5 ?_ | refine χ6 ?_ | refine χ7 ?_ | refine ω8 ?_
  refine cl (natCmp_any (hl.ext hx1) hn8) ?_
  rintro z w2 ⟨rfl, hx2⟩
  repeat first | refine ω1 ?_ | refine ω2 ?_ | refine ω3 ?_ | refine ω4 ?_ | refine ω5 ?_ | refine χ1 ?_ | refine κ1 ?_ | refine κ2 ?_ | refine χ2 ?_ | refine κ3 ?_ | refine ω6 ?_ | refine ω7 ?_ | refine ω9 ?_ | refine κ4 ?_ | refine κ7 ?_ | refine κ8 ?_ | refine χ3 ?_ | refine χ4 ?_ | refine κ5 ?_ | refine κ6 ?_ | refine χ5 ?_ | refine χ6 ?_ | refine χ7 ?_ | refine ω8 ?_
  refine ci (fun h0 => ?_) (fun h0 => ?_)
  · have hgt := cmpN_gt.1 (of_decide_eq_true h0)
    repeat first | refine ω1 ?_ | refine ω2 ?_ | refine ω3 ?_ | refine ω4 ?_ | refine ω5 ?_ | refine χ1 ?_ | refine κ1 ?_ | refine κ2 ?_ | refine χ2 ?_ | refine κ3 ?_ | refine ω6 ?_ | refine ω7 ?_ | refine ω9 ?_ | refine κ4 ?_ | refine κ7 ?_ | refine κ8 ?_ | refine χ3 ?_ | refine χ4 ?_ | refine κ5 ?_ | refine κ6 ?_ | refine χ5 ?_ | refine χ6 ?_ | refine χ7 ?_ | refine ω8 ?_
    refine fin2 ⟨?_, hx1.trans hx2⟩
    rw [if_neg (by omega)]
  have hle : lo ≤ L.length := by
    have := of_decide_eq_false h0
    rw [cmpN_gt] at this; omega
  repeat first | refine ω1 ?_ | refine ω2 ?_ | refine ω3 ?_ | refine ω4 ?_ | refine ω5 ?_ | refine χ1 ?_ | refine κ1 ?_ | refine κ2 ?_ | refine χ2 ?_ | refine κ3 ?_ | refine ω6 ?_ | refine ω7 ?_ | refine ω9 ?_ | refine κ4 ?_ | refine κ7 ?_ | refine κ8 ?_ | refine χ3 ?_ | refine χ4 ?_ | refine κ5 ?_ | refine κ6 ?_ | refine χ5 ?_ | refine χ6 ?_ | refine χ7 ?_ | refine ω8 ?_
  refine cl (natNorm_any ((hl.ext hx1).ext hx2) (small1000 (by omega))) ?_
  rintro x10 w3 ⟨hn10, hx3⟩
  have hx13 := (hx1.trans hx2).trans hx3
  repeat first | refine ω1 ?_ | refine ω2 ?_ | refine ω3 ?_ | refine ω4 ?_ | refine ω5 ?_ | refine χ1 ?_ | refine κ1 ?_ | refine κ2 ?_ | refine χ2 ?_ | refine κ3 ?_ | refine ω6 ?_ | refine ω7 ?_ | refine ω9 ?_ | refine κ4 ?_ | refine κ7 ?_ | refine κ8 ?_ | refine χ3 ?_ | refine χ4 ?_ | refine κ5 ?_ | refine κ6 ?_ | refine χ5 ?_ | refine χ6 ?_ | refine χ7 ?_ | refine ω8 ?_
  refine wloop3 (fun (i : Nat) (v9 v10 : Value) => [(0, .iface t y), (2, .int .i64 most), (8, x8), (9, v9), (10, v10)])
    (fun i v9 v10 w' => i ≤ most.toNat ∧ lo + i ≤ L.length ∧ Ext w3 w' ∧ OwnR w' w3.heap.size v9 ((L.drop lo).take i) ∧ NatV w' v10 (lo + i) ∧ ∀ ad n c k, v10 = .slice (some ad) n c → v9.ownBlock = some k → ad.block ≠ k) (fun i _ _ => L.length - (lo + i)) 0 (.slice none 0 0) x10 (by repeat' (first | exact Sub.nil | refine Sub.cons rfl ?_))
    ⟨by omega, by omega, Ext.refl _, OwnR.nil _ _, hn10, fun ad n c k _ e => by cases e⟩ ?_
  rintro i v9 v10 w4 ⟨hi1, hi2, hx34, ho4, hn4, hoff⟩
  have hx4 := hx13.trans hx34
  have hx14 := (hx2.trans hx3).trans hx34
  have hlen : ((L.drop lo).take i).length = i := by simp; omega
  obtain ⟨A9, c9, rfl⟩ := ho4.form
  rw [hlen]
  have fin : (i = most.toNat ∨ lo + i = L.length) → (L.drop lo).take i = (L.drop lo).take most.toNat := fun hh => by
    rcases hh with hh | hh
    · rw [hh]
    · rw [List.take_of_length_le (by simp; omega), List.take_of_length_le (by simp; omega)]
  rw [hlen] at ho4 hoff
  repeat first | refine ω1 ?_ | refine ω2 ?_ | refine ω3 ?_ | refine ω4 ?_ | refine ω5 ?_ | refine χ1 ?_ | refine κ1 ?_ | refine κ2 ?_ | refine χ2 ?_ | refine κ3 ?_ | refine ω6 ?_ | refine ω7 ?_ | refine ω9 ?_ | refine κ4 ?_ | refine κ7 ?_ | refine κ8 ?_ | refine χ3 ?_ | refine χ4 ?_ | refine κ5 ?_ | refine κ6 ?_ | refine χ5 ?_ | refine χ6 ?_ | refine χ7 ?_ | refine ω8 ?_
  refine ki 32 (fun h0 => ?_) (fun h0 => ?_)
  · have him : i < most.toNat := by have := of_decide_eq_true h0; omega
    repeat first | refine ω1 ?_ | refine ω2 ?_ | refine ω3 ?_ | refine ω4 ?_ | refine ω5 ?_ | refine χ1 ?_ | refine κ1 ?_ | refine κ2 ?_ | refine χ2 ?_ | refine κ3 ?_ | refine ω6 ?_ | refine ω7 ?_ | refine ω9 ?_ | refine κ4 ?_ | refine κ7 ?_ | refine κ8 ?_ | refine χ3 ?_ | refine χ4 ?_ | refine κ5 ?_ | refine κ6 ?_ | refine χ5 ?_ | refine χ6 ?_ | refine χ7 ?_ | refine ω8 ?_
    refine cl (natCmp_any hn4 (hn8.ext hx14)) ?_
    rintro z w5 ⟨rfl, hx5⟩
    repeat first | refine ω1 ?_ | refine ω2 ?_ | refine ω3 ?_ | refine ω4 ?_ | refine ω5 ?_ | refine χ1 ?_ | refine κ1 ?_ | refine κ2 ?_ | refine χ2 ?_ | refine κ3 ?_ | refine ω6 ?_ | refine ω7 ?_ | refine ω9 ?_ | refine κ4 ?_ | refine κ7 ?_ | refine κ8 ?_ | refine χ3 ?_ | refine χ4 ?_ | refine κ5 ?_ | refine κ6 ?_ | refine χ5 ?_ | refine χ6 ?_ | refine χ7 ?_ | refine ω8 ?_
    refine ci (fun h0 => ?_) (fun h0 => ?_)
    · have hlt := cmpN_lt.1 (of_decide_eq_true h0)
      repeat first | refine ω1 ?_ | refine ω2 ?_ | refine ω3 ?_ | refine ω4 ?_ | refine ω5 ?_ | refine χ1 ?_ | refine κ1 ?_ | refine κ2 ?_ | refine χ2 ?_ | refine κ3 ?_ | refine ω6 ?_ | refine ω7 ?_ | refine ω9 ?_ | refine κ4 ?_ | refine κ7 ?_ | refine κ8 ?_ | refine χ3 ?_ | refine χ4 ?_ | refine κ5 ?_ | refine κ6 ?_ | refine χ5 ?_ | refine χ6 ?_ | refine χ7 ?_ | refine ω8 ?_
      refine cl (at_anyX (h.ext (hx4.trans hx5)) (hn4.ext hx5) (by omega) (own w3.heap.size (.slice A9 i c9)) (fun k hk => ?_)) ?_
      · have := (hx34.trans hx5).size
        rcases hk with hk | hk
        · omega
        · have := (ho4.lt k hk).2; have := hx5.size; omega
      rintro x w6 ⟨hA, hx6⟩
      unfold AtX at hA
      rw [if_pos hlt] at hA
      obtain ⟨vr, s, rfl, hr, hs'⟩ := hA
      have ho6 := (ho4.ext hx5).ext hx6
      have hx16 := (hx4.trans hx5).trans hx6
      have hx116 := (hx14.trans hx5).trans hx6
      obtain ⟨Br, bc, hvr, _⟩ := hr.v
      repeat first | refine ω1 ?_ | refine ω2 ?_ | refine ω3 ?_ | refine ω4 ?_ | refine ω5 ?_ | refine χ1 ?_ | refine κ1 ?_ | refine κ2 ?_ | refine χ2 ?_ | refine κ3 ?_ | refine ω6 ?_ | refine ω7 ?_ | refine ω9 ?_ | refine κ4 ?_ | refine κ7 ?_ | refine κ8 ?_ | refine χ3 ?_ | refine χ4 ?_ | refine κ5 ?_ | refine κ6 ?_ | refine χ5 ?_ | refine χ6 ?_ | refine χ7 ?_ | refine ω8 ?_
      refine bsl (fun w => bs1Row vr w Br _ bc hvr) ?_
      intro w7 b hx7 hb7 hk7
      repeat first | refine ω1 ?_ | refine ω2 ?_ | refine ω3 ?_ | refine ω4 ?_ | refine ω5 ?_ | refine χ1 ?_ | refine κ1 ?_ | refine κ2 ?_ | refine χ2 ?_ | refine κ3 ?_ | refine ω6 ?_ | refine ω7 ?_ | refine ω9 ?_ | refine κ4 ?_ | refine κ7 ?_ | refine κ8 ?_ | refine χ3 ?_ | refine χ4 ?_ | refine κ5 ?_ | refine κ6 ?_ | refine χ5 ?_ | refine χ6 ?_ | refine χ7 ?_ | refine ω8 ?_
      refine appR (a := w3) (((hx34.trans hx5).trans hx6).trans hx7) ER (ho6.ext hx7) hk7 (hr.ext hx7) (by rw [hlen]; omega) ?_
      intro v8 w8 ho8 hx8 hg8
      have hn8' : NatV w8 v10 (lo + i) := (((hn4.ext hx5).ext hx6).ext hx7).grown hg8 (fun ad n c e e2 => hoff ad n c _ e e2.symm rfl)
      repeat first | refine ω1 ?_ | refine ω2 ?_ | refine ω3 ?_ | refine ω4 ?_ | refine ω5 ?_ | refine χ1 ?_ | refine κ1 ?_ | refine κ2 ?_ | refine χ2 ?_ | refine κ3 ?_ | refine ω6 ?_ | refine ω7 ?_ | refine ω9 ?_ | refine κ4 ?_ | refine κ7 ?_ | refine κ8 ?_ | refine χ3 ?_ | refine χ4 ?_ | refine κ5 ?_ | refine κ6 ?_ | refine χ5 ?_ | refine χ6 ?_ | refine χ7 ?_ | refine ω8 ?_
      refine cl (natOf_any 1 (by omega) _) ?_
      rintro x1 w9 ⟨hn9, hx9⟩
      repeat first | refine ω1 ?_ | refine ω2 ?_ | refine ω3 ?_ | refine ω4 ?_ | refine ω5 ?_ | refine χ1 ?_ | refine κ1 ?_ | refine κ2 ?_ | refine χ2 ?_ | refine κ3 ?_ | refine ω6 ?_ | refine ω7 ?_ | refine ω9 ?_ | refine κ4 ?_ | refine κ7 ?_ | refine κ8 ?_ | refine χ3 ?_ | refine χ4 ?_ | refine κ5 ?_ | refine κ6 ?_ | refine χ5 ?_ | refine χ6 ?_ | refine χ7 ?_ | refine ω8 ?_
      refine cl (natAddF_any (hn8'.ext hx9) hn9 (small1000 (by omega)) (small1000 (by omega))) ?_
      rintro x2 w10 ⟨hn10', hfr, hx10⟩
      repeat first | refine ω1 ?_ | refine ω2 ?_ | refine ω3 ?_ | refine ω4 ?_ | refine ω5 ?_ | refine χ1 ?_ | refine κ1 ?_ | refine κ2 ?_ | refine χ2 ?_ | refine κ3 ?_ | refine ω6 ?_ | refine ω7 ?_ | refine ω9 ?_ | refine κ4 ?_ | refine κ7 ?_ | refine κ8 ?_ | refine χ3 ?_ | refine χ4 ?_ | refine κ5 ?_ | refine κ6 ?_ | refine χ5 ?_ | refine χ6 ?_ | refine χ7 ?_ | refine ω8 ?_
      have hlo : lo + i < L.length := hlt
      refine qround3 (i + 1) v8 x2 (by repeat' (first | exact Sub.nil | refine Sub.cons rfl ?_)) ⟨by omega, by omega, (hx8.trans hx9).trans hx10, ?_, hn10', fun ad n c k e e2 => ?_⟩ (by omega)
      · have e : (L.drop lo).take (i + 1) = (L.drop lo).take i ++ [L.getD (lo + i) []] := by
          rw [List.take_succ_eq_append_getElem (by simp; omega), List.getElem_drop, getD_get [] L hlo]
        rw [e]; exact (ho8.ext hx9).ext hx10
      · have := hfr ad n c e
        have := (ho8.lt k e2).2
        have := hx9.size
        omega
    · have hlt : ¬ lo + i < L.length := fun h' => (of_decide_eq_false h0) (cmpN_lt.2 h')
      repeat first | refine ω1 ?_ | refine ω2 ?_ | refine ω3 ?_ | refine ω4 ?_ | refine ω5 ?_ | refine χ1 ?_ | refine κ1 ?_ | refine κ2 ?_ | refine χ2 ?_ | refine κ3 ?_ | refine ω6 ?_ | refine ω7 ?_ | refine ω9 ?_ | refine κ4 ?_ | refine κ7 ?_ | refine κ8 ?_ | refine χ3 ?_ | refine χ4 ?_ | refine κ5 ?_ | refine κ6 ?_ | refine χ5 ?_ | refine χ6 ?_ | refine χ7 ?_ | refine ω8 ?_
      refine fin2 ⟨?_, hx4.trans hx5⟩
      rw [if_pos ⟨by omega, hle⟩]
      exact ⟨_, rfl, by rw [← fin (.inr (by omega))]; exact (ho4.ext hx5).rows (by rw [hlen]; omega)⟩
  · have him : i = most.toNat := by have := of_decide_eq_false h0; omega
    repeat first | refine ω1 ?_ | refine ω2 ?_ | refine ω3 ?_ | refine ω4 ?_ | refine ω5 ?_ | refine χ1 ?_ | refine κ1 ?_ | refine κ2 ?_ | refine χ2 ?_ | refine κ3 ?_ | refine ω6 ?_ | refine ω7 ?_ | refine ω9 ?_ | refine κ4 ?_ | refine κ7 ?_ | refine κ8 ?_ | refine χ3 ?_ | refine χ4 ?_ | refine κ5 ?_ | refine κ6 ?_ | refine χ5 ?_ | refine χ6 ?_ | refine χ7 ?_ | refine ω8 ?_
    refine fin2 ⟨?_, hx4⟩
    rw [if_pos ⟨by omega, hle⟩]
    exact ⟨_, rfl, by rw [← fin (.inl him)]; exact ho4.rows (by rw [hlen]; omega)⟩
end Go.Proofs.Ytpahjnfolbnloaa
