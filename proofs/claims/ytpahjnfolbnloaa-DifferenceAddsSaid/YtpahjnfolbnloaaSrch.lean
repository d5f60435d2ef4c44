/- Contract of difference.search: the test is a closure that may write some boxes. -/
import Derived.Test.YtpahjnfolbnloaaNat5
import Derived.Test.YtpahjnfolbnloaaArr2
set_option linter.unusedVariables false
namespace Go.Proofs.Ytpahjnfolbnloaa
open Go.RowKit Pl Go.Wk
attribute [local irreducible] WC WL QX WD WDB WP
theorem lenB_half {n : Nat} (h : n ≠ 0) : lenB (n / 2) + 1 = lenB n := by
  unfold lenB
  rw [if_neg h]
  by_cases h1 : n / 2 = 0
  · rw [if_pos h1]
    have : n = 1 := by omega
    subst this; rfl
  · rw [if_neg h1]
    have : Nat.log2 n = Nat.log2 (n / 2) + 1 := by rw [Nat.log2_def, if_pos (by omega)]
    omega
theorem lenB_mono {n m : Nat} (h : n ≤ m) : lenB n ≤ lenB m := by
  unfold lenB
  by_cases h1 : n = 0
  · rw [if_pos h1]; omega
  · rw [if_neg h1, if_neg (by omega)]
    have : 2 ^ Nat.log2 n ≤ m := Nat.le_trans (Nat.log2_self_le h1) h
    have := (Nat.le_log2 (by omega)).2 this
    omega
/-- what the search keeps -/
structure SrI (pr : Nat → Bool) (I : World → Nat → Nat → Prop) (lo0 sz0 : Nat) (lo sz c : Nat) : Prop where
  low : lo0 ≤ lo
  high : lo + sz ≤ lo0 + sz0
  cnt : c + lenB sz ≤ lenB sz0
  bel : lo = lo0 ∨ pr (lo - 1) = false
  abv : lo + sz = lo0 + sz0 ∨ pr (lo + sz) = true
set_option maxRecDepth 100000 in
theorem search_any {f : FuncId} {caps : Array Value} {pr : Nat → Bool} {I : World → Nat → Nat → Prop} {N : Nat → Prop} {vl vs : Value} {lo0 sz0 : Nat} {w : World}
    (hI : ∀ w w' hi c, I w hi c → Ext w w' → I w' hi c) (hN : ∀ k, N k → k < w.heap.size)
    (hT : ∀ w1 p vp hi c, GrN N w w1 → I w1 hi c → NatX w1 N vp p → lo0 ≤ p → p < lo0 + sz0 → c < lenB sz0 → Ret Try.prog f (vp :: caps.toList) w1 fun x w2 => x = .tuple #[.bool (pr p), .int .i64 0] ∧ GrN N w1 w2 ∧ I w2 (if pr p then p else hi) (c + 1))
    (h0 : I w (lo0 + sz0) 0) (hl : NatV w vl lo0) (hs : NatV w vs sz0) (hlb : lo0 < 2000000000) (hsb : sz0 < 2000000000) :
    Ret Try.prog 68 [vl, vs, .func (.func f) #[] caps] w fun x w' => ∃ vp p c, x = .tuple #[vp, .int .i64 0] ∧ NatV w' vp p ∧ I w' p c ∧ GrN N w w' ∧ c ≤ lenB sz0 ∧ lo0 ≤ p ∧ p ≤ lo0 + sz0 ∧ (p = lo0 ∨ pr (p - 1) = false) ∧ (p = lo0 + sz0 ∨ pr p = true) := by
  refine enterR Try.func68 Try.ntmps68 rfl (by kernel_rfl) rfl ?_
  repeat first | refine ω1 ?_ | refine ω2 ?_ | refine ω3 ?_ | refine ω4 ?_ | refine ω5 ?_ | refine χ1 ?_ | refine κ1 ?_ | refine κ2 ?_ | refine χ2 ?_ | refine κ3 ?_ | refine ω6 ?_ | refine ω7 ?_ | refine ω9 ?_ | refine κ4 ?_ | refine κ7 ?_ | refine κ8 ?_ | refine χ3 ?_ | refine χ4 ?_ | refine κ5 ?_ | refine κ6 ?_ | refine χ5 ?_ | refine χ6 ?_ | refine χ7 ?_ | refine ω8 ?_
  refine cl (natNormF_any hl (small1000 (by omega))) ?_
  rintro vl1 w1 ⟨hl1, hf1, hx1⟩
  repeat first | refine ω1 ?_ | refine ω2 ?_ | refine ω3 ?_ | refine ω4 ?_ | refine ω5 ?_ | refine χ1 ?_ | refine κ1 ?_ | refine κ2 ?_ | refine χ2 ?_ | refine κ3 ?_ | refine ω6 ?_ | refine ω7 ?_ | refine ω9 ?_ | refine κ4 ?_ | refine κ7 ?_ | refine κ8 ?_ | refine χ3 ?_ | refine χ4 ?_ | refine κ5 ?_ | refine κ6 ?_ | refine χ5 ?_ | refine χ6 ?_ | refine χ7 ?_ | refine ω8 ?_
  refine cl (natNormF_any (hs.ext hx1) (small1000 (by omega))) ?_
  rintro vs1 w2 ⟨hs1, hf2, hx2⟩
  have hN1 : ∀ k, N k → k < w1.heap.size := fun k hk => Nat.lt_of_lt_of_le (hN k hk) hx1.size
  repeat first | refine ω1 ?_ | refine ω2 ?_ | refine ω3 ?_ | refine ω4 ?_ | refine ω5 ?_ | refine χ1 ?_ | refine κ1 ?_ | refine κ2 ?_ | refine χ2 ?_ | refine κ3 ?_ | refine ω6 ?_ | refine ω7 ?_ | refine ω9 ?_ | refine κ4 ?_ | refine κ7 ?_ | refine κ8 ?_ | refine χ3 ?_ | refine χ4 ?_ | refine κ5 ?_ | refine κ6 ?_ | refine χ5 ?_ | refine χ6 ?_ | refine χ7 ?_ | refine ω8 ?_
  refine wloop5 (fun (a b : Value) (lo sz c : Nat) => [(0, a), (1, b), (2, .func (.func f) #[] caps)])
    (fun a b lo sz c w3 => GrN N w w3 ∧ NatX w3 N a lo ∧ NatX w3 N b sz ∧ I w3 (lo + sz) c ∧ SrI pr I lo0 sz0 lo sz c) (fun _ _ _ sz _ => sz) vl1 vs1 lo0 sz0 0 (by repeat' (first | exact Sub.nil | refine Sub.cons rfl ?_))
    ⟨GrN.ext (hx1.trans hx2), (hf1.x hl1 hN).ext hx2, hf2.x hs1 hN1, hI _ _ _ _ h0 (hx1.trans hx2), ⟨Nat.le_refl _, Nat.le_refl _, by omega, .inl rfl, .inl rfl⟩⟩ ?_
  rintro a b lo sz c w3 ⟨hg3, ha, hb, hI3, hS⟩
  have h1 := hS.low
  have h2 := hS.high
  have hN3 : ∀ k, N k → k < w3.heap.size := fun k hk => Nat.lt_of_lt_of_le (hN k hk) hg3.size
  obtain ⟨B, cb, rfl, hcb, hbl, hbr⟩ := id hb.1
  repeat first | refine ω1 ?_ | refine ω2 ?_ | refine ω3 ?_ | refine ω4 ?_ | refine ω5 ?_ | refine χ1 ?_ | refine κ1 ?_ | refine κ2 ?_ | refine χ2 ?_ | refine κ3 ?_ | refine ω6 ?_ | refine ω7 ?_ | refine ω9 ?_ | refine κ4 ?_ | refine κ7 ?_ | refine κ8 ?_ | refine χ3 ?_ | refine χ4 ?_ | refine κ5 ?_ | refine κ6 ?_ | refine χ5 ?_ | refine χ6 ?_ | refine χ7 ?_ | refine ω8 ?_
  refine ci (fun h => ?_) (fun h => ?_)
  · have hs0 : sz ≠ 0 := fun e => by
      subst e
      have := of_decide_eq_true h
      rw [limbs_0] at this; simp at this
    have hbits := lenB_half hs0
    have hc := hS.cnt
    repeat first | refine ω1 ?_ | refine ω2 ?_ | refine ω3 ?_ | refine ω4 ?_ | refine ω5 ?_ | refine χ1 ?_ | refine κ1 ?_ | refine κ2 ?_ | refine χ2 ?_ | refine κ3 ?_ | refine ω6 ?_ | refine ω7 ?_ | refine ω9 ?_ | refine κ4 ?_ | refine κ7 ?_ | refine κ8 ?_ | refine χ3 ?_ | refine χ4 ?_ | refine κ5 ?_ | refine κ6 ?_ | refine χ5 ?_ | refine χ6 ?_ | refine χ7 ?_ | refine ω8 ?_
    refine cl (natOf_any 2 (by omega) _) ?_
    rintro u w4 ⟨hu, hx4⟩
    repeat first | refine ω1 ?_ | refine ω2 ?_ | refine ω3 ?_ | refine ω4 ?_ | refine ω5 ?_ | refine χ1 ?_ | refine κ1 ?_ | refine κ2 ?_ | refine χ2 ?_ | refine κ3 ?_ | refine ω6 ?_ | refine ω7 ?_ | refine ω9 ?_ | refine κ4 ?_ | refine κ7 ?_ | refine κ8 ?_ | refine χ3 ?_ | refine χ4 ?_ | refine κ5 ?_ | refine κ6 ?_ | refine χ5 ?_ | refine χ6 ?_ | refine χ7 ?_ | refine ω8 ?_
    refine cl (natHalf_any (hb.1.ext hx4) hu (by omega)) ?_
    rintro x w5 ⟨⟨vh, vy, rfl, hh, hfh⟩, hx5⟩
    repeat first | refine ω1 ?_ | refine ω2 ?_ | refine ω3 ?_ | refine ω4 ?_ | refine ω5 ?_ | refine χ1 ?_ | refine κ1 ?_ | refine κ2 ?_ | refine χ2 ?_ | refine κ3 ?_ | refine ω6 ?_ | refine ω7 ?_ | refine ω9 ?_ | refine κ4 ?_ | refine κ7 ?_ | refine κ8 ?_ | refine χ3 ?_ | refine χ4 ?_ | refine κ5 ?_ | refine κ6 ?_ | refine χ5 ?_ | refine χ6 ?_ | refine χ7 ?_ | refine ω8 ?_
    refine cl (natAddF_any ((ha.1.ext hx4).ext hx5) hh (small1000 (by omega)) (small1000 (by omega))) ?_
    rintro vm w6 ⟨hm, hfm, hx6⟩
    have hx36 := (hx4.trans hx5).trans hx6
    have hN4 : ∀ k, N k → k < w4.heap.size := fun k hk => Nat.lt_of_lt_of_le (hN3 k hk) hx4.size
    have hN5 : ∀ k, N k → k < w5.heap.size := fun k hk => Nat.lt_of_lt_of_le (hN4 k hk) hx5.size
    have hhX : NatX w6 N vh (sz / 2) := (hfh.x hh hN4).ext hx6
    have hmX : NatX w6 N vm (lo + sz / 2) := hfm.x hm hN5
    repeat first | refine ω1 ?_ | refine ω2 ?_ | refine ω3 ?_ | refine ω4 ?_ | refine ω5 ?_ | refine χ1 ?_ | refine κ1 ?_ | refine κ2 ?_ | refine χ2 ?_ | refine κ3 ?_ | refine ω6 ?_ | refine ω7 ?_ | refine ω9 ?_ | refine κ4 ?_ | refine κ7 ?_ | refine κ8 ?_ | refine χ3 ?_ | refine χ4 ?_ | refine κ5 ?_ | refine κ6 ?_ | refine χ5 ?_ | refine χ6 ?_ | refine χ7 ?_ | refine ω8 ?_
    refine clv (hT w6 (lo + sz / 2) vm (lo + sz) c (hg3.trans (GrN.ext hx36)) (hI _ _ _ _ hI3 hx36) hmX (by omega) (by omega) (by omega)) ?_
    rintro x w7 ⟨rfl, hg7, hI7⟩
    have hg37 : GrN N w3 w7 := (GrN.ext hx36).trans hg7
    repeat first | refine ω1 ?_ | refine ω2 ?_ | refine ω3 ?_ | refine ω4 ?_ | refine ω5 ?_ | refine χ1 ?_ | refine κ1 ?_ | refine κ2 ?_ | refine χ2 ?_ | refine κ3 ?_ | refine ω6 ?_ | refine ω7 ?_ | refine ω9 ?_ | refine κ4 ?_ | refine κ7 ?_ | refine κ8 ?_ | refine χ3 ?_ | refine χ4 ?_ | refine κ5 ?_ | refine κ6 ?_ | refine χ5 ?_ | refine χ6 ?_ | refine χ7 ?_ | refine ω8 ?_
    refine ci (fun hp => ?_) (fun hp => ?_)
    · repeat first | refine ω1 ?_ | refine ω2 ?_ | refine ω3 ?_ | refine ω4 ?_ | refine ω5 ?_ | refine χ1 ?_ | refine κ1 ?_ | refine κ2 ?_ | refine χ2 ?_ | refine κ3 ?_ | refine ω6 ?_ | refine ω7 ?_ | refine ω9 ?_ | refine κ4 ?_ | refine κ7 ?_ | refine κ8 ?_ | refine χ3 ?_ | refine χ4 ?_ | refine κ5 ?_ | refine κ6 ?_ | refine χ5 ?_ | refine χ6 ?_ | refine χ7 ?_ | refine ω8 ?_
      rw [hp, if_pos rfl] at hI7
      refine qround5 a vh lo (sz / 2) (c + 1) (by repeat' (first | exact Sub.nil | refine Sub.cons rfl ?_)) ⟨hg3.trans hg37, ha.gr hg37, hhX.gr hg7, hI7, ⟨h1, by omega, by omega, hS.bel, .inr hp⟩⟩ (by omega)
    · repeat first | refine ω1 ?_ | refine ω2 ?_ | refine ω3 ?_ | refine ω4 ?_ | refine ω5 ?_ | refine χ1 ?_ | refine κ1 ?_ | refine κ2 ?_ | refine χ2 ?_ | refine κ3 ?_ | refine ω6 ?_ | refine ω7 ?_ | refine ω9 ?_ | refine κ4 ?_ | refine κ7 ?_ | refine κ8 ?_ | refine χ3 ?_ | refine χ4 ?_ | refine κ5 ?_ | refine κ6 ?_ | refine χ5 ?_ | refine χ6 ?_ | refine χ7 ?_ | refine ω8 ?_
      rw [hp] at hI7
      rw [if_neg (by decide)] at hI7
      refine cl (natOf_any 1 (by omega) _) ?_
      rintro u1 w8 ⟨hu1, hx8⟩
      repeat first | refine ω1 ?_ | refine ω2 ?_ | refine ω3 ?_ | refine ω4 ?_ | refine ω5 ?_ | refine χ1 ?_ | refine κ1 ?_ | refine κ2 ?_ | refine χ2 ?_ | refine κ3 ?_ | refine ω6 ?_ | refine ω7 ?_ | refine ω9 ?_ | refine κ4 ?_ | refine κ7 ?_ | refine κ8 ?_ | refine χ3 ?_ | refine χ4 ?_ | refine κ5 ?_ | refine κ6 ?_ | refine χ5 ?_ | refine χ6 ?_ | refine χ7 ?_ | refine ω8 ?_
      refine cl (natAddF_any ((hmX.gr hg7).1.ext hx8) hu1 (small1000 (by omega)) (small1000 (by omega))) ?_
      rintro vl2 w9 ⟨hl2, hfl2, hx9⟩
      repeat first | refine ω1 ?_ | refine ω2 ?_ | refine ω3 ?_ | refine ω4 ?_ | refine ω5 ?_ | refine χ1 ?_ | refine κ1 ?_ | refine κ2 ?_ | refine χ2 ?_ | refine κ3 ?_ | refine ω6 ?_ | refine ω7 ?_ | refine ω9 ?_ | refine κ4 ?_ | refine κ7 ?_ | refine κ8 ?_ | refine χ3 ?_ | refine χ4 ?_ | refine κ5 ?_ | refine κ6 ?_ | refine χ5 ?_ | refine χ6 ?_ | refine χ7 ?_ | refine ω8 ?_
      refine cl (natOf_any 1 (by omega) _) ?_
      rintro u2 w10 ⟨hu2, hx10⟩
      repeat first | refine ω1 ?_ | refine ω2 ?_ | refine ω3 ?_ | refine ω4 ?_ | refine ω5 ?_ | refine χ1 ?_ | refine κ1 ?_ | refine κ2 ?_ | refine χ2 ?_ | refine κ3 ?_ | refine ω6 ?_ | refine ω7 ?_ | refine ω9 ?_ | refine κ4 ?_ | refine κ7 ?_ | refine κ8 ?_ | refine χ3 ?_ | refine χ4 ?_ | refine κ5 ?_ | refine κ6 ?_ | refine χ5 ?_ | refine χ6 ?_ | refine χ7 ?_ | refine ω8 ?_
      have hx79 := (hx8.trans hx9).trans hx10
      refine cl (natAdd_any ((hhX.gr hg7).1.ext hx79) hu2 (small1000 (by omega)) (small1000 (by omega))) ?_
      rintro vq w11 ⟨hq, hx11⟩
      have hx711 := hx79.trans hx11
      repeat first | refine ω1 ?_ | refine ω2 ?_ | refine ω3 ?_ | refine ω4 ?_ | refine ω5 ?_ | refine χ1 ?_ | refine κ1 ?_ | refine κ2 ?_ | refine χ2 ?_ | refine κ3 ?_ | refine ω6 ?_ | refine ω7 ?_ | refine ω9 ?_ | refine κ4 ?_ | refine κ7 ?_ | refine κ8 ?_ | refine χ3 ?_ | refine χ4 ?_ | refine κ5 ?_ | refine κ6 ?_ | refine χ5 ?_ | refine χ6 ?_ | refine χ7 ?_ | refine ω8 ?_
      refine cl (natSubF_any ((hb.gr hg37).1.ext hx711) hq (small1000 (by omega))) ?_
      rintro y w12 ⟨⟨vz, rfl, hz, hfz⟩, hx12⟩
      have hsz7 := hg37.size
      have hN8 : ∀ k, N k → k < w8.heap.size := fun k hk => Nat.lt_of_lt_of_le (hN3 k hk) (Nat.le_trans hsz7 hx8.size)
      have hN11 : ∀ k, N k → k < w11.heap.size := fun k hk => Nat.lt_of_lt_of_le (hN3 k hk) (Nat.le_trans hsz7 hx711.size)
      have hx712 := hx711.trans hx12
      repeat first | refine ω1 ?_ | refine ω2 ?_ | refine ω3 ?_ | refine ω4 ?_ | refine ω5 ?_ | refine χ1 ?_ | refine κ1 ?_ | refine κ2 ?_ | refine χ2 ?_ | refine κ3 ?_ | refine ω6 ?_ | refine ω7 ?_ | refine ω9 ?_ | refine κ4 ?_ | refine κ7 ?_ | refine κ8 ?_ | refine χ3 ?_ | refine χ4 ?_ | refine κ5 ?_ | refine κ6 ?_ | refine χ5 ?_ | refine χ6 ?_ | refine χ7 ?_ | refine ω8 ?_
      have e1 : lo + sz / 2 + 1 + (sz - (sz / 2 + 1)) = lo + sz := by omega
      have hm2 : lenB (sz - (sz / 2 + 1)) ≤ lenB (sz / 2) := lenB_mono (by omega)
      refine qround5 vl2 vz (lo + sz / 2 + 1) (sz - (sz / 2 + 1)) (c + 1) (by repeat' (first | exact Sub.nil | refine Sub.cons rfl ?_)) ⟨(hg3.trans hg37).trans (GrN.ext hx712), ((hfl2.x hl2 hN8).ext hx10).ext (hx11.trans hx12), hfz.x hz hN11, by rw [e1]; exact hI _ _ _ _ hI7 hx712, ⟨by omega, by omega, by omega, .inr (by rw [Nat.add_sub_cancel]; exact hp), by rw [e1]; exact hS.abv⟩⟩ (by omega)
  · have hs0 : sz = 0 := by
      have := of_decide_eq_false h
      rcases Nat.eq_zero_or_pos sz with h0 | h0
      · exact h0
      · exfalso
        apply this
        have : limbs sz ≠ [] := fun e => by rw [limbs_pos (by omega)] at e; cases e
        have := List.length_pos_iff.2 this
        omega
    subst hs0
    have hc := hS.cnt
    repeat first | refine ω1 ?_ | refine ω2 ?_ | refine ω3 ?_ | refine ω4 ?_ | refine ω5 ?_ | refine χ1 ?_ | refine κ1 ?_ | refine κ2 ?_ | refine χ2 ?_ | refine κ3 ?_ | refine ω6 ?_ | refine ω7 ?_ | refine ω9 ?_ | refine κ4 ?_ | refine κ7 ?_ | refine κ8 ?_ | refine χ3 ?_ | refine χ4 ?_ | refine κ5 ?_ | refine κ6 ?_ | refine χ5 ?_ | refine χ6 ?_ | refine χ7 ?_ | refine ω8 ?_
    exact fin2 ⟨a, lo, c, rfl, ha.1, hI3, hg3, by omega, h1, h2, hS.bel, hS.abv⟩
end Go.Proofs.Ytpahjnfolbnloaa
