/- The walk of the law DifferenceSteps. -/
import Derived.Test.YtpahjnfolbnloaaLaw7
import Derived.Test.YtpahjnfolbnloaaLaw6
set_option linter.unusedVariables false
namespace Go.Proofs.Ytpahjnfolbnloaa
open Go.RowKit Pl Go.Wk
attribute [local irreducible] WC WL QX WD WDB WP WG
/-- a pure operation, ahead of all that is left -/
theorem hpur {P : Program} {n : Nat} {al : AL} {w : World} {Q : Exit → Act → World → Prop} {T : Nat → Bool} {l : List Oper} {fuel fuel' : Nat} {listed : Array Bool} (i : Nat) {oi : Oper} (hsel : Region.noSelect l.toArray = true) (hr : ((Region.ready .any l.toArray listed).contains i && Region.free .any l.toArray listed i) = true) (hf : fuel = fuel' + 1) (hi : nth l i = some oi)
    (h : WP P n l.toArray (toKH P l.toArray Q T fuel' (listed.setIfInBounds i true)) [] [oi] al w) : WH P n l.toArray Q T fuel listed al w := fun hc a ha => by
  subst hf
  simp only [Bool.and_eq_true] at hr
  have hr' : i ∈ Region.ready .any l.toArray listed := by simpa using hr.1
  have e1 : l.toArray[i]? = some oi := by rw [← hi, nth_eq]; simp
  unfold WP at h
  obtain ⟨v, hy, h2⟩ := h a ha
  exact wpAnyC_first (fun _ _ => True) (fun _ => trivial) (fun _ _ => trivial) e1 (Region.noSelect_spec hsel) (fun _ _ _ _ _ _ _ _ => trivial) _ listed a w hc (Region.free_spec e1 hr.2) hr' hy (h2 (hc.step hr'))
set_option maxRecDepth 100000 in
theorem len32_any {x : Nat} (h : x < 256) (w : World) : Ret Try.prog 60 [.int .u32 (x : Int)] w fun v w' => v = .int .i64 (lenB x : Int) ∧ w' = w := by
  refine enterR Try.func60 Try.ntmps60 rfl (by kernel_rfl) rfl ?_
  repeat first | refine ω1 ?_ | refine ω2 ?_ | refine ω3 ?_ | refine ω4 ?_ | refine ω5 ?_ | refine χ1 ?_ | refine κ1 ?_ | refine κ2 ?_ | refine χ2 ?_ | refine κ3 ?_ | refine ω6 ?_ | refine ω7 ?_ | refine ω9 ?_ | refine κ4 ?_ | refine κ7 ?_ | refine κ8 ?_ | refine χ3 ?_ | refine χ4 ?_ | refine κ5 ?_ | refine κ6 ?_ | refine χ5 ?_ | refine χ6 ?_ | refine χ7 ?_ | refine ω8 ?_
  refine cf ?_ ?_
  · exact decide_eq_false (by omega)
  repeat first | refine ω1 ?_ | refine ω2 ?_ | refine ω3 ?_ | refine ω4 ?_ | refine ω5 ?_ | refine χ1 ?_ | refine κ1 ?_ | refine κ2 ?_ | refine χ2 ?_ | refine κ3 ?_ | refine ω6 ?_ | refine ω7 ?_ | refine ω9 ?_ | refine κ4 ?_ | refine κ7 ?_ | refine κ8 ?_ | refine χ3 ?_ | refine χ4 ?_ | refine κ5 ?_ | refine κ6 ?_ | refine χ5 ?_ | refine χ6 ?_ | refine χ7 ?_ | refine ω8 ?_
  refine cf ?_ ?_
  · exact decide_eq_false (by omega)
  repeat first | refine ω1 ?_ | refine ω2 ?_ | refine ω3 ?_ | refine ω4 ?_ | refine ω5 ?_ | refine χ1 ?_ | refine κ1 ?_ | refine κ2 ?_ | refine χ2 ?_ | refine κ3 ?_ | refine ω6 ?_ | refine ω7 ?_ | refine ω9 ?_ | refine κ4 ?_ | refine κ7 ?_ | refine κ8 ?_ | refine χ3 ?_ | refine χ4 ?_ | refine κ5 ?_ | refine κ6 ?_ | refine χ5 ?_ | refine χ6 ?_ | refine χ7 ?_ | refine ω8 ?_
  refine wsindex tt_ok x rfl rfl rfl rfl ?_ ?_ rfl ?_
  · rw [IntKind.wrap_u8]; omega
  · exact Nat.lt_of_lt_of_le h (by decide)
  refine kv 16 (u := .int .u8 (lenB x : Int)) (congrArg (fun z : Nat => Value.int .u8 (z : Int)) (tabB _ (by kernel_rfl) h)) ?_
  have := lenB_le h
  repeat first | refine ω1 ?_ | refine ω2 ?_ | refine ω3 ?_ | refine ω4 ?_ | refine ω5 ?_ | refine χ1 ?_ | refine κ1 ?_ | refine κ2 ?_ | refine χ2 ?_ | refine κ3 ?_ | refine ω6 ?_ | refine ω7 ?_ | refine ω9 ?_ | refine κ4 ?_ | refine κ7 ?_ | refine κ8 ?_ | refine χ3 ?_ | refine χ4 ?_ | refine κ5 ?_ | refine κ6 ?_ | refine χ5 ?_ | refine χ6 ?_ | refine χ7 ?_ | refine ω8 ?_
  refine fin1 ⟨?_, rfl⟩
  rw [i64w (z := (lenB x : Int)) (by omega)]
  simp only [Int.zero_add]
  rw [i64w (by omega)]
set_option maxRecDepth 100000 in
theorem natBits_any {v : Value} {n : Nat} {w : World} (hv : NatV w v n) (h : n < 256) : Ret Try.prog 43 [v] w fun r w' => r = .int .i64 (lenB n : Int) ∧ w' = w := by
  refine enterR Try.func43 Try.ntmps43 rfl (by kernel_rfl) rfl ?_
  repeat first | refine ω1 ?_ | refine ω2 ?_ | refine ω3 ?_ | refine ω4 ?_ | refine ω5 ?_ | refine χ1 ?_ | refine κ1 ?_ | refine κ2 ?_ | refine χ2 ?_ | refine κ3 ?_ | refine ω6 ?_ | refine ω7 ?_ | refine ω9 ?_ | refine κ4 ?_ | refine κ7 ?_ | refine κ8 ?_ | refine χ3 ?_ | refine χ4 ?_ | refine κ5 ?_ | refine κ6 ?_ | refine χ5 ?_ | refine χ6 ?_ | refine χ7 ?_ | refine ω8 ?_
  refine cl (trimV hv) ?_
  rintro v' w' ⟨⟨A, rfl, ha⟩, rfl⟩
  by_cases h0 : n = 0
  · subst h0
    rw [limbs_0]
    repeat first | refine ω1 ?_ | refine ω2 ?_ | refine ω3 ?_ | refine ω4 ?_ | refine ω5 ?_ | refine χ1 ?_ | refine κ1 ?_ | refine κ2 ?_ | refine χ2 ?_ | refine κ3 ?_ | refine ω6 ?_ | refine ω7 ?_ | refine ω9 ?_ | refine κ4 ?_ | refine κ7 ?_ | refine κ8 ?_ | refine χ3 ?_ | refine χ4 ?_ | refine κ5 ?_ | refine κ6 ?_ | refine χ5 ?_ | refine χ6 ?_ | refine χ7 ?_ | refine ω8 ?_
    exact fin1 ⟨rfl, rfl⟩
  · have hl : limbs n = [UInt32.ofNat n] := by
      rw [limbs_pos h0, show n / 4294967296 = 0 by omega, limbs_0]
    rw [hl] at ha ⊢
    repeat first | refine ω1 ?_ | refine ω2 ?_ | refine ω3 ?_ | refine ω4 ?_ | refine ω5 ?_ | refine χ1 ?_ | refine κ1 ?_ | refine κ2 ?_ | refine χ2 ?_ | refine κ3 ?_ | refine ω6 ?_ | refine ω7 ?_ | refine ω9 ?_ | refine κ4 ?_ | refine κ7 ?_ | refine κ8 ?_ | refine χ3 ?_ | refine χ4 ?_ | refine κ5 ?_ | refine κ6 ?_ | refine χ5 ?_ | refine χ6 ?_ | refine χ7 ?_ | refine ω8 ?_
    refine ix 0 ha (by simp) ?_
    repeat first | refine ω1 ?_ | refine ω2 ?_ | refine ω3 ?_ | refine ω4 ?_ | refine ω5 ?_ | refine χ1 ?_ | refine κ1 ?_ | refine κ2 ?_ | refine χ2 ?_ | refine κ3 ?_ | refine ω6 ?_ | refine ω7 ?_ | refine ω9 ?_ | refine κ4 ?_ | refine κ7 ?_ | refine κ8 ?_ | refine χ3 ?_ | refine χ4 ?_ | refine κ5 ?_ | refine κ6 ?_ | refine χ5 ?_ | refine χ6 ?_ | refine χ7 ?_ | refine ω8 ?_
    refine ld (ha.cell (k := 0) (Nc_get (by simp))) ?_
    repeat first | refine ω1 ?_ | refine ω2 ?_ | refine ω3 ?_ | refine ω4 ?_ | refine ω5 ?_ | refine χ1 ?_ | refine κ1 ?_ | refine κ2 ?_ | refine χ2 ?_ | refine κ3 ?_ | refine ω6 ?_ | refine ω7 ?_ | refine ω9 ?_ | refine κ4 ?_ | refine κ7 ?_ | refine κ8 ?_ | refine χ3 ?_ | refine χ4 ?_ | refine κ5 ?_ | refine κ6 ?_ | refine χ5 ?_ | refine χ6 ?_ | refine χ7 ?_ | refine ω8 ?_
    have e : (((([UInt32.ofNat n].getD 0 0).toNat : Nat) : Int)) = (n : Int) := by
      simp only [List.getD_cons_zero, UInt32.toNat_ofNat']
      omega
    rw [e]
    refine cl (len32_any h _) ?_
    rintro _ w2 ⟨rfl, rfl⟩
    have := lenB_le h
    repeat first | refine ω1 ?_ | refine ω2 ?_ | refine ω3 ?_ | refine ω4 ?_ | refine ω5 ?_ | refine χ1 ?_ | refine κ1 ?_ | refine κ2 ?_ | refine χ2 ?_ | refine κ3 ?_ | refine ω6 ?_ | refine ω7 ?_ | refine ω9 ?_ | refine κ4 ?_ | refine κ7 ?_ | refine κ8 ?_ | refine χ3 ?_ | refine χ4 ?_ | refine κ5 ?_ | refine κ6 ?_ | refine χ5 ?_ | refine χ6 ?_ | refine χ7 ?_ | refine ω8 ?_
    refine fin1 ⟨?_, rfl⟩
    simp only [List.length_cons, List.length_nil]
    rw [i64w (z := ((0 + 1 : Nat) : Int) - 1) (by omega), i64w (z := 32 * (((0 + 1 : Nat) : Int) - 1)) (by omega), i64w (by omega)]
    congr 1
    omega
theorem zCnt : zeroOf Try.prog 78 = some (.agg #[.slice none 0 0, .slice none 0 0, .slice none 0 0, .slice none 0 0]) := by kernel_rfl
set_option maxRecDepth 100000 in
set_option maxHeartbeats 2000000 in
theorem differenceSteps_any {v : Value} {a b : List (UInt8 × UInt8)} {t : Int} {w : World} (hS : SetsG w v a b) (ht : 0 ≤ t ∧ t ≤ 255) :
    Ret Try.prog 10 [v, .int .u8 t] w fun x w' => x = .bool true ∧ Ext w w' := by
  obtain ⟨xa, xb, rfl, hPa, hPb⟩ := id hS
  obtain ⟨Aa, ca, rfl, _⟩ := id hPa
  obtain ⟨Ab, cb, rfl, _⟩ := id hPb
  refine enterR Try.func10 Try.ntmps10 rfl (by kernel_rfl) rfl ?_
  repeat first | refine ω1 ?_ | refine ω2 ?_ | refine ω3 ?_ | refine ω4 ?_ | refine ω5 ?_ | refine χ1 ?_ | refine κ1 ?_ | refine κ2 ?_ | refine χ2 ?_ | refine κ3 ?_ | refine ω6 ?_ | refine ω7 ?_ | refine ω9 ?_ | refine κ4 ?_ | refine κ7 ?_ | refine κ8 ?_ | refine χ3 ?_ | refine χ4 ?_ | refine κ5 ?_ | refine κ6 ?_ | refine χ5 ?_ | refine χ6 ?_ | refine χ7 ?_ | refine ω8 ?_
  refine bx ?_
  intro w1 b1 hx1 hb1 hk1
  repeat first | refine ω1 ?_ | refine ω2 ?_ | refine ω3 ?_ | refine ω4 ?_ | refine ω5 ?_ | refine χ1 ?_ | refine κ1 ?_ | refine κ2 ?_ | refine χ2 ?_ | refine κ3 ?_ | refine ω6 ?_ | refine ω7 ?_ | refine ω9 ?_ | refine κ4 ?_ | refine κ7 ?_ | refine κ8 ?_ | refine χ3 ?_ | refine χ4 ?_ | refine κ5 ?_ | refine κ6 ?_ | refine χ5 ?_ | refine χ6 ?_ | refine χ7 ?_ | refine ω8 ?_
  refine lds (fun j u hu => hk1.at hu) ?_
  repeat first | refine ω1 ?_ | refine ω2 ?_ | refine ω3 ?_ | refine ω4 ?_ | refine ω5 ?_ | refine χ1 ?_ | refine κ1 ?_ | refine κ2 ?_ | refine χ2 ?_ | refine κ3 ?_ | refine ω6 ?_ | refine ω7 ?_ | refine ω9 ?_ | refine κ4 ?_ | refine κ7 ?_ | refine κ8 ?_ | refine χ3 ?_ | refine χ4 ?_ | refine κ5 ?_ | refine κ6 ?_ | refine χ5 ?_ | refine χ6 ?_ | refine χ7 ?_ | refine ω8 ?_
  refine cl (great47_any (hS.ext hx1) (BlsG.nil _)) ?_
  rintro _ w3 ⟨rfl, hx3⟩
  have hx03 := hx1.trans hx3
  repeat first | refine ω1 ?_ | refine ω2 ?_ | refine ω3 ?_ | refine ω4 ?_ | refine ω5 ?_ | refine χ1 ?_ | refine κ1 ?_ | refine κ2 ?_ | refine χ2 ?_ | refine κ3 ?_ | refine ω6 ?_ | refine ω7 ?_ | refine ω9 ?_ | refine κ4 ?_ | refine κ7 ?_ | refine κ8 ?_ | refine χ3 ?_ | refine χ4 ?_ | refine κ5 ?_ | refine κ6 ?_ | refine χ5 ?_ | refine χ6 ?_ | refine χ7 ?_ | refine ω8 ?_
  refine ci (fun hg => ?_) (fun hg => ?_)
  · repeat first | refine ω1 ?_ | refine ω2 ?_ | refine ω3 ?_ | refine ω4 ?_ | refine ω5 ?_ | refine χ1 ?_ | refine κ1 ?_ | refine κ2 ?_ | refine χ2 ?_ | refine κ3 ?_ | refine ω6 ?_ | refine ω7 ?_ | refine ω9 ?_ | refine κ4 ?_ | refine κ7 ?_ | refine κ8 ?_ | refine χ3 ?_ | refine χ4 ?_ | refine κ5 ?_ | refine κ6 ?_ | refine χ5 ?_ | refine χ6 ?_ | refine χ7 ?_ | refine ω8 ?_
    refine cl (awake47_any _) ?_
    rintro _ w4 ⟨rfl, hx4⟩
    repeat first | refine ω1 ?_ | refine ω2 ?_ | refine ω3 ?_ | refine ω4 ?_ | refine ω5 ?_ | refine χ1 ?_ | refine κ1 ?_ | refine κ2 ?_ | refine χ2 ?_ | refine κ3 ?_ | refine ω6 ?_ | refine ω7 ?_ | refine ω9 ?_ | refine κ4 ?_ | refine κ7 ?_ | refine κ8 ?_ | refine χ3 ?_ | refine χ4 ?_ | refine κ5 ?_ | refine κ6 ?_ | refine χ5 ?_ | refine χ6 ?_ | refine χ7 ?_ | refine ω8 ?_
    exact fin1 ⟨rfl, hx03.trans hx4⟩
  simp only [Bool.or_eq_false_iff, decide_eq_false_iff_not] at hg
  obtain ⟨⟨hla, hlb⟩, _⟩ := hg
  have hk3 := hk1.ext hx3
  repeat first | refine ω1 ?_ | refine ω2 ?_ | refine ω3 ?_ | refine ω4 ?_ | refine ω5 ?_ | refine χ1 ?_ | refine κ1 ?_ | refine κ2 ?_ | refine χ2 ?_ | refine κ3 ?_ | refine ω6 ?_ | refine ω7 ?_ | refine ω9 ?_ | refine κ4 ?_ | refine κ7 ?_ | refine κ8 ?_ | refine χ3 ?_ | refine χ4 ?_ | refine κ5 ?_ | refine κ6 ?_ | refine χ5 ?_ | refine χ6 ?_ | refine χ7 ?_ | refine ω8 ?_
  refine dr [(0, 0), (0, 1), (0, 4), (0, 5), (1, 2), (1, 3), (1, 6), (1, 7), (0, 8), (0, 9)] (by kernel_rfl) ?_
  have hxd : Ext w3 w3.drew := (Ext.refl w3).drew
  have hx03d := hx03.trans hxd
  repeat first | refine δ1 ?_ | refine δ2 ?_ | refine δ4 ?_ | refine δ5 ?_ | refine δ6 ?_ | refine δ7 ?_ | refine δ9 ?_ | refine δ8 ?_ | refine χ1 ?_ | refine χ2 ?_ | refine χ3 ?_ | refine χ4 ?_ | refine χ5 ?_ | refine χ6 ?_ | refine χ7 ?_
  refine dld ((hk3.ext hxd).at rfl) ?_
  repeat first | refine δ1 ?_ | refine δ2 ?_ | refine δ4 ?_ | refine δ5 ?_ | refine δ6 ?_ | refine δ7 ?_ | refine δ9 ?_ | refine δ8 ?_ | refine χ1 ?_ | refine χ2 ?_ | refine χ3 ?_ | refine χ4 ?_ | refine χ5 ?_ | refine χ6 ?_ | refine χ7 ?_
  refine dld ((hk3.ext hxd).at rfl) ?_
  repeat first | refine δ1 ?_ | refine δ2 ?_ | refine δ4 ?_ | refine δ5 ?_ | refine δ6 ?_ | refine δ7 ?_ | refine δ9 ?_ | refine δ8 ?_ | refine χ1 ?_ | refine χ2 ?_ | refine χ3 ?_ | refine χ4 ?_ | refine χ5 ?_ | refine χ6 ?_ | refine χ7 ?_
  refine dcl (rows47_any (hPa.ext hx03d) (by omega)) ?_
  rintro va w4 ⟨ha4, hx4⟩
  refine ⟨hx4, ?_⟩
  have hx04 := hx03d.trans hx4
  repeat first | refine δ1 ?_ | refine δ2 ?_ | refine δ4 ?_ | refine δ5 ?_ | refine δ6 ?_ | refine δ7 ?_ | refine δ9 ?_ | refine δ8 ?_ | refine χ1 ?_ | refine χ2 ?_ | refine χ3 ?_ | refine χ4 ?_ | refine χ5 ?_ | refine χ6 ?_ | refine χ7 ?_
  refine dcl (sort47_any ha4 (BoolsV.nil _ none 0) (by simp; omega)) ?_
  rintro vA w5 ⟨⟨A, hA5, hsA, hlA⟩, hx5⟩
  refine ⟨hx5, ?_⟩
  have hx05 := hx04.trans hx5
  repeat first | refine δ1 ?_ | refine δ2 ?_ | refine δ4 ?_ | refine δ5 ?_ | refine δ6 ?_ | refine δ7 ?_ | refine δ9 ?_ | refine δ8 ?_ | refine χ1 ?_ | refine χ2 ?_ | refine χ3 ?_ | refine χ4 ?_ | refine χ5 ?_ | refine χ6 ?_ | refine χ7 ?_
  refine dcl (rows47_any (hPb.ext hx05) (by omega)) ?_
  rintro vb w6 ⟨hb6, hx6⟩
  refine ⟨hx6, ?_⟩
  have hx06 := hx05.trans hx6
  repeat first | refine δ1 ?_ | refine δ2 ?_ | refine δ4 ?_ | refine δ5 ?_ | refine δ6 ?_ | refine δ7 ?_ | refine δ9 ?_ | refine δ8 ?_ | refine χ1 ?_ | refine χ2 ?_ | refine χ3 ?_ | refine χ4 ?_ | refine χ5 ?_ | refine χ6 ?_ | refine χ7 ?_
  refine dcl (sort47_any hb6 (BoolsV.nil _ none 0) (by simp; omega)) ?_
  rintro vB w7 ⟨⟨B, hB7, hsB, hlB⟩, hx7⟩
  refine ⟨hx7, ?_⟩
  have hx07 := hx06.trans hx7
  have hA7 := (hA5.ext hx6).ext hx7
  have hlA40 : A.length ≤ 40 := by simp at hlA; omega
  obtain ⟨A5, c5, rfl, hc5, hm5, _⟩ := id hA7.parts
  repeat first | refine δ1 ?_ | refine δ2 ?_ | refine δ4 ?_ | refine δ5 ?_ | refine δ6 ?_ | refine δ7 ?_ | refine δ9 ?_ | refine δ8 ?_ | refine χ1 ?_ | refine χ2 ?_ | refine χ3 ?_ | refine χ4 ?_ | refine χ5 ?_ | refine χ6 ?_ | refine χ7 ?_
  repeat first | refine ω1 ?_ | refine ω2 ?_ | refine ω3 ?_ | refine ω4 ?_ | refine ω5 ?_ | refine χ1 ?_ | refine κ1 ?_ | refine κ2 ?_ | refine χ2 ?_ | refine κ3 ?_ | refine ω6 ?_ | refine ω7 ?_ | refine ω9 ?_ | refine κ4 ?_ | refine κ7 ?_ | refine κ8 ?_ | refine χ3 ?_ | refine χ4 ?_ | refine κ5 ?_ | refine κ6 ?_ | refine χ5 ?_ | refine χ6 ?_ | refine χ7 ?_ | refine ω8 ?_
  refine cl (both47_any hA7 hB7) ?_
  rintro vC w8 ⟨hC8, hx8⟩
  generalize hq : (fun r : Row => decide (r ∈ B)) = q at *
  have hlC : (A.filter q).length ≤ A.length := List.length_filter_le _ _
  obtain ⟨AC, cC, rfl, hcC, hmC, _⟩ := id hC8.parts
  have hx08 := hx07.trans hx8
  repeat first | refine ω1 ?_ | refine ω2 ?_ | refine ω3 ?_ | refine ω4 ?_ | refine ω5 ?_ | refine χ1 ?_ | refine κ1 ?_ | refine κ2 ?_ | refine χ2 ?_ | refine κ3 ?_ | refine ω6 ?_ | refine ω7 ?_ | refine ω9 ?_ | refine κ4 ?_ | refine κ7 ?_ | refine κ8 ?_ | refine χ3 ?_ | refine χ4 ?_ | refine κ5 ?_ | refine κ6 ?_ | refine χ5 ?_ | refine χ6 ?_ | refine χ7 ?_ | refine ω8 ?_
  refine cl ascending_any ?_
  rintro _ w9 ⟨⟨b9, rfl⟩, hx9⟩
  repeat first | refine ω1 ?_ | refine ω2 ?_ | refine ω3 ?_ | refine ω4 ?_ | refine ω5 ?_ | refine χ1 ?_ | refine κ1 ?_ | refine κ2 ?_ | refine χ2 ?_ | refine κ3 ?_ | refine ω6 ?_ | refine ω7 ?_ | refine ω9 ?_ | refine κ4 ?_ | refine κ7 ?_ | refine κ8 ?_ | refine χ3 ?_ | refine χ4 ?_ | refine κ5 ?_ | refine κ6 ?_ | refine χ5 ?_ | refine χ6 ?_ | refine χ7 ?_ | refine ω8 ?_
  refine bld (bldCnt _ _ _ _ _ _ _ _ _ _ _ rfl rfl rfl rfl _) ?_
  repeat first | refine ω1 ?_ | refine ω2 ?_ | refine ω3 ?_ | refine ω4 ?_ | refine ω5 ?_ | refine χ1 ?_ | refine κ1 ?_ | refine κ2 ?_ | refine χ2 ?_ | refine κ3 ?_ | refine ω6 ?_ | refine ω7 ?_ | refine ω9 ?_ | refine κ4 ?_ | refine κ7 ?_ | refine κ8 ?_ | refine χ3 ?_ | refine χ4 ?_ | refine κ5 ?_ | refine κ6 ?_ | refine χ5 ?_ | refine χ6 ?_ | refine χ7 ?_ | refine ω8 ?_
  refine alc zCnt ?_
  intro w10 b10 hx10 hb10 hk10
  repeat first | refine ω1 ?_ | refine ω2 ?_ | refine ω3 ?_ | refine ω4 ?_ | refine ω5 ?_ | refine χ1 ?_ | refine κ1 ?_ | refine κ2 ?_ | refine χ2 ?_ | refine κ3 ?_ | refine ω6 ?_ | refine ω7 ?_ | refine ω9 ?_ | refine κ4 ?_ | refine κ7 ?_ | refine κ8 ?_ | refine χ3 ?_ | refine χ4 ?_ | refine κ5 ?_ | refine κ6 ?_ | refine χ5 ?_ | refine χ6 ?_ | refine χ7 ?_ | refine ω8 ?_
  refine stb hk10 (cs' := [.slice AC (A.filter q).length cC, .slice (some ⟨b9, 0, none⟩) 2 2, .slice none 0 0, .slice A5 A.length c5]) ?_ (fun u hu => by simp at hu; rcases hu with rfl | rfl | rfl | rfl <;> rfl)
  intro w11 hk11 hg11 hx11
  have hx911 : Ext w9 w11 := hx11 w9 hx10 hb10
  have hx011 := (hx08.trans hx9).trans hx911
  repeat first | refine ω1 ?_ | refine ω2 ?_ | refine ω3 ?_ | refine ω4 ?_ | refine ω5 ?_ | refine χ1 ?_ | refine κ1 ?_ | refine κ2 ?_ | refine χ2 ?_ | refine κ3 ?_ | refine ω6 ?_ | refine ω7 ?_ | refine ω9 ?_ | refine κ4 ?_ | refine κ7 ?_ | refine κ8 ?_ | refine χ3 ?_ | refine χ4 ?_ | refine κ5 ?_ | refine κ6 ?_ | refine χ5 ?_ | refine χ6 ?_ | refine χ7 ?_ | refine ω8 ?_
  have hA11 := ((hA7.ext hx8).ext hx9).ext hx911
  have hC11 := (hC8.ext hx9).ext hx911
  have hD := list_H hsA.1.nodup q
  have hCO := cntO (y := .slice (some ⟨b9, 0, none⟩) 2 2) (z := .slice none 0 0) hC11 hA11 (by rw [hD.2]; exact Nat.le_refl _)
  refine drH (fun i => Nat.beq i 10 || Nat.beq i 11) ?_
  have hxd : Ext w11 w11.drew := (Ext.refl w11).drew
  refine hpre (fuel' := 9) 12 [(0, 0), (0, 3), (0, 4)] #[true, false, false, true, true, false, false, false, false, false, false, false] (by kernel_rfl) (by kernel_rfl) rfl ?_
  repeat first | refine δ1 ?_ | refine δ2 ?_ | refine δ4 ?_ | refine δ5 ?_ | refine δ6 ?_ | refine δ7 ?_ | refine δ9 ?_ | refine δ8 ?_ | refine χ1 ?_ | refine χ2 ?_ | refine χ3 ?_ | refine χ4 ?_ | refine χ5 ?_ | refine χ6 ?_ | refine χ7 ?_
  refine dlds (fun j u hu => (hk11.ext hxd).at hu) ?_
  repeat first | refine δ1 ?_ | refine δ2 ?_ | refine δ4 ?_ | refine δ5 ?_ | refine δ6 ?_ | refine δ7 ?_ | refine δ9 ?_ | refine δ8 ?_ | refine χ1 ?_ | refine χ2 ?_ | refine χ3 ?_ | refine χ4 ?_ | refine χ5 ?_ | refine χ6 ?_ | refine χ7 ?_
  refine dmki Try.underlying78 (fun ms e => by cases e) ?_
  repeat first | refine δ1 ?_ | refine δ2 ?_ | refine δ4 ?_ | refine δ5 ?_ | refine δ6 ?_ | refine δ7 ?_ | refine δ9 ?_ | refine δ8 ?_ | refine χ1 ?_ | refine χ2 ?_ | refine χ3 ?_ | refine χ4 ?_ | refine χ5 ?_ | refine χ6 ?_ | refine χ7 ?_
  refine hback ?_
  refine hcut 2 (lst 12 10) (fun (x : Nat × Nat) => [(1, .int .u8 t), (2, .pointer (some ⟨b1, 0, none⟩)), (4, .bool false), (5, .slice A5 A.length c5), (6, vB), (8, .pointer (some ⟨x.1, 0, none⟩)),
      (39, .agg #[.iface 75 (.agg #[.slice A5 A.length c5, .slice (some ⟨x.2, 0, none⟩) 2 2, .slice none 0 0]), .iface 78 (.agg #[.slice AC (A.filter q).length cC, .slice (some ⟨b9, 0, none⟩) 2 2, .slice none 0 0, .slice A5 A.length c5])]), (40, .int .i64 0)])
    (fun x W => Ext w11 W ∧ Blk W x.1 66 [.nilIface, .nilIface] ∧ w11.heap.size ≤ x.1) ?_ ?_
  · rintro ⟨b14, b13⟩ w13 ⟨hx13, hk13, hb13⟩
    refine hpre (fuel' := 0) 12 [(2, 10), (2, 11)] (lst 12 12) (by kernel_rfl) (by kernel_rfl) rfl ?_
    refine dtail ?_
    refine stb hk13 (cs' := [.iface 75 _, .iface 78 _]) ?_ (fun u hu => by simp at hu; rcases hu with rfl | rfl <;> rfl)
    intro w14 hk14 hg14 hx14
    have hx1114 : Ext w11 w14 := hx14 w11 hx13 hb13
    refine wnil (dback ?_)
    refine dtail ?_
    repeat first | refine ω1 ?_ | refine ω2 ?_ | refine ω3 ?_ | refine ω4 ?_ | refine ω5 ?_ | refine χ1 ?_ | refine κ1 ?_ | refine κ2 ?_ | refine χ2 ?_ | refine κ3 ?_ | refine ω6 ?_ | refine ω7 ?_ | refine ω9 ?_ | refine κ4 ?_ | refine κ7 ?_ | refine κ8 ?_ | refine χ3 ?_ | refine χ4 ?_ | refine κ5 ?_ | refine κ6 ?_ | refine χ5 ?_ | refine χ6 ?_ | refine χ7 ?_ | refine ω8 ?_
    refine dback ?_
    refine dnil (hback ?_)
    refine hend (by kernel_rfl) ?_
    have hx014 := hx011.trans hx1114
    have hB14 := ((hB7.ext hx8).ext hx9).ext (hx911.trans hx1114)
    have hAO := listO (y := .slice (some ⟨b13, 0, none⟩) 2 2) (z := .slice none 0 0) hA11
    repeat first | refine ω1 ?_ | refine ω2 ?_ | refine ω3 ?_ | refine ω4 ?_ | refine ω5 ?_ | refine χ1 ?_ | refine κ1 ?_ | refine κ2 ?_ | refine χ2 ?_ | refine κ3 ?_ | refine ω6 ?_ | refine ω7 ?_ | refine ω9 ?_ | refine κ4 ?_ | refine κ7 ?_ | refine κ8 ?_ | refine χ3 ?_ | refine χ4 ?_ | refine κ5 ?_ | refine κ6 ?_ | refine χ5 ?_ | refine χ6 ?_ | refine χ7 ?_ | refine ω8 ?_
    refine cl (minus47_any (hA11.ext hx1114) hB14) ?_
    rintro vW w15 ⟨hW15, hx15⟩
    have hWd : A.filter (fun r => !decide (r ∈ B)) = dif2 A (A.filter q) := by rw [filt_dif, ← hq]
    rw [hWd] at hW15
    obtain ⟨AW, cW, rfl, _, _, csW, hrW, hcW⟩ := id hW15.parts
    have hlW : (dif2 A (A.filter q)).length ≤ 40 := by have := hD.len.1; omega
    have hx1115 := hx1114.trans hx15
    have hk15 := hk14.ext hx15
    have hx015 := hx014.trans hx15
    repeat first | refine ω1 ?_ | refine ω2 ?_ | refine ω3 ?_ | refine ω4 ?_ | refine ω5 ?_ | refine χ1 ?_ | refine κ1 ?_ | refine κ2 ?_ | refine χ2 ?_ | refine κ3 ?_ | refine ω6 ?_ | refine ω7 ?_ | refine ω9 ?_ | refine κ4 ?_ | refine κ7 ?_ | refine κ8 ?_ | refine χ3 ?_ | refine χ4 ?_ | refine κ5 ?_ | refine κ6 ?_ | refine χ5 ?_ | refine χ6 ?_ | refine χ7 ?_ | refine ω8 ?_
    refine ci (fun h => ?_) (fun h => ?_)
    · repeat first | refine ω1 ?_ | refine ω2 ?_ | refine ω3 ?_ | refine ω4 ?_ | refine ω5 ?_ | refine χ1 ?_ | refine κ1 ?_ | refine κ2 ?_ | refine χ2 ?_ | refine κ3 ?_ | refine ω6 ?_ | refine ω7 ?_ | refine ω9 ?_ | refine κ4 ?_ | refine κ7 ?_ | refine κ8 ?_ | refine χ3 ?_ | refine χ4 ?_ | refine κ5 ?_ | refine κ6 ?_ | refine χ5 ?_ | refine χ6 ?_ | refine χ7 ?_ | refine ω8 ?_
      refine cl (awake47_any _) ?_
      rintro _ w16 ⟨rfl, hx16⟩
      repeat first | refine ω1 ?_ | refine ω2 ?_ | refine ω3 ?_ | refine ω4 ?_ | refine ω5 ?_ | refine χ1 ?_ | refine κ1 ?_ | refine κ2 ?_ | refine χ2 ?_ | refine κ3 ?_ | refine ω6 ?_ | refine ω7 ?_ | refine ω9 ?_ | refine κ4 ?_ | refine κ7 ?_ | refine κ8 ?_ | refine χ3 ?_ | refine χ4 ?_ | refine κ5 ?_ | refine κ6 ?_ | refine χ5 ?_ | refine χ6 ?_ | refine χ7 ?_ | refine ω8 ?_
      exact fin1 ⟨rfl, hx015.trans hx16⟩
    have hpos : 0 < (dif2 A (A.filter q)).length := by have := of_beq_f h; omega
    repeat first | refine ω1 ?_ | refine ω2 ?_ | refine ω3 ?_ | refine ω4 ?_ | refine ω5 ?_ | refine χ1 ?_ | refine κ1 ?_ | refine κ2 ?_ | refine χ2 ?_ | refine κ3 ?_ | refine ω6 ?_ | refine ω7 ?_ | refine ω9 ?_ | refine κ4 ?_ | refine κ7 ?_ | refine κ8 ?_ | refine χ3 ?_ | refine χ4 ?_ | refine κ5 ?_ | refine κ6 ?_ | refine χ5 ?_ | refine χ6 ?_ | refine χ7 ?_ | refine ω8 ?_
    have hne : (((dif2 A (A.filter q)).length : Nat) : Int) ≠ 0 := by omega
    refine rem hne ?_
    have hlt : t.toNat % (dif2 A (A.filter q)).length < (dif2 A (A.filter q)).length := Nat.mod_lt _ hpos
    have ek : (IntKind.i64.wrap t).tmod (((dif2 A (A.filter q)).length : Nat) : Int) = ((t.toNat % (dif2 A (A.filter q)).length : Nat) : Int) := by
      rw [i64w (by omega)]
      obtain ⟨n, rfl⟩ := Int.eq_ofNat_of_zero_le ht.1
      rfl
    rw [ek]
    generalize t.toNat % (dif2 A (A.filter q)).length = k at *
    repeat first | refine ω1 ?_ | refine ω2 ?_ | refine ω3 ?_ | refine ω4 ?_ | refine ω5 ?_ | refine χ1 ?_ | refine κ1 ?_ | refine κ2 ?_ | refine χ2 ?_ | refine κ3 ?_ | refine ω6 ?_ | refine ω7 ?_ | refine ω9 ?_ | refine κ4 ?_ | refine κ7 ?_ | refine κ8 ?_ | refine χ3 ?_ | refine χ4 ?_ | refine κ5 ?_ | refine κ6 ?_ | refine χ5 ?_ | refine χ6 ?_ | refine χ7 ?_ | refine ω8 ?_
    refine dr [(0, 0), (0, 1), (1, 2), (1, 3), (0, 4), (0, 5), (0, 6), (0, 7), (0, 8), (0, 9), (0, 10)] (by kernel_rfl) ?_
    have hxd15 : Ext w15 w15.drew := (Ext.refl w15).drew
    have hx015d := hx015.trans hxd15
    repeat first | refine δ1 ?_ | refine δ2 ?_ | refine δ4 ?_ | refine δ5 ?_ | refine δ6 ?_ | refine δ7 ?_ | refine δ9 ?_ | refine δ8 ?_ | refine χ1 ?_ | refine χ2 ?_ | refine χ3 ?_ | refine χ4 ?_ | refine χ5 ?_ | refine χ6 ?_ | refine χ7 ?_
    refine dlds (fun j u hu => (hk15.ext hxd15).at hu) ?_
    repeat first | refine δ1 ?_ | refine δ2 ?_ | refine δ4 ?_ | refine δ5 ?_ | refine δ6 ?_ | refine δ7 ?_ | refine δ9 ?_ | refine δ8 ?_ | refine χ1 ?_ | refine χ2 ?_ | refine χ3 ?_ | refine χ4 ?_ | refine χ5 ?_ | refine χ6 ?_ | refine χ7 ?_
    refine dcl (of47_any (n := k) (by omega) _) ?_
    rintro vk w16 ⟨hk16, _, hx16⟩
    refine ⟨hx16, ?_⟩
    have hx1116 := (hx1115.trans hxd15).trans hx16
    repeat first | refine δ1 ?_ | refine δ2 ?_ | refine δ4 ?_ | refine δ5 ?_ | refine δ6 ?_ | refine δ7 ?_ | refine δ9 ?_ | refine δ8 ?_ | refine χ1 ?_ | refine χ2 ?_ | refine χ3 ?_ | refine χ4 ?_ | refine χ5 ?_ | refine χ6 ?_ | refine χ7 ?_
    refine dcl (difAt_any hD (hAO.ext hx1116) (hCO.ext hx1116) (fun _ _ => trivial) hk16 (by omega)) ?_
    rintro x w17 ⟨hx, hx17⟩
    refine ⟨hx17, ?_⟩
    unfold DAt at hx
    rw [if_pos hlt] at hx
    obtain ⟨vr, s, rfl, hr17, hs17⟩ := hx
    have hx1517 := (hxd15.trans hx16).trans hx17
    obtain ⟨u, hu, hru⟩ := hcW k hlt
    repeat first | refine δ1 ?_ | refine δ2 ?_ | refine δ4 ?_ | refine δ5 ?_ | refine δ6 ?_ | refine δ7 ?_ | refine δ9 ?_ | refine δ8 ?_ | refine χ1 ?_ | refine χ2 ?_ | refine χ3 ?_ | refine χ4 ?_ | refine χ5 ?_ | refine χ6 ?_ | refine χ7 ?_
    repeat first | refine ω1 ?_ | refine ω2 ?_ | refine ω3 ?_ | refine ω4 ?_ | refine ω5 ?_ | refine χ1 ?_ | refine κ1 ?_ | refine κ2 ?_ | refine χ2 ?_ | refine κ3 ?_ | refine ω6 ?_ | refine ω7 ?_ | refine ω9 ?_ | refine κ4 ?_ | refine κ7 ?_ | refine κ8 ?_ | refine χ3 ?_ | refine χ4 ?_ | refine κ5 ?_ | refine κ6 ?_ | refine χ5 ?_ | refine χ6 ?_ | refine χ7 ?_ | refine ω8 ?_
    refine ix k (hrW.ext hx1517) hlt ?_
    repeat first | refine ω1 ?_ | refine ω2 ?_ | refine ω3 ?_ | refine ω4 ?_ | refine ω5 ?_ | refine χ1 ?_ | refine κ1 ?_ | refine κ2 ?_ | refine χ2 ?_ | refine κ3 ?_ | refine ω6 ?_ | refine ω7 ?_ | refine ω9 ?_ | refine κ4 ?_ | refine κ7 ?_ | refine κ8 ?_ | refine χ3 ?_ | refine χ4 ?_ | refine κ5 ?_ | refine κ6 ?_ | refine χ5 ?_ | refine χ6 ?_ | refine χ7 ?_ | refine ω8 ?_
    refine ld ((hrW.ext hx1517).cell hu) ?_
    repeat first | refine ω1 ?_ | refine ω2 ?_ | refine ω3 ?_ | refine ω4 ?_ | refine ω5 ?_ | refine χ1 ?_ | refine κ1 ?_ | refine κ2 ?_ | refine χ2 ?_ | refine κ3 ?_ | refine ω6 ?_ | refine ω7 ?_ | refine ω9 ?_ | refine κ4 ?_ | refine κ7 ?_ | refine κ8 ?_ | refine χ3 ?_ | refine χ4 ?_ | refine κ5 ?_ | refine κ6 ?_ | refine χ5 ?_ | refine χ6 ?_ | refine χ7 ?_ | refine ω8 ?_
    refine cl (same03_any hr17 (hru.ext hx1517)) ?_
    rintro _ w18 ⟨rfl, hx18⟩
    rw [decide_eq_true rfl]
    repeat first | refine ω1 ?_ | refine ω2 ?_ | refine ω3 ?_ | refine ω4 ?_ | refine ω5 ?_ | refine χ1 ?_ | refine κ1 ?_ | refine κ2 ?_ | refine χ2 ?_ | refine κ3 ?_ | refine ω6 ?_ | refine ω7 ?_ | refine ω9 ?_ | refine κ4 ?_ | refine κ7 ?_ | refine κ8 ?_ | refine χ3 ?_ | refine χ4 ?_ | refine κ5 ?_ | refine κ6 ?_ | refine χ5 ?_ | refine χ6 ?_ | refine χ7 ?_ | refine ω8 ?_
    refine cl (of47_any (n := A.length) (by omega) _) ?_
    rintro vn w19 ⟨hn19, _, hx19⟩
    repeat first | refine ω1 ?_ | refine ω2 ?_ | refine ω3 ?_ | refine ω4 ?_ | refine ω5 ?_ | refine χ1 ?_ | refine κ1 ?_ | refine κ2 ?_ | refine χ2 ?_ | refine κ3 ?_ | refine ω6 ?_ | refine ω7 ?_ | refine ω9 ?_ | refine κ4 ?_ | refine κ7 ?_ | refine κ8 ?_ | refine χ3 ?_ | refine χ4 ?_ | refine κ5 ?_ | refine κ6 ?_ | refine χ5 ?_ | refine χ6 ?_ | refine χ7 ?_ | refine ω8 ?_
    refine cl (natBits_any hn19 (by omega)) ?_
    rintro _ w20 ⟨rfl, rfl⟩
    have hbA := lenB_le (x := A.length) (by omega)
    have hbm : lenB (A.filter q).length ≤ lenB A.length := lenB_mono hlC
    repeat first | refine ω1 ?_ | refine ω2 ?_ | refine ω3 ?_ | refine ω4 ?_ | refine ω5 ?_ | refine χ1 ?_ | refine κ1 ?_ | refine κ2 ?_ | refine χ2 ?_ | refine κ3 ?_ | refine ω6 ?_ | refine ω7 ?_ | refine ω9 ?_ | refine κ4 ?_ | refine κ7 ?_ | refine κ8 ?_ | refine χ3 ?_ | refine χ4 ?_ | refine κ5 ?_ | refine κ6 ?_ | refine χ5 ?_ | refine χ6 ?_ | refine χ7 ?_ | refine ω8 ?_
    have hle : ((s : Nat) : Int) ≤ 2 * ((lenB A.length : Nat) : Int) + 2 := by omega
    refine kt 83 (decide_eq_true hle) ?_
    repeat first | refine ω1 ?_ | refine ω2 ?_ | refine ω3 ?_ | refine ω4 ?_ | refine ω5 ?_ | refine χ1 ?_ | refine κ1 ?_ | refine κ2 ?_ | refine χ2 ?_ | refine κ3 ?_ | refine ω6 ?_ | refine ω7 ?_ | refine ω9 ?_ | refine κ4 ?_ | refine κ7 ?_ | refine κ8 ?_ | refine χ3 ?_ | refine χ4 ?_ | refine κ5 ?_ | refine κ6 ?_ | refine χ5 ?_ | refine χ6 ?_ | refine χ7 ?_ | refine ω8 ?_
    refine cl (awake47_any _) ?_
    rintro _ w21 ⟨rfl, hx21⟩
    repeat first | refine ω1 ?_ | refine ω2 ?_ | refine ω3 ?_ | refine ω4 ?_ | refine ω5 ?_ | refine χ1 ?_ | refine κ1 ?_ | refine κ2 ?_ | refine χ2 ?_ | refine κ3 ?_ | refine ω6 ?_ | refine ω7 ?_ | refine ω9 ?_ | refine κ4 ?_ | refine κ7 ?_ | refine κ8 ?_ | refine χ3 ?_ | refine χ4 ?_ | refine κ5 ?_ | refine κ6 ?_ | refine χ5 ?_ | refine χ6 ?_ | refine χ7 ?_ | refine ω8 ?_
    exact fin1 ⟨rfl, (((hx015.trans hx1517).trans hx18).trans hx19).trans hx21⟩
  · intro rest
    refine htwo 1 9 (by kernel_rfl) rfl rfl rfl ?_ ?_
    · repeat first | refine ω1 ?_ | refine ω2 ?_ | refine ω3 ?_ | refine ω4 ?_ | refine ω5 ?_ | refine χ1 ?_ | refine κ1 ?_ | refine κ2 ?_ | refine χ2 ?_ | refine κ3 ?_ | refine ω6 ?_ | refine ω7 ?_ | refine ω9 ?_ | refine κ4 ?_ | refine κ7 ?_ | refine κ8 ?_ | refine χ3 ?_ | refine χ4 ?_ | refine κ5 ?_ | refine κ6 ?_ | refine χ5 ?_ | refine χ6 ?_ | refine χ7 ?_ | refine ω8 ?_
      refine cl ascending_any ?_
      rintro _ w12 ⟨⟨b12, rfl⟩, hx12⟩
      refine wnil (jhback hx12 ?_)
      refine hpre (fuel' := 7) 12 [(0, 2)] #[true, true, true, true, true, false, false, false, false, false, false, false] (by kernel_rfl) (by kernel_rfl) rfl ?_
      repeat first | refine δ1 ?_ | refine δ2 ?_ | refine δ4 ?_ | refine δ5 ?_ | refine δ6 ?_ | refine δ7 ?_ | refine δ9 ?_ | refine δ8 ?_ | refine χ1 ?_ | refine χ2 ?_ | refine χ3 ?_ | refine χ4 ?_ | refine χ5 ?_ | refine χ6 ?_ | refine χ7 ?_
      refine dmki Try.underlying75 (fun ms e => by cases e) ?_
      repeat first | refine δ1 ?_ | refine δ2 ?_ | refine δ4 ?_ | refine δ5 ?_ | refine δ6 ?_ | refine δ7 ?_ | refine δ9 ?_ | refine δ8 ?_ | refine χ1 ?_ | refine χ2 ?_ | refine χ3 ?_ | refine χ4 ?_ | refine χ5 ?_ | refine χ6 ?_ | refine χ7 ?_
      refine hback ?_
      have hxW := hxd.trans hx12
      refine htwo 5 9 (by kernel_rfl) rfl rfl rfl ?_ ?_
      · repeat first | refine ω1 ?_ | refine ω2 ?_ | refine ω3 ?_ | refine ω4 ?_ | refine ω5 ?_ | refine χ1 ?_ | refine κ1 ?_ | refine κ2 ?_ | refine χ2 ?_ | refine κ3 ?_ | refine ω6 ?_ | refine ω7 ?_ | refine ω9 ?_ | refine κ4 ?_ | refine κ7 ?_ | refine κ8 ?_ | refine χ3 ?_ | refine χ4 ?_ | refine κ5 ?_ | refine κ6 ?_ | refine χ5 ?_ | refine χ6 ?_ | refine χ7 ?_ | refine ω8 ?_
        refine cl (difOf_any ((listO (y := .slice (some ⟨b12, 0, none⟩) 2 2) (z := .slice none 0 0) hA11).ext hxW) (hCO.ext hxW)) ?_
        rintro _ w13 ⟨rfl, hx13⟩
        rw [if_pos hlC]
        refine wnil (jhback hx13 ?_)
        refine hpre (fuel' := 4) 12 [(0, 6), (0, 7)] #[true, true, true, true, true, true, true, true, false, false, false, false] (by kernel_rfl) (by kernel_rfl) rfl ?_
        repeat first | refine δ1 ?_ | refine δ2 ?_ | refine δ4 ?_ | refine δ5 ?_ | refine δ6 ?_ | refine δ7 ?_ | refine δ9 ?_ | refine δ8 ?_ | refine χ1 ?_ | refine χ2 ?_ | refine χ3 ?_ | refine χ4 ?_ | refine χ5 ?_ | refine χ6 ?_ | refine χ7 ?_
        refine hback ?_
        refine hpur (fuel' := 3) 8 (by kernel_rfl) (by kernel_rfl) rfl rfl ?_
        repeat first | refine π1 ?_ | refine π2 ?_ | refine π4 ?_ | refine π5 ?_
        repeat first | refine δ1 ?_ | refine δ2 ?_ | refine δ4 ?_ | refine δ5 ?_ | refine δ6 ?_ | refine δ7 ?_ | refine δ9 ?_ | refine δ8 ?_ | refine χ1 ?_ | refine χ2 ?_ | refine χ3 ?_ | refine χ4 ?_ | refine χ5 ?_ | refine χ6 ?_ | refine χ7 ?_
        refine hback ?_
        refine hpre (fuel' := 2) 12 [(1, 9)] (lst 12 10) (by kernel_rfl) (by kernel_rfl) rfl ?_
        refine dalc zDif ?_
        intro w14 b14 hx14 hb14 hk14
        repeat first | refine δ1 ?_ | refine δ2 ?_ | refine δ4 ?_ | refine δ5 ?_ | refine δ6 ?_ | refine δ7 ?_ | refine δ9 ?_ | refine δ8 ?_ | refine χ1 ?_ | refine χ2 ?_ | refine χ3 ?_ | refine χ4 ?_ | refine χ5 ?_ | refine χ6 ?_ | refine χ7 ?_
        refine hback ?_
        have hs := (hxW.trans hx13).size
        exact rest (b14, b12) _ _ ⟨(hxW.trans hx13).trans hx14, hk14, Nat.le_trans hs hb14⟩ (by repeat' (first | exact Sub.nil | refine Sub.cons rfl ?_))
      · repeat first | refine ω1 ?_ | refine ω2 ?_ | refine ω3 ?_ | refine ω4 ?_ | refine ω5 ?_ | refine χ1 ?_ | refine κ1 ?_ | refine κ2 ?_ | refine χ2 ?_ | refine κ3 ?_ | refine ω6 ?_ | refine ω7 ?_ | refine ω9 ?_ | refine κ4 ?_ | refine κ7 ?_ | refine κ8 ?_ | refine χ3 ?_ | refine χ4 ?_ | refine κ5 ?_ | refine κ6 ?_ | refine χ5 ?_ | refine χ6 ?_ | refine χ7 ?_ | refine ω8 ?_
        refine alc zDif ?_
        intro w14 b14 hx14 hb14 hk14
        refine wnil (jhback hx14 ?_)
        have hs := hxW.size
        refine hpre (fuel' := 3) 12 [(1, 5), (0, 6), (0, 7)] #[true, true, true, true, true, true, true, true, false, true, false, false] (by kernel_rfl) (by kernel_rfl) rfl ?_
        have hxW' := hxW.trans hx14
        refine dcl (difOf_any ((listO (y := .slice (some ⟨b12, 0, none⟩) 2 2) (z := .slice none 0 0) hA11).ext hxW') (hCO.ext hxW')) ?_
        rintro _ w13 ⟨rfl, hx13⟩
        rw [if_pos hlC]
        refine ⟨hx13, ?_⟩
        repeat first | refine δ1 ?_ | refine δ2 ?_ | refine δ4 ?_ | refine δ5 ?_ | refine δ6 ?_ | refine δ7 ?_ | refine δ9 ?_ | refine δ8 ?_ | refine χ1 ?_ | refine χ2 ?_ | refine χ3 ?_ | refine χ4 ?_ | refine χ5 ?_ | refine χ6 ?_ | refine χ7 ?_
        refine hback ?_
        refine hpur (fuel' := 2) 8 (by kernel_rfl) (by kernel_rfl) rfl rfl ?_
        repeat first | refine π1 ?_ | refine π2 ?_ | refine π4 ?_ | refine π5 ?_
        repeat first | refine δ1 ?_ | refine δ2 ?_ | refine δ4 ?_ | refine δ5 ?_ | refine δ6 ?_ | refine δ7 ?_ | refine δ9 ?_ | refine δ8 ?_ | refine χ1 ?_ | refine χ2 ?_ | refine χ3 ?_ | refine χ4 ?_ | refine χ5 ?_ | refine χ6 ?_ | refine χ7 ?_
        refine hback ?_
        exact rest (b14, b12) _ _ ⟨hxW'.trans hx13, hk14.ext hx13, Nat.le_trans hs hb14⟩ (by repeat' (first | exact Sub.nil | refine Sub.cons rfl ?_))
    · repeat first | refine ω1 ?_ | refine ω2 ?_ | refine ω3 ?_ | refine ω4 ?_ | refine ω5 ?_ | refine χ1 ?_ | refine κ1 ?_ | refine κ2 ?_ | refine χ2 ?_ | refine κ3 ?_ | refine ω6 ?_ | refine ω7 ?_ | refine ω9 ?_ | refine κ4 ?_ | refine κ7 ?_ | refine κ8 ?_ | refine χ3 ?_ | refine χ4 ?_ | refine κ5 ?_ | refine κ6 ?_ | refine χ5 ?_ | refine χ6 ?_ | refine χ7 ?_ | refine ω8 ?_
      refine alc zDif ?_
      intro w14 b14 hx14 hb14 hk14
      refine wnil (jhback hx14 ?_)
      have hs := hxd.size
      refine hpre (fuel' := 3) 12 [(1, 1), (0, 2), (1, 5), (0, 6), (0, 7)] #[true, true, true, true, true, true, true, true, false, true, false, false] (by kernel_rfl) (by kernel_rfl) rfl ?_
      refine dcl ascending_any ?_
      rintro _ w12 ⟨⟨b12, rfl⟩, hx12⟩
      refine ⟨hx12, ?_⟩
      repeat first | refine δ1 ?_ | refine δ2 ?_ | refine δ4 ?_ | refine δ5 ?_ | refine δ6 ?_ | refine δ7 ?_ | refine δ9 ?_ | refine δ8 ?_ | refine χ1 ?_ | refine χ2 ?_ | refine χ3 ?_ | refine χ4 ?_ | refine χ5 ?_ | refine χ6 ?_ | refine χ7 ?_
      refine dmki Try.underlying75 (fun ms e => by cases e) ?_
      repeat first | refine δ1 ?_ | refine δ2 ?_ | refine δ4 ?_ | refine δ5 ?_ | refine δ6 ?_ | refine δ7 ?_ | refine δ9 ?_ | refine δ8 ?_ | refine χ1 ?_ | refine χ2 ?_ | refine χ3 ?_ | refine χ4 ?_ | refine χ5 ?_ | refine χ6 ?_ | refine χ7 ?_
      have hxW' := (hxd.trans hx14).trans hx12
      refine dcl (difOf_any ((listO (y := .slice (some ⟨b12, 0, none⟩) 2 2) (z := .slice none 0 0) hA11).ext hxW') (hCO.ext hxW')) ?_
      rintro _ w13 ⟨rfl, hx13⟩
      rw [if_pos hlC]
      refine ⟨hx13, ?_⟩
      repeat first | refine δ1 ?_ | refine δ2 ?_ | refine δ4 ?_ | refine δ5 ?_ | refine δ6 ?_ | refine δ7 ?_ | refine δ9 ?_ | refine δ8 ?_ | refine χ1 ?_ | refine χ2 ?_ | refine χ3 ?_ | refine χ4 ?_ | refine χ5 ?_ | refine χ6 ?_ | refine χ7 ?_
      refine hback ?_
      refine hpur (fuel' := 2) 8 (by kernel_rfl) (by kernel_rfl) rfl rfl ?_
      repeat first | refine π1 ?_ | refine π2 ?_ | refine π4 ?_ | refine π5 ?_
      repeat first | refine δ1 ?_ | refine δ2 ?_ | refine δ4 ?_ | refine δ5 ?_ | refine δ6 ?_ | refine δ7 ?_ | refine δ9 ?_ | refine δ8 ?_ | refine χ1 ?_ | refine χ2 ?_ | refine χ3 ?_ | refine χ4 ?_ | refine χ5 ?_ | refine χ6 ?_ | refine χ7 ?_
      refine hback ?_
      exact rest (b14, b12) _ _ ⟨hxW'.trans hx13, (hk14.ext hx12).ext hx13, Nat.le_trans hs hb14⟩ (by repeat' (first | exact Sub.nil | refine Sub.cons rfl ?_))
end Go.Proofs.Ytpahjnfolbnloaa
