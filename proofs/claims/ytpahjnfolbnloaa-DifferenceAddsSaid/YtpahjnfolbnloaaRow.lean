/- Rows in memory; contracts of row.CompareBy, Compare, Equal. -/
import Derived.Test.YtpahjnfolbnloaaOrdP
set_option linter.unusedVariables false
namespace Go.Proofs.Ytpahjnfolbnloaa
open Go.RowKit Pl Go.Wk
attribute [local irreducible] WC WL QX WD WDB
/-- a row in memory -/
def RowV (w : World) (v : Value) (r : List V) : Prop := ∃ A c, v = .slice A r.length c ∧ r.length ≤ c ∧ r.length ≤ 1100000 ∧ RdR w A r
def BoolsV (w : World) (v : Value) (ds : List Bool) : Prop := ∃ A c, v = .slice A ds.length c ∧ ds.length ≤ c ∧ ds.length ≤ 1100000 ∧ RdB w A ds
theorem RowV.ext {w w' : World} {v : Value} {r : List V} (h : RowV w v r) (hx : Ext w w') : RowV w' v r := by
  obtain ⟨A, c, h1, h2, h3, h4⟩ := h; exact ⟨A, c, h1, h2, h3, h4.ext hx⟩
theorem BoolsV.ext {w w' : World} {v : Value} {r : List Bool} (h : BoolsV w v r) (hx : Ext w w') : BoolsV w' v r := by
  obtain ⟨A, c, h1, h2, h3, h4⟩ := h; exact ⟨A, c, h1, h2, h3, h4.ext hx⟩
theorem RowV.nil (w : World) (A : Option Addr) (c : Nat) : RowV w (.slice A 0 c) [] := ⟨A, c, rfl, by simp, by simp, Rd.nil⟩
theorem BoolsV.nil (w : World) (A : Option Addr) (c : Nat) : BoolsV w (.slice A 0 c) [] := ⟨A, c, rfl, by simp, by simp, Rd.nil⟩
theorem cmpR_at {a b : List V} {ds : List Bool} {k : Nat} (ha : k < a.length) (hb : k < b.length) : cmpR (a.drop k) (b.drop k) (ds.drop k) =
    if cmpV (a.getD k V0) (b.getD k V0) = 0 then cmpR (a.drop (k + 1)) (b.drop (k + 1)) (ds.drop (k + 1)) else neg (ds.getD k false) (cmpV (a.getD k V0) (b.getD k V0)) := by
  rw [List.drop_eq_getElem_cons ha, List.drop_eq_getElem_cons hb, cmpR]
  have e1 : a.getD k V0 = a[k] := by simp [List.getD, List.getElem?_eq_getElem ha]
  have e2 : b.getD k V0 = b[k] := by simp [List.getD, List.getElem?_eq_getElem hb]
  have e3 : (ds.drop k).getD 0 false = ds.getD k false := by simp [List.getD, List.getElem?_drop]
  rw [e1, e2, e3, List.drop_drop]
theorem cmpR_end {a b : List V} {ds : List Bool} {k : Nat} (hk : a.length ≤ k ∨ b.length ≤ k) (hka : k ≤ a.length) (hkb : k ≤ b.length) : cmpR (a.drop k) (b.drop k) (ds.drop k) = if a.length < b.length then -1 else if b.length < a.length then 1 else 0 := by
  rcases Nat.lt_trichotomy a.length b.length with h | h | h
  · rw [if_pos h, List.drop_of_length_le (by omega : a.length ≤ k), List.drop_eq_getElem_cons (by omega : k < b.length)]; rfl
  · rw [if_neg (by omega), if_neg (by omega), List.drop_of_length_le (by omega : a.length ≤ k), List.drop_of_length_le (by omega : b.length ≤ k)]; rfl
  · rw [if_neg (by omega), if_pos h, List.drop_of_length_le (by omega : b.length ≤ k), List.drop_eq_getElem_cons (by omega : k < a.length)]; rfl
theorem wrap_neg (a b : V) : IntKind.i64.wrap (0 - cmpV a b) = neg true (cmpV a b) := by
  rcases cmpV_3 a b with h | h | h <;> rw [h] <;> rfl
theorem min_ii (n m : Nat) : (if (m : Int) < (n : Int) then (m : Int) else (n : Int)) = ((min n m : Nat) : Int) := by split <;> omega
set_option maxRecDepth 100000 in
theorem compareBy_any {va vb vd : Value} {a b : List V} {ds : List Bool} {w : World} (ha : RowV w va a) (hb : RowV w vb b) (hd : BoolsV w vd ds) :
    Ret Try.prog 81 [va, vb, vd] w fun r w' => r = .int .i64 (cmpR a b ds) ∧ Ext w w' := by
  obtain ⟨A, ac, rfl, hac, ham, ha⟩ := ha
  obtain ⟨B, bc, rfl, hbc, hbm, hb⟩ := hb
  obtain ⟨D, dc, rfl, hdc, hdm, hd⟩ := hd
  refine enterR Try.func81 Try.ntmps81 rfl (by kernel_rfl) rfl ?_
  repeat first | refine ω1 ?_ | refine ω2 ?_ | refine ω3 ?_ | refine ω4 ?_ | refine ω5 ?_ | refine χ1 ?_ | refine κ1 ?_ | refine κ2 ?_ | refine χ2 ?_ | refine κ3 ?_ | refine ω6 ?_ | refine ω7 ?_ | refine ω9 ?_ | refine κ4 ?_ | refine κ7 ?_ | refine κ8 ?_ | refine χ3 ?_ | refine χ4 ?_ | refine κ5 ?_ | refine κ6 ?_ | refine χ5 ?_ | refine χ6 ?_ | refine χ7 ?_ | refine ω8 ?_
  rw [min_ii]
  refine wloop1 (fun k => [(0, .slice A a.length ac), (1, .slice B b.length bc), (2, .slice D ds.length dc), (13, .int .i64 ((min a.length b.length : Nat) : Int)), (14, .int .i64 ((k : Nat) : Int))])
    (fun k w' => Ext w w' ∧ k ≤ a.length ∧ k ≤ b.length ∧ cmpR a b ds = cmpR (a.drop k) (b.drop k) (ds.drop k)) (fun k => a.length - k) 0 (by repeat' (first | exact Sub.nil | refine Sub.cons rfl ?_)) ⟨Ext.refl w, Nat.zero_le _, Nat.zero_le _, rfl⟩ ?_
  rintro k w1 ⟨hx, hka, hkb, he⟩
  have ha1 := ha.ext hx
  have hb1 := hb.ext hx
  have hd1 := hd.ext hx
  repeat first | refine ω1 ?_ | refine ω2 ?_ | refine ω3 ?_ | refine ω4 ?_ | refine ω5 ?_ | refine χ1 ?_ | refine κ1 ?_ | refine κ2 ?_ | refine χ2 ?_ | refine κ3 ?_ | refine ω6 ?_ | refine ω7 ?_ | refine ω9 ?_ | refine κ4 ?_ | refine κ7 ?_ | refine κ8 ?_ | refine χ3 ?_ | refine χ4 ?_ | refine κ5 ?_ | refine κ6 ?_ | refine χ5 ?_ | refine χ6 ?_ | refine χ7 ?_ | refine ω8 ?_
  have out : (a.length ≤ k ∨ b.length ≤ k) → cmpR a b ds = if a.length < b.length then -1 else if b.length < a.length then 1 else 0 := fun h => by rw [he, cmpR_end h hka hkb]
  refine ci (fun h => ?_) (fun h => ?_)
  · have hmin : k < min a.length b.length := by have := of_decide_eq_true h; omega
    have hla : k < a.length := by omega
    have hlb : k < b.length := by omega
    repeat first | refine ω1 ?_ | refine ω2 ?_ | refine ω3 ?_ | refine ω4 ?_ | refine ω5 ?_ | refine χ1 ?_ | refine κ1 ?_ | refine κ2 ?_ | refine χ2 ?_ | refine κ3 ?_ | refine ω6 ?_ | refine ω7 ?_ | refine ω9 ?_ | refine κ4 ?_ | refine κ7 ?_ | refine κ8 ?_ | refine χ3 ?_ | refine χ4 ?_ | refine κ5 ?_ | refine κ6 ?_ | refine χ5 ?_ | refine χ6 ?_ | refine χ7 ?_ | refine ω8 ?_
    refine dr [(0, 0), (0, 1), (0, 2), (0, 3), (0, 4), (0, 5), (0, 6), (0, 7), (1, 8), (0, 9)] (by kernel_rfl) ?_
    have hxd : Ext w1 w1.drew := (Ext.refl w1).drew
    have ha2 := ha1.ext hxd
    have hb2 := hb1.ext hxd
    repeat first | refine δ1 ?_ | refine δ2 ?_ | refine δ4 ?_ | refine δ5 ?_ | refine δ6 ?_ | refine δ7 ?_ | refine δ9 ?_ | refine δ8 ?_ | refine χ1 ?_ | refine χ2 ?_ | refine χ3 ?_ | refine χ4 ?_ | refine χ5 ?_ | refine χ6 ?_ | refine χ7 ?_
    refine dixq 3 k ha2 hla ?_
    repeat first | refine δ1 ?_ | refine δ2 ?_ | refine δ4 ?_ | refine δ5 ?_ | refine δ6 ?_ | refine δ7 ?_ | refine δ9 ?_ | refine δ8 ?_ | refine χ1 ?_ | refine χ2 ?_ | refine χ3 ?_ | refine χ4 ?_ | refine χ5 ?_ | refine χ6 ?_ | refine χ7 ?_
    refine dlds (fun j u hu => RdR.cell ha2 hla hu) ?_
    repeat first | refine δ1 ?_ | refine δ2 ?_ | refine δ4 ?_ | refine δ5 ?_ | refine δ6 ?_ | refine δ7 ?_ | refine δ9 ?_ | refine δ8 ?_ | refine χ1 ?_ | refine χ2 ?_ | refine χ3 ?_ | refine χ4 ?_ | refine χ5 ?_ | refine χ6 ?_ | refine χ7 ?_
    refine dixq 3 k hb2 hlb ?_
    repeat first | refine δ1 ?_ | refine δ2 ?_ | refine δ4 ?_ | refine δ5 ?_ | refine δ6 ?_ | refine δ7 ?_ | refine δ9 ?_ | refine δ8 ?_ | refine χ1 ?_ | refine χ2 ?_ | refine χ3 ?_ | refine χ4 ?_ | refine χ5 ?_ | refine χ6 ?_ | refine χ7 ?_
    refine dlds (fun j u hu => RdR.cell hb2 hlb hu) ?_
    repeat first | refine δ1 ?_ | refine δ2 ?_ | refine δ4 ?_ | refine δ5 ?_ | refine δ6 ?_ | refine δ7 ?_ | refine δ9 ?_ | refine δ8 ?_ | refine χ1 ?_ | refine χ2 ?_ | refine χ3 ?_ | refine χ4 ?_ | refine χ5 ?_ | refine χ6 ?_ | refine χ7 ?_
    refine dcl (valueCompare_any (a.getD k V0) (b.getD k V0) _) ?_
    rintro x w2 ⟨rfl, hx2⟩
    refine ⟨hx2, ?_⟩
    have hx3 : Ext w w2 := (hx.trans hxd).trans hx2
    have hd3 := hd.ext hx3
    repeat first | refine δ1 ?_ | refine δ2 ?_ | refine δ4 ?_ | refine δ5 ?_ | refine δ6 ?_ | refine δ7 ?_ | refine δ9 ?_ | refine δ8 ?_ | refine χ1 ?_ | refine χ2 ?_ | refine χ3 ?_ | refine χ4 ?_ | refine χ5 ?_ | refine χ6 ?_ | refine χ7 ?_
    repeat first | refine ω1 ?_ | refine ω2 ?_ | refine ω3 ?_ | refine ω4 ?_ | refine ω5 ?_ | refine χ1 ?_ | refine κ1 ?_ | refine κ2 ?_ | refine χ2 ?_ | refine κ3 ?_ | refine ω6 ?_ | refine ω7 ?_ | refine ω9 ?_ | refine κ4 ?_ | refine κ7 ?_ | refine κ8 ?_ | refine χ3 ?_ | refine χ4 ?_ | refine κ5 ?_ | refine κ6 ?_ | refine χ5 ?_ | refine χ6 ?_ | refine χ7 ?_ | refine ω8 ?_
    have step := cmpR_at (ds := ds) hla hlb
    refine ci (fun h0 => ?_) (fun h0 => ?_)
    · repeat first | refine ω1 ?_ | refine ω2 ?_ | refine ω3 ?_ | refine ω4 ?_ | refine ω5 ?_ | refine χ1 ?_ | refine κ1 ?_ | refine κ2 ?_ | refine χ2 ?_ | refine κ3 ?_ | refine ω6 ?_ | refine ω7 ?_ | refine ω9 ?_ | refine κ4 ?_ | refine κ7 ?_ | refine κ8 ?_ | refine χ3 ?_ | refine χ4 ?_ | refine κ5 ?_ | refine κ6 ?_ | refine χ5 ?_ | refine χ6 ?_ | refine χ7 ?_ | refine ω8 ?_
      refine qround1 (k + 1) (by repeat' (first | exact Sub.nil | refine Sub.cons rfl ?_)) ⟨hx3, by omega, by omega, ?_⟩ (by omega)
      rw [he, step, if_pos (of_beq_t h0)]
    have hne := of_beq_f h0
    repeat first | refine ω1 ?_ | refine ω2 ?_ | refine ω3 ?_ | refine ω4 ?_ | refine ω5 ?_ | refine χ1 ?_ | refine κ1 ?_ | refine κ2 ?_ | refine χ2 ?_ | refine κ3 ?_ | refine ω6 ?_ | refine ω7 ?_ | refine ω9 ?_ | refine κ4 ?_ | refine κ7 ?_ | refine κ8 ?_ | refine χ3 ?_ | refine χ4 ?_ | refine κ5 ?_ | refine κ6 ?_ | refine χ5 ?_ | refine χ6 ?_ | refine χ7 ?_ | refine ω8 ?_
    refine ki 32 (fun h => ?_) (fun h => ?_)
    · have hld : k < ds.length := by have := of_decide_eq_true h; omega
      repeat first | refine ω1 ?_ | refine ω2 ?_ | refine ω3 ?_ | refine ω4 ?_ | refine ω5 ?_ | refine χ1 ?_ | refine κ1 ?_ | refine κ2 ?_ | refine χ2 ?_ | refine κ3 ?_ | refine ω6 ?_ | refine ω7 ?_ | refine ω9 ?_ | refine κ4 ?_ | refine κ7 ?_ | refine κ8 ?_ | refine χ3 ?_ | refine χ4 ?_ | refine κ5 ?_ | refine κ6 ?_ | refine χ5 ?_ | refine χ6 ?_ | refine χ7 ?_ | refine ω8 ?_
      refine ix k hd3 hld ?_
      repeat first | refine ω1 ?_ | refine ω2 ?_ | refine ω3 ?_ | refine ω4 ?_ | refine ω5 ?_ | refine χ1 ?_ | refine κ1 ?_ | refine κ2 ?_ | refine χ2 ?_ | refine κ3 ?_ | refine ω6 ?_ | refine ω7 ?_ | refine ω9 ?_ | refine κ4 ?_ | refine κ7 ?_ | refine κ8 ?_ | refine χ3 ?_ | refine χ4 ?_ | refine κ5 ?_ | refine κ6 ?_ | refine χ5 ?_ | refine χ6 ?_ | refine χ7 ?_ | refine ω8 ?_
      refine ld (RdB.cell hd3 hld) ?_
      repeat first | refine ω1 ?_ | refine ω2 ?_ | refine ω3 ?_ | refine ω4 ?_ | refine ω5 ?_ | refine χ1 ?_ | refine κ1 ?_ | refine κ2 ?_ | refine χ2 ?_ | refine κ3 ?_ | refine ω6 ?_ | refine ω7 ?_ | refine ω9 ?_ | refine κ4 ?_ | refine κ7 ?_ | refine κ8 ?_ | refine χ3 ?_ | refine χ4 ?_ | refine κ5 ?_ | refine κ6 ?_ | refine χ5 ?_ | refine χ6 ?_ | refine χ7 ?_ | refine ω8 ?_
      refine ci (fun h1 => ?_) (fun h1 => ?_)
      · repeat first | refine ω1 ?_ | refine ω2 ?_ | refine ω3 ?_ | refine ω4 ?_ | refine ω5 ?_ | refine χ1 ?_ | refine κ1 ?_ | refine κ2 ?_ | refine χ2 ?_ | refine κ3 ?_ | refine ω6 ?_ | refine ω7 ?_ | refine ω9 ?_ | refine κ4 ?_ | refine κ7 ?_ | refine κ8 ?_ | refine χ3 ?_ | refine χ4 ?_ | refine κ5 ?_ | refine κ6 ?_ | refine χ5 ?_ | refine χ6 ?_ | refine χ7 ?_ | refine ω8 ?_
        refine fin1 ⟨?_, hx3⟩
        rw [wrap_neg, he, step, h1, if_neg hne]
      · repeat first | refine ω1 ?_ | refine ω2 ?_ | refine ω3 ?_ | refine ω4 ?_ | refine ω5 ?_ | refine χ1 ?_ | refine κ1 ?_ | refine κ2 ?_ | refine χ2 ?_ | refine κ3 ?_ | refine ω6 ?_ | refine ω7 ?_ | refine ω9 ?_ | refine κ4 ?_ | refine κ7 ?_ | refine κ8 ?_ | refine χ3 ?_ | refine χ4 ?_ | refine κ5 ?_ | refine κ6 ?_ | refine χ5 ?_ | refine χ6 ?_ | refine χ7 ?_ | refine ω8 ?_
        refine fin1 ⟨?_, hx3⟩
        rw [he, step, h1, if_neg hne]; rfl
    · have h1 : ds.getD k false = false := by
        have := of_decide_eq_false h
        simp [List.getD, List.getElem?_eq_none (show ds.length ≤ k by omega)]
      repeat first | refine ω1 ?_ | refine ω2 ?_ | refine ω3 ?_ | refine ω4 ?_ | refine ω5 ?_ | refine χ1 ?_ | refine κ1 ?_ | refine κ2 ?_ | refine χ2 ?_ | refine κ3 ?_ | refine ω6 ?_ | refine ω7 ?_ | refine ω9 ?_ | refine κ4 ?_ | refine κ7 ?_ | refine κ8 ?_ | refine χ3 ?_ | refine χ4 ?_ | refine κ5 ?_ | refine κ6 ?_ | refine χ5 ?_ | refine χ6 ?_ | refine χ7 ?_ | refine ω8 ?_
      refine fin1 ⟨?_, hx3⟩
      rw [he, step, h1, if_neg hne]; rfl
  · have hge := out (by have := of_decide_eq_false h; omega)
    repeat first | refine ω1 ?_ | refine ω2 ?_ | refine ω3 ?_ | refine ω4 ?_ | refine ω5 ?_ | refine χ1 ?_ | refine κ1 ?_ | refine κ2 ?_ | refine χ2 ?_ | refine κ3 ?_ | refine ω6 ?_ | refine ω7 ?_ | refine ω9 ?_ | refine κ4 ?_ | refine κ7 ?_ | refine κ8 ?_ | refine χ3 ?_ | refine χ4 ?_ | refine κ5 ?_ | refine κ6 ?_ | refine χ5 ?_ | refine χ6 ?_ | refine χ7 ?_ | refine ω8 ?_
    refine ci (fun h => ?_) (fun h1 => ?_)
    · repeat first | refine ω1 ?_ | refine ω2 ?_ | refine ω3 ?_ | refine ω4 ?_ | refine ω5 ?_ | refine χ1 ?_ | refine κ1 ?_ | refine κ2 ?_ | refine χ2 ?_ | refine κ3 ?_ | refine ω6 ?_ | refine ω7 ?_ | refine ω9 ?_ | refine κ4 ?_ | refine κ7 ?_ | refine κ8 ?_ | refine χ3 ?_ | refine χ4 ?_ | refine κ5 ?_ | refine κ6 ?_ | refine χ5 ?_ | refine χ6 ?_ | refine χ7 ?_ | refine ω8 ?_
      refine fin1 ⟨?_, hx⟩; rw [hge, if_pos (by have := of_decide_eq_true h; omega)]
    repeat first | refine ω1 ?_ | refine ω2 ?_ | refine ω3 ?_ | refine ω4 ?_ | refine ω5 ?_ | refine χ1 ?_ | refine κ1 ?_ | refine κ2 ?_ | refine χ2 ?_ | refine κ3 ?_ | refine ω6 ?_ | refine ω7 ?_ | refine ω9 ?_ | refine κ4 ?_ | refine κ7 ?_ | refine κ8 ?_ | refine χ3 ?_ | refine χ4 ?_ | refine κ5 ?_ | refine κ6 ?_ | refine χ5 ?_ | refine χ6 ?_ | refine χ7 ?_ | refine ω8 ?_
    refine ci (fun h => ?_) (fun h2 => ?_)
    · repeat first | refine ω1 ?_ | refine ω2 ?_ | refine ω3 ?_ | refine ω4 ?_ | refine ω5 ?_ | refine χ1 ?_ | refine κ1 ?_ | refine κ2 ?_ | refine χ2 ?_ | refine κ3 ?_ | refine ω6 ?_ | refine ω7 ?_ | refine ω9 ?_ | refine κ4 ?_ | refine κ7 ?_ | refine κ8 ?_ | refine χ3 ?_ | refine χ4 ?_ | refine κ5 ?_ | refine κ6 ?_ | refine χ5 ?_ | refine χ6 ?_ | refine χ7 ?_ | refine ω8 ?_
      refine fin1 ⟨?_, hx⟩; rw [hge, if_neg (by have := of_decide_eq_false h1; omega), if_pos (by have := of_decide_eq_true h; omega)]
    · repeat first | refine ω1 ?_ | refine ω2 ?_ | refine ω3 ?_ | refine ω4 ?_ | refine ω5 ?_ | refine χ1 ?_ | refine κ1 ?_ | refine κ2 ?_ | refine χ2 ?_ | refine κ3 ?_ | refine ω6 ?_ | refine ω7 ?_ | refine ω9 ?_ | refine κ4 ?_ | refine κ7 ?_ | refine κ8 ?_ | refine χ3 ?_ | refine χ4 ?_ | refine κ5 ?_ | refine κ6 ?_ | refine χ5 ?_ | refine χ6 ?_ | refine χ7 ?_ | refine ω8 ?_
      refine fin1 ⟨?_, hx⟩; rw [hge, if_neg (by have := of_decide_eq_false h1; omega), if_neg (by have := of_decide_eq_false h2; omega)]
set_option maxRecDepth 100000 in
theorem rowCompare_any {va vb : Value} {a b : List V} {w : World} (ha : RowV w va a) (hb : RowV w vb b) :
    Ret Try.prog 92 [va, vb] w fun r w' => r = .int .i64 (cmpR a b []) ∧ Ext w w' := by
  refine enterR Try.func92 Try.ntmps92 rfl (by kernel_rfl) rfl ?_
  repeat first | refine ω1 ?_ | refine ω2 ?_ | refine ω3 ?_ | refine ω4 ?_ | refine ω5 ?_ | refine χ1 ?_ | refine κ1 ?_ | refine κ2 ?_ | refine χ2 ?_ | refine κ3 ?_ | refine ω6 ?_ | refine ω7 ?_ | refine ω9 ?_ | refine κ4 ?_ | refine κ7 ?_ | refine κ8 ?_ | refine χ3 ?_ | refine χ4 ?_ | refine κ5 ?_ | refine κ6 ?_ | refine χ5 ?_ | refine χ6 ?_ | refine χ7 ?_ | refine ω8 ?_
  refine cl (compareBy_any ha hb (BoolsV.nil w none 0)) ?_
  rintro v w1 ⟨rfl, hx⟩
  repeat first | refine ω1 ?_ | refine ω2 ?_ | refine ω3 ?_ | refine ω4 ?_ | refine ω5 ?_ | refine χ1 ?_ | refine κ1 ?_ | refine κ2 ?_ | refine χ2 ?_ | refine κ3 ?_ | refine ω6 ?_ | refine ω7 ?_ | refine ω9 ?_ | refine κ4 ?_ | refine κ7 ?_ | refine κ8 ?_ | refine χ3 ?_ | refine χ4 ?_ | refine κ5 ?_ | refine κ6 ?_ | refine χ5 ?_ | refine χ6 ?_ | refine χ7 ?_ | refine ω8 ?_
  exact fin1 ⟨rfl, hx⟩
theorem cmpR_dec (a b : List V) (ds : List Bool) : (cmpR a b ds == 0) = true ↔ a = b := by
  constructor
  · intro h; exact cmpR_zero _ _ _ (of_beq_t h)
  · intro h; rw [h, cmpR_self]; rfl
instance : DecidableEq V := fun a b => if h : cmpV a b = 0 then isTrue (cmp_V.zero _ _ h) else isFalse (fun e => h (by rw [e]; exact cmpV_self b))
theorem cmpR_eqb (a b : List V) (ds : List Bool) : (cmpR a b ds == 0) = decide (a = b) := by
  rw [Bool.eq_iff_iff, cmpR_dec, decide_eq_true_iff]
set_option maxRecDepth 100000 in
theorem rowEqual_any {va vb : Value} {a b : List V} {w : World} (ha : RowV w va a) (hb : RowV w vb b) :
    Ret Try.prog 77 [va, vb] w fun r w' => r = .bool (decide (a = b)) ∧ Ext w w' := by
  refine enterR Try.func77 Try.ntmps77 rfl (by kernel_rfl) rfl ?_
  repeat first | refine ω1 ?_ | refine ω2 ?_ | refine ω3 ?_ | refine ω4 ?_ | refine ω5 ?_ | refine χ1 ?_ | refine κ1 ?_ | refine κ2 ?_ | refine χ2 ?_ | refine κ3 ?_ | refine ω6 ?_ | refine ω7 ?_ | refine ω9 ?_ | refine κ4 ?_ | refine κ7 ?_ | refine κ8 ?_ | refine χ3 ?_ | refine χ4 ?_ | refine κ5 ?_ | refine κ6 ?_ | refine χ5 ?_ | refine χ6 ?_ | refine χ7 ?_ | refine ω8 ?_
  refine cl (rowCompare_any ha hb) ?_
  rintro v w1 ⟨rfl, hx⟩
  repeat first | refine ω1 ?_ | refine ω2 ?_ | refine ω3 ?_ | refine ω4 ?_ | refine ω5 ?_ | refine χ1 ?_ | refine κ1 ?_ | refine κ2 ?_ | refine χ2 ?_ | refine κ3 ?_ | refine ω6 ?_ | refine ω7 ?_ | refine ω9 ?_ | refine κ4 ?_ | refine κ7 ?_ | refine κ8 ?_ | refine χ3 ?_ | refine χ4 ?_ | refine κ5 ?_ | refine κ6 ?_ | refine χ5 ?_ | refine χ6 ?_ | refine χ7 ?_ | refine ω8 ?_
  refine fin1 ⟨?_, hx⟩
  rw [cmpR_eqb]
end Go.Proofs.Ytpahjnfolbnloaa
