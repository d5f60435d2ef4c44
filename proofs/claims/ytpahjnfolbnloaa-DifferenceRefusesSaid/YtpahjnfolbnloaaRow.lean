/- The order of values and of rows is a total order; plain. -/
import Derived.Test.YtpahjnfolbnloaaNat4
set_option linter.unusedVariables false
namespace Go.Proofs.Ytpahjnfolbnloaa
open Pl
/-- a comparison of a total preorder -/
structure PreC {α : Type} (f : α → α → Int) : Prop where
  anti : ∀ a b, f b a = - f a b
  trans : ∀ a b c, f a b ≤ 0 → f b c ≤ 0 → f a c ≤ 0
theorem PreC.refl {α : Type} {f : α → α → Int} (h : PreC f) (a : α) : f a a = 0 := by have := h.anti a a; omega
/-- a comparison of a total order -/
structure Cmp {α : Type} (f : α → α → Int) : Prop where
  anti : ∀ a b, f b a = - f a b
  zero : ∀ a b, f a b = 0 → a = b
  trans : ∀ a b c, f a b ≤ 0 → f b c ≤ 0 → f a c ≤ 0
theorem Cmp.pre {α β : Type} {f : α → α → Int} (h : Cmp f) (g : β → α) : PreC fun a b => f (g a) (g b) := ⟨fun a b => h.anti _ _, fun a b c => h.trans _ _ _⟩
section
variable {α : Type} {f : α → α → Int}
theorem Cmp.refl (h : Cmp f) (a : α) : f a a = 0 := by have := h.anti a a; omega
theorem Cmp.lt_le (h : Cmp f) {a b c : α} (h1 : f a b < 0) (h2 : f b c ≤ 0) : f a c < 0 := by
  have h3 := h.trans a b c (by omega) h2
  rcases Int.lt_or_eq_of_le h3 with h4 | h4
  · exact h4
  · have := h.zero _ _ h4; subst this
    have := h.anti a b; omega
theorem Cmp.le_lt (h : Cmp f) {a b c : α} (h1 : f a b ≤ 0) (h2 : f b c < 0) : f a c < 0 := by
  have h3 := h.trans a b c h1 (by omega)
  rcases Int.lt_or_eq_of_le h3 with h4 | h4
  · exact h4
  · have := h.zero _ _ h4; subst this
    have := h.anti a b; omega
theorem Cmp.lt_trans (h : Cmp f) {a b c : α} (h1 : f a b < 0) (h2 : f b c < 0) : f a c < 0 := h.lt_le h1 (by omega)
theorem Cmp.tot (h : Cmp f) (a b : α) : f a b < 0 ∨ a = b ∨ f b a < 0 := by
  have h1 := h.anti a b
  rcases Int.lt_trichotomy (f a b) 0 with h2 | h2 | h2
  · exact .inl h2
  · exact .inr (.inl (h.zero _ _ h2))
  · exact .inr (.inr (by omega))
theorem Cmp.flip (h : Cmp f) : Cmp fun a b => - f a b :=
  ⟨fun a b => by rw [h.anti a b], fun a b h0 => h.zero a b (by omega), fun a b c h1 h2 => by
    have e1 := h.anti a b; have e2 := h.anti b c; have e3 := h.anti a c
    have := h.trans c b a (by omega) (by omega); omega⟩
end
theorem cmp_sgn : Cmp sgn := by
  refine ⟨fun a b => ?_, fun a b h => ?_, fun a b c h1 h2 => ?_⟩
  · unfold sgn; split <;> split <;> omega
  · unfold sgn at h; split at h
    · omega
    · split at h <;> omega
  · unfold sgn at *
    by_cases e1 : a < b <;> by_cases e2 : b < a <;> by_cases e3 : b < c <;> by_cases e4 : c < b <;> by_cases e5 : a < c <;> by_cases e6 : c < a <;> simp_all <;> omega
theorem sgn_3 (a b : Int) : sgn a b = -1 ∨ sgn a b = 0 ∨ sgn a b = 1 := by
  unfold sgn
  split
  · simp
  · split <;> simp
theorem cb_anti : ∀ x y : List UInt8, Lib.compareBytes y x = - Lib.compareBytes x y
  | [], [] => rfl
  | [], _ :: _ => rfl
  | _ :: _, [] => rfl
  | a :: x, b :: y => by
    simp only [Lib.compareBytes]
    have ih := cb_anti x y
    simp only [UInt8.lt_iff_toNat_lt]
    by_cases h : a.toNat < b.toNat
    · rw [if_pos h, if_neg (by omega), if_pos h]; rfl
    · rw [if_neg h]
      by_cases h2 : b.toNat < a.toNat
      · rw [if_pos h2, if_neg h, if_pos h2]
      · rw [if_neg h2, if_neg h, if_neg h2]; exact ih
theorem cb_zero : ∀ x y : List UInt8, Lib.compareBytes x y = 0 → x = y
  | [], [], _ => rfl
  | [], _ :: _, h => by simp [Lib.compareBytes] at h
  | _ :: _, [], h => by simp [Lib.compareBytes] at h
  | a :: x, b :: y, h => by
    simp only [Lib.compareBytes, UInt8.lt_iff_toNat_lt] at h
    split at h
    · cases h
    · split at h
      · cases h
      · rw [cb_zero x y h, UInt8.toNat_inj.1 (show a.toNat = b.toNat by omega)]
theorem cb_trans : ∀ x y z : List UInt8, Lib.compareBytes x y ≤ 0 → Lib.compareBytes y z ≤ 0 → Lib.compareBytes x z ≤ 0
  | [], _, [], _, _ => by simp [Lib.compareBytes]
  | [], _, _ :: _, _, _ => by simp [Lib.compareBytes]
  | _ :: _, [], _, h, _ => by simp [Lib.compareBytes] at h
  | _ :: _, _ :: _, [], _, h => by simp [Lib.compareBytes] at h
  | a :: x, b :: y, c :: z, h1, h2 => by
    simp only [Lib.compareBytes, UInt8.lt_iff_toNat_lt] at *
    split at h1
    · split at h2
      · rw [if_pos (by omega)]; decide
      · split at h2
        · exact absurd h2 (by decide)
        · rw [if_pos (by omega)]; decide
    · split at h1
      · exact absurd h1 (by decide)
      · split at h2
        · rw [if_pos (by omega)]; decide
        · split at h2
          · exact absurd h2 (by decide)
          · rw [if_neg (by omega), if_neg (by omega)]; exact cb_trans x y z h1 h2
theorem cb_3 : ∀ x y : List UInt8, Lib.compareBytes x y = -1 ∨ Lib.compareBytes x y = 0 ∨ Lib.compareBytes x y = 1
  | [], [] => by simp [Lib.compareBytes]
  | [], _ :: _ => by simp [Lib.compareBytes]
  | _ :: _, [] => by simp [Lib.compareBytes]
  | a :: x, b :: y => by
    simp only [Lib.compareBytes]
    split
    · simp
    · split
      · simp
      · exact cb_3 x y
theorem cmp_bytes : Cmp Lib.compareBytes := ⟨cb_anti, cb_zero, cb_trans⟩
theorem V.ext {a b : V} (h1 : a.kind = b.kind) (h2 : a.num = b.num) (h3 : a.bytes = b.bytes) : a = b := by
  obtain ⟨k, n, s⟩ := a
  obtain ⟨k', n', s'⟩ := b
  simp only [V.bytes] at *
  obtain ⟨d⟩ := s
  obtain ⟨d'⟩ := s'
  simp only at h1 h2 h3
  rw [h1, h2, Array.toList_inj.1 h3]
theorem sgn_ne {a b : Int} (h : a ≠ b) : sgn a b ≠ 0 := fun e => h (cmp_sgn.zero _ _ e)
theorem cmpV_3 (a b : V) : cmpV a b = -1 ∨ cmpV a b = 0 ∨ cmpV a b = 1 := by
  unfold cmpV
  split
  · exact sgn_3 _ _
  · split
    · exact sgn_3 _ _
    · exact cb_3 _ _
theorem cmp_V : Cmp cmpV := by
  refine ⟨fun a b => ?_, fun a b h => ?_, fun a b c h1 h2 => ?_⟩
  · unfold cmpV
    by_cases h : a.kind = b.kind
    · rw [if_neg (not_not_intro h), if_neg (not_not_intro h.symm)]
      by_cases h2 : a.num = b.num
      · rw [if_neg (not_not_intro h2), if_neg (not_not_intro h2.symm)]; exact cb_anti _ _
      · rw [if_pos h2, if_pos (Ne.symm h2)]; exact cmp_sgn.anti _ _
    · rw [if_pos h, if_pos (Ne.symm h)]; exact cmp_sgn.anti _ _
  · unfold cmpV at h
    split at h
    · rename_i h1; exact absurd h (sgn_ne h1)
    · rename_i h1
      split at h
      · rename_i h2; exact absurd h (sgn_ne h2)
      · rename_i h2; exact V.ext (by simpa using h1) (by simpa using h2) (cb_zero _ _ h)
  · unfold cmpV at *
    by_cases k1 : a.kind = b.kind <;> by_cases k2 : b.kind = c.kind
    · have k3 : a.kind = c.kind := k1.trans k2
      rw [if_neg (by simp [k1])] at h1
      rw [if_neg (by simp [k2])] at h2
      rw [if_neg (by simp [k3])]
      by_cases n1 : a.num = b.num <;> by_cases n2 : b.num = c.num
      · rw [if_neg (by simp [n1])] at h1
        rw [if_neg (by simp [n2])] at h2
        rw [if_neg (by simp [n1, n2])]
        exact cb_trans _ _ _ h1 h2
      · rw [if_pos n2] at h2
        rw [n1, if_pos n2]; exact h2
      · rw [if_pos n1] at h1
        rw [← n2, if_pos n1]; exact h1
      · rw [if_pos n1] at h1
        rw [if_pos n2] at h2
        have h3 := cmp_sgn.lt_le (a := a.num) (c := c.num) (by have := sgn_ne n1; omega) h2
        have n3 : a.num ≠ c.num := by intro e; rw [e, cmp_sgn.refl] at h3; omega
        rw [if_pos n3]; omega
    · rw [if_pos k2] at h2
      rw [k1, if_pos k2]; exact h2
    · rw [if_pos k1] at h1
      rw [← k2, if_pos k1]; exact h1
    · rw [if_pos k1] at h1
      rw [if_pos k2] at h2
      have h3 := cmp_sgn.lt_le (a := a.kind) (c := c.kind) (by have := sgn_ne k1; omega) h2
      have n3 : a.kind ≠ c.kind := by intro e; rw [e, cmp_sgn.refl] at h3; omega
      rw [if_pos n3]; omega
theorem cmpV_self (a : V) : cmpV a a = 0 := cmp_V.refl a
theorem neg_0 (d : Bool) : neg d 0 = 0 := by cases d <;> rfl
theorem cmp_neg (d : Bool) : Cmp fun a b => neg d (cmpV a b) := by
  cases d
  · exact cmp_V
  · exact cmp_V.flip
theorem cmpR_anti : ∀ (a b : List V) (ds : List Bool), cmpR b a ds = - cmpR a b ds
  | [], [], _ => rfl
  | [], _ :: _, _ => rfl
  | _ :: _, [], _ => rfl
  | x :: a, y :: b, ds => by
    simp only [cmpR]
    have h := cmp_V.anti x y
    by_cases e : cmpV x y = 0
    · rw [if_pos e, if_pos (by omega)]; exact cmpR_anti a b _
    · rw [if_neg e, if_neg (by omega)]; exact (cmp_neg _).anti x y
theorem cmpR_zero : ∀ (a b : List V) (ds : List Bool), cmpR a b ds = 0 → a = b
  | [], [], _, _ => rfl
  | [], _ :: _, _, h => by simp [cmpR] at h
  | _ :: _, [], _, h => by simp [cmpR] at h
  | x :: a, y :: b, ds, h => by
    simp only [cmpR] at h
    split at h
    · rename_i e; rw [cmp_V.zero _ _ e, cmpR_zero a b _ h]
    · rename_i e; exact absurd (congrArg (cmpV x) ((cmp_neg _).zero x y h)) (by rw [cmpV_self]; intro e2; exact e e2.symm)
theorem cmpR_trans : ∀ (a b c : List V) (ds : List Bool), cmpR a b ds ≤ 0 → cmpR b c ds ≤ 0 → cmpR a c ds ≤ 0
  | [], _, [], _, _, _ => by simp [cmpR]
  | [], _, _ :: _, _, _, _ => by simp [cmpR]
  | _ :: _, [], _, _, h, _ => by simp [cmpR] at h
  | _ :: _, _ :: _, [], _, _, h => by simp [cmpR] at h
  | x :: a, y :: b, z :: c, ds, h1, h2 => by
    simp only [cmpR] at *
    have N := cmp_neg (ds.getD 0 false)
    by_cases e1 : cmpV x y = 0
    · rw [if_pos e1] at h1
      rw [cmp_V.zero _ _ e1]
      by_cases e2 : cmpV y z = 0
      · rw [if_pos e2] at h2 ⊢; exact cmpR_trans a b c _ h1 h2
      · rw [if_neg e2] at h2 ⊢; exact h2
    · rw [if_neg e1] at h1
      by_cases e2 : cmpV y z = 0
      · rw [← cmp_V.zero _ _ e2, if_neg e1]; exact h1
      · rw [if_neg e2] at h2
        have hne : neg (ds.getD 0 false) (cmpV x y) ≠ 0 := fun e => e1 (by have := N.zero x y e; rw [this]; exact cmpV_self y)
        have h3 := N.lt_le (a := x) (b := y) (c := z) (by omega) h2
        have e3 : cmpV x z ≠ 0 := by intro e; simp only [e, neg_0] at h3; omega
        rw [if_neg e3]; omega
theorem cmp_R (ds : List Bool) : Cmp fun a b => cmpR a b ds := ⟨fun a b => cmpR_anti a b ds, fun a b h => cmpR_zero a b ds h, fun a b c h1 h2 => cmpR_trans a b c ds h1 h2⟩
theorem cmpR_3 : ∀ (a b : List V) (ds : List Bool), cmpR a b ds = -1 ∨ cmpR a b ds = 0 ∨ cmpR a b ds = 1
  | [], [], _ => by simp [cmpR]
  | [], _ :: _, _ => by simp [cmpR]
  | _ :: _, [], _ => by simp [cmpR]
  | x :: a, y :: b, ds => by
    simp only [cmpR]
    split
    · exact cmpR_3 a b _
    · have := cmpV_3 x y; unfold neg; split <;> omega
theorem cmpR_self (a : List V) (ds : List Bool) : cmpR a a ds = 0 := (cmp_R ds).refl a
end Go.Proofs.Ytpahjnfolbnloaa
/- Rows in memory; contracts of row.CompareBy, Compare, Equal. -/
set_option linter.unusedVariables false
namespace Go.Proofs.Ytpahjnfolbnloaa
open Go.RowKit Pl Go.Wk
attribute [local irreducible] WC WL QX WD WDB
/-- a row in memory -/
def RowV (w : World) (v : Value) (r : List V) : Prop := ∃ A c, v = .slice A r.length c ∧ r.length ≤ c ∧ r.length ≤ 1100000 ∧ RdR w A r
def BoolsV (w : World) (v : Value) (ds : List Bool) : Prop := ∃ A c, v = .slice A ds.length c ∧ ds.length ≤ c ∧ ds.length ≤ 1100000 ∧ RdB w A ds
theorem RowV.ext {w w' : World} {v : Value} {r : List V} (h : RowV w v r) (hx : Ext w w') : RowV w' v r := by
  obtain ⟨A, c, h1, h2, h3, h4⟩ := h; exact ⟨A, c, h1, h2, h3, h4.ext hx⟩
theorem BoolsV.ext {w w' : World} {v : Value} {r : List Bool} (h : BoolsV w v r) (hx : Ext w w') : BoolsV w' v r := by
  obtain ⟨A, c, h1, h2, h3, h4⟩ := h; exact ⟨A, c, h1, h2, h3, h4.ext hx⟩
theorem RowV.nil (w : World) (A : Option Addr) (c : Nat) : RowV w (.slice A 0 c) [] := ⟨A, c, rfl, by simp, by simp, Rd.nil⟩
theorem BoolsV.nil (w : World) (A : Option Addr) (c : Nat) : BoolsV w (.slice A 0 c) [] := ⟨A, c, rfl, by simp, by simp, Rd.nil⟩
theorem cmpR_at {a b : List V} {ds : List Bool} {k : Nat} (ha : k < a.length) (hb : k < b.length) : cmpR (a.drop k) (b.drop k) (ds.drop k) =
    if cmpV (a.getD k V0) (b.getD k V0) = 0 then cmpR (a.drop (k + 1)) (b.drop (k + 1)) (ds.drop (k + 1)) else neg (ds.getD k false) (cmpV (a.getD k V0) (b.getD k V0)) := by
  rw [List.drop_eq_getElem_cons ha, List.drop_eq_getElem_cons hb, cmpR]
  have e1 : a.getD k V0 = a[k] := by simp [List.getD, List.getElem?_eq_getElem ha]
  have e2 : b.getD k V0 = b[k] := by simp [List.getD, List.getElem?_eq_getElem hb]
  have e3 : (ds.drop k).getD 0 false = ds.getD k false := by simp [List.getD, List.getElem?_drop]
  rw [e1, e2, e3, List.drop_drop]
theorem cmpR_end {a b : List V} {ds : List Bool} {k : Nat} (hk : a.length ≤ k ∨ b.length ≤ k) (hka : k ≤ a.length) (hkb : k ≤ b.length) : cmpR (a.drop k) (b.drop k) (ds.drop k) = if a.length < b.length then -1 else if b.length < a.length then 1 else 0 := by
  rcases Nat.lt_trichotomy a.length b.length with h | h | h
  · rw [if_pos h, List.drop_of_length_le (by omega : a.length ≤ k), List.drop_eq_getElem_cons (by omega : k < b.length)]; rfl
  · rw [if_neg (by omega), if_neg (by omega), List.drop_of_length_le (by omega : a.length ≤ k), List.drop_of_length_le (by omega : b.length ≤ k)]; rfl
  · rw [if_neg (by omega), if_pos h, List.drop_of_length_le (by omega : b.length ≤ k), List.drop_eq_getElem_cons (by omega : k < a.length)]; rfl
theorem wrap_neg (a b : V) : IntKind.i64.wrap (0 - cmpV a b) = neg true (cmpV a b) := by
  rcases cmpV_3 a b with h | h | h <;> rw [h] <;> rfl
theorem min_ii (n m : Nat) : (if (m : Int) < (n : Int) then (m : Int) else (n : Int)) = ((min n m : Nat) : Int) := by split <;> omega
set_option maxRecDepth 100000 in
theorem compareBy_any {va vb vd : Value} {a b : List V} {ds : List Bool} {w : World} (ha : RowV w va a) (hb : RowV w vb b) (hd : BoolsV w vd ds) :
    Ret Try.prog 81 [va, vb, vd] w fun r w' => r = .int .i64 (cmpR a b ds) ∧ Ext w w' := by
  obtain ⟨A, ac, rfl, hac, ham, ha⟩ := ha
  obtain ⟨B, bc, rfl, hbc, hbm, hb⟩ := hb
  obtain ⟨D, dc, rfl, hdc, hdm, hd⟩ := hd
  refine enterR Try.func81 Try.ntmps81 rfl (by kernel_rfl) rfl ?_
  repeat first | refine ω1 ?_ | refine ω2 ?_ | refine ω3 ?_ | refine ω4 ?_ | refine ω5 ?_ | refine χ1 ?_ | refine κ1 ?_ | refine κ2 ?_ | refine χ2 ?_ | refine κ3 ?_ | refine ω6 ?_ | refine ω7 ?_ | refine ω9 ?_ | refine κ4 ?_ | refine κ7 ?_ | refine κ8 ?_ | refine χ3 ?_ | refine χ4 ?_ | refine κ5 ?_ | refine κ6 ?_ | refine χ5 ?_ | refine χ6 ?_ | refine χ7 ?_ | refine ω8 ?_
  rw [min_ii]
  refine wloop1 (fun k => [(0, .slice A a.length ac), (1, .slice B b.length bc), (2, .slice D ds.length dc), (13, .int .i64 ((min a.length b.length : Nat) : Int)), (14, .int .i64 ((k : Nat) : Int))])
    (fun k w' => Ext w w' ∧ k ≤ a.length ∧ k ≤ b.length ∧ cmpR a b ds = cmpR (a.drop k) (b.drop k) (ds.drop k)) (fun k => a.length - k) 0 (by repeat' (first | exact Sub.nil | refine Sub.cons rfl ?_)) ⟨Ext.refl w, Nat.zero_le _, Nat.zero_le _, rfl⟩ ?_
  rintro k w1 ⟨hx, hka, hkb, he⟩
  have ha1 := ha.ext hx
  have hb1 := hb.ext hx
  have hd1 := hd.ext hx
  repeat first | refine ω1 ?_ | refine ω2 ?_ | refine ω3 ?_ | refine ω4 ?_ | refine ω5 ?_ | refine χ1 ?_ | refine κ1 ?_ | refine κ2 ?_ | refine χ2 ?_ | refine κ3 ?_ | refine ω6 ?_ | refine ω7 ?_ | refine ω9 ?_ | refine κ4 ?_ | refine κ7 ?_ | refine κ8 ?_ | refine χ3 ?_ | refine χ4 ?_ | refine κ5 ?_ | refine κ6 ?_ | refine χ5 ?_ | refine χ6 ?_ | refine χ7 ?_ | refine ω8 ?_
  have out : (a.length ≤ k ∨ b.length ≤ k) → cmpR a b ds = if a.length < b.length then -1 else if b.length < a.length then 1 else 0 := fun h => by rw [he, cmpR_end h hka hkb]
  refine ci (fun h => ?_) (fun h => ?_)
  · have hmin : k < min a.length b.length := by have := of_decide_eq_true h; omega
    have hla : k < a.length := by omega
    have hlb : k < b.length := by omega
    repeat first | refine ω1 ?_ | refine ω2 ?_ | refine ω3 ?_ | refine ω4 ?_ | refine ω5 ?_ | refine χ1 ?_ | refine κ1 ?_ | refine κ2 ?_ | refine χ2 ?_ | refine κ3 ?_ | refine ω6 ?_ | refine ω7 ?_ | refine ω9 ?_ | refine κ4 ?_ | refine κ7 ?_ | refine κ8 ?_ | refine χ3 ?_ | refine χ4 ?_ | refine κ5 ?_ | refine κ6 ?_ | refine χ5 ?_ | refine χ6 ?_ | refine χ7 ?_ | refine ω8 ?_
    refine dr [(0, 0), (0, 1), (0, 2), (0, 3), (0, 4), (0, 5), (0, 6), (0, 7), (1, 8), (0, 9)] (by kernel_rfl) ?_
    have hxd : Ext w1 w1.drew := (Ext.refl w1).drew
    have ha2 := ha1.ext hxd
    have hb2 := hb1.ext hxd
    repeat first | refine δ1 ?_ | refine δ2 ?_ | refine δ4 ?_ | refine δ5 ?_ | refine δ6 ?_ | refine δ7 ?_ | refine δ9 ?_ | refine δ8 ?_ | refine χ1 ?_ | refine χ2 ?_ | refine χ3 ?_ | refine χ4 ?_ | refine χ5 ?_ | refine χ6 ?_ | refine χ7 ?_
    refine dixq 3 k ha2 hla ?_
    repeat first | refine δ1 ?_ | refine δ2 ?_ | refine δ4 ?_ | refine δ5 ?_ | refine δ6 ?_ | refine δ7 ?_ | refine δ9 ?_ | refine δ8 ?_ | refine χ1 ?_ | refine χ2 ?_ | refine χ3 ?_ | refine χ4 ?_ | refine χ5 ?_ | refine χ6 ?_ | refine χ7 ?_
    refine dlds (fun j u hu => RdR.cell ha2 hla hu) ?_
    repeat first | refine δ1 ?_ | refine δ2 ?_ | refine δ4 ?_ | refine δ5 ?_ | refine δ6 ?_ | refine δ7 ?_ | refine δ9 ?_ | refine δ8 ?_ | refine χ1 ?_ | refine χ2 ?_ | refine χ3 ?_ | refine χ4 ?_ | refine χ5 ?_ | refine χ6 ?_ | refine χ7 ?_
    refine dixq 3 k hb2 hlb ?_
    repeat first | refine δ1 ?_ | refine δ2 ?_ | refine δ4 ?_ | refine δ5 ?_ | refine δ6 ?_ | refine δ7 ?_ | refine δ9 ?_ | refine δ8 ?_ | refine χ1 ?_ | refine χ2 ?_ | refine χ3 ?_ | refine χ4 ?_ | refine χ5 ?_ | refine χ6 ?_ | refine χ7 ?_
    refine dlds (fun j u hu => RdR.cell hb2 hlb hu) ?_
    repeat first | refine δ1 ?_ | refine δ2 ?_ | refine δ4 ?_ | refine δ5 ?_ | refine δ6 ?_ | refine δ7 ?_ | refine δ9 ?_ | refine δ8 ?_ | refine χ1 ?_ | refine χ2 ?_ | refine χ3 ?_ | refine χ4 ?_ | refine χ5 ?_ | refine χ6 ?_ | refine χ7 ?_
    refine dcl (valueCompare_any (a.getD k V0) (b.getD k V0) _) ?_
    rintro x w2 ⟨rfl, hx2⟩
    refine ⟨hx2, ?_⟩
    have hx3 : Ext w w2 := (hx.trans hxd).trans hx2
    have hd3 := hd.ext hx3
    repeat first | refine δ1 ?_ | refine δ2 ?_ | refine δ4 ?_ | refine δ5 ?_ | refine δ6 ?_ | refine δ7 ?_ | refine δ9 ?_ | refine δ8 ?_ | refine χ1 ?_ | refine χ2 ?_ | refine χ3 ?_ | refine χ4 ?_ | refine χ5 ?_ | refine χ6 ?_ | refine χ7 ?_
    repeat first | refine ω1 ?_ | refine ω2 ?_ | refine ω3 ?_ | refine ω4 ?_ | refine ω5 ?_ | refine χ1 ?_ | refine κ1 ?_ | refine κ2 ?_ | refine χ2 ?_ | refine κ3 ?_ | refine ω6 ?_ | refine ω7 ?_ | refine ω9 ?_ | refine κ4 ?_ | refine κ7 ?_ | refine κ8 ?_ | refine χ3 ?_ | refine χ4 ?_ | refine κ5 ?_ | refine κ6 ?_ | refine χ5 ?_ | refine χ6 ?_ | refine χ7 ?_ | refine ω8 ?_
    have step := cmpR_at (ds := ds) hla hlb
    refine ci (fun h0 => ?_) (fun h0 => ?_)
    · repeat first | refine ω1 ?_ | refine ω2 ?_ | refine ω3 ?_ | refine ω4 ?_ | refine ω5 ?_ | refine χ1 ?_ | refine κ1 ?_ | refine κ2 ?_ | refine χ2 ?_ | refine κ3 ?_ | refine ω6 ?_ | refine ω7 ?_ | refine ω9 ?_ | refine κ4 ?_ | refine κ7 ?_ | refine κ8 ?_ | refine χ3 ?_ | refine χ4 ?_ | refine κ5 ?_ | refine κ6 ?_ | refine χ5 ?_ | refine χ6 ?_ | refine χ7 ?_ | refine ω8 ?_
      refine qround1 (k + 1) (by repeat' (first | exact Sub.nil | refine Sub.cons rfl ?_)) ⟨hx3, by omega, by omega, ?_⟩ (by omega)
      rw [he, step, if_pos (of_beq_t h0)]
    have hne := of_beq_f h0
    repeat first | refine ω1 ?_ | refine ω2 ?_ | refine ω3 ?_ | refine ω4 ?_ | refine ω5 ?_ | refine χ1 ?_ | refine κ1 ?_ | refine κ2 ?_ | refine χ2 ?_ | refine κ3 ?_ | refine ω6 ?_ | refine ω7 ?_ | refine ω9 ?_ | refine κ4 ?_ | refine κ7 ?_ | refine κ8 ?_ | refine χ3 ?_ | refine χ4 ?_ | refine κ5 ?_ | refine κ6 ?_ | refine χ5 ?_ | refine χ6 ?_ | refine χ7 ?_ | refine ω8 ?_
    refine ki 32 (fun h => ?_) (fun h => ?_)
    · have hld : k < ds.length := by have := of_decide_eq_true h; omega
      repeat first | refine ω1 ?_ | refine ω2 ?_ | refine ω3 ?_ | refine ω4 ?_ | refine ω5 ?_ | refine χ1 ?_ | refine κ1 ?_ | refine κ2 ?_ | refine χ2 ?_ | refine κ3 ?_ | refine ω6 ?_ | refine ω7 ?_ | refine ω9 ?_ | refine κ4 ?_ | refine κ7 ?_ | refine κ8 ?_ | refine χ3 ?_ | refine χ4 ?_ | refine κ5 ?_ | refine κ6 ?_ | refine χ5 ?_ | refine χ6 ?_ | refine χ7 ?_ | refine ω8 ?_
      refine ix k hd3 hld ?_
      repeat first | refine ω1 ?_ | refine ω2 ?_ | refine ω3 ?_ | refine ω4 ?_ | refine ω5 ?_ | refine χ1 ?_ | refine κ1 ?_ | refine κ2 ?_ | refine χ2 ?_ | refine κ3 ?_ | refine ω6 ?_ | refine ω7 ?_ | refine ω9 ?_ | refine κ4 ?_ | refine κ7 ?_ | refine κ8 ?_ | refine χ3 ?_ | refine χ4 ?_ | refine κ5 ?_ | refine κ6 ?_ | refine χ5 ?_ | refine χ6 ?_ | refine χ7 ?_ | refine ω8 ?_
      refine ld (RdB.cell hd3 hld) ?_
      repeat first | refine ω1 ?_ | refine ω2 ?_ | refine ω3 ?_ | refine ω4 ?_ | refine ω5 ?_ | refine χ1 ?_ | refine κ1 ?_ | refine κ2 ?_ | refine χ2 ?_ | refine κ3 ?_ | refine ω6 ?_ | refine ω7 ?_ | refine ω9 ?_ | refine κ4 ?_ | refine κ7 ?_ | refine κ8 ?_ | refine χ3 ?_ | refine χ4 ?_ | refine κ5 ?_ | refine κ6 ?_ | refine χ5 ?_ | refine χ6 ?_ | refine χ7 ?_ | refine ω8 ?_
      refine ci (fun h1 => ?_) (fun h1 => ?_)
      · repeat first | refine ω1 ?_ | refine ω2 ?_ | refine ω3 ?_ | refine ω4 ?_ | refine ω5 ?_ | refine χ1 ?_ | refine κ1 ?_ | refine κ2 ?_ | refine χ2 ?_ | refine κ3 ?_ | refine ω6 ?_ | refine ω7 ?_ | refine ω9 ?_ | refine κ4 ?_ | refine κ7 ?_ | refine κ8 ?_ | refine χ3 ?_ | refine χ4 ?_ | refine κ5 ?_ | refine κ6 ?_ | refine χ5 ?_ | refine χ6 ?_ | refine χ7 ?_ | refine ω8 ?_
        refine fin1 ⟨?_, hx3⟩
        rw [wrap_neg, he, step, h1, if_neg hne]
      · repeat first | refine ω1 ?_ | refine ω2 ?_ | refine ω3 ?_ | refine ω4 ?_ | refine ω5 ?_ | refine χ1 ?_ | refine κ1 ?_ | refine κ2 ?_ | refine χ2 ?_ | refine κ3 ?_ | refine ω6 ?_ | refine ω7 ?_ | refine ω9 ?_ | refine κ4 ?_ | refine κ7 ?_ | refine κ8 ?_ | refine χ3 ?_ | refine χ4 ?_ | refine κ5 ?_ | refine κ6 ?_ | refine χ5 ?_ | refine χ6 ?_ | refine χ7 ?_ | refine ω8 ?_
        refine fin1 ⟨?_, hx3⟩
        rw [he, step, h1, if_neg hne]; rfl
    · have h1 : ds.getD k false = false := by
        have := of_decide_eq_false h
        simp [List.getD, List.getElem?_eq_none (show ds.length ≤ k by omega)]
      repeat first | refine ω1 ?_ | refine ω2 ?_ | refine ω3 ?_ | refine ω4 ?_ | refine ω5 ?_ | refine χ1 ?_ | refine κ1 ?_ | refine κ2 ?_ | refine χ2 ?_ | refine κ3 ?_ | refine ω6 ?_ | refine ω7 ?_ | refine ω9 ?_ | refine κ4 ?_ | refine κ7 ?_ | refine κ8 ?_ | refine χ3 ?_ | refine χ4 ?_ | refine κ5 ?_ | refine κ6 ?_ | refine χ5 ?_ | refine χ6 ?_ | refine χ7 ?_ | refine ω8 ?_
      refine fin1 ⟨?_, hx3⟩
      rw [he, step, h1, if_neg hne]; rfl
  · have hge := out (by have := of_decide_eq_false h; omega)
    repeat first | refine ω1 ?_ | refine ω2 ?_ | refine ω3 ?_ | refine ω4 ?_ | refine ω5 ?_ | refine χ1 ?_ | refine κ1 ?_ | refine κ2 ?_ | refine χ2 ?_ | refine κ3 ?_ | refine ω6 ?_ | refine ω7 ?_ | refine ω9 ?_ | refine κ4 ?_ | refine κ7 ?_ | refine κ8 ?_ | refine χ3 ?_ | refine χ4 ?_ | refine κ5 ?_ | refine κ6 ?_ | refine χ5 ?_ | refine χ6 ?_ | refine χ7 ?_ | refine ω8 ?_
    refine ci (fun h => ?_) (fun h1 => ?_)
    · repeat first | refine ω1 ?_ | refine ω2 ?_ | refine ω3 ?_ | refine ω4 ?_ | refine ω5 ?_ | refine χ1 ?_ | refine κ1 ?_ | refine κ2 ?_ | refine χ2 ?_ | refine κ3 ?_ | refine ω6 ?_ | refine ω7 ?_ | refine ω9 ?_ | refine κ4 ?_ | refine κ7 ?_ | refine κ8 ?_ | refine χ3 ?_ | refine χ4 ?_ | refine κ5 ?_ | refine κ6 ?_ | refine χ5 ?_ | refine χ6 ?_ | refine χ7 ?_ | refine ω8 ?_
      refine fin1 ⟨?_, hx⟩; rw [hge, if_pos (by have := of_decide_eq_true h; omega)]
    repeat first | refine ω1 ?_ | refine ω2 ?_ | refine ω3 ?_ | refine ω4 ?_ | refine ω5 ?_ | refine χ1 ?_ | refine κ1 ?_ | refine κ2 ?_ | refine χ2 ?_ | refine κ3 ?_ | refine ω6 ?_ | refine ω7 ?_ | refine ω9 ?_ | refine κ4 ?_ | refine κ7 ?_ | refine κ8 ?_ | refine χ3 ?_ | refine χ4 ?_ | refine κ5 ?_ | refine κ6 ?_ | refine χ5 ?_ | refine χ6 ?_ | refine χ7 ?_ | refine ω8 ?_
    refine ci (fun h => ?_) (fun h2 => ?_)
    · repeat first | refine ω1 ?_ | refine ω2 ?_ | refine ω3 ?_ | refine ω4 ?_ | refine ω5 ?_ | refine χ1 ?_ | refine κ1 ?_ | refine κ2 ?_ | refine χ2 ?_ | refine κ3 ?_ | refine ω6 ?_ | refine ω7 ?_ | refine ω9 ?_ | refine κ4 ?_ | refine κ7 ?_ | refine κ8 ?_ | refine χ3 ?_ | refine χ4 ?_ | refine κ5 ?_ | refine κ6 ?_ | refine χ5 ?_ | refine χ6 ?_ | refine χ7 ?_ | refine ω8 ?_
      refine fin1 ⟨?_, hx⟩; rw [hge, if_neg (by have := of_decide_eq_false h1; omega), if_pos (by have := of_decide_eq_true h; omega)]
    · repeat first | refine ω1 ?_ | refine ω2 ?_ | refine ω3 ?_ | refine ω4 ?_ | refine ω5 ?_ | refine χ1 ?_ | refine κ1 ?_ | refine κ2 ?_ | refine χ2 ?_ | refine κ3 ?_ | refine ω6 ?_ | refine ω7 ?_ | refine ω9 ?_ | refine κ4 ?_ | refine κ7 ?_ | refine κ8 ?_ | refine χ3 ?_ | refine χ4 ?_ | refine κ5 ?_ | refine κ6 ?_ | refine χ5 ?_ | refine χ6 ?_ | refine χ7 ?_ | refine ω8 ?_
      refine fin1 ⟨?_, hx⟩; rw [hge, if_neg (by have := of_decide_eq_false h1; omega), if_neg (by have := of_decide_eq_false h2; omega)]
set_option maxRecDepth 100000 in
theorem rowCompare_any {va vb : Value} {a b : List V} {w : World} (ha : RowV w va a) (hb : RowV w vb b) :
    Ret Try.prog 92 [va, vb] w fun r w' => r = .int .i64 (cmpR a b []) ∧ Ext w w' := by
  refine enterR Try.func92 Try.ntmps92 rfl (by kernel_rfl) rfl ?_
  repeat first | refine ω1 ?_ | refine ω2 ?_ | refine ω3 ?_ | refine ω4 ?_ | refine ω5 ?_ | refine χ1 ?_ | refine κ1 ?_ | refine κ2 ?_ | refine χ2 ?_ | refine κ3 ?_ | refine ω6 ?_ | refine ω7 ?_ | refine ω9 ?_ | refine κ4 ?_ | refine κ7 ?_ | refine κ8 ?_ | refine χ3 ?_ | refine χ4 ?_ | refine κ5 ?_ | refine κ6 ?_ | refine χ5 ?_ | refine χ6 ?_ | refine χ7 ?_ | refine ω8 ?_
  refine cl (compareBy_any ha hb (BoolsV.nil w none 0)) ?_
  rintro v w1 ⟨rfl, hx⟩
  repeat first | refine ω1 ?_ | refine ω2 ?_ | refine ω3 ?_ | refine ω4 ?_ | refine ω5 ?_ | refine χ1 ?_ | refine κ1 ?_ | refine κ2 ?_ | refine χ2 ?_ | refine κ3 ?_ | refine ω6 ?_ | refine ω7 ?_ | refine ω9 ?_ | refine κ4 ?_ | refine κ7 ?_ | refine κ8 ?_ | refine χ3 ?_ | refine χ4 ?_ | refine κ5 ?_ | refine κ6 ?_ | refine χ5 ?_ | refine χ6 ?_ | refine χ7 ?_ | refine ω8 ?_
  exact fin1 ⟨rfl, hx⟩
theorem cmpR_dec (a b : List V) (ds : List Bool) : (cmpR a b ds == 0) = true ↔ a = b := by
  constructor
  · intro h; exact cmpR_zero _ _ _ (of_beq_t h)
  · intro h; rw [h, cmpR_self]; rfl
instance : DecidableEq V := fun a b => if h : cmpV a b = 0 then isTrue (cmp_V.zero _ _ h) else isFalse (fun e => h (by rw [e]; exact cmpV_self b))
theorem cmpR_eqb (a b : List V) (ds : List Bool) : (cmpR a b ds == 0) = decide (a = b) := by
  rw [Bool.eq_iff_iff, cmpR_dec, decide_eq_true_iff]
set_option maxRecDepth 100000 in
theorem rowEqual_any {va vb : Value} {a b : List V} {w : World} (ha : RowV w va a) (hb : RowV w vb b) :
    Ret Try.prog 77 [va, vb] w fun r w' => r = .bool (decide (a = b)) ∧ Ext w w' := by
  refine enterR Try.func77 Try.ntmps77 rfl (by kernel_rfl) rfl ?_
  repeat first | refine ω1 ?_ | refine ω2 ?_ | refine ω3 ?_ | refine ω4 ?_ | refine ω5 ?_ | refine χ1 ?_ | refine κ1 ?_ | refine κ2 ?_ | refine χ2 ?_ | refine κ3 ?_ | refine ω6 ?_ | refine ω7 ?_ | refine ω9 ?_ | refine κ4 ?_ | refine κ7 ?_ | refine κ8 ?_ | refine χ3 ?_ | refine χ4 ?_ | refine κ5 ?_ | refine κ6 ?_ | refine χ5 ?_ | refine χ6 ?_ | refine χ7 ?_ | refine ω8 ?_
  refine cl (rowCompare_any ha hb) ?_
  rintro v w1 ⟨rfl, hx⟩
  repeat first | refine ω1 ?_ | refine ω2 ?_ | refine ω3 ?_ | refine ω4 ?_ | refine ω5 ?_ | refine χ1 ?_ | refine κ1 ?_ | refine κ2 ?_ | refine χ2 ?_ | refine κ3 ?_ | refine ω6 ?_ | refine ω7 ?_ | refine ω9 ?_ | refine κ4 ?_ | refine κ7 ?_ | refine κ8 ?_ | refine χ3 ?_ | refine χ4 ?_ | refine κ5 ?_ | refine κ6 ?_ | refine χ5 ?_ | refine χ6 ?_ | refine χ7 ?_ | refine ω8 ?_
  refine fin1 ⟨?_, hx⟩
  rw [cmpR_eqb]
end Go.Proofs.Ytpahjnfolbnloaa
