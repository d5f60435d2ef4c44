/- The order of values and of rows is a total order; plain. -/
import Derived.Test.YtpahjnfolbnloaaVal
set_option linter.unusedVariables false
namespace Go.Proofs.Ytpahjnfolbnloaa
open Pl
/-- a comparison of a total preorder -/
structure PreC {α : Type} (f : α → α → Int) : Prop where
  anti : ∀ a b, f b a = - f a b
  trans : ∀ a b c, f a b ≤ 0 → f b c ≤ 0 → f a c ≤ 0
theorem PreC.refl {α : Type} {f : α → α → Int} (h : PreC f) (a : α) : f a a = 0 := by have := h.anti a a; omega
/-- a comparison of a total order -/
structure Cmp {α : Type} (f : α → α → Int) : Prop where
  anti : ∀ a b, f b a = - f a b
  zero : ∀ a b, f a b = 0 → a = b
  trans : ∀ a b c, f a b ≤ 0 → f b c ≤ 0 → f a c ≤ 0
theorem Cmp.pre {α β : Type} {f : α → α → Int} (h : Cmp f) (g : β → α) : PreC fun a b => f (g a) (g b) := ⟨fun a b => h.anti _ _, fun a b c => h.trans _ _ _⟩
section
variable {α : Type} {f : α → α → Int}
theorem Cmp.refl (h : Cmp f) (a : α) : f a a = 0 := by have := h.anti a a; omega
theorem Cmp.lt_le (h : Cmp f) {a b c : α} (h1 : f a b < 0) (h2 : f b c ≤ 0) : f a c < 0 := by
  have h3 := h.trans a b c (by omega) h2
  rcases Int.lt_or_eq_of_le h3 with h4 | h4
  · exact h4
  · have := h.zero _ _ h4; subst this
    have := h.anti a b; omega
theorem Cmp.le_lt (h : Cmp f) {a b c : α} (h1 : f a b ≤ 0) (h2 : f b c < 0) : f a c < 0 := by
  have h3 := h.trans a b c h1 (by omega)
  rcases Int.lt_or_eq_of_le h3 with h4 | h4
  · exact h4
  · have := h.zero _ _ h4; subst this
    have := h.anti a b; omega
theorem Cmp.lt_trans (h : Cmp f) {a b c : α} (h1 : f a b < 0) (h2 : f b c < 0) : f a c < 0 := h.lt_le h1 (by omega)
theorem Cmp.tot (h : Cmp f) (a b : α) : f a b < 0 ∨ a = b ∨ f b a < 0 := by
  have h1 := h.anti a b
  rcases Int.lt_trichotomy (f a b) 0 with h2 | h2 | h2
  · exact .inl h2
  · exact .inr (.inl (h.zero _ _ h2))
  · exact .inr (.inr (by omega))
theorem Cmp.flip (h : Cmp f) : Cmp fun a b => - f a b :=
  ⟨fun a b => by rw [h.anti a b], fun a b h0 => h.zero a b (by omega), fun a b c h1 h2 => by
    have e1 := h.anti a b; have e2 := h.anti b c; have e3 := h.anti a c
    have := h.trans c b a (by omega) (by omega); omega⟩
end
theorem cmp_sgn : Cmp sgn := by
  refine ⟨fun a b => ?_, fun a b h => ?_, fun a b c h1 h2 => ?_⟩
  · unfold sgn; split <;> split <;> omega
  · unfold sgn at h; split at h
    · omega
    · split at h <;> omega
  · unfold sgn at *
    by_cases e1 : a < b <;> by_cases e2 : b < a <;> by_cases e3 : b < c <;> by_cases e4 : c < b <;> by_cases e5 : a < c <;> by_cases e6 : c < a <;> simp_all <;> omega
theorem sgn_3 (a b : Int) : sgn a b = -1 ∨ sgn a b = 0 ∨ sgn a b = 1 := by
  unfold sgn
  split
  · simp
  · split <;> simp
theorem cb_anti : ∀ x y : List UInt8, Lib.compareBytes y x = - Lib.compareBytes x y
  | [], [] => rfl
  | [], _ :: _ => rfl
  | _ :: _, [] => rfl
  | a :: x, b :: y => by
    simp only [Lib.compareBytes]
    have ih := cb_anti x y
    simp only [UInt8.lt_iff_toNat_lt]
    by_cases h : a.toNat < b.toNat
    · rw [if_pos h, if_neg (by omega), if_pos h]; rfl
    · rw [if_neg h]
      by_cases h2 : b.toNat < a.toNat
      · rw [if_pos h2, if_neg h, if_pos h2]
      · rw [if_neg h2, if_neg h, if_neg h2]; exact ih
theorem cb_zero : ∀ x y : List UInt8, Lib.compareBytes x y = 0 → x = y
  | [], [], _ => rfl
  | [], _ :: _, h => by simp [Lib.compareBytes] at h
  | _ :: _, [], h => by simp [Lib.compareBytes] at h
  | a :: x, b :: y, h => by
    simp only [Lib.compareBytes, UInt8.lt_iff_toNat_lt] at h
    split at h
    · cases h
    · split at h
      · cases h
      · rw [cb_zero x y h, UInt8.toNat_inj.1 (show a.toNat = b.toNat by omega)]
theorem cb_trans : ∀ x y z : List UInt8, Lib.compareBytes x y ≤ 0 → Lib.compareBytes y z ≤ 0 → Lib.compareBytes x z ≤ 0
  | [], _, [], _, _ => by simp [Lib.compareBytes]
  | [], _, _ :: _, _, _ => by simp [Lib.compareBytes]
  | _ :: _, [], _, h, _ => by simp [Lib.compareBytes] at h
  | _ :: _, _ :: _, [], _, h => by simp [Lib.compareBytes] at h
  | a :: x, b :: y, c :: z, h1, h2 => by
    simp only [Lib.compareBytes, UInt8.lt_iff_toNat_lt] at *
    split at h1
    · split at h2
      · rw [if_pos (by omega)]; decide
      · split at h2
        · exact absurd h2 (by decide)
        · rw [if_pos (by omega)]; decide
    · split at h1
      · exact absurd h1 (by decide)
      · split at h2
        · rw [if_pos (by omega)]; decide
        · split at h2
          · exact absurd h2 (by decide)
          · rw [if_neg (by omega), if_neg (by omega)]; exact cb_trans x y z h1 h2
theorem cb_3 : ∀ x y : List UInt8, Lib.compareBytes x y = -1 ∨ Lib.compareBytes x y = 0 ∨ Lib.compareBytes x y = 1
  | [], [] => by simp [Lib.compareBytes]
  | [], _ :: _ => by simp [Lib.compareBytes]
  | _ :: _, [] => by simp [Lib.compareBytes]
  | a :: x, b :: y => by
    simp only [Lib.compareBytes]
    split
    · simp
    · split
      · simp
      · exact cb_3 x y
theorem cmp_bytes : Cmp Lib.compareBytes := ⟨cb_anti, cb_zero, cb_trans⟩
theorem V.ext {a b : V} (h1 : a.kind = b.kind) (h2 : a.num = b.num) (h3 : a.bytes = b.bytes) : a = b := by
  obtain ⟨k, n, s⟩ := a
  obtain ⟨k', n', s'⟩ := b
  simp only [V.bytes] at *
  obtain ⟨d⟩ := s
  obtain ⟨d'⟩ := s'
  simp only at h1 h2 h3
  rw [h1, h2, Array.toList_inj.1 h3]
theorem sgn_ne {a b : Int} (h : a ≠ b) : sgn a b ≠ 0 := fun e => h (cmp_sgn.zero _ _ e)
theorem cmpV_3 (a b : V) : cmpV a b = -1 ∨ cmpV a b = 0 ∨ cmpV a b = 1 := by
  unfold cmpV
  split
  · exact sgn_3 _ _
  · split
    · exact sgn_3 _ _
    · exact cb_3 _ _
theorem cmp_V : Cmp cmpV := by
  refine ⟨fun a b => ?_, fun a b h => ?_, fun a b c h1 h2 => ?_⟩
  · unfold cmpV
    by_cases h : a.kind = b.kind
    · rw [if_neg (not_not_intro h), if_neg (not_not_intro h.symm)]
      by_cases h2 : a.num = b.num
      · rw [if_neg (not_not_intro h2), if_neg (not_not_intro h2.symm)]; exact cb_anti _ _
      · rw [if_pos h2, if_pos (Ne.symm h2)]; exact cmp_sgn.anti _ _
    · rw [if_pos h, if_pos (Ne.symm h)]; exact cmp_sgn.anti _ _
  · unfold cmpV at h
    split at h
    · rename_i h1; exact absurd h (sgn_ne h1)
    · rename_i h1
      split at h
      · rename_i h2; exact absurd h (sgn_ne h2)
      · rename_i h2; exact V.ext (by simpa using h1) (by simpa using h2) (cb_zero _ _ h)
  · unfold cmpV at *
    by_cases k1 : a.kind = b.kind <;> by_cases k2 : b.kind = c.kind
    · have k3 : a.kind = c.kind := k1.trans k2
      rw [if_neg (by simp [k1])] at h1
      rw [if_neg (by simp [k2])] at h2
      rw [if_neg (by simp [k3])]
      by_cases n1 : a.num = b.num <;> by_cases n2 : b.num = c.num
      · rw [if_neg (by simp [n1])] at h1
        rw [if_neg (by simp [n2])] at h2
        rw [if_neg (by simp [n1, n2])]
        exact cb_trans _ _ _ h1 h2
      · rw [if_pos n2] at h2
        rw [n1, if_pos n2]; exact h2
      · rw [if_pos n1] at h1
        rw [← n2, if_pos n1]; exact h1
      · rw [if_pos n1] at h1
        rw [if_pos n2] at h2
        have h3 := cmp_sgn.lt_le (a := a.num) (c := c.num) (by have := sgn_ne n1; omega) h2
        have n3 : a.num ≠ c.num := by intro e; rw [e, cmp_sgn.refl] at h3; omega
        rw [if_pos n3]; omega
    · rw [if_pos k2] at h2
      rw [k1, if_pos k2]; exact h2
    · rw [if_pos k1] at h1
      rw [← k2, if_pos k1]; exact h1
    · rw [if_pos k1] at h1
      rw [if_pos k2] at h2
      have h3 := cmp_sgn.lt_le (a := a.kind) (c := c.kind) (by have := sgn_ne k1; omega) h2
      have n3 : a.kind ≠ c.kind := by intro e; rw [e, cmp_sgn.refl] at h3; omega
      rw [if_pos n3]; omega
theorem cmpV_self (a : V) : cmpV a a = 0 := cmp_V.refl a
theorem neg_0 (d : Bool) : neg d 0 = 0 := by cases d <;> rfl
theorem cmp_neg (d : Bool) : Cmp fun a b => neg d (cmpV a b) := by
  cases d
  · exact cmp_V
  · exact cmp_V.flip
theorem cmpR_anti : ∀ (a b : List V) (ds : List Bool), cmpR b a ds = - cmpR a b ds
  | [], [], _ => rfl
  | [], _ :: _, _ => rfl
  | _ :: _, [], _ => rfl
  | x :: a, y :: b, ds => by
    simp only [cmpR]
    have h := cmp_V.anti x y
    by_cases e : cmpV x y = 0
    · rw [if_pos e, if_pos (by omega)]; exact cmpR_anti a b _
    · rw [if_neg e, if_neg (by omega)]; exact (cmp_neg _).anti x y
theorem cmpR_zero : ∀ (a b : List V) (ds : List Bool), cmpR a b ds = 0 → a = b
  | [], [], _, _ => rfl
  | [], _ :: _, _, h => by simp [cmpR] at h
  | _ :: _, [], _, h => by simp [cmpR] at h
  | x :: a, y :: b, ds, h => by
    simp only [cmpR] at h
    split at h
    · rename_i e; rw [cmp_V.zero _ _ e, cmpR_zero a b _ h]
    · rename_i e; exact absurd (congrArg (cmpV x) ((cmp_neg _).zero x y h)) (by rw [cmpV_self]; intro e2; exact e e2.symm)
theorem cmpR_trans : ∀ (a b c : List V) (ds : List Bool), cmpR a b ds ≤ 0 → cmpR b c ds ≤ 0 → cmpR a c ds ≤ 0
  | [], _, [], _, _, _ => by simp [cmpR]
  | [], _, _ :: _, _, _, _ => by simp [cmpR]
  | _ :: _, [], _, _, h, _ => by simp [cmpR] at h
  | _ :: _, _ :: _, [], _, _, h => by simp [cmpR] at h
  | x :: a, y :: b, z :: c, ds, h1, h2 => by
    simp only [cmpR] at *
    have N := cmp_neg (ds.getD 0 false)
    by_cases e1 : cmpV x y = 0
    · rw [if_pos e1] at h1
      rw [cmp_V.zero _ _ e1]
      by_cases e2 : cmpV y z = 0
      · rw [if_pos e2] at h2 ⊢; exact cmpR_trans a b c _ h1 h2
      · rw [if_neg e2] at h2 ⊢; exact h2
    · rw [if_neg e1] at h1
      by_cases e2 : cmpV y z = 0
      · rw [← cmp_V.zero _ _ e2, if_neg e1]; exact h1
      · rw [if_neg e2] at h2
        have hne : neg (ds.getD 0 false) (cmpV x y) ≠ 0 := fun e => e1 (by have := N.zero x y e; rw [this]; exact cmpV_self y)
        have h3 := N.lt_le (a := x) (b := y) (c := z) (by omega) h2
        have e3 : cmpV x z ≠ 0 := by intro e; simp only [e, neg_0] at h3; omega
        rw [if_neg e3]; omega
theorem cmp_R (ds : List Bool) : Cmp fun a b => cmpR a b ds := ⟨fun a b => cmpR_anti a b ds, fun a b h => cmpR_zero a b ds h, fun a b c h1 h2 => cmpR_trans a b c ds h1 h2⟩
theorem cmpR_3 : ∀ (a b : List V) (ds : List Bool), cmpR a b ds = -1 ∨ cmpR a b ds = 0 ∨ cmpR a b ds = 1
  | [], [], _ => by simp [cmpR]
  | [], _ :: _, _ => by simp [cmpR]
  | _ :: _, [], _ => by simp [cmpR]
  | x :: a, y :: b, ds => by
    simp only [cmpR]
    split
    · exact cmpR_3 a b _
    · have := cmpV_3 x y; unfold neg; split <;> omega
theorem cmpR_self (a : List V) (ds : List Bool) : cmpR a a ds = 0 := (cmp_R ds).refl a
end Go.Proofs.Ytpahjnfolbnloaa
