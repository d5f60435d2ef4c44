/- Plain mathematics: the encodings order as the rows do. No program in sight. -/
import Derived.Test.YthjnmclnafbcdaaCodecJoinsW
import Derived.Lib.Bytealg
set_option linter.unusedVariables false
namespace Go.Proofs.Ythjnmclnafbcdaa
open Pl
def eqv (a b : V) : Bool := a.kind == b.kind && (a.num == b.num && a.str.toList == b.str.toList)
def cmpV (a b : V) : Int :=
  if a.kind ≠ b.kind then (if a.kind < b.kind then -1 else 1)
  else if a.num < b.num ∨ (a.num = b.num ∧ Op.bytesLess a.str.toList b.str.toList = true) then -1
  else if eqv a b = true then 0 else 1
def neg (d : Bool) (c : Int) : Int := if d then -c else c
def cmpL : List V → List V → List Bool → Int
  | [], [], _ => 0
  | [], _ :: _, _ => -1
  | _ :: _, [], _ => 1
  | x :: a, y :: b, ds => if neg (ds.getD 0 false) (cmpV x y) = 0 then cmpL a b (ds.drop 1) else neg (ds.getD 0 false) (cmpV x y)
theorem cmpV_3 (a b : V) : cmpV a b = -1 ∨ cmpV a b = 0 ∨ cmpV a b = 1 := by
  unfold cmpV; repeat' split
  all_goals simp
/-- the first place at which they differ -/
def Dif (x y : List UInt8) (c : Int) : Prop := ∃ p a b s t, x = p ++ a :: s ∧ y = p ++ b :: t ∧ a ≠ b ∧ c = if a < b then -1 else 1
theorem cb_pre (p x y : List UInt8) : Lib.compareBytes (p ++ x) (p ++ y) = Lib.compareBytes x y := by
  induction p with
  | nil => rfl
  | cons a p ih => simp [Lib.compareBytes, UInt8.lt_irrefl, ih]
theorem Dif.cmp {x y : List UInt8} {c : Int} (h : Dif x y c) (s t : List UInt8) : Lib.compareBytes (x ++ s) (y ++ t) = c := by
  obtain ⟨p, a, b, s1, t1, rfl, rfl, hab, rfl⟩ := h
  rw [List.append_assoc, List.append_assoc, cb_pre]
  simp only [List.cons_append, Lib.compareBytes]
  split
  · rfl
  · rename_i h
    rw [if_pos (UInt8.lt_of_le_of_ne (UInt8.not_lt.1 h) (Ne.symm hab))]
theorem Dif.ne {x y : List UInt8} {c : Int} (h : Dif x y c) : c ≠ 0 := by
  obtain ⟨p, a, b, s1, t1, _, _, hab, rfl⟩ := h
  split <;> decide
theorem Dif.cons {x y : List UInt8} {c : Int} (a : UInt8) (h : Dif x y c) : Dif (a :: x) (a :: y) c := by
  obtain ⟨p, b, d, s, t, rfl, rfl, hab, rfl⟩ := h
  exact ⟨a :: p, b, d, s, t, rfl, rfl, hab, rfl⟩
theorem Dif.here {a b : UInt8} (s t : List UInt8) (h : a ≠ b) : Dif (a :: s) (b :: t) (if a < b then -1 else 1) := ⟨[], a, b, s, t, rfl, rfl, h, rfl⟩
theorem flip_lt (a b : UInt8) (h : a ≠ b) : (255 - a < 255 - b) = ¬ (a < b) := by
  have ha := a.toNat_lt
  have hb := b.toNat_lt
  have hn : a.toNat ≠ b.toNat := fun e => h (UInt8.toNat_inj.1 e)
  have e1 : (255 - a).toNat = 255 - a.toNat := by rw [UInt8.toNat_sub_of_le]; rfl; rw [UInt8.le_iff_toNat_le]; show a.toNat ≤ 255; omega
  have e2 : (255 - b).toNat = 255 - b.toNat := by rw [UInt8.toNat_sub_of_le]; rfl; rw [UInt8.le_iff_toNat_le]; show b.toNat ≤ 255; omega
  rw [UInt8.lt_iff_toNat_lt, UInt8.lt_iff_toNat_lt, e1, e2]
  apply propext; omega
theorem flip_ne (a b : UInt8) (h : a ≠ b) : 255 - a ≠ 255 - b := by
  have ha := a.toNat_lt
  have hb := b.toNat_lt
  have hn : a.toNat ≠ b.toNat := fun e => h (UInt8.toNat_inj.1 e)
  have e1 : (255 - a).toNat = 255 - a.toNat := by rw [UInt8.toNat_sub_of_le]; rfl; rw [UInt8.le_iff_toNat_le]; show a.toNat ≤ 255; omega
  have e2 : (255 - b).toNat = 255 - b.toNat := by rw [UInt8.toNat_sub_of_le]; rfl; rw [UInt8.le_iff_toNat_le]; show b.toNat ≤ 255; omega
  intro e
  have := congrArg UInt8.toNat e
  omega
theorem Dif.flp {x y : List UInt8} {c : Int} (h : Dif x y c) (d : Bool) : Dif (Pl.flp d x) (Pl.flp d y) (neg d c) := by
  cases d with
  | false => exact h
  | true =>
    obtain ⟨p, a, b, s, t, rfl, rfl, hab, rfl⟩ := h
    refine ⟨p.map (255 - ·), 255 - a, 255 - b, s.map (255 - ·), t.map (255 - ·), by simp [Pl.flp], by simp [Pl.flp], flip_ne a b hab, ?_⟩
    simp only [neg, if_true, flip_lt a b hab]
    by_cases h : a < b <;> simp [h]
/-! numbers -/
def bn : Nat → Nat → List UInt8
  | 0, _ => []
  | j + 1, m => UInt8.ofNat (m / 256 ^ j) :: bn j m
theorem be8_bn (m : Nat) : be8 m = bn 8 m := by rfl
theorem bn_dif : ∀ (j m m' : Nat), m / 256 ^ j = m' / 256 ^ j → m ≠ m' → Dif (bn j m) (bn j m') (if m < m' then -1 else 1)
  | 0, m, m', h, hn => absurd (by simpa using h) hn
  | j + 1, m, m', h, hn => by
    have e1 : m / 256 ^ (j + 1) = m / 256 ^ j / 256 := by rw [Nat.pow_succ, Nat.div_div_eq_div_mul]
    have e2 : m' / 256 ^ (j + 1) = m' / 256 ^ j / 256 := by rw [Nat.pow_succ, Nat.div_div_eq_div_mul]
    rw [e1, e2] at h
    by_cases hq : m / 256 ^ j = m' / 256 ^ j
    · have := bn_dif j m m' hq hn
      simp only [bn]
      rw [hq]
      exact this.cons _
    · simp only [bn]
      have t1 : (UInt8.ofNat (m / 256 ^ j)).toNat = m / 256 ^ j % 256 := UInt8.toNat_ofNat'
      have t2 : (UInt8.ofNat (m' / 256 ^ j)).toNat = m' / 256 ^ j % 256 := UInt8.toNat_ofNat'
      have hne : UInt8.ofNat (m / 256 ^ j) ≠ UInt8.ofNat (m' / 256 ^ j) := fun e => by
        have := congrArg UInt8.toNat e
        rw [t1, t2] at this
        omega
      have hiff : (UInt8.ofNat (m / 256 ^ j) < UInt8.ofNat (m' / 256 ^ j)) = (m < m') := by
        rw [UInt8.lt_iff_toNat_lt, t1, t2]
        apply propext
        constructor
        · intro hl
          rcases Nat.lt_or_ge m m' with h3 | h3
          · exact h3
          · have := Nat.div_le_div_right (c := 256 ^ j) h3
            omega
        · intro hl
          have := Nat.div_le_div_right (c := 256 ^ j) (Nat.le_of_lt hl)
          omega
      have := Dif.here (bn j m) (bn j m') hne
      simp only [hiff] at this
      exact this
/-! strings -/
theorem cb_less : ∀ (x y : List UInt8), Lib.compareBytes x y = if Op.bytesLess x y = true then -1 else if x = y then 0 else 1
  | [], [] => by simp [Lib.compareBytes, Op.bytesLess]
  | [], _ :: _ => by simp [Lib.compareBytes, Op.bytesLess]
  | _ :: _, [] => by simp [Lib.compareBytes, Op.bytesLess]
  | a :: x, b :: y => by
    have ih := cb_less x y
    simp only [Lib.compareBytes, Op.bytesLess]
    by_cases h1 : a < b
    · simp [h1]
    · by_cases h2 : b < a
      · have hne : a ≠ b := fun e => by subst e; exact UInt8.lt_irrefl _ h2
        simp [h1, h2, hne]
      · have he : a = b := UInt8.le_antisymm (UInt8.not_lt.1 h2) (UInt8.not_lt.1 h1)
        subst he
        simp [ih, UInt8.lt_irrefl]
theorem esc_dif : ∀ (x y : List UInt8), x ≠ y → Dif (esc x ++ [0, 0]) (esc y ++ [0, 0]) (Lib.compareBytes x y)
  | [], [], h => absurd rfl h
  | [], b :: y, _ => by
    simp only [Lib.compareBytes, esc, List.nil_append]
    split
    · exact ⟨[0], 0, 255, [], esc y ++ [0, 0], rfl, rfl, by decide, by decide⟩
    · rename_i hb
      refine ⟨[], 0, b, [0], esc y ++ [0, 0], rfl, rfl, fun e => hb e.symm, ?_⟩
      rw [if_pos (UInt8.pos_iff_ne_zero.2 hb)]
  | b :: y, [], _ => by
    simp only [Lib.compareBytes, esc, List.nil_append]
    split
    · exact ⟨[0], 255, 0, esc y ++ [0, 0], [], rfl, rfl, by decide, by decide⟩
    · rename_i hb
      refine ⟨[], b, 0, esc y ++ [0, 0], [0], rfl, rfl, hb, ?_⟩
      rw [if_neg (UInt8.not_lt.2 (UInt8.zero_le))]
  | a :: x, b :: y, h => by
    by_cases hab : a = b
    · subst hab
      have ih := esc_dif x y (fun e => h (by rw [e]))
      have e : Lib.compareBytes (a :: x) (a :: y) = Lib.compareBytes x y := cb_pre [a] x y
      rw [e]
      simp only [esc]
      split
      · exact (ih.cons 255).cons 0
      · exact ih.cons a
    · have e : Lib.compareBytes (a :: x) (b :: y) = if a < b then -1 else 1 := by
        simp only [Lib.compareBytes]
        split
        · rfl
        · rename_i h
          rw [if_pos (UInt8.lt_of_le_of_ne (UInt8.not_lt.1 h) (Ne.symm hab))]
      rw [e]
      simp only [esc]
      by_cases ha : a = 0
      · subst ha
        have hb : b ≠ 0 := fun e => hab e.symm
        rw [if_pos rfl, if_neg hb]
        exact Dif.here _ _ hab
      · rw [if_neg ha]
        split
        · rename_i hb; subst hb; exact Dif.here _ _ hab
        · exact Dif.here _ _ hab
/-! values -/
theorem enc_dif {a b : V} (ha : a.valid = true) (hb : b.valid = true) (hna : -9223372036854775808 ≤ a.num ∧ a.num ≤ 9223372036854775807) (hnb : -9223372036854775808 ≤ b.num ∧ b.num ≤ 9223372036854775807) (d : Bool) :
    (cmpV a b = 0 ∧ a.enc d = b.enc d) ∨ Dif (a.enc d) (b.enc d) (neg d (cmpV a b)) := by
  have tl : ∀ v : V, v.str.toList = v.bytes := fun v => by rw [V.bytes, ByteArray.toList_eq]
  have ka : (a.kind = 1 ∧ a.bytes = []) ∨ (a.kind = 2 ∧ a.num = 0) := by
    unfold V.valid at ha; simp at ha; rcases ha with ⟨h, h2⟩ | ⟨h, h2, _⟩
    · exact .inl ⟨h, h2⟩
    · exact .inr ⟨h, h2⟩
  have kb : (b.kind = 1 ∧ b.bytes = []) ∨ (b.kind = 2 ∧ b.num = 0) := by
    unfold V.valid at hb; simp at hb; rcases hb with ⟨h, h2⟩ | ⟨h, h2, _⟩
    · exact .inl ⟨h, h2⟩
    · exact .inr ⟨h, h2⟩
  unfold V.enc
  rcases ka with ⟨ka, sa⟩ | ⟨ka, sa⟩ <;> rcases kb with ⟨kb, sb⟩ | ⟨kb, sb⟩
  · have e : cmpV a b = if a.num < b.num then -1 else if a.num = b.num then 0 else 1 := by
      unfold cmpV eqv
      rw [tl, tl, ka, kb, sa, sb]
      simp [Op.bytesLess]
    have ra : a.raw = 1 :: be8 a.m := by unfold V.raw; rw [if_pos ka]
    have rb : b.raw = 1 :: be8 b.m := by unfold V.raw; rw [if_pos kb]
    by_cases hn : a.num = b.num
    · refine .inl ⟨by rw [e, hn]; simp, ?_⟩
      rw [ra, rb, V.m, V.m, hn]
    · right
      have hm : a.m ≠ b.m := by unfold V.m; omega
      have h1 : a.m < 256 ^ 8 := by unfold V.m; omega
      have h2 : b.m < 256 ^ 8 := by unfold V.m; omega
      have := bn_dif 8 a.m b.m (by rw [Nat.div_eq_of_lt h1, Nat.div_eq_of_lt h2]) hm
      rw [← be8_bn, ← be8_bn] at this
      have h3 : (if a.m < b.m then (-1 : Int) else 1) = cmpV a b := by
        rw [e]
        by_cases hl : a.num < b.num
        · rw [if_pos hl, if_pos (by unfold V.m; omega)]
        · rw [if_neg hl, if_neg hn, if_neg (by unfold V.m; omega)]
      rw [h3] at this
      rw [ra, rb]
      exact (this.cons 1).flp d
  · right
    have e : cmpV a b = -1 := by unfold cmpV; rw [ka, kb]; rfl
    have ra : a.raw = 1 :: be8 a.m := by unfold V.raw; rw [if_pos ka]
    have rb : b.raw = 2 :: (esc b.bytes ++ [0, 0]) := by unfold V.raw; rw [if_neg (by omega)]
    rw [e, ra, rb]
    exact Dif.flp (c := -1) (Dif.here (a := 1) (b := 2) _ _ (by decide)) d
  · right
    have e : cmpV a b = 1 := by unfold cmpV; rw [ka, kb]; rfl
    have ra : a.raw = 2 :: (esc a.bytes ++ [0, 0]) := by unfold V.raw; rw [if_neg (by omega)]
    have rb : b.raw = 1 :: be8 b.m := by unfold V.raw; rw [if_pos kb]
    rw [e, ra, rb]
    exact Dif.flp (c := 1) (Dif.here (a := 2) (b := 1) _ _ (by decide)) d
  · have e : cmpV a b = Lib.compareBytes a.bytes b.bytes := by
      unfold cmpV eqv
      rw [tl, tl, ka, kb, sa, sb, cb_less]
      simp
    have ra : a.raw = 2 :: (esc a.bytes ++ [0, 0]) := by unfold V.raw; rw [if_neg (by omega)]
    have rb : b.raw = 2 :: (esc b.bytes ++ [0, 0]) := by unfold V.raw; rw [if_neg (by omega)]
    by_cases hn : a.bytes = b.bytes
    · refine .inl ⟨?_, by rw [ra, rb, hn]⟩
      rw [e, hn, cb_less]
      have : ∀ x, Op.bytesLess x x = false := by
        intro x; induction x with
        | nil => rfl
        | cons a x ih => simp [Op.bytesLess, UInt8.lt_irrefl, ih]
      rw [this]; simp
    · right
      rw [ra, rb, e]
      exact ((esc_dif _ _ hn).cons 2).flp d
/-! rows -/
theorem encR_cons (v : V) (r : List V) (ds : List Bool) : encR (v :: r) ds = v.enc (ds.getD 0 false) ++ encR r (ds.drop 1) := by
  have := encR_app [v] r ds
  simp only [List.singleton_append] at this
  rw [this]
  rfl
theorem enc_pos (v : V) (d : Bool) : ∃ c l, v.enc d = c :: l := by
  unfold V.enc V.raw flp
  split <;> split <;> exact ⟨_, _, rfl⟩
theorem encR_cmp : ∀ (a b : List V) (ds : List Bool), a.all V.valid = true → b.all V.valid = true → RowOk a → RowOk b → Lib.compareBytes (encR a ds) (encR b ds) = cmpL a b ds
  | [], [], _, _, _, _, _ => rfl
  | [], y :: b, ds, _, _, _, _ => by
    rw [encR_cons]
    obtain ⟨c, l, e⟩ := enc_pos y (ds.getD 0 false)
    rw [e]; rfl
  | x :: a, [], ds, _, _, _, _ => by
    rw [encR_cons]
    obtain ⟨c, l, e⟩ := enc_pos x (ds.getD 0 false)
    rw [e]; rfl
  | x :: a, y :: b, ds, ha, hb, oa, ob => by
    simp only [List.all_cons, Bool.and_eq_true] at ha hb
    rw [encR_cons, encR_cons]
    simp only [cmpL]
    rcases enc_dif ha.1 hb.1 (oa x (by simp)) (ob y (by simp)) (ds.getD 0 false) with ⟨h0, he⟩ | h
    · rw [he, cb_pre, encR_cmp a b (ds.drop 1) ha.2 hb.2 (fun v hv => oa v (by simp [hv])) (fun v hv => ob v (by simp [hv])), h0]
      simp [neg]
    · rw [h.cmp, if_neg h.ne]
end Go.Proofs.Ythjnmclnafbcdaa
