/- Plain mathematics of the natural numbers in base 2^32. No program in sight. -/
import Derived.IntWalk
set_option linter.unusedVariables false
namespace Go.Proofs.Ytpahjnfolbnloaa
namespace Pl
def val : List UInt32 → Nat
  | [] => 0
  | c :: l => c.toNat + 4294967296 * val l
def limbs (n : Nat) : List UInt32 := if h : n = 0 then [] else UInt32.ofNat n :: limbs (n / 4294967296)
termination_by n
decreasing_by exact Nat.div_lt_self (by omega) (by decide)
theorem limbs_0 : limbs 0 = [] := by rw [limbs]; rfl
theorem limbs_pos {n : Nat} (h : n ≠ 0) : limbs n = UInt32.ofNat n :: limbs (n / 4294967296) := by rw [limbs, dif_neg h]
theorem limbs_cons {c : UInt32} {m : Nat} (h : c.toNat + 4294967296 * m ≠ 0) : limbs (c.toNat + 4294967296 * m) = c :: limbs m := by
  have hc := c.toNat_lt
  rw [limbs_pos h]
  congr 1
  · apply UInt32.toNat_inj.1
    rw [UInt32.toNat_ofNat']
    have : c.toNat < 4294967296 := hc
    omega
  · congr 1
    have : c.toNat < 4294967296 := hc
    omega
def trimL : List UInt32 → List UInt32
  | [] => []
  | c :: l => if trimL l = [] ∧ c = 0 then [] else c :: trimL l
theorem val_0 {l : List UInt32} (h : trimL l = []) : val l = 0 := by
  induction l with
  | nil => rfl
  | cons c l ih =>
    simp only [trimL] at h
    split at h
    · rename_i h2
      rw [val, ih h2.1, h2.2]; rfl
    · cases h
theorem trimL_eq : ∀ l : List UInt32, trimL l = limbs (val l)
  | [] => by rw [val, limbs_0]; rfl
  | c :: l => by
    have ih := trimL_eq l
    simp only [trimL, val]
    split
    · rename_i h
      rw [val_0 h.1, h.2]
      exact limbs_0.symm
    · rename_i h
      rw [limbs_cons, ih]
      intro h0
      apply h
      have hv : val l = 0 := by omega
      refine ⟨?_, ?_⟩
      · rw [ih, hv, limbs_0]
      · apply UInt32.toNat_inj.1
        show c.toNat = 0
        omega
theorem val_limbs (n : Nat) : val (limbs n) = n := by
  induction n using Nat.strongRecOn with
  | ind n ih =>
    by_cases h : n = 0
    · subst h; rw [limbs_0]; rfl
    · rw [limbs_pos h, val, ih (n / 4294967296) (Nat.div_lt_self (by omega) (by decide)), UInt32.toNat_ofNat']
      omega
theorem trim_limbs (n : Nat) : trimL (limbs n) = limbs n := by rw [trimL_eq, val_limbs]
theorem trim_snoc0 (l : List UInt32) : trimL (l ++ [0]) = trimL l := by
  induction l with
  | nil => rfl
  | cons c l ih => simp only [List.cons_append, trimL, ih]
theorem trim_snoc {c : UInt32} (l : List UInt32) (h : c ≠ 0) : trimL (l ++ [c]) = l ++ [c] := by
  induction l with
  | nil => simp [trimL, h]
  | cons d l ih => simp only [List.cons_append, trimL, ih]; simp
theorem val_app (a b : List UInt32) : val (a ++ b) = val a + 4294967296 ^ a.length * val b := by
  induction a with
  | nil => simp [val]
  | cons c a ih => rw [List.cons_append, val, val, ih, List.length_cons, Nat.pow_succ, Nat.mul_add, ← Nat.mul_assoc, Nat.mul_comm (4294967296 ^ a.length) 4294967296]; omega
theorem val_lt (a : List UInt32) : val a < 4294967296 ^ a.length := by
  induction a with
  | nil => simp [val]
  | cons c a ih =>
    have hc : c.toNat < 4294967296 := c.toNat_lt
    rw [val, List.length_cons, Nat.pow_succ]
    have : 4294967296 * (val a + 1) ≤ 4294967296 * 4294967296 ^ a.length := Nat.mul_le_mul_left _ ih
    rw [Nat.mul_comm (4294967296 ^ a.length)]
    omega
/-- as long as the shorter: the number is less -/
theorem val_snoc_ge {c : UInt32} (l : List UInt32) (h : c ≠ 0) : 4294967296 ^ l.length ≤ val (l ++ [c]) := by
  have hc : 0 < c.toNat := by
    rcases Nat.eq_zero_or_pos c.toNat with h0 | h0
    · exact absurd (UInt32.toNat_inj.1 h0) h
    · exact h0
  rw [val_app, val]
  have : 4294967296 ^ l.length * 1 ≤ 4294967296 ^ l.length * (c.toNat + 4294967296 * val []) := Nat.mul_le_mul_left _ (by omega)
  omega
theorem limbs_last {n : Nat} (h : n ≠ 0) : ∃ l c, limbs n = l ++ [c] ∧ c ≠ 0 := by
  rcases List.eq_nil_or_concat (limbs n) with h0 | ⟨l, c, h0⟩
  · have := val_limbs n
    rw [h0] at this
    exact absurd this.symm h
  · refine ⟨l, c, by rw [h0]; simp, fun hc => ?_⟩
    subst hc
    have h1 := trim_limbs n
    rw [h0, List.concat_eq_append, trim_snoc0] at h1
    have h2 := congrArg List.length h1
    have h3 : (trimL l).length ≤ l.length := by
      clear h1 h2 h0
      induction l with
      | nil => simp [trimL]
      | cons c l ih => simp only [trimL]; split <;> simp; exact ih
    simp at h2
    omega
theorem limbs_len_le {n : Nat} (h : n ≠ 0) : 4294967296 ^ ((limbs n).length - 1) ≤ n := by
  obtain ⟨l, c, h1, h2⟩ := limbs_last h
  have := val_snoc_ge l h2
  rw [← h1, val_limbs] at this
  rw [h1]
  simpa using this
theorem limbs_lt (n : Nat) : n < 4294967296 ^ (limbs n).length := by have := val_lt (limbs n); rwa [val_limbs] at this
theorem lt_of_len {n m : Nat} (h : (limbs n).length < (limbs m).length) : n < m := by
  have hm : m ≠ 0 := fun e => by subst e; rw [limbs_0] at h; simp at h
  have h1 := limbs_len_le hm
  have h2 := limbs_lt n
  have h3 : 4294967296 ^ (limbs n).length ≤ 4294967296 ^ ((limbs m).length - 1) := Nat.pow_le_pow_right (by decide) (by omega)
  omega
def cmpN (n m : Nat) : Int := if n < m then -1 else if m < n then 1 else 0
theorem val_top {a b : List UInt32} {i : Nat} (ha : i < a.length) (hab : a.length = b.length) (ht : a.drop (i + 1) = b.drop (i + 1)) (hl : (a.getD i 0).toNat < (b.getD i 0).toNat) : val a < val b := by
  have hb : i < b.length := by omega
  have ea : a = a.take i ++ (a.getD i 0 :: a.drop (i + 1)) := by
    have e : a.getD i 0 = a[i] := by simp [List.getD, List.getElem?_eq_getElem ha]
    rw [e, ← List.drop_eq_getElem_cons ha, List.take_append_drop]
  have eb : b = b.take i ++ (b.getD i 0 :: b.drop (i + 1)) := by
    have e : b.getD i 0 = b[i] := by simp [List.getD, List.getElem?_eq_getElem hb]
    rw [e, ← List.drop_eq_getElem_cons hb, List.take_append_drop]
  rw [ea, eb, val_app, val_app, val, val, ht]
  have l1 : (a.take i).length = i := by rw [List.length_take]; omega
  have l2 : (b.take i).length = i := by rw [List.length_take]; omega
  have v1 := val_lt (a.take i)
  rw [l1] at v1 ⊢
  rw [l2]
  have : 4294967296 ^ i * ((a.getD i 0).toNat + 1 + 4294967296 * val (b.drop (i + 1))) ≤ 4294967296 ^ i * ((b.getD i 0).toNat + 4294967296 * val (b.drop (i + 1))) := Nat.mul_le_mul_left _ (by omega)
  rw [Nat.add_assoc, Nat.add_comm 1, ← Nat.add_assoc, Nat.mul_add, Nat.mul_one] at this
  omega
end Pl
end Go.Proofs.Ytpahjnfolbnloaa
