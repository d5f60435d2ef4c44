/- Plain mathematics of the codec: variable-length numbers. No program in sight. -/
import Derived.Test.YthjnmclnafbcdaaPlain
set_option linter.unusedVariables false
namespace Go.Proofs.Ythjnmclnafbcdaa
namespace Pl

/-! ### variable-length numbers -/
def uEncF : Nat → Nat → List UInt8
  | 0, m => [UInt8.ofNat m]
  | f + 1, m => if 128 ≤ m then UInt8.ofNat (m % 128 + 128) :: uEncF f (m / 128) else [UInt8.ofNat m]
def uEnc (m : Nat) : List UInt8 := uEncF 9 m

theorem or128 (m : Nat) : bits .or .u8 (IntKind.u8.wrap (m : Int)) 128 = ((UInt8.ofNat (m % 128 + 128)).toNat : Int) := by
  have h2 : ∀ x : Fin 256, x.val ||| 128 = x.val % 128 + 128 := by decide +kernel
  have h3 := h2 ⟨m % 256, Nat.mod_lt _ (by decide)⟩
  simp only at h3
  have e : IntKind.u8.wrap (m : Int) = ((m % 256 : Nat) : Int) := by rw [IntKind.wrap_u8']; omega
  have h4 := u8_or_nat (m % 256) 128 (Nat.mod_lt _ (by decide)) (by decide)
  rw [e]
  refine h4.trans ?_
  rw [h3, UInt8.toNat_ofNat']
  omega
theorem shr7 (m : Nat) : (m : Int).fdiv (2 ^ min (7 : Int).toNat IntKind.u64.bits) = ((m / 128 : Nat) : Int) := by
  have e : (2 : Int) ^ min (7 : Int).toNat IntKind.u64.bits = ((128 : Nat) : Int) := by decide
  rw [e, Int.fdiv_eq_ediv_of_nonneg _ (Int.natCast_nonneg _)]
  omega
theorem byteOf (m : Nat) : IntKind.u8.wrap (m : Int) = ((UInt8.ofNat m).toNat : Int) := by
  rw [IntKind.wrap_u8', UInt8.toNat_ofNat']; omega
theorem uEncF_ge {f m : Nat} (h : 128 ≤ m) : uEncF (f + 1) m = UInt8.ofNat (m % 128 + 128) :: uEncF f (m / 128) := by simp only [uEncF]; rw [if_pos h]
theorem uEncF_lt {f m : Nat} (h : m < 128) : uEncF f m = [UInt8.ofNat m] := by
  cases f with
  | zero => rfl
  | succ f => simp only [uEncF]; rw [if_neg (by omega)]
theorem div128 {f m : Nat} (h : m < 128 ^ (f + 2)) : m / 128 < 128 ^ (f + 1) := by
  rw [Nat.div_lt_iff_lt_mul (by decide)]; rwa [Nat.pow_succ] at h

theorem pow7 (i : Nat) : 2 ^ (7 * (i + 1)) = 128 * 2 ^ (7 * i) := by rw [Nat.mul_add, Nat.pow_add]; omega
theorem or_add {a x q : Nat} (ha : a < q) (hq : ∃ j, q = 2 ^ j) : a ||| x * q = a + x * q := by
  obtain ⟨j, rfl⟩ := hq
  rw [Nat.or_comm, nat_join j (x * 2 ^ j) a (by simp) ha]; omega
theorem uGo_enc : ∀ (f m i acc : Nat) (pre : List UInt8), pre.length = i → i + f = 9 → m < 128 ^ (f + 1) → acc < 2 ^ (7 * i) → acc + m * 2 ^ (7 * i) < M64 → (0 < i → 0 < m) →
    uGo (pre ++ uEncF f m) (10 - i) i acc = (acc + m * 2 ^ (7 * i), i + (uEncF f m).length, 0) := by
  intro f
  induction f with
  | zero =>
    intro m i acc pre hp hi hm ha hmm hpos
    have hi9 : i = 9 := by omega
    subst hi9
    have hm1 : m ≤ 1 := by
      have : m * 2 ^ (7 * 9) < 2 ^ 64 := by have e : M64 = 2 ^ 64 := by decide
                                            rw [← e]; omega
      omega
    have hg : (pre ++ uEncF 0 m)[9]? = some (UInt8.ofNat m) := by rw [List.getElem?_append_right (by omega), hp]; rfl
    have hb : (UInt8.ofNat m).toNat = m := by rw [UInt8.toNat_ofNat']; omega
    have hm0 := hpos (by omega)
    show uGo (pre ++ uEncF 0 m) (0 + 1) 9 acc = _
    simp only [uGo, hg, hb]
    rw [if_neg (by omega), if_neg (by omega), if_neg (by omega)]
    have e1 : (m <<< (7 * 9)) % M64 = m * 2 ^ (7 * 9) := by rw [Nat.shiftLeft_eq]; exact Nat.mod_eq_of_lt (by omega)
    rw [e1, or_add ha ⟨_, rfl⟩]
    rfl
  | succ f ih =>
    intro m i acc pre hp hi hm ha hmm hpos
    have h10 : 10 - i = (10 - (i + 1)) + 1 := by omega
    by_cases h128 : 128 ≤ m
    · rw [uEncF_ge h128]
      have hg : (pre ++ UInt8.ofNat (m % 128 + 128) :: uEncF f (m / 128))[i]? = some (UInt8.ofNat (m % 128 + 128)) := by rw [List.getElem?_append_right (by omega), hp]; simp
      have hb : (UInt8.ofNat (m % 128 + 128)).toNat = m % 128 + 128 := by rw [UInt8.toNat_ofNat']; omega
      rw [h10]
      simp only [uGo, hg, hb]
      rw [if_pos (by omega)]
      have e0 : (m % 128 + 128) % 128 = m % 128 := by omega
      have hle : m % 128 * 2 ^ (7 * i) ≤ m * 2 ^ (7 * i) := Nat.mul_le_mul_right _ (Nat.mod_le _ _)
      have e1 : ((m % 128) <<< (7 * i)) % M64 = m % 128 * 2 ^ (7 * i) := by rw [Nat.shiftLeft_eq]; exact Nat.mod_eq_of_lt (by omega)
      rw [e0, e1, or_add ha ⟨_, rfl⟩]
      have hsum : acc + m % 128 * 2 ^ (7 * i) + m / 128 * 2 ^ (7 * (i + 1)) = acc + m * 2 ^ (7 * i) := by
        rw [pow7]
        have h1 : m / 128 * (128 * 2 ^ (7 * i)) = (m / 128 * 128) * 2 ^ (7 * i) := by rw [Nat.mul_assoc]
        have h2 : m * 2 ^ (7 * i) = (m / 128 * 128 + m % 128) * 2 ^ (7 * i) := by congr 1; omega
        rw [h1, h2, Nat.add_mul]; omega
      have hcat : pre ++ UInt8.ofNat (m % 128 + 128) :: uEncF f (m / 128) = (pre ++ [UInt8.ofNat (m % 128 + 128)]) ++ uEncF f (m / 128) := by simp
      rw [hcat, ih (m / 128) (i + 1) _ (pre ++ [UInt8.ofNat (m % 128 + 128)]) (by simp; omega) (by omega) (div128 hm) ?_ (by omega) (fun _ => by omega), hsum]
      · simp; omega
      · rw [pow7]
        have : m % 128 * 2 ^ (7 * i) ≤ 127 * 2 ^ (7 * i) := Nat.mul_le_mul_right _ (by omega)
        omega
    · rw [uEncF_lt (by omega)]
      have hg : (pre ++ [UInt8.ofNat m])[i]? = some (UInt8.ofNat m) := by rw [List.getElem?_append_right (by omega), hp]; simp
      have hb : (UInt8.ofNat m).toNat = m := by rw [UInt8.toNat_ofNat']; omega
      rw [h10]
      simp only [uGo, hg, hb]
      rw [if_neg (by omega), if_neg (by omega), if_neg (by omega)]
      have e1 : (m <<< (7 * i)) % M64 = m * 2 ^ (7 * i) := by rw [Nat.shiftLeft_eq]; exact Nat.mod_eq_of_lt (by omega)
      rw [e1, or_add ha ⟨_, rfl⟩]
      simp
theorem uGo_uEnc {m : Nat} (hm : m < M64) : uGo (uEnc m) 10 0 0 = (m, (uEnc m).length, 0) := by
  have := uGo_enc 9 m 0 0 [] rfl rfl (Nat.lt_trans hm (by decide)) (by decide) (by simpa using hm) (fun h => by omega)
  simpa [uEnc] using this
theorem uEncF_pos : ∀ f m, 0 < (uEncF f m).length
  | 0, m => by simp [uEncF]
  | f + 1, m => by simp only [uEncF]; split <;> simp
theorem uEncF_le : ∀ f m, (uEncF f m).length ≤ f + 1
  | 0, m => by simp [uEncF]
  | f + 1, m => by simp only [uEncF]; split <;> simp; exact uEncF_le f _
end Pl
end Go.Proofs.Ythjnmclnafbcdaa
