/- Plain mathematics of the codec's numbers: no program in sight. -/
import Derived.Laws.BitsAllLaws
import Derived.IntWalk
namespace Go.Proofs.Ythjnmclnafbcdaa
set_option linter.unusedVariables false
namespace Pl
def M64 : Nat := 18446744073709551616

def uGo (l : List UInt8) : Nat → Nat → Nat → Nat × Nat × Nat
  | 0, _, _ => (0, 0, 20)
  | f + 1, i, n => match l[i]? with
    | none => (0, 0, 14)
    | some c => if 128 ≤ c.toNat then uGo l f (i + 1) (n ||| ((c.toNat % 128) <<< (7 * i)) % M64)
      else if i = 9 ∧ 1 < c.toNat then (0, 0, 20) else if c.toNat = 0 ∧ 0 < i then (0, 0, 15) else (n ||| (c.toNat <<< (7 * i)) % M64, i + 1, 0)
def uVal (r : Nat × Nat × Nat) : Value := .tuple #[.int .u64 r.1, .int .i64 r.2.1, .int .i64 r.2.2]

theorem m64_pos : 0 < M64 := by decide
theorem or_m64 {a b : Nat} (ha : a < M64) : a ||| b % M64 < M64 := by
  have e : M64 = 2 ^ 64 := by decide
  have hb : b % M64 < M64 := Nat.mod_lt _ m64_pos
  rw [e] at *
  exact Nat.or_lt_two_pow ha hb

theorem shl_or (m x k : Nat) (hm : m < M64) (hx : x < 256) :
    bits .or .u64 (m : Int) (IntKind.u64.wrap ((x : Int) * 2 ^ (7 * k))) = ((m ||| (x <<< (7 * k)) % M64 : Nat) : Int) := by
  have e : IntKind.u64.wrap ((x : Int) * 2 ^ (7 * k)) = (((x <<< (7 * k)) % M64 : Nat) : Int) := by
    rw [IntKind.wrap_u64, Nat.shiftLeft_eq, Int.natCast_emod, Int.natCast_mul, Int.natCast_pow]; rfl
  rw [e]
  exact u64_or_nat _ _ hm (Nat.mod_lt _ m64_pos)
theorem and127 (x : Nat) (hx : x < 256) : bits .and .u8 (x : Int) 127 = ((x % 128 : Nat) : Int) := by
  have := u8_and_nat x 127 hx (by omega)
  rw [nat_mask7] at this
  exact this
theorem shl_or_hi (m x k : Nat) (hm : m < M64) (hx : x < 256) :
    bits .or .u64 (m : Int) (IntKind.u64.wrap (IntKind.u64.wrap (bits .and .u8 (x : Int) 127) * 2 ^ (7 * k))) = ((m ||| ((x % 128) <<< (7 * k)) % M64 : Nat) : Int) := by
  rw [and127 x hx]
  have : IntKind.u64.wrap ((x % 128 : Nat) : Int) = ((x % 128 : Nat) : Int) := by rw [IntKind.wrap_u64]; omega
  rw [this]
  exact shl_or m (x % 128) k hm (by omega)

section
variable {l : List UInt8} {k m x : Nat}
theorem get_of (hk : k < l.length) (hx : (l.getD k 0).toNat = x) : ∃ c, l[k]? = some c ∧ c.toNat = x := by
  refine ⟨l[k], List.getElem?_eq_getElem hk, ?_⟩
  rw [← hx, List.getD_eq_getElem?_getD, List.getElem?_eq_getElem hk]; rfl
theorem ten (h : k < 10) : 10 - k = (10 - (k + 1)) + 1 := by omega
theorem uGo_hi (h : k < 10) (hk : k < l.length) (hx : (l.getD k 0).toNat = x) (h1 : 128 ≤ x) :
    uGo l (10 - k) k m = uGo l (10 - (k + 1)) (k + 1) (m ||| ((x % 128) <<< (7 * k)) % M64) := by
  obtain ⟨c, hc, rfl⟩ := get_of hk hx
  rw [ten h]; simp only [uGo, hc]; rw [if_pos h1]
theorem uGo_over (hk : 9 < l.length) (hx : (l.getD 9 0).toNat = x) (h1 : x < 128) (h2 : 1 < x) : uGo l (10 - 9) 9 m = (0, 0, 20) := by
  obtain ⟨c, hc, rfl⟩ := get_of hk hx
  simp only [uGo, hc]; rw [if_neg (by omega), if_pos ⟨trivial, h2⟩]
theorem uGo_form (h : k < 10) (hk : k < l.length) (hx : (l.getD k 0).toNat = 0) (h3 : 0 < k) : uGo l (10 - k) k m = (0, 0, 15) := by
  obtain ⟨c, hc, h0⟩ := get_of hk hx
  rw [ten h]; simp only [uGo, hc]; rw [if_neg (by omega), if_neg (by omega), if_pos ⟨h0, h3⟩]
theorem uGo_ok (h : k < 10) (hk : k < l.length) (hx : (l.getD k 0).toNat = x) (h1 : x < 128) (h2 : ¬ (k = 9 ∧ 1 < x)) (h3 : ¬ (x = 0 ∧ 0 < k)) :
    uGo l (10 - k) k m = (m ||| (x <<< (7 * k)) % M64, k + 1, 0) := by
  obtain ⟨c, hc, rfl⟩ := get_of hk hx
  rw [ten h]; simp only [uGo, hc]; rw [if_neg (by omega), if_neg h2, if_neg h3]
theorem uGo_end : uGo l (10 - 10) 10 m = (0, 0, 20) := rfl
theorem uGo_short (h : k < 10) (hk : l.length ≤ k) : uGo l (10 - k) k m = (0, 0, 14) := by
  rw [ten h]; simp only [uGo, List.getElem?_eq_none hk]
end

/-! ### values and their encodings -/
structure V where
  kind : Int
  num : Int
  str : ByteArray
def V.bytes (v : V) : List UInt8 := v.str.data.toList
def V.wf (v : V) : Prop := -9223372036854775808 ≤ v.num ∧ v.num ≤ 9223372036854775807 ∧ v.str.size ≤ 140737488351232
def V.cells (v : V) : List Value := [.int .i64 v.kind, .int .i64 v.num, .string v.str]
def V.val (v : V) : Value := .agg #[.int .i64 v.kind, .int .i64 v.num, .string v.str]
def V.valid (v : V) : Bool := (v.kind == 1 && v.bytes.isEmpty) || (v.kind == 2 && (v.num == 0 && decide (v.bytes.length ≤ 24)))
def V.m (v : V) : Nat := (v.num + 9223372036854775808).toNat
def be (m k : Nat) : UInt8 := UInt8.ofNat (m / 2 ^ (56 - 8 * k))
def be8 (m : Nat) : List UInt8 := (List.range 8).map (be m)
def esc : List UInt8 → List UInt8
  | [] => []
  | c :: r => if c = 0 then 0 :: 255 :: esc r else c :: esc r
def V.raw (v : V) : List UInt8 := if v.kind = 1 then 1 :: be8 v.m else 2 :: (esc v.bytes ++ [0, 0])
def flp (d : Bool) (l : List UInt8) : List UInt8 := if d then l.map (255 - ·) else l
def V.enc (v : V) (d : Bool) : List UInt8 := flp d v.raw

theorem bytes_len (v : V) : v.bytes.length = v.str.size := by simp [V.bytes]
theorem xor_low (a : Nat) (h : a < 9223372036854775808) : a ^^^ 9223372036854775808 = a + 9223372036854775808 := by
  have e : (9223372036854775808 : Nat) = 2 ^ 63 := by decide
  rw [e] at *
  apply Nat.eq_of_testBit_eq
  intro i
  rw [Nat.testBit_xor, Nat.testBit_two_pow, Nat.add_comm]
  rcases Nat.lt_trichotomy i 63 with hi | hi | hi
  · have h0 : decide (63 = i) = false := by simp; omega
    rw [Nat.testBit_two_pow_add_gt hi, h0, Bool.xor_false]
  · subst hi; rw [Nat.testBit_two_pow_add_eq, Nat.testBit_lt_two_pow h]; simp
  · have h1 : a.testBit i = false := Nat.testBit_lt_two_pow (Nat.lt_trans h (Nat.pow_lt_pow_right (by decide : 1 < 2) hi))
    have h2 : (2 ^ 63 + a).testBit i = false := Nat.testBit_lt_two_pow (by
      have : 2 ^ 64 ≤ 2 ^ i := Nat.pow_le_pow_right (by decide : 0 < 2) hi
      omega)
    have h0 : decide (63 = i) = false := by simp; omega
    rw [h1, h2, h0]; rfl
theorem xor_high (a : Nat) (h : 9223372036854775808 ≤ a) (h2 : a < 18446744073709551616) : a ^^^ 9223372036854775808 = a - 9223372036854775808 := by
  obtain ⟨b, rfl⟩ : ∃ b, a = b + 9223372036854775808 := ⟨a - 9223372036854775808, by omega⟩
  rw [← xor_low b (by omega), Nat.xor_assoc, Nat.xor_self, Nat.xor_zero, xor_low b (by omega)]; omega
theorem xor_top {z : Int} (h1 : -9223372036854775808 ≤ z) (h2 : z ≤ 9223372036854775807) : bits .xor .u64 (IntKind.u64.wrap z) 9223372036854775808 = (((z + 9223372036854775808).toNat : Nat) : Int) := by
  rw [IntKind.wrap_u64]
  rcases Int.lt_or_le z 0 with hz | hz
  · obtain ⟨a, ha⟩ : ∃ a : Nat, z % 18446744073709551616 = a := ⟨(z % 18446744073709551616).toNat, by omega⟩
    rw [ha]
    have hb : (9223372036854775808 : Int) = ((9223372036854775808 : Nat) : Int) := rfl
    rw [hb, u64_xor_nat a _ (by omega) (by omega), xor_high a (by omega) (by omega)]
    omega
  · obtain ⟨a, ha⟩ : ∃ a : Nat, z % 18446744073709551616 = a := ⟨(z % 18446744073709551616).toNat, by omega⟩
    rw [ha]
    have hb : (9223372036854775808 : Int) = ((9223372036854775808 : Nat) : Int) := rfl
    rw [hb, u64_xor_nat a _ (by omega) (by omega), xor_low a (by omega)]
    omega
theorem m_lt {v : V} (h : v.wf) : v.m < M64 := by
  obtain ⟨h1, h2, _⟩ := h
  unfold V.m M64; omega
theorem be_val (m k : Nat) (hk : k < 8) : IntKind.u8.wrap ((m : Int).fdiv (2 ^ min ((56 : Int) - 8 * (k : Int)).toNat IntKind.u64.bits)) = ((be m k).toNat : Int) := by
  have e : min ((56 : Int) - 8 * (k : Int)).toNat IntKind.u64.bits = 56 - 8 * k := by simp only [IntKind.bits]; omega
  rw [e, IntKind.wrap_u8', be, UInt8.toNat_ofNat']
  have h2 : ((2 : Int) ^ (56 - 8 * k)) = ((2 ^ (56 - 8 * k) : Nat) : Int) := by rw [Int.natCast_pow]; rfl
  rw [h2, Int.fdiv_eq_ediv_of_nonneg _ (Int.natCast_nonneg _)]
  omega
theorem be8_snoc (m k : Nat) (hk : k < 8) : (be8 m).take (k + 1) = (be8 m).take k ++ [be m k] := by
  rw [List.take_succ_eq_append_getElem (by simp [be8]; omega)]
  simp [be8]
theorem be8_len (m : Nat) : (be8 m).length = 8 := by simp [be8]
theorem esc_app (a b : List UInt8) : esc (a ++ b) = esc a ++ esc b := by
  induction a with
  | nil => rfl
  | cons c r ih => simp only [List.cons_append, esc, ih]; split <;> simp
theorem esc_snoc (l : List UInt8) (k : Nat) (h : k < l.length) : esc (l.take (k + 1)) = esc (l.take k) ++ (if l.getD k 0 = 0 then [0, 255] else [l.getD k 0]) := by
  rw [List.take_succ_eq_append_getElem h, esc_app]
  have h2 : l.getD k 0 = l[k] := by simp [List.getD, List.getElem?_eq_getElem h]
  rw [h2]
  congr 1
theorem esc_len (l : List UInt8) : (esc l).length ≤ 2 * l.length := by
  induction l with
  | nil => simp [esc]
  | cons c r ih => simp only [esc]; split <;> simp <;> omega
theorem raw_len {v : V} (h : v.wf) : v.raw.length ≤ 281474976710000 := by
  have := esc_len v.bytes
  have h2 := bytes_len v
  obtain ⟨_, _, h3⟩ := h
  unfold V.raw
  split
  · simp [be8]
  · simp; omega
theorem take_snocD (l : List UInt8) (k : Nat) (h : k < l.length) : l.take (k + 1) = l.take k ++ [l.getD k 0] := by
  rw [List.take_succ_eq_append_getElem h]; simp [List.getD, List.getElem?_eq_getElem h]
theorem flp_len (d : Bool) (l : List UInt8) : (flp d l).length = l.length := by unfold flp; split <;> simp
theorem not_byte (c : UInt8) : bits .xor .u8 (if IntKind.u8.signed then -1 else IntKind.u8.max) (c.toNat : Int) = ((255 - c).toNat : Int) := by
  have h1 := u8_xor_nat 255 c.toNat (by omega) c.toNat_lt
  have h2 : ∀ x : Fin 256, 255 ^^^ x.val = 255 - x.val := by decide +kernel
  have h3 := h2 ⟨c.toNat, c.toNat_lt⟩
  simp only at h3
  rw [h3] at h1
  have h4 : (255 - c).toNat = 255 - c.toNat := by
    rw [UInt8.toNat_sub_of_le]
    · rfl
    · rw [UInt8.le_iff_toNat_le]; have := c.toNat_lt; exact Nat.le_of_lt_succ this
  rw [h4]
  exact h1
theorem and127u (x : Nat) (hx : x < 256) : bits .and .u64 (x : Int) 127 = ((x % 128 : Nat) : Int) := by
  have := u64_and_nat x 127 (by omega) (by omega)
  rw [nat_mask7] at this
  exact this
theorem uGo_hi9 {l : List UInt8} {m m' x : Nat} (hk : 9 < l.length) (hx : (l.getD 9 0).toNat = x) (h1 : 128 ≤ x) : uGo l (10 - 9) 9 m = uGo l (10 - (9 + 1)) (9 + 1) m' := by
  rw [uGo_hi (by omega) hk hx h1]; rfl
end Pl
end Go.Proofs.Ythjnmclnafbcdaa
