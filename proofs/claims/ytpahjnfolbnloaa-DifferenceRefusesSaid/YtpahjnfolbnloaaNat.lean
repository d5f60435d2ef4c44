/- Plain mathematics of the natural numbers in base 2^32. No program in sight. -/
import Derived.Test.YtpahjnfolbnloaaRows
import Derived.Test.YtpahjnfolbnloaaRegC
import Derived.IntWalk
set_option linter.unusedVariables false
namespace Go.Proofs.Ytpahjnfolbnloaa
namespace Pl
def val : List UInt32 → Nat
  | [] => 0
  | c :: l => c.toNat + 4294967296 * val l
def limbs (n : Nat) : List UInt32 := if h : n = 0 then [] else UInt32.ofNat n :: limbs (n / 4294967296)
termination_by n
decreasing_by exact Nat.div_lt_self (by omega) (by decide)
theorem limbs_0 : limbs 0 = [] := by rw [limbs]; rfl
theorem limbs_pos {n : Nat} (h : n ≠ 0) : limbs n = UInt32.ofNat n :: limbs (n / 4294967296) := by rw [limbs, dif_neg h]
theorem limbs_cons {c : UInt32} {m : Nat} (h : c.toNat + 4294967296 * m ≠ 0) : limbs (c.toNat + 4294967296 * m) = c :: limbs m := by
  have hc := c.toNat_lt
  rw [limbs_pos h]
  congr 1
  · apply UInt32.toNat_inj.1
    rw [UInt32.toNat_ofNat']
    have : c.toNat < 4294967296 := hc
    omega
  · congr 1
    have : c.toNat < 4294967296 := hc
    omega
def trimL : List UInt32 → List UInt32
  | [] => []
  | c :: l => if trimL l = [] ∧ c = 0 then [] else c :: trimL l
theorem val_0 {l : List UInt32} (h : trimL l = []) : val l = 0 := by
  induction l with
  | nil => rfl
  | cons c l ih =>
    simp only [trimL] at h
    split at h
    · rename_i h2
      rw [val, ih h2.1, h2.2]; rfl
    · cases h
theorem trimL_eq : ∀ l : List UInt32, trimL l = limbs (val l)
  | [] => by rw [val, limbs_0]; rfl
  | c :: l => by
    have ih := trimL_eq l
    simp only [trimL, val]
    split
    · rename_i h
      rw [val_0 h.1, h.2]
      exact limbs_0.symm
    · rename_i h
      rw [limbs_cons, ih]
      intro h0
      apply h
      have hv : val l = 0 := by omega
      refine ⟨?_, ?_⟩
      · rw [ih, hv, limbs_0]
      · apply UInt32.toNat_inj.1
        show c.toNat = 0
        omega
theorem val_limbs (n : Nat) : val (limbs n) = n := by
  induction n using Nat.strongRecOn with
  | ind n ih =>
    by_cases h : n = 0
    · subst h; rw [limbs_0]; rfl
    · rw [limbs_pos h, val, ih (n / 4294967296) (Nat.div_lt_self (by omega) (by decide)), UInt32.toNat_ofNat']
      omega
theorem trim_limbs (n : Nat) : trimL (limbs n) = limbs n := by rw [trimL_eq, val_limbs]
theorem trim_snoc0 (l : List UInt32) : trimL (l ++ [0]) = trimL l := by
  induction l with
  | nil => rfl
  | cons c l ih => simp only [List.cons_append, trimL, ih]
theorem trim_snoc {c : UInt32} (l : List UInt32) (h : c ≠ 0) : trimL (l ++ [c]) = l ++ [c] := by
  induction l with
  | nil => simp [trimL, h]
  | cons d l ih => simp only [List.cons_append, trimL, ih]; simp
theorem val_app (a b : List UInt32) : val (a ++ b) = val a + 4294967296 ^ a.length * val b := by
  induction a with
  | nil => simp [val]
  | cons c a ih => rw [List.cons_append, val, val, ih, List.length_cons, Nat.pow_succ, Nat.mul_add, ← Nat.mul_assoc, Nat.mul_comm (4294967296 ^ a.length) 4294967296]; omega
theorem val_lt (a : List UInt32) : val a < 4294967296 ^ a.length := by
  induction a with
  | nil => simp [val]
  | cons c a ih =>
    have hc : c.toNat < 4294967296 := c.toNat_lt
    rw [val, List.length_cons, Nat.pow_succ]
    have : 4294967296 * (val a + 1) ≤ 4294967296 * 4294967296 ^ a.length := Nat.mul_le_mul_left _ ih
    rw [Nat.mul_comm (4294967296 ^ a.length)]
    omega
/-- as long as the shorter: the number is less -/
theorem val_snoc_ge {c : UInt32} (l : List UInt32) (h : c ≠ 0) : 4294967296 ^ l.length ≤ val (l ++ [c]) := by
  have hc : 0 < c.toNat := by
    rcases Nat.eq_zero_or_pos c.toNat with h0 | h0
    · exact absurd (UInt32.toNat_inj.1 h0) h
    · exact h0
  rw [val_app, val]
  have : 4294967296 ^ l.length * 1 ≤ 4294967296 ^ l.length * (c.toNat + 4294967296 * val []) := Nat.mul_le_mul_left _ (by omega)
  omega
theorem limbs_last {n : Nat} (h : n ≠ 0) : ∃ l c, limbs n = l ++ [c] ∧ c ≠ 0 := by
  rcases List.eq_nil_or_concat (limbs n) with h0 | ⟨l, c, h0⟩
  · have := val_limbs n
    rw [h0] at this
    exact absurd this.symm h
  · refine ⟨l, c, by rw [h0]; simp, fun hc => ?_⟩
    subst hc
    have h1 := trim_limbs n
    rw [h0, List.concat_eq_append, trim_snoc0] at h1
    have h2 := congrArg List.length h1
    have h3 : (trimL l).length ≤ l.length := by
      clear h1 h2 h0
      induction l with
      | nil => simp [trimL]
      | cons c l ih => simp only [trimL]; split <;> simp; exact ih
    simp at h2
    omega
theorem limbs_len_le {n : Nat} (h : n ≠ 0) : 4294967296 ^ ((limbs n).length - 1) ≤ n := by
  obtain ⟨l, c, h1, h2⟩ := limbs_last h
  have := val_snoc_ge l h2
  rw [← h1, val_limbs] at this
  rw [h1]
  simpa using this
theorem limbs_lt (n : Nat) : n < 4294967296 ^ (limbs n).length := by have := val_lt (limbs n); rwa [val_limbs] at this
theorem lt_of_len {n m : Nat} (h : (limbs n).length < (limbs m).length) : n < m := by
  have hm : m ≠ 0 := fun e => by subst e; rw [limbs_0] at h; simp at h
  have h1 := limbs_len_le hm
  have h2 := limbs_lt n
  have h3 : 4294967296 ^ (limbs n).length ≤ 4294967296 ^ ((limbs m).length - 1) := Nat.pow_le_pow_right (by decide) (by omega)
  omega
def cmpN (n m : Nat) : Int := if n < m then -1 else if m < n then 1 else 0
theorem val_top {a b : List UInt32} {i : Nat} (ha : i < a.length) (hab : a.length = b.length) (ht : a.drop (i + 1) = b.drop (i + 1)) (hl : (a.getD i 0).toNat < (b.getD i 0).toNat) : val a < val b := by
  have hb : i < b.length := by omega
  have ea : a = a.take i ++ (a.getD i 0 :: a.drop (i + 1)) := by
    have e : a.getD i 0 = a[i] := by simp [List.getD, List.getElem?_eq_getElem ha]
    rw [e, ← List.drop_eq_getElem_cons ha, List.take_append_drop]
  have eb : b = b.take i ++ (b.getD i 0 :: b.drop (i + 1)) := by
    have e : b.getD i 0 = b[i] := by simp [List.getD, List.getElem?_eq_getElem hb]
    rw [e, ← List.drop_eq_getElem_cons hb, List.take_append_drop]
  rw [ea, eb, val_app, val_app, val, val, ht]
  have l1 : (a.take i).length = i := by rw [List.length_take]; omega
  have l2 : (b.take i).length = i := by rw [List.length_take]; omega
  have v1 := val_lt (a.take i)
  rw [l1] at v1 ⊢
  rw [l2]
  have : 4294967296 ^ i * ((a.getD i 0).toNat + 1 + 4294967296 * val (b.drop (i + 1))) ≤ 4294967296 ^ i * ((b.getD i 0).toNat + 4294967296 * val (b.drop (i + 1))) := Nat.mul_le_mul_left _ (by omega)
  rw [Nat.add_assoc, Nat.add_comm 1, ← Nat.add_assoc, Nat.mul_add, Nat.mul_one] at this
  omega
end Pl
end Go.Proofs.Ytpahjnfolbnloaa
/- The types' table of this program, and closed facts. -/
set_option linter.unusedVariables false
namespace Go.Proofs.Ytpahjnfolbnloaa
open Go.RowKit Go.Wk
def tt : TT := [(3, { desc := .int .i64 }), (2, { desc := .int .i64 }), (5, { desc := .int .u8 }), (103, { desc := .int .u32 }), (99, { desc := .int .u64 }), (43, { desc := .int .u64 }), (4, { desc := .bool }), (9, { desc := .string }),
  (34, { desc := .int .i64 }), (33, { desc := .slice 103, esz := 1 }), (23, { desc := .slice 4, esz := 1 }), (73, { desc := .slice 3, esz := 1 }), (86, { desc := .invalid, size := 3, offs := [0, 1, 2] }), (25, { desc := .slice 86, esz := 3 }),
  (22, { desc := .slice 25, esz := 1 }), (29, { desc := .invalid, size := 2, offs := [0, 1] }),
  (46, { desc := .interface #[("At", 83), ("Len", 91), ("Rank", 36)] }), (108, { desc := .invalid, size := 1, offs := [0] }), (110, { desc := .invalid, size := 3, offs := [0, 1, 2] }), (130, { desc := .invalid, size := 2, offs := [0, 1] }),
  (66, { desc := .invalid, size := 2, offs := [0, 1] }), (75, { desc := .invalid, size := 3, offs := [0, 1, 2] }), (78, { desc := .invalid, size := 4, offs := [0, 3] }), (59, { desc := .invalid, size := 2, offs := [0, 1] }),
  (120, { desc := .invalid, size := 4, offs := [0, 1, 2, 3] }), (125, { desc := .invalid, size := 2, offs := [0, 1] }), (88, { desc := .slice 125, esz := 2 }), (57, { desc := .slice 60, esz := 2 }),
  (60, { desc := .array 2 5, size := 2, esz := 1 }), (49, { desc := .array 4 5, size := 4, esz := 1 }), (118, { desc := .pointer 120 })]
theorem tt_ok : TOk Try.prog tt := ⟨⟨by kernel_rfl, by kernel_rfl⟩, ⟨by kernel_rfl, by kernel_rfl⟩, ⟨by kernel_rfl, by kernel_rfl⟩, ⟨by kernel_rfl, by kernel_rfl⟩, ⟨by kernel_rfl, by kernel_rfl⟩, ⟨by kernel_rfl, by kernel_rfl⟩, ⟨by kernel_rfl, by kernel_rfl⟩, ⟨by kernel_rfl, by kernel_rfl⟩,
  ⟨by kernel_rfl, by kernel_rfl⟩, ⟨by kernel_rfl, by kernel_rfl, by kernel_rfl⟩, ⟨by kernel_rfl, by kernel_rfl, by kernel_rfl⟩, ⟨by kernel_rfl, by kernel_rfl, by kernel_rfl⟩, ⟨_, Try.underlying86, by kernel_rfl, by kernel_rfl⟩, ⟨by kernel_rfl, by kernel_rfl, by kernel_rfl⟩,
  ⟨by kernel_rfl, by kernel_rfl, by kernel_rfl⟩, ⟨_, Try.underlying29, by kernel_rfl, by kernel_rfl⟩, ⟨by kernel_rfl, by kernel_rfl⟩, ⟨_, Try.underlying108, by kernel_rfl, by kernel_rfl⟩, ⟨_, Try.underlying110, by kernel_rfl, by kernel_rfl⟩, ⟨_, Try.underlying130, by kernel_rfl, by kernel_rfl⟩, ⟨_, Try.underlying66, by kernel_rfl, by kernel_rfl⟩, ⟨_, Try.underlying75, by kernel_rfl, by kernel_rfl⟩, ⟨_, Try.underlying78, by kernel_rfl, by kernel_rfl⟩, ⟨_, Try.underlying59, by kernel_rfl, by kernel_rfl⟩, ⟨_, Try.underlying120, by kernel_rfl, by kernel_rfl⟩, ⟨_, Try.underlying125, by kernel_rfl, by kernel_rfl⟩, ⟨by kernel_rfl, by kernel_rfl, by kernel_rfl⟩, ⟨by kernel_rfl, by kernel_rfl, by kernel_rfl⟩, ⟨by kernel_rfl, by kernel_rfl, by kernel_rfl⟩, ⟨by kernel_rfl, by kernel_rfl, by kernel_rfl⟩, ⟨by kernel_rfl, by kernel_rfl⟩, trivial⟩
theorem mixed : Try.prog.follows .mixedOrders = true := by kernel_rfl
instance : Tab Try.prog tt := ⟨tt_ok, mixed⟩
theorem EN : ElT Try.prog 33 103 1 4 (.int .u32 0) := ⟨Try.underlying33, info_parts (by kernel_rfl), rfl, by decide⟩
theorem EV : ElT Try.prog 25 86 3 32 (.agg #[.int .i64 0, .int .i64 0, .string ⟨#[]⟩]) := ⟨Try.underlying25, info_parts (by kernel_rfl), rfl, by decide⟩
theorem ER : ElT Try.prog 22 25 1 24 (.slice none 0 0) := ⟨Try.underlying22, info_parts (by kernel_rfl), rfl, by decide⟩
theorem bsN (x y : Int) (w : World) : (Instr.buildSlice 33 2 #[(0, .int .u32 x), (1, .int .u32 y)]).run Try.prog w = .ok (.slice (some ⟨w.heap.size, 0, none⟩) 2 2) (w.alloc (.cells #[.int .u32 x, .int .u32 y] 103)) := by kernel_rfl
end Go.Proofs.Ytpahjnfolbnloaa
/- Naturals in memory; contracts of trim, Of, Cmp and of cmp.Compare. -/
set_option linter.unusedVariables false
namespace Go.Proofs.Ytpahjnfolbnloaa
open Go.RowKit Pl Go.Wk
attribute [local irreducible] WC WL QX WD WDB
def Nc (l : List UInt32) : List Value := l.map fun c => .int .u32 (c.toNat : Int)
theorem Nc_len (l : List UInt32) : (Nc l).length = l.length := by simp [Nc]
theorem Nc_get {l : List UInt32} {k : Nat} (h : k < l.length) : (Nc l)[k]? = some (.int .u32 ((l.getD k 0).toNat : Int)) := by simp [Nc, List.getD, List.getElem?_eq_getElem h]
theorem Nc_take (l : List UInt32) (k : Nat) : (Nc l).take k = Nc (l.take k) := by simp [Nc]
theorem Nc_one (l : List UInt32) : ∀ u ∈ Nc l, u.oneCell' = true := by
  intro u hu; simp [Nc] at hu; obtain ⟨c, _, rfl⟩ := hu; rfl
/-- a natural number in memory, without leading zeros -/
def NatV (w : World) (v : Value) (n : Nat) : Prop := ∃ A c, v = .slice A (limbs n).length c ∧ (limbs n).length ≤ c ∧ (limbs n).length ≤ 4611686018427387904 ∧ Rd w 1 A (limbs n).length (Nc (limbs n))
theorem NatV.ext {w w' : World} {v : Value} {n : Nat} (h : NatV w v n) (hx : Ext w w') : NatV w' v n := by
  obtain ⟨A, c, h1, h2, h3, h4⟩ := h; exact ⟨A, c, h1, h2, h3, h4.ext hx⟩
theorem NatV.nil (w : World) : NatV w (.slice none 0 0) 0 := ⟨none, 0, by rw [limbs_0]; rfl, by rw [limbs_0]; simp, by rw [limbs_0]; simp, by rw [limbs_0]; exact Rd.nil⟩
theorem trim_take : ∀ l : List UInt32, trimL l = l.take (trimL l).length
  | [] => rfl
  | c :: l => by
    simp only [trimL]
    split
    · rfl
    · rw [List.length_cons, List.take_succ_cons, ← trim_take l]
theorem trim_le (l : List UInt32) : (trimL l).length ≤ l.length := by
  have := congrArg List.length (trim_take l); rw [List.length_take] at this; omega
theorem trim_rd {w : World} {A : Option Addr} {l : List UInt32} (hr : Rd w 1 A l.length (Nc l)) (hm : l.length ≤ 4611686018427387904) : NatV w (.slice A (limbs (val l)).length (limbs (val l)).length) (val l) := by
  have h := hr.take (m := (trimL l).length) (trim_le l)
  rw [Nat.mul_one, Nc_take, ← trim_take] at h
  have := trim_le l
  rw [← trimL_eq]
  exact ⟨A, (trimL l).length, by rw [← trimL_eq], by rw [← trimL_eq]; exact Nat.le_refl _, by rw [← trimL_eq]; omega, by rw [← trimL_eq]; exact h⟩
set_option maxRecDepth 100000 in
theorem trim_any {A : Option Addr} {l : List UInt32} {c : Nat} {w : World} (hr : Rd w 1 A l.length (Nc l)) (hc : l.length ≤ c) (hm : l.length ≤ 4611686018427387904) :
    Ret Try.prog 57 [.slice A l.length c] w fun v w' => v = .slice A (limbs (val l)).length (limbs (val l)).length ∧ w' = w := by
  refine enterR Try.func57 Try.ntmps57 rfl (by kernel_rfl) rfl ?_
  repeat first | refine ω1 ?_ | refine ω2 ?_ | refine ω3 ?_ | refine ω4 ?_ | refine ω5 ?_ | refine χ1 ?_ | refine κ1 ?_ | refine κ2 ?_ | refine χ2 ?_ | refine κ3 ?_ | refine ω6 ?_ | refine ω7 ?_ | refine ω9 ?_ | refine κ4 ?_ | refine κ7 ?_ | refine κ8 ?_ | refine χ3 ?_ | refine χ4 ?_ | refine κ5 ?_ | refine κ6 ?_ | refine χ5 ?_ | refine χ6 ?_ | refine χ7 ?_ | refine ω8 ?_
  have fin : ∀ k, k ≤ l.length → trimL (l.take k) = trimL l → trimL (l.take k) = l.take k → k = (limbs (val l)).length := fun k hk h1 h2 => by
    rw [← trimL_eq, ← h1, h2, List.length_take]; omega
  refine wloop1 (fun k => [(0, .slice A l.length c), (3, .int .i64 ((k : Nat) : Int))]) (fun k w' => w' = w ∧ k ≤ l.length ∧ trimL (l.take k) = trimL l) (fun k => k) l.length (by repeat' (first | exact Sub.nil | refine Sub.cons rfl ?_)) ⟨rfl, Nat.le_refl _, by rw [List.take_length]⟩ ?_
  rintro k w' ⟨rfl, hk, hn⟩
  have done : ∀ k, k = (limbs (val l)).length → k ≤ l.length → (Value.slice A k k) = .slice A (limbs (val l)).length (limbs (val l)).length := fun k h _ => by rw [h]
  repeat first | refine ω1 ?_ | refine ω2 ?_ | refine ω3 ?_ | refine ω4 ?_ | refine ω5 ?_ | refine χ1 ?_ | refine κ1 ?_ | refine κ2 ?_ | refine χ2 ?_ | refine κ3 ?_ | refine ω6 ?_ | refine ω7 ?_ | refine ω9 ?_ | refine κ4 ?_ | refine κ7 ?_ | refine κ8 ?_ | refine χ3 ?_ | refine χ4 ?_ | refine κ5 ?_ | refine κ6 ?_ | refine χ5 ?_ | refine χ6 ?_ | refine χ7 ?_ | refine ω8 ?_
  refine ki 8 (fun h => ?_) (fun h => ?_)
  · have hpos : 0 < k := by have := of_decide_eq_true h; omega
    have hlt : k - 1 < l.length := by omega
    have hsp : l.take k = l.take (k - 1) ++ [l.getD (k - 1) 0] := by
      have e := List.take_succ_eq_append_getElem hlt
      rw [show k - 1 + 1 = k by omega] at e
      rw [e]; simp [List.getD, List.getElem?_eq_getElem hlt]
    repeat first | refine ω1 ?_ | refine ω2 ?_ | refine ω3 ?_ | refine ω4 ?_ | refine ω5 ?_ | refine χ1 ?_ | refine κ1 ?_ | refine κ2 ?_ | refine χ2 ?_ | refine κ3 ?_ | refine ω6 ?_ | refine ω7 ?_ | refine ω9 ?_ | refine κ4 ?_ | refine κ7 ?_ | refine κ8 ?_ | refine χ3 ?_ | refine χ4 ?_ | refine κ5 ?_ | refine κ6 ?_ | refine χ5 ?_ | refine χ6 ?_ | refine χ7 ?_ | refine ω8 ?_
    refine ix (k - 1) hr hlt ?_
    repeat first | refine ω1 ?_ | refine ω2 ?_ | refine ω3 ?_ | refine ω4 ?_ | refine ω5 ?_ | refine χ1 ?_ | refine κ1 ?_ | refine κ2 ?_ | refine χ2 ?_ | refine κ3 ?_ | refine ω6 ?_ | refine ω7 ?_ | refine ω9 ?_ | refine κ4 ?_ | refine κ7 ?_ | refine κ8 ?_ | refine χ3 ?_ | refine χ4 ?_ | refine κ5 ?_ | refine κ6 ?_ | refine χ5 ?_ | refine χ6 ?_ | refine χ7 ?_ | refine ω8 ?_
    refine ld (hr.cell (Nc_get hlt)) ?_
    repeat first | refine ω1 ?_ | refine ω2 ?_ | refine ω3 ?_ | refine ω4 ?_ | refine ω5 ?_ | refine χ1 ?_ | refine κ1 ?_ | refine κ2 ?_ | refine χ2 ?_ | refine κ3 ?_ | refine ω6 ?_ | refine ω7 ?_ | refine ω9 ?_ | refine κ4 ?_ | refine κ7 ?_ | refine κ8 ?_ | refine χ3 ?_ | refine χ4 ?_ | refine κ5 ?_ | refine κ6 ?_ | refine χ5 ?_ | refine χ6 ?_ | refine χ7 ?_ | refine ω8 ?_
    refine ci (fun h0 => ?_) (fun h0 => ?_)
    · have hz : l.getD (k - 1) 0 = 0 := by
        have := of_beq_t h0
        apply UInt32.toNat_inj.1
        show (l.getD (k - 1) 0).toNat = 0
        omega
      repeat first | refine ω1 ?_ | refine ω2 ?_ | refine ω3 ?_ | refine ω4 ?_ | refine ω5 ?_ | refine χ1 ?_ | refine κ1 ?_ | refine κ2 ?_ | refine χ2 ?_ | refine κ3 ?_ | refine ω6 ?_ | refine ω7 ?_ | refine ω9 ?_ | refine κ4 ?_ | refine κ7 ?_ | refine κ8 ?_ | refine χ3 ?_ | refine χ4 ?_ | refine κ5 ?_ | refine κ6 ?_ | refine χ5 ?_ | refine χ6 ?_ | refine χ7 ?_ | refine ω8 ?_
      refine qround1 (k - 1) (by repeat' (first | exact Sub.nil | refine Sub.cons (by first | rfl | (refine congrArg (fun z => some (Value.int .i64 z)) ?_; omega)) ?_)) ⟨rfl, by omega, ?_⟩ (by omega)
      rw [← hn, hsp, hz, trim_snoc0]
    · have hz : l.getD (k - 1) 0 ≠ 0 := by
        have := of_beq_f h0
        intro e; rw [e] at this; exact this rfl
      have hk2 := fin k hk hn (by rw [hsp]; exact trim_snoc _ hz)
      repeat first | refine ω1 ?_ | refine ω2 ?_ | refine ω3 ?_ | refine ω4 ?_ | refine ω5 ?_ | refine χ1 ?_ | refine κ1 ?_ | refine κ2 ?_ | refine χ2 ?_ | refine κ3 ?_ | refine ω6 ?_ | refine ω7 ?_ | refine ω9 ?_ | refine κ4 ?_ | refine κ7 ?_ | refine κ8 ?_ | refine χ3 ?_ | refine χ4 ?_ | refine κ5 ?_ | refine κ6 ?_ | refine χ5 ?_ | refine χ6 ?_ | refine χ7 ?_ | refine ω8 ?_
      refine wslice tt_ok 0 k k A k k rfl rfl rfl rfl rfl ⟨_, _, rfl, rfl⟩ ⟨_, _, rfl, rfl⟩ (.inr (by simp)) (Nat.zero_le _) (Nat.le_refl _) (by omega) (cut0 A _ _) rfl rfl rfl ?_
      repeat first | refine ω1 ?_ | refine ω2 ?_ | refine ω3 ?_ | refine ω4 ?_ | refine ω5 ?_ | refine χ1 ?_ | refine κ1 ?_ | refine κ2 ?_ | refine χ2 ?_ | refine κ3 ?_ | refine ω6 ?_ | refine ω7 ?_ | refine ω9 ?_ | refine κ4 ?_ | refine κ7 ?_ | refine κ8 ?_ | refine χ3 ?_ | refine χ4 ?_ | refine κ5 ?_ | refine κ6 ?_ | refine χ5 ?_ | refine χ6 ?_ | refine χ7 ?_ | refine ω8 ?_
      exact fin1 ⟨done k hk2 hk, rfl⟩
  · have hk0 : k = 0 := by have := of_decide_eq_false h; omega
    subst hk0
    have hk2 := fin 0 hk hn rfl
    repeat first | refine ω1 ?_ | refine ω2 ?_ | refine ω3 ?_ | refine ω4 ?_ | refine ω5 ?_ | refine χ1 ?_ | refine κ1 ?_ | refine κ2 ?_ | refine χ2 ?_ | refine κ3 ?_ | refine ω6 ?_ | refine ω7 ?_ | refine ω9 ?_ | refine κ4 ?_ | refine κ7 ?_ | refine κ8 ?_ | refine χ3 ?_ | refine χ4 ?_ | refine κ5 ?_ | refine κ6 ?_ | refine χ5 ?_ | refine χ6 ?_ | refine χ7 ?_ | refine ω8 ?_
    refine wslice tt_ok 0 0 0 A 0 0 rfl rfl rfl rfl rfl ⟨_, _, rfl, rfl⟩ ⟨_, _, rfl, rfl⟩ (.inr (by simp)) (Nat.zero_le _) (Nat.le_refl _) (by omega) (cut0 A _ _) rfl rfl rfl ?_
    repeat first | refine ω1 ?_ | refine ω2 ?_ | refine ω3 ?_ | refine ω4 ?_ | refine ω5 ?_ | refine χ1 ?_ | refine κ1 ?_ | refine κ2 ?_ | refine χ2 ?_ | refine κ3 ?_ | refine ω6 ?_ | refine ω7 ?_ | refine ω9 ?_ | refine κ4 ?_ | refine κ7 ?_ | refine κ8 ?_ | refine χ3 ?_ | refine χ4 ?_ | refine κ5 ?_ | refine κ6 ?_ | refine χ5 ?_ | refine χ6 ?_ | refine χ7 ?_ | refine ω8 ?_
    exact fin1 ⟨done 0 hk2 hk, rfl⟩
theorem trimV {w : World} {v : Value} {n : Nat} (h : NatV w v n) : Ret Try.prog 57 [v] w fun v' w' => (∃ A, v' = .slice A (limbs n).length (limbs n).length ∧ Rd w 1 A (limbs n).length (Nc (limbs n))) ∧ w' = w := by
  obtain ⟨A, c, rfl, h2, h3, h4⟩ := h
  refine (trim_any h4 h2 h3).mono ?_
  rintro v w' ⟨rfl, rfl⟩
  rw [val_limbs]
  exact ⟨⟨A, rfl, h4⟩, rfl⟩
theorem u32lo (n : Nat) : IntKind.u32.wrap (n : Int) = ((UInt32.ofNat n).toNat : Int) := by
  rw [UInt32.toNat_ofNat', IntKind.wrap_u32]; omega
theorem u32hi (n : Nat) : IntKind.u32.wrap ((n : Int).fdiv (2 ^ min (32 : Int).toNat IntKind.u64.bits)) = ((UInt32.ofNat (n / 4294967296)).toNat : Int) := by
  have e : (2 : Int) ^ min (32 : Int).toNat IntKind.u64.bits = ((4294967296 : Nat) : Int) := by decide
  rw [e, Int.fdiv_eq_ediv_of_nonneg _ (Int.natCast_nonneg _), UInt32.toNat_ofNat', IntKind.wrap_u32]; omega
theorem val_two (n : Nat) (h : n < 18446744073709551616) : val [UInt32.ofNat n, UInt32.ofNat (n / 4294967296)] = n := by
  simp only [val, UInt32.toNat_ofNat']; omega
set_option maxRecDepth 100000 in
theorem natOf_any (n : Nat) (h : n < 18446744073709551616) (w : World) : Ret Try.prog 55 [.int .u64 (n : Int)] w fun v w' => NatV w' v n ∧ Ext w w' := by
  refine enterR Try.func55 Try.ntmps55 rfl (by kernel_rfl) rfl ?_
  repeat first | refine ω1 ?_ | refine ω2 ?_ | refine ω3 ?_ | refine ω4 ?_ | refine ω5 ?_ | refine χ1 ?_ | refine κ1 ?_ | refine κ2 ?_ | refine χ2 ?_ | refine κ3 ?_ | refine ω6 ?_ | refine ω7 ?_ | refine ω9 ?_ | refine κ4 ?_ | refine κ7 ?_ | refine κ8 ?_ | refine χ3 ?_ | refine χ4 ?_ | refine κ5 ?_ | refine κ6 ?_ | refine χ5 ?_ | refine χ6 ?_ | refine χ7 ?_ | refine ω8 ?_
  refine wshr rfl rfl (by decide) rfl ?_
  repeat first | refine ω1 ?_ | refine ω2 ?_ | refine ω3 ?_ | refine ω4 ?_ | refine ω5 ?_ | refine χ1 ?_ | refine κ1 ?_ | refine κ2 ?_ | refine χ2 ?_ | refine κ3 ?_ | refine ω6 ?_ | refine ω7 ?_ | refine ω9 ?_ | refine κ4 ?_ | refine κ7 ?_ | refine κ8 ?_ | refine χ3 ?_ | refine χ4 ?_ | refine κ5 ?_ | refine κ6 ?_ | refine χ5 ?_ | refine χ6 ?_ | refine χ7 ?_ | refine ω8 ?_
  refine bsl (bsN _ _) ?_
  intro w1 b hx1 hb1 hk1
  rw [u32lo, u32hi] at hk1
  have hr : Rd w1 1 (some ⟨b, 0, none⟩) 2 (Nc [UInt32.ofNat n, UInt32.ofNat (n / 4294967296)]) := hk1.rd rfl
  repeat first | refine ω1 ?_ | refine ω2 ?_ | refine ω3 ?_ | refine ω4 ?_ | refine ω5 ?_ | refine χ1 ?_ | refine κ1 ?_ | refine κ2 ?_ | refine χ2 ?_ | refine κ3 ?_ | refine ω6 ?_ | refine ω7 ?_ | refine ω9 ?_ | refine κ4 ?_ | refine κ7 ?_ | refine κ8 ?_ | refine χ3 ?_ | refine χ4 ?_ | refine κ5 ?_ | refine κ6 ?_ | refine χ5 ?_ | refine χ6 ?_ | refine χ7 ?_ | refine ω8 ?_
  refine cl (trim_any (l := [UInt32.ofNat n, UInt32.ofNat (n / 4294967296)]) (c := 2) hr (Nat.le_refl _) (by simp)) ?_
  rintro v w2 ⟨rfl, rfl⟩
  have := trim_rd hr (by simp)
  rw [val_two n h] at this ⊢
  repeat first | refine ω1 ?_ | refine ω2 ?_ | refine ω3 ?_ | refine ω4 ?_ | refine ω5 ?_ | refine χ1 ?_ | refine κ1 ?_ | refine κ2 ?_ | refine χ2 ?_ | refine κ3 ?_ | refine ω6 ?_ | refine ω7 ?_ | refine ω9 ?_ | refine κ4 ?_ | refine κ7 ?_ | refine κ8 ?_ | refine χ3 ?_ | refine χ4 ?_ | refine κ5 ?_ | refine κ6 ?_ | refine χ5 ?_ | refine χ6 ?_ | refine χ7 ?_ | refine ω8 ?_
  exact fin1 ⟨this, hx1⟩
def sgn (a b : Int) : Int := if a < b then -1 else if b < a then 1 else 0
set_option maxRecDepth 100000 in
theorem isNaN_int (x : Int) (w : World) : Ret Try.prog 85 [.int .i64 x] w fun v w' => v = .bool false ∧ w' = w := by
  refine enterR Try.func85 Try.ntmps85 rfl (by kernel_rfl) rfl ?_
  repeat first | refine ω1 ?_ | refine ω2 ?_ | refine ω3 ?_ | refine ω4 ?_ | refine ω5 ?_ | refine χ1 ?_ | refine κ1 ?_ | refine κ2 ?_ | refine χ2 ?_ | refine κ3 ?_ | refine ω6 ?_ | refine ω7 ?_ | refine ω9 ?_ | refine κ4 ?_ | refine κ7 ?_ | refine κ8 ?_ | refine χ3 ?_ | refine χ4 ?_ | refine κ5 ?_ | refine κ6 ?_ | refine χ5 ?_ | refine χ6 ?_ | refine χ7 ?_ | refine ω8 ?_
  refine fin1 ⟨?_, rfl⟩
  simp
set_option maxRecDepth 100000 in
theorem compare_int (x y : Int) (w : World) : Ret Try.prog 58 [.int .i64 x, .int .i64 y] w fun v w' => v = .int .i64 (sgn x y) ∧ w' = w := by
  refine enterR Try.func58 Try.ntmps58 rfl (by kernel_rfl) rfl ?_
  repeat first | refine ω1 ?_ | refine ω2 ?_ | refine ω3 ?_ | refine ω4 ?_ | refine ω5 ?_ | refine χ1 ?_ | refine κ1 ?_ | refine κ2 ?_ | refine χ2 ?_ | refine κ3 ?_ | refine ω6 ?_ | refine ω7 ?_ | refine ω9 ?_ | refine κ4 ?_ | refine κ7 ?_ | refine κ8 ?_ | refine χ3 ?_ | refine χ4 ?_ | refine κ5 ?_ | refine κ6 ?_ | refine χ5 ?_ | refine χ6 ?_ | refine χ7 ?_ | refine ω8 ?_
  refine cl (isNaN_int x w) ?_
  rintro v w' ⟨rfl, rfl⟩
  repeat first | refine ω1 ?_ | refine ω2 ?_ | refine ω3 ?_ | refine ω4 ?_ | refine ω5 ?_ | refine χ1 ?_ | refine κ1 ?_ | refine κ2 ?_ | refine χ2 ?_ | refine κ3 ?_ | refine ω6 ?_ | refine ω7 ?_ | refine ω9 ?_ | refine κ4 ?_ | refine κ7 ?_ | refine κ8 ?_ | refine χ3 ?_ | refine χ4 ?_ | refine κ5 ?_ | refine κ6 ?_ | refine χ5 ?_ | refine χ6 ?_ | refine χ7 ?_ | refine ω8 ?_
  refine cl (isNaN_int y w') ?_
  rintro v w'' ⟨rfl, rfl⟩
  repeat first | refine ω1 ?_ | refine ω2 ?_ | refine ω3 ?_ | refine ω4 ?_ | refine ω5 ?_ | refine χ1 ?_ | refine κ1 ?_ | refine κ2 ?_ | refine χ2 ?_ | refine κ3 ?_ | refine ω6 ?_ | refine ω7 ?_ | refine ω9 ?_ | refine κ4 ?_ | refine κ7 ?_ | refine κ8 ?_ | refine χ3 ?_ | refine χ4 ?_ | refine κ5 ?_ | refine κ6 ?_ | refine χ5 ?_ | refine χ6 ?_ | refine χ7 ?_ | refine ω8 ?_
  refine ci (fun h => ?_) (fun h => ?_)
  · repeat first | refine ω1 ?_ | refine ω2 ?_ | refine ω3 ?_ | refine ω4 ?_ | refine ω5 ?_ | refine χ1 ?_ | refine κ1 ?_ | refine κ2 ?_ | refine χ2 ?_ | refine κ3 ?_ | refine ω6 ?_ | refine ω7 ?_ | refine ω9 ?_ | refine κ4 ?_ | refine κ7 ?_ | refine κ8 ?_ | refine χ3 ?_ | refine χ4 ?_ | refine κ5 ?_ | refine κ6 ?_ | refine χ5 ?_ | refine χ6 ?_ | refine χ7 ?_ | refine ω8 ?_
    refine fin1 ⟨?_, rfl⟩
    rw [sgn, if_pos (of_decide_eq_true h)]
  · repeat first | refine ω1 ?_ | refine ω2 ?_ | refine ω3 ?_ | refine ω4 ?_ | refine ω5 ?_ | refine χ1 ?_ | refine κ1 ?_ | refine κ2 ?_ | refine χ2 ?_ | refine κ3 ?_ | refine ω6 ?_ | refine ω7 ?_ | refine ω9 ?_ | refine κ4 ?_ | refine κ7 ?_ | refine κ8 ?_ | refine χ3 ?_ | refine χ4 ?_ | refine κ5 ?_ | refine κ6 ?_ | refine χ5 ?_ | refine χ6 ?_ | refine χ7 ?_ | refine ω8 ?_
    refine ci (fun h2 => ?_) (fun h2 => ?_)
    · repeat first | refine ω1 ?_ | refine ω2 ?_ | refine ω3 ?_ | refine ω4 ?_ | refine ω5 ?_ | refine χ1 ?_ | refine κ1 ?_ | refine κ2 ?_ | refine χ2 ?_ | refine κ3 ?_ | refine ω6 ?_ | refine ω7 ?_ | refine ω9 ?_ | refine κ4 ?_ | refine κ7 ?_ | refine κ8 ?_ | refine χ3 ?_ | refine χ4 ?_ | refine κ5 ?_ | refine κ6 ?_ | refine χ5 ?_ | refine χ6 ?_ | refine χ7 ?_ | refine ω8 ?_
      refine fin1 ⟨?_, rfl⟩
      rw [sgn, if_neg (of_decide_eq_false h), if_pos (of_decide_eq_true h2)]
    · repeat first | refine ω1 ?_ | refine ω2 ?_ | refine ω3 ?_ | refine ω4 ?_ | refine ω5 ?_ | refine χ1 ?_ | refine κ1 ?_ | refine κ2 ?_ | refine χ2 ?_ | refine κ3 ?_ | refine ω6 ?_ | refine ω7 ?_ | refine ω9 ?_ | refine κ4 ?_ | refine κ7 ?_ | refine κ8 ?_ | refine χ3 ?_ | refine χ4 ?_ | refine κ5 ?_ | refine κ6 ?_ | refine χ5 ?_ | refine χ6 ?_ | refine χ7 ?_ | refine ω8 ?_
      refine fin1 ⟨?_, rfl⟩
      rw [sgn, if_neg (of_decide_eq_false h), if_neg (of_decide_eq_false h2)]
set_option maxRecDepth 100000 in
theorem isNaN_u32 (x : Int) (w : World) : Ret Try.prog 86 [.int .u32 x] w fun v w' => v = .bool false ∧ w' = w := by
  refine enterR Try.func86 Try.ntmps86 rfl (by kernel_rfl) rfl ?_
  repeat first | refine ω1 ?_ | refine ω2 ?_ | refine ω3 ?_ | refine ω4 ?_ | refine ω5 ?_ | refine χ1 ?_ | refine κ1 ?_ | refine κ2 ?_ | refine χ2 ?_ | refine κ3 ?_ | refine ω6 ?_ | refine ω7 ?_ | refine ω9 ?_ | refine κ4 ?_ | refine κ7 ?_ | refine κ8 ?_ | refine χ3 ?_ | refine χ4 ?_ | refine κ5 ?_ | refine κ6 ?_ | refine χ5 ?_ | refine χ6 ?_ | refine χ7 ?_ | refine ω8 ?_
  refine fin1 ⟨?_, rfl⟩
  simp
set_option maxRecDepth 100000 in
theorem compare_u32 (x y : Int) (w : World) : Ret Try.prog 59 [.int .u32 x, .int .u32 y] w fun v w' => v = .int .i64 (sgn x y) ∧ w' = w := by
  refine enterR Try.func59 Try.ntmps59 rfl (by kernel_rfl) rfl ?_
  repeat first | refine ω1 ?_ | refine ω2 ?_ | refine ω3 ?_ | refine ω4 ?_ | refine ω5 ?_ | refine χ1 ?_ | refine κ1 ?_ | refine κ2 ?_ | refine χ2 ?_ | refine κ3 ?_ | refine ω6 ?_ | refine ω7 ?_ | refine ω9 ?_ | refine κ4 ?_ | refine κ7 ?_ | refine κ8 ?_ | refine χ3 ?_ | refine χ4 ?_ | refine κ5 ?_ | refine κ6 ?_ | refine χ5 ?_ | refine χ6 ?_ | refine χ7 ?_ | refine ω8 ?_
  refine cl (isNaN_u32 x w) ?_
  rintro v w' ⟨rfl, rfl⟩
  repeat first | refine ω1 ?_ | refine ω2 ?_ | refine ω3 ?_ | refine ω4 ?_ | refine ω5 ?_ | refine χ1 ?_ | refine κ1 ?_ | refine κ2 ?_ | refine χ2 ?_ | refine κ3 ?_ | refine ω6 ?_ | refine ω7 ?_ | refine ω9 ?_ | refine κ4 ?_ | refine κ7 ?_ | refine κ8 ?_ | refine χ3 ?_ | refine χ4 ?_ | refine κ5 ?_ | refine κ6 ?_ | refine χ5 ?_ | refine χ6 ?_ | refine χ7 ?_ | refine ω8 ?_
  refine cl (isNaN_u32 y w') ?_
  rintro v w'' ⟨rfl, rfl⟩
  repeat first | refine ω1 ?_ | refine ω2 ?_ | refine ω3 ?_ | refine ω4 ?_ | refine ω5 ?_ | refine χ1 ?_ | refine κ1 ?_ | refine κ2 ?_ | refine χ2 ?_ | refine κ3 ?_ | refine ω6 ?_ | refine ω7 ?_ | refine ω9 ?_ | refine κ4 ?_ | refine κ7 ?_ | refine κ8 ?_ | refine χ3 ?_ | refine χ4 ?_ | refine κ5 ?_ | refine κ6 ?_ | refine χ5 ?_ | refine χ6 ?_ | refine χ7 ?_ | refine ω8 ?_
  refine ci (fun h => ?_) (fun h => ?_)
  · repeat first | refine ω1 ?_ | refine ω2 ?_ | refine ω3 ?_ | refine ω4 ?_ | refine ω5 ?_ | refine χ1 ?_ | refine κ1 ?_ | refine κ2 ?_ | refine χ2 ?_ | refine κ3 ?_ | refine ω6 ?_ | refine ω7 ?_ | refine ω9 ?_ | refine κ4 ?_ | refine κ7 ?_ | refine κ8 ?_ | refine χ3 ?_ | refine χ4 ?_ | refine κ5 ?_ | refine κ6 ?_ | refine χ5 ?_ | refine χ6 ?_ | refine χ7 ?_ | refine ω8 ?_
    refine fin1 ⟨?_, rfl⟩
    rw [sgn, if_pos (of_decide_eq_true h)]
  · repeat first | refine ω1 ?_ | refine ω2 ?_ | refine ω3 ?_ | refine ω4 ?_ | refine ω5 ?_ | refine χ1 ?_ | refine κ1 ?_ | refine κ2 ?_ | refine χ2 ?_ | refine κ3 ?_ | refine ω6 ?_ | refine ω7 ?_ | refine ω9 ?_ | refine κ4 ?_ | refine κ7 ?_ | refine κ8 ?_ | refine χ3 ?_ | refine χ4 ?_ | refine κ5 ?_ | refine κ6 ?_ | refine χ5 ?_ | refine χ6 ?_ | refine χ7 ?_ | refine ω8 ?_
    refine ci (fun h2 => ?_) (fun h2 => ?_)
    · repeat first | refine ω1 ?_ | refine ω2 ?_ | refine ω3 ?_ | refine ω4 ?_ | refine ω5 ?_ | refine χ1 ?_ | refine κ1 ?_ | refine κ2 ?_ | refine χ2 ?_ | refine κ3 ?_ | refine ω6 ?_ | refine ω7 ?_ | refine ω9 ?_ | refine κ4 ?_ | refine κ7 ?_ | refine κ8 ?_ | refine χ3 ?_ | refine χ4 ?_ | refine κ5 ?_ | refine κ6 ?_ | refine χ5 ?_ | refine χ6 ?_ | refine χ7 ?_ | refine ω8 ?_
      refine fin1 ⟨?_, rfl⟩
      rw [sgn, if_neg (of_decide_eq_false h), if_pos (of_decide_eq_true h2)]
    · repeat first | refine ω1 ?_ | refine ω2 ?_ | refine ω3 ?_ | refine ω4 ?_ | refine ω5 ?_ | refine χ1 ?_ | refine κ1 ?_ | refine κ2 ?_ | refine χ2 ?_ | refine κ3 ?_ | refine ω6 ?_ | refine ω7 ?_ | refine ω9 ?_ | refine κ4 ?_ | refine κ7 ?_ | refine κ8 ?_ | refine χ3 ?_ | refine χ4 ?_ | refine κ5 ?_ | refine κ6 ?_ | refine χ5 ?_ | refine χ6 ?_ | refine χ7 ?_ | refine ω8 ?_
      refine fin1 ⟨?_, rfl⟩
      rw [sgn, if_neg (of_decide_eq_false h), if_neg (of_decide_eq_false h2)]
set_option maxRecDepth 100000 in
theorem isNaN_i64 (x : Int) (w : World) : Ret Try.prog 109 [.int .i64 x] w fun v w' => v = .bool false ∧ w' = w := by
  refine enterR Try.func109 Try.ntmps109 rfl (by kernel_rfl) rfl ?_
  repeat first | refine ω1 ?_ | refine ω2 ?_ | refine ω3 ?_ | refine ω4 ?_ | refine ω5 ?_ | refine χ1 ?_ | refine κ1 ?_ | refine κ2 ?_ | refine χ2 ?_ | refine κ3 ?_ | refine ω6 ?_ | refine ω7 ?_ | refine ω9 ?_ | refine κ4 ?_ | refine κ7 ?_ | refine κ8 ?_ | refine χ3 ?_ | refine χ4 ?_ | refine κ5 ?_ | refine κ6 ?_ | refine χ5 ?_ | refine χ6 ?_ | refine χ7 ?_ | refine ω8 ?_
  refine fin1 ⟨?_, rfl⟩
  simp
set_option maxRecDepth 100000 in
theorem compare_i64 (x y : Int) (w : World) : Ret Try.prog 100 [.int .i64 x, .int .i64 y] w fun v w' => v = .int .i64 (sgn x y) ∧ w' = w := by
  refine enterR Try.func100 Try.ntmps100 rfl (by kernel_rfl) rfl ?_
  repeat first | refine ω1 ?_ | refine ω2 ?_ | refine ω3 ?_ | refine ω4 ?_ | refine ω5 ?_ | refine χ1 ?_ | refine κ1 ?_ | refine κ2 ?_ | refine χ2 ?_ | refine κ3 ?_ | refine ω6 ?_ | refine ω7 ?_ | refine ω9 ?_ | refine κ4 ?_ | refine κ7 ?_ | refine κ8 ?_ | refine χ3 ?_ | refine χ4 ?_ | refine κ5 ?_ | refine κ6 ?_ | refine χ5 ?_ | refine χ6 ?_ | refine χ7 ?_ | refine ω8 ?_
  refine cl (isNaN_i64 x w) ?_
  rintro v w' ⟨rfl, rfl⟩
  repeat first | refine ω1 ?_ | refine ω2 ?_ | refine ω3 ?_ | refine ω4 ?_ | refine ω5 ?_ | refine χ1 ?_ | refine κ1 ?_ | refine κ2 ?_ | refine χ2 ?_ | refine κ3 ?_ | refine ω6 ?_ | refine ω7 ?_ | refine ω9 ?_ | refine κ4 ?_ | refine κ7 ?_ | refine κ8 ?_ | refine χ3 ?_ | refine χ4 ?_ | refine κ5 ?_ | refine κ6 ?_ | refine χ5 ?_ | refine χ6 ?_ | refine χ7 ?_ | refine ω8 ?_
  refine cl (isNaN_i64 y w') ?_
  rintro v w'' ⟨rfl, rfl⟩
  repeat first | refine ω1 ?_ | refine ω2 ?_ | refine ω3 ?_ | refine ω4 ?_ | refine ω5 ?_ | refine χ1 ?_ | refine κ1 ?_ | refine κ2 ?_ | refine χ2 ?_ | refine κ3 ?_ | refine ω6 ?_ | refine ω7 ?_ | refine ω9 ?_ | refine κ4 ?_ | refine κ7 ?_ | refine κ8 ?_ | refine χ3 ?_ | refine χ4 ?_ | refine κ5 ?_ | refine κ6 ?_ | refine χ5 ?_ | refine χ6 ?_ | refine χ7 ?_ | refine ω8 ?_
  refine ci (fun h => ?_) (fun h => ?_)
  · repeat first | refine ω1 ?_ | refine ω2 ?_ | refine ω3 ?_ | refine ω4 ?_ | refine ω5 ?_ | refine χ1 ?_ | refine κ1 ?_ | refine κ2 ?_ | refine χ2 ?_ | refine κ3 ?_ | refine ω6 ?_ | refine ω7 ?_ | refine ω9 ?_ | refine κ4 ?_ | refine κ7 ?_ | refine κ8 ?_ | refine χ3 ?_ | refine χ4 ?_ | refine κ5 ?_ | refine κ6 ?_ | refine χ5 ?_ | refine χ6 ?_ | refine χ7 ?_ | refine ω8 ?_
    refine fin1 ⟨?_, rfl⟩
    rw [sgn, if_pos (of_decide_eq_true h)]
  · repeat first | refine ω1 ?_ | refine ω2 ?_ | refine ω3 ?_ | refine ω4 ?_ | refine ω5 ?_ | refine χ1 ?_ | refine κ1 ?_ | refine κ2 ?_ | refine χ2 ?_ | refine κ3 ?_ | refine ω6 ?_ | refine ω7 ?_ | refine ω9 ?_ | refine κ4 ?_ | refine κ7 ?_ | refine κ8 ?_ | refine χ3 ?_ | refine χ4 ?_ | refine κ5 ?_ | refine κ6 ?_ | refine χ5 ?_ | refine χ6 ?_ | refine χ7 ?_ | refine ω8 ?_
    refine ci (fun h2 => ?_) (fun h2 => ?_)
    · repeat first | refine ω1 ?_ | refine ω2 ?_ | refine ω3 ?_ | refine ω4 ?_ | refine ω5 ?_ | refine χ1 ?_ | refine κ1 ?_ | refine κ2 ?_ | refine χ2 ?_ | refine κ3 ?_ | refine ω6 ?_ | refine ω7 ?_ | refine ω9 ?_ | refine κ4 ?_ | refine κ7 ?_ | refine κ8 ?_ | refine χ3 ?_ | refine χ4 ?_ | refine κ5 ?_ | refine κ6 ?_ | refine χ5 ?_ | refine χ6 ?_ | refine χ7 ?_ | refine ω8 ?_
      refine fin1 ⟨?_, rfl⟩
      rw [sgn, if_neg (of_decide_eq_false h), if_pos (of_decide_eq_true h2)]
    · repeat first | refine ω1 ?_ | refine ω2 ?_ | refine ω3 ?_ | refine ω4 ?_ | refine ω5 ?_ | refine χ1 ?_ | refine κ1 ?_ | refine κ2 ?_ | refine χ2 ?_ | refine κ3 ?_ | refine ω6 ?_ | refine ω7 ?_ | refine ω9 ?_ | refine κ4 ?_ | refine κ7 ?_ | refine κ8 ?_ | refine χ3 ?_ | refine χ4 ?_ | refine κ5 ?_ | refine κ6 ?_ | refine χ5 ?_ | refine χ6 ?_ | refine χ7 ?_ | refine ω8 ?_
      refine fin1 ⟨?_, rfl⟩
      rw [sgn, if_neg (of_decide_eq_false h), if_neg (of_decide_eq_false h2)]
theorem sgn_nat (n m : Nat) : sgn (n : Int) (m : Int) = cmpN n m := by
  unfold sgn cmpN
  by_cases h : n < m
  · rw [if_pos (by omega), if_pos h]
  · rw [if_neg (by omega), if_neg h]
    by_cases h2 : m < n
    · rw [if_pos (by omega), if_pos h2]
    · rw [if_neg (by omega), if_neg h2]
theorem u32_eq {a b : UInt32} (h : ((a.toNat : Int) != (b.toNat : Int)) = false) : a = b := by
  have : (a.toNat : Int) = b.toNat := by simpa using h
  apply UInt32.toNat_inj.1; omega
theorem u32_ne {a b : UInt32} (h : ((a.toNat : Int) != (b.toNat : Int)) = true) : a.toNat ≠ b.toNat := by
  intro e; rw [e] at h; simp at h
set_option maxRecDepth 100000 in
theorem natCmp_any {v u : Value} {n m : Nat} {w : World} (hv : NatV w v n) (hu : NatV w u m) : Ret Try.prog 19 [v, u] w fun r w' => r = .int .i64 (cmpN n m) ∧ Ext w w' := by
  have hv3 := hv
  have hu3 := hu
  obtain ⟨_, _, _, _, hln, _⟩ := hv3
  obtain ⟨_, _, _, _, hlm, _⟩ := hu3
  refine enterR Try.func19 Try.ntmps19 rfl (by kernel_rfl) rfl ?_
  repeat first | refine ω1 ?_ | refine ω2 ?_ | refine ω3 ?_ | refine ω4 ?_ | refine ω5 ?_ | refine χ1 ?_ | refine κ1 ?_ | refine κ2 ?_ | refine χ2 ?_ | refine κ3 ?_ | refine ω6 ?_ | refine ω7 ?_ | refine ω9 ?_ | refine κ4 ?_ | refine κ7 ?_ | refine κ8 ?_ | refine χ3 ?_ | refine χ4 ?_ | refine κ5 ?_ | refine κ6 ?_ | refine χ5 ?_ | refine χ6 ?_ | refine χ7 ?_ | refine ω8 ?_
  refine cl (trimV hv) ?_
  rintro v' w' ⟨⟨A, rfl, ha⟩, rfl⟩
  repeat first | refine ω1 ?_ | refine ω2 ?_ | refine ω3 ?_ | refine ω4 ?_ | refine ω5 ?_ | refine χ1 ?_ | refine κ1 ?_ | refine κ2 ?_ | refine χ2 ?_ | refine κ3 ?_ | refine ω6 ?_ | refine ω7 ?_ | refine ω9 ?_ | refine κ4 ?_ | refine κ7 ?_ | refine κ8 ?_ | refine χ3 ?_ | refine χ4 ?_ | refine κ5 ?_ | refine κ6 ?_ | refine χ5 ?_ | refine χ6 ?_ | refine χ7 ?_ | refine ω8 ?_
  refine cl (trimV hu) ?_
  rintro u' w'' ⟨⟨B, rfl, hb⟩, rfl⟩
  repeat first | refine ω1 ?_ | refine ω2 ?_ | refine ω3 ?_ | refine ω4 ?_ | refine ω5 ?_ | refine χ1 ?_ | refine κ1 ?_ | refine κ2 ?_ | refine χ2 ?_ | refine κ3 ?_ | refine ω6 ?_ | refine ω7 ?_ | refine ω9 ?_ | refine κ4 ?_ | refine κ7 ?_ | refine κ8 ?_ | refine χ3 ?_ | refine χ4 ?_ | refine κ5 ?_ | refine κ6 ?_ | refine χ5 ?_ | refine χ6 ?_ | refine χ7 ?_ | refine ω8 ?_
  refine ci (fun h => ?_) (fun h => ?_)
  · repeat first | refine ω1 ?_ | refine ω2 ?_ | refine ω3 ?_ | refine ω4 ?_ | refine ω5 ?_ | refine χ1 ?_ | refine κ1 ?_ | refine κ2 ?_ | refine χ2 ?_ | refine κ3 ?_ | refine ω6 ?_ | refine ω7 ?_ | refine ω9 ?_ | refine κ4 ?_ | refine κ7 ?_ | refine κ8 ?_ | refine χ3 ?_ | refine χ4 ?_ | refine κ5 ?_ | refine κ6 ?_ | refine χ5 ?_ | refine χ6 ?_ | refine χ7 ?_ | refine ω8 ?_
    refine cl (compare_int _ _ _) ?_
    rintro t w1 ⟨rfl, rfl⟩
    repeat first | refine ω1 ?_ | refine ω2 ?_ | refine ω3 ?_ | refine ω4 ?_ | refine ω5 ?_ | refine χ1 ?_ | refine κ1 ?_ | refine κ2 ?_ | refine χ2 ?_ | refine κ3 ?_ | refine ω6 ?_ | refine ω7 ?_ | refine ω9 ?_ | refine κ4 ?_ | refine κ7 ?_ | refine κ8 ?_ | refine χ3 ?_ | refine χ4 ?_ | refine κ5 ?_ | refine κ6 ?_ | refine χ5 ?_ | refine χ6 ?_ | refine χ7 ?_ | refine ω8 ?_
    refine fin1 ⟨?_, Ext.refl _⟩
    rw [sgn_nat]
    have hne : (limbs n).length ≠ (limbs m).length := by intro e; rw [e] at h; simp at h
    unfold cmpN
    rcases Nat.lt_or_gt_of_ne hne with h1 | h1
    · rw [if_pos h1, if_pos (lt_of_len h1)]
    · have := lt_of_len h1
      rw [if_neg (by omega), if_pos h1, if_neg (by omega), if_pos this]
  · have hlen : (limbs n).length = (limbs m).length := by
      have : ((limbs n).length : Int) = (limbs m).length := by simpa using h
      omega
    repeat first | refine ω1 ?_ | refine ω2 ?_ | refine ω3 ?_ | refine ω4 ?_ | refine ω5 ?_ | refine χ1 ?_ | refine κ1 ?_ | refine κ2 ?_ | refine χ2 ?_ | refine κ3 ?_ | refine ω6 ?_ | refine ω7 ?_ | refine ω9 ?_ | refine κ4 ?_ | refine κ7 ?_ | refine κ8 ?_ | refine χ3 ?_ | refine χ4 ?_ | refine κ5 ?_ | refine κ6 ?_ | refine χ5 ?_ | refine χ6 ?_ | refine χ7 ?_ | refine ω8 ?_
    refine wloop1 (fun k => [(0, .slice A (limbs n).length (limbs n).length), (1, .slice B (limbs m).length (limbs m).length), (5, .int .i64 ((k : Nat) - 1 : Int))]) (fun k w' => Ext w'' w' ∧ k ≤ (limbs n).length ∧ (limbs n).drop k = (limbs m).drop k) (fun k => k) (limbs n).length (by repeat' (first | exact Sub.nil | refine Sub.cons rfl ?_))
      ⟨Ext.refl _, Nat.le_refl _, by rw [List.drop_length, hlen, List.drop_length]⟩ ?_
    rintro k w1 ⟨hx, hk, hd⟩
    repeat first | refine ω1 ?_ | refine ω2 ?_ | refine ω3 ?_ | refine ω4 ?_ | refine ω5 ?_ | refine χ1 ?_ | refine κ1 ?_ | refine κ2 ?_ | refine χ2 ?_ | refine κ3 ?_ | refine ω6 ?_ | refine ω7 ?_ | refine ω9 ?_ | refine κ4 ?_ | refine κ7 ?_ | refine κ8 ?_ | refine χ3 ?_ | refine χ4 ?_ | refine κ5 ?_ | refine κ6 ?_ | refine χ5 ?_ | refine χ6 ?_ | refine χ7 ?_ | refine ω8 ?_
    refine ci (fun h => ?_) (fun h => ?_)
    · have hpos : 0 < k := by have := of_decide_eq_true h; omega
      have hka : k - 1 < (limbs n).length := by omega
      have hkb : k - 1 < (limbs m).length := by omega
      have hxd := hx.trans ((Ext.refl w1).drew)
      have ha1 := ha.ext hxd
      have hb1 := hb.ext hxd
      repeat first | refine ω1 ?_ | refine ω2 ?_ | refine ω3 ?_ | refine ω4 ?_ | refine ω5 ?_ | refine χ1 ?_ | refine κ1 ?_ | refine κ2 ?_ | refine χ2 ?_ | refine κ3 ?_ | refine ω6 ?_ | refine ω7 ?_ | refine ω9 ?_ | refine κ4 ?_ | refine κ7 ?_ | refine κ8 ?_ | refine χ3 ?_ | refine χ4 ?_ | refine κ5 ?_ | refine κ6 ?_ | refine χ5 ?_ | refine χ6 ?_ | refine χ7 ?_ | refine ω8 ?_
      refine dr [(0, 0), (0, 1), (0, 2), (0, 3), (0, 4), (0, 5), (0, 6), (0, 7), (0, 8)] (by kernel_rfl) ?_
      repeat first | refine δ1 ?_ | refine δ2 ?_ | refine δ4 ?_ | refine δ5 ?_ | refine δ6 ?_ | refine δ7 ?_ | refine δ9 ?_ | refine δ8 ?_ | refine χ1 ?_ | refine χ2 ?_ | refine χ3 ?_ | refine χ4 ?_ | refine χ5 ?_ | refine χ6 ?_ | refine χ7 ?_
      refine dix (k - 1) ha1 hka ?_
      repeat first | refine δ1 ?_ | refine δ2 ?_ | refine δ4 ?_ | refine δ5 ?_ | refine δ6 ?_ | refine δ7 ?_ | refine δ9 ?_ | refine δ8 ?_ | refine χ1 ?_ | refine χ2 ?_ | refine χ3 ?_ | refine χ4 ?_ | refine χ5 ?_ | refine χ6 ?_ | refine χ7 ?_
      refine dld (ha1.cell (Nc_get hka)) ?_
      repeat first | refine δ1 ?_ | refine δ2 ?_ | refine δ4 ?_ | refine δ5 ?_ | refine δ6 ?_ | refine δ7 ?_ | refine δ9 ?_ | refine δ8 ?_ | refine χ1 ?_ | refine χ2 ?_ | refine χ3 ?_ | refine χ4 ?_ | refine χ5 ?_ | refine χ6 ?_ | refine χ7 ?_
      refine dix (k - 1) hb1 hkb ?_
      repeat first | refine δ1 ?_ | refine δ2 ?_ | refine δ4 ?_ | refine δ5 ?_ | refine δ6 ?_ | refine δ7 ?_ | refine δ9 ?_ | refine δ8 ?_ | refine χ1 ?_ | refine χ2 ?_ | refine χ3 ?_ | refine χ4 ?_ | refine χ5 ?_ | refine χ6 ?_ | refine χ7 ?_
      refine dld (hb1.cell (Nc_get hkb)) ?_
      repeat first | refine δ1 ?_ | refine δ2 ?_ | refine δ4 ?_ | refine δ5 ?_ | refine δ6 ?_ | refine δ7 ?_ | refine δ9 ?_ | refine δ8 ?_ | refine χ1 ?_ | refine χ2 ?_ | refine χ3 ?_ | refine χ4 ?_ | refine χ5 ?_ | refine χ6 ?_ | refine χ7 ?_
      repeat first | refine ω1 ?_ | refine ω2 ?_ | refine ω3 ?_ | refine ω4 ?_ | refine ω5 ?_ | refine χ1 ?_ | refine κ1 ?_ | refine κ2 ?_ | refine χ2 ?_ | refine κ3 ?_ | refine ω6 ?_ | refine ω7 ?_ | refine ω9 ?_ | refine κ4 ?_ | refine κ7 ?_ | refine κ8 ?_ | refine χ3 ?_ | refine χ4 ?_ | refine κ5 ?_ | refine κ6 ?_ | refine χ5 ?_ | refine χ6 ?_ | refine χ7 ?_ | refine ω8 ?_
      refine ci (fun h => ?_) (fun h => ?_)
      · have hne := u32_ne h
        have hxd2 := hxd.trans ((Ext.refl w1.drew).drew)
        have ha2 := ha.ext hxd2
        have hb2 := hb.ext hxd2
        repeat first | refine ω1 ?_ | refine ω2 ?_ | refine ω3 ?_ | refine ω4 ?_ | refine ω5 ?_ | refine χ1 ?_ | refine κ1 ?_ | refine κ2 ?_ | refine χ2 ?_ | refine κ3 ?_ | refine ω6 ?_ | refine ω7 ?_ | refine ω9 ?_ | refine κ4 ?_ | refine κ7 ?_ | refine κ8 ?_ | refine χ3 ?_ | refine χ4 ?_ | refine κ5 ?_ | refine κ6 ?_ | refine χ5 ?_ | refine χ6 ?_ | refine χ7 ?_ | refine ω8 ?_
        refine dr [(0, 0), (0, 1), (0, 2), (0, 3), (0, 4), (0, 5), (0, 6), (0, 7), (1, 8), (0, 9)] (by kernel_rfl) ?_
        repeat first | refine δ1 ?_ | refine δ2 ?_ | refine δ4 ?_ | refine δ5 ?_ | refine δ6 ?_ | refine δ7 ?_ | refine δ9 ?_ | refine δ8 ?_ | refine χ1 ?_ | refine χ2 ?_ | refine χ3 ?_ | refine χ4 ?_ | refine χ5 ?_ | refine χ6 ?_ | refine χ7 ?_
        refine dix (k - 1) ha2 hka ?_
        repeat first | refine δ1 ?_ | refine δ2 ?_ | refine δ4 ?_ | refine δ5 ?_ | refine δ6 ?_ | refine δ7 ?_ | refine δ9 ?_ | refine δ8 ?_ | refine χ1 ?_ | refine χ2 ?_ | refine χ3 ?_ | refine χ4 ?_ | refine χ5 ?_ | refine χ6 ?_ | refine χ7 ?_
        refine dld (ha2.cell (Nc_get hka)) ?_
        repeat first | refine δ1 ?_ | refine δ2 ?_ | refine δ4 ?_ | refine δ5 ?_ | refine δ6 ?_ | refine δ7 ?_ | refine δ9 ?_ | refine δ8 ?_ | refine χ1 ?_ | refine χ2 ?_ | refine χ3 ?_ | refine χ4 ?_ | refine χ5 ?_ | refine χ6 ?_ | refine χ7 ?_
        refine dix (k - 1) hb2 hkb ?_
        repeat first | refine δ1 ?_ | refine δ2 ?_ | refine δ4 ?_ | refine δ5 ?_ | refine δ6 ?_ | refine δ7 ?_ | refine δ9 ?_ | refine δ8 ?_ | refine χ1 ?_ | refine χ2 ?_ | refine χ3 ?_ | refine χ4 ?_ | refine χ5 ?_ | refine χ6 ?_ | refine χ7 ?_
        refine dld (hb2.cell (Nc_get hkb)) ?_
        repeat first | refine δ1 ?_ | refine δ2 ?_ | refine δ4 ?_ | refine δ5 ?_ | refine δ6 ?_ | refine δ7 ?_ | refine δ9 ?_ | refine δ8 ?_ | refine χ1 ?_ | refine χ2 ?_ | refine χ3 ?_ | refine χ4 ?_ | refine χ5 ?_ | refine χ6 ?_ | refine χ7 ?_
        refine dcl (compare_u32 _ _ _) ?_
        rintro t w2 ⟨rfl, rfl⟩
        refine ⟨Ext.refl _, ?_⟩
        repeat first | refine δ1 ?_ | refine δ2 ?_ | refine δ4 ?_ | refine δ5 ?_ | refine δ6 ?_ | refine δ7 ?_ | refine δ9 ?_ | refine δ8 ?_ | refine χ1 ?_ | refine χ2 ?_ | refine χ3 ?_ | refine χ4 ?_ | refine χ5 ?_ | refine χ6 ?_ | refine χ7 ?_
        repeat first | refine ω1 ?_ | refine ω2 ?_ | refine ω3 ?_ | refine ω4 ?_ | refine ω5 ?_ | refine χ1 ?_ | refine κ1 ?_ | refine κ2 ?_ | refine χ2 ?_ | refine κ3 ?_ | refine ω6 ?_ | refine ω7 ?_ | refine ω9 ?_ | refine κ4 ?_ | refine κ7 ?_ | refine κ8 ?_ | refine χ3 ?_ | refine χ4 ?_ | refine κ5 ?_ | refine κ6 ?_ | refine χ5 ?_ | refine χ6 ?_ | refine χ7 ?_ | refine ω8 ?_
        refine fin1 ⟨?_, hxd2⟩
        rw [sgn_nat]
        unfold cmpN
        have hd' : (limbs n).drop (k - 1 + 1) = (limbs m).drop (k - 1 + 1) := by rw [show k - 1 + 1 = k by omega]; exact hd
        rcases Nat.lt_or_gt_of_ne hne with h1 | h1
        · have := val_top hka hlen hd' h1
          rw [val_limbs, val_limbs] at this
          rw [if_pos h1, if_pos this]
        · have := val_top hkb hlen.symm hd'.symm h1
          rw [val_limbs, val_limbs] at this
          rw [if_neg (by omega), if_pos h1, if_neg (by omega), if_pos this]
      · have he := u32_eq h
        repeat first | refine ω1 ?_ | refine ω2 ?_ | refine ω3 ?_ | refine ω4 ?_ | refine ω5 ?_ | refine χ1 ?_ | refine κ1 ?_ | refine κ2 ?_ | refine χ2 ?_ | refine κ3 ?_ | refine ω6 ?_ | refine ω7 ?_ | refine ω9 ?_ | refine κ4 ?_ | refine κ7 ?_ | refine κ8 ?_ | refine χ3 ?_ | refine χ4 ?_ | refine κ5 ?_ | refine κ6 ?_ | refine χ5 ?_ | refine χ6 ?_ | refine χ7 ?_ | refine ω8 ?_
        refine qround1 (k - 1) (by repeat' (first | exact Sub.nil | refine Sub.cons (by first | rfl | (refine congrArg (fun z => some (Value.int .i64 z)) ?_; omega)) ?_)) ⟨hxd, by omega, ?_⟩ (by omega)
        rw [List.drop_eq_getElem_cons hka, List.drop_eq_getElem_cons hkb, show k - 1 + 1 = k by omega, hd]
        congr 1
        have e1 : (limbs n).getD (k - 1) 0 = (limbs n)[k - 1] := by simp [List.getD, List.getElem?_eq_getElem hka]
        have e2 : (limbs m).getD (k - 1) 0 = (limbs m)[k - 1] := by simp [List.getD, List.getElem?_eq_getElem hkb]
        rw [← e1, ← e2, he]
    · have hk0 : k = 0 := by have := of_decide_eq_false h; omega
      subst hk0
      have : n = m := by rw [← val_limbs n, ← val_limbs m]; exact congrArg val hd
      subst this
      repeat first | refine ω1 ?_ | refine ω2 ?_ | refine ω3 ?_ | refine ω4 ?_ | refine ω5 ?_ | refine χ1 ?_ | refine κ1 ?_ | refine κ2 ?_ | refine χ2 ?_ | refine κ3 ?_ | refine ω6 ?_ | refine ω7 ?_ | refine ω9 ?_ | refine κ4 ?_ | refine κ7 ?_ | refine κ8 ?_ | refine χ3 ?_ | refine χ4 ?_ | refine κ5 ?_ | refine κ6 ?_ | refine χ5 ?_ | refine χ6 ?_ | refine χ7 ?_ | refine ω8 ?_
      refine fin1 ⟨?_, hx⟩
      simp [cmpN]
end Go.Proofs.Ytpahjnfolbnloaa
