/- Contracts of the codec's decoders of a value. -/
import Derived.Test.YthjnmclnafbcdaaDecP
import Derived.Test.YthjnmclnafbcdaaStr
import Derived.Test.YthjnmclnafbcdaaPlainB
set_option linter.unusedVariables false
namespace Go.Proofs.Ythjnmclnafbcdaa
open Go.RowKit Pl Go.Wk
attribute [local irreducible] WC WL QX WD
def mask (d : Bool) : Int := if d then 255 else 0
theorem xor_mask (d : Bool) (c : UInt8) : bits .xor .u8 (c.toNat : Int) (mask d) = ((fl d c).toNat : Int) := by
  cases d with
  | false =>
    have := u8_xor_nat c.toNat 0 c.toNat_lt (by omega)
    rw [Nat.xor_zero] at this
    exact this
  | true =>
    have h1 := u8_xor_nat c.toNat 255 c.toNat_lt (by omega)
    have h2 : ∀ x : Fin 256, x.val ^^^ 255 = 255 - x.val := by decide +kernel
    have h3 := h2 ⟨c.toNat, c.toNat_lt⟩
    simp only at h3
    have h4 : (255 - c).toNat = 255 - c.toNat := by
      have hc := c.toNat_lt
      rw [UInt8.toNat_sub_of_le]; rfl; rw [UInt8.le_iff_toNat_le]; show c.toNat ≤ 255; omega
    show bits .xor .u8 (c.toNat : Int) 255 = ((255 - c).toNat : Int)
    rw [h4, ← h3]
    exact h1
theorem or_byte {a : Nat} (h : a < 256 ^ 7) (c : UInt8) : bits .or .u64 (IntKind.u64.wrap ((a : Int) * 2 ^ min (8 : Int).toNat IntKind.u64.bits)) (IntKind.u64.wrap (c.toNat : Int)) = ((a * 256 + c.toNat : Nat) : Int) := by
  have hc := c.toNat_lt
  have e : IntKind.u64.wrap ((a : Int) * 2 ^ min (8 : Int).toNat IntKind.u64.bits) = ((a * 256 : Nat) : Int) := by
    have : (2 : Int) ^ min (8 : Int).toNat IntKind.u64.bits = 256 := by decide
    rw [this, IntKind.wrap_u64]; omega
  have e2 : IntKind.u64.wrap (c.toNat : Int) = ((c.toNat : Nat) : Int) := by rw [IntKind.wrap_u64]; omega
  rw [e, e2, u64_or_nat _ _ (by omega) (by omega), Nat.or_comm]
  have := or_add (a := c.toNat) (x := a) (q := 256) hc ⟨8, rfl⟩
  rw [this, Nat.add_comm]
theorem top_back {m : Nat} (h : m < 256 ^ 8) : IntKind.i64.wrap (bits .xor .u64 (m : Int) 9223372036854775808) = (m : Int) - 9223372036854775808 := by
  have hb : (9223372036854775808 : Int) = ((9223372036854775808 : Nat) : Int) := rfl
  rw [hb, u64_xor_nat m _ (by omega) (by omega)]
  rcases Nat.lt_or_ge m 9223372036854775808 with h1 | h1
  · rw [xor_low m h1, IntKind.wrap_i64]; omega
  · rw [xor_high m h1 (by omega), IntKind.wrap_i64]; omega
theorem zV : zeroOf Try.prog 42 = some V0.val := by kernel_rfl
theorem bV0 (w : World) : (Instr.build 42 #[]).run Try.prog w = .ok V0.val w := by kernel_rfl
theorem bVi (z : Int) (w : World) : (Instr.build 42 #[(0, .int .i64 1), (1, .int .i64 z)]).run Try.prog w = .ok (V.val ⟨1, z, ⟨#[]⟩⟩) w := by kernel_rfl
theorem bVs (s : ByteArray) (w : World) : (Instr.build 42 #[(0, .int .i64 2), (2, .string s)]).run Try.prog w = .ok (V.val ⟨2, 0, s⟩) w := by kernel_rfl
theorem V.one (v : V) : ∀ u ∈ v.cells, u.oneCell' = true := by
  intro u hu; simp [V.cells] at hu; rcases hu with rfl | rfl | rfl <;> rfl
def drV (r : DR) : Value := .tuple #[r.1.val, .int .i64 r.2.1, .int .i64 r.2.2]
set_option maxRecDepth 100000 in
theorem valueInt_any (z : Int) (w : World) : Ret Try.prog 35 [.int .i64 z] w fun t w' => t = V.val ⟨1, z, ⟨#[]⟩⟩ ∧ Ext w w' := by
  refine enterR Try.func35 Try.ntmps35 rfl (by kernel_rfl) rfl ?_
  repeat first | refine ω1 ?_ | refine ω2 ?_ | refine ω3 ?_ | refine ω4 ?_ | refine ω5 ?_ | refine χ1 ?_ | refine κ1 ?_ | refine κ2 ?_ | refine χ2 ?_ | refine κ3 ?_ | refine ω6 ?_ | refine ω7 ?_ | refine ω9 ?_ | refine κ4 ?_ | refine κ7 ?_ | refine κ8 ?_ | refine χ3 ?_ | refine χ4 ?_ | refine κ5 ?_ | refine κ6 ?_ | refine χ5 ?_ | refine χ6 ?_ | refine χ7 ?_ | refine ω8 ?_
  refine alc (cs := V0.cells) zV ?_
  intro w1 b hx1 hb1 hk1
  repeat first | refine ω1 ?_ | refine ω2 ?_ | refine ω3 ?_ | refine ω4 ?_ | refine ω5 ?_ | refine χ1 ?_ | refine κ1 ?_ | refine κ2 ?_ | refine χ2 ?_ | refine κ3 ?_ | refine ω6 ?_ | refine ω7 ?_ | refine ω9 ?_ | refine κ4 ?_ | refine κ7 ?_ | refine κ8 ?_ | refine χ3 ?_ | refine χ4 ?_ | refine κ5 ?_ | refine κ6 ?_ | refine χ5 ?_ | refine χ6 ?_ | refine χ7 ?_ | refine ω8 ?_
  refine bld (bVi z w1) ?_
  repeat first | refine ω1 ?_ | refine ω2 ?_ | refine ω3 ?_ | refine ω4 ?_ | refine ω5 ?_ | refine χ1 ?_ | refine κ1 ?_ | refine κ2 ?_ | refine χ2 ?_ | refine κ3 ?_ | refine ω6 ?_ | refine ω7 ?_ | refine ω9 ?_ | refine κ4 ?_ | refine κ7 ?_ | refine κ8 ?_ | refine χ3 ?_ | refine χ4 ?_ | refine κ5 ?_ | refine κ6 ?_ | refine χ5 ?_ | refine χ6 ?_ | refine χ7 ?_ | refine ω8 ?_
  refine stb (cs' := V.cells ⟨1, z, ⟨#[]⟩⟩) hk1 ?_ (V.one _)
  intro w2 hk2 hg2 hx2
  repeat first | refine ω1 ?_ | refine ω2 ?_ | refine ω3 ?_ | refine ω4 ?_ | refine ω5 ?_ | refine χ1 ?_ | refine κ1 ?_ | refine κ2 ?_ | refine χ2 ?_ | refine κ3 ?_ | refine ω6 ?_ | refine ω7 ?_ | refine ω9 ?_ | refine κ4 ?_ | refine κ7 ?_ | refine κ8 ?_ | refine χ3 ?_ | refine χ4 ?_ | refine κ5 ?_ | refine κ6 ?_ | refine χ5 ?_ | refine χ6 ?_ | refine χ7 ?_ | refine ω8 ?_
  exact finC1 hk2 ⟨rfl, hx2 w hx1 hb1⟩
theorem take_snoc {l : List UInt8} {k : Nat} (h : k < l.length) : l.take (k + 1) = l.take k ++ [l.getD k 0] := by
  rw [List.take_succ_eq_append_getElem h]
  simp [List.getD, List.getElem?_eq_getElem h]
def decI (raw : List UInt8) : DR := if raw.length < 9 then short else (⟨1, (acc8 ((raw.drop 1).take 8) : Int) - 9223372036854775808, ⟨#[]⟩⟩, 9, 0)
set_option maxRecDepth 100000 in
theorem decodeInt_any (A : Option Addr) (l : List UInt8) (c : Nat) (d : Bool) (w : World) (hr : Rd w 1 A l.length (Bc l)) (hm : l.length ≤ 9223372036854775807) :
    Ret Try.prog 32 [.slice A l.length c, .int .u8 (mask d)] w fun t w' => t = drV (decI (flp d l)) ∧ Ext w w' := by
  refine enterR Try.func32 Try.ntmps32 rfl (by kernel_rfl) rfl ?_
  repeat first | refine ω1 ?_ | refine ω2 ?_ | refine ω3 ?_ | refine ω4 ?_ | refine ω5 ?_ | refine χ1 ?_ | refine κ1 ?_ | refine κ2 ?_ | refine χ2 ?_ | refine κ3 ?_ | refine ω6 ?_ | refine ω7 ?_ | refine ω9 ?_ | refine κ4 ?_ | refine κ7 ?_ | refine κ8 ?_ | refine χ3 ?_ | refine χ4 ?_ | refine κ5 ?_ | refine κ6 ?_ | refine χ5 ?_ | refine χ6 ?_ | refine χ7 ?_ | refine ω8 ?_
  refine alc (cs := V0.cells) zV ?_
  intro w1 b hx1 hb1 hk1
  have hr1 := hr.ext hx1
  repeat first | refine ω1 ?_ | refine ω2 ?_ | refine ω3 ?_ | refine ω4 ?_ | refine ω5 ?_ | refine χ1 ?_ | refine κ1 ?_ | refine κ2 ?_ | refine χ2 ?_ | refine κ3 ?_ | refine ω6 ?_ | refine ω7 ?_ | refine ω9 ?_ | refine κ4 ?_ | refine κ7 ?_ | refine κ8 ?_ | refine χ3 ?_ | refine χ4 ?_ | refine κ5 ?_ | refine κ6 ?_ | refine χ5 ?_ | refine χ6 ?_ | refine χ7 ?_ | refine ω8 ?_
  refine ci (fun h => ?_) (fun h => ?_)
  · have hlt : l.length < 9 := by have := of_decide_eq_true h; omega
    repeat first | refine ω1 ?_ | refine ω2 ?_ | refine ω3 ?_ | refine ω4 ?_ | refine ω5 ?_ | refine χ1 ?_ | refine κ1 ?_ | refine κ2 ?_ | refine χ2 ?_ | refine κ3 ?_ | refine ω6 ?_ | refine ω7 ?_ | refine ω9 ?_ | refine κ4 ?_ | refine κ7 ?_ | refine κ8 ?_ | refine χ3 ?_ | refine χ4 ?_ | refine κ5 ?_ | refine κ6 ?_ | refine χ5 ?_ | refine χ6 ?_ | refine χ7 ?_ | refine ω8 ?_
    refine bld (bV0 w1) ?_
    repeat first | refine ω1 ?_ | refine ω2 ?_ | refine ω3 ?_ | refine ω4 ?_ | refine ω5 ?_ | refine χ1 ?_ | refine κ1 ?_ | refine κ2 ?_ | refine χ2 ?_ | refine κ3 ?_ | refine ω6 ?_ | refine ω7 ?_ | refine ω9 ?_ | refine κ4 ?_ | refine κ7 ?_ | refine κ8 ?_ | refine χ3 ?_ | refine χ4 ?_ | refine κ5 ?_ | refine κ6 ?_ | refine χ5 ?_ | refine χ6 ?_ | refine χ7 ?_ | refine ω8 ?_
    refine stb (cs' := V0.cells) hk1 ?_ (V.one _)
    intro w2 hk2 hg2 hx2
    repeat first | refine ω1 ?_ | refine ω2 ?_ | refine ω3 ?_ | refine ω4 ?_ | refine ω5 ?_ | refine χ1 ?_ | refine κ1 ?_ | refine κ2 ?_ | refine χ2 ?_ | refine κ3 ?_ | refine ω6 ?_ | refine ω7 ?_ | refine ω9 ?_ | refine κ4 ?_ | refine κ7 ?_ | refine κ8 ?_ | refine χ3 ?_ | refine χ4 ?_ | refine κ5 ?_ | refine κ6 ?_ | refine χ5 ?_ | refine χ6 ?_ | refine χ7 ?_ | refine ω8 ?_
    refine finC3 hk2 ⟨?_, hx2 w hx1 hb1⟩
    rw [decI, flp_length, if_pos hlt]; rfl
  · have hge : 9 ≤ l.length := by have := of_decide_eq_false h; omega
    repeat first | refine ω1 ?_ | refine ω2 ?_ | refine ω3 ?_ | refine ω4 ?_ | refine ω5 ?_ | refine χ1 ?_ | refine κ1 ?_ | refine κ2 ?_ | refine χ2 ?_ | refine κ3 ?_ | refine ω6 ?_ | refine ω7 ?_ | refine ω9 ?_ | refine κ4 ?_ | refine κ7 ?_ | refine κ8 ?_ | refine χ3 ?_ | refine χ4 ?_ | refine κ5 ?_ | refine κ6 ?_ | refine χ5 ?_ | refine χ6 ?_ | refine χ7 ?_ | refine ω8 ?_
    refine wloop1 (fun k => [(7, .int .u64 ((acc8 (((flp d l).drop 1).take k) : Nat) : Int)), (0, .slice A l.length c), (1, .int .u8 (mask d)), (4, .pointer (some ⟨b, 0, none⟩)), (13, .int .i64 ((k : Nat) : Int))])
      (fun k w' => w' = w1 ∧ k ≤ 8) (fun k => 8 - k) 0 (by repeat' (first | exact Sub.nil | refine Sub.cons rfl ?_)) ⟨rfl, by omega⟩ ?_
    rintro k w' ⟨rfl, hk⟩
    repeat first | refine ω1 ?_ | refine ω2 ?_ | refine ω3 ?_ | refine ω4 ?_ | refine ω5 ?_ | refine χ1 ?_ | refine κ1 ?_ | refine κ2 ?_ | refine χ2 ?_ | refine κ3 ?_ | refine ω6 ?_ | refine ω7 ?_ | refine ω9 ?_ | refine κ4 ?_ | refine κ7 ?_ | refine κ8 ?_ | refine χ3 ?_ | refine χ4 ?_ | refine κ5 ?_ | refine κ6 ?_ | refine χ5 ?_ | refine χ6 ?_ | refine χ7 ?_ | refine ω8 ?_
    refine ci (fun h => ?_) (fun h => ?_)
    · have hk8 : k < 8 := by have := of_decide_eq_true h; omega
      repeat first | refine ω1 ?_ | refine ω2 ?_ | refine ω3 ?_ | refine ω4 ?_ | refine ω5 ?_ | refine χ1 ?_ | refine κ1 ?_ | refine κ2 ?_ | refine χ2 ?_ | refine κ3 ?_ | refine ω6 ?_ | refine ω7 ?_ | refine ω9 ?_ | refine κ4 ?_ | refine κ7 ?_ | refine κ8 ?_ | refine χ3 ?_ | refine χ4 ?_ | refine κ5 ?_ | refine κ6 ?_ | refine χ5 ?_ | refine χ6 ?_ | refine χ7 ?_ | refine ω8 ?_
      refine wshl rfl rfl (by decide) rfl ?_
      repeat first | refine ω1 ?_ | refine ω2 ?_ | refine ω3 ?_ | refine ω4 ?_ | refine ω5 ?_ | refine χ1 ?_ | refine κ1 ?_ | refine κ2 ?_ | refine χ2 ?_ | refine κ3 ?_ | refine ω6 ?_ | refine ω7 ?_ | refine ω9 ?_ | refine κ4 ?_ | refine κ7 ?_ | refine κ8 ?_ | refine χ3 ?_ | refine χ4 ?_ | refine κ5 ?_ | refine κ6 ?_ | refine χ5 ?_ | refine χ6 ?_ | refine χ7 ?_ | refine ω8 ?_
      refine ix (1 + k) hr1 (by omega) ?_
      repeat first | refine ω1 ?_ | refine ω2 ?_ | refine ω3 ?_ | refine ω4 ?_ | refine ω5 ?_ | refine χ1 ?_ | refine κ1 ?_ | refine κ2 ?_ | refine χ2 ?_ | refine κ3 ?_ | refine ω6 ?_ | refine ω7 ?_ | refine ω9 ?_ | refine κ4 ?_ | refine κ7 ?_ | refine κ8 ?_ | refine χ3 ?_ | refine χ4 ?_ | refine κ5 ?_ | refine κ6 ?_ | refine χ5 ?_ | refine χ6 ?_ | refine χ7 ?_ | refine ω8 ?_
      refine ld (hr1.cell (Bc_get (show 1 + k < l.length by omega))) ?_
      repeat first | refine ω1 ?_ | refine ω2 ?_ | refine ω3 ?_ | refine ω4 ?_ | refine ω5 ?_ | refine χ1 ?_ | refine κ1 ?_ | refine κ2 ?_ | refine χ2 ?_ | refine κ3 ?_ | refine ω6 ?_ | refine ω7 ?_ | refine ω9 ?_ | refine κ4 ?_ | refine κ7 ?_ | refine κ8 ?_ | refine χ3 ?_ | refine χ4 ?_ | refine κ5 ?_ | refine κ6 ?_ | refine χ5 ?_ | refine χ6 ?_ | refine χ7 ?_ | refine ω8 ?_
      have hl1 : k < ((flp d l).drop 1).length := by rw [List.length_drop, flp_length]; omega
      have hlt : acc8 (((flp d l).drop 1).take k) < 256 ^ 7 := by
        have h1 := acc8_lt (((flp d l).drop 1).take k)
        refine Nat.lt_of_lt_of_le h1 (Nat.pow_le_pow_right (by omega) ?_)
        rw [List.length_take]; omega
      have hg : fl d (l.getD (1 + k) 0) = ((flp d l).drop 1).getD k 0 := by
        rw [← flp_getD d l (1 + k) (by omega)]; simp [List.getD, Nat.add_comm]
      refine qround1 (k + 1) (Sub.cons (congrArg (fun z => some (Value.int .u64 z)) ?_) (by repeat' (first | exact Sub.nil | refine Sub.cons rfl ?_))) ⟨rfl, by omega⟩ (by omega)
      rw [xor_mask, hg, or_byte hlt, take_snoc hl1, acc8_snoc]
    · have hk8 : k = 8 := by have := of_decide_eq_false h; omega
      subst hk8
      have hlt : acc8 (((flp d l).drop 1).take 8) < 256 ^ 8 := by
        have h1 := acc8_lt (((flp d l).drop 1).take 8)
        refine Nat.lt_of_lt_of_le h1 (Nat.pow_le_pow_right (by omega) ?_)
        rw [List.length_take]; omega
      repeat first | refine ω1 ?_ | refine ω2 ?_ | refine ω3 ?_ | refine ω4 ?_ | refine ω5 ?_ | refine χ1 ?_ | refine κ1 ?_ | refine κ2 ?_ | refine χ2 ?_ | refine κ3 ?_ | refine ω6 ?_ | refine ω7 ?_ | refine ω9 ?_ | refine κ4 ?_ | refine κ7 ?_ | refine κ8 ?_ | refine χ3 ?_ | refine χ4 ?_ | refine κ5 ?_ | refine κ6 ?_ | refine χ5 ?_ | refine χ6 ?_ | refine χ7 ?_ | refine ω8 ?_
      refine kv 30 (congrArg (Value.int .i64) (top_back hlt)) ?_
      refine cl (valueInt_any ((acc8 (((flp d l).drop 1).take 8) : Int) - 9223372036854775808) _) ?_
      rintro t w2 ⟨rfl, hx2⟩
      repeat first | refine ω1 ?_ | refine ω2 ?_ | refine ω3 ?_ | refine ω4 ?_ | refine ω5 ?_ | refine χ1 ?_ | refine κ1 ?_ | refine κ2 ?_ | refine χ2 ?_ | refine κ3 ?_ | refine ω6 ?_ | refine ω7 ?_ | refine ω9 ?_ | refine κ4 ?_ | refine κ7 ?_ | refine κ8 ?_ | refine χ3 ?_ | refine χ4 ?_ | refine κ5 ?_ | refine κ6 ?_ | refine χ5 ?_ | refine χ6 ?_ | refine χ7 ?_ | refine ω8 ?_
      refine stb (cs' := V.cells ⟨1, (acc8 (((flp d l).drop 1).take 8) : Int) - 9223372036854775808, ⟨#[]⟩⟩) (hk1.ext hx2) ?_ (V.one _)
      intro w3 hk3 hg3 hx3
      repeat first | refine ω1 ?_ | refine ω2 ?_ | refine ω3 ?_ | refine ω4 ?_ | refine ω5 ?_ | refine χ1 ?_ | refine κ1 ?_ | refine κ2 ?_ | refine χ2 ?_ | refine κ3 ?_ | refine ω6 ?_ | refine ω7 ?_ | refine ω9 ?_ | refine κ4 ?_ | refine κ7 ?_ | refine κ8 ?_ | refine χ3 ?_ | refine χ4 ?_ | refine κ5 ?_ | refine κ6 ?_ | refine χ5 ?_ | refine χ6 ?_ | refine χ7 ?_ | refine ω8 ?_
      refine finC3 hk3 ⟨?_, hx3 w (hx1.trans hx2) hb1⟩
      rw [decI, flp_length, if_neg (by omega)]; rfl
/-! strings -/
section
variable {raw acc : List UInt8} {i : Nat}
theorem drop_at (h : i < raw.length) : raw.drop i = raw.getD i 0 :: raw.drop (i + 1) := by
  rw [List.drop_eq_getElem_cons h]; simp [List.getD, List.getElem?_eq_getElem h]
theorem sGo_end (h : raw.length ≤ i) : sGo (raw.drop i) acc i = short := by rw [List.drop_of_length_le h]; rfl
theorem sGo_full (h : i < raw.length) (hc : raw.getD i 0 ≠ 0) (ha : 24 < acc.length + 1) : sGo (raw.drop i) acc i = (V0, 0, 13) := by
  rw [drop_at h]
  generalize raw.drop (i + 1) = r
  cases r <;> simp only [sGo] <;> rw [if_neg hc, if_pos ha]
theorem sGo_on (h : i < raw.length) (hc : raw.getD i 0 ≠ 0) (ha : ¬ 24 < acc.length + 1) : sGo (raw.drop i) acc i = sGo (raw.drop (i + 1)) (acc ++ [raw.getD i 0]) (i + 1) := by
  rw [drop_at h]
  generalize raw.drop (i + 1) = r
  cases r <;> simp only [sGo] <;> rw [if_neg hc, if_neg ha]
theorem sGo_cut (h : i < raw.length) (h2 : i + 1 = raw.length) (hc : raw.getD i 0 = 0) : sGo (raw.drop i) acc i = short := by
  rw [drop_at h, List.drop_of_length_le (by omega)]; simp only [sGo]; rw [if_pos hc]
theorem sGo_00 (h : i + 1 < raw.length) (hc : raw.getD i 0 = 0) (he : raw.getD (i + 1) 0 = 0) : sGo (raw.drop i) acc i = (⟨2, 0, ⟨acc.toArray⟩⟩, i + 2, 0) := by
  rw [drop_at (show i < raw.length by omega), drop_at h]; simp only [sGo]; rw [if_pos hc, if_pos he]
theorem sGo_0f (h : i + 1 < raw.length) (hc : raw.getD i 0 = 0) (he : raw.getD (i + 1) 0 = 255) : sGo (raw.drop i) acc i = if 24 < acc.length + 1 then (V0, 0, 13) else sGo (raw.drop (i + 2)) (acc ++ [0]) (i + 2) := by
  rw [drop_at (show i < raw.length by omega), drop_at h]; simp only [sGo]; rw [if_pos hc, if_neg (by rw [he]; decide), if_pos he]
theorem sGo_0x (h : i + 1 < raw.length) (hc : raw.getD i 0 = 0) (he : raw.getD (i + 1) 0 ≠ 0) (he2 : raw.getD (i + 1) 0 ≠ 255) : sGo (raw.drop i) acc i = (V0, 0, 15) := by
  rw [drop_at (show i < raw.length by omega), drop_at h]; simp only [sGo]; rw [if_pos hc, if_neg he, if_neg he2]
end
theorem byte_eq {c : UInt8} {k : Nat} (hk : k < 256) (h : ((c.toNat : Int) == (k : Int)) = true) : c = UInt8.ofNat k := by
  have := of_beq_t h
  apply UInt8.toNat_inj.1; rw [UInt8.toNat_ofNat']; omega
theorem byte_ne {c : UInt8} {k : Nat} (hk : k < 256) (h : ((c.toNat : Int) == (k : Int)) = false) : c ≠ UInt8.ofNat k := by
  have := of_beq_f h
  intro e; rw [e, UInt8.toNat_ofNat'] at this; omega
theorem one_u8 (x : Int) : ∀ u ∈ [Value.int .u8 x], u.oneCell' = true := by intro u hu; simp at hu; subst hu; rfl
set_option maxRecDepth 100000 in
theorem decodeStr_any (A : Option Addr) (l : List UInt8) (c : Nat) (d : Bool) (w : World) (hr : Rd w 1 A l.length (Bc l)) (hm : l.length < 9223372036854775800) :
    Ret Try.prog 33 [.slice A l.length c, .int .u8 (mask d)] w fun t w' => t = drV (sGo ((flp d l).drop 1) [] 1) ∧ Ext w w' := by
  refine enterR Try.func33 Try.ntmps33 rfl (by kernel_rfl) rfl ?_
  repeat first | refine ω1 ?_ | refine ω2 ?_ | refine ω3 ?_ | refine ω4 ?_ | refine ω5 ?_ | refine χ1 ?_ | refine κ1 ?_ | refine κ2 ?_ | refine χ2 ?_ | refine κ3 ?_ | refine ω6 ?_ | refine ω7 ?_ | refine ω9 ?_ | refine κ4 ?_ | refine κ7 ?_ | refine κ8 ?_ | refine χ3 ?_ | refine χ4 ?_ | refine κ5 ?_ | refine κ6 ?_ | refine χ5 ?_ | refine χ6 ?_ | refine χ7 ?_ | refine ω8 ?_
  refine alc (cs := V0.cells) zV ?_
  intro w1 b hx1 hb1 hk1
  repeat first | refine ω1 ?_ | refine ω2 ?_ | refine ω3 ?_ | refine ω4 ?_ | refine ω5 ?_ | refine χ1 ?_ | refine κ1 ?_ | refine κ2 ?_ | refine χ2 ?_ | refine κ3 ?_ | refine ω6 ?_ | refine ω7 ?_ | refine ω9 ?_ | refine κ4 ?_ | refine κ7 ?_ | refine κ8 ?_ | refine χ3 ?_ | refine χ4 ?_ | refine κ5 ?_ | refine κ6 ?_ | refine χ5 ?_ | refine χ6 ?_ | refine χ7 ?_ | refine ω8 ?_
  refine wloop3 (fun (k : Nat) (v7 : Value) (acc : List UInt8) => [(0, .slice A l.length c), (1, .int .u8 (mask d)), (4, .pointer (some ⟨b, 0, none⟩)), (7, v7), (8, .int .i64 ((k : Nat) : Int))])
    (fun k v7 acc w' => Ext w w' ∧ Blk w' b 42 V0.cells ∧ OwnB w' w.heap.size v7 acc ∧ acc.length ≤ 24 ∧ k ≤ l.length + 1 ∧ sGo ((flp d l).drop 1) [] 1 = sGo ((flp d l).drop k) acc k) (fun k v7 acc => l.length + 1 - k) 1 (.slice none 0 0) [] (by repeat' (first | exact Sub.nil | refine Sub.cons rfl ?_)) ⟨hx1, hk1, own_nil _ _ _ _, by simp, by omega, rfl⟩ ?_
  rintro k v7 acc w2 ⟨hx2, hk2, ho2, ha, hkl, he⟩
  have hr2 := hr.ext hx2
  have hfl := flp_length d l
  repeat first | refine ω1 ?_ | refine ω2 ?_ | refine ω3 ?_ | refine ω4 ?_ | refine ω5 ?_ | refine χ1 ?_ | refine κ1 ?_ | refine κ2 ?_ | refine χ2 ?_ | refine κ3 ?_ | refine ω6 ?_ | refine ω7 ?_ | refine ω9 ?_ | refine κ4 ?_ | refine κ7 ?_ | refine κ8 ?_ | refine χ3 ?_ | refine χ4 ?_ | refine κ5 ?_ | refine κ6 ?_ | refine χ5 ?_ | refine χ6 ?_ | refine χ7 ?_ | refine ω8 ?_
  refine ci (fun h => ?_) (fun h => ?_)
  · have hlt : k < l.length := by have := of_decide_eq_true h; omega
    repeat first | refine ω1 ?_ | refine ω2 ?_ | refine ω3 ?_ | refine ω4 ?_ | refine ω5 ?_ | refine χ1 ?_ | refine κ1 ?_ | refine κ2 ?_ | refine χ2 ?_ | refine κ3 ?_ | refine ω6 ?_ | refine ω7 ?_ | refine ω9 ?_ | refine κ4 ?_ | refine κ7 ?_ | refine κ8 ?_ | refine χ3 ?_ | refine χ4 ?_ | refine κ5 ?_ | refine κ6 ?_ | refine χ5 ?_ | refine χ6 ?_ | refine χ7 ?_ | refine ω8 ?_
    refine ix k hr2 hlt ?_
    repeat first | refine ω1 ?_ | refine ω2 ?_ | refine ω3 ?_ | refine ω4 ?_ | refine ω5 ?_ | refine χ1 ?_ | refine κ1 ?_ | refine κ2 ?_ | refine χ2 ?_ | refine κ3 ?_ | refine ω6 ?_ | refine ω7 ?_ | refine ω9 ?_ | refine κ4 ?_ | refine κ7 ?_ | refine κ8 ?_ | refine χ3 ?_ | refine χ4 ?_ | refine κ5 ?_ | refine κ6 ?_ | refine χ5 ?_ | refine χ6 ?_ | refine χ7 ?_ | refine ω8 ?_
    refine ld (hr2.cell (Bc_get hlt)) ?_
    repeat first | refine ω1 ?_ | refine ω2 ?_ | refine ω3 ?_ | refine ω4 ?_ | refine ω5 ?_ | refine χ1 ?_ | refine κ1 ?_ | refine κ2 ?_ | refine χ2 ?_ | refine κ3 ?_ | refine ω6 ?_ | refine ω7 ?_ | refine ω9 ?_ | refine κ4 ?_ | refine κ7 ?_ | refine κ8 ?_ | refine χ3 ?_ | refine χ4 ?_ | refine κ5 ?_ | refine κ6 ?_ | refine χ5 ?_ | refine χ6 ?_ | refine χ7 ?_ | refine ω8 ?_
    have hg := flp_getD d l k hlt
    refine ci (fun h => ?_) (fun h => ?_)
    · rw [xor_mask, ← hg] at h
      have hc0 : (flp d l).getD k 0 = 0 := byte_eq (k := 0) (by omega) h
      repeat first | refine ω1 ?_ | refine ω2 ?_ | refine ω3 ?_ | refine ω4 ?_ | refine ω5 ?_ | refine χ1 ?_ | refine κ1 ?_ | refine κ2 ?_ | refine χ2 ?_ | refine κ3 ?_ | refine ω6 ?_ | refine ω7 ?_ | refine ω9 ?_ | refine κ4 ?_ | refine κ7 ?_ | refine κ8 ?_ | refine χ3 ?_ | refine χ4 ?_ | refine κ5 ?_ | refine κ6 ?_ | refine χ5 ?_ | refine χ6 ?_ | refine χ7 ?_ | refine ω8 ?_
      refine ci (fun h => ?_) (fun h => ?_)
      · have hend : k + 1 = l.length := by have := of_beq_t h; omega
        repeat first | refine ω1 ?_ | refine ω2 ?_ | refine ω3 ?_ | refine ω4 ?_ | refine ω5 ?_ | refine χ1 ?_ | refine κ1 ?_ | refine κ2 ?_ | refine χ2 ?_ | refine κ3 ?_ | refine ω6 ?_ | refine ω7 ?_ | refine ω9 ?_ | refine κ4 ?_ | refine κ7 ?_ | refine κ8 ?_ | refine χ3 ?_ | refine χ4 ?_ | refine κ5 ?_ | refine κ6 ?_ | refine χ5 ?_ | refine χ6 ?_ | refine χ7 ?_ | refine ω8 ?_
        refine bld (bV0 w2) ?_
        repeat first | refine ω1 ?_ | refine ω2 ?_ | refine ω3 ?_ | refine ω4 ?_ | refine ω5 ?_ | refine χ1 ?_ | refine κ1 ?_ | refine κ2 ?_ | refine χ2 ?_ | refine κ3 ?_ | refine ω6 ?_ | refine ω7 ?_ | refine ω9 ?_ | refine κ4 ?_ | refine κ7 ?_ | refine κ8 ?_ | refine χ3 ?_ | refine χ4 ?_ | refine κ5 ?_ | refine κ6 ?_ | refine χ5 ?_ | refine χ6 ?_ | refine χ7 ?_ | refine ω8 ?_
        refine stb (cs' := V0.cells) hk2 ?_ (V.one _)
        intro w3 hk3 hg3 hx3
        repeat first | refine ω1 ?_ | refine ω2 ?_ | refine ω3 ?_ | refine ω4 ?_ | refine ω5 ?_ | refine χ1 ?_ | refine κ1 ?_ | refine κ2 ?_ | refine χ2 ?_ | refine κ3 ?_ | refine ω6 ?_ | refine ω7 ?_ | refine ω9 ?_ | refine κ4 ?_ | refine κ7 ?_ | refine κ8 ?_ | refine χ3 ?_ | refine χ4 ?_ | refine κ5 ?_ | refine κ6 ?_ | refine χ5 ?_ | refine χ6 ?_ | refine χ7 ?_ | refine ω8 ?_
        refine finC3 hk3 ⟨?_, hx3 w hx2 hb1⟩
        rw [he, sGo_cut (by omega) (by omega) hc0]; rfl
      · have hlt2 : k + 1 < l.length := by have := of_beq_f h; omega
        have hg2 := flp_getD d l (k + 1) hlt2
        repeat first | refine ω1 ?_ | refine ω2 ?_ | refine ω3 ?_ | refine ω4 ?_ | refine ω5 ?_ | refine χ1 ?_ | refine κ1 ?_ | refine κ2 ?_ | refine χ2 ?_ | refine κ3 ?_ | refine ω6 ?_ | refine ω7 ?_ | refine ω9 ?_ | refine κ4 ?_ | refine κ7 ?_ | refine κ8 ?_ | refine χ3 ?_ | refine χ4 ?_ | refine κ5 ?_ | refine κ6 ?_ | refine χ5 ?_ | refine χ6 ?_ | refine χ7 ?_ | refine ω8 ?_
        refine ix (k + 1) hr2 hlt2 ?_
        repeat first | refine ω1 ?_ | refine ω2 ?_ | refine ω3 ?_ | refine ω4 ?_ | refine ω5 ?_ | refine χ1 ?_ | refine κ1 ?_ | refine κ2 ?_ | refine χ2 ?_ | refine κ3 ?_ | refine ω6 ?_ | refine ω7 ?_ | refine ω9 ?_ | refine κ4 ?_ | refine κ7 ?_ | refine κ8 ?_ | refine χ3 ?_ | refine χ4 ?_ | refine κ5 ?_ | refine κ6 ?_ | refine χ5 ?_ | refine χ6 ?_ | refine χ7 ?_ | refine ω8 ?_
        refine ld (hr2.cell (Bc_get hlt2)) ?_
        repeat first | refine ω1 ?_ | refine ω2 ?_ | refine ω3 ?_ | refine ω4 ?_ | refine ω5 ?_ | refine χ1 ?_ | refine κ1 ?_ | refine κ2 ?_ | refine χ2 ?_ | refine κ3 ?_ | refine ω6 ?_ | refine ω7 ?_ | refine ω9 ?_ | refine κ4 ?_ | refine κ7 ?_ | refine κ8 ?_ | refine χ3 ?_ | refine χ4 ?_ | refine κ5 ?_ | refine κ6 ?_ | refine χ5 ?_ | refine χ6 ?_ | refine χ7 ?_ | refine ω8 ?_
        refine ci (fun h => ?_) (fun h => ?_)
        · rw [xor_mask, ← hg2] at h
          have he0 := byte_eq (k := 0) (by omega) h
          repeat first | refine ω1 ?_ | refine ω2 ?_ | refine ω3 ?_ | refine ω4 ?_ | refine ω5 ?_ | refine χ1 ?_ | refine κ1 ?_ | refine κ2 ?_ | refine χ2 ?_ | refine κ3 ?_ | refine ω6 ?_ | refine ω7 ?_ | refine ω9 ?_ | refine κ4 ?_ | refine κ7 ?_ | refine κ8 ?_ | refine χ3 ?_ | refine χ4 ?_ | refine κ5 ?_ | refine κ6 ?_ | refine χ5 ?_ | refine χ6 ?_ | refine χ7 ?_ | refine ω8 ?_
          obtain ⟨A7, c7, rfl, hc7, _⟩ := own_form ho2
          refine sb (Rd.own ho2) ?_
          repeat first | refine ω1 ?_ | refine ω2 ?_ | refine ω3 ?_ | refine ω4 ?_ | refine ω5 ?_ | refine χ1 ?_ | refine κ1 ?_ | refine κ2 ?_ | refine χ2 ?_ | refine κ3 ?_ | refine ω6 ?_ | refine ω7 ?_ | refine ω9 ?_ | refine κ4 ?_ | refine κ7 ?_ | refine κ8 ?_ | refine χ3 ?_ | refine χ4 ?_ | refine κ5 ?_ | refine κ6 ?_ | refine χ5 ?_ | refine χ6 ?_ | refine χ7 ?_ | refine ω8 ?_
          refine bld (bVs (str acc) w2) ?_
          repeat first | refine ω1 ?_ | refine ω2 ?_ | refine ω3 ?_ | refine ω4 ?_ | refine ω5 ?_ | refine χ1 ?_ | refine κ1 ?_ | refine κ2 ?_ | refine χ2 ?_ | refine κ3 ?_ | refine ω6 ?_ | refine ω7 ?_ | refine ω9 ?_ | refine κ4 ?_ | refine κ7 ?_ | refine κ8 ?_ | refine χ3 ?_ | refine χ4 ?_ | refine κ5 ?_ | refine κ6 ?_ | refine χ5 ?_ | refine χ6 ?_ | refine χ7 ?_ | refine ω8 ?_
          refine stb (cs' := V.cells ⟨2, 0, str acc⟩) hk2 ?_ (V.one _)
          intro w3 hk3 hg3 hx3
          repeat first | refine ω1 ?_ | refine ω2 ?_ | refine ω3 ?_ | refine ω4 ?_ | refine ω5 ?_ | refine χ1 ?_ | refine κ1 ?_ | refine κ2 ?_ | refine χ2 ?_ | refine κ3 ?_ | refine ω6 ?_ | refine ω7 ?_ | refine ω9 ?_ | refine κ4 ?_ | refine κ7 ?_ | refine κ8 ?_ | refine χ3 ?_ | refine χ4 ?_ | refine κ5 ?_ | refine κ6 ?_ | refine χ5 ?_ | refine χ6 ?_ | refine χ7 ?_ | refine ω8 ?_
          refine finC3 hk3 ⟨?_, hx3 w hx2 hb1⟩
          rw [he, sGo_00 (by omega) hc0 he0]; rfl
        · rw [xor_mask, ← hg2] at h
          have he0 := byte_ne (k := 0) (by omega) h
          repeat first | refine ω1 ?_ | refine ω2 ?_ | refine ω3 ?_ | refine ω4 ?_ | refine ω5 ?_ | refine χ1 ?_ | refine κ1 ?_ | refine κ2 ?_ | refine χ2 ?_ | refine κ3 ?_ | refine ω6 ?_ | refine ω7 ?_ | refine ω9 ?_ | refine κ4 ?_ | refine κ7 ?_ | refine κ8 ?_ | refine χ3 ?_ | refine χ4 ?_ | refine κ5 ?_ | refine κ6 ?_ | refine χ5 ?_ | refine χ6 ?_ | refine χ7 ?_ | refine ω8 ?_
          refine ci (fun h => ?_) (fun h => ?_)
          · rw [xor_mask, ← hg2] at h
            have hef := byte_eq (k := 255) (by omega) h
            have hs := sGo_0f (acc := acc) (by omega) hc0 hef
            repeat first | refine ω1 ?_ | refine ω2 ?_ | refine ω3 ?_ | refine ω4 ?_ | refine ω5 ?_ | refine χ1 ?_ | refine κ1 ?_ | refine κ2 ?_ | refine χ2 ?_ | refine κ3 ?_ | refine ω6 ?_ | refine ω7 ?_ | refine ω9 ?_ | refine κ4 ?_ | refine κ7 ?_ | refine κ8 ?_ | refine χ3 ?_ | refine χ4 ?_ | refine κ5 ?_ | refine κ6 ?_ | refine χ5 ?_ | refine χ6 ?_ | refine χ7 ?_ | refine ω8 ?_
            refine wapp1 hx2 E8 (bs1 _) rfl (fun b => rfl) (.inl ho2) rfl (one_u8 _) (by simp [maxLen]; omega) (by simp; omega) rfl rfl ?_
            intro v4 w4 b4 ho4 hx4 hg4 _
            have hk4 := hk2.grown hg4 (hk2.ne_own ho2 rfl)
            have ho4' := OwnB.snoc (c := 0) (by rw [xor_mask, ← hg, hc0]) ho4
            obtain ⟨A7, c7, rfl, hc7, _⟩ := own_form ho4'
            repeat first | refine ω1 ?_ | refine ω2 ?_ | refine ω3 ?_ | refine ω4 ?_ | refine ω5 ?_ | refine χ1 ?_ | refine κ1 ?_ | refine κ2 ?_ | refine χ2 ?_ | refine κ3 ?_ | refine ω6 ?_ | refine ω7 ?_ | refine ω9 ?_ | refine κ4 ?_ | refine κ7 ?_ | refine κ8 ?_ | refine χ3 ?_ | refine χ4 ?_ | refine κ5 ?_ | refine κ6 ?_ | refine χ5 ?_ | refine χ6 ?_ | refine χ7 ?_ | refine ω8 ?_
            refine ci (fun h => ?_) (fun h => ?_)
            · repeat first | refine ω1 ?_ | refine ω2 ?_ | refine ω3 ?_ | refine ω4 ?_ | refine ω5 ?_ | refine χ1 ?_ | refine κ1 ?_ | refine κ2 ?_ | refine χ2 ?_ | refine κ3 ?_ | refine ω6 ?_ | refine ω7 ?_ | refine ω9 ?_ | refine κ4 ?_ | refine κ7 ?_ | refine κ8 ?_ | refine χ3 ?_ | refine χ4 ?_ | refine κ5 ?_ | refine κ6 ?_ | refine χ5 ?_ | refine χ6 ?_ | refine χ7 ?_ | refine ω8 ?_
              refine bld (bV0 w4) ?_
              repeat first | refine ω1 ?_ | refine ω2 ?_ | refine ω3 ?_ | refine ω4 ?_ | refine ω5 ?_ | refine χ1 ?_ | refine κ1 ?_ | refine κ2 ?_ | refine χ2 ?_ | refine κ3 ?_ | refine ω6 ?_ | refine ω7 ?_ | refine ω9 ?_ | refine κ4 ?_ | refine κ7 ?_ | refine κ8 ?_ | refine χ3 ?_ | refine χ4 ?_ | refine κ5 ?_ | refine κ6 ?_ | refine χ5 ?_ | refine χ6 ?_ | refine χ7 ?_ | refine ω8 ?_
              refine stb (cs' := V0.cells) hk4 ?_ (V.one _)
              intro w3 hk3 hg3 hx3
              repeat first | refine ω1 ?_ | refine ω2 ?_ | refine ω3 ?_ | refine ω4 ?_ | refine ω5 ?_ | refine χ1 ?_ | refine κ1 ?_ | refine κ2 ?_ | refine χ2 ?_ | refine κ3 ?_ | refine ω6 ?_ | refine ω7 ?_ | refine ω9 ?_ | refine κ4 ?_ | refine κ7 ?_ | refine κ8 ?_ | refine χ3 ?_ | refine χ4 ?_ | refine κ5 ?_ | refine κ6 ?_ | refine χ5 ?_ | refine χ6 ?_ | refine χ7 ?_ | refine ω8 ?_
              refine finC3 hk3 ⟨?_, hx3 w hx4 hb1⟩
              rw [he, hs, if_pos (by have := of_decide_eq_true h; simp at this; omega)]; rfl
            · have h24 := of_decide_eq_false h
              repeat first | refine ω1 ?_ | refine ω2 ?_ | refine ω3 ?_ | refine ω4 ?_ | refine ω5 ?_ | refine χ1 ?_ | refine κ1 ?_ | refine κ2 ?_ | refine χ2 ?_ | refine κ3 ?_ | refine ω6 ?_ | refine ω7 ?_ | refine ω9 ?_ | refine κ4 ?_ | refine κ7 ?_ | refine κ8 ?_ | refine χ3 ?_ | refine χ4 ?_ | refine κ5 ?_ | refine κ6 ?_ | refine χ5 ?_ | refine χ6 ?_ | refine χ7 ?_ | refine ω8 ?_
              refine qround3 (k + 2) _ (acc ++ [0]) (by repeat' (first | exact Sub.nil | refine Sub.cons rfl ?_)) ⟨hx4, hk4, ho4', by simp at h24 ⊢; omega, by omega, ?_⟩ (by omega)
              rw [he, hs, if_neg (by simp at h24; omega)]
          · rw [xor_mask, ← hg2] at h
            have hef := byte_ne (k := 255) (by omega) h
            repeat first | refine ω1 ?_ | refine ω2 ?_ | refine ω3 ?_ | refine ω4 ?_ | refine ω5 ?_ | refine χ1 ?_ | refine κ1 ?_ | refine κ2 ?_ | refine χ2 ?_ | refine κ3 ?_ | refine ω6 ?_ | refine ω7 ?_ | refine ω9 ?_ | refine κ4 ?_ | refine κ7 ?_ | refine κ8 ?_ | refine χ3 ?_ | refine χ4 ?_ | refine κ5 ?_ | refine κ6 ?_ | refine χ5 ?_ | refine χ6 ?_ | refine χ7 ?_ | refine ω8 ?_
            refine bld (bV0 w2) ?_
            repeat first | refine ω1 ?_ | refine ω2 ?_ | refine ω3 ?_ | refine ω4 ?_ | refine ω5 ?_ | refine χ1 ?_ | refine κ1 ?_ | refine κ2 ?_ | refine χ2 ?_ | refine κ3 ?_ | refine ω6 ?_ | refine ω7 ?_ | refine ω9 ?_ | refine κ4 ?_ | refine κ7 ?_ | refine κ8 ?_ | refine χ3 ?_ | refine χ4 ?_ | refine κ5 ?_ | refine κ6 ?_ | refine χ5 ?_ | refine χ6 ?_ | refine χ7 ?_ | refine ω8 ?_
            refine stb (cs' := V0.cells) hk2 ?_ (V.one _)
            intro w3 hk3 hg3 hx3
            repeat first | refine ω1 ?_ | refine ω2 ?_ | refine ω3 ?_ | refine ω4 ?_ | refine ω5 ?_ | refine χ1 ?_ | refine κ1 ?_ | refine κ2 ?_ | refine χ2 ?_ | refine κ3 ?_ | refine ω6 ?_ | refine ω7 ?_ | refine ω9 ?_ | refine κ4 ?_ | refine κ7 ?_ | refine κ8 ?_ | refine χ3 ?_ | refine χ4 ?_ | refine κ5 ?_ | refine κ6 ?_ | refine χ5 ?_ | refine χ6 ?_ | refine χ7 ?_ | refine ω8 ?_
            refine finC3 hk3 ⟨?_, hx3 w hx2 hb1⟩
            rw [he, sGo_0x (by omega) hc0 he0 hef]; rfl
    · rw [xor_mask, ← hg] at h
      have hc0 := byte_ne (k := 0) (by omega) h
      repeat first | refine ω1 ?_ | refine ω2 ?_ | refine ω3 ?_ | refine ω4 ?_ | refine ω5 ?_ | refine χ1 ?_ | refine κ1 ?_ | refine κ2 ?_ | refine χ2 ?_ | refine κ3 ?_ | refine ω6 ?_ | refine ω7 ?_ | refine ω9 ?_ | refine κ4 ?_ | refine κ7 ?_ | refine κ8 ?_ | refine χ3 ?_ | refine χ4 ?_ | refine κ5 ?_ | refine κ6 ?_ | refine χ5 ?_ | refine χ6 ?_ | refine χ7 ?_ | refine ω8 ?_
      refine wapp1 hx2 E8 (bs1 _) rfl (fun b => rfl) (.inl ho2) rfl (one_u8 _) (by simp [maxLen]; omega) (by simp; omega) rfl rfl ?_
      intro v4 w4 b4 ho4 hx4 hg4 _
      have hk4 := hk2.grown hg4 (hk2.ne_own ho2 rfl)
      have ho4' := OwnB.snoc (c := (flp d l).getD k 0) (by rw [xor_mask, ← hg]) ho4
      obtain ⟨A7, c7, rfl, hc7, _⟩ := own_form ho4'
      repeat first | refine ω1 ?_ | refine ω2 ?_ | refine ω3 ?_ | refine ω4 ?_ | refine ω5 ?_ | refine χ1 ?_ | refine κ1 ?_ | refine κ2 ?_ | refine χ2 ?_ | refine κ3 ?_ | refine ω6 ?_ | refine ω7 ?_ | refine ω9 ?_ | refine κ4 ?_ | refine κ7 ?_ | refine κ8 ?_ | refine χ3 ?_ | refine χ4 ?_ | refine κ5 ?_ | refine κ6 ?_ | refine χ5 ?_ | refine χ6 ?_ | refine χ7 ?_ | refine ω8 ?_
      refine ci (fun h => ?_) (fun h => ?_)
      · repeat first | refine ω1 ?_ | refine ω2 ?_ | refine ω3 ?_ | refine ω4 ?_ | refine ω5 ?_ | refine χ1 ?_ | refine κ1 ?_ | refine κ2 ?_ | refine χ2 ?_ | refine κ3 ?_ | refine ω6 ?_ | refine ω7 ?_ | refine ω9 ?_ | refine κ4 ?_ | refine κ7 ?_ | refine κ8 ?_ | refine χ3 ?_ | refine χ4 ?_ | refine κ5 ?_ | refine κ6 ?_ | refine χ5 ?_ | refine χ6 ?_ | refine χ7 ?_ | refine ω8 ?_
        refine bld (bV0 w4) ?_
        repeat first | refine ω1 ?_ | refine ω2 ?_ | refine ω3 ?_ | refine ω4 ?_ | refine ω5 ?_ | refine χ1 ?_ | refine κ1 ?_ | refine κ2 ?_ | refine χ2 ?_ | refine κ3 ?_ | refine ω6 ?_ | refine ω7 ?_ | refine ω9 ?_ | refine κ4 ?_ | refine κ7 ?_ | refine κ8 ?_ | refine χ3 ?_ | refine χ4 ?_ | refine κ5 ?_ | refine κ6 ?_ | refine χ5 ?_ | refine χ6 ?_ | refine χ7 ?_ | refine ω8 ?_
        refine stb (cs' := V0.cells) hk4 ?_ (V.one _)
        intro w3 hk3 hg3 hx3
        repeat first | refine ω1 ?_ | refine ω2 ?_ | refine ω3 ?_ | refine ω4 ?_ | refine ω5 ?_ | refine χ1 ?_ | refine κ1 ?_ | refine κ2 ?_ | refine χ2 ?_ | refine κ3 ?_ | refine ω6 ?_ | refine ω7 ?_ | refine ω9 ?_ | refine κ4 ?_ | refine κ7 ?_ | refine κ8 ?_ | refine χ3 ?_ | refine χ4 ?_ | refine κ5 ?_ | refine κ6 ?_ | refine χ5 ?_ | refine χ6 ?_ | refine χ7 ?_ | refine ω8 ?_
        refine finC3 hk3 ⟨?_, hx3 w hx4 hb1⟩
        rw [he, sGo_full (by omega) hc0 (by have := of_decide_eq_true h; simp at this; omega)]; rfl
      · have h24 := of_decide_eq_false h
        repeat first | refine ω1 ?_ | refine ω2 ?_ | refine ω3 ?_ | refine ω4 ?_ | refine ω5 ?_ | refine χ1 ?_ | refine κ1 ?_ | refine κ2 ?_ | refine χ2 ?_ | refine κ3 ?_ | refine ω6 ?_ | refine ω7 ?_ | refine ω9 ?_ | refine κ4 ?_ | refine κ7 ?_ | refine κ8 ?_ | refine χ3 ?_ | refine χ4 ?_ | refine κ5 ?_ | refine κ6 ?_ | refine χ5 ?_ | refine χ6 ?_ | refine χ7 ?_ | refine ω8 ?_
        refine qround3 (k + 1) _ (acc ++ [(flp d l).getD k 0]) (by repeat' (first | exact Sub.nil | refine Sub.cons rfl ?_)) ⟨hx4, hk4, ho4', by simp at h24 ⊢; omega, by omega, ?_⟩ (by omega)
        rw [he, sGo_on (by omega) hc0 (by simp at h24; omega)]
  · have hge : l.length ≤ k := by have := of_decide_eq_false h; omega
    repeat first | refine ω1 ?_ | refine ω2 ?_ | refine ω3 ?_ | refine ω4 ?_ | refine ω5 ?_ | refine χ1 ?_ | refine κ1 ?_ | refine κ2 ?_ | refine χ2 ?_ | refine κ3 ?_ | refine ω6 ?_ | refine ω7 ?_ | refine ω9 ?_ | refine κ4 ?_ | refine κ7 ?_ | refine κ8 ?_ | refine χ3 ?_ | refine χ4 ?_ | refine κ5 ?_ | refine κ6 ?_ | refine χ5 ?_ | refine χ6 ?_ | refine χ7 ?_ | refine ω8 ?_
    refine bld (bV0 w2) ?_
    repeat first | refine ω1 ?_ | refine ω2 ?_ | refine ω3 ?_ | refine ω4 ?_ | refine ω5 ?_ | refine χ1 ?_ | refine κ1 ?_ | refine κ2 ?_ | refine χ2 ?_ | refine κ3 ?_ | refine ω6 ?_ | refine ω7 ?_ | refine ω9 ?_ | refine κ4 ?_ | refine κ7 ?_ | refine κ8 ?_ | refine χ3 ?_ | refine χ4 ?_ | refine κ5 ?_ | refine κ6 ?_ | refine χ5 ?_ | refine χ6 ?_ | refine χ7 ?_ | refine ω8 ?_
    refine stb (cs' := V0.cells) hk2 ?_ (V.one _)
    intro w3 hk3 hg3 hx3
    repeat first | refine ω1 ?_ | refine ω2 ?_ | refine ω3 ?_ | refine ω4 ?_ | refine ω5 ?_ | refine χ1 ?_ | refine κ1 ?_ | refine κ2 ?_ | refine χ2 ?_ | refine κ3 ?_ | refine ω6 ?_ | refine ω7 ?_ | refine ω9 ?_ | refine κ4 ?_ | refine κ7 ?_ | refine κ8 ?_ | refine χ3 ?_ | refine χ4 ?_ | refine κ5 ?_ | refine κ6 ?_ | refine χ5 ?_ | refine χ6 ?_ | refine χ7 ?_ | refine ω8 ?_
    refine finC3 hk3 ⟨?_, hx3 w hx2 hb1⟩
    rw [he, sGo_end (by omega)]; rfl
end Go.Proofs.Ythjnmclnafbcdaa
