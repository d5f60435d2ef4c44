/- Contracts of Norm, Uint64, Add, Sub. -/
import Derived.Test.YtpahjnfolbnloaaClone
set_option linter.unusedVariables false
namespace Go.Proofs.Ytpahjnfolbnloaa
open Go.RowKit Pl Go.Wk
attribute [local irreducible] WC WL QX WD WDB
set_option maxRecDepth 100000 in
theorem natNorm_any {v : Value} {n : Nat} {w : World} (hv : NatV w v n) (hs : (limbs n).length ≤ 1000) : Ret Try.prog 62 [v] w fun r w' => NatV w' r n ∧ Ext w w' := by
  refine enterR Try.func62 Try.ntmps62 rfl (by kernel_rfl) rfl ?_
  repeat first | refine ω1 ?_ | refine ω2 ?_ | refine ω3 ?_ | refine ω4 ?_ | refine ω5 ?_ | refine χ1 ?_ | refine κ1 ?_ | refine κ2 ?_ | refine χ2 ?_ | refine κ3 ?_ | refine ω6 ?_ | refine ω7 ?_ | refine ω9 ?_ | refine κ4 ?_ | refine κ7 ?_ | refine κ8 ?_ | refine χ3 ?_ | refine χ4 ?_ | refine κ5 ?_ | refine κ6 ?_ | refine χ5 ?_ | refine χ6 ?_ | refine χ7 ?_ | refine ω8 ?_
  refine cl (trimV hv) ?_
  rintro v' w' ⟨⟨A, rfl, ha⟩, rfl⟩
  repeat first | refine ω1 ?_ | refine ω2 ?_ | refine ω3 ?_ | refine ω4 ?_ | refine ω5 ?_ | refine χ1 ?_ | refine κ1 ?_ | refine κ2 ?_ | refine χ2 ?_ | refine κ3 ?_ | refine ω6 ?_ | refine ω7 ?_ | refine ω9 ?_ | refine κ4 ?_ | refine κ7 ?_ | refine κ8 ?_ | refine χ3 ?_ | refine χ4 ?_ | refine κ5 ?_ | refine κ6 ?_ | refine χ5 ?_ | refine χ6 ?_ | refine χ7 ?_ | refine ω8 ?_
  refine cl (cloneNat ha (Nc_one _) (by omega)) ?_
  rintro v' w1 ⟨⟨A', c', rfl, hc, hr⟩, hx⟩
  repeat first | refine ω1 ?_ | refine ω2 ?_ | refine ω3 ?_ | refine ω4 ?_ | refine ω5 ?_ | refine χ1 ?_ | refine κ1 ?_ | refine κ2 ?_ | refine χ2 ?_ | refine κ3 ?_ | refine ω6 ?_ | refine ω7 ?_ | refine ω9 ?_ | refine κ4 ?_ | refine κ7 ?_ | refine κ8 ?_ | refine χ3 ?_ | refine χ4 ?_ | refine κ5 ?_ | refine κ6 ?_ | refine χ5 ?_ | refine χ6 ?_ | refine χ7 ?_ | refine ω8 ?_
  exact fin1 ⟨⟨A', c', rfl, hc, by omega, hr⟩, hx⟩
theorem small_len {n : Nat} (h : n < 18446744073709551616) : (limbs n).length ≤ 2 := by
  rcases Nat.lt_or_ge 2 (limbs n).length with h1 | h1
  · have hn : n ≠ 0 := fun e => by subst e; rw [limbs_0] at h1; simp at h1
    have h2 := limbs_len_le hn
    have h3 : 4294967296 ^ 2 ≤ 4294967296 ^ ((limbs n).length - 1) := Nat.pow_le_pow_right (by omega) (by omega)
    omega
  · exact h1
theorem or_limb {a : Nat} (k : Nat) (hk : k < 2) (h : a < 4294967296 ^ k) (c : UInt32) : bits .or .u64 (a : Int) (IntKind.u64.wrap (IntKind.u64.wrap (c.toNat : Int) * 2 ^ min (32 * (k : Int)).toNat IntKind.u64.bits)) = ((a + 4294967296 ^ k * c.toNat : Nat) : Int) := by
  have hc : c.toNat < 4294967296 := c.toNat_lt
  have e0 : IntKind.u64.wrap (c.toNat : Int) = (c.toNat : Int) := by rw [IntKind.wrap_u64]; omega
  rw [e0]
  match k, hk with
  | 0, _ =>
    have ha : a = 0 := by simpa using h
    subst ha
    have e1 : (2 : Int) ^ min (32 * ((0 : Nat) : Int)).toNat IntKind.u64.bits = 1 := by decide
    rw [e1, Int.mul_one, e0]
    have := u64_or_nat 0 c.toNat (by omega) (by omega)
    rw [Nat.zero_or] at this
    simpa using this
  | 1, _ =>
    have e1 : (2 : Int) ^ min (32 * ((1 : Nat) : Int)).toNat IntKind.u64.bits = 4294967296 := by decide
    have e2 : IntKind.u64.wrap ((c.toNat : Int) * 4294967296) = ((c.toNat * 4294967296 : Nat) : Int) := by rw [IntKind.wrap_u64]; omega
    have h' : a < 4294967296 := by simpa using h
    rw [e1, e2, u64_or_nat _ _ (by omega) (by omega)]
    have := nat_join 32 (c.toNat * 4294967296) a (by simp) h'
    rw [Nat.or_comm, this]
    omega
set_option maxRecDepth 100000 in
theorem natUint64_any {v : Value} {n : Nat} {w : World} (hv : NatV w v n) (h : n < 18446744073709551616) : Ret Try.prog 131 [v] w fun r w' => r = .tuple #[.int .u64 (n : Int), .bool true] ∧ w' = w := by
  have hl := small_len h
  refine enterR Try.func131 Try.ntmps131 rfl (by kernel_rfl) rfl ?_
  repeat first | refine ω1 ?_ | refine ω2 ?_ | refine ω3 ?_ | refine ω4 ?_ | refine ω5 ?_ | refine χ1 ?_ | refine κ1 ?_ | refine κ2 ?_ | refine χ2 ?_ | refine κ3 ?_ | refine ω6 ?_ | refine ω7 ?_ | refine ω9 ?_ | refine κ4 ?_ | refine κ7 ?_ | refine κ8 ?_ | refine χ3 ?_ | refine χ4 ?_ | refine κ5 ?_ | refine κ6 ?_ | refine χ5 ?_ | refine χ6 ?_ | refine χ7 ?_ | refine ω8 ?_
  refine cl (trimV hv) ?_
  rintro v' w' ⟨⟨A, rfl, ha⟩, rfl⟩
  repeat first | refine ω1 ?_ | refine ω2 ?_ | refine ω3 ?_ | refine ω4 ?_ | refine ω5 ?_ | refine χ1 ?_ | refine κ1 ?_ | refine κ2 ?_ | refine χ2 ?_ | refine κ3 ?_ | refine ω6 ?_ | refine ω7 ?_ | refine ω9 ?_ | refine κ4 ?_ | refine κ7 ?_ | refine κ8 ?_ | refine χ3 ?_ | refine χ4 ?_ | refine κ5 ?_ | refine κ6 ?_ | refine χ5 ?_ | refine χ6 ?_ | refine χ7 ?_ | refine ω8 ?_
  refine wcondn rfl (decide_eq_false (by omega)) ?_
  repeat first | refine ω1 ?_ | refine ω2 ?_ | refine ω3 ?_ | refine ω4 ?_ | refine ω5 ?_ | refine χ1 ?_ | refine κ1 ?_ | refine κ2 ?_ | refine χ2 ?_ | refine κ3 ?_ | refine ω6 ?_ | refine ω7 ?_ | refine ω9 ?_ | refine κ4 ?_ | refine κ7 ?_ | refine κ8 ?_ | refine χ3 ?_ | refine χ4 ?_ | refine κ5 ?_ | refine κ6 ?_ | refine χ5 ?_ | refine χ6 ?_ | refine χ7 ?_ | refine ω8 ?_
  refine wloop1 (fun k => [(4, .int .u64 ((val ((limbs n).take k) : Nat) : Int)), (0, .slice A (limbs n).length (limbs n).length), (12, .int .i64 ((limbs n).length : Int)), (13, .int .i64 ((k : Nat) : Int))]) (fun k w1 => w1 = w' ∧ k ≤ (limbs n).length) (fun k => (limbs n).length - k) 0 (by repeat' (first | exact Sub.nil | refine Sub.cons rfl ?_)) ⟨rfl, Nat.zero_le _⟩ ?_
  rintro k w1 ⟨rfl, hk⟩
  repeat first | refine ω1 ?_ | refine ω2 ?_ | refine ω3 ?_ | refine ω4 ?_ | refine ω5 ?_ | refine χ1 ?_ | refine κ1 ?_ | refine κ2 ?_ | refine χ2 ?_ | refine κ3 ?_ | refine ω6 ?_ | refine ω7 ?_ | refine ω9 ?_ | refine κ4 ?_ | refine κ7 ?_ | refine κ8 ?_ | refine χ3 ?_ | refine χ4 ?_ | refine κ5 ?_ | refine κ6 ?_ | refine χ5 ?_ | refine χ6 ?_ | refine χ7 ?_ | refine ω8 ?_
  refine ci (fun h => ?_) (fun h => ?_)
  · have hlt : k < (limbs n).length := by have := of_decide_eq_true h; omega
    repeat first | refine ω1 ?_ | refine ω2 ?_ | refine ω3 ?_ | refine ω4 ?_ | refine ω5 ?_ | refine χ1 ?_ | refine κ1 ?_ | refine κ2 ?_ | refine χ2 ?_ | refine κ3 ?_ | refine ω6 ?_ | refine ω7 ?_ | refine ω9 ?_ | refine κ4 ?_ | refine κ7 ?_ | refine κ8 ?_ | refine χ3 ?_ | refine χ4 ?_ | refine κ5 ?_ | refine κ6 ?_ | refine χ5 ?_ | refine χ6 ?_ | refine χ7 ?_ | refine ω8 ?_
    refine ix k ha hlt ?_
    repeat first | refine ω1 ?_ | refine ω2 ?_ | refine ω3 ?_ | refine ω4 ?_ | refine ω5 ?_ | refine χ1 ?_ | refine κ1 ?_ | refine κ2 ?_ | refine χ2 ?_ | refine κ3 ?_ | refine ω6 ?_ | refine ω7 ?_ | refine ω9 ?_ | refine κ4 ?_ | refine κ7 ?_ | refine κ8 ?_ | refine χ3 ?_ | refine χ4 ?_ | refine κ5 ?_ | refine κ6 ?_ | refine χ5 ?_ | refine χ6 ?_ | refine χ7 ?_ | refine ω8 ?_
    refine ld (ha.cell (Nc_get hlt)) ?_
    repeat first | refine ω1 ?_ | refine ω2 ?_ | refine ω3 ?_ | refine ω4 ?_ | refine ω5 ?_ | refine χ1 ?_ | refine κ1 ?_ | refine κ2 ?_ | refine χ2 ?_ | refine κ3 ?_ | refine ω6 ?_ | refine ω7 ?_ | refine ω9 ?_ | refine κ4 ?_ | refine κ7 ?_ | refine κ8 ?_ | refine χ3 ?_ | refine χ4 ?_ | refine κ5 ?_ | refine κ6 ?_ | refine χ5 ?_ | refine χ6 ?_ | refine χ7 ?_ | refine ω8 ?_
    refine wshl rfl rfl (by omega) rfl ?_
    repeat first | refine ω1 ?_ | refine ω2 ?_ | refine ω3 ?_ | refine ω4 ?_ | refine ω5 ?_ | refine χ1 ?_ | refine κ1 ?_ | refine κ2 ?_ | refine χ2 ?_ | refine κ3 ?_ | refine ω6 ?_ | refine ω7 ?_ | refine ω9 ?_ | refine κ4 ?_ | refine κ7 ?_ | refine κ8 ?_ | refine χ3 ?_ | refine χ4 ?_ | refine κ5 ?_ | refine κ6 ?_ | refine χ5 ?_ | refine χ6 ?_ | refine χ7 ?_ | refine ω8 ?_
    have hv1 := val_lt ((limbs n).take k)
    have hlk : ((limbs n).take k).length = k := by rw [List.length_take]; omega
    rw [hlk] at hv1
    have hsn : (limbs n).take (k + 1) = (limbs n).take k ++ [(limbs n).getD k 0] := by
      rw [List.take_succ_eq_append_getElem hlt]; simp [List.getD, List.getElem?_eq_getElem hlt]
    refine qround1 (k + 1) (Sub.cons (congrArg (fun z => some (Value.int .u64 z)) ?_) (by repeat' (first | exact Sub.nil | refine Sub.cons rfl ?_))) ⟨rfl, by omega⟩ (by omega)
    rw [or_limb k (by omega) hv1, hsn, val_app, hlk]
    simp [val]
  · have hge : k = (limbs n).length := by have := of_decide_eq_false h; omega
    subst hge
    repeat first | refine ω1 ?_ | refine ω2 ?_ | refine ω3 ?_ | refine ω4 ?_ | refine ω5 ?_ | refine χ1 ?_ | refine κ1 ?_ | refine κ2 ?_ | refine χ2 ?_ | refine κ3 ?_ | refine ω6 ?_ | refine ω7 ?_ | refine ω9 ?_ | refine κ4 ?_ | refine κ7 ?_ | refine κ8 ?_ | refine χ3 ?_ | refine χ4 ?_ | refine κ5 ?_ | refine κ6 ?_ | refine χ5 ?_ | refine χ6 ?_ | refine χ7 ?_ | refine ω8 ?_
    refine fin2 ⟨?_, rfl⟩
    rw [List.take_length, val_limbs]
end Go.Proofs.Ytpahjnfolbnloaa
