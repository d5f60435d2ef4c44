/- Contract of Sub. -/
import Derived.Test.YtpahjnfolbnloaaNat3
set_option linter.unusedVariables false
namespace Go.Proofs.Ytpahjnfolbnloaa
open Go.RowKit Pl Go.Wk
attribute [local irreducible] WC WL QX WD WDB
def dif (x c y : Nat) : Nat := (18446744073709551616 + x - c - y) % 18446744073709551616
theorem sub_w1 {x c : Nat} (hx : x < 4294967296) (hc : c ≤ 1) : IntKind.u64.wrap (IntKind.u64.wrap (x : Int) - (c : Int)) = (dif x c 0 : Int) := by
  unfold dif; simp only [IntKind.wrap_u64]; omega
theorem sub_w2 {x c y : Nat} (hx : x < 4294967296) (hc : c ≤ 1) (hy : y < 4294967296) : IntKind.u64.wrap ((dif x c 0 : Int) - IntKind.u64.wrap (y : Int)) = (dif x c y : Int) := by
  unfold dif; simp only [IntKind.wrap_u64]; omega
theorem shr63 (n : Nat) : (n : Int).fdiv (2 ^ min (63 : Int).toNat IntKind.u64.bits) = ((n / 9223372036854775808 : Nat) : Int) := by
  have e : (2 : Int) ^ min (63 : Int).toNat IntKind.u64.bits = ((9223372036854775808 : Nat) : Int) := by decide
  rw [e, Int.fdiv_eq_ediv_of_nonneg _ (Int.natCast_nonneg _)]; omega
theorem dif_eq {x c y : Nat} (hx : x < 4294967296) (hc : c ≤ 1) (hy : y < 4294967296) : dif x c y % 4294967296 + y + c = x + 4294967296 * (dif x c y / 9223372036854775808) ∧ dif x c y / 9223372036854775808 ≤ 1 := by
  unfold dif; omega
def SubInv (a b : List UInt32) (i c : Nat) (os : List UInt32) : Prop := os.length = i ∧ c ≤ 1 ∧ val os + val (b.take i) = val (a.take i) + 4294967296 ^ i * c
theorem SubInv.step {a b : List UInt32} {i c : Nat} {os : List UInt32} (h : SubInv a b i c os) {s : Nat} (hs : s = dif (a.getD i 0).toNat c (b.getD i 0).toNat) :
    SubInv a b (i + 1) (s / 9223372036854775808) (os ++ [UInt32.ofNat s]) := by
  obtain ⟨h1, h2, h3⟩ := h
  have hx : (a.getD i 0).toNat < 4294967296 := (a.getD i 0).toNat_lt
  have hy : (b.getD i 0).toNat < 4294967296 := (b.getD i 0).toNat_lt
  obtain ⟨k1, k2⟩ := dif_eq hx h2 hy
  rw [← hs] at k1 k2
  refine ⟨by simp [h1], k2, ?_⟩
  rw [val_app, h1, val_take, val_take]
  simp only [val, UInt32.toNat_ofNat']
  have e : 4294967296 ^ (i + 1) * (s / 9223372036854775808) = 4294967296 ^ i * (4294967296 * (s / 9223372036854775808)) := by rw [Nat.pow_succ, Nat.mul_assoc]
  have e2 : s % 2 ^ 32 + 4294967296 * 0 = s % 4294967296 := by omega
  rw [e, e2]
  have e3 : 4294967296 ^ i * (s % 4294967296) + 4294967296 ^ i * (b.getD i 0).toNat + 4294967296 ^ i * c = 4294967296 ^ i * (a.getD i 0).toNat + 4294967296 ^ i * (4294967296 * (s / 9223372036854775808)) := by
    rw [← Nat.mul_add, ← Nat.mul_add, ← Nat.mul_add, k1]
  omega
set_option maxRecDepth 100000 in
set_option maxHeartbeats 1000000 in
theorem natSubF_any {v u : Value} {n m : Nat} {w : World} (hv : NatV w v n) (hu : NatV w u m) (hln : (limbs n).length ≤ 1000) :
    Ret Try.prog 65 [v, u] w fun r w' => (∃ x, r = .tuple #[x, .int .i64 (if n < m then 19 else 0)] ∧ NatV w' x (n - m) ∧ Fresh w x) ∧ Ext w w' := by
  refine enterR Try.func65 Try.ntmps65 rfl (by kernel_rfl) rfl ?_
  repeat first | refine ω1 ?_ | refine ω2 ?_ | refine ω3 ?_ | refine ω4 ?_ | refine ω5 ?_ | refine χ1 ?_ | refine κ1 ?_ | refine κ2 ?_ | refine χ2 ?_ | refine κ3 ?_ | refine ω6 ?_ | refine ω7 ?_ | refine ω9 ?_ | refine κ4 ?_ | refine κ7 ?_ | refine κ8 ?_ | refine χ3 ?_ | refine χ4 ?_ | refine κ5 ?_ | refine κ6 ?_ | refine χ5 ?_ | refine χ6 ?_ | refine χ7 ?_ | refine ω8 ?_
  refine cl (trimV hv) ?_
  rintro v' w' ⟨⟨A, rfl, ha⟩, rfl⟩
  repeat first | refine ω1 ?_ | refine ω2 ?_ | refine ω3 ?_ | refine ω4 ?_ | refine ω5 ?_ | refine χ1 ?_ | refine κ1 ?_ | refine κ2 ?_ | refine χ2 ?_ | refine κ3 ?_ | refine ω6 ?_ | refine ω7 ?_ | refine ω9 ?_ | refine κ4 ?_ | refine κ7 ?_ | refine κ8 ?_ | refine χ3 ?_ | refine χ4 ?_ | refine κ5 ?_ | refine κ6 ?_ | refine χ5 ?_ | refine χ6 ?_ | refine χ7 ?_ | refine ω8 ?_
  refine cl (trimV hu) ?_
  rintro u' w'' ⟨⟨B, rfl, hb⟩, rfl⟩
  have hlm : (limbs m).length ≤ 4611686018427387904 := by obtain ⟨_, _, _, _, h, _⟩ := hu; exact h
  repeat first | refine ω1 ?_ | refine ω2 ?_ | refine ω3 ?_ | refine ω4 ?_ | refine ω5 ?_ | refine χ1 ?_ | refine κ1 ?_ | refine κ2 ?_ | refine χ2 ?_ | refine κ3 ?_ | refine ω6 ?_ | refine ω7 ?_ | refine ω9 ?_ | refine κ4 ?_ | refine κ7 ?_ | refine κ8 ?_ | refine χ3 ?_ | refine χ4 ?_ | refine κ5 ?_ | refine κ6 ?_ | refine χ5 ?_ | refine χ6 ?_ | refine χ7 ?_ | refine ω8 ?_
  refine cl (natCmp_any (n := n) (m := m) ⟨A, _, rfl, Nat.le_refl _, by omega, ha⟩ ⟨B, _, rfl, Nat.le_refl _, hlm, hb⟩) ?_
  rintro t w' ⟨rfl, hx0⟩
  repeat first | refine ω1 ?_ | refine ω2 ?_ | refine ω3 ?_ | refine ω4 ?_ | refine ω5 ?_ | refine χ1 ?_ | refine κ1 ?_ | refine κ2 ?_ | refine χ2 ?_ | refine κ3 ?_ | refine ω6 ?_ | refine ω7 ?_ | refine ω9 ?_ | refine κ4 ?_ | refine κ7 ?_ | refine κ8 ?_ | refine χ3 ?_ | refine χ4 ?_ | refine κ5 ?_ | refine κ6 ?_ | refine χ5 ?_ | refine χ6 ?_ | refine χ7 ?_ | refine ω8 ?_
  refine ci (fun h => ?_) (fun h => ?_)
  · have hlt : n < m := by
      have := of_decide_eq_true h
      unfold cmpN at this
      rcases Nat.lt_or_ge n m with h1 | h1
      · exact h1
      · rw [if_neg (by omega)] at this; split at this <;> omega
    repeat first | refine ω1 ?_ | refine ω2 ?_ | refine ω3 ?_ | refine ω4 ?_ | refine ω5 ?_ | refine χ1 ?_ | refine κ1 ?_ | refine κ2 ?_ | refine χ2 ?_ | refine κ3 ?_ | refine ω6 ?_ | refine ω7 ?_ | refine ω9 ?_ | refine κ4 ?_ | refine κ7 ?_ | refine κ8 ?_ | refine χ3 ?_ | refine χ4 ?_ | refine κ5 ?_ | refine κ6 ?_ | refine χ5 ?_ | refine χ6 ?_ | refine χ7 ?_ | refine ω8 ?_
    refine fin2 ⟨⟨.slice none 0 0, ?_, ?_, fun ad _ _ e => by cases e⟩, hx0⟩
    · rw [if_pos hlt]
    · rw [show n - m = 0 by omega]; exact NatV.nil _
  have hge : m ≤ n := by
    have := of_decide_eq_false h
    unfold cmpN at this
    rcases Nat.lt_or_ge n m with h1 | h1
    · rw [if_pos h1] at this; omega
    · exact h1
  have hle : (limbs m).length ≤ (limbs n).length := by
    rcases Nat.lt_or_ge (limbs n).length (limbs m).length with h1 | h1
    · have := lt_of_len h1; omega
    · exact h1
  have ha0 := ha.ext hx0
  have hb0 := hb.ext hx0
  generalize hL : (limbs n).length = L at *
  repeat first | refine ω1 ?_ | refine ω2 ?_ | refine ω3 ?_ | refine ω4 ?_ | refine ω5 ?_ | refine χ1 ?_ | refine κ1 ?_ | refine κ2 ?_ | refine χ2 ?_ | refine κ3 ?_ | refine ω6 ?_ | refine ω7 ?_ | refine ω9 ?_ | refine κ4 ?_ | refine κ7 ?_ | refine κ8 ?_ | refine χ3 ?_ | refine χ4 ?_ | refine κ5 ?_ | refine κ6 ?_ | refine χ5 ?_ | refine χ6 ?_ | refine χ7 ?_ | refine ω8 ?_
  refine mkn EN L (by omega) (by unfold maxLen; omega) ?_
  intro w1 O hx1 ho1 hO
  have hx01 := hx0.trans hx1
  have hsz := hx0.size
  have ho1' : OwnN w1 w'.heap.size (.slice O L L) ([] ++ List.replicate L 0) := by
    have e : (madeCells (Value.int .u32 0).cells (L * 1)).toList = Nc (List.replicate L 0) := by rw [Nat.mul_one, ← Nc_zero]; exact made1 _ _
    rw [e] at ho1
    rw [OwnN, List.nil_append, List.length_replicate]; exact ho1
  repeat first | refine ω1 ?_ | refine ω2 ?_ | refine ω3 ?_ | refine ω4 ?_ | refine ω5 ?_ | refine χ1 ?_ | refine κ1 ?_ | refine κ2 ?_ | refine χ2 ?_ | refine κ3 ?_ | refine ω6 ?_ | refine ω7 ?_ | refine ω9 ?_ | refine κ4 ?_ | refine κ7 ?_ | refine κ8 ?_ | refine χ3 ?_ | refine χ4 ?_ | refine κ5 ?_ | refine κ6 ?_ | refine χ5 ?_ | refine χ6 ?_ | refine χ7 ?_ | refine ω8 ?_
  refine wloop3 (fun (k c : Nat) (os : List UInt32) => [(0, .slice A L L), (1, .slice B (limbs m).length (limbs m).length), (6, .slice O L L), (7, .int .u64 (c : Int)), (22, .int .i64 (L : Int)), (23, .int .i64 (k : Int))])
    (fun k c os w2 => Ext w' w2 ∧ k ≤ L ∧ SubInv (limbs n) (limbs m) k c os ∧ OwnN w2 w'.heap.size (.slice O L L) (os ++ List.replicate (L - k) 0)) (fun k _ _ => L - k) 0 0 [] (by repeat' (first | exact Sub.nil | refine Sub.cons rfl ?_))
    ⟨hx1, Nat.zero_le _, ⟨rfl, by omega, rfl⟩, ho1'⟩ ?_
  rintro k c os w2 ⟨hx2, hk, hI, ho2⟩
  have hol := hI.1
  have hc1 := hI.2.1
  have ha2 := ha0.ext hx2
  have hb2 := hb0.ext hx2
  repeat first | refine ω1 ?_ | refine ω2 ?_ | refine ω3 ?_ | refine ω4 ?_ | refine ω5 ?_ | refine χ1 ?_ | refine κ1 ?_ | refine κ2 ?_ | refine χ2 ?_ | refine κ3 ?_ | refine ω6 ?_ | refine ω7 ?_ | refine ω9 ?_ | refine κ4 ?_ | refine κ7 ?_ | refine κ8 ?_ | refine χ3 ?_ | refine χ4 ?_ | refine κ5 ?_ | refine κ6 ?_ | refine χ5 ?_ | refine χ6 ?_ | refine χ7 ?_ | refine ω8 ?_
  refine ci (fun h => ?_) (fun h => ?_)
  · have hlt : k < L := by have := of_decide_eq_true h; omega
    have hlx : ((limbs n).getD k 0).toNat < 4294967296 := ((limbs n).getD k 0).toNat_lt
    have hly : ((limbs m).getD k 0).toNat < 4294967296 := ((limbs m).getD k 0).toNat_lt
    have hlen : (os ++ List.replicate (L - k) (0 : UInt32)).length = L := by simp; omega
    have store : ∀ s : Nat, w2.cell? (adr O k) = (Nc (os ++ List.replicate (L - k) 0))[k]? ∧ w2.frozen? (adr O k) = false ∧
        OwnN (w2.setCell (adr O k) (.int .u32 ((UInt32.ofNat s).toNat : Int))) w'.heap.size (.slice O L L) ((os ++ [UInt32.ofNat s]) ++ List.replicate (L - (k + 1)) 0) ∧ Ext w' (w2.setCell (adr O k) (.int .u32 ((UInt32.ofNat s).toNat : Int))) := fun s => by
      have ho3 := ho2
      rw [OwnN, hlen] at ho3
      obtain ⟨s1, s2, s3, s4, s5⟩ := own_store ho3 (q := k) (by omega) (.int .u32 ((UInt32.ofNat s).toNat : Int))
      refine ⟨s1, s2, ?_, hx2.setCell s4 _⟩
      rw [Nc_set, show L - k = (L - (k + 1)) + 1 by omega] at s3
      have e := set_mid os (L - (k + 1)) (UInt32.ofNat s)
      rw [hol] at e
      rw [e] at s3
      have e2 : ((os ++ [UInt32.ofNat s]) ++ List.replicate (L - (k + 1)) (0 : UInt32)).length = L := by simp; omega
      rw [OwnN, e2]; exact s3
    have hcell : (Nc (os ++ List.replicate (L - k) 0))[k]? = some (.int .u32 (((os ++ List.replicate (L - k) 0).getD k 0).toNat : Int)) := Nc_get (by rw [hlen]; omega)
    have rdO : Rd w2 1 O L (Nc (os ++ List.replicate (L - k) 0)) := by have h5 := ho2; rw [OwnN, hlen] at h5; exact Rd.own h5
    repeat first | refine ω1 ?_ | refine ω2 ?_ | refine ω3 ?_ | refine ω4 ?_ | refine ω5 ?_ | refine χ1 ?_ | refine κ1 ?_ | refine κ2 ?_ | refine χ2 ?_ | refine κ3 ?_ | refine ω6 ?_ | refine ω7 ?_ | refine ω9 ?_ | refine κ4 ?_ | refine κ7 ?_ | refine κ8 ?_ | refine χ3 ?_ | refine χ4 ?_ | refine κ5 ?_ | refine κ6 ?_ | refine χ5 ?_ | refine χ6 ?_ | refine χ7 ?_ | refine ω8 ?_
    refine ix k ha2 hlt ?_
    repeat first | refine ω1 ?_ | refine ω2 ?_ | refine ω3 ?_ | refine ω4 ?_ | refine ω5 ?_ | refine χ1 ?_ | refine κ1 ?_ | refine κ2 ?_ | refine χ2 ?_ | refine κ3 ?_ | refine ω6 ?_ | refine ω7 ?_ | refine ω9 ?_ | refine κ4 ?_ | refine κ7 ?_ | refine κ8 ?_ | refine χ3 ?_ | refine χ4 ?_ | refine κ5 ?_ | refine κ6 ?_ | refine χ5 ?_ | refine χ6 ?_ | refine χ7 ?_ | refine ω8 ?_
    refine ld (ha2.cell (Nc_get (show k < (limbs n).length by omega))) ?_
    repeat first | refine ω1 ?_ | refine ω2 ?_ | refine ω3 ?_ | refine ω4 ?_ | refine ω5 ?_ | refine χ1 ?_ | refine κ1 ?_ | refine κ2 ?_ | refine χ2 ?_ | refine κ3 ?_ | refine ω6 ?_ | refine ω7 ?_ | refine ω9 ?_ | refine κ4 ?_ | refine κ7 ?_ | refine κ8 ?_ | refine χ3 ?_ | refine χ4 ?_ | refine κ5 ?_ | refine κ6 ?_ | refine χ5 ?_ | refine χ6 ?_ | refine χ7 ?_ | refine ω8 ?_
    rw [sub_w1 hlx hc1]
    refine ci (fun h => ?_) (fun h => ?_)
    · have hlt2 : k < (limbs m).length := by have := of_decide_eq_true h; omega
      repeat first | refine ω1 ?_ | refine ω2 ?_ | refine ω3 ?_ | refine ω4 ?_ | refine ω5 ?_ | refine χ1 ?_ | refine κ1 ?_ | refine κ2 ?_ | refine χ2 ?_ | refine κ3 ?_ | refine ω6 ?_ | refine ω7 ?_ | refine ω9 ?_ | refine κ4 ?_ | refine κ7 ?_ | refine κ8 ?_ | refine χ3 ?_ | refine χ4 ?_ | refine κ5 ?_ | refine κ6 ?_ | refine χ5 ?_ | refine χ6 ?_ | refine χ7 ?_ | refine ω8 ?_
      refine ix k hb2 hlt2 ?_
      repeat first | refine ω1 ?_ | refine ω2 ?_ | refine ω3 ?_ | refine ω4 ?_ | refine ω5 ?_ | refine χ1 ?_ | refine κ1 ?_ | refine κ2 ?_ | refine χ2 ?_ | refine κ3 ?_ | refine ω6 ?_ | refine ω7 ?_ | refine ω9 ?_ | refine κ4 ?_ | refine κ7 ?_ | refine κ8 ?_ | refine χ3 ?_ | refine χ4 ?_ | refine κ5 ?_ | refine κ6 ?_ | refine χ5 ?_ | refine χ6 ?_ | refine χ7 ?_ | refine ω8 ?_
      refine ld (hb2.cell (Nc_get hlt2)) ?_
      repeat first | refine ω1 ?_ | refine ω2 ?_ | refine ω3 ?_ | refine ω4 ?_ | refine ω5 ?_ | refine χ1 ?_ | refine κ1 ?_ | refine κ2 ?_ | refine χ2 ?_ | refine κ3 ?_ | refine ω6 ?_ | refine ω7 ?_ | refine ω9 ?_ | refine κ4 ?_ | refine κ7 ?_ | refine κ8 ?_ | refine χ3 ?_ | refine χ4 ?_ | refine κ5 ?_ | refine κ6 ?_ | refine χ5 ?_ | refine χ6 ?_ | refine χ7 ?_ | refine ω8 ?_
      refine ix k rdO (by omega) ?_
      obtain ⟨s1, s2, s3, s4⟩ := store (dif ((limbs n).getD k 0).toNat c ((limbs m).getD k 0).toNat)
      rw [sub_w2 hlx hc1 hly, u32lo]
      refine sto (s1.trans hcell) s2 ?_
      repeat first | refine ω1 ?_ | refine ω2 ?_ | refine ω3 ?_ | refine ω4 ?_ | refine ω5 ?_ | refine χ1 ?_ | refine κ1 ?_ | refine κ2 ?_ | refine χ2 ?_ | refine κ3 ?_ | refine ω6 ?_ | refine ω7 ?_ | refine ω9 ?_ | refine κ4 ?_ | refine κ7 ?_ | refine κ8 ?_ | refine χ3 ?_ | refine χ4 ?_ | refine κ5 ?_ | refine κ6 ?_ | refine χ5 ?_ | refine χ6 ?_ | refine χ7 ?_ | refine ω8 ?_
      refine wshr rfl rfl (by decide) rfl ?_
      repeat first | refine ω1 ?_ | refine ω2 ?_ | refine ω3 ?_ | refine ω4 ?_ | refine ω5 ?_ | refine χ1 ?_ | refine κ1 ?_ | refine κ2 ?_ | refine χ2 ?_ | refine κ3 ?_ | refine ω6 ?_ | refine ω7 ?_ | refine ω9 ?_ | refine κ4 ?_ | refine κ7 ?_ | refine κ8 ?_ | refine χ3 ?_ | refine χ4 ?_ | refine κ5 ?_ | refine κ6 ?_ | refine χ5 ?_ | refine χ6 ?_ | refine χ7 ?_ | refine ω8 ?_
      refine qround3 (k + 1) (dif ((limbs n).getD k 0).toNat c ((limbs m).getD k 0).toNat / 9223372036854775808) (os ++ [UInt32.ofNat (dif ((limbs n).getD k 0).toNat c ((limbs m).getD k 0).toNat)]) ?_ ⟨s4, by omega, hI.step rfl, s3⟩ (by omega)
      rw [shr63]
      exact (by repeat' (first | exact Sub.nil | refine Sub.cons rfl ?_))
    · have hge : (limbs m).length ≤ k := by have := of_decide_eq_false h; omega
      have hy0 : (limbs m).getD k 0 = 0 := by simp [List.getD, List.getElem?_eq_none hge]
      repeat first | refine ω1 ?_ | refine ω2 ?_ | refine ω3 ?_ | refine ω4 ?_ | refine ω5 ?_ | refine χ1 ?_ | refine κ1 ?_ | refine κ2 ?_ | refine χ2 ?_ | refine κ3 ?_ | refine ω6 ?_ | refine ω7 ?_ | refine ω9 ?_ | refine κ4 ?_ | refine κ7 ?_ | refine κ8 ?_ | refine χ3 ?_ | refine χ4 ?_ | refine κ5 ?_ | refine κ6 ?_ | refine χ5 ?_ | refine χ6 ?_ | refine χ7 ?_ | refine ω8 ?_
      refine ix k rdO (by omega) ?_
      obtain ⟨s1, s2, s3, s4⟩ := store (dif ((limbs n).getD k 0).toNat c 0)
      rw [u32lo]
      refine sto (s1.trans hcell) s2 ?_
      repeat first | refine ω1 ?_ | refine ω2 ?_ | refine ω3 ?_ | refine ω4 ?_ | refine ω5 ?_ | refine χ1 ?_ | refine κ1 ?_ | refine κ2 ?_ | refine χ2 ?_ | refine κ3 ?_ | refine ω6 ?_ | refine ω7 ?_ | refine ω9 ?_ | refine κ4 ?_ | refine κ7 ?_ | refine κ8 ?_ | refine χ3 ?_ | refine χ4 ?_ | refine κ5 ?_ | refine κ6 ?_ | refine χ5 ?_ | refine χ6 ?_ | refine χ7 ?_ | refine ω8 ?_
      refine wshr rfl rfl (by decide) rfl ?_
      repeat first | refine ω1 ?_ | refine ω2 ?_ | refine ω3 ?_ | refine ω4 ?_ | refine ω5 ?_ | refine χ1 ?_ | refine κ1 ?_ | refine κ2 ?_ | refine χ2 ?_ | refine κ3 ?_ | refine ω6 ?_ | refine ω7 ?_ | refine ω9 ?_ | refine κ4 ?_ | refine κ7 ?_ | refine κ8 ?_ | refine χ3 ?_ | refine χ4 ?_ | refine κ5 ?_ | refine κ6 ?_ | refine χ5 ?_ | refine χ6 ?_ | refine χ7 ?_ | refine ω8 ?_
      refine qround3 (k + 1) (dif ((limbs n).getD k 0).toNat c 0 / 9223372036854775808) (os ++ [UInt32.ofNat (dif ((limbs n).getD k 0).toNat c 0)]) ?_ ⟨s4, by omega, hI.step (by rw [hy0]; rfl), s3⟩ (by omega)
      rw [shr63]
      exact (by repeat' (first | exact Sub.nil | refine Sub.cons rfl ?_))
  · have hkL : k = L := by have := of_decide_eq_false h; omega
    subst hkL
    have hr3 : Rd w2 1 O os.length (Nc os) := by
      have := Rd.own (show w2.ownsRow w'.heap.size 103 1 (.slice O k k) k (Nc os) by
        have h5 := ho2
        rw [OwnN, Nat.sub_self, List.replicate_zero, List.append_nil, hol] at h5; exact h5)
      rw [hol]; exact this
    have hval : val os = n - m := by
      obtain ⟨i1, i2, i3⟩ := hI
      rw [List.take_of_length_le (show (limbs n).length ≤ k by omega), List.take_of_length_le (show (limbs m).length ≤ k by omega), val_limbs, val_limbs] at i3
      have hv := val_lt os
      rw [i1] at hv
      rcases Nat.eq_zero_or_pos c with h0 | h0
      · subst h0; omega
      · have : c = 1 := by omega
        subst this; omega
    repeat first | refine ω1 ?_ | refine ω2 ?_ | refine ω3 ?_ | refine ω4 ?_ | refine ω5 ?_ | refine χ1 ?_ | refine κ1 ?_ | refine κ2 ?_ | refine χ2 ?_ | refine κ3 ?_ | refine ω6 ?_ | refine ω7 ?_ | refine ω9 ?_ | refine κ4 ?_ | refine κ7 ?_ | refine κ8 ?_ | refine χ3 ?_ | refine χ4 ?_ | refine κ5 ?_ | refine κ6 ?_ | refine χ5 ?_ | refine χ6 ?_ | refine χ7 ?_ | refine ω8 ?_
    rw [← hol]
    refine cl (trim_any hr3 (Nat.le_refl _) (by omega)) ?_
    rintro t w4 ⟨rfl, rfl⟩
    have := trim_rd hr3 (by omega)
    rw [hval] at this ⊢
    repeat first | refine ω1 ?_ | refine ω2 ?_ | refine ω3 ?_ | refine ω4 ?_ | refine ω5 ?_ | refine χ1 ?_ | refine κ1 ?_ | refine κ2 ?_ | refine χ2 ?_ | refine κ3 ?_ | refine ω6 ?_ | refine ω7 ?_ | refine ω9 ?_ | refine κ4 ?_ | refine κ7 ?_ | refine κ8 ?_ | refine χ3 ?_ | refine χ4 ?_ | refine κ5 ?_ | refine κ6 ?_ | refine χ5 ?_ | refine χ6 ?_ | refine χ7 ?_ | refine ω8 ?_
    refine fin2 ⟨⟨_, ?_, this, fun ad _ _ e => Nat.le_trans hsz (hO ad (by injection e))⟩, hx0.trans hx2⟩
    rw [if_neg (by omega)]
theorem natSub_any {v u : Value} {n m : Nat} {w : World} (hv : NatV w v n) (hu : NatV w u m) (hln : (limbs n).length ≤ 1000) :
    Ret Try.prog 65 [v, u] w fun r w' => (∃ x, r = .tuple #[x, .int .i64 (if n < m then 19 else 0)] ∧ NatV w' x (n - m)) ∧ Ext w w' :=
  (natSubF_any hv hu hln).mono fun _ _ ⟨⟨x, h1, h2, _⟩, h3⟩ => ⟨⟨x, h1, h2⟩, h3⟩
end Go.Proofs.Ytpahjnfolbnloaa
