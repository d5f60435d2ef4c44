/- Contract of Add. -/
import Derived.Test.YtpahjnfolbnloaaNat2
set_option linter.unusedVariables false
namespace Go.Proofs.Ytpahjnfolbnloaa
open Go.RowKit Pl Go.Wk
attribute [local irreducible] WC WL QX WD WDB
theorem made1 (z : Value) (n : Nat) : (madeCells #[z] n).toList = List.replicate n z := by
  unfold madeCells
  apply List.ext_getElem
  · simp
  · intro i h1 h2
    simp [Nat.mod_one]
theorem Nc_zero (n : Nat) : List.replicate n (Value.int .u32 0) = Nc (List.replicate n 0) := by simp [Nc]
theorem Nc_set (l : List UInt32) (i : Nat) (c : UInt32) : (Nc l).set i (.int .u32 (c.toNat : Int)) = Nc (l.set i c) := by simp [Nc, List.map_set]
/-- one limb of a sum -/
theorem add_step {x y c : Nat} (hx : x < 4294967296) (hy : y < 4294967296) (hc : c ≤ 1) :
    IntKind.u64.wrap (IntKind.u64.wrap ((c : Int) + IntKind.u64.wrap (x : Int)) + IntKind.u64.wrap (y : Int)) = ((c + x + y : Nat) : Int) := by
  simp only [IntKind.wrap_u64]; omega
theorem add_step1 {x c : Nat} (hx : x < 4294967296) (hc : c ≤ 1) : IntKind.u64.wrap ((c : Int) + IntKind.u64.wrap (x : Int)) = ((c + x : Nat) : Int) := by
  simp only [IntKind.wrap_u64]; omega
theorem shr32 (n : Nat) : (n : Int).fdiv (2 ^ min (32 : Int).toNat IntKind.u64.bits) = ((n / 4294967296 : Nat) : Int) := by
  have e : (2 : Int) ^ min (32 : Int).toNat IntKind.u64.bits = ((4294967296 : Nat) : Int) := by decide
  rw [e, Int.fdiv_eq_ediv_of_nonneg _ (Int.natCast_nonneg _)]; omega
/-- what the loop holds after i limbs -/
def AddInv (a b : List UInt32) (i c : Nat) (os : List UInt32) : Prop := os.length = i ∧ c ≤ 1 ∧ val os + 4294967296 ^ i * c = val (a.take i) + val (b.take i)
theorem val_take {a : List UInt32} {i : Nat} : val (a.take (i + 1)) = val (a.take i) + 4294967296 ^ i * (a.getD i 0).toNat := by
  rcases Nat.lt_or_ge i a.length with h | h
  · have hsn : a.take (i + 1) = a.take i ++ [a.getD i 0] := by
      rw [List.take_succ_eq_append_getElem h]; simp [List.getD, List.getElem?_eq_getElem h]
    rw [hsn, val_app, List.length_take, Nat.min_eq_left (by omega)]
    simp [val]
  · rw [List.take_of_length_le (by omega), List.take_of_length_le h]
    have : a.getD i 0 = 0 := by simp [List.getD, List.getElem?_eq_none h]
    rw [this]; simp
theorem AddInv.step {a b : List UInt32} {i c : Nat} {os : List UInt32} (h : AddInv a b i c os) {s : Nat} (hs : s = c + (a.getD i 0).toNat + (b.getD i 0).toNat) : AddInv a b (i + 1) (s / 4294967296) (os ++ [UInt32.ofNat s]) := by
  obtain ⟨h1, h2, h3⟩ := h
  have hx : (a.getD i 0).toNat < 4294967296 := (a.getD i 0).toNat_lt
  have hy : (b.getD i 0).toNat < 4294967296 := (b.getD i 0).toNat_lt
  refine ⟨by simp [h1], by omega, ?_⟩
  rw [val_app, h1, val_take, val_take]
  simp only [val, UInt32.toNat_ofNat']
  have e : 4294967296 ^ (i + 1) * (s / 4294967296) = 4294967296 ^ i * (4294967296 * (s / 4294967296)) := by rw [Nat.pow_succ, Nat.mul_assoc]
  rw [e]
  have e2 : 4294967296 ^ i * (s % 2 ^ 32 + 4294967296 * 0) + 4294967296 ^ i * (4294967296 * (s / 4294967296)) = 4294967296 ^ i * s := by
    rw [← Nat.mul_add]; congr 1; omega
  have e3 : 4294967296 ^ i * s = 4294967296 ^ i * c + 4294967296 ^ i * (a.getD i 0).toNat + 4294967296 ^ i * (b.getD i 0).toNat := by
    rw [hs, Nat.mul_add, Nat.mul_add]
  omega
theorem set_mid (os : List UInt32) (r : Nat) (c : UInt32) : (os ++ List.replicate (r + 1) 0).set os.length c = (os ++ [c]) ++ List.replicate r 0 := by
  rw [List.set_append_right _ _ (Nat.le_refl _)]
  simp [List.replicate_succ]
theorem add_u64 {s y : Nat} (hs : s < 9223372036854775808) (hy : y < 4294967296) : IntKind.u64.wrap ((s : Int) + IntKind.u64.wrap (y : Int)) = ((s + y : Nat) : Int) := by
  simp only [IntKind.wrap_u64]; omega
abbrev OwnN (w : World) (base : Nat) (v : Value) (l : List UInt32) : Prop := w.ownsRow base 103 1 v l.length (Nc l)
/-- it lies in memory that was not there -/
def Fresh (w : World) (v : Value) : Prop := ∀ ad n c, v = .slice (some ad) n c → w.heap.size ≤ ad.block
theorem NatV.grown {w w' : World} {v : Value} {n : Nat} {g : Option Nat} (h : NatV w v n) (hg : w.grownBy w' g) (hf : ∀ ad m c, v = .slice (some ad) m c → some ad.block ≠ g) : NatV w' v n := by
  obtain ⟨A, c, rfl, h2, h3, h4⟩ := h
  exact ⟨A, c, rfl, h2, h3, Rd.grown h4 hg (fun ad e => Ne.symm (hf ad _ _ (by rw [e])))⟩
set_option maxRecDepth 100000 in
set_option maxHeartbeats 1000000 in
theorem natAddF_any {v u : Value} {n m : Nat} {w : World} (hv : NatV w v n) (hu : NatV w u m) (hln : (limbs n).length ≤ 1000) (hlm : (limbs m).length ≤ 1000) : Ret Try.prog 40 [v, u] w fun r w' => NatV w' r (n + m) ∧ Fresh w r ∧ Ext w w' := by
  refine enterR Try.func40 Try.ntmps40 rfl (by kernel_rfl) rfl ?_
  repeat first | refine ω1 ?_ | refine ω2 ?_ | refine ω3 ?_ | refine ω4 ?_ | refine ω5 ?_ | refine χ1 ?_ | refine κ1 ?_ | refine κ2 ?_ | refine χ2 ?_ | refine κ3 ?_ | refine ω6 ?_ | refine ω7 ?_ | refine ω9 ?_ | refine κ4 ?_ | refine κ7 ?_ | refine κ8 ?_ | refine χ3 ?_ | refine χ4 ?_ | refine κ5 ?_ | refine κ6 ?_ | refine χ5 ?_ | refine χ6 ?_ | refine χ7 ?_ | refine ω8 ?_
  refine cl (trimV hv) ?_
  rintro v' w' ⟨⟨A, rfl, ha⟩, rfl⟩
  repeat first | refine ω1 ?_ | refine ω2 ?_ | refine ω3 ?_ | refine ω4 ?_ | refine ω5 ?_ | refine χ1 ?_ | refine κ1 ?_ | refine κ2 ?_ | refine χ2 ?_ | refine κ3 ?_ | refine ω6 ?_ | refine ω7 ?_ | refine ω9 ?_ | refine κ4 ?_ | refine κ7 ?_ | refine κ8 ?_ | refine χ3 ?_ | refine χ4 ?_ | refine κ5 ?_ | refine κ6 ?_ | refine χ5 ?_ | refine χ6 ?_ | refine χ7 ?_ | refine ω8 ?_
  refine cl (trimV hu) ?_
  rintro u' w'' ⟨⟨B, rfl, hb⟩, rfl⟩
  repeat first | refine ω1 ?_ | refine ω2 ?_ | refine ω3 ?_ | refine ω4 ?_ | refine ω5 ?_ | refine χ1 ?_ | refine κ1 ?_ | refine κ2 ?_ | refine χ2 ?_ | refine κ3 ?_ | refine ω6 ?_ | refine ω7 ?_ | refine ω9 ?_ | refine κ4 ?_ | refine κ7 ?_ | refine κ8 ?_ | refine χ3 ?_ | refine χ4 ?_ | refine κ5 ?_ | refine κ6 ?_ | refine χ5 ?_ | refine χ6 ?_ | refine χ7 ?_ | refine ω8 ?_
  refine wjoin1 (fun s : (Option Addr × Nat) × (Option Addr × Nat) => [(0, .slice s.1.1 (limbs s.1.2).length (limbs s.1.2).length), (1, .slice s.2.1 (limbs s.2.2).length (limbs s.2.2).length)])
    (fun s w' => w' = w'' ∧ (limbs s.2.2).length ≤ (limbs s.1.2).length ∧ s.1.2 + s.2.2 = n + m ∧ Rd w'' 1 s.1.1 (limbs s.1.2).length (Nc (limbs s.1.2)) ∧ Rd w'' 1 s.2.1 (limbs s.2.2).length (Nc (limbs s.2.2)) ∧ (limbs s.1.2).length ≤ 1000) ?_ ?_
  · refine ci (fun h => ?_) (fun h => ?_)
    · repeat first | refine ω1 ?_ | refine ω2 ?_ | refine ω3 ?_ | refine ω4 ?_ | refine ω5 ?_ | refine χ1 ?_ | refine κ1 ?_ | refine κ2 ?_ | refine χ2 ?_ | refine κ3 ?_ | refine ω6 ?_ | refine ω7 ?_ | refine ω9 ?_ | refine κ4 ?_ | refine κ7 ?_ | refine κ8 ?_ | refine χ3 ?_ | refine χ4 ?_ | refine κ5 ?_ | refine κ6 ?_ | refine χ5 ?_ | refine χ6 ?_ | refine χ7 ?_ | refine ω8 ?_
      exact qjoin1 ((B, m), (A, n)) (by repeat' (first | exact Sub.nil | refine Sub.cons rfl ?_)) ⟨rfl, by have := of_decide_eq_true h; simp only; omega, Nat.add_comm _ _, hb, ha, hlm⟩
    · repeat first | refine ω1 ?_ | refine ω2 ?_ | refine ω3 ?_ | refine ω4 ?_ | refine ω5 ?_ | refine χ1 ?_ | refine κ1 ?_ | refine κ2 ?_ | refine χ2 ?_ | refine κ3 ?_ | refine ω6 ?_ | refine ω7 ?_ | refine ω9 ?_ | refine κ4 ?_ | refine κ7 ?_ | refine κ8 ?_ | refine χ3 ?_ | refine χ4 ?_ | refine κ5 ?_ | refine κ6 ?_ | refine χ5 ?_ | refine χ6 ?_ | refine χ7 ?_ | refine ω8 ?_
      exact qjoin1 ((A, n), (B, m)) (by repeat' (first | exact Sub.nil | refine Sub.cons rfl ?_)) ⟨rfl, by have := of_decide_eq_false h; simp only; omega, rfl, ha, hb, hln⟩
  rintro ⟨⟨A, x⟩, ⟨B, y⟩⟩ w' ⟨rfl, hle, hsum, ha, hb, hl⟩
  simp only at hle hsum ha hb hl
  generalize hL : (limbs x).length = L at *
  repeat first | refine ω1 ?_ | refine ω2 ?_ | refine ω3 ?_ | refine ω4 ?_ | refine ω5 ?_ | refine χ1 ?_ | refine κ1 ?_ | refine κ2 ?_ | refine χ2 ?_ | refine κ3 ?_ | refine ω6 ?_ | refine ω7 ?_ | refine ω9 ?_ | refine κ4 ?_ | refine κ7 ?_ | refine κ8 ?_ | refine χ3 ?_ | refine χ4 ?_ | refine κ5 ?_ | refine κ6 ?_ | refine χ5 ?_ | refine χ6 ?_ | refine χ7 ?_ | refine ω8 ?_
  refine mkn EN (L + 1) (by omega) (by unfold maxLen; omega) ?_
  intro w1 O hx1 ho1 hO
  have ho1' : OwnN w1 w'.heap.size (.slice O (L + 1) (L + 1)) ([] ++ List.replicate (L + 1) 0) := by
    have e : (madeCells (Value.int .u32 0).cells ((L + 1) * 1)).toList = Nc (List.replicate (L + 1) 0) := by rw [Nat.mul_one, ← Nc_zero]; exact made1 _ _
    rw [e] at ho1
    rw [OwnN, List.nil_append, List.length_replicate]; exact ho1
  repeat first | refine ω1 ?_ | refine ω2 ?_ | refine ω3 ?_ | refine ω4 ?_ | refine ω5 ?_ | refine χ1 ?_ | refine κ1 ?_ | refine κ2 ?_ | refine χ2 ?_ | refine κ3 ?_ | refine ω6 ?_ | refine ω7 ?_ | refine ω9 ?_ | refine κ4 ?_ | refine κ7 ?_ | refine κ8 ?_ | refine χ3 ?_ | refine χ4 ?_ | refine κ5 ?_ | refine κ6 ?_ | refine χ5 ?_ | refine χ6 ?_ | refine χ7 ?_ | refine ω8 ?_
  refine wloop3 (fun (k c : Nat) (os : List UInt32) => [(0, .slice A L L), (1, .slice B (limbs y).length (limbs y).length), (5, .slice O (L + 1) (L + 1)), (6, .int .u64 (c : Int)), (24, .int .i64 (L : Int)), (25, .int .i64 (k : Int))])
    (fun k c os w2 => Ext w' w2 ∧ k ≤ L ∧ AddInv (limbs x) (limbs y) k c os ∧ OwnN w2 w'.heap.size (.slice O (L + 1) (L + 1)) (os ++ List.replicate (L + 1 - k) 0)) (fun k _ _ => L - k) 0 0 [] (by repeat' (first | exact Sub.nil | refine Sub.cons rfl ?_))
    ⟨hx1, Nat.zero_le _, ⟨rfl, by omega, rfl⟩, ho1'⟩ ?_
  rintro k c os w2 ⟨hx2, hk, hI, ho2⟩
  have hol := hI.1
  have hc1 := hI.2.1
  have ha2 := ha.ext hx2
  have hb2 := hb.ext hx2
  repeat first | refine ω1 ?_ | refine ω2 ?_ | refine ω3 ?_ | refine ω4 ?_ | refine ω5 ?_ | refine χ1 ?_ | refine κ1 ?_ | refine κ2 ?_ | refine χ2 ?_ | refine κ3 ?_ | refine ω6 ?_ | refine ω7 ?_ | refine ω9 ?_ | refine κ4 ?_ | refine κ7 ?_ | refine κ8 ?_ | refine χ3 ?_ | refine χ4 ?_ | refine κ5 ?_ | refine κ6 ?_ | refine χ5 ?_ | refine χ6 ?_ | refine χ7 ?_ | refine ω8 ?_
  refine ci (fun h => ?_) (fun h => ?_)
  · have hlt : k < L := by have := of_decide_eq_true h; omega
    have hlx : ((limbs x).getD k 0).toNat < 4294967296 := ((limbs x).getD k 0).toNat_lt
    have hly : ((limbs y).getD k 0).toNat < 4294967296 := ((limbs y).getD k 0).toNat_lt
    have hlen : (os ++ List.replicate (L + 1 - k) (0 : UInt32)).length = L + 1 := by simp; omega
    have store : ∀ s : Nat, w2.cell? (adr O k) = (Nc (os ++ List.replicate (L + 1 - k) 0))[k]? ∧ w2.frozen? (adr O k) = false ∧
        OwnN (w2.setCell (adr O k) (.int .u32 ((UInt32.ofNat s).toNat : Int))) w'.heap.size (.slice O (L + 1) (L + 1)) ((os ++ [UInt32.ofNat s]) ++ List.replicate (L + 1 - (k + 1)) 0) ∧ Ext w' (w2.setCell (adr O k) (.int .u32 ((UInt32.ofNat s).toNat : Int))) := fun s => by
      have ho3 := ho2
      rw [OwnN, hlen] at ho3
      obtain ⟨s1, s2, s3, s4, s5⟩ := own_store ho3 (q := k) (by omega) (.int .u32 ((UInt32.ofNat s).toNat : Int))
      refine ⟨s1, s2, ?_, hx2.setCell s4 _⟩
      rw [Nc_set, show L + 1 - k = (L - k) + 1 by omega] at s3
      have e := set_mid os (L - k) (UInt32.ofNat s)
      rw [hol] at e
      rw [e] at s3
      rw [OwnN, show L + 1 - (k + 1) = L - k by omega]
      have e2 : ((os ++ [UInt32.ofNat s]) ++ List.replicate (L - k) (0 : UInt32)).length = L + 1 := by simp; omega
      rw [e2]; exact s3
    have hcell : (Nc (os ++ List.replicate (L + 1 - k) 0))[k]? = some (.int .u32 (((os ++ List.replicate (L + 1 - k) 0).getD k 0).toNat : Int)) := Nc_get (by rw [hlen]; omega)
    have rdO : Rd w2 1 O (L + 1) (Nc (os ++ List.replicate (L + 1 - k) 0)) := by have h5 := ho2; rw [OwnN, hlen] at h5; exact Rd.own h5
    repeat first | refine ω1 ?_ | refine ω2 ?_ | refine ω3 ?_ | refine ω4 ?_ | refine ω5 ?_ | refine χ1 ?_ | refine κ1 ?_ | refine κ2 ?_ | refine χ2 ?_ | refine κ3 ?_ | refine ω6 ?_ | refine ω7 ?_ | refine ω9 ?_ | refine κ4 ?_ | refine κ7 ?_ | refine κ8 ?_ | refine χ3 ?_ | refine χ4 ?_ | refine κ5 ?_ | refine κ6 ?_ | refine χ5 ?_ | refine χ6 ?_ | refine χ7 ?_ | refine ω8 ?_
    refine ix k ha2 hlt ?_
    repeat first | refine ω1 ?_ | refine ω2 ?_ | refine ω3 ?_ | refine ω4 ?_ | refine ω5 ?_ | refine χ1 ?_ | refine κ1 ?_ | refine κ2 ?_ | refine χ2 ?_ | refine κ3 ?_ | refine ω6 ?_ | refine ω7 ?_ | refine ω9 ?_ | refine κ4 ?_ | refine κ7 ?_ | refine κ8 ?_ | refine χ3 ?_ | refine χ4 ?_ | refine κ5 ?_ | refine κ6 ?_ | refine χ5 ?_ | refine χ6 ?_ | refine χ7 ?_ | refine ω8 ?_
    refine ld (ha2.cell (Nc_get (show k < (limbs x).length by omega))) ?_
    repeat first | refine ω1 ?_ | refine ω2 ?_ | refine ω3 ?_ | refine ω4 ?_ | refine ω5 ?_ | refine χ1 ?_ | refine κ1 ?_ | refine κ2 ?_ | refine χ2 ?_ | refine κ3 ?_ | refine ω6 ?_ | refine ω7 ?_ | refine ω9 ?_ | refine κ4 ?_ | refine κ7 ?_ | refine κ8 ?_ | refine χ3 ?_ | refine χ4 ?_ | refine κ5 ?_ | refine κ6 ?_ | refine χ5 ?_ | refine χ6 ?_ | refine χ7 ?_ | refine ω8 ?_
    rw [add_step1 hlx hc1]
    refine ci (fun h => ?_) (fun h => ?_)
    · have hlt2 : k < (limbs y).length := by have := of_decide_eq_true h; omega
      repeat first | refine ω1 ?_ | refine ω2 ?_ | refine ω3 ?_ | refine ω4 ?_ | refine ω5 ?_ | refine χ1 ?_ | refine κ1 ?_ | refine κ2 ?_ | refine χ2 ?_ | refine κ3 ?_ | refine ω6 ?_ | refine ω7 ?_ | refine ω9 ?_ | refine κ4 ?_ | refine κ7 ?_ | refine κ8 ?_ | refine χ3 ?_ | refine χ4 ?_ | refine κ5 ?_ | refine κ6 ?_ | refine χ5 ?_ | refine χ6 ?_ | refine χ7 ?_ | refine ω8 ?_
      refine ix k hb2 hlt2 ?_
      repeat first | refine ω1 ?_ | refine ω2 ?_ | refine ω3 ?_ | refine ω4 ?_ | refine ω5 ?_ | refine χ1 ?_ | refine κ1 ?_ | refine κ2 ?_ | refine χ2 ?_ | refine κ3 ?_ | refine ω6 ?_ | refine ω7 ?_ | refine ω9 ?_ | refine κ4 ?_ | refine κ7 ?_ | refine κ8 ?_ | refine χ3 ?_ | refine χ4 ?_ | refine κ5 ?_ | refine κ6 ?_ | refine χ5 ?_ | refine χ6 ?_ | refine χ7 ?_ | refine ω8 ?_
      refine ld (hb2.cell (Nc_get hlt2)) ?_
      repeat first | refine ω1 ?_ | refine ω2 ?_ | refine ω3 ?_ | refine ω4 ?_ | refine ω5 ?_ | refine χ1 ?_ | refine κ1 ?_ | refine κ2 ?_ | refine χ2 ?_ | refine κ3 ?_ | refine ω6 ?_ | refine ω7 ?_ | refine ω9 ?_ | refine κ4 ?_ | refine κ7 ?_ | refine κ8 ?_ | refine χ3 ?_ | refine χ4 ?_ | refine κ5 ?_ | refine κ6 ?_ | refine χ5 ?_ | refine χ6 ?_ | refine χ7 ?_ | refine ω8 ?_
      refine ix k rdO (by omega) ?_
      obtain ⟨s1, s2, s3, s4⟩ := store (c + ((limbs x).getD k 0).toNat + ((limbs y).getD k 0).toNat)
      rw [add_u64 (by omega) hly, u32lo]
      refine sto (s1.trans hcell) s2 ?_
      repeat first | refine ω1 ?_ | refine ω2 ?_ | refine ω3 ?_ | refine ω4 ?_ | refine ω5 ?_ | refine χ1 ?_ | refine κ1 ?_ | refine κ2 ?_ | refine χ2 ?_ | refine κ3 ?_ | refine ω6 ?_ | refine ω7 ?_ | refine ω9 ?_ | refine κ4 ?_ | refine κ7 ?_ | refine κ8 ?_ | refine χ3 ?_ | refine χ4 ?_ | refine κ5 ?_ | refine κ6 ?_ | refine χ5 ?_ | refine χ6 ?_ | refine χ7 ?_ | refine ω8 ?_
      refine wshr rfl rfl (by decide) rfl ?_
      repeat first | refine ω1 ?_ | refine ω2 ?_ | refine ω3 ?_ | refine ω4 ?_ | refine ω5 ?_ | refine χ1 ?_ | refine κ1 ?_ | refine κ2 ?_ | refine χ2 ?_ | refine κ3 ?_ | refine ω6 ?_ | refine ω7 ?_ | refine ω9 ?_ | refine κ4 ?_ | refine κ7 ?_ | refine κ8 ?_ | refine χ3 ?_ | refine χ4 ?_ | refine κ5 ?_ | refine κ6 ?_ | refine χ5 ?_ | refine χ6 ?_ | refine χ7 ?_ | refine ω8 ?_
      refine qround3 (k + 1) ((c + ((limbs x).getD k 0).toNat + ((limbs y).getD k 0).toNat) / 4294967296) (os ++ [UInt32.ofNat (c + ((limbs x).getD k 0).toNat + ((limbs y).getD k 0).toNat)]) ?_ ⟨s4, by omega, hI.step rfl, s3⟩ (by omega)
      rw [shr32]
      exact (by repeat' (first | exact Sub.nil | refine Sub.cons rfl ?_))
    · have hge : (limbs y).length ≤ k := by have := of_decide_eq_false h; omega
      have hy0 : (limbs y).getD k 0 = 0 := by simp [List.getD, List.getElem?_eq_none hge]
      repeat first | refine ω1 ?_ | refine ω2 ?_ | refine ω3 ?_ | refine ω4 ?_ | refine ω5 ?_ | refine χ1 ?_ | refine κ1 ?_ | refine κ2 ?_ | refine χ2 ?_ | refine κ3 ?_ | refine ω6 ?_ | refine ω7 ?_ | refine ω9 ?_ | refine κ4 ?_ | refine κ7 ?_ | refine κ8 ?_ | refine χ3 ?_ | refine χ4 ?_ | refine κ5 ?_ | refine κ6 ?_ | refine χ5 ?_ | refine χ6 ?_ | refine χ7 ?_ | refine ω8 ?_
      refine ix k rdO (by omega) ?_
      obtain ⟨s1, s2, s3, s4⟩ := store (c + ((limbs x).getD k 0).toNat)
      rw [u32lo]
      refine sto (s1.trans hcell) s2 ?_
      repeat first | refine ω1 ?_ | refine ω2 ?_ | refine ω3 ?_ | refine ω4 ?_ | refine ω5 ?_ | refine χ1 ?_ | refine κ1 ?_ | refine κ2 ?_ | refine χ2 ?_ | refine κ3 ?_ | refine ω6 ?_ | refine ω7 ?_ | refine ω9 ?_ | refine κ4 ?_ | refine κ7 ?_ | refine κ8 ?_ | refine χ3 ?_ | refine χ4 ?_ | refine κ5 ?_ | refine κ6 ?_ | refine χ5 ?_ | refine χ6 ?_ | refine χ7 ?_ | refine ω8 ?_
      refine wshr rfl rfl (by decide) rfl ?_
      repeat first | refine ω1 ?_ | refine ω2 ?_ | refine ω3 ?_ | refine ω4 ?_ | refine ω5 ?_ | refine χ1 ?_ | refine κ1 ?_ | refine κ2 ?_ | refine χ2 ?_ | refine κ3 ?_ | refine ω6 ?_ | refine ω7 ?_ | refine ω9 ?_ | refine κ4 ?_ | refine κ7 ?_ | refine κ8 ?_ | refine χ3 ?_ | refine χ4 ?_ | refine κ5 ?_ | refine κ6 ?_ | refine χ5 ?_ | refine χ6 ?_ | refine χ7 ?_ | refine ω8 ?_
      refine qround3 (k + 1) ((c + ((limbs x).getD k 0).toNat) / 4294967296) (os ++ [UInt32.ofNat (c + ((limbs x).getD k 0).toNat)]) ?_ ⟨s4, by omega, hI.step (by rw [hy0]; rfl), s3⟩ (by omega)
      rw [shr32]
      exact (by repeat' (first | exact Sub.nil | refine Sub.cons rfl ?_))
  · have hkL : k = L := by have := of_decide_eq_false h; omega
    subst hkL
    have hlen : (os ++ List.replicate (k + 1 - k) (0 : UInt32)).length = k + 1 := by simp; omega
    have ho3 := ho2
    rw [OwnN, hlen] at ho3
    have hcell : (Nc (os ++ List.replicate (k + 1 - k) 0))[k]? = some (.int .u32 (((os ++ List.replicate (k + 1 - k) 0).getD k 0).toNat : Int)) := Nc_get (by rw [hlen]; omega)
    obtain ⟨s1, s2, s3, s4, s5⟩ := own_store ho3 (q := k) (by omega) (.int .u32 ((UInt32.ofNat c).toNat : Int))
    rw [Nc_set, show k + 1 - k = 0 + 1 by omega] at s3
    have e := set_mid os 0 (UInt32.ofNat c)
    rw [hol, List.replicate_zero, List.append_nil] at e
    rw [e] at s3
    have hx3 := hx2.setCell s4 (.int .u32 ((UInt32.ofNat c).toNat : Int))
    repeat first | refine ω1 ?_ | refine ω2 ?_ | refine ω3 ?_ | refine ω4 ?_ | refine ω5 ?_ | refine χ1 ?_ | refine κ1 ?_ | refine κ2 ?_ | refine χ2 ?_ | refine κ3 ?_ | refine ω6 ?_ | refine ω7 ?_ | refine ω9 ?_ | refine κ4 ?_ | refine κ7 ?_ | refine κ8 ?_ | refine χ3 ?_ | refine χ4 ?_ | refine κ5 ?_ | refine κ6 ?_ | refine χ5 ?_ | refine χ6 ?_ | refine χ7 ?_ | refine ω8 ?_
    refine ix k (Rd.own ho3) (by omega) ?_
    rw [u32lo]
    refine sto (s1.trans hcell) s2 ?_
    repeat first | refine ω1 ?_ | refine ω2 ?_ | refine ω3 ?_ | refine ω4 ?_ | refine ω5 ?_ | refine χ1 ?_ | refine κ1 ?_ | refine κ2 ?_ | refine χ2 ?_ | refine κ3 ?_ | refine ω6 ?_ | refine ω7 ?_ | refine ω9 ?_ | refine κ4 ?_ | refine κ7 ?_ | refine κ8 ?_ | refine χ3 ?_ | refine χ4 ?_ | refine κ5 ?_ | refine κ6 ?_ | refine χ5 ?_ | refine χ6 ?_ | refine χ7 ?_ | refine ω8 ?_
    have hl3 : (os ++ [UInt32.ofNat c]).length = k + 1 := by simp; omega
    have hr3 := Rd.own s3
    have hval : val (os ++ [UInt32.ofNat c]) = n + m := by
      obtain ⟨i1, i2, i3⟩ := hI
      rw [val_app, i1]
      simp only [val, UInt32.toNat_ofNat']
      rw [← hsum, ← val_limbs x, ← val_limbs y, ← List.take_of_length_le (show (limbs x).length ≤ k by omega), ← List.take_of_length_le (show (limbs y).length ≤ k by omega), ← i3, show c % 2 ^ 32 + 4294967296 * 0 = c by omega]
    rw [← hl3] at hr3 ⊢
    refine cl (trim_any hr3 (Nat.le_refl _) (by omega)) ?_
    rintro t w4 ⟨rfl, rfl⟩
    have := trim_rd hr3 (by omega)
    rw [hval] at this ⊢
    repeat first | refine ω1 ?_ | refine ω2 ?_ | refine ω3 ?_ | refine ω4 ?_ | refine ω5 ?_ | refine χ1 ?_ | refine κ1 ?_ | refine κ2 ?_ | refine χ2 ?_ | refine κ3 ?_ | refine ω6 ?_ | refine ω7 ?_ | refine ω9 ?_ | refine κ4 ?_ | refine κ7 ?_ | refine κ8 ?_ | refine χ3 ?_ | refine χ4 ?_ | refine κ5 ?_ | refine κ6 ?_ | refine χ5 ?_ | refine χ6 ?_ | refine χ7 ?_ | refine ω8 ?_
    exact fin1 ⟨this, fun ad _ _ e => hO ad (by injection e), hx3⟩
theorem natAdd_any {v u : Value} {n m : Nat} {w : World} (hv : NatV w v n) (hu : NatV w u m) (hln : (limbs n).length ≤ 1000) (hlm : (limbs m).length ≤ 1000) : Ret Try.prog 40 [v, u] w fun r w' => NatV w' r (n + m) ∧ Ext w w' :=
  (natAddF_any hv hu hln hlm).mono fun _ _ h => ⟨h.1, h.2.2⟩
end Go.Proofs.Ytpahjnfolbnloaa
