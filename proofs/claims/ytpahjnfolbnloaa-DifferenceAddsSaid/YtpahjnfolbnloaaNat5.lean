/- Naturals that lie off some blocks; contracts of Of, Norm, Add, Sub that say where the result lies; halving. -/
import Derived.Test.YtpahjnfolbnloaaNat4
set_option linter.unusedVariables false
namespace Go.Proofs.Ytpahjnfolbnloaa
open Go.RowKit Pl Go.Wk
attribute [local irreducible] WC WL QX WD WDB
/-- nothing old has turned but for some blocks -/
structure GrN (N : Nat → Prop) (w w' : World) : Prop where
  os : w'.os = w.os
  tape : w'.tape = w.tape
  output : w'.output = w.output
  size : w.heap.size ≤ w'.heap.size
  block : ∀ k, k < w.heap.size → ¬ N k → w'.heap[k]? = w.heap[k]?
theorem GrN.ext {N : Nat → Prop} {w w' : World} (h : Ext w w') : GrN N w w' := ⟨h.os, h.tape, h.output, h.size, fun k hk _ => h.block k hk⟩
theorem GrN.trans {N : Nat → Prop} {a b c : World} (h : GrN N a b) (k : GrN N b c) : GrN N a c :=
  ⟨k.os.trans h.os, k.tape.trans h.tape, k.output.trans h.output, Nat.le_trans h.size k.size, fun i hi hn => (k.block i (Nat.lt_of_lt_of_le hi h.size) hn).trans (h.block i hi hn)⟩
theorem GrN.by {N : Nat → Prop} {w w' : World} {g : Option Nat} (h : w.grownBy w' g) (hg : ∀ k, g = some k → N k) : GrN N w w' := ⟨h.os, h.tape, h.output, h.size, fun k hk hn => h.block k hk (fun e => hn (hg k e.symm))⟩
theorem GrN.set {N : Nat → Prop} {w : World} {p : Addr} (u : Value) (hp : N p.block) : GrN N w (w.setCell p u) := by
  have hx : Below 0 w (w.setCell p u) := Below.setCell (Below.refl 0 w) (Nat.zero_le _) u
  exact ⟨hx.os, hx.tape, hx.output, hx.size, fun k hk hn => Below.heap_setCell w p u k (fun e => hn (e ▸ hp))⟩
theorem GrN.old {N : Nat → Prop} {a w w' : World} (h : GrN N w w') (hx : Ext a w) (hN : ∀ k, N k → a.heap.size ≤ k) : Ext a w' :=
  ⟨h.os.trans hx.os, h.tape.trans hx.tape, h.output.trans hx.output, Nat.le_trans hx.size h.size, fun k hk => (h.block k (Nat.lt_of_lt_of_le hk hx.size) (fun hn => by have := hN k hn; omega)).trans (hx.block k hk)⟩
theorem rdGr {N : Nat → Prop} {w w' : World} {sz n : Nat} {A : Option Addr} {cs : List Value} (h : Rd w sz A n cs) (hg : GrN N w w') (hA : ∀ ad, A = some ad → ¬ N ad.block) : Rd w' sz A n cs :=
  ⟨h.1, fun h0 => by
    obtain ⟨ad, e, hb, hc⟩ := h.2 h0
    refine ⟨ad, e, Nat.lt_of_lt_of_le hb hg.size, fun j u hu => ?_⟩
    rw [← hc j u hu]
    exact World.cell?_of_block (by rw [add_block]; exact hg.block _ hb (hA ad e))⟩
theorem blkGr {N : Nat → Prop} {w w' : World} {g : Nat} {t : TypeId} {cs : List Value} (h : Blk w g t cs) (hg : GrN N w w') (hn : ¬ N g) : Blk w' g t cs := (hg.block g h.lt hn).trans h
/-- a natural number that lies off some blocks -/
def NatX (w : World) (N : Nat → Prop) (v : Value) (n : Nat) : Prop := NatV w v n ∧ ∀ ad m c, v = .slice (some ad) m c → ¬ N ad.block
theorem NatX.ext {N : Nat → Prop} {w w' : World} {v : Value} {n : Nat} (h : NatX w N v n) (hx : Ext w w') : NatX w' N v n := ⟨h.1.ext hx, h.2⟩
theorem NatX.gr {N : Nat → Prop} {w w' : World} {v : Value} {n : Nat} (h : NatX w N v n) (hg : GrN N w w') : NatX w' N v n := by
  obtain ⟨⟨A, c, rfl, h2, h3, h4⟩, h5⟩ := h
  exact ⟨⟨A, c, rfl, h2, h3, rdGr h4 hg (fun ad e => h5 ad _ _ (by rw [e]))⟩, h5⟩
theorem Fresh.x {N : Nat → Prop} {w w' : World} {v : Value} {n : Nat} (h : Fresh w v) (hn : NatV w' v n) (hN : ∀ k, N k → k < w.heap.size) : NatX w' N v n :=
  ⟨hn, fun ad m c e hk => by have := h ad m c e; have := hN _ hk; omega⟩
/-- a copy of a natural number is the call's own -/
theorem cloneNatO {A : Option Addr} {n c : Nat} {cs : List Value} {w : World} (hr : Rd w 1 A n cs) (h1 : ∀ u ∈ cs, u.oneCell' = true) (hb : n * 4 ≤ 140737488355328) :
    Ret Try.prog 87 [.slice A n c] w fun v w' => w'.ownsRow w.heap.size 103 1 v n cs ∧ Ext w w' := by
  refine enterR Try.func87 Try.ntmps87 rfl (by kernel_rfl) rfl ?_
  repeat first | refine ω1 ?_ | refine ω2 ?_ | refine ω3 ?_ | refine ω4 ?_ | refine ω5 ?_ | refine χ1 ?_ | refine κ1 ?_ | refine κ2 ?_ | refine χ2 ?_ | refine κ3 ?_ | refine ω6 ?_ | refine ω7 ?_ | refine ω9 ?_ | refine κ4 ?_ | refine κ7 ?_ | refine κ8 ?_ | refine χ3 ?_ | refine χ4 ?_ | refine κ5 ?_ | refine κ6 ?_ | refine χ5 ?_ | refine χ6 ?_ | refine χ7 ?_ | refine ω8 ?_
  refine snil ?_
  repeat first | refine ω1 ?_ | refine ω2 ?_ | refine ω3 ?_ | refine ω4 ?_ | refine ω5 ?_ | refine χ1 ?_ | refine κ1 ?_ | refine κ2 ?_ | refine χ2 ?_ | refine κ3 ?_ | refine ω6 ?_ | refine ω7 ?_ | refine ω9 ?_ | refine κ4 ?_ | refine κ7 ?_ | refine κ8 ?_ | refine χ3 ?_ | refine χ4 ?_ | refine κ5 ?_ | refine κ6 ?_ | refine χ5 ?_ | refine χ6 ?_ | refine χ7 ?_ | refine ω8 ?_
  refine ci (fun h => ?_) (fun h => ?_)
  · have hA : A = none := by simpa using h
    subst hA
    have hn : n = 0 := by
      rcases Nat.eq_zero_or_pos n with h0 | h0
      · exact h0
      · obtain ⟨ad, h2, _⟩ := hr.isome h0 (by omega); cases h2
    subst hn
    have hcs : cs = [] := List.eq_nil_of_length_eq_zero (by rw [hr.len])
    subst hcs
    repeat first | refine ω1 ?_ | refine ω2 ?_ | refine ω3 ?_ | refine ω4 ?_ | refine ω5 ?_ | refine χ1 ?_ | refine κ1 ?_ | refine κ2 ?_ | refine χ2 ?_ | refine κ3 ?_ | refine ω6 ?_ | refine ω7 ?_ | refine ω9 ?_ | refine κ4 ?_ | refine κ7 ?_ | refine κ8 ?_ | refine χ3 ?_ | refine χ4 ?_ | refine κ5 ?_ | refine κ6 ?_ | refine χ5 ?_ | refine χ6 ?_ | refine χ7 ?_ | refine ω8 ?_
    exact fin1 ⟨own_nil _ _ _ _, Ext.refl w⟩
  · repeat first | refine ω1 ?_ | refine ω2 ?_ | refine ω3 ?_ | refine ω4 ?_ | refine ω5 ?_ | refine χ1 ?_ | refine κ1 ?_ | refine κ2 ?_ | refine χ2 ?_ | refine κ3 ?_ | refine ω6 ?_ | refine ω7 ?_ | refine ω9 ?_ | refine κ4 ?_ | refine κ7 ?_ | refine κ8 ?_ | refine χ3 ?_ | refine χ4 ?_ | refine κ5 ?_ | refine κ6 ?_ | refine χ5 ?_ | refine χ6 ?_ | refine χ7 ?_ | refine ω8 ?_
    refine bsl bs0Nat ?_
    intro w1 b hx1 hb1 hk1
    repeat first | refine ω1 ?_ | refine ω2 ?_ | refine ω3 ?_ | refine ω4 ?_ | refine ω5 ?_ | refine χ1 ?_ | refine κ1 ?_ | refine κ2 ?_ | refine χ2 ?_ | refine κ3 ?_ | refine ω6 ?_ | refine ω7 ?_ | refine ω9 ?_ | refine κ4 ?_ | refine κ7 ?_ | refine κ8 ?_ | refine χ3 ?_ | refine χ4 ?_ | refine κ5 ?_ | refine κ6 ?_ | refine χ5 ?_ | refine χ6 ?_ | refine χ7 ?_ | refine ω8 ?_
    refine apo hx1 EN (hk1.own (n := 0) hb1 rfl (Nat.zero_le _)) (hr.ext hx1) h1 (by unfold maxLen; omega) (by omega) ?_
    intro v2 w2 ho2 hx2 _ _
    repeat first | refine ω1 ?_ | refine ω2 ?_ | refine ω3 ?_ | refine ω4 ?_ | refine ω5 ?_ | refine χ1 ?_ | refine κ1 ?_ | refine κ2 ?_ | refine χ2 ?_ | refine κ3 ?_ | refine ω6 ?_ | refine ω7 ?_ | refine ω9 ?_ | refine κ4 ?_ | refine κ7 ?_ | refine κ8 ?_ | refine χ3 ?_ | refine χ4 ?_ | refine κ5 ?_ | refine κ6 ?_ | refine χ5 ?_ | refine χ6 ?_ | refine χ7 ?_ | refine ω8 ?_
    rw [Nat.zero_add, List.nil_append] at ho2
    exact fin1 ⟨ho2, hx2⟩
set_option maxRecDepth 100000 in
theorem natNormF_any {v : Value} {n : Nat} {w : World} (hv : NatV w v n) (hs : (limbs n).length ≤ 1000) : Ret Try.prog 62 [v] w fun r w' => NatV w' r n ∧ Fresh w r ∧ Ext w w' := by
  refine enterR Try.func62 Try.ntmps62 rfl (by kernel_rfl) rfl ?_
  repeat first | refine ω1 ?_ | refine ω2 ?_ | refine ω3 ?_ | refine ω4 ?_ | refine ω5 ?_ | refine χ1 ?_ | refine κ1 ?_ | refine κ2 ?_ | refine χ2 ?_ | refine κ3 ?_ | refine ω6 ?_ | refine ω7 ?_ | refine ω9 ?_ | refine κ4 ?_ | refine κ7 ?_ | refine κ8 ?_ | refine χ3 ?_ | refine χ4 ?_ | refine κ5 ?_ | refine κ6 ?_ | refine χ5 ?_ | refine χ6 ?_ | refine χ7 ?_ | refine ω8 ?_
  refine cl (trimV hv) ?_
  rintro v' w' ⟨⟨A, rfl, ha⟩, rfl⟩
  repeat first | refine ω1 ?_ | refine ω2 ?_ | refine ω3 ?_ | refine ω4 ?_ | refine ω5 ?_ | refine χ1 ?_ | refine κ1 ?_ | refine κ2 ?_ | refine χ2 ?_ | refine κ3 ?_ | refine ω6 ?_ | refine ω7 ?_ | refine ω9 ?_ | refine κ4 ?_ | refine κ7 ?_ | refine κ8 ?_ | refine χ3 ?_ | refine χ4 ?_ | refine κ5 ?_ | refine κ6 ?_ | refine χ5 ?_ | refine χ6 ?_ | refine χ7 ?_ | refine ω8 ?_
  refine cl (cloneNatO ha (Nc_one _) (by omega)) ?_
  rintro v' w1 ⟨ho, hx⟩
  obtain ⟨A', c', rfl, hc, hf⟩ := own_form ho
  repeat first | refine ω1 ?_ | refine ω2 ?_ | refine ω3 ?_ | refine ω4 ?_ | refine ω5 ?_ | refine χ1 ?_ | refine κ1 ?_ | refine κ2 ?_ | refine χ2 ?_ | refine κ3 ?_ | refine ω6 ?_ | refine ω7 ?_ | refine ω9 ?_ | refine κ4 ?_ | refine κ7 ?_ | refine κ8 ?_ | refine χ3 ?_ | refine χ4 ?_ | refine κ5 ?_ | refine κ6 ?_ | refine χ5 ?_ | refine χ6 ?_ | refine χ7 ?_ | refine ω8 ?_
  exact fin1 ⟨⟨A', c', rfl, hc, by omega, Rd.own ho⟩, fun ad m c e => by injection e with e; subst e; exact (hf ad.block rfl).1, hx⟩
set_option maxRecDepth 100000 in
theorem natOfF_any (n : Nat) (h : n < 18446744073709551616) (w : World) : Ret Try.prog 55 [.int .u64 (n : Int)] w fun v w' => NatV w' v n ∧ Fresh w v ∧ Ext w w' := by
  refine enterR Try.func55 Try.ntmps55 rfl (by kernel_rfl) rfl ?_
  repeat first | refine ω1 ?_ | refine ω2 ?_ | refine ω3 ?_ | refine ω4 ?_ | refine ω5 ?_ | refine χ1 ?_ | refine κ1 ?_ | refine κ2 ?_ | refine χ2 ?_ | refine κ3 ?_ | refine ω6 ?_ | refine ω7 ?_ | refine ω9 ?_ | refine κ4 ?_ | refine κ7 ?_ | refine κ8 ?_ | refine χ3 ?_ | refine χ4 ?_ | refine κ5 ?_ | refine κ6 ?_ | refine χ5 ?_ | refine χ6 ?_ | refine χ7 ?_ | refine ω8 ?_
  refine wshr rfl rfl (by decide) rfl ?_
  repeat first | refine ω1 ?_ | refine ω2 ?_ | refine ω3 ?_ | refine ω4 ?_ | refine ω5 ?_ | refine χ1 ?_ | refine κ1 ?_ | refine κ2 ?_ | refine χ2 ?_ | refine κ3 ?_ | refine ω6 ?_ | refine ω7 ?_ | refine ω9 ?_ | refine κ4 ?_ | refine κ7 ?_ | refine κ8 ?_ | refine χ3 ?_ | refine χ4 ?_ | refine κ5 ?_ | refine κ6 ?_ | refine χ5 ?_ | refine χ6 ?_ | refine χ7 ?_ | refine ω8 ?_
  refine bsl (bsN _ _) ?_
  intro w1 b hx1 hb1 hk1
  rw [u32lo, u32hi] at hk1
  have hr : Rd w1 1 (some ⟨b, 0, none⟩) 2 (Nc [UInt32.ofNat n, UInt32.ofNat (n / 4294967296)]) := hk1.rd rfl
  repeat first | refine ω1 ?_ | refine ω2 ?_ | refine ω3 ?_ | refine ω4 ?_ | refine ω5 ?_ | refine χ1 ?_ | refine κ1 ?_ | refine κ2 ?_ | refine χ2 ?_ | refine κ3 ?_ | refine ω6 ?_ | refine ω7 ?_ | refine ω9 ?_ | refine κ4 ?_ | refine κ7 ?_ | refine κ8 ?_ | refine χ3 ?_ | refine χ4 ?_ | refine κ5 ?_ | refine κ6 ?_ | refine χ5 ?_ | refine χ6 ?_ | refine χ7 ?_ | refine ω8 ?_
  refine cl (trim_any (l := [UInt32.ofNat n, UInt32.ofNat (n / 4294967296)]) (c := 2) hr (Nat.le_refl _) (by simp)) ?_
  rintro v w2 ⟨rfl, rfl⟩
  have := trim_rd hr (by simp)
  rw [val_two n h] at this ⊢
  repeat first | refine ω1 ?_ | refine ω2 ?_ | refine ω3 ?_ | refine ω4 ?_ | refine ω5 ?_ | refine χ1 ?_ | refine κ1 ?_ | refine κ2 ?_ | refine χ2 ?_ | refine κ3 ?_ | refine ω6 ?_ | refine ω7 ?_ | refine ω9 ?_ | refine κ4 ?_ | refine κ7 ?_ | refine κ8 ?_ | refine χ3 ?_ | refine χ4 ?_ | refine κ5 ?_ | refine κ6 ?_ | refine χ5 ?_ | refine χ6 ?_ | refine χ7 ?_ | refine ω8 ?_
  exact fin1 ⟨this, fun ad _ _ e => by injection e with e; injection e with e; subst e; exact hb1, hx1⟩
theorem limbs_one {n : Nat} (h0 : n ≠ 0) (h : n < 4294967296) : limbs n = [UInt32.ofNat n] := by
  rw [limbs_pos h0, show n / 4294967296 = 0 by omega, limbs_0]
theorem or0 (n : Nat) (h : n < 18446744073709551616) : bits .or .u64 (IntKind.u64.wrap (0 * 2 ^ min (32 : Int).toNat IntKind.u64.bits)) (n : Int) = (n : Int) := by
  have e : IntKind.u64.wrap (0 * 2 ^ min (32 : Int).toNat IntKind.u64.bits) = ((0 : Nat) : Int) := by rw [Int.zero_mul]; decide
  rw [e, u64_or_nat 0 n (by omega) (by omega), Nat.zero_or]
set_option maxRecDepth 100000 in
theorem divDigit_any {A : Option Addr} {c : Nat} {x : UInt32} {base : Nat} {w : World} (ho : OwnN w base (.slice A 1 c) [x]) : Ret Try.prog 95 [.slice A 1 c, .int .u32 2] w fun r w' => r = .int .u32 ((x.toNat % 2 : Nat) : Int) ∧ OwnN w' base (.slice A 1 c) [UInt32.ofNat (x.toNat / 2)] ∧ w.grownBy w' (Value.slice A 1 c).ownBlock := by
  have hx : x.toNat < 4294967296 := x.toNat_lt
  refine enterR Try.func95 Try.ntmps95 rfl (by kernel_rfl) rfl ?_
  repeat first | refine ω1 ?_ | refine ω2 ?_ | refine ω3 ?_ | refine ω4 ?_ | refine ω5 ?_ | refine χ1 ?_ | refine κ1 ?_ | refine κ2 ?_ | refine χ2 ?_ | refine κ3 ?_ | refine ω6 ?_ | refine ω7 ?_ | refine ω9 ?_ | refine κ4 ?_ | refine κ7 ?_ | refine κ8 ?_ | refine χ3 ?_ | refine χ4 ?_ | refine κ5 ?_ | refine κ6 ?_ | refine χ5 ?_ | refine χ6 ?_ | refine χ7 ?_ | refine ω8 ?_
  refine wloop1 (fun k : Nat => [(0, .slice A 1 c), (1, .int .u32 2), (5, .int .u64 ((if k = 1 then 0 else x.toNat % 2 : Nat) : Int)), (6, .int .i64 ((k : Int) - 1))])
    (fun k w1 => k ≤ 1 ∧ (k = 1 → w1 = w) ∧ (k = 0 → OwnN w1 base (.slice A 1 c) [UInt32.ofNat (x.toNat / 2)] ∧ w.grownBy w1 (Value.slice A 1 c).ownBlock)) (fun k => k) 1 (by repeat' (first | exact Sub.nil | refine Sub.cons rfl ?_)) ⟨Nat.le_refl _, fun _ => rfl, fun h => by omega⟩ ?_
  rintro k w1 ⟨hk, h1, h0⟩
  repeat first | refine ω1 ?_ | refine ω2 ?_ | refine ω3 ?_ | refine ω4 ?_ | refine ω5 ?_ | refine χ1 ?_ | refine κ1 ?_ | refine κ2 ?_ | refine χ2 ?_ | refine κ3 ?_ | refine ω6 ?_ | refine ω7 ?_ | refine ω9 ?_ | refine κ4 ?_ | refine κ7 ?_ | refine κ8 ?_ | refine χ3 ?_ | refine χ4 ?_ | refine κ5 ?_ | refine κ6 ?_ | refine χ5 ?_ | refine χ6 ?_ | refine χ7 ?_ | refine ω8 ?_
  refine ci (fun h => ?_) (fun h => ?_)
  · have hk1 : k = 1 := by have := of_decide_eq_true h; omega
    subst hk1
    obtain rfl := h1 rfl
    have hrd : Rd w1 1 A 1 (Nc [x]) := Rd.own ho
    repeat first | refine ω1 ?_ | refine ω2 ?_ | refine ω3 ?_ | refine ω4 ?_ | refine ω5 ?_ | refine χ1 ?_ | refine κ1 ?_ | refine κ2 ?_ | refine χ2 ?_ | refine κ3 ?_ | refine ω6 ?_ | refine ω7 ?_ | refine ω9 ?_ | refine κ4 ?_ | refine κ7 ?_ | refine κ8 ?_ | refine χ3 ?_ | refine χ4 ?_ | refine κ5 ?_ | refine κ6 ?_ | refine χ5 ?_ | refine χ6 ?_ | refine χ7 ?_ | refine ω8 ?_
    refine wshl rfl rfl (by decide) rfl ?_
    repeat first | refine ω1 ?_ | refine ω2 ?_ | refine ω3 ?_ | refine ω4 ?_ | refine ω5 ?_ | refine χ1 ?_ | refine κ1 ?_ | refine κ2 ?_ | refine χ2 ?_ | refine κ3 ?_ | refine ω6 ?_ | refine ω7 ?_ | refine ω9 ?_ | refine κ4 ?_ | refine κ7 ?_ | refine κ8 ?_ | refine χ3 ?_ | refine χ4 ?_ | refine κ5 ?_ | refine κ6 ?_ | refine χ5 ?_ | refine χ6 ?_ | refine χ7 ?_ | refine ω8 ?_
    refine ix 0 hrd (by omega) ?_
    repeat first | refine ω1 ?_ | refine ω2 ?_ | refine ω3 ?_ | refine ω4 ?_ | refine ω5 ?_ | refine χ1 ?_ | refine κ1 ?_ | refine κ2 ?_ | refine χ2 ?_ | refine κ3 ?_ | refine ω6 ?_ | refine ω7 ?_ | refine ω9 ?_ | refine κ4 ?_ | refine κ7 ?_ | refine κ8 ?_ | refine χ3 ?_ | refine χ4 ?_ | refine κ5 ?_ | refine κ6 ?_ | refine χ5 ?_ | refine χ6 ?_ | refine χ7 ?_ | refine ω8 ?_
    refine ld (hrd.cell (Nc_get (l := [x]) (k := 0) (by simp))) ?_
    repeat first | refine ω1 ?_ | refine ω2 ?_ | refine ω3 ?_ | refine ω4 ?_ | refine ω5 ?_ | refine χ1 ?_ | refine κ1 ?_ | refine κ2 ?_ | refine χ2 ?_ | refine κ3 ?_ | refine ω6 ?_ | refine ω7 ?_ | refine ω9 ?_ | refine κ4 ?_ | refine κ7 ?_ | refine κ8 ?_ | refine χ3 ?_ | refine χ4 ?_ | refine κ5 ?_ | refine κ6 ?_ | refine χ5 ?_ | refine χ6 ?_ | refine χ7 ?_ | refine ω8 ?_
    have e1 : bits .or .u64 (IntKind.u64.wrap (((if 1 = 1 then 0 else x.toNat % 2 : Nat) : Int) * 2 ^ min (32 : Int).toNat IntKind.u64.bits)) (IntKind.u64.wrap (([x].getD 0 0).toNat : Int)) = (x.toNat : Int) := by
      have e0 : IntKind.u64.wrap (([x].getD 0 0).toNat : Int) = (x.toNat : Int) := u64w (z := (x.toNat : Int)) (by omega)
      rw [if_pos rfl, e0]
      exact or0 x.toNat (by omega)
    have e9 : IntKind.u64.wrap 2 = 2 := by decide
    refine kv 5 (u := .int .u64 (x.toNat : Int)) (congrArg (Value.int .u64) e1) ?_
    refine kv 24 (u := .int .u64 (x.toNat : Int)) (congrArg (Value.int .u64) e1) ?_
    refine kv 26 (u := .int .u64 2) (congrArg (Value.int .u64) e9) ?_
    refine wquo rfl rfl (by decide) rfl ?_
    have e2 : IntKind.u32.wrap (IntKind.u64.wrap ((x.toNat : Int).tdiv 2)) = ((UInt32.ofNat (x.toNat / 2)).toNat : Int) := by
      have : (x.toNat : Int).tdiv 2 = ((x.toNat / 2 : Nat) : Int) := rfl
      rw [this, u64w (by omega), u32lo]
    obtain ⟨s1, s2, s3, s4, s5⟩ := own_store ho (q := 0) (by simp) (.int .u32 ((UInt32.ofNat (x.toNat / 2)).toNat : Int))
    repeat first | refine ω1 ?_ | refine ω2 ?_ | refine ω3 ?_ | refine ω4 ?_ | refine ω5 ?_ | refine χ1 ?_ | refine κ1 ?_ | refine κ2 ?_ | refine χ2 ?_ | refine κ3 ?_ | refine ω6 ?_ | refine ω7 ?_ | refine ω9 ?_ | refine κ4 ?_ | refine κ7 ?_ | refine κ8 ?_ | refine χ3 ?_ | refine χ4 ?_ | refine κ5 ?_ | refine κ6 ?_ | refine χ5 ?_ | refine χ6 ?_ | refine χ7 ?_ | refine ω8 ?_
    refine ix 0 hrd (by omega) ?_
    rw [e2]
    refine sto (s1.trans (Nc_get (l := [x]) (k := 0) (by simp))) s2 ?_
    repeat first | refine ω1 ?_ | refine ω2 ?_ | refine ω3 ?_ | refine ω4 ?_ | refine ω5 ?_ | refine χ1 ?_ | refine κ1 ?_ | refine κ2 ?_ | refine χ2 ?_ | refine κ3 ?_ | refine ω6 ?_ | refine ω7 ?_ | refine ω9 ?_ | refine κ4 ?_ | refine κ7 ?_ | refine κ8 ?_ | refine χ3 ?_ | refine χ4 ?_ | refine κ5 ?_ | refine κ6 ?_ | refine χ5 ?_ | refine χ6 ?_ | refine χ7 ?_ | refine ω8 ?_
    refine kv 32 (u := .int .u64 2) (congrArg (Value.int .u64) e9) ?_
    refine wrem rfl rfl (by decide) rfl ?_
    repeat first | refine ω1 ?_ | refine ω2 ?_ | refine ω3 ?_ | refine ω4 ?_ | refine ω5 ?_ | refine χ1 ?_ | refine κ1 ?_ | refine κ2 ?_ | refine χ2 ?_ | refine κ3 ?_ | refine ω6 ?_ | refine ω7 ?_ | refine ω9 ?_ | refine κ4 ?_ | refine κ7 ?_ | refine κ8 ?_ | refine χ3 ?_ | refine χ4 ?_ | refine κ5 ?_ | refine κ6 ?_ | refine χ5 ?_ | refine χ6 ?_ | refine χ7 ?_ | refine ω8 ?_
    exact qround1 0 (by
      have e3 : (x.toNat : Int).tmod 2 = ((x.toNat % 2 : Nat) : Int) := rfl
      rw [e3]
      exact (by repeat' (first | exact Sub.nil | refine Sub.cons rfl ?_))) ⟨by omega, fun h => by omega, fun _ => ⟨s3, s5⟩⟩ (by omega)
  · have hk0 : k = 0 := by have := of_decide_eq_false h; omega
    subst hk0
    obtain ⟨ho2, hg⟩ := h0 rfl
    repeat first | refine ω1 ?_ | refine ω2 ?_ | refine ω3 ?_ | refine ω4 ?_ | refine ω5 ?_ | refine χ1 ?_ | refine κ1 ?_ | refine κ2 ?_ | refine χ2 ?_ | refine κ3 ?_ | refine ω6 ?_ | refine ω7 ?_ | refine ω9 ?_ | refine κ4 ?_ | refine κ7 ?_ | refine κ8 ?_ | refine χ3 ?_ | refine χ4 ?_ | refine κ5 ?_ | refine κ6 ?_ | refine χ5 ?_ | refine χ6 ?_ | refine χ7 ?_ | refine ω8 ?_
    refine fin1 ⟨?_, ho2, hg⟩
    rw [if_neg (by omega), u32lo, UInt32.toNat_ofNat', Nat.mod_eq_of_lt (show x.toNat % 2 < 2 ^ 32 by omega)]
set_option maxRecDepth 100000 in
theorem natHalf_any {v u : Value} {n : Nat} {w : World} (hv : NatV w v n) (hu : NatV w u 2) (hn : n < 4294967296) :
    Ret Try.prog 88 [v, u] w fun r w' => (∃ x y, r = .tuple #[x, y, .int .i64 0] ∧ NatV w' x (n / 2) ∧ Fresh w x) ∧ Ext w w' := by
  have l2 : limbs 2 = [2] := limbs_one (by decide) (by decide)
  refine enterR Try.func88 Try.ntmps88 rfl (by kernel_rfl) rfl ?_
  repeat first | refine ω1 ?_ | refine ω2 ?_ | refine ω3 ?_ | refine ω4 ?_ | refine ω5 ?_ | refine χ1 ?_ | refine κ1 ?_ | refine κ2 ?_ | refine χ2 ?_ | refine κ3 ?_ | refine ω6 ?_ | refine ω7 ?_ | refine ω9 ?_ | refine κ4 ?_ | refine κ7 ?_ | refine κ8 ?_ | refine χ3 ?_ | refine χ4 ?_ | refine κ5 ?_ | refine κ6 ?_ | refine χ5 ?_ | refine χ6 ?_ | refine χ7 ?_ | refine ω8 ?_
  refine cl (trimV hv) ?_
  rintro v' w' ⟨⟨A, rfl, ha⟩, rfl⟩
  repeat first | refine ω1 ?_ | refine ω2 ?_ | refine ω3 ?_ | refine ω4 ?_ | refine ω5 ?_ | refine χ1 ?_ | refine κ1 ?_ | refine κ2 ?_ | refine χ2 ?_ | refine κ3 ?_ | refine ω6 ?_ | refine ω7 ?_ | refine ω9 ?_ | refine κ4 ?_ | refine κ7 ?_ | refine κ8 ?_ | refine χ3 ?_ | refine χ4 ?_ | refine κ5 ?_ | refine κ6 ?_ | refine χ5 ?_ | refine χ6 ?_ | refine χ7 ?_ | refine ω8 ?_
  refine cl (trimV hu) ?_
  rintro u' w'' ⟨⟨B, rfl, hb⟩, rfl⟩
  rw [l2] at hb ⊢
  have hln : (limbs n).length ≤ 2 := small_len (by omega)
  repeat first | refine ω1 ?_ | refine ω2 ?_ | refine ω3 ?_ | refine ω4 ?_ | refine ω5 ?_ | refine χ1 ?_ | refine κ1 ?_ | refine κ2 ?_ | refine χ2 ?_ | refine κ3 ?_ | refine ω6 ?_ | refine ω7 ?_ | refine ω9 ?_ | refine κ4 ?_ | refine κ7 ?_ | refine κ8 ?_ | refine χ3 ?_ | refine χ4 ?_ | refine κ5 ?_ | refine κ6 ?_ | refine χ5 ?_ | refine χ6 ?_ | refine χ7 ?_ | refine ω8 ?_
  refine cl (natCmp_any (n := n) (m := 2) ⟨A, _, rfl, Nat.le_refl _, by omega, ha⟩ ⟨B, 1, by rw [l2], by rw [l2]; simp, by rw [l2]; simp, by rw [l2]; exact hb⟩) ?_
  rintro t w' ⟨rfl, hx0⟩
  repeat first | refine ω1 ?_ | refine ω2 ?_ | refine ω3 ?_ | refine ω4 ?_ | refine ω5 ?_ | refine χ1 ?_ | refine κ1 ?_ | refine κ2 ?_ | refine χ2 ?_ | refine κ3 ?_ | refine ω6 ?_ | refine ω7 ?_ | refine ω9 ?_ | refine κ4 ?_ | refine κ7 ?_ | refine κ8 ?_ | refine χ3 ?_ | refine χ4 ?_ | refine κ5 ?_ | refine κ6 ?_ | refine χ5 ?_ | refine χ6 ?_ | refine χ7 ?_ | refine ω8 ?_
  refine ci (fun h => ?_) (fun h => ?_)
  · have hlt : n < 2 := by
      have := of_decide_eq_true h
      unfold cmpN at this
      rcases Nat.lt_or_ge n 2 with h1 | h1
      · exact h1
      · rw [if_neg (by omega)] at this; split at this <;> omega
    repeat first | refine ω1 ?_ | refine ω2 ?_ | refine ω3 ?_ | refine ω4 ?_ | refine ω5 ?_ | refine χ1 ?_ | refine κ1 ?_ | refine κ2 ?_ | refine χ2 ?_ | refine κ3 ?_ | refine ω6 ?_ | refine ω7 ?_ | refine ω9 ?_ | refine κ4 ?_ | refine κ7 ?_ | refine κ8 ?_ | refine χ3 ?_ | refine χ4 ?_ | refine κ5 ?_ | refine κ6 ?_ | refine χ5 ?_ | refine χ6 ?_ | refine χ7 ?_ | refine ω8 ?_
    refine cl (cloneNat (ha.ext hx0) (Nc_one _) (by omega)) ?_
    rintro v' w1 ⟨_, hx⟩
    repeat first | refine ω1 ?_ | refine ω2 ?_ | refine ω3 ?_ | refine ω4 ?_ | refine ω5 ?_ | refine χ1 ?_ | refine κ1 ?_ | refine κ2 ?_ | refine χ2 ?_ | refine κ3 ?_ | refine ω6 ?_ | refine ω7 ?_ | refine ω9 ?_ | refine κ4 ?_ | refine κ7 ?_ | refine κ8 ?_ | refine χ3 ?_ | refine χ4 ?_ | refine κ5 ?_ | refine κ6 ?_ | refine χ5 ?_ | refine χ6 ?_ | refine χ7 ?_ | refine ω8 ?_
    refine fin3 ⟨⟨.slice none 0 0, v', rfl, ?_, fun ad _ _ e => by cases e⟩, hx0.trans hx⟩
    rw [show n / 2 = 0 by omega]; exact NatV.nil _
  have hge : 2 ≤ n := by
    have := of_decide_eq_false h
    unfold cmpN at this
    rcases Nat.lt_or_ge n 2 with h1 | h1
    · rw [if_pos h1] at this; omega
    · exact h1
  have l1 : limbs n = [UInt32.ofNat n] := limbs_one (by omega) hn
  rw [l1] at ha ⊢
  repeat first | refine ω1 ?_ | refine ω2 ?_ | refine ω3 ?_ | refine ω4 ?_ | refine ω5 ?_ | refine χ1 ?_ | refine κ1 ?_ | refine κ2 ?_ | refine χ2 ?_ | refine κ3 ?_ | refine ω6 ?_ | refine ω7 ?_ | refine ω9 ?_ | refine κ4 ?_ | refine κ7 ?_ | refine κ8 ?_ | refine χ3 ?_ | refine χ4 ?_ | refine κ5 ?_ | refine κ6 ?_ | refine χ5 ?_ | refine χ6 ?_ | refine χ7 ?_ | refine ω8 ?_
  refine cl (cloneNatO (ha.ext hx0) (Nc_one _) (by simp)) ?_
  rintro q w1 ⟨ho, hx1⟩
  obtain ⟨A', c', rfl, hc, hf⟩ := own_form ho
  have hb1 := (hb.ext hx0).ext hx1
  repeat first | refine ω1 ?_ | refine ω2 ?_ | refine ω3 ?_ | refine ω4 ?_ | refine ω5 ?_ | refine χ1 ?_ | refine κ1 ?_ | refine κ2 ?_ | refine χ2 ?_ | refine κ3 ?_ | refine ω6 ?_ | refine ω7 ?_ | refine ω9 ?_ | refine κ4 ?_ | refine κ7 ?_ | refine κ8 ?_ | refine χ3 ?_ | refine χ4 ?_ | refine κ5 ?_ | refine κ6 ?_ | refine χ5 ?_ | refine χ6 ?_ | refine χ7 ?_ | refine ω8 ?_
  refine ix 0 hb1 (by simp) ?_
  repeat first | refine ω1 ?_ | refine ω2 ?_ | refine ω3 ?_ | refine ω4 ?_ | refine ω5 ?_ | refine χ1 ?_ | refine κ1 ?_ | refine κ2 ?_ | refine χ2 ?_ | refine κ3 ?_ | refine ω6 ?_ | refine ω7 ?_ | refine ω9 ?_ | refine κ4 ?_ | refine κ7 ?_ | refine κ8 ?_ | refine χ3 ?_ | refine χ4 ?_ | refine κ5 ?_ | refine κ6 ?_ | refine χ5 ?_ | refine χ6 ?_ | refine χ7 ?_ | refine ω8 ?_
  refine ld (hb1.cell (Nc_get (l := [2]) (k := 0) (by simp))) ?_
  repeat first | refine ω1 ?_ | refine ω2 ?_ | refine ω3 ?_ | refine ω4 ?_ | refine ω5 ?_ | refine χ1 ?_ | refine κ1 ?_ | refine κ2 ?_ | refine χ2 ?_ | refine κ3 ?_ | refine ω6 ?_ | refine ω7 ?_ | refine ω9 ?_ | refine κ4 ?_ | refine κ7 ?_ | refine κ8 ?_ | refine χ3 ?_ | refine χ4 ?_ | refine κ5 ?_ | refine κ6 ?_ | refine χ5 ?_ | refine χ6 ?_ | refine χ7 ?_ | refine ω8 ?_
  refine cl (divDigit_any ho) ?_
  rintro r w2 ⟨rfl, ho2, hg2⟩
  have hx2 : Ext w'' w2 := grown_ext (hx0.trans hx1) hg2 (fun k e => Nat.le_trans hx0.size (hf k e).1)
  have hr2 : Rd w2 1 A' 1 (Nc [UInt32.ofNat ((UInt32.ofNat n).toNat / 2)]) := Rd.own ho2
  repeat first | refine ω1 ?_ | refine ω2 ?_ | refine ω3 ?_ | refine ω4 ?_ | refine ω5 ?_ | refine χ1 ?_ | refine κ1 ?_ | refine κ2 ?_ | refine χ2 ?_ | refine κ3 ?_ | refine ω6 ?_ | refine ω7 ?_ | refine ω9 ?_ | refine κ4 ?_ | refine κ7 ?_ | refine κ8 ?_ | refine χ3 ?_ | refine χ4 ?_ | refine κ5 ?_ | refine κ6 ?_ | refine χ5 ?_ | refine χ6 ?_ | refine χ7 ?_ | refine ω8 ?_
  refine cl (trim_any (l := [UInt32.ofNat ((UInt32.ofNat n).toNat / 2)]) hr2 hc (by simp)) ?_
  rintro t w3 ⟨rfl, rfl⟩
  have := trim_rd hr2 (by simp)
  have hval : val [UInt32.ofNat ((UInt32.ofNat n).toNat / 2)] = n / 2 := by
    simp only [val, UInt32.toNat_ofNat']; omega
  rw [hval] at this ⊢
  repeat first | refine ω1 ?_ | refine ω2 ?_ | refine ω3 ?_ | refine ω4 ?_ | refine ω5 ?_ | refine χ1 ?_ | refine κ1 ?_ | refine κ2 ?_ | refine χ2 ?_ | refine κ3 ?_ | refine ω6 ?_ | refine ω7 ?_ | refine ω9 ?_ | refine κ4 ?_ | refine κ7 ?_ | refine κ8 ?_ | refine χ3 ?_ | refine χ4 ?_ | refine κ5 ?_ | refine κ6 ?_ | refine χ5 ?_ | refine χ6 ?_ | refine χ7 ?_ | refine ω8 ?_
  rw [u64w (by omega)]
  refine cl (natOf_any ((UInt32.ofNat n).toNat % 2) (by omega) _) ?_
  rintro y w4 ⟨_, hx4⟩
  repeat first | refine ω1 ?_ | refine ω2 ?_ | refine ω3 ?_ | refine ω4 ?_ | refine ω5 ?_ | refine χ1 ?_ | refine κ1 ?_ | refine κ2 ?_ | refine χ2 ?_ | refine κ3 ?_ | refine ω6 ?_ | refine ω7 ?_ | refine ω9 ?_ | refine κ4 ?_ | refine κ7 ?_ | refine κ8 ?_ | refine χ3 ?_ | refine χ4 ?_ | refine κ5 ?_ | refine κ6 ?_ | refine χ5 ?_ | refine χ6 ?_ | refine χ7 ?_ | refine ω8 ?_
  exact fin3 ⟨⟨_, y, rfl, this.ext hx4, fun ad _ _ e => by injection e with e; subst e; exact Nat.le_trans hx0.size (hf ad.block rfl).1⟩, hx2.trans hx4⟩
end Go.Proofs.Ytpahjnfolbnloaa
