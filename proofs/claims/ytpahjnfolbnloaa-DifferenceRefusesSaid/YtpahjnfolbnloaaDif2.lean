/- Naturals that lie off some blocks; contracts of Of, Norm, Add, Sub that say where the result lies; halving. -/
import Derived.Test.YtpahjnfolbnloaaNat4
import Derived.Test.YtpahjnfolbnloaaArr2
import Derived.Test.YtpahjnfolbnloaaOf
set_option linter.unusedVariables false
namespace Go.Proofs.Ytpahjnfolbnloaa
open Go.RowKit Pl Go.Wk
attribute [local irreducible] WC WL QX WD WDB
/-- nothing old has turned but for some blocks -/
structure GrN (N : Nat → Prop) (w w' : World) : Prop where
  os : w'.os = w.os
  tape : w'.tape = w.tape
  output : w'.output = w.output
  size : w.heap.size ≤ w'.heap.size
  block : ∀ k, k < w.heap.size → ¬ N k → w'.heap[k]? = w.heap[k]?
theorem GrN.ext {N : Nat → Prop} {w w' : World} (h : Ext w w') : GrN N w w' := ⟨h.os, h.tape, h.output, h.size, fun k hk _ => h.block k hk⟩
theorem GrN.trans {N : Nat → Prop} {a b c : World} (h : GrN N a b) (k : GrN N b c) : GrN N a c :=
  ⟨k.os.trans h.os, k.tape.trans h.tape, k.output.trans h.output, Nat.le_trans h.size k.size, fun i hi hn => (k.block i (Nat.lt_of_lt_of_le hi h.size) hn).trans (h.block i hi hn)⟩
theorem GrN.by {N : Nat → Prop} {w w' : World} {g : Option Nat} (h : w.grownBy w' g) (hg : ∀ k, g = some k → N k) : GrN N w w' := ⟨h.os, h.tape, h.output, h.size, fun k hk hn => h.block k hk (fun e => hn (hg k e.symm))⟩
theorem GrN.set {N : Nat → Prop} {w : World} {p : Addr} (u : Value) (hp : N p.block) : GrN N w (w.setCell p u) := by
  have hx : Below 0 w (w.setCell p u) := Below.setCell (Below.refl 0 w) (Nat.zero_le _) u
  exact ⟨hx.os, hx.tape, hx.output, hx.size, fun k hk hn => Below.heap_setCell w p u k (fun e => hn (e ▸ hp))⟩
theorem GrN.old {N : Nat → Prop} {a w w' : World} (h : GrN N w w') (hx : Ext a w) (hN : ∀ k, N k → a.heap.size ≤ k) : Ext a w' :=
  ⟨h.os.trans hx.os, h.tape.trans hx.tape, h.output.trans hx.output, Nat.le_trans hx.size h.size, fun k hk => (h.block k (Nat.lt_of_lt_of_le hk hx.size) (fun hn => by have := hN k hn; omega)).trans (hx.block k hk)⟩
theorem rdGr {N : Nat → Prop} {w w' : World} {sz n : Nat} {A : Option Addr} {cs : List Value} (h : Rd w sz A n cs) (hg : GrN N w w') (hA : ∀ ad, A = some ad → ¬ N ad.block) : Rd w' sz A n cs :=
  ⟨h.1, fun h0 => by
    obtain ⟨ad, e, hb, hc⟩ := h.2 h0
    refine ⟨ad, e, Nat.lt_of_lt_of_le hb hg.size, fun j u hu => ?_⟩
    rw [← hc j u hu]
    exact World.cell?_of_block (by rw [add_block]; exact hg.block _ hb (hA ad e))⟩
theorem blkGr {N : Nat → Prop} {w w' : World} {g : Nat} {t : TypeId} {cs : List Value} (h : Blk w g t cs) (hg : GrN N w w') (hn : ¬ N g) : Blk w' g t cs := (hg.block g h.lt hn).trans h
/-- a natural number that lies off some blocks -/
def NatX (w : World) (N : Nat → Prop) (v : Value) (n : Nat) : Prop := NatV w v n ∧ ∀ ad m c, v = .slice (some ad) m c → ¬ N ad.block
theorem NatX.ext {N : Nat → Prop} {w w' : World} {v : Value} {n : Nat} (h : NatX w N v n) (hx : Ext w w') : NatX w' N v n := ⟨h.1.ext hx, h.2⟩
theorem NatX.gr {N : Nat → Prop} {w w' : World} {v : Value} {n : Nat} (h : NatX w N v n) (hg : GrN N w w') : NatX w' N v n := by
  obtain ⟨⟨A, c, rfl, h2, h3, h4⟩, h5⟩ := h
  exact ⟨⟨A, c, rfl, h2, h3, rdGr h4 hg (fun ad e => h5 ad _ _ (by rw [e]))⟩, h5⟩
theorem Fresh.x {N : Nat → Prop} {w w' : World} {v : Value} {n : Nat} (h : Fresh w v) (hn : NatV w' v n) (hN : ∀ k, N k → k < w.heap.size) : NatX w' N v n :=
  ⟨hn, fun ad m c e hk => by have := h ad m c e; have := hN _ hk; omega⟩
/-- a copy of a natural number is the call's own -/
theorem cloneNatO {A : Option Addr} {n c : Nat} {cs : List Value} {w : World} (hr : Rd w 1 A n cs) (h1 : ∀ u ∈ cs, u.oneCell' = true) (hb : n * 4 ≤ 140737488355328) :
    Ret Try.prog 87 [.slice A n c] w fun v w' => w'.ownsRow w.heap.size 103 1 v n cs ∧ Ext w w' := by
  refine enterR Try.func87 Try.ntmps87 rfl (by kernel_rfl) rfl ?_
  repeat first | refine ω1 ?_ | refine ω2 ?_ | refine ω3 ?_ | refine ω4 ?_ | refine ω5 ?_ | refine χ1 ?_ | refine κ1 ?_ | refine κ2 ?_ | refine χ2 ?_ | refine κ3 ?_ | refine ω6 ?_ | refine ω7 ?_ | refine ω9 ?_ | refine κ4 ?_ | refine κ7 ?_ | refine κ8 ?_ | refine χ3 ?_ | refine χ4 ?_ | refine κ5 ?_ | refine κ6 ?_ | refine χ5 ?_ | refine χ6 ?_ | refine χ7 ?_ | refine ω8 ?_
  refine snil ?_
  repeat first | refine ω1 ?_ | refine ω2 ?_ | refine ω3 ?_ | refine ω4 ?_ | refine ω5 ?_ | refine χ1 ?_ | refine κ1 ?_ | refine κ2 ?_ | refine χ2 ?_ | refine κ3 ?_ | refine ω6 ?_ | refine ω7 ?_ | refine ω9 ?_ | refine κ4 ?_ | refine κ7 ?_ | refine κ8 ?_ | refine χ3 ?_ | refine χ4 ?_ | refine κ5 ?_ | refine κ6 ?_ | refine χ5 ?_ | refine χ6 ?_ | refine χ7 ?_ | refine ω8 ?_
  refine ci (fun h => ?_) (fun h => ?_)
  · have hA : A = none := by simpa using h
    subst hA
    have hn : n = 0 := by
      rcases Nat.eq_zero_or_pos n with h0 | h0
      · exact h0
      · obtain ⟨ad, h2, _⟩ := hr.isome h0 (by omega); cases h2
    subst hn
    have hcs : cs = [] := List.eq_nil_of_length_eq_zero (by rw [hr.len])
    subst hcs
    repeat first | refine ω1 ?_ | refine ω2 ?_ | refine ω3 ?_ | refine ω4 ?_ | refine ω5 ?_ | refine χ1 ?_ | refine κ1 ?_ | refine κ2 ?_ | refine χ2 ?_ | refine κ3 ?_ | refine ω6 ?_ | refine ω7 ?_ | refine ω9 ?_ | refine κ4 ?_ | refine κ7 ?_ | refine κ8 ?_ | refine χ3 ?_ | refine χ4 ?_ | refine κ5 ?_ | refine κ6 ?_ | refine χ5 ?_ | refine χ6 ?_ | refine χ7 ?_ | refine ω8 ?_
    exact fin1 ⟨own_nil _ _ _ _, Ext.refl w⟩
  · repeat first | refine ω1 ?_ | refine ω2 ?_ | refine ω3 ?_ | refine ω4 ?_ | refine ω5 ?_ | refine χ1 ?_ | refine κ1 ?_ | refine κ2 ?_ | refine χ2 ?_ | refine κ3 ?_ | refine ω6 ?_ | refine ω7 ?_ | refine ω9 ?_ | refine κ4 ?_ | refine κ7 ?_ | refine κ8 ?_ | refine χ3 ?_ | refine χ4 ?_ | refine κ5 ?_ | refine κ6 ?_ | refine χ5 ?_ | refine χ6 ?_ | refine χ7 ?_ | refine ω8 ?_
    refine bsl bs0Nat ?_
    intro w1 b hx1 hb1 hk1
    repeat first | refine ω1 ?_ | refine ω2 ?_ | refine ω3 ?_ | refine ω4 ?_ | refine ω5 ?_ | refine χ1 ?_ | refine κ1 ?_ | refine κ2 ?_ | refine χ2 ?_ | refine κ3 ?_ | refine ω6 ?_ | refine ω7 ?_ | refine ω9 ?_ | refine κ4 ?_ | refine κ7 ?_ | refine κ8 ?_ | refine χ3 ?_ | refine χ4 ?_ | refine κ5 ?_ | refine κ6 ?_ | refine χ5 ?_ | refine χ6 ?_ | refine χ7 ?_ | refine ω8 ?_
    refine apo hx1 EN (hk1.own (n := 0) hb1 rfl (Nat.zero_le _)) (hr.ext hx1) h1 (by unfold maxLen; omega) (by omega) ?_
    intro v2 w2 ho2 hx2 _ _
    repeat first | refine ω1 ?_ | refine ω2 ?_ | refine ω3 ?_ | refine ω4 ?_ | refine ω5 ?_ | refine χ1 ?_ | refine κ1 ?_ | refine κ2 ?_ | refine χ2 ?_ | refine κ3 ?_ | refine ω6 ?_ | refine ω7 ?_ | refine ω9 ?_ | refine κ4 ?_ | refine κ7 ?_ | refine κ8 ?_ | refine χ3 ?_ | refine χ4 ?_ | refine κ5 ?_ | refine κ6 ?_ | refine χ5 ?_ | refine χ6 ?_ | refine χ7 ?_ | refine ω8 ?_
    rw [Nat.zero_add, List.nil_append] at ho2
    exact fin1 ⟨ho2, hx2⟩
set_option maxRecDepth 100000 in
theorem natNormF_any {v : Value} {n : Nat} {w : World} (hv : NatV w v n) (hs : (limbs n).length ≤ 1000) : Ret Try.prog 62 [v] w fun r w' => NatV w' r n ∧ Fresh w r ∧ Ext w w' := by
  refine enterR Try.func62 Try.ntmps62 rfl (by kernel_rfl) rfl ?_
  repeat first | refine ω1 ?_ | refine ω2 ?_ | refine ω3 ?_ | refine ω4 ?_ | refine ω5 ?_ | refine χ1 ?_ | refine κ1 ?_ | refine κ2 ?_ | refine χ2 ?_ | refine κ3 ?_ | refine ω6 ?_ | refine ω7 ?_ | refine ω9 ?_ | refine κ4 ?_ | refine κ7 ?_ | refine κ8 ?_ | refine χ3 ?_ | refine χ4 ?_ | refine κ5 ?_ | refine κ6 ?_ | refine χ5 ?_ | refine χ6 ?_ | refine χ7 ?_ | refine ω8 ?_
  refine cl (trimV hv) ?_
  rintro v' w' ⟨⟨A, rfl, ha⟩, rfl⟩
  repeat first | refine ω1 ?_ | refine ω2 ?_ | refine ω3 ?_ | refine ω4 ?_ | refine ω5 ?_ | refine χ1 ?_ | refine κ1 ?_ | refine κ2 ?_ | refine χ2 ?_ | refine κ3 ?_ | refine ω6 ?_ | refine ω7 ?_ | refine ω9 ?_ | refine κ4 ?_ | refine κ7 ?_ | refine κ8 ?_ | refine χ3 ?_ | refine χ4 ?_ | refine κ5 ?_ | refine κ6 ?_ | refine χ5 ?_ | refine χ6 ?_ | refine χ7 ?_ | refine ω8 ?_
  refine cl (cloneNatO ha (Nc_one _) (by omega)) ?_
  rintro v' w1 ⟨ho, hx⟩
  obtain ⟨A', c', rfl, hc, hf⟩ := own_form ho
  repeat first | refine ω1 ?_ | refine ω2 ?_ | refine ω3 ?_ | refine ω4 ?_ | refine ω5 ?_ | refine χ1 ?_ | refine κ1 ?_ | refine κ2 ?_ | refine χ2 ?_ | refine κ3 ?_ | refine ω6 ?_ | refine ω7 ?_ | refine ω9 ?_ | refine κ4 ?_ | refine κ7 ?_ | refine κ8 ?_ | refine χ3 ?_ | refine χ4 ?_ | refine κ5 ?_ | refine κ6 ?_ | refine χ5 ?_ | refine χ6 ?_ | refine χ7 ?_ | refine ω8 ?_
  exact fin1 ⟨⟨A', c', rfl, hc, by omega, Rd.own ho⟩, fun ad m c e => by injection e with e; subst e; exact (hf ad.block rfl).1, hx⟩
set_option maxRecDepth 100000 in
theorem natOfF_any (n : Nat) (h : n < 18446744073709551616) (w : World) : Ret Try.prog 55 [.int .u64 (n : Int)] w fun v w' => NatV w' v n ∧ Fresh w v ∧ Ext w w' := by
  refine enterR Try.func55 Try.ntmps55 rfl (by kernel_rfl) rfl ?_
  repeat first | refine ω1 ?_ | refine ω2 ?_ | refine ω3 ?_ | refine ω4 ?_ | refine ω5 ?_ | refine χ1 ?_ | refine κ1 ?_ | refine κ2 ?_ | refine χ2 ?_ | refine κ3 ?_ | refine ω6 ?_ | refine ω7 ?_ | refine ω9 ?_ | refine κ4 ?_ | refine κ7 ?_ | refine κ8 ?_ | refine χ3 ?_ | refine χ4 ?_ | refine κ5 ?_ | refine κ6 ?_ | refine χ5 ?_ | refine χ6 ?_ | refine χ7 ?_ | refine ω8 ?_
  refine wshr rfl rfl (by decide) rfl ?_
  repeat first | refine ω1 ?_ | refine ω2 ?_ | refine ω3 ?_ | refine ω4 ?_ | refine ω5 ?_ | refine χ1 ?_ | refine κ1 ?_ | refine κ2 ?_ | refine χ2 ?_ | refine κ3 ?_ | refine ω6 ?_ | refine ω7 ?_ | refine ω9 ?_ | refine κ4 ?_ | refine κ7 ?_ | refine κ8 ?_ | refine χ3 ?_ | refine χ4 ?_ | refine κ5 ?_ | refine κ6 ?_ | refine χ5 ?_ | refine χ6 ?_ | refine χ7 ?_ | refine ω8 ?_
  refine bsl (bsN _ _) ?_
  intro w1 b hx1 hb1 hk1
  rw [u32lo, u32hi] at hk1
  have hr : Rd w1 1 (some ⟨b, 0, none⟩) 2 (Nc [UInt32.ofNat n, UInt32.ofNat (n / 4294967296)]) := hk1.rd rfl
  repeat first | refine ω1 ?_ | refine ω2 ?_ | refine ω3 ?_ | refine ω4 ?_ | refine ω5 ?_ | refine χ1 ?_ | refine κ1 ?_ | refine κ2 ?_ | refine χ2 ?_ | refine κ3 ?_ | refine ω6 ?_ | refine ω7 ?_ | refine ω9 ?_ | refine κ4 ?_ | refine κ7 ?_ | refine κ8 ?_ | refine χ3 ?_ | refine χ4 ?_ | refine κ5 ?_ | refine κ6 ?_ | refine χ5 ?_ | refine χ6 ?_ | refine χ7 ?_ | refine ω8 ?_
  refine cl (trim_any (l := [UInt32.ofNat n, UInt32.ofNat (n / 4294967296)]) (c := 2) hr (Nat.le_refl _) (by simp)) ?_
  rintro v w2 ⟨rfl, rfl⟩
  have := trim_rd hr (by simp)
  rw [val_two n h] at this ⊢
  repeat first | refine ω1 ?_ | refine ω2 ?_ | refine ω3 ?_ | refine ω4 ?_ | refine ω5 ?_ | refine χ1 ?_ | refine κ1 ?_ | refine κ2 ?_ | refine χ2 ?_ | refine κ3 ?_ | refine ω6 ?_ | refine ω7 ?_ | refine ω9 ?_ | refine κ4 ?_ | refine κ7 ?_ | refine κ8 ?_ | refine χ3 ?_ | refine χ4 ?_ | refine κ5 ?_ | refine κ6 ?_ | refine χ5 ?_ | refine χ6 ?_ | refine χ7 ?_ | refine ω8 ?_
  exact fin1 ⟨this, fun ad _ _ e => by injection e with e; injection e with e; subst e; exact hb1, hx1⟩
theorem limbs_one {n : Nat} (h0 : n ≠ 0) (h : n < 4294967296) : limbs n = [UInt32.ofNat n] := by
  rw [limbs_pos h0, show n / 4294967296 = 0 by omega, limbs_0]
theorem or0 (n : Nat) (h : n < 18446744073709551616) : bits .or .u64 (IntKind.u64.wrap (0 * 2 ^ min (32 : Int).toNat IntKind.u64.bits)) (n : Int) = (n : Int) := by
  have e : IntKind.u64.wrap (0 * 2 ^ min (32 : Int).toNat IntKind.u64.bits) = ((0 : Nat) : Int) := by rw [Int.zero_mul]; decide
  rw [e, u64_or_nat 0 n (by omega) (by omega), Nat.zero_or]
set_option maxRecDepth 100000 in
theorem divDigit_any {A : Option Addr} {c : Nat} {x : UInt32} {base : Nat} {w : World} (ho : OwnN w base (.slice A 1 c) [x]) : Ret Try.prog 95 [.slice A 1 c, .int .u32 2] w fun r w' => r = .int .u32 ((x.toNat % 2 : Nat) : Int) ∧ OwnN w' base (.slice A 1 c) [UInt32.ofNat (x.toNat / 2)] ∧ w.grownBy w' (Value.slice A 1 c).ownBlock := by
  have hx : x.toNat < 4294967296 := x.toNat_lt
  refine enterR Try.func95 Try.ntmps95 rfl (by kernel_rfl) rfl ?_
  repeat first | refine ω1 ?_ | refine ω2 ?_ | refine ω3 ?_ | refine ω4 ?_ | refine ω5 ?_ | refine χ1 ?_ | refine κ1 ?_ | refine κ2 ?_ | refine χ2 ?_ | refine κ3 ?_ | refine ω6 ?_ | refine ω7 ?_ | refine ω9 ?_ | refine κ4 ?_ | refine κ7 ?_ | refine κ8 ?_ | refine χ3 ?_ | refine χ4 ?_ | refine κ5 ?_ | refine κ6 ?_ | refine χ5 ?_ | refine χ6 ?_ | refine χ7 ?_ | refine ω8 ?_
  refine wloop1 (fun k : Nat => [(0, .slice A 1 c), (1, .int .u32 2), (5, .int .u64 ((if k = 1 then 0 else x.toNat % 2 : Nat) : Int)), (6, .int .i64 ((k : Int) - 1))])
    (fun k w1 => k ≤ 1 ∧ (k = 1 → w1 = w) ∧ (k = 0 → OwnN w1 base (.slice A 1 c) [UInt32.ofNat (x.toNat / 2)] ∧ w.grownBy w1 (Value.slice A 1 c).ownBlock)) (fun k => k) 1 (by repeat' (first | exact Sub.nil | refine Sub.cons rfl ?_)) ⟨Nat.le_refl _, fun _ => rfl, fun h => by omega⟩ ?_
  rintro k w1 ⟨hk, h1, h0⟩
  repeat first | refine ω1 ?_ | refine ω2 ?_ | refine ω3 ?_ | refine ω4 ?_ | refine ω5 ?_ | refine χ1 ?_ | refine κ1 ?_ | refine κ2 ?_ | refine χ2 ?_ | refine κ3 ?_ | refine ω6 ?_ | refine ω7 ?_ | refine ω9 ?_ | refine κ4 ?_ | refine κ7 ?_ | refine κ8 ?_ | refine χ3 ?_ | refine χ4 ?_ | refine κ5 ?_ | refine κ6 ?_ | refine χ5 ?_ | refine χ6 ?_ | refine χ7 ?_ | refine ω8 ?_
  refine ci (fun h => ?_) (fun h => ?_)
  · have hk1 : k = 1 := by have := of_decide_eq_true h; omega
    subst hk1
    obtain rfl := h1 rfl
    have hrd : Rd w1 1 A 1 (Nc [x]) := Rd.own ho
    repeat first | refine ω1 ?_ | refine ω2 ?_ | refine ω3 ?_ | refine ω4 ?_ | refine ω5 ?_ | refine χ1 ?_ | refine κ1 ?_ | refine κ2 ?_ | refine χ2 ?_ | refine κ3 ?_ | refine ω6 ?_ | refine ω7 ?_ | refine ω9 ?_ | refine κ4 ?_ | refine κ7 ?_ | refine κ8 ?_ | refine χ3 ?_ | refine χ4 ?_ | refine κ5 ?_ | refine κ6 ?_ | refine χ5 ?_ | refine χ6 ?_ | refine χ7 ?_ | refine ω8 ?_
    refine wshl rfl rfl (by decide) rfl ?_
    repeat first | refine ω1 ?_ | refine ω2 ?_ | refine ω3 ?_ | refine ω4 ?_ | refine ω5 ?_ | refine χ1 ?_ | refine κ1 ?_ | refine κ2 ?_ | refine χ2 ?_ | refine κ3 ?_ | refine ω6 ?_ | refine ω7 ?_ | refine ω9 ?_ | refine κ4 ?_ | refine κ7 ?_ | refine κ8 ?_ | refine χ3 ?_ | refine χ4 ?_ | refine κ5 ?_ | refine κ6 ?_ | refine χ5 ?_ | refine χ6 ?_ | refine χ7 ?_ | refine ω8 ?_
    refine ix 0 hrd (by omega) ?_
    repeat first | refine ω1 ?_ | refine ω2 ?_ | refine ω3 ?_ | refine ω4 ?_ | refine ω5 ?_ | refine χ1 ?_ | refine κ1 ?_ | refine κ2 ?_ | refine χ2 ?_ | refine κ3 ?_ | refine ω6 ?_ | refine ω7 ?_ | refine ω9 ?_ | refine κ4 ?_ | refine κ7 ?_ | refine κ8 ?_ | refine χ3 ?_ | refine χ4 ?_ | refine κ5 ?_ | refine κ6 ?_ | refine χ5 ?_ | refine χ6 ?_ | refine χ7 ?_ | refine ω8 ?_
    refine ld (hrd.cell (Nc_get (l := [x]) (k := 0) (by simp))) ?_
    repeat first | refine ω1 ?_ | refine ω2 ?_ | refine ω3 ?_ | refine ω4 ?_ | refine ω5 ?_ | refine χ1 ?_ | refine κ1 ?_ | refine κ2 ?_ | refine χ2 ?_ | refine κ3 ?_ | refine ω6 ?_ | refine ω7 ?_ | refine ω9 ?_ | refine κ4 ?_ | refine κ7 ?_ | refine κ8 ?_ | refine χ3 ?_ | refine χ4 ?_ | refine κ5 ?_ | refine κ6 ?_ | refine χ5 ?_ | refine χ6 ?_ | refine χ7 ?_ | refine ω8 ?_
    have e1 : bits .or .u64 (IntKind.u64.wrap (((if 1 = 1 then 0 else x.toNat % 2 : Nat) : Int) * 2 ^ min (32 : Int).toNat IntKind.u64.bits)) (IntKind.u64.wrap (([x].getD 0 0).toNat : Int)) = (x.toNat : Int) := by
      have e0 : IntKind.u64.wrap (([x].getD 0 0).toNat : Int) = (x.toNat : Int) := u64w (z := (x.toNat : Int)) (by omega)
      rw [if_pos rfl, e0]
      exact or0 x.toNat (by omega)
    have e9 : IntKind.u64.wrap 2 = 2 := by decide
    refine kv 5 (u := .int .u64 (x.toNat : Int)) (congrArg (Value.int .u64) e1) ?_
    refine kv 24 (u := .int .u64 (x.toNat : Int)) (congrArg (Value.int .u64) e1) ?_
    refine kv 26 (u := .int .u64 2) (congrArg (Value.int .u64) e9) ?_
    refine wquo rfl rfl (by decide) rfl ?_
    have e2 : IntKind.u32.wrap (IntKind.u64.wrap ((x.toNat : Int).tdiv 2)) = ((UInt32.ofNat (x.toNat / 2)).toNat : Int) := by
      have : (x.toNat : Int).tdiv 2 = ((x.toNat / 2 : Nat) : Int) := rfl
      rw [this, u64w (by omega), u32lo]
    obtain ⟨s1, s2, s3, s4, s5⟩ := own_store ho (q := 0) (by simp) (.int .u32 ((UInt32.ofNat (x.toNat / 2)).toNat : Int))
    repeat first | refine ω1 ?_ | refine ω2 ?_ | refine ω3 ?_ | refine ω4 ?_ | refine ω5 ?_ | refine χ1 ?_ | refine κ1 ?_ | refine κ2 ?_ | refine χ2 ?_ | refine κ3 ?_ | refine ω6 ?_ | refine ω7 ?_ | refine ω9 ?_ | refine κ4 ?_ | refine κ7 ?_ | refine κ8 ?_ | refine χ3 ?_ | refine χ4 ?_ | refine κ5 ?_ | refine κ6 ?_ | refine χ5 ?_ | refine χ6 ?_ | refine χ7 ?_ | refine ω8 ?_
    refine ix 0 hrd (by omega) ?_
    rw [e2]
    refine sto (s1.trans (Nc_get (l := [x]) (k := 0) (by simp))) s2 ?_
    repeat first | refine ω1 ?_ | refine ω2 ?_ | refine ω3 ?_ | refine ω4 ?_ | refine ω5 ?_ | refine χ1 ?_ | refine κ1 ?_ | refine κ2 ?_ | refine χ2 ?_ | refine κ3 ?_ | refine ω6 ?_ | refine ω7 ?_ | refine ω9 ?_ | refine κ4 ?_ | refine κ7 ?_ | refine κ8 ?_ | refine χ3 ?_ | refine χ4 ?_ | refine κ5 ?_ | refine κ6 ?_ | refine χ5 ?_ | refine χ6 ?_ | refine χ7 ?_ | refine ω8 ?_
    refine kv 32 (u := .int .u64 2) (congrArg (Value.int .u64) e9) ?_
    refine wrem rfl rfl (by decide) rfl ?_
    repeat first | refine ω1 ?_ | refine ω2 ?_ | refine ω3 ?_ | refine ω4 ?_ | refine ω5 ?_ | refine χ1 ?_ | refine κ1 ?_ | refine κ2 ?_ | refine χ2 ?_ | refine κ3 ?_ | refine ω6 ?_ | refine ω7 ?_ | refine ω9 ?_ | refine κ4 ?_ | refine κ7 ?_ | refine κ8 ?_ | refine χ3 ?_ | refine χ4 ?_ | refine κ5 ?_ | refine κ6 ?_ | refine χ5 ?_ | refine χ6 ?_ | refine χ7 ?_ | refine ω8 ?_
    exact qround1 0 (by
      have e3 : (x.toNat : Int).tmod 2 = ((x.toNat % 2 : Nat) : Int) := rfl
      rw [e3]
      exact (by repeat' (first | exact Sub.nil | refine Sub.cons rfl ?_))) ⟨by omega, fun h => by omega, fun _ => ⟨s3, s5⟩⟩ (by omega)
  · have hk0 : k = 0 := by have := of_decide_eq_false h; omega
    subst hk0
    obtain ⟨ho2, hg⟩ := h0 rfl
    repeat first | refine ω1 ?_ | refine ω2 ?_ | refine ω3 ?_ | refine ω4 ?_ | refine ω5 ?_ | refine χ1 ?_ | refine κ1 ?_ | refine κ2 ?_ | refine χ2 ?_ | refine κ3 ?_ | refine ω6 ?_ | refine ω7 ?_ | refine ω9 ?_ | refine κ4 ?_ | refine κ7 ?_ | refine κ8 ?_ | refine χ3 ?_ | refine χ4 ?_ | refine κ5 ?_ | refine κ6 ?_ | refine χ5 ?_ | refine χ6 ?_ | refine χ7 ?_ | refine ω8 ?_
    refine fin1 ⟨?_, ho2, hg⟩
    rw [if_neg (by omega), u32lo, UInt32.toNat_ofNat', Nat.mod_eq_of_lt (show x.toNat % 2 < 2 ^ 32 by omega)]
set_option maxRecDepth 100000 in
theorem natHalf_any {v u : Value} {n : Nat} {w : World} (hv : NatV w v n) (hu : NatV w u 2) (hn : n < 4294967296) :
    Ret Try.prog 88 [v, u] w fun r w' => (∃ x y, r = .tuple #[x, y, .int .i64 0] ∧ NatV w' x (n / 2) ∧ Fresh w x) ∧ Ext w w' := by
  have l2 : limbs 2 = [2] := limbs_one (by decide) (by decide)
  refine enterR Try.func88 Try.ntmps88 rfl (by kernel_rfl) rfl ?_
  repeat first | refine ω1 ?_ | refine ω2 ?_ | refine ω3 ?_ | refine ω4 ?_ | refine ω5 ?_ | refine χ1 ?_ | refine κ1 ?_ | refine κ2 ?_ | refine χ2 ?_ | refine κ3 ?_ | refine ω6 ?_ | refine ω7 ?_ | refine ω9 ?_ | refine κ4 ?_ | refine κ7 ?_ | refine κ8 ?_ | refine χ3 ?_ | refine χ4 ?_ | refine κ5 ?_ | refine κ6 ?_ | refine χ5 ?_ | refine χ6 ?_ | refine χ7 ?_ | refine ω8 ?_
  refine cl (trimV hv) ?_
  rintro v' w' ⟨⟨A, rfl, ha⟩, rfl⟩
  repeat first | refine ω1 ?_ | refine ω2 ?_ | refine ω3 ?_ | refine ω4 ?_ | refine ω5 ?_ | refine χ1 ?_ | refine κ1 ?_ | refine κ2 ?_ | refine χ2 ?_ | refine κ3 ?_ | refine ω6 ?_ | refine ω7 ?_ | refine ω9 ?_ | refine κ4 ?_ | refine κ7 ?_ | refine κ8 ?_ | refine χ3 ?_ | refine χ4 ?_ | refine κ5 ?_ | refine κ6 ?_ | refine χ5 ?_ | refine χ6 ?_ | refine χ7 ?_ | refine ω8 ?_
  refine cl (trimV hu) ?_
  rintro u' w'' ⟨⟨B, rfl, hb⟩, rfl⟩
  rw [l2] at hb ⊢
  have hln : (limbs n).length ≤ 2 := small_len (by omega)
  repeat first | refine ω1 ?_ | refine ω2 ?_ | refine ω3 ?_ | refine ω4 ?_ | refine ω5 ?_ | refine χ1 ?_ | refine κ1 ?_ | refine κ2 ?_ | refine χ2 ?_ | refine κ3 ?_ | refine ω6 ?_ | refine ω7 ?_ | refine ω9 ?_ | refine κ4 ?_ | refine κ7 ?_ | refine κ8 ?_ | refine χ3 ?_ | refine χ4 ?_ | refine κ5 ?_ | refine κ6 ?_ | refine χ5 ?_ | refine χ6 ?_ | refine χ7 ?_ | refine ω8 ?_
  refine cl (natCmp_any (n := n) (m := 2) ⟨A, _, rfl, Nat.le_refl _, by omega, ha⟩ ⟨B, 1, by rw [l2], by rw [l2]; simp, by rw [l2]; simp, by rw [l2]; exact hb⟩) ?_
  rintro t w' ⟨rfl, hx0⟩
  repeat first | refine ω1 ?_ | refine ω2 ?_ | refine ω3 ?_ | refine ω4 ?_ | refine ω5 ?_ | refine χ1 ?_ | refine κ1 ?_ | refine κ2 ?_ | refine χ2 ?_ | refine κ3 ?_ | refine ω6 ?_ | refine ω7 ?_ | refine ω9 ?_ | refine κ4 ?_ | refine κ7 ?_ | refine κ8 ?_ | refine χ3 ?_ | refine χ4 ?_ | refine κ5 ?_ | refine κ6 ?_ | refine χ5 ?_ | refine χ6 ?_ | refine χ7 ?_ | refine ω8 ?_
  refine ci (fun h => ?_) (fun h => ?_)
  · have hlt : n < 2 := by
      have := of_decide_eq_true h
      unfold cmpN at this
      rcases Nat.lt_or_ge n 2 with h1 | h1
      · exact h1
      · rw [if_neg (by omega)] at this; split at this <;> omega
    repeat first | refine ω1 ?_ | refine ω2 ?_ | refine ω3 ?_ | refine ω4 ?_ | refine ω5 ?_ | refine χ1 ?_ | refine κ1 ?_ | refine κ2 ?_ | refine χ2 ?_ | refine κ3 ?_ | refine ω6 ?_ | refine ω7 ?_ | refine ω9 ?_ | refine κ4 ?_ | refine κ7 ?_ | refine κ8 ?_ | refine χ3 ?_ | refine χ4 ?_ | refine κ5 ?_ | refine κ6 ?_ | refine χ5 ?_ | refine χ6 ?_ | refine χ7 ?_ | refine ω8 ?_
    refine cl (cloneNat (ha.ext hx0) (Nc_one _) (by omega)) ?_
    rintro v' w1 ⟨_, hx⟩
    repeat first | refine ω1 ?_ | refine ω2 ?_ | refine ω3 ?_ | refine ω4 ?_ | refine ω5 ?_ | refine χ1 ?_ | refine κ1 ?_ | refine κ2 ?_ | refine χ2 ?_ | refine κ3 ?_ | refine ω6 ?_ | refine ω7 ?_ | refine ω9 ?_ | refine κ4 ?_ | refine κ7 ?_ | refine κ8 ?_ | refine χ3 ?_ | refine χ4 ?_ | refine κ5 ?_ | refine κ6 ?_ | refine χ5 ?_ | refine χ6 ?_ | refine χ7 ?_ | refine ω8 ?_
    refine fin3 ⟨⟨.slice none 0 0, v', rfl, ?_, fun ad _ _ e => by cases e⟩, hx0.trans hx⟩
    rw [show n / 2 = 0 by omega]; exact NatV.nil _
  have hge : 2 ≤ n := by
    have := of_decide_eq_false h
    unfold cmpN at this
    rcases Nat.lt_or_ge n 2 with h1 | h1
    · rw [if_pos h1] at this; omega
    · exact h1
  have l1 : limbs n = [UInt32.ofNat n] := limbs_one (by omega) hn
  rw [l1] at ha ⊢
  repeat first | refine ω1 ?_ | refine ω2 ?_ | refine ω3 ?_ | refine ω4 ?_ | refine ω5 ?_ | refine χ1 ?_ | refine κ1 ?_ | refine κ2 ?_ | refine χ2 ?_ | refine κ3 ?_ | refine ω6 ?_ | refine ω7 ?_ | refine ω9 ?_ | refine κ4 ?_ | refine κ7 ?_ | refine κ8 ?_ | refine χ3 ?_ | refine χ4 ?_ | refine κ5 ?_ | refine κ6 ?_ | refine χ5 ?_ | refine χ6 ?_ | refine χ7 ?_ | refine ω8 ?_
  refine cl (cloneNatO (ha.ext hx0) (Nc_one _) (by simp)) ?_
  rintro q w1 ⟨ho, hx1⟩
  obtain ⟨A', c', rfl, hc, hf⟩ := own_form ho
  have hb1 := (hb.ext hx0).ext hx1
  repeat first | refine ω1 ?_ | refine ω2 ?_ | refine ω3 ?_ | refine ω4 ?_ | refine ω5 ?_ | refine χ1 ?_ | refine κ1 ?_ | refine κ2 ?_ | refine χ2 ?_ | refine κ3 ?_ | refine ω6 ?_ | refine ω7 ?_ | refine ω9 ?_ | refine κ4 ?_ | refine κ7 ?_ | refine κ8 ?_ | refine χ3 ?_ | refine χ4 ?_ | refine κ5 ?_ | refine κ6 ?_ | refine χ5 ?_ | refine χ6 ?_ | refine χ7 ?_ | refine ω8 ?_
  refine ix 0 hb1 (by simp) ?_
  repeat first | refine ω1 ?_ | refine ω2 ?_ | refine ω3 ?_ | refine ω4 ?_ | refine ω5 ?_ | refine χ1 ?_ | refine κ1 ?_ | refine κ2 ?_ | refine χ2 ?_ | refine κ3 ?_ | refine ω6 ?_ | refine ω7 ?_ | refine ω9 ?_ | refine κ4 ?_ | refine κ7 ?_ | refine κ8 ?_ | refine χ3 ?_ | refine χ4 ?_ | refine κ5 ?_ | refine κ6 ?_ | refine χ5 ?_ | refine χ6 ?_ | refine χ7 ?_ | refine ω8 ?_
  refine ld (hb1.cell (Nc_get (l := [2]) (k := 0) (by simp))) ?_
  repeat first | refine ω1 ?_ | refine ω2 ?_ | refine ω3 ?_ | refine ω4 ?_ | refine ω5 ?_ | refine χ1 ?_ | refine κ1 ?_ | refine κ2 ?_ | refine χ2 ?_ | refine κ3 ?_ | refine ω6 ?_ | refine ω7 ?_ | refine ω9 ?_ | refine κ4 ?_ | refine κ7 ?_ | refine κ8 ?_ | refine χ3 ?_ | refine χ4 ?_ | refine κ5 ?_ | refine κ6 ?_ | refine χ5 ?_ | refine χ6 ?_ | refine χ7 ?_ | refine ω8 ?_
  refine cl (divDigit_any ho) ?_
  rintro r w2 ⟨rfl, ho2, hg2⟩
  have hx2 : Ext w'' w2 := grown_ext (hx0.trans hx1) hg2 (fun k e => Nat.le_trans hx0.size (hf k e).1)
  have hr2 : Rd w2 1 A' 1 (Nc [UInt32.ofNat ((UInt32.ofNat n).toNat / 2)]) := Rd.own ho2
  repeat first | refine ω1 ?_ | refine ω2 ?_ | refine ω3 ?_ | refine ω4 ?_ | refine ω5 ?_ | refine χ1 ?_ | refine κ1 ?_ | refine κ2 ?_ | refine χ2 ?_ | refine κ3 ?_ | refine ω6 ?_ | refine ω7 ?_ | refine ω9 ?_ | refine κ4 ?_ | refine κ7 ?_ | refine κ8 ?_ | refine χ3 ?_ | refine χ4 ?_ | refine κ5 ?_ | refine κ6 ?_ | refine χ5 ?_ | refine χ6 ?_ | refine χ7 ?_ | refine ω8 ?_
  refine cl (trim_any (l := [UInt32.ofNat ((UInt32.ofNat n).toNat / 2)]) hr2 hc (by simp)) ?_
  rintro t w3 ⟨rfl, rfl⟩
  have := trim_rd hr2 (by simp)
  have hval : val [UInt32.ofNat ((UInt32.ofNat n).toNat / 2)] = n / 2 := by
    simp only [val, UInt32.toNat_ofNat']; omega
  rw [hval] at this ⊢
  repeat first | refine ω1 ?_ | refine ω2 ?_ | refine ω3 ?_ | refine ω4 ?_ | refine ω5 ?_ | refine χ1 ?_ | refine κ1 ?_ | refine κ2 ?_ | refine χ2 ?_ | refine κ3 ?_ | refine ω6 ?_ | refine ω7 ?_ | refine ω9 ?_ | refine κ4 ?_ | refine κ7 ?_ | refine κ8 ?_ | refine χ3 ?_ | refine χ4 ?_ | refine κ5 ?_ | refine κ6 ?_ | refine χ5 ?_ | refine χ6 ?_ | refine χ7 ?_ | refine ω8 ?_
  rw [u64w (by omega)]
  refine cl (natOf_any ((UInt32.ofNat n).toNat % 2) (by omega) _) ?_
  rintro y w4 ⟨_, hx4⟩
  repeat first | refine ω1 ?_ | refine ω2 ?_ | refine ω3 ?_ | refine ω4 ?_ | refine ω5 ?_ | refine χ1 ?_ | refine κ1 ?_ | refine κ2 ?_ | refine χ2 ?_ | refine κ3 ?_ | refine ω6 ?_ | refine ω7 ?_ | refine ω9 ?_ | refine κ4 ?_ | refine κ7 ?_ | refine κ8 ?_ | refine χ3 ?_ | refine χ4 ?_ | refine κ5 ?_ | refine κ6 ?_ | refine χ5 ?_ | refine χ6 ?_ | refine χ7 ?_ | refine ω8 ?_
  exact fin3 ⟨⟨_, y, rfl, this.ext hx4, fun ad _ _ e => by injection e with e; subst e; exact Nat.le_trans hx0.size (hf ad.block rfl).1⟩, hx2.trans hx4⟩
end Go.Proofs.Ytpahjnfolbnloaa
/- Contract of difference.search: the test is a closure that may write some boxes. -/
set_option linter.unusedVariables false
namespace Go.Proofs.Ytpahjnfolbnloaa
open Go.RowKit Pl Go.Wk
attribute [local irreducible] WC WL QX WD WDB WP
theorem lenB_half {n : Nat} (h : n ≠ 0) : lenB (n / 2) + 1 = lenB n := by
  unfold lenB
  rw [if_neg h]
  by_cases h1 : n / 2 = 0
  · rw [if_pos h1]
    have : n = 1 := by omega
    subst this; rfl
  · rw [if_neg h1]
    have : Nat.log2 n = Nat.log2 (n / 2) + 1 := by rw [Nat.log2_def, if_pos (by omega)]
    omega
theorem lenB_mono {n m : Nat} (h : n ≤ m) : lenB n ≤ lenB m := by
  unfold lenB
  by_cases h1 : n = 0
  · rw [if_pos h1]; omega
  · rw [if_neg h1, if_neg (by omega)]
    have : 2 ^ Nat.log2 n ≤ m := Nat.le_trans (Nat.log2_self_le h1) h
    have := (Nat.le_log2 (by omega)).2 this
    omega
/-- what the search keeps -/
structure SrI (pr : Nat → Bool) (I : World → Nat → Nat → Prop) (lo0 sz0 : Nat) (lo sz c : Nat) : Prop where
  low : lo0 ≤ lo
  high : lo + sz ≤ lo0 + sz0
  cnt : c + lenB sz ≤ lenB sz0
  bel : lo = lo0 ∨ pr (lo - 1) = false
  abv : lo + sz = lo0 + sz0 ∨ pr (lo + sz) = true
set_option maxRecDepth 100000 in
theorem search_any {f : FuncId} {caps : Array Value} {pr : Nat → Bool} {I : World → Nat → Nat → Prop} {N : Nat → Prop} {vl vs : Value} {lo0 sz0 : Nat} {w : World}
    (hI : ∀ w w' hi c, I w hi c → Ext w w' → I w' hi c) (hN : ∀ k, N k → k < w.heap.size)
    (hT : ∀ w1 p vp hi c, GrN N w w1 → I w1 hi c → NatX w1 N vp p → lo0 ≤ p → p < lo0 + sz0 → c < lenB sz0 → Ret Try.prog f (vp :: caps.toList) w1 fun x w2 => x = .tuple #[.bool (pr p), .int .i64 0] ∧ GrN N w1 w2 ∧ I w2 (if pr p then p else hi) (c + 1))
    (h0 : I w (lo0 + sz0) 0) (hl : NatV w vl lo0) (hs : NatV w vs sz0) (hlb : lo0 < 2000000000) (hsb : sz0 < 2000000000) :
    Ret Try.prog 68 [vl, vs, .func (.func f) #[] caps] w fun x w' => ∃ vp p c, x = .tuple #[vp, .int .i64 0] ∧ NatV w' vp p ∧ I w' p c ∧ GrN N w w' ∧ c ≤ lenB sz0 ∧ lo0 ≤ p ∧ p ≤ lo0 + sz0 ∧ (p = lo0 ∨ pr (p - 1) = false) ∧ (p = lo0 + sz0 ∨ pr p = true) := by
  refine enterR Try.func68 Try.ntmps68 rfl (by kernel_rfl) rfl ?_
  repeat first | refine ω1 ?_ | refine ω2 ?_ | refine ω3 ?_ | refine ω4 ?_ | refine ω5 ?_ | refine χ1 ?_ | refine κ1 ?_ | refine κ2 ?_ | refine χ2 ?_ | refine κ3 ?_ | refine ω6 ?_ | refine ω7 ?_ | refine ω9 ?_ | refine κ4 ?_ | refine κ7 ?_ | refine κ8 ?_ | refine χ3 ?_ | refine χ4 ?_ | refine κ5 ?_ | refine κ6 ?_ | refine χ5 ?_ | refine χ6 ?_ | refine χ7 ?_ | refine ω8 ?_
  refine cl (natNormF_any hl (small1000 (by omega))) ?_
  rintro vl1 w1 ⟨hl1, hf1, hx1⟩
  repeat first | refine ω1 ?_ | refine ω2 ?_ | refine ω3 ?_ | refine ω4 ?_ | refine ω5 ?_ | refine χ1 ?_ | refine κ1 ?_ | refine κ2 ?_ | refine χ2 ?_ | refine κ3 ?_ | refine ω6 ?_ | refine ω7 ?_ | refine ω9 ?_ | refine κ4 ?_ | refine κ7 ?_ | refine κ8 ?_ | refine χ3 ?_ | refine χ4 ?_ | refine κ5 ?_ | refine κ6 ?_ | refine χ5 ?_ | refine χ6 ?_ | refine χ7 ?_ | refine ω8 ?_
  refine cl (natNormF_any (hs.ext hx1) (small1000 (by omega))) ?_
  rintro vs1 w2 ⟨hs1, hf2, hx2⟩
  have hN1 : ∀ k, N k → k < w1.heap.size := fun k hk => Nat.lt_of_lt_of_le (hN k hk) hx1.size
  repeat first | refine ω1 ?_ | refine ω2 ?_ | refine ω3 ?_ | refine ω4 ?_ | refine ω5 ?_ | refine χ1 ?_ | refine κ1 ?_ | refine κ2 ?_ | refine χ2 ?_ | refine κ3 ?_ | refine ω6 ?_ | refine ω7 ?_ | refine ω9 ?_ | refine κ4 ?_ | refine κ7 ?_ | refine κ8 ?_ | refine χ3 ?_ | refine χ4 ?_ | refine κ5 ?_ | refine κ6 ?_ | refine χ5 ?_ | refine χ6 ?_ | refine χ7 ?_ | refine ω8 ?_
  refine wloop5 (fun (a b : Value) (lo sz c : Nat) => [(0, a), (1, b), (2, .func (.func f) #[] caps)])
    (fun a b lo sz c w3 => GrN N w w3 ∧ NatX w3 N a lo ∧ NatX w3 N b sz ∧ I w3 (lo + sz) c ∧ SrI pr I lo0 sz0 lo sz c) (fun _ _ _ sz _ => sz) vl1 vs1 lo0 sz0 0 (by repeat' (first | exact Sub.nil | refine Sub.cons rfl ?_))
    ⟨GrN.ext (hx1.trans hx2), (hf1.x hl1 hN).ext hx2, hf2.x hs1 hN1, hI _ _ _ _ h0 (hx1.trans hx2), ⟨Nat.le_refl _, Nat.le_refl _, by omega, .inl rfl, .inl rfl⟩⟩ ?_
  rintro a b lo sz c w3 ⟨hg3, ha, hb, hI3, hS⟩
  have h1 := hS.low
  have h2 := hS.high
  have hN3 : ∀ k, N k → k < w3.heap.size := fun k hk => Nat.lt_of_lt_of_le (hN k hk) hg3.size
  obtain ⟨B, cb, rfl, hcb, hbl, hbr⟩ := id hb.1
  repeat first | refine ω1 ?_ | refine ω2 ?_ | refine ω3 ?_ | refine ω4 ?_ | refine ω5 ?_ | refine χ1 ?_ | refine κ1 ?_ | refine κ2 ?_ | refine χ2 ?_ | refine κ3 ?_ | refine ω6 ?_ | refine ω7 ?_ | refine ω9 ?_ | refine κ4 ?_ | refine κ7 ?_ | refine κ8 ?_ | refine χ3 ?_ | refine χ4 ?_ | refine κ5 ?_ | refine κ6 ?_ | refine χ5 ?_ | refine χ6 ?_ | refine χ7 ?_ | refine ω8 ?_
  refine ci (fun h => ?_) (fun h => ?_)
  · have hs0 : sz ≠ 0 := fun e => by
      subst e
      have := of_decide_eq_true h
      rw [limbs_0] at this; simp at this
    have hbits := lenB_half hs0
    have hc := hS.cnt
    repeat first | refine ω1 ?_ | refine ω2 ?_ | refine ω3 ?_ | refine ω4 ?_ | refine ω5 ?_ | refine χ1 ?_ | refine κ1 ?_ | refine κ2 ?_ | refine χ2 ?_ | refine κ3 ?_ | refine ω6 ?_ | refine ω7 ?_ | refine ω9 ?_ | refine κ4 ?_ | refine κ7 ?_ | refine κ8 ?_ | refine χ3 ?_ | refine χ4 ?_ | refine κ5 ?_ | refine κ6 ?_ | refine χ5 ?_ | refine χ6 ?_ | refine χ7 ?_ | refine ω8 ?_
    refine cl (natOf_any 2 (by omega) _) ?_
    rintro u w4 ⟨hu, hx4⟩
    repeat first | refine ω1 ?_ | refine ω2 ?_ | refine ω3 ?_ | refine ω4 ?_ | refine ω5 ?_ | refine χ1 ?_ | refine κ1 ?_ | refine κ2 ?_ | refine χ2 ?_ | refine κ3 ?_ | refine ω6 ?_ | refine ω7 ?_ | refine ω9 ?_ | refine κ4 ?_ | refine κ7 ?_ | refine κ8 ?_ | refine χ3 ?_ | refine χ4 ?_ | refine κ5 ?_ | refine κ6 ?_ | refine χ5 ?_ | refine χ6 ?_ | refine χ7 ?_ | refine ω8 ?_
    refine cl (natHalf_any (hb.1.ext hx4) hu (by omega)) ?_
    rintro x w5 ⟨⟨vh, vy, rfl, hh, hfh⟩, hx5⟩
    repeat first | refine ω1 ?_ | refine ω2 ?_ | refine ω3 ?_ | refine ω4 ?_ | refine ω5 ?_ | refine χ1 ?_ | refine κ1 ?_ | refine κ2 ?_ | refine χ2 ?_ | refine κ3 ?_ | refine ω6 ?_ | refine ω7 ?_ | refine ω9 ?_ | refine κ4 ?_ | refine κ7 ?_ | refine κ8 ?_ | refine χ3 ?_ | refine χ4 ?_ | refine κ5 ?_ | refine κ6 ?_ | refine χ5 ?_ | refine χ6 ?_ | refine χ7 ?_ | refine ω8 ?_
    refine cl (natAddF_any ((ha.1.ext hx4).ext hx5) hh (small1000 (by omega)) (small1000 (by omega))) ?_
    rintro vm w6 ⟨hm, hfm, hx6⟩
    have hx36 := (hx4.trans hx5).trans hx6
    have hN4 : ∀ k, N k → k < w4.heap.size := fun k hk => Nat.lt_of_lt_of_le (hN3 k hk) hx4.size
    have hN5 : ∀ k, N k → k < w5.heap.size := fun k hk => Nat.lt_of_lt_of_le (hN4 k hk) hx5.size
    have hhX : NatX w6 N vh (sz / 2) := (hfh.x hh hN4).ext hx6
    have hmX : NatX w6 N vm (lo + sz / 2) := hfm.x hm hN5
    repeat first | refine ω1 ?_ | refine ω2 ?_ | refine ω3 ?_ | refine ω4 ?_ | refine ω5 ?_ | refine χ1 ?_ | refine κ1 ?_ | refine κ2 ?_ | refine χ2 ?_ | refine κ3 ?_ | refine ω6 ?_ | refine ω7 ?_ | refine ω9 ?_ | refine κ4 ?_ | refine κ7 ?_ | refine κ8 ?_ | refine χ3 ?_ | refine χ4 ?_ | refine κ5 ?_ | refine κ6 ?_ | refine χ5 ?_ | refine χ6 ?_ | refine χ7 ?_ | refine ω8 ?_
    refine clv (hT w6 (lo + sz / 2) vm (lo + sz) c (hg3.trans (GrN.ext hx36)) (hI _ _ _ _ hI3 hx36) hmX (by omega) (by omega) (by omega)) ?_
    rintro x w7 ⟨rfl, hg7, hI7⟩
    have hg37 : GrN N w3 w7 := (GrN.ext hx36).trans hg7
    repeat first | refine ω1 ?_ | refine ω2 ?_ | refine ω3 ?_ | refine ω4 ?_ | refine ω5 ?_ | refine χ1 ?_ | refine κ1 ?_ | refine κ2 ?_ | refine χ2 ?_ | refine κ3 ?_ | refine ω6 ?_ | refine ω7 ?_ | refine ω9 ?_ | refine κ4 ?_ | refine κ7 ?_ | refine κ8 ?_ | refine χ3 ?_ | refine χ4 ?_ | refine κ5 ?_ | refine κ6 ?_ | refine χ5 ?_ | refine χ6 ?_ | refine χ7 ?_ | refine ω8 ?_
    refine ci (fun hp => ?_) (fun hp => ?_)
    · repeat first | refine ω1 ?_ | refine ω2 ?_ | refine ω3 ?_ | refine ω4 ?_ | refine ω5 ?_ | refine χ1 ?_ | refine κ1 ?_ | refine κ2 ?_ | refine χ2 ?_ | refine κ3 ?_ | refine ω6 ?_ | refine ω7 ?_ | refine ω9 ?_ | refine κ4 ?_ | refine κ7 ?_ | refine κ8 ?_ | refine χ3 ?_ | refine χ4 ?_ | refine κ5 ?_ | refine κ6 ?_ | refine χ5 ?_ | refine χ6 ?_ | refine χ7 ?_ | refine ω8 ?_
      rw [hp, if_pos rfl] at hI7
      refine qround5 a vh lo (sz / 2) (c + 1) (by repeat' (first | exact Sub.nil | refine Sub.cons rfl ?_)) ⟨hg3.trans hg37, ha.gr hg37, hhX.gr hg7, hI7, ⟨h1, by omega, by omega, hS.bel, .inr hp⟩⟩ (by omega)
    · repeat first | refine ω1 ?_ | refine ω2 ?_ | refine ω3 ?_ | refine ω4 ?_ | refine ω5 ?_ | refine χ1 ?_ | refine κ1 ?_ | refine κ2 ?_ | refine χ2 ?_ | refine κ3 ?_ | refine ω6 ?_ | refine ω7 ?_ | refine ω9 ?_ | refine κ4 ?_ | refine κ7 ?_ | refine κ8 ?_ | refine χ3 ?_ | refine χ4 ?_ | refine κ5 ?_ | refine κ6 ?_ | refine χ5 ?_ | refine χ6 ?_ | refine χ7 ?_ | refine ω8 ?_
      rw [hp] at hI7
      rw [if_neg (by decide)] at hI7
      refine cl (natOf_any 1 (by omega) _) ?_
      rintro u1 w8 ⟨hu1, hx8⟩
      repeat first | refine ω1 ?_ | refine ω2 ?_ | refine ω3 ?_ | refine ω4 ?_ | refine ω5 ?_ | refine χ1 ?_ | refine κ1 ?_ | refine κ2 ?_ | refine χ2 ?_ | refine κ3 ?_ | refine ω6 ?_ | refine ω7 ?_ | refine ω9 ?_ | refine κ4 ?_ | refine κ7 ?_ | refine κ8 ?_ | refine χ3 ?_ | refine χ4 ?_ | refine κ5 ?_ | refine κ6 ?_ | refine χ5 ?_ | refine χ6 ?_ | refine χ7 ?_ | refine ω8 ?_
      refine cl (natAddF_any ((hmX.gr hg7).1.ext hx8) hu1 (small1000 (by omega)) (small1000 (by omega))) ?_
      rintro vl2 w9 ⟨hl2, hfl2, hx9⟩
      repeat first | refine ω1 ?_ | refine ω2 ?_ | refine ω3 ?_ | refine ω4 ?_ | refine ω5 ?_ | refine χ1 ?_ | refine κ1 ?_ | refine κ2 ?_ | refine χ2 ?_ | refine κ3 ?_ | refine ω6 ?_ | refine ω7 ?_ | refine ω9 ?_ | refine κ4 ?_ | refine κ7 ?_ | refine κ8 ?_ | refine χ3 ?_ | refine χ4 ?_ | refine κ5 ?_ | refine κ6 ?_ | refine χ5 ?_ | refine χ6 ?_ | refine χ7 ?_ | refine ω8 ?_
      refine cl (natOf_any 1 (by omega) _) ?_
      rintro u2 w10 ⟨hu2, hx10⟩
      repeat first | refine ω1 ?_ | refine ω2 ?_ | refine ω3 ?_ | refine ω4 ?_ | refine ω5 ?_ | refine χ1 ?_ | refine κ1 ?_ | refine κ2 ?_ | refine χ2 ?_ | refine κ3 ?_ | refine ω6 ?_ | refine ω7 ?_ | refine ω9 ?_ | refine κ4 ?_ | refine κ7 ?_ | refine κ8 ?_ | refine χ3 ?_ | refine χ4 ?_ | refine κ5 ?_ | refine κ6 ?_ | refine χ5 ?_ | refine χ6 ?_ | refine χ7 ?_ | refine ω8 ?_
      have hx79 := (hx8.trans hx9).trans hx10
      refine cl (natAdd_any ((hhX.gr hg7).1.ext hx79) hu2 (small1000 (by omega)) (small1000 (by omega))) ?_
      rintro vq w11 ⟨hq, hx11⟩
      have hx711 := hx79.trans hx11
      repeat first | refine ω1 ?_ | refine ω2 ?_ | refine ω3 ?_ | refine ω4 ?_ | refine ω5 ?_ | refine χ1 ?_ | refine κ1 ?_ | refine κ2 ?_ | refine χ2 ?_ | refine κ3 ?_ | refine ω6 ?_ | refine ω7 ?_ | refine ω9 ?_ | refine κ4 ?_ | refine κ7 ?_ | refine κ8 ?_ | refine χ3 ?_ | refine χ4 ?_ | refine κ5 ?_ | refine κ6 ?_ | refine χ5 ?_ | refine χ6 ?_ | refine χ7 ?_ | refine ω8 ?_
      refine cl (natSubF_any ((hb.gr hg37).1.ext hx711) hq (small1000 (by omega))) ?_
      rintro y w12 ⟨⟨vz, rfl, hz, hfz⟩, hx12⟩
      have hsz7 := hg37.size
      have hN8 : ∀ k, N k → k < w8.heap.size := fun k hk => Nat.lt_of_lt_of_le (hN3 k hk) (Nat.le_trans hsz7 hx8.size)
      have hN11 : ∀ k, N k → k < w11.heap.size := fun k hk => Nat.lt_of_lt_of_le (hN3 k hk) (Nat.le_trans hsz7 hx711.size)
      have hx712 := hx711.trans hx12
      repeat first | refine ω1 ?_ | refine ω2 ?_ | refine ω3 ?_ | refine ω4 ?_ | refine ω5 ?_ | refine χ1 ?_ | refine κ1 ?_ | refine κ2 ?_ | refine χ2 ?_ | refine κ3 ?_ | refine ω6 ?_ | refine ω7 ?_ | refine ω9 ?_ | refine κ4 ?_ | refine κ7 ?_ | refine κ8 ?_ | refine χ3 ?_ | refine χ4 ?_ | refine κ5 ?_ | refine κ6 ?_ | refine χ5 ?_ | refine χ6 ?_ | refine χ7 ?_ | refine ω8 ?_
      have e1 : lo + sz / 2 + 1 + (sz - (sz / 2 + 1)) = lo + sz := by omega
      have hm2 : lenB (sz - (sz / 2 + 1)) ≤ lenB (sz / 2) := lenB_mono (by omega)
      refine qround5 vl2 vz (lo + sz / 2 + 1) (sz - (sz / 2 + 1)) (c + 1) (by repeat' (first | exact Sub.nil | refine Sub.cons rfl ?_)) ⟨(hg3.trans hg37).trans (GrN.ext hx712), ((hfl2.x hl2 hN8).ext hx10).ext (hx11.trans hx12), hfz.x hz hN11, by rw [e1]; exact hI _ _ _ _ hI7 hx712, ⟨by omega, by omega, by omega, .inr (by rw [Nat.add_sub_cancel]; exact hp), by rw [e1]; exact hS.abv⟩⟩ (by omega)
  · have hs0 : sz = 0 := by
      have := of_decide_eq_false h
      rcases Nat.eq_zero_or_pos sz with h0 | h0
      · exact h0
      · exfalso
        apply this
        have : limbs sz ≠ [] := fun e => by rw [limbs_pos (by omega)] at e; cases e
        have := List.length_pos_iff.2 this
        omega
    subst hs0
    have hc := hS.cnt
    repeat first | refine ω1 ?_ | refine ω2 ?_ | refine ω3 ?_ | refine ω4 ?_ | refine ω5 ?_ | refine χ1 ?_ | refine κ1 ?_ | refine κ2 ?_ | refine χ2 ?_ | refine κ3 ?_ | refine ω6 ?_ | refine ω7 ?_ | refine ω9 ?_ | refine κ4 ?_ | refine κ7 ?_ | refine κ8 ?_ | refine χ3 ?_ | refine χ4 ?_ | refine κ5 ?_ | refine κ6 ?_ | refine χ5 ?_ | refine χ6 ?_ | refine χ7 ?_ | refine ω8 ?_
    exact fin2 ⟨a, lo, c, rfl, ha.1, hI3, hg3, by omega, h1, h2, hS.bel, hS.abv⟩
end Go.Proofs.Ytpahjnfolbnloaa
/- Plain mathematics of the difference of two arrays. No program in sight. -/
set_option linter.unusedVariables false
namespace Go.Proofs.Ytpahjnfolbnloaa
open Pl
section
variable {A C : List Row}
/-- the common rows ahead of a position -/
def cF (A C : List Row) (i : Nat) : Nat := ((A.take i).filter (fun r => decide (r ∈ C))).length
/-- the other rows ahead of a position -/
def dF (A C : List Row) (i : Nat) : Nat := ((A.take i).filter (fun r => !decide (r ∈ C))).length
/-- the difference -/
def dif2 (A C : List Row) : List Row := A.filter (fun r => !decide (r ∈ C))
theorem take_snoc {A : List Row} {i : Nat} (h : i < A.length) : A.take (i + 1) = A.take i ++ [A.getD i []] := by
  rw [List.take_succ_eq_append_getElem h]; simp [List.getD, List.getElem?_eq_getElem h]
theorem cF_succ {i : Nat} (h : i < A.length) : cF A C (i + 1) = cF A C i + (if A.getD i [] ∈ C then 1 else 0) := by
  unfold cF
  rw [take_snoc h, List.filter_append, List.length_append]
  by_cases hc : A.getD i [] ∈ C
  · rw [if_pos hc, List.filter_cons_of_pos (by simpa using hc)]; rfl
  · rw [if_neg hc, List.filter_cons_of_neg (by simpa using hc)]; rfl
theorem dF_succ {i : Nat} (h : i < A.length) : dF A C (i + 1) = dF A C i + (if A.getD i [] ∈ C then 0 else 1) := by
  unfold dF
  rw [take_snoc h, List.filter_append, List.length_append]
  by_cases hc : A.getD i [] ∈ C
  · rw [if_pos hc, List.filter_cons_of_neg (by simpa using hc)]; rfl
  · rw [if_neg hc, List.filter_cons_of_pos (by simpa using hc)]; rfl
theorem cd_sum {i : Nat} (h : i ≤ A.length) : cF A C i + dF A C i = i := by
  induction i with
  | zero => simp [cF, dF]
  | succ i ih =>
    have := ih (by omega)
    rw [cF_succ (by omega), dF_succ (by omega)]
    split <;> omega
theorem cF_all : cF A C A.length = (A.filter (fun r => decide (r ∈ C))).length := by unfold cF; rw [List.take_length]
theorem cF_mono {i j : Nat} (h : i ≤ j) : cF A C i ≤ cF A C j := by
  unfold cF
  have : (A.take i).Sublist (A.take j) := by
    have e : A.take i = (A.take j).take i := by rw [List.take_take, Nat.min_eq_left h]
    rw [e]
    exact List.take_sublist _ _
  exact (this.filter _).length_le
theorem dif2_at {i : Nat} (h : i < A.length) (hc : A.getD i [] ∉ C) : (dif2 A C).getD (dF A C i) [] = A.getD i [] ∧ dF A C i < (dif2 A C).length := by
  have e : dif2 A C = (A.take i).filter (fun r => !decide (r ∈ C)) ++ (A.getD i [] :: (A.drop (i + 1)).filter (fun r => !decide (r ∈ C))) := by
    unfold dif2
    conv => lhs; rw [← List.take_append_drop i A, List.filter_append]
    congr 1
    rw [List.drop_eq_getElem_cons h]
    have e2 : A.getD i [] = A[i] := by simp [List.getD, List.getElem?_eq_getElem h]
    rw [e2] at hc ⊢
    rw [List.filter_cons_of_pos (by simpa using hc)]
  rw [e]
  unfold dF
  refine ⟨?_, by simp⟩
  simp [List.getD]
/-- what the code relies on -/
structure DifH (A C : List Row) (RC : Row → Nat) : Prop where
  rank : ∀ i, i < A.length → RC (A.getD i []) = cF A C i
  size : C.length = cF A C A.length
theorem DifH.len {RC : Row → Nat} (h : DifH A C RC) : (dif2 A C).length = A.length - C.length ∧ C.length ≤ A.length := by
  have h1 := cd_sum (A := A) (C := C) (Nat.le_refl _)
  have h2 := h.size
  have h3 : dF A C A.length = (dif2 A C).length := by unfold dF dif2; rw [List.take_length]
  omega
/-- the test of the search -/
def prD (A C : List Row) (k p : Nat) : Bool := decide (k + cF A C (p + 1) ≤ p)
theorem found {RC : Row → Nat} (h : DifH A C RC) {k p : Nat} (hk : k < (dif2 A C).length) (h1 : k ≤ p) (h2 : p ≤ k + C.length) (h3 : p = k ∨ prD A C k (p - 1) = false) (h4 : p = k + C.length ∨ prD A C k p = true) :
    p < A.length ∧ A.getD p [] = (dif2 A C).getD k [] := by
  obtain ⟨hl, hca⟩ := h.len
  have hp : p < A.length := by omega
  have s1 := cd_sum (A := A) (C := C) (i := p) (by omega)
  have s2 := cd_sum (A := A) (C := C) (i := p + 1) (by omega)
  have hm : cF A C (p + 1) ≤ C.length := by rw [h.size]; exact cF_mono (by omega)
  have g1 : k + 1 ≤ dF A C (p + 1) := by
    rcases h4 with h4 | h4
    · omega
    · have := of_decide_eq_true h4; omega
  have g2 : dF A C p ≤ k := by
    rcases h3 with h3 | h3
    · omega
    · have h3 := of_decide_eq_false h3
      rcases Nat.eq_zero_or_pos p with h0 | h0
      · subst h0; omega
      · rw [Nat.sub_add_cancel h0] at h3; omega
  have g3 := dF_succ (C := C) hp
  by_cases hc : A.getD p [] ∈ C
  · rw [if_pos hc] at g3; omega
  · rw [if_neg hc] at g3
    have : dF A C p = k := by omega
    refine ⟨hp, ?_⟩
    rw [← this]
    exact (dif2_at hp hc).1.symm
end
end Go.Proofs.Ytpahjnfolbnloaa
/- The difference of two arrays: the closure of At. -/
set_option linter.unusedVariables false
namespace Go.Proofs.Ytpahjnfolbnloaa
open Go.RowKit Pl Go.Wk
attribute [local irreducible] WC WL QX WD WDB WP
theorem RowX.gr {N : Nat → Prop} {w w' : World} {v : Value} {r : List V} (h : RowX w N v r) (hg : GrN N w w') : RowX w' N v r := by
  obtain ⟨A, c, h1, h2, h3, h4, h5⟩ := h
  refine ⟨A, c, h1, h2, h3, ?_, h5⟩
  by_cases h0 : r = []
  · subst h0; exact Rd.nil
  · exact rdGr h4 hg (fun ad e => h5 h0 ad e)
/-- what Rank returns, off some blocks -/
def RankX (w : World) (N : Nat → Prop) (L : List Row) (R : Row → Nat) (B : Nat) (r : Row) (x : Value) : Prop :=
  ∃ vn, ∃ s : Nat, x = .tuple #[vn, .bool (decide (r ∈ L)), .int .i64 (s : Int), .int .i64 0] ∧ NatX w N vn (R r) ∧ s ≤ B
/-- an array whose answers lie off whatever was made between; Rank is known for some rows -/
structure ArrO (w : World) (v : Value) (L : List Row) (R : Row → Nat) (B : Nat) (S : Row → Prop) : Prop where
  len : ∃ f rv, Meth Try.prog v "Len" f rv ∧ ∀ w', Ext w w' → Ret Try.prog f [rv] w' fun x w'' => NatV w'' x L.length ∧ Ext w' w''
  at_ : ∃ f rv, Meth Try.prog v "At" f rv ∧ ∀ w', Ext w w' → ∀ (N : Nat → Prop), (∀ k, N k → w.heap.size ≤ k ∧ k < w'.heap.size) → ∀ k vk, NatV w' vk k → k < 9223372036854775808 → Ret Try.prog f [rv, vk] w' fun x w'' => AtX w'' N L B k x ∧ Ext w' w''
  rank : ∃ f rv, Meth Try.prog v "Rank" f rv ∧ ∀ w', Ext w w' → ∀ (N : Nat → Prop), (∀ k, N k → w.heap.size ≤ k ∧ k < w'.heap.size) → ∀ r vr, S r → RowV w' vr r → Ret Try.prog f [rv, vr] w' fun x w'' => RankX w'' N L R B r x ∧ Ext w' w''
  small : L.length ≤ 1100000
  rk : ∀ r, S r → R r ≤ L.length
  bd : B ≤ 1000000
theorem ArrO.ext {w w' : World} {v : Value} {L : List Row} {R : Row → Nat} {B : Nat} {S : Row → Prop} (h : ArrO w v L R B S) (hx : Ext w w') : ArrO w' v L R B S := by
  obtain ⟨⟨f1, r1, m1, h1⟩, ⟨f2, r2, m2, h2⟩, ⟨f3, r3, m3, h3⟩, h4, h5, h6⟩ := h
  exact ⟨⟨f1, r1, m1, fun w2 hx2 => h1 w2 (hx.trans hx2)⟩, ⟨f2, r2, m2, fun w2 hx2 N hN => h2 w2 (hx.trans hx2) N (fun k hk => ⟨Nat.le_trans hx.size (hN k hk).1, (hN k hk).2⟩)⟩, ⟨f3, r3, m3, fun w2 hx2 N hN => h3 w2 (hx.trans hx2) N (fun k hk => ⟨Nat.le_trans hx.size (hN k hk).1, (hN k hk).2⟩)⟩, h4, h5, h6⟩
theorem ArrO.form {w : World} {v : Value} {L : List Row} {R : Row → Nat} {B : Nat} {S : Row → Prop} (h : ArrO w v L R B S) : ∃ t x, v = .iface t x := by
  obtain ⟨⟨f1, r1, ⟨t, x, rfl, _⟩, h1⟩, _⟩ := h; exact ⟨t, x, rfl⟩
/-- the boxes of the closure -/
def box3 (bs bl bn : Nat) (k : Nat) : Prop := k = bs ∨ k = bl ∨ k = bn
/-- what the boxes hold -/
structure AtI (A C : List Row) (k S bs bl bn : Nat) (a w : World) (hi c : Nat) : Prop where
  old : Ext a w
  steps : ∃ s : Nat, Blk w bs 3 [.int .i64 (s : Int)] ∧ s ≤ S * c
  last : ∃ kn vl, Blk w bl 25 [vl] ∧ vl.oneCell' = true ∧ Blk w bn 4 [.bool kn] ∧ (kn = true → RowX w (box3 bs bl bn) vl (A.getD hi [])) ∧ (kn = false → hi = k + C.length)
theorem lenB_pow {x k : Nat} (h : x < 2 ^ k) : lenB x ≤ k := by
  unfold lenB
  split
  · omega
  · rename_i h0
    have := (Nat.log2_lt h0).2 h
    omega
set_option maxRecDepth 100000 in
theorem at1_any {A C : List Row} {RA RC : Row → Nat} {BA BC : Nat} {SA SC : Row → Prop} {va vc vk vp : Value} {k p bd bk bs bl bn hi c : Nat} {w0 a w : World}
    (hD : DifH A C RC) (ha : ArrO w0 va A RA BA SA) (hc : ArrO w0 vc C RC BC SC) (hSC : ∀ r, r ∈ A → SC r) (hx0 : Ext w0 a) (hbd : Blk a bd 66 [va, vc]) (hbk : Blk a bk 33 [vk]) (hk : NatV a vk k) (hkb : k < 2000000)
    (h1 : a.heap.size ≤ bs) (h2 : a.heap.size ≤ bl) (h3 : a.heap.size ≤ bn) (hsl : bs ≠ bl) (hsn : bs ≠ bn) (hln : bl ≠ bn)
    (hI : AtI A C k (BA + BC) bs bl bn a w hi c) (hp : NatX w (box3 bs bl bn) vp p) (hpA : p < A.length) (hcb : c ≤ 64) :
    Ret Try.prog 69 [vp, .pointer (some ⟨bd, 0, none⟩), .pointer (some ⟨bs, 0, none⟩), .pointer (some ⟨bk, 0, none⟩), .pointer (some ⟨bl, 0, none⟩), .pointer (some ⟨bn, 0, none⟩)] w
      fun x w' => x = .tuple #[.bool (prD A C k p), .int .i64 0] ∧ GrN (box3 bs bl bn) w w' ∧ AtI A C k (BA + BC) bs bl bn a w' (if prD A C k p then p else hi) (c + 1) := by
  have hba := ha.bd
  have hbc := hc.bd
  have hsA := ha.small
  obtain ⟨hxa, ⟨s0, hbs, hs0⟩, kn, vl, hbl, hvl, hbn, hkn1, hkn0⟩ := hI
  obtain ⟨fA, rA, mA, hA⟩ := ha.at_
  obtain ⟨fC, rC, mC, hCk⟩ := hc.rank
  have hN : ∀ k, box3 bs bl bn k → w0.heap.size ≤ k ∧ k < w.heap.size := fun k hk => by
    have := hx0.size
    have l1 := hbs.lt
    have l2 := hbl.lt
    have l3 := hbn.lt
    rcases hk with rfl | rfl | rfl <;> constructor <;> omega
  have hbd0 := hbd.ext hxa
  refine enterR Try.func69 Try.ntmps69 rfl (by kernel_rfl) rfl ?_
  repeat first | refine ω1 ?_ | refine ω2 ?_ | refine ω3 ?_ | refine ω4 ?_ | refine ω5 ?_ | refine χ1 ?_ | refine κ1 ?_ | refine κ2 ?_ | refine χ2 ?_ | refine κ3 ?_ | refine ω6 ?_ | refine ω7 ?_ | refine ω9 ?_ | refine κ4 ?_ | refine κ7 ?_ | refine κ8 ?_ | refine χ3 ?_ | refine χ4 ?_ | refine κ5 ?_ | refine κ6 ?_ | refine χ5 ?_ | refine χ6 ?_ | refine χ7 ?_ | refine ω8 ?_
  refine ld (hbd0.at rfl) ?_
  repeat first | refine ω1 ?_ | refine ω2 ?_ | refine ω3 ?_ | refine ω4 ?_ | refine ω5 ?_ | refine χ1 ?_ | refine κ1 ?_ | refine κ2 ?_ | refine χ2 ?_ | refine κ3 ?_ | refine ω6 ?_ | refine ω7 ?_ | refine ω9 ?_ | refine κ4 ?_ | refine κ7 ?_ | refine κ8 ?_ | refine χ3 ?_ | refine χ4 ?_ | refine κ5 ?_ | refine κ6 ?_ | refine χ5 ?_ | refine χ6 ?_ | refine χ7 ?_ | refine ω8 ?_
  refine inv mA (hA w (hx0.trans hxa) _ hN p vp hp.1 (by omega)) ?_
  rintro y w1 ⟨hy, hx1⟩
  unfold AtX at hy
  rw [if_pos hpA] at hy
  obtain ⟨vr, s1, rfl, hr1, hs1⟩ := hy
  have hbs1 := hbs.ext hx1
  repeat first | refine ω1 ?_ | refine ω2 ?_ | refine ω3 ?_ | refine ω4 ?_ | refine ω5 ?_ | refine χ1 ?_ | refine κ1 ?_ | refine κ2 ?_ | refine χ2 ?_ | refine κ3 ?_ | refine ω6 ?_ | refine ω7 ?_ | refine ω9 ?_ | refine κ4 ?_ | refine κ7 ?_ | refine κ8 ?_ | refine χ3 ?_ | refine χ4 ?_ | refine κ5 ?_ | refine κ6 ?_ | refine χ5 ?_ | refine χ6 ?_ | refine χ7 ?_ | refine ω8 ?_
  refine ld (hbs1.cell 0) ?_
  have hm : (BA + BC) * c ≤ 2000000 * 64 := Nat.mul_le_mul (by omega) hcb
  repeat first | refine ω1 ?_ | refine ω2 ?_ | refine ω3 ?_ | refine ω4 ?_ | refine ω5 ?_ | refine χ1 ?_ | refine κ1 ?_ | refine κ2 ?_ | refine χ2 ?_ | refine κ3 ?_ | refine ω6 ?_ | refine ω7 ?_ | refine ω9 ?_ | refine κ4 ?_ | refine κ7 ?_ | refine κ8 ?_ | refine χ3 ?_ | refine χ4 ?_ | refine κ5 ?_ | refine κ6 ?_ | refine χ5 ?_ | refine χ6 ?_ | refine χ7 ?_ | refine ω8 ?_
  refine sto (hbs1.cell 0) (hbs1.frozen 0) ?_
  have hbs2 := hbs1.set 0 (.int .i64 ((s0 : Int) + (s1 : Int)))
  have hg2 : GrN (box3 bs bl bn) w1 (w1.setCell ⟨bs, 0, none⟩ (.int .i64 ((s0 : Int) + (s1 : Int)))) := GrN.set _ (.inl rfl)
  have hx2 : Ext a (w1.setCell ⟨bs, 0, none⟩ (.int .i64 ((s0 : Int) + (s1 : Int)))) := (hxa.trans hx1).setCell h1 _
  have hg02 := (GrN.ext hx1).trans hg2
  have hbl2 := (hbl.ext hx1).far (p := ⟨bs, 0, none⟩) (Ne.symm hsl) (.int .i64 ((s0 : Int) + (s1 : Int)))
  have hbn2 := (hbn.ext hx1).far (p := ⟨bs, 0, none⟩) (Ne.symm hsn) (.int .i64 ((s0 : Int) + (s1 : Int)))
  generalize w1.setCell ⟨bs, 0, none⟩ (.int .i64 ((s0 : Int) + (s1 : Int))) = w2 at *
  simp only [List.set_cons_zero] at hbs2
  have hr2 := hr1.gr hg2
  have hp2 := hp.gr hg02
  repeat first | refine ω1 ?_ | refine ω2 ?_ | refine ω3 ?_ | refine ω4 ?_ | refine ω5 ?_ | refine χ1 ?_ | refine κ1 ?_ | refine κ2 ?_ | refine χ2 ?_ | refine κ3 ?_ | refine ω6 ?_ | refine ω7 ?_ | refine ω9 ?_ | refine κ4 ?_ | refine κ7 ?_ | refine κ8 ?_ | refine χ3 ?_ | refine χ4 ?_ | refine κ5 ?_ | refine κ6 ?_ | refine χ5 ?_ | refine χ6 ?_ | refine χ7 ?_ | refine ω8 ?_
  obtain ⟨tc, xc, rfl⟩ := hc.form
  refine dr [(0, 0), (0, 1), (0, 2), (0, 4), (0, 5), (1, 3), (1, 6), (0, 7), (0, 8), (0, 9), (0, 10), (0, 11), (0, 12), (0, 13), (0, 14), (0, 15)] (by kernel_rfl) ?_
  have hxd : Ext w2 w2.drew := (Ext.refl w2).drew
  repeat first | refine δ1 ?_ | refine δ2 ?_ | refine δ4 ?_ | refine δ5 ?_ | refine δ6 ?_ | refine δ7 ?_ | refine δ9 ?_ | refine δ8 ?_ | refine χ1 ?_ | refine χ2 ?_ | refine χ3 ?_ | refine χ4 ?_ | refine χ5 ?_ | refine χ6 ?_ | refine χ7 ?_
  refine dld (((hbd.ext hx2).ext hxd).at rfl) ?_
  repeat first | refine δ1 ?_ | refine δ2 ?_ | refine δ4 ?_ | refine δ5 ?_ | refine δ6 ?_ | refine δ7 ?_ | refine δ9 ?_ | refine δ8 ?_ | refine χ1 ?_ | refine χ2 ?_ | refine χ3 ?_ | refine χ4 ?_ | refine χ5 ?_ | refine χ6 ?_ | refine χ7 ?_
  refine dnci ?_
  repeat first | refine δ1 ?_ | refine δ2 ?_ | refine δ4 ?_ | refine δ5 ?_ | refine δ6 ?_ | refine δ7 ?_ | refine δ9 ?_ | refine δ8 ?_ | refine χ1 ?_ | refine χ2 ?_ | refine χ3 ?_ | refine χ4 ?_ | refine χ5 ?_ | refine χ6 ?_ | refine χ7 ?_
  refine dcl (cloneRowV (hr2.v.ext hxd) (fun _ => False) (fun _ h => h.elim)) ?_
  rintro vr3 w3 ⟨hr3, hx3⟩
  refine ⟨hx3, ?_⟩
  have hx23 := hxd.trans hx3
  have hmem : A.getD p [] ∈ A := by simp [List.getD, List.getElem?_eq_getElem hpA]
  have hN3 : ∀ k, box3 bs bl bn k → w0.heap.size ≤ k ∧ k < w3.heap.size := fun k hk => ⟨(hN k hk).1, Nat.lt_of_lt_of_le (hN k hk).2 (Nat.le_trans hg02.size hx23.size)⟩
  repeat first | refine δ1 ?_ | refine δ2 ?_ | refine δ4 ?_ | refine δ5 ?_ | refine δ6 ?_ | refine δ7 ?_ | refine δ9 ?_ | refine δ8 ?_ | refine χ1 ?_ | refine χ2 ?_ | refine χ3 ?_ | refine χ4 ?_ | refine χ5 ?_ | refine χ6 ?_ | refine χ7 ?_
  refine dinv mC (hCk w3 ((hx0.trans hx2).trans hx23) _ hN3 (A.getD p []) vr3 (hSC _ hmem) hr3.v) ?_
  rintro y w4 ⟨⟨vn, s2, rfl, hn4, hs2⟩, hx4⟩
  refine ⟨hx4, ?_⟩
  have hx24 := hx23.trans hx4
  have hbs4 := hbs2.ext hx24
  repeat first | refine δ1 ?_ | refine δ2 ?_ | refine δ4 ?_ | refine δ5 ?_ | refine δ6 ?_ | refine δ7 ?_ | refine δ9 ?_ | refine δ8 ?_ | refine χ1 ?_ | refine χ2 ?_ | refine χ3 ?_ | refine χ4 ?_ | refine χ5 ?_ | refine χ6 ?_ | refine χ7 ?_
  repeat first | refine ω1 ?_ | refine ω2 ?_ | refine ω3 ?_ | refine ω4 ?_ | refine ω5 ?_ | refine χ1 ?_ | refine κ1 ?_ | refine κ2 ?_ | refine χ2 ?_ | refine κ3 ?_ | refine ω6 ?_ | refine ω7 ?_ | refine ω9 ?_ | refine κ4 ?_ | refine κ7 ?_ | refine κ8 ?_ | refine χ3 ?_ | refine χ4 ?_ | refine κ5 ?_ | refine κ6 ?_ | refine χ5 ?_ | refine χ6 ?_ | refine χ7 ?_ | refine ω8 ?_
  refine ld (hbs4.cell 0) ?_
  repeat first | refine ω1 ?_ | refine ω2 ?_ | refine ω3 ?_ | refine ω4 ?_ | refine ω5 ?_ | refine χ1 ?_ | refine κ1 ?_ | refine κ2 ?_ | refine χ2 ?_ | refine κ3 ?_ | refine ω6 ?_ | refine ω7 ?_ | refine ω9 ?_ | refine κ4 ?_ | refine κ7 ?_ | refine κ8 ?_ | refine χ3 ?_ | refine χ4 ?_ | refine κ5 ?_ | refine κ6 ?_ | refine χ5 ?_ | refine χ6 ?_ | refine χ7 ?_ | refine ω8 ?_
  refine sto (hbs4.cell 0) (hbs4.frozen 0) ?_
  have hbs5 := hbs4.set 0 (.int .i64 ((s0 : Int) + (s1 : Int) + (s2 : Int)))
  have hg5 : GrN (box3 bs bl bn) w4 (w4.setCell ⟨bs, 0, none⟩ (.int .i64 ((s0 : Int) + (s1 : Int) + (s2 : Int)))) := GrN.set _ (.inl rfl)
  have hx5 : Ext a (w4.setCell ⟨bs, 0, none⟩ (.int .i64 ((s0 : Int) + (s1 : Int) + (s2 : Int)))) := (hx2.trans hx24).setCell h1 _
  have hg05 := (hg02.trans (GrN.ext hx24)).trans hg5
  have hbl5 := (hbl2.ext hx24).far (p := ⟨bs, 0, none⟩) (Ne.symm hsl) (.int .i64 ((s0 : Int) + (s1 : Int) + (s2 : Int)))
  have hbn5 := (hbn2.ext hx24).far (p := ⟨bs, 0, none⟩) (Ne.symm hsn) (.int .i64 ((s0 : Int) + (s1 : Int) + (s2 : Int)))
  have hr5 := (hr2.ext hx24).gr hg5
  have hp5 := (hp2.ext hx24).gr hg5
  have hn5 := hn4.gr hg5
  generalize w4.setCell ⟨bs, 0, none⟩ (.int .i64 ((s0 : Int) + (s1 : Int) + (s2 : Int))) = w5 at *
  simp only [List.set_cons_zero] at hbs5
  rw [hD.rank p hpA] at hn5
  have hcl : cF A C p ≤ A.length := by have := cd_sum (A := A) (C := C) (i := p) (by omega); omega
  repeat first | refine ω1 ?_ | refine ω2 ?_ | refine ω3 ?_ | refine ω4 ?_ | refine ω5 ?_ | refine χ1 ?_ | refine κ1 ?_ | refine κ2 ?_ | refine χ2 ?_ | refine κ3 ?_ | refine ω6 ?_ | refine ω7 ?_ | refine ω9 ?_ | refine κ4 ?_ | refine κ7 ?_ | refine κ8 ?_ | refine χ3 ?_ | refine χ4 ?_ | refine κ5 ?_ | refine κ6 ?_ | refine χ5 ?_ | refine χ6 ?_ | refine χ7 ?_ | refine ω8 ?_
  refine wjoin1 (fun u : Value => [(9, vr), (0, vp), (2, .pointer (some ⟨bs, 0, none⟩)), (3, .pointer (some ⟨bk, 0, none⟩)), (4, .pointer (some ⟨bl, 0, none⟩)), (5, .pointer (some ⟨bn, 0, none⟩)), (12, u)])
    (fun u w6 => Ext w5 w6 ∧ NatV w6 u (cF A C (p + 1))) ?_ ?_
  · refine ci (fun h => ?_) (fun h => ?_)
    · have hin : A.getD p [] ∈ C := of_decide_eq_true h
      repeat first | refine ω1 ?_ | refine ω2 ?_ | refine ω3 ?_ | refine ω4 ?_ | refine ω5 ?_ | refine χ1 ?_ | refine κ1 ?_ | refine κ2 ?_ | refine χ2 ?_ | refine κ3 ?_ | refine ω6 ?_ | refine ω7 ?_ | refine ω9 ?_ | refine κ4 ?_ | refine κ7 ?_ | refine κ8 ?_ | refine χ3 ?_ | refine χ4 ?_ | refine κ5 ?_ | refine κ6 ?_ | refine χ5 ?_ | refine χ6 ?_ | refine χ7 ?_ | refine ω8 ?_
      refine cl (natOf_any 1 (by omega) _) ?_
      rintro u1 w6 ⟨hu1, hx6⟩
      repeat first | refine ω1 ?_ | refine ω2 ?_ | refine ω3 ?_ | refine ω4 ?_ | refine ω5 ?_ | refine χ1 ?_ | refine κ1 ?_ | refine κ2 ?_ | refine χ2 ?_ | refine κ3 ?_ | refine ω6 ?_ | refine ω7 ?_ | refine ω9 ?_ | refine κ4 ?_ | refine κ7 ?_ | refine κ8 ?_ | refine χ3 ?_ | refine χ4 ?_ | refine κ5 ?_ | refine κ6 ?_ | refine χ5 ?_ | refine χ6 ?_ | refine χ7 ?_ | refine ω8 ?_
      refine cl (natAdd_any (hn5.1.ext hx6) hu1 (small1000 (by omega)) (small1000 (by omega))) ?_
      rintro u2 w7 ⟨hu2, hx7⟩
      repeat first | refine ω1 ?_ | refine ω2 ?_ | refine ω3 ?_ | refine ω4 ?_ | refine ω5 ?_ | refine χ1 ?_ | refine κ1 ?_ | refine κ2 ?_ | refine χ2 ?_ | refine κ3 ?_ | refine ω6 ?_ | refine ω7 ?_ | refine ω9 ?_ | refine κ4 ?_ | refine κ7 ?_ | refine κ8 ?_ | refine χ3 ?_ | refine χ4 ?_ | refine κ5 ?_ | refine κ6 ?_ | refine χ5 ?_ | refine χ6 ?_ | refine χ7 ?_ | refine ω8 ?_
      exact qjoin1 u2 (by repeat' (first | exact Sub.nil | refine Sub.cons rfl ?_)) ⟨hx6.trans hx7, by rw [cF_succ hpA, if_pos hin]; exact hu2⟩
    · have hin : A.getD p [] ∉ C := of_decide_eq_false h
      repeat first | refine ω1 ?_ | refine ω2 ?_ | refine ω3 ?_ | refine ω4 ?_ | refine ω5 ?_ | refine χ1 ?_ | refine κ1 ?_ | refine κ2 ?_ | refine χ2 ?_ | refine κ3 ?_ | refine ω6 ?_ | refine ω7 ?_ | refine ω9 ?_ | refine κ4 ?_ | refine κ7 ?_ | refine κ8 ?_ | refine χ3 ?_ | refine χ4 ?_ | refine κ5 ?_ | refine κ6 ?_ | refine χ5 ?_ | refine χ6 ?_ | refine χ7 ?_ | refine ω8 ?_
      exact qjoin1 vn (by repeat' (first | exact Sub.nil | refine Sub.cons rfl ?_)) ⟨Ext.refl _, by rw [cF_succ hpA, if_neg hin]; exact hn5.1⟩
  rintro u w6 ⟨hx6, hu⟩
  have hx6a := hx5.trans hx6
  have hcl2 : cF A C (p + 1) ≤ A.length := by have := cd_sum (A := A) (C := C) (i := p + 1) (by omega); omega
  repeat first | refine ω1 ?_ | refine ω2 ?_ | refine ω3 ?_ | refine ω4 ?_ | refine ω5 ?_ | refine χ1 ?_ | refine κ1 ?_ | refine κ2 ?_ | refine χ2 ?_ | refine κ3 ?_ | refine ω6 ?_ | refine ω7 ?_ | refine ω9 ?_ | refine κ4 ?_ | refine κ7 ?_ | refine κ8 ?_ | refine χ3 ?_ | refine χ4 ?_ | refine κ5 ?_ | refine κ6 ?_ | refine χ5 ?_ | refine χ6 ?_ | refine χ7 ?_ | refine ω8 ?_
  refine ld ((hbk.ext hx6a).cell 0) ?_
  repeat first | refine ω1 ?_ | refine ω2 ?_ | refine ω3 ?_ | refine ω4 ?_ | refine ω5 ?_ | refine χ1 ?_ | refine κ1 ?_ | refine κ2 ?_ | refine χ2 ?_ | refine κ3 ?_ | refine ω6 ?_ | refine ω7 ?_ | refine ω9 ?_ | refine κ4 ?_ | refine κ7 ?_ | refine κ8 ?_ | refine χ3 ?_ | refine χ4 ?_ | refine κ5 ?_ | refine κ6 ?_ | refine χ5 ?_ | refine χ6 ?_ | refine χ7 ?_ | refine ω8 ?_
  refine cl (natAdd_any (hk.ext hx6a) hu (small1000 (by omega)) (small1000 (by omega))) ?_
  rintro v7 w7 ⟨hv7, hx7⟩
  repeat first | refine ω1 ?_ | refine ω2 ?_ | refine ω3 ?_ | refine ω4 ?_ | refine ω5 ?_ | refine χ1 ?_ | refine κ1 ?_ | refine κ2 ?_ | refine χ2 ?_ | refine κ3 ?_ | refine ω6 ?_ | refine ω7 ?_ | refine ω9 ?_ | refine κ4 ?_ | refine κ7 ?_ | refine κ8 ?_ | refine χ3 ?_ | refine χ4 ?_ | refine κ5 ?_ | refine κ6 ?_ | refine χ5 ?_ | refine χ6 ?_ | refine χ7 ?_ | refine ω8 ?_
  refine cl (natCmp_any ((hp5.1.ext hx6).ext hx7) hv7) ?_
  rintro t w8 ⟨rfl, hx8⟩
  have hx58 := (hx6.trans hx7).trans hx8
  have hsum : s0 + s1 + s2 ≤ (BA + BC) * (c + 1) := by rw [Nat.mul_succ]; omega
  repeat first | refine ω1 ?_ | refine ω2 ?_ | refine ω3 ?_ | refine ω4 ?_ | refine ω5 ?_ | refine χ1 ?_ | refine κ1 ?_ | refine κ2 ?_ | refine χ2 ?_ | refine κ3 ?_ | refine ω6 ?_ | refine ω7 ?_ | refine ω9 ?_ | refine κ4 ?_ | refine κ7 ?_ | refine κ8 ?_ | refine χ3 ?_ | refine χ4 ?_ | refine κ5 ?_ | refine κ6 ?_ | refine χ5 ?_ | refine χ6 ?_ | refine χ7 ?_ | refine ω8 ?_
  refine ci (fun h => ?_) (fun h => ?_)
  · have hlt := cmpN_lt.1 (of_decide_eq_true h)
    have hpr : prD A C k p = false := decide_eq_false (by omega)
    repeat first | refine ω1 ?_ | refine ω2 ?_ | refine ω3 ?_ | refine ω4 ?_ | refine ω5 ?_ | refine χ1 ?_ | refine κ1 ?_ | refine κ2 ?_ | refine χ2 ?_ | refine κ3 ?_ | refine ω6 ?_ | refine ω7 ?_ | refine ω9 ?_ | refine κ4 ?_ | refine κ7 ?_ | refine κ8 ?_ | refine χ3 ?_ | refine χ4 ?_ | refine κ5 ?_ | refine κ6 ?_ | refine χ5 ?_ | refine χ6 ?_ | refine χ7 ?_ | refine ω8 ?_
    rw [hpr, if_neg (by decide)]
    refine fin2 ⟨rfl, hg05.trans (GrN.ext hx58), ⟨hx5.trans hx58, ⟨s0 + s1 + s2, ?_, hsum⟩, kn, vl, hbl5.ext hx58, hvl, hbn5.ext hx58, fun e => ((hkn1 e).gr hg05).ext hx58, hkn0⟩⟩
    have := hbs5.ext hx58
    simpa using this
  · have hge : ¬ p < k + cF A C (p + 1) := fun h' => of_decide_eq_false h (cmpN_lt.2 h')
    have hpr : prD A C k p = true := decide_eq_true (by omega)
    have hN8 : ∀ k, box3 bs bl bn k → k < w8.heap.size := fun k hk => Nat.lt_of_lt_of_le (hN k hk).2 (Nat.le_trans hg05.size hx58.size)
    repeat first | refine ω1 ?_ | refine ω2 ?_ | refine ω3 ?_ | refine ω4 ?_ | refine ω5 ?_ | refine χ1 ?_ | refine κ1 ?_ | refine κ2 ?_ | refine χ2 ?_ | refine κ3 ?_ | refine ω6 ?_ | refine ω7 ?_ | refine ω9 ?_ | refine κ4 ?_ | refine κ7 ?_ | refine κ8 ?_ | refine χ3 ?_ | refine χ4 ?_ | refine κ5 ?_ | refine κ6 ?_ | refine χ5 ?_ | refine χ6 ?_ | refine χ7 ?_ | refine ω8 ?_
    refine cl (cloneRowV (hr5.v.ext hx58) (box3 bs bl bn) hN8) ?_
    rintro vr9 w9 ⟨hr9, hx9⟩
    have hx59 := hx58.trans hx9
    have hbl9 := hbl5.ext hx59
    have hbn9 := hbn5.ext hx59
    have hbs9 := hbs5.ext hx59
    have hx9a := hx5.trans hx59
    have hg09 := hg05.trans (GrN.ext hx59)
    obtain ⟨A9, c9, rfl, _⟩ := id hr9
    repeat first | refine ω1 ?_ | refine ω2 ?_ | refine ω3 ?_ | refine ω4 ?_ | refine ω5 ?_ | refine χ1 ?_ | refine κ1 ?_ | refine κ2 ?_ | refine χ2 ?_ | refine κ3 ?_ | refine ω6 ?_ | refine ω7 ?_ | refine ω9 ?_ | refine κ4 ?_ | refine κ7 ?_ | refine κ8 ?_ | refine χ3 ?_ | refine χ4 ?_ | refine κ5 ?_ | refine κ6 ?_ | refine χ5 ?_ | refine χ6 ?_ | refine χ7 ?_ | refine ω8 ?_
    refine sto (hbl9.cell 0) (hbl9.frozen 0) ?_
    have hbl10 := hbl9.set 0 (.slice A9 (A.getD p []).length c9)
    have hbn10 := hbn9.far (p := ⟨bl, 0, none⟩) (Ne.symm hln) (.slice A9 (A.getD p []).length c9)
    have hbs10 := hbs9.far (p := ⟨bl, 0, none⟩) hsl (.slice A9 (A.getD p []).length c9)
    have hx10 := hx9a.setCell (p := ⟨bl, 0, none⟩) h2 (.slice A9 (A.getD p []).length c9)
    have hg10 : GrN (box3 bs bl bn) w9 (w9.setCell ⟨bl, 0, none⟩ (.slice A9 (A.getD p []).length c9)) := GrN.set _ (.inr (.inl rfl))
    have hr10 := hr9.gr hg10
    generalize w9.setCell ⟨bl, 0, none⟩ (.slice A9 (A.getD p []).length c9) = w10 at *
    simp only [List.set_cons_zero] at hbl10
    repeat first | refine ω1 ?_ | refine ω2 ?_ | refine ω3 ?_ | refine ω4 ?_ | refine ω5 ?_ | refine χ1 ?_ | refine κ1 ?_ | refine κ2 ?_ | refine χ2 ?_ | refine κ3 ?_ | refine ω6 ?_ | refine ω7 ?_ | refine ω9 ?_ | refine κ4 ?_ | refine κ7 ?_ | refine κ8 ?_ | refine χ3 ?_ | refine χ4 ?_ | refine κ5 ?_ | refine κ6 ?_ | refine χ5 ?_ | refine χ6 ?_ | refine χ7 ?_ | refine ω8 ?_
    refine sto (hbn10.cell 0) (hbn10.frozen 0) ?_
    have hbn11 := hbn10.set 0 (.bool true)
    have hbl11 := hbl10.far (p := ⟨bn, 0, none⟩) hln (.bool true)
    have hbs11 := hbs10.far (p := ⟨bn, 0, none⟩) hsn (.bool true)
    have hx11 := hx10.setCell (p := ⟨bn, 0, none⟩) h3 (.bool true)
    have hg11 : GrN (box3 bs bl bn) w10 (w10.setCell ⟨bn, 0, none⟩ (.bool true)) := GrN.set _ (.inr (.inr rfl))
    have hr11 := hr10.gr hg11
    generalize w10.setCell ⟨bn, 0, none⟩ (.bool true) = w11 at *
    simp only [List.set_cons_zero] at hbn11
    repeat first | refine ω1 ?_ | refine ω2 ?_ | refine ω3 ?_ | refine ω4 ?_ | refine ω5 ?_ | refine χ1 ?_ | refine κ1 ?_ | refine κ2 ?_ | refine χ2 ?_ | refine κ3 ?_ | refine ω6 ?_ | refine ω7 ?_ | refine ω9 ?_ | refine κ4 ?_ | refine κ7 ?_ | refine κ8 ?_ | refine χ3 ?_ | refine χ4 ?_ | refine κ5 ?_ | refine κ6 ?_ | refine χ5 ?_ | refine χ6 ?_ | refine χ7 ?_ | refine ω8 ?_
    rw [hpr, if_pos rfl]
    refine fin2 ⟨rfl, (hg09.trans hg10).trans hg11, ⟨hx11, ⟨s0 + s1 + s2, ?_, hsum⟩, true, _, hbl11, rfl, hbn11, fun e => hr11, fun e => by cases e⟩⟩
    simpa using hbs11
end Go.Proofs.Ytpahjnfolbnloaa
/- The difference of two arrays: Of, Len, At, Rank. -/
set_option linter.unusedVariables false
namespace Go.Proofs.Ytpahjnfolbnloaa
open Go.RowKit Pl Go.Wk
attribute [local irreducible] WC WL QX WD WDB WP
theorem zInt : zeroOf Try.prog 3 = some (.int .i64 0) := by kernel_rfl
theorem zBool : zeroOf Try.prog 4 = some (.bool false) := by kernel_rfl
theorem zRow : zeroOf Try.prog 25 = some (.slice none 0 0) := by kernel_rfl
theorem zDif : zeroOf Try.prog 66 = some (.agg #[.nilIface, .nilIface]) := by kernel_rfl
/-- what At returns -/
def DAt (w : World) (D : List Row) (B k : Nat) (x : Value) : Prop :=
  if k < D.length then ∃ vr, ∃ s : Nat, x = .tuple #[vr, .int .i64 (s : Int), .int .i64 0] ∧ RowV w vr (D.getD k []) ∧ s ≤ B
  else x = .tuple #[.slice none 0 0, .int .i64 0, .int .i64 3]
set_option maxRecDepth 100000 in
set_option maxHeartbeats 1000000 in
theorem difAt_any {A C : List Row} {RA RC : Row → Nat} {BA BC : Nat} {SA SC : Row → Prop} {va vc vk : Value} {k : Nat} {w : World}
    (hD : DifH A C RC) (ha : ArrO w va A RA BA SA) (hc : ArrO w vc C RC BC SC) (hSC : ∀ r, r ∈ A → SC r) (hk : NatV w vk k) (hkb : k < 2000000) :
    Ret Try.prog 41 [.agg #[va, vc], vk] w fun x w' => DAt w' (dif2 A C) ((BA + BC) * lenB C.length + BA) k x ∧ Ext w w' := by
  obtain ⟨hlD, hCA⟩ := hD.len
  have hsA := ha.small
  have hsC := hc.small
  have hba := ha.bd
  have hbc := hc.bd
  obtain ⟨ta, xa, rfl⟩ := ha.form
  obtain ⟨tc, xc, rfl⟩ := hc.form
  obtain ⟨fL, rL, mL, hL⟩ := ha.len
  obtain ⟨fM, rM, mM, hM⟩ := hc.len
  obtain ⟨A0, c0, rfl, hc0, hl0, hr0⟩ := id hk
  refine enterR Try.func41 Try.ntmps41 rfl (by kernel_rfl) rfl ?_
  repeat first | refine ω1 ?_ | refine ω2 ?_ | refine ω3 ?_ | refine ω4 ?_ | refine ω5 ?_ | refine χ1 ?_ | refine κ1 ?_ | refine κ2 ?_ | refine χ2 ?_ | refine κ3 ?_ | refine ω6 ?_ | refine ω7 ?_ | refine ω9 ?_ | refine κ4 ?_ | refine κ7 ?_ | refine κ8 ?_ | refine χ3 ?_ | refine χ4 ?_ | refine κ5 ?_ | refine κ6 ?_ | refine χ5 ?_ | refine χ6 ?_ | refine χ7 ?_ | refine ω8 ?_
  refine bx ?_
  intro w1 bd hx1 hb1 hbd
  repeat first | refine ω1 ?_ | refine ω2 ?_ | refine ω3 ?_ | refine ω4 ?_ | refine ω5 ?_ | refine χ1 ?_ | refine κ1 ?_ | refine κ2 ?_ | refine χ2 ?_ | refine κ3 ?_ | refine ω6 ?_ | refine ω7 ?_ | refine ω9 ?_ | refine κ4 ?_ | refine κ7 ?_ | refine κ8 ?_ | refine χ3 ?_ | refine χ4 ?_ | refine κ5 ?_ | refine κ6 ?_ | refine χ5 ?_ | refine χ6 ?_ | refine χ7 ?_ | refine ω8 ?_
  refine bx ?_
  intro w2 bk hx2 hb2 hbk
  have hbd2 := hbd.ext hx2
  have hx02 := hx1.trans hx2
  repeat first | refine ω1 ?_ | refine ω2 ?_ | refine ω3 ?_ | refine ω4 ?_ | refine ω5 ?_ | refine χ1 ?_ | refine κ1 ?_ | refine κ2 ?_ | refine χ2 ?_ | refine κ3 ?_ | refine ω6 ?_ | refine ω7 ?_ | refine ω9 ?_ | refine κ4 ?_ | refine κ7 ?_ | refine κ8 ?_ | refine χ3 ?_ | refine χ4 ?_ | refine κ5 ?_ | refine κ6 ?_ | refine χ5 ?_ | refine χ6 ?_ | refine χ7 ?_ | refine ω8 ?_
  refine ld (hbd2.at rfl) ?_
  repeat first | refine ω1 ?_ | refine ω2 ?_ | refine ω3 ?_ | refine ω4 ?_ | refine ω5 ?_ | refine χ1 ?_ | refine κ1 ?_ | refine κ2 ?_ | refine χ2 ?_ | refine κ3 ?_ | refine ω6 ?_ | refine ω7 ?_ | refine ω9 ?_ | refine κ4 ?_ | refine κ7 ?_ | refine κ8 ?_ | refine χ3 ?_ | refine χ4 ?_ | refine κ5 ?_ | refine κ6 ?_ | refine χ5 ?_ | refine χ6 ?_ | refine χ7 ?_ | refine ω8 ?_
  refine inil ifA (.inr ⟨_, _, rfl⟩) ?_
  repeat first | refine ω1 ?_ | refine ω2 ?_ | refine ω3 ?_ | refine ω4 ?_ | refine ω5 ?_ | refine χ1 ?_ | refine κ1 ?_ | refine κ2 ?_ | refine χ2 ?_ | refine κ3 ?_ | refine ω6 ?_ | refine ω7 ?_ | refine ω9 ?_ | refine κ4 ?_ | refine κ7 ?_ | refine κ8 ?_ | refine χ3 ?_ | refine χ4 ?_ | refine κ5 ?_ | refine κ6 ?_ | refine χ5 ?_ | refine χ6 ?_ | refine χ7 ?_ | refine ω8 ?_
  refine ld (hbd2.at rfl) ?_
  repeat first | refine ω1 ?_ | refine ω2 ?_ | refine ω3 ?_ | refine ω4 ?_ | refine ω5 ?_ | refine χ1 ?_ | refine κ1 ?_ | refine κ2 ?_ | refine χ2 ?_ | refine κ3 ?_ | refine ω6 ?_ | refine ω7 ?_ | refine ω9 ?_ | refine κ4 ?_ | refine κ7 ?_ | refine κ8 ?_ | refine χ3 ?_ | refine χ4 ?_ | refine κ5 ?_ | refine κ6 ?_ | refine χ5 ?_ | refine χ6 ?_ | refine χ7 ?_ | refine ω8 ?_
  refine inv mM (hM w2 hx02) ?_
  rintro vm w3 ⟨hm3, hx3⟩
  repeat first | refine ω1 ?_ | refine ω2 ?_ | refine ω3 ?_ | refine ω4 ?_ | refine ω5 ?_ | refine χ1 ?_ | refine κ1 ?_ | refine κ2 ?_ | refine χ2 ?_ | refine κ3 ?_ | refine ω6 ?_ | refine ω7 ?_ | refine ω9 ?_ | refine κ4 ?_ | refine κ7 ?_ | refine κ8 ?_ | refine χ3 ?_ | refine χ4 ?_ | refine κ5 ?_ | refine κ6 ?_ | refine χ5 ?_ | refine χ6 ?_ | refine χ7 ?_ | refine ω8 ?_
  refine ld ((hbd2.ext hx3).at rfl) ?_
  repeat first | refine ω1 ?_ | refine ω2 ?_ | refine ω3 ?_ | refine ω4 ?_ | refine ω5 ?_ | refine χ1 ?_ | refine κ1 ?_ | refine κ2 ?_ | refine χ2 ?_ | refine κ3 ?_ | refine ω6 ?_ | refine ω7 ?_ | refine ω9 ?_ | refine κ4 ?_ | refine κ7 ?_ | refine κ8 ?_ | refine χ3 ?_ | refine χ4 ?_ | refine κ5 ?_ | refine κ6 ?_ | refine χ5 ?_ | refine χ6 ?_ | refine χ7 ?_ | refine ω8 ?_
  refine inv mL (hL w3 (hx02.trans hx3)) ?_
  rintro vl w4 ⟨hl4, hx4⟩
  repeat first | refine ω1 ?_ | refine ω2 ?_ | refine ω3 ?_ | refine ω4 ?_ | refine ω5 ?_ | refine χ1 ?_ | refine κ1 ?_ | refine κ2 ?_ | refine χ2 ?_ | refine κ3 ?_ | refine ω6 ?_ | refine ω7 ?_ | refine ω9 ?_ | refine κ4 ?_ | refine κ7 ?_ | refine κ8 ?_ | refine χ3 ?_ | refine χ4 ?_ | refine κ5 ?_ | refine κ6 ?_ | refine χ5 ?_ | refine χ6 ?_ | refine χ7 ?_ | refine ω8 ?_
  refine cl (natSub_any hl4 (hm3.ext hx4) (small1000 (by omega))) ?_
  rintro y w5 ⟨⟨vd, rfl, hd5⟩, hx5⟩
  rw [if_neg (show ¬ A.length < C.length by omega)]
  have hx25 := (hx3.trans hx4).trans hx5
  have hbk5 := hbk.ext hx25
  repeat first | refine ω1 ?_ | refine ω2 ?_ | refine ω3 ?_ | refine ω4 ?_ | refine ω5 ?_ | refine χ1 ?_ | refine κ1 ?_ | refine κ2 ?_ | refine χ2 ?_ | refine κ3 ?_ | refine ω6 ?_ | refine ω7 ?_ | refine ω9 ?_ | refine κ4 ?_ | refine κ7 ?_ | refine κ8 ?_ | refine χ3 ?_ | refine χ4 ?_ | refine κ5 ?_ | refine κ6 ?_ | refine χ5 ?_ | refine χ6 ?_ | refine χ7 ?_ | refine ω8 ?_
  refine ld (hbk5.cell 0) ?_
  repeat first | refine ω1 ?_ | refine ω2 ?_ | refine ω3 ?_ | refine ω4 ?_ | refine ω5 ?_ | refine χ1 ?_ | refine κ1 ?_ | refine κ2 ?_ | refine χ2 ?_ | refine κ3 ?_ | refine ω6 ?_ | refine ω7 ?_ | refine ω9 ?_ | refine κ4 ?_ | refine κ7 ?_ | refine κ8 ?_ | refine χ3 ?_ | refine χ4 ?_ | refine κ5 ?_ | refine κ6 ?_ | refine χ5 ?_ | refine χ6 ?_ | refine χ7 ?_ | refine ω8 ?_
  refine cl (natCmp_any ((hk.ext hx02).ext hx25) hd5) ?_
  rintro t w6 ⟨rfl, hx6⟩
  have hx26 := hx25.trans hx6
  repeat first | refine ω1 ?_ | refine ω2 ?_ | refine ω3 ?_ | refine ω4 ?_ | refine ω5 ?_ | refine χ1 ?_ | refine κ1 ?_ | refine κ2 ?_ | refine χ2 ?_ | refine κ3 ?_ | refine ω6 ?_ | refine ω7 ?_ | refine ω9 ?_ | refine κ4 ?_ | refine κ7 ?_ | refine κ8 ?_ | refine χ3 ?_ | refine χ4 ?_ | refine κ5 ?_ | refine κ6 ?_ | refine χ5 ?_ | refine χ6 ?_ | refine χ7 ?_ | refine ω8 ?_
  refine ci (fun h => ?_) (fun h => ?_)
  · have hge := cmpN_ge.1 (of_decide_eq_true h)
    repeat first | refine ω1 ?_ | refine ω2 ?_ | refine ω3 ?_ | refine ω4 ?_ | refine ω5 ?_ | refine χ1 ?_ | refine κ1 ?_ | refine κ2 ?_ | refine χ2 ?_ | refine κ3 ?_ | refine ω6 ?_ | refine ω7 ?_ | refine ω9 ?_ | refine κ4 ?_ | refine κ7 ?_ | refine κ8 ?_ | refine χ3 ?_ | refine χ4 ?_ | refine κ5 ?_ | refine κ6 ?_ | refine χ5 ?_ | refine χ6 ?_ | refine χ7 ?_ | refine ω8 ?_
    refine fin3 ⟨?_, hx02.trans hx26⟩
    unfold DAt
    rw [if_neg (by omega)]
  have hlt : k < (dif2 A C).length := by
    have := of_decide_eq_false h
    rcases Nat.lt_or_ge k (A.length - C.length) with h1 | h1
    · omega
    · exact absurd (cmpN_ge.2 h1) this
  repeat first | refine ω1 ?_ | refine ω2 ?_ | refine ω3 ?_ | refine ω4 ?_ | refine ω5 ?_ | refine χ1 ?_ | refine κ1 ?_ | refine κ2 ?_ | refine χ2 ?_ | refine κ3 ?_ | refine ω6 ?_ | refine ω7 ?_ | refine ω9 ?_ | refine κ4 ?_ | refine κ7 ?_ | refine κ8 ?_ | refine χ3 ?_ | refine χ4 ?_ | refine κ5 ?_ | refine κ6 ?_ | refine χ5 ?_ | refine χ6 ?_ | refine χ7 ?_ | refine ω8 ?_
  refine alc zInt ?_
  intro w7 bs hx7 hb7 hbs
  repeat first | refine ω1 ?_ | refine ω2 ?_ | refine ω3 ?_ | refine ω4 ?_ | refine ω5 ?_ | refine χ1 ?_ | refine κ1 ?_ | refine κ2 ?_ | refine χ2 ?_ | refine κ3 ?_ | refine ω6 ?_ | refine ω7 ?_ | refine ω9 ?_ | refine κ4 ?_ | refine κ7 ?_ | refine κ8 ?_ | refine χ3 ?_ | refine χ4 ?_ | refine κ5 ?_ | refine κ6 ?_ | refine χ5 ?_ | refine χ6 ?_ | refine χ7 ?_ | refine ω8 ?_
  refine alc zBool ?_
  intro w8 bn hx8 hb8 hbn
  repeat first | refine ω1 ?_ | refine ω2 ?_ | refine ω3 ?_ | refine ω4 ?_ | refine ω5 ?_ | refine χ1 ?_ | refine κ1 ?_ | refine κ2 ?_ | refine χ2 ?_ | refine κ3 ?_ | refine ω6 ?_ | refine ω7 ?_ | refine ω9 ?_ | refine κ4 ?_ | refine κ7 ?_ | refine κ8 ?_ | refine χ3 ?_ | refine χ4 ?_ | refine κ5 ?_ | refine κ6 ?_ | refine χ5 ?_ | refine χ6 ?_ | refine χ7 ?_ | refine ω8 ?_
  have hbs8 := hbs.ext hx8
  refine sto (hbs8.cell 0) (hbs8.frozen 0) ?_
  have hsn : bs ≠ bn := by have := hbs.lt; omega
  have hx68 := hx7.trans hx8
  have hbs9 := hbs8.set 0 (.int .i64 0)
  have hbn9 := hbn.far (p := ⟨bs, 0, none⟩) (Ne.symm hsn) (.int .i64 0)
  have hx9 : Ext w6 (w8.setCell ⟨bs, 0, none⟩ (.int .i64 0)) := hx68.setCell hb7 _
  generalize w8.setCell ⟨bs, 0, none⟩ (.int .i64 0) = w9 at *
  simp only [List.set_cons_zero] at hbs9
  repeat first | refine ω1 ?_ | refine ω2 ?_ | refine ω3 ?_ | refine ω4 ?_ | refine ω5 ?_ | refine χ1 ?_ | refine κ1 ?_ | refine κ2 ?_ | refine χ2 ?_ | refine κ3 ?_ | refine ω6 ?_ | refine ω7 ?_ | refine ω9 ?_ | refine κ4 ?_ | refine κ7 ?_ | refine κ8 ?_ | refine χ3 ?_ | refine χ4 ?_ | refine κ5 ?_ | refine κ6 ?_ | refine χ5 ?_ | refine χ6 ?_ | refine χ7 ?_ | refine ω8 ?_
  refine sto (hbn9.cell 0) (hbn9.frozen 0) ?_
  have hb68 : w6.heap.size ≤ bn := Nat.le_trans hx7.size hb8
  have hbn10 := hbn9.set 0 (.bool false)
  have hbs10 := hbs9.far (p := ⟨bn, 0, none⟩) hsn (.bool false)
  have hx10 : Ext w6 (w9.setCell ⟨bn, 0, none⟩ (.bool false)) := hx9.setCell hb68 _
  generalize w9.setCell ⟨bn, 0, none⟩ (.bool false) = w10 at *
  simp only [List.set_cons_zero] at hbn10
  repeat first | refine ω1 ?_ | refine ω2 ?_ | refine ω3 ?_ | refine ω4 ?_ | refine ω5 ?_ | refine χ1 ?_ | refine κ1 ?_ | refine κ2 ?_ | refine χ2 ?_ | refine κ3 ?_ | refine ω6 ?_ | refine ω7 ?_ | refine ω9 ?_ | refine κ4 ?_ | refine κ7 ?_ | refine κ8 ?_ | refine χ3 ?_ | refine χ4 ?_ | refine κ5 ?_ | refine κ6 ?_ | refine χ5 ?_ | refine χ6 ?_ | refine χ7 ?_ | refine ω8 ?_
  refine alc zRow ?_
  intro w11 bl hx11 hb11 hbl
  have hsl : bs ≠ bl := by have := hbs10.lt; omega
  have hln : bl ≠ bn := by have := hbn10.lt; omega
  have hx611 := hx10.trans hx11
  have hb6l : w6.heap.size ≤ bl := Nat.le_trans hx10.size hb11
  have hbs11 := hbs10.ext hx11
  have hbn11 := hbn10.ext hx11
  have hbd6 := hbd2.ext hx26
  have hbk6 := hbk5.ext hx6
  have hx06 := hx02.trans hx26
  have hk6 := hk.ext hx06
  repeat first | refine ω1 ?_ | refine ω2 ?_ | refine ω3 ?_ | refine ω4 ?_ | refine ω5 ?_ | refine χ1 ?_ | refine κ1 ?_ | refine κ2 ?_ | refine χ2 ?_ | refine κ3 ?_ | refine ω6 ?_ | refine ω7 ?_ | refine ω9 ?_ | refine κ4 ?_ | refine κ7 ?_ | refine κ8 ?_ | refine χ3 ?_ | refine χ4 ?_ | refine κ5 ?_ | refine κ6 ?_ | refine χ5 ?_ | refine χ6 ?_ | refine χ7 ?_ | refine ω8 ?_
  refine ld ((hbk6.ext hx611).cell 0) ?_
  have hCb : lenB C.length ≤ 21 := lenB_pow (by omega)
  have hN : ∀ j, box3 bs bl bn j → j < w11.heap.size := fun j hj => by
    have l1 := hbs11.lt
    have l2 := hbl.lt
    have l3 := hbn11.lt
    rcases hj with rfl | rfl | rfl <;> omega
  have hN6 : ∀ j, box3 bs bl bn j → w6.heap.size ≤ j := fun j hj => by rcases hj with rfl | rfl | rfl <;> omega
  repeat first | refine ω1 ?_ | refine ω2 ?_ | refine ω3 ?_ | refine ω4 ?_ | refine ω5 ?_ | refine χ1 ?_ | refine κ1 ?_ | refine κ2 ?_ | refine χ2 ?_ | refine κ3 ?_ | refine ω6 ?_ | refine ω7 ?_ | refine ω9 ?_ | refine κ4 ?_ | refine κ7 ?_ | refine κ8 ?_ | refine χ3 ?_ | refine χ4 ?_ | refine κ5 ?_ | refine κ6 ?_ | refine χ5 ?_ | refine χ6 ?_ | refine χ7 ?_ | refine ω8 ?_
  refine cl (search_any (pr := prD A C k) (I := AtI A C k (BA + BC) bs bl bn w6) (N := box3 bs bl bn) (lo0 := k) (sz0 := C.length)
    (fun w w' hi c h hx => ⟨h.old.trans hx, by obtain ⟨s, h1, h2⟩ := h.steps; exact ⟨s, h1.ext hx, h2⟩, by obtain ⟨kn, vl, h1, h2, h3, h4, h5⟩ := h.last; exact ⟨kn, vl, h1.ext hx, h2, h3.ext hx, fun e => (h4 e).ext hx, h5⟩⟩)
    hN
    (fun w1 p vp hi c hg hI hp hlo hhi hcl => at1_any hD (ha.ext hx06) (hc.ext hx06) hSC (Ext.refl _) hbd6 hbk6 hk6 hkb hb7 hb6l hb68 hsl hsn hln hI hp (by omega) (by omega))
    ⟨hx611, ⟨0, hbs11, Nat.zero_le _⟩, false, _, hbl, rfl, hbn11, fun e => (by cases e), fun _ => rfl⟩
    (hk6.ext hx611) ((((hm3.ext hx4).ext hx5).ext hx6).ext hx611) (by omega) (by omega)) ?_
  rintro y w12 ⟨vp, p, c, rfl, hp12, hI12, hg12, hcc, hp1, hp2, hp3, hp4⟩
  obtain ⟨hpA, hpe⟩ := found hD hlt hp1 hp2 hp3 hp4
  obtain ⟨hxa, ⟨s, hbs12, hs⟩, kn, vw, hbl12, hvw, hbn12, hk1, hk0⟩ := hI12
  have hm : (BA + BC) * c ≤ (BA + BC) * lenB C.length := Nat.mul_le_mul_left _ hcc
  have hm2 : (BA + BC) * lenB C.length ≤ 2000000 * 21 := Nat.mul_le_mul (by omega) hCb
  repeat first | refine ω1 ?_ | refine ω2 ?_ | refine ω3 ?_ | refine ω4 ?_ | refine ω5 ?_ | refine χ1 ?_ | refine κ1 ?_ | refine κ2 ?_ | refine χ2 ?_ | refine κ3 ?_ | refine ω6 ?_ | refine ω7 ?_ | refine ω9 ?_ | refine κ4 ?_ | refine κ7 ?_ | refine κ8 ?_ | refine χ3 ?_ | refine χ4 ?_ | refine κ5 ?_ | refine κ6 ?_ | refine χ5 ?_ | refine χ6 ?_ | refine χ7 ?_ | refine ω8 ?_
  refine ld (hbn12.cell 0) ?_
  repeat first | refine ω1 ?_ | refine ω2 ?_ | refine ω3 ?_ | refine ω4 ?_ | refine ω5 ?_ | refine χ1 ?_ | refine κ1 ?_ | refine κ2 ?_ | refine χ2 ?_ | refine κ3 ?_ | refine ω6 ?_ | refine ω7 ?_ | refine ω9 ?_ | refine κ4 ?_ | refine κ7 ?_ | refine κ8 ?_ | refine χ3 ?_ | refine χ4 ?_ | refine κ5 ?_ | refine κ6 ?_ | refine χ5 ?_ | refine χ6 ?_ | refine χ7 ?_ | refine ω8 ?_
  refine ci (fun h => ?_) (fun h => ?_)
  · subst h
    obtain ⟨A9, c9, rfl, _⟩ := id (hk1 rfl)
    repeat first | refine ω1 ?_ | refine ω2 ?_ | refine ω3 ?_ | refine ω4 ?_ | refine ω5 ?_ | refine χ1 ?_ | refine κ1 ?_ | refine κ2 ?_ | refine χ2 ?_ | refine κ3 ?_ | refine ω6 ?_ | refine ω7 ?_ | refine ω9 ?_ | refine κ4 ?_ | refine κ7 ?_ | refine κ8 ?_ | refine χ3 ?_ | refine χ4 ?_ | refine κ5 ?_ | refine κ6 ?_ | refine χ5 ?_ | refine χ6 ?_ | refine χ7 ?_ | refine ω8 ?_
    refine dr [(0, 0), (0, 1), (0, 2), (0, 3), (0, 4)] (by kernel_rfl) ?_
    have hxd : Ext w12 w12.drew := (Ext.refl w12).drew
    repeat first | refine δ1 ?_ | refine δ2 ?_ | refine δ4 ?_ | refine δ5 ?_ | refine δ6 ?_ | refine δ7 ?_ | refine δ9 ?_ | refine δ8 ?_ | refine χ1 ?_ | refine χ2 ?_ | refine χ3 ?_ | refine χ4 ?_ | refine χ5 ?_ | refine χ6 ?_ | refine χ7 ?_
    refine dld ((hbl12.ext hxd).cell 0) ?_
    repeat first | refine δ1 ?_ | refine δ2 ?_ | refine δ4 ?_ | refine δ5 ?_ | refine δ6 ?_ | refine δ7 ?_ | refine δ9 ?_ | refine δ8 ?_ | refine χ1 ?_ | refine χ2 ?_ | refine χ3 ?_ | refine χ4 ?_ | refine χ5 ?_ | refine χ6 ?_ | refine χ7 ?_
    refine dld ((hbs12.ext hxd).cell 0) ?_
    repeat first | refine δ1 ?_ | refine δ2 ?_ | refine δ4 ?_ | refine δ5 ?_ | refine δ6 ?_ | refine δ7 ?_ | refine δ9 ?_ | refine δ8 ?_ | refine χ1 ?_ | refine χ2 ?_ | refine χ3 ?_ | refine χ4 ?_ | refine χ5 ?_ | refine χ6 ?_ | refine χ7 ?_
    repeat first | refine ω1 ?_ | refine ω2 ?_ | refine ω3 ?_ | refine ω4 ?_ | refine ω5 ?_ | refine χ1 ?_ | refine κ1 ?_ | refine κ2 ?_ | refine χ2 ?_ | refine κ3 ?_ | refine ω6 ?_ | refine ω7 ?_ | refine ω9 ?_ | refine κ4 ?_ | refine κ7 ?_ | refine κ8 ?_ | refine χ3 ?_ | refine χ4 ?_ | refine κ5 ?_ | refine κ6 ?_ | refine χ5 ?_ | refine χ6 ?_ | refine χ7 ?_ | refine ω8 ?_
    refine fin3 ⟨?_, (hx06.trans hxa).trans hxd⟩
    unfold DAt
    rw [if_pos hlt, ← hpe]
    exact ⟨_, s, rfl, (hk1 rfl).v.ext hxd, by omega⟩
  · subst h
    have hpe2 := hk0 rfl
    obtain ⟨fA, rA, mA, hA⟩ := ha.at_
    have hx012 := hx06.trans hxa
    repeat first | refine ω1 ?_ | refine ω2 ?_ | refine ω3 ?_ | refine ω4 ?_ | refine ω5 ?_ | refine χ1 ?_ | refine κ1 ?_ | refine κ2 ?_ | refine χ2 ?_ | refine κ3 ?_ | refine ω6 ?_ | refine ω7 ?_ | refine ω9 ?_ | refine κ4 ?_ | refine κ7 ?_ | refine κ8 ?_ | refine χ3 ?_ | refine χ4 ?_ | refine κ5 ?_ | refine κ6 ?_ | refine χ5 ?_ | refine χ6 ?_ | refine χ7 ?_ | refine ω8 ?_
    refine ld ((hbd6.ext hxa).at rfl) ?_
    repeat first | refine ω1 ?_ | refine ω2 ?_ | refine ω3 ?_ | refine ω4 ?_ | refine ω5 ?_ | refine χ1 ?_ | refine κ1 ?_ | refine κ2 ?_ | refine χ2 ?_ | refine κ3 ?_ | refine ω6 ?_ | refine ω7 ?_ | refine ω9 ?_ | refine κ4 ?_ | refine κ7 ?_ | refine κ8 ?_ | refine χ3 ?_ | refine χ4 ?_ | refine κ5 ?_ | refine κ6 ?_ | refine χ5 ?_ | refine χ6 ?_ | refine χ7 ?_ | refine ω8 ?_
    have hN0 : ∀ j, box3 bs bl bn j → w.heap.size ≤ j ∧ j < w12.heap.size := fun j hj => ⟨Nat.le_trans hx06.size (hN6 j hj), Nat.lt_of_lt_of_le (hN j hj) hg12.size⟩
    refine inv mA (hA w12 hx012 _ hN0 p vp hp12 (by omega)) ?_
    rintro y w13 ⟨hy, hx13⟩
    unfold AtX at hy
    rw [if_pos hpA] at hy
    obtain ⟨vr, s1, rfl, hr1, hs1⟩ := hy
    repeat first | refine ω1 ?_ | refine ω2 ?_ | refine ω3 ?_ | refine ω4 ?_ | refine ω5 ?_ | refine χ1 ?_ | refine κ1 ?_ | refine κ2 ?_ | refine χ2 ?_ | refine κ3 ?_ | refine ω6 ?_ | refine ω7 ?_ | refine ω9 ?_ | refine κ4 ?_ | refine κ7 ?_ | refine κ8 ?_ | refine χ3 ?_ | refine χ4 ?_ | refine κ5 ?_ | refine κ6 ?_ | refine χ5 ?_ | refine χ6 ?_ | refine χ7 ?_ | refine ω8 ?_
    refine dr [(0, 0), (0, 2), (0, 3), (0, 4), (1, 1), (0, 5), (0, 6), (0, 7)] (by kernel_rfl) ?_
    have hxd : Ext w13 w13.drew := (Ext.refl w13).drew
    repeat first | refine δ1 ?_ | refine δ2 ?_ | refine δ4 ?_ | refine δ5 ?_ | refine δ6 ?_ | refine δ7 ?_ | refine δ9 ?_ | refine δ8 ?_ | refine χ1 ?_ | refine χ2 ?_ | refine χ3 ?_ | refine χ4 ?_ | refine χ5 ?_ | refine χ6 ?_ | refine χ7 ?_
    refine dld (((hbs12.ext hx13).ext hxd).cell 0) ?_
    repeat first | refine δ1 ?_ | refine δ2 ?_ | refine δ4 ?_ | refine δ5 ?_ | refine δ6 ?_ | refine δ7 ?_ | refine δ9 ?_ | refine δ8 ?_ | refine χ1 ?_ | refine χ2 ?_ | refine χ3 ?_ | refine χ4 ?_ | refine χ5 ?_ | refine χ6 ?_ | refine χ7 ?_
    refine dcl (cloneRowV (hr1.v.ext hxd) (fun _ => False) (fun _ h => h.elim)) ?_
    rintro vr3 w14 ⟨hr3, hx14⟩
    refine ⟨hx14, ?_⟩
    repeat first | refine δ1 ?_ | refine δ2 ?_ | refine δ4 ?_ | refine δ5 ?_ | refine δ6 ?_ | refine δ7 ?_ | refine δ9 ?_ | refine δ8 ?_ | refine χ1 ?_ | refine χ2 ?_ | refine χ3 ?_ | refine χ4 ?_ | refine χ5 ?_ | refine χ6 ?_ | refine χ7 ?_
    repeat first | refine ω1 ?_ | refine ω2 ?_ | refine ω3 ?_ | refine ω4 ?_ | refine ω5 ?_ | refine χ1 ?_ | refine κ1 ?_ | refine κ2 ?_ | refine χ2 ?_ | refine κ3 ?_ | refine ω6 ?_ | refine ω7 ?_ | refine ω9 ?_ | refine κ4 ?_ | refine κ7 ?_ | refine κ8 ?_ | refine χ3 ?_ | refine χ4 ?_ | refine κ5 ?_ | refine κ6 ?_ | refine χ5 ?_ | refine χ6 ?_ | refine χ7 ?_ | refine ω8 ?_
    refine fin3 ⟨?_, ((hx012.trans hx13).trans hxd).trans hx14⟩
    unfold DAt
    rw [if_pos hlt, ← hpe]
    exact ⟨_, s + s1, rfl, hr3.v, by omega⟩
set_option maxRecDepth 100000 in
theorem difLen_any {A C : List Row} {RA RC : Row → Nat} {BA BC : Nat} {SA SC : Row → Prop} {va vc : Value} {w : World}
    (ha : ArrO w va A RA BA SA) (hc : ArrO w vc C RC BC SC) :
    Ret Try.prog 46 [.agg #[va, vc]] w fun x w' => NatV w' x (A.length - C.length) ∧ Ext w w' := by
  have hsA := ha.small
  obtain ⟨ta, xa, rfl⟩ := ha.form
  obtain ⟨tc, xc, rfl⟩ := hc.form
  obtain ⟨fL, rL, mL, hL⟩ := ha.len
  obtain ⟨fM, rM, mM, hM⟩ := hc.len
  refine enterR Try.func46 Try.ntmps46 rfl (by kernel_rfl) rfl ?_
  repeat first | refine ω1 ?_ | refine ω2 ?_ | refine ω3 ?_ | refine ω4 ?_ | refine ω5 ?_ | refine χ1 ?_ | refine κ1 ?_ | refine κ2 ?_ | refine χ2 ?_ | refine κ3 ?_ | refine ω6 ?_ | refine ω7 ?_ | refine ω9 ?_ | refine κ4 ?_ | refine κ7 ?_ | refine κ8 ?_ | refine χ3 ?_ | refine χ4 ?_ | refine κ5 ?_ | refine κ6 ?_ | refine χ5 ?_ | refine χ6 ?_ | refine χ7 ?_ | refine ω8 ?_
  refine bx ?_
  intro w1 bd hx1 hb1 hbd
  repeat first | refine ω1 ?_ | refine ω2 ?_ | refine ω3 ?_ | refine ω4 ?_ | refine ω5 ?_ | refine χ1 ?_ | refine κ1 ?_ | refine κ2 ?_ | refine χ2 ?_ | refine κ3 ?_ | refine ω6 ?_ | refine ω7 ?_ | refine ω9 ?_ | refine κ4 ?_ | refine κ7 ?_ | refine κ8 ?_ | refine χ3 ?_ | refine χ4 ?_ | refine κ5 ?_ | refine κ6 ?_ | refine χ5 ?_ | refine χ6 ?_ | refine χ7 ?_ | refine ω8 ?_
  refine ld (hbd.at rfl) ?_
  repeat first | refine ω1 ?_ | refine ω2 ?_ | refine ω3 ?_ | refine ω4 ?_ | refine ω5 ?_ | refine χ1 ?_ | refine κ1 ?_ | refine κ2 ?_ | refine χ2 ?_ | refine κ3 ?_ | refine ω6 ?_ | refine ω7 ?_ | refine ω9 ?_ | refine κ4 ?_ | refine κ7 ?_ | refine κ8 ?_ | refine χ3 ?_ | refine χ4 ?_ | refine κ5 ?_ | refine κ6 ?_ | refine χ5 ?_ | refine χ6 ?_ | refine χ7 ?_ | refine ω8 ?_
  refine inil ifA (.inr ⟨_, _, rfl⟩) ?_
  repeat first | refine ω1 ?_ | refine ω2 ?_ | refine ω3 ?_ | refine ω4 ?_ | refine ω5 ?_ | refine χ1 ?_ | refine κ1 ?_ | refine κ2 ?_ | refine χ2 ?_ | refine κ3 ?_ | refine ω6 ?_ | refine ω7 ?_ | refine ω9 ?_ | refine κ4 ?_ | refine κ7 ?_ | refine κ8 ?_ | refine χ3 ?_ | refine χ4 ?_ | refine κ5 ?_ | refine κ6 ?_ | refine χ5 ?_ | refine χ6 ?_ | refine χ7 ?_ | refine ω8 ?_
  refine dr [(0, 0), (0, 1), (0, 3), (0, 4), (1, 2), (1, 5), (1, 6), (0, 7), (0, 8), (0, 9), (0, 10), (0, 11)] (by kernel_rfl) ?_
  have hxd : Ext w1 w1.drew := (Ext.refl w1).drew
  repeat first | refine δ1 ?_ | refine δ2 ?_ | refine δ4 ?_ | refine δ5 ?_ | refine δ6 ?_ | refine δ7 ?_ | refine δ9 ?_ | refine δ8 ?_ | refine χ1 ?_ | refine χ2 ?_ | refine χ3 ?_ | refine χ4 ?_ | refine χ5 ?_ | refine χ6 ?_ | refine χ7 ?_
  refine dld ((hbd.ext hxd).at rfl) ?_
  repeat first | refine δ1 ?_ | refine δ2 ?_ | refine δ4 ?_ | refine δ5 ?_ | refine δ6 ?_ | refine δ7 ?_ | refine δ9 ?_ | refine δ8 ?_ | refine χ1 ?_ | refine χ2 ?_ | refine χ3 ?_ | refine χ4 ?_ | refine χ5 ?_ | refine χ6 ?_ | refine χ7 ?_
  refine dld ((hbd.ext hxd).at rfl) ?_
  repeat first | refine δ1 ?_ | refine δ2 ?_ | refine δ4 ?_ | refine δ5 ?_ | refine δ6 ?_ | refine δ7 ?_ | refine δ9 ?_ | refine δ8 ?_ | refine χ1 ?_ | refine χ2 ?_ | refine χ3 ?_ | refine χ4 ?_ | refine χ5 ?_ | refine χ6 ?_ | refine χ7 ?_
  refine dinv mL (hL _ (hx1.trans hxd)) ?_
  rintro vl w2 ⟨hl2, hx2⟩
  refine ⟨hx2, ?_⟩
  repeat first | refine δ1 ?_ | refine δ2 ?_ | refine δ4 ?_ | refine δ5 ?_ | refine δ6 ?_ | refine δ7 ?_ | refine δ9 ?_ | refine δ8 ?_ | refine χ1 ?_ | refine χ2 ?_ | refine χ3 ?_ | refine χ4 ?_ | refine χ5 ?_ | refine χ6 ?_ | refine χ7 ?_
  refine dinv mM (hM w2 ((hx1.trans hxd).trans hx2)) ?_
  rintro vm w3 ⟨hm3, hx3⟩
  refine ⟨hx3, ?_⟩
  repeat first | refine δ1 ?_ | refine δ2 ?_ | refine δ4 ?_ | refine δ5 ?_ | refine δ6 ?_ | refine δ7 ?_ | refine δ9 ?_ | refine δ8 ?_ | refine χ1 ?_ | refine χ2 ?_ | refine χ3 ?_ | refine χ4 ?_ | refine χ5 ?_ | refine χ6 ?_ | refine χ7 ?_
  refine dcl (natSub_any (hl2.ext hx3) hm3 (small1000 (by omega))) ?_
  rintro y w4 ⟨⟨vd, rfl, hd4⟩, hx4⟩
  refine ⟨hx4, ?_⟩
  repeat first | refine δ1 ?_ | refine δ2 ?_ | refine δ4 ?_ | refine δ5 ?_ | refine δ6 ?_ | refine δ7 ?_ | refine δ9 ?_ | refine δ8 ?_ | refine χ1 ?_ | refine χ2 ?_ | refine χ3 ?_ | refine χ4 ?_ | refine χ5 ?_ | refine χ6 ?_ | refine χ7 ?_
  repeat first | refine ω1 ?_ | refine ω2 ?_ | refine ω3 ?_ | refine ω4 ?_ | refine ω5 ?_ | refine χ1 ?_ | refine κ1 ?_ | refine κ2 ?_ | refine χ2 ?_ | refine κ3 ?_ | refine ω6 ?_ | refine ω7 ?_ | refine ω9 ?_ | refine κ4 ?_ | refine κ7 ?_ | refine κ8 ?_ | refine χ3 ?_ | refine χ4 ?_ | refine κ5 ?_ | refine κ6 ?_ | refine χ5 ?_ | refine χ6 ?_ | refine χ7 ?_ | refine ω8 ?_
  exact fin1 ⟨hd4, (((hx1.trans hxd).trans hx2).trans hx3).trans hx4⟩
set_option maxRecDepth 100000 in
theorem difRank_any {A C : List Row} {RA RC : Row → Nat} {BA BC : Nat} {SA SC : Row → Prop} {va vc vr : Value} {r : Row} {w : World}
    (ha : ArrO w va A RA BA SA) (hc : ArrO w vc C RC BC SC) (hr : RowV w vr r) (h1 : SA r) (h2 : SC r) :
    Ret Try.prog 35 [.agg #[va, vc], vr] w fun x w' => (∃ vn, ∃ s : Nat, x = .tuple #[vn, .bool (decide (r ∈ A) && !decide (r ∈ C)), .int .i64 (s : Int), .int .i64 0] ∧ NatV w' vn (RA r - RC r)) ∧ Ext w w' := by
  have hsA := ha.small
  have hba := ha.bd
  have hbc := hc.bd
  have hrk := ha.rk r h1
  obtain ⟨ta, xa, rfl⟩ := ha.form
  obtain ⟨tc, xc, rfl⟩ := hc.form
  obtain ⟨fL, rL, mL, hL⟩ := ha.rank
  obtain ⟨fM, rM, mM, hM⟩ := hc.rank
  obtain ⟨A0, c0, rfl, _⟩ := id hr
  refine enterR Try.func35 Try.ntmps35 rfl (by kernel_rfl) rfl ?_
  repeat first | refine ω1 ?_ | refine ω2 ?_ | refine ω3 ?_ | refine ω4 ?_ | refine ω5 ?_ | refine χ1 ?_ | refine κ1 ?_ | refine κ2 ?_ | refine χ2 ?_ | refine κ3 ?_ | refine ω6 ?_ | refine ω7 ?_ | refine ω9 ?_ | refine κ4 ?_ | refine κ7 ?_ | refine κ8 ?_ | refine χ3 ?_ | refine χ4 ?_ | refine κ5 ?_ | refine κ6 ?_ | refine χ5 ?_ | refine χ6 ?_ | refine χ7 ?_ | refine ω8 ?_
  refine bx ?_
  intro w1 bd hx1 hb1 hbd
  repeat first | refine ω1 ?_ | refine ω2 ?_ | refine ω3 ?_ | refine ω4 ?_ | refine ω5 ?_ | refine χ1 ?_ | refine κ1 ?_ | refine κ2 ?_ | refine χ2 ?_ | refine κ3 ?_ | refine ω6 ?_ | refine ω7 ?_ | refine ω9 ?_ | refine κ4 ?_ | refine κ7 ?_ | refine κ8 ?_ | refine χ3 ?_ | refine χ4 ?_ | refine κ5 ?_ | refine κ6 ?_ | refine χ5 ?_ | refine χ6 ?_ | refine χ7 ?_ | refine ω8 ?_
  refine ld (hbd.at rfl) ?_
  repeat first | refine ω1 ?_ | refine ω2 ?_ | refine ω3 ?_ | refine ω4 ?_ | refine ω5 ?_ | refine χ1 ?_ | refine κ1 ?_ | refine κ2 ?_ | refine χ2 ?_ | refine κ3 ?_ | refine ω6 ?_ | refine ω7 ?_ | refine ω9 ?_ | refine κ4 ?_ | refine κ7 ?_ | refine κ8 ?_ | refine χ3 ?_ | refine χ4 ?_ | refine κ5 ?_ | refine κ6 ?_ | refine χ5 ?_ | refine χ6 ?_ | refine χ7 ?_ | refine ω8 ?_
  refine inil ifA (.inr ⟨_, _, rfl⟩) ?_
  repeat first | refine ω1 ?_ | refine ω2 ?_ | refine ω3 ?_ | refine ω4 ?_ | refine ω5 ?_ | refine χ1 ?_ | refine κ1 ?_ | refine κ2 ?_ | refine χ2 ?_ | refine κ3 ?_ | refine ω6 ?_ | refine ω7 ?_ | refine ω9 ?_ | refine κ4 ?_ | refine κ7 ?_ | refine κ8 ?_ | refine χ3 ?_ | refine χ4 ?_ | refine κ5 ?_ | refine κ6 ?_ | refine χ5 ?_ | refine χ6 ?_ | refine χ7 ?_ | refine ω8 ?_
  refine dr [(0, 0), (0, 1), (0, 2), (0, 4), (0, 5), (1, 3), (1, 6), (0, 7), (0, 8), (0, 9), (0, 10), (0, 11), (0, 12), (0, 13), (0, 14), (0, 15)] (by kernel_rfl) ?_
  have hxd : Ext w1 w1.drew := (Ext.refl w1).drew
  repeat first | refine δ1 ?_ | refine δ2 ?_ | refine δ4 ?_ | refine δ5 ?_ | refine δ6 ?_ | refine δ7 ?_ | refine δ9 ?_ | refine δ8 ?_ | refine χ1 ?_ | refine χ2 ?_ | refine χ3 ?_ | refine χ4 ?_ | refine χ5 ?_ | refine χ6 ?_ | refine χ7 ?_
  refine dld ((hbd.ext hxd).at rfl) ?_
  repeat first | refine δ1 ?_ | refine δ2 ?_ | refine δ4 ?_ | refine δ5 ?_ | refine δ6 ?_ | refine δ7 ?_ | refine δ9 ?_ | refine δ8 ?_ | refine χ1 ?_ | refine χ2 ?_ | refine χ3 ?_ | refine χ4 ?_ | refine χ5 ?_ | refine χ6 ?_ | refine χ7 ?_
  refine dnci ?_
  repeat first | refine δ1 ?_ | refine δ2 ?_ | refine δ4 ?_ | refine δ5 ?_ | refine δ6 ?_ | refine δ7 ?_ | refine δ9 ?_ | refine δ8 ?_ | refine χ1 ?_ | refine χ2 ?_ | refine χ3 ?_ | refine χ4 ?_ | refine χ5 ?_ | refine χ6 ?_ | refine χ7 ?_
  refine dcl (cloneRowV ((hr.ext hx1).ext hxd) (fun _ => False) (fun _ h => h.elim)) ?_
  rintro vr2 w2 ⟨hr2, hx2⟩
  refine ⟨hx2, ?_⟩
  have hx02 := (hx1.trans hxd).trans hx2
  repeat first | refine δ1 ?_ | refine δ2 ?_ | refine δ4 ?_ | refine δ5 ?_ | refine δ6 ?_ | refine δ7 ?_ | refine δ9 ?_ | refine δ8 ?_ | refine χ1 ?_ | refine χ2 ?_ | refine χ3 ?_ | refine χ4 ?_ | refine χ5 ?_ | refine χ6 ?_ | refine χ7 ?_
  refine dinv mL (hL w2 hx02 (fun _ => False) (fun _ h => h.elim) r vr2 h1 hr2.v) ?_
  rintro y w3 ⟨⟨vn, s1, rfl, hn3, hs1⟩, hx3⟩
  refine ⟨hx3, ?_⟩
  repeat first | refine δ1 ?_ | refine δ2 ?_ | refine δ4 ?_ | refine δ5 ?_ | refine δ6 ?_ | refine δ7 ?_ | refine δ9 ?_ | refine δ8 ?_ | refine χ1 ?_ | refine χ2 ?_ | refine χ3 ?_ | refine χ4 ?_ | refine χ5 ?_ | refine χ6 ?_ | refine χ7 ?_
  repeat first | refine ω1 ?_ | refine ω2 ?_ | refine ω3 ?_ | refine ω4 ?_ | refine ω5 ?_ | refine χ1 ?_ | refine κ1 ?_ | refine κ2 ?_ | refine χ2 ?_ | refine κ3 ?_ | refine ω6 ?_ | refine ω7 ?_ | refine ω9 ?_ | refine κ4 ?_ | refine κ7 ?_ | refine κ8 ?_ | refine χ3 ?_ | refine χ4 ?_ | refine κ5 ?_ | refine κ6 ?_ | refine χ5 ?_ | refine χ6 ?_ | refine χ7 ?_ | refine ω8 ?_
  refine dr [(0, 0), (0, 1), (0, 2), (0, 4), (0, 5), (1, 3), (1, 6), (0, 7), (0, 8), (0, 9), (0, 10), (0, 11), (0, 12), (0, 13), (0, 14), (0, 15)] (by kernel_rfl) ?_
  have hxd3 : Ext w3 w3.drew := (Ext.refl w3).drew
  have hx03 := (hx02.trans hx3).trans hxd3
  repeat first | refine δ1 ?_ | refine δ2 ?_ | refine δ4 ?_ | refine δ5 ?_ | refine δ6 ?_ | refine δ7 ?_ | refine δ9 ?_ | refine δ8 ?_ | refine χ1 ?_ | refine χ2 ?_ | refine χ3 ?_ | refine χ4 ?_ | refine χ5 ?_ | refine χ6 ?_ | refine χ7 ?_
  refine dld (((((hbd.ext hxd).ext hx2).ext hx3).ext hxd3).at rfl) ?_
  repeat first | refine δ1 ?_ | refine δ2 ?_ | refine δ4 ?_ | refine δ5 ?_ | refine δ6 ?_ | refine δ7 ?_ | refine δ9 ?_ | refine δ8 ?_ | refine χ1 ?_ | refine χ2 ?_ | refine χ3 ?_ | refine χ4 ?_ | refine χ5 ?_ | refine χ6 ?_ | refine χ7 ?_
  refine dnci ?_
  repeat first | refine δ1 ?_ | refine δ2 ?_ | refine δ4 ?_ | refine δ5 ?_ | refine δ6 ?_ | refine δ7 ?_ | refine δ9 ?_ | refine δ8 ?_ | refine χ1 ?_ | refine χ2 ?_ | refine χ3 ?_ | refine χ4 ?_ | refine χ5 ?_ | refine χ6 ?_ | refine χ7 ?_
  refine dcl (cloneRowV (hr.ext hx03) (fun _ => False) (fun _ h => h.elim)) ?_
  rintro vr4 w4 ⟨hr4, hx4⟩
  refine ⟨hx4, ?_⟩
  repeat first | refine δ1 ?_ | refine δ2 ?_ | refine δ4 ?_ | refine δ5 ?_ | refine δ6 ?_ | refine δ7 ?_ | refine δ9 ?_ | refine δ8 ?_ | refine χ1 ?_ | refine χ2 ?_ | refine χ3 ?_ | refine χ4 ?_ | refine χ5 ?_ | refine χ6 ?_ | refine χ7 ?_
  refine dinv mM (hM w4 (hx03.trans hx4) (fun _ => False) (fun _ h => h.elim) r vr4 h2 hr4.v) ?_
  rintro y w5 ⟨⟨vm, s2, rfl, hm5, hs2⟩, hx5⟩
  refine ⟨hx5, ?_⟩
  repeat first | refine δ1 ?_ | refine δ2 ?_ | refine δ4 ?_ | refine δ5 ?_ | refine δ6 ?_ | refine δ7 ?_ | refine δ9 ?_ | refine δ8 ?_ | refine χ1 ?_ | refine χ2 ?_ | refine χ3 ?_ | refine χ4 ?_ | refine χ5 ?_ | refine χ6 ?_ | refine χ7 ?_
  repeat first | refine ω1 ?_ | refine ω2 ?_ | refine ω3 ?_ | refine ω4 ?_ | refine ω5 ?_ | refine χ1 ?_ | refine κ1 ?_ | refine κ2 ?_ | refine χ2 ?_ | refine κ3 ?_ | refine ω6 ?_ | refine ω7 ?_ | refine ω9 ?_ | refine κ4 ?_ | refine κ7 ?_ | refine κ8 ?_ | refine χ3 ?_ | refine χ4 ?_ | refine κ5 ?_ | refine κ6 ?_ | refine χ5 ?_ | refine χ6 ?_ | refine χ7 ?_ | refine ω8 ?_
  refine cl (natSub_any (((hn3.1.ext hxd3).ext hx4).ext hx5) hm5.1 (small1000 (by omega))) ?_
  rintro y w6 ⟨⟨vd, rfl, hd6⟩, hx6⟩
  have hx06 := ((hx03.trans hx4).trans hx5).trans hx6
  repeat first | refine ω1 ?_ | refine ω2 ?_ | refine ω3 ?_ | refine ω4 ?_ | refine ω5 ?_ | refine χ1 ?_ | refine κ1 ?_ | refine κ2 ?_ | refine χ2 ?_ | refine κ3 ?_ | refine ω6 ?_ | refine ω7 ?_ | refine ω9 ?_ | refine κ4 ?_ | refine κ7 ?_ | refine κ8 ?_ | refine χ3 ?_ | refine χ4 ?_ | refine κ5 ?_ | refine κ6 ?_ | refine χ5 ?_ | refine χ6 ?_ | refine χ7 ?_ | refine ω8 ?_
  refine ki 58 (fun h => ?_) (fun h => ?_)
  · repeat first | refine ω1 ?_ | refine ω2 ?_ | refine ω3 ?_ | refine ω4 ?_ | refine ω5 ?_ | refine χ1 ?_ | refine κ1 ?_ | refine κ2 ?_ | refine χ2 ?_ | refine κ3 ?_ | refine ω6 ?_ | refine ω7 ?_ | refine ω9 ?_ | refine κ4 ?_ | refine κ7 ?_ | refine κ8 ?_ | refine χ3 ?_ | refine χ4 ?_ | refine κ5 ?_ | refine κ6 ?_ | refine χ5 ?_ | refine χ6 ?_ | refine χ7 ?_ | refine ω8 ?_
    refine fin4 ⟨⟨vd, s1 + s2, ?_, hd6⟩, hx06⟩
    rw [h]; rfl
  · repeat first | refine ω1 ?_ | refine ω2 ?_ | refine ω3 ?_ | refine ω4 ?_ | refine ω5 ?_ | refine χ1 ?_ | refine κ1 ?_ | refine κ2 ?_ | refine χ2 ?_ | refine κ3 ?_ | refine ω6 ?_ | refine ω7 ?_ | refine ω9 ?_ | refine κ4 ?_ | refine κ7 ?_ | refine κ8 ?_ | refine χ3 ?_ | refine χ4 ?_ | refine κ5 ?_ | refine κ6 ?_ | refine χ5 ?_ | refine χ6 ?_ | refine χ7 ?_ | refine ω8 ?_
    refine fin4 ⟨⟨vd, s1 + s2, ?_, hd6⟩, hx06⟩
    rw [h]; rfl
theorem bldDif (x y : Value) (t s : TypeId) (u v : Value) (hx : x = .iface t u) (hy : y = .iface s v) (w : World) : (Instr.build 66 #[(0, x), (1, y)]).run Try.prog w = .ok (.agg #[x, y]) w := by subst hx; subst hy; kernel_rfl
theorem bldDif0 (w : World) : (Instr.build 66 #[]).run Try.prog w = .ok (.agg #[.nilIface, .nilIface]) w := by kernel_rfl
/-- results: a box, one slot -/
theorem finC2 {n : Nat} {al : AL} {w : World} {fn : Func} {Φ : Value → World → Prop} {c t t1 b : Nat} {k : TK} {cs : List Value} {x : Value} (hb : Blk w b t cs) (hp : Φ (.tuple #[.agg cs.toArray, x]) w)
    (hr : fn.results = #[.cell c t, .tmp t1] := by rfl) (ht : tk tt t = some k := by rfl) (hk : k.desc = .invalid := by rfl) (hs : k.size = cs.length := by rfl) (hc : lk al c = some (.pointer (some ⟨b, 0, none⟩)) := by rfl) (h1 : lk al t1 = some x := by rfl) :
    QX n (Body Try.prog fn Φ) .ret al w :=
  doneR (rs := [.cell c t, .tmp t1]) (vs := [.agg cs.toArray, x]) hr ⟨⟨_, hc, run_loadS tt_ok ht hk hs (fun j u hu => hb.at hu)⟩, h1, trivial⟩ rfl hp
set_option maxRecDepth 100000 in
theorem difOf_any {A C : List Row} {RA RC : Row → Nat} {BA BC : Nat} {SA SC : Row → Prop} {va vc : Value} {w : World} (ha : ArrO w va A RA BA SA) (hc : ArrO w vc C RC BC SC) :
    Ret Try.prog 32 [va, vc] w fun x w' => x = (if C.length ≤ A.length then .tuple #[.agg #[va, vc], .int .i64 0] else .tuple #[.agg #[.nilIface, .nilIface], .int .i64 28]) ∧ Ext w w' := by
  obtain ⟨ta, xa, rfl⟩ := ha.form
  obtain ⟨tc, xc, rfl⟩ := hc.form
  obtain ⟨fL, rL, mL, hL⟩ := ha.len
  obtain ⟨fM, rM, mM, hM⟩ := hc.len
  refine enterR Try.func32 Try.ntmps32 rfl (by kernel_rfl) rfl ?_
  repeat first | refine ω1 ?_ | refine ω2 ?_ | refine ω3 ?_ | refine ω4 ?_ | refine ω5 ?_ | refine χ1 ?_ | refine κ1 ?_ | refine κ2 ?_ | refine χ2 ?_ | refine κ3 ?_ | refine ω6 ?_ | refine ω7 ?_ | refine ω9 ?_ | refine κ4 ?_ | refine κ7 ?_ | refine κ8 ?_ | refine χ3 ?_ | refine χ4 ?_ | refine κ5 ?_ | refine κ6 ?_ | refine χ5 ?_ | refine χ6 ?_ | refine χ7 ?_ | refine ω8 ?_
  refine alc zDif ?_
  intro w1 b hx1 hb1 hk1
  repeat first | refine ω1 ?_ | refine ω2 ?_ | refine ω3 ?_ | refine ω4 ?_ | refine ω5 ?_ | refine χ1 ?_ | refine κ1 ?_ | refine κ2 ?_ | refine χ2 ?_ | refine κ3 ?_ | refine ω6 ?_ | refine ω7 ?_ | refine ω9 ?_ | refine κ4 ?_ | refine κ7 ?_ | refine κ8 ?_ | refine χ3 ?_ | refine χ4 ?_ | refine κ5 ?_ | refine κ6 ?_ | refine χ5 ?_ | refine χ6 ?_ | refine χ7 ?_ | refine ω8 ?_
  refine inil ifA (.inr ⟨_, _, rfl⟩) ?_
  repeat first | refine ω1 ?_ | refine ω2 ?_ | refine ω3 ?_ | refine ω4 ?_ | refine ω5 ?_ | refine χ1 ?_ | refine κ1 ?_ | refine κ2 ?_ | refine χ2 ?_ | refine κ3 ?_ | refine ω6 ?_ | refine ω7 ?_ | refine ω9 ?_ | refine κ4 ?_ | refine κ7 ?_ | refine κ8 ?_ | refine χ3 ?_ | refine χ4 ?_ | refine κ5 ?_ | refine κ6 ?_ | refine χ5 ?_ | refine χ6 ?_ | refine χ7 ?_ | refine ω8 ?_
  refine inil ifA (.inr ⟨_, _, rfl⟩) ?_
  repeat first | refine ω1 ?_ | refine ω2 ?_ | refine ω3 ?_ | refine ω4 ?_ | refine ω5 ?_ | refine χ1 ?_ | refine κ1 ?_ | refine κ2 ?_ | refine χ2 ?_ | refine κ3 ?_ | refine ω6 ?_ | refine ω7 ?_ | refine ω9 ?_ | refine κ4 ?_ | refine κ7 ?_ | refine κ8 ?_ | refine χ3 ?_ | refine χ4 ?_ | refine κ5 ?_ | refine κ6 ?_ | refine χ5 ?_ | refine χ6 ?_ | refine χ7 ?_ | refine ω8 ?_
  refine inv mM (hM w1 hx1) ?_
  rintro vm w2 ⟨hm2, hx2⟩
  repeat first | refine ω1 ?_ | refine ω2 ?_ | refine ω3 ?_ | refine ω4 ?_ | refine ω5 ?_ | refine χ1 ?_ | refine κ1 ?_ | refine κ2 ?_ | refine χ2 ?_ | refine κ3 ?_ | refine ω6 ?_ | refine ω7 ?_ | refine ω9 ?_ | refine κ4 ?_ | refine κ7 ?_ | refine κ8 ?_ | refine χ3 ?_ | refine χ4 ?_ | refine κ5 ?_ | refine κ6 ?_ | refine χ5 ?_ | refine χ6 ?_ | refine χ7 ?_ | refine ω8 ?_
  refine inv mL (hL w2 (hx1.trans hx2)) ?_
  rintro vl w3 ⟨hl3, hx3⟩
  repeat first | refine ω1 ?_ | refine ω2 ?_ | refine ω3 ?_ | refine ω4 ?_ | refine ω5 ?_ | refine χ1 ?_ | refine κ1 ?_ | refine κ2 ?_ | refine χ2 ?_ | refine κ3 ?_ | refine ω6 ?_ | refine ω7 ?_ | refine ω9 ?_ | refine κ4 ?_ | refine κ7 ?_ | refine κ8 ?_ | refine χ3 ?_ | refine χ4 ?_ | refine κ5 ?_ | refine κ6 ?_ | refine χ5 ?_ | refine χ6 ?_ | refine χ7 ?_ | refine ω8 ?_
  refine cl (natCmp_any (hm2.ext hx3) hl3) ?_
  rintro t w4 ⟨rfl, hx4⟩
  have hx14 := (hx2.trans hx3).trans hx4
  have hk4 := hk1.ext hx14
  repeat first | refine ω1 ?_ | refine ω2 ?_ | refine ω3 ?_ | refine ω4 ?_ | refine ω5 ?_ | refine χ1 ?_ | refine κ1 ?_ | refine κ2 ?_ | refine χ2 ?_ | refine κ3 ?_ | refine ω6 ?_ | refine ω7 ?_ | refine ω9 ?_ | refine κ4 ?_ | refine κ7 ?_ | refine κ8 ?_ | refine χ3 ?_ | refine χ4 ?_ | refine κ5 ?_ | refine κ6 ?_ | refine χ5 ?_ | refine χ6 ?_ | refine χ7 ?_ | refine ω8 ?_
  refine ci (fun h => ?_) (fun h => ?_)
  · have hgt := cmpN_gt.1 (of_decide_eq_true h)
    repeat first | refine ω1 ?_ | refine ω2 ?_ | refine ω3 ?_ | refine ω4 ?_ | refine ω5 ?_ | refine χ1 ?_ | refine κ1 ?_ | refine κ2 ?_ | refine χ2 ?_ | refine κ3 ?_ | refine ω6 ?_ | refine ω7 ?_ | refine ω9 ?_ | refine κ4 ?_ | refine κ7 ?_ | refine κ8 ?_ | refine χ3 ?_ | refine χ4 ?_ | refine κ5 ?_ | refine κ6 ?_ | refine χ5 ?_ | refine χ6 ?_ | refine χ7 ?_ | refine ω8 ?_
    refine bld (bldDif0 _) ?_
    repeat first | refine ω1 ?_ | refine ω2 ?_ | refine ω3 ?_ | refine ω4 ?_ | refine ω5 ?_ | refine χ1 ?_ | refine κ1 ?_ | refine κ2 ?_ | refine χ2 ?_ | refine κ3 ?_ | refine ω6 ?_ | refine ω7 ?_ | refine ω9 ?_ | refine κ4 ?_ | refine κ7 ?_ | refine κ8 ?_ | refine χ3 ?_ | refine χ4 ?_ | refine κ5 ?_ | refine κ6 ?_ | refine χ5 ?_ | refine χ6 ?_ | refine χ7 ?_ | refine ω8 ?_
    refine stb hk4 (cs' := [.nilIface, .nilIface]) ?_ (fun u hu => by simp at hu; subst hu; rfl)
    intro w5 hk5 hg5 hx5
    repeat first | refine ω1 ?_ | refine ω2 ?_ | refine ω3 ?_ | refine ω4 ?_ | refine ω5 ?_ | refine χ1 ?_ | refine κ1 ?_ | refine κ2 ?_ | refine χ2 ?_ | refine κ3 ?_ | refine ω6 ?_ | refine ω7 ?_ | refine ω9 ?_ | refine κ4 ?_ | refine κ7 ?_ | refine κ8 ?_ | refine χ3 ?_ | refine χ4 ?_ | refine κ5 ?_ | refine κ6 ?_ | refine χ5 ?_ | refine χ6 ?_ | refine χ7 ?_ | refine ω8 ?_
    refine finC2 hk5 ⟨?_, hx5 w (hx1.trans hx14) hb1⟩
    rw [if_neg (by omega)]
  · have hle : C.length ≤ A.length := by
      have := of_decide_eq_false h
      rcases Nat.lt_or_ge A.length C.length with h1 | h1
      · exact absurd (cmpN_gt.2 h1) this
      · exact h1
    repeat first | refine ω1 ?_ | refine ω2 ?_ | refine ω3 ?_ | refine ω4 ?_ | refine ω5 ?_ | refine χ1 ?_ | refine κ1 ?_ | refine κ2 ?_ | refine χ2 ?_ | refine κ3 ?_ | refine ω6 ?_ | refine ω7 ?_ | refine ω9 ?_ | refine κ4 ?_ | refine κ7 ?_ | refine κ8 ?_ | refine χ3 ?_ | refine χ4 ?_ | refine κ5 ?_ | refine κ6 ?_ | refine χ5 ?_ | refine χ6 ?_ | refine χ7 ?_ | refine ω8 ?_
    refine bld (bldDif _ _ _ _ _ _ rfl rfl _) ?_
    repeat first | refine ω1 ?_ | refine ω2 ?_ | refine ω3 ?_ | refine ω4 ?_ | refine ω5 ?_ | refine χ1 ?_ | refine κ1 ?_ | refine κ2 ?_ | refine χ2 ?_ | refine κ3 ?_ | refine ω6 ?_ | refine ω7 ?_ | refine ω9 ?_ | refine κ4 ?_ | refine κ7 ?_ | refine κ8 ?_ | refine χ3 ?_ | refine χ4 ?_ | refine κ5 ?_ | refine κ6 ?_ | refine χ5 ?_ | refine χ6 ?_ | refine χ7 ?_ | refine ω8 ?_
    refine stb hk4 (cs' := [.iface ta xa, .iface tc xc]) ?_ (fun u hu => by simp at hu; rcases hu with rfl | rfl <;> rfl)
    intro w5 hk5 hg5 hx5
    repeat first | refine ω1 ?_ | refine ω2 ?_ | refine ω3 ?_ | refine ω4 ?_ | refine ω5 ?_ | refine χ1 ?_ | refine κ1 ?_ | refine κ2 ?_ | refine χ2 ?_ | refine κ3 ?_ | refine ω6 ?_ | refine ω7 ?_ | refine ω9 ?_ | refine κ4 ?_ | refine κ7 ?_ | refine κ8 ?_ | refine χ3 ?_ | refine χ4 ?_ | refine κ5 ?_ | refine κ6 ?_ | refine χ5 ?_ | refine χ6 ?_ | refine χ7 ?_ | refine ω8 ?_
    refine finC2 hk5 ⟨?_, hx5 w (hx1.trans hx14) hb1⟩
    rw [if_pos hle]
end Go.Proofs.Ytpahjnfolbnloaa
