/- Arrays by their behaviour; the methods of array.Rows. -/
import Derived.Test.YtpahjnfolbnloaaBits
import Derived.Test.YtpahjnfolbnloaaNat4
set_option linter.unusedVariables false
namespace Go.Proofs.Ytpahjnfolbnloaa
open Go.RowKit Pl Go.Wk
attribute [local irreducible] WC WL QX WD WDB WP
theorem small1000 {n : Nat} (h : n < 18446744073709551616) : (limbs n).length ≤ 1000 := by have := small_len h; omega
/-- what At returns -/
def AtR (w : World) (L : List Row) (B k : Nat) (x : Value) : Prop :=
  if k < L.length then ∃ vr, ∃ s : Nat, x = .tuple #[vr, .int .i64 (s : Int), .int .i64 0] ∧ RowV w vr (L.getD k []) ∧ s ≤ B
  else ∃ s : Nat, x = .tuple #[.slice none 0 0, .int .i64 (s : Int), .int .i64 3] ∧ s ≤ B
/-- what Rank returns -/
def RankR (w : World) (L : List Row) (R : Row → Nat) (B : Nat) (r : Row) (x : Value) : Prop :=
  ∃ vn, ∃ s : Nat, x = .tuple #[vn, .bool (decide (r ∈ L)), .int .i64 (s : Int), .int .i64 0] ∧ NatV w vn (R r) ∧ s ≤ B
/-- an interface value that behaves as the array of the rows L, with the ranks R, within B steps -/
structure ArrI (w : World) (v : Value) (L : List Row) (R : Row → Nat) (B : Nat) : Prop where
  len : ∃ f rv, Meth Try.prog v "Len" f rv ∧ ∀ w', Ext w w' → Ret Try.prog f [rv] w' fun x w'' => NatV w'' x L.length ∧ Ext w' w''
  at_ : ∃ f rv, Meth Try.prog v "At" f rv ∧ ∀ w', Ext w w' → ∀ k vk, NatV w' vk k → k < 9223372036854775808 → Ret Try.prog f [rv, vk] w' fun x w'' => AtR w'' L B k x ∧ Ext w' w''
  rank : ∃ f rv, Meth Try.prog v "Rank" f rv ∧ ∀ w', Ext w w' → ∀ r vr, RowV w' vr r → Ret Try.prog f [rv, vr] w' fun x w'' => RankR w'' L R B r x ∧ Ext w' w''
  small : L.length ≤ 1100000
  rk : ∀ r, R r ≤ L.length
  bd : B ≤ 1000000
  pos : ∀ i, i < L.length → R (L.getD i []) = i
theorem ArrI.ext {w w' : World} {v : Value} {L : List Row} {R : Row → Nat} {B : Nat} (h : ArrI w v L R B) (hx : Ext w w') : ArrI w' v L R B := by
  obtain ⟨⟨f1, r1, m1, h1⟩, ⟨f2, r2, m2, h2⟩, ⟨f3, r3, m3, h3⟩, h4, h5, h6, h7⟩ := h
  exact ⟨⟨f1, r1, m1, fun w2 hx2 => h1 w2 (hx.trans hx2)⟩, ⟨f2, r2, m2, fun w2 hx2 => h2 w2 (hx.trans hx2)⟩, ⟨f3, r3, m3, fun w2 hx2 => h3 w2 (hx.trans hx2)⟩, h4, h5, h6, h7⟩
theorem ArrI.form {w : World} {v : Value} {L : List Row} {R : Row → Nat} {B : Nat} (h : ArrI w v L R B) : ∃ t x, v = .iface t x := by
  obtain ⟨⟨f1, r1, ⟨t, x, rfl, _⟩, h1⟩, _⟩ := h; exact ⟨t, x, rfl⟩
theorem u64c (n : Nat) (h : n ≤ 1100000) : IntKind.u64.wrap (n : Int) = (n : Int) := u64w (by omega)
set_option maxRecDepth 100000 in
theorem rowsLen_any {v : Value} {ds : List Bool} {m : List Row} {w : World} (h : RowsA w v ds m) : Ret Try.prog 130 [v] w fun x w' => NatV w' x m.length ∧ Ext w w' := by
  obtain ⟨v1, v2, rfl, h1, h2⟩ := h
  obtain ⟨A, c, rfl, hc, hm, _⟩ := h1.parts
  obtain ⟨D, dn, dc, rfl⟩ := h2.slc
  refine enterR Try.func130 Try.ntmps130 rfl (by kernel_rfl) rfl ?_
  repeat first | refine ω1 ?_ | refine ω2 ?_ | refine ω3 ?_ | refine ω4 ?_ | refine ω5 ?_ | refine χ1 ?_ | refine κ1 ?_ | refine κ2 ?_ | refine χ2 ?_ | refine κ3 ?_ | refine ω6 ?_ | refine ω7 ?_ | refine ω9 ?_ | refine κ4 ?_ | refine κ7 ?_ | refine κ8 ?_ | refine χ3 ?_ | refine χ4 ?_ | refine κ5 ?_ | refine κ6 ?_ | refine χ5 ?_ | refine χ6 ?_ | refine χ7 ?_ | refine ω8 ?_
  refine bx ?_
  intro w1 b1 hx1 hb1 hk1
  repeat first | refine ω1 ?_ | refine ω2 ?_ | refine ω3 ?_ | refine ω4 ?_ | refine ω5 ?_ | refine χ1 ?_ | refine κ1 ?_ | refine κ2 ?_ | refine χ2 ?_ | refine κ3 ?_ | refine ω6 ?_ | refine ω7 ?_ | refine ω9 ?_ | refine κ4 ?_ | refine κ7 ?_ | refine κ8 ?_ | refine χ3 ?_ | refine χ4 ?_ | refine κ5 ?_ | refine κ6 ?_ | refine χ5 ?_ | refine χ6 ?_ | refine χ7 ?_ | refine ω8 ?_
  refine ld (hk1.at rfl) ?_
  repeat first | refine ω1 ?_ | refine ω2 ?_ | refine ω3 ?_ | refine ω4 ?_ | refine ω5 ?_ | refine χ1 ?_ | refine κ1 ?_ | refine κ2 ?_ | refine χ2 ?_ | refine κ3 ?_ | refine ω6 ?_ | refine ω7 ?_ | refine ω9 ?_ | refine κ4 ?_ | refine κ7 ?_ | refine κ8 ?_ | refine χ3 ?_ | refine χ4 ?_ | refine κ5 ?_ | refine κ6 ?_ | refine χ5 ?_ | refine χ6 ?_ | refine χ7 ?_ | refine ω8 ?_
  rw [u64c _ hm]
  refine cl (natOf_any m.length (by omega) _) ?_
  rintro x w2 ⟨hn, hx2⟩
  repeat first | refine ω1 ?_ | refine ω2 ?_ | refine ω3 ?_ | refine ω4 ?_ | refine ω5 ?_ | refine χ1 ?_ | refine κ1 ?_ | refine κ2 ?_ | refine χ2 ?_ | refine κ3 ?_ | refine ω6 ?_ | refine ω7 ?_ | refine ω9 ?_ | refine κ4 ?_ | refine κ7 ?_ | refine κ8 ?_ | refine χ3 ?_ | refine χ4 ?_ | refine κ5 ?_ | refine κ6 ?_ | refine χ5 ?_ | refine χ6 ?_ | refine χ7 ?_ | refine ω8 ?_
  exact fin1 ⟨hn, hx1.trans hx2⟩
set_option maxRecDepth 100000 in
theorem rowsAt_any {v vk : Value} {ds : List Bool} {m : List Row} {k : Nat} {w : World} (h : RowsA w v ds m) (hk : NatV w vk k) (hkb : k < 9223372036854775808) : Ret Try.prog 129 [v, vk] w fun x w' => AtR w' m 1 k x ∧ Ext w w' := by
  obtain ⟨v1, v2, rfl, h1, h2⟩ := h
  obtain ⟨A, c, rfl, hc, hm, cs, hrd, hcs⟩ := h1.parts
  obtain ⟨D, dn, dc, rfl⟩ := h2.slc
  refine enterR Try.func129 Try.ntmps129 rfl (by kernel_rfl) rfl ?_
  repeat first | refine ω1 ?_ | refine ω2 ?_ | refine ω3 ?_ | refine ω4 ?_ | refine ω5 ?_ | refine χ1 ?_ | refine κ1 ?_ | refine κ2 ?_ | refine χ2 ?_ | refine κ3 ?_ | refine ω6 ?_ | refine ω7 ?_ | refine ω9 ?_ | refine κ4 ?_ | refine κ7 ?_ | refine κ8 ?_ | refine χ3 ?_ | refine χ4 ?_ | refine κ5 ?_ | refine κ6 ?_ | refine χ5 ?_ | refine χ6 ?_ | refine χ7 ?_ | refine ω8 ?_
  refine bx ?_
  intro w1 b1 hx1 hb1 hk1
  repeat first | refine ω1 ?_ | refine ω2 ?_ | refine ω3 ?_ | refine ω4 ?_ | refine ω5 ?_ | refine χ1 ?_ | refine κ1 ?_ | refine κ2 ?_ | refine χ2 ?_ | refine κ3 ?_ | refine ω6 ?_ | refine ω7 ?_ | refine ω9 ?_ | refine κ4 ?_ | refine κ7 ?_ | refine κ8 ?_ | refine χ3 ?_ | refine χ4 ?_ | refine κ5 ?_ | refine κ6 ?_ | refine χ5 ?_ | refine χ6 ?_ | refine χ7 ?_ | refine ω8 ?_
  refine cl (natUint64_any (hk.ext hx1) (by omega)) ?_
  rintro x w2 ⟨rfl, rfl⟩
  repeat first | refine ω1 ?_ | refine ω2 ?_ | refine ω3 ?_ | refine ω4 ?_ | refine ω5 ?_ | refine χ1 ?_ | refine κ1 ?_ | refine κ2 ?_ | refine χ2 ?_ | refine κ3 ?_ | refine ω6 ?_ | refine ω7 ?_ | refine ω9 ?_ | refine κ4 ?_ | refine κ7 ?_ | refine κ8 ?_ | refine χ3 ?_ | refine χ4 ?_ | refine κ5 ?_ | refine κ6 ?_ | refine χ5 ?_ | refine χ6 ?_ | refine χ7 ?_ | refine ω8 ?_
  refine ld (hk1.at rfl) ?_
  repeat first | refine ω1 ?_ | refine ω2 ?_ | refine ω3 ?_ | refine ω4 ?_ | refine ω5 ?_ | refine χ1 ?_ | refine κ1 ?_ | refine κ2 ?_ | refine χ2 ?_ | refine κ3 ?_ | refine ω6 ?_ | refine ω7 ?_ | refine ω9 ?_ | refine κ4 ?_ | refine κ7 ?_ | refine κ8 ?_ | refine χ3 ?_ | refine χ4 ?_ | refine κ5 ?_ | refine κ6 ?_ | refine χ5 ?_ | refine χ6 ?_ | refine χ7 ?_ | refine ω8 ?_
  rw [u64c _ hm]
  refine ci (fun hge => ?_) (fun hlt => ?_)
  · have hge : ¬ k < m.length := by have := of_decide_eq_true hge; omega
    repeat first | refine ω1 ?_ | refine ω2 ?_ | refine ω3 ?_ | refine ω4 ?_ | refine ω5 ?_ | refine χ1 ?_ | refine κ1 ?_ | refine κ2 ?_ | refine χ2 ?_ | refine κ3 ?_ | refine ω6 ?_ | refine ω7 ?_ | refine ω9 ?_ | refine κ4 ?_ | refine κ7 ?_ | refine κ8 ?_ | refine χ3 ?_ | refine χ4 ?_ | refine κ5 ?_ | refine κ6 ?_ | refine χ5 ?_ | refine χ6 ?_ | refine χ7 ?_ | refine ω8 ?_
    refine fin3 ⟨?_, hx1⟩
    unfold AtR
    rw [if_neg hge]
    exact ⟨0, rfl, by omega⟩
  · have hlt : k < m.length := by have := of_decide_eq_false hlt; omega
    obtain ⟨u, hu, hru⟩ := hcs k hlt
    repeat first | refine ω1 ?_ | refine ω2 ?_ | refine ω3 ?_ | refine ω4 ?_ | refine ω5 ?_ | refine χ1 ?_ | refine κ1 ?_ | refine κ2 ?_ | refine χ2 ?_ | refine κ3 ?_ | refine ω6 ?_ | refine ω7 ?_ | refine ω9 ?_ | refine κ4 ?_ | refine κ7 ?_ | refine κ8 ?_ | refine χ3 ?_ | refine χ4 ?_ | refine κ5 ?_ | refine κ6 ?_ | refine χ5 ?_ | refine χ6 ?_ | refine χ7 ?_ | refine ω8 ?_
    refine ld (hk1.at rfl) ?_
    repeat first | refine ω1 ?_ | refine ω2 ?_ | refine ω3 ?_ | refine ω4 ?_ | refine ω5 ?_ | refine χ1 ?_ | refine κ1 ?_ | refine κ2 ?_ | refine χ2 ?_ | refine κ3 ?_ | refine ω6 ?_ | refine ω7 ?_ | refine ω9 ?_ | refine κ4 ?_ | refine κ7 ?_ | refine κ8 ?_ | refine χ3 ?_ | refine χ4 ?_ | refine κ5 ?_ | refine κ6 ?_ | refine χ5 ?_ | refine χ6 ?_ | refine χ7 ?_ | refine ω8 ?_
    refine ix k (hrd.ext hx1) hlt ?_
    repeat first | refine ω1 ?_ | refine ω2 ?_ | refine ω3 ?_ | refine ω4 ?_ | refine ω5 ?_ | refine χ1 ?_ | refine κ1 ?_ | refine κ2 ?_ | refine χ2 ?_ | refine κ3 ?_ | refine ω6 ?_ | refine ω7 ?_ | refine ω9 ?_ | refine κ4 ?_ | refine κ7 ?_ | refine κ8 ?_ | refine χ3 ?_ | refine χ4 ?_ | refine κ5 ?_ | refine κ6 ?_ | refine χ5 ?_ | refine χ6 ?_ | refine χ7 ?_ | refine ω8 ?_
    refine ld ((hrd.ext hx1).cell hu) ?_
    repeat first | refine ω1 ?_ | refine ω2 ?_ | refine ω3 ?_ | refine ω4 ?_ | refine ω5 ?_ | refine χ1 ?_ | refine κ1 ?_ | refine κ2 ?_ | refine χ2 ?_ | refine κ3 ?_ | refine ω6 ?_ | refine ω7 ?_ | refine ω9 ?_ | refine κ4 ?_ | refine κ7 ?_ | refine κ8 ?_ | refine χ3 ?_ | refine χ4 ?_ | refine κ5 ?_ | refine κ6 ?_ | refine χ5 ?_ | refine χ6 ?_ | refine χ7 ?_ | refine ω8 ?_
    refine cl (cloneRowV (hru.ext hx1) (fun _ => False) (fun _ h => h.elim)) ?_
    rintro x w3 ⟨hr3, hx3⟩
    repeat first | refine ω1 ?_ | refine ω2 ?_ | refine ω3 ?_ | refine ω4 ?_ | refine ω5 ?_ | refine χ1 ?_ | refine κ1 ?_ | refine κ2 ?_ | refine χ2 ?_ | refine κ3 ?_ | refine ω6 ?_ | refine ω7 ?_ | refine ω9 ?_ | refine κ4 ?_ | refine κ7 ?_ | refine κ8 ?_ | refine χ3 ?_ | refine χ4 ?_ | refine κ5 ?_ | refine κ6 ?_ | refine χ5 ?_ | refine χ6 ?_ | refine χ7 ?_ | refine ω8 ?_
    refine fin3 ⟨?_, hx1.trans hx3⟩
    unfold AtR
    rw [if_pos hlt]
    exact ⟨x, 1, rfl, hr3.v, Nat.le_refl _⟩
set_option maxRecDepth 100000 in
theorem rowsRank_any {v vr : Value} {ds : List Bool} {m : List Row} {r : Row} {w : World} (h : RowsA w v ds m) (hr : RowV w vr r) (hl : Lt ds m) (hms : m.length < 256) : Ret Try.prog 16 [v, vr] w fun x w' => (∃ vn, x = .tuple #[vn, .bool (decide (r ∈ m)), .int .i64 (lenB m.length : Int), .int .i64 0] ∧ NatV w' vn (cnt ds m r)) ∧ Ext w w' := by
  obtain ⟨v1, v2, rfl, h1, h2⟩ := h
  obtain ⟨A, c, rfl, hc, hm, cs, hrd, hcs⟩ := h1.parts
  obtain ⟨D, dn, dc, rfl⟩ := h2.slc
  have hcl := cnt_le ds m r
  refine enterR Try.func16 Try.ntmps16 rfl (by kernel_rfl) rfl ?_
  repeat first | refine ω1 ?_ | refine ω2 ?_ | refine ω3 ?_ | refine ω4 ?_ | refine ω5 ?_ | refine χ1 ?_ | refine κ1 ?_ | refine κ2 ?_ | refine χ2 ?_ | refine κ3 ?_ | refine ω6 ?_ | refine ω7 ?_ | refine ω9 ?_ | refine κ4 ?_ | refine κ7 ?_ | refine κ8 ?_ | refine χ3 ?_ | refine χ4 ?_ | refine κ5 ?_ | refine κ6 ?_ | refine χ5 ?_ | refine χ6 ?_ | refine χ7 ?_ | refine ω8 ?_
  refine bx ?_
  intro w1 b1 hx1 hb1 hk1
  repeat first | refine ω1 ?_ | refine ω2 ?_ | refine ω3 ?_ | refine ω4 ?_ | refine ω5 ?_ | refine χ1 ?_ | refine κ1 ?_ | refine κ2 ?_ | refine χ2 ?_ | refine κ3 ?_ | refine ω6 ?_ | refine ω7 ?_ | refine ω9 ?_ | refine κ4 ?_ | refine κ7 ?_ | refine κ8 ?_ | refine χ3 ?_ | refine χ4 ?_ | refine κ5 ?_ | refine κ6 ?_ | refine χ5 ?_ | refine χ6 ?_ | refine χ7 ?_ | refine ω8 ?_
  refine ld (hk1.at rfl) ?_
  repeat first | refine ω1 ?_ | refine ω2 ?_ | refine ω3 ?_ | refine ω4 ?_ | refine ω5 ?_ | refine χ1 ?_ | refine κ1 ?_ | refine κ2 ?_ | refine χ2 ?_ | refine κ3 ?_ | refine ω6 ?_ | refine ω7 ?_ | refine ω9 ?_ | refine κ4 ?_ | refine κ7 ?_ | refine κ8 ?_ | refine χ3 ?_ | refine χ4 ?_ | refine κ5 ?_ | refine κ6 ?_ | refine χ5 ?_ | refine χ6 ?_ | refine χ7 ?_ | refine ω8 ?_
  refine ld (hk1.at rfl) ?_
  repeat first | refine ω1 ?_ | refine ω2 ?_ | refine ω3 ?_ | refine ω4 ?_ | refine ω5 ?_ | refine χ1 ?_ | refine κ1 ?_ | refine κ2 ?_ | refine χ2 ?_ | refine κ3 ?_ | refine ω6 ?_ | refine ω7 ?_ | refine ω9 ?_ | refine κ4 ?_ | refine κ7 ?_ | refine κ8 ?_ | refine χ3 ?_ | refine χ4 ?_ | refine κ5 ?_ | refine κ6 ?_ | refine χ5 ?_ | refine χ6 ?_ | refine χ7 ?_ | refine ω8 ?_
  refine cl (rowSearch_any (h1.ext hx1) (hr.ext hx1) (h2.ext hx1) hl) ?_
  rintro x w2 ⟨rfl, hx2⟩
  repeat first | refine ω1 ?_ | refine ω2 ?_ | refine ω3 ?_ | refine ω4 ?_ | refine ω5 ?_ | refine χ1 ?_ | refine κ1 ?_ | refine κ2 ?_ | refine χ2 ?_ | refine κ3 ?_ | refine ω6 ?_ | refine ω7 ?_ | refine ω9 ?_ | refine κ4 ?_ | refine κ7 ?_ | refine κ8 ?_ | refine χ3 ?_ | refine χ4 ?_ | refine κ5 ?_ | refine κ6 ?_ | refine χ5 ?_ | refine χ6 ?_ | refine χ7 ?_ | refine ω8 ?_
  refine dr [(0, 0), (0, 1), (0, 3), (0, 4), (0, 5), (0, 6), (0, 7), (1, 2), (1, 8), (0, 9), (0, 10), (0, 11), (0, 12)] (by kernel_rfl) ?_
  have hxd : Ext w2 w2.drew := (Ext.refl w2).drew
  have hk2 := (hk1.ext hx2).ext hxd
  repeat first | refine δ1 ?_ | refine δ2 ?_ | refine δ4 ?_ | refine δ5 ?_ | refine δ6 ?_ | refine δ7 ?_ | refine δ9 ?_ | refine δ8 ?_ | refine χ1 ?_ | refine χ2 ?_ | refine χ3 ?_ | refine χ4 ?_ | refine χ5 ?_ | refine χ6 ?_ | refine χ7 ?_
  refine dld (hk2.at rfl) ?_
  repeat first | refine δ1 ?_ | refine δ2 ?_ | refine δ4 ?_ | refine δ5 ?_ | refine δ6 ?_ | refine δ7 ?_ | refine δ9 ?_ | refine δ8 ?_ | refine χ1 ?_ | refine χ2 ?_ | refine χ3 ?_ | refine χ4 ?_ | refine χ5 ?_ | refine χ6 ?_ | refine χ7 ?_
  rw [u64c _ hm, u64c _ (show cnt ds m r ≤ 1100000 by omega)]
  refine dcl (natOf_any (cnt ds m r) (by omega) _) ?_
  rintro x w3 ⟨hn3, hx3⟩
  refine ⟨hx3, ?_⟩
  refine dcl (bitsLen_any hms _) ?_
  rintro y w4 ⟨rfl, rfl⟩
  refine ⟨Ext.refl _, ?_⟩
  repeat first | refine δ1 ?_ | refine δ2 ?_ | refine δ4 ?_ | refine δ5 ?_ | refine δ6 ?_ | refine δ7 ?_ | refine δ9 ?_ | refine δ8 ?_ | refine χ1 ?_ | refine χ2 ?_ | refine χ3 ?_ | refine χ4 ?_ | refine χ5 ?_ | refine χ6 ?_ | refine χ7 ?_
  repeat first | refine ω1 ?_ | refine ω2 ?_ | refine ω3 ?_ | refine ω4 ?_ | refine ω5 ?_ | refine χ1 ?_ | refine κ1 ?_ | refine κ2 ?_ | refine χ2 ?_ | refine κ3 ?_ | refine ω6 ?_ | refine ω7 ?_ | refine ω9 ?_ | refine κ4 ?_ | refine κ7 ?_ | refine κ8 ?_ | refine χ3 ?_ | refine χ4 ?_ | refine κ5 ?_ | refine κ6 ?_ | refine χ5 ?_ | refine χ6 ?_ | refine χ7 ?_ | refine ω8 ?_
  exact fin4 ⟨⟨x, rfl, hn3⟩, ((hx1.trans hx2).trans hxd).trans hx3⟩
theorem mRowsLen (x y : Value) : Meth Try.prog (.iface 29 (.agg #[x, y])) "Len" 130 (.agg #[x, y]) := ⟨_, _, rfl, fun w => by kernel_rfl, fun w => by kernel_rfl⟩
theorem mRowsAt (x y : Value) : Meth Try.prog (.iface 29 (.agg #[x, y])) "At" 129 (.agg #[x, y]) := ⟨_, _, rfl, fun w => by kernel_rfl, fun w => by kernel_rfl⟩
theorem mRowsRank (x y : Value) : Meth Try.prog (.iface 29 (.agg #[x, y])) "Rank" 16 (.agg #[x, y]) := ⟨_, _, rfl, fun w => by kernel_rfl, fun w => by kernel_rfl⟩
theorem AtR.mono {w : World} {L : List Row} {B B' k : Nat} {x : Value} (h : AtR w L B k x) (hb : B ≤ B') : AtR w L B' k x := by
  unfold AtR at *
  split
  · rename_i hk; rw [if_pos hk] at h; obtain ⟨vr, s, h1, h2, h3⟩ := h; exact ⟨vr, s, h1, h2, by omega⟩
  · rename_i hk; rw [if_neg hk] at h; obtain ⟨s, h1, h2⟩ := h; exact ⟨s, h1, by omega⟩
/-- rows are an array -/
theorem rowsI {w : World} {v : Value} {ds : List Bool} {m : List Row} (h : RowsA w v ds m) (hl : Lt ds m) (hms : m.length < 256) : ArrI w (.iface 29 v) m (cnt ds m) 64 := by
  obtain ⟨v1, v2, rfl, h1, h2⟩ := id h
  refine ⟨⟨_, _, mRowsLen _ _, fun w' hx => rowsLen_any (h.ext hx)⟩, ⟨_, _, mRowsAt _ _, fun w' hx k vk hk hkb => (rowsAt_any (h.ext hx) hk hkb).mono fun x w'' ⟨h1, h2⟩ => ⟨h1.mono (by omega), h2⟩⟩,
    ⟨_, _, mRowsRank _ _, fun w' hx r vr hr => (rowsRank_any (h.ext hx) hr hl hms).mono fun x w'' ⟨⟨vn, h1, h2⟩, h3⟩ => ⟨⟨vn, lenB m.length, h1, h2, by have := lenB_le hms; omega⟩, h3⟩⟩, by omega, fun r => cnt_le _ _ _, by omega, fun i hi => cnt_at hl hi⟩
end Go.Proofs.Ytpahjnfolbnloaa
