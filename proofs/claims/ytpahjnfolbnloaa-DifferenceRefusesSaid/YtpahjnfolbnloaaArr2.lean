/- Contract of bits.Len, for small numbers. -/
import Derived.Test.YtpahjnfolbnloaaOf
import Derived.Test.YtpahjnfolbnloaaRegC
import Derived.Test.YtpahjnfolbnloaaNat4
set_option linter.unusedVariables false
namespace Go.Proofs.Ytpahjnfolbnloaa
open Go.RowKit Pl Go.Wk
attribute [local irreducible] WC WL QX WD WDB WP
/-- the number of bits -/
def lenB (x : Nat) : Nat := if x = 0 then 0 else Nat.log2 x + 1
theorem lenB_le {x : Nat} (h : x < 256) : lenB x ≤ 8 := by
  unfold lenB
  split
  · omega
  · rename_i h0
    have := (Nat.log2_lt h0).2 (show x < 2 ^ 8 by omega)
    omega
theorem lenB_lt {x : Nat} : x < 2 ^ lenB x := by
  unfold lenB
  split
  · omega
  · exact Nat.lt_log2_self
theorem tabB (s : ByteArray) (h : ((List.range 256).all fun j => (s.data.toList.getD j 0).toNat == lenB j) = true) {j : Nat} (hj : j < 256) : (s.data.toList.getD j 0).toNat = lenB j := by
  have := List.all_eq_true.1 h j (List.mem_range.2 hj)
  simpa using this
set_option maxRecDepth 100000 in
theorem len64_any {x : Nat} (h : x < 256) (w : World) : Ret Try.prog 61 [.int .u64 (x : Int)] w fun v w' => v = .int .i64 (lenB x : Int) ∧ w' = w := by
  refine enterR Try.func61 Try.ntmps61 rfl (by kernel_rfl) rfl ?_
  repeat first | refine ω1 ?_ | refine ω2 ?_ | refine ω3 ?_ | refine ω4 ?_ | refine ω5 ?_ | refine χ1 ?_ | refine κ1 ?_ | refine κ2 ?_ | refine χ2 ?_ | refine κ3 ?_ | refine ω6 ?_ | refine ω7 ?_ | refine ω9 ?_ | refine κ4 ?_ | refine κ7 ?_ | refine κ8 ?_ | refine χ3 ?_ | refine χ4 ?_ | refine κ5 ?_ | refine κ6 ?_ | refine χ5 ?_ | refine χ6 ?_ | refine χ7 ?_ | refine ω8 ?_
  refine cf ?_ ?_
  · exact decide_eq_false (by omega)
  repeat first | refine ω1 ?_ | refine ω2 ?_ | refine ω3 ?_ | refine ω4 ?_ | refine ω5 ?_ | refine χ1 ?_ | refine κ1 ?_ | refine κ2 ?_ | refine χ2 ?_ | refine κ3 ?_ | refine ω6 ?_ | refine ω7 ?_ | refine ω9 ?_ | refine κ4 ?_ | refine κ7 ?_ | refine κ8 ?_ | refine χ3 ?_ | refine χ4 ?_ | refine κ5 ?_ | refine κ6 ?_ | refine χ5 ?_ | refine χ6 ?_ | refine χ7 ?_ | refine ω8 ?_
  refine cf ?_ ?_
  · exact decide_eq_false (by omega)
  repeat first | refine ω1 ?_ | refine ω2 ?_ | refine ω3 ?_ | refine ω4 ?_ | refine ω5 ?_ | refine χ1 ?_ | refine κ1 ?_ | refine κ2 ?_ | refine χ2 ?_ | refine κ3 ?_ | refine ω6 ?_ | refine ω7 ?_ | refine ω9 ?_ | refine κ4 ?_ | refine κ7 ?_ | refine κ8 ?_ | refine χ3 ?_ | refine χ4 ?_ | refine κ5 ?_ | refine κ6 ?_ | refine χ5 ?_ | refine χ6 ?_ | refine χ7 ?_ | refine ω8 ?_
  refine cf ?_ ?_
  · exact decide_eq_false (by omega)
  repeat first | refine ω1 ?_ | refine ω2 ?_ | refine ω3 ?_ | refine ω4 ?_ | refine ω5 ?_ | refine χ1 ?_ | refine κ1 ?_ | refine κ2 ?_ | refine χ2 ?_ | refine κ3 ?_ | refine ω6 ?_ | refine ω7 ?_ | refine ω9 ?_ | refine κ4 ?_ | refine κ7 ?_ | refine κ8 ?_ | refine χ3 ?_ | refine χ4 ?_ | refine κ5 ?_ | refine κ6 ?_ | refine χ5 ?_ | refine χ6 ?_ | refine χ7 ?_ | refine ω8 ?_
  refine wsindex tt_ok x rfl rfl rfl rfl ?_ ?_ rfl ?_
  · rw [IntKind.wrap_u8]; omega
  · exact Nat.lt_of_lt_of_le h (by decide)
  refine kv 22 (u := .int .u8 (lenB x : Int)) (congrArg (fun z : Nat => Value.int .u8 (z : Int)) (tabB _ (by kernel_rfl) h)) ?_
  have := lenB_le h
  repeat first | refine ω1 ?_ | refine ω2 ?_ | refine ω3 ?_ | refine ω4 ?_ | refine ω5 ?_ | refine χ1 ?_ | refine κ1 ?_ | refine κ2 ?_ | refine χ2 ?_ | refine κ3 ?_ | refine ω6 ?_ | refine ω7 ?_ | refine ω9 ?_ | refine κ4 ?_ | refine κ7 ?_ | refine κ8 ?_ | refine χ3 ?_ | refine χ4 ?_ | refine κ5 ?_ | refine κ6 ?_ | refine χ5 ?_ | refine χ6 ?_ | refine χ7 ?_ | refine ω8 ?_
  refine fin1 ⟨?_, rfl⟩
  rw [i64w (z := (lenB x : Int)) (by omega)]
  simp only [Int.zero_add]
  rw [i64w (by omega)]
set_option maxRecDepth 100000 in
theorem bitsLen_any {x : Nat} (h : x < 256) (w : World) : Ret Try.prog 21 [.int .u64 (x : Int)] w fun v w' => v = .int .i64 (lenB x : Int) ∧ w' = w := by
  refine enterR Try.func21 Try.ntmps21 rfl (by kernel_rfl) rfl ?_
  repeat first | refine ω1 ?_ | refine ω2 ?_ | refine ω3 ?_ | refine ω4 ?_ | refine ω5 ?_ | refine χ1 ?_ | refine κ1 ?_ | refine κ2 ?_ | refine χ2 ?_ | refine κ3 ?_ | refine ω6 ?_ | refine ω7 ?_ | refine ω9 ?_ | refine κ4 ?_ | refine κ7 ?_ | refine κ8 ?_ | refine χ3 ?_ | refine χ4 ?_ | refine κ5 ?_ | refine κ6 ?_ | refine χ5 ?_ | refine χ6 ?_ | refine χ7 ?_ | refine ω8 ?_
  refine cl (len64_any h w) ?_
  rintro v w' ⟨rfl, rfl⟩
  repeat first | refine ω1 ?_ | refine ω2 ?_ | refine ω3 ?_ | refine ω4 ?_ | refine ω5 ?_ | refine χ1 ?_ | refine κ1 ?_ | refine κ2 ?_ | refine χ2 ?_ | refine κ3 ?_ | refine ω6 ?_ | refine ω7 ?_ | refine ω9 ?_ | refine κ4 ?_ | refine κ7 ?_ | refine κ8 ?_ | refine χ3 ?_ | refine χ4 ?_ | refine κ5 ?_ | refine κ6 ?_ | refine χ5 ?_ | refine χ6 ?_ | refine χ7 ?_ | refine ω8 ?_
  exact fin1 ⟨rfl, rfl⟩
end Go.Proofs.Ytpahjnfolbnloaa
/- Arrays by their behaviour; the methods of array.Rows. -/
set_option linter.unusedVariables false
namespace Go.Proofs.Ytpahjnfolbnloaa
open Go.RowKit Pl Go.Wk
attribute [local irreducible] WC WL QX WD WDB WP
theorem small1000 {n : Nat} (h : n < 18446744073709551616) : (limbs n).length ≤ 1000 := by have := small_len h; omega
/-- what At returns -/
def AtR (w : World) (L : List Row) (B k : Nat) (x : Value) : Prop :=
  if k < L.length then ∃ vr, ∃ s : Nat, x = .tuple #[vr, .int .i64 (s : Int), .int .i64 0] ∧ RowV w vr (L.getD k []) ∧ s ≤ B
  else ∃ s : Nat, x = .tuple #[.slice none 0 0, .int .i64 (s : Int), .int .i64 3] ∧ s ≤ B
/-- what Rank returns -/
def RankR (w : World) (L : List Row) (R : Row → Nat) (B : Nat) (r : Row) (x : Value) : Prop :=
  ∃ vn, ∃ s : Nat, x = .tuple #[vn, .bool (decide (r ∈ L)), .int .i64 (s : Int), .int .i64 0] ∧ NatV w vn (R r) ∧ s ≤ B
/-- an interface value that behaves as the array of the rows L, with the ranks R, within B steps -/
structure ArrI (w : World) (v : Value) (L : List Row) (R : Row → Nat) (B : Nat) : Prop where
  len : ∃ f rv, Meth Try.prog v "Len" f rv ∧ ∀ w', Ext w w' → Ret Try.prog f [rv] w' fun x w'' => NatV w'' x L.length ∧ Ext w' w''
  at_ : ∃ f rv, Meth Try.prog v "At" f rv ∧ ∀ w', Ext w w' → ∀ k vk, NatV w' vk k → k < 9223372036854775808 → Ret Try.prog f [rv, vk] w' fun x w'' => AtR w'' L B k x ∧ Ext w' w''
  rank : ∃ f rv, Meth Try.prog v "Rank" f rv ∧ ∀ w', Ext w w' → ∀ r vr, RowV w' vr r → Ret Try.prog f [rv, vr] w' fun x w'' => RankR w'' L R B r x ∧ Ext w' w''
  small : L.length ≤ 1100000
  rk : ∀ r, R r ≤ L.length
  bd : B ≤ 1000000
  pos : ∀ i, i < L.length → R (L.getD i []) = i
theorem ArrI.ext {w w' : World} {v : Value} {L : List Row} {R : Row → Nat} {B : Nat} (h : ArrI w v L R B) (hx : Ext w w') : ArrI w' v L R B := by
  obtain ⟨⟨f1, r1, m1, h1⟩, ⟨f2, r2, m2, h2⟩, ⟨f3, r3, m3, h3⟩, h4, h5, h6, h7⟩ := h
  exact ⟨⟨f1, r1, m1, fun w2 hx2 => h1 w2 (hx.trans hx2)⟩, ⟨f2, r2, m2, fun w2 hx2 => h2 w2 (hx.trans hx2)⟩, ⟨f3, r3, m3, fun w2 hx2 => h3 w2 (hx.trans hx2)⟩, h4, h5, h6, h7⟩
theorem ArrI.form {w : World} {v : Value} {L : List Row} {R : Row → Nat} {B : Nat} (h : ArrI w v L R B) : ∃ t x, v = .iface t x := by
  obtain ⟨⟨f1, r1, ⟨t, x, rfl, _⟩, h1⟩, _⟩ := h; exact ⟨t, x, rfl⟩
theorem u64c (n : Nat) (h : n ≤ 1100000) : IntKind.u64.wrap (n : Int) = (n : Int) := u64w (by omega)
set_option maxRecDepth 100000 in
theorem rowsLen_any {v : Value} {ds : List Bool} {m : List Row} {w : World} (h : RowsA w v ds m) : Ret Try.prog 130 [v] w fun x w' => NatV w' x m.length ∧ Ext w w' := by
  obtain ⟨v1, v2, rfl, h1, h2⟩ := h
  obtain ⟨A, c, rfl, hc, hm, _⟩ := h1.parts
  obtain ⟨D, dn, dc, rfl⟩ := h2.slc
  refine enterR Try.func130 Try.ntmps130 rfl (by kernel_rfl) rfl ?_
  repeat first | refine ω1 ?_ | refine ω2 ?_ | refine ω3 ?_ | refine ω4 ?_ | refine ω5 ?_ | refine χ1 ?_ | refine κ1 ?_ | refine κ2 ?_ | refine χ2 ?_ | refine κ3 ?_ | refine ω6 ?_ | refine ω7 ?_ | refine ω9 ?_ | refine κ4 ?_ | refine κ7 ?_ | refine κ8 ?_ | refine χ3 ?_ | refine χ4 ?_ | refine κ5 ?_ | refine κ6 ?_ | refine χ5 ?_ | refine χ6 ?_ | refine χ7 ?_ | refine ω8 ?_
  refine bx ?_
  intro w1 b1 hx1 hb1 hk1
  repeat first | refine ω1 ?_ | refine ω2 ?_ | refine ω3 ?_ | refine ω4 ?_ | refine ω5 ?_ | refine χ1 ?_ | refine κ1 ?_ | refine κ2 ?_ | refine χ2 ?_ | refine κ3 ?_ | refine ω6 ?_ | refine ω7 ?_ | refine ω9 ?_ | refine κ4 ?_ | refine κ7 ?_ | refine κ8 ?_ | refine χ3 ?_ | refine χ4 ?_ | refine κ5 ?_ | refine κ6 ?_ | refine χ5 ?_ | refine χ6 ?_ | refine χ7 ?_ | refine ω8 ?_
  refine ld (hk1.at rfl) ?_
  repeat first | refine ω1 ?_ | refine ω2 ?_ | refine ω3 ?_ | refine ω4 ?_ | refine ω5 ?_ | refine χ1 ?_ | refine κ1 ?_ | refine κ2 ?_ | refine χ2 ?_ | refine κ3 ?_ | refine ω6 ?_ | refine ω7 ?_ | refine ω9 ?_ | refine κ4 ?_ | refine κ7 ?_ | refine κ8 ?_ | refine χ3 ?_ | refine χ4 ?_ | refine κ5 ?_ | refine κ6 ?_ | refine χ5 ?_ | refine χ6 ?_ | refine χ7 ?_ | refine ω8 ?_
  rw [u64c _ hm]
  refine cl (natOf_any m.length (by omega) _) ?_
  rintro x w2 ⟨hn, hx2⟩
  repeat first | refine ω1 ?_ | refine ω2 ?_ | refine ω3 ?_ | refine ω4 ?_ | refine ω5 ?_ | refine χ1 ?_ | refine κ1 ?_ | refine κ2 ?_ | refine χ2 ?_ | refine κ3 ?_ | refine ω6 ?_ | refine ω7 ?_ | refine ω9 ?_ | refine κ4 ?_ | refine κ7 ?_ | refine κ8 ?_ | refine χ3 ?_ | refine χ4 ?_ | refine κ5 ?_ | refine κ6 ?_ | refine χ5 ?_ | refine χ6 ?_ | refine χ7 ?_ | refine ω8 ?_
  exact fin1 ⟨hn, hx1.trans hx2⟩
set_option maxRecDepth 100000 in
theorem rowsAt_any {v vk : Value} {ds : List Bool} {m : List Row} {k : Nat} {w : World} (h : RowsA w v ds m) (hk : NatV w vk k) (hkb : k < 9223372036854775808) : Ret Try.prog 129 [v, vk] w fun x w' => AtR w' m 1 k x ∧ Ext w w' := by
  obtain ⟨v1, v2, rfl, h1, h2⟩ := h
  obtain ⟨A, c, rfl, hc, hm, cs, hrd, hcs⟩ := h1.parts
  obtain ⟨D, dn, dc, rfl⟩ := h2.slc
  refine enterR Try.func129 Try.ntmps129 rfl (by kernel_rfl) rfl ?_
  repeat first | refine ω1 ?_ | refine ω2 ?_ | refine ω3 ?_ | refine ω4 ?_ | refine ω5 ?_ | refine χ1 ?_ | refine κ1 ?_ | refine κ2 ?_ | refine χ2 ?_ | refine κ3 ?_ | refine ω6 ?_ | refine ω7 ?_ | refine ω9 ?_ | refine κ4 ?_ | refine κ7 ?_ | refine κ8 ?_ | refine χ3 ?_ | refine χ4 ?_ | refine κ5 ?_ | refine κ6 ?_ | refine χ5 ?_ | refine χ6 ?_ | refine χ7 ?_ | refine ω8 ?_
  refine bx ?_
  intro w1 b1 hx1 hb1 hk1
  repeat first | refine ω1 ?_ | refine ω2 ?_ | refine ω3 ?_ | refine ω4 ?_ | refine ω5 ?_ | refine χ1 ?_ | refine κ1 ?_ | refine κ2 ?_ | refine χ2 ?_ | refine κ3 ?_ | refine ω6 ?_ | refine ω7 ?_ | refine ω9 ?_ | refine κ4 ?_ | refine κ7 ?_ | refine κ8 ?_ | refine χ3 ?_ | refine χ4 ?_ | refine κ5 ?_ | refine κ6 ?_ | refine χ5 ?_ | refine χ6 ?_ | refine χ7 ?_ | refine ω8 ?_
  refine cl (natUint64_any (hk.ext hx1) (by omega)) ?_
  rintro x w2 ⟨rfl, rfl⟩
  repeat first | refine ω1 ?_ | refine ω2 ?_ | refine ω3 ?_ | refine ω4 ?_ | refine ω5 ?_ | refine χ1 ?_ | refine κ1 ?_ | refine κ2 ?_ | refine χ2 ?_ | refine κ3 ?_ | refine ω6 ?_ | refine ω7 ?_ | refine ω9 ?_ | refine κ4 ?_ | refine κ7 ?_ | refine κ8 ?_ | refine χ3 ?_ | refine χ4 ?_ | refine κ5 ?_ | refine κ6 ?_ | refine χ5 ?_ | refine χ6 ?_ | refine χ7 ?_ | refine ω8 ?_
  refine ld (hk1.at rfl) ?_
  repeat first | refine ω1 ?_ | refine ω2 ?_ | refine ω3 ?_ | refine ω4 ?_ | refine ω5 ?_ | refine χ1 ?_ | refine κ1 ?_ | refine κ2 ?_ | refine χ2 ?_ | refine κ3 ?_ | refine ω6 ?_ | refine ω7 ?_ | refine ω9 ?_ | refine κ4 ?_ | refine κ7 ?_ | refine κ8 ?_ | refine χ3 ?_ | refine χ4 ?_ | refine κ5 ?_ | refine κ6 ?_ | refine χ5 ?_ | refine χ6 ?_ | refine χ7 ?_ | refine ω8 ?_
  rw [u64c _ hm]
  refine ci (fun hge => ?_) (fun hlt => ?_)
  · have hge : ¬ k < m.length := by have := of_decide_eq_true hge; omega
    repeat first | refine ω1 ?_ | refine ω2 ?_ | refine ω3 ?_ | refine ω4 ?_ | refine ω5 ?_ | refine χ1 ?_ | refine κ1 ?_ | refine κ2 ?_ | refine χ2 ?_ | refine κ3 ?_ | refine ω6 ?_ | refine ω7 ?_ | refine ω9 ?_ | refine κ4 ?_ | refine κ7 ?_ | refine κ8 ?_ | refine χ3 ?_ | refine χ4 ?_ | refine κ5 ?_ | refine κ6 ?_ | refine χ5 ?_ | refine χ6 ?_ | refine χ7 ?_ | refine ω8 ?_
    refine fin3 ⟨?_, hx1⟩
    unfold AtR
    rw [if_neg hge]
    exact ⟨0, rfl, by omega⟩
  · have hlt : k < m.length := by have := of_decide_eq_false hlt; omega
    obtain ⟨u, hu, hru⟩ := hcs k hlt
    repeat first | refine ω1 ?_ | refine ω2 ?_ | refine ω3 ?_ | refine ω4 ?_ | refine ω5 ?_ | refine χ1 ?_ | refine κ1 ?_ | refine κ2 ?_ | refine χ2 ?_ | refine κ3 ?_ | refine ω6 ?_ | refine ω7 ?_ | refine ω9 ?_ | refine κ4 ?_ | refine κ7 ?_ | refine κ8 ?_ | refine χ3 ?_ | refine χ4 ?_ | refine κ5 ?_ | refine κ6 ?_ | refine χ5 ?_ | refine χ6 ?_ | refine χ7 ?_ | refine ω8 ?_
    refine ld (hk1.at rfl) ?_
    repeat first | refine ω1 ?_ | refine ω2 ?_ | refine ω3 ?_ | refine ω4 ?_ | refine ω5 ?_ | refine χ1 ?_ | refine κ1 ?_ | refine κ2 ?_ | refine χ2 ?_ | refine κ3 ?_ | refine ω6 ?_ | refine ω7 ?_ | refine ω9 ?_ | refine κ4 ?_ | refine κ7 ?_ | refine κ8 ?_ | refine χ3 ?_ | refine χ4 ?_ | refine κ5 ?_ | refine κ6 ?_ | refine χ5 ?_ | refine χ6 ?_ | refine χ7 ?_ | refine ω8 ?_
    refine ix k (hrd.ext hx1) hlt ?_
    repeat first | refine ω1 ?_ | refine ω2 ?_ | refine ω3 ?_ | refine ω4 ?_ | refine ω5 ?_ | refine χ1 ?_ | refine κ1 ?_ | refine κ2 ?_ | refine χ2 ?_ | refine κ3 ?_ | refine ω6 ?_ | refine ω7 ?_ | refine ω9 ?_ | refine κ4 ?_ | refine κ7 ?_ | refine κ8 ?_ | refine χ3 ?_ | refine χ4 ?_ | refine κ5 ?_ | refine κ6 ?_ | refine χ5 ?_ | refine χ6 ?_ | refine χ7 ?_ | refine ω8 ?_
    refine ld ((hrd.ext hx1).cell hu) ?_
    repeat first | refine ω1 ?_ | refine ω2 ?_ | refine ω3 ?_ | refine ω4 ?_ | refine ω5 ?_ | refine χ1 ?_ | refine κ1 ?_ | refine κ2 ?_ | refine χ2 ?_ | refine κ3 ?_ | refine ω6 ?_ | refine ω7 ?_ | refine ω9 ?_ | refine κ4 ?_ | refine κ7 ?_ | refine κ8 ?_ | refine χ3 ?_ | refine χ4 ?_ | refine κ5 ?_ | refine κ6 ?_ | refine χ5 ?_ | refine χ6 ?_ | refine χ7 ?_ | refine ω8 ?_
    refine cl (cloneRowV (hru.ext hx1) (fun _ => False) (fun _ h => h.elim)) ?_
    rintro x w3 ⟨hr3, hx3⟩
    repeat first | refine ω1 ?_ | refine ω2 ?_ | refine ω3 ?_ | refine ω4 ?_ | refine ω5 ?_ | refine χ1 ?_ | refine κ1 ?_ | refine κ2 ?_ | refine χ2 ?_ | refine κ3 ?_ | refine ω6 ?_ | refine ω7 ?_ | refine ω9 ?_ | refine κ4 ?_ | refine κ7 ?_ | refine κ8 ?_ | refine χ3 ?_ | refine χ4 ?_ | refine κ5 ?_ | refine κ6 ?_ | refine χ5 ?_ | refine χ6 ?_ | refine χ7 ?_ | refine ω8 ?_
    refine fin3 ⟨?_, hx1.trans hx3⟩
    unfold AtR
    rw [if_pos hlt]
    exact ⟨x, 1, rfl, hr3.v, Nat.le_refl _⟩
set_option maxRecDepth 100000 in
theorem rowsRank_any {v vr : Value} {ds : List Bool} {m : List Row} {r : Row} {w : World} (h : RowsA w v ds m) (hr : RowV w vr r) (hl : Lt ds m) (hms : m.length < 256) : Ret Try.prog 16 [v, vr] w fun x w' => (∃ vn, x = .tuple #[vn, .bool (decide (r ∈ m)), .int .i64 (lenB m.length : Int), .int .i64 0] ∧ NatV w' vn (cnt ds m r)) ∧ Ext w w' := by
  obtain ⟨v1, v2, rfl, h1, h2⟩ := h
  obtain ⟨A, c, rfl, hc, hm, cs, hrd, hcs⟩ := h1.parts
  obtain ⟨D, dn, dc, rfl⟩ := h2.slc
  have hcl := cnt_le ds m r
  refine enterR Try.func16 Try.ntmps16 rfl (by kernel_rfl) rfl ?_
  repeat first | refine ω1 ?_ | refine ω2 ?_ | refine ω3 ?_ | refine ω4 ?_ | refine ω5 ?_ | refine χ1 ?_ | refine κ1 ?_ | refine κ2 ?_ | refine χ2 ?_ | refine κ3 ?_ | refine ω6 ?_ | refine ω7 ?_ | refine ω9 ?_ | refine κ4 ?_ | refine κ7 ?_ | refine κ8 ?_ | refine χ3 ?_ | refine χ4 ?_ | refine κ5 ?_ | refine κ6 ?_ | refine χ5 ?_ | refine χ6 ?_ | refine χ7 ?_ | refine ω8 ?_
  refine bx ?_
  intro w1 b1 hx1 hb1 hk1
  repeat first | refine ω1 ?_ | refine ω2 ?_ | refine ω3 ?_ | refine ω4 ?_ | refine ω5 ?_ | refine χ1 ?_ | refine κ1 ?_ | refine κ2 ?_ | refine χ2 ?_ | refine κ3 ?_ | refine ω6 ?_ | refine ω7 ?_ | refine ω9 ?_ | refine κ4 ?_ | refine κ7 ?_ | refine κ8 ?_ | refine χ3 ?_ | refine χ4 ?_ | refine κ5 ?_ | refine κ6 ?_ | refine χ5 ?_ | refine χ6 ?_ | refine χ7 ?_ | refine ω8 ?_
  refine ld (hk1.at rfl) ?_
  repeat first | refine ω1 ?_ | refine ω2 ?_ | refine ω3 ?_ | refine ω4 ?_ | refine ω5 ?_ | refine χ1 ?_ | refine κ1 ?_ | refine κ2 ?_ | refine χ2 ?_ | refine κ3 ?_ | refine ω6 ?_ | refine ω7 ?_ | refine ω9 ?_ | refine κ4 ?_ | refine κ7 ?_ | refine κ8 ?_ | refine χ3 ?_ | refine χ4 ?_ | refine κ5 ?_ | refine κ6 ?_ | refine χ5 ?_ | refine χ6 ?_ | refine χ7 ?_ | refine ω8 ?_
  refine ld (hk1.at rfl) ?_
  repeat first | refine ω1 ?_ | refine ω2 ?_ | refine ω3 ?_ | refine ω4 ?_ | refine ω5 ?_ | refine χ1 ?_ | refine κ1 ?_ | refine κ2 ?_ | refine χ2 ?_ | refine κ3 ?_ | refine ω6 ?_ | refine ω7 ?_ | refine ω9 ?_ | refine κ4 ?_ | refine κ7 ?_ | refine κ8 ?_ | refine χ3 ?_ | refine χ4 ?_ | refine κ5 ?_ | refine κ6 ?_ | refine χ5 ?_ | refine χ6 ?_ | refine χ7 ?_ | refine ω8 ?_
  refine cl (rowSearch_any (h1.ext hx1) (hr.ext hx1) (h2.ext hx1) hl) ?_
  rintro x w2 ⟨rfl, hx2⟩
  repeat first | refine ω1 ?_ | refine ω2 ?_ | refine ω3 ?_ | refine ω4 ?_ | refine ω5 ?_ | refine χ1 ?_ | refine κ1 ?_ | refine κ2 ?_ | refine χ2 ?_ | refine κ3 ?_ | refine ω6 ?_ | refine ω7 ?_ | refine ω9 ?_ | refine κ4 ?_ | refine κ7 ?_ | refine κ8 ?_ | refine χ3 ?_ | refine χ4 ?_ | refine κ5 ?_ | refine κ6 ?_ | refine χ5 ?_ | refine χ6 ?_ | refine χ7 ?_ | refine ω8 ?_
  refine dr [(0, 0), (0, 1), (0, 3), (0, 4), (0, 5), (0, 6), (0, 7), (1, 2), (1, 8), (0, 9), (0, 10), (0, 11), (0, 12)] (by kernel_rfl) ?_
  have hxd : Ext w2 w2.drew := (Ext.refl w2).drew
  have hk2 := (hk1.ext hx2).ext hxd
  repeat first | refine δ1 ?_ | refine δ2 ?_ | refine δ4 ?_ | refine δ5 ?_ | refine δ6 ?_ | refine δ7 ?_ | refine δ9 ?_ | refine δ8 ?_ | refine χ1 ?_ | refine χ2 ?_ | refine χ3 ?_ | refine χ4 ?_ | refine χ5 ?_ | refine χ6 ?_ | refine χ7 ?_
  refine dld (hk2.at rfl) ?_
  repeat first | refine δ1 ?_ | refine δ2 ?_ | refine δ4 ?_ | refine δ5 ?_ | refine δ6 ?_ | refine δ7 ?_ | refine δ9 ?_ | refine δ8 ?_ | refine χ1 ?_ | refine χ2 ?_ | refine χ3 ?_ | refine χ4 ?_ | refine χ5 ?_ | refine χ6 ?_ | refine χ7 ?_
  rw [u64c _ hm, u64c _ (show cnt ds m r ≤ 1100000 by omega)]
  refine dcl (natOf_any (cnt ds m r) (by omega) _) ?_
  rintro x w3 ⟨hn3, hx3⟩
  refine ⟨hx3, ?_⟩
  refine dcl (bitsLen_any hms _) ?_
  rintro y w4 ⟨rfl, rfl⟩
  refine ⟨Ext.refl _, ?_⟩
  repeat first | refine δ1 ?_ | refine δ2 ?_ | refine δ4 ?_ | refine δ5 ?_ | refine δ6 ?_ | refine δ7 ?_ | refine δ9 ?_ | refine δ8 ?_ | refine χ1 ?_ | refine χ2 ?_ | refine χ3 ?_ | refine χ4 ?_ | refine χ5 ?_ | refine χ6 ?_ | refine χ7 ?_
  repeat first | refine ω1 ?_ | refine ω2 ?_ | refine ω3 ?_ | refine ω4 ?_ | refine ω5 ?_ | refine χ1 ?_ | refine κ1 ?_ | refine κ2 ?_ | refine χ2 ?_ | refine κ3 ?_ | refine ω6 ?_ | refine ω7 ?_ | refine ω9 ?_ | refine κ4 ?_ | refine κ7 ?_ | refine κ8 ?_ | refine χ3 ?_ | refine χ4 ?_ | refine κ5 ?_ | refine κ6 ?_ | refine χ5 ?_ | refine χ6 ?_ | refine χ7 ?_ | refine ω8 ?_
  exact fin4 ⟨⟨x, rfl, hn3⟩, ((hx1.trans hx2).trans hxd).trans hx3⟩
theorem mRowsLen (x y : Value) : Meth Try.prog (.iface 29 (.agg #[x, y])) "Len" 130 (.agg #[x, y]) := ⟨_, _, rfl, fun w => by kernel_rfl, fun w => by kernel_rfl⟩
theorem mRowsAt (x y : Value) : Meth Try.prog (.iface 29 (.agg #[x, y])) "At" 129 (.agg #[x, y]) := ⟨_, _, rfl, fun w => by kernel_rfl, fun w => by kernel_rfl⟩
theorem mRowsRank (x y : Value) : Meth Try.prog (.iface 29 (.agg #[x, y])) "Rank" 16 (.agg #[x, y]) := ⟨_, _, rfl, fun w => by kernel_rfl, fun w => by kernel_rfl⟩
theorem AtR.mono {w : World} {L : List Row} {B B' k : Nat} {x : Value} (h : AtR w L B k x) (hb : B ≤ B') : AtR w L B' k x := by
  unfold AtR at *
  split
  · rename_i hk; rw [if_pos hk] at h; obtain ⟨vr, s, h1, h2, h3⟩ := h; exact ⟨vr, s, h1, h2, by omega⟩
  · rename_i hk; rw [if_neg hk] at h; obtain ⟨s, h1, h2⟩ := h; exact ⟨s, h1, by omega⟩
/-- rows are an array -/
theorem rowsI {w : World} {v : Value} {ds : List Bool} {m : List Row} (h : RowsA w v ds m) (hl : Lt ds m) (hms : m.length < 256) : ArrI w (.iface 29 v) m (cnt ds m) 64 := by
  obtain ⟨v1, v2, rfl, h1, h2⟩ := id h
  refine ⟨⟨_, _, mRowsLen _ _, fun w' hx => rowsLen_any (h.ext hx)⟩, ⟨_, _, mRowsAt _ _, fun w' hx k vk hk hkb => (rowsAt_any (h.ext hx) hk hkb).mono fun x w'' ⟨h1, h2⟩ => ⟨h1.mono (by omega), h2⟩⟩,
    ⟨_, _, mRowsRank _ _, fun w' hx r vr hr => (rowsRank_any (h.ext hx) hr hl hms).mono fun x w'' ⟨⟨vn, h1, h2⟩, h3⟩ => ⟨⟨vn, lenB m.length, h1, h2, by have := lenB_le hms; omega⟩, h3⟩⟩, by omega, fun r => cnt_le _ _ _, by omega, fun i hi => cnt_at hl hi⟩
end Go.Proofs.Ytpahjnfolbnloaa
/- Arrays: reversed, slice. -/
set_option linter.unusedVariables false
namespace Go.Proofs.Ytpahjnfolbnloaa
open Go.RowKit Pl Go.Wk
attribute [local irreducible] WC WL QX WD WDB WP
set_option maxRecDepth 100000 in
theorem minus_any {v u : Value} {n m : Nat} {w : World} (hv : NatV w v n) (hu : NatV w u m) (hn : n < 18446744073709551616) : Ret Try.prog 139 [v, u] w fun x w' => NatV w' x (n - m) ∧ Ext w w' := by
  refine enterR Try.func139 Try.ntmps139 rfl (by kernel_rfl) rfl ?_
  repeat first | refine ω1 ?_ | refine ω2 ?_ | refine ω3 ?_ | refine ω4 ?_ | refine ω5 ?_ | refine χ1 ?_ | refine κ1 ?_ | refine κ2 ?_ | refine χ2 ?_ | refine κ3 ?_ | refine ω6 ?_ | refine ω7 ?_ | refine ω9 ?_ | refine κ4 ?_ | refine κ7 ?_ | refine κ8 ?_ | refine χ3 ?_ | refine χ4 ?_ | refine κ5 ?_ | refine κ6 ?_ | refine χ5 ?_ | refine χ6 ?_ | refine χ7 ?_ | refine ω8 ?_
  refine cl (natSub_any hv hu (small1000 hn)) ?_
  rintro y w1 ⟨⟨x, rfl, hx⟩, hx1⟩
  repeat first | refine ω1 ?_ | refine ω2 ?_ | refine ω3 ?_ | refine ω4 ?_ | refine ω5 ?_ | refine χ1 ?_ | refine κ1 ?_ | refine κ2 ?_ | refine χ2 ?_ | refine κ3 ?_ | refine ω6 ?_ | refine ω7 ?_ | refine ω9 ?_ | refine κ4 ?_ | refine κ7 ?_ | refine κ8 ?_ | refine χ3 ?_ | refine χ4 ?_ | refine κ5 ?_ | refine κ6 ?_ | refine χ5 ?_ | refine χ6 ?_ | refine χ7 ?_ | refine ω8 ?_
  exact fin1 ⟨hx, hx1⟩
theorem cmpN_le {n m : Nat} : (cmpN n m ≤ 0) ↔ n ≤ m := by
  unfold cmpN
  by_cases h : n < m
  · rw [if_pos h]; omega
  · rw [if_neg h]
    by_cases h2 : m < n
    · rw [if_pos h2]; omega
    · rw [if_neg h2]; omega
theorem cmpN_lt {n m : Nat} : (cmpN n m < 0) ↔ n < m := by
  unfold cmpN
  by_cases h : n < m
  · rw [if_pos h]; omega
  · rw [if_neg h]
    by_cases h2 : m < n
    · rw [if_pos h2]; omega
    · rw [if_neg h2]; omega
theorem cmpN_ge {n m : Nat} : (0 ≤ cmpN n m) ↔ m ≤ n := by
  unfold cmpN
  by_cases h : n < m
  · rw [if_pos h]; omega
  · rw [if_neg h]
    by_cases h2 : m < n
    · rw [if_pos h2]; omega
    · rw [if_neg h2]; omega
theorem cmpN_gt {n m : Nat} : (0 < cmpN n m) ↔ m < n := by
  unfold cmpN
  by_cases h : n < m
  · rw [if_pos h]; omega
  · rw [if_neg h]
    by_cases h2 : m < n
    · rw [if_pos h2]; omega
    · rw [if_neg h2]; omega
theorem cmpN_eq {n m : Nat} : (cmpN n m = 0) ↔ n = m := by
  unfold cmpN
  by_cases h : n < m
  · rw [if_pos h]; omega
  · rw [if_neg h]
    by_cases h2 : m < n
    · rw [if_pos h2]; omega
    · rw [if_neg h2]; omega
set_option maxRecDepth 100000 in
theorem least_any {v u : Value} {n m : Nat} {w : World} (hv : NatV w v n) (hu : NatV w u m) (hn : n < 18446744073709551616) (hm : m < 18446744073709551616) : Ret Try.prog 143 [v, u] w fun x w' => NatV w' x (min n m) ∧ Ext w w' := by
  refine enterR Try.func143 Try.ntmps143 rfl (by kernel_rfl) rfl ?_
  repeat first | refine ω1 ?_ | refine ω2 ?_ | refine ω3 ?_ | refine ω4 ?_ | refine ω5 ?_ | refine χ1 ?_ | refine κ1 ?_ | refine κ2 ?_ | refine χ2 ?_ | refine κ3 ?_ | refine ω6 ?_ | refine ω7 ?_ | refine ω9 ?_ | refine κ4 ?_ | refine κ7 ?_ | refine κ8 ?_ | refine χ3 ?_ | refine χ4 ?_ | refine κ5 ?_ | refine κ6 ?_ | refine χ5 ?_ | refine χ6 ?_ | refine χ7 ?_ | refine ω8 ?_
  refine cl (natCmp_any hv hu) ?_
  rintro y w1 ⟨rfl, hx1⟩
  repeat first | refine ω1 ?_ | refine ω2 ?_ | refine ω3 ?_ | refine ω4 ?_ | refine ω5 ?_ | refine χ1 ?_ | refine κ1 ?_ | refine κ2 ?_ | refine χ2 ?_ | refine κ3 ?_ | refine ω6 ?_ | refine ω7 ?_ | refine ω9 ?_ | refine κ4 ?_ | refine κ7 ?_ | refine κ8 ?_ | refine χ3 ?_ | refine χ4 ?_ | refine κ5 ?_ | refine κ6 ?_ | refine χ5 ?_ | refine χ6 ?_ | refine χ7 ?_ | refine ω8 ?_
  refine ci (fun h => ?_) (fun h => ?_)
  · have hle := cmpN_le.1 (of_decide_eq_true h)
    repeat first | refine ω1 ?_ | refine ω2 ?_ | refine ω3 ?_ | refine ω4 ?_ | refine ω5 ?_ | refine χ1 ?_ | refine κ1 ?_ | refine κ2 ?_ | refine χ2 ?_ | refine κ3 ?_ | refine ω6 ?_ | refine ω7 ?_ | refine ω9 ?_ | refine κ4 ?_ | refine κ7 ?_ | refine κ8 ?_ | refine χ3 ?_ | refine χ4 ?_ | refine κ5 ?_ | refine κ6 ?_ | refine χ5 ?_ | refine χ6 ?_ | refine χ7 ?_ | refine ω8 ?_
    refine cl (natNorm_any (hv.ext hx1) (small1000 hn)) ?_
    rintro x w2 ⟨hx, hx2⟩
    repeat first | refine ω1 ?_ | refine ω2 ?_ | refine ω3 ?_ | refine ω4 ?_ | refine ω5 ?_ | refine χ1 ?_ | refine κ1 ?_ | refine κ2 ?_ | refine χ2 ?_ | refine κ3 ?_ | refine ω6 ?_ | refine ω7 ?_ | refine ω9 ?_ | refine κ4 ?_ | refine κ7 ?_ | refine κ8 ?_ | refine χ3 ?_ | refine χ4 ?_ | refine κ5 ?_ | refine κ6 ?_ | refine χ5 ?_ | refine χ6 ?_ | refine χ7 ?_ | refine ω8 ?_
    exact fin1 ⟨by rw [Nat.min_eq_left hle]; exact hx, hx1.trans hx2⟩
  · have hle : m < n := by
      have h := of_decide_eq_false h
      rcases Nat.lt_or_ge m n with h1 | h1
      · exact h1
      · exact absurd (cmpN_le.2 h1) h
    repeat first | refine ω1 ?_ | refine ω2 ?_ | refine ω3 ?_ | refine ω4 ?_ | refine ω5 ?_ | refine χ1 ?_ | refine κ1 ?_ | refine κ2 ?_ | refine χ2 ?_ | refine κ3 ?_ | refine ω6 ?_ | refine ω7 ?_ | refine ω9 ?_ | refine κ4 ?_ | refine κ7 ?_ | refine κ8 ?_ | refine χ3 ?_ | refine χ4 ?_ | refine κ5 ?_ | refine κ6 ?_ | refine χ5 ?_ | refine χ6 ?_ | refine χ7 ?_ | refine ω8 ?_
    refine cl (natNorm_any (hu.ext hx1) (small1000 hm)) ?_
    rintro x w2 ⟨hx, hx2⟩
    repeat first | refine ω1 ?_ | refine ω2 ?_ | refine ω3 ?_ | refine ω4 ?_ | refine ω5 ?_ | refine χ1 ?_ | refine κ1 ?_ | refine κ2 ?_ | refine χ2 ?_ | refine κ3 ?_ | refine ω6 ?_ | refine ω7 ?_ | refine ω9 ?_ | refine κ4 ?_ | refine κ7 ?_ | refine κ8 ?_ | refine χ3 ?_ | refine χ4 ?_ | refine κ5 ?_ | refine κ6 ?_ | refine χ5 ?_ | refine χ6 ?_ | refine χ7 ?_ | refine ω8 ?_
    exact fin1 ⟨by rw [Nat.min_eq_right (by omega)]; exact hx, hx1.trans hx2⟩
/-- what at returns: a copy, off some blocks -/
def AtX (w : World) (N : Nat → Prop) (L : List Row) (B k : Nat) (x : Value) : Prop :=
  if k < L.length then ∃ vr, ∃ s : Nat, x = .tuple #[vr, .int .i64 (s : Int), .int .i64 0] ∧ RowX w N vr (L.getD k []) ∧ s ≤ B
  else ∃ s : Nat, x = .tuple #[.slice none 0 0, .int .i64 (s : Int), .int .i64 3] ∧ s ≤ B
set_option maxRecDepth 100000 in
theorem at_anyX {v vk : Value} {L : List Row} {R : Row → Nat} {B k : Nat} {w : World} (h : ArrI w v L R B) (hk : NatV w vk k) (hkb : k < 9223372036854775808) (N : Nat → Prop) (hN : ∀ k, N k → k < w.heap.size) : Ret Try.prog 63 [v, vk] w fun x w' => AtX w' N L B k x ∧ Ext w w' := by
  obtain ⟨f, rv, hm, hf⟩ := h.at_
  have hb := h.bd
  refine enterR Try.func63 Try.ntmps63 rfl (by kernel_rfl) rfl ?_
  repeat first | refine ω1 ?_ | refine ω2 ?_ | refine ω3 ?_ | refine ω4 ?_ | refine ω5 ?_ | refine χ1 ?_ | refine κ1 ?_ | refine κ2 ?_ | refine χ2 ?_ | refine κ3 ?_ | refine ω6 ?_ | refine ω7 ?_ | refine ω9 ?_ | refine κ4 ?_ | refine κ7 ?_ | refine κ8 ?_ | refine χ3 ?_ | refine χ4 ?_ | refine κ5 ?_ | refine κ6 ?_ | refine χ5 ?_ | refine χ6 ?_ | refine χ7 ?_ | refine ω8 ?_
  refine inv hm (hf w (Ext.refl w) k vk hk hkb) ?_
  rintro y w1 ⟨hA, hx1⟩
  unfold AtR at hA
  unfold AtX
  split at hA
  · rename_i hlt
    obtain ⟨vr, s, rfl, hr, hs⟩ := hA
    repeat first | refine ω1 ?_ | refine ω2 ?_ | refine ω3 ?_ | refine ω4 ?_ | refine ω5 ?_ | refine χ1 ?_ | refine κ1 ?_ | refine κ2 ?_ | refine χ2 ?_ | refine κ3 ?_ | refine ω6 ?_ | refine ω7 ?_ | refine ω9 ?_ | refine κ4 ?_ | refine κ7 ?_ | refine κ8 ?_ | refine χ3 ?_ | refine χ4 ?_ | refine κ5 ?_ | refine κ6 ?_ | refine χ5 ?_ | refine χ6 ?_ | refine χ7 ?_ | refine ω8 ?_
    refine cl (cloneRowV hr N (fun k hk => Nat.lt_of_lt_of_le (hN k hk) hx1.size)) ?_
    rintro x w2 ⟨hr2, hx2⟩
    repeat first | refine ω1 ?_ | refine ω2 ?_ | refine ω3 ?_ | refine ω4 ?_ | refine ω5 ?_ | refine χ1 ?_ | refine κ1 ?_ | refine κ2 ?_ | refine χ2 ?_ | refine κ3 ?_ | refine ω6 ?_ | refine ω7 ?_ | refine ω9 ?_ | refine κ4 ?_ | refine κ7 ?_ | refine κ8 ?_ | refine χ3 ?_ | refine χ4 ?_ | refine κ5 ?_ | refine κ6 ?_ | refine χ5 ?_ | refine χ6 ?_ | refine χ7 ?_ | refine ω8 ?_
    refine fin3 ⟨?_, hx1.trans hx2⟩
    rw [if_pos hlt]
    exact ⟨x, s, rfl, hr2, hs⟩
  · rename_i hlt
    obtain ⟨s, rfl, hs⟩ := hA
    repeat first | refine ω1 ?_ | refine ω2 ?_ | refine ω3 ?_ | refine ω4 ?_ | refine ω5 ?_ | refine χ1 ?_ | refine κ1 ?_ | refine κ2 ?_ | refine χ2 ?_ | refine κ3 ?_ | refine ω6 ?_ | refine ω7 ?_ | refine ω9 ?_ | refine κ4 ?_ | refine κ7 ?_ | refine κ8 ?_ | refine χ3 ?_ | refine χ4 ?_ | refine κ5 ?_ | refine κ6 ?_ | refine χ5 ?_ | refine χ6 ?_ | refine χ7 ?_ | refine ω8 ?_
    refine fin3 ⟨?_, hx1⟩
    rw [if_neg hlt]
    exact ⟨s, rfl, hs⟩
theorem at_any {v vk : Value} {L : List Row} {R : Row → Nat} {B k : Nat} {w : World} (h : ArrI w v L R B) (hk : NatV w vk k) (hkb : k < 9223372036854775808) : Ret Try.prog 63 [v, vk] w fun x w' => AtR w' L B k x ∧ Ext w w' := by
  refine (at_anyX h hk hkb (fun _ => False) (fun _ h => h.elim)).mono ?_
  rintro x w' ⟨hA, hx⟩
  refine ⟨?_, hx⟩
  unfold AtX at hA
  unfold AtR
  split at hA
  · rename_i hlt
    obtain ⟨vr, s, h1, h2, h3⟩ := hA
    rw [if_pos hlt]; exact ⟨vr, s, h1, h2.v, h3⟩
  · rename_i hlt
    rw [if_neg hlt]; exact hA
/-! ### reversed -/
def revR (L : List Row) (R : Row → Nat) (r : Row) : Nat := L.length - (R r + if r ∈ L then 1 else 0)
theorem rev_get {L : List Row} {k : Nat} (h : k < L.length) : L.reverse.getD k [] = L.getD (L.length - (k + 1)) [] := by
  rw [getD_get [] _ (by simpa using h), getD_get [] _ (by omega), List.getElem_reverse]
  congr 1; omega
set_option maxRecDepth 100000 in
theorem revLen_any {v : Value} {L : List Row} {R : Row → Nat} {B : Nat} {w : World} (h : ArrI w v L R B) : Ret Try.prog 137 [.agg #[v]] w fun x w' => NatV w' x L.length ∧ Ext w w' := by
  obtain ⟨t, y, rfl⟩ := h.form
  have hs := h.small
  refine enterR Try.func137 Try.ntmps137 rfl (by kernel_rfl) rfl ?_
  repeat first | refine ω1 ?_ | refine ω2 ?_ | refine ω3 ?_ | refine ω4 ?_ | refine ω5 ?_ | refine χ1 ?_ | refine κ1 ?_ | refine κ2 ?_ | refine χ2 ?_ | refine κ3 ?_ | refine ω6 ?_ | refine ω7 ?_ | refine ω9 ?_ | refine κ4 ?_ | refine κ7 ?_ | refine κ8 ?_ | refine χ3 ?_ | refine χ4 ?_ | refine κ5 ?_ | refine κ6 ?_ | refine χ5 ?_ | refine χ6 ?_ | refine χ7 ?_ | refine ω8 ?_
  refine bx ?_
  intro w1 b1 hx1 hb1 hk1
  repeat first | refine ω1 ?_ | refine ω2 ?_ | refine ω3 ?_ | refine ω4 ?_ | refine ω5 ?_ | refine χ1 ?_ | refine κ1 ?_ | refine κ2 ?_ | refine χ2 ?_ | refine κ3 ?_ | refine ω6 ?_ | refine ω7 ?_ | refine ω9 ?_ | refine κ4 ?_ | refine κ7 ?_ | refine κ8 ?_ | refine χ3 ?_ | refine χ4 ?_ | refine κ5 ?_ | refine κ6 ?_ | refine χ5 ?_ | refine χ6 ?_ | refine χ7 ?_ | refine ω8 ?_
  refine ld (hk1.at rfl) ?_
  repeat first | refine ω1 ?_ | refine ω2 ?_ | refine ω3 ?_ | refine ω4 ?_ | refine ω5 ?_ | refine χ1 ?_ | refine κ1 ?_ | refine κ2 ?_ | refine χ2 ?_ | refine κ3 ?_ | refine ω6 ?_ | refine ω7 ?_ | refine ω9 ?_ | refine κ4 ?_ | refine κ7 ?_ | refine κ8 ?_ | refine χ3 ?_ | refine χ4 ?_ | refine κ5 ?_ | refine κ6 ?_ | refine χ5 ?_ | refine χ6 ?_ | refine χ7 ?_ | refine ω8 ?_
  obtain ⟨f, rv, hm, hf⟩ := h.len
  refine inv hm (hf w1 hx1) ?_
  rintro x w2 ⟨hn, hx2⟩
  repeat first | refine ω1 ?_ | refine ω2 ?_ | refine ω3 ?_ | refine ω4 ?_ | refine ω5 ?_ | refine χ1 ?_ | refine κ1 ?_ | refine κ2 ?_ | refine χ2 ?_ | refine κ3 ?_ | refine ω6 ?_ | refine ω7 ?_ | refine ω9 ?_ | refine κ4 ?_ | refine κ7 ?_ | refine κ8 ?_ | refine χ3 ?_ | refine χ4 ?_ | refine κ5 ?_ | refine κ6 ?_ | refine χ5 ?_ | refine χ6 ?_ | refine χ7 ?_ | refine ω8 ?_
  refine cl (natNorm_any hn (small1000 (by omega))) ?_
  rintro x w3 ⟨hn3, hx3⟩
  repeat first | refine ω1 ?_ | refine ω2 ?_ | refine ω3 ?_ | refine ω4 ?_ | refine ω5 ?_ | refine χ1 ?_ | refine κ1 ?_ | refine κ2 ?_ | refine χ2 ?_ | refine κ3 ?_ | refine ω6 ?_ | refine ω7 ?_ | refine ω9 ?_ | refine κ4 ?_ | refine κ7 ?_ | refine κ8 ?_ | refine χ3 ?_ | refine χ4 ?_ | refine κ5 ?_ | refine κ6 ?_ | refine χ5 ?_ | refine χ6 ?_ | refine χ7 ?_ | refine ω8 ?_
  exact fin1 ⟨hn3, (hx1.trans hx2).trans hx3⟩
set_option maxRecDepth 100000 in
theorem revAt_any {v vk : Value} {L : List Row} {R : Row → Nat} {B k : Nat} {w : World} (h : ArrI w v L R B) (hk : NatV w vk k) (hkb : k < 9223372036854775808) : Ret Try.prog 136 [.agg #[v], vk] w fun x w' => AtR w' L.reverse B k x ∧ Ext w w' := by
  obtain ⟨t, y, rfl⟩ := h.form
  have hs := h.small
  refine enterR Try.func136 Try.ntmps136 rfl (by kernel_rfl) rfl ?_
  repeat first | refine ω1 ?_ | refine ω2 ?_ | refine ω3 ?_ | refine ω4 ?_ | refine ω5 ?_ | refine χ1 ?_ | refine κ1 ?_ | refine κ2 ?_ | refine χ2 ?_ | refine κ3 ?_ | refine ω6 ?_ | refine ω7 ?_ | refine ω9 ?_ | refine κ4 ?_ | refine κ7 ?_ | refine κ8 ?_ | refine χ3 ?_ | refine χ4 ?_ | refine κ5 ?_ | refine κ6 ?_ | refine χ5 ?_ | refine χ6 ?_ | refine χ7 ?_ | refine ω8 ?_
  refine bx ?_
  intro w1 b1 hx1 hb1 hk1
  repeat first | refine ω1 ?_ | refine ω2 ?_ | refine ω3 ?_ | refine ω4 ?_ | refine ω5 ?_ | refine χ1 ?_ | refine κ1 ?_ | refine κ2 ?_ | refine χ2 ?_ | refine κ3 ?_ | refine ω6 ?_ | refine ω7 ?_ | refine ω9 ?_ | refine κ4 ?_ | refine κ7 ?_ | refine κ8 ?_ | refine χ3 ?_ | refine χ4 ?_ | refine κ5 ?_ | refine κ6 ?_ | refine χ5 ?_ | refine χ6 ?_ | refine χ7 ?_ | refine ω8 ?_
  refine ld (hk1.at rfl) ?_
  repeat first | refine ω1 ?_ | refine ω2 ?_ | refine ω3 ?_ | refine ω4 ?_ | refine ω5 ?_ | refine χ1 ?_ | refine κ1 ?_ | refine κ2 ?_ | refine χ2 ?_ | refine κ3 ?_ | refine ω6 ?_ | refine ω7 ?_ | refine ω9 ?_ | refine κ4 ?_ | refine κ7 ?_ | refine κ8 ?_ | refine χ3 ?_ | refine χ4 ?_ | refine κ5 ?_ | refine κ6 ?_ | refine χ5 ?_ | refine χ6 ?_ | refine χ7 ?_ | refine ω8 ?_
  obtain ⟨f, rv, hm, hf⟩ := h.len
  refine inv hm (hf w1 hx1) ?_
  rintro x w2 ⟨hn, hx2⟩
  repeat first | refine ω1 ?_ | refine ω2 ?_ | refine ω3 ?_ | refine ω4 ?_ | refine ω5 ?_ | refine χ1 ?_ | refine κ1 ?_ | refine κ2 ?_ | refine χ2 ?_ | refine κ3 ?_ | refine ω6 ?_ | refine ω7 ?_ | refine ω9 ?_ | refine κ4 ?_ | refine κ7 ?_ | refine κ8 ?_ | refine χ3 ?_ | refine χ4 ?_ | refine κ5 ?_ | refine κ6 ?_ | refine χ5 ?_ | refine χ6 ?_ | refine χ7 ?_ | refine ω8 ?_
  refine cl (natCmp_any ((hk.ext hx1).ext hx2) hn) ?_
  rintro z w3 ⟨rfl, hx3⟩
  have hx13 := (hx1.trans hx2).trans hx3
  repeat first | refine ω1 ?_ | refine ω2 ?_ | refine ω3 ?_ | refine ω4 ?_ | refine ω5 ?_ | refine χ1 ?_ | refine κ1 ?_ | refine κ2 ?_ | refine χ2 ?_ | refine κ3 ?_ | refine ω6 ?_ | refine ω7 ?_ | refine ω9 ?_ | refine κ4 ?_ | refine κ7 ?_ | refine κ8 ?_ | refine χ3 ?_ | refine χ4 ?_ | refine κ5 ?_ | refine κ6 ?_ | refine χ5 ?_ | refine χ6 ?_ | refine χ7 ?_ | refine ω8 ?_
  refine ci (fun h0 => ?_) (fun h0 => ?_)
  · have hge := cmpN_ge.1 (of_decide_eq_true h0)
    repeat first | refine ω1 ?_ | refine ω2 ?_ | refine ω3 ?_ | refine ω4 ?_ | refine ω5 ?_ | refine χ1 ?_ | refine κ1 ?_ | refine κ2 ?_ | refine χ2 ?_ | refine κ3 ?_ | refine ω6 ?_ | refine ω7 ?_ | refine ω9 ?_ | refine κ4 ?_ | refine κ7 ?_ | refine κ8 ?_ | refine χ3 ?_ | refine χ4 ?_ | refine κ5 ?_ | refine κ6 ?_ | refine χ5 ?_ | refine χ6 ?_ | refine χ7 ?_ | refine ω8 ?_
    refine fin3 ⟨?_, hx13⟩
    unfold AtR
    rw [if_neg (by simpa using hge)]
    exact ⟨0, rfl, by omega⟩
  · have hlt : k < L.length := by
      have h1 := of_decide_eq_false h0
      rw [cmpN_ge] at h1; omega
    repeat first | refine ω1 ?_ | refine ω2 ?_ | refine ω3 ?_ | refine ω4 ?_ | refine ω5 ?_ | refine χ1 ?_ | refine κ1 ?_ | refine κ2 ?_ | refine χ2 ?_ | refine κ3 ?_ | refine ω6 ?_ | refine ω7 ?_ | refine ω9 ?_ | refine κ4 ?_ | refine κ7 ?_ | refine κ8 ?_ | refine χ3 ?_ | refine χ4 ?_ | refine κ5 ?_ | refine κ6 ?_ | refine χ5 ?_ | refine χ6 ?_ | refine χ7 ?_ | refine ω8 ?_
    refine dr [(0, 0), (0, 1), (0, 2), (0, 3), (1, 4), (1, 5), (1, 6), (1, 7), (0, 8), (0, 9), (0, 10), (0, 11), (0, 12), (0, 13)] (by kernel_rfl) ?_
    have hxd : Ext w3 w3.drew := (Ext.refl w3).drew
    repeat first | refine δ1 ?_ | refine δ2 ?_ | refine δ4 ?_ | refine δ5 ?_ | refine δ6 ?_ | refine δ7 ?_ | refine δ9 ?_ | refine δ8 ?_ | refine χ1 ?_ | refine χ2 ?_ | refine χ3 ?_ | refine χ4 ?_ | refine χ5 ?_ | refine χ6 ?_ | refine χ7 ?_
    refine dld ((((hk1.ext hx2).ext hx3).ext hxd).at rfl) ?_
    repeat first | refine δ1 ?_ | refine δ2 ?_ | refine δ4 ?_ | refine δ5 ?_ | refine δ6 ?_ | refine δ7 ?_ | refine δ9 ?_ | refine δ8 ?_ | refine χ1 ?_ | refine χ2 ?_ | refine χ3 ?_ | refine χ4 ?_ | refine χ5 ?_ | refine χ6 ?_ | refine χ7 ?_
    refine dcl (natOf_any 1 (by omega) _) ?_
    rintro x1 w4 ⟨hn1, hx4⟩
    refine ⟨hx4, ?_⟩
    refine dcl (natAdd_any (((hk.ext hx13).ext hxd).ext hx4) hn1 (small1000 (by omega)) (small1000 (by omega))) ?_
    rintro x2 w5 ⟨hn2, hx5⟩
    refine ⟨hx5, ?_⟩
    refine dcl (minus_any ((((hn.ext hx3).ext hxd).ext hx4).ext hx5) hn2 (by omega)) ?_
    rintro x3 w6 ⟨hn3, hx6⟩
    refine ⟨hx6, ?_⟩
    have hx36 : Ext w3 w6 := ((hxd.trans hx4).trans hx5).trans hx6
    refine dcl (at_any (h.ext (hx13.trans hx36)) hn3 (by omega)) ?_
    rintro x4 w7 ⟨hA, hx7⟩
    refine ⟨hx7, ?_⟩
    unfold AtR at hA
    rw [if_pos (by omega)] at hA
    obtain ⟨vr, s, rfl, hr, hs'⟩ := hA
    repeat first | refine δ1 ?_ | refine δ2 ?_ | refine δ4 ?_ | refine δ5 ?_ | refine δ6 ?_ | refine δ7 ?_ | refine δ9 ?_ | refine δ8 ?_ | refine χ1 ?_ | refine χ2 ?_ | refine χ3 ?_ | refine χ4 ?_ | refine χ5 ?_ | refine χ6 ?_ | refine χ7 ?_
    repeat first | refine ω1 ?_ | refine ω2 ?_ | refine ω3 ?_ | refine ω4 ?_ | refine ω5 ?_ | refine χ1 ?_ | refine κ1 ?_ | refine κ2 ?_ | refine χ2 ?_ | refine κ3 ?_ | refine ω6 ?_ | refine ω7 ?_ | refine ω9 ?_ | refine κ4 ?_ | refine κ7 ?_ | refine κ8 ?_ | refine χ3 ?_ | refine χ4 ?_ | refine κ5 ?_ | refine κ6 ?_ | refine χ5 ?_ | refine χ6 ?_ | refine χ7 ?_ | refine ω8 ?_
    refine fin3 ⟨?_, (hx13.trans hx36).trans hx7⟩
    unfold AtR
    rw [if_pos (by simpa using hlt), rev_get hlt]
    exact ⟨vr, s, rfl, hr, hs'⟩
set_option maxRecDepth 100000 in
theorem revRank_any {v vr : Value} {L : List Row} {R : Row → Nat} {B : Nat} {r : Row} {w : World} (h : ArrI w v L R B) (hr : RowV w vr r) : Ret Try.prog 138 [.agg #[v], vr] w fun x w' => RankR w' L.reverse (revR L R) B r x ∧ Ext w w' := by
  obtain ⟨t, y, rfl⟩ := h.form
  have hs := h.small
  have hrk := h.rk r
  have hbd := h.bd
  refine enterR Try.func138 Try.ntmps138 rfl (by kernel_rfl) rfl ?_
  repeat first | refine ω1 ?_ | refine ω2 ?_ | refine ω3 ?_ | refine ω4 ?_ | refine ω5 ?_ | refine χ1 ?_ | refine κ1 ?_ | refine κ2 ?_ | refine χ2 ?_ | refine κ3 ?_ | refine ω6 ?_ | refine ω7 ?_ | refine ω9 ?_ | refine κ4 ?_ | refine κ7 ?_ | refine κ8 ?_ | refine χ3 ?_ | refine χ4 ?_ | refine κ5 ?_ | refine κ6 ?_ | refine χ5 ?_ | refine χ6 ?_ | refine χ7 ?_ | refine ω8 ?_
  refine bx ?_
  intro w1 b1 hx1 hb1 hk1
  repeat first | refine ω1 ?_ | refine ω2 ?_ | refine ω3 ?_ | refine ω4 ?_ | refine ω5 ?_ | refine χ1 ?_ | refine κ1 ?_ | refine κ2 ?_ | refine χ2 ?_ | refine κ3 ?_ | refine ω6 ?_ | refine ω7 ?_ | refine ω9 ?_ | refine κ4 ?_ | refine κ7 ?_ | refine κ8 ?_ | refine χ3 ?_ | refine χ4 ?_ | refine κ5 ?_ | refine κ6 ?_ | refine χ5 ?_ | refine χ6 ?_ | refine χ7 ?_ | refine ω8 ?_
  refine dr [(0, 0), (0, 1), (0, 2), (0, 4), (0, 5), (1, 3), (1, 6), (0, 7), (0, 8), (0, 9), (0, 10), (0, 11), (0, 12), (0, 13), (0, 14), (0, 15)] (by kernel_rfl) ?_
  have hxd : Ext w1 w1.drew := (Ext.refl w1).drew
  repeat first | refine δ1 ?_ | refine δ2 ?_ | refine δ4 ?_ | refine δ5 ?_ | refine δ6 ?_ | refine δ7 ?_ | refine δ9 ?_ | refine δ8 ?_ | refine χ1 ?_ | refine χ2 ?_ | refine χ3 ?_ | refine χ4 ?_ | refine χ5 ?_ | refine χ6 ?_ | refine χ7 ?_
  refine dld ((hk1.ext hxd).at rfl) ?_
  repeat first | refine δ1 ?_ | refine δ2 ?_ | refine δ4 ?_ | refine δ5 ?_ | refine δ6 ?_ | refine δ7 ?_ | refine δ9 ?_ | refine δ8 ?_ | refine χ1 ?_ | refine χ2 ?_ | refine χ3 ?_ | refine χ4 ?_ | refine χ5 ?_ | refine χ6 ?_ | refine χ7 ?_
  refine dnci ?_
  repeat first | refine δ1 ?_ | refine δ2 ?_ | refine δ4 ?_ | refine δ5 ?_ | refine δ6 ?_ | refine δ7 ?_ | refine δ9 ?_ | refine δ8 ?_ | refine χ1 ?_ | refine χ2 ?_ | refine χ3 ?_ | refine χ4 ?_ | refine χ5 ?_ | refine χ6 ?_ | refine χ7 ?_
  refine dcl (cloneRowV ((hr.ext hx1).ext hxd) (fun _ => False) (fun _ h => h.elim)) ?_
  rintro x w2 ⟨hr2, hx2⟩
  refine ⟨hx2, ?_⟩
  obtain ⟨f, rv, hm, hf⟩ := h.rank
  refine dinv hm (hf w2 ((hx1.trans hxd).trans hx2) r x hr2.v) ?_
  rintro y w3 ⟨⟨vn, s, rfl, hn3, hs3⟩, hx3⟩
  refine ⟨hx3, ?_⟩
  have hx13 : Ext w w3 := ((hx1.trans hxd).trans hx2).trans hx3
  repeat first | refine δ1 ?_ | refine δ2 ?_ | refine δ4 ?_ | refine δ5 ?_ | refine δ6 ?_ | refine δ7 ?_ | refine δ9 ?_ | refine δ8 ?_ | refine χ1 ?_ | refine χ2 ?_ | refine χ3 ?_ | refine χ4 ?_ | refine χ5 ?_ | refine χ6 ?_ | refine χ7 ?_
  repeat first | refine ω1 ?_ | refine ω2 ?_ | refine ω3 ?_ | refine ω4 ?_ | refine ω5 ?_ | refine χ1 ?_ | refine κ1 ?_ | refine κ2 ?_ | refine χ2 ?_ | refine κ3 ?_ | refine ω6 ?_ | refine ω7 ?_ | refine ω9 ?_ | refine κ4 ?_ | refine κ7 ?_ | refine κ8 ?_ | refine χ3 ?_ | refine χ4 ?_ | refine κ5 ?_ | refine κ6 ?_ | refine χ5 ?_ | refine χ6 ?_ | refine χ7 ?_ | refine ω8 ?_
  refine wjoin1 (fun (v8 : Value) => [(2, .pointer (some ⟨b1, 0, none⟩)), (8, v8), (9, .bool (decide (r ∈ L))), (10, .int .i64 (s : Int))])
    (fun v8 w4 => NatV w4 v8 (R r + if r ∈ L then 1 else 0) ∧ Ext w3 w4) ?_ ?_
  · refine ci (fun h => ?_) (fun h => ?_)
    · have hin := of_decide_eq_true h
      repeat first | refine ω1 ?_ | refine ω2 ?_ | refine ω3 ?_ | refine ω4 ?_ | refine ω5 ?_ | refine χ1 ?_ | refine κ1 ?_ | refine κ2 ?_ | refine χ2 ?_ | refine κ3 ?_ | refine ω6 ?_ | refine ω7 ?_ | refine ω9 ?_ | refine κ4 ?_ | refine κ7 ?_ | refine κ8 ?_ | refine χ3 ?_ | refine χ4 ?_ | refine κ5 ?_ | refine κ6 ?_ | refine χ5 ?_ | refine χ6 ?_ | refine χ7 ?_ | refine ω8 ?_
      refine cl (natOf_any 1 (by omega) _) ?_
      rintro x1 w4 ⟨hn1, hx4⟩
      repeat first | refine ω1 ?_ | refine ω2 ?_ | refine ω3 ?_ | refine ω4 ?_ | refine ω5 ?_ | refine χ1 ?_ | refine κ1 ?_ | refine κ2 ?_ | refine χ2 ?_ | refine κ3 ?_ | refine ω6 ?_ | refine ω7 ?_ | refine ω9 ?_ | refine κ4 ?_ | refine κ7 ?_ | refine κ8 ?_ | refine χ3 ?_ | refine χ4 ?_ | refine κ5 ?_ | refine κ6 ?_ | refine χ5 ?_ | refine χ6 ?_ | refine χ7 ?_ | refine ω8 ?_
      refine cl (natAdd_any (hn3.ext hx4) hn1 (small1000 (by omega)) (small1000 (by omega))) ?_
      rintro x2 w5 ⟨hn5, hx5⟩
      repeat first | refine ω1 ?_ | refine ω2 ?_ | refine ω3 ?_ | refine ω4 ?_ | refine ω5 ?_ | refine χ1 ?_ | refine κ1 ?_ | refine κ2 ?_ | refine χ2 ?_ | refine κ3 ?_ | refine ω6 ?_ | refine ω7 ?_ | refine ω9 ?_ | refine κ4 ?_ | refine κ7 ?_ | refine κ8 ?_ | refine χ3 ?_ | refine χ4 ?_ | refine κ5 ?_ | refine κ6 ?_ | refine χ5 ?_ | refine χ6 ?_ | refine χ7 ?_ | refine ω8 ?_
      exact qjoin1 x2 (by repeat' (first | exact Sub.nil | refine Sub.cons rfl ?_)) ⟨by rw [if_pos hin]; exact hn5, hx4.trans hx5⟩
    · have hin := of_decide_eq_false h
      repeat first | refine ω1 ?_ | refine ω2 ?_ | refine ω3 ?_ | refine ω4 ?_ | refine ω5 ?_ | refine χ1 ?_ | refine κ1 ?_ | refine κ2 ?_ | refine χ2 ?_ | refine κ3 ?_ | refine ω6 ?_ | refine ω7 ?_ | refine ω9 ?_ | refine κ4 ?_ | refine κ7 ?_ | refine κ8 ?_ | refine χ3 ?_ | refine χ4 ?_ | refine κ5 ?_ | refine κ6 ?_ | refine χ5 ?_ | refine χ6 ?_ | refine χ7 ?_ | refine ω8 ?_
      exact qjoin1 vn (by repeat' (first | exact Sub.nil | refine Sub.cons rfl ?_)) ⟨by rw [if_neg hin]; exact hn3, Ext.refl _⟩
  rintro v8 w4 ⟨hn4, hx4⟩
  repeat first | refine ω1 ?_ | refine ω2 ?_ | refine ω3 ?_ | refine ω4 ?_ | refine ω5 ?_ | refine χ1 ?_ | refine κ1 ?_ | refine κ2 ?_ | refine χ2 ?_ | refine κ3 ?_ | refine ω6 ?_ | refine ω7 ?_ | refine ω9 ?_ | refine κ4 ?_ | refine κ7 ?_ | refine κ8 ?_ | refine χ3 ?_ | refine χ4 ?_ | refine κ5 ?_ | refine κ6 ?_ | refine χ5 ?_ | refine χ6 ?_ | refine χ7 ?_ | refine ω8 ?_
  refine ld (((((hk1.ext hxd).ext hx2).ext hx3).ext hx4).at rfl) ?_
  repeat first | refine ω1 ?_ | refine ω2 ?_ | refine ω3 ?_ | refine ω4 ?_ | refine ω5 ?_ | refine χ1 ?_ | refine κ1 ?_ | refine κ2 ?_ | refine χ2 ?_ | refine κ3 ?_ | refine ω6 ?_ | refine ω7 ?_ | refine ω9 ?_ | refine κ4 ?_ | refine κ7 ?_ | refine κ8 ?_ | refine χ3 ?_ | refine χ4 ?_ | refine κ5 ?_ | refine κ6 ?_ | refine χ5 ?_ | refine χ6 ?_ | refine χ7 ?_ | refine ω8 ?_
  obtain ⟨f', rv', hm', hf'⟩ := h.len
  refine inv hm' (hf' w4 (hx13.trans hx4)) ?_
  rintro x5 w5 ⟨hn5, hx5⟩
  repeat first | refine ω1 ?_ | refine ω2 ?_ | refine ω3 ?_ | refine ω4 ?_ | refine ω5 ?_ | refine χ1 ?_ | refine κ1 ?_ | refine κ2 ?_ | refine χ2 ?_ | refine κ3 ?_ | refine ω6 ?_ | refine ω7 ?_ | refine ω9 ?_ | refine κ4 ?_ | refine κ7 ?_ | refine κ8 ?_ | refine χ3 ?_ | refine χ4 ?_ | refine κ5 ?_ | refine κ6 ?_ | refine χ5 ?_ | refine χ6 ?_ | refine χ7 ?_ | refine ω8 ?_
  refine cl (minus_any hn5 (hn4.ext hx5) (by omega)) ?_
  rintro x6 w6 ⟨hn6, hx6⟩
  repeat first | refine ω1 ?_ | refine ω2 ?_ | refine ω3 ?_ | refine ω4 ?_ | refine ω5 ?_ | refine χ1 ?_ | refine κ1 ?_ | refine κ2 ?_ | refine χ2 ?_ | refine κ3 ?_ | refine ω6 ?_ | refine ω7 ?_ | refine ω9 ?_ | refine κ4 ?_ | refine κ7 ?_ | refine κ8 ?_ | refine χ3 ?_ | refine χ4 ?_ | refine κ5 ?_ | refine κ6 ?_ | refine χ5 ?_ | refine χ6 ?_ | refine χ7 ?_ | refine ω8 ?_
  refine fin4 ⟨⟨x6, s, ?_, hn6, hs3⟩, ((hx13.trans hx4).trans hx5).trans hx6⟩
  rw [show decide (r ∈ L.reverse) = decide (r ∈ L) by simp]
theorem mRevLen (x : Value) : Meth Try.prog (.iface 108 (.agg #[x])) "Len" 137 (.agg #[x]) := ⟨_, _, rfl, fun w => by kernel_rfl, fun w => by kernel_rfl⟩
theorem mRevAt (x : Value) : Meth Try.prog (.iface 108 (.agg #[x])) "At" 136 (.agg #[x]) := ⟨_, _, rfl, fun w => by kernel_rfl, fun w => by kernel_rfl⟩
theorem mRevRank (x : Value) : Meth Try.prog (.iface 108 (.agg #[x])) "Rank" 138 (.agg #[x]) := ⟨_, _, rfl, fun w => by kernel_rfl, fun w => by kernel_rfl⟩
theorem revI {w : World} {v : Value} {L : List Row} {R : Row → Nat} {B : Nat} (h : ArrI w v L R B) : ArrI w (.iface 108 (.agg #[v])) L.reverse (revR L R) B := by
  refine ⟨⟨_, _, mRevLen _, fun w' hx => by rw [List.length_reverse]; exact revLen_any (h.ext hx)⟩, ⟨_, _, mRevAt _, fun w' hx k vk hk hkb => revAt_any (h.ext hx) hk hkb⟩, ⟨_, _, mRevRank _, fun w' hx r vr hr => revRank_any (h.ext hx) hr⟩, by simpa using h.small, fun r => ?_, h.bd, fun i hi => ?_⟩
  · rw [List.length_reverse]; unfold revR; omega
  · have hi' : i < L.length := by simpa using hi
    rw [rev_get hi', revR, h.pos _ (by omega), if_pos (getD_mem' [] L (by omega))]; omega
theorem bldRev (x : Value) (t : TypeId) (y : Value) (hx : x = .iface t y) (w : World) : (Instr.build 108 #[(0, x)]).run Try.prog w = .ok (.agg #[x]) w := by subst hx; kernel_rfl
theorem ifA : Try.prog.underlying 46 = some (.interface #[("At", 83), ("Len", 91), ("Rank", 36)]) := by kernel_rfl
set_option maxRecDepth 100000 in
theorem reverse_any {w : World} {v : Value} {L : List Row} {R : Row → Nat} {B : Nat} (h : ArrI w v L R B) : Ret Try.prog 22 [v] w fun x w' => ArrI w' x L.reverse (revR L R) B ∧ w' = w := by
  obtain ⟨t, y, rfl⟩ := h.form
  refine enterR Try.func22 Try.ntmps22 rfl (by kernel_rfl) rfl ?_
  repeat first | refine ω1 ?_ | refine ω2 ?_ | refine ω3 ?_ | refine ω4 ?_ | refine ω5 ?_ | refine χ1 ?_ | refine κ1 ?_ | refine κ2 ?_ | refine χ2 ?_ | refine κ3 ?_ | refine ω6 ?_ | refine ω7 ?_ | refine ω9 ?_ | refine κ4 ?_ | refine κ7 ?_ | refine κ8 ?_ | refine χ3 ?_ | refine χ4 ?_ | refine κ5 ?_ | refine κ6 ?_ | refine χ5 ?_ | refine χ6 ?_ | refine χ7 ?_ | refine ω8 ?_
  refine inil ifA (.inr ⟨_, _, rfl⟩) ?_
  repeat first | refine ω1 ?_ | refine ω2 ?_ | refine ω3 ?_ | refine ω4 ?_ | refine ω5 ?_ | refine χ1 ?_ | refine κ1 ?_ | refine κ2 ?_ | refine χ2 ?_ | refine κ3 ?_ | refine ω6 ?_ | refine ω7 ?_ | refine ω9 ?_ | refine κ4 ?_ | refine κ7 ?_ | refine κ8 ?_ | refine χ3 ?_ | refine χ4 ?_ | refine κ5 ?_ | refine κ6 ?_ | refine χ5 ?_ | refine χ6 ?_ | refine χ7 ?_ | refine ω8 ?_
  refine bld (bldRev _ _ _ rfl _) ?_
  repeat first | refine ω1 ?_ | refine ω2 ?_ | refine ω3 ?_ | refine ω4 ?_ | refine ω5 ?_ | refine χ1 ?_ | refine κ1 ?_ | refine κ2 ?_ | refine χ2 ?_ | refine κ3 ?_ | refine ω6 ?_ | refine ω7 ?_ | refine ω9 ?_ | refine κ4 ?_ | refine κ7 ?_ | refine κ8 ?_ | refine χ3 ?_ | refine χ4 ?_ | refine κ5 ?_ | refine κ6 ?_ | refine χ5 ?_ | refine χ6 ?_ | refine χ7 ?_ | refine ω8 ?_
  refine mki Try.underlying108 (fun ms e => by cases e) ?_
  repeat first | refine ω1 ?_ | refine ω2 ?_ | refine ω3 ?_ | refine ω4 ?_ | refine ω5 ?_ | refine χ1 ?_ | refine κ1 ?_ | refine κ2 ?_ | refine χ2 ?_ | refine κ3 ?_ | refine ω6 ?_ | refine ω7 ?_ | refine ω9 ?_ | refine κ4 ?_ | refine κ7 ?_ | refine κ8 ?_ | refine χ3 ?_ | refine χ4 ?_ | refine κ5 ?_ | refine κ6 ?_ | refine χ5 ?_ | refine χ6 ?_ | refine χ7 ?_ | refine ω8 ?_
  exact fin1 ⟨revI h, rfl⟩
set_option maxRecDepth 100000 in
theorem reverse_nil {w : World} : Ret Try.prog 22 [.nilIface] w fun x w' => x = .nilIface ∧ w' = w := by
  refine enterR Try.func22 Try.ntmps22 rfl (by kernel_rfl) rfl ?_
  repeat first | refine ω1 ?_ | refine ω2 ?_ | refine ω3 ?_ | refine ω4 ?_ | refine ω5 ?_ | refine χ1 ?_ | refine κ1 ?_ | refine κ2 ?_ | refine χ2 ?_ | refine κ3 ?_ | refine ω6 ?_ | refine ω7 ?_ | refine ω9 ?_ | refine κ4 ?_ | refine κ7 ?_ | refine κ8 ?_ | refine χ3 ?_ | refine χ4 ?_ | refine κ5 ?_ | refine κ6 ?_ | refine χ5 ?_ | refine χ6 ?_ | refine χ7 ?_ | refine ω8 ?_
  refine inil ifA (.inl rfl) ?_
  repeat first | refine ω1 ?_ | refine ω2 ?_ | refine ω3 ?_ | refine ω4 ?_ | refine ω5 ?_ | refine χ1 ?_ | refine κ1 ?_ | refine κ2 ?_ | refine χ2 ?_ | refine κ3 ?_ | refine ω6 ?_ | refine ω7 ?_ | refine ω9 ?_ | refine κ4 ?_ | refine κ7 ?_ | refine κ8 ?_ | refine χ3 ?_ | refine χ4 ?_ | refine κ5 ?_ | refine κ6 ?_ | refine χ5 ?_ | refine χ6 ?_ | refine χ7 ?_ | refine ω8 ?_
  exact fin1 ⟨rfl, rfl⟩
end Go.Proofs.Ytpahjnfolbnloaa
