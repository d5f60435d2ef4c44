/- Plain mathematics of decoding. No program in sight. -/
import Derived.Test.YthjnmclnafbcdaaCodecJoinsW
set_option linter.unusedVariables false
namespace Go.Proofs.Ythjnmclnafbcdaa
open Pl
abbrev DR := V × Nat × Nat
def short : DR := (V0, 0, 14)
def sGo : List UInt8 → List UInt8 → Nat → DR
  | [], _, _ => short
  | [c], acc, p => if c = 0 then short else if 24 < acc.length + 1 then (V0, 0, 13) else short
  | c :: e :: r, acc, p =>
    if c = 0 then
      if e = 0 then (⟨2, 0, ⟨acc.toArray⟩⟩, p + 2, 0)
      else if e = 255 then (if 24 < acc.length + 1 then (V0, 0, 13) else sGo r (acc ++ [0]) (p + 2))
      else (V0, 0, 15)
    else if 24 < acc.length + 1 then (V0, 0, 13) else sGo (e :: r) (acc ++ [c]) (p + 1)
def acc8 (l : List UInt8) : Nat := l.foldl (fun a c => a * 256 + c.toNat) 0
def decR : List UInt8 → DR
  | [] => short
  | t :: r => if t = 1 then (if r.length < 8 then short else (⟨1, (acc8 (r.take 8) : Int) - 9223372036854775808, ⟨#[]⟩⟩, 9, 0)) else if t = 2 then sGo r [] 1 else (V0, 0, 15)
def dec (l : List UInt8) (d : Bool) : DR := decR (flp d l)
def decRows : Nat → List UInt8 → List Bool → List V → List V × Nat
  | 0, _, _, acc => (acc, 0)
  | f + 1, [], _, acc => (acc, 0)
  | f + 1, c :: l, ds, acc =>
    if (dec (c :: l) (ds.getD acc.length false)).2.2 = 0 then decRows f ((c :: l).drop (dec (c :: l) (ds.getD acc.length false)).2.1) ds (acc ++ [(dec (c :: l) (ds.getD acc.length false)).1])
    else ([], (dec (c :: l) (ds.getD acc.length false)).2.2)
def fl (d : Bool) (c : UInt8) : UInt8 := if d then 255 - c else c
theorem flp_map (d : Bool) (l : List UInt8) : flp d l = l.map (fl d) := by
  cases d with
  | false => show l = l.map (fun c => c); simp
  | true => rfl
theorem fl_fl (d : Bool) (c : UInt8) : fl d (fl d c) = c := by
  cases d with
  | false => rfl
  | true =>
    show 255 - (255 - c) = c
    have hc := c.toNat_lt
    have e1 : (255 - c).toNat = 255 - c.toNat := by rw [UInt8.toNat_sub_of_le]; rfl; rw [UInt8.le_iff_toNat_le]; show c.toNat ≤ 255; omega
    apply UInt8.toNat_inj.1
    rw [UInt8.toNat_sub_of_le, e1]
    · show 255 - (255 - c.toNat) = c.toNat; omega
    · rw [UInt8.le_iff_toNat_le, e1]; show 255 - c.toNat ≤ 255; omega
theorem flp_flp (d : Bool) (l : List UInt8) : flp d (flp d l) = l := by
  rw [flp_map, flp_map, List.map_map]
  conv => rhs; rw [← List.map_id l]
  exact List.map_congr_left fun c _ => fl_fl d c
theorem flp_length (d : Bool) (l : List UInt8) : (flp d l).length = l.length := by rw [flp_map]; simp
theorem flp_take (d : Bool) (l : List UInt8) (n : Nat) : (flp d l).take n = flp d (l.take n) := by rw [flp_map, flp_map, List.map_take]
theorem flp_app (d : Bool) (a b : List UInt8) : flp d (a ++ b) = flp d a ++ flp d b := by rw [flp_map, flp_map, flp_map, List.map_append]
theorem flp_getD (d : Bool) (l : List UInt8) (i : Nat) (h : i < l.length) : (flp d l).getD i 0 = fl d (l.getD i 0) := by
  rw [flp_map]; simp [List.getD, List.getElem?_eq_getElem h]
/-! numbers -/
theorem acc8_snoc (l : List UInt8) (c : UInt8) : acc8 (l ++ [c]) = acc8 l * 256 + c.toNat := by simp [acc8]
theorem acc8_go : ∀ (l : List UInt8) (a : Nat), l.foldl (fun a c => a * 256 + c.toNat) a < (a + 1) * 256 ^ l.length
  | [], a => by simp
  | c :: l, a => by
    have := acc8_go l (a * 256 + c.toNat)
    have hc := c.toNat_lt
    rw [List.foldl_cons, List.length_cons, Nat.pow_succ]
    have h2 : (a * 256 + c.toNat + 1) * 256 ^ l.length ≤ ((a + 1) * 256) * 256 ^ l.length := Nat.mul_le_mul_right _ (by omega)
    have h3 : (a + 1) * (256 ^ l.length * 256) = ((a + 1) * 256) * 256 ^ l.length := by rw [Nat.mul_comm (256 ^ l.length), Nat.mul_assoc]
    omega
theorem acc8_lt (l : List UInt8) : acc8 l < 256 ^ l.length := by
  have := acc8_go l 0
  rw [Nat.zero_add, Nat.one_mul] at this
  exact this
theorem be_of (l : List UInt8) (h : l.length = 8) : be8 (acc8 l) = l := by
  match l, h with
  | [a, b, c, d, e, f, g, i], _ =>
    have := a.toNat_lt; have := b.toNat_lt; have := c.toNat_lt; have := d.toNat_lt; have := e.toNat_lt; have := f.toNat_lt; have := g.toNat_lt; have := i.toNat_lt
    simp only [be8, acc8, be, List.range, List.range.loop, List.map, List.foldl]
    have k : ∀ (x : Nat) (c : UInt8), x % 256 = c.toNat → UInt8.ofNat x = c := fun x c h => by
      apply UInt8.toNat_inj.1; rw [UInt8.toNat_ofNat']; omega
    simp only [List.cons.injEq, and_true]
    refine ⟨k _ _ ?_, k _ _ ?_, k _ _ ?_, k _ _ ?_, k _ _ ?_, k _ _ ?_, k _ _ ?_, k _ _ ?_⟩ <;> omega
theorem acc8_be (m : Nat) (h : m < M64) : acc8 (be8 m) = m := by
  simp only [be8, acc8, be, List.range, List.range.loop, List.map, List.foldl, UInt8.toNat_ofNat']
  unfold M64 at h
  omega
/-! what was decoded encodes to what was read -/
theorem sGo_ok : ∀ (l acc : List UInt8) (p : Nat) (v : V) (n : Nat), acc.length ≤ 24 → sGo l acc p = (v, n, 0) → v.kind = 2 ∧ v.num = 0 ∧ ∃ x, v.str = ⟨(acc ++ x).toArray⟩ ∧ acc.length + x.length ≤ 24 ∧ p < n ∧ n - p ≤ l.length ∧ l.take (n - p) = esc x ++ [0, 0]
  | [], acc, p, v, n, _, h => by simp [sGo, short] at h
  | [c], acc, p, v, n, _, h => by
    simp only [sGo, short] at h
    split at h
    · simp at h
    · split at h <;> simp at h
  | c :: e :: r, acc, p, v, n, ha, h => by
    simp only [sGo] at h
    split at h
    · rename_i hc
      split at h
      · rename_i he
        subst hc; subst he
        simp only [Prod.mk.injEq] at h
        obtain ⟨rfl, rfl, _⟩ := h
        exact ⟨rfl, rfl, [], by simp, by simpa using ha, by omega, by simp, by rw [show p + 2 - p = 2 by omega]; rfl⟩
      · split at h
        · rename_i he
          split at h
          · simp at h
          · subst hc; subst he
            obtain ⟨h1, h2, x, h3, h4, h5, h6, h7⟩ := sGo_ok r (acc ++ [0]) (p + 2) v n (by simp; omega) h
            refine ⟨h1, h2, 0 :: x, by rw [h3]; simp, by simp at h4 ⊢; omega, by omega, by simp; omega, ?_⟩
            rw [show n - p = (n - (p + 2)) + 1 + 1 by omega, List.take_succ_cons, List.take_succ_cons, h7]
            simp [esc]
        · simp at h
    · rename_i hc
      split at h
      · simp at h
      · obtain ⟨h1, h2, x, h3, h4, h5, h6, h7⟩ := sGo_ok (e :: r) (acc ++ [c]) (p + 1) v n (by simp; omega) h
        refine ⟨h1, h2, c :: x, by rw [h3]; simp, by simp at h4 ⊢; omega, by omega, by simp at h6 ⊢; omega, ?_⟩
        rw [show n - p = (n - (p + 1)) + 1 by omega, List.take_succ_cons, h7]
        simp [esc, hc]
theorem decR_ok {l : List UInt8} {v : V} {n : Nat} (h : decR l = (v, n, 0)) : v.valid = true ∧ (-9223372036854775808 ≤ v.num ∧ v.num ≤ 9223372036854775807) ∧ 0 < n ∧ n ≤ l.length ∧ v.raw = l.take n := by
  match l, h with
  | [], h => simp [decR, short] at h
  | t :: r, h =>
    simp only [decR] at h
    split at h
    · rename_i ht
      split at h
      · simp [short] at h
      · rename_i hr
        subst ht
        simp only [Prod.mk.injEq] at h
        obtain ⟨rfl, rfl, _⟩ := h
        have hl : (r.take 8).length = 8 := by simp; omega
        have hlt := acc8_lt (r.take 8)
        rw [hl] at hlt
        refine ⟨rfl, ⟨by show -9223372036854775808 ≤ (acc8 (r.take 8) : Int) - 9223372036854775808; omega, by show (acc8 (r.take 8) : Int) - 9223372036854775808 ≤ 9223372036854775807; omega⟩, by omega, by simp; omega, ?_⟩
        have hm : V.m ⟨1, (acc8 (r.take 8) : Int) - 9223372036854775808, ⟨#[]⟩⟩ = acc8 (r.take 8) := by unfold V.m; simp
        rw [V.raw, if_pos rfl, hm, be_of _ hl]
        rfl
    · split at h
      · rename_i ht
        subst ht
        obtain ⟨h1, h2, x, h3, h4, h5, h6, h7⟩ := sGo_ok r [] 1 v n (by simp) h
        have hb : v.bytes = x := by rw [V.bytes, h3]; simp
        refine ⟨?_, by rw [h2]; decide, by omega, by simp; omega, ?_⟩
        · rw [V.valid, h1, h2, hb]; simp at h4 ⊢; exact h4
        · rw [V.raw, if_neg (by omega), hb, ← h7, show n = (n - 1) + 1 by omega, List.take_succ_cons]; simp
      · simp at h
theorem dec_ok {l : List UInt8} {d : Bool} {v : V} {n : Nat} (h : dec l d = (v, n, 0)) : v.valid = true ∧ (-9223372036854775808 ≤ v.num ∧ v.num ≤ 9223372036854775807) ∧ 0 < n ∧ n ≤ l.length ∧ v.enc d = l.take n := by
  obtain ⟨h1, h2, h3, h4, h5⟩ := decR_ok h
  refine ⟨h1, h2, h3, by rwa [flp_length] at h4, ?_⟩
  rw [V.enc, h5, flp_take, flp_flp]
theorem decRows_ok : ∀ (f : Nat) (l : List UInt8) (ds : List Bool) (acc r : List V), l.length ≤ f → decRows f l ds acc = (r, 0) → ∃ x, r = acc ++ x ∧ x.all V.valid = true ∧ RowOk x ∧ encR x (ds.drop acc.length) = l ∧ x.length ≤ l.length
  | 0, l, ds, acc, r, hf, h => by
    have : l = [] := List.eq_nil_of_length_eq_zero (by omega)
    subst this
    simp only [decRows, Prod.mk.injEq] at h
    exact ⟨[], by simp [h.1], rfl, fun v hv => by simp at hv, rfl, by simp⟩
  | f + 1, [], ds, acc, r, hf, h => by
    simp only [decRows, Prod.mk.injEq] at h
    exact ⟨[], by simp [h.1], rfl, fun v hv => by simp at hv, rfl, by simp⟩
  | f + 1, c :: l, ds, acc, r, hf, h => by
    simp only [decRows] at h
    split at h
    · rename_i h0
      generalize hd : dec (c :: l) (ds.getD acc.length false) = q at h h0
      obtain ⟨v, n, e⟩ := q
      simp only at h h0
      subst h0
      obtain ⟨k1, k2, k3, k4, k5⟩ := dec_ok hd
      obtain ⟨x, h1, h2, h3, h4, h5⟩ := decRows_ok f ((c :: l).drop n) ds (acc ++ [v]) r (by simp at hf ⊢; omega) h
      refine ⟨v :: x, by rw [h1]; simp, by simp [k1, h2], fun u hu => ?_, ?_, by simp at h5 k4 ⊢; omega⟩
      · rcases List.mem_cons.1 hu with rfl | hu
        · exact k2
        · exact h3 u hu
      · have e1 := encR_app [v] x (ds.drop acc.length)
        simp only [List.singleton_append] at e1
        have e2 : encR [v] (ds.drop acc.length) = v.enc (ds.getD acc.length false) := by
          show [] ++ v.enc ((ds.drop acc.length).getD 0 false) = _
          simp [List.getD, List.getElem?_drop]
        rw [e1, e2, k5, List.drop_drop]
        rw [List.length_append, List.length_singleton] at h4
        rw [List.length_singleton, h4, List.take_append_drop]
    · rename_i h0
      simp only [Prod.mk.injEq] at h
      exact absurd h.2 h0
end Go.Proofs.Ythjnmclnafbcdaa
