/- Plain mathematics: what is encoded is decoded. No program in sight. -/
import Derived.Test.YthjnmclnafbcdaaDecP
import Derived.Test.YthjnmclnafbcdaaOrd
set_option linter.unusedVariables false
namespace Go.Proofs.Ythjnmclnafbcdaa
open Pl
theorem sGo_step {c : UInt8} {L acc : List UInt8} {p : Nat} (hc : c ≠ 0) (ha : ¬ 24 < acc.length + 1) : sGo (c :: L) acc p = sGo L (acc ++ [c]) (p + 1) := by
  cases L <;> simp only [sGo] <;> rw [if_neg hc, if_neg ha]
theorem sGo_esc : ∀ (x acc s : List UInt8) (p : Nat), acc.length + x.length ≤ 24 → sGo (esc x ++ 0 :: 0 :: s) acc p = (⟨2, 0, ⟨(acc ++ x).toArray⟩⟩, p + (esc x).length + 2, 0)
  | [], acc, s, p, _ => by simp [esc, sGo]
  | c :: x, acc, s, p, h => by
    simp only [List.length_cons] at h
    by_cases hc : c = 0
    · subst hc
      have ih := sGo_esc x (acc ++ [0]) s (p + 2) (by simp; omega)
      have e : esc (0 :: x) = 0 :: 255 :: esc x := by simp [esc]
      rw [e]
      simp only [List.cons_append, sGo]
      rw [if_pos trivial, if_neg (by decide), if_pos trivial, if_neg (by omega), ih]
      simp only [List.length_cons, List.append_assoc, List.singleton_append, Prod.mk.injEq, and_true, true_and]
      omega
    · have ih := sGo_esc x (acc ++ [c]) s (p + 1) (by simp; omega)
      have e : esc (c :: x) = c :: esc x := by simp [esc, hc]
      rw [e, List.cons_append, sGo_step hc (by omega), ih]
      simp only [List.length_cons, List.append_assoc, List.singleton_append, Prod.mk.injEq, and_true, true_and]
      omega
theorem sGo_part : ∀ (x acc : List UInt8) (p j : Nat), acc.length + x.length ≤ 24 → j < (esc x ++ [0, 0]).length → sGo ((esc x ++ [0, 0]).take j) acc p = short
  | [], acc, p, j, _, hj => by
    simp only [esc, List.nil_append, List.length_cons, List.length_nil] at hj ⊢
    match j, hj with
    | 0, _ => rfl
    | 1, _ => rfl
  | c :: x, acc, p, j, h, hj => by
    simp only [List.length_cons] at h
    by_cases hc : c = 0
    · subst hc
      have e : esc (0 :: x) = 0 :: 255 :: esc x := by simp [esc]
      rw [e] at hj ⊢
      match j, hj with
      | 0, _ => rfl
      | 1, _ => rfl
      | j + 2, hj =>
        have ih := sGo_part x (acc ++ [0]) (p + 2) j (by simp; omega) (by simp at hj ⊢; omega)
        simp only [List.cons_append, List.take_succ_cons, sGo]
        rw [if_pos trivial, if_neg (by decide), if_pos trivial, if_neg (by omega), ih]
    · have e : esc (c :: x) = c :: esc x := by simp [esc, hc]
      rw [e] at hj ⊢
      match j, hj with
      | 0, _ => rfl
      | j + 1, hj =>
        have ih := sGo_part x (acc ++ [c]) (p + 1) j (by simp; omega) (by simp at hj ⊢; omega)
        rw [List.cons_append, List.take_succ_cons, sGo_step hc (by omega), ih]
theorem kinds {v : V} (h : v.valid = true) : (v.kind = 1 ∧ v.bytes = []) ∨ (v.kind = 2 ∧ v.num = 0 ∧ v.bytes.length ≤ 24) := by
  unfold V.valid at h; simp at h; rcases h with ⟨h, h2⟩ | ⟨h, h2, h3⟩
  · exact .inl ⟨h, h2⟩
  · exact .inr ⟨h, h2, h3⟩
theorem V.eta {v : V} {k n : Int} {x : List UInt8} (hk : v.kind = k) (hn : v.num = n) (hx : v.bytes = x) : v = ⟨k, n, ⟨x.toArray⟩⟩ := by
  obtain ⟨a, b, ⟨s⟩⟩ := v
  simp only at hk hn
  subst hk; subst hn
  rw [← hx, V.bytes]
theorem decR_raw {v : V} (h : v.valid = true) (hn : -9223372036854775808 ≤ v.num ∧ v.num ≤ 9223372036854775807) (s : List UInt8) : decR (v.raw ++ s) = (v, v.raw.length, 0) := by
  rcases kinds h with ⟨hk, hb⟩ | ⟨hk, h0, hb⟩
  · have hm : v.m < M64 := by unfold V.m M64; omega
    have hr : v.raw = 1 :: be8 v.m := by unfold V.raw; rw [if_pos hk]
    have hl := be8_len v.m
    rw [hr, List.cons_append]
    simp only [decR, if_true]
    rw [if_neg (by rw [List.length_append, hl]; omega), List.take_append_of_le_length (by omega), List.take_of_length_le (by omega), acc8_be _ hm]
    have e : (v.m : Int) - 9223372036854775808 = v.num := by unfold V.m; omega
    rw [e, List.length_cons, hl]
    rw [← V.eta hk rfl hb]
  · have hr : v.raw = 2 :: (esc v.bytes ++ [0, 0]) := by unfold V.raw; rw [if_neg (by omega)]
    rw [hr, List.cons_append]
    simp only [decR]
    rw [if_neg (by decide), if_pos trivial]
    have := sGo_esc v.bytes [] s 1 (by simpa using hb)
    rw [List.append_assoc]
    show sGo (esc v.bytes ++ 0 :: 0 :: s) [] 1 = _
    rw [this, List.nil_append, ← V.eta hk h0 rfl]
    simp only [List.length_cons, List.length_append, List.length_nil, Prod.mk.injEq, and_true, true_and]
    omega
theorem decR_part {v : V} (h : v.valid = true) {k : Nat} (hk : k < v.raw.length) : decR (v.raw.take k) = short := by
  cases k with
  | zero => rfl
  | succ j =>
    rcases kinds h with ⟨hk1, hb⟩ | ⟨hk1, h0, hb⟩
    · have hr : v.raw = 1 :: be8 v.m := by unfold V.raw; rw [if_pos hk1]
      have hl := be8_len v.m
      rw [hr] at hk ⊢
      rw [List.take_succ_cons]
      simp only [decR, if_true]
      rw [if_pos (by rw [List.length_take]; simp at hk; omega)]
    · have hr : v.raw = 2 :: (esc v.bytes ++ [0, 0]) := by unfold V.raw; rw [if_neg (by omega)]
      rw [hr] at hk ⊢
      rw [List.take_succ_cons]
      simp only [decR]
      rw [if_neg (by decide), if_pos trivial]
      exact sGo_part v.bytes [] 1 j (by simpa using hb) (by simp only [List.length_cons] at hk; omega)
theorem dec_enc {v : V} (h : v.valid = true) (hn : -9223372036854775808 ≤ v.num ∧ v.num ≤ 9223372036854775807) (d : Bool) (s : List UInt8) : dec (v.enc d ++ s) d = (v, (v.enc d).length, 0) := by
  rw [dec, flp_app, V.enc, flp_flp, decR_raw h hn, flp_length]
theorem dec_part {v : V} (h : v.valid = true) (d : Bool) {k : Nat} (hk : k < (v.enc d).length) : dec ((v.enc d).take k) d = short := by
  rw [V.enc, flp_length] at hk
  rw [dec, V.enc, flp_take, flp_flp, decR_part h hk]
theorem decRows_enc : ∀ (r : List V) (ds : List Bool) (acc : List V) (f : Nat), r.all V.valid = true → RowOk r → (encR r (ds.drop acc.length)).length ≤ f → decRows f (encR r (ds.drop acc.length)) ds acc = (acc ++ r, 0)
  | [], ds, acc, f, _, _, _ => by
    show decRows f [] ds acc = _
    rw [List.append_nil]; cases f <;> rfl
  | v :: r, ds, acc, f, hv, hok, hf => by
    simp only [List.all_cons, Bool.and_eq_true] at hv
    have ec := encR_cons v r (ds.drop acc.length)
    have e0 : (ds.drop acc.length).getD 0 false = ds.getD acc.length false := by simp [List.getD, List.getElem?_drop]
    rw [e0, List.drop_drop] at ec
    obtain ⟨c, l, hcl⟩ := enc_pos v (ds.getD acc.length false)
    have hd := dec_enc hv.1 (hok v (by simp)) (ds.getD acc.length false) (encR r (ds.drop (acc.length + 1)))
    have e1 : (acc ++ [v]).length = acc.length + 1 := by simp
    rw [ec] at hf ⊢
    have hpos : 0 < (v.enc (ds.getD acc.length false)).length := by rw [hcl]; simp
    obtain ⟨f', hf'⟩ : ∃ f', f = f' + 1 := ⟨f - 1, by rw [List.length_append] at hf; omega⟩
    subst hf'
    have ih := decRows_enc r ds (acc ++ [v]) f' hv.2 (fun u hu => hok u (by simp [hu])) (by rw [e1]; rw [List.length_append] at hf; omega)
    rw [e1] at ih
    rw [hcl] at hd ⊢
    simp only [List.cons_append] at hd ⊢
    rw [decRows, hd]
    simp only [if_true]
    have e2 : List.drop (c :: l).length (c :: (l ++ encR r (ds.drop (acc.length + 1)))) = encR r (ds.drop (acc.length + 1)) := by
      rw [← List.cons_append]; exact List.drop_left
    rw [e2, ih]
    simp
end Go.Proofs.Ythjnmclnafbcdaa
