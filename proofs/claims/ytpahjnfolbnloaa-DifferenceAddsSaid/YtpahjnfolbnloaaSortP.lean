/- Plain lists: swapping, sorting parts, merging by rotation. No program in sight. -/
import Derived.Test.YtpahjnfolbnloaaOrdP
set_option linter.unusedVariables false
namespace Go.Proofs.Ytpahjnfolbnloaa
section
variable {α : Type} (z : α)
def swp (q : List α) (i j : Nat) : List α := (q.set i (q.getD j z)).set j (q.getD i z)
theorem swp_len (q : List α) (i j : Nat) : (swp z q i j).length = q.length := by simp [swp]
theorem getD_set (q : List α) (i k : Nat) (x : α) (hi : i < q.length) : (q.set i x).getD k z = if k = i then x else q.getD k z := by
  simp only [List.getD, List.getElem?_set]
  by_cases h : i = k
  · subst h; simp [hi]
  · rw [if_neg h, if_neg (Ne.symm h)]
theorem swp_at (q : List α) {i j : Nat} (hi : i < q.length) (hj : j < q.length) (k : Nat) : (swp z q i j).getD k z = if k = j then q.getD i z else if k = i then q.getD j z else q.getD k z := by
  unfold swp
  rw [getD_set z _ _ _ _ (by simpa using hj), getD_set z _ _ _ _ hi]
theorem getD_get (q : List α) {i : Nat} (h : i < q.length) : q.getD i z = q[i] := by simp [List.getD, List.getElem?_eq_getElem h]
theorem swp_perm (q : List α) {i j : Nat} (hi : i < q.length) (hj : j < q.length) : (swp z q i j).Perm q := by
  unfold swp
  rw [getD_get z q hi, getD_get z q hj]
  exact List.set_set_perm hi hj
theorem getD_mem' (q : List α) {i : Nat} (h : i < q.length) : q.getD i z ∈ q := by rw [getD_get z q h]; exact List.getElem_mem h
/-- only the part from a to b has been reordered -/
structure Seg (a b : Nat) (q q' : List α) : Prop where
  perm : q'.Perm q
  lo : ∀ k, k < a → q'.getD k z = q.getD k z
  hi : ∀ k, b ≤ k → q'.getD k z = q.getD k z
variable {z}
theorem Seg.len {a b : Nat} {q q' : List α} (h : Seg z a b q q') : q'.length = q.length := h.perm.length_eq
theorem Seg.refl (a b : Nat) (q : List α) : Seg z a b q q := ⟨List.Perm.refl _, fun _ _ => rfl, fun _ _ => rfl⟩
theorem Seg.trans {a b : Nat} {q q' q'' : List α} (h : Seg z a b q q') (k : Seg z a b q' q'') : Seg z a b q q'' :=
  ⟨k.perm.trans h.perm, fun i hi => (k.lo i hi).trans (h.lo i hi), fun i hi => (k.hi i hi).trans (h.hi i hi)⟩
theorem Seg.mono {a b a' b' : Nat} {q q' : List α} (h : Seg z a b q q') (h1 : a' ≤ a) (h2 : b ≤ b') : Seg z a' b' q q' :=
  ⟨h.perm, fun i hi => h.lo i (by omega), fun i hi => h.hi i (by omega)⟩
theorem Seg.swp {a b i j : Nat} {q : List α} (h1 : a ≤ i) (h2 : i < b) (h3 : a ≤ j) (h4 : j < b) (hb : b ≤ q.length) : Seg z a b q (swp z q i j) :=
  ⟨swp_perm z q (by omega) (by omega), fun k hk => by rw [swp_at z q (by omega) (by omega), if_neg (by omega), if_neg (by omega)], fun k hk => by rw [swp_at z q (by omega) (by omega), if_neg (by omega), if_neg (by omega)]⟩
theorem getD_ext {q q' : List α} (hl : q'.length = q.length) (h : ∀ k, k < q.length → q'.getD k z = q.getD k z) : q' = q := by
  apply List.ext_getElem hl
  intro i h1 h2
  have := h i h2
  rw [getD_get z q h2, getD_get z q' h1] at this
  exact this
theorem getD_take (q : List α) (a k : Nat) (h : k < a) : (q.take a).getD k z = q.getD k z := by simp [List.getD, h]
theorem getD_drop (q : List α) (a k : Nat) : (q.drop a).getD k z = q.getD (a + k) z := by simp [List.getD, List.getElem?_drop]
theorem Seg.all {a b : Nat} {q q' : List α} (h : Seg z a b q q') (hab : a ≤ b) (hb : b ≤ q.length) {Φ : α → Prop} (H : ∀ k, a ≤ k → k < b → Φ (q.getD k z)) : ∀ k, a ≤ k → k < b → Φ (q'.getD k z) := by
  intro k h1 h2
  have hl := h.len
  have e1 : q'.take a = q.take a := getD_ext (z := z) (by simp [hl]) (fun i hi => by
    have hi' : i < a := by simp at hi; omega
    rw [getD_take _ _ _ hi', getD_take _ _ _ hi']; exact h.lo i hi')
  have e2 : q'.drop b = q.drop b := getD_ext (z := z) (by simp [hl]) (fun i hi => by
    rw [getD_drop, getD_drop]; exact h.hi _ (by omega))
  have s : ∀ l : List α, l = l.take a ++ ((l.take b).drop a ++ l.drop b) := fun l => by
    rw [← List.append_assoc]
    have : l.take a = (l.take b).take a := by rw [List.take_take]; congr 1; omega
    rw [this, List.take_append_drop, List.take_append_drop]
  have p := h.perm
  rw [s q', s q, e1, e2] at p
  have p2 := (List.perm_append_right_iff _).1 ((List.perm_append_left_iff _).1 p)
  have hm : q'.getD k z ∈ (q'.take b).drop a := by
    have e : ((q'.take b).drop a).getD (k - a) z = q'.getD k z := by
      rw [getD_drop, show a + (k - a) = k by omega, getD_take _ _ _ h2]
    rw [← e]
    apply getD_mem'
    simp [hl]; omega
  have hm2 := p2.mem_iff.1 hm
  obtain ⟨i, hi, he⟩ := List.getElem_of_mem hm2
  have : ((q.take b).drop a).getD i z = q'.getD k z := by rw [getD_get z _ hi, he]
  have hi' : i + a < b := by simp at hi; omega
  rw [← this, getD_drop, getD_take _ _ _ (by omega)]
  exact H _ (by omega) (by omega)
end
section
variable {α : Type} (z : α) (f : α → α → Int)
def SOn (q : List α) (a b : Nat) : Prop := ∀ i j, a ≤ i → i < j → j < b → f (q.getD i z) (q.getD j z) ≤ 0
variable {z f}
theorem SOn.mono {q : List α} {a b a' b' : Nat} (h : SOn z f q a b) (h1 : a ≤ a') (h2 : b' ≤ b) : SOn z f q a' b' := fun i j hi hij hj => h i j (by omega) hij (by omega)
theorem SOn.same {q q' : List α} {a b : Nat} (h : SOn z f q a b) (he : ∀ k, a ≤ k → k < b → q'.getD k z = q.getD k z) : SOn z f q' a b := fun i j hi hij hj => by
  rw [he i hi (by omega), he j (by omega) hj]; exact h i j hi hij hj
theorem SOn.one (q : List α) {a b : Nat} (h : b ≤ a + 1) : SOn z f q a b := fun i j hi hij hj => by omega
/-- one element walks down -/
def InsI (z : α) (f : α → α → Int) (q : List α) (a i j : Nat) : Prop := a ≤ j ∧ j ≤ i ∧ (∀ k m, a ≤ k → k < m → m ≤ i → k ≠ j → m ≠ j → f (q.getD k z) (q.getD m z) ≤ 0) ∧ (∀ m, j < m → m ≤ i → f (q.getD j z) (q.getD m z) ≤ 0)
theorem InsI.start {q : List α} {a i : Nat} (h : SOn z f q a i) (hi : a ≤ i) : InsI z f q a i i :=
  ⟨hi, Nat.le_refl _, fun k m h1 h2 h3 h4 h5 => h k m h1 h2 (by omega), fun m h1 h2 => by omega⟩
theorem InsI.step {q : List α} {a i j : Nat} (h : InsI z f q a i j) (hj : a < j) (hi : i < q.length) (hlt : f (q.getD j z) (q.getD (j - 1) z) < 0) : InsI z f (swp z q j (j - 1)) a i (j - 1) := by
  obtain ⟨h1, h2, h3, h4⟩ := h
  have s := fun k => swp_at z q (i := j) (j := j - 1) (by omega) (by omega) k
  refine ⟨by omega, by omega, fun k m k1 k2 k3 k4 k5 => ?_, fun m k1 k2 => ?_⟩
  · rw [s, s, if_neg k4, if_neg k5]
    by_cases e : k = j
    · subst e
      rw [if_pos rfl, if_neg (by omega)]
      exact h3 (k - 1) m (by omega) (by omega) k3 (by omega) (by omega)
    · rw [if_neg e]
      by_cases e2 : m = j
      · subst e2
        rw [if_pos rfl]
        exact h3 k (m - 1) k1 (by omega) (by omega) e (by omega)
      · rw [if_neg e2]; exact h3 k m k1 k2 k3 e e2
  · rw [s, s, if_pos rfl, if_neg (by omega)]
    by_cases e2 : m = j
    · rw [if_pos e2]; omega
    · rw [if_neg e2]; exact h4 m (by omega) k2
theorem InsI.done0 {q : List α} {a i : Nat} (h : InsI z f q a i a) : SOn z f q a (i + 1) := by
  obtain ⟨h1, h2, h3, h4⟩ := h
  intro k m k1 k2 k3
  by_cases e : k = a
  · subst e; exact h4 m k2 (by omega)
  · exact h3 k m k1 k2 (by omega) e (by omega)
theorem InsI.done {q : List α} {a i j : Nat} (hf : PreC f) (h : InsI z f q a i j) (hj : a < j) (hge : ¬ f (q.getD j z) (q.getD (j - 1) z) < 0) : SOn z f q a (i + 1) := by
  obtain ⟨h1, h2, h3, h4⟩ := h
  have hle : f (q.getD (j - 1) z) (q.getD j z) ≤ 0 := by have := hf.anti (q.getD j z) (q.getD (j - 1) z); omega
  intro k m k1 k2 k3
  by_cases e : k = j
  · subst e; exact h4 m k2 (by omega)
  · by_cases e2 : m = j
    · subst e2
      by_cases e3 : k = m - 1
      · rw [e3]; exact hle
      · exact hf.trans _ _ _ (h3 k (m - 1) k1 (by omega) (by omega) e (by omega)) hle
    · exact h3 k m k1 k2 (by omega) e e2
/-- an element has walked up from a to k -/
def BubU (z : α) (q0 q : List α) (a k : Nat) : Prop := ∀ j, q.getD j z = if a ≤ j ∧ j < k then q0.getD (j + 1) z else if j = k then q0.getD a z else q0.getD j z
theorem BubU.start (q0 : List α) (a : Nat) : BubU z q0 q0 a a := fun j => by
  rw [if_neg (by omega)]; split
  · rename_i h; rw [h]
  · rfl
theorem BubU.step {q0 q : List α} {a k : Nat} (h : BubU z q0 q a k) (hk : a ≤ k) (hl : k + 1 < q.length) : BubU z q0 (swp z q k (k + 1)) a (k + 1) := fun j => by
  rw [swp_at z q (by omega) (by omega)]
  by_cases e1 : j = k + 1
  · subst e1; rw [if_pos rfl, if_neg (by omega), if_pos rfl, h k, if_neg (by omega), if_pos rfl]
  · rw [if_neg e1]
    by_cases e2 : j = k
    · subst e2; rw [if_pos rfl, if_pos (by omega), h (j + 1), if_neg (by omega), if_neg (by omega)]
    · rw [if_neg e2, h j]
      by_cases e3 : a ≤ j ∧ j < k
      · rw [if_pos e3, if_pos (by omega)]
      · rw [if_neg e3, if_neg e2, if_neg (by omega), if_neg e1]
theorem BubU.sorted {q0 q : List α} {a b i : Nat} (hf : PreC f) (h : BubU z q0 q a (i - 1)) (hs : SOn z f q0 (a + 1) b) (h1 : a + 1 ≤ i) (h2 : i ≤ b)
    (hlo : i = a + 1 ∨ f (q0.getD (i - 1) z) (q0.getD a z) < 0) (hhi : i = b ∨ ¬ f (q0.getD i z) (q0.getD a z) < 0) : SOn z f q a b := by
  have lo : ∀ k, a + 1 ≤ k → k < i → f (q0.getD k z) (q0.getD a z) ≤ 0 := fun k k1 k2 => by
    rcases hlo with e | e
    · omega
    · by_cases e2 : k = i - 1
      · rw [e2]; omega
      · exact hf.trans _ _ _ (hs k (i - 1) k1 (by omega) (by omega)) (by omega)
  have hi : ∀ k, i ≤ k → k < b → f (q0.getD a z) (q0.getD k z) ≤ 0 := fun k k1 k2 => by
    rcases hhi with e | e
    · omega
    · have e3 : f (q0.getD a z) (q0.getD i z) ≤ 0 := by have := hf.anti (q0.getD i z) (q0.getD a z); omega
      by_cases e2 : k = i
      · rw [e2]; exact e3
      · exact hf.trans _ _ _ e3 (hs i k (by omega) (by omega) (by omega))
  intro k m k1 k2 k3
  rw [h k, h m]
  by_cases c1 : a ≤ k ∧ k < i - 1
  · rw [if_pos c1]
    by_cases c2 : a ≤ m ∧ m < i - 1
    · rw [if_pos c2]; exact hs _ _ (by omega) (by omega) (by omega)
    · rw [if_neg c2]
      by_cases c3 : m = i - 1
      · rw [if_pos c3]; exact lo _ (by omega) (by omega)
      · rw [if_neg c3]
        exact hs _ _ (by omega) (by omega) (by omega)
  · rw [if_neg c1, if_neg (show ¬ (a ≤ m ∧ m < i - 1) by omega)]
    by_cases c3 : k = i - 1
    · rw [if_pos c3, if_neg (by omega)]; exact hi _ (by omega) (by omega)
    · rw [if_neg c3, if_neg (by omega)]; exact hs _ _ (by omega) (by omega) (by omega)
/-- an element has walked down from m to k -/
def BubD (z : α) (q0 q : List α) (m k : Nat) : Prop := ∀ j, q.getD j z = if k < j ∧ j ≤ m then q0.getD (j - 1) z else if j = k then q0.getD m z else q0.getD j z
theorem BubD.start (q0 : List α) (m : Nat) : BubD z q0 q0 m m := fun j => by
  rw [if_neg (by omega)]; split
  · rename_i h; rw [h]
  · rfl
theorem BubD.step {q0 q : List α} {m k : Nat} (h : BubD z q0 q m k) (hk : k ≤ m) (h0 : 0 < k) (hl : m < q.length) : BubD z q0 (swp z q k (k - 1)) m (k - 1) := fun j => by
  rw [swp_at z q (by omega) (by omega)]
  by_cases e1 : j = k - 1
  · subst e1; rw [if_pos rfl, if_neg (by omega), if_pos rfl, h k, if_neg (by omega), if_pos rfl]
  · rw [if_neg e1]
    by_cases e2 : j = k
    · subst e2; rw [if_pos rfl, if_pos (by omega), h (j - 1), if_neg (by omega), if_neg (by omega)]
    · rw [if_neg e2, h j]
      by_cases e3 : k < j ∧ j ≤ m
      · rw [if_pos e3, if_pos (by omega)]
      · rw [if_neg e3, if_neg e2, if_neg (by omega), if_neg e1]
theorem BubD.sorted {q0 q : List α} {a m i : Nat} (hf : PreC f) (h : BubD z q0 q m i) (hs : SOn z f q0 a m) (h1 : a ≤ i) (h2 : i ≤ m)
    (hlo : i = a ∨ ¬ f (q0.getD m z) (q0.getD (i - 1) z) < 0) (hhi : i = m ∨ f (q0.getD m z) (q0.getD i z) < 0) : SOn z f q a (m + 1) := by
  have lo : ∀ k, a ≤ k → k < i → f (q0.getD k z) (q0.getD m z) ≤ 0 := fun k k1 k2 => by
    rcases hlo with e | e
    · omega
    · have e3 : f (q0.getD (i - 1) z) (q0.getD m z) ≤ 0 := by have := hf.anti (q0.getD m z) (q0.getD (i - 1) z); omega
      by_cases e2 : k = i - 1
      · rw [e2]; exact e3
      · exact hf.trans _ _ _ (hs k (i - 1) k1 (by omega) (by omega)) e3
  have hi : ∀ k, i ≤ k → k < m → f (q0.getD m z) (q0.getD k z) ≤ 0 := fun k k1 k2 => by
    rcases hhi with e | e
    · omega
    · by_cases e2 : k = i
      · rw [e2]; omega
      · exact hf.trans _ _ _ (by omega) (hs i k (by omega) (by omega) (by omega))
  intro k j k1 k2 k3
  rw [h k, h j]
  by_cases c1 : i < k ∧ k ≤ m
  · rw [if_pos c1, if_pos (by omega)]; exact hs _ _ (by omega) (by omega) (by omega)
  · rw [if_neg c1]
    by_cases c2 : i < j ∧ j ≤ m
    · rw [if_pos c2]
      by_cases c3 : k = i
      · rw [if_pos c3]; exact hi _ (by omega) (by omega)
      · rw [if_neg c3]
        exact hs _ _ (by omega) (by omega) (by omega)
    · rw [if_neg c2]
      rw [if_neg (show ¬ k = i by omega)]
      by_cases c3 : j = i
      · rw [if_pos c3]; exact lo _ (by omega) (by omega)
      · rw [if_neg c3]; exact hs _ _ (by omega) (by omega) (by omega)
/-- two ranges have been exchanged, i elements of each so far -/
def SwR (z : α) (q0 q : List α) (a b i : Nat) : Prop := ∀ k, q.getD k z = if a ≤ k ∧ k < a + i then q0.getD (k - a + b) z else if b ≤ k ∧ k < b + i then q0.getD (k - b + a) z else q0.getD k z
theorem SwR.start (q0 : List α) (a b : Nat) : SwR z q0 q0 a b 0 := fun k => by rw [if_neg (by omega), if_neg (by omega)]
theorem SwR.step {q0 q : List α} {a b i n : Nat} (h : SwR z q0 q a b i) (hi : i < n) (hab : a + n ≤ b) (hl : b + n ≤ q.length) : SwR z q0 (swp z q (a + i) (b + i)) a b (i + 1) := fun k => by
  rw [swp_at z q (by omega) (by omega)]
  by_cases e1 : k = b + i
  · subst e1
    rw [if_pos rfl, if_neg (by omega), if_pos (by omega), h (a + i), if_neg (by omega), if_neg (by omega)]
    congr 1; omega
  · rw [if_neg e1]
    by_cases e2 : k = a + i
    · subst e2
      rw [if_pos rfl, if_pos (by omega), h (b + i), if_neg (by omega), if_neg (by omega)]
      congr 1; omega
    · rw [if_neg e2, h k]
      by_cases e3 : a ≤ k ∧ k < a + i
      · rw [if_pos e3, if_pos (by omega)]
      · rw [if_neg e3, if_neg (show ¬ (a ≤ k ∧ k < a + (i + 1)) by omega)]
        by_cases e4 : b ≤ k ∧ k < b + i
        · rw [if_pos e4, if_pos (by omega)]
        · rw [if_neg e4, if_neg (by omega)]
/-- the list with the parts from s to m and from m to e exchanged -/
def rotf (z : α) (q : List α) (s m e k : Nat) : α := if k < s then q.getD k z else if k < s + (e - m) then q.getD (k - s + m) z else if k < e then q.getD (k - (e - m)) z else q.getD k z
/-- the part that is left to be rotated: i elements below m, j elements from m on -/
def RotI (z : α) (q0 q : List α) (s m e i j : Nat) : Prop := 0 < i ∧ 0 < j ∧ s ≤ m - i ∧ i ≤ m ∧ m + j ≤ e ∧ ∀ k, rotf z q0 s m e k = rotf z q (m - i) m (m + j) k
theorem RotI.start (q0 : List α) {s m e : Nat} (h1 : s < m) (h2 : m < e) : RotI z q0 q0 s m e (m - s) (e - m) :=
  ⟨by omega, by omega, by omega, by omega, by omega, fun k => by rw [show m - (m - s) = s by omega, show m + (e - m) = e by omega]⟩
theorem RotI.left {q0 q q' : List α} {s m e i j : Nat} (h : RotI z q0 q s m e i j) (hij : j < i) (hs : SwR z q q' (m - i) m j) : RotI z q0 q' s m e (i - j) j := by
  obtain ⟨h1, h2, h3, h4, h5, h6⟩ := h
  refine ⟨by omega, h2, by omega, by omega, h5, fun k => ?_⟩
  rw [h6 k]
  unfold rotf
  by_cases c1 : k < m - i
  · rw [if_pos c1, if_pos (by omega), hs k, if_neg (by omega), if_neg (by omega)]
  · rw [if_neg c1]
    by_cases c2 : k < m - i + (m + j - m)
    · rw [if_pos c2, if_pos (by omega), hs k, if_pos (by omega)]
    · rw [if_neg c2, if_neg (show ¬ k < m - (i - j) by omega)]
      by_cases c3 : k < m + j
      · rw [if_pos c3]
        by_cases c4 : k < m - (i - j) + (m + j - m)
        · rw [if_pos c4, hs, if_neg (by omega), if_pos (by omega)]
          congr 1; omega
        · rw [if_neg c4, if_pos c3, hs, if_neg (by omega), if_neg (by omega)]
      · rw [if_neg c3, if_neg (by omega), if_neg (by omega), hs, if_neg (by omega), if_neg (by omega)]
theorem RotI.right {q0 q q' : List α} {s m e i j : Nat} (h : RotI z q0 q s m e i j) (hij : i < j) (hs : SwR z q q' (m - i) (m + j - i) i) : RotI z q0 q' s m e i (j - i) := by
  obtain ⟨h1, h2, h3, h4, h5, h6⟩ := h
  refine ⟨by omega, by omega, by omega, by omega, by omega, fun k => ?_⟩
  rw [h6 k]
  unfold rotf
  by_cases c1 : k < m - i
  · rw [if_pos c1, if_pos c1, hs k, if_neg (by omega), if_neg (by omega)]
  · rw [if_neg c1, if_neg c1]
    by_cases c2 : k < m - i + (m + j - m)
    · rw [if_pos c2]
      by_cases c3 : k < m - i + (m + (j - i) - m)
      · rw [if_pos c3, hs, if_neg (by omega), if_neg (by omega)]
      · rw [if_neg c3, if_pos (by omega), hs, if_pos (by omega)]
        congr 1; omega
    · rw [if_neg c2, if_neg (show ¬ k < m - i + (m + (j - i) - m) by omega), if_neg (show ¬ k < m + (j - i) by omega)]
      by_cases c4 : k < m + j
      · rw [if_pos c4, hs, if_neg (by omega), if_pos (by omega)]
        congr 1; omega
      · rw [if_neg c4, hs, if_neg (by omega), if_neg (by omega)]
theorem RotI.done {q0 q q' : List α} {s m e i : Nat} (h : RotI z q0 q s m e i i) (hs : SwR z q q' (m - i) m i) : ∀ k, q'.getD k z = rotf z q0 s m e k := by
  obtain ⟨h1, h2, h3, h4, h5, h6⟩ := h
  intro k
  rw [h6 k, hs k]
  unfold rotf
  by_cases c1 : k < m - i
  · rw [if_pos c1, if_neg (by omega), if_neg (by omega)]
  · rw [if_neg c1]
    by_cases c2 : k < m - i + (m + i - m)
    · rw [if_pos c2, if_pos (by omega)]
    · rw [if_neg c2, if_neg (by omega)]
      by_cases c3 : k < m + i
      · rw [if_pos c3, if_pos (by omega)]
        congr 1; omega
      · rw [if_neg c3, if_neg (by omega)]
/-- the split of a merge -/
structure Spl (z : α) (f : α → α → Int) (q1 : List α) (a s mid e b : Nat) : Prop where
  s1 : SOn z f q1 a s
  s2 : SOn z f q1 s mid
  s3 : SOn z f q1 mid e
  s4 : SOn z f q1 e b
  cross : ∀ i j, a ≤ i → i < mid → mid ≤ j → j < b → f (q1.getD i z) (q1.getD j z) ≤ 0
theorem split {q q1 : List α} {a m b mid s s0 r0 e : Nat} (hf : PreC f) (h1 : SOn z f q a m) (h2 : SOn z f q m b) (ham : a < m) (hmb : m < b) (hmid : mid = (a + b) / 2)
    (hs0 : s0 = if mid < m then mid + m - b else a) (hr0 : r0 = if mid < m then mid else m) (hs : s0 ≤ s) (hr : s ≤ r0) (he : e = mid + m - s)
    (hlo : s = s0 ∨ ¬ f (q.getD (mid + m - 1 - (s - 1)) z) (q.getD (s - 1) z) < 0) (hhi : s = r0 ∨ f (q.getD (mid + m - 1 - s) z) (q.getD s z) < 0)
    (hq : ∀ k, q1.getD k z = rotf z q s m e k) : Spl z f q1 a s mid e b ∧ a ≤ s ∧ s ≤ mid ∧ mid ≤ e ∧ e ≤ b ∧ s ≤ m ∧ m ≤ e := by
  have ha : a ≤ s := by rw [hs0] at hs; split at hs <;> omega
  have hsm : s ≤ mid ∧ s ≤ m := by rw [hr0] at hr; split at hr <;> omega
  have heb : e ≤ b := by rw [hs0] at hs; split at hs <;> omega
  have lo : ∀ i j, a ≤ i → i < s → e ≤ j → j < b → f (q.getD i z) (q.getD j z) ≤ 0 := fun i j k1 k2 k3 k4 => by
    rcases hlo with h | h
    · exfalso; rw [hs0] at h; split at h <;> omega
    · have e1 : mid + m - 1 - (s - 1) = e := by omega
      rw [e1] at h
      have e2 : f (q.getD (s - 1) z) (q.getD e z) ≤ 0 := by have := hf.anti (q.getD e z) (q.getD (s - 1) z); omega
      have e3 : f (q.getD i z) (q.getD (s - 1) z) ≤ 0 := by
        by_cases c : i = s - 1
        · rw [c, hf.refl]; exact Int.le_refl _
        · exact h1 _ _ k1 (by omega) (by omega)
      have e4 : f (q.getD e z) (q.getD j z) ≤ 0 := by
        by_cases c : e = j
        · rw [c, hf.refl]; exact Int.le_refl _
        · exact h2 _ _ (by omega) (by omega) k4
      exact hf.trans _ _ _ e3 (hf.trans _ _ _ e2 e4)
  have hi : ∀ i j, m ≤ i → i < e → s ≤ j → j < m → f (q.getD i z) (q.getD j z) ≤ 0 := fun i j k1 k2 k3 k4 => by
    rcases hhi with h | h
    · exfalso; rw [hr0] at h; split at h <;> omega
    · have e1 : mid + m - 1 - s = e - 1 := by omega
      rw [e1] at h
      have e3 : f (q.getD i z) (q.getD (e - 1) z) ≤ 0 := by
        by_cases c : i = e - 1
        · rw [c, hf.refl]; exact Int.le_refl _
        · exact h2 _ _ k1 (by omega) (by omega)
      have e4 : f (q.getD s z) (q.getD j z) ≤ 0 := by
        by_cases c : s = j
        · rw [c, hf.refl]; exact Int.le_refl _
        · exact h1 _ _ (by omega) (by omega) k4
      exact hf.trans _ _ _ e3 (hf.trans _ _ _ (by omega) e4)
  have g1 : ∀ k, k < s → q1.getD k z = q.getD k z := fun k hk => by rw [hq, rotf, if_pos hk]
  have g2 : ∀ k, s ≤ k → k < mid → q1.getD k z = q.getD (k - s + m) z := fun k hk hk2 => by rw [hq, rotf, if_neg (by omega), if_pos (by omega)]
  have g3 : ∀ k, mid ≤ k → k < e → q1.getD k z = q.getD (k - (e - m)) z := fun k hk hk2 => by rw [hq, rotf, if_neg (by omega), if_neg (by omega), if_pos (by omega)]
  have g4 : ∀ k, e ≤ k → q1.getD k z = q.getD k z := fun k hk => by rw [hq, rotf, if_neg (by omega), if_neg (by omega), if_neg (by omega)]
  refine ⟨⟨fun i j k1 k2 k3 => ?_, fun i j k1 k2 k3 => ?_, fun i j k1 k2 k3 => ?_, fun i j k1 k2 k3 => ?_, fun i j k1 k2 k3 k4 => ?_⟩, ha, hsm.1, by omega, heb, hsm.2, by omega⟩
  · rw [g1 _ (by omega), g1 _ (by omega)]; exact h1 _ _ k1 k2 (by omega)
  · rw [g2 _ k1 (by omega), g2 _ (by omega) k3]; exact h2 _ _ (by omega) (by omega) (by omega)
  · rw [g3 _ k1 (by omega), g3 _ (by omega) k3]; exact h1 _ _ (by omega) (by omega) (by omega)
  · rw [g4 _ k1, g4 _ (by omega)]; exact h2 _ _ (by omega) k2 k3
  · by_cases c1 : i < s
    · rw [g1 _ c1]
      by_cases c2 : j < e
      · rw [g3 _ k3 c2]; exact h1 _ _ k1 (by omega) (by omega)
      · rw [g4 _ (by omega)]; exact lo _ _ k1 c1 (by omega) k4
    · rw [g2 _ (by omega) k2]
      by_cases c2 : j < e
      · rw [g3 _ k3 c2]; exact hi _ _ (by omega) (by omega) (by omega) (by omega)
      · rw [g4 _ (by omega)]; exact h2 _ _ (by omega) (by omega) k4
theorem Spl.join {q1 q2 q3 : List α} {a s mid e b : Nat} (h : Spl z f q1 a s mid e b) (hab : a ≤ mid) (hmb : mid ≤ b) (hb : b ≤ q1.length) (g2 : Seg z a mid q1 q2) (o2 : SOn z f q2 a mid) (g3 : Seg z mid b q2 q3) (o3 : SOn z f q3 mid b) : SOn z f q3 a b := by
  have hl2 := g2.len
  have cr : ∀ i, a ≤ i → i < mid → ∀ j, mid ≤ j → j < b → f (q2.getD i z) (q3.getD j z) ≤ 0 := by
    intro i i1 i2
    refine g3.all hmb (by omega) (Φ := fun x => f (q2.getD i z) x ≤ 0) (fun k k1 k2 => ?_)
    rw [g2.hi k k1]
    exact g2.all hab (by omega) (Φ := fun y => f y (q1.getD k z) ≤ 0) (fun k' k1' k2' => h.cross _ _ k1' k2' k1 k2) i i1 i2
  intro i j k1 k2 k3
  by_cases c1 : j < mid
  · rw [g3.lo _ (by omega), g3.lo _ c1]; exact o2 _ _ k1 k2 c1
  · by_cases c2 : i < mid
    · rw [g3.lo _ c2]; exact cr i k1 c2 j (by omega) k3
    · exact o3 _ _ (by omega) k2 k3
end
end Go.Proofs.Ytpahjnfolbnloaa
