/- Plain lists: swapping, sorting parts, merging by rotation. No program in sight. -/
import Derived.Test.YtpahjnfolbnloaaRow
import Derived.Test.YtpahjnfolbnloaaRegC
set_option linter.unusedVariables false
namespace Go.Proofs.Ytpahjnfolbnloaa
section
variable {α : Type} (z : α)
def swp (q : List α) (i j : Nat) : List α := (q.set i (q.getD j z)).set j (q.getD i z)
theorem swp_len (q : List α) (i j : Nat) : (swp z q i j).length = q.length := by simp [swp]
theorem getD_set (q : List α) (i k : Nat) (x : α) (hi : i < q.length) : (q.set i x).getD k z = if k = i then x else q.getD k z := by
  simp only [List.getD, List.getElem?_set]
  by_cases h : i = k
  · subst h; simp [hi]
  · rw [if_neg h, if_neg (Ne.symm h)]
theorem swp_at (q : List α) {i j : Nat} (hi : i < q.length) (hj : j < q.length) (k : Nat) : (swp z q i j).getD k z = if k = j then q.getD i z else if k = i then q.getD j z else q.getD k z := by
  unfold swp
  rw [getD_set z _ _ _ _ (by simpa using hj), getD_set z _ _ _ _ hi]
theorem getD_get (q : List α) {i : Nat} (h : i < q.length) : q.getD i z = q[i] := by simp [List.getD, List.getElem?_eq_getElem h]
theorem swp_perm (q : List α) {i j : Nat} (hi : i < q.length) (hj : j < q.length) : (swp z q i j).Perm q := by
  unfold swp
  rw [getD_get z q hi, getD_get z q hj]
  exact List.set_set_perm hi hj
theorem getD_mem' (q : List α) {i : Nat} (h : i < q.length) : q.getD i z ∈ q := by rw [getD_get z q h]; exact List.getElem_mem h
/-- only the part from a to b has been reordered -/
structure Seg (a b : Nat) (q q' : List α) : Prop where
  perm : q'.Perm q
  lo : ∀ k, k < a → q'.getD k z = q.getD k z
  hi : ∀ k, b ≤ k → q'.getD k z = q.getD k z
variable {z}
theorem Seg.len {a b : Nat} {q q' : List α} (h : Seg z a b q q') : q'.length = q.length := h.perm.length_eq
theorem Seg.refl (a b : Nat) (q : List α) : Seg z a b q q := ⟨List.Perm.refl _, fun _ _ => rfl, fun _ _ => rfl⟩
theorem Seg.trans {a b : Nat} {q q' q'' : List α} (h : Seg z a b q q') (k : Seg z a b q' q'') : Seg z a b q q'' :=
  ⟨k.perm.trans h.perm, fun i hi => (k.lo i hi).trans (h.lo i hi), fun i hi => (k.hi i hi).trans (h.hi i hi)⟩
theorem Seg.mono {a b a' b' : Nat} {q q' : List α} (h : Seg z a b q q') (h1 : a' ≤ a) (h2 : b ≤ b') : Seg z a' b' q q' :=
  ⟨h.perm, fun i hi => h.lo i (by omega), fun i hi => h.hi i (by omega)⟩
theorem Seg.swp {a b i j : Nat} {q : List α} (h1 : a ≤ i) (h2 : i < b) (h3 : a ≤ j) (h4 : j < b) (hb : b ≤ q.length) : Seg z a b q (swp z q i j) :=
  ⟨swp_perm z q (by omega) (by omega), fun k hk => by rw [swp_at z q (by omega) (by omega), if_neg (by omega), if_neg (by omega)], fun k hk => by rw [swp_at z q (by omega) (by omega), if_neg (by omega), if_neg (by omega)]⟩
theorem getD_ext {q q' : List α} (hl : q'.length = q.length) (h : ∀ k, k < q.length → q'.getD k z = q.getD k z) : q' = q := by
  apply List.ext_getElem hl
  intro i h1 h2
  have := h i h2
  rw [getD_get z q h2, getD_get z q' h1] at this
  exact this
theorem getD_take (q : List α) (a k : Nat) (h : k < a) : (q.take a).getD k z = q.getD k z := by simp [List.getD, h]
theorem getD_drop (q : List α) (a k : Nat) : (q.drop a).getD k z = q.getD (a + k) z := by simp [List.getD, List.getElem?_drop]
theorem Seg.all {a b : Nat} {q q' : List α} (h : Seg z a b q q') (hab : a ≤ b) (hb : b ≤ q.length) {Φ : α → Prop} (H : ∀ k, a ≤ k → k < b → Φ (q.getD k z)) : ∀ k, a ≤ k → k < b → Φ (q'.getD k z) := by
  intro k h1 h2
  have hl := h.len
  have e1 : q'.take a = q.take a := getD_ext (z := z) (by simp [hl]) (fun i hi => by
    have hi' : i < a := by simp at hi; omega
    rw [getD_take _ _ _ hi', getD_take _ _ _ hi']; exact h.lo i hi')
  have e2 : q'.drop b = q.drop b := getD_ext (z := z) (by simp [hl]) (fun i hi => by
    rw [getD_drop, getD_drop]; exact h.hi _ (by omega))
  have s : ∀ l : List α, l = l.take a ++ ((l.take b).drop a ++ l.drop b) := fun l => by
    rw [← List.append_assoc]
    have : l.take a = (l.take b).take a := by rw [List.take_take]; congr 1; omega
    rw [this, List.take_append_drop, List.take_append_drop]
  have p := h.perm
  rw [s q', s q, e1, e2] at p
  have p2 := (List.perm_append_right_iff _).1 ((List.perm_append_left_iff _).1 p)
  have hm : q'.getD k z ∈ (q'.take b).drop a := by
    have e : ((q'.take b).drop a).getD (k - a) z = q'.getD k z := by
      rw [getD_drop, show a + (k - a) = k by omega, getD_take _ _ _ h2]
    rw [← e]
    apply getD_mem'
    simp [hl]; omega
  have hm2 := p2.mem_iff.1 hm
  obtain ⟨i, hi, he⟩ := List.getElem_of_mem hm2
  have : ((q.take b).drop a).getD i z = q'.getD k z := by rw [getD_get z _ hi, he]
  have hi' : i + a < b := by simp at hi; omega
  rw [← this, getD_drop, getD_take _ _ _ (by omega)]
  exact H _ (by omega) (by omega)
end
section
variable {α : Type} (z : α) (f : α → α → Int)
def SOn (q : List α) (a b : Nat) : Prop := ∀ i j, a ≤ i → i < j → j < b → f (q.getD i z) (q.getD j z) ≤ 0
variable {z f}
theorem SOn.mono {q : List α} {a b a' b' : Nat} (h : SOn z f q a b) (h1 : a ≤ a') (h2 : b' ≤ b) : SOn z f q a' b' := fun i j hi hij hj => h i j (by omega) hij (by omega)
theorem SOn.same {q q' : List α} {a b : Nat} (h : SOn z f q a b) (he : ∀ k, a ≤ k → k < b → q'.getD k z = q.getD k z) : SOn z f q' a b := fun i j hi hij hj => by
  rw [he i hi (by omega), he j (by omega) hj]; exact h i j hi hij hj
theorem SOn.one (q : List α) {a b : Nat} (h : b ≤ a + 1) : SOn z f q a b := fun i j hi hij hj => by omega
/-- one element walks down -/
def InsI (z : α) (f : α → α → Int) (q : List α) (a i j : Nat) : Prop := a ≤ j ∧ j ≤ i ∧ (∀ k m, a ≤ k → k < m → m ≤ i → k ≠ j → m ≠ j → f (q.getD k z) (q.getD m z) ≤ 0) ∧ (∀ m, j < m → m ≤ i → f (q.getD j z) (q.getD m z) ≤ 0)
theorem InsI.start {q : List α} {a i : Nat} (h : SOn z f q a i) (hi : a ≤ i) : InsI z f q a i i :=
  ⟨hi, Nat.le_refl _, fun k m h1 h2 h3 h4 h5 => h k m h1 h2 (by omega), fun m h1 h2 => by omega⟩
theorem InsI.step {q : List α} {a i j : Nat} (h : InsI z f q a i j) (hj : a < j) (hi : i < q.length) (hlt : f (q.getD j z) (q.getD (j - 1) z) < 0) : InsI z f (swp z q j (j - 1)) a i (j - 1) := by
  obtain ⟨h1, h2, h3, h4⟩ := h
  have s := fun k => swp_at z q (i := j) (j := j - 1) (by omega) (by omega) k
  refine ⟨by omega, by omega, fun k m k1 k2 k3 k4 k5 => ?_, fun m k1 k2 => ?_⟩
  · rw [s, s, if_neg k4, if_neg k5]
    by_cases e : k = j
    · subst e
      rw [if_pos rfl, if_neg (by omega)]
      exact h3 (k - 1) m (by omega) (by omega) k3 (by omega) (by omega)
    · rw [if_neg e]
      by_cases e2 : m = j
      · subst e2
        rw [if_pos rfl]
        exact h3 k (m - 1) k1 (by omega) (by omega) e (by omega)
      · rw [if_neg e2]; exact h3 k m k1 k2 k3 e e2
  · rw [s, s, if_pos rfl, if_neg (by omega)]
    by_cases e2 : m = j
    · rw [if_pos e2]; omega
    · rw [if_neg e2]; exact h4 m (by omega) k2
theorem InsI.done0 {q : List α} {a i : Nat} (h : InsI z f q a i a) : SOn z f q a (i + 1) := by
  obtain ⟨h1, h2, h3, h4⟩ := h
  intro k m k1 k2 k3
  by_cases e : k = a
  · subst e; exact h4 m k2 (by omega)
  · exact h3 k m k1 k2 (by omega) e (by omega)
theorem InsI.done {q : List α} {a i j : Nat} (hf : PreC f) (h : InsI z f q a i j) (hj : a < j) (hge : ¬ f (q.getD j z) (q.getD (j - 1) z) < 0) : SOn z f q a (i + 1) := by
  obtain ⟨h1, h2, h3, h4⟩ := h
  have hle : f (q.getD (j - 1) z) (q.getD j z) ≤ 0 := by have := hf.anti (q.getD j z) (q.getD (j - 1) z); omega
  intro k m k1 k2 k3
  by_cases e : k = j
  · subst e; exact h4 m k2 (by omega)
  · by_cases e2 : m = j
    · subst e2
      by_cases e3 : k = m - 1
      · rw [e3]; exact hle
      · exact hf.trans _ _ _ (h3 k (m - 1) k1 (by omega) (by omega) e (by omega)) hle
    · exact h3 k m k1 k2 (by omega) e e2
/-- an element has walked up from a to k -/
def BubU (z : α) (q0 q : List α) (a k : Nat) : Prop := ∀ j, q.getD j z = if a ≤ j ∧ j < k then q0.getD (j + 1) z else if j = k then q0.getD a z else q0.getD j z
theorem BubU.start (q0 : List α) (a : Nat) : BubU z q0 q0 a a := fun j => by
  rw [if_neg (by omega)]; split
  · rename_i h; rw [h]
  · rfl
theorem BubU.step {q0 q : List α} {a k : Nat} (h : BubU z q0 q a k) (hk : a ≤ k) (hl : k + 1 < q.length) : BubU z q0 (swp z q k (k + 1)) a (k + 1) := fun j => by
  rw [swp_at z q (by omega) (by omega)]
  by_cases e1 : j = k + 1
  · subst e1; rw [if_pos rfl, if_neg (by omega), if_pos rfl, h k, if_neg (by omega), if_pos rfl]
  · rw [if_neg e1]
    by_cases e2 : j = k
    · subst e2; rw [if_pos rfl, if_pos (by omega), h (j + 1), if_neg (by omega), if_neg (by omega)]
    · rw [if_neg e2, h j]
      by_cases e3 : a ≤ j ∧ j < k
      · rw [if_pos e3, if_pos (by omega)]
      · rw [if_neg e3, if_neg e2, if_neg (by omega), if_neg e1]
theorem BubU.sorted {q0 q : List α} {a b i : Nat} (hf : PreC f) (h : BubU z q0 q a (i - 1)) (hs : SOn z f q0 (a + 1) b) (h1 : a + 1 ≤ i) (h2 : i ≤ b)
    (hlo : i = a + 1 ∨ f (q0.getD (i - 1) z) (q0.getD a z) < 0) (hhi : i = b ∨ ¬ f (q0.getD i z) (q0.getD a z) < 0) : SOn z f q a b := by
  have lo : ∀ k, a + 1 ≤ k → k < i → f (q0.getD k z) (q0.getD a z) ≤ 0 := fun k k1 k2 => by
    rcases hlo with e | e
    · omega
    · by_cases e2 : k = i - 1
      · rw [e2]; omega
      · exact hf.trans _ _ _ (hs k (i - 1) k1 (by omega) (by omega)) (by omega)
  have hi : ∀ k, i ≤ k → k < b → f (q0.getD a z) (q0.getD k z) ≤ 0 := fun k k1 k2 => by
    rcases hhi with e | e
    · omega
    · have e3 : f (q0.getD a z) (q0.getD i z) ≤ 0 := by have := hf.anti (q0.getD i z) (q0.getD a z); omega
      by_cases e2 : k = i
      · rw [e2]; exact e3
      · exact hf.trans _ _ _ e3 (hs i k (by omega) (by omega) (by omega))
  intro k m k1 k2 k3
  rw [h k, h m]
  by_cases c1 : a ≤ k ∧ k < i - 1
  · rw [if_pos c1]
    by_cases c2 : a ≤ m ∧ m < i - 1
    · rw [if_pos c2]; exact hs _ _ (by omega) (by omega) (by omega)
    · rw [if_neg c2]
      by_cases c3 : m = i - 1
      · rw [if_pos c3]; exact lo _ (by omega) (by omega)
      · rw [if_neg c3]
        exact hs _ _ (by omega) (by omega) (by omega)
  · rw [if_neg c1, if_neg (show ¬ (a ≤ m ∧ m < i - 1) by omega)]
    by_cases c3 : k = i - 1
    · rw [if_pos c3, if_neg (by omega)]; exact hi _ (by omega) (by omega)
    · rw [if_neg c3, if_neg (by omega)]; exact hs _ _ (by omega) (by omega) (by omega)
/-- an element has walked down from m to k -/
def BubD (z : α) (q0 q : List α) (m k : Nat) : Prop := ∀ j, q.getD j z = if k < j ∧ j ≤ m then q0.getD (j - 1) z else if j = k then q0.getD m z else q0.getD j z
theorem BubD.start (q0 : List α) (m : Nat) : BubD z q0 q0 m m := fun j => by
  rw [if_neg (by omega)]; split
  · rename_i h; rw [h]
  · rfl
theorem BubD.step {q0 q : List α} {m k : Nat} (h : BubD z q0 q m k) (hk : k ≤ m) (h0 : 0 < k) (hl : m < q.length) : BubD z q0 (swp z q k (k - 1)) m (k - 1) := fun j => by
  rw [swp_at z q (by omega) (by omega)]
  by_cases e1 : j = k - 1
  · subst e1; rw [if_pos rfl, if_neg (by omega), if_pos rfl, h k, if_neg (by omega), if_pos rfl]
  · rw [if_neg e1]
    by_cases e2 : j = k
    · subst e2; rw [if_pos rfl, if_pos (by omega), h (j - 1), if_neg (by omega), if_neg (by omega)]
    · rw [if_neg e2, h j]
      by_cases e3 : k < j ∧ j ≤ m
      · rw [if_pos e3, if_pos (by omega)]
      · rw [if_neg e3, if_neg e2, if_neg (by omega), if_neg e1]
theorem BubD.sorted {q0 q : List α} {a m i : Nat} (hf : PreC f) (h : BubD z q0 q m i) (hs : SOn z f q0 a m) (h1 : a ≤ i) (h2 : i ≤ m)
    (hlo : i = a ∨ ¬ f (q0.getD m z) (q0.getD (i - 1) z) < 0) (hhi : i = m ∨ f (q0.getD m z) (q0.getD i z) < 0) : SOn z f q a (m + 1) := by
  have lo : ∀ k, a ≤ k → k < i → f (q0.getD k z) (q0.getD m z) ≤ 0 := fun k k1 k2 => by
    rcases hlo with e | e
    · omega
    · have e3 : f (q0.getD (i - 1) z) (q0.getD m z) ≤ 0 := by have := hf.anti (q0.getD m z) (q0.getD (i - 1) z); omega
      by_cases e2 : k = i - 1
      · rw [e2]; exact e3
      · exact hf.trans _ _ _ (hs k (i - 1) k1 (by omega) (by omega)) e3
  have hi : ∀ k, i ≤ k → k < m → f (q0.getD m z) (q0.getD k z) ≤ 0 := fun k k1 k2 => by
    rcases hhi with e | e
    · omega
    · by_cases e2 : k = i
      · rw [e2]; omega
      · exact hf.trans _ _ _ (by omega) (hs i k (by omega) (by omega) (by omega))
  intro k j k1 k2 k3
  rw [h k, h j]
  by_cases c1 : i < k ∧ k ≤ m
  · rw [if_pos c1, if_pos (by omega)]; exact hs _ _ (by omega) (by omega) (by omega)
  · rw [if_neg c1]
    by_cases c2 : i < j ∧ j ≤ m
    · rw [if_pos c2]
      by_cases c3 : k = i
      · rw [if_pos c3]; exact hi _ (by omega) (by omega)
      · rw [if_neg c3]
        exact hs _ _ (by omega) (by omega) (by omega)
    · rw [if_neg c2]
      rw [if_neg (show ¬ k = i by omega)]
      by_cases c3 : j = i
      · rw [if_pos c3]; exact lo _ (by omega) (by omega)
      · rw [if_neg c3]; exact hs _ _ (by omega) (by omega) (by omega)
/-- two ranges have been exchanged, i elements of each so far -/
def SwR (z : α) (q0 q : List α) (a b i : Nat) : Prop := ∀ k, q.getD k z = if a ≤ k ∧ k < a + i then q0.getD (k - a + b) z else if b ≤ k ∧ k < b + i then q0.getD (k - b + a) z else q0.getD k z
theorem SwR.start (q0 : List α) (a b : Nat) : SwR z q0 q0 a b 0 := fun k => by rw [if_neg (by omega), if_neg (by omega)]
theorem SwR.step {q0 q : List α} {a b i n : Nat} (h : SwR z q0 q a b i) (hi : i < n) (hab : a + n ≤ b) (hl : b + n ≤ q.length) : SwR z q0 (swp z q (a + i) (b + i)) a b (i + 1) := fun k => by
  rw [swp_at z q (by omega) (by omega)]
  by_cases e1 : k = b + i
  · subst e1
    rw [if_pos rfl, if_neg (by omega), if_pos (by omega), h (a + i), if_neg (by omega), if_neg (by omega)]
    congr 1; omega
  · rw [if_neg e1]
    by_cases e2 : k = a + i
    · subst e2
      rw [if_pos rfl, if_pos (by omega), h (b + i), if_neg (by omega), if_neg (by omega)]
      congr 1; omega
    · rw [if_neg e2, h k]
      by_cases e3 : a ≤ k ∧ k < a + i
      · rw [if_pos e3, if_pos (by omega)]
      · rw [if_neg e3, if_neg (show ¬ (a ≤ k ∧ k < a + (i + 1)) by omega)]
        by_cases e4 : b ≤ k ∧ k < b + i
        · rw [if_pos e4, if_pos (by omega)]
        · rw [if_neg e4, if_neg (by omega)]
/-- the list with the parts from s to m and from m to e exchanged -/
def rotf (z : α) (q : List α) (s m e k : Nat) : α := if k < s then q.getD k z else if k < s + (e - m) then q.getD (k - s + m) z else if k < e then q.getD (k - (e - m)) z else q.getD k z
/-- the part that is left to be rotated: i elements below m, j elements from m on -/
def RotI (z : α) (q0 q : List α) (s m e i j : Nat) : Prop := 0 < i ∧ 0 < j ∧ s ≤ m - i ∧ i ≤ m ∧ m + j ≤ e ∧ ∀ k, rotf z q0 s m e k = rotf z q (m - i) m (m + j) k
theorem RotI.start (q0 : List α) {s m e : Nat} (h1 : s < m) (h2 : m < e) : RotI z q0 q0 s m e (m - s) (e - m) :=
  ⟨by omega, by omega, by omega, by omega, by omega, fun k => by rw [show m - (m - s) = s by omega, show m + (e - m) = e by omega]⟩
theorem RotI.left {q0 q q' : List α} {s m e i j : Nat} (h : RotI z q0 q s m e i j) (hij : j < i) (hs : SwR z q q' (m - i) m j) : RotI z q0 q' s m e (i - j) j := by
  obtain ⟨h1, h2, h3, h4, h5, h6⟩ := h
  refine ⟨by omega, h2, by omega, by omega, h5, fun k => ?_⟩
  rw [h6 k]
  unfold rotf
  by_cases c1 : k < m - i
  · rw [if_pos c1, if_pos (by omega), hs k, if_neg (by omega), if_neg (by omega)]
  · rw [if_neg c1]
    by_cases c2 : k < m - i + (m + j - m)
    · rw [if_pos c2, if_pos (by omega), hs k, if_pos (by omega)]
    · rw [if_neg c2, if_neg (show ¬ k < m - (i - j) by omega)]
      by_cases c3 : k < m + j
      · rw [if_pos c3]
        by_cases c4 : k < m - (i - j) + (m + j - m)
        · rw [if_pos c4, hs, if_neg (by omega), if_pos (by omega)]
          congr 1; omega
        · rw [if_neg c4, if_pos c3, hs, if_neg (by omega), if_neg (by omega)]
      · rw [if_neg c3, if_neg (by omega), if_neg (by omega), hs, if_neg (by omega), if_neg (by omega)]
theorem RotI.right {q0 q q' : List α} {s m e i j : Nat} (h : RotI z q0 q s m e i j) (hij : i < j) (hs : SwR z q q' (m - i) (m + j - i) i) : RotI z q0 q' s m e i (j - i) := by
  obtain ⟨h1, h2, h3, h4, h5, h6⟩ := h
  refine ⟨by omega, by omega, by omega, by omega, by omega, fun k => ?_⟩
  rw [h6 k]
  unfold rotf
  by_cases c1 : k < m - i
  · rw [if_pos c1, if_pos c1, hs k, if_neg (by omega), if_neg (by omega)]
  · rw [if_neg c1, if_neg c1]
    by_cases c2 : k < m - i + (m + j - m)
    · rw [if_pos c2]
      by_cases c3 : k < m - i + (m + (j - i) - m)
      · rw [if_pos c3, hs, if_neg (by omega), if_neg (by omega)]
      · rw [if_neg c3, if_pos (by omega), hs, if_pos (by omega)]
        congr 1; omega
    · rw [if_neg c2, if_neg (show ¬ k < m - i + (m + (j - i) - m) by omega), if_neg (show ¬ k < m + (j - i) by omega)]
      by_cases c4 : k < m + j
      · rw [if_pos c4, hs, if_neg (by omega), if_pos (by omega)]
        congr 1; omega
      · rw [if_neg c4, hs, if_neg (by omega), if_neg (by omega)]
theorem RotI.done {q0 q q' : List α} {s m e i : Nat} (h : RotI z q0 q s m e i i) (hs : SwR z q q' (m - i) m i) : ∀ k, q'.getD k z = rotf z q0 s m e k := by
  obtain ⟨h1, h2, h3, h4, h5, h6⟩ := h
  intro k
  rw [h6 k, hs k]
  unfold rotf
  by_cases c1 : k < m - i
  · rw [if_pos c1, if_neg (by omega), if_neg (by omega)]
  · rw [if_neg c1]
    by_cases c2 : k < m - i + (m + i - m)
    · rw [if_pos c2, if_pos (by omega)]
    · rw [if_neg c2, if_neg (by omega)]
      by_cases c3 : k < m + i
      · rw [if_pos c3, if_pos (by omega)]
        congr 1; omega
      · rw [if_neg c3, if_neg (by omega)]
/-- the split of a merge -/
structure Spl (z : α) (f : α → α → Int) (q1 : List α) (a s mid e b : Nat) : Prop where
  s1 : SOn z f q1 a s
  s2 : SOn z f q1 s mid
  s3 : SOn z f q1 mid e
  s4 : SOn z f q1 e b
  cross : ∀ i j, a ≤ i → i < mid → mid ≤ j → j < b → f (q1.getD i z) (q1.getD j z) ≤ 0
theorem split {q q1 : List α} {a m b mid s s0 r0 e : Nat} (hf : PreC f) (h1 : SOn z f q a m) (h2 : SOn z f q m b) (ham : a < m) (hmb : m < b) (hmid : mid = (a + b) / 2)
    (hs0 : s0 = if mid < m then mid + m - b else a) (hr0 : r0 = if mid < m then mid else m) (hs : s0 ≤ s) (hr : s ≤ r0) (he : e = mid + m - s)
    (hlo : s = s0 ∨ ¬ f (q.getD (mid + m - 1 - (s - 1)) z) (q.getD (s - 1) z) < 0) (hhi : s = r0 ∨ f (q.getD (mid + m - 1 - s) z) (q.getD s z) < 0)
    (hq : ∀ k, q1.getD k z = rotf z q s m e k) : Spl z f q1 a s mid e b ∧ a ≤ s ∧ s ≤ mid ∧ mid ≤ e ∧ e ≤ b ∧ s ≤ m ∧ m ≤ e := by
  have ha : a ≤ s := by rw [hs0] at hs; split at hs <;> omega
  have hsm : s ≤ mid ∧ s ≤ m := by rw [hr0] at hr; split at hr <;> omega
  have heb : e ≤ b := by rw [hs0] at hs; split at hs <;> omega
  have lo : ∀ i j, a ≤ i → i < s → e ≤ j → j < b → f (q.getD i z) (q.getD j z) ≤ 0 := fun i j k1 k2 k3 k4 => by
    rcases hlo with h | h
    · exfalso; rw [hs0] at h; split at h <;> omega
    · have e1 : mid + m - 1 - (s - 1) = e := by omega
      rw [e1] at h
      have e2 : f (q.getD (s - 1) z) (q.getD e z) ≤ 0 := by have := hf.anti (q.getD e z) (q.getD (s - 1) z); omega
      have e3 : f (q.getD i z) (q.getD (s - 1) z) ≤ 0 := by
        by_cases c : i = s - 1
        · rw [c, hf.refl]; exact Int.le_refl _
        · exact h1 _ _ k1 (by omega) (by omega)
      have e4 : f (q.getD e z) (q.getD j z) ≤ 0 := by
        by_cases c : e = j
        · rw [c, hf.refl]; exact Int.le_refl _
        · exact h2 _ _ (by omega) (by omega) k4
      exact hf.trans _ _ _ e3 (hf.trans _ _ _ e2 e4)
  have hi : ∀ i j, m ≤ i → i < e → s ≤ j → j < m → f (q.getD i z) (q.getD j z) ≤ 0 := fun i j k1 k2 k3 k4 => by
    rcases hhi with h | h
    · exfalso; rw [hr0] at h; split at h <;> omega
    · have e1 : mid + m - 1 - s = e - 1 := by omega
      rw [e1] at h
      have e3 : f (q.getD i z) (q.getD (e - 1) z) ≤ 0 := by
        by_cases c : i = e - 1
        · rw [c, hf.refl]; exact Int.le_refl _
        · exact h2 _ _ k1 (by omega) (by omega)
      have e4 : f (q.getD s z) (q.getD j z) ≤ 0 := by
        by_cases c : s = j
        · rw [c, hf.refl]; exact Int.le_refl _
        · exact h1 _ _ (by omega) (by omega) k4
      exact hf.trans _ _ _ e3 (hf.trans _ _ _ (by omega) e4)
  have g1 : ∀ k, k < s → q1.getD k z = q.getD k z := fun k hk => by rw [hq, rotf, if_pos hk]
  have g2 : ∀ k, s ≤ k → k < mid → q1.getD k z = q.getD (k - s + m) z := fun k hk hk2 => by rw [hq, rotf, if_neg (by omega), if_pos (by omega)]
  have g3 : ∀ k, mid ≤ k → k < e → q1.getD k z = q.getD (k - (e - m)) z := fun k hk hk2 => by rw [hq, rotf, if_neg (by omega), if_neg (by omega), if_pos (by omega)]
  have g4 : ∀ k, e ≤ k → q1.getD k z = q.getD k z := fun k hk => by rw [hq, rotf, if_neg (by omega), if_neg (by omega), if_neg (by omega)]
  refine ⟨⟨fun i j k1 k2 k3 => ?_, fun i j k1 k2 k3 => ?_, fun i j k1 k2 k3 => ?_, fun i j k1 k2 k3 => ?_, fun i j k1 k2 k3 k4 => ?_⟩, ha, hsm.1, by omega, heb, hsm.2, by omega⟩
  · rw [g1 _ (by omega), g1 _ (by omega)]; exact h1 _ _ k1 k2 (by omega)
  · rw [g2 _ k1 (by omega), g2 _ (by omega) k3]; exact h2 _ _ (by omega) (by omega) (by omega)
  · rw [g3 _ k1 (by omega), g3 _ (by omega) k3]; exact h1 _ _ (by omega) (by omega) (by omega)
  · rw [g4 _ k1, g4 _ (by omega)]; exact h2 _ _ (by omega) k2 k3
  · by_cases c1 : i < s
    · rw [g1 _ c1]
      by_cases c2 : j < e
      · rw [g3 _ k3 c2]; exact h1 _ _ k1 (by omega) (by omega)
      · rw [g4 _ (by omega)]; exact lo _ _ k1 c1 (by omega) k4
    · rw [g2 _ (by omega) k2]
      by_cases c2 : j < e
      · rw [g3 _ k3 c2]; exact hi _ _ (by omega) (by omega) (by omega) (by omega)
      · rw [g4 _ (by omega)]; exact h2 _ _ (by omega) (by omega) k4
theorem Spl.join {q1 q2 q3 : List α} {a s mid e b : Nat} (h : Spl z f q1 a s mid e b) (hab : a ≤ mid) (hmb : mid ≤ b) (hb : b ≤ q1.length) (g2 : Seg z a mid q1 q2) (o2 : SOn z f q2 a mid) (g3 : Seg z mid b q2 q3) (o3 : SOn z f q3 mid b) : SOn z f q3 a b := by
  have hl2 := g2.len
  have cr : ∀ i, a ≤ i → i < mid → ∀ j, mid ≤ j → j < b → f (q2.getD i z) (q3.getD j z) ≤ 0 := by
    intro i i1 i2
    refine g3.all hmb (by omega) (Φ := fun x => f (q2.getD i z) x ≤ 0) (fun k k1 k2 => ?_)
    rw [g2.hi k k1]
    exact g2.all hab (by omega) (Φ := fun y => f y (q1.getD k z) ≤ 0) (fun k' k1' k2' => h.cross _ _ k1' k2' k1 k2) i i1 i2
  intro i j k1 k2 k3
  by_cases c1 : j < mid
  · rw [g3.lo _ (by omega), g3.lo _ c1]; exact o2 _ _ k1 k2 c1
  · by_cases c2 : i < mid
    · rw [g3.lo _ c2]; exact cr i k1 c2 j (by omega) k3
    · exact o3 _ _ (by omega) k2 k3
end
end Go.Proofs.Ytpahjnfolbnloaa
/- The sorting functions of package slices, at rows: swapRange, rotate. -/
set_option linter.unusedVariables false
namespace Go.Proofs.Ytpahjnfolbnloaa
open Go.RowKit Pl Go.Wk
attribute [local irreducible] WC WL QX WD WDB WP
abbrev Pr := Value × List V
def z0 : Pr := (undef, [])
/-- the slice's cells, the call's own -/
def Dat (w : World) (base : Nat) (v : Value) (ps : List Pr) : Prop := w.ownsRow base 25 1 v ps.length (ps.map (·.1)) ∧ ∀ p ∈ ps, p.1.oneCell' = true
theorem Dat.ext {w w' : World} {base : Nat} {v : Value} {ps : List Pr} (h : Dat w base v ps) (hx : Ext w w') : Dat w' base v ps := ⟨own_ext h.1 hx, h.2⟩
theorem Dat.rd {w : World} {base : Nat} {A : Option Addr} {n c : Nat} {ps : List Pr} (h : Dat w base (.slice A n c) ps) (hn : ps.length = n) : Rd w 1 A n (ps.map (·.1)) := by
  have := h.1; rw [hn] at this; exact Rd.own this
theorem ps_get {ps : List Pr} {i : Nat} (h : i < ps.length) : (ps.map (·.1))[i]? = some (ps.getD i z0).1 := by simp [List.getD, List.getElem?_eq_getElem h]
theorem Dat.cell {w : World} {base : Nat} {A : Option Addr} {n c : Nat} {ps : List Pr} (h : Dat w base (.slice A n c) ps) (hn : ps.length = n) {i : Nat} (hi : i < n) : w.cell? (adr A i) = some (ps.getD i z0).1 :=
  (h.rd hn).cell (ps_get (by omega))
theorem Dat.one {w : World} {base : Nat} {v : Value} {ps : List Pr} (h : Dat w base v ps) {i : Nat} (hi : i < ps.length) : (ps.getD i z0).1.oneCell' = true := h.2 _ (getD_mem' z0 ps hi)
theorem Dat.store {w : World} {base : Nat} {A : Option Addr} {n c : Nat} {ps : List Pr} (h : Dat w base (.slice A n c) ps) (hn : ps.length = n) {i : Nat} (hi : i < n) {p : Pr} (hp : p.1.oneCell' = true) :
    w.frozen? (adr A i) = false ∧ Dat (w.setCell (adr A i) p.1) base (.slice A n c) (ps.set i p) ∧ w.grownBy (w.setCell (adr A i) p.1) (Value.slice A n c).ownBlock := by
  have h1 := h.1
  rw [hn] at h1
  obtain ⟨s1, s2, s3, s4, s5⟩ := own_store h1 (q := i) (by omega) p.1
  refine ⟨s2, ⟨?_, fun q hq => ?_⟩, s5⟩
  · rw [List.length_set, hn, List.map_set]; exact s3
  · rcases List.mem_or_eq_of_mem_set hq with h' | h'
    · exact h.2 q h'
    · rw [h']; exact hp
/-- two elements change places: what holds before, between and after the stores -/
theorem Dat.swap {w : World} {base : Nat} {A : Option Addr} {n c : Nat} {ps : List Pr} (h : Dat w base (.slice A n c) ps) (hn : ps.length = n) {i j : Nat} (hi : i < n) (hj : j < n) :
    w.frozen? (adr A i) = false ∧ Rd (w.setCell (adr A i) (ps.getD j z0).1) 1 A n ((ps.set i (ps.getD j z0)).map (·.1)) ∧ (w.setCell (adr A i) (ps.getD j z0).1).frozen? (adr A j) = false ∧
    (∃ u, (w.setCell (adr A i) (ps.getD j z0).1).cell? (adr A j) = some u) ∧ Dat ((w.setCell (adr A i) (ps.getD j z0).1).setCell (adr A j) (ps.getD i z0).1) base (.slice A n c) (swp z0 ps i j) ∧
    w.grownBy ((w.setCell (adr A i) (ps.getD j z0).1).setCell (adr A j) (ps.getD i z0).1) (Value.slice A n c).ownBlock := by
  obtain ⟨a1, a2, a3⟩ := h.store hn hi (p := ps.getD j z0) (h.one (by omega))
  have hn2 : (ps.set i (ps.getD j z0)).length = n := by simp [hn]
  obtain ⟨b1, b2, b3⟩ := a2.store hn2 hj (p := ps.getD i z0) (h.one (by omega))
  exact ⟨a1, a2.rd hn2, b1, ⟨_, a2.cell hn2 hj⟩, b2, grown_trans a3 b3⟩
theorem Seg.of_swr {a b k : Nat} {q q' : List Pr} (h : SwR z0 q q' a b k) (hp : q'.Perm q) (hab : a ≤ b) : Seg z0 a (b + k) q q' :=
  ⟨hp, fun i hi => by rw [h i, if_neg (by omega), if_neg (by omega)], fun i hi => by rw [h i, if_neg (by omega), if_neg (by omega)]⟩
set_option maxRecDepth 100000 in
theorem swapRange_any {w : World} {base : Nat} {A : Option Addr} {n c a b k : Nat} {ai bi ki : Int} {fv : Value} {ps : List Pr} (hD : Dat w base (.slice A n c) ps) (hn : ps.length = n) (hai : ai = (a : Int)) (hbi : bi = (b : Int)) (hki : ki = (k : Int)) (hab : a + k ≤ b) (hb : b + k ≤ n) (hm : n ≤ 1100000) :
    Ret Try.prog 111 [.slice A n c, .int .i64 ai, .int .i64 bi, .int .i64 ki, fv] w fun v w' => ∃ ps', Dat w' base (.slice A n c) ps' ∧ ps'.Perm ps ∧ SwR z0 ps ps' a b k ∧ w.grownBy w' (Value.slice A n c).ownBlock := by
  subst hai; subst hbi; subst hki
  refine enterR Try.func111 Try.ntmps111 rfl (by kernel_rfl) rfl ?_
  repeat first | refine ω1 ?_ | refine ω2 ?_ | refine ω3 ?_ | refine ω4 ?_ | refine ω5 ?_ | refine χ1 ?_ | refine κ1 ?_ | refine κ2 ?_ | refine χ2 ?_ | refine κ3 ?_ | refine ω6 ?_ | refine ω7 ?_ | refine ω9 ?_ | refine κ4 ?_ | refine κ7 ?_ | refine κ8 ?_ | refine χ3 ?_ | refine χ4 ?_ | refine κ5 ?_ | refine κ6 ?_ | refine χ5 ?_ | refine χ6 ?_ | refine χ7 ?_ | refine ω8 ?_
  refine wloop2 (fun (i : Nat) (q : List Pr) => [(0, .slice A n c), (1, .int .i64 (a : Int)), (2, .int .i64 (b : Int)), (3, .int .i64 (k : Int)), (10, .int .i64 ((i : Nat) : Int))])
    (fun i q w' => i ≤ k ∧ Dat w' base (.slice A n c) q ∧ q.Perm ps ∧ SwR z0 ps q a b i ∧ w.grownBy w' (Value.slice A n c).ownBlock) (fun i _ => k - i) 0 ps (by repeat' (first | exact Sub.nil | refine Sub.cons rfl ?_)) ⟨Nat.zero_le _, hD, List.Perm.refl _, SwR.start _ _ _, ext_grown (Ext.refl w) _⟩ ?_
  rintro i q w1 ⟨hik, hD1, hp1, hS, hg1⟩
  have hl1 : q.length = n := by rw [hp1.length_eq, hn]
  repeat first | refine ω1 ?_ | refine ω2 ?_ | refine ω3 ?_ | refine ω4 ?_ | refine ω5 ?_ | refine χ1 ?_ | refine κ1 ?_ | refine κ2 ?_ | refine χ2 ?_ | refine κ3 ?_ | refine ω6 ?_ | refine ω7 ?_ | refine ω9 ?_ | refine κ4 ?_ | refine κ7 ?_ | refine κ8 ?_ | refine χ3 ?_ | refine χ4 ?_ | refine κ5 ?_ | refine κ6 ?_ | refine χ5 ?_ | refine χ6 ?_ | refine χ7 ?_ | refine ω8 ?_
  refine ci (fun h => ?_) (fun h => ?_)
  · have hlt : i < k := by have := of_decide_eq_true h; omega
    repeat first | refine ω1 ?_ | refine ω2 ?_ | refine ω3 ?_ | refine ω4 ?_ | refine ω5 ?_ | refine χ1 ?_ | refine κ1 ?_ | refine κ2 ?_ | refine χ2 ?_ | refine κ3 ?_ | refine ω6 ?_ | refine ω7 ?_ | refine ω9 ?_ | refine κ4 ?_ | refine κ7 ?_ | refine κ8 ?_ | refine χ3 ?_ | refine χ4 ?_ | refine κ5 ?_ | refine κ6 ?_ | refine χ5 ?_ | refine χ6 ?_ | refine χ7 ?_ | refine ω8 ?_
    refine drC 4 [0, 1, 2, 3, 4, 5, 6, 7, 8, 9, 10, 11, 14, 15, 16, 17] [(0, 12), (0, 13), (0, 18), (0, 19), (0, 20), (2, 21), (2, 22), (2, 23)] (by kernel_rfl) ?_
    have hxd : Ext w1 w1.drew := (Ext.refl w1).drew
    have hD2 := hD1.ext hxd
    have hR := hD2.rd hl1
    have la : a + i < n := by omega
    have lb : b + i < n := by omega
    obtain ⟨s1, s2, s3, ⟨u, s4⟩, s5, s6⟩ := hD2.swap hl1 la lb
    repeat first | refine π1 ?_ | refine π2 ?_ | refine π4 ?_ | refine π5 ?_
    refine dix (b + i) hR lb ?_
    repeat first | refine δ1 ?_ | refine δ2 ?_ | refine δ4 ?_ | refine δ5 ?_ | refine δ6 ?_ | refine δ7 ?_ | refine δ9 ?_ | refine δ8 ?_ | refine χ1 ?_ | refine χ2 ?_ | refine χ3 ?_ | refine χ4 ?_ | refine χ5 ?_ | refine χ6 ?_ | refine χ7 ?_
    refine dld (hD2.cell hl1 lb) ?_
    repeat first | refine δ1 ?_ | refine δ2 ?_ | refine δ4 ?_ | refine δ5 ?_ | refine δ6 ?_ | refine δ7 ?_ | refine δ9 ?_ | refine δ8 ?_ | refine χ1 ?_ | refine χ2 ?_ | refine χ3 ?_ | refine χ4 ?_ | refine χ5 ?_ | refine χ6 ?_ | refine χ7 ?_
    refine dix (a + i) hR la ?_
    repeat first | refine δ1 ?_ | refine δ2 ?_ | refine δ4 ?_ | refine δ5 ?_ | refine δ6 ?_ | refine δ7 ?_ | refine δ9 ?_ | refine δ8 ?_ | refine χ1 ?_ | refine χ2 ?_ | refine χ3 ?_ | refine χ4 ?_ | refine χ5 ?_ | refine χ6 ?_ | refine χ7 ?_
    refine dld (hD2.cell hl1 la) ?_
    repeat first | refine δ1 ?_ | refine δ2 ?_ | refine δ4 ?_ | refine δ5 ?_ | refine δ6 ?_ | refine δ7 ?_ | refine δ9 ?_ | refine δ8 ?_ | refine χ1 ?_ | refine χ2 ?_ | refine χ3 ?_ | refine χ4 ?_ | refine χ5 ?_ | refine χ6 ?_ | refine χ7 ?_
    refine dix (a + i) hR la ?_
    repeat first | refine δ1 ?_ | refine δ2 ?_ | refine δ4 ?_ | refine δ5 ?_ | refine δ6 ?_ | refine δ7 ?_ | refine δ9 ?_ | refine δ8 ?_ | refine χ1 ?_ | refine χ2 ?_ | refine χ3 ?_ | refine χ4 ?_ | refine χ5 ?_ | refine χ6 ?_ | refine χ7 ?_
    refine dtail ?_
    refine sto (hD2.cell hl1 la) s1 ?_ (hv := hD2.one (hl1.symm ▸ lb))
    repeat first | refine ω1 ?_ | refine ω2 ?_ | refine ω3 ?_ | refine ω4 ?_ | refine ω5 ?_ | refine χ1 ?_ | refine κ1 ?_ | refine κ2 ?_ | refine χ2 ?_ | refine κ3 ?_ | refine ω6 ?_ | refine ω7 ?_ | refine ω9 ?_ | refine κ4 ?_ | refine κ7 ?_ | refine κ8 ?_ | refine χ3 ?_ | refine χ4 ?_ | refine κ5 ?_ | refine κ6 ?_ | refine χ5 ?_ | refine χ6 ?_ | refine χ7 ?_ | refine ω8 ?_
    refine dback ?_
    refine dtail ?_
    refine ix (b + i) s2 lb ?_
    repeat first | refine ω1 ?_ | refine ω2 ?_ | refine ω3 ?_ | refine ω4 ?_ | refine ω5 ?_ | refine χ1 ?_ | refine κ1 ?_ | refine κ2 ?_ | refine χ2 ?_ | refine κ3 ?_ | refine ω6 ?_ | refine ω7 ?_ | refine ω9 ?_ | refine κ4 ?_ | refine κ7 ?_ | refine κ8 ?_ | refine χ3 ?_ | refine χ4 ?_ | refine κ5 ?_ | refine κ6 ?_ | refine χ5 ?_ | refine χ6 ?_ | refine χ7 ?_ | refine ω8 ?_
    refine dback ?_
    refine dtail ?_
    refine sto s4 s3 ?_ (hv := hD2.one (hl1.symm ▸ la))
    repeat first | refine ω1 ?_ | refine ω2 ?_ | refine ω3 ?_ | refine ω4 ?_ | refine ω5 ?_ | refine χ1 ?_ | refine κ1 ?_ | refine κ2 ?_ | refine χ2 ?_ | refine κ3 ?_ | refine ω6 ?_ | refine ω7 ?_ | refine ω9 ?_ | refine κ4 ?_ | refine κ7 ?_ | refine κ8 ?_ | refine χ3 ?_ | refine χ4 ?_ | refine κ5 ?_ | refine κ6 ?_ | refine χ5 ?_ | refine χ6 ?_ | refine χ7 ?_ | refine ω8 ?_
    refine qround2 (i + 1) (swp z0 q (a + i) (b + i)) (by repeat' (first | exact Sub.nil | refine Sub.cons (by first | rfl | (refine congrArg (fun z => some (Value.int .i64 z)) ?_; omega)) ?_)) ⟨by omega, s5, (swp_perm z0 q (by omega) (by omega)).trans hp1, hS.step hlt hab (by omega), grown_trans hg1 (grown_trans (ext_grown hxd _) s6)⟩ (by omega)
  · have hik2 : i = k := by have := of_decide_eq_false h; omega
    subst hik2
    repeat first | refine ω1 ?_ | refine ω2 ?_ | refine ω3 ?_ | refine ω4 ?_ | refine ω5 ?_ | refine χ1 ?_ | refine κ1 ?_ | refine κ2 ?_ | refine χ2 ?_ | refine κ3 ?_ | refine ω6 ?_ | refine ω7 ?_ | refine ω9 ?_ | refine κ4 ?_ | refine κ7 ?_ | refine κ8 ?_ | refine χ3 ?_ | refine χ4 ?_ | refine κ5 ?_ | refine κ6 ?_ | refine χ5 ?_ | refine χ6 ?_ | refine χ7 ?_ | refine ω8 ?_
    exact finE ⟨q, hD1, hp1, hS, hg1⟩
end Go.Proofs.Ytpahjnfolbnloaa
/- The sorting functions of package slices, at rows: rotate, insertionSort. -/
set_option linter.unusedVariables false
namespace Go.Proofs.Ytpahjnfolbnloaa
open Go.RowKit Pl Go.Wk
attribute [local irreducible] WC WL QX WD WDB WP
/-- the order of the pairs -/
def fP (ds : List Bool) (p q : Pr) : Int := cmpR p.2 q.2 ds
theorem preP (ds : List Bool) : PreC (fP ds) := (cmp_R ds).pre (β := Pr) (fun p => p.2)
/-- a comparing function value, while the row of memory may change -/
def CmpF (w : World) (row : Option Nat) (fv : Value) (M : List Pr) (ds : List Bool) : Prop := ∃ fid first cap, fv = .func (.func fid) first cap ∧
  ∀ w', w.grownBy w' row → ∀ p q, p ∈ M → q ∈ M → Ret Try.prog fid (first.toList ++ [p.1, q.1] ++ cap.toList) w' fun r w'' => r = .int .i64 (fP ds p q) ∧ Ext w' w''
theorem CmpF.step {w w1 : World} {row : Option Nat} {fv : Value} {M M' : List Pr} {ds : List Bool} (h : CmpF w row fv M ds) (hg : w.grownBy w1 row) (hp : M'.Perm M) : CmpF w1 row fv M' ds := by
  obtain ⟨fid, first, cap, h1, h2⟩ := h
  exact ⟨fid, first, cap, h1, fun w' hg' p q hpM hqM => h2 w' (grown_trans hg hg') p q (hp.mem_iff.1 hpM) (hp.mem_iff.1 hqM)⟩
set_option maxRecDepth 100000 in
theorem rotate_any {w : World} {base : Nat} {A : Option Addr} {n c s m e : Nat} {si mi ei : Int} {fv : Value} {ps : List Pr} (hD : Dat w base (.slice A n c) ps) (hn : ps.length = n) (hsi : si = (s : Int)) (hmi : mi = (m : Int)) (hei : ei = (e : Int)) (hsm : s < m) (hme : m < e) (hen : e ≤ n) (hmx : n ≤ 1100000) :
    Ret Try.prog 108 [.slice A n c, .int .i64 si, .int .i64 mi, .int .i64 ei, fv] w fun v w' => ∃ ps', Dat w' base (.slice A n c) ps' ∧ ps'.Perm ps ∧ (∀ k, ps'.getD k z0 = rotf z0 ps s m e k) ∧ w.grownBy w' (Value.slice A n c).ownBlock := by
  subst hsi; subst hmi; subst hei
  refine enterR Try.func108 Try.ntmps108 rfl (by kernel_rfl) rfl ?_
  repeat first | refine ω1 ?_ | refine ω2 ?_ | refine ω3 ?_ | refine ω4 ?_ | refine ω5 ?_ | refine χ1 ?_ | refine κ1 ?_ | refine κ2 ?_ | refine χ2 ?_ | refine κ3 ?_ | refine ω6 ?_ | refine ω7 ?_ | refine ω9 ?_ | refine κ4 ?_ | refine κ7 ?_ | refine κ8 ?_ | refine χ3 ?_ | refine χ4 ?_ | refine κ5 ?_ | refine κ6 ?_ | refine χ5 ?_ | refine χ6 ?_ | refine χ7 ?_ | refine ω8 ?_
  refine wloop3 (fun (i j : Nat) (q : List Pr) => [(0, .slice A n c), (1, .int .i64 (s : Int)), (2, .int .i64 (m : Int)), (3, .int .i64 (e : Int)), (4, fv), (10, .int .i64 ((i : Nat) : Int)), (11, .int .i64 ((j : Nat) : Int))])
    (fun i j q w' => RotI z0 ps q s m e i j ∧ Dat w' base (.slice A n c) q ∧ q.Perm ps ∧ w.grownBy w' (Value.slice A n c).ownBlock) (fun i j _ => i + j) (m - s) (e - m) ps (by repeat' (first | exact Sub.nil | refine Sub.cons (by first | rfl | (refine congrArg (fun z => some (Value.int .i64 z)) ?_; omega)) ?_)) ⟨RotI.start ps hsm hme, hD, List.Perm.refl _, ext_grown (Ext.refl w) _⟩ ?_
  rintro i j q w1 ⟨hI, hD1, hp1, hg1⟩
  have hl1 : q.length = n := by rw [hp1.length_eq, hn]
  obtain ⟨h1, h2, h3, h4, h5, _⟩ := id hI
  repeat first | refine ω1 ?_ | refine ω2 ?_ | refine ω3 ?_ | refine ω4 ?_ | refine ω5 ?_ | refine χ1 ?_ | refine κ1 ?_ | refine κ2 ?_ | refine χ2 ?_ | refine κ3 ?_ | refine ω6 ?_ | refine ω7 ?_ | refine ω9 ?_ | refine κ4 ?_ | refine κ7 ?_ | refine κ8 ?_ | refine χ3 ?_ | refine χ4 ?_ | refine κ5 ?_ | refine κ6 ?_ | refine χ5 ?_ | refine χ6 ?_ | refine χ7 ?_ | refine ω8 ?_
  refine ci (fun h => ?_) (fun h => ?_)
  · have hne : i ≠ j := by have := of_bne_t h; omega
    repeat first | refine ω1 ?_ | refine ω2 ?_ | refine ω3 ?_ | refine ω4 ?_ | refine ω5 ?_ | refine χ1 ?_ | refine κ1 ?_ | refine κ2 ?_ | refine χ2 ?_ | refine κ3 ?_ | refine ω6 ?_ | refine ω7 ?_ | refine ω9 ?_ | refine κ4 ?_ | refine κ7 ?_ | refine κ8 ?_ | refine χ3 ?_ | refine χ4 ?_ | refine κ5 ?_ | refine κ6 ?_ | refine χ5 ?_ | refine χ6 ?_ | refine χ7 ?_ | refine ω8 ?_
    refine ci (fun h => ?_) (fun h => ?_)
    · have hlt : j < i := by have := of_decide_eq_true h; omega
      repeat first | refine ω1 ?_ | refine ω2 ?_ | refine ω3 ?_ | refine ω4 ?_ | refine ω5 ?_ | refine χ1 ?_ | refine κ1 ?_ | refine κ2 ?_ | refine χ2 ?_ | refine κ3 ?_ | refine ω6 ?_ | refine ω7 ?_ | refine ω9 ?_ | refine κ4 ?_ | refine κ7 ?_ | refine κ8 ?_ | refine χ3 ?_ | refine χ4 ?_ | refine κ5 ?_ | refine κ6 ?_ | refine χ5 ?_ | refine χ6 ?_ | refine χ7 ?_ | refine ω8 ?_
      refine cl (swapRange_any (a := m - i) (b := m) (k := j) (ai := (m : Int) - (i : Int)) (bi := (m : Int)) (ki := (j : Int)) hD1 hl1 (by omega) rfl rfl (by omega) (by omega) hmx) ?_
      rintro v w2 ⟨q2, hD2, hp2, hS2, hg2⟩
      repeat first | refine ω1 ?_ | refine ω2 ?_ | refine ω3 ?_ | refine ω4 ?_ | refine ω5 ?_ | refine χ1 ?_ | refine κ1 ?_ | refine κ2 ?_ | refine χ2 ?_ | refine κ3 ?_ | refine ω6 ?_ | refine ω7 ?_ | refine ω9 ?_ | refine κ4 ?_ | refine κ7 ?_ | refine κ8 ?_ | refine χ3 ?_ | refine χ4 ?_ | refine κ5 ?_ | refine κ6 ?_ | refine χ5 ?_ | refine χ6 ?_ | refine χ7 ?_ | refine ω8 ?_
      exact qround3 (i - j) j q2 (by repeat' (first | exact Sub.nil | refine Sub.cons (by first | rfl | (refine congrArg (fun z => some (Value.int .i64 z)) ?_; omega)) ?_)) ⟨hI.left hlt hS2, hD2, hp2.trans hp1, grown_trans hg1 hg2⟩ (by omega)
    · have hlt : i < j := by have := of_decide_eq_false h; omega
      repeat first | refine ω1 ?_ | refine ω2 ?_ | refine ω3 ?_ | refine ω4 ?_ | refine ω5 ?_ | refine χ1 ?_ | refine κ1 ?_ | refine κ2 ?_ | refine χ2 ?_ | refine κ3 ?_ | refine ω6 ?_ | refine ω7 ?_ | refine ω9 ?_ | refine κ4 ?_ | refine κ7 ?_ | refine κ8 ?_ | refine χ3 ?_ | refine χ4 ?_ | refine κ5 ?_ | refine κ6 ?_ | refine χ5 ?_ | refine χ6 ?_ | refine χ7 ?_ | refine ω8 ?_
      refine cl (swapRange_any (a := m - i) (b := m + j - i) (k := i) (ai := (m : Int) - (i : Int)) (bi := (m : Int) + (j : Int) - (i : Int)) (ki := (i : Int)) hD1 hl1 (by omega) (by omega) rfl (by omega) (by omega) hmx) ?_
      rintro v w2 ⟨q2, hD2, hp2, hS2, hg2⟩
      repeat first | refine ω1 ?_ | refine ω2 ?_ | refine ω3 ?_ | refine ω4 ?_ | refine ω5 ?_ | refine χ1 ?_ | refine κ1 ?_ | refine κ2 ?_ | refine χ2 ?_ | refine κ3 ?_ | refine ω6 ?_ | refine ω7 ?_ | refine ω9 ?_ | refine κ4 ?_ | refine κ7 ?_ | refine κ8 ?_ | refine χ3 ?_ | refine χ4 ?_ | refine κ5 ?_ | refine κ6 ?_ | refine χ5 ?_ | refine χ6 ?_ | refine χ7 ?_ | refine ω8 ?_
      exact qround3 i (j - i) q2 (by repeat' (first | exact Sub.nil | refine Sub.cons (by first | rfl | (refine congrArg (fun z => some (Value.int .i64 z)) ?_; omega)) ?_)) ⟨hI.right hlt hS2, hD2, hp2.trans hp1, grown_trans hg1 hg2⟩ (by omega)
  · have he : i = j := by have := of_bne_f h; omega
    subst he
    repeat first | refine ω1 ?_ | refine ω2 ?_ | refine ω3 ?_ | refine ω4 ?_ | refine ω5 ?_ | refine χ1 ?_ | refine κ1 ?_ | refine κ2 ?_ | refine χ2 ?_ | refine κ3 ?_ | refine ω6 ?_ | refine ω7 ?_ | refine ω9 ?_ | refine κ4 ?_ | refine κ7 ?_ | refine κ8 ?_ | refine χ3 ?_ | refine χ4 ?_ | refine κ5 ?_ | refine κ6 ?_ | refine χ5 ?_ | refine χ6 ?_ | refine χ7 ?_ | refine ω8 ?_
    refine cl (swapRange_any (a := m - i) (b := m) (k := i) (ai := (m : Int) - (i : Int)) (bi := (m : Int)) (ki := (i : Int)) hD1 hl1 (by omega) rfl rfl (by omega) (by omega) hmx) ?_
    rintro v w2 ⟨q2, hD2, hp2, hS2, hg2⟩
    repeat first | refine ω1 ?_ | refine ω2 ?_ | refine ω3 ?_ | refine ω4 ?_ | refine ω5 ?_ | refine χ1 ?_ | refine κ1 ?_ | refine κ2 ?_ | refine χ2 ?_ | refine κ3 ?_ | refine ω6 ?_ | refine ω7 ?_ | refine ω9 ?_ | refine κ4 ?_ | refine κ7 ?_ | refine κ8 ?_ | refine χ3 ?_ | refine χ4 ?_ | refine κ5 ?_ | refine κ6 ?_ | refine χ5 ?_ | refine χ6 ?_ | refine χ7 ?_ | refine ω8 ?_
    exact finE ⟨q2, hD2, hp2.trans hp1, hI.done hS2, grown_trans hg1 hg2⟩
set_option maxRecDepth 100000 in
theorem insertion_any {w : World} {base : Nat} {A : Option Addr} {n c a b : Nat} {ai bi : Int} {fv : Value} {ps : List Pr} {ds : List Bool} (hD : Dat w base (.slice A n c) ps) (hn : ps.length = n) (hai : ai = (a : Int)) (hbi : bi = (b : Int)) (hb : b ≤ n) (ha : a ≤ n) (hmx : n ≤ 1100000) (hC : CmpF w (Value.slice A n c).ownBlock fv ps ds) :
    Ret Try.prog 98 [.slice A n c, .int .i64 ai, .int .i64 bi, fv] w fun v w' => ∃ ps', Dat w' base (.slice A n c) ps' ∧ Seg z0 a b ps ps' ∧ SOn z0 (fP ds) ps' a b ∧ w.grownBy w' (Value.slice A n c).ownBlock := by
  subst hai; subst hbi
  obtain ⟨fid, first, cap, rfl, hC⟩ := hC
  refine enterR Try.func98 Try.ntmps98 rfl (by kernel_rfl) rfl ?_
  repeat first | refine ω1 ?_ | refine ω2 ?_ | refine ω3 ?_ | refine ω4 ?_ | refine ω5 ?_ | refine χ1 ?_ | refine κ1 ?_ | refine κ2 ?_ | refine χ2 ?_ | refine κ3 ?_ | refine ω6 ?_ | refine ω7 ?_ | refine ω9 ?_ | refine κ4 ?_ | refine κ7 ?_ | refine κ8 ?_ | refine χ3 ?_ | refine χ4 ?_ | refine κ5 ?_ | refine κ6 ?_ | refine χ5 ?_ | refine χ6 ?_ | refine χ7 ?_ | refine ω8 ?_
  refine wloop2 (fun (i : Nat) (q : List Pr) => [(0, .slice A n c), (1, .int .i64 (a : Int)), (2, .int .i64 (b : Int)), (3, .func (.func fid) first cap), (8, .int .i64 ((i : Nat) : Int))])
    (fun i q w' => a + 1 ≤ i ∧ (i ≤ b ∨ i = a + 1) ∧ Seg z0 a b ps q ∧ SOn z0 (fP ds) q a i ∧ Dat w' base (.slice A n c) q ∧ w.grownBy w' (Value.slice A n c).ownBlock) (fun i _ => b + 1 - i) (a + 1) ps (by repeat' (first | exact Sub.nil | refine Sub.cons (by first | rfl | (refine congrArg (fun z => some (Value.int .i64 z)) ?_; omega)) ?_))
    ⟨Nat.le_refl _, .inr rfl, Seg.refl _ _ _, SOn.one _ (by omega), hD, ext_grown (Ext.refl w) _⟩ ?_
  rintro i q w1 ⟨hai, hib, hS1, hO1, hD1, hg1⟩
  repeat first | refine ω1 ?_ | refine ω2 ?_ | refine ω3 ?_ | refine ω4 ?_ | refine ω5 ?_ | refine χ1 ?_ | refine κ1 ?_ | refine κ2 ?_ | refine χ2 ?_ | refine κ3 ?_ | refine ω6 ?_ | refine ω7 ?_ | refine ω9 ?_ | refine κ4 ?_ | refine κ7 ?_ | refine κ8 ?_ | refine χ3 ?_ | refine χ4 ?_ | refine κ5 ?_ | refine κ6 ?_ | refine χ5 ?_ | refine χ6 ?_ | refine χ7 ?_ | refine ω8 ?_
  refine ci (fun h => ?_) (fun h => ?_)
  · have hlt : i < b := by have := of_decide_eq_true h; omega
    repeat first | refine ω1 ?_ | refine ω2 ?_ | refine ω3 ?_ | refine ω4 ?_ | refine ω5 ?_ | refine χ1 ?_ | refine κ1 ?_ | refine κ2 ?_ | refine χ2 ?_ | refine κ3 ?_ | refine ω6 ?_ | refine ω7 ?_ | refine ω9 ?_ | refine κ4 ?_ | refine κ7 ?_ | refine κ8 ?_ | refine χ3 ?_ | refine χ4 ?_ | refine κ5 ?_ | refine κ6 ?_ | refine χ5 ?_ | refine χ6 ?_ | refine χ7 ?_ | refine ω8 ?_
    refine wloop2 (fun (j : Nat) (q : List Pr) => [(0, .slice A n c), (1, .int .i64 (a : Int)), (2, .int .i64 (b : Int)), (3, .func (.func fid) first cap), (8, .int .i64 ((i : Nat) : Int)), (9, .int .i64 ((j : Nat) : Int))])
      (fun j q w' => InsI z0 (fP ds) q a i j ∧ Seg z0 a b ps q ∧ Dat w' base (.slice A n c) q ∧ w.grownBy w' (Value.slice A n c).ownBlock) (fun j _ => j) i q (by repeat' (first | exact Sub.nil | refine Sub.cons rfl ?_)) ⟨InsI.start hO1 (by omega), hS1, hD1, hg1⟩ ?_
    rintro j q w2 ⟨hI, hS2, hD2, hg2⟩
    have hl2 : q.length = n := by rw [hS2.len, hn]
    obtain ⟨h1, h2, _, _⟩ := id hI
    repeat first | refine ω1 ?_ | refine ω2 ?_ | refine ω3 ?_ | refine ω4 ?_ | refine ω5 ?_ | refine χ1 ?_ | refine κ1 ?_ | refine κ2 ?_ | refine χ2 ?_ | refine κ3 ?_ | refine ω6 ?_ | refine ω7 ?_ | refine ω9 ?_ | refine κ4 ?_ | refine κ7 ?_ | refine κ8 ?_ | refine χ3 ?_ | refine χ4 ?_ | refine κ5 ?_ | refine κ6 ?_ | refine χ5 ?_ | refine χ6 ?_ | refine χ7 ?_ | refine ω8 ?_
    refine dr [(0, 0), (0, 1), (0, 2), (0, 3), (0, 4), (0, 5), (0, 6), (0, 7), (0, 8), (0, 9), (0, 10), (0, 11), (0, 12), (0, 13), (1, 14), (0, 15), (0, 16)] (by kernel_rfl) ?_
    have hxd : Ext w2 w2.drew := (Ext.refl w2).drew
    have hD3 := hD2.ext hxd
    have hg3 := grown_trans hg2 (ext_grown hxd _)
    repeat first | refine δ1 ?_ | refine δ2 ?_ | refine δ4 ?_ | refine δ5 ?_ | refine δ6 ?_ | refine δ7 ?_ | refine δ9 ?_ | refine δ8 ?_ | refine χ1 ?_ | refine χ2 ?_ | refine χ3 ?_ | refine χ4 ?_ | refine χ5 ?_ | refine χ6 ?_ | refine χ7 ?_
    refine dki 21 (fun h => ?_) (fun h => ?_)
    · have hj : a < j := by have := of_decide_eq_true h; omega
      have lj : j < n := by omega
      have lj1 : j - 1 < n := by omega
      repeat first | refine δ1 ?_ | refine δ2 ?_ | refine δ4 ?_ | refine δ5 ?_ | refine δ6 ?_ | refine δ7 ?_ | refine δ9 ?_ | refine δ8 ?_ | refine χ1 ?_ | refine χ2 ?_ | refine χ3 ?_ | refine χ4 ?_ | refine χ5 ?_ | refine χ6 ?_ | refine χ7 ?_
      refine dix j (hD3.rd hl2) lj ?_
      repeat first | refine δ1 ?_ | refine δ2 ?_ | refine δ4 ?_ | refine δ5 ?_ | refine δ6 ?_ | refine δ7 ?_ | refine δ9 ?_ | refine δ8 ?_ | refine χ1 ?_ | refine χ2 ?_ | refine χ3 ?_ | refine χ4 ?_ | refine χ5 ?_ | refine χ6 ?_ | refine χ7 ?_
      refine dld (hD3.cell hl2 lj) ?_
      repeat first | refine δ1 ?_ | refine δ2 ?_ | refine δ4 ?_ | refine δ5 ?_ | refine δ6 ?_ | refine δ7 ?_ | refine δ9 ?_ | refine δ8 ?_ | refine χ1 ?_ | refine χ2 ?_ | refine χ3 ?_ | refine χ4 ?_ | refine χ5 ?_ | refine χ6 ?_ | refine χ7 ?_
      refine dix (j - 1) (hD3.rd hl2) lj1 ?_
      repeat first | refine δ1 ?_ | refine δ2 ?_ | refine δ4 ?_ | refine δ5 ?_ | refine δ6 ?_ | refine δ7 ?_ | refine δ9 ?_ | refine δ8 ?_ | refine χ1 ?_ | refine χ2 ?_ | refine χ3 ?_ | refine χ4 ?_ | refine χ5 ?_ | refine χ6 ?_ | refine χ7 ?_
      refine dld (hD3.cell hl2 lj1) ?_
      repeat first | refine δ1 ?_ | refine δ2 ?_ | refine δ4 ?_ | refine δ5 ?_ | refine δ6 ?_ | refine δ7 ?_ | refine δ9 ?_ | refine δ8 ?_ | refine χ1 ?_ | refine χ2 ?_ | refine χ3 ?_ | refine χ4 ?_ | refine χ5 ?_ | refine χ6 ?_ | refine χ7 ?_
      refine dclv (hC _ hg3 (q.getD j z0) (q.getD (j - 1) z0) (hS2.perm.mem_iff.1 (getD_mem' z0 q (by omega))) (hS2.perm.mem_iff.1 (getD_mem' z0 q (by omega)))) ?_
      rintro r w4 ⟨rfl, hx4⟩
      refine ⟨hx4, ?_⟩
      have hD4 := hD3.ext hx4
      have hg4 := grown_trans hg3 (ext_grown hx4 _)
      repeat first | refine δ1 ?_ | refine δ2 ?_ | refine δ4 ?_ | refine δ5 ?_ | refine δ6 ?_ | refine δ7 ?_ | refine δ9 ?_ | refine δ8 ?_ | refine χ1 ?_ | refine χ2 ?_ | refine χ3 ?_ | refine χ4 ?_ | refine χ5 ?_ | refine χ6 ?_ | refine χ7 ?_
      repeat first | refine ω1 ?_ | refine ω2 ?_ | refine ω3 ?_ | refine ω4 ?_ | refine ω5 ?_ | refine χ1 ?_ | refine κ1 ?_ | refine κ2 ?_ | refine χ2 ?_ | refine κ3 ?_ | refine ω6 ?_ | refine ω7 ?_ | refine ω9 ?_ | refine κ4 ?_ | refine κ7 ?_ | refine κ8 ?_ | refine χ3 ?_ | refine χ4 ?_ | refine κ5 ?_ | refine κ6 ?_ | refine χ5 ?_ | refine χ6 ?_ | refine χ7 ?_ | refine ω8 ?_
      refine ci (fun h => ?_) (fun h => ?_)
      · have hneg := of_decide_eq_true h
        repeat first | refine ω1 ?_ | refine ω2 ?_ | refine ω3 ?_ | refine ω4 ?_ | refine ω5 ?_ | refine χ1 ?_ | refine κ1 ?_ | refine κ2 ?_ | refine χ2 ?_ | refine κ3 ?_ | refine ω6 ?_ | refine ω7 ?_ | refine ω9 ?_ | refine κ4 ?_ | refine κ7 ?_ | refine κ8 ?_ | refine χ3 ?_ | refine χ4 ?_ | refine κ5 ?_ | refine κ6 ?_ | refine χ5 ?_ | refine χ6 ?_ | refine χ7 ?_ | refine ω8 ?_
        refine drC 4 [0, 1, 2, 3, 4, 5, 6, 7, 10, 11] [(0, 8), (0, 9), (0, 12), (0, 13), (0, 14), (2, 15), (2, 16), (2, 17)] (by kernel_rfl) ?_
        have hxe : Ext w4 w4.drew := (Ext.refl w4).drew
        have hD5 := hD4.ext hxe
        obtain ⟨s1, s2, s3, ⟨u, s4⟩, s5, s6⟩ := hD5.swap hl2 lj lj1
        repeat first | refine π1 ?_ | refine π2 ?_ | refine π4 ?_ | refine π5 ?_
        refine dix (j - 1) (hD5.rd hl2) lj1 ?_
        repeat first | refine δ1 ?_ | refine δ2 ?_ | refine δ4 ?_ | refine δ5 ?_ | refine δ6 ?_ | refine δ7 ?_ | refine δ9 ?_ | refine δ8 ?_ | refine χ1 ?_ | refine χ2 ?_ | refine χ3 ?_ | refine χ4 ?_ | refine χ5 ?_ | refine χ6 ?_ | refine χ7 ?_
        refine dld (hD5.cell hl2 lj1) ?_
        repeat first | refine δ1 ?_ | refine δ2 ?_ | refine δ4 ?_ | refine δ5 ?_ | refine δ6 ?_ | refine δ7 ?_ | refine δ9 ?_ | refine δ8 ?_ | refine χ1 ?_ | refine χ2 ?_ | refine χ3 ?_ | refine χ4 ?_ | refine χ5 ?_ | refine χ6 ?_ | refine χ7 ?_
        refine dix j (hD5.rd hl2) lj ?_
        repeat first | refine δ1 ?_ | refine δ2 ?_ | refine δ4 ?_ | refine δ5 ?_ | refine δ6 ?_ | refine δ7 ?_ | refine δ9 ?_ | refine δ8 ?_ | refine χ1 ?_ | refine χ2 ?_ | refine χ3 ?_ | refine χ4 ?_ | refine χ5 ?_ | refine χ6 ?_ | refine χ7 ?_
        refine dld (hD5.cell hl2 lj) ?_
        repeat first | refine δ1 ?_ | refine δ2 ?_ | refine δ4 ?_ | refine δ5 ?_ | refine δ6 ?_ | refine δ7 ?_ | refine δ9 ?_ | refine δ8 ?_ | refine χ1 ?_ | refine χ2 ?_ | refine χ3 ?_ | refine χ4 ?_ | refine χ5 ?_ | refine χ6 ?_ | refine χ7 ?_
        refine dix j (hD5.rd hl2) lj ?_
        repeat first | refine δ1 ?_ | refine δ2 ?_ | refine δ4 ?_ | refine δ5 ?_ | refine δ6 ?_ | refine δ7 ?_ | refine δ9 ?_ | refine δ8 ?_ | refine χ1 ?_ | refine χ2 ?_ | refine χ3 ?_ | refine χ4 ?_ | refine χ5 ?_ | refine χ6 ?_ | refine χ7 ?_
        refine dtail ?_
        refine sto (hD5.cell hl2 lj) s1 ?_ (hv := hD5.one (hl2.symm ▸ lj1))
        repeat first | refine ω1 ?_ | refine ω2 ?_ | refine ω3 ?_ | refine ω4 ?_ | refine ω5 ?_ | refine χ1 ?_ | refine κ1 ?_ | refine κ2 ?_ | refine χ2 ?_ | refine κ3 ?_ | refine ω6 ?_ | refine ω7 ?_ | refine ω9 ?_ | refine κ4 ?_ | refine κ7 ?_ | refine κ8 ?_ | refine χ3 ?_ | refine χ4 ?_ | refine κ5 ?_ | refine κ6 ?_ | refine χ5 ?_ | refine χ6 ?_ | refine χ7 ?_ | refine ω8 ?_
        refine dback ?_
        refine dtail ?_
        refine ix (j - 1) s2 lj1 ?_
        repeat first | refine ω1 ?_ | refine ω2 ?_ | refine ω3 ?_ | refine ω4 ?_ | refine ω5 ?_ | refine χ1 ?_ | refine κ1 ?_ | refine κ2 ?_ | refine χ2 ?_ | refine κ3 ?_ | refine ω6 ?_ | refine ω7 ?_ | refine ω9 ?_ | refine κ4 ?_ | refine κ7 ?_ | refine κ8 ?_ | refine χ3 ?_ | refine χ4 ?_ | refine κ5 ?_ | refine κ6 ?_ | refine χ5 ?_ | refine χ6 ?_ | refine χ7 ?_ | refine ω8 ?_
        refine dback ?_
        refine dtail ?_
        refine sto s4 s3 ?_ (hv := hD5.one (hl2.symm ▸ lj))
        repeat first | refine ω1 ?_ | refine ω2 ?_ | refine ω3 ?_ | refine ω4 ?_ | refine ω5 ?_ | refine χ1 ?_ | refine κ1 ?_ | refine κ2 ?_ | refine χ2 ?_ | refine κ3 ?_ | refine ω6 ?_ | refine ω7 ?_ | refine ω9 ?_ | refine κ4 ?_ | refine κ7 ?_ | refine κ8 ?_ | refine χ3 ?_ | refine χ4 ?_ | refine κ5 ?_ | refine κ6 ?_ | refine χ5 ?_ | refine χ6 ?_ | refine χ7 ?_ | refine ω8 ?_
        exact qround2 (j - 1) (swp z0 q j (j - 1)) (by repeat' (first | exact Sub.nil | refine Sub.cons (by first | rfl | (refine congrArg (fun z => some (Value.int .i64 z)) ?_; omega)) ?_)) ⟨hI.step hj (by omega) hneg, hS2.trans (Seg.swp (by omega) (by omega) (by omega) (by omega) (by omega)), s5, grown_trans hg4 (grown_trans (ext_grown hxe _) s6)⟩ (by omega)
      · have hneg := of_decide_eq_false h
        repeat first | refine ω1 ?_ | refine ω2 ?_ | refine ω3 ?_ | refine ω4 ?_ | refine ω5 ?_ | refine χ1 ?_ | refine κ1 ?_ | refine κ2 ?_ | refine χ2 ?_ | refine κ3 ?_ | refine ω6 ?_ | refine ω7 ?_ | refine ω9 ?_ | refine κ4 ?_ | refine κ7 ?_ | refine κ8 ?_ | refine χ3 ?_ | refine χ4 ?_ | refine κ5 ?_ | refine κ6 ?_ | refine χ5 ?_ | refine χ6 ?_ | refine χ7 ?_ | refine ω8 ?_
        exact qround2 (i + 1) q (by repeat' (first | exact Sub.nil | refine Sub.cons rfl ?_)) ⟨by omega, by omega, hS2, hI.done (preP ds) hj hneg, hD4, hg4⟩ (by omega)
    · have hj : j = a := by have := of_decide_eq_false h; omega
      subst hj
      repeat first | refine δ1 ?_ | refine δ2 ?_ | refine δ4 ?_ | refine δ5 ?_ | refine δ6 ?_ | refine δ7 ?_ | refine δ9 ?_ | refine δ8 ?_ | refine χ1 ?_ | refine χ2 ?_ | refine χ3 ?_ | refine χ4 ?_ | refine χ5 ?_ | refine χ6 ?_ | refine χ7 ?_
      repeat first | refine ω1 ?_ | refine ω2 ?_ | refine ω3 ?_ | refine ω4 ?_ | refine ω5 ?_ | refine χ1 ?_ | refine κ1 ?_ | refine κ2 ?_ | refine χ2 ?_ | refine κ3 ?_ | refine ω6 ?_ | refine ω7 ?_ | refine ω9 ?_ | refine κ4 ?_ | refine κ7 ?_ | refine κ8 ?_ | refine χ3 ?_ | refine χ4 ?_ | refine κ5 ?_ | refine κ6 ?_ | refine χ5 ?_ | refine χ6 ?_ | refine χ7 ?_ | refine ω8 ?_
      exact qround2 (i + 1) q (by repeat' (first | exact Sub.nil | refine Sub.cons rfl ?_)) ⟨by omega, by omega, hS2, hI.done0, hD3, hg3⟩ (by omega)
  · repeat first | refine ω1 ?_ | refine ω2 ?_ | refine ω3 ?_ | refine ω4 ?_ | refine ω5 ?_ | refine χ1 ?_ | refine κ1 ?_ | refine κ2 ?_ | refine χ2 ?_ | refine κ3 ?_ | refine ω6 ?_ | refine ω7 ?_ | refine ω9 ?_ | refine κ4 ?_ | refine κ7 ?_ | refine κ8 ?_ | refine χ3 ?_ | refine χ4 ?_ | refine κ5 ?_ | refine κ6 ?_ | refine χ5 ?_ | refine χ6 ?_ | refine χ7 ?_ | refine ω8 ?_
    have hbi : b ≤ i := by have := of_decide_eq_false h; omega
    exact finE ⟨q, hD1, hS1, hO1.mono (Nat.le_refl _) hbi, hg1⟩
end Go.Proofs.Ytpahjnfolbnloaa
/- The sorting functions of package slices, at rows: symMerge. -/
set_option linter.unusedVariables false
namespace Go.Proofs.Ytpahjnfolbnloaa
open Go.RowKit Pl Go.Wk
attribute [local irreducible] WC WL QX WD WDB WP
theorem half (i j : Nat) (h : i + j ≤ 4400000) : IntKind.i64.wrap ((IntKind.u64.wrap ((i : Int) + (j : Int))).fdiv (2 ^ min (1 : Int).toNat IntKind.u64.bits)) = (((i + j) / 2 : Nat) : Int) := by
  have e : (2 : Int) ^ min (1 : Int).toNat IntKind.u64.bits = ((2 : Nat) : Int) := by decide
  have e2 : IntKind.u64.wrap ((i : Int) + (j : Int)) = ((i + j : Nat) : Int) := by rw [IntKind.wrap_u64]; omega
  rw [e, e2, Int.fdiv_eq_ediv_of_nonneg _ (by omega), IntKind.wrap_i64]; omega
/-- what a merge promises -/
def Merged (w : World) (base : Nat) (v : Value) (ps : List Pr) (ds : List Bool) (a b : Nat) (w' : World) : Prop :=
  ∃ ps', Dat w' base v ps' ∧ Seg z0 a b ps ps' ∧ SOn z0 (fP ds) ps' a b ∧ w.grownBy w' v.ownBlock
set_option maxRecDepth 100000 in
set_option maxHeartbeats 2000000 in
theorem symMerge_any (K : Nat) : ∀ {w : World} {base : Nat} {A : Option Addr} {n c a m b : Nat} {ai mi bi : Int} {fv : Value} {ps : List Pr} {ds : List Bool} (hK : b - a ≤ K) (hD : Dat w base (.slice A n c) ps) (hn : ps.length = n) (hai : ai = (a : Int)) (hmi : mi = (m : Int)) (hbi : bi = (b : Int))
    (ham : a < m) (hmb : m < b) (hb : b ≤ n) (hmx : n ≤ 1100000) (hC : CmpF w (Value.slice A n c).ownBlock fv ps ds) (hO1 : SOn z0 (fP ds) ps a m) (hO2 : SOn z0 (fP ds) ps m b),
    Ret Try.prog 99 [.slice A n c, .int .i64 ai, .int .i64 mi, .int .i64 bi, fv] w fun v w' => Merged w base (.slice A n c) ps ds a b w' := by
  induction K with
  | zero => intros; omega
  | succ K ih =>
  intro w base A n c a m b ai mi bi fv ps ds hK hD hn hai hmi hbi ham hmb hb hmx hC hO1 hO2
  subst hai; subst hmi; subst hbi
  obtain ⟨fid, first, cap, rfl, hC'⟩ := id hC
  have mem : ∀ {q : List Pr}, q.Perm ps → ∀ k, k < n → q.getD k z0 ∈ ps := fun hp k hk => hp.mem_iff.1 (getD_mem' z0 _ (by rw [hp.length_eq, hn]; exact hk))
  refine enterR Try.func99 Try.ntmps99 rfl (by kernel_rfl) rfl ?_
  repeat first | refine ω1 ?_ | refine ω2 ?_ | refine ω3 ?_ | refine ω4 ?_ | refine ω5 ?_ | refine χ1 ?_ | refine κ1 ?_ | refine κ2 ?_ | refine χ2 ?_ | refine κ3 ?_ | refine ω6 ?_ | refine ω7 ?_ | refine ω9 ?_ | refine κ4 ?_ | refine κ7 ?_ | refine κ8 ?_ | refine χ3 ?_ | refine χ4 ?_ | refine κ5 ?_ | refine κ6 ?_ | refine χ5 ?_ | refine χ6 ?_ | refine χ7 ?_ | refine ω8 ?_
  refine ci (fun h => ?_) (fun h => ?_)
  · have hm1 : m = a + 1 := by have := of_beq_t h; omega
    subst hm1
    repeat first | refine ω1 ?_ | refine ω2 ?_ | refine ω3 ?_ | refine ω4 ?_ | refine ω5 ?_ | refine χ1 ?_ | refine κ1 ?_ | refine κ2 ?_ | refine χ2 ?_ | refine κ3 ?_ | refine ω6 ?_ | refine ω7 ?_ | refine ω9 ?_ | refine κ4 ?_ | refine κ7 ?_ | refine κ8 ?_ | refine χ3 ?_ | refine χ4 ?_ | refine κ5 ?_ | refine κ6 ?_ | refine χ5 ?_ | refine χ6 ?_ | refine χ7 ?_ | refine ω8 ?_
    refine wloop2 (fun (i j : Nat) => [(0, .slice A n c), (1, .int .i64 (a : Int)), (3, .int .i64 (b : Int)), (4, .func (.func fid) first cap), (10, .int .i64 (i : Int)), (11, .int .i64 (j : Int))])
      (fun i j w' => a + 1 ≤ i ∧ i ≤ j ∧ j ≤ b ∧ (i = a + 1 ∨ fP ds (ps.getD (i - 1) z0) (ps.getD a z0) < 0) ∧ (j = b ∨ ¬ fP ds (ps.getD j z0) (ps.getD a z0) < 0) ∧ Ext w w') (fun i j => j - i) (a + 1) b (by repeat' (first | exact Sub.nil | refine Sub.cons (by first | rfl | (refine congrArg (fun z => some (Value.int .i64 z)) ?_; omega)) ?_)) ⟨Nat.le_refl _, by omega, Nat.le_refl _, .inl rfl, .inl rfl, Ext.refl w⟩ ?_
    rintro i j w1 ⟨h1, h2, h3, h4, h5, hx1⟩
    repeat first | refine ω1 ?_ | refine ω2 ?_ | refine ω3 ?_ | refine ω4 ?_ | refine ω5 ?_ | refine χ1 ?_ | refine κ1 ?_ | refine κ2 ?_ | refine χ2 ?_ | refine κ3 ?_ | refine ω6 ?_ | refine ω7 ?_ | refine ω9 ?_ | refine κ4 ?_ | refine κ7 ?_ | refine κ8 ?_ | refine χ3 ?_ | refine χ4 ?_ | refine κ5 ?_ | refine κ6 ?_ | refine χ5 ?_ | refine χ6 ?_ | refine χ7 ?_ | refine ω8 ?_
    refine ci (fun h => ?_) (fun h => ?_)
    · have hij : i < j := by have := of_decide_eq_true h; omega
      repeat first | refine ω1 ?_ | refine ω2 ?_ | refine ω3 ?_ | refine ω4 ?_ | refine ω5 ?_ | refine χ1 ?_ | refine κ1 ?_ | refine κ2 ?_ | refine χ2 ?_ | refine κ3 ?_ | refine ω6 ?_ | refine ω7 ?_ | refine ω9 ?_ | refine κ4 ?_ | refine κ7 ?_ | refine κ8 ?_ | refine χ3 ?_ | refine χ4 ?_ | refine κ5 ?_ | refine κ6 ?_ | refine χ5 ?_ | refine χ6 ?_ | refine χ7 ?_ | refine ω8 ?_
      refine wshr rfl rfl (by decide) rfl ?_
      repeat first | refine ω1 ?_ | refine ω2 ?_ | refine ω3 ?_ | refine ω4 ?_ | refine ω5 ?_ | refine χ1 ?_ | refine κ1 ?_ | refine κ2 ?_ | refine χ2 ?_ | refine κ3 ?_ | refine ω6 ?_ | refine ω7 ?_ | refine ω9 ?_ | refine κ4 ?_ | refine κ7 ?_ | refine κ8 ?_ | refine χ3 ?_ | refine χ4 ?_ | refine κ5 ?_ | refine κ6 ?_ | refine χ5 ?_ | refine χ6 ?_ | refine χ7 ?_ | refine ω8 ?_
      rw [half i j (by omega)]
      have lh : (i + j) / 2 < n := by omega
      have la : a < n := by omega
      refine dr [(0, 0), (0, 1), (0, 2), (0, 3), (0, 4), (0, 5), (0, 6), (0, 7), (0, 8), (1, 9), (0, 10)] (by kernel_rfl) ?_
      have hx2 : Ext w w1.drew := hx1.drew
      have hD2 := hD.ext hx2
      repeat first | refine δ1 ?_ | refine δ2 ?_ | refine δ4 ?_ | refine δ5 ?_ | refine δ6 ?_ | refine δ7 ?_ | refine δ9 ?_ | refine δ8 ?_ | refine χ1 ?_ | refine χ2 ?_ | refine χ3 ?_ | refine χ4 ?_ | refine χ5 ?_ | refine χ6 ?_ | refine χ7 ?_
      refine dix ((i + j) / 2) (hD2.rd hn) lh ?_
      repeat first | refine δ1 ?_ | refine δ2 ?_ | refine δ4 ?_ | refine δ5 ?_ | refine δ6 ?_ | refine δ7 ?_ | refine δ9 ?_ | refine δ8 ?_ | refine χ1 ?_ | refine χ2 ?_ | refine χ3 ?_ | refine χ4 ?_ | refine χ5 ?_ | refine χ6 ?_ | refine χ7 ?_
      refine dld (hD2.cell hn lh) ?_
      repeat first | refine δ1 ?_ | refine δ2 ?_ | refine δ4 ?_ | refine δ5 ?_ | refine δ6 ?_ | refine δ7 ?_ | refine δ9 ?_ | refine δ8 ?_ | refine χ1 ?_ | refine χ2 ?_ | refine χ3 ?_ | refine χ4 ?_ | refine χ5 ?_ | refine χ6 ?_ | refine χ7 ?_
      refine dix a (hD2.rd hn) la ?_
      repeat first | refine δ1 ?_ | refine δ2 ?_ | refine δ4 ?_ | refine δ5 ?_ | refine δ6 ?_ | refine δ7 ?_ | refine δ9 ?_ | refine δ8 ?_ | refine χ1 ?_ | refine χ2 ?_ | refine χ3 ?_ | refine χ4 ?_ | refine χ5 ?_ | refine χ6 ?_ | refine χ7 ?_
      refine dld (hD2.cell hn la) ?_
      repeat first | refine δ1 ?_ | refine δ2 ?_ | refine δ4 ?_ | refine δ5 ?_ | refine δ6 ?_ | refine δ7 ?_ | refine δ9 ?_ | refine δ8 ?_ | refine χ1 ?_ | refine χ2 ?_ | refine χ3 ?_ | refine χ4 ?_ | refine χ5 ?_ | refine χ6 ?_ | refine χ7 ?_
      refine dclv (hC' _ (ext_grown hx2 _) (ps.getD ((i + j) / 2) z0) (ps.getD a z0) (mem (List.Perm.refl _) _ lh) (mem (List.Perm.refl _) _ la)) ?_
      rintro r w4 ⟨rfl, hx4⟩
      refine ⟨hx4, ?_⟩
      repeat first | refine δ1 ?_ | refine δ2 ?_ | refine δ4 ?_ | refine δ5 ?_ | refine δ6 ?_ | refine δ7 ?_ | refine δ9 ?_ | refine δ8 ?_ | refine χ1 ?_ | refine χ2 ?_ | refine χ3 ?_ | refine χ4 ?_ | refine χ5 ?_ | refine χ6 ?_ | refine χ7 ?_
      repeat first | refine ω1 ?_ | refine ω2 ?_ | refine ω3 ?_ | refine ω4 ?_ | refine ω5 ?_ | refine χ1 ?_ | refine κ1 ?_ | refine κ2 ?_ | refine χ2 ?_ | refine κ3 ?_ | refine ω6 ?_ | refine ω7 ?_ | refine ω9 ?_ | refine κ4 ?_ | refine κ7 ?_ | refine κ8 ?_ | refine χ3 ?_ | refine χ4 ?_ | refine κ5 ?_ | refine κ6 ?_ | refine χ5 ?_ | refine χ6 ?_ | refine χ7 ?_ | refine ω8 ?_
      refine ci (fun h => ?_) (fun h => ?_)
      · have hneg := of_decide_eq_true h
        repeat first | refine ω1 ?_ | refine ω2 ?_ | refine ω3 ?_ | refine ω4 ?_ | refine ω5 ?_ | refine χ1 ?_ | refine κ1 ?_ | refine κ2 ?_ | refine χ2 ?_ | refine κ3 ?_ | refine ω6 ?_ | refine ω7 ?_ | refine ω9 ?_ | refine κ4 ?_ | refine κ7 ?_ | refine κ8 ?_ | refine χ3 ?_ | refine χ4 ?_ | refine κ5 ?_ | refine κ6 ?_ | refine χ5 ?_ | refine χ6 ?_ | refine χ7 ?_ | refine ω8 ?_
        exact qround2 ((i + j) / 2 + 1) j (by repeat' (first | exact Sub.nil | refine Sub.cons (by first | rfl | (refine congrArg (fun z => some (Value.int .i64 z)) ?_; omega)) ?_)) ⟨by omega, by omega, h3, .inr (by rw [Nat.add_sub_cancel]; exact hneg), h5, hx2.trans hx4⟩ (by omega)
      · have hneg := of_decide_eq_false h
        repeat first | refine ω1 ?_ | refine ω2 ?_ | refine ω3 ?_ | refine ω4 ?_ | refine ω5 ?_ | refine χ1 ?_ | refine κ1 ?_ | refine κ2 ?_ | refine χ2 ?_ | refine κ3 ?_ | refine ω6 ?_ | refine ω7 ?_ | refine ω9 ?_ | refine κ4 ?_ | refine κ7 ?_ | refine κ8 ?_ | refine χ3 ?_ | refine χ4 ?_ | refine κ5 ?_ | refine κ6 ?_ | refine χ5 ?_ | refine χ6 ?_ | refine χ7 ?_ | refine ω8 ?_
        exact qround2 i ((i + j) / 2) (by repeat' (first | exact Sub.nil | refine Sub.cons (by first | rfl | (refine congrArg (fun z => some (Value.int .i64 z)) ?_; omega)) ?_)) ⟨by omega, by omega, by omega, h4, .inr hneg, hx2.trans hx4⟩ (by omega)
    · have hij : i = j := by have := of_decide_eq_false h; omega
      subst hij
      repeat first | refine ω1 ?_ | refine ω2 ?_ | refine ω3 ?_ | refine ω4 ?_ | refine ω5 ?_ | refine χ1 ?_ | refine κ1 ?_ | refine κ2 ?_ | refine χ2 ?_ | refine κ3 ?_ | refine ω6 ?_ | refine ω7 ?_ | refine ω9 ?_ | refine κ4 ?_ | refine κ7 ?_ | refine κ8 ?_ | refine χ3 ?_ | refine χ4 ?_ | refine κ5 ?_ | refine κ6 ?_ | refine χ5 ?_ | refine χ6 ?_ | refine χ7 ?_ | refine ω8 ?_
      refine wloop2 (fun (k : Nat) (q : List Pr) => [(0, .slice A n c), (10, .int .i64 (i : Int)), (13, .int .i64 (k : Int))])
        (fun k q w' => a ≤ k ∧ k ≤ i - 1 ∧ BubU z0 ps q a k ∧ Seg z0 a b ps q ∧ Dat w' base (.slice A n c) q ∧ w.grownBy w' (Value.slice A n c).ownBlock) (fun k _ => i - k) a ps (by repeat' (first | exact Sub.nil | refine Sub.cons (by first | rfl | (refine congrArg (fun z => some (Value.int .i64 z)) ?_; omega)) ?_))
        ⟨Nat.le_refl _, by omega, BubU.start _ _, Seg.refl _ _ _, hD.ext hx1, ext_grown hx1 _⟩ ?_
      rintro k q w2 ⟨k1, k2, hB2, hS2, hD2, hg2⟩
      have hl2 : q.length = n := by rw [hS2.len, hn]
      repeat first | refine ω1 ?_ | refine ω2 ?_ | refine ω3 ?_ | refine ω4 ?_ | refine ω5 ?_ | refine χ1 ?_ | refine κ1 ?_ | refine κ2 ?_ | refine χ2 ?_ | refine κ3 ?_ | refine ω6 ?_ | refine ω7 ?_ | refine ω9 ?_ | refine κ4 ?_ | refine κ7 ?_ | refine κ8 ?_ | refine χ3 ?_ | refine χ4 ?_ | refine κ5 ?_ | refine κ6 ?_ | refine χ5 ?_ | refine χ6 ?_ | refine χ7 ?_ | refine ω8 ?_
      refine ci (fun h => ?_) (fun h => ?_)
      · have hk : k < i - 1 := by have := of_decide_eq_true h; omega
        have lk0 : k < n := by omega
        have lk1 : k + 1 < n := by omega
        repeat first | refine ω1 ?_ | refine ω2 ?_ | refine ω3 ?_ | refine ω4 ?_ | refine ω5 ?_ | refine χ1 ?_ | refine κ1 ?_ | refine κ2 ?_ | refine χ2 ?_ | refine κ3 ?_ | refine ω6 ?_ | refine ω7 ?_ | refine ω9 ?_ | refine κ4 ?_ | refine κ7 ?_ | refine κ8 ?_ | refine χ3 ?_ | refine χ4 ?_ | refine κ5 ?_ | refine κ6 ?_ | refine χ5 ?_ | refine χ6 ?_ | refine χ7 ?_ | refine ω8 ?_
        refine drC 4 [0, 1, 2, 3, 4, 5, 6, 7, 10, 11] [(0, 8), (0, 9), (0, 12), (0, 13), (0, 14), (2, 15), (2, 16), (2, 17)] (by kernel_rfl) ?_
        have hxe : Ext w2 w2.drew := (Ext.refl w2).drew
        have hD5 := hD2.ext hxe
        obtain ⟨s1, s2, s3, ⟨u, s4⟩, s5, s6⟩ := hD5.swap hl2 lk0 lk1
        repeat first | refine π1 ?_ | refine π2 ?_ | refine π4 ?_ | refine π5 ?_
        refine dix (k + 1) (hD5.rd hl2) lk1 ?_
        repeat first | refine δ1 ?_ | refine δ2 ?_ | refine δ4 ?_ | refine δ5 ?_ | refine δ6 ?_ | refine δ7 ?_ | refine δ9 ?_ | refine δ8 ?_ | refine χ1 ?_ | refine χ2 ?_ | refine χ3 ?_ | refine χ4 ?_ | refine χ5 ?_ | refine χ6 ?_ | refine χ7 ?_
        refine dld (hD5.cell hl2 lk1) ?_
        repeat first | refine δ1 ?_ | refine δ2 ?_ | refine δ4 ?_ | refine δ5 ?_ | refine δ6 ?_ | refine δ7 ?_ | refine δ9 ?_ | refine δ8 ?_ | refine χ1 ?_ | refine χ2 ?_ | refine χ3 ?_ | refine χ4 ?_ | refine χ5 ?_ | refine χ6 ?_ | refine χ7 ?_
        refine dix k (hD5.rd hl2) lk0 ?_
        repeat first | refine δ1 ?_ | refine δ2 ?_ | refine δ4 ?_ | refine δ5 ?_ | refine δ6 ?_ | refine δ7 ?_ | refine δ9 ?_ | refine δ8 ?_ | refine χ1 ?_ | refine χ2 ?_ | refine χ3 ?_ | refine χ4 ?_ | refine χ5 ?_ | refine χ6 ?_ | refine χ7 ?_
        refine dld (hD5.cell hl2 lk0) ?_
        repeat first | refine δ1 ?_ | refine δ2 ?_ | refine δ4 ?_ | refine δ5 ?_ | refine δ6 ?_ | refine δ7 ?_ | refine δ9 ?_ | refine δ8 ?_ | refine χ1 ?_ | refine χ2 ?_ | refine χ3 ?_ | refine χ4 ?_ | refine χ5 ?_ | refine χ6 ?_ | refine χ7 ?_
        refine dix k (hD5.rd hl2) lk0 ?_
        repeat first | refine δ1 ?_ | refine δ2 ?_ | refine δ4 ?_ | refine δ5 ?_ | refine δ6 ?_ | refine δ7 ?_ | refine δ9 ?_ | refine δ8 ?_ | refine χ1 ?_ | refine χ2 ?_ | refine χ3 ?_ | refine χ4 ?_ | refine χ5 ?_ | refine χ6 ?_ | refine χ7 ?_
        refine dtail ?_
        refine sto (hD5.cell hl2 lk0) s1 ?_ (hv := hD5.one (hl2.symm ▸ lk1))
        repeat first | refine ω1 ?_ | refine ω2 ?_ | refine ω3 ?_ | refine ω4 ?_ | refine ω5 ?_ | refine χ1 ?_ | refine κ1 ?_ | refine κ2 ?_ | refine χ2 ?_ | refine κ3 ?_ | refine ω6 ?_ | refine ω7 ?_ | refine ω9 ?_ | refine κ4 ?_ | refine κ7 ?_ | refine κ8 ?_ | refine χ3 ?_ | refine χ4 ?_ | refine κ5 ?_ | refine κ6 ?_ | refine χ5 ?_ | refine χ6 ?_ | refine χ7 ?_ | refine ω8 ?_
        refine dback ?_
        refine dtail ?_
        refine ix (k + 1) s2 lk1 ?_
        repeat first | refine ω1 ?_ | refine ω2 ?_ | refine ω3 ?_ | refine ω4 ?_ | refine ω5 ?_ | refine χ1 ?_ | refine κ1 ?_ | refine κ2 ?_ | refine χ2 ?_ | refine κ3 ?_ | refine ω6 ?_ | refine ω7 ?_ | refine ω9 ?_ | refine κ4 ?_ | refine κ7 ?_ | refine κ8 ?_ | refine χ3 ?_ | refine χ4 ?_ | refine κ5 ?_ | refine κ6 ?_ | refine χ5 ?_ | refine χ6 ?_ | refine χ7 ?_ | refine ω8 ?_
        refine dback ?_
        refine dtail ?_
        refine sto s4 s3 ?_ (hv := hD5.one (hl2.symm ▸ lk0))
        repeat first | refine ω1 ?_ | refine ω2 ?_ | refine ω3 ?_ | refine ω4 ?_ | refine ω5 ?_ | refine χ1 ?_ | refine κ1 ?_ | refine κ2 ?_ | refine χ2 ?_ | refine κ3 ?_ | refine ω6 ?_ | refine ω7 ?_ | refine ω9 ?_ | refine κ4 ?_ | refine κ7 ?_ | refine κ8 ?_ | refine χ3 ?_ | refine χ4 ?_ | refine κ5 ?_ | refine κ6 ?_ | refine χ5 ?_ | refine χ6 ?_ | refine χ7 ?_ | refine ω8 ?_
        exact qround2 (k + 1) (swp z0 q k (k + 1)) (by repeat' (first | exact Sub.nil | refine Sub.cons (by first | rfl | (refine congrArg (fun z => some (Value.int .i64 z)) ?_; omega)) ?_)) ⟨by omega, by omega, hB2.step k1 (by omega), hS2.trans (Seg.swp (by omega) (by omega) (by omega) (by omega) (by omega)), s5, grown_trans hg2 (grown_trans (ext_grown hxe _) s6)⟩ (by omega)
      · have hk : k = i - 1 := by have := of_decide_eq_false h; omega
        subst hk
        repeat first | refine ω1 ?_ | refine ω2 ?_ | refine ω3 ?_ | refine ω4 ?_ | refine ω5 ?_ | refine χ1 ?_ | refine κ1 ?_ | refine κ2 ?_ | refine χ2 ?_ | refine κ3 ?_ | refine ω6 ?_ | refine ω7 ?_ | refine ω9 ?_ | refine κ4 ?_ | refine κ7 ?_ | refine κ8 ?_ | refine χ3 ?_ | refine χ4 ?_ | refine κ5 ?_ | refine κ6 ?_ | refine χ5 ?_ | refine χ6 ?_ | refine χ7 ?_ | refine ω8 ?_
        exact fin0 ⟨q, hD2, hS2, hB2.sorted (preP ds) hO2 h1 h3 h4 h5, hg2⟩
  have hm2 : m ≠ a + 1 := by have := of_beq_f h; omega
  repeat first | refine ω1 ?_ | refine ω2 ?_ | refine ω3 ?_ | refine ω4 ?_ | refine ω5 ?_ | refine χ1 ?_ | refine κ1 ?_ | refine κ2 ?_ | refine χ2 ?_ | refine κ3 ?_ | refine ω6 ?_ | refine ω7 ?_ | refine ω9 ?_ | refine κ4 ?_ | refine κ7 ?_ | refine κ8 ?_ | refine χ3 ?_ | refine χ4 ?_ | refine κ5 ?_ | refine κ6 ?_ | refine χ5 ?_ | refine χ6 ?_ | refine χ7 ?_ | refine ω8 ?_
  refine ci (fun h => ?_) (fun h => ?_)
  · have hb1 : b = m + 1 := by have := of_beq_t h; omega
    subst hb1
    repeat first | refine ω1 ?_ | refine ω2 ?_ | refine ω3 ?_ | refine ω4 ?_ | refine ω5 ?_ | refine χ1 ?_ | refine κ1 ?_ | refine κ2 ?_ | refine χ2 ?_ | refine κ3 ?_ | refine ω6 ?_ | refine ω7 ?_ | refine ω9 ?_ | refine κ4 ?_ | refine κ7 ?_ | refine κ8 ?_ | refine χ3 ?_ | refine χ4 ?_ | refine κ5 ?_ | refine κ6 ?_ | refine χ5 ?_ | refine χ6 ?_ | refine χ7 ?_ | refine ω8 ?_
    refine wloop2 (fun (i j : Nat) => [(0, .slice A n c), (1, .int .i64 (a : Int)), (2, .int .i64 (m : Int)), (4, .func (.func fid) first cap), (14, .int .i64 (i : Int)), (15, .int .i64 (j : Int))])
      (fun i j w' => a ≤ i ∧ i ≤ j ∧ j ≤ m ∧ (i = a ∨ ¬ fP ds (ps.getD m z0) (ps.getD (i - 1) z0) < 0) ∧ (j = m ∨ fP ds (ps.getD m z0) (ps.getD j z0) < 0) ∧ Ext w w') (fun i j => j - i) a m (by repeat' (first | exact Sub.nil | refine Sub.cons (by first | rfl | (refine congrArg (fun z => some (Value.int .i64 z)) ?_; omega)) ?_)) ⟨Nat.le_refl _, by omega, Nat.le_refl _, .inl rfl, .inl rfl, Ext.refl w⟩ ?_
    rintro i j w1 ⟨h1, h2, h3, h4, h5, hx1⟩
    repeat first | refine ω1 ?_ | refine ω2 ?_ | refine ω3 ?_ | refine ω4 ?_ | refine ω5 ?_ | refine χ1 ?_ | refine κ1 ?_ | refine κ2 ?_ | refine χ2 ?_ | refine κ3 ?_ | refine ω6 ?_ | refine ω7 ?_ | refine ω9 ?_ | refine κ4 ?_ | refine κ7 ?_ | refine κ8 ?_ | refine χ3 ?_ | refine χ4 ?_ | refine κ5 ?_ | refine κ6 ?_ | refine χ5 ?_ | refine χ6 ?_ | refine χ7 ?_ | refine ω8 ?_
    refine ci (fun h => ?_) (fun h => ?_)
    · have hij : i < j := by have := of_decide_eq_true h; omega
      repeat first | refine ω1 ?_ | refine ω2 ?_ | refine ω3 ?_ | refine ω4 ?_ | refine ω5 ?_ | refine χ1 ?_ | refine κ1 ?_ | refine κ2 ?_ | refine χ2 ?_ | refine κ3 ?_ | refine ω6 ?_ | refine ω7 ?_ | refine ω9 ?_ | refine κ4 ?_ | refine κ7 ?_ | refine κ8 ?_ | refine χ3 ?_ | refine χ4 ?_ | refine κ5 ?_ | refine κ6 ?_ | refine χ5 ?_ | refine χ6 ?_ | refine χ7 ?_ | refine ω8 ?_
      refine wshr rfl rfl (by decide) rfl ?_
      repeat first | refine ω1 ?_ | refine ω2 ?_ | refine ω3 ?_ | refine ω4 ?_ | refine ω5 ?_ | refine χ1 ?_ | refine κ1 ?_ | refine κ2 ?_ | refine χ2 ?_ | refine κ3 ?_ | refine ω6 ?_ | refine ω7 ?_ | refine ω9 ?_ | refine κ4 ?_ | refine κ7 ?_ | refine κ8 ?_ | refine χ3 ?_ | refine χ4 ?_ | refine κ5 ?_ | refine κ6 ?_ | refine χ5 ?_ | refine χ6 ?_ | refine χ7 ?_ | refine ω8 ?_
      rw [half i j (by omega)]
      have lh : (i + j) / 2 < n := by omega
      have lm : m < n := by omega
      refine dr [(0, 0), (0, 1), (0, 2), (0, 3), (0, 4), (0, 5), (0, 6), (0, 7), (0, 8), (1, 9), (0, 10), (0, 11)] (by kernel_rfl) ?_
      have hx2 : Ext w w1.drew := hx1.drew
      have hD2 := hD.ext hx2
      repeat first | refine δ1 ?_ | refine δ2 ?_ | refine δ4 ?_ | refine δ5 ?_ | refine δ6 ?_ | refine δ7 ?_ | refine δ9 ?_ | refine δ8 ?_ | refine χ1 ?_ | refine χ2 ?_ | refine χ3 ?_ | refine χ4 ?_ | refine χ5 ?_ | refine χ6 ?_ | refine χ7 ?_
      refine dix m (hD2.rd hn) lm ?_
      repeat first | refine δ1 ?_ | refine δ2 ?_ | refine δ4 ?_ | refine δ5 ?_ | refine δ6 ?_ | refine δ7 ?_ | refine δ9 ?_ | refine δ8 ?_ | refine χ1 ?_ | refine χ2 ?_ | refine χ3 ?_ | refine χ4 ?_ | refine χ5 ?_ | refine χ6 ?_ | refine χ7 ?_
      refine dld (hD2.cell hn lm) ?_
      repeat first | refine δ1 ?_ | refine δ2 ?_ | refine δ4 ?_ | refine δ5 ?_ | refine δ6 ?_ | refine δ7 ?_ | refine δ9 ?_ | refine δ8 ?_ | refine χ1 ?_ | refine χ2 ?_ | refine χ3 ?_ | refine χ4 ?_ | refine χ5 ?_ | refine χ6 ?_ | refine χ7 ?_
      refine dix ((i + j) / 2) (hD2.rd hn) lh ?_
      repeat first | refine δ1 ?_ | refine δ2 ?_ | refine δ4 ?_ | refine δ5 ?_ | refine δ6 ?_ | refine δ7 ?_ | refine δ9 ?_ | refine δ8 ?_ | refine χ1 ?_ | refine χ2 ?_ | refine χ3 ?_ | refine χ4 ?_ | refine χ5 ?_ | refine χ6 ?_ | refine χ7 ?_
      refine dld (hD2.cell hn lh) ?_
      repeat first | refine δ1 ?_ | refine δ2 ?_ | refine δ4 ?_ | refine δ5 ?_ | refine δ6 ?_ | refine δ7 ?_ | refine δ9 ?_ | refine δ8 ?_ | refine χ1 ?_ | refine χ2 ?_ | refine χ3 ?_ | refine χ4 ?_ | refine χ5 ?_ | refine χ6 ?_ | refine χ7 ?_
      refine dclv (hC' _ (ext_grown hx2 _) (ps.getD m z0) (ps.getD ((i + j) / 2) z0) (mem (List.Perm.refl _) _ lm) (mem (List.Perm.refl _) _ lh)) ?_
      rintro r w4 ⟨rfl, hx4⟩
      refine ⟨hx4, ?_⟩
      repeat first | refine δ1 ?_ | refine δ2 ?_ | refine δ4 ?_ | refine δ5 ?_ | refine δ6 ?_ | refine δ7 ?_ | refine δ9 ?_ | refine δ8 ?_ | refine χ1 ?_ | refine χ2 ?_ | refine χ3 ?_ | refine χ4 ?_ | refine χ5 ?_ | refine χ6 ?_ | refine χ7 ?_
      repeat first | refine ω1 ?_ | refine ω2 ?_ | refine ω3 ?_ | refine ω4 ?_ | refine ω5 ?_ | refine χ1 ?_ | refine κ1 ?_ | refine κ2 ?_ | refine χ2 ?_ | refine κ3 ?_ | refine ω6 ?_ | refine ω7 ?_ | refine ω9 ?_ | refine κ4 ?_ | refine κ7 ?_ | refine κ8 ?_ | refine χ3 ?_ | refine χ4 ?_ | refine κ5 ?_ | refine κ6 ?_ | refine χ5 ?_ | refine χ6 ?_ | refine χ7 ?_ | refine ω8 ?_
      refine ci (fun h => ?_) (fun h => ?_)
      · have hneg : ¬ fP ds (ps.getD m z0) (ps.getD ((i + j) / 2) z0) < 0 := by simpa using h
        repeat first | refine ω1 ?_ | refine ω2 ?_ | refine ω3 ?_ | refine ω4 ?_ | refine ω5 ?_ | refine χ1 ?_ | refine κ1 ?_ | refine κ2 ?_ | refine χ2 ?_ | refine κ3 ?_ | refine ω6 ?_ | refine ω7 ?_ | refine ω9 ?_ | refine κ4 ?_ | refine κ7 ?_ | refine κ8 ?_ | refine χ3 ?_ | refine χ4 ?_ | refine κ5 ?_ | refine κ6 ?_ | refine χ5 ?_ | refine χ6 ?_ | refine χ7 ?_ | refine ω8 ?_
        exact qround2 ((i + j) / 2 + 1) j (by repeat' (first | exact Sub.nil | refine Sub.cons (by first | rfl | (refine congrArg (fun z => some (Value.int .i64 z)) ?_; omega)) ?_)) ⟨by omega, by omega, h3, .inr (by rw [Nat.add_sub_cancel]; exact hneg), h5, hx2.trans hx4⟩ (by omega)
      · have hneg : fP ds (ps.getD m z0) (ps.getD ((i + j) / 2) z0) < 0 := by simpa using h
        repeat first | refine ω1 ?_ | refine ω2 ?_ | refine ω3 ?_ | refine ω4 ?_ | refine ω5 ?_ | refine χ1 ?_ | refine κ1 ?_ | refine κ2 ?_ | refine χ2 ?_ | refine κ3 ?_ | refine ω6 ?_ | refine ω7 ?_ | refine ω9 ?_ | refine κ4 ?_ | refine κ7 ?_ | refine κ8 ?_ | refine χ3 ?_ | refine χ4 ?_ | refine κ5 ?_ | refine κ6 ?_ | refine χ5 ?_ | refine χ6 ?_ | refine χ7 ?_ | refine ω8 ?_
        exact qround2 i ((i + j) / 2) (by repeat' (first | exact Sub.nil | refine Sub.cons (by first | rfl | (refine congrArg (fun z => some (Value.int .i64 z)) ?_; omega)) ?_)) ⟨by omega, by omega, by omega, h4, .inr hneg, hx2.trans hx4⟩ (by omega)
    · have hij : i = j := by have := of_decide_eq_false h; omega
      subst hij
      repeat first | refine ω1 ?_ | refine ω2 ?_ | refine ω3 ?_ | refine ω4 ?_ | refine ω5 ?_ | refine χ1 ?_ | refine κ1 ?_ | refine κ2 ?_ | refine χ2 ?_ | refine κ3 ?_ | refine ω6 ?_ | refine ω7 ?_ | refine ω9 ?_ | refine κ4 ?_ | refine κ7 ?_ | refine κ8 ?_ | refine χ3 ?_ | refine χ4 ?_ | refine κ5 ?_ | refine κ6 ?_ | refine χ5 ?_ | refine χ6 ?_ | refine χ7 ?_ | refine ω8 ?_
      refine wloop2 (fun (k : Nat) (q : List Pr) => [(0, .slice A n c), (14, .int .i64 (i : Int)), (17, .int .i64 (k : Int))])
        (fun k q w' => i ≤ k ∧ k ≤ m ∧ BubD z0 ps q m k ∧ Seg z0 a (m + 1) ps q ∧ Dat w' base (.slice A n c) q ∧ w.grownBy w' (Value.slice A n c).ownBlock) (fun k _ => k) m ps (by repeat' (first | exact Sub.nil | refine Sub.cons (by first | rfl | (refine congrArg (fun z => some (Value.int .i64 z)) ?_; omega)) ?_))
        ⟨by omega, Nat.le_refl _, BubD.start _ _, Seg.refl _ _ _, hD.ext hx1, ext_grown hx1 _⟩ ?_
      rintro k q w2 ⟨k1, k2, hB2, hS2, hD2, hg2⟩
      have hl2 : q.length = n := by rw [hS2.len, hn]
      repeat first | refine ω1 ?_ | refine ω2 ?_ | refine ω3 ?_ | refine ω4 ?_ | refine ω5 ?_ | refine χ1 ?_ | refine κ1 ?_ | refine κ2 ?_ | refine χ2 ?_ | refine κ3 ?_ | refine ω6 ?_ | refine ω7 ?_ | refine ω9 ?_ | refine κ4 ?_ | refine κ7 ?_ | refine κ8 ?_ | refine χ3 ?_ | refine χ4 ?_ | refine κ5 ?_ | refine κ6 ?_ | refine χ5 ?_ | refine χ6 ?_ | refine χ7 ?_ | refine ω8 ?_
      refine ci (fun h => ?_) (fun h => ?_)
      · have hk : i < k := by have := of_decide_eq_true h; omega
        have lk0 : k < n := by omega
        have lk1 : k - 1 < n := by omega
        repeat first | refine ω1 ?_ | refine ω2 ?_ | refine ω3 ?_ | refine ω4 ?_ | refine ω5 ?_ | refine χ1 ?_ | refine κ1 ?_ | refine κ2 ?_ | refine χ2 ?_ | refine κ3 ?_ | refine ω6 ?_ | refine ω7 ?_ | refine ω9 ?_ | refine κ4 ?_ | refine κ7 ?_ | refine κ8 ?_ | refine χ3 ?_ | refine χ4 ?_ | refine κ5 ?_ | refine κ6 ?_ | refine χ5 ?_ | refine χ6 ?_ | refine χ7 ?_ | refine ω8 ?_
        refine drC 4 [0, 1, 2, 3, 4, 5, 6, 7, 10, 11] [(0, 8), (0, 9), (0, 12), (0, 13), (0, 14), (2, 15), (2, 16), (2, 17)] (by kernel_rfl) ?_
        have hxe : Ext w2 w2.drew := (Ext.refl w2).drew
        have hD5 := hD2.ext hxe
        obtain ⟨s1, s2, s3, ⟨u, s4⟩, s5, s6⟩ := hD5.swap hl2 lk0 lk1
        repeat first | refine π1 ?_ | refine π2 ?_ | refine π4 ?_ | refine π5 ?_
        refine dix (k - 1) (hD5.rd hl2) lk1 ?_
        repeat first | refine δ1 ?_ | refine δ2 ?_ | refine δ4 ?_ | refine δ5 ?_ | refine δ6 ?_ | refine δ7 ?_ | refine δ9 ?_ | refine δ8 ?_ | refine χ1 ?_ | refine χ2 ?_ | refine χ3 ?_ | refine χ4 ?_ | refine χ5 ?_ | refine χ6 ?_ | refine χ7 ?_
        refine dld (hD5.cell hl2 lk1) ?_
        repeat first | refine δ1 ?_ | refine δ2 ?_ | refine δ4 ?_ | refine δ5 ?_ | refine δ6 ?_ | refine δ7 ?_ | refine δ9 ?_ | refine δ8 ?_ | refine χ1 ?_ | refine χ2 ?_ | refine χ3 ?_ | refine χ4 ?_ | refine χ5 ?_ | refine χ6 ?_ | refine χ7 ?_
        refine dix k (hD5.rd hl2) lk0 ?_
        repeat first | refine δ1 ?_ | refine δ2 ?_ | refine δ4 ?_ | refine δ5 ?_ | refine δ6 ?_ | refine δ7 ?_ | refine δ9 ?_ | refine δ8 ?_ | refine χ1 ?_ | refine χ2 ?_ | refine χ3 ?_ | refine χ4 ?_ | refine χ5 ?_ | refine χ6 ?_ | refine χ7 ?_
        refine dld (hD5.cell hl2 lk0) ?_
        repeat first | refine δ1 ?_ | refine δ2 ?_ | refine δ4 ?_ | refine δ5 ?_ | refine δ6 ?_ | refine δ7 ?_ | refine δ9 ?_ | refine δ8 ?_ | refine χ1 ?_ | refine χ2 ?_ | refine χ3 ?_ | refine χ4 ?_ | refine χ5 ?_ | refine χ6 ?_ | refine χ7 ?_
        refine dix k (hD5.rd hl2) lk0 ?_
        repeat first | refine δ1 ?_ | refine δ2 ?_ | refine δ4 ?_ | refine δ5 ?_ | refine δ6 ?_ | refine δ7 ?_ | refine δ9 ?_ | refine δ8 ?_ | refine χ1 ?_ | refine χ2 ?_ | refine χ3 ?_ | refine χ4 ?_ | refine χ5 ?_ | refine χ6 ?_ | refine χ7 ?_
        refine dtail ?_
        refine sto (hD5.cell hl2 lk0) s1 ?_ (hv := hD5.one (hl2.symm ▸ lk1))
        repeat first | refine ω1 ?_ | refine ω2 ?_ | refine ω3 ?_ | refine ω4 ?_ | refine ω5 ?_ | refine χ1 ?_ | refine κ1 ?_ | refine κ2 ?_ | refine χ2 ?_ | refine κ3 ?_ | refine ω6 ?_ | refine ω7 ?_ | refine ω9 ?_ | refine κ4 ?_ | refine κ7 ?_ | refine κ8 ?_ | refine χ3 ?_ | refine χ4 ?_ | refine κ5 ?_ | refine κ6 ?_ | refine χ5 ?_ | refine χ6 ?_ | refine χ7 ?_ | refine ω8 ?_
        refine dback ?_
        refine dtail ?_
        refine ix (k - 1) s2 lk1 ?_
        repeat first | refine ω1 ?_ | refine ω2 ?_ | refine ω3 ?_ | refine ω4 ?_ | refine ω5 ?_ | refine χ1 ?_ | refine κ1 ?_ | refine κ2 ?_ | refine χ2 ?_ | refine κ3 ?_ | refine ω6 ?_ | refine ω7 ?_ | refine ω9 ?_ | refine κ4 ?_ | refine κ7 ?_ | refine κ8 ?_ | refine χ3 ?_ | refine χ4 ?_ | refine κ5 ?_ | refine κ6 ?_ | refine χ5 ?_ | refine χ6 ?_ | refine χ7 ?_ | refine ω8 ?_
        refine dback ?_
        refine dtail ?_
        refine sto s4 s3 ?_ (hv := hD5.one (hl2.symm ▸ lk0))
        repeat first | refine ω1 ?_ | refine ω2 ?_ | refine ω3 ?_ | refine ω4 ?_ | refine ω5 ?_ | refine χ1 ?_ | refine κ1 ?_ | refine κ2 ?_ | refine χ2 ?_ | refine κ3 ?_ | refine ω6 ?_ | refine ω7 ?_ | refine ω9 ?_ | refine κ4 ?_ | refine κ7 ?_ | refine κ8 ?_ | refine χ3 ?_ | refine χ4 ?_ | refine κ5 ?_ | refine κ6 ?_ | refine χ5 ?_ | refine χ6 ?_ | refine χ7 ?_ | refine ω8 ?_
        exact qround2 (k - 1) (swp z0 q k (k - 1)) (by repeat' (first | exact Sub.nil | refine Sub.cons (by first | rfl | (refine congrArg (fun z => some (Value.int .i64 z)) ?_; omega)) ?_)) ⟨by omega, by omega, hB2.step k2 (by omega) (by omega), hS2.trans (Seg.swp (by omega) (by omega) (by omega) (by omega) (by omega)), s5, grown_trans hg2 (grown_trans (ext_grown hxe _) s6)⟩ (by omega)
      · have hk : k = i := by have := of_decide_eq_false h; omega
        subst hk
        repeat first | refine ω1 ?_ | refine ω2 ?_ | refine ω3 ?_ | refine ω4 ?_ | refine ω5 ?_ | refine χ1 ?_ | refine κ1 ?_ | refine κ2 ?_ | refine χ2 ?_ | refine κ3 ?_ | refine ω6 ?_ | refine ω7 ?_ | refine ω9 ?_ | refine κ4 ?_ | refine κ7 ?_ | refine κ8 ?_ | refine χ3 ?_ | refine χ4 ?_ | refine κ5 ?_ | refine κ6 ?_ | refine χ5 ?_ | refine χ6 ?_ | refine χ7 ?_ | refine ω8 ?_
        exact fin0 ⟨q, hD2, hS2, hB2.sorted (preP ds) hO1 h1 k2 h4 h5, hg2⟩
  have hb2 : b ≠ m + 1 := by have := of_beq_f h; omega
  repeat first | refine ω1 ?_ | refine ω2 ?_ | refine ω3 ?_ | refine ω4 ?_ | refine ω5 ?_ | refine χ1 ?_ | refine κ1 ?_ | refine κ2 ?_ | refine χ2 ?_ | refine κ3 ?_ | refine ω6 ?_ | refine ω7 ?_ | refine ω9 ?_ | refine κ4 ?_ | refine κ7 ?_ | refine κ8 ?_ | refine χ3 ?_ | refine χ4 ?_ | refine κ5 ?_ | refine κ6 ?_ | refine χ5 ?_ | refine χ6 ?_ | refine χ7 ?_ | refine ω8 ?_
  refine wshr rfl rfl (by decide) rfl ?_
  repeat first | refine ω1 ?_ | refine ω2 ?_ | refine ω3 ?_ | refine ω4 ?_ | refine ω5 ?_ | refine χ1 ?_ | refine κ1 ?_ | refine κ2 ?_ | refine χ2 ?_ | refine κ3 ?_ | refine ω6 ?_ | refine ω7 ?_ | refine ω9 ?_ | refine κ4 ?_ | refine κ7 ?_ | refine κ8 ?_ | refine χ3 ?_ | refine χ4 ?_ | refine κ5 ?_ | refine κ6 ?_ | refine χ5 ?_ | refine χ6 ?_ | refine χ7 ?_ | refine ω8 ?_
  rw [half a b (by omega)]
  generalize hmid : (a + b) / 2 = mid
  rw [i64w (z := (mid : Int) + (m : Int)) (by omega)]
  refine wjoin2 (fun (s r : Nat) => [(0, .slice A n c), (1, .int .i64 (a : Int)), (2, .int .i64 (m : Int)), (3, .int .i64 (b : Int)), (4, .func (.func fid) first cap), (18, .int .i64 (mid : Int)), (19, .int .i64 ((mid : Int) + (m : Int))), (20, .int .i64 (s : Int)), (21, .int .i64 (r : Int))])
    (fun s r w' => s = (if mid < m then mid + m - b else a) ∧ r = (if mid < m then mid else m) ∧ w' = w) ?_ ?_
  · refine ci (fun h => ?_) (fun h => ?_)
    · have hlt : mid < m := by have := of_decide_eq_true h; omega
      repeat first | refine ω1 ?_ | refine ω2 ?_ | refine ω3 ?_ | refine ω4 ?_ | refine ω5 ?_ | refine χ1 ?_ | refine κ1 ?_ | refine κ2 ?_ | refine χ2 ?_ | refine κ3 ?_ | refine ω6 ?_ | refine ω7 ?_ | refine ω9 ?_ | refine κ4 ?_ | refine κ7 ?_ | refine κ8 ?_ | refine χ3 ?_ | refine χ4 ?_ | refine κ5 ?_ | refine κ6 ?_ | refine χ5 ?_ | refine χ6 ?_ | refine χ7 ?_ | refine ω8 ?_
      refine qjoin2 (mid + m - b) mid (by repeat' (first | exact Sub.nil | refine Sub.cons (by first | rfl | (refine congrArg (fun z => some (Value.int .i64 z)) ?_; omega)) ?_)) ⟨by rw [if_pos hlt], by rw [if_pos hlt], rfl⟩
    · have hlt : ¬ mid < m := by have := of_decide_eq_false h; omega
      repeat first | refine ω1 ?_ | refine ω2 ?_ | refine ω3 ?_ | refine ω4 ?_ | refine ω5 ?_ | refine χ1 ?_ | refine κ1 ?_ | refine κ2 ?_ | refine χ2 ?_ | refine κ3 ?_ | refine ω6 ?_ | refine ω7 ?_ | refine ω9 ?_ | refine κ4 ?_ | refine κ7 ?_ | refine κ8 ?_ | refine χ3 ?_ | refine χ4 ?_ | refine κ5 ?_ | refine κ6 ?_ | refine χ5 ?_ | refine χ6 ?_ | refine χ7 ?_ | refine ω8 ?_
      refine qjoin2 a m (by repeat' (first | exact Sub.nil | refine Sub.cons (by first | rfl | (refine congrArg (fun z => some (Value.int .i64 z)) ?_; omega)) ?_)) ⟨by rw [if_neg hlt], by rw [if_neg hlt], rfl⟩
  rintro s0 r0 w' ⟨hs0, hr0, rfl⟩
  have hs0' : a ≤ s0 := by rw [hs0]; split <;> omega
  have hr0' : r0 ≤ m ∧ r0 ≤ mid := by rw [hr0]; split <;> omega
  have hsr : s0 ≤ r0 := by rw [hs0, hr0]; split <;> omega
  have hp0 : mid + m - s0 ≤ b := by rw [hs0]; split <;> omega
  repeat first | refine ω1 ?_ | refine ω2 ?_ | refine ω3 ?_ | refine ω4 ?_ | refine ω5 ?_ | refine χ1 ?_ | refine κ1 ?_ | refine κ2 ?_ | refine χ2 ?_ | refine κ3 ?_ | refine ω6 ?_ | refine ω7 ?_ | refine ω9 ?_ | refine κ4 ?_ | refine κ7 ?_ | refine κ8 ?_ | refine χ3 ?_ | refine χ4 ?_ | refine κ5 ?_ | refine κ6 ?_ | refine χ5 ?_ | refine χ6 ?_ | refine χ7 ?_ | refine ω8 ?_
  refine wloop2 (fun (s r : Nat) => [(0, .slice A n c), (1, .int .i64 (a : Int)), (2, .int .i64 (m : Int)), (3, .int .i64 (b : Int)), (4, .func (.func fid) first cap), (18, .int .i64 (mid : Int)), (19, .int .i64 ((mid : Int) + (m : Int))), (22, .int .i64 ((mid : Int) + (m : Int) - 1)), (20, .int .i64 (s : Int)), (21, .int .i64 (r : Int))])
    (fun s r w1 => s0 ≤ s ∧ s ≤ r ∧ r ≤ r0 ∧ (s = s0 ∨ ¬ fP ds (ps.getD (mid + m - 1 - (s - 1)) z0) (ps.getD (s - 1) z0) < 0) ∧ (r = r0 ∨ fP ds (ps.getD (mid + m - 1 - r) z0) (ps.getD r z0) < 0) ∧ Ext w' w1) (fun s r => r - s) s0 r0 (by repeat' (first | exact Sub.nil | refine Sub.cons (by first | rfl | (refine congrArg (fun z => some (Value.int .i64 z)) ?_; omega)) ?_))
    ⟨Nat.le_refl _, hsr, Nat.le_refl _, .inl rfl, .inl rfl, Ext.refl _⟩ ?_
  rintro s r w1 ⟨h1, h2, h3, h4, h5, hx1⟩
  repeat first | refine ω1 ?_ | refine ω2 ?_ | refine ω3 ?_ | refine ω4 ?_ | refine ω5 ?_ | refine χ1 ?_ | refine κ1 ?_ | refine κ2 ?_ | refine χ2 ?_ | refine κ3 ?_ | refine ω6 ?_ | refine ω7 ?_ | refine ω9 ?_ | refine κ4 ?_ | refine κ7 ?_ | refine κ8 ?_ | refine χ3 ?_ | refine χ4 ?_ | refine κ5 ?_ | refine κ6 ?_ | refine χ5 ?_ | refine χ6 ?_ | refine χ7 ?_ | refine ω8 ?_
  refine ci (fun h => ?_) (fun h => ?_)
  · have hsr2 : s < r := by have := of_decide_eq_true h; omega
    repeat first | refine ω1 ?_ | refine ω2 ?_ | refine ω3 ?_ | refine ω4 ?_ | refine ω5 ?_ | refine χ1 ?_ | refine κ1 ?_ | refine κ2 ?_ | refine χ2 ?_ | refine κ3 ?_ | refine ω6 ?_ | refine ω7 ?_ | refine ω9 ?_ | refine κ4 ?_ | refine κ7 ?_ | refine κ8 ?_ | refine χ3 ?_ | refine χ4 ?_ | refine κ5 ?_ | refine κ6 ?_ | refine χ5 ?_ | refine χ6 ?_ | refine χ7 ?_ | refine ω8 ?_
    refine wshr rfl rfl (by decide) rfl ?_
    repeat first | refine ω1 ?_ | refine ω2 ?_ | refine ω3 ?_ | refine ω4 ?_ | refine ω5 ?_ | refine χ1 ?_ | refine κ1 ?_ | refine κ2 ?_ | refine χ2 ?_ | refine κ3 ?_ | refine ω6 ?_ | refine ω7 ?_ | refine ω9 ?_ | refine κ4 ?_ | refine κ7 ?_ | refine κ8 ?_ | refine χ3 ?_ | refine χ4 ?_ | refine κ5 ?_ | refine κ6 ?_ | refine χ5 ?_ | refine χ6 ?_ | refine χ7 ?_ | refine ω8 ?_
    rw [half s r (by omega)]
    generalize hc : (s + r) / 2 = k
    have lk0 : k < n := by omega
    have lp : mid + m - 1 - k < n := by omega
    refine dr [(0, 0), (0, 1), (0, 2), (0, 3), (0, 4), (0, 5), (0, 6), (0, 7), (0, 8), (0, 9), (0, 10), (1, 11), (0, 12), (0, 13)] (by kernel_rfl) ?_
    have hx2 : Ext w' w1.drew := hx1.drew
    have hD2 := hD.ext hx2
    repeat first | refine δ1 ?_ | refine δ2 ?_ | refine δ4 ?_ | refine δ5 ?_ | refine δ6 ?_ | refine δ7 ?_ | refine δ9 ?_ | refine δ8 ?_ | refine χ1 ?_ | refine χ2 ?_ | refine χ3 ?_ | refine χ4 ?_ | refine χ5 ?_ | refine χ6 ?_ | refine χ7 ?_
    refine dix (mid + m - 1 - k) (hD2.rd hn) lp ?_
    repeat first | refine δ1 ?_ | refine δ2 ?_ | refine δ4 ?_ | refine δ5 ?_ | refine δ6 ?_ | refine δ7 ?_ | refine δ9 ?_ | refine δ8 ?_ | refine χ1 ?_ | refine χ2 ?_ | refine χ3 ?_ | refine χ4 ?_ | refine χ5 ?_ | refine χ6 ?_ | refine χ7 ?_
    refine dld (hD2.cell hn lp) ?_
    repeat first | refine δ1 ?_ | refine δ2 ?_ | refine δ4 ?_ | refine δ5 ?_ | refine δ6 ?_ | refine δ7 ?_ | refine δ9 ?_ | refine δ8 ?_ | refine χ1 ?_ | refine χ2 ?_ | refine χ3 ?_ | refine χ4 ?_ | refine χ5 ?_ | refine χ6 ?_ | refine χ7 ?_
    refine dix k (hD2.rd hn) lk0 ?_
    repeat first | refine δ1 ?_ | refine δ2 ?_ | refine δ4 ?_ | refine δ5 ?_ | refine δ6 ?_ | refine δ7 ?_ | refine δ9 ?_ | refine δ8 ?_ | refine χ1 ?_ | refine χ2 ?_ | refine χ3 ?_ | refine χ4 ?_ | refine χ5 ?_ | refine χ6 ?_ | refine χ7 ?_
    refine dld (hD2.cell hn lk0) ?_
    repeat first | refine δ1 ?_ | refine δ2 ?_ | refine δ4 ?_ | refine δ5 ?_ | refine δ6 ?_ | refine δ7 ?_ | refine δ9 ?_ | refine δ8 ?_ | refine χ1 ?_ | refine χ2 ?_ | refine χ3 ?_ | refine χ4 ?_ | refine χ5 ?_ | refine χ6 ?_ | refine χ7 ?_
    refine dclv (hC' _ (ext_grown hx2 _) (ps.getD (mid + m - 1 - k) z0) (ps.getD k z0) (mem (List.Perm.refl _) _ lp) (mem (List.Perm.refl _) _ lk0)) ?_
    rintro r' w4 ⟨rfl, hx4⟩
    refine ⟨hx4, ?_⟩
    repeat first | refine δ1 ?_ | refine δ2 ?_ | refine δ4 ?_ | refine δ5 ?_ | refine δ6 ?_ | refine δ7 ?_ | refine δ9 ?_ | refine δ8 ?_ | refine χ1 ?_ | refine χ2 ?_ | refine χ3 ?_ | refine χ4 ?_ | refine χ5 ?_ | refine χ6 ?_ | refine χ7 ?_
    repeat first | refine ω1 ?_ | refine ω2 ?_ | refine ω3 ?_ | refine ω4 ?_ | refine ω5 ?_ | refine χ1 ?_ | refine κ1 ?_ | refine κ2 ?_ | refine χ2 ?_ | refine κ3 ?_ | refine ω6 ?_ | refine ω7 ?_ | refine ω9 ?_ | refine κ4 ?_ | refine κ7 ?_ | refine κ8 ?_ | refine χ3 ?_ | refine χ4 ?_ | refine κ5 ?_ | refine κ6 ?_ | refine χ5 ?_ | refine χ6 ?_ | refine χ7 ?_ | refine ω8 ?_
    refine ci (fun h => ?_) (fun h => ?_)
    · have hneg : ¬ fP ds (ps.getD (mid + m - 1 - k) z0) (ps.getD k z0) < 0 := by simpa using h
      repeat first | refine ω1 ?_ | refine ω2 ?_ | refine ω3 ?_ | refine ω4 ?_ | refine ω5 ?_ | refine χ1 ?_ | refine κ1 ?_ | refine κ2 ?_ | refine χ2 ?_ | refine κ3 ?_ | refine ω6 ?_ | refine ω7 ?_ | refine ω9 ?_ | refine κ4 ?_ | refine κ7 ?_ | refine κ8 ?_ | refine χ3 ?_ | refine χ4 ?_ | refine κ5 ?_ | refine κ6 ?_ | refine χ5 ?_ | refine χ6 ?_ | refine χ7 ?_ | refine ω8 ?_
      exact qround2 (k + 1) r (by repeat' (first | exact Sub.nil | refine Sub.cons (by first | rfl | (refine congrArg (fun z => some (Value.int .i64 z)) ?_; omega)) ?_)) ⟨by omega, by omega, h3, .inr (by rw [Nat.add_sub_cancel]; exact hneg), h5, hx2.trans hx4⟩ (by omega)
    · have hneg : fP ds (ps.getD (mid + m - 1 - k) z0) (ps.getD k z0) < 0 := by simpa using h
      repeat first | refine ω1 ?_ | refine ω2 ?_ | refine ω3 ?_ | refine ω4 ?_ | refine ω5 ?_ | refine χ1 ?_ | refine κ1 ?_ | refine κ2 ?_ | refine χ2 ?_ | refine κ3 ?_ | refine ω6 ?_ | refine ω7 ?_ | refine ω9 ?_ | refine κ4 ?_ | refine κ7 ?_ | refine κ8 ?_ | refine χ3 ?_ | refine χ4 ?_ | refine κ5 ?_ | refine κ6 ?_ | refine χ5 ?_ | refine χ6 ?_ | refine χ7 ?_ | refine ω8 ?_
      exact qround2 s k (by repeat' (first | exact Sub.nil | refine Sub.cons (by first | rfl | (refine congrArg (fun z => some (Value.int .i64 z)) ?_; omega)) ?_)) ⟨by omega, by omega, by omega, h4, .inr hneg, hx2.trans hx4⟩ (by omega)
  have hsr2 : s = r := by have := of_decide_eq_false h; omega
  subst hsr2
  have spl : ∀ q1 : List Pr, (∀ k, q1.getD k z0 = rotf z0 ps s m (mid + m - s) k) → _ := fun q1 hq => split (preP ds) hO1 hO2 ham hmb hmid.symm hs0 hr0 h1 h3 rfl h4 h5 hq
  have hend : m ≤ mid + m - s ∧ mid ≤ mid + m - s := by omega
  generalize he : mid + m - s = e at spl hend
  have hD1 := hD.ext hx1
  repeat first | refine ω1 ?_ | refine ω2 ?_ | refine ω3 ?_ | refine ω4 ?_ | refine ω5 ?_ | refine χ1 ?_ | refine κ1 ?_ | refine κ2 ?_ | refine χ2 ?_ | refine κ3 ?_ | refine ω6 ?_ | refine ω7 ?_ | refine ω9 ?_ | refine κ4 ?_ | refine κ7 ?_ | refine κ8 ?_ | refine χ3 ?_ | refine χ4 ?_ | refine κ5 ?_ | refine κ6 ?_ | refine χ5 ?_ | refine χ6 ?_ | refine χ7 ?_ | refine ω8 ?_
  refine wljoin1 (fun (t : Bool) => [(0, .slice A n c), (1, .int .i64 (a : Int)), (2, .int .i64 (m : Int)), (3, .int .i64 (b : Int)), (4, .func (.func fid) first cap), (18, .int .i64 (mid : Int)), (20, .int .i64 (s : Int)), (24, .int .i64 (e : Int)), (185, .bool t)])
    (fun t w2 => w2 = w1 ∧ t = decide (s < m ∧ m < e)) ?_ ?_
  · refine ki 181 (fun h => ?_) (fun h => ?_)
    · have hlt : s < m := by have := of_decide_eq_true h; omega
      repeat first | refine ω1 ?_ | refine ω2 ?_ | refine ω3 ?_ | refine ω4 ?_ | refine ω5 ?_ | refine χ1 ?_ | refine κ1 ?_ | refine κ2 ?_ | refine χ2 ?_ | refine κ3 ?_ | refine ω6 ?_ | refine ω7 ?_ | refine ω9 ?_ | refine κ4 ?_ | refine κ7 ?_ | refine κ8 ?_ | refine χ3 ?_ | refine χ4 ?_ | refine κ5 ?_ | refine κ6 ?_ | refine χ5 ?_ | refine χ6 ?_ | refine χ7 ?_ | refine ω8 ?_
      refine qjoin1 (decide (m < e)) ?_ ⟨rfl, by simp [hlt]⟩
      rw [show decide ((m : Int) < (mid : Int) + (m : Int) - (s : Int)) = decide (m < e) by rw [Bool.eq_iff_iff, decide_eq_true_iff, decide_eq_true_iff]; omega]
      exact (by repeat' (first | exact Sub.nil | refine Sub.cons (by first | rfl | (refine congrArg (fun z => some (Value.int .i64 z)) ?_; omega)) ?_))
    · have hlt : ¬ s < m := by have := of_decide_eq_false h; omega
      repeat first | refine ω1 ?_ | refine ω2 ?_ | refine ω3 ?_ | refine ω4 ?_ | refine ω5 ?_ | refine χ1 ?_ | refine κ1 ?_ | refine κ2 ?_ | refine χ2 ?_ | refine κ3 ?_ | refine ω6 ?_ | refine ω7 ?_ | refine ω9 ?_ | refine κ4 ?_ | refine κ7 ?_ | refine κ8 ?_ | refine χ3 ?_ | refine χ4 ?_ | refine κ5 ?_ | refine κ6 ?_ | refine χ5 ?_ | refine χ6 ?_ | refine χ7 ?_ | refine ω8 ?_
      exact qjoin1 false (by repeat' (first | exact Sub.nil | refine Sub.cons (by first | rfl | (refine congrArg (fun z => some (Value.int .i64 z)) ?_; omega)) ?_)) ⟨rfl, by simp [hlt]⟩
  rintro t w2 ⟨rfl, rfl⟩
  repeat first | refine ω1 ?_ | refine ω2 ?_ | refine ω3 ?_ | refine ω4 ?_ | refine ω5 ?_ | refine χ1 ?_ | refine κ1 ?_ | refine κ2 ?_ | refine χ2 ?_ | refine κ3 ?_ | refine ω6 ?_ | refine ω7 ?_ | refine ω9 ?_ | refine κ4 ?_ | refine κ7 ?_ | refine κ8 ?_ | refine χ3 ?_ | refine χ4 ?_ | refine κ5 ?_ | refine κ6 ?_ | refine χ5 ?_ | refine χ6 ?_ | refine χ7 ?_ | refine ω8 ?_
  refine wjoin1 (fun (q : List Pr) => [(0, .slice A n c), (1, .int .i64 (a : Int)), (3, .int .i64 (b : Int)), (4, .func (.func fid) first cap), (18, .int .i64 (mid : Int)), (20, .int .i64 (s : Int)), (24, .int .i64 (e : Int))])
    (fun q w3 => Dat w3 base (.slice A n c) q ∧ q.Perm ps ∧ (∀ k, q.getD k z0 = rotf z0 ps s m e k) ∧ w'.grownBy w3 (Value.slice A n c).ownBlock) ?_ ?_
  · refine ci (fun h => ?_) (fun h => ?_)
    · obtain ⟨g1, g2⟩ := of_decide_eq_true h
      repeat first | refine ω1 ?_ | refine ω2 ?_ | refine ω3 ?_ | refine ω4 ?_ | refine ω5 ?_ | refine χ1 ?_ | refine κ1 ?_ | refine κ2 ?_ | refine χ2 ?_ | refine κ3 ?_ | refine ω6 ?_ | refine ω7 ?_ | refine ω9 ?_ | refine κ4 ?_ | refine κ7 ?_ | refine κ8 ?_ | refine χ3 ?_ | refine χ4 ?_ | refine κ5 ?_ | refine κ6 ?_ | refine χ5 ?_ | refine χ6 ?_ | refine χ7 ?_ | refine ω8 ?_
      refine cl (rotate_any (s := s) (m := m) (e := e) hD1 hn rfl rfl rfl g1 g2 (by omega) hmx) ?_
      rintro v w3 ⟨q3, hD3, hp3, hr3, hg3⟩
      repeat first | refine ω1 ?_ | refine ω2 ?_ | refine ω3 ?_ | refine ω4 ?_ | refine ω5 ?_ | refine χ1 ?_ | refine κ1 ?_ | refine κ2 ?_ | refine χ2 ?_ | refine κ3 ?_ | refine ω6 ?_ | refine ω7 ?_ | refine ω9 ?_ | refine κ4 ?_ | refine κ7 ?_ | refine κ8 ?_ | refine χ3 ?_ | refine χ4 ?_ | refine κ5 ?_ | refine κ6 ?_ | refine χ5 ?_ | refine χ6 ?_ | refine χ7 ?_ | refine ω8 ?_
      exact qjoin1 q3 (by repeat' (first | exact Sub.nil | refine Sub.cons rfl ?_)) ⟨hD3, hp3, hr3, grown_trans (ext_grown hx1 _) hg3⟩
    · have hno := of_decide_eq_false h
      repeat first | refine ω1 ?_ | refine ω2 ?_ | refine ω3 ?_ | refine ω4 ?_ | refine ω5 ?_ | refine χ1 ?_ | refine κ1 ?_ | refine κ2 ?_ | refine χ2 ?_ | refine κ3 ?_ | refine ω6 ?_ | refine ω7 ?_ | refine ω9 ?_ | refine κ4 ?_ | refine κ7 ?_ | refine κ8 ?_ | refine χ3 ?_ | refine χ4 ?_ | refine κ5 ?_ | refine κ6 ?_ | refine χ5 ?_ | refine χ6 ?_ | refine χ7 ?_ | refine ω8 ?_
      refine qjoin1 ps (by repeat' (first | exact Sub.nil | refine Sub.cons rfl ?_)) ⟨hD1, List.Perm.refl _, fun k => ?_, ext_grown hx1 _⟩
      unfold rotf
      have : s = m ∨ e = m := by omega
      rcases this with rfl | rfl
      · split
        · rfl
        · split
          · rw [show k - s + s = k by omega]
          · split
            · omega
            · rfl
      · split
        · rfl
        · split
          · omega
          · split
            · rw [show k - (e - e) = k by omega]
            · rfl
  rintro q1 w3 ⟨hD3, hp3, hr3, hg3⟩
  obtain ⟨hspl, t1, t2, t3, t4, t5, t6⟩ := spl q1 hr3
  have hl3 : q1.length = n := by rw [hp3.length_eq, hn]
  have hS3 : Seg z0 a b ps q1 := ⟨hp3, fun k hk => by rw [hr3, rotf, if_pos (by omega)], fun k hk => by rw [hr3, rotf, if_neg (by omega), if_neg (by omega), if_neg (by omega)]⟩
  repeat first | refine ω1 ?_ | refine ω2 ?_ | refine ω3 ?_ | refine ω4 ?_ | refine ω5 ?_ | refine χ1 ?_ | refine κ1 ?_ | refine κ2 ?_ | refine χ2 ?_ | refine κ3 ?_ | refine ω6 ?_ | refine ω7 ?_ | refine ω9 ?_ | refine κ4 ?_ | refine κ7 ?_ | refine κ8 ?_ | refine χ3 ?_ | refine χ4 ?_ | refine κ5 ?_ | refine κ6 ?_ | refine χ5 ?_ | refine χ6 ?_ | refine χ7 ?_ | refine ω8 ?_
  -- the first half
  refine wljoin1 (fun (t : Bool) => [(0, .slice A n c), (1, .int .i64 (a : Int)), (3, .int .i64 (b : Int)), (4, .func (.func fid) first cap), (18, .int .i64 (mid : Int)), (20, .int .i64 (s : Int)), (24, .int .i64 (e : Int)), (199, .bool t)])
    (fun t w2 => w2 = w3 ∧ t = decide (a < s ∧ s < mid)) ?_ ?_
  · refine ki 195 (fun h => ?_) (fun h => ?_)
    · have hlt : a < s := by have := of_decide_eq_true h; omega
      repeat first | refine ω1 ?_ | refine ω2 ?_ | refine ω3 ?_ | refine ω4 ?_ | refine ω5 ?_ | refine χ1 ?_ | refine κ1 ?_ | refine κ2 ?_ | refine χ2 ?_ | refine κ3 ?_ | refine ω6 ?_ | refine ω7 ?_ | refine ω9 ?_ | refine κ4 ?_ | refine κ7 ?_ | refine κ8 ?_ | refine χ3 ?_ | refine χ4 ?_ | refine κ5 ?_ | refine κ6 ?_ | refine χ5 ?_ | refine χ6 ?_ | refine χ7 ?_ | refine ω8 ?_
      refine qjoin1 (decide (s < mid)) ?_ ⟨rfl, by simp [hlt]⟩
      rw [show decide ((s : Int) < (mid : Int)) = decide (s < mid) by rw [Bool.eq_iff_iff, decide_eq_true_iff, decide_eq_true_iff]; omega]
      exact (by repeat' (first | exact Sub.nil | refine Sub.cons (by first | rfl | (refine congrArg (fun z => some (Value.int .i64 z)) ?_; omega)) ?_))
    · have hlt : ¬ a < s := by have := of_decide_eq_false h; omega
      repeat first | refine ω1 ?_ | refine ω2 ?_ | refine ω3 ?_ | refine ω4 ?_ | refine ω5 ?_ | refine χ1 ?_ | refine κ1 ?_ | refine κ2 ?_ | refine χ2 ?_ | refine κ3 ?_ | refine ω6 ?_ | refine ω7 ?_ | refine ω9 ?_ | refine κ4 ?_ | refine κ7 ?_ | refine κ8 ?_ | refine χ3 ?_ | refine χ4 ?_ | refine κ5 ?_ | refine κ6 ?_ | refine χ5 ?_ | refine χ6 ?_ | refine χ7 ?_ | refine ω8 ?_
      exact qjoin1 false (by repeat' (first | exact Sub.nil | refine Sub.cons (by first | rfl | (refine congrArg (fun z => some (Value.int .i64 z)) ?_; omega)) ?_)) ⟨rfl, by simp [hlt]⟩
  rintro t w4 ⟨rfl, rfl⟩
  repeat first | refine ω1 ?_ | refine ω2 ?_ | refine ω3 ?_ | refine ω4 ?_ | refine ω5 ?_ | refine χ1 ?_ | refine κ1 ?_ | refine κ2 ?_ | refine χ2 ?_ | refine κ3 ?_ | refine ω6 ?_ | refine ω7 ?_ | refine ω9 ?_ | refine κ4 ?_ | refine κ7 ?_ | refine κ8 ?_ | refine χ3 ?_ | refine χ4 ?_ | refine κ5 ?_ | refine κ6 ?_ | refine χ5 ?_ | refine χ6 ?_ | refine χ7 ?_ | refine ω8 ?_
  refine wjoin1 (fun (q : List Pr) => [(0, .slice A n c), (3, .int .i64 (b : Int)), (4, .func (.func fid) first cap), (18, .int .i64 (mid : Int)), (24, .int .i64 (e : Int))])
    (fun q w5 => Dat w5 base (.slice A n c) q ∧ Seg z0 a mid q1 q ∧ SOn z0 (fP ds) q a mid ∧ w'.grownBy w5 (Value.slice A n c).ownBlock) ?_ ?_
  · refine ci (fun h => ?_) (fun h => ?_)
    · obtain ⟨g1, g2⟩ := of_decide_eq_true h
      repeat first | refine ω1 ?_ | refine ω2 ?_ | refine ω3 ?_ | refine ω4 ?_ | refine ω5 ?_ | refine χ1 ?_ | refine κ1 ?_ | refine κ2 ?_ | refine χ2 ?_ | refine κ3 ?_ | refine ω6 ?_ | refine ω7 ?_ | refine ω9 ?_ | refine κ4 ?_ | refine κ7 ?_ | refine κ8 ?_ | refine χ3 ?_ | refine χ4 ?_ | refine κ5 ?_ | refine κ6 ?_ | refine χ5 ?_ | refine χ6 ?_ | refine χ7 ?_ | refine ω8 ?_
      refine cl (ih (a := a) (m := s) (b := mid) (ds := ds) (by omega) hD3 hl3 rfl rfl rfl g1 g2 (by omega) hmx (hC.step hg3 hp3) hspl.s1 hspl.s2) ?_
      rintro v w5 ⟨q5, hD5, hS5, hO5, hg5⟩
      repeat first | refine ω1 ?_ | refine ω2 ?_ | refine ω3 ?_ | refine ω4 ?_ | refine ω5 ?_ | refine χ1 ?_ | refine κ1 ?_ | refine κ2 ?_ | refine χ2 ?_ | refine κ3 ?_ | refine ω6 ?_ | refine ω7 ?_ | refine ω9 ?_ | refine κ4 ?_ | refine κ7 ?_ | refine κ8 ?_ | refine χ3 ?_ | refine χ4 ?_ | refine κ5 ?_ | refine κ6 ?_ | refine χ5 ?_ | refine χ6 ?_ | refine χ7 ?_ | refine ω8 ?_
      exact qjoin1 q5 (by repeat' (first | exact Sub.nil | refine Sub.cons rfl ?_)) ⟨hD5, hS5, hO5, grown_trans hg3 hg5⟩
    · have hno := of_decide_eq_false h
      repeat first | refine ω1 ?_ | refine ω2 ?_ | refine ω3 ?_ | refine ω4 ?_ | refine ω5 ?_ | refine χ1 ?_ | refine κ1 ?_ | refine κ2 ?_ | refine χ2 ?_ | refine κ3 ?_ | refine ω6 ?_ | refine ω7 ?_ | refine ω9 ?_ | refine κ4 ?_ | refine κ7 ?_ | refine κ8 ?_ | refine χ3 ?_ | refine χ4 ?_ | refine κ5 ?_ | refine κ6 ?_ | refine χ5 ?_ | refine χ6 ?_ | refine χ7 ?_ | refine ω8 ?_
      refine qjoin1 q1 (by repeat' (first | exact Sub.nil | refine Sub.cons rfl ?_)) ⟨hD3, Seg.refl _ _ _, ?_, hg3⟩
      have : a = s ∨ s = mid := by omega
      rcases this with h' | h'
      · rw [h']; exact hspl.s2
      · rw [← h']; exact hspl.s1
  rintro q2 w5 ⟨hD5, hS5, hO5, hg5⟩
  have hl5 : q2.length = n := by rw [hS5.len, hl3]
  repeat first | refine ω1 ?_ | refine ω2 ?_ | refine ω3 ?_ | refine ω4 ?_ | refine ω5 ?_ | refine χ1 ?_ | refine κ1 ?_ | refine κ2 ?_ | refine χ2 ?_ | refine κ3 ?_ | refine ω6 ?_ | refine ω7 ?_ | refine ω9 ?_ | refine κ4 ?_ | refine κ7 ?_ | refine κ8 ?_ | refine χ3 ?_ | refine χ4 ?_ | refine κ5 ?_ | refine κ6 ?_ | refine χ5 ?_ | refine χ6 ?_ | refine χ7 ?_ | refine ω8 ?_
  refine wljoin1 (fun (t : Bool) => [(0, .slice A n c), (3, .int .i64 (b : Int)), (4, .func (.func fid) first cap), (18, .int .i64 (mid : Int)), (24, .int .i64 (e : Int)), (213, .bool t)])
    (fun t w2 => w2 = w5 ∧ t = decide (mid < e ∧ e < b)) ?_ ?_
  · refine ki 209 (fun h => ?_) (fun h => ?_)
    · have hlt : mid < e := by have := of_decide_eq_true h; omega
      repeat first | refine ω1 ?_ | refine ω2 ?_ | refine ω3 ?_ | refine ω4 ?_ | refine ω5 ?_ | refine χ1 ?_ | refine κ1 ?_ | refine κ2 ?_ | refine χ2 ?_ | refine κ3 ?_ | refine ω6 ?_ | refine ω7 ?_ | refine ω9 ?_ | refine κ4 ?_ | refine κ7 ?_ | refine κ8 ?_ | refine χ3 ?_ | refine χ4 ?_ | refine κ5 ?_ | refine κ6 ?_ | refine χ5 ?_ | refine χ6 ?_ | refine χ7 ?_ | refine ω8 ?_
      refine qjoin1 (decide (e < b)) ?_ ⟨rfl, by simp [hlt]⟩
      rw [show decide ((e : Int) < (b : Int)) = decide (e < b) by rw [Bool.eq_iff_iff, decide_eq_true_iff, decide_eq_true_iff]; omega]
      exact (by repeat' (first | exact Sub.nil | refine Sub.cons (by first | rfl | (refine congrArg (fun z => some (Value.int .i64 z)) ?_; omega)) ?_))
    · have hlt : ¬ mid < e := by have := of_decide_eq_false h; omega
      repeat first | refine ω1 ?_ | refine ω2 ?_ | refine ω3 ?_ | refine ω4 ?_ | refine ω5 ?_ | refine χ1 ?_ | refine κ1 ?_ | refine κ2 ?_ | refine χ2 ?_ | refine κ3 ?_ | refine ω6 ?_ | refine ω7 ?_ | refine ω9 ?_ | refine κ4 ?_ | refine κ7 ?_ | refine κ8 ?_ | refine χ3 ?_ | refine χ4 ?_ | refine κ5 ?_ | refine κ6 ?_ | refine χ5 ?_ | refine χ6 ?_ | refine χ7 ?_ | refine ω8 ?_
      exact qjoin1 false (by repeat' (first | exact Sub.nil | refine Sub.cons (by first | rfl | (refine congrArg (fun z => some (Value.int .i64 z)) ?_; omega)) ?_)) ⟨rfl, by simp [hlt]⟩
  rintro t w6 ⟨rfl, rfl⟩
  repeat first | refine ω1 ?_ | refine ω2 ?_ | refine ω3 ?_ | refine ω4 ?_ | refine ω5 ?_ | refine χ1 ?_ | refine κ1 ?_ | refine κ2 ?_ | refine χ2 ?_ | refine κ3 ?_ | refine ω6 ?_ | refine ω7 ?_ | refine ω9 ?_ | refine κ4 ?_ | refine κ7 ?_ | refine κ8 ?_ | refine χ3 ?_ | refine χ4 ?_ | refine κ5 ?_ | refine κ6 ?_ | refine χ5 ?_ | refine χ6 ?_ | refine χ7 ?_ | refine ω8 ?_
  have s3' : SOn z0 (fP ds) q2 mid e := hspl.s3.same (fun k k1 k2 => hS5.hi k k1)
  have s4' : SOn z0 (fP ds) q2 e b := hspl.s4.same (fun k k1 k2 => hS5.hi k (by omega))
  refine ci (fun h => ?_) (fun h => ?_)
  · obtain ⟨g1, g2⟩ := of_decide_eq_true h
    repeat first | refine ω1 ?_ | refine ω2 ?_ | refine ω3 ?_ | refine ω4 ?_ | refine ω5 ?_ | refine χ1 ?_ | refine κ1 ?_ | refine κ2 ?_ | refine χ2 ?_ | refine κ3 ?_ | refine ω6 ?_ | refine ω7 ?_ | refine ω9 ?_ | refine κ4 ?_ | refine κ7 ?_ | refine κ8 ?_ | refine χ3 ?_ | refine χ4 ?_ | refine κ5 ?_ | refine κ6 ?_ | refine χ5 ?_ | refine χ6 ?_ | refine χ7 ?_ | refine ω8 ?_
    refine cl (ih (a := mid) (m := e) (b := b) (ds := ds) (by omega) hD5 hl5 rfl rfl rfl g1 g2 (by omega) hmx (hC.step hg5 (hS5.perm.trans hp3)) s3' s4') ?_
    rintro v w7 ⟨q7, hD7, hS7, hO7, hg7⟩
    repeat first | refine ω1 ?_ | refine ω2 ?_ | refine ω3 ?_ | refine ω4 ?_ | refine ω5 ?_ | refine χ1 ?_ | refine κ1 ?_ | refine κ2 ?_ | refine χ2 ?_ | refine κ3 ?_ | refine ω6 ?_ | refine ω7 ?_ | refine ω9 ?_ | refine κ4 ?_ | refine κ7 ?_ | refine κ8 ?_ | refine χ3 ?_ | refine χ4 ?_ | refine κ5 ?_ | refine κ6 ?_ | refine χ5 ?_ | refine χ6 ?_ | refine χ7 ?_ | refine ω8 ?_
    exact finE ⟨q7, hD7, hS3.trans ((hS5.mono (Nat.le_refl _) (by omega)).trans (hS7.mono (by omega) (Nat.le_refl _))), hspl.join (by omega) (by omega) (by omega) hS5 hO5 hS7 hO7, grown_trans hg5 hg7⟩
  · have hno := of_decide_eq_false h
    repeat first | refine ω1 ?_ | refine ω2 ?_ | refine ω3 ?_ | refine ω4 ?_ | refine ω5 ?_ | refine χ1 ?_ | refine κ1 ?_ | refine κ2 ?_ | refine χ2 ?_ | refine κ3 ?_ | refine ω6 ?_ | refine ω7 ?_ | refine ω9 ?_ | refine κ4 ?_ | refine κ7 ?_ | refine κ8 ?_ | refine χ3 ?_ | refine χ4 ?_ | refine κ5 ?_ | refine κ6 ?_ | refine χ5 ?_ | refine χ6 ?_ | refine χ7 ?_ | refine ω8 ?_
    refine finE ⟨q2, hD5, hS3.trans (hS5.mono (Nat.le_refl _) (by omega)), hspl.join (by omega) (by omega) (by omega) hS5 hO5 (Seg.refl _ _ _) ?_, hg5⟩
    have : mid = e ∨ e = b := by omega
    rcases this with h' | h'
    · rw [h']; exact s4'
    · rw [← h']; exact s3'
end Go.Proofs.Ytpahjnfolbnloaa
/- The sorting functions of package slices, at rows: stable, SortStableFunc. -/
set_option linter.unusedVariables false
namespace Go.Proofs.Ytpahjnfolbnloaa
open Go.RowKit Pl Go.Wk
attribute [local irreducible] WC WL QX WD WDB WP
/-- sorted in blocks of bs -/
def Blk2 (ds : List Bool) (q : List Pr) (n bs from_ : Nat) : Prop := ∀ u, from_ ≤ u → SOn z0 (fP ds) q (u * bs) (min (u * bs + bs) n)
set_option maxRecDepth 100000 in
theorem stable_any {w : World} {base : Nat} {A : Option Addr} {n c : Nat} {fv : Value} {ps : List Pr} {ds : List Bool} (hD : Dat w base (.slice A n c) ps) (hn : ps.length = n) (hmx : n ≤ 1100000) (hC : CmpF w (Value.slice A n c).ownBlock fv ps ds) :
    Ret Try.prog 93 [.slice A n c, .int .i64 (n : Int), fv] w fun v w' => Merged w base (.slice A n c) ps ds 0 n w' := by
  refine enterR Try.func93 Try.ntmps93 rfl (by kernel_rfl) rfl ?_
  repeat first | refine ω1 ?_ | refine ω2 ?_ | refine ω3 ?_ | refine ω4 ?_ | refine ω5 ?_ | refine χ1 ?_ | refine κ1 ?_ | refine κ2 ?_ | refine χ2 ?_ | refine κ3 ?_ | refine ω6 ?_ | refine ω7 ?_ | refine ω9 ?_ | refine κ4 ?_ | refine κ7 ?_ | refine κ8 ?_ | refine χ3 ?_ | refine χ4 ?_ | refine κ5 ?_ | refine κ6 ?_ | refine χ5 ?_ | refine χ6 ?_ | refine χ7 ?_ | refine ω8 ?_
  refine wloop2 (fun (t : Nat) (q : List Pr) => [(0, .slice A n c), (1, .int .i64 (n : Int)), (2, fv), (6, .int .i64 20), (7, .int .i64 ((20 * t : Nat) : Int)), (8, .int .i64 ((20 * t + 20 : Nat) : Int))])
    (fun t q w' => 20 * t ≤ n ∧ (∀ u, u < t → SOn z0 (fP ds) q (20 * u) (20 * u + 20)) ∧ Dat w' base (.slice A n c) q ∧ Seg z0 0 n ps q ∧ w.grownBy w' (Value.slice A n c).ownBlock) (fun t _ => n - 20 * t) 0 ps (by repeat' (first | exact Sub.nil | refine Sub.cons rfl ?_))
    ⟨by omega, fun u hu => by omega, hD, Seg.refl _ _ _, ext_grown (Ext.refl w) _⟩ ?_
  rintro t q w1 ⟨ht, hB, hD1, hS1, hg1⟩
  have hl1 : q.length = n := by rw [hS1.len, hn]
  repeat first | refine ω1 ?_ | refine ω2 ?_ | refine ω3 ?_ | refine ω4 ?_ | refine ω5 ?_ | refine χ1 ?_ | refine κ1 ?_ | refine κ2 ?_ | refine χ2 ?_ | refine κ3 ?_ | refine ω6 ?_ | refine ω7 ?_ | refine ω9 ?_ | refine κ4 ?_ | refine κ7 ?_ | refine κ8 ?_ | refine χ3 ?_ | refine χ4 ?_ | refine κ5 ?_ | refine κ6 ?_ | refine χ5 ?_ | refine χ6 ?_ | refine χ7 ?_ | refine ω8 ?_
  refine ci (fun h => ?_) (fun h => ?_)
  · have hle : 20 * t + 20 ≤ n := by have := of_decide_eq_true h; omega
    repeat first | refine ω1 ?_ | refine ω2 ?_ | refine ω3 ?_ | refine ω4 ?_ | refine ω5 ?_ | refine χ1 ?_ | refine κ1 ?_ | refine κ2 ?_ | refine χ2 ?_ | refine κ3 ?_ | refine ω6 ?_ | refine ω7 ?_ | refine ω9 ?_ | refine κ4 ?_ | refine κ7 ?_ | refine κ8 ?_ | refine χ3 ?_ | refine χ4 ?_ | refine κ5 ?_ | refine κ6 ?_ | refine χ5 ?_ | refine χ6 ?_ | refine χ7 ?_ | refine ω8 ?_
    refine cl (insertion_any (a := 20 * t) (b := 20 * t + 20) (ds := ds) hD1 hl1 rfl rfl hle ht hmx (hC.step hg1 hS1.perm)) ?_
    rintro v w2 ⟨q2, hD2, hS2, hO2, hg2⟩
    repeat first | refine ω1 ?_ | refine ω2 ?_ | refine ω3 ?_ | refine ω4 ?_ | refine ω5 ?_ | refine χ1 ?_ | refine κ1 ?_ | refine κ2 ?_ | refine χ2 ?_ | refine κ3 ?_ | refine ω6 ?_ | refine ω7 ?_ | refine ω9 ?_ | refine κ4 ?_ | refine κ7 ?_ | refine κ8 ?_ | refine χ3 ?_ | refine χ4 ?_ | refine κ5 ?_ | refine κ6 ?_ | refine χ5 ?_ | refine χ6 ?_ | refine χ7 ?_ | refine ω8 ?_
    refine qround2 (t + 1) q2 (by repeat' (first | exact Sub.nil | refine Sub.cons (by first | rfl | (refine congrArg (fun z => some (Value.int .i64 z)) ?_; omega)) ?_)) ⟨by omega, fun u hu => ?_, hD2, hS1.trans (hS2.mono (by omega) hle), grown_trans hg1 hg2⟩ (by omega)
    by_cases e : u = t
    · subst e; exact hO2
    · exact (hB u (by omega)).same fun k k1 k2 => hS2.lo k (by omega)
  · have hlt : n < 20 * t + 20 := by have := of_decide_eq_false h; omega
    repeat first | refine ω1 ?_ | refine ω2 ?_ | refine ω3 ?_ | refine ω4 ?_ | refine ω5 ?_ | refine χ1 ?_ | refine κ1 ?_ | refine κ2 ?_ | refine χ2 ?_ | refine κ3 ?_ | refine ω6 ?_ | refine ω7 ?_ | refine ω9 ?_ | refine κ4 ?_ | refine κ7 ?_ | refine κ8 ?_ | refine χ3 ?_ | refine χ4 ?_ | refine κ5 ?_ | refine κ6 ?_ | refine χ5 ?_ | refine χ6 ?_ | refine χ7 ?_ | refine ω8 ?_
    refine cl (insertion_any (a := 20 * t) (b := n) (ds := ds) hD1 hl1 rfl rfl (Nat.le_refl _) ht hmx (hC.step hg1 hS1.perm)) ?_
    rintro v w2 ⟨q2, hD2, hS2, hO2, hg2⟩
    have hB2 : Blk2 ds q2 n 20 0 := fun u _ => by
      rw [Nat.mul_comm u 20]
      by_cases e1 : u < t
      · exact ((hB u e1).same fun k k1 k2 => hS2.lo k (by omega)).mono (Nat.le_refl _) (by omega)
      · by_cases e2 : u = t
        · subst e2; exact hO2.mono (Nat.le_refl _) (by omega)
        · exact SOn.one _ (by omega)
    have hS2' := hS1.trans (hS2.mono (Nat.zero_le _) (Nat.le_refl _))
    have hg2' := grown_trans hg1 hg2
    repeat first | refine ω1 ?_ | refine ω2 ?_ | refine ω3 ?_ | refine ω4 ?_ | refine ω5 ?_ | refine χ1 ?_ | refine κ1 ?_ | refine κ2 ?_ | refine χ2 ?_ | refine κ3 ?_ | refine ω6 ?_ | refine ω7 ?_ | refine ω9 ?_ | refine κ4 ?_ | refine κ7 ?_ | refine κ8 ?_ | refine χ3 ?_ | refine χ4 ?_ | refine κ5 ?_ | refine κ6 ?_ | refine χ5 ?_ | refine χ6 ?_ | refine χ7 ?_ | refine ω8 ?_
    refine wloop2 (fun (bs : Nat) (q : List Pr) => [(0, .slice A n c), (1, .int .i64 (n : Int)), (2, fv), (6, .int .i64 (bs : Int))])
      (fun bs q w' => 0 < bs ∧ bs ≤ 2200020 ∧ Blk2 ds q n bs 0 ∧ Dat w' base (.slice A n c) q ∧ Seg z0 0 n ps q ∧ w.grownBy w' (Value.slice A n c).ownBlock) (fun bs _ => n - bs) 20 q2 (by repeat' (first | exact Sub.nil | refine Sub.cons rfl ?_))
      ⟨by omega, by omega, hB2, hD2, hS2', hg2'⟩ ?_
    rintro bs q3 w3 ⟨hbs, hbs2, hB3, hD3, hS3, hg3⟩
    repeat first | refine ω1 ?_ | refine ω2 ?_ | refine ω3 ?_ | refine ω4 ?_ | refine ω5 ?_ | refine χ1 ?_ | refine κ1 ?_ | refine κ2 ?_ | refine χ2 ?_ | refine κ3 ?_ | refine ω6 ?_ | refine ω7 ?_ | refine ω9 ?_ | refine κ4 ?_ | refine κ7 ?_ | refine κ8 ?_ | refine χ3 ?_ | refine χ4 ?_ | refine κ5 ?_ | refine κ6 ?_ | refine χ5 ?_ | refine χ6 ?_ | refine χ7 ?_ | refine ω8 ?_
    refine ci (fun h => ?_) (fun h => ?_)
    · have hbn : bs < n := by have := of_decide_eq_true h; omega
      repeat first | refine ω1 ?_ | refine ω2 ?_ | refine ω3 ?_ | refine ω4 ?_ | refine ω5 ?_ | refine χ1 ?_ | refine κ1 ?_ | refine κ2 ?_ | refine χ2 ?_ | refine κ3 ?_ | refine ω6 ?_ | refine ω7 ?_ | refine ω9 ?_ | refine κ4 ?_ | refine κ7 ?_ | refine κ8 ?_ | refine χ3 ?_ | refine χ4 ?_ | refine κ5 ?_ | refine κ6 ?_ | refine χ5 ?_ | refine χ6 ?_ | refine χ7 ?_ | refine ω8 ?_
      refine wloop2 (fun (t : Nat) (q : List Pr) => [(0, .slice A n c), (1, .int .i64 (n : Int)), (2, fv), (6, .int .i64 (bs : Int)), (7, .int .i64 ((t * (2 * bs) : Nat) : Int)), (8, .int .i64 ((t * (2 * bs) + 2 * bs : Nat) : Int))])
        (fun t q w' => t * (2 * bs) ≤ n ∧ (∀ u, u < t → SOn z0 (fP ds) q (u * (2 * bs)) (u * (2 * bs) + 2 * bs)) ∧ Blk2 ds q n bs (2 * t) ∧ Dat w' base (.slice A n c) q ∧ Seg z0 0 n ps q ∧ w.grownBy w' (Value.slice A n c).ownBlock) (fun t _ => n - t * (2 * bs)) 0 q3 (by repeat' (first | exact Sub.nil | refine Sub.cons (by first | rfl | (refine congrArg (fun z => some (Value.int .i64 z)) ?_; omega)) ?_))
        ⟨by omega, fun u hu => by omega, hB3, hD3, hS3, hg3⟩ ?_
      rintro t q4 w4 ⟨ht4, hU4, hB4, hD4, hS4, hg4⟩
      have hl4 : q4.length = n := by rw [hS4.len, hn]
      have e1 : (2 * t) * bs = t * (2 * bs) := by rw [Nat.mul_comm 2 t, Nat.mul_assoc]
      have e2 : (2 * t + 1) * bs = t * (2 * bs) + bs := by rw [Nat.succ_mul, e1]
      have e3 : (t + 1) * (2 * bs) = t * (2 * bs) + 2 * bs := Nat.succ_mul _ _
      have b1 := hB4 (2 * t) (Nat.le_refl _)
      have b2 := hB4 (2 * t + 1) (by omega)
      rw [e1] at b1
      rw [e2] at b2
      have far : ∀ u, t < u → t * (2 * bs) + 2 * bs ≤ u * (2 * bs) := fun u hu => by rw [← e3]; exact Nat.mul_le_mul_right _ hu
      have far1 : ∀ u, 2 * (t + 1) ≤ u → t * (2 * bs) + 2 * bs ≤ u * bs := fun u hu => by
        have := Nat.mul_le_mul_right bs hu
        have e4 : (2 * (t + 1)) * bs = (t + 1) * (2 * bs) := by rw [Nat.mul_comm 2 (t + 1), Nat.mul_assoc]
        omega
      have low : ∀ u, u < t → u * (2 * bs) + 2 * bs ≤ t * (2 * bs) := fun u hu => by
        have := Nat.mul_le_mul_right (2 * bs) hu
        rw [Nat.succ_mul] at this; exact this
      generalize ha : t * (2 * bs) = a at *
      repeat first | refine ω1 ?_ | refine ω2 ?_ | refine ω3 ?_ | refine ω4 ?_ | refine ω5 ?_ | refine χ1 ?_ | refine κ1 ?_ | refine κ2 ?_ | refine χ2 ?_ | refine κ3 ?_ | refine ω6 ?_ | refine ω7 ?_ | refine ω9 ?_ | refine κ4 ?_ | refine κ7 ?_ | refine κ8 ?_ | refine χ3 ?_ | refine χ4 ?_ | refine κ5 ?_ | refine κ6 ?_ | refine χ5 ?_ | refine χ6 ?_ | refine χ7 ?_ | refine ω8 ?_
      refine ci (fun h => ?_) (fun h => ?_)
      · have hle : a + 2 * bs ≤ n := by have := of_decide_eq_true h; omega
        repeat first | refine ω1 ?_ | refine ω2 ?_ | refine ω3 ?_ | refine ω4 ?_ | refine ω5 ?_ | refine χ1 ?_ | refine κ1 ?_ | refine κ2 ?_ | refine χ2 ?_ | refine κ3 ?_ | refine ω6 ?_ | refine ω7 ?_ | refine ω9 ?_ | refine κ4 ?_ | refine κ7 ?_ | refine κ8 ?_ | refine χ3 ?_ | refine χ4 ?_ | refine κ5 ?_ | refine κ6 ?_ | refine χ5 ?_ | refine χ6 ?_ | refine χ7 ?_ | refine ω8 ?_
        refine cl (symMerge_any (a + 2 * bs - a) (a := a) (m := a + bs) (b := a + 2 * bs) (mi := (a : Int) + (bs : Int)) (ds := ds) (Nat.le_refl _) hD4 hl4 rfl (by omega) rfl (by omega) (by omega) hle hmx (hC.step hg4 hS4.perm) (b1.mono (Nat.le_refl _) (by omega)) (b2.mono (Nat.le_refl _) (by omega))) ?_
        rintro v w5 ⟨q5, hD5, hS5, hO5, hg5⟩
        repeat first | refine ω1 ?_ | refine ω2 ?_ | refine ω3 ?_ | refine ω4 ?_ | refine ω5 ?_ | refine χ1 ?_ | refine κ1 ?_ | refine κ2 ?_ | refine χ2 ?_ | refine κ3 ?_ | refine ω6 ?_ | refine ω7 ?_ | refine ω9 ?_ | refine κ4 ?_ | refine κ7 ?_ | refine κ8 ?_ | refine χ3 ?_ | refine χ4 ?_ | refine κ5 ?_ | refine κ6 ?_ | refine χ5 ?_ | refine χ6 ?_ | refine χ7 ?_ | refine ω8 ?_
        refine qround2 (t + 1) q5 ?_ ⟨by omega, fun u hu => ?_, fun u hu => ?_, hD5, hS4.trans (hS5.mono (by omega) hle), grown_trans hg4 hg5⟩ (by omega)
        · rw [e3]
          exact (by repeat' (first | exact Sub.nil | refine Sub.cons (by first | rfl | (refine congrArg (fun z => some (Value.int .i64 z)) ?_; omega)) ?_))
        · by_cases e : u = t
          · subst e; rw [ha]; exact hO5
          · have := low u (by omega)
            exact (hU4 u (by omega)).same fun k k1 k2 => hS5.lo k (by omega)
        · have := far1 u hu
          exact (hB4 u (by omega)).same fun k k1 k2 => hS5.hi k (by omega)
      · have hlt : n < a + 2 * bs := by have := of_decide_eq_false h; omega
        repeat first | refine ω1 ?_ | refine ω2 ?_ | refine ω3 ?_ | refine ω4 ?_ | refine ω5 ?_ | refine χ1 ?_ | refine κ1 ?_ | refine κ2 ?_ | refine χ2 ?_ | refine κ3 ?_ | refine ω6 ?_ | refine ω7 ?_ | refine ω9 ?_ | refine κ4 ?_ | refine κ7 ?_ | refine κ8 ?_ | refine χ3 ?_ | refine χ4 ?_ | refine κ5 ?_ | refine κ6 ?_ | refine χ5 ?_ | refine χ6 ?_ | refine χ7 ?_ | refine ω8 ?_
        have fin : ∀ (q5 : List Pr), (∀ k, k < a → q5.getD k z0 = q4.getD k z0) → SOn z0 (fP ds) q5 a n → Blk2 ds q5 n (bs * 2) 0 := fun q5 hlo hO5 u _ => by
          rw [Nat.mul_comm bs 2]
          by_cases e4 : u < t
          · have := low u e4
            exact ((hU4 u e4).same fun k k1 k2 => hlo k (by omega)).mono (Nat.le_refl _) (by omega)
          · by_cases e5 : u = t
            · subst e5; rw [ha]; exact hO5.mono (Nat.le_refl _) (by omega)
            · have := far u (by omega)
              exact SOn.one _ (by omega)
        refine ci (fun h => ?_) (fun h => ?_)
        · have hm : a + bs < n := by have := of_decide_eq_true h; omega
          repeat first | refine ω1 ?_ | refine ω2 ?_ | refine ω3 ?_ | refine ω4 ?_ | refine ω5 ?_ | refine χ1 ?_ | refine κ1 ?_ | refine κ2 ?_ | refine χ2 ?_ | refine κ3 ?_ | refine ω6 ?_ | refine ω7 ?_ | refine ω9 ?_ | refine κ4 ?_ | refine κ7 ?_ | refine κ8 ?_ | refine χ3 ?_ | refine χ4 ?_ | refine κ5 ?_ | refine κ6 ?_ | refine χ5 ?_ | refine χ6 ?_ | refine χ7 ?_ | refine ω8 ?_
          refine cl (symMerge_any (n - a) (a := a) (m := a + bs) (b := n) (mi := (a : Int) + (bs : Int)) (ds := ds) (Nat.le_refl _) hD4 hl4 rfl (by omega) rfl (by omega) hm (Nat.le_refl _) hmx (hC.step hg4 hS4.perm) (b1.mono (Nat.le_refl _) (by omega)) (b2.mono (Nat.le_refl _) (by omega))) ?_
          rintro v w5 ⟨q5, hD5, hS5, hO5, hg5⟩
          repeat first | refine ω1 ?_ | refine ω2 ?_ | refine ω3 ?_ | refine ω4 ?_ | refine ω5 ?_ | refine χ1 ?_ | refine κ1 ?_ | refine κ2 ?_ | refine χ2 ?_ | refine κ3 ?_ | refine ω6 ?_ | refine ω7 ?_ | refine ω9 ?_ | refine κ4 ?_ | refine κ7 ?_ | refine κ8 ?_ | refine χ3 ?_ | refine χ4 ?_ | refine κ5 ?_ | refine κ6 ?_ | refine χ5 ?_ | refine χ6 ?_ | refine χ7 ?_ | refine ω8 ?_
          exact qround2 (bs * 2) q5 (by repeat' (first | exact Sub.nil | refine Sub.cons (by first | rfl | (refine congrArg (fun z => some (Value.int .i64 z)) ?_; omega)) ?_)) ⟨by omega, by omega, fin q5 hS5.lo hO5, hD5, hS4.trans (hS5.mono (by omega) (Nat.le_refl _)), grown_trans hg4 hg5⟩ (by omega)
        · have hm : n ≤ a + bs := by have := of_decide_eq_false h; omega
          repeat first | refine ω1 ?_ | refine ω2 ?_ | refine ω3 ?_ | refine ω4 ?_ | refine ω5 ?_ | refine χ1 ?_ | refine κ1 ?_ | refine κ2 ?_ | refine χ2 ?_ | refine κ3 ?_ | refine ω6 ?_ | refine ω7 ?_ | refine ω9 ?_ | refine κ4 ?_ | refine κ7 ?_ | refine κ8 ?_ | refine χ3 ?_ | refine χ4 ?_ | refine κ5 ?_ | refine κ6 ?_ | refine χ5 ?_ | refine χ6 ?_ | refine χ7 ?_ | refine ω8 ?_
          exact qround2 (bs * 2) q4 (by repeat' (first | exact Sub.nil | refine Sub.cons (by first | rfl | (refine congrArg (fun z => some (Value.int .i64 z)) ?_; omega)) ?_)) ⟨by omega, by omega, fin q4 (fun _ _ => rfl) (b1.mono (Nat.le_refl _) (by omega)), hD4, hS4, hg4⟩ (by omega)
    · have hbn : n ≤ bs := by have := of_decide_eq_false h; omega
      repeat first | refine ω1 ?_ | refine ω2 ?_ | refine ω3 ?_ | refine ω4 ?_ | refine ω5 ?_ | refine χ1 ?_ | refine κ1 ?_ | refine κ2 ?_ | refine χ2 ?_ | refine κ3 ?_ | refine ω6 ?_ | refine ω7 ?_ | refine ω9 ?_ | refine κ4 ?_ | refine κ7 ?_ | refine κ8 ?_ | refine χ3 ?_ | refine χ4 ?_ | refine κ5 ?_ | refine κ6 ?_ | refine χ5 ?_ | refine χ6 ?_ | refine χ7 ?_ | refine ω8 ?_
      refine finE ⟨q3, hD3, hS3, (hB3 0 (Nat.le_refl _)).mono (by omega) (by omega), hg3⟩
set_option maxRecDepth 100000 in
theorem sortStable_any {w : World} {base : Nat} {A : Option Addr} {n c : Nat} {fv : Value} {ps : List Pr} {ds : List Bool} (hD : Dat w base (.slice A n c) ps) (hn : ps.length = n) (hmx : n ≤ 1100000) (hC : CmpF w (Value.slice A n c).ownBlock fv ps ds) :
    Ret Try.prog 79 [.slice A n c, fv] w fun v w' => Merged w base (.slice A n c) ps ds 0 n w' := by
  refine enterR Try.func79 Try.ntmps79 rfl (by kernel_rfl) rfl ?_
  repeat first | refine ω1 ?_ | refine ω2 ?_ | refine ω3 ?_ | refine ω4 ?_ | refine ω5 ?_ | refine χ1 ?_ | refine κ1 ?_ | refine κ2 ?_ | refine χ2 ?_ | refine κ3 ?_ | refine ω6 ?_ | refine ω7 ?_ | refine ω9 ?_ | refine κ4 ?_ | refine κ7 ?_ | refine κ8 ?_ | refine χ3 ?_ | refine χ4 ?_ | refine κ5 ?_ | refine κ6 ?_ | refine χ5 ?_ | refine χ6 ?_ | refine χ7 ?_ | refine ω8 ?_
  refine cl (stable_any (ds := ds) hD hn hmx hC) ?_
  rintro v w1 hm
  repeat first | refine ω1 ?_ | refine ω2 ?_ | refine ω3 ?_ | refine ω4 ?_ | refine ω5 ?_ | refine χ1 ?_ | refine κ1 ?_ | refine κ2 ?_ | refine χ2 ?_ | refine κ3 ?_ | refine ω6 ?_ | refine ω7 ?_ | refine ω9 ?_ | refine κ4 ?_ | refine κ7 ?_ | refine κ8 ?_ | refine χ3 ?_ | refine χ4 ?_ | refine κ5 ?_ | refine κ6 ?_ | refine χ5 ?_ | refine χ6 ?_ | refine χ7 ?_ | refine ω8 ?_
  exact finE hm
end Go.Proofs.Ytpahjnfolbnloaa
