/- Plain lists of rows: strictly sorted lists, ranks, insertion. No program in sight. -/
import Derived.Test.YtpahjnfolbnloaaRws
set_option linter.unusedVariables false
namespace Go.Proofs.Ytpahjnfolbnloaa
open Pl
abbrev Row := List V
def Lt (ds : List Bool) (ls : List Row) : Prop := ls.Pairwise fun a b => cmpR a b ds < 0
/-- the strictly sorted list of the rows -/
def IsSet (ds : List Bool) (ls m : List Row) : Prop := Lt ds m ∧ ∀ x, x ∈ m ↔ x ∈ ls
theorem lt_irr (ds : List Bool) (a : Row) : ¬ cmpR a a ds < 0 := by rw [cmpR_self]; omega
theorem lt_asym {ds : List Bool} {a b : Row} (h : cmpR a b ds < 0) : ¬ cmpR b a ds < 0 := by rw [cmpR_anti a b]; omega
theorem set_uniq {ds : List Bool} : ∀ {l m : List Row}, Lt ds l → Lt ds m → (∀ x, x ∈ l ↔ x ∈ m) → l = m
  | [], [], _, _, _ => rfl
  | [], b :: m, _, _, h => absurd ((h b).2 (List.mem_cons_self ..)) (by simp)
  | a :: l, [], _, _, h => absurd ((h a).1 (List.mem_cons_self ..)) (by simp)
  | a :: l, b :: m, h1, h2, h => by
    have p1 := List.pairwise_cons.1 h1
    have p2 := List.pairwise_cons.1 h2
    have hab : a = b := by
      rcases List.mem_cons.1 ((h a).1 (List.mem_cons_self ..)) with e | e
      · exact e
      · rcases List.mem_cons.1 ((h b).2 (List.mem_cons_self ..)) with e2 | e2
        · exact e2.symm
        · exact absurd (p1.1 _ e2) (lt_asym (p2.1 _ e))
    subst hab
    congr 1
    refine set_uniq p1.2 p2.2 fun x => ?_
    have hx := h x
    constructor
    · intro hm
      rcases List.mem_cons.1 (hx.1 (List.mem_cons_of_mem _ hm)) with e | e
      · subst e; exact absurd (p1.1 _ hm) (lt_irr ds x)
      · exact e
    · intro hm
      rcases List.mem_cons.1 (hx.2 (List.mem_cons_of_mem _ hm)) with e | e
      · subst e; exact absurd (p2.1 _ hm) (lt_irr ds x)
      · exact e
theorem IsSet.uniq {ds : List Bool} {ls m m' : List Row} (h : IsSet ds ls m) (h' : IsSet ds ls m') : m = m' := set_uniq h.1 h'.1 fun x => (h.2 x).trans (h'.2 x).symm
/-! ### adjacent equals struck -/
def ddS (out : List Row) (x : Row) : List Row := if out.getLast? = some x then out else out ++ [x]
def ddF (l : List Row) : List Row := l.foldl ddS []
theorem ddF_snoc (l : List Row) (x : Row) : ddF (l ++ [x]) = ddS (ddF l) x := by simp [ddF, List.foldl_append]
theorem ddS_last (out : List Row) (x : Row) : (ddS out x).getLast? = some x := by
  unfold ddS; split
  · assumption
  · simp
theorem getLast_mem' {l : List Row} {x : Row} (h : l.getLast? = some x) : x ∈ l := by
  rw [List.getLast?_eq_some_iff] at h
  obtain ⟨ys, rfl⟩ := h; simp
theorem dd_fold {ds : List Bool} : ∀ (l out : List Row), Lt ds out → (∀ a ∈ out, ∀ b ∈ l, cmpR a b ds ≤ 0) → Srt ds l → Lt ds (l.foldl ddS out) ∧ ∀ x, x ∈ l.foldl ddS out ↔ (x ∈ out ∨ x ∈ l)
  | [], out, h, _, _ => ⟨h, fun x => by simp⟩
  | y :: l, out, h, hle, hs => by
    have p := List.pairwise_cons.1 hs
    simp only [List.foldl_cons]
    by_cases e : out.getLast? = some y
    · have hy := getLast_mem' e
      have e1 : ddS out y = out := by unfold ddS; rw [if_pos e]
      rw [e1]
      obtain ⟨k1, k2⟩ := dd_fold l out h (fun a ha b hb => hle a ha b (List.mem_cons_of_mem _ hb)) p.2
      refine ⟨k1, fun x => (k2 x).trans ?_⟩
      constructor
      · rintro (h' | h')
        · exact .inl h'
        · exact .inr (List.mem_cons_of_mem _ h')
      · rintro (h' | h')
        · exact .inl h'
        · rcases List.mem_cons.1 h' with rfl | h'
          · exact .inl hy
          · exact .inr h'
    · have e1 : ddS out y = out ++ [y] := by unfold ddS; rw [if_neg e]
      rw [e1]
      have hlt : ∀ a ∈ out, cmpR a y ds < 0 := by
        intro a ha
        have h1 := hle a ha y (List.mem_cons_self ..)
        rcases Int.lt_or_eq_of_le h1 with h2 | h2
        · exact h2
        · exfalso
          have := cmpR_zero _ _ _ h2
          subst this
          -- a is in out, and everything in out is below a; so a is the last
          obtain ⟨z, hz⟩ : ∃ z, out.getLast? = some z := by
            cases hq : out.getLast? with
            | none => rw [List.getLast?_eq_none_iff] at hq; rw [hq] at ha; cases ha
            | some z => exact ⟨z, rfl⟩
          rw [List.getLast?_eq_some_iff] at hz
          obtain ⟨ys, rfl⟩ := hz
          rcases List.mem_append.1 ha with h3 | h3
          · have h4 := (List.pairwise_append.1 h).2.2 _ h3 z (by simp)
            have h5 := hle z (by simp) a (List.mem_cons_self ..)
            exact absurd ((cmp_R ds).lt_le h4 h5) (lt_irr ds a)
          · rw [List.mem_singleton.1 h3] at e; simp at e
      obtain ⟨k1, k2⟩ := dd_fold l (out ++ [y]) (List.pairwise_append.2 ⟨h, List.pairwise_singleton _ _, fun a ha b hb => by rw [List.mem_singleton.1 hb]; exact hlt a ha⟩) (fun a ha b hb => by
        rcases List.mem_append.1 ha with h' | h'
        · exact hle a h' b (List.mem_cons_of_mem _ hb)
        · rw [List.mem_singleton.1 h']; exact p.1 b hb) p.2
      refine ⟨k1, fun x => (k2 x).trans ?_⟩
      rw [List.mem_append, List.mem_singleton, List.mem_cons, or_assoc]
theorem dd_len : ∀ (l out : List Row), (l.foldl ddS out).length ≤ out.length + l.length
  | [], out => by simp
  | y :: l, out => by
    simp only [List.foldl_cons]
    have := dd_len l (ddS out y)
    have h2 : (ddS out y).length ≤ out.length + 1 := by unfold ddS; split <;> simp
    simp only [List.length_cons]; omega
theorem ddF_len (l : List Row) : (ddF l).length ≤ l.length := by have := dd_len l []; simpa [ddF] using this
theorem ddF_set {ds : List Bool} {l : List Row} (h : Srt ds l) : IsSet ds l (ddF l) := by
  obtain ⟨h1, h2⟩ := dd_fold l [] List.Pairwise.nil (fun a ha => by cases ha) h
  exact ⟨h1, fun x => (h2 x).trans (by simp)⟩
theorem ddF_take {l : List Row} {k : Nat} (hk : k < l.length) : ddF (l.take (k + 1)) = if k ≠ 0 ∧ l.getD (k - 1) [] = l.getD k [] then ddF (l.take k) else ddF (l.take k) ++ [l.getD k []] := by
  rw [List.take_succ_eq_append_getElem hk, ddF_snoc, ← getD_get [] l hk]
  unfold ddS
  by_cases h0 : k = 0
  · subst h0; rw [if_neg (by simp [ddF]), if_neg (by simp)]
  · have hk1 : k - 1 < l.length := by omega
    have e : ddF (l.take k) = ddS (ddF (l.take (k - 1))) (l.getD (k - 1) []) := by
      have := List.take_succ_eq_append_getElem hk1
      rw [show k - 1 + 1 = k by omega] at this
      rw [this, ddF_snoc, getD_get [] l hk1]
    rw [e, ddS_last]
    by_cases h1 : l.getD (k - 1) [] = l.getD k []
    · rw [if_pos (by rw [h1]), if_pos ⟨h0, h1⟩]
    · rw [if_neg (by simpa using h1), if_neg (fun h => h1 h.2)]
/-! ### ranks -/
def cnt (ds : List Bool) (l : List Row) (r : Row) : Nat := (l.filter fun x => decide (cmpR x r ds < 0)).length
theorem cnt_nil (ds : List Bool) (r : Row) : cnt ds [] r = 0 := rfl
theorem cnt_le (ds : List Bool) (l : List Row) (r : Row) : cnt ds l r ≤ l.length := List.length_filter_le _ _
theorem Lt.at {ds : List Bool} {l : List Row} (h : Lt ds l) {i j : Nat} (hij : i < j) (hj : j < l.length) : cmpR (l.getD i []) (l.getD j []) ds < 0 := by
  have := List.pairwise_iff_getElem.1 h i j (by omega) hj hij
  rw [getD_get [] l hj, getD_get [] l (by omega)]; exact this
theorem cnt_take {ds : List Bool} {l : List Row} {r : Row} {k : Nat} (hk : k ≤ l.length) (hlo : ∀ i, i < k → cmpR (l.getD i []) r ds < 0) (hhi : ∀ i, k ≤ i → i < l.length → ¬ cmpR (l.getD i []) r ds < 0) : cnt ds l r = k := by
  unfold cnt
  have e : l = l.take k ++ l.drop k := (List.take_append_drop k l).symm
  rw [e, List.filter_append, List.length_append]
  have h1 : (l.take k).filter (fun x => decide (cmpR x r ds < 0)) = l.take k := by
    rw [List.filter_eq_self]
    intro x hx
    obtain ⟨i, hi, rfl⟩ := List.getElem_of_mem hx
    have hik : i < k := by simp at hi; omega
    have := hlo i hik
    rw [getD_get [] l (by omega)] at this
    simpa using this
  have h2 : (l.drop k).filter (fun x => decide (cmpR x r ds < 0)) = [] := by
    rw [List.filter_eq_nil_iff]
    intro x hx
    obtain ⟨i, hi, rfl⟩ := List.getElem_of_mem hx
    have hik : k + i < l.length := by simp at hi; omega
    have := hhi (k + i) (by omega) hik
    rw [getD_get [] l hik] at this
    simpa using this
  rw [h1, h2]; simp; omega
theorem rank_at {ds : List Bool} {l : List Row} (h : Lt ds l) {r : Row} {k : Nat} (hk : k ≤ l.length) (hlo : k = 0 ∨ cmpR (l.getD (k - 1) []) r ds < 0) (hhi : k = l.length ∨ ¬ cmpR (l.getD k []) r ds < 0) :
    cnt ds l r = k ∧ (r ∈ l ↔ k < l.length ∧ l.getD k [] = r) := by
  have lo : ∀ i, i < k → cmpR (l.getD i []) r ds < 0 := fun i hi => by
    rcases hlo with h0 | h0
    · omega
    · by_cases e : i = k - 1
      · rw [e]; exact h0
      · exact (cmp_R ds).lt_trans (h.at (i := i) (j := k - 1) (by omega) (by omega)) h0
  have hi : ∀ i, k ≤ i → i < l.length → ¬ cmpR (l.getD i []) r ds < 0 := fun i h1 h2 => by
    rcases hhi with h0 | h0
    · omega
    · by_cases e : i = k
      · rw [e]; exact h0
      · exact fun h3 => h0 ((cmp_R ds).lt_trans (h.at (i := k) (j := i) (by omega) h2) h3)
  refine ⟨cnt_take hk lo hi, fun hm => ?_, fun ⟨h1, h2⟩ => ?_⟩
  · obtain ⟨j, hj, he⟩ := List.getElem_of_mem hm
    rw [← getD_get [] l hj] at he
    have hjk : k ≤ j := by
      rcases Nat.lt_or_ge j k with h1 | h1
      · exact absurd (he ▸ lo j h1) (lt_irr ds r)
      · exact h1
    have : j = k := by
      rcases Nat.lt_or_ge k j with h1 | h1
      · exact absurd (he ▸ h.at h1 hj) (hi k (Nat.le_refl _) (by omega))
      · omega
    subst this
    exact ⟨hj, he⟩
  · rw [← h2]; exact getD_mem' [] l h1
/-- the place of a member -/
theorem cnt_at {ds : List Bool} {l : List Row} (h : Lt ds l) {i : Nat} (hi : i < l.length) : cnt ds l (l.getD i []) = i := by
  refine (rank_at h (Nat.le_of_lt hi) ?_ (.inr (lt_irr _ _))).1
  by_cases h0 : i = 0
  · exact .inl h0
  · exact .inr (h.at (by omega) hi)
/-! ### insertion -/
def putL (ds : List Bool) (l : List Row) (r : Row) : List Row := if r ∈ l then l else l.take (cnt ds l r) ++ r :: l.drop (cnt ds l r)
theorem put_set {ds : List Bool} {l ls : List Row} {r : Row} (h : IsSet ds ls l) : IsSet ds (ls ++ [r]) (putL ds l r) := by
  unfold putL
  split
  · rename_i hm
    refine ⟨h.1, fun x => ?_⟩
    rw [List.mem_append, List.mem_singleton, ← h.2 x]
    exact ⟨.inl, fun h' => h'.elim id fun e => e ▸ hm⟩
  · rename_i hm
    have hkle := cnt_le ds l r
    -- what is below the place is smaller, what is above is greater
    have hall : ∃ k, cnt ds l r = k ∧ k ≤ l.length ∧ (∀ i, i < k → cmpR (l.getD i []) r ds < 0) ∧ (∀ i, k ≤ i → i < l.length → ¬ cmpR (l.getD i []) r ds < 0) := by
      have ex : ∀ n, n ≤ l.length → ∃ k, k ≤ n ∧ (∀ i, i < k → cmpR (l.getD i []) r ds < 0) ∧ (k = n ∨ ¬ cmpR (l.getD k []) r ds < 0) := by
        intro n
        induction n with
        | zero => exact fun _ => ⟨0, Nat.le_refl _, fun i hi => by omega, .inl rfl⟩
        | succ n ih =>
          intro hn
          obtain ⟨k, k1, k2, k3⟩ := ih (by omega)
          rcases k3 with k3 | k3
          · subst k3
            by_cases h0 : cmpR (l.getD k []) r ds < 0
            · exact ⟨k + 1, Nat.le_refl _, fun i hi => by
                by_cases e : i = k
                · rw [e]; exact h0
                · exact k2 i (by omega), .inl rfl⟩
            · exact ⟨k, by omega, k2, .inr h0⟩
          · exact ⟨k, by omega, k2, .inr k3⟩
      obtain ⟨k, k1, k2, k3⟩ := ex l.length (Nat.le_refl _)
      have hi : ∀ i, k ≤ i → i < l.length → ¬ cmpR (l.getD i []) r ds < 0 := fun i h1 h2 => by
        rcases k3 with k3 | k3
        · omega
        · by_cases e : i = k
          · rw [e]; exact k3
          · exact fun h3 => k3 ((cmp_R ds).lt_trans (h.1.at (i := k) (j := i) (by omega) h2) h3)
      exact ⟨k, cnt_take k1 k2 hi, k1, k2, hi⟩
    obtain ⟨k, hk, k1, k2, k3⟩ := hall
    rw [hk]
    have hlt := h.1
    refine ⟨?_, fun x => ?_⟩
    · unfold Lt at hlt ⊢
      rw [List.pairwise_append]
      refine ⟨hlt.sublist (List.take_sublist _ _), List.pairwise_cons.2 ⟨fun b hb => ?_, hlt.sublist (List.drop_sublist _ _)⟩, fun a ha b hb => ?_⟩
      · obtain ⟨i, hi, rfl⟩ := List.getElem_of_mem hb
        have hik : k + i < l.length := by simp at hi; omega
        have := k3 (k + i) (by omega) hik
        rw [getD_get [] l hik] at this
        rw [List.getElem_drop]
        rcases (cmp_R ds).tot l[k + i] r with e | e | e
        · exact absurd e this
        · exact absurd (e ▸ List.getElem_mem hik) hm
        · exact e
      · obtain ⟨i, hi, rfl⟩ := List.getElem_of_mem ha
        have hik : i < k := by simp at hi; omega
        have h1 := k2 i hik
        rw [getD_get [] l (by omega)] at h1
        rw [List.getElem_take]
        rcases List.mem_cons.1 hb with rfl | hb
        · exact h1
        · obtain ⟨j, hj, rfl⟩ := List.getElem_of_mem hb
          have hjk : k + j < l.length := by simp at hj; omega
          rw [List.getElem_drop]
          have := h.1.at (i := i) (j := k + j) (by omega) hjk
          rw [getD_get [] l hjk, getD_get [] l (by omega)] at this
          exact this
    · rw [List.mem_append, List.mem_cons, List.mem_append, List.mem_singleton, ← h.2 x]
      have e : x ∈ l ↔ x ∈ l.take k ∨ x ∈ l.drop k := by
        conv => lhs; rw [← List.take_append_drop k l]
        exact List.mem_append
      rw [e]
      constructor
      · rintro (h' | h' | h')
        · exact .inl (.inl h')
        · exact .inr h'
        · exact .inl (.inr h')
      · rintro ((h' | h') | h')
        · exact .inl h'
        · exact .inr (.inr h')
        · exact .inr (.inl h')
end Go.Proofs.Ytpahjnfolbnloaa
