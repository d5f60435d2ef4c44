/- Plain mathematics of the difference of two arrays. No program in sight. -/
import Derived.Test.YtpahjnfolbnloaaSetP
set_option linter.unusedVariables false
namespace Go.Proofs.Ytpahjnfolbnloaa
open Pl
section
variable {A C : List Row}
/-- the common rows ahead of a position -/
def cF (A C : List Row) (i : Nat) : Nat := ((A.take i).filter (fun r => decide (r ∈ C))).length
/-- the other rows ahead of a position -/
def dF (A C : List Row) (i : Nat) : Nat := ((A.take i).filter (fun r => !decide (r ∈ C))).length
/-- the difference -/
def dif2 (A C : List Row) : List Row := A.filter (fun r => !decide (r ∈ C))
theorem take_snoc {A : List Row} {i : Nat} (h : i < A.length) : A.take (i + 1) = A.take i ++ [A.getD i []] := by
  rw [List.take_succ_eq_append_getElem h]; simp [List.getD, List.getElem?_eq_getElem h]
theorem cF_succ {i : Nat} (h : i < A.length) : cF A C (i + 1) = cF A C i + (if A.getD i [] ∈ C then 1 else 0) := by
  unfold cF
  rw [take_snoc h, List.filter_append, List.length_append]
  by_cases hc : A.getD i [] ∈ C
  · rw [if_pos hc, List.filter_cons_of_pos (by simpa using hc)]; rfl
  · rw [if_neg hc, List.filter_cons_of_neg (by simpa using hc)]; rfl
theorem dF_succ {i : Nat} (h : i < A.length) : dF A C (i + 1) = dF A C i + (if A.getD i [] ∈ C then 0 else 1) := by
  unfold dF
  rw [take_snoc h, List.filter_append, List.length_append]
  by_cases hc : A.getD i [] ∈ C
  · rw [if_pos hc, List.filter_cons_of_neg (by simpa using hc)]; rfl
  · rw [if_neg hc, List.filter_cons_of_pos (by simpa using hc)]; rfl
theorem cd_sum {i : Nat} (h : i ≤ A.length) : cF A C i + dF A C i = i := by
  induction i with
  | zero => simp [cF, dF]
  | succ i ih =>
    have := ih (by omega)
    rw [cF_succ (by omega), dF_succ (by omega)]
    split <;> omega
theorem cF_all : cF A C A.length = (A.filter (fun r => decide (r ∈ C))).length := by unfold cF; rw [List.take_length]
theorem cF_mono {i j : Nat} (h : i ≤ j) : cF A C i ≤ cF A C j := by
  unfold cF
  have : (A.take i).Sublist (A.take j) := by
    have e : A.take i = (A.take j).take i := by rw [List.take_take, Nat.min_eq_left h]
    rw [e]
    exact List.take_sublist _ _
  exact (this.filter _).length_le
theorem dif2_at {i : Nat} (h : i < A.length) (hc : A.getD i [] ∉ C) : (dif2 A C).getD (dF A C i) [] = A.getD i [] ∧ dF A C i < (dif2 A C).length := by
  have e : dif2 A C = (A.take i).filter (fun r => !decide (r ∈ C)) ++ (A.getD i [] :: (A.drop (i + 1)).filter (fun r => !decide (r ∈ C))) := by
    unfold dif2
    conv => lhs; rw [← List.take_append_drop i A, List.filter_append]
    congr 1
    rw [List.drop_eq_getElem_cons h]
    have e2 : A.getD i [] = A[i] := by simp [List.getD, List.getElem?_eq_getElem h]
    rw [e2] at hc ⊢
    rw [List.filter_cons_of_pos (by simpa using hc)]
  rw [e]
  unfold dF
  refine ⟨?_, by simp⟩
  simp [List.getD]
/-- what the code relies on -/
structure DifH (A C : List Row) (RC : Row → Nat) : Prop where
  rank : ∀ i, i < A.length → RC (A.getD i []) = cF A C i
  size : C.length = cF A C A.length
theorem DifH.len {RC : Row → Nat} (h : DifH A C RC) : (dif2 A C).length = A.length - C.length ∧ C.length ≤ A.length := by
  have h1 := cd_sum (A := A) (C := C) (Nat.le_refl _)
  have h2 := h.size
  have h3 : dF A C A.length = (dif2 A C).length := by unfold dF dif2; rw [List.take_length]
  omega
/-- the test of the search -/
def prD (A C : List Row) (k p : Nat) : Bool := decide (k + cF A C (p + 1) ≤ p)
theorem found {RC : Row → Nat} (h : DifH A C RC) {k p : Nat} (hk : k < (dif2 A C).length) (h1 : k ≤ p) (h2 : p ≤ k + C.length) (h3 : p = k ∨ prD A C k (p - 1) = false) (h4 : p = k + C.length ∨ prD A C k p = true) :
    p < A.length ∧ A.getD p [] = (dif2 A C).getD k [] := by
  obtain ⟨hl, hca⟩ := h.len
  have hp : p < A.length := by omega
  have s1 := cd_sum (A := A) (C := C) (i := p) (by omega)
  have s2 := cd_sum (A := A) (C := C) (i := p + 1) (by omega)
  have hm : cF A C (p + 1) ≤ C.length := by rw [h.size]; exact cF_mono (by omega)
  have g1 : k + 1 ≤ dF A C (p + 1) := by
    rcases h4 with h4 | h4
    · omega
    · have := of_decide_eq_true h4; omega
  have g2 : dF A C p ≤ k := by
    rcases h3 with h3 | h3
    · omega
    · have h3 := of_decide_eq_false h3
      rcases Nat.eq_zero_or_pos p with h0 | h0
      · subst h0; omega
      · rw [Nat.sub_add_cancel h0] at h3; omega
  have g3 := dF_succ (C := C) hp
  by_cases hc : A.getD p [] ∈ C
  · rw [if_pos hc] at g3; omega
  · rw [if_neg hc] at g3
    have : dF A C p = k := by omega
    refine ⟨hp, ?_⟩
    rw [← this]
    exact (dif2_at hp hc).1.symm
end
end Go.Proofs.Ytpahjnfolbnloaa
