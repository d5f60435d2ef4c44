/- The walking layer: a region that draws its order, where two operations that make memory may come in either order, and whose tail stores. No program in sight. -/
import Derived.Test.YtpahjnfolbnloaaRegG
set_option linter.unusedVariables false
namespace Go.Wk
open Go.RowKit
section
variable {P : Program} {ops : Array Oper} {Q : Exit → Act → World → Prop} {T : Nat → Bool}
/-- a schedule's beginning: kinds 0, 1 and 2 (of the tail) -/
def canonH (ops : Array Oper) (T : Nat → Bool) (F : Nat) : List (Nat × Nat) → Array Bool → Option (Array Bool)
  | [], listed => some listed
  | (0, i) :: r, listed => if (Region.ready .any ops listed).contains i && Region.free .any ops listed i && Nat.blt i ops.size && !T i && (List.range ops.size).all (fun t => !T t || reach ops F t i) then canonH ops T F r (listed.setIfInBounds i true) else none
  | (1, i) :: r, listed => if (Region.ready .any ops listed == [i]) && Nat.blt i ops.size then canonH ops T F r (listed.setIfInBounds i true) else none
  | (2, i) :: r, listed => if (Region.ready .any ops listed == [i]) && Nat.blt i ops.size && T i then canonH ops T F r (listed.setIfInBounds i true) else none
  | _ :: _, _ => none
/-- going on at a listed state -/
def toKH (P : Program) (ops : Array Oper) (Q : Exit → Act → World → Prop) (T : Nat → Bool) (fuel : Nat) (listed : Array Bool) : Exit → Act → World → Prop
  | .normal, a, w => Closed ops listed → wpAnyC P ops Q T fuel listed a w
  | _, _, _ => False
theorem QF_toKH {fuel : Nat} {listed : Array Bool} {o : Oper} {a : Act} {w : World} {K : Act → World → Prop} (h : o.wp P a w K (QF (toKH P ops Q T fuel listed))) : o.wp P a w K (QF Q) := by
  unfold Oper.wp at h ⊢
  have hno : ¬ LetsOut (QF (toKH P ops Q T fuel listed)) := by rintro ⟨a, w, h⟩; exact h
  exact upon_monoQ (Q := QF (toKH P ops Q T fuel listed)) (fun c a w hf => hf.elim) (fun hf => absurd hf hno) h
theorem wpAnyC_of_pre (hsel : Region.noSelect ops = true) (F fuel : Nat) (listed' : Array Bool) : ∀ (s : List (Nat × Nat)) (listed : Array Bool) (a : Act) (w : World), Closed ops listed → canonH ops T F s listed = some listed' → wpSched P ops (toKH P ops Q T fuel listed') (opsOf ops.toList s) a w → wpAnyC P ops Q T (s.length + fuel) listed a w
  | [], listed, a, w, hcl, hB, h => by
    simp only [canonH, Option.some.injEq] at hB
    subst hB
    simp only [List.length_nil, Nat.zero_add]
    exact h hcl
  | (0, i) :: r, listed, a, w, hcl, hB, h => by
    simp only [canonH] at hB
    split at hB
    · rename_i hc
      simp only [Bool.and_eq_true] at hc
      obtain ⟨⟨⟨⟨hr, hf⟩, hi0⟩, hTi⟩, hre⟩ := hc
      have hi : i < ops.size := by have : i + 1 ≤ ops.size := by simpa [Nat.blt] using hi0
                                   omega
      have ho : ops[i]? = some ops[i] := Array.getElem?_eq_getElem hi
      have hn : nth ops.toList i = some ops[i] := by rw [nth_eq]; simp [hi]
      have hr' : i ∈ Region.ready .any ops listed := by simpa using hr
      simp only [opsOf, hn, wpSched, wk1] at h
      obtain ⟨v, hy, h⟩ := h
      rw [show ((0, i) :: r).length + fuel = (r.length + fuel) + 1 by simp; omega]
      refine wpAnyC_first Ext Ext.refl Ext.trans ho (Region.noSelect_spec hsel) ?_ _ listed a w hcl (Region.free_spec ho hf) hr' hy (wpAnyC_of_pre hsel F fuel listed' r _ _ _ (hcl.step hr') hB h)
      intro listed2 j hcl2 hri hrj w w' hx
      cases hT : T j with
      | false => exact hx hT
      | true =>
        obtain ⟨_, oj, hoj, _⟩ := mem_ready.1 hrj
        have hjl : j < ops.size := (Array.getElem?_eq_some_iff.1 hoj).1
        have h9 := List.all_eq_true.1 hre j (List.mem_range.2 hjl)
        rw [hT] at h9
        have h1 := reach_listed hcl2 F j i oj hoj (ready_listed hoj hrj) (by simpa using h9)
        have h0 := (mem_ready.1 hri).1
        rcases Nat.lt_or_ge i listed2.size with h' | h'
        · simp [h'] at h0 h1; rw [h0] at h1; cases h1
        · simp [Array.getElem?_eq_none h'] at h1
    · cases hB
  | (1, i) :: r, listed, a, w, hcl, hB, h => by
    simp only [canonH] at hB
    split at hB
    · rename_i hc
      simp only [Bool.and_eq_true, beq_iff_eq] at hc
      obtain ⟨hr, hi0⟩ := hc
      have hi : i < ops.size := by have : i + 1 ≤ ops.size := by simpa [Nat.blt] using hi0
                                   omega
      have ho : ops[i]? = some ops[i] := Array.getElem?_eq_getElem hi
      have hn : nth ops.toList i = some ops[i] := by rw [nth_eq]; simp [hi]
      have hcl' : Closed ops (listed.setIfInBounds i true) := hcl.step (by rw [hr]; exact List.mem_singleton.2 rfl)
      simp only [opsOf, hn, wpSched, wk1] at h
      rw [show ((1, i) :: r).length + fuel = (r.length + fuel) + 1 by simp; omega]
      refine ⟨fun h0 => (by rw [hr] at h0; cases h0), fun j hj => ?_⟩
      rw [hr] at hj
      obtain rfl : j = i := by simpa using hj
      unfold wpOp
      simp only [ho]
      split
      · rename_i hw
        simp only [hw, if_true] at h
        exact .inl (Oper.wp_mono (fun a' w' h' => ⟨fun _ => h'.1, wpAnyC_of_pre hsel F fuel listed' r _ _ _ hcl' hB h'.2⟩) (QF_toKH h))
      · rename_i hw; simp only [hw] at h; exact ⟨fun _ => Ext.refl w, wpAnyC_of_pre hsel F fuel listed' r _ _ _ hcl' hB h⟩
    · cases hB
  | (2, i) :: r, listed, a, w, hcl, hB, h => by
    simp only [canonH] at hB
    split at hB
    · rename_i hc
      simp only [Bool.and_eq_true, beq_iff_eq] at hc
      obtain ⟨⟨hr, hi0⟩, hTi⟩ := hc
      have hi : i < ops.size := by have : i + 1 ≤ ops.size := by simpa [Nat.blt] using hi0
                                   omega
      have ho : ops[i]? = some ops[i] := Array.getElem?_eq_getElem hi
      have hn : nth ops.toList i = some ops[i] := by rw [nth_eq]; simp [hi]
      have hcl' : Closed ops (listed.setIfInBounds i true) := hcl.step (by rw [hr]; exact List.mem_singleton.2 rfl)
      simp only [opsOf, hn, wpSched, wk1] at h
      rw [show ((2, i) :: r).length + fuel = (r.length + fuel) + 1 by simp; omega]
      refine ⟨fun h0 => (by rw [hr] at h0; cases h0), fun j hj => ?_⟩
      rw [hr] at hj
      obtain rfl : j = i := by simpa using hj
      unfold wpOp
      simp only [ho]
      split
      · rename_i hw
        simp only [hw, if_true] at h
        exact .inl (Oper.wp_mono (fun a' w' h' => ⟨fun h0 => (by rw [hTi] at h0; cases h0), wpAnyC_of_pre hsel F fuel listed' r _ _ _ hcl' hB h'⟩) (QF_toKH h))
      · rename_i hw; simp only [hw] at h; exact ⟨fun _ => Ext.refl w, wpAnyC_of_pre hsel F fuel listed' r _ _ _ hcl' hB h⟩
    · cases hB
  | (k + 3, i) :: r, listed, a, w, hcl, hB, h => by simp [canonH] at hB
end
section
variable {P : Program} {n : Nat} {al al' : AL} {w : World} {Q : Exit → Act → World → Prop} {ops : Array Oper} {T : Nat → Bool}
/-- what is asked at a listed state -/
def WH (P : Program) (n : Nat) (ops : Array Oper) (Q : Exit → Act → World → Prop) (T : Nat → Bool) (fuel : Nat) (listed : Array Bool) (al : AL) (w : World) : Prop := Closed ops listed → ∀ a, Fr n al a → wpAnyC P ops Q T fuel listed a w
theorem WH.sub {fuel : Nat} {listed : Array Bool} (hs : Sub al' al) (h : WH P n ops Q T fuel listed al' w) : WH P n ops Q T fuel listed al w := fun hc a ha => h hc a (ha.sub hs)
theorem closed_none (ops : Array Oper) (m : Nat) : Closed ops (Array.replicate m false) := fun k o _ hk => by
  exfalso
  rcases Nat.lt_or_ge k m with h | h
  · simp [h] at hk
  · simp [Nat.not_lt.2 h] at hk
theorem drH {tt : TT} [ht : Tab P tt] {id : Nat} {l : List Oper} (T : Nat → Bool) (h : WH P n l.toArray Q T l.toArray.size (Array.replicate l.toArray.size false) al w.drew) : WC P n (.region id l.toArray true) Q al w := fun a ha =>
  wp_region_any ht.mixed (wpAny_of_C (T := T) _ _ _ _ (h (closed_none _ _) a ha))
/-- a beginning in the one order -/
theorem hpre {l : List Oper} {fuel fuel' : Nat} {listed : Array Bool} (F : Nat) (s : List (Nat × Nat)) (listed' : Array Bool) (hsel : Region.noSelect l.toArray = true) (hB : canonH l.toArray T F s listed = some listed') (hf : fuel = s.length + fuel') (h : WD P n l.toArray (toKH P l.toArray Q T fuel' listed') (opsOf l s) al w) : WH P n l.toArray Q T fuel listed al w := fun hc a ha => by
  subst hf
  refine wpAnyC_of_pre hsel F fuel' listed' s listed a w hc hB ?_
  have := h a ha
  simpa using this
theorem hback {fuel : Nat} {listed : Array Bool} (h : WH P n ops Q T fuel listed al w) : QX n (toKH P ops Q T fuel listed) .normal al w := fun a ha hc => h hc a ha
/-- the region is done -/
theorem hend {listed : Array Bool} (hr : Region.ready .any ops listed = []) (h : QX n Q .normal al w) : WH P n ops Q T 0 listed al w := fun _ a ha => ⟨hr, h a ha⟩
/-- one operation that makes memory, then on -/
def toJH (P : Program) (ops : Array Oper) (Q : Exit → Act → World → Prop) (T : Nat → Bool) (w0 : World) (fuel : Nat) (listed : Array Bool) : Exit → Act → World → Prop
  | .normal, a, w => Ext w0 w ∧ (Closed ops listed → wpAnyC P ops Q T fuel listed a w)
  | _, _, _ => False
theorem jhback {w0 : World} {fuel : Nat} {listed : Array Bool} (hx : Ext w0 w) (h : WH P n ops Q T fuel listed al w) : QX n (toJH P ops Q T w0 fuel listed) .normal al w := fun a ha => ⟨hx, fun hc => h hc a ha⟩
theorem wpOp_of_JH {i : Nat} {o : Oper} {fuel : Nat} {listed : Array Bool} (ho : ops[i]? = some o) (hc : Closed ops listed) (h : WL P n ops (toJH P ops Q T w fuel listed) [o] al w) : ∀ a, Fr n al a → wpOp P ops (QF Q) i (fun a' w' => (T i = false → Ext w w') ∧ wpAnyC P ops Q T fuel listed a' w') a w := fun a ha => by
  have h1 := h a ha
  unfold wpList at h1
  unfold wpOp
  simp only [ho]
  have hno : ¬ LetsOut (toJH P ops Q T w fuel listed) := by rintro ⟨a, w, h⟩; exact h
  split
  · rename_i hw
    simp only [hw, if_true] at h1
    rcases h1 with h1 | ⟨_, h1⟩
    · left
      refine Oper.wp_mono (K := wpList P ops (toJH P ops Q T w fuel listed) []) (fun a' w' h' => ⟨fun _ => h'.1, h'.2 hc⟩) ?_
      unfold Oper.wp at h1 ⊢
      exact upon_monoQ (Q := toJH P ops Q T w fuel listed) (fun c a w hf => hf.elim) (fun hf => absurd hf hno) h1
    · exact absurd h1 hno
  · rename_i hw
    simp only [hw] at h1
    exact ⟨fun _ => h1.1, h1.2 hc⟩
/-- two are ready: each may come first -/
theorem htwo {l : List Oper} {fuel fuel' : Nat} {listed : Array Bool} (i j : Nat) {oi oj : Oper} (hr : Region.ready .any l.toArray listed = [i, j]) (hf : fuel = fuel' + 1) (hi : nth l i = some oi) (hj : nth l j = some oj)
    (h1 : WL P n l.toArray (toJH P l.toArray Q T w fuel' (listed.setIfInBounds i true)) [oi] al w) (h2 : WL P n l.toArray (toJH P l.toArray Q T w fuel' (listed.setIfInBounds j true)) [oj] al w) : WH P n l.toArray Q T fuel listed al w := fun hc a ha => by
  subst hf
  have e1 : l.toArray[i]? = some oi := by rw [← hi, nth_eq]; simp
  have e2 : l.toArray[j]? = some oj := by rw [← hj, nth_eq]; simp
  refine ⟨fun h0 => (by rw [hr] at h0; cases h0), fun k hk => ?_⟩
  have hk' := hk
  rw [hr] at hk
  simp only [List.mem_cons, List.not_mem_nil, or_false] at hk
  rcases hk with rfl | rfl
  · exact wpOp_of_JH e1 (hc.step hk') h1 a ha
  · exact wpOp_of_JH e2 (hc.step hk') h2 a ha
/-- the listed state, otherwise spelled -/
theorem hlist {fuel : Nat} {listed listed' : Array Bool} (e : listed = listed') (h : WH P n ops Q T fuel listed' al w) : WH P n ops Q T fuel listed al w := by subst e; exact h
/-- ways that meet at a listed state -/
theorem hcut {α : Type} {fuel : Nat} {L : Array Bool} (fuel' : Nat) (L' : Array Bool) (fr : α → AL) (I : α → World → Prop) (h2 : ∀ x w, I x w → WH P n ops Q T fuel' L' (fr x) w)
    (h1 : (∀ x al w, I x w → Sub (fr x) al → WH P n ops Q T fuel' L' al w) → WH P n ops Q T fuel L al w) : WH P n ops Q T fuel L al w := h1 fun x al w hi hs => (h2 x w hi).sub hs
end
end Go.Wk
