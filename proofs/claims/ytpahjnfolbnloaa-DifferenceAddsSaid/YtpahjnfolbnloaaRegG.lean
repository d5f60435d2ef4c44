/- The walking layer: a region that draws its order, where two operations that make memory may come in either order: the orders are walked one by one. No program in sight. -/
import Derived.Test.YtpahjnfolbnloaaMak
set_option linter.unusedVariables false
namespace Go.Wk
open Go.RowKit
section
variable {P : Program} {ops : Array Oper} {Q : Exit → Act → World → Prop}
def noT : Nat → Bool := fun _ => false
theorem tail_no : tailB ops noT = true := by simp [tailB, noT]
/-- a schedule's beginning: kinds 0 and 1 -/
def canonG (ops : Array Oper) : List (Nat × Nat) → Array Bool → Option (Array Bool)
  | [], listed => some listed
  | (0, i) :: r, listed => if (Region.ready .any ops listed).contains i && Region.free .any ops listed i && Nat.blt i ops.size then canonG ops r (listed.setIfInBounds i true) else none
  | (1, i) :: r, listed => if (Region.ready .any ops listed == [i]) && Nat.blt i ops.size then canonG ops r (listed.setIfInBounds i true) else none
  | _ :: _, _ => none
/-- going on at a listed state -/
def toK (P : Program) (ops : Array Oper) (Q : Exit → Act → World → Prop) (fuel : Nat) (listed : Array Bool) : Exit → Act → World → Prop
  | .normal, a, w => wpAnyE P ops Q noT fuel listed a w
  | _, _, _ => False
theorem QF_toK {fuel : Nat} {listed : Array Bool} {o : Oper} {a : Act} {w : World} {K : Act → World → Prop} (h : o.wp P a w K (QF (toK P ops Q fuel listed))) : o.wp P a w K (QF Q) := by
  unfold Oper.wp at h ⊢
  have hno : ¬ LetsOut (QF (toK P ops Q fuel listed)) := by rintro ⟨a, w, h⟩; exact h
  exact upon_monoQ (Q := QF (toK P ops Q fuel listed)) (fun c a w hf => hf.elim) (fun hf => absurd hf hno) h
theorem wpAnyE_of_pre (hsel : Region.noSelect ops = true) (fuel : Nat) (listed' : Array Bool) : ∀ (s : List (Nat × Nat)) (listed : Array Bool) (a : Act) (w : World), canonG ops s listed = some listed' → wpSched P ops (toK P ops Q fuel listed') (opsOf ops.toList s) a w → wpAnyE P ops Q noT (s.length + fuel) listed a w
  | [], listed, a, w, hB, h => by
    simp only [canonG, Option.some.injEq] at hB
    subst hB
    simp only [List.length_nil, Nat.zero_add]
    exact h
  | (0, i) :: r, listed, a, w, hB, h => by
    simp only [canonG] at hB
    split at hB
    · rename_i hc
      simp only [Bool.and_eq_true] at hc
      obtain ⟨⟨hr, hf⟩, hi0⟩ := hc
      have hi : i < ops.size := by have : i + 1 ≤ ops.size := by simpa [Nat.blt] using hi0
                                   omega
      have ho : ops[i]? = some ops[i] := Array.getElem?_eq_getElem hi
      have hn : nth ops.toList i = some ops[i] := by rw [nth_eq]; simp [hi]
      simp only [opsOf, hn, wpSched, wk1] at h
      obtain ⟨v, hy, h⟩ := h
      rw [show ((0, i) :: r).length + fuel = (r.length + fuel) + 1 by simp; omega]
      exact wpAnyE_first tail_no ho rfl (Region.noSelect_spec hsel) _ listed a w (Region.free_spec ho hf) (by simpa using hr) hy (wpAnyE_of_pre hsel fuel listed' r _ _ _ hB h)
    · cases hB
  | (1, i) :: r, listed, a, w, hB, h => by
    simp only [canonG] at hB
    split at hB
    · rename_i hc
      simp only [Bool.and_eq_true, beq_iff_eq] at hc
      obtain ⟨hr, hi0⟩ := hc
      have hi : i < ops.size := by have : i + 1 ≤ ops.size := by simpa [Nat.blt] using hi0
                                   omega
      have ho : ops[i]? = some ops[i] := Array.getElem?_eq_getElem hi
      have hn : nth ops.toList i = some ops[i] := by rw [nth_eq]; simp [hi]
      simp only [opsOf, hn, wpSched, wk1] at h
      rw [show ((1, i) :: r).length + fuel = (r.length + fuel) + 1 by simp; omega]
      refine .inr ⟨fun h0 => (by rw [hr] at h0; cases h0), fun j hj => ?_⟩
      rw [hr] at hj
      obtain rfl : j = i := by simpa using hj
      unfold wpOp
      simp only [ho]
      split
      · rename_i hw
        simp only [hw, if_true] at h
        exact .inl (Oper.wp_mono (fun a' w' h' => ⟨h'.1, wpAnyE_of_pre hsel fuel listed' r _ _ _ hB h'.2⟩) (QF_toK h))
      · rename_i hw; simp only [hw] at h; exact ⟨Ext.refl w, wpAnyE_of_pre hsel fuel listed' r _ _ _ hB h⟩
    · cases hB
  | (k + 2, i) :: r, listed, a, w, hB, h => by simp [canonG] at hB
end
section
variable {P : Program} {n : Nat} {al al' : AL} {w : World} {Q : Exit → Act → World → Prop} {ops : Array Oper}
/-- what is asked at a listed state -/
def WG (P : Program) (n : Nat) (ops : Array Oper) (Q : Exit → Act → World → Prop) (fuel : Nat) (listed : Array Bool) (al : AL) (w : World) : Prop := ∀ a, Fr n al a → wpAnyE P ops Q noT fuel listed a w
theorem WG.sub {fuel : Nat} {listed : Array Bool} (hs : Sub al' al) (h : WG P n ops Q fuel listed al' w) : WG P n ops Q fuel listed al w := fun a ha => h a (ha.sub hs)
theorem drG {tt : TT} [ht : Tab P tt] {id : Nat} {l : List Oper} (hsel : Region.noSelect l.toArray = true) (h : WG P n l.toArray Q l.toArray.size (Array.replicate l.toArray.size false) al w.drew) : WC P n (.region id l.toArray true) Q al w := fun a ha =>
  wp_region_any ht.mixed (wpAny_of_E (T := noT) _ _ _ _ (h a ha))
/-- a beginning in the one order -/
theorem gpre {l : List Oper} {fuel fuel' : Nat} {listed : Array Bool} (s : List (Nat × Nat)) (listed' : Array Bool) (hsel : Region.noSelect l.toArray = true) (hB : canonG l.toArray s listed = some listed') (hf : fuel = s.length + fuel') (h : WD P n l.toArray (toK P l.toArray Q fuel' listed') (opsOf l s) al w) : WG P n l.toArray Q fuel listed al w := fun a ha => by
  subst hf
  refine wpAnyE_of_pre hsel fuel' listed' s listed a w hB ?_
  have := h a ha
  simpa using this
theorem gback {fuel : Nat} {listed : Array Bool} (h : WG P n ops Q fuel listed al w) : QX n (toK P ops Q fuel listed) .normal al w := h
/-- the region is done -/
theorem gend {listed : Array Bool} (hr : Region.ready .any ops listed = []) (h : QX n Q .normal al w) : WG P n ops Q 0 listed al w := fun a ha => ⟨hr, h a ha⟩
/-- one operation that makes memory, then on -/
def toJ (P : Program) (ops : Array Oper) (Q : Exit → Act → World → Prop) (w0 : World) (fuel : Nat) (listed : Array Bool) : Exit → Act → World → Prop
  | .normal, a, w => Ext w0 w ∧ wpAnyE P ops Q noT fuel listed a w
  | _, _, _ => False
theorem jback {w0 : World} {fuel : Nat} {listed : Array Bool} (hx : Ext w0 w) (h : WG P n ops Q fuel listed al w) : QX n (toJ P ops Q w0 fuel listed) .normal al w := fun a ha => ⟨hx, h a ha⟩
theorem wpOp_of_J {i : Nat} {o : Oper} {fuel : Nat} {listed : Array Bool} (ho : ops[i]? = some o) (h : WL P n ops (toJ P ops Q w fuel listed) [o] al w) : ∀ a, Fr n al a → wpOp P ops (QF Q) i (fun a' w' => Ext w w' ∧ wpAnyE P ops Q noT fuel listed a' w') a w := fun a ha => by
  have h1 := h a ha
  unfold wpList at h1
  unfold wpOp
  simp only [ho]
  have hno : ¬ LetsOut (toJ P ops Q w fuel listed) := by rintro ⟨a, w, h⟩; exact h
  split
  · rename_i hw
    simp only [hw, if_true] at h1
    rcases h1 with h1 | ⟨_, h1⟩
    · left
      refine Oper.wp_mono (K := wpList P ops (toJ P ops Q w fuel listed) []) (fun a' w' h' => h') ?_
      unfold Oper.wp at h1 ⊢
      exact upon_monoQ (Q := toJ P ops Q w fuel listed) (fun c a w hf => hf.elim) (fun hf => absurd hf hno) h1
    · exact absurd h1 hno
  · rename_i hw
    simp only [hw] at h1
    exact h1
/-- two are ready: each may come first -/
theorem gtwo {l : List Oper} {fuel fuel' : Nat} {listed : Array Bool} (i j : Nat) {oi oj : Oper} (hr : Region.ready .any l.toArray listed = [i, j]) (hf : fuel = fuel' + 1) (hi : nth l i = some oi) (hj : nth l j = some oj)
    (h1 : WL P n l.toArray (toJ P l.toArray Q w fuel' (listed.setIfInBounds i true)) [oi] al w) (h2 : WL P n l.toArray (toJ P l.toArray Q w fuel' (listed.setIfInBounds j true)) [oj] al w) : WG P n l.toArray Q fuel listed al w := fun a ha => by
  subst hf
  have e1 : l.toArray[i]? = some oi := by rw [← hi, nth_eq]; simp
  have e2 : l.toArray[j]? = some oj := by rw [← hj, nth_eq]; simp
  refine .inr ⟨fun h0 => (by rw [hr] at h0; cases h0), fun k hk => ?_⟩
  rw [hr] at hk
  simp only [List.mem_cons, List.not_mem_nil, or_false] at hk
  rcases hk with rfl | rfl
  · exact wpOp_of_J e1 h1 a ha
  · exact wpOp_of_J e2 h2 a ha
/-- the listed state, otherwise spelled -/
theorem glist {fuel : Nat} {listed listed' : Array Bool} (e : listed = listed') (h : WG P n ops Q fuel listed' al w) : WG P n ops Q fuel listed al w := by subst e; exact h
/-- ways that meet at a listed state -/
theorem gcut {α : Type} {fuel : Nat} {L : Array Bool} (fuel' : Nat) (L' : Array Bool) (fr : α → AL) (I : α → World → Prop) (h2 : ∀ x w, I x w → WG P n ops Q fuel' L' (fr x) w)
    (h1 : (∀ x al w, I x w → Sub (fr x) al → WG P n ops Q fuel' L' al w) → WG P n ops Q fuel L al w) : WG P n ops Q fuel L al w := h1 fun x al w hi hs => (h2 x w hi).sub hs
/-- the first k of m are listed -/
def lst (m k : Nat) : Array Bool := ((List.range m).map fun i => Nat.blt i k).toArray
end
end Go.Wk
