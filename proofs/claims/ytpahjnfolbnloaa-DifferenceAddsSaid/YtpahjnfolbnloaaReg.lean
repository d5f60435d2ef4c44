/- The walking layer: a region that draws its order. Operations that only read are taken first; what makes memory follows in the one order that is left; stores come last. No program in sight. -/
import Derived.Test.YtpahjnfolbnloaaMem
import Derived.OrdersHeld
set_option linter.unusedVariables false
namespace Go.Wk
open Go.RowKit

section
variable {P : Program} {ops : Array Oper} {Q : Exit → Act → World → Prop} {T : Nat → Bool}

/-- no panic, no way out -/
def QF (Q : Exit → Act → World → Prop) : Exit → Act → World → Prop
  | .normal, a, w => Q .normal a w
  | _, _, _ => False
theorem upon_monoQ {Q Q' : Exit → Act → World → Prop} {o : Oper} {a : Act} {K : Act → World → Prop} (hp : ∀ c a w, Q (.panic c) a w → Q' (.panic c) a w) (ho : LetsOut Q → LetsOut Q') {r : Result Next} (h : o.upon P a K Q r) : o.upon P a K Q' r := by
  cases r with
  | ok n w' =>
    cases n <;> simp only [Oper.upon] at h ⊢ <;> first
      | exact h
      | exact Calls.mono h (fun e w'' he => by cases e <;> first | exact he | exact hp _ _ _ he | exact ho he)
  | halt x w' => cases x <;> simp only [Oper.upon] at h ⊢ <;> first | exact h | exact hp _ _ _ h
theorem wpOp_monoQ {i : Nat} {K : Act → World → Prop} {a : Act} {w : World} (h : wpOp P ops (QF Q) i K a w) : wpOp P ops Q i K a w := by
  have hno : ¬ LetsOut (QF Q) := by rintro ⟨a, w, h⟩; exact h
  unfold wpOp at *
  split
  · rename_i ho; simp only [ho] at h; exact h
  · rename_i o ho
    simp only [ho] at h
    split
    · rename_i hw
      simp only [hw, if_true] at h
      rcases h with h | ⟨_, h⟩
      · exact .inl (upon_monoQ (Q := QF Q) (fun c a w hf => hf.elim) (fun hf => absurd hf hno) h)
      · exact absurd h hno
    · rename_i hw; simp only [hw] at h; exact h

def unl (ops : Array Oper) (listed : Array Bool) (i : Nat) : Prop := i < ops.size ∧ listed.getD i true = false
/-- whatever order is picked from here on; what is not of the tail leaves all old memory alone -/
def wpAnyE (P : Program) (ops : Array Oper) (Q : Exit → Act → World → Prop) (T : Nat → Bool) : Nat → Array Bool → Act → World → Prop
  | 0, listed, a, w => Region.ready .any ops listed = [] ∧ Q .normal a w
  | fuel + 1, listed, a, w =>
    ((∀ i, unl ops listed i → T i = true) ∧ wpAny P .any ops Q (fuel + 1) listed a w) ∨
    ((Region.ready .any ops listed = [] → Q .normal a w) ∧
      ∀ i ∈ Region.ready .any ops listed, wpOp P ops (QF Q) i (fun a' w' => Ext w w' ∧ wpAnyE P ops Q T fuel (listed.setIfInBounds i true) a' w') a w)
theorem wpAny_of_E : ∀ (fuel : Nat) (listed : Array Bool) (a : Act) (w : World), wpAnyE P ops Q T fuel listed a w → wpAny P .any ops Q fuel listed a w
  | 0, _, _, _, h => h
  | fuel + 1, _, _, _, h => by
    rcases h with h | h
    · exact h.2
    · exact ⟨h.1, fun i hi => wpOp_mono (fun a' w' h' => wpAny_of_E fuel _ a' w' h'.2) (wpOp_monoQ (h.2 i hi))⟩

/-- the tail waits for all else -/
def tailB (ops : Array Oper) (T : Nat → Bool) : Bool := (List.range ops.size).all fun t => !T t || (List.range ops.size).all fun i => T i || match ops[t]? with
  | some o => o.after.any fun e => Region.binds .any e && e.on == i
  | none => false
theorem tailB_spec (h : tailB ops T = true) {t i : Nat} {o : Oper} (ho : ops[t]? = some o) (ht : T t = true) (hi : i < ops.size) (hn : T i = false) : ∃ e ∈ o.after, Region.binds .any e = true ∧ e.on = i := by
  have hlt : t < ops.size := (Array.getElem?_eq_some_iff.1 ho).1
  have h1 := List.all_eq_true.1 h t (List.mem_range.2 hlt)
  simp only [ht, Bool.not_true, Bool.false_or] at h1
  have h2 := List.all_eq_true.1 h1 i (List.mem_range.2 hi)
  simp only [hn, Bool.false_or, ho, Array.any_eq_true'] at h2
  obtain ⟨e, he, h3⟩ := h2
  simp only [Bool.and_eq_true, beq_iff_eq] at h3
  exact ⟨e, he, h3.1, h3.2⟩
theorem ready_not_tail (hT : tailB ops T = true) {listed : Array Bool} {i j : Nat} (hi : unl ops listed i) (hn : T i = false) (hj : j ∈ Region.ready .any ops listed) : T j = false := by
  cases h : T j with
  | false => rfl
  | true =>
    obtain ⟨hjun, oj, hoj, hall⟩ := mem_ready.1 hj
    obtain ⟨e, he, hb, hon⟩ := tailB_spec hT hoj h hi.1 hn
    have h1 := hall e he hb
    rw [hon] at h1
    have h0 := hi.2
    rcases Nat.lt_or_ge i listed.size with h' | h'
    · simp [h'] at h0 h1; rw [h0] at h1; cases h1
    · simp [Array.getElem?_eq_none h'] at h1

theorem wpAnyE_first (hT : tailB ops T = true) {i : Nat} {oi : Oper} {v : Value} (hi : ops[i]? = some oi) (hn : T i = false) (hsel : ∀ (j : Nat) (o : Oper) cs b, ops[j]? = some o → o.op ≠ .select cs b) :
    ∀ (fuel : Nat) (listed : Array Bool) (a : Act) (w : World),
      (∀ j oj, ops[j]? = some oj → j ≠ i → listed.getD j true = false → (∀ e ∈ oj.after, Region.binds .any e = true → e.on ≠ i) → oi.apart ops oj = true) →
      i ∈ Region.ready .any ops listed → YieldsIf P ops (Ext w) oi v a →
      wpAnyE P ops Q T fuel (listed.setIfInBounds i true) (a.put oi.dst v) w → wpAnyE P ops Q T (fuel + 1) listed a w := by
  have hil : i < ops.size := (Array.getElem?_eq_some_iff.1 hi).1
  intro fuel
  induction fuel with
  | zero =>
    intro listed a w _ hr hy H
    refine .inr ⟨fun h => (by rw [h] at hr; cases hr), fun j hj => ?_⟩
    by_cases hji : j = i
    · subst hji; exact hy.wpOp hi (Ext.refl w) ⟨Ext.refl w, H⟩
    · have := ready_mono hj hji
      rw [H.1] at this
      cases this
  | succ fuel ih =>
    intro listed a w hfree hr hy H
    have hui : unl ops listed i := ⟨hil, (mem_ready.1 hr).1⟩
    refine .inr ⟨fun h => (by rw [h] at hr; cases hr), fun j hj => ?_⟩
    by_cases hji : j = i
    · subst hji; exact hy.wpOp hi (Ext.refl w) ⟨Ext.refl w, H⟩
    · obtain ⟨hjun, oj, hoj, hall⟩ := mem_ready.1 hj
      have hjt : T j = false := ready_not_tail hT hui hn hj
      rcases H with H | H
      · have := H.1 j ⟨(Array.getElem?_eq_some_iff.1 hoj).1, by rw [getD_set_ne true (Ne.symm hji)]; exact hjun⟩
        rw [hjt] at this
        cases this
      · have h1 := H.2 j (ready_mono hj hji)
        have hnot : ∀ e ∈ oj.after, Region.binds .any e = true → e.on ≠ i := fun e he hb heq => by
          have h1 := hall e he hb
          have h0 := (mem_ready.1 hr).1
          rw [heq] at h1
          rcases Nat.lt_or_ge i listed.size with h' | h'
          · simp [h'] at h0 h1; rw [h0] at h1; cases h1
          · simp [Array.getElem?_eq_none h'] at h1
        have h2 := wpOp_putIf hoj (hfree j oj hoj hji hjun hnot) (fun cs b => hsel i oi cs b hi) (fun cs b => hsel j oj cs b hoj) (fun c a w h => h) hy h1
        have hfree' : ∀ k ok, ops[k]? = some ok → k ≠ i → (listed.setIfInBounds j true).getD k true = false →
            (∀ e ∈ ok.after, Region.binds .any e = true → e.on ≠ i) → oi.apart ops ok = true := fun k ok hk hki hun hno => by
          refine hfree k ok hk hki ?_ hno
          by_cases hjk : j = k
          · subst hjk; exact hjun
          · rw [getD_set_ne true hjk] at hun; exact hun
        refine wpOp_mono (fun a' w' h3 => ⟨h3.2.1, ih (listed.setIfInBounds j true) a' w' hfree' (ready_mono hr (Ne.symm hji)) ?_ ?_⟩) h2
        · exact h3.1.imp (fun ⟨h4, h5⟩ => ⟨h4, fun w'' hx => h5 w'' (h3.2.1.trans hx)⟩) id
        · rw [Array.setIfInBounds_comm _ _ hji]
          exact h3.2.2

/-! ### the canonical order: (kind, number): 0 it only reads; 1 it makes memory; 2 of the tail -/
def canonB (ops : Array Oper) : List (Nat × Nat) → Array Bool → Bool
  | [], listed => (Region.ready .any ops listed).isEmpty
  | (0, i) :: r, listed => (Region.ready .any ops listed).contains i && Region.free .any ops listed i && canonB ops r (listed.setIfInBounds i true)
  | (_, i) :: r, listed => (Region.ready .any ops listed == [i]) && canonB ops r (listed.setIfInBounds i true)
def tailOf (s : List (Nat × Nat)) (i : Nat) : Bool := s.any fun p => p.1 == 2 && p.2 == i
/-- kinds: no '0', '1' behind a '2'; every number once -/
def kindsB : List (Nat × Nat) → Bool
  | [] => true
  | (k, _) :: r => Nat.ble k 2 && (k != 2 || r.all fun p => p.1 == 2) && kindsB r
def schedB (ops : Array Oper) (s : List (Nat × Nat)) : Bool :=
  Region.noSelect ops && (s.length == ops.size) && tailB ops (tailOf s) && kindsB s && (s.all fun p => (p.1 == 2) == tailOf s p.2) && canonB ops s (Array.replicate ops.size false) && (s.all fun p => Nat.blt p.2 ops.size) && ((List.range ops.size).all fun i => s.any fun p => p.2 == i)
/-- one operation -/
def wk1 (P : Program) (ops : Array Oper) (Q : Exit → Act → World → Prop) (k : Nat) (o : Oper) (K : Act → World → Prop) (a : Act) (w : World) : Prop :=
  match k with
  | 0 => ∃ v, YieldsIf P ops (Ext w) o v a ∧ K (a.put o.dst v) w
  | 1 => if Region.wanted o (yielded ops a.tmps) then o.wp P a w (fun a' w' => Ext w w' ∧ K a' w') (QF Q) else K (a.put o.dst undef) w
  | _ => if Region.wanted o (yielded ops a.tmps) then o.wp P a w K (QF Q) else K (a.put o.dst undef) w
/-- the walk in the canonical order -/
def wpSched (P : Program) (ops : Array Oper) (Q : Exit → Act → World → Prop) : List (Nat × Oper) → Act → World → Prop
  | [], a, w => Q .normal a w
  | p :: r, a, w => wk1 P ops Q p.1 p.2 (wpSched P ops Q r) a w
def opsOf (l : List Oper) : List (Nat × Nat) → List (Nat × Oper)
  | [] => []
  | (k, i) :: r => match nth l i with
    | some o => (k, o) :: opsOf l r
    | none => opsOf l r

theorem wpAny_of_tail : ∀ (s : List (Nat × Nat)) (listed : Array Bool) (a : Act) (w : World), (∀ p ∈ s, p.1 = 2) → (∀ p ∈ s, p.2 < ops.size) → canonB ops s listed = true → wpSched P ops Q (opsOf ops.toList s) a w → wpAny P .any ops Q s.length listed a w
  | [], listed, a, w, _, _, hB, h => ⟨by simpa [canonB] using hB, h⟩
  | (k, i) :: r, listed, a, w, hk, hlt, hB, h => by
    obtain rfl : k = 2 := hk _ (List.mem_cons_self ..)
    have hi : i < ops.size := hlt _ (List.mem_cons_self ..)
    simp only [canonB, Bool.and_eq_true, beq_iff_eq] at hB
    obtain ⟨hr, hB'⟩ := hB
    have ho : ops[i]? = some ops[i] := Array.getElem?_eq_getElem hi
    have hn : nth ops.toList i = some ops[i] := by rw [nth_eq]; simp [hi]
    simp only [opsOf, hn, wpSched, wk1] at h
    refine ⟨fun h0 => (by rw [hr] at h0; cases h0), fun j hj => ?_⟩
    rw [hr] at hj
    obtain rfl : j = i := by simpa using hj
    have hrec : ∀ a w, wpSched P ops Q (opsOf ops.toList r) a w → wpAny P .any ops Q r.length (listed.setIfInBounds j true) a w := fun a w h' =>
      wpAny_of_tail r _ a w (fun p hp => hk p (List.mem_cons_of_mem _ hp)) (fun p hp => hlt p (List.mem_cons_of_mem _ hp)) hB' h'
    refine wpOp_mono hrec (wpOp_monoQ ?_)
    unfold wpOp
    simp only [ho]
    split
    · rename_i hw; simp only [hw, if_true] at h; exact .inl h
    · rename_i hw; simp only [hw] at h; exact h

theorem wpAnyE_of_sched (hsel : Region.noSelect ops = true) (hT : tailB ops T = true) : ∀ (s : List (Nat × Nat)) (listed : Array Bool) (a : Act) (w : World), kindsB s = true → (∀ p ∈ s, p.2 < ops.size) → (∀ p ∈ s, (p.1 == 2) = T p.2) →
    (∀ i, unl ops listed i → ∃ k, (k, i) ∈ s) → canonB ops s listed = true → wpSched P ops Q (opsOf ops.toList s) a w → wpAnyE P ops Q T s.length listed a w
  | [], listed, a, w, _, _, _, _, hB, h => ⟨by simpa [canonB] using hB, h⟩
  | (k, i) :: r, listed, a, w, hk, hlt, hKT, hall, hB, h => by
    have hi : i < ops.size := hlt _ (List.mem_cons_self ..)
    have ho : ops[i]? = some ops[i] := Array.getElem?_eq_getElem hi
    have hn : nth ops.toList i = some ops[i] := by rw [nth_eq]; simp [hi]
    simp only [kindsB, Bool.and_eq_true] at hk
    have hTi := hKT _ (List.mem_cons_self ..)
    simp only at hTi
    have hall' : ∀ j, unl ops (listed.setIfInBounds i true) j → ∃ k, (k, j) ∈ r := fun j hj => by
      by_cases hji : j = i
      · subst hji
        have h2 := hj.2
        rcases Nat.lt_or_ge j listed.size with h' | h'
        · simp [h'] at h2
        · simp at h2
      · obtain ⟨k', hk'⟩ := hall j ⟨hj.1, by rw [← getD_set_ne true (Ne.symm hji)]; exact hj.2⟩
        rcases List.mem_cons.1 hk' with h' | h'
        · injection h' with _ h'; exact absurd h' hji
        · exact ⟨k', h'⟩
    have hrec : canonB ops r (listed.setIfInBounds i true) = true → ∀ a w, wpSched P ops Q (opsOf ops.toList r) a w → wpAnyE P ops Q T r.length (listed.setIfInBounds i true) a w := fun hB' a w h' =>
      wpAnyE_of_sched hsel hT r _ a w hk.2 (fun p hp => hlt p (List.mem_cons_of_mem _ hp)) (fun p hp => hKT p (List.mem_cons_of_mem _ hp)) hall' hB' h'
    match k, hTi, hk, hB, h with
    | 0, hTi, hk, hB, h =>
      simp only [canonB, Bool.and_eq_true] at hB
      obtain ⟨⟨hr, hf⟩, hB'⟩ := hB
      simp only [opsOf, hn, wpSched, wk1] at h
      obtain ⟨v, hy, h⟩ := h
      exact wpAnyE_first hT ho (by rw [← hTi]; rfl) (Region.noSelect_spec hsel) r.length listed a w (Region.free_spec ho hf) (by simpa using hr) hy (hrec hB' _ _ h)
    | 1, hTi, hk, hB, h =>
      simp only [canonB, Bool.and_eq_true, beq_iff_eq] at hB
      obtain ⟨hr, hB'⟩ := hB
      simp only [opsOf, hn, wpSched, wk1] at h
      refine .inr ⟨fun h0 => (by rw [hr] at h0; cases h0), fun j hj => ?_⟩
      rw [hr] at hj
      obtain rfl : j = i := by simpa using hj
      unfold wpOp
      simp only [ho]
      split
      · rename_i hw
        simp only [hw, if_true] at h
        exact .inl (Oper.wp_mono (fun a' w' h' => ⟨h'.1, hrec hB' _ _ h'.2⟩) h)
      · rename_i hw; simp only [hw] at h; exact ⟨Ext.refl w, hrec hB' _ _ h⟩
    | 2, hTi, hk, hB, h =>
      refine .inl ⟨fun j hj => ?_, wpAny_of_tail ((2, i) :: r) listed a w ?_ hlt hB h⟩
      · obtain ⟨k', hk'⟩ := hall j hj
        have h1 := hKT _ hk'
        simp only at h1
        rw [← h1]
        rcases List.mem_cons.1 hk' with h' | h'
        · injection h' with h' _; rw [h']; rfl
        · have := hk.1.2
          simp only [bne_self_eq_false, Bool.false_or, List.all_eq_true] at this
          exact this _ h'
      · intro p hp
        rcases List.mem_cons.1 hp with h' | h'
        · rw [h']
        · have := hk.1.2
          simp only [bne_self_eq_false, Bool.false_or, List.all_eq_true] at this
          simpa using this _ h'
    | k + 3, hTi, hk, hB, h =>
      have := hk.1.1
      simp at this
end
section
variable {P : Program} {n : Nat} {al al' : AL} {w : World} {Q : Exit → Act → World → Prop} {ops : Array Oper} {rest : List (Nat × Oper)}
/-- what is asked of a region that draws -/
def WD (P : Program) (n : Nat) (ops : Array Oper) (Q : Exit → Act → World → Prop) (l : List (Nat × Oper)) (al : AL) (w : World) : Prop := ∀ a, Fr n al a → wpSched P ops Q l a w
theorem WD.sub {l : List (Nat × Oper)} (hs : Sub al' al) (h : WD P n ops Q l al' w) : WD P n ops Q l al w := fun a ha => h a (ha.sub hs)
theorem wdraw {id : Nat} {l : List Oper} (s : List (Nat × Nat)) (hm : P.follows .mixedOrders = true) (hB : schedB l.toArray s = true) (h : WD P n l.toArray Q (opsOf l s) al w.drew) : WC P n (.region id l.toArray true) Q al w := by
  intro a ha
  simp only [schedB, Bool.and_eq_true, beq_iff_eq, List.all_eq_true, List.any_eq_true, List.mem_range] at hB
  obtain ⟨⟨⟨⟨⟨⟨⟨h1, h2⟩, h3⟩, h4⟩, h5⟩, h6⟩, h7⟩, h8⟩ := hB
  refine wp_region_any hm ?_
  rw [← h2]
  refine wpAny_of_E (T := tailOf s) _ _ _ _ (wpAnyE_of_sched h1 h3 s _ a _ h4 (fun p hp => ?_) (fun p hp => ?_) (fun i hi => ?_) (by rw [h2]; exact h6) ?_)
  · have := h7 p hp
    have h' : p.2 + 1 ≤ l.toArray.size := by simpa [Nat.blt] using this
    omega
  · simpa using h5 p hp
  · obtain ⟨p, hp, he⟩ := h8 i hi.1
    exact ⟨p.1, by rw [← he]; exact hp⟩
  · have := h a ha
    simpa using this
theorem dnil (h : QX n Q .normal al w) : WD P n ops Q [] al w := fun a ha => h a ha

variable {d ty : Nat} {op : Op} {pos : String} {aft : Array Edge}
/-- it only reads: in every later world the same -/
def Yld (P : Program) (n : Nat) (al : AL) (w : World) (o : Oper) (v : Value) : Prop := ∀ w', Ext w w' → ∀ a, Fr n al a → (execOp a.eval o).run P w' = .ok (.value v) w'
theorem dy {v : Value} (hy : Yld P n al w ⟨some d, op, ty, pos, aft, none⟩ v) (hd : Nat.blt d n = true) (k : WD P n ops Q rest ((d, v) :: al) w) : WD P n ops Q ((0, ⟨some d, op, ty, pos, aft, none⟩) :: rest) al w := fun a ha => by
  have hd' : d < n := by have : d + 1 ≤ n := by simpa [Nat.blt] using hd
                         omega
  exact ⟨v, .inl ⟨rfl, fun w' hx => hy w' hx a ha⟩, k _ (ha.put hd' v)⟩
theorem dp {tt : TT} (hT : TOk P tt) {v : Value} (hv : pv tt (ev al) op = some v) (hd : Nat.blt d n = true) (k : WD P n ops Q rest ((d, v) :: al) w) : WD P n ops Q ((0, ⟨some d, op, ty, pos, aft, none⟩) :: rest) al w :=
  dy (fun w' _ a ha => pv_ok w' hT (fun x u hx => ha.ev hx) hv) hd k
theorem dpn {tt : TT} (hT : TOk P tt) {v : Value} (hv : pv tt (ev al) op = some v) (k : WD P n ops Q rest al w) : WD P n ops Q ((0, ⟨none, op, ty, pos, aft, none⟩) :: rest) al w := fun a ha =>
  ⟨v, .inl ⟨rfl, fun w' hx => pv_ok w' hT (fun x u hx => ha.ev hx) hv⟩, k _ ha⟩
theorem dguard {kd : Nat} {dst : Option Nat} {j s : Nat} {b : Bool} (hj : gslot ops j = some s) (hs : lk al s = some (.bool b)) (k : WD P n ops Q ((kd, ⟨dst, op, ty, pos, aft, none⟩) :: rest) al w) :
    WD P n ops Q ((kd, ⟨dst, op, ty, pos, aft, some (j, b)⟩) :: rest) al w := fun a ha => by
  have h := k a ha
  have hy := yielded_of (ops := ops) ha hj hs
  have e1 : Region.wanted (⟨dst, op, ty, pos, aft, none⟩ : Oper) (yielded ops a.tmps) = true := rfl
  have e2 : Region.wanted (⟨dst, op, ty, pos, aft, some (j, b)⟩ : Oper) (yielded ops a.tmps) = true := by simp [Region.wanted, hy]
  unfold wpSched wk1 at h ⊢
  match kd, h with
  | 0, h =>
    obtain ⟨v, h1, h2⟩ := h
    refine ⟨v, ?_, h2⟩
    rcases h1 with h1 | h1
    · exact .inl ⟨e2, h1.2⟩
    · exact absurd h1.1 (by rw [e1]; simp)
  | 1, h => simp only [e1, if_true] at h; simp only [e2, if_true]; exact h
  | k + 2, h => simp only [e1, if_true] at h; simp only [e2, if_true]; exact h
theorem dpass {kd : Nat} {j s : Nat} {b c : Bool} (hj : gslot ops j = some s) (hs : lk al s = some (.bool b)) (hne : (b == c) = false) (hd : Nat.blt d n = true) (k : WD P n ops Q rest ((d, undef) :: al) w) :
    WD P n ops Q ((kd, ⟨some d, op, ty, pos, aft, some (j, c)⟩) :: rest) al w := fun a ha => by
  have hd' : d < n := by have : d + 1 ≤ n := by simpa [Nat.blt] using hd
                         omega
  have hy := yielded_of (ops := ops) ha hj hs
  have e2 : Region.wanted (⟨some d, op, ty, pos, aft, some (j, c)⟩ : Oper) (yielded ops a.tmps) = false := by
    simp [Region.wanted, hy]
    simpa using hne
  have h2 := k _ (ha.put hd' undef)
  unfold wpSched wk1
  match kd with
  | 0 => exact ⟨undef, .inr ⟨e2, rfl⟩, h2⟩
  | 1 => simp only [e2]; exact h2
  | m + 2 => simp only [e2]; exact h2
theorem dpart {l : List (Nat × Oper)} {b : Bool} (s : Nat) (hs : lk al s = some (.bool b)) (ht : b = true → WD P n ops Q l ((s, .bool true) :: al) w) (hf : b = false → WD P n ops Q l ((s, .bool false) :: al) w) : WD P n ops Q l al w := by
  cases b
  · exact (hf rfl).sub (Sub.cons hs Sub.refl)
  · exact (ht rfl).sub (Sub.cons hs Sub.refl)
theorem dknow {l : List (Nat × Oper)} {v : Value} (s : Nat) (u : Value) (hs : lk al s = some v) (hv : v = u) (k : WD P n ops Q l ((s, u) :: al) w) : WD P n ops Q l al w := by
  subst hv
  exact k.sub (Sub.cons hs Sub.refl)
/-- it makes memory: a list's own law serves -/
theorem deff {v : Value} {w' : World} (h : ∀ a, Fr n al a → (execOp a.eval ⟨some d, op, ty, pos, aft, none⟩).run P w = .ok (.value v) w') (hx : Ext w w') (hd : Nat.blt d n = true) (k : WD P n ops Q rest ((d, v) :: al) w') :
    WD P n ops Q ((1, ⟨some d, op, ty, pos, aft, none⟩) :: rest) al w := fun a ha => by
  have hd' : d < n := by have : d + 1 ≤ n := by simpa [Nat.blt] using hd
                         omega
  unfold wpSched wk1
  have e1 : Region.wanted (⟨some d, op, ty, pos, aft, none⟩ : Oper) (yielded ops a.tmps) = true := rfl
  simp only [e1, if_true]
  unfold Oper.wp
  rw [h a ha, Oper.upon_value]
  exact ⟨hx, k _ (ha.put hd' v)⟩
theorem dcall {f : FuncId} {xs : Array Operand} {ats : Array TypeId} {vs : List Value} {Φ : Value → World → Prop} (hx : evs al xs.toList = some vs) (hd : Nat.blt d n = true) (hc : Ret P f vs w Φ)
    (k : ∀ v w', Φ v w' → Ext w w' ∧ WD P n ops Q rest ((d, v) :: al) w') : WD P n ops Q ((1, ⟨some d, .call { callee := .value (.func f), args := xs, argTypes := ats }, ty, pos, aft, none⟩) :: rest) al w := fun a ha => by
  have hd' : d < n := by have : d + 1 ≤ n := by simpa [Nat.blt] using hd
                         omega
  have h1 : xs.map a.eval = vs.toArray := by rw [← ha.evs hx, ← List.map_toArray, Array.toArray_toList]
  have h2 : (execOp a.eval ⟨some d, .call { callee := .value (.func f), args := xs, argTypes := ats }, ty, pos, aft, none⟩).run P w = .ok (.enter f vs.toArray) w := by
    simp [execOp, resolve, h1, Act.eval, Deferred.ofValue, invoke, run_callFunc hc.ok]
  unfold wpSched wk1
  have e1 : Region.wanted (⟨some d, .call { callee := .value (.func f), args := xs, argTypes := ats }, ty, pos, aft, none⟩ : Oper) (yielded ops a.tmps) = true := rfl
  simp only [e1, if_true]
  exact enterk h2 hc fun v w' hp => ⟨(k v w' hp).1, (k v w' hp).2 _ (ha.put hd' v)⟩

/-! ### what only reads, in a region that draws -/
variable {tt : TT}
theorem ext_cell {w w' : World} (hx : Ext w w') {p : Addr} {v : Value} (hc : w.cell? p = some v) : w'.cell? p = some v := by
  rw [← hc]; exact hx.cell (World.block_lt_of_cell? w p hc)
theorem dload (hT : TOk P tt) {x : Operand} {t : Nat} {k : TK} {p : Addr} {v : Value} (ht : tk tt t = some k) (hk : plainT k.desc = true) (hx : ev al x = some (.pointer (some p))) (hc : w.cell? p = some v) (hd : Nat.blt d n = true)
    (kk : WD P n ops Q rest ((d, v) :: al) w) : WD P n ops Q ((0, ⟨some d, .load t x, ty, pos, aft, none⟩) :: rest) al w :=
  dy (fun w' he a ha => by simp [execOp, ha.ev hx, Instr.loadAt, Instr.sureAddr, run_load1 (w := w') hT ht hk (ext_cell he hc)]) hd kk
theorem dloadS (hT : TOk P tt) {x : Operand} {t : Nat} {k : TK} {p : Addr} {cs : List Value} (ht : tk tt t = some k) (hk : k.desc = .invalid) (hl : k.size = cs.length) (hx : ev al x = some (.pointer (some p))) (hc : ∀ j u, cs[j]? = some u → w.cell? (p.add j) = some u) (hd : Nat.blt d n = true)
    (kk : WD P n ops Q rest ((d, .agg cs.toArray) :: al) w) : WD P n ops Q ((0, ⟨some d, .load t x, ty, pos, aft, none⟩) :: rest) al w :=
  dy (fun w' he a ha => by simp [execOp, ha.ev hx, Instr.loadAt, Instr.sureAddr, run_loadS (w := w') hT ht hk hl (fun j u hu => ext_cell he (hc j u hu))]) hd kk
theorem dindexq (hT : TOk P tt) {x i : Operand} {t e sz : Nat} {k : TK} {A : Option Addr} {m c : Nat} {kd : IntKind} {z : Int} {cs : List Value} (q : Nat) (j : Nat)
    (ht : tk tt t = some k) (hk : k.desc = .slice e) (hz : k.esz = sz) (hx : ev al x = some (.slice A m c)) (hi : ev al i = some (.int kd z)) (hr : Rd w sz A m cs) (hj : z = (j : Int)) (hlt : j < m) (h0 : 0 < sz) (hq : j * sz = q) (hd : Nat.blt d n = true)
    (kk : WD P n ops Q rest ((d, .pointer (some (adr A q))) :: al) w) : WD P n ops Q ((0, ⟨some d, .indexAddr t x i, ty, pos, aft, none⟩) :: rest) al w := by
  obtain ⟨hu, hs⟩ := tk_slice hT ht hk hz
  obtain ⟨ad, rfl, hb⟩ := hr.isome (by omega) h0
  subst hj; subst hq
  refine dy (fun w' he a ha => ?_) hd kk
  simp [execOp, ha.ev hx, ha.ev hi, Instr.indexAt, asIntOf, run_underlying hu, run_sizeOf w' hs, adr]
  intro h; omega
theorem dindex1 (hT : TOk P tt) {x i : Operand} {t e : Nat} {k : TK} {A : Option Addr} {m c : Nat} {kd : IntKind} {z : Int} {cs : List Value} (j : Nat)
    (ht : tk tt t = some k) (hk : k.desc = .slice e) (hz : k.esz = 1) (hx : ev al x = some (.slice A m c)) (hi : ev al i = some (.int kd z)) (hr : Rd w 1 A m cs) (hj : z = (j : Int)) (hlt : j < m) (hd : Nat.blt d n = true)
    (kk : WD P n ops Q rest ((d, .pointer (some (adr A j))) :: al) w) : WD P n ops Q ((0, ⟨some d, .indexAddr t x i, ty, pos, aft, none⟩) :: rest) al w :=
  dindexq hT j j ht hk hz hx hi hr hj hlt (by omega) (by omega) hd kk
theorem dadd {x y : Operand} {t yt : TypeId} {a b : Int} (hx : ev al x = some (.int .i64 a)) (hy : ev al y = some (.int .i64 b)) (hc : -9223372036854775808 ≤ a + b ∧ a + b ≤ 9223372036854775807) (hd : Nat.blt d n = true)
    (k : WD P n ops Q rest ((d, .int .i64 (a + b)) :: al) w) : WD P n ops Q ((0, ⟨some d, .binOp .add t x y yt, ty, pos, aft, none⟩) :: rest) al w := by
  have e : IntKind.i64.wrap (a + b) = a + b := by rw [IntKind.wrap_i64]; omega
  exact dp (tt := []) trivial (v := .int .i64 (a + b)) (by simp only [pv, hx, hy, bop, if_true, e]) hd k
theorem dsub {x y : Operand} {t yt : TypeId} {a b : Int} (hx : ev al x = some (.int .i64 a)) (hy : ev al y = some (.int .i64 b)) (hc : -9223372036854775808 ≤ a - b ∧ a - b ≤ 9223372036854775807) (hd : Nat.blt d n = true)
    (k : WD P n ops Q rest ((d, .int .i64 (a - b)) :: al) w) : WD P n ops Q ((0, ⟨some d, .binOp .sub t x y yt, ty, pos, aft, none⟩) :: rest) al w := by
  have e : IntKind.i64.wrap (a - b) = a - b := by rw [IntKind.wrap_i64]; omega
  exact dp (tt := []) trivial (v := .int .i64 (a - b)) (by simp only [pv, hx, hy, bop, if_true, e]) hd k
theorem dslice (hT : TOk P tt) {x : Operand} {lo hi mx : Option Operand} {t e sz : Nat} {k : TK} {A : Option Addr} {m c : Nat} (l h q : Nat)
    (ht : tk tt t = some k) (hk : k.desc = .slice e) (hz : k.esz = sz) (hx : ev al x = some (.slice A m c)) (hl : Bnd al lo 0 l) (hh : Bnd al hi m h) (hq : Bnd al mx c q) (hm : mx = none ∨ hi ≠ none) (h1 : l ≤ h) (h2 : h ≤ q) (h3 : q ≤ c) (hd : Nat.blt d n = true)
    (kk : WD P n ops Q rest ((d, .slice (if q = l then A else A.map (·.add (l * sz))) (h - l) (q - l)) :: al) w) : WD P n ops Q ((0, ⟨some d, .slice t x lo hi mx, ty, pos, aft, none⟩) :: rest) al w := by
  obtain ⟨hu, hs⟩ := tk_slice hT ht hk hz
  exact dy (fun w' he a ha => run_sliceOp (w := w') ha hu hs hx hl hh hq hm h1 h2 h3) hd kk
end
end Go.Wk
