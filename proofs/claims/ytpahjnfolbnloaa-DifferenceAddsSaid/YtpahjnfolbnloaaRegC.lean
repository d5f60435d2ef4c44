/- The walking layer: a region that draws its order, in three parts: what reads no memory is taken first; then what only reads, or makes memory; then the tail (stores), which waits for all that reads. No program in sight. -/
import Derived.Test.YtpahjnfolbnloaaTail
set_option linter.unusedVariables false
namespace Go.Wk
open Go.RowKit
section
variable {P : Program} {ops : Array Oper} {Q : Exit → Act → World → Prop} {T : Nat → Bool}
/-- whatever order is picked from here on; what is not of the tail leaves all old memory alone -/
def wpAnyC (P : Program) (ops : Array Oper) (Q : Exit → Act → World → Prop) (T : Nat → Bool) : Nat → Array Bool → Act → World → Prop
  | 0, listed, a, w => Region.ready .any ops listed = [] ∧ Q .normal a w
  | fuel + 1, listed, a, w =>
    (Region.ready .any ops listed = [] → Q .normal a w) ∧
      ∀ i ∈ Region.ready .any ops listed, wpOp P ops (QF Q) i (fun a' w' => (T i = false → Ext w w') ∧ wpAnyC P ops Q T fuel (listed.setIfInBounds i true) a' w') a w
theorem wpAny_of_C : ∀ (fuel : Nat) (listed : Array Bool) (a : Act) (w : World), wpAnyC P ops Q T fuel listed a w → wpAny P .any ops Q fuel listed a w
  | 0, _, _, _, h => h
  | fuel + 1, _, _, _, h => ⟨h.1, fun i hi => wpOp_mono (fun a' w' h' => wpAny_of_C fuel _ a' w' h'.2) (wpOp_monoQ (h.2 i hi))⟩
/-- it waits, directly or through others -/
def reach (ops : Array Oper) : Nat → Nat → Nat → Bool
  | 0, _, _ => false
  | f + 1, t, r => match ops[t]? with
    | none => false
    | some o => (o.after.any fun e => Region.binds .any e && e.on == r) || o.after.any fun e => Region.binds .any e && reach ops f e.on r
def Closed (ops : Array Oper) (listed : Array Bool) : Prop := ∀ k o, ops[k]? = some o → listed.getD k false = true → ∀ e ∈ o.after, Region.binds .any e = true → listed.getD e.on false = true
theorem reach_listed {listed : Array Bool} (hc : Closed ops listed) : ∀ (f t r : Nat) (o : Oper), ops[t]? = some o → (∀ e ∈ o.after, Region.binds .any e = true → listed.getD e.on false = true) → reach ops f t r = true → listed.getD r false = true
  | 0, _, _, _, _, _, h => by cases h
  | f + 1, t, r, o, ho, hl, h => by
    simp only [reach, ho, Bool.or_eq_true, Array.any_eq_true', Bool.and_eq_true, beq_iff_eq] at h
    rcases h with ⟨e, he, hb, hr⟩ | ⟨e, he, hb, hr⟩
    · have := hl e he hb; rw [hr] at this; exact this
    · have h1 := hl e he hb
      cases ho' : ops[e.on]? with
      | none =>
        cases f with
        | zero => cases hr
        | succ f => simp [reach, ho'] at hr
      | some o' => exact reach_listed hc f e.on r o' ho' (hc e.on o' ho' h1) hr
theorem ready_listed {listed : Array Bool} {j : Nat} {oj : Oper} (hoj : ops[j]? = some oj) (hj : j ∈ Region.ready .any ops listed) : ∀ e ∈ oj.after, Region.binds .any e = true → listed.getD e.on false = true := by
  obtain ⟨_, o', ho', hall⟩ := mem_ready.1 hj
  rw [hoj] at ho'
  injection ho' with ho'
  subst ho'
  intro e he hb
  have := hall e he hb
  rcases Nat.lt_or_ge e.on listed.size with h' | h'
  · simp [h'] at this ⊢; exact this
  · simp [Array.getElem?_eq_none h'] at this
theorem Closed.step {listed : Array Bool} (hc : Closed ops listed) {i : Nat} (hi : i ∈ Region.ready .any ops listed) : Closed ops (listed.setIfInBounds i true) := by
  have keep : ∀ k, listed.getD k false = true → (listed.setIfInBounds i true).getD k false = true := fun k hk => by
    by_cases hik : i = k
    · subst hik
      have hlt : i < listed.size := by
        rcases Nat.lt_or_ge i listed.size with h' | h'
        · exact h'
        · simp [Array.getElem?_eq_none h'] at hk
      simp [hlt]
    · simpa [Array.getElem?_setIfInBounds_ne hik] using hk
  intro k o ho hk e he hb
  by_cases hik : i = k
  · subst hik; exact keep _ (ready_listed ho hi e he hb)
  · have : listed.getD k false = true := by simpa [Array.getElem?_setIfInBounds_ne hik] using hk
    exact keep _ (hc k o ho this e he hb)
theorem wpAnyC_first (S : World → World → Prop) (hS0 : ∀ w, S w w) (hSt : ∀ {a b c}, S a b → S b c → S a c) {i : Nat} {oi : Oper} {v : Value} (hi : ops[i]? = some oi) (hsel : ∀ (j : Nat) (o : Oper) cs b, ops[j]? = some o → o.op ≠ .select cs b)
    (hSx : ∀ listed j, Closed ops listed → i ∈ Region.ready .any ops listed → j ∈ Region.ready .any ops listed → ∀ w w', (T j = false → Ext w w') → S w w') :
    ∀ (fuel : Nat) (listed : Array Bool) (a : Act) (w : World), Closed ops listed →
      (∀ j oj, ops[j]? = some oj → j ≠ i → listed.getD j true = false → (∀ e ∈ oj.after, Region.binds .any e = true → e.on ≠ i) → oi.apart ops oj = true) →
      i ∈ Region.ready .any ops listed → YieldsIf P ops (S w) oi v a →
      wpAnyC P ops Q T fuel (listed.setIfInBounds i true) (a.put oi.dst v) w → wpAnyC P ops Q T (fuel + 1) listed a w := by
  intro fuel
  induction fuel with
  | zero =>
    intro listed a w hcl _ hr hy H
    refine ⟨fun h => (by rw [h] at hr; cases hr), fun j hj => ?_⟩
    by_cases hji : j = i
    · subst hji; exact hy.wpOp hi (hS0 w) ⟨fun _ => Ext.refl w, H⟩
    · have := ready_mono hj hji
      rw [H.1] at this
      cases this
  | succ fuel ih =>
    intro listed a w hcl hfree hr hy H
    refine ⟨fun h => (by rw [h] at hr; cases hr), fun j hj => ?_⟩
    by_cases hji : j = i
    · subst hji; exact hy.wpOp hi (hS0 w) ⟨fun _ => Ext.refl w, H⟩
    · obtain ⟨hjun, oj, hoj, hall⟩ := mem_ready.1 hj
      have h1 := H.2 j (ready_mono hj hji)
      have hnot : ∀ e ∈ oj.after, Region.binds .any e = true → e.on ≠ i := fun e he hb heq => by
        have h1 := hall e he hb
        have h0 := (mem_ready.1 hr).1
        rw [heq] at h1
        rcases Nat.lt_or_ge i listed.size with h' | h'
        · simp [h'] at h0 h1; rw [h0] at h1; cases h1
        · simp [Array.getElem?_eq_none h'] at h1
      have h2 := wpOp_putIf hoj (hfree j oj hoj hji hjun hnot) (fun cs b => hsel i oi cs b hi) (fun cs b => hsel j oj cs b hoj) (fun c a w h => h) hy h1
      have hfree' : ∀ k ok, ops[k]? = some ok → k ≠ i → (listed.setIfInBounds j true).getD k true = false →
          (∀ e ∈ ok.after, Region.binds .any e = true → e.on ≠ i) → oi.apart ops ok = true := fun k ok hk hki hun hno => by
        refine hfree k ok hk hki ?_ hno
        by_cases hjk : j = k
        · subst hjk; exact hjun
        · rw [getD_set_ne true hjk] at hun; exact hun
      refine wpOp_mono (fun a' w' h3 => ⟨h3.2.1, ih (listed.setIfInBounds j true) a' w' (hcl.step hj) hfree' (ready_mono hr (Ne.symm hji)) ?_ ?_⟩) h2
      · exact h3.1.imp (fun ⟨h4, h5⟩ => ⟨h4, fun w'' hx => h5 w'' (hSt (hSx listed j hcl hr hj w w' h3.2.1) hx)⟩) id
      · rw [Array.setIfInBounds_comm _ _ hji]
        exact h3.2.2
/-- the schedule behind the pure part: kinds 0 (reads), 1 (makes memory), 2 (the tail) -/
theorem wpAnyC_of_sched (hsel : Region.noSelect ops = true) (F : Nat) : ∀ (s : List (Nat × Nat)) (listed : Array Bool) (a : Act) (w : World), Closed ops listed → (∀ p ∈ s, Nat.ble p.1 2 = true) → (∀ p ∈ s, p.2 < ops.size) → (∀ p ∈ s, (p.1 == 2) = T p.2) →
    (∀ t, T t = true → t < ops.size → ∀ p ∈ s, p.1 = 0 → reach ops F t p.2 = true) → canonB ops s listed = true → wpSched P ops Q (opsOf ops.toList s) a w → wpAnyC P ops Q T s.length listed a w
  | [], listed, a, w, _, _, _, _, _, hB, h => ⟨by simpa [canonB] using hB, h⟩
  | (k, i) :: r, listed, a, w, hcl, hk, hlt, hKT, hR, hB, h => by
    have hi : i < ops.size := hlt _ (List.mem_cons_self ..)
    have ho : ops[i]? = some ops[i] := Array.getElem?_eq_getElem hi
    have hn : nth ops.toList i = some ops[i] := by rw [nth_eq]; simp [hi]
    have hTi := hKT _ (List.mem_cons_self ..)
    have hk0 := hk _ (List.mem_cons_self ..)
    simp only at hTi hk0
    have hrec : Closed ops (listed.setIfInBounds i true) → canonB ops r (listed.setIfInBounds i true) = true → ∀ a w, wpSched P ops Q (opsOf ops.toList r) a w → wpAnyC P ops Q T r.length (listed.setIfInBounds i true) a w := fun hc' hB' a w h' =>
      wpAnyC_of_sched hsel F r _ a w hc' (fun p hp => hk p (List.mem_cons_of_mem _ hp)) (fun p hp => hlt p (List.mem_cons_of_mem _ hp)) (fun p hp => hKT p (List.mem_cons_of_mem _ hp)) (fun t ht htl p hp => hR t ht htl p (List.mem_cons_of_mem _ hp)) hB' h'
    have one : canonB ops r (listed.setIfInBounds i true) = true → Region.ready .any ops listed = [i] → (T i = false → if Region.wanted ops[i] (yielded ops a.tmps) then ops[i].wp P a w (fun a' w' => Ext w w' ∧ wpSched P ops Q (opsOf ops.toList r) a' w') (QF Q) else wpSched P ops Q (opsOf ops.toList r) (a.put ops[i].dst undef) w) →
        (T i = true → if Region.wanted ops[i] (yielded ops a.tmps) then ops[i].wp P a w (wpSched P ops Q (opsOf ops.toList r)) (QF Q) else wpSched P ops Q (opsOf ops.toList r) (a.put ops[i].dst undef) w) → wpAnyC P ops Q T (r.length + 1) listed a w := fun hB' hr hf ht => by
      have hcl' : Closed ops (listed.setIfInBounds i true) := hcl.step (by rw [hr]; exact List.mem_singleton.2 rfl)
      refine ⟨fun h0 => (by rw [hr] at h0; cases h0), fun j hj => ?_⟩
      rw [hr] at hj
      obtain rfl : j = i := by simpa using hj
      unfold wpOp
      simp only [ho]
      cases hT : T j with
      | false =>
        have h := hf hT
        split
        · rename_i hw
          simp only [hw, if_true] at h
          exact .inl (Oper.wp_mono (fun a' w' h' => ⟨fun _ => h'.1, hrec hcl' hB' _ _ h'.2⟩) h)
        · rename_i hw; simp only [hw] at h; exact ⟨fun _ => Ext.refl w, hrec hcl' hB' _ _ h⟩
      | true =>
        have h := ht hT
        split
        · rename_i hw
          simp only [hw, if_true] at h
          exact .inl (Oper.wp_mono (fun a' w' h' => ⟨fun h0 => (by cases h0), hrec hcl' hB' _ _ h'⟩) h)
        · rename_i hw; simp only [hw] at h; exact ⟨fun _ => Ext.refl w, hrec hcl' hB' _ _ h⟩
    match k, hTi, hk0, hR, hB, h with
    | 0, hTi, _, hR, hB, h =>
      simp only [canonB, Bool.and_eq_true] at hB
      obtain ⟨⟨hr, hf⟩, hB'⟩ := hB
      have hr' : i ∈ Region.ready .any ops listed := by simpa using hr
      simp only [opsOf, hn, wpSched, wk1] at h
      obtain ⟨v, hy, h⟩ := h
      refine wpAnyC_first Ext Ext.refl Ext.trans ho (Region.noSelect_spec hsel) ?_ r.length listed a w hcl (Region.free_spec ho hf) hr' hy (hrec (hcl.step hr') hB' _ _ h)
      intro listed' j hcl' hri hrj w w' hx
      cases hT : T j with
      | false => exact hx hT
      | true =>
        obtain ⟨_, oj, hoj, _⟩ := mem_ready.1 hrj
        have h1 := reach_listed hcl' F j i oj hoj (ready_listed hoj hrj) (hR j hT (Array.getElem?_eq_some_iff.1 hoj).1 _ (List.mem_cons_self ..) rfl)
        have h0 := (mem_ready.1 hri).1
        rcases Nat.lt_or_ge i listed'.size with h' | h'
        · simp [h'] at h0 h1; rw [h0] at h1; cases h1
        · simp [Array.getElem?_eq_none h'] at h1
    | 1, hTi, _, hR, hB, h =>
      simp only [canonB, Bool.and_eq_true, beq_iff_eq] at hB
      simp only [opsOf, hn, wpSched, wk1] at h
      refine one hB.2 hB.1 (fun _ => h) (fun ht => ?_)
      rw [← hTi] at ht; cases ht
    | 2, hTi, _, hR, hB, h =>
      simp only [canonB, Bool.and_eq_true, beq_iff_eq] at hB
      simp only [opsOf, hn, wpSched, wk1] at h
      refine one hB.2 hB.1 (fun ht => ?_) (fun _ => h)
      rw [← hTi] at ht; cases ht
    | k + 3, _, hk0, _, _, _ => simp at hk0
/-- the pure part -/
def wpPure (P : Program) (ops : Array Oper) (K : Act → World → Prop) : List Oper → Act → World → Prop
  | [], a, w => K a w
  | o :: r, a, w => ∃ v, YieldsIf P ops (fun _ => True) o v a ∧ wpPure P ops K r (a.put o.dst v) w
def canonP (ops : Array Oper) (s : List (Nat × Nat)) : List Nat → Array Bool → Bool
  | [], listed => canonB ops s listed
  | i :: r, listed => Nat.blt i ops.size && (Region.ready .any ops listed).contains i && Region.free .any ops listed i && canonP ops s r (listed.setIfInBounds i true)
def opsAt (l : List Oper) : List Nat → List Oper
  | [] => []
  | i :: r => match nth l i with
    | some o => o :: opsAt l r
    | none => opsAt l r
theorem wpAnyC_of_pure (hsel : Region.noSelect ops = true) (F : Nat) {s : List (Nat × Nat)} (hk : ∀ p ∈ s, Nat.ble p.1 2 = true) (hlt : ∀ p ∈ s, p.2 < ops.size) (hKT : ∀ p ∈ s, (p.1 == 2) = T p.2)
    (hR : ∀ t, T t = true → t < ops.size → ∀ p ∈ s, p.1 = 0 → reach ops F t p.2 = true) : ∀ (s0 : List Nat) (listed : Array Bool) (a : Act) (w : World), Closed ops listed → canonP ops s s0 listed = true →
    wpPure P ops (wpSched P ops Q (opsOf ops.toList s)) (opsAt ops.toList s0) a w → wpAnyC P ops Q T (s0.length + s.length) listed a w
  | [], listed, a, w, hcl, hB, h => by
    simp only [List.length_nil, Nat.zero_add]
    exact wpAnyC_of_sched hsel F s listed a w hcl hk hlt hKT hR hB h
  | i :: r, listed, a, w, hcl, hB, h => by
    simp only [canonP, Bool.and_eq_true] at hB
    obtain ⟨⟨⟨hi0, hr⟩, hf⟩, hB'⟩ := hB
    have hi : i < ops.size := by have : i + 1 ≤ ops.size := by simpa [Nat.blt] using hi0
                                 omega
    have ho : ops[i]? = some ops[i] := Array.getElem?_eq_getElem hi
    have hn : nth ops.toList i = some ops[i] := by rw [nth_eq]; simp [hi]
    have hr' : i ∈ Region.ready .any ops listed := by simpa using hr
    simp only [opsAt, hn, wpPure] at h
    obtain ⟨v, hy, h⟩ := h
    have e : (i :: r).length + s.length = (r.length + s.length) + 1 := by simp; omega
    rw [e]
    exact wpAnyC_first (fun _ _ => True) (fun _ => trivial) (fun _ _ => trivial) ho (Region.noSelect_spec hsel) (fun _ _ _ _ _ _ _ _ => trivial) _ listed a w hcl (Region.free_spec ho hf) hr' hy
      (wpAnyC_of_pure hsel F hk hlt hKT hR r _ _ _ (hcl.step hr') hB' h)
def schedC (ops : Array Oper) (F : Nat) (s0 : List Nat) (s : List (Nat × Nat)) : Bool :=
  Region.noSelect ops && (s0.length + s.length == ops.size) && (s.all fun p => Nat.ble p.1 2) && (s.all fun p => Nat.blt p.2 ops.size) && (s.all fun p => (p.1 == 2) == tailOf s p.2) &&
  ((List.range ops.size).all fun t => !tailOf s t || s.all fun p => p.1 != 0 || reach ops F t p.2) && canonP ops s s0 (Array.replicate ops.size false)
end
section
variable {P : Program} {n : Nat} {al al' : AL} {w : World} {Q : Exit → Act → World → Prop} {ops : Array Oper} {s : List (Nat × Oper)} {rest : List Oper}
/-- what is asked of a region that draws, its pure part ahead -/
def WP (P : Program) (n : Nat) (ops : Array Oper) (Q : Exit → Act → World → Prop) (s : List (Nat × Oper)) (l : List Oper) (al : AL) (w : World) : Prop := ∀ a, Fr n al a → wpPure P ops (wpSched P ops Q s) l a w
theorem WP.sub {l : List Oper} (hs : Sub al' al) (h : WP P n ops Q s l al' w) : WP P n ops Q s l al w := fun a ha => h a (ha.sub hs)
theorem wdrawC {id : Nat} {l : List Oper} (F : Nat) (s0 : List Nat) (s : List (Nat × Nat)) (hm : P.follows .mixedOrders = true) (hB : schedC l.toArray F s0 s = true) (h : WP P n l.toArray Q (opsOf l s) (opsAt l s0) al w.drew) : WC P n (.region id l.toArray true) Q al w := by
  intro a ha
  simp only [schedC, Bool.and_eq_true, beq_iff_eq, List.all_eq_true, List.mem_range, Bool.or_eq_true, Bool.not_eq_true', bne_iff_ne] at hB
  obtain ⟨⟨⟨⟨⟨⟨h1, h2⟩, h3⟩, h4⟩, h5⟩, h6⟩, h7⟩ := hB
  refine wp_region_any hm ?_
  rw [← h2]
  refine wpAny_of_C (T := tailOf s) _ _ _ _ (wpAnyC_of_pure h1 F (fun p hp => h3 p hp) (fun p hp => ?_) (fun p hp => ?_) (fun t ht htl p hp h0 => ?_) s0 _ a _ ?_ (by rw [h2]; exact h7) ?_)
  · have := h4 p hp
    have h' : p.2 + 1 ≤ l.toArray.size := by simpa [Nat.blt] using this
    omega
  · simpa using h5 p hp
  · rcases h6 t htl with h' | h'
    · rw [ht] at h'; cases h'
    · rcases h' p hp with h'' | h''
      · exact absurd h0 h''
      · exact h''
  · intro k o ho hk e he hb
    exfalso
    simp only [Array.getD_eq_getD_getElem?, Array.getElem?_replicate] at hk
    split at hk <;> cases hk
  · have := h a ha
    simpa using this
variable {d ty : Nat} {op : Op} {pos : String} {aft : Array Edge} {tt : TT}
theorem pnil (h : WD P n ops Q s al w) : WP P n ops Q s [] al w := fun a ha => h a ha
theorem py {v : Value} (hy : ∀ w' a, Fr n al a → (execOp a.eval ⟨some d, op, ty, pos, aft, none⟩).run P w' = .ok (.value v) w') (hd : Nat.blt d n = true) (k : WP P n ops Q s rest ((d, v) :: al) w) : WP P n ops Q s (⟨some d, op, ty, pos, aft, none⟩ :: rest) al w := fun a ha => by
  have hd' : d < n := by have : d + 1 ≤ n := by simpa [Nat.blt] using hd
                         omega
  exact ⟨v, .inl ⟨rfl, fun w' _ => hy w' a ha⟩, k _ (ha.put hd' v)⟩
/-! in short words -/
theorem π4 [h : Tab P tt] {v : Value} (k : WP P n ops Q s rest ((d, v) :: al) w) (hv : pv tt (ev al) op = some v := by rfl) (hd : Nat.blt d n = true := by rfl) : WP P n ops Q s (⟨some d, op, ty, pos, aft, none⟩ :: rest) al w :=
  py (fun w' a ha => pv_ok w' h.ok (fun x u hx => ha.ev hx) hv) hd k
theorem π1 {x y : Operand} {t yt : TypeId} {a b : Int} (k : WP P n ops Q s rest ((d, .int .i64 (a + b)) :: al) w) (hx : ev al x = some (.int .i64 a) := by rfl) (hy : ev al y = some (.int .i64 b) := by rfl) (hd : Nat.blt d n = true := by rfl) (hc : -9223372036854775808 ≤ a + b ∧ a + b ≤ 9223372036854775807 := by omega) :
    WP P n ops Q s (⟨some d, .binOp .add t x y yt, ty, pos, aft, none⟩ :: rest) al w :=
  py (fun w' e he => by
    have e1 : IntKind.i64.wrap (a + b) = a + b := i64w hc
    have := pv_ok (P := P) (tt := []) w' trivial (o := ⟨some d, .binOp .add t x y yt, ty, pos, aft, none⟩) (ρ := e.eval) (e := ev al) (fun z u hz => he.ev hz) (v := .int .i64 (IntKind.i64.wrap (a + b))) (by simp only [pv, hx, hy, bop, if_true])
    rw [e1] at this; exact this) hd k
theorem π2 {x y : Operand} {t yt : TypeId} {a b : Int} (k : WP P n ops Q s rest ((d, .int .i64 (a - b)) :: al) w) (hx : ev al x = some (.int .i64 a) := by rfl) (hy : ev al y = some (.int .i64 b) := by rfl) (hd : Nat.blt d n = true := by rfl) (hc : -9223372036854775808 ≤ a - b ∧ a - b ≤ 9223372036854775807 := by omega) :
    WP P n ops Q s (⟨some d, .binOp .sub t x y yt, ty, pos, aft, none⟩ :: rest) al w :=
  py (fun w' e he => by
    have e1 : IntKind.i64.wrap (a - b) = a - b := i64w hc
    have := pv_ok (P := P) (tt := []) w' trivial (o := ⟨some d, .binOp .sub t x y yt, ty, pos, aft, none⟩) (ρ := e.eval) (e := ev al) (fun z u hz => he.ev hz) (v := .int .i64 (IntKind.i64.wrap (a - b))) (by simp only [pv, hx, hy, bop, if_true])
    rw [e1] at this; exact this) hd k
theorem π5 (h : WD P n ops Q s al w) : WP P n ops Q s [] al w := pnil h
/-- a region that draws -/
theorem drC [h : Tab P tt] {id : Nat} {l : List Oper} (F : Nat) (s0 : List Nat) (s : List (Nat × Nat)) (hB : schedC l.toArray F s0 s = true) (k : WP P n l.toArray Q (opsOf l s) (opsAt l s0) al w.drew) : WC P n (.region id l.toArray true) Q al w := wdrawC F s0 s h.mixed hB k
end
end Go.Wk
