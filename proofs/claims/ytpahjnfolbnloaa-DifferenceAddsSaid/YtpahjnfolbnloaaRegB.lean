/- The walking layer: a region that draws its order, where an operation writes old memory of the call's own (an append): what is taken first reads no memory; all else has one order. No program in sight. -/
import Derived.Test.YtpahjnfolbnloaaStr
set_option linter.unusedVariables false
namespace Go.Wk
open Go.RowKit
section
variable {P : Program} {ops : Array Oper} {Q : Exit → Act → World → Prop} {T : Nat → Bool}
/-- whatever order is picked from here on; what is not of the tail leaves all old memory alone -/
def wpAnyEB (P : Program) (ops : Array Oper) (Q : Exit → Act → World → Prop) (T : Nat → Bool) : Nat → Array Bool → Act → World → Prop
  | 0, listed, a, w => Region.ready .any ops listed = [] ∧ Q .normal a w
  | fuel + 1, listed, a, w =>
    ((∀ i, unl ops listed i → T i = true) ∧ wpAny P .any ops Q (fuel + 1) listed a w) ∨
    ((Region.ready .any ops listed = [] → Q .normal a w) ∧
      ∀ i ∈ Region.ready .any ops listed, wpOp P ops (QF Q) i (fun a' w' => True ∧ wpAnyEB P ops Q T fuel (listed.setIfInBounds i true) a' w') a w)
theorem wpAny_of_EB : ∀ (fuel : Nat) (listed : Array Bool) (a : Act) (w : World), wpAnyEB P ops Q T fuel listed a w → wpAny P .any ops Q fuel listed a w
  | 0, _, _, _, h => h
  | fuel + 1, _, _, _, h => by
    rcases h with h | h
    · exact h.2
    · exact ⟨h.1, fun i hi => wpOp_mono (fun a' w' h' => wpAny_of_EB fuel _ a' w' h'.2) (wpOp_monoQ (h.2 i hi))⟩

theorem wpAnyE_firstB (hT : tailB ops T = true) {i : Nat} {oi : Oper} {v : Value} (hi : ops[i]? = some oi) (hn : T i = false) (hsel : ∀ (j : Nat) (o : Oper) cs b, ops[j]? = some o → o.op ≠ .select cs b) :
    ∀ (fuel : Nat) (listed : Array Bool) (a : Act) (w : World),
      (∀ j oj, ops[j]? = some oj → j ≠ i → listed.getD j true = false → (∀ e ∈ oj.after, Region.binds .any e = true → e.on ≠ i) → oi.apart ops oj = true) →
      i ∈ Region.ready .any ops listed → YieldsIf P ops (fun _ => True) oi v a →
      wpAnyEB P ops Q T fuel (listed.setIfInBounds i true) (a.put oi.dst v) w → wpAnyEB P ops Q T (fuel + 1) listed a w := by
  have hil : i < ops.size := (Array.getElem?_eq_some_iff.1 hi).1
  intro fuel
  induction fuel with
  | zero =>
    intro listed a w _ hr hy H
    refine .inr ⟨fun h => (by rw [h] at hr; cases hr), fun j hj => ?_⟩
    by_cases hji : j = i
    · subst hji; exact hy.wpOp hi trivial ⟨trivial, H⟩
    · have := ready_mono hj hji
      rw [H.1] at this
      cases this
  | succ fuel ih =>
    intro listed a w hfree hr hy H
    have hui : unl ops listed i := ⟨hil, (mem_ready.1 hr).1⟩
    refine .inr ⟨fun h => (by rw [h] at hr; cases hr), fun j hj => ?_⟩
    by_cases hji : j = i
    · subst hji; exact hy.wpOp hi trivial ⟨trivial, H⟩
    · obtain ⟨hjun, oj, hoj, hall⟩ := mem_ready.1 hj
      have hjt : T j = false := ready_not_tail hT hui hn hj
      rcases H with H | H
      · have := H.1 j ⟨(Array.getElem?_eq_some_iff.1 hoj).1, by rw [getD_set_ne true (Ne.symm hji)]; exact hjun⟩
        rw [hjt] at this
        cases this
      · have h1 := H.2 j (ready_mono hj hji)
        have hnot : ∀ e ∈ oj.after, Region.binds .any e = true → e.on ≠ i := fun e he hb heq => by
          have h1 := hall e he hb
          have h0 := (mem_ready.1 hr).1
          rw [heq] at h1
          rcases Nat.lt_or_ge i listed.size with h' | h'
          · simp [h'] at h0 h1; rw [h0] at h1; cases h1
          · simp [Array.getElem?_eq_none h'] at h1
        have h2 := wpOp_putIf hoj (hfree j oj hoj hji hjun hnot) (fun cs b => hsel i oi cs b hi) (fun cs b => hsel j oj cs b hoj) (fun c a w h => h) hy h1
        have hfree' : ∀ k ok, ops[k]? = some ok → k ≠ i → (listed.setIfInBounds j true).getD k true = false →
            (∀ e ∈ ok.after, Region.binds .any e = true → e.on ≠ i) → oi.apart ops ok = true := fun k ok hk hki hun hno => by
          refine hfree k ok hk hki ?_ hno
          by_cases hjk : j = k
          · subst hjk; exact hjun
          · rw [getD_set_ne true hjk] at hun; exact hun
        refine wpOp_mono (fun a' w' h3 => ⟨h3.2.1, ih (listed.setIfInBounds j true) a' w' hfree' (ready_mono hr (Ne.symm hji)) ?_ ?_⟩) h2
        · exact h3.1.imp (fun ⟨h4, h5⟩ => ⟨h4, fun w'' hx => h5 w'' trivial⟩) id
        · rw [Array.setIfInBounds_comm _ _ hji]
          exact h3.2.2

/-- one operation -/
def wk1B (P : Program) (ops : Array Oper) (Q : Exit → Act → World → Prop) (k : Nat) (o : Oper) (K : Act → World → Prop) (a : Act) (w : World) : Prop :=
  match k with
  | 0 => ∃ v, YieldsIf P ops (fun _ => True) o v a ∧ K (a.put o.dst v) w
  | 1 => if Region.wanted o (yielded ops a.tmps) then o.wp P a w (fun a' w' => True ∧ K a' w') (QF Q) else K (a.put o.dst undef) w
  | _ => if Region.wanted o (yielded ops a.tmps) then o.wp P a w K (QF Q) else K (a.put o.dst undef) w
/-- the walk in the canonical order -/
def wpSchedB (P : Program) (ops : Array Oper) (Q : Exit → Act → World → Prop) : List (Nat × Oper) → Act → World → Prop
  | [], a, w => Q .normal a w
  | p :: r, a, w => wk1B P ops Q p.1 p.2 (wpSchedB P ops Q r) a w
theorem wpAny_of_tailB : ∀ (s : List (Nat × Nat)) (listed : Array Bool) (a : Act) (w : World), (∀ p ∈ s, p.1 = 2) → (∀ p ∈ s, p.2 < ops.size) → canonB ops s listed = true → wpSchedB P ops Q (opsOf ops.toList s) a w → wpAny P .any ops Q s.length listed a w
  | [], listed, a, w, _, _, hB, h => ⟨by simpa [canonB] using hB, h⟩
  | (k, i) :: r, listed, a, w, hk, hlt, hB, h => by
    obtain rfl : k = 2 := hk _ (List.mem_cons_self ..)
    have hi : i < ops.size := hlt _ (List.mem_cons_self ..)
    simp only [canonB, Bool.and_eq_true, beq_iff_eq] at hB
    obtain ⟨hr, hB'⟩ := hB
    have ho : ops[i]? = some ops[i] := Array.getElem?_eq_getElem hi
    have hn : nth ops.toList i = some ops[i] := by rw [nth_eq]; simp [hi]
    simp only [opsOf, hn, wpSchedB, wk1B] at h
    refine ⟨fun h0 => (by rw [hr] at h0; cases h0), fun j hj => ?_⟩
    rw [hr] at hj
    obtain rfl : j = i := by simpa using hj
    have hrec : ∀ a w, wpSchedB P ops Q (opsOf ops.toList r) a w → wpAny P .any ops Q r.length (listed.setIfInBounds j true) a w := fun a w h' =>
      wpAny_of_tailB r _ a w (fun p hp => hk p (List.mem_cons_of_mem _ hp)) (fun p hp => hlt p (List.mem_cons_of_mem _ hp)) hB' h'
    refine wpOp_mono hrec (wpOp_monoQ ?_)
    unfold wpOp
    simp only [ho]
    split
    · rename_i hw; simp only [hw, if_true] at h; exact .inl h
    · rename_i hw; simp only [hw] at h; exact h

theorem wpAnyE_of_schedB (hsel : Region.noSelect ops = true) (hT : tailB ops T = true) : ∀ (s : List (Nat × Nat)) (listed : Array Bool) (a : Act) (w : World), kindsB s = true → (∀ p ∈ s, p.2 < ops.size) → (∀ p ∈ s, (p.1 == 2) = T p.2) →
    (∀ i, unl ops listed i → ∃ k, (k, i) ∈ s) → canonB ops s listed = true → wpSchedB P ops Q (opsOf ops.toList s) a w → wpAnyEB P ops Q T s.length listed a w
  | [], listed, a, w, _, _, _, _, hB, h => ⟨by simpa [canonB] using hB, h⟩
  | (k, i) :: r, listed, a, w, hk, hlt, hKT, hall, hB, h => by
    have hi : i < ops.size := hlt _ (List.mem_cons_self ..)
    have ho : ops[i]? = some ops[i] := Array.getElem?_eq_getElem hi
    have hn : nth ops.toList i = some ops[i] := by rw [nth_eq]; simp [hi]
    simp only [kindsB, Bool.and_eq_true] at hk
    have hTi := hKT _ (List.mem_cons_self ..)
    simp only at hTi
    have hall' : ∀ j, unl ops (listed.setIfInBounds i true) j → ∃ k, (k, j) ∈ r := fun j hj => by
      by_cases hji : j = i
      · subst hji
        have h2 := hj.2
        rcases Nat.lt_or_ge j listed.size with h' | h'
        · simp [h'] at h2
        · simp at h2
      · obtain ⟨k', hk'⟩ := hall j ⟨hj.1, by rw [← getD_set_ne true (Ne.symm hji)]; exact hj.2⟩
        rcases List.mem_cons.1 hk' with h' | h'
        · injection h' with _ h'; exact absurd h' hji
        · exact ⟨k', h'⟩
    have hrec : canonB ops r (listed.setIfInBounds i true) = true → ∀ a w, wpSchedB P ops Q (opsOf ops.toList r) a w → wpAnyEB P ops Q T r.length (listed.setIfInBounds i true) a w := fun hB' a w h' =>
      wpAnyE_of_schedB hsel hT r _ a w hk.2 (fun p hp => hlt p (List.mem_cons_of_mem _ hp)) (fun p hp => hKT p (List.mem_cons_of_mem _ hp)) hall' hB' h'
    match k, hTi, hk, hB, h with
    | 0, hTi, hk, hB, h =>
      simp only [canonB, Bool.and_eq_true] at hB
      obtain ⟨⟨hr, hf⟩, hB'⟩ := hB
      simp only [opsOf, hn, wpSchedB, wk1B] at h
      obtain ⟨v, hy, h⟩ := h
      exact wpAnyE_firstB hT ho (by rw [← hTi]; rfl) (Region.noSelect_spec hsel) r.length listed a w (Region.free_spec ho hf) (by simpa using hr) hy (hrec hB' _ _ h)
    | 1, hTi, hk, hB, h =>
      simp only [canonB, Bool.and_eq_true, beq_iff_eq] at hB
      obtain ⟨hr, hB'⟩ := hB
      simp only [opsOf, hn, wpSchedB, wk1B] at h
      refine .inr ⟨fun h0 => (by rw [hr] at h0; cases h0), fun j hj => ?_⟩
      rw [hr] at hj
      obtain rfl : j = i := by simpa using hj
      unfold wpOp
      simp only [ho]
      split
      · rename_i hw
        simp only [hw, if_true] at h
        exact .inl (Oper.wp_mono (fun a' w' h' => ⟨h'.1, hrec hB' _ _ h'.2⟩) h)
      · rename_i hw; simp only [hw] at h; exact ⟨trivial, hrec hB' _ _ h⟩
    | 2, hTi, hk, hB, h =>
      refine .inl ⟨fun j hj => ?_, wpAny_of_tailB ((2, i) :: r) listed a w ?_ hlt hB h⟩
      · obtain ⟨k', hk'⟩ := hall j hj
        have h1 := hKT _ hk'
        simp only at h1
        rw [← h1]
        rcases List.mem_cons.1 hk' with h' | h'
        · injection h' with h' _; rw [h']; rfl
        · have := hk.1.2
          simp only [bne_self_eq_false, Bool.false_or, List.all_eq_true] at this
          exact this _ h'
      · intro p hp
        rcases List.mem_cons.1 hp with h' | h'
        · rw [h']
        · have := hk.1.2
          simp only [bne_self_eq_false, Bool.false_or, List.all_eq_true] at this
          simpa using this _ h'
    | k + 3, hTi, hk, hB, h =>
      have := hk.1.1
      simp at this
end
section
variable {P : Program} {n : Nat} {al al' : AL} {w : World} {Q : Exit → Act → World → Prop} {ops : Array Oper} {rest : List (Nat × Oper)}
/-- what is asked of a region that draws -/
def WDB (P : Program) (n : Nat) (ops : Array Oper) (Q : Exit → Act → World → Prop) (l : List (Nat × Oper)) (al : AL) (w : World) : Prop := ∀ a, Fr n al a → wpSchedB P ops Q l a w
theorem WDB.sub {l : List (Nat × Oper)} (hs : Sub al' al) (h : WDB P n ops Q l al' w) : WDB P n ops Q l al w := fun a ha => h a (ha.sub hs)
theorem wdrawB {id : Nat} {l : List Oper} (s : List (Nat × Nat)) (hm : P.follows .mixedOrders = true) (hB : schedB l.toArray s = true) (h : WDB P n l.toArray Q (opsOf l s) al w.drew) : WC P n (.region id l.toArray true) Q al w := by
  intro a ha
  simp only [schedB, Bool.and_eq_true, beq_iff_eq, List.all_eq_true, List.any_eq_true, List.mem_range] at hB
  obtain ⟨⟨⟨⟨⟨⟨⟨h1, h2⟩, h3⟩, h4⟩, h5⟩, h6⟩, h7⟩, h8⟩ := hB
  refine wp_region_any hm ?_
  rw [← h2]
  refine wpAny_of_EB (T := tailOf s) _ _ _ _ (wpAnyE_of_schedB h1 h3 s _ a _ h4 (fun p hp => ?_) (fun p hp => ?_) (fun i hi => ?_) (by rw [h2]; exact h6) ?_)
  · have := h7 p hp
    have h' : p.2 + 1 ≤ l.toArray.size := by simpa [Nat.blt] using this
    omega
  · simpa using h5 p hp
  · obtain ⟨p, hp, he⟩ := h8 i hi.1
    exact ⟨p.1, by rw [← he]; exact hp⟩
  · have := h a ha
    simpa using this
theorem dnilB (h : QX n Q .normal al w) : WDB P n ops Q [] al w := fun a ha => h a ha

variable {d ty : Nat} {op : Op} {pos : String} {aft : Array Edge}
/-- it only reads: in every later world the same -/
def YldB (P : Program) (n : Nat) (al : AL) (w : World) (o : Oper) (v : Value) : Prop := ∀ w', True → ∀ a, Fr n al a → (execOp a.eval o).run P w' = .ok (.value v) w'
theorem dyB {v : Value} (hy : YldB P n al w ⟨some d, op, ty, pos, aft, none⟩ v) (hd : Nat.blt d n = true) (k : WDB P n ops Q rest ((d, v) :: al) w) : WDB P n ops Q ((0, ⟨some d, op, ty, pos, aft, none⟩) :: rest) al w := fun a ha => by
  have hd' : d < n := by have : d + 1 ≤ n := by simpa [Nat.blt] using hd
                         omega
  exact ⟨v, .inl ⟨rfl, fun w' hx => hy w' hx a ha⟩, k _ (ha.put hd' v)⟩
theorem dpB {tt : TT} (hT : TOk P tt) {v : Value} (hv : pv tt (ev al) op = some v) (hd : Nat.blt d n = true) (k : WDB P n ops Q rest ((d, v) :: al) w) : WDB P n ops Q ((0, ⟨some d, op, ty, pos, aft, none⟩) :: rest) al w :=
  dyB (fun w' _ a ha => pv_ok w' hT (fun x u hx => ha.ev hx) hv) hd k
theorem dpnB {tt : TT} (hT : TOk P tt) {v : Value} (hv : pv tt (ev al) op = some v) (k : WDB P n ops Q rest al w) : WDB P n ops Q ((0, ⟨none, op, ty, pos, aft, none⟩) :: rest) al w := fun a ha =>
  ⟨v, .inl ⟨rfl, fun w' hx => pv_ok w' hT (fun x u hx => ha.ev hx) hv⟩, k _ ha⟩
theorem dguardB {kd : Nat} {dst : Option Nat} {j s : Nat} {b : Bool} (hj : gslot ops j = some s) (hs : lk al s = some (.bool b)) (k : WDB P n ops Q ((kd, ⟨dst, op, ty, pos, aft, none⟩) :: rest) al w) :
    WDB P n ops Q ((kd, ⟨dst, op, ty, pos, aft, some (j, b)⟩) :: rest) al w := fun a ha => by
  have h := k a ha
  have hy := yielded_of (ops := ops) ha hj hs
  have e1 : Region.wanted (⟨dst, op, ty, pos, aft, none⟩ : Oper) (yielded ops a.tmps) = true := rfl
  have e2 : Region.wanted (⟨dst, op, ty, pos, aft, some (j, b)⟩ : Oper) (yielded ops a.tmps) = true := by simp [Region.wanted, hy]
  unfold wpSchedB wk1B at h ⊢
  match kd, h with
  | 0, h =>
    obtain ⟨v, h1, h2⟩ := h
    refine ⟨v, ?_, h2⟩
    rcases h1 with h1 | h1
    · exact .inl ⟨e2, h1.2⟩
    · exact absurd h1.1 (by rw [e1]; simp)
  | 1, h => simp only [e1, if_true] at h; simp only [e2, if_true]; exact h
  | k + 2, h => simp only [e1, if_true] at h; simp only [e2, if_true]; exact h
theorem dpassB {kd : Nat} {j s : Nat} {b c : Bool} (hj : gslot ops j = some s) (hs : lk al s = some (.bool b)) (hne : (b == c) = false) (hd : Nat.blt d n = true) (k : WDB P n ops Q rest ((d, undef) :: al) w) :
    WDB P n ops Q ((kd, ⟨some d, op, ty, pos, aft, some (j, c)⟩) :: rest) al w := fun a ha => by
  have hd' : d < n := by have : d + 1 ≤ n := by simpa [Nat.blt] using hd
                         omega
  have hy := yielded_of (ops := ops) ha hj hs
  have e2 : Region.wanted (⟨some d, op, ty, pos, aft, some (j, c)⟩ : Oper) (yielded ops a.tmps) = false := by
    simp [Region.wanted, hy]
    simpa using hne
  have h2 := k _ (ha.put hd' undef)
  unfold wpSchedB wk1B
  match kd with
  | 0 => exact ⟨undef, .inr ⟨e2, rfl⟩, h2⟩
  | 1 => simp only [e2]; exact h2
  | m + 2 => simp only [e2]; exact h2
theorem dpartB {l : List (Nat × Oper)} {b : Bool} (s : Nat) (hs : lk al s = some (.bool b)) (ht : b = true → WDB P n ops Q l ((s, .bool true) :: al) w) (hf : b = false → WDB P n ops Q l ((s, .bool false) :: al) w) : WDB P n ops Q l al w := by
  cases b
  · exact (hf rfl).sub (Sub.cons hs Sub.refl)
  · exact (ht rfl).sub (Sub.cons hs Sub.refl)
theorem dknowB {l : List (Nat × Oper)} {v : Value} (s : Nat) (u : Value) (hs : lk al s = some v) (hv : v = u) (k : WDB P n ops Q l ((s, u) :: al) w) : WDB P n ops Q l al w := by
  subst hv
  exact k.sub (Sub.cons hs Sub.refl)
/-- one operation by the laws of a plain list -/
def toB (P : Program) (ops : Array Oper) (Q : Exit → Act → World → Prop) (rest : List (Nat × Oper)) : Exit → Act → World → Prop
  | .normal, a, w => wpSchedB P ops Q rest a w
  | _, _, _ => False
theorem bback (h : WDB P n ops Q rest al w) : QX n (toB P ops Q rest) .normal al w := h
theorem bone {o : Oper} (h : WL P n ops (toB P ops Q rest) [o] al w) : WDB P n ops Q ((1, o) :: rest) al w := fun a ha => by
  have h1 := h a ha
  unfold wpList at h1
  unfold wpSchedB wk1B
  simp only
  have hno : ¬ LetsOut (toB P ops Q rest) := by rintro ⟨a, w, h⟩; exact h
  split
  · rename_i hw
    simp only [hw, if_true] at h1
    rcases h1 with h1 | ⟨_, h1⟩
    · refine Oper.wp_mono (K := wpSchedB P ops Q rest) (fun a' w' h' => ⟨trivial, h'⟩) ?_
      unfold Oper.wp at h1 ⊢
      exact upon_monoQ (Q := toB P ops Q rest) (fun c a w hf => hf.elim) (fun hf => absurd hf hno) h1
    · exact absurd h1 hno
  · rename_i hw
    simp only [hw] at h1
    exact h1
variable {d ty : Nat} {op : Op} {pos : String} {aft : Array Edge} {tt : TT} {drest : List (Nat × Oper)}
theorem β4 [h : Tab P tt] {v : Value} (k : WDB P n ops Q drest ((d, v) :: al) w) (hv : pv tt (ev al) op = some v := by rfl) (hd : Nat.blt d n = true := by rfl) : WDB P n ops Q ((0, ⟨some d, op, ty, pos, aft, none⟩) :: drest) al w := dpB h.ok hv hd k
theorem β5 (h : QX n Q .normal al w) : WDB P n ops Q [] al w := dnilB h
/-- s[l:] -/
theorem bsll [hT : Tab P tt] {x y : Operand} {t e : Nat} {k : TK} {A : Option Addr} {m c : Nat} {kd : IntKind} {z : Int} (l : Nat) (kk : WDB P n ops Q drest ((d, .slice (if c = l then A else A.map (·.add (l * k.esz))) (m - l) (c - l)) :: al) w)
    (ht : tk tt t = some k := by rfl) (hk : k.desc = .slice e := by rfl) (hx : ev al x = some (.slice A m c) := by rfl) (hy : ev al y = some (.int kd z) := by rfl) (hz : z = (l : Int) := by first | rfl | omega) (h1 : l ≤ m := by omega) (h2 : m ≤ c := by omega) (hd : Nat.blt d n = true := by rfl) :
    WDB P n ops Q ((0, ⟨some d, .slice t x (some y) none none, ty, pos, aft, none⟩) :: drest) al w := by
  obtain ⟨hu, hs⟩ := tk_slice hT.ok ht hk rfl
  exact dyB (fun w' he a ha => run_sliceOp (w := w') ha hu hs hx ⟨kd, z, hy, hz⟩ rfl rfl (.inl rfl) h1 h2 (Nat.le_refl _)) hd kk
/-- a region that draws -/
theorem drB [h : Tab P tt] {id : Nat} {l : List Oper} (s : List (Nat × Nat)) (hB : schedB l.toArray s = true) (k : WDB P n l.toArray Q (opsOf l s) al w.drew) : WC P n (.region id l.toArray true) Q al w := wdrawB s h.mixed hB k
end
end Go.Wk
