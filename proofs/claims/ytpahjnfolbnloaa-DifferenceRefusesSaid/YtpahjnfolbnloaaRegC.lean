/- Calls of functions without a body (the model's own entries); comparison of bytes; comparison of structures. -/
import Derived.Test.YtpahjnfolbnloaaReg
import Derived.Lib.Bytealg
import Derived.Laws.StructEq
import Derived.Laws.Cover3
set_option linter.unusedVariables false
namespace Go.Wk
open Go.RowKit
section
variable {P : Program} {n : Nat} {al : AL} {w : World} {Q : Exit → Act → World → Prop} {ops : Array Oper} {rest : List Oper}
variable {d ty : Nat} {op : Op} {pos : String} {aft : Array Edge} {tt : TT}
/-- a call of a named function without a body -/
theorem wext {f : FuncId} {xs : Array Operand} {ats : Array TypeId} {vs : List Value} {v : Value} {w' : World} (hc : (callFunc f vs.toArray).run P w = .ok (.value v) w')
    (k : WL P n ops Q rest ((d, v) :: al) w') (hx : evs al xs.toList = some vs := by rfl) (hd : Nat.blt d n = true := by rfl) : WL P n ops Q (⟨some d, .call { callee := .value (.func f), args := xs, argTypes := ats }, ty, pos, aft, none⟩ :: rest) al w :=
  wop hd (fun a ha => by
    have h1 : xs.map a.eval = vs.toArray := by rw [← ha.evs hx, ← List.map_toArray, Array.toArray_toList]
    simp [execOp, resolve, h1, Act.eval, Deferred.ofValue, invoke, hc]) k
theorem loadBytes_run (ad : Addr) : ∀ (l : List UInt8) (k : Nat) (acc : ByteArray), (∀ j u, (Bc l)[j]? = some u → w.cell? (ad.add (k + j)) = some u) → (Extern.Bytes.loadBytes (ad.add k) l.length acc).run P w = .ok ⟨acc.data ++ l.toArray⟩ w
  | [], k, acc, _ => by simp [Extern.Bytes.loadBytes]
  | c :: l, k, acc, h => by
    have h0 := h 0 _ rfl
    have ih := loadBytes_run ad l (k + 1) (acc.push c) (fun j u hu => by
      have := h (j + 1) u (by simpa [Bc] using hu)
      rw [show k + 1 + j = k + (j + 1) by omega]; exact this)
    simp only [Nat.add_zero] at h0
    have e : (ad.add k).add 1 = ad.add (k + 1) := Addr.add_add ad k 1
    simp only [List.length_cons, Extern.Bytes.loadBytes, Sem.run_bind, run_load, h0, Result.andThen]
    have e2 : ((c.toNat : Int).toNat.toUInt8) = c := by simp
    rw [e, e2, ih]
    simp [ByteArray.push]
theorem bytesOf_run {A : Option Addr} {m c : Nat} {l : List UInt8} (hr : Rd w 1 A m (Bc l)) : (Extern.Bytes.bytesOf (.slice A m c)).run P w = .ok (str l) w := by
  have hm : l.length = m := by have := hr.1; rw [Bc_len] at this; omega
  subst hm
  cases A with
  | none =>
    have hl : l = [] := by
      rcases Nat.eq_zero_or_pos l.length with h | h
      · exact List.eq_nil_of_length_eq_zero h
      · obtain ⟨_, h2, _⟩ := hr.2 (by rw [Bc_len]; exact h); cases h2
    subst hl
    rfl
  | some ad =>
    have h := loadBytes_run (P := P) (w := w) ad l 0 .empty (fun j u hu => by
      obtain ⟨ad', h2, hb, hc⟩ := hr.2 (by rcases Nat.eq_zero_or_pos (Bc l).length with h | h
                                           · rw [List.eq_nil_of_length_eq_zero h] at hu; simp at hu
                                           · exact h)
      injection h2 with h2
      subst h2
      rw [Nat.zero_add]; exact hc j u hu)
    rw [add_zero] at h
    simp only [Extern.Bytes.bytesOf, h, str]
    congr 2
    simp
theorem compare_run {A B : Option Addr} {m c m' c' : Nat} {l r : List UInt8} (hl : Rd w 1 A m (Bc l)) (hr : Rd w 1 B m' (Bc r)) :
    (Extern.BytealgCompare.compare #[.slice A m c, .slice B m' c']).run P w = .ok (.int .i64 (Lib.compareBytes l r)) w := by
  change Sem.run P (do pure (goInt (Extern.BytealgCompare.cmp (← Extern.Bytes.bytesOf (.slice A m c)) (← Extern.Bytes.bytesOf (.slice B m' c'))))) w = _
  simp only [bytesOf_run hl, bytesOf_run hr, Sem.run_bind, Sem.run_pure, Result.andThen]
  rw [Lib.cmp_eq]
  rfl
/-- == of structures -/
theorem weqs {t t2 : TypeId} {x y : Operand} {xs ys : Array Value} {v : Value} (hg : P.eqGuardType P.depth t = false) (hb : (binOp .eql t (.agg xs) (.agg ys)).run P w = .ok v w)
    (k : WL P n ops Q rest ((d, v) :: al) w) (hx : ev al x = some (.agg xs) := by rfl) (hy : ev al y = some (.agg ys) := by rfl) (hd : Nat.blt d n = true := by rfl) : WL P n ops Q (⟨some d, .binOp .eql t x y t2, ty, pos, aft, none⟩ :: rest) al w :=
  wop hd (fun a ha => by
    simp only [execOp, ha.ev hx, ha.ev hy, Sem.run_bind, run_eqGuard_agg w _ _ _ _ _ _ hg, Result.andThen_ok, hb]; rfl) k
end
end Go.Wk
/- Structures in boxes: allocation, whole stores, results that lie in boxes; comparison of structures in a region that draws. -/
set_option linter.unusedVariables false
namespace Go.Wk
open Go.RowKit
section
variable {P : Program} {n : Nat} {al : AL} {w : World} {Q : Exit → Act → World → Prop} {ops : Array Oper} {rest : List Oper}
variable {d ty : Nat} {op : Op} {pos : String} {aft : Array Edge} {tt : TT}
theorem grown_setRow (w : World) (g : Nat) (cs : Array Value) : w.grownBy (w.setRow g cs) (some g) :=
  ⟨rfl, rfl, rfl, by rw [setRow_size]; exact Nat.le_refl _, fun k _ hk => setRow_other w g k cs (fun e => hk (by rw [e]))⟩
/-- a new variable -/
theorem alc {t : Nat} {z : Value} {cs : List Value} (hz : zeroOf P t = some z) (kk : ∀ w1 b, Ext w w1 → w.heap.size ≤ b → Blk w1 b t cs → WL P n ops Q rest ((d, .pointer (some ⟨b, 0, none⟩)) :: al) w1) (hv : z.cells = cs.toArray := by rfl) (hd : Nat.blt d n = true := by rfl) :
    WL P n ops Q (⟨some d, .alloc t, ty, pos, aft, none⟩ :: rest) al w := walloc hz hv hd kk
/-- a structure stored whole in its box -/
theorem stb [h : Tab P tt] {x y : Operand} {t b : Nat} {k : TK} {cs cs' : List Value} (hb : Blk w b t cs) (kk : ∀ w1, Blk w1 b t cs' → w.grownBy w1 (some b) → (∀ a, Ext a w → a.heap.size ≤ b → Ext a w1) → WL P n ops Q rest al w1)
    (h1 : ∀ u ∈ cs', u.oneCell' = true) (hl : cs.length = cs'.length := by rfl) (ht : tk tt t = some k := by rfl) (hk : k.desc = .invalid := by rfl) (hs : k.size = cs'.length := by rfl) (hx : ev al x = some (.pointer (some ⟨b, 0, none⟩)) := by rfl) (hy : ev al y = some (.agg cs'.toArray) := by rfl) :
    WL P n ops Q (⟨none, .store t x y, ty, pos, aft, none⟩ :: rest) al w := by
  have hg := grown_setRow w b cs'.toArray
  refine wopn (fun a ha => ?_) (kk (w.setRow b cs'.toArray) (setRow_heap w b _ _ _ _ hb) hg (fun a hx ha => grown_ext hx hg (fun k hk => by injection hk with hk; omega)))
  have hsz := run_sizeOf w (tk_struct h.ok ht hk w).2
  have hst := run_storeCells_from (P := P) b t cs' 0 cs.toArray w hb (by simpa using hl.symm) h1
  simp only [List.take_zero, List.nil_append] at hst
  simp [execOp, ha.ev hx, ha.ev hy, Instr.storeAt, Instr.sureAddr, storeVar, Value.cells, hsz, hs, hst]
/-- results: a box, two slots -/
theorem finC3 [h : Tab P tt] {fn : Func} {Φ : Value → World → Prop} {c t t1 t2 b : Nat} {k : TK} {cs : List Value} {x y : Value} (hb : Blk w b t cs) (hp : Φ (.tuple #[.agg cs.toArray, x, y]) w)
    (hr : fn.results = #[.cell c t, .tmp t1, .tmp t2] := by rfl) (ht : tk tt t = some k := by rfl) (hk : k.desc = .invalid := by rfl) (hs : k.size = cs.length := by rfl) (hc : lk al c = some (.pointer (some ⟨b, 0, none⟩)) := by rfl) (h1 : lk al t1 = some x := by rfl) (h2 : lk al t2 = some y := by rfl) :
    QX n (Body P fn Φ) .ret al w :=
  doneR (rs := [.cell c t, .tmp t1, .tmp t2]) (vs := [.agg cs.toArray, x, y]) hr ⟨⟨_, hc, run_loadS h.ok ht hk hs (fun j u hu => hb.at hu)⟩, h1, h2, trivial⟩ rfl hp
/-- results: a box -/
theorem finC1 [h : Tab P tt] {fn : Func} {Φ : Value → World → Prop} {c t b : Nat} {k : TK} {cs : List Value} (hb : Blk w b t cs) (hp : Φ (.agg cs.toArray) w)
    (hr : fn.results = #[.cell c t] := by rfl) (ht : tk tt t = some k := by rfl) (hk : k.desc = .invalid := by rfl) (hs : k.size = cs.length := by rfl) (hc : lk al c = some (.pointer (some ⟨b, 0, none⟩)) := by rfl) :
    QX n (Body P fn Φ) .ret al w :=
  doneR (rs := [.cell c t]) (vs := [.agg cs.toArray]) hr ⟨⟨_, hc, run_loadS h.ok ht hk hs (fun j u hu => hb.at hu)⟩, trivial⟩ rfl hp
/-- != of structures -/
theorem wnes {t t2 : TypeId} {x y : Operand} {xs ys : Array Value} {v : Value} (hg : P.eqGuardType P.depth t = false) (hb : (binOp .neq t (.agg xs) (.agg ys)).run P w = .ok v w)
    (k : WL P n ops Q rest ((d, v) :: al) w) (hx : ev al x = some (.agg xs) := by rfl) (hy : ev al y = some (.agg ys) := by rfl) (hd : Nat.blt d n = true := by rfl) : WL P n ops Q (⟨some d, .binOp .neq t x y t2, ty, pos, aft, none⟩ :: rest) al w :=
  wop hd (fun a ha => by
    simp only [execOp, ha.ev hx, ha.ev hy, Sem.run_bind, run_eqGuard_agg w _ _ _ _ _ _ hg, Result.andThen_ok, hb]; rfl) k
end
end Go.Wk
/- The walking layer: a region that draws its order, where an operation writes old memory of the call's own (an append): what is taken first reads no memory; all else has one order. No program in sight. -/
set_option linter.unusedVariables false
namespace Go.Wk
open Go.RowKit
section
variable {P : Program} {ops : Array Oper} {Q : Exit → Act → World → Prop} {T : Nat → Bool}
/-- whatever order is picked from here on; what is not of the tail leaves all old memory alone -/
def wpAnyEB (P : Program) (ops : Array Oper) (Q : Exit → Act → World → Prop) (T : Nat → Bool) : Nat → Array Bool → Act → World → Prop
  | 0, listed, a, w => Region.ready .any ops listed = [] ∧ Q .normal a w
  | fuel + 1, listed, a, w =>
    ((∀ i, unl ops listed i → T i = true) ∧ wpAny P .any ops Q (fuel + 1) listed a w) ∨
    ((Region.ready .any ops listed = [] → Q .normal a w) ∧
      ∀ i ∈ Region.ready .any ops listed, wpOp P ops (QF Q) i (fun a' w' => True ∧ wpAnyEB P ops Q T fuel (listed.setIfInBounds i true) a' w') a w)
theorem wpAny_of_EB : ∀ (fuel : Nat) (listed : Array Bool) (a : Act) (w : World), wpAnyEB P ops Q T fuel listed a w → wpAny P .any ops Q fuel listed a w
  | 0, _, _, _, h => h
  | fuel + 1, _, _, _, h => by
    rcases h with h | h
    · exact h.2
    · exact ⟨h.1, fun i hi => wpOp_mono (fun a' w' h' => wpAny_of_EB fuel _ a' w' h'.2) (wpOp_monoQ (h.2 i hi))⟩

theorem wpAnyE_firstB (hT : tailB ops T = true) {i : Nat} {oi : Oper} {v : Value} (hi : ops[i]? = some oi) (hn : T i = false) (hsel : ∀ (j : Nat) (o : Oper) cs b, ops[j]? = some o → o.op ≠ .select cs b) :
    ∀ (fuel : Nat) (listed : Array Bool) (a : Act) (w : World),
      (∀ j oj, ops[j]? = some oj → j ≠ i → listed.getD j true = false → (∀ e ∈ oj.after, Region.binds .any e = true → e.on ≠ i) → oi.apart ops oj = true) →
      i ∈ Region.ready .any ops listed → YieldsIf P ops (fun _ => True) oi v a →
      wpAnyEB P ops Q T fuel (listed.setIfInBounds i true) (a.put oi.dst v) w → wpAnyEB P ops Q T (fuel + 1) listed a w := by
  have hil : i < ops.size := (Array.getElem?_eq_some_iff.1 hi).1
  intro fuel
  induction fuel with
  | zero =>
    intro listed a w _ hr hy H
    refine .inr ⟨fun h => (by rw [h] at hr; cases hr), fun j hj => ?_⟩
    by_cases hji : j = i
    · subst hji; exact hy.wpOp hi trivial ⟨trivial, H⟩
    · have := ready_mono hj hji
      rw [H.1] at this
      cases this
  | succ fuel ih =>
    intro listed a w hfree hr hy H
    have hui : unl ops listed i := ⟨hil, (mem_ready.1 hr).1⟩
    refine .inr ⟨fun h => (by rw [h] at hr; cases hr), fun j hj => ?_⟩
    by_cases hji : j = i
    · subst hji; exact hy.wpOp hi trivial ⟨trivial, H⟩
    · obtain ⟨hjun, oj, hoj, hall⟩ := mem_ready.1 hj
      have hjt : T j = false := ready_not_tail hT hui hn hj
      rcases H with H | H
      · have := H.1 j ⟨(Array.getElem?_eq_some_iff.1 hoj).1, by rw [getD_set_ne true (Ne.symm hji)]; exact hjun⟩
        rw [hjt] at this
        cases this
      · have h1 := H.2 j (ready_mono hj hji)
        have hnot : ∀ e ∈ oj.after, Region.binds .any e = true → e.on ≠ i := fun e he hb heq => by
          have h1 := hall e he hb
          have h0 := (mem_ready.1 hr).1
          rw [heq] at h1
          rcases Nat.lt_or_ge i listed.size with h' | h'
          · simp [h'] at h0 h1; rw [h0] at h1; cases h1
          · simp [Array.getElem?_eq_none h'] at h1
        have h2 := wpOp_putIf hoj (hfree j oj hoj hji hjun hnot) (fun cs b => hsel i oi cs b hi) (fun cs b => hsel j oj cs b hoj) (fun c a w h => h) hy h1
        have hfree' : ∀ k ok, ops[k]? = some ok → k ≠ i → (listed.setIfInBounds j true).getD k true = false →
            (∀ e ∈ ok.after, Region.binds .any e = true → e.on ≠ i) → oi.apart ops ok = true := fun k ok hk hki hun hno => by
          refine hfree k ok hk hki ?_ hno
          by_cases hjk : j = k
          · subst hjk; exact hjun
          · rw [getD_set_ne true hjk] at hun; exact hun
        refine wpOp_mono (fun a' w' h3 => ⟨h3.2.1, ih (listed.setIfInBounds j true) a' w' hfree' (ready_mono hr (Ne.symm hji)) ?_ ?_⟩) h2
        · exact h3.1.imp (fun ⟨h4, h5⟩ => ⟨h4, fun w'' hx => h5 w'' trivial⟩) id
        · rw [Array.setIfInBounds_comm _ _ hji]
          exact h3.2.2

/-- one operation -/
def wk1B (P : Program) (ops : Array Oper) (Q : Exit → Act → World → Prop) (k : Nat) (o : Oper) (K : Act → World → Prop) (a : Act) (w : World) : Prop :=
  match k with
  | 0 => ∃ v, YieldsIf P ops (fun _ => True) o v a ∧ K (a.put o.dst v) w
  | 1 => if Region.wanted o (yielded ops a.tmps) then o.wp P a w (fun a' w' => True ∧ K a' w') (QF Q) else K (a.put o.dst undef) w
  | _ => if Region.wanted o (yielded ops a.tmps) then o.wp P a w K (QF Q) else K (a.put o.dst undef) w
/-- the walk in the canonical order -/
def wpSchedB (P : Program) (ops : Array Oper) (Q : Exit → Act → World → Prop) : List (Nat × Oper) → Act → World → Prop
  | [], a, w => Q .normal a w
  | p :: r, a, w => wk1B P ops Q p.1 p.2 (wpSchedB P ops Q r) a w
theorem wpAny_of_tailB : ∀ (s : List (Nat × Nat)) (listed : Array Bool) (a : Act) (w : World), (∀ p ∈ s, p.1 = 2) → (∀ p ∈ s, p.2 < ops.size) → canonB ops s listed = true → wpSchedB P ops Q (opsOf ops.toList s) a w → wpAny P .any ops Q s.length listed a w
  | [], listed, a, w, _, _, hB, h => ⟨by simpa [canonB] using hB, h⟩
  | (k, i) :: r, listed, a, w, hk, hlt, hB, h => by
    obtain rfl : k = 2 := hk _ (List.mem_cons_self ..)
    have hi : i < ops.size := hlt _ (List.mem_cons_self ..)
    simp only [canonB, Bool.and_eq_true, beq_iff_eq] at hB
    obtain ⟨hr, hB'⟩ := hB
    have ho : ops[i]? = some ops[i] := Array.getElem?_eq_getElem hi
    have hn : nth ops.toList i = some ops[i] := by rw [nth_eq]; simp [hi]
    simp only [opsOf, hn, wpSchedB, wk1B] at h
    refine ⟨fun h0 => (by rw [hr] at h0; cases h0), fun j hj => ?_⟩
    rw [hr] at hj
    obtain rfl : j = i := by simpa using hj
    have hrec : ∀ a w, wpSchedB P ops Q (opsOf ops.toList r) a w → wpAny P .any ops Q r.length (listed.setIfInBounds j true) a w := fun a w h' =>
      wpAny_of_tailB r _ a w (fun p hp => hk p (List.mem_cons_of_mem _ hp)) (fun p hp => hlt p (List.mem_cons_of_mem _ hp)) hB' h'
    refine wpOp_mono hrec (wpOp_monoQ ?_)
    unfold wpOp
    simp only [ho]
    split
    · rename_i hw; simp only [hw, if_true] at h; exact .inl h
    · rename_i hw; simp only [hw] at h; exact h

theorem wpAnyE_of_schedB (hsel : Region.noSelect ops = true) (hT : tailB ops T = true) : ∀ (s : List (Nat × Nat)) (listed : Array Bool) (a : Act) (w : World), kindsB s = true → (∀ p ∈ s, p.2 < ops.size) → (∀ p ∈ s, (p.1 == 2) = T p.2) →
    (∀ i, unl ops listed i → ∃ k, (k, i) ∈ s) → canonB ops s listed = true → wpSchedB P ops Q (opsOf ops.toList s) a w → wpAnyEB P ops Q T s.length listed a w
  | [], listed, a, w, _, _, _, _, hB, h => ⟨by simpa [canonB] using hB, h⟩
  | (k, i) :: r, listed, a, w, hk, hlt, hKT, hall, hB, h => by
    have hi : i < ops.size := hlt _ (List.mem_cons_self ..)
    have ho : ops[i]? = some ops[i] := Array.getElem?_eq_getElem hi
    have hn : nth ops.toList i = some ops[i] := by rw [nth_eq]; simp [hi]
    simp only [kindsB, Bool.and_eq_true] at hk
    have hTi := hKT _ (List.mem_cons_self ..)
    simp only at hTi
    have hall' : ∀ j, unl ops (listed.setIfInBounds i true) j → ∃ k, (k, j) ∈ r := fun j hj => by
      by_cases hji : j = i
      · subst hji
        have h2 := hj.2
        rcases Nat.lt_or_ge j listed.size with h' | h'
        · simp [h'] at h2
        · simp at h2
      · obtain ⟨k', hk'⟩ := hall j ⟨hj.1, by rw [← getD_set_ne true (Ne.symm hji)]; exact hj.2⟩
        rcases List.mem_cons.1 hk' with h' | h'
        · injection h' with _ h'; exact absurd h' hji
        · exact ⟨k', h'⟩
    have hrec : canonB ops r (listed.setIfInBounds i true) = true → ∀ a w, wpSchedB P ops Q (opsOf ops.toList r) a w → wpAnyEB P ops Q T r.length (listed.setIfInBounds i true) a w := fun hB' a w h' =>
      wpAnyE_of_schedB hsel hT r _ a w hk.2 (fun p hp => hlt p (List.mem_cons_of_mem _ hp)) (fun p hp => hKT p (List.mem_cons_of_mem _ hp)) hall' hB' h'
    match k, hTi, hk, hB, h with
    | 0, hTi, hk, hB, h =>
      simp only [canonB, Bool.and_eq_true] at hB
      obtain ⟨⟨hr, hf⟩, hB'⟩ := hB
      simp only [opsOf, hn, wpSchedB, wk1B] at h
      obtain ⟨v, hy, h⟩ := h
      exact wpAnyE_firstB hT ho (by rw [← hTi]; rfl) (Region.noSelect_spec hsel) r.length listed a w (Region.free_spec ho hf) (by simpa using hr) hy (hrec hB' _ _ h)
    | 1, hTi, hk, hB, h =>
      simp only [canonB, Bool.and_eq_true, beq_iff_eq] at hB
      obtain ⟨hr, hB'⟩ := hB
      simp only [opsOf, hn, wpSchedB, wk1B] at h
      refine .inr ⟨fun h0 => (by rw [hr] at h0; cases h0), fun j hj => ?_⟩
      rw [hr] at hj
      obtain rfl : j = i := by simpa using hj
      unfold wpOp
      simp only [ho]
      split
      · rename_i hw
        simp only [hw, if_true] at h
        exact .inl (Oper.wp_mono (fun a' w' h' => ⟨h'.1, hrec hB' _ _ h'.2⟩) h)
      · rename_i hw; simp only [hw] at h; exact ⟨trivial, hrec hB' _ _ h⟩
    | 2, hTi, hk, hB, h =>
      refine .inl ⟨fun j hj => ?_, wpAny_of_tailB ((2, i) :: r) listed a w ?_ hlt hB h⟩
      · obtain ⟨k', hk'⟩ := hall j hj
        have h1 := hKT _ hk'
        simp only at h1
        rw [← h1]
        rcases List.mem_cons.1 hk' with h' | h'
        · injection h' with h' _; rw [h']; rfl
        · have := hk.1.2
          simp only [bne_self_eq_false, Bool.false_or, List.all_eq_true] at this
          exact this _ h'
      · intro p hp
        rcases List.mem_cons.1 hp with h' | h'
        · rw [h']
        · have := hk.1.2
          simp only [bne_self_eq_false, Bool.false_or, List.all_eq_true] at this
          simpa using this _ h'
    | k + 3, hTi, hk, hB, h =>
      have := hk.1.1
      simp at this
end
section
variable {P : Program} {n : Nat} {al al' : AL} {w : World} {Q : Exit → Act → World → Prop} {ops : Array Oper} {rest : List (Nat × Oper)}
/-- what is asked of a region that draws -/
def WDB (P : Program) (n : Nat) (ops : Array Oper) (Q : Exit → Act → World → Prop) (l : List (Nat × Oper)) (al : AL) (w : World) : Prop := ∀ a, Fr n al a → wpSchedB P ops Q l a w
theorem WDB.sub {l : List (Nat × Oper)} (hs : Sub al' al) (h : WDB P n ops Q l al' w) : WDB P n ops Q l al w := fun a ha => h a (ha.sub hs)
theorem wdrawB {id : Nat} {l : List Oper} (s : List (Nat × Nat)) (hm : P.follows .mixedOrders = true) (hB : schedB l.toArray s = true) (h : WDB P n l.toArray Q (opsOf l s) al w.drew) : WC P n (.region id l.toArray true) Q al w := by
  intro a ha
  simp only [schedB, Bool.and_eq_true, beq_iff_eq, List.all_eq_true, List.any_eq_true, List.mem_range] at hB
  obtain ⟨⟨⟨⟨⟨⟨⟨h1, h2⟩, h3⟩, h4⟩, h5⟩, h6⟩, h7⟩, h8⟩ := hB
  refine wp_region_any hm ?_
  rw [← h2]
  refine wpAny_of_EB (T := tailOf s) _ _ _ _ (wpAnyE_of_schedB h1 h3 s _ a _ h4 (fun p hp => ?_) (fun p hp => ?_) (fun i hi => ?_) (by rw [h2]; exact h6) ?_)
  · have := h7 p hp
    have h' : p.2 + 1 ≤ l.toArray.size := by simpa [Nat.blt] using this
    omega
  · simpa using h5 p hp
  · obtain ⟨p, hp, he⟩ := h8 i hi.1
    exact ⟨p.1, by rw [← he]; exact hp⟩
  · have := h a ha
    simpa using this
theorem dnilB (h : QX n Q .normal al w) : WDB P n ops Q [] al w := fun a ha => h a ha

variable {d ty : Nat} {op : Op} {pos : String} {aft : Array Edge}
/-- it only reads: in every later world the same -/
def YldB (P : Program) (n : Nat) (al : AL) (w : World) (o : Oper) (v : Value) : Prop := ∀ w', True → ∀ a, Fr n al a → (execOp a.eval o).run P w' = .ok (.value v) w'
theorem dyB {v : Value} (hy : YldB P n al w ⟨some d, op, ty, pos, aft, none⟩ v) (hd : Nat.blt d n = true) (k : WDB P n ops Q rest ((d, v) :: al) w) : WDB P n ops Q ((0, ⟨some d, op, ty, pos, aft, none⟩) :: rest) al w := fun a ha => by
  have hd' : d < n := by have : d + 1 ≤ n := by simpa [Nat.blt] using hd
                         omega
  exact ⟨v, .inl ⟨rfl, fun w' hx => hy w' hx a ha⟩, k _ (ha.put hd' v)⟩
theorem dpB {tt : TT} (hT : TOk P tt) {v : Value} (hv : pv tt (ev al) op = some v) (hd : Nat.blt d n = true) (k : WDB P n ops Q rest ((d, v) :: al) w) : WDB P n ops Q ((0, ⟨some d, op, ty, pos, aft, none⟩) :: rest) al w :=
  dyB (fun w' _ a ha => pv_ok w' hT (fun x u hx => ha.ev hx) hv) hd k
theorem dpnB {tt : TT} (hT : TOk P tt) {v : Value} (hv : pv tt (ev al) op = some v) (k : WDB P n ops Q rest al w) : WDB P n ops Q ((0, ⟨none, op, ty, pos, aft, none⟩) :: rest) al w := fun a ha =>
  ⟨v, .inl ⟨rfl, fun w' hx => pv_ok w' hT (fun x u hx => ha.ev hx) hv⟩, k _ ha⟩
theorem dguardB {kd : Nat} {dst : Option Nat} {j s : Nat} {b : Bool} (hj : gslot ops j = some s) (hs : lk al s = some (.bool b)) (k : WDB P n ops Q ((kd, ⟨dst, op, ty, pos, aft, none⟩) :: rest) al w) :
    WDB P n ops Q ((kd, ⟨dst, op, ty, pos, aft, some (j, b)⟩) :: rest) al w := fun a ha => by
  have h := k a ha
  have hy := yielded_of (ops := ops) ha hj hs
  have e1 : Region.wanted (⟨dst, op, ty, pos, aft, none⟩ : Oper) (yielded ops a.tmps) = true := rfl
  have e2 : Region.wanted (⟨dst, op, ty, pos, aft, some (j, b)⟩ : Oper) (yielded ops a.tmps) = true := by simp [Region.wanted, hy]
  unfold wpSchedB wk1B at h ⊢
  match kd, h with
  | 0, h =>
    obtain ⟨v, h1, h2⟩ := h
    refine ⟨v, ?_, h2⟩
    rcases h1 with h1 | h1
    · exact .inl ⟨e2, h1.2⟩
    · exact absurd h1.1 (by rw [e1]; simp)
  | 1, h => simp only [e1, if_true] at h; simp only [e2, if_true]; exact h
  | k + 2, h => simp only [e1, if_true] at h; simp only [e2, if_true]; exact h
theorem dpassB {kd : Nat} {j s : Nat} {b c : Bool} (hj : gslot ops j = some s) (hs : lk al s = some (.bool b)) (hne : (b == c) = false) (hd : Nat.blt d n = true) (k : WDB P n ops Q rest ((d, undef) :: al) w) :
    WDB P n ops Q ((kd, ⟨some d, op, ty, pos, aft, some (j, c)⟩) :: rest) al w := fun a ha => by
  have hd' : d < n := by have : d + 1 ≤ n := by simpa [Nat.blt] using hd
                         omega
  have hy := yielded_of (ops := ops) ha hj hs
  have e2 : Region.wanted (⟨some d, op, ty, pos, aft, some (j, c)⟩ : Oper) (yielded ops a.tmps) = false := by
    simp [Region.wanted, hy]
    simpa using hne
  have h2 := k _ (ha.put hd' undef)
  unfold wpSchedB wk1B
  match kd with
  | 0 => exact ⟨undef, .inr ⟨e2, rfl⟩, h2⟩
  | 1 => simp only [e2]; exact h2
  | m + 2 => simp only [e2]; exact h2
theorem dpartB {l : List (Nat × Oper)} {b : Bool} (s : Nat) (hs : lk al s = some (.bool b)) (ht : b = true → WDB P n ops Q l ((s, .bool true) :: al) w) (hf : b = false → WDB P n ops Q l ((s, .bool false) :: al) w) : WDB P n ops Q l al w := by
  cases b
  · exact (hf rfl).sub (Sub.cons hs Sub.refl)
  · exact (ht rfl).sub (Sub.cons hs Sub.refl)
theorem dknowB {l : List (Nat × Oper)} {v : Value} (s : Nat) (u : Value) (hs : lk al s = some v) (hv : v = u) (k : WDB P n ops Q l ((s, u) :: al) w) : WDB P n ops Q l al w := by
  subst hv
  exact k.sub (Sub.cons hs Sub.refl)
/-- one operation by the laws of a plain list -/
def toB (P : Program) (ops : Array Oper) (Q : Exit → Act → World → Prop) (rest : List (Nat × Oper)) : Exit → Act → World → Prop
  | .normal, a, w => wpSchedB P ops Q rest a w
  | _, _, _ => False
theorem bback (h : WDB P n ops Q rest al w) : QX n (toB P ops Q rest) .normal al w := h
theorem bone {o : Oper} (h : WL P n ops (toB P ops Q rest) [o] al w) : WDB P n ops Q ((1, o) :: rest) al w := fun a ha => by
  have h1 := h a ha
  unfold wpList at h1
  unfold wpSchedB wk1B
  simp only
  have hno : ¬ LetsOut (toB P ops Q rest) := by rintro ⟨a, w, h⟩; exact h
  split
  · rename_i hw
    simp only [hw, if_true] at h1
    rcases h1 with h1 | ⟨_, h1⟩
    · refine Oper.wp_mono (K := wpSchedB P ops Q rest) (fun a' w' h' => ⟨trivial, h'⟩) ?_
      unfold Oper.wp at h1 ⊢
      exact upon_monoQ (Q := toB P ops Q rest) (fun c a w hf => hf.elim) (fun hf => absurd hf hno) h1
    · exact absurd h1 hno
  · rename_i hw
    simp only [hw] at h1
    exact h1
variable {d ty : Nat} {op : Op} {pos : String} {aft : Array Edge} {tt : TT} {drest : List (Nat × Oper)}
theorem β4 [h : Tab P tt] {v : Value} (k : WDB P n ops Q drest ((d, v) :: al) w) (hv : pv tt (ev al) op = some v := by rfl) (hd : Nat.blt d n = true := by rfl) : WDB P n ops Q ((0, ⟨some d, op, ty, pos, aft, none⟩) :: drest) al w := dpB h.ok hv hd k
theorem β5 (h : QX n Q .normal al w) : WDB P n ops Q [] al w := dnilB h
/-- s[l:] -/
theorem bsll [hT : Tab P tt] {x y : Operand} {t e : Nat} {k : TK} {A : Option Addr} {m c : Nat} {kd : IntKind} {z : Int} (l : Nat) (kk : WDB P n ops Q drest ((d, .slice (if c = l then A else A.map (·.add (l * k.esz))) (m - l) (c - l)) :: al) w)
    (ht : tk tt t = some k := by rfl) (hk : k.desc = .slice e := by rfl) (hx : ev al x = some (.slice A m c) := by rfl) (hy : ev al y = some (.int kd z) := by rfl) (hz : z = (l : Int) := by first | rfl | omega) (h1 : l ≤ m := by omega) (h2 : m ≤ c := by omega) (hd : Nat.blt d n = true := by rfl) :
    WDB P n ops Q ((0, ⟨some d, .slice t x (some y) none none, ty, pos, aft, none⟩) :: drest) al w := by
  obtain ⟨hu, hs⟩ := tk_slice hT.ok ht hk rfl
  exact dyB (fun w' he a ha => run_sliceOp (w := w') ha hu hs hx ⟨kd, z, hy, hz⟩ rfl rfl (.inl rfl) h1 h2 (Nat.le_refl _)) hd kk
/-- a region that draws -/
theorem drB [h : Tab P tt] {id : Nat} {l : List Oper} (s : List (Nat × Nat)) (hB : schedB l.toArray s = true) (k : WDB P n l.toArray Q (opsOf l s) al w.drew) : WC P n (.region id l.toArray true) Q al w := wdrawB s h.mixed hB k
end
end Go.Wk
/- The walking layer: the tail of a region that draws (stores, in their one order); calls of function values; functions without results. No program in sight. -/
set_option linter.unusedVariables false
namespace Go.Wk
open Go.RowKit
section
variable {P : Program} {n : Nat} {al al' : AL} {w : World} {Q : Exit → Act → World → Prop} {ops : Array Oper} {drest : List (Nat × Oper)} {rest : List Oper}
variable {d ty : Nat} {op : Op} {pos : String} {aft : Array Edge} {tt : TT}
/-- one operation by the laws of a plain list -/
def toD (P : Program) (ops : Array Oper) (Q : Exit → Act → World → Prop) (rest : List (Nat × Oper)) : Exit → Act → World → Prop
  | .normal, a, w => wpSched P ops Q rest a w
  | _, _, _ => False
theorem dback (h : WD P n ops Q drest al w) : QX n (toD P ops Q drest) .normal al w := h
theorem dtail {o : Oper} (h : WL P n ops (toD P ops Q drest) [o] al w) : WD P n ops Q ((2, o) :: drest) al w := fun a ha => by
  have h1 := h a ha
  unfold wpList at h1
  unfold wpSched wk1
  simp only
  have hno : ¬ LetsOut (toD P ops Q drest) := by rintro ⟨a, w, h⟩; exact h
  split
  · rename_i hw
    simp only [hw, if_true] at h1
    rcases h1 with h1 | ⟨_, h1⟩
    · refine Oper.wp_mono (K := wpSched P ops Q drest) (fun a' w' h' => h') ?_
      unfold Oper.wp at h1 ⊢
      exact upon_monoQ (Q := toD P ops Q drest) (fun c a w hf => hf.elim) (fun hf => absurd hf hno) h1
    · exact absurd h1 hno
  · rename_i hw
    simp only [hw] at h1
    exact h1
/-- a call of a function value, in a region that draws -/
theorem dclv {f : FuncId} {x : Operand} {first captured : Array Value} {xs : Array Operand} {ats : Array TypeId} {vs us : List Value} {Φ : Value → World → Prop}
    (hc : Ret P f us w Φ) (k : ∀ v w', Φ v w' → Ext w w' ∧ WD P n ops Q drest ((d, v) :: al) w')
    (hf : ev al x = some (.func (.func f) first captured) := by rfl) (hx : evs al xs.toList = some vs := by rfl) (hu : first.toList ++ vs ++ captured.toList = us := by rfl) (hd : Nat.blt d n = true := by rfl) :
    WD P n ops Q ((1, ⟨some d, .call { callee := .value x, args := xs, argTypes := ats }, ty, pos, aft, none⟩) :: drest) al w := fun a ha => by
  subst hu
  have hd' : d < n := by have : d + 1 ≤ n := by simpa [Nat.blt] using hd
                         omega
  have h1 : xs.map a.eval = vs.toArray := by rw [← ha.evs hx, ← List.map_toArray, Array.toArray_toList]
  have h2 : (execOp a.eval ⟨some d, .call { callee := .value x, args := xs, argTypes := ats }, ty, pos, aft, none⟩).run P w = .ok (.enter f (first.toList ++ vs ++ captured.toList).toArray) w := by
    have e : (first.toList ++ vs ++ captured.toList).toArray = first ++ vs.toArray ++ captured := by apply Array.ext'; simp
    rw [e]
    simp [execOp, resolve, h1, ha.ev hf, Deferred.ofValue, invoke, run_callFunc hc.ok]
  unfold wpSched wk1
  have e1 : Region.wanted (⟨some d, .call { callee := .value x, args := xs, argTypes := ats }, ty, pos, aft, none⟩ : Oper) (yielded ops a.tmps) = true := rfl
  simp only [e1, if_true]
  exact enterk h2 hc fun v w' hp => ⟨(k v w' hp).1, (k v w' hp).2 _ (ha.put hd' v)⟩
theorem clv {f : FuncId} {x : Operand} {first captured : Array Value} {xs : Array Operand} {ats : Array TypeId} {vs us : List Value} {Φ : Value → World → Prop}
    (hc : Ret P f us w Φ) (k : ∀ v w', Φ v w' → WL P n ops Q rest ((d, v) :: al) w')
    (hf : ev al x = some (.func (.func f) first captured) := by rfl) (hx : evs al xs.toList = some vs := by rfl) (hu : first.toList ++ vs ++ captured.toList = us := by rfl) (hd : Nat.blt d n = true := by rfl) :
    WL P n ops Q (⟨some d, .call { callee := .value x, args := xs, argTypes := ats }, ty, pos, aft, none⟩ :: rest) al w := by
  subst hu
  exact wcallv hf hx hd hc k
theorem fin0 {fn : Func} {Φ : Value → World → Prop} (h : Φ (.tuple #[]) w) (hr : fn.results = #[] := by rfl) : QX n (Body P fn Φ) .ret al w :=
  doneR (rs := []) (vs := []) hr trivial rfl h
/-- a body that ends by itself -/
theorem finE {fn : Func} {Φ : Value → World → Prop} (h : Φ (.tuple #[]) w) (hr : fn.results = #[] := by rfl) : QX n (Body P fn Φ) .normal al w := fun a ha =>
  fin0 (n := n) (al := al) h hr a ha
end
end Go.Wk
/- The walking layer: a region that draws its order, in three parts: what reads no memory is taken first; then what only reads, or makes memory; then the tail (stores), which waits for all that reads. No program in sight. -/
set_option linter.unusedVariables false
namespace Go.Wk
open Go.RowKit
section
variable {P : Program} {ops : Array Oper} {Q : Exit → Act → World → Prop} {T : Nat → Bool}
/-- whatever order is picked from here on; what is not of the tail leaves all old memory alone -/
def wpAnyC (P : Program) (ops : Array Oper) (Q : Exit → Act → World → Prop) (T : Nat → Bool) : Nat → Array Bool → Act → World → Prop
  | 0, listed, a, w => Region.ready .any ops listed = [] ∧ Q .normal a w
  | fuel + 1, listed, a, w =>
    (Region.ready .any ops listed = [] → Q .normal a w) ∧
      ∀ i ∈ Region.ready .any ops listed, wpOp P ops (QF Q) i (fun a' w' => (T i = false → Ext w w') ∧ wpAnyC P ops Q T fuel (listed.setIfInBounds i true) a' w') a w
theorem wpAny_of_C : ∀ (fuel : Nat) (listed : Array Bool) (a : Act) (w : World), wpAnyC P ops Q T fuel listed a w → wpAny P .any ops Q fuel listed a w
  | 0, _, _, _, h => h
  | fuel + 1, _, _, _, h => ⟨h.1, fun i hi => wpOp_mono (fun a' w' h' => wpAny_of_C fuel _ a' w' h'.2) (wpOp_monoQ (h.2 i hi))⟩
/-- it waits, directly or through others -/
def reach (ops : Array Oper) : Nat → Nat → Nat → Bool
  | 0, _, _ => false
  | f + 1, t, r => match ops[t]? with
    | none => false
    | some o => (o.after.any fun e => Region.binds .any e && e.on == r) || o.after.any fun e => Region.binds .any e && reach ops f e.on r
def Closed (ops : Array Oper) (listed : Array Bool) : Prop := ∀ k o, ops[k]? = some o → listed.getD k false = true → ∀ e ∈ o.after, Region.binds .any e = true → listed.getD e.on false = true
theorem reach_listed {listed : Array Bool} (hc : Closed ops listed) : ∀ (f t r : Nat) (o : Oper), ops[t]? = some o → (∀ e ∈ o.after, Region.binds .any e = true → listed.getD e.on false = true) → reach ops f t r = true → listed.getD r false = true
  | 0, _, _, _, _, _, h => by cases h
  | f + 1, t, r, o, ho, hl, h => by
    simp only [reach, ho, Bool.or_eq_true, Array.any_eq_true', Bool.and_eq_true, beq_iff_eq] at h
    rcases h with ⟨e, he, hb, hr⟩ | ⟨e, he, hb, hr⟩
    · have := hl e he hb; rw [hr] at this; exact this
    · have h1 := hl e he hb
      cases ho' : ops[e.on]? with
      | none =>
        cases f with
        | zero => cases hr
        | succ f => simp [reach, ho'] at hr
      | some o' => exact reach_listed hc f e.on r o' ho' (hc e.on o' ho' h1) hr
theorem ready_listed {listed : Array Bool} {j : Nat} {oj : Oper} (hoj : ops[j]? = some oj) (hj : j ∈ Region.ready .any ops listed) : ∀ e ∈ oj.after, Region.binds .any e = true → listed.getD e.on false = true := by
  obtain ⟨_, o', ho', hall⟩ := mem_ready.1 hj
  rw [hoj] at ho'
  injection ho' with ho'
  subst ho'
  intro e he hb
  have := hall e he hb
  rcases Nat.lt_or_ge e.on listed.size with h' | h'
  · simp [h'] at this ⊢; exact this
  · simp [Array.getElem?_eq_none h'] at this
theorem Closed.step {listed : Array Bool} (hc : Closed ops listed) {i : Nat} (hi : i ∈ Region.ready .any ops listed) : Closed ops (listed.setIfInBounds i true) := by
  have keep : ∀ k, listed.getD k false = true → (listed.setIfInBounds i true).getD k false = true := fun k hk => by
    by_cases hik : i = k
    · subst hik
      have hlt : i < listed.size := by
        rcases Nat.lt_or_ge i listed.size with h' | h'
        · exact h'
        · simp [Array.getElem?_eq_none h'] at hk
      simp [hlt]
    · simpa [Array.getElem?_setIfInBounds_ne hik] using hk
  intro k o ho hk e he hb
  by_cases hik : i = k
  · subst hik; exact keep _ (ready_listed ho hi e he hb)
  · have : listed.getD k false = true := by simpa [Array.getElem?_setIfInBounds_ne hik] using hk
    exact keep _ (hc k o ho this e he hb)
theorem wpAnyC_first (S : World → World → Prop) (hS0 : ∀ w, S w w) (hSt : ∀ {a b c}, S a b → S b c → S a c) {i : Nat} {oi : Oper} {v : Value} (hi : ops[i]? = some oi) (hsel : ∀ (j : Nat) (o : Oper) cs b, ops[j]? = some o → o.op ≠ .select cs b)
    (hSx : ∀ listed j, Closed ops listed → i ∈ Region.ready .any ops listed → j ∈ Region.ready .any ops listed → ∀ w w', (T j = false → Ext w w') → S w w') :
    ∀ (fuel : Nat) (listed : Array Bool) (a : Act) (w : World), Closed ops listed →
      (∀ j oj, ops[j]? = some oj → j ≠ i → listed.getD j true = false → (∀ e ∈ oj.after, Region.binds .any e = true → e.on ≠ i) → oi.apart ops oj = true) →
      i ∈ Region.ready .any ops listed → YieldsIf P ops (S w) oi v a →
      wpAnyC P ops Q T fuel (listed.setIfInBounds i true) (a.put oi.dst v) w → wpAnyC P ops Q T (fuel + 1) listed a w := by
  intro fuel
  induction fuel with
  | zero =>
    intro listed a w hcl _ hr hy H
    refine ⟨fun h => (by rw [h] at hr; cases hr), fun j hj => ?_⟩
    by_cases hji : j = i
    · subst hji; exact hy.wpOp hi (hS0 w) ⟨fun _ => Ext.refl w, H⟩
    · have := ready_mono hj hji
      rw [H.1] at this
      cases this
  | succ fuel ih =>
    intro listed a w hcl hfree hr hy H
    refine ⟨fun h => (by rw [h] at hr; cases hr), fun j hj => ?_⟩
    by_cases hji : j = i
    · subst hji; exact hy.wpOp hi (hS0 w) ⟨fun _ => Ext.refl w, H⟩
    · obtain ⟨hjun, oj, hoj, hall⟩ := mem_ready.1 hj
      have h1 := H.2 j (ready_mono hj hji)
      have hnot : ∀ e ∈ oj.after, Region.binds .any e = true → e.on ≠ i := fun e he hb heq => by
        have h1 := hall e he hb
        have h0 := (mem_ready.1 hr).1
        rw [heq] at h1
        rcases Nat.lt_or_ge i listed.size with h' | h'
        · simp [h'] at h0 h1; rw [h0] at h1; cases h1
        · simp [Array.getElem?_eq_none h'] at h1
      have h2 := wpOp_putIf hoj (hfree j oj hoj hji hjun hnot) (fun cs b => hsel i oi cs b hi) (fun cs b => hsel j oj cs b hoj) (fun c a w h => h) hy h1
      have hfree' : ∀ k ok, ops[k]? = some ok → k ≠ i → (listed.setIfInBounds j true).getD k true = false →
          (∀ e ∈ ok.after, Region.binds .any e = true → e.on ≠ i) → oi.apart ops ok = true := fun k ok hk hki hun hno => by
        refine hfree k ok hk hki ?_ hno
        by_cases hjk : j = k
        · subst hjk; exact hjun
        · rw [getD_set_ne true hjk] at hun; exact hun
      refine wpOp_mono (fun a' w' h3 => ⟨h3.2.1, ih (listed.setIfInBounds j true) a' w' (hcl.step hj) hfree' (ready_mono hr (Ne.symm hji)) ?_ ?_⟩) h2
      · exact h3.1.imp (fun ⟨h4, h5⟩ => ⟨h4, fun w'' hx => h5 w'' (hSt (hSx listed j hcl hr hj w w' h3.2.1) hx)⟩) id
      · rw [Array.setIfInBounds_comm _ _ hji]
        exact h3.2.2
/-- the schedule behind the pure part: kinds 0 (reads), 1 (makes memory), 2 (the tail) -/
theorem wpAnyC_of_sched (hsel : Region.noSelect ops = true) (F : Nat) : ∀ (s : List (Nat × Nat)) (listed : Array Bool) (a : Act) (w : World), Closed ops listed → (∀ p ∈ s, Nat.ble p.1 2 = true) → (∀ p ∈ s, p.2 < ops.size) → (∀ p ∈ s, (p.1 == 2) = T p.2) →
    (∀ t, T t = true → t < ops.size → ∀ p ∈ s, p.1 = 0 → reach ops F t p.2 = true) → canonB ops s listed = true → wpSched P ops Q (opsOf ops.toList s) a w → wpAnyC P ops Q T s.length listed a w
  | [], listed, a, w, _, _, _, _, _, hB, h => ⟨by simpa [canonB] using hB, h⟩
  | (k, i) :: r, listed, a, w, hcl, hk, hlt, hKT, hR, hB, h => by
    have hi : i < ops.size := hlt _ (List.mem_cons_self ..)
    have ho : ops[i]? = some ops[i] := Array.getElem?_eq_getElem hi
    have hn : nth ops.toList i = some ops[i] := by rw [nth_eq]; simp [hi]
    have hTi := hKT _ (List.mem_cons_self ..)
    have hk0 := hk _ (List.mem_cons_self ..)
    simp only at hTi hk0
    have hrec : Closed ops (listed.setIfInBounds i true) → canonB ops r (listed.setIfInBounds i true) = true → ∀ a w, wpSched P ops Q (opsOf ops.toList r) a w → wpAnyC P ops Q T r.length (listed.setIfInBounds i true) a w := fun hc' hB' a w h' =>
      wpAnyC_of_sched hsel F r _ a w hc' (fun p hp => hk p (List.mem_cons_of_mem _ hp)) (fun p hp => hlt p (List.mem_cons_of_mem _ hp)) (fun p hp => hKT p (List.mem_cons_of_mem _ hp)) (fun t ht htl p hp => hR t ht htl p (List.mem_cons_of_mem _ hp)) hB' h'
    have one : canonB ops r (listed.setIfInBounds i true) = true → Region.ready .any ops listed = [i] → (T i = false → if Region.wanted ops[i] (yielded ops a.tmps) then ops[i].wp P a w (fun a' w' => Ext w w' ∧ wpSched P ops Q (opsOf ops.toList r) a' w') (QF Q) else wpSched P ops Q (opsOf ops.toList r) (a.put ops[i].dst undef) w) →
        (T i = true → if Region.wanted ops[i] (yielded ops a.tmps) then ops[i].wp P a w (wpSched P ops Q (opsOf ops.toList r)) (QF Q) else wpSched P ops Q (opsOf ops.toList r) (a.put ops[i].dst undef) w) → wpAnyC P ops Q T (r.length + 1) listed a w := fun hB' hr hf ht => by
      have hcl' : Closed ops (listed.setIfInBounds i true) := hcl.step (by rw [hr]; exact List.mem_singleton.2 rfl)
      refine ⟨fun h0 => (by rw [hr] at h0; cases h0), fun j hj => ?_⟩
      rw [hr] at hj
      obtain rfl : j = i := by simpa using hj
      unfold wpOp
      simp only [ho]
      cases hT : T j with
      | false =>
        have h := hf hT
        split
        · rename_i hw
          simp only [hw, if_true] at h
          exact .inl (Oper.wp_mono (fun a' w' h' => ⟨fun _ => h'.1, hrec hcl' hB' _ _ h'.2⟩) h)
        · rename_i hw; simp only [hw] at h; exact ⟨fun _ => Ext.refl w, hrec hcl' hB' _ _ h⟩
      | true =>
        have h := ht hT
        split
        · rename_i hw
          simp only [hw, if_true] at h
          exact .inl (Oper.wp_mono (fun a' w' h' => ⟨fun h0 => (by cases h0), hrec hcl' hB' _ _ h'⟩) h)
        · rename_i hw; simp only [hw] at h; exact ⟨fun _ => Ext.refl w, hrec hcl' hB' _ _ h⟩
    match k, hTi, hk0, hR, hB, h with
    | 0, hTi, _, hR, hB, h =>
      simp only [canonB, Bool.and_eq_true] at hB
      obtain ⟨⟨hr, hf⟩, hB'⟩ := hB
      have hr' : i ∈ Region.ready .any ops listed := by simpa using hr
      simp only [opsOf, hn, wpSched, wk1] at h
      obtain ⟨v, hy, h⟩ := h
      refine wpAnyC_first Ext Ext.refl Ext.trans ho (Region.noSelect_spec hsel) ?_ r.length listed a w hcl (Region.free_spec ho hf) hr' hy (hrec (hcl.step hr') hB' _ _ h)
      intro listed' j hcl' hri hrj w w' hx
      cases hT : T j with
      | false => exact hx hT
      | true =>
        obtain ⟨_, oj, hoj, _⟩ := mem_ready.1 hrj
        have h1 := reach_listed hcl' F j i oj hoj (ready_listed hoj hrj) (hR j hT (Array.getElem?_eq_some_iff.1 hoj).1 _ (List.mem_cons_self ..) rfl)
        have h0 := (mem_ready.1 hri).1
        rcases Nat.lt_or_ge i listed'.size with h' | h'
        · simp [h'] at h0 h1; rw [h0] at h1; cases h1
        · simp [Array.getElem?_eq_none h'] at h1
    | 1, hTi, _, hR, hB, h =>
      simp only [canonB, Bool.and_eq_true, beq_iff_eq] at hB
      simp only [opsOf, hn, wpSched, wk1] at h
      refine one hB.2 hB.1 (fun _ => h) (fun ht => ?_)
      rw [← hTi] at ht; cases ht
    | 2, hTi, _, hR, hB, h =>
      simp only [canonB, Bool.and_eq_true, beq_iff_eq] at hB
      simp only [opsOf, hn, wpSched, wk1] at h
      refine one hB.2 hB.1 (fun ht => ?_) (fun _ => h)
      rw [← hTi] at ht; cases ht
    | k + 3, _, hk0, _, _, _ => simp at hk0
/-- the pure part -/
def wpPure (P : Program) (ops : Array Oper) (K : Act → World → Prop) : List Oper → Act → World → Prop
  | [], a, w => K a w
  | o :: r, a, w => ∃ v, YieldsIf P ops (fun _ => True) o v a ∧ wpPure P ops K r (a.put o.dst v) w
def canonP (ops : Array Oper) (s : List (Nat × Nat)) : List Nat → Array Bool → Bool
  | [], listed => canonB ops s listed
  | i :: r, listed => Nat.blt i ops.size && (Region.ready .any ops listed).contains i && Region.free .any ops listed i && canonP ops s r (listed.setIfInBounds i true)
def opsAt (l : List Oper) : List Nat → List Oper
  | [] => []
  | i :: r => match nth l i with
    | some o => o :: opsAt l r
    | none => opsAt l r
theorem wpAnyC_of_pure (hsel : Region.noSelect ops = true) (F : Nat) {s : List (Nat × Nat)} (hk : ∀ p ∈ s, Nat.ble p.1 2 = true) (hlt : ∀ p ∈ s, p.2 < ops.size) (hKT : ∀ p ∈ s, (p.1 == 2) = T p.2)
    (hR : ∀ t, T t = true → t < ops.size → ∀ p ∈ s, p.1 = 0 → reach ops F t p.2 = true) : ∀ (s0 : List Nat) (listed : Array Bool) (a : Act) (w : World), Closed ops listed → canonP ops s s0 listed = true →
    wpPure P ops (wpSched P ops Q (opsOf ops.toList s)) (opsAt ops.toList s0) a w → wpAnyC P ops Q T (s0.length + s.length) listed a w
  | [], listed, a, w, hcl, hB, h => by
    simp only [List.length_nil, Nat.zero_add]
    exact wpAnyC_of_sched hsel F s listed a w hcl hk hlt hKT hR hB h
  | i :: r, listed, a, w, hcl, hB, h => by
    simp only [canonP, Bool.and_eq_true] at hB
    obtain ⟨⟨⟨hi0, hr⟩, hf⟩, hB'⟩ := hB
    have hi : i < ops.size := by have : i + 1 ≤ ops.size := by simpa [Nat.blt] using hi0
                                 omega
    have ho : ops[i]? = some ops[i] := Array.getElem?_eq_getElem hi
    have hn : nth ops.toList i = some ops[i] := by rw [nth_eq]; simp [hi]
    have hr' : i ∈ Region.ready .any ops listed := by simpa using hr
    simp only [opsAt, hn, wpPure] at h
    obtain ⟨v, hy, h⟩ := h
    have e : (i :: r).length + s.length = (r.length + s.length) + 1 := by simp; omega
    rw [e]
    exact wpAnyC_first (fun _ _ => True) (fun _ => trivial) (fun _ _ => trivial) ho (Region.noSelect_spec hsel) (fun _ _ _ _ _ _ _ _ => trivial) _ listed a w hcl (Region.free_spec ho hf) hr' hy
      (wpAnyC_of_pure hsel F hk hlt hKT hR r _ _ _ (hcl.step hr') hB' h)
def schedC (ops : Array Oper) (F : Nat) (s0 : List Nat) (s : List (Nat × Nat)) : Bool :=
  Region.noSelect ops && (s0.length + s.length == ops.size) && (s.all fun p => Nat.ble p.1 2) && (s.all fun p => Nat.blt p.2 ops.size) && (s.all fun p => (p.1 == 2) == tailOf s p.2) &&
  ((List.range ops.size).all fun t => !tailOf s t || s.all fun p => p.1 != 0 || reach ops F t p.2) && canonP ops s s0 (Array.replicate ops.size false)
end
section
variable {P : Program} {n : Nat} {al al' : AL} {w : World} {Q : Exit → Act → World → Prop} {ops : Array Oper} {s : List (Nat × Oper)} {rest : List Oper}
/-- what is asked of a region that draws, its pure part ahead -/
def WP (P : Program) (n : Nat) (ops : Array Oper) (Q : Exit → Act → World → Prop) (s : List (Nat × Oper)) (l : List Oper) (al : AL) (w : World) : Prop := ∀ a, Fr n al a → wpPure P ops (wpSched P ops Q s) l a w
theorem WP.sub {l : List Oper} (hs : Sub al' al) (h : WP P n ops Q s l al' w) : WP P n ops Q s l al w := fun a ha => h a (ha.sub hs)
theorem wdrawC {id : Nat} {l : List Oper} (F : Nat) (s0 : List Nat) (s : List (Nat × Nat)) (hm : P.follows .mixedOrders = true) (hB : schedC l.toArray F s0 s = true) (h : WP P n l.toArray Q (opsOf l s) (opsAt l s0) al w.drew) : WC P n (.region id l.toArray true) Q al w := by
  intro a ha
  simp only [schedC, Bool.and_eq_true, beq_iff_eq, List.all_eq_true, List.mem_range, Bool.or_eq_true, Bool.not_eq_true', bne_iff_ne] at hB
  obtain ⟨⟨⟨⟨⟨⟨h1, h2⟩, h3⟩, h4⟩, h5⟩, h6⟩, h7⟩ := hB
  refine wp_region_any hm ?_
  rw [← h2]
  refine wpAny_of_C (T := tailOf s) _ _ _ _ (wpAnyC_of_pure h1 F (fun p hp => h3 p hp) (fun p hp => ?_) (fun p hp => ?_) (fun t ht htl p hp h0 => ?_) s0 _ a _ ?_ (by rw [h2]; exact h7) ?_)
  · have := h4 p hp
    have h' : p.2 + 1 ≤ l.toArray.size := by simpa [Nat.blt] using this
    omega
  · simpa using h5 p hp
  · rcases h6 t htl with h' | h'
    · rw [ht] at h'; cases h'
    · rcases h' p hp with h'' | h''
      · exact absurd h0 h''
      · exact h''
  · intro k o ho hk e he hb
    exfalso
    simp only [Array.getD_eq_getD_getElem?, Array.getElem?_replicate] at hk
    split at hk <;> cases hk
  · have := h a ha
    simpa using this
variable {d ty : Nat} {op : Op} {pos : String} {aft : Array Edge} {tt : TT}
theorem pnil (h : WD P n ops Q s al w) : WP P n ops Q s [] al w := fun a ha => h a ha
theorem py {v : Value} (hy : ∀ w' a, Fr n al a → (execOp a.eval ⟨some d, op, ty, pos, aft, none⟩).run P w' = .ok (.value v) w') (hd : Nat.blt d n = true) (k : WP P n ops Q s rest ((d, v) :: al) w) : WP P n ops Q s (⟨some d, op, ty, pos, aft, none⟩ :: rest) al w := fun a ha => by
  have hd' : d < n := by have : d + 1 ≤ n := by simpa [Nat.blt] using hd
                         omega
  exact ⟨v, .inl ⟨rfl, fun w' _ => hy w' a ha⟩, k _ (ha.put hd' v)⟩
/-! in short words -/
theorem π4 [h : Tab P tt] {v : Value} (k : WP P n ops Q s rest ((d, v) :: al) w) (hv : pv tt (ev al) op = some v := by rfl) (hd : Nat.blt d n = true := by rfl) : WP P n ops Q s (⟨some d, op, ty, pos, aft, none⟩ :: rest) al w :=
  py (fun w' a ha => pv_ok w' h.ok (fun x u hx => ha.ev hx) hv) hd k
theorem π1 {x y : Operand} {t yt : TypeId} {a b : Int} (k : WP P n ops Q s rest ((d, .int .i64 (a + b)) :: al) w) (hx : ev al x = some (.int .i64 a) := by rfl) (hy : ev al y = some (.int .i64 b) := by rfl) (hd : Nat.blt d n = true := by rfl) (hc : -9223372036854775808 ≤ a + b ∧ a + b ≤ 9223372036854775807 := by omega) :
    WP P n ops Q s (⟨some d, .binOp .add t x y yt, ty, pos, aft, none⟩ :: rest) al w :=
  py (fun w' e he => by
    have e1 : IntKind.i64.wrap (a + b) = a + b := i64w hc
    have := pv_ok (P := P) (tt := []) w' trivial (o := ⟨some d, .binOp .add t x y yt, ty, pos, aft, none⟩) (ρ := e.eval) (e := ev al) (fun z u hz => he.ev hz) (v := .int .i64 (IntKind.i64.wrap (a + b))) (by simp only [pv, hx, hy, bop, if_true])
    rw [e1] at this; exact this) hd k
theorem π2 {x y : Operand} {t yt : TypeId} {a b : Int} (k : WP P n ops Q s rest ((d, .int .i64 (a - b)) :: al) w) (hx : ev al x = some (.int .i64 a) := by rfl) (hy : ev al y = some (.int .i64 b) := by rfl) (hd : Nat.blt d n = true := by rfl) (hc : -9223372036854775808 ≤ a - b ∧ a - b ≤ 9223372036854775807 := by omega) :
    WP P n ops Q s (⟨some d, .binOp .sub t x y yt, ty, pos, aft, none⟩ :: rest) al w :=
  py (fun w' e he => by
    have e1 : IntKind.i64.wrap (a - b) = a - b := i64w hc
    have := pv_ok (P := P) (tt := []) w' trivial (o := ⟨some d, .binOp .sub t x y yt, ty, pos, aft, none⟩) (ρ := e.eval) (e := ev al) (fun z u hz => he.ev hz) (v := .int .i64 (IntKind.i64.wrap (a - b))) (by simp only [pv, hx, hy, bop, if_true])
    rw [e1] at this; exact this) hd k
theorem π5 (h : WD P n ops Q s al w) : WP P n ops Q s [] al w := pnil h
/-- a region that draws -/
theorem drC [h : Tab P tt] {id : Nat} {l : List Oper} (F : Nat) (s0 : List Nat) (s : List (Nat × Nat)) (hB : schedC l.toArray F s0 s = true) (k : WP P n l.toArray Q (opsOf l s) (opsAt l s0) al w.drew) : WC P n (.region id l.toArray true) Q al w := wdrawC F s0 s h.mixed hB k
end
end Go.Wk
/- The walking layer: interface values, calls of their methods. No program in sight. -/
set_option linter.unusedVariables false
namespace Go.Wk
open Go.RowKit
/-- the method of an interface value: the function and its receiver -/
def Meth (P : Program) (v : Value) (name : String) (f : FuncId) (rv : Value) : Prop := ∃ t x, v = .iface t x ∧ (∀ w, (method (P.types.size + Made.depth) t x name).run P w = .ok (f, rv) w) ∧ (∀ w, (nilAhead (P.types.size + Made.depth) t x name).run P w = .ok (some false) w)
section
variable {P : Program} {n : Nat} {al al' : AL} {w : World} {Q : Exit → Act → World → Prop} {ops : Array Oper} {drest : List (Nat × Oper)} {rest : List Oper} {s : List (Nat × Oper)}
variable {d ty : Nat} {op : Op} {pos : String} {aft : Array Edge} {tt : TT}
theorem run_inv {v : Value} {name : String} {f : FuncId} {rv : Value} (hm : Meth P v name f rv) (hc : Callable P f) {x : Operand} {xs : Array Operand} {ats : Array TypeId} {vs : List Value} {a : Act} (ha : Fr n al a) (hx : ev al x = some v) (hxs : evs al xs.toList = some vs) (dst : Option Nat) (w : World) :
    (execOp a.eval ⟨dst, .call { callee := .invoke x name, args := xs, argTypes := ats }, ty, pos, aft, none⟩).run P w = .ok (.enter f (rv :: vs).toArray) w := by
  obtain ⟨t, y, rfl, hm, _⟩ := hm
  have h1 : xs.map a.eval = vs.toArray := by rw [← ha.evs hxs, ← List.map_toArray, Array.toArray_toList]
  have e1 : (#[Value.iface t y] ++ vs.toArray)[0]? = some (Value.iface t y) := by simp
  have e2 : (#[Value.iface t y] ++ vs.toArray).extract 1 (#[Value.iface t y] ++ vs.toArray).size = vs.toArray := by
    apply Array.ext'; simp
  simp only [execOp, resolve, h1, ha.ev hx, Sem.run_bind, Sem.run_pure, Result.andThen_ok, invoke]
  simp only [e1, e2, callMethod, Sem.run_bind, run_program, Result.andThen_ok, hm w]
  have e3 : #[rv] ++ vs.toArray = (rv :: vs).toArray := by apply Array.ext'; simp
  rw [e3]
  exact run_callFunc hc _ w
theorem inv {v : Value} {name : String} {f : FuncId} {rv : Value} {x : Operand} {xs : Array Operand} {ats : Array TypeId} {vs us : List Value} {Φ : Value → World → Prop} (hm : Meth P v name f rv) (hc : Ret P f us w Φ) (k : ∀ v w', Φ v w' → WL P n ops Q rest ((d, v) :: al) w')
    (hx : ev al x = some v := by rfl) (hxs : evs al xs.toList = some vs := by rfl) (hu : rv :: vs = us := by rfl) (hd : Nat.blt d n = true := by rfl) :
    WL P n ops Q (⟨some d, .call { callee := .invoke x name, args := xs, argTypes := ats }, ty, pos, aft, none⟩ :: rest) al w := fun a ha =>
  wpList_plain rfl fun K hK => by
    have hd' : d < n := by have : d + 1 ≤ n := by simpa [Nat.blt] using hd
                           omega
    subst hu
    exact enterk (run_inv hm hc.ok ha hx hxs (some d) w) hc fun v w' hp => hK _ _ (k v w' hp _ (ha.put hd' v))
theorem dinv {v : Value} {name : String} {f : FuncId} {rv : Value} {x : Operand} {xs : Array Operand} {ats : Array TypeId} {vs us : List Value} {Φ : Value → World → Prop} (hm : Meth P v name f rv) (hc : Ret P f us w Φ) (k : ∀ v w', Φ v w' → Ext w w' ∧ WD P n ops Q drest ((d, v) :: al) w')
    (hx : ev al x = some v := by rfl) (hxs : evs al xs.toList = some vs := by rfl) (hu : rv :: vs = us := by rfl) (hd : Nat.blt d n = true := by rfl) :
    WD P n ops Q ((1, ⟨some d, .call { callee := .invoke x name, args := xs, argTypes := ats }, ty, pos, aft, none⟩) :: drest) al w := fun a ha => by
  have hd' : d < n := by have : d + 1 ≤ n := by simpa [Nat.blt] using hd
                         omega
  subst hu
  unfold wpSched wk1
  have e1 : Region.wanted (⟨some d, .call { callee := .invoke x name, args := xs, argTypes := ats }, ty, pos, aft, none⟩ : Oper) (yielded ops a.tmps) = true := rfl
  simp only [e1, if_true]
  exact enterk (run_inv hm hc.ok ha hx hxs (some d) w) hc fun v w' hp => ⟨(k v w' hp).1, (k v w' hp).2 _ (ha.put hd' v)⟩
/-- the check of a method value's receiver -/
theorem run_ncm {v : Value} {name : String} {f : FuncId} {rv : Value} (hm : Meth P v name f rv) {x : Operand} {a : Act} (ha : Fr n al a) (hx : ev al x = some (.func (.method name) #[v] #[])) (dst : Option Nat) (w : World) :
    (execOp a.eval ⟨dst, .nilCheck x, ty, pos, aft, none⟩).run P w = .ok (.value (.func (.method name) #[v] #[])) w := by
  obtain ⟨t, y, rfl, _, hn⟩ := hm
  have e1 : (#[Value.iface t y] : Array Value)[0]? = some (Value.iface t y) := by simp
  simp only [execOp, ha.ev hx, e1, Sem.run_bind, run_program, Result.andThen_ok, hn w]
  simp
theorem ncm {v : Value} {name : String} {f : FuncId} {rv : Value} {x : Operand} (hm : Meth P v name f rv) (k : WL P n ops Q rest ((d, .func (.method name) #[v] #[]) :: al) w) (hx : ev al x = some (.func (.method name) #[v] #[]) := by rfl) (hd : Nat.blt d n = true := by rfl) :
    WL P n ops Q (⟨some d, .nilCheck x, ty, pos, aft, none⟩ :: rest) al w := wop hd (fun a ha => run_ncm hm ha hx (some d) w) k
theorem dncm {v : Value} {name : String} {f : FuncId} {rv : Value} {x : Operand} (hm : Meth P v name f rv) (k : WD P n ops Q drest ((d, .func (.method name) #[v] #[]) :: al) w) (hx : ev al x = some (.func (.method name) #[v] #[]) := by rfl) (hd : Nat.blt d n = true := by rfl) :
    WD P n ops Q ((0, ⟨some d, .nilCheck x, ty, pos, aft, none⟩) :: drest) al w := dy (fun w' _ a ha => run_ncm hm ha hx (some d) w') hd k
/-- the check of an interface value -/
theorem run_nci {t : TypeId} {y : Value} {x : Operand} {a : Act} (ha : Fr n al a) (hx : ev al x = some (.iface t y)) (dst : Option Nat) (w : World) :
    (execOp a.eval ⟨dst, .nilCheck x, ty, pos, aft, none⟩).run P w = .ok (.value (.iface t y)) w := by simp [execOp, ha.ev hx]
theorem nci {t : TypeId} {y : Value} {x : Operand} (k : WL P n ops Q rest ((d, .iface t y) :: al) w) (hx : ev al x = some (.iface t y) := by rfl) (hd : Nat.blt d n = true := by rfl) :
    WL P n ops Q (⟨some d, .nilCheck x, ty, pos, aft, none⟩ :: rest) al w := wop hd (fun a ha => run_nci ha hx (some d) w) k
theorem dnci {t : TypeId} {y : Value} {x : Operand} (k : WD P n ops Q drest ((d, .iface t y) :: al) w) (hx : ev al x = some (.iface t y) := by rfl) (hd : Nat.blt d n = true := by rfl) :
    WD P n ops Q ((0, ⟨some d, .nilCheck x, ty, pos, aft, none⟩) :: drest) al w := dy (fun w' _ a ha => run_nci ha hx (some d) w') hd k
def isNil : Value → Bool
  | .nilIface => true
  | _ => false
/-- v == nil -/
theorem run_inil {t : TypeId} {ms : Array (String × TypeId)} (ht : P.underlying t = some (.interface ms)) {v : Value} (hv : v = .nilIface ∨ ∃ u y, v = .iface u y) (x : Operand) (w : World) :
    (do eqGuard .eql t x (.const .nilIface) v .nilIface; binOp .eql t v .nilIface : Sem Value).run P w = .ok (.bool (isNil v)) w := by
  have h : ∀ d : Nat, (Op.equalIn (d + 1) t v .nilIface).run P w = .ok (isNil v) w := fun d => by
    rcases hv with rfl | ⟨u, y, rfl⟩ <;> simp [Op.equalIn, run_underlying ht, isNil]
  rcases hv with rfl | ⟨u, y, rfl⟩ <;> simp [eqGuard, binOp, Op.equal, Op.maxDepth, h 9999]
theorem inil {t t2 : TypeId} {ms : Array (String × TypeId)} (ht : P.underlying t = some (.interface ms)) {v : Value} {x : Operand} (hv : v = .nilIface ∨ ∃ u y, v = .iface u y) (kk : WL P n ops Q rest ((d, .bool (isNil v)) :: al) w)
    (hx : ev al x = some v := by rfl) (hd : Nat.blt d n = true := by rfl) : WL P n ops Q (⟨some d, .binOp .eql t x (.const .nilIface) t2, ty, pos, aft, none⟩ :: rest) al w :=
  wop hd (fun a ha => by
    have h2 : a.eval (.const .nilIface) = .nilIface := rfl
    have := run_inil ht hv x w
    simp only [Sem.run_bind] at this
    simp only [execOp, ha.ev hx, h2, Sem.run_bind, this]
    rfl) kk
/-- a value put into an interface -/
theorem mki {t : TypeId} {td : TypeDesc} (ht : P.underlying t = some td) (hn : ∀ ms, td ≠ .interface ms) {v : Value} {x : Operand} (kk : WL P n ops Q rest ((d, .iface t v) :: al) w)
    (hx : ev al x = some v := by rfl) (hd : Nat.blt d n = true := by rfl) : WL P n ops Q (⟨some d, .makeInterface t x, ty, pos, aft, none⟩ :: rest) al w :=
  wop hd (fun a ha => by
    simp only [execOp, ha.ev hx, Instr.makeInterface, Sem.run_bind, run_underlying ht, Result.andThen_ok]
    cases td <;> first | rfl | exact absurd rfl (hn _)) kk
end
end Go.Wk
