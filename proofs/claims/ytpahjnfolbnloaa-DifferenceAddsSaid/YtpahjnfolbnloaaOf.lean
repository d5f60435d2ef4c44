/- Contracts of row.Dedup, sort.Search, row.Search, array.OfRows. -/
import Derived.Test.YtpahjnfolbnloaaSetP
set_option linter.unusedVariables false
namespace Go.Proofs.Ytpahjnfolbnloaa
open Go.RowKit Pl Go.Wk
attribute [local irreducible] WC WL QX WD WDB WP
theorem bs1Row (v : Value) (w : World) (A : Option Addr) (n c : Nat) (hv : v = .slice A n c) : (Instr.buildSlice 22 1 #[(0, v)]).run Try.prog w = .ok (.slice (some ⟨w.heap.size, 0, none⟩) 1 1) (w.alloc (.cells [v].toArray 25)) := by
  subst hv; kernel_rfl
theorem ls_get {ps : List Pr} {i : Nat} : (ps.map (·.2)).getD i [] = (ps.getD i z0).2 := by
  simp only [List.getD, List.getElem?_map]
  cases ps[i]? <;> rfl
/-- old memory, and the block of a slice -/
def own (base : Nat) (v : Value) (k : Nat) : Prop := k < base ∨ v.ownBlock = some k
/-- rows that the call owns: they may be appended to -/
def OwnR (w : World) (base : Nat) (v : Value) (ls : List Row) : Prop := ∃ ps : List Pr, ls = ps.map (·.2) ∧ w.ownsRow base 25 1 v ps.length (ps.map (·.1)) ∧ ∀ p ∈ ps, RowX w (own base v) p.1 p.2
theorem OwnR.nil (w : World) (base : Nat) : OwnR w base (.slice none 0 0) [] := ⟨[], rfl, own_nil _ _ _ _, fun p hp => by cases hp⟩
theorem OwnR.ext {w w' : World} {base : Nat} {v : Value} {ls : List Row} (h : OwnR w base v ls) (hx : Ext w w') : OwnR w' base v ls := by
  obtain ⟨ps, h1, h2, h3⟩ := h; exact ⟨ps, h1, own_ext h2 hx, fun p hp => (h3 p hp).ext hx⟩
theorem OwnR.rows {w : World} {base : Nat} {v : Value} {ls : List Row} (h : OwnR w base v ls) (hm : ls.length ≤ 1100000) : RowsV w v ls := by
  obtain ⟨ps, rfl, h2, h3⟩ := h
  obtain ⟨A, c, rfl, hc, _⟩ := own_form h2
  exact ⟨ps, A, c, rfl, rfl, hc, by simpa using hm, Rd.own h2, fun p hp => (h3 p hp).v⟩
theorem OwnR.form {w : World} {base : Nat} {v : Value} {ls : List Row} (h : OwnR w base v ls) : ∃ A c, v = .slice A ls.length c := by
  obtain ⟨ps, rfl, h2, h3⟩ := h
  obtain ⟨A, c, rfl, hc, _⟩ := own_form h2
  exact ⟨A, c, by simp⟩
theorem OwnR.lt {w : World} {base : Nat} {v : Value} {ls : List Row} (h : OwnR w base v ls) : ∀ k, v.ownBlock = some k → base ≤ k ∧ k < w.heap.size := by
  obtain ⟨ps, rfl, h2, h3⟩ := h
  obtain ⟨A, c, rfl, hc, hf⟩ := own_form h2
  exact hf
theorem OwnR.grown {w w' : World} {base g : Nat} {v : Value} {ls : List Row} (h : OwnR w base v ls) (hg : w.grownBy w' (some g)) (hb : g < base) : OwnR w' base v ls := by
  obtain ⟨ps, h1, h2, h3⟩ := id h
  refine ⟨ps, h1, World.ownsRow.kept h2 hg ?_, fun p hp => (h3 p hp).grown hg (fun k hk => .inl (by injection hk with hk; omega))⟩
  cases hv : v.ownBlock with
  | none => exact .inl rfl
  | some k => exact .inr (fun e => by injection e with e; have := (h.lt k hv).1; omega)
/-- 'out = append(out, r)' -/
theorem appR {P : Program} {n : Nat} {al : AL} {w : World} {Q : Exit → Act → World → Prop} {ops : Array Oper} {rest : List Oper} {d ty : Nat} {pos : String} {aft : Array Edge} {a : World} (hxa : Ext a w) {x y : Operand} {v : Value} {ls : List Row} {b : Nat} {vr : Value} {r : Row}
    (hE : ElT P 22 25 1 24 (.slice none 0 0)) (ho : OwnR w a.heap.size v ls) (hb : Blk w b 25 [vr]) (hr : RowX w (own a.heap.size v) vr r) (hm : ls.length ≤ 1100000)
    (kk : ∀ v' w', OwnR w' a.heap.size v' (ls ++ [r]) → Ext a w' → w.grownBy w' v.ownBlock → WL P n ops Q rest ((d, v') :: al) w')
    (hx : ev al x = some v := by rfl) (hy : ev al y = some (.slice (some ⟨b, 0, none⟩) 1 1) := by rfl) (hd : Nat.blt d n = true := by rfl) :
    WL P n ops Q (⟨some d, .call { callee := .builtin .append, args := #[x, y], argTypes := #[22, 22] }, ty, pos, aft, none⟩ :: rest) al w := by
  obtain ⟨ps, rfl, h2, h3⟩ := ho
  have hone : vr.oneCell' = true := hr.v.one
  refine apo hxa hE h2 hb.one (fun u hu => by rw [List.mem_singleton.1 hu]; exact hone) (by unfold maxLen; simp at hm; omega) (by simp at hm; omega) ?_ hx hy hd
  intro v' w' ho' hx' hg' hn'
  have hnew : ∀ (p : Pr), RowX w (own a.heap.size v) p.1 p.2 → RowX w' (own a.heap.size v') p.1 p.2 := fun p hp => by
    have h1 := hp.mono (N' := fun k => own a.heap.size v k ∨ own a.heap.size v' k) (fun k hk h => by
      rcases h with h | h | h
      · exact h
      · exact .inl h
      · rcases hn' k h with h4 | h4
        · exact .inr h4
        · omega)
    obtain ⟨A, c, e1, e2, e3, e4, e5⟩ := h1.grown hg' (fun k hk => .inl (.inr hk))
    exact ⟨A, c, e1, e2, e3, e4, fun h0 ad e hn => e5 h0 ad e (.inr hn)⟩
  refine kk v' w' ⟨ps ++ [(vr, r)], by simp, ?_, fun p hp => ?_⟩ hx' hg'
  · rw [List.length_append, List.map_append]; exact ho'
  · rcases List.mem_append.1 hp with h' | h'
    · exact hnew p (h3 p h')
    · rw [List.mem_singleton.1 h']; exact hnew (vr, r) hr
set_option maxRecDepth 100000 in
theorem dedup_any {v : Value} {ls : List Row} {w : World} (h : RowsV w v ls) :
    Ret Try.prog 50 [v] w fun v' w' => OwnR w' w.heap.size v' (ddF ls) ∧ Ext w w' := by
  obtain ⟨ps, A, c, hls, rfl, h3, h4, h5, h6⟩ := id h
  have hn : ls.length = ps.length := by rw [hls]; simp
  generalize hN : ps.length = n at *
  refine enterR Try.func50 Try.ntmps50 rfl (by kernel_rfl) rfl ?_
  repeat first | refine ω1 ?_ | refine ω2 ?_ | refine ω3 ?_ | refine ω4 ?_ | refine ω5 ?_ | refine χ1 ?_ | refine κ1 ?_ | refine κ2 ?_ | refine χ2 ?_ | refine κ3 ?_ | refine ω6 ?_ | refine ω7 ?_ | refine ω9 ?_ | refine κ4 ?_ | refine κ7 ?_ | refine κ8 ?_ | refine χ3 ?_ | refine χ4 ?_ | refine κ5 ?_ | refine κ6 ?_ | refine χ5 ?_ | refine χ6 ?_ | refine χ7 ?_ | refine ω8 ?_
  refine wloop2 (fun (k : Nat) (v3 : Value) => [(0, .slice A n c), (3, v3), (6, .int .i64 (n : Int)), (7, .int .i64 (k : Int))])
    (fun k v3 w2 => k ≤ n ∧ Ext w w2 ∧ OwnR w2 w.heap.size v3 (ddF (ls.take k)) ∧ (ddF (ls.take k)).length ≤ k) (fun k _ => n - k) 0 (.slice none 0 0) (by repeat' (first | exact Sub.nil | refine Sub.cons rfl ?_))
    ⟨Nat.zero_le _, Ext.refl w, OwnR.nil _ _, by simp [ddF]⟩ ?_
  rintro k v3 w2 ⟨hk, hx2, ho2, hl2⟩
  repeat first | refine ω1 ?_ | refine ω2 ?_ | refine ω3 ?_ | refine ω4 ?_ | refine ω5 ?_ | refine χ1 ?_ | refine κ1 ?_ | refine κ2 ?_ | refine χ2 ?_ | refine κ3 ?_ | refine ω6 ?_ | refine ω7 ?_ | refine ω9 ?_ | refine κ4 ?_ | refine κ7 ?_ | refine κ8 ?_ | refine χ3 ?_ | refine χ4 ?_ | refine κ5 ?_ | refine κ6 ?_ | refine χ5 ?_ | refine χ6 ?_ | refine χ7 ?_ | refine ω8 ?_
  refine ci (fun h => ?_) (fun h => ?_)
  · have hlt : k < n := by have := of_decide_eq_true h; omega
    have hps : k < ps.length := by omega
    have step := ddF_take (l := ls) (k := k) (by omega)
    repeat first | refine ω1 ?_ | refine ω2 ?_ | refine ω3 ?_ | refine ω4 ?_ | refine ω5 ?_ | refine χ1 ?_ | refine κ1 ?_ | refine κ2 ?_ | refine χ2 ?_ | refine κ3 ?_ | refine ω6 ?_ | refine ω7 ?_ | refine ω9 ?_ | refine κ4 ?_ | refine κ7 ?_ | refine κ8 ?_ | refine χ3 ?_ | refine χ4 ?_ | refine κ5 ?_ | refine κ6 ?_ | refine χ5 ?_ | refine χ6 ?_ | refine χ7 ?_ | refine ω8 ?_
    refine wjoin1 (fun (t : Bool) => [(0, .slice A n c), (3, v3), (4, .int .i64 (k : Int)), (6, .int .i64 (n : Int)), (7, .int .i64 (k : Int)), (24, .bool t)])
      (fun t w3 => t = !decide (k ≠ 0 ∧ ls.getD (k - 1) [] = ls.getD k []) ∧ Ext w2 w3) ?_ ?_
    · refine dr [(0, 0), (0, 1), (0, 2), (0, 3), (0, 4), (0, 5), (0, 6), (0, 7), (0, 8), (0, 9), (0, 10), (0, 11), (1, 12), (0, 13), (0, 14)] (by kernel_rfl) ?_
      have hxd : Ext w2 w2.drew := (Ext.refl w2).drew
      have h5d := h5.ext (hx2.trans hxd)
      repeat first | refine δ1 ?_ | refine δ2 ?_ | refine δ4 ?_ | refine δ5 ?_ | refine δ6 ?_ | refine δ7 ?_ | refine δ9 ?_ | refine δ8 ?_ | refine χ1 ?_ | refine χ2 ?_ | refine χ3 ?_ | refine χ4 ?_ | refine χ5 ?_ | refine χ6 ?_ | refine χ7 ?_
      refine dki 12 (fun h => ?_) (fun h => ?_)
      · have hk0 : k = 0 := by have := of_beq_t h; omega
        repeat first | refine δ1 ?_ | refine δ2 ?_ | refine δ4 ?_ | refine δ5 ?_ | refine δ6 ?_ | refine δ7 ?_ | refine δ9 ?_ | refine δ8 ?_ | refine χ1 ?_ | refine χ2 ?_ | refine χ3 ?_ | refine χ4 ?_ | refine χ5 ?_ | refine χ6 ?_ | refine χ7 ?_
        exact qjoin1 true (by repeat' (first | exact Sub.nil | refine Sub.cons rfl ?_)) ⟨by simp [hk0], hxd⟩
      · have hk0 : k ≠ 0 := by have := of_beq_f h; omega
        have hps1 : k - 1 < ps.length := by omega
        repeat first | refine δ1 ?_ | refine δ2 ?_ | refine δ4 ?_ | refine δ5 ?_ | refine δ6 ?_ | refine δ7 ?_ | refine δ9 ?_ | refine δ8 ?_ | refine χ1 ?_ | refine χ2 ?_ | refine χ3 ?_ | refine χ4 ?_ | refine χ5 ?_ | refine χ6 ?_ | refine χ7 ?_
        refine dix (k - 1) h5d (by omega) ?_
        repeat first | refine δ1 ?_ | refine δ2 ?_ | refine δ4 ?_ | refine δ5 ?_ | refine δ6 ?_ | refine δ7 ?_ | refine δ9 ?_ | refine δ8 ?_ | refine χ1 ?_ | refine χ2 ?_ | refine χ3 ?_ | refine χ4 ?_ | refine χ5 ?_ | refine χ6 ?_ | refine χ7 ?_
        refine dld (h5d.cell (ps_get hps1)) ?_
        repeat first | refine δ1 ?_ | refine δ2 ?_ | refine δ4 ?_ | refine δ5 ?_ | refine δ6 ?_ | refine δ7 ?_ | refine δ9 ?_ | refine δ8 ?_ | refine χ1 ?_ | refine χ2 ?_ | refine χ3 ?_ | refine χ4 ?_ | refine χ5 ?_ | refine χ6 ?_ | refine χ7 ?_
        refine dix k h5d hlt ?_
        repeat first | refine δ1 ?_ | refine δ2 ?_ | refine δ4 ?_ | refine δ5 ?_ | refine δ6 ?_ | refine δ7 ?_ | refine δ9 ?_ | refine δ8 ?_ | refine χ1 ?_ | refine χ2 ?_ | refine χ3 ?_ | refine χ4 ?_ | refine χ5 ?_ | refine χ6 ?_ | refine χ7 ?_
        refine dld (h5d.cell (ps_get hps)) ?_
        repeat first | refine δ1 ?_ | refine δ2 ?_ | refine δ4 ?_ | refine δ5 ?_ | refine δ6 ?_ | refine δ7 ?_ | refine δ9 ?_ | refine δ8 ?_ | refine χ1 ?_ | refine χ2 ?_ | refine χ3 ?_ | refine χ4 ?_ | refine χ5 ?_ | refine χ6 ?_ | refine χ7 ?_
        refine dcl (rowEqual_any ((h6 _ (getD_mem' z0 ps hps1)).ext (hx2.trans hxd)) ((h6 _ (getD_mem' z0 ps hps)).ext (hx2.trans hxd))) ?_
        rintro x w3 ⟨rfl, hx3⟩
        refine ⟨hx3, ?_⟩
        repeat first | refine δ1 ?_ | refine δ2 ?_ | refine δ4 ?_ | refine δ5 ?_ | refine δ6 ?_ | refine δ7 ?_ | refine δ9 ?_ | refine δ8 ?_ | refine χ1 ?_ | refine χ2 ?_ | refine χ3 ?_ | refine χ4 ?_ | refine χ5 ?_ | refine χ6 ?_ | refine χ7 ?_
        refine qjoin1 (!decide ((ps.getD (k - 1) z0).2 = (ps.getD k z0).2)) (by repeat' (first | exact Sub.nil | refine Sub.cons rfl ?_)) ⟨?_, hxd.trans hx3⟩
        rw [hls, ls_get, ls_get]; simp [hk0]
    rintro t w3 ⟨rfl, hx3⟩
    have ho3 := ho2.ext hx3
    have hx23 := hx2.trans hx3
    repeat first | refine ω1 ?_ | refine ω2 ?_ | refine ω3 ?_ | refine ω4 ?_ | refine ω5 ?_ | refine χ1 ?_ | refine κ1 ?_ | refine κ2 ?_ | refine χ2 ?_ | refine κ3 ?_ | refine ω6 ?_ | refine ω7 ?_ | refine ω9 ?_ | refine κ4 ?_ | refine κ7 ?_ | refine κ8 ?_ | refine χ3 ?_ | refine χ4 ?_ | refine κ5 ?_ | refine κ6 ?_ | refine χ5 ?_ | refine χ6 ?_ | refine χ7 ?_ | refine ω8 ?_
    refine ci (fun h => ?_) (fun h => ?_)
    · rw [if_neg (by rw [Bool.not_eq_true'] at h; exact of_decide_eq_false h)] at step
      repeat first | refine ω1 ?_ | refine ω2 ?_ | refine ω3 ?_ | refine ω4 ?_ | refine ω5 ?_ | refine χ1 ?_ | refine κ1 ?_ | refine κ2 ?_ | refine χ2 ?_ | refine κ3 ?_ | refine ω6 ?_ | refine ω7 ?_ | refine ω9 ?_ | refine κ4 ?_ | refine κ7 ?_ | refine κ8 ?_ | refine χ3 ?_ | refine χ4 ?_ | refine κ5 ?_ | refine κ6 ?_ | refine χ5 ?_ | refine χ6 ?_ | refine χ7 ?_ | refine ω8 ?_
      refine ix k (h5.ext hx23) hlt ?_
      repeat first | refine ω1 ?_ | refine ω2 ?_ | refine ω3 ?_ | refine ω4 ?_ | refine ω5 ?_ | refine χ1 ?_ | refine κ1 ?_ | refine κ2 ?_ | refine χ2 ?_ | refine κ3 ?_ | refine ω6 ?_ | refine ω7 ?_ | refine ω9 ?_ | refine κ4 ?_ | refine κ7 ?_ | refine κ8 ?_ | refine χ3 ?_ | refine χ4 ?_ | refine κ5 ?_ | refine κ6 ?_ | refine χ5 ?_ | refine χ6 ?_ | refine χ7 ?_ | refine ω8 ?_
      refine ld ((h5.ext hx23).cell (ps_get hps)) ?_
      repeat first | refine ω1 ?_ | refine ω2 ?_ | refine ω3 ?_ | refine ω4 ?_ | refine ω5 ?_ | refine χ1 ?_ | refine κ1 ?_ | refine κ2 ?_ | refine χ2 ?_ | refine κ3 ?_ | refine ω6 ?_ | refine ω7 ?_ | refine ω9 ?_ | refine κ4 ?_ | refine κ7 ?_ | refine κ8 ?_ | refine χ3 ?_ | refine χ4 ?_ | refine κ5 ?_ | refine κ6 ?_ | refine χ5 ?_ | refine χ6 ?_ | refine χ7 ?_ | refine ω8 ?_
      refine cl (cloneRowV ((h6 _ (getD_mem' z0 ps hps)).ext hx23) (own w.heap.size v3) (fun j hj => by
        rcases hj with hj | hj
        · have := hx23.size; omega
        · exact (ho3.lt j hj).2)) ?_
      rintro v4 w4 ⟨hr4, hx4⟩
      obtain ⟨B, bc, hv4, _⟩ := hr4.v
      repeat first | refine ω1 ?_ | refine ω2 ?_ | refine ω3 ?_ | refine ω4 ?_ | refine ω5 ?_ | refine χ1 ?_ | refine κ1 ?_ | refine κ2 ?_ | refine χ2 ?_ | refine κ3 ?_ | refine ω6 ?_ | refine ω7 ?_ | refine ω9 ?_ | refine κ4 ?_ | refine κ7 ?_ | refine κ8 ?_ | refine χ3 ?_ | refine χ4 ?_ | refine κ5 ?_ | refine κ6 ?_ | refine χ5 ?_ | refine χ6 ?_ | refine χ7 ?_ | refine ω8 ?_
      refine bsl (fun w => bs1Row v4 w B _ bc hv4) ?_
      intro w5 b hx5 hb5 hk5
      repeat first | refine ω1 ?_ | refine ω2 ?_ | refine ω3 ?_ | refine ω4 ?_ | refine ω5 ?_ | refine χ1 ?_ | refine κ1 ?_ | refine κ2 ?_ | refine χ2 ?_ | refine κ3 ?_ | refine ω6 ?_ | refine ω7 ?_ | refine ω9 ?_ | refine κ4 ?_ | refine κ7 ?_ | refine κ8 ?_ | refine χ3 ?_ | refine χ4 ?_ | refine κ5 ?_ | refine κ6 ?_ | refine χ5 ?_ | refine χ6 ?_ | refine χ7 ?_ | refine ω8 ?_
      refine appR (a := w) ((hx23.trans hx4).trans hx5) ER ((ho3.ext hx4).ext hx5) hk5 (hr4.ext hx5) (by omega) ?_
      intro v6 w6 ho6 hx6 _
      repeat first | refine ω1 ?_ | refine ω2 ?_ | refine ω3 ?_ | refine ω4 ?_ | refine ω5 ?_ | refine χ1 ?_ | refine κ1 ?_ | refine κ2 ?_ | refine χ2 ?_ | refine κ3 ?_ | refine ω6 ?_ | refine ω7 ?_ | refine ω9 ?_ | refine κ4 ?_ | refine κ7 ?_ | refine κ8 ?_ | refine χ3 ?_ | refine χ4 ?_ | refine κ5 ?_ | refine κ6 ?_ | refine χ5 ?_ | refine χ6 ?_ | refine χ7 ?_ | refine ω8 ?_
      refine qround2 (k + 1) v6 (by repeat' (first | exact Sub.nil | refine Sub.cons rfl ?_)) ⟨by omega, hx6, ?_, ?_⟩ (by omega)
      · rw [step, hls, ls_get, ← hls]; exact ho6
      · rw [step]; simp; omega
    · rw [if_pos (by simpa using h)] at step
      repeat first | refine ω1 ?_ | refine ω2 ?_ | refine ω3 ?_ | refine ω4 ?_ | refine ω5 ?_ | refine χ1 ?_ | refine κ1 ?_ | refine κ2 ?_ | refine χ2 ?_ | refine κ3 ?_ | refine ω6 ?_ | refine ω7 ?_ | refine ω9 ?_ | refine κ4 ?_ | refine κ7 ?_ | refine κ8 ?_ | refine χ3 ?_ | refine χ4 ?_ | refine κ5 ?_ | refine κ6 ?_ | refine χ5 ?_ | refine χ6 ?_ | refine χ7 ?_ | refine ω8 ?_
      refine qround2 (k + 1) v3 (by repeat' (first | exact Sub.nil | refine Sub.cons rfl ?_)) ⟨by omega, hx23, ?_, ?_⟩ (by omega)
      · rw [step]; exact ho3
      · rw [step]; omega
  · have hkn : k = n := by have := of_decide_eq_false h; omega
    subst hkn
    repeat first | refine ω1 ?_ | refine ω2 ?_ | refine ω3 ?_ | refine ω4 ?_ | refine ω5 ?_ | refine χ1 ?_ | refine κ1 ?_ | refine κ2 ?_ | refine χ2 ?_ | refine κ3 ?_ | refine ω6 ?_ | refine ω7 ?_ | refine ω9 ?_ | refine κ4 ?_ | refine κ7 ?_ | refine κ8 ?_ | refine χ3 ?_ | refine χ4 ?_ | refine κ5 ?_ | refine κ6 ?_ | refine χ5 ?_ | refine χ6 ?_ | refine χ7 ?_ | refine ω8 ?_
    rw [List.take_of_length_le (by omega)] at ho2 hl2
    exact fin1 ⟨ho2, hx2⟩
/-- a test of numbers below n, as a function value -/
def TestF (w : World) (fv : Value) (n : Nat) (pr : Nat → Bool) : Prop := ∃ fid first cap, fv = .func (.func fid) first cap ∧
  ∀ w', Ext w w' → ∀ i : Nat, i < n → Ret Try.prog fid (first.toList ++ [.int .i64 (i : Int)] ++ cap.toList) w' fun r w'' => r = .bool (pr i) ∧ Ext w' w''
set_option maxRecDepth 100000 in
theorem sortSearch_any {w : World} {fv : Value} {n : Nat} {pr : Nat → Bool} (hT : TestF w fv n pr) (hn : n ≤ 1100000) :
    Ret Try.prog 82 [.int .i64 (n : Int), fv] w fun v w' => (∃ k : Nat, v = .int .i64 (k : Int) ∧ k ≤ n ∧ (k = 0 ∨ pr (k - 1) = false) ∧ (k = n ∨ pr k = true)) ∧ Ext w w' := by
  obtain ⟨fid, first, cap, rfl, hT⟩ := hT
  refine enterR Try.func82 Try.ntmps82 rfl (by kernel_rfl) rfl ?_
  repeat first | refine ω1 ?_ | refine ω2 ?_ | refine ω3 ?_ | refine ω4 ?_ | refine ω5 ?_ | refine χ1 ?_ | refine κ1 ?_ | refine κ2 ?_ | refine χ2 ?_ | refine κ3 ?_ | refine ω6 ?_ | refine ω7 ?_ | refine ω9 ?_ | refine κ4 ?_ | refine κ7 ?_ | refine κ8 ?_ | refine χ3 ?_ | refine χ4 ?_ | refine κ5 ?_ | refine κ6 ?_ | refine χ5 ?_ | refine χ6 ?_ | refine χ7 ?_ | refine ω8 ?_
  refine wloop2 (fun (i j : Nat) => [(1, .func (.func fid) first cap), (5, .int .i64 (i : Int)), (6, .int .i64 (j : Int))])
    (fun i j w' => i ≤ j ∧ j ≤ n ∧ (i = 0 ∨ pr (i - 1) = false) ∧ (j = n ∨ pr j = true) ∧ Ext w w') (fun i j => j - i) 0 n (by repeat' (first | exact Sub.nil | refine Sub.cons rfl ?_)) ⟨Nat.zero_le _, Nat.le_refl _, .inl rfl, .inl rfl, Ext.refl w⟩ ?_
  rintro i j w1 ⟨h1, h2, h3, h4, hx1⟩
  repeat first | refine ω1 ?_ | refine ω2 ?_ | refine ω3 ?_ | refine ω4 ?_ | refine ω5 ?_ | refine χ1 ?_ | refine κ1 ?_ | refine κ2 ?_ | refine χ2 ?_ | refine κ3 ?_ | refine ω6 ?_ | refine ω7 ?_ | refine ω9 ?_ | refine κ4 ?_ | refine κ7 ?_ | refine κ8 ?_ | refine χ3 ?_ | refine χ4 ?_ | refine κ5 ?_ | refine κ6 ?_ | refine χ5 ?_ | refine χ6 ?_ | refine χ7 ?_ | refine ω8 ?_
  refine ci (fun h => ?_) (fun h => ?_)
  · have hij : i < j := by have := of_decide_eq_true h; omega
    repeat first | refine ω1 ?_ | refine ω2 ?_ | refine ω3 ?_ | refine ω4 ?_ | refine ω5 ?_ | refine χ1 ?_ | refine κ1 ?_ | refine κ2 ?_ | refine χ2 ?_ | refine κ3 ?_ | refine ω6 ?_ | refine ω7 ?_ | refine ω9 ?_ | refine κ4 ?_ | refine κ7 ?_ | refine κ8 ?_ | refine χ3 ?_ | refine χ4 ?_ | refine κ5 ?_ | refine κ6 ?_ | refine χ5 ?_ | refine χ6 ?_ | refine χ7 ?_ | refine ω8 ?_
    refine wshr rfl rfl (by decide) rfl ?_
    repeat first | refine ω1 ?_ | refine ω2 ?_ | refine ω3 ?_ | refine ω4 ?_ | refine ω5 ?_ | refine χ1 ?_ | refine κ1 ?_ | refine κ2 ?_ | refine χ2 ?_ | refine κ3 ?_ | refine ω6 ?_ | refine ω7 ?_ | refine ω9 ?_ | refine κ4 ?_ | refine κ7 ?_ | refine κ8 ?_ | refine χ3 ?_ | refine χ4 ?_ | refine κ5 ?_ | refine κ6 ?_ | refine χ5 ?_ | refine χ6 ?_ | refine χ7 ?_ | refine ω8 ?_
    rw [half i j (by omega)]
    generalize hc : (i + j) / 2 = k
    refine clv (hT _ hx1 k (by omega)) ?_
    rintro r w2 ⟨rfl, hx2⟩
    repeat first | refine ω1 ?_ | refine ω2 ?_ | refine ω3 ?_ | refine ω4 ?_ | refine ω5 ?_ | refine χ1 ?_ | refine κ1 ?_ | refine κ2 ?_ | refine χ2 ?_ | refine κ3 ?_ | refine ω6 ?_ | refine ω7 ?_ | refine ω9 ?_ | refine κ4 ?_ | refine κ7 ?_ | refine κ8 ?_ | refine χ3 ?_ | refine χ4 ?_ | refine κ5 ?_ | refine κ6 ?_ | refine χ5 ?_ | refine χ6 ?_ | refine χ7 ?_ | refine ω8 ?_
    refine ci (fun h => ?_) (fun h => ?_)
    · have hp : pr k = false := by simpa using h
      repeat first | refine ω1 ?_ | refine ω2 ?_ | refine ω3 ?_ | refine ω4 ?_ | refine ω5 ?_ | refine χ1 ?_ | refine κ1 ?_ | refine κ2 ?_ | refine χ2 ?_ | refine κ3 ?_ | refine ω6 ?_ | refine ω7 ?_ | refine ω9 ?_ | refine κ4 ?_ | refine κ7 ?_ | refine κ8 ?_ | refine χ3 ?_ | refine χ4 ?_ | refine κ5 ?_ | refine κ6 ?_ | refine χ5 ?_ | refine χ6 ?_ | refine χ7 ?_ | refine ω8 ?_
      exact qround2 (k + 1) j (by repeat' (first | exact Sub.nil | refine Sub.cons (by first | rfl | (refine congrArg (fun z => some (Value.int .i64 z)) ?_; omega)) ?_)) ⟨by omega, h2, .inr (by rw [Nat.add_sub_cancel]; exact hp), h4, hx1.trans hx2⟩ (by omega)
    · have hp : pr k = true := by simpa using h
      repeat first | refine ω1 ?_ | refine ω2 ?_ | refine ω3 ?_ | refine ω4 ?_ | refine ω5 ?_ | refine χ1 ?_ | refine κ1 ?_ | refine κ2 ?_ | refine χ2 ?_ | refine κ3 ?_ | refine ω6 ?_ | refine ω7 ?_ | refine ω9 ?_ | refine κ4 ?_ | refine κ7 ?_ | refine κ8 ?_ | refine χ3 ?_ | refine χ4 ?_ | refine κ5 ?_ | refine κ6 ?_ | refine χ5 ?_ | refine χ6 ?_ | refine χ7 ?_ | refine ω8 ?_
      exact qround2 i k (by repeat' (first | exact Sub.nil | refine Sub.cons (by first | rfl | (refine congrArg (fun z => some (Value.int .i64 z)) ?_; omega)) ?_)) ⟨by omega, by omega, h3, .inr hp, hx1.trans hx2⟩ (by omega)
  · have hij : i = j := by have := of_decide_eq_false h; omega
    subst hij
    repeat first | refine ω1 ?_ | refine ω2 ?_ | refine ω3 ?_ | refine ω4 ?_ | refine ω5 ?_ | refine χ1 ?_ | refine κ1 ?_ | refine κ2 ?_ | refine χ2 ?_ | refine κ3 ?_ | refine ω6 ?_ | refine ω7 ?_ | refine ω9 ?_ | refine κ4 ?_ | refine κ7 ?_ | refine κ8 ?_ | refine χ3 ?_ | refine χ4 ?_ | refine κ5 ?_ | refine κ6 ?_ | refine χ5 ?_ | refine χ6 ?_ | refine χ7 ?_ | refine ω8 ?_
    exact fin1 ⟨⟨i, rfl, h2, h3, h4⟩, hx1⟩
theorem RowsV.parts {w : World} {v : Value} {ls : List Row} (h : RowsV w v ls) : ∃ A c, v = .slice A ls.length c ∧ ls.length ≤ c ∧ ls.length ≤ 1100000 ∧ ∃ cs : List Value, Rd w 1 A ls.length cs ∧ ∀ i, i < ls.length → ∃ u, cs[i]? = some u ∧ RowV w u (ls.getD i []) := by
  obtain ⟨ps, A, c, rfl, rfl, h3, h4, h5, h6⟩ := h
  refine ⟨A, c, by simp, by simpa using h3, by simpa using h4, ps.map (·.1), by simpa using h5, fun i hi => ?_⟩
  have hi' : i < ps.length := by simpa using hi
  exact ⟨_, ps_get hi', by rw [ls_get]; exact h6 _ (getD_mem' z0 ps hi')⟩
set_option maxRecDepth 100000 in
theorem searchTest_any {vs vr vd : Value} {ls : List Row} {r : Row} {ds : List Bool} {w : World} {b1 b2 b3 : Nat} (hs : RowsV w vs ls) (hr : RowV w vr r) (hd : BoolsV w vd ds) (hk1 : Blk w b1 22 [vs]) (hk2 : Blk w b2 25 [vr]) (hk3 : Blk w b3 23 [vd]) {i : Nat} (hi : i < ls.length) :
    Ret Try.prog 83 [.int .i64 (i : Int), .pointer (some ⟨b1, 0, none⟩), .pointer (some ⟨b2, 0, none⟩), .pointer (some ⟨b3, 0, none⟩)] w fun v w' => v = .bool (decide (0 ≤ cmpR (ls.getD i []) r ds)) ∧ Ext w w' := by
  have hx0 : Ext w w.drew := (Ext.refl w).drew
  obtain ⟨A, c, rfl, hc, hm, cs, hrd, hcs⟩ := (hs.ext hx0).parts
  obtain ⟨u, hu, hru⟩ := hcs i hi
  refine enterR Try.func83 Try.ntmps83 rfl (by kernel_rfl) rfl ?_
  repeat first | refine ω1 ?_ | refine ω2 ?_ | refine ω3 ?_ | refine ω4 ?_ | refine ω5 ?_ | refine χ1 ?_ | refine κ1 ?_ | refine κ2 ?_ | refine χ2 ?_ | refine κ3 ?_ | refine ω6 ?_ | refine ω7 ?_ | refine ω9 ?_ | refine κ4 ?_ | refine κ7 ?_ | refine κ8 ?_ | refine χ3 ?_ | refine χ4 ?_ | refine κ5 ?_ | refine κ6 ?_ | refine χ5 ?_ | refine χ6 ?_ | refine χ7 ?_ | refine ω8 ?_
  refine dr [(0, 0), (0, 1), (0, 2), (0, 3), (0, 4), (0, 5), (1, 6), (0, 7), (0, 8)] (by kernel_rfl) ?_
  refine dld ((hk1.ext hx0).at (i := 0) rfl) ?_
  repeat first | refine δ1 ?_ | refine δ2 ?_ | refine δ4 ?_ | refine δ5 ?_ | refine δ6 ?_ | refine δ7 ?_ | refine δ9 ?_ | refine δ8 ?_ | refine χ1 ?_ | refine χ2 ?_ | refine χ3 ?_ | refine χ4 ?_ | refine χ5 ?_ | refine χ6 ?_ | refine χ7 ?_
  refine dix i hrd hi ?_
  repeat first | refine δ1 ?_ | refine δ2 ?_ | refine δ4 ?_ | refine δ5 ?_ | refine δ6 ?_ | refine δ7 ?_ | refine δ9 ?_ | refine δ8 ?_ | refine χ1 ?_ | refine χ2 ?_ | refine χ3 ?_ | refine χ4 ?_ | refine χ5 ?_ | refine χ6 ?_ | refine χ7 ?_
  refine dld (hrd.cell hu) ?_
  repeat first | refine δ1 ?_ | refine δ2 ?_ | refine δ4 ?_ | refine δ5 ?_ | refine δ6 ?_ | refine δ7 ?_ | refine δ9 ?_ | refine δ8 ?_ | refine χ1 ?_ | refine χ2 ?_ | refine χ3 ?_ | refine χ4 ?_ | refine χ5 ?_ | refine χ6 ?_ | refine χ7 ?_
  refine dld ((hk2.ext hx0).at (i := 0) rfl) ?_
  repeat first | refine δ1 ?_ | refine δ2 ?_ | refine δ4 ?_ | refine δ5 ?_ | refine δ6 ?_ | refine δ7 ?_ | refine δ9 ?_ | refine δ8 ?_ | refine χ1 ?_ | refine χ2 ?_ | refine χ3 ?_ | refine χ4 ?_ | refine χ5 ?_ | refine χ6 ?_ | refine χ7 ?_
  refine dld ((hk3.ext hx0).at (i := 0) rfl) ?_
  repeat first | refine δ1 ?_ | refine δ2 ?_ | refine δ4 ?_ | refine δ5 ?_ | refine δ6 ?_ | refine δ7 ?_ | refine δ9 ?_ | refine δ8 ?_ | refine χ1 ?_ | refine χ2 ?_ | refine χ3 ?_ | refine χ4 ?_ | refine χ5 ?_ | refine χ6 ?_ | refine χ7 ?_
  refine dcl (compareBy_any hru (hr.ext hx0) (hd.ext hx0)) ?_
  rintro x w1 ⟨rfl, hx1⟩
  refine ⟨hx1, ?_⟩
  repeat first | refine δ1 ?_ | refine δ2 ?_ | refine δ4 ?_ | refine δ5 ?_ | refine δ6 ?_ | refine δ7 ?_ | refine δ9 ?_ | refine δ8 ?_ | refine χ1 ?_ | refine χ2 ?_ | refine χ3 ?_ | refine χ4 ?_ | refine χ5 ?_ | refine χ6 ?_ | refine χ7 ?_
  repeat first | refine ω1 ?_ | refine ω2 ?_ | refine ω3 ?_ | refine ω4 ?_ | refine ω5 ?_ | refine χ1 ?_ | refine κ1 ?_ | refine κ2 ?_ | refine χ2 ?_ | refine κ3 ?_ | refine ω6 ?_ | refine ω7 ?_ | refine ω9 ?_ | refine κ4 ?_ | refine κ7 ?_ | refine κ8 ?_ | refine χ3 ?_ | refine χ4 ?_ | refine κ5 ?_ | refine κ6 ?_ | refine χ5 ?_ | refine χ6 ?_ | refine χ7 ?_ | refine ω8 ?_
  exact fin1 ⟨rfl, hx0.trans hx1⟩
set_option maxRecDepth 100000 in
theorem rowSearch_any {vs vr vd : Value} {ls : List Row} {r : Row} {ds : List Bool} {w : World} (hs : RowsV w vs ls) (hr : RowV w vr r) (hd : BoolsV w vd ds) (hlt : Lt ds ls) :
    Ret Try.prog 54 [vs, vr, vd] w fun v w' => v = .tuple #[.int .i64 (cnt ds ls r : Int), .bool (decide (r ∈ ls))] ∧ Ext w w' := by
  refine enterR Try.func54 Try.ntmps54 rfl (by kernel_rfl) rfl ?_
  obtain ⟨A, c, rfl, hc, hm, cs, hrd, hcs⟩ := hs.parts
  obtain ⟨B, bc, rfl, _⟩ := id hr
  obtain ⟨D, dc, rfl, _⟩ := id hd
  repeat first | refine ω1 ?_ | refine ω2 ?_ | refine ω3 ?_ | refine ω4 ?_ | refine ω5 ?_ | refine χ1 ?_ | refine κ1 ?_ | refine κ2 ?_ | refine χ2 ?_ | refine κ3 ?_ | refine ω6 ?_ | refine ω7 ?_ | refine ω9 ?_ | refine κ4 ?_ | refine κ7 ?_ | refine κ8 ?_ | refine χ3 ?_ | refine χ4 ?_ | refine κ5 ?_ | refine κ6 ?_ | refine χ5 ?_ | refine χ6 ?_ | refine χ7 ?_ | refine ω8 ?_
  refine bx ?_
  intro w1 b1 hx1 hb1 hk1
  repeat first | refine ω1 ?_ | refine ω2 ?_ | refine ω3 ?_ | refine ω4 ?_ | refine ω5 ?_ | refine χ1 ?_ | refine κ1 ?_ | refine κ2 ?_ | refine χ2 ?_ | refine κ3 ?_ | refine ω6 ?_ | refine ω7 ?_ | refine ω9 ?_ | refine κ4 ?_ | refine κ7 ?_ | refine κ8 ?_ | refine χ3 ?_ | refine χ4 ?_ | refine κ5 ?_ | refine κ6 ?_ | refine χ5 ?_ | refine χ6 ?_ | refine χ7 ?_ | refine ω8 ?_
  refine bx ?_
  intro w2 b2 hx2 hb2 hk2
  repeat first | refine ω1 ?_ | refine ω2 ?_ | refine ω3 ?_ | refine ω4 ?_ | refine ω5 ?_ | refine χ1 ?_ | refine κ1 ?_ | refine κ2 ?_ | refine χ2 ?_ | refine κ3 ?_ | refine ω6 ?_ | refine ω7 ?_ | refine ω9 ?_ | refine κ4 ?_ | refine κ7 ?_ | refine κ8 ?_ | refine χ3 ?_ | refine χ4 ?_ | refine κ5 ?_ | refine κ6 ?_ | refine χ5 ?_ | refine χ6 ?_ | refine χ7 ?_ | refine ω8 ?_
  refine bx ?_
  intro w3 b3 hx3 hb3 hk3
  have hk1 := (hk1.ext hx2).ext hx3
  have hk2 := hk2.ext hx3
  have hx := (hx1.trans hx2).trans hx3
  repeat first | refine ω1 ?_ | refine ω2 ?_ | refine ω3 ?_ | refine ω4 ?_ | refine ω5 ?_ | refine χ1 ?_ | refine κ1 ?_ | refine κ2 ?_ | refine χ2 ?_ | refine κ3 ?_ | refine ω6 ?_ | refine ω7 ?_ | refine ω9 ?_ | refine κ4 ?_ | refine κ7 ?_ | refine κ8 ?_ | refine χ3 ?_ | refine χ4 ?_ | refine κ5 ?_ | refine κ6 ?_ | refine χ5 ?_ | refine χ6 ?_ | refine χ7 ?_ | refine ω8 ?_
  refine ld (hk1.at (i := 0) rfl) ?_
  repeat first | refine ω1 ?_ | refine ω2 ?_ | refine ω3 ?_ | refine ω4 ?_ | refine ω5 ?_ | refine χ1 ?_ | refine κ1 ?_ | refine κ2 ?_ | refine χ2 ?_ | refine κ3 ?_ | refine ω6 ?_ | refine ω7 ?_ | refine ω9 ?_ | refine κ4 ?_ | refine κ7 ?_ | refine κ8 ?_ | refine χ3 ?_ | refine χ4 ?_ | refine κ5 ?_ | refine κ6 ?_ | refine χ5 ?_ | refine χ6 ?_ | refine χ7 ?_ | refine ω8 ?_
  refine cl (sortSearch_any (n := ls.length) (pr := fun i => decide (0 ≤ cmpR (ls.getD i []) r ds)) ⟨_, _, _, rfl, fun w' hx' i hi => searchTest_any (hs.ext (hx.trans hx')) (hr.ext (hx.trans hx')) (hd.ext (hx.trans hx')) (hk1.ext hx') (hk2.ext hx') (hk3.ext hx') hi⟩ hm) ?_
  rintro v w4 ⟨⟨k, rfl, hkn, hlo, hhi⟩, hx4⟩
  obtain ⟨hcnt, hmem⟩ := rank_at hlt hkn (r := r) (hlo.imp id fun h => by have := of_decide_eq_false h; omega) (hhi.imp id fun h => by have := of_decide_eq_true h; omega)
  have hk1 := hk1.ext hx4
  have hk2 := hk2.ext hx4
  repeat first | refine ω1 ?_ | refine ω2 ?_ | refine ω3 ?_ | refine ω4 ?_ | refine ω5 ?_ | refine χ1 ?_ | refine κ1 ?_ | refine κ2 ?_ | refine χ2 ?_ | refine κ3 ?_ | refine ω6 ?_ | refine ω7 ?_ | refine ω9 ?_ | refine κ4 ?_ | refine κ7 ?_ | refine κ8 ?_ | refine χ3 ?_ | refine χ4 ?_ | refine κ5 ?_ | refine κ6 ?_ | refine χ5 ?_ | refine χ6 ?_ | refine χ7 ?_ | refine ω8 ?_
  refine dr [(0, 0), (0, 1), (0, 2), (0, 3), (0, 4), (0, 5), (0, 6), (0, 7), (0, 8), (0, 9), (0, 10), (1, 11), (0, 12), (0, 13), (0, 14)] (by kernel_rfl) ?_
  have hxd : Ext w4 w4.drew := (Ext.refl w4).drew
  have hxa := (hx.trans hx4).trans hxd
  repeat first | refine δ1 ?_ | refine δ2 ?_ | refine δ4 ?_ | refine δ5 ?_ | refine δ6 ?_ | refine δ7 ?_ | refine δ9 ?_ | refine δ8 ?_ | refine χ1 ?_ | refine χ2 ?_ | refine χ3 ?_ | refine χ4 ?_ | refine χ5 ?_ | refine χ6 ?_ | refine χ7 ?_
  refine dld ((hk1.ext hxd).at (i := 0) rfl) ?_
  repeat first | refine δ1 ?_ | refine δ2 ?_ | refine δ4 ?_ | refine δ5 ?_ | refine δ6 ?_ | refine δ7 ?_ | refine δ9 ?_ | refine δ8 ?_ | refine χ1 ?_ | refine χ2 ?_ | refine χ3 ?_ | refine χ4 ?_ | refine χ5 ?_ | refine χ6 ?_ | refine χ7 ?_
  refine dki 18 (fun h => ?_) (fun h => ?_)
  · have hkl : k < ls.length := by have := of_decide_eq_true h; omega
    obtain ⟨u, hu, hru⟩ := hcs k hkl
    repeat first | refine δ1 ?_ | refine δ2 ?_ | refine δ4 ?_ | refine δ5 ?_ | refine δ6 ?_ | refine δ7 ?_ | refine δ9 ?_ | refine δ8 ?_ | refine χ1 ?_ | refine χ2 ?_ | refine χ3 ?_ | refine χ4 ?_ | refine χ5 ?_ | refine χ6 ?_ | refine χ7 ?_
    refine dld ((hk1.ext hxd).at (i := 0) rfl) ?_
    repeat first | refine δ1 ?_ | refine δ2 ?_ | refine δ4 ?_ | refine δ5 ?_ | refine δ6 ?_ | refine δ7 ?_ | refine δ9 ?_ | refine δ8 ?_ | refine χ1 ?_ | refine χ2 ?_ | refine χ3 ?_ | refine χ4 ?_ | refine χ5 ?_ | refine χ6 ?_ | refine χ7 ?_
    refine dix k (hrd.ext hxa) hkl ?_
    repeat first | refine δ1 ?_ | refine δ2 ?_ | refine δ4 ?_ | refine δ5 ?_ | refine δ6 ?_ | refine δ7 ?_ | refine δ9 ?_ | refine δ8 ?_ | refine χ1 ?_ | refine χ2 ?_ | refine χ3 ?_ | refine χ4 ?_ | refine χ5 ?_ | refine χ6 ?_ | refine χ7 ?_
    refine dld ((hrd.ext hxa).cell hu) ?_
    repeat first | refine δ1 ?_ | refine δ2 ?_ | refine δ4 ?_ | refine δ5 ?_ | refine δ6 ?_ | refine δ7 ?_ | refine δ9 ?_ | refine δ8 ?_ | refine χ1 ?_ | refine χ2 ?_ | refine χ3 ?_ | refine χ4 ?_ | refine χ5 ?_ | refine χ6 ?_ | refine χ7 ?_
    refine dld ((hk2.ext hxd).at (i := 0) rfl) ?_
    repeat first | refine δ1 ?_ | refine δ2 ?_ | refine δ4 ?_ | refine δ5 ?_ | refine δ6 ?_ | refine δ7 ?_ | refine δ9 ?_ | refine δ8 ?_ | refine χ1 ?_ | refine χ2 ?_ | refine χ3 ?_ | refine χ4 ?_ | refine χ5 ?_ | refine χ6 ?_ | refine χ7 ?_
    refine dcl (rowEqual_any (hru.ext hxa) (hr.ext hxa)) ?_
    rintro x w5 ⟨rfl, hx5⟩
    refine ⟨hx5, ?_⟩
    repeat first | refine δ1 ?_ | refine δ2 ?_ | refine δ4 ?_ | refine δ5 ?_ | refine δ6 ?_ | refine δ7 ?_ | refine δ9 ?_ | refine δ8 ?_ | refine χ1 ?_ | refine χ2 ?_ | refine χ3 ?_ | refine χ4 ?_ | refine χ5 ?_ | refine χ6 ?_ | refine χ7 ?_
    repeat first | refine ω1 ?_ | refine ω2 ?_ | refine ω3 ?_ | refine ω4 ?_ | refine ω5 ?_ | refine χ1 ?_ | refine κ1 ?_ | refine κ2 ?_ | refine χ2 ?_ | refine κ3 ?_ | refine ω6 ?_ | refine ω7 ?_ | refine ω9 ?_ | refine κ4 ?_ | refine κ7 ?_ | refine κ8 ?_ | refine χ3 ?_ | refine χ4 ?_ | refine κ5 ?_ | refine κ6 ?_ | refine χ5 ?_ | refine χ6 ?_ | refine χ7 ?_ | refine ω8 ?_
    refine fin2 ⟨?_, hxa.trans hx5⟩
    have e : decide (r ∈ ls) = decide (ls.getD k [] = r) := by rw [Bool.eq_iff_iff, decide_eq_true_iff, decide_eq_true_iff, hmem]; simp [hkl]
    rw [hcnt, e]
  · have hkl : ¬ k < ls.length := by have := of_decide_eq_false h; omega
    repeat first | refine δ1 ?_ | refine δ2 ?_ | refine δ4 ?_ | refine δ5 ?_ | refine δ6 ?_ | refine δ7 ?_ | refine δ9 ?_ | refine δ8 ?_ | refine χ1 ?_ | refine χ2 ?_ | refine χ3 ?_ | refine χ4 ?_ | refine χ5 ?_ | refine χ6 ?_ | refine χ7 ?_
    repeat first | refine ω1 ?_ | refine ω2 ?_ | refine ω3 ?_ | refine ω4 ?_ | refine ω5 ?_ | refine χ1 ?_ | refine κ1 ?_ | refine κ2 ?_ | refine χ2 ?_ | refine κ3 ?_ | refine ω6 ?_ | refine ω7 ?_ | refine ω9 ?_ | refine κ4 ?_ | refine κ7 ?_ | refine κ8 ?_ | refine χ3 ?_ | refine χ4 ?_ | refine κ5 ?_ | refine κ6 ?_ | refine χ5 ?_ | refine χ6 ?_ | refine χ7 ?_ | refine ω8 ?_
    refine fin2 ⟨?_, hxa⟩
    have e : decide (r ∈ ls) = false := by rw [decide_eq_false_iff_not, hmem]; exact fun h => hkl h.1
    rw [hcnt, e]
/-! ### the array of rows -/
/-- a value of type array.Rows -/
def RowsA (w : World) (v : Value) (ds : List Bool) (ls : List Row) : Prop := ∃ v1 v2, v = .agg #[v1, v2] ∧ RowsV w v1 ls ∧ BoolsV w v2 ds
theorem RowsA.ext {w w' : World} {v : Value} {ds : List Bool} {ls : List Row} (h : RowsA w v ds ls) (hx : Ext w w') : RowsA w' v ds ls := by
  obtain ⟨v1, v2, h1, h2, h3⟩ := h; exact ⟨v1, v2, h1, h2.ext hx, h3.ext hx⟩
theorem RowsV.slc {w : World} {v : Value} {ls : List Row} (h : RowsV w v ls) : ∃ A n c, v = .slice A n c := by obtain ⟨_, A, c, _, rfl, _⟩ := h; exact ⟨A, _, c, rfl⟩
theorem BoolsV.slc {w : World} {v : Value} {ls : List Bool} (h : BoolsV w v ls) : ∃ A n c, v = .slice A n c := by obtain ⟨A, c, rfl, _⟩ := h; exact ⟨A, _, c, rfl⟩
theorem bldRows (A B : Option Addr) (n c m e : Nat) (w : World) : (Instr.build 29 #[(0, .slice A n c), (1, .slice B m e)]).run Try.prog w = .ok (.agg #[.slice A n c, .slice B m e]) w := by kernel_rfl
theorem zRows : zeroOf Try.prog 29 = some (.agg #[.slice none 0 0, .slice none 0 0]) := by kernel_rfl
theorem BoolsV.one (ds : List Bool) : ∀ u ∈ ds.map Value.bool, u.oneCell' = true := by
  intro u hu; obtain ⟨b, _, rfl⟩ := List.mem_map.1 hu; rfl
set_option maxRecDepth 100000 in
theorem ofRows_any {v vd : Value} {ls : List Row} {ds : List Bool} {w : World} (h : RowsV w v ls) (hd : BoolsV w vd ds) :
    Ret Try.prog 14 [v, vd] w fun v' w' => (∃ m, RowsA w' v' ds m ∧ IsSet ds ls m ∧ m.length ≤ ls.length) ∧ Ext w w' := by
  refine enterR Try.func14 Try.ntmps14 rfl (by kernel_rfl) rfl ?_
  repeat first | refine ω1 ?_ | refine ω2 ?_ | refine ω3 ?_ | refine ω4 ?_ | refine ω5 ?_ | refine χ1 ?_ | refine κ1 ?_ | refine κ2 ?_ | refine χ2 ?_ | refine κ3 ?_ | refine ω6 ?_ | refine ω7 ?_ | refine ω9 ?_ | refine κ4 ?_ | refine κ7 ?_ | refine κ8 ?_ | refine χ3 ?_ | refine χ4 ?_ | refine κ5 ?_ | refine κ6 ?_ | refine χ5 ?_ | refine χ6 ?_ | refine χ7 ?_ | refine ω8 ?_
  refine alc (cs := [.slice none 0 0, .slice none 0 0]) zRows ?_
  intro w1 b hx1 hb1 hk1
  repeat first | refine ω1 ?_ | refine ω2 ?_ | refine ω3 ?_ | refine ω4 ?_ | refine ω5 ?_ | refine χ1 ?_ | refine κ1 ?_ | refine κ2 ?_ | refine χ2 ?_ | refine κ3 ?_ | refine ω6 ?_ | refine ω7 ?_ | refine ω9 ?_ | refine κ4 ?_ | refine κ7 ?_ | refine κ8 ?_ | refine χ3 ?_ | refine χ4 ?_ | refine κ5 ?_ | refine κ6 ?_ | refine χ5 ?_ | refine χ6 ?_ | refine χ7 ?_ | refine ω8 ?_
  refine cl (rowSort_any (h.ext hx1) (hd.ext hx1)) ?_
  rintro v2 w2 ⟨⟨ls', hr2, hp2, hs2⟩, hx2⟩
  repeat first | refine ω1 ?_ | refine ω2 ?_ | refine ω3 ?_ | refine ω4 ?_ | refine ω5 ?_ | refine χ1 ?_ | refine κ1 ?_ | refine κ2 ?_ | refine χ2 ?_ | refine κ3 ?_ | refine ω6 ?_ | refine ω7 ?_ | refine ω9 ?_ | refine κ4 ?_ | refine κ7 ?_ | refine κ8 ?_ | refine χ3 ?_ | refine χ4 ?_ | refine κ5 ?_ | refine κ6 ?_ | refine χ5 ?_ | refine χ6 ?_ | refine χ7 ?_ | refine ω8 ?_
  refine cl (dedup_any hr2) ?_
  rintro v3 w3 ⟨hr3, hx3⟩
  repeat first | refine ω1 ?_ | refine ω2 ?_ | refine ω3 ?_ | refine ω4 ?_ | refine ω5 ?_ | refine χ1 ?_ | refine κ1 ?_ | refine κ2 ?_ | refine χ2 ?_ | refine κ3 ?_ | refine ω6 ?_ | refine ω7 ?_ | refine ω9 ?_ | refine κ4 ?_ | refine κ7 ?_ | refine κ8 ?_ | refine χ3 ?_ | refine χ4 ?_ | refine κ5 ?_ | refine κ6 ?_ | refine χ5 ?_ | refine χ6 ?_ | refine χ7 ?_ | refine ω8 ?_
  obtain ⟨D, dc, rfl, hdc, hdm, hdr⟩ := id hd
  have hx13 := (hx1.trans hx2).trans hx3
  refine cl (cloneBoolF (hdr.ext hx13) (BoolsV.one ds) (by omega)) ?_
  rintro v4 w4 ⟨⟨D', c', rfl, hc', hd4, hD'⟩, hx4⟩
  obtain ⟨A3, c3, rfl⟩ := hr3.form
  repeat first | refine ω1 ?_ | refine ω2 ?_ | refine ω3 ?_ | refine ω4 ?_ | refine ω5 ?_ | refine χ1 ?_ | refine κ1 ?_ | refine κ2 ?_ | refine χ2 ?_ | refine κ3 ?_ | refine ω6 ?_ | refine ω7 ?_ | refine ω9 ?_ | refine κ4 ?_ | refine κ7 ?_ | refine κ8 ?_ | refine χ3 ?_ | refine χ4 ?_ | refine κ5 ?_ | refine κ6 ?_ | refine χ5 ?_ | refine χ6 ?_ | refine χ7 ?_ | refine ω8 ?_
  refine bld (bldRows _ _ _ _ _ _ _) ?_
  repeat first | refine ω1 ?_ | refine ω2 ?_ | refine ω3 ?_ | refine ω4 ?_ | refine ω5 ?_ | refine χ1 ?_ | refine κ1 ?_ | refine κ2 ?_ | refine χ2 ?_ | refine κ3 ?_ | refine ω6 ?_ | refine ω7 ?_ | refine ω9 ?_ | refine κ4 ?_ | refine κ7 ?_ | refine κ8 ?_ | refine χ3 ?_ | refine χ4 ?_ | refine κ5 ?_ | refine κ6 ?_ | refine χ5 ?_ | refine χ6 ?_ | refine χ7 ?_ | refine ω8 ?_
  refine stb (((hk1.ext hx2).ext hx3).ext hx4) (cs' := [.slice A3 (ddF ls').length c3, .slice D' ds.length c']) ?_ (fun u hu => by simp at hu; rcases hu with rfl | rfl <;> rfl)
  intro w5 hk5 hg5 hx5
  have hset := ddF_set hs2
  have hset' : IsSet ds ls (ddF ls') := ⟨hset.1, fun x => (hset.2 x).trans hp2.mem_iff⟩
  have hfin : Ext w w5 := hx5 w (hx13.trans hx4) hb1
  have hb2 : b < w2.heap.size := (hk1.ext hx2).lt
  have hlen : ls'.length ≤ 1100000 := by obtain ⟨_, _, _, _, h0, _⟩ := hr2.parts; exact h0
  have hr5 : OwnR w5 w2.heap.size (.slice A3 (ddF ls').length c3) (ddF ls') := (hr3.ext hx4).grown hg5 hb2
  repeat first | refine ω1 ?_ | refine ω2 ?_ | refine ω3 ?_ | refine ω4 ?_ | refine ω5 ?_ | refine χ1 ?_ | refine κ1 ?_ | refine κ2 ?_ | refine χ2 ?_ | refine κ3 ?_ | refine ω6 ?_ | refine ω7 ?_ | refine ω9 ?_ | refine κ4 ?_ | refine κ7 ?_ | refine κ8 ?_ | refine χ3 ?_ | refine χ4 ?_ | refine κ5 ?_ | refine κ6 ?_ | refine χ5 ?_ | refine χ6 ?_ | refine χ7 ?_ | refine ω8 ?_
  refine finC1 hk5 ⟨⟨ddF ls', ⟨_, _, rfl, hr5.rows (by have := ddF_len ls'; omega), ⟨D', c', rfl, hc', hdm, ?_⟩⟩, hset', ?_⟩, hfin⟩
  · refine Rd.grown hd4 hg5 (fun ad e e2 => ?_)
    have := hD' ad e
    injection e2 with e2
    have := hx3.size
    omega
  · rw [← hp2.length_eq]; exact ddF_len ls'
end Go.Proofs.Ytpahjnfolbnloaa
