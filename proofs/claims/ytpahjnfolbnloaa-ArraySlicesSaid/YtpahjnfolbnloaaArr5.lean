/- Arrays: columns permuted. -/
import Derived.Test.YtpahjnfolbnloaaArr4
set_option linter.unusedVariables false
namespace Go.Proofs.Ytpahjnfolbnloaa
open Go.RowKit Pl Go.Wk
attribute [local irreducible] WC WL QX WD WDB WP
def intC (cs : List Nat) : List Value := cs.map fun (n : Nat) => Value.int .i64 (n : Int)
theorem intC_get {cs : List Nat} {i : Nat} (h : i < cs.length) : (intC cs)[i]? = some (.int .i64 (cs.getD i 0 : Int)) := by simp [intC, List.getD, List.getElem?_eq_getElem h]
theorem intC_one (cs : List Nat) : ∀ u ∈ intC cs, u.oneCell' = true := by
  intro u hu; obtain ⟨b, _, rfl⟩ := List.mem_map.1 hu; rfl
/-- numbers in memory -/
def IntsV (w : World) (v : Value) (cs : List Nat) : Prop := ∃ A c, v = .slice A cs.length c ∧ cs.length ≤ c ∧ cs.length ≤ 1100000 ∧ Rd w 1 A cs.length (intC cs) ∧ ∀ x ∈ cs, x ≤ 9223372036854775807
theorem IntsV.ext {w w' : World} {v : Value} {cs : List Nat} (h : IntsV w v cs) (hx : Ext w w') : IntsV w' v cs := by
  obtain ⟨A, c, h1, h2, h3, h4, h5⟩ := h; exact ⟨A, c, h1, h2, h3, h4.ext hx, h5⟩
theorem IntsV.slc {w : World} {v : Value} {cs : List Nat} (h : IntsV w v cs) : ∃ A n c, v = .slice A n c := by obtain ⟨A, c, rfl, _⟩ := h; exact ⟨A, _, c, rfl⟩
/-- a test of numbers, as a function value -/
def TestI (w : World) (fv : Value) (cs : List Nat) (pr : Nat → Bool) : Prop := ∃ fid first cap, fv = .func (.func fid) first cap ∧
  ∀ w', Ext w w' → ∀ x ∈ cs, Ret Try.prog fid (first.toList ++ [.int .i64 (x : Int)] ++ cap.toList) w' fun r w'' => r = .bool (pr x) ∧ Ext w' w''
set_option maxRecDepth 100000 in
theorem indexFunc_any {w : World} {v fv : Value} {cs : List Nat} {pr : Nat → Bool} (h : IntsV w v cs) (hT : TestI w fv cs pr) :
    Ret Try.prog 91 [v, fv] w fun x w' => (∃ k : Int, x = .int .i64 k ∧ (0 ≤ k ↔ cs.any pr = true)) ∧ Ext w w' := by
  obtain ⟨A, c, rfl, hc, hl, hr, hb⟩ := h
  obtain ⟨fid, first, cap, rfl, hT⟩ := hT
  refine enterR Try.func91 Try.ntmps91 rfl (by kernel_rfl) rfl ?_
  repeat first | refine ω1 ?_ | refine ω2 ?_ | refine ω3 ?_ | refine ω4 ?_ | refine ω5 ?_ | refine χ1 ?_ | refine κ1 ?_ | refine κ2 ?_ | refine χ2 ?_ | refine κ3 ?_ | refine ω6 ?_ | refine ω7 ?_ | refine ω9 ?_ | refine κ4 ?_ | refine κ7 ?_ | refine κ8 ?_ | refine χ3 ?_ | refine χ4 ?_ | refine κ5 ?_ | refine κ6 ?_ | refine χ5 ?_ | refine χ6 ?_ | refine χ7 ?_ | refine ω8 ?_
  refine wloop1 (fun (k : Nat) => [(0, .slice A cs.length c), (1, .func (.func fid) first cap), (7, .int .i64 (cs.length : Int)), (8, .int .i64 (k : Int))])
    (fun k w' => k ≤ cs.length ∧ (∀ j, j < k → pr (cs.getD j 0) = false) ∧ Ext w w') (fun k => cs.length - k) 0 (by repeat' (first | exact Sub.nil | refine Sub.cons rfl ?_)) ⟨Nat.zero_le _, fun j hj => by omega, Ext.refl w⟩ ?_
  rintro k w1 ⟨hk, hp, hx1⟩
  repeat first | refine ω1 ?_ | refine ω2 ?_ | refine ω3 ?_ | refine ω4 ?_ | refine ω5 ?_ | refine χ1 ?_ | refine κ1 ?_ | refine κ2 ?_ | refine χ2 ?_ | refine κ3 ?_ | refine ω6 ?_ | refine ω7 ?_ | refine ω9 ?_ | refine κ4 ?_ | refine κ7 ?_ | refine κ8 ?_ | refine χ3 ?_ | refine χ4 ?_ | refine κ5 ?_ | refine κ6 ?_ | refine χ5 ?_ | refine χ6 ?_ | refine χ7 ?_ | refine ω8 ?_
  refine ci (fun h => ?_) (fun h => ?_)
  · have hlt : k < cs.length := by have := of_decide_eq_true h; omega
    repeat first | refine ω1 ?_ | refine ω2 ?_ | refine ω3 ?_ | refine ω4 ?_ | refine ω5 ?_ | refine χ1 ?_ | refine κ1 ?_ | refine κ2 ?_ | refine χ2 ?_ | refine κ3 ?_ | refine ω6 ?_ | refine ω7 ?_ | refine ω9 ?_ | refine κ4 ?_ | refine κ7 ?_ | refine κ8 ?_ | refine χ3 ?_ | refine χ4 ?_ | refine κ5 ?_ | refine κ6 ?_ | refine χ5 ?_ | refine χ6 ?_ | refine χ7 ?_ | refine ω8 ?_
    refine ix k (hr.ext hx1) hlt ?_
    repeat first | refine ω1 ?_ | refine ω2 ?_ | refine ω3 ?_ | refine ω4 ?_ | refine ω5 ?_ | refine χ1 ?_ | refine κ1 ?_ | refine κ2 ?_ | refine χ2 ?_ | refine κ3 ?_ | refine ω6 ?_ | refine ω7 ?_ | refine ω9 ?_ | refine κ4 ?_ | refine κ7 ?_ | refine κ8 ?_ | refine χ3 ?_ | refine χ4 ?_ | refine κ5 ?_ | refine κ6 ?_ | refine χ5 ?_ | refine χ6 ?_ | refine χ7 ?_ | refine ω8 ?_
    refine ld ((hr.ext hx1).cell (intC_get hlt)) ?_
    repeat first | refine ω1 ?_ | refine ω2 ?_ | refine ω3 ?_ | refine ω4 ?_ | refine ω5 ?_ | refine χ1 ?_ | refine κ1 ?_ | refine κ2 ?_ | refine χ2 ?_ | refine κ3 ?_ | refine ω6 ?_ | refine ω7 ?_ | refine ω9 ?_ | refine κ4 ?_ | refine κ7 ?_ | refine κ8 ?_ | refine χ3 ?_ | refine χ4 ?_ | refine κ5 ?_ | refine κ6 ?_ | refine χ5 ?_ | refine χ6 ?_ | refine χ7 ?_ | refine ω8 ?_
    refine clv (hT _ hx1 (cs.getD k 0) (getD_mem' 0 cs hlt)) ?_
    rintro r w2 ⟨rfl, hx2⟩
    repeat first | refine ω1 ?_ | refine ω2 ?_ | refine ω3 ?_ | refine ω4 ?_ | refine ω5 ?_ | refine χ1 ?_ | refine κ1 ?_ | refine κ2 ?_ | refine χ2 ?_ | refine κ3 ?_ | refine ω6 ?_ | refine ω7 ?_ | refine ω9 ?_ | refine κ4 ?_ | refine κ7 ?_ | refine κ8 ?_ | refine χ3 ?_ | refine χ4 ?_ | refine κ5 ?_ | refine κ6 ?_ | refine χ5 ?_ | refine χ6 ?_ | refine χ7 ?_ | refine ω8 ?_
    refine ci (fun h => ?_) (fun h => ?_)
    · repeat first | refine ω1 ?_ | refine ω2 ?_ | refine ω3 ?_ | refine ω4 ?_ | refine ω5 ?_ | refine χ1 ?_ | refine κ1 ?_ | refine κ2 ?_ | refine χ2 ?_ | refine κ3 ?_ | refine ω6 ?_ | refine ω7 ?_ | refine ω9 ?_ | refine κ4 ?_ | refine κ7 ?_ | refine κ8 ?_ | refine χ3 ?_ | refine χ4 ?_ | refine κ5 ?_ | refine κ6 ?_ | refine χ5 ?_ | refine χ6 ?_ | refine χ7 ?_ | refine ω8 ?_
      refine fin1 ⟨⟨k, rfl, ?_⟩, hx1.trans hx2⟩
      refine ⟨fun _ => List.any_eq_true.2 ⟨_, getD_mem' 0 cs hlt, h⟩, fun _ => by omega⟩
    · repeat first | refine ω1 ?_ | refine ω2 ?_ | refine ω3 ?_ | refine ω4 ?_ | refine ω5 ?_ | refine χ1 ?_ | refine κ1 ?_ | refine κ2 ?_ | refine χ2 ?_ | refine κ3 ?_ | refine ω6 ?_ | refine ω7 ?_ | refine ω9 ?_ | refine κ4 ?_ | refine κ7 ?_ | refine κ8 ?_ | refine χ3 ?_ | refine χ4 ?_ | refine κ5 ?_ | refine κ6 ?_ | refine χ5 ?_ | refine χ6 ?_ | refine χ7 ?_ | refine ω8 ?_
      refine qround1 (k + 1) (by repeat' (first | exact Sub.nil | refine Sub.cons rfl ?_)) ⟨by omega, fun j hj => ?_, hx1.trans hx2⟩ (by omega)
      by_cases e : j = k
      · rw [e]; exact h
      · exact hp j (by omega)
  · have hkn : k = cs.length := by have := of_decide_eq_false h; omega
    repeat first | refine ω1 ?_ | refine ω2 ?_ | refine ω3 ?_ | refine ω4 ?_ | refine ω5 ?_ | refine χ1 ?_ | refine κ1 ?_ | refine κ2 ?_ | refine χ2 ?_ | refine κ3 ?_ | refine ω6 ?_ | refine ω7 ?_ | refine ω9 ?_ | refine κ4 ?_ | refine κ7 ?_ | refine κ8 ?_ | refine χ3 ?_ | refine χ4 ?_ | refine κ5 ?_ | refine κ6 ?_ | refine χ5 ?_ | refine χ6 ?_ | refine χ7 ?_ | refine ω8 ?_
    refine fin1 ⟨⟨-1, rfl, ?_⟩, hx1⟩
    refine ⟨fun h => by omega, fun h => ?_⟩
    obtain ⟨x, hx, hpx⟩ := List.any_eq_true.1 h
    obtain ⟨i, hi, rfl⟩ := List.getElem_of_mem hx
    have := hp i (by omega)
    rw [getD_get 0 cs hi, hpx] at this
    cases this
set_option maxRecDepth 100000 in
theorem containsFunc_any {w : World} {v fv : Value} {cs : List Nat} {pr : Nat → Bool} (h : IntsV w v cs) (hT : TestI w fv cs pr) :
    Ret Try.prog 74 [v, fv] w fun x w' => x = .bool (cs.any pr) ∧ Ext w w' := by
  refine enterR Try.func74 Try.ntmps74 rfl (by kernel_rfl) rfl ?_
  repeat first | refine ω1 ?_ | refine ω2 ?_ | refine ω3 ?_ | refine ω4 ?_ | refine ω5 ?_ | refine χ1 ?_ | refine κ1 ?_ | refine κ2 ?_ | refine χ2 ?_ | refine κ3 ?_ | refine ω6 ?_ | refine ω7 ?_ | refine ω9 ?_ | refine κ4 ?_ | refine κ7 ?_ | refine κ8 ?_ | refine χ3 ?_ | refine χ4 ?_ | refine κ5 ?_ | refine κ6 ?_ | refine χ5 ?_ | refine χ6 ?_ | refine χ7 ?_ | refine ω8 ?_
  refine cl (indexFunc_any h hT) ?_
  rintro x w1 ⟨⟨k, rfl, hk⟩, hx1⟩
  repeat first | refine ω1 ?_ | refine ω2 ?_ | refine ω3 ?_ | refine ω4 ?_ | refine ω5 ?_ | refine χ1 ?_ | refine κ1 ?_ | refine κ2 ?_ | refine χ2 ?_ | refine κ3 ?_ | refine ω6 ?_ | refine ω7 ?_ | refine ω9 ?_ | refine κ4 ?_ | refine κ7 ?_ | refine κ8 ?_ | refine χ3 ?_ | refine χ4 ?_ | refine κ5 ?_ | refine κ6 ?_ | refine χ5 ?_ | refine χ6 ?_ | refine χ7 ?_ | refine ω8 ?_
  refine fin1 ⟨?_, hx1⟩
  rw [show decide (0 ≤ k) = cs.any pr by rw [Bool.eq_iff_iff, decide_eq_true_iff, hk]]
set_option maxRecDepth 100000 in
theorem colTest_any {w : World} {v : Value} {cs : List Nat} {b x : Nat} (h : IntsV w v cs) (hk : Blk w b 73 [v]) (hxb : x ≤ 9223372036854775807) :
    Ret Try.prog 75 [.int .i64 (x : Int), .pointer (some ⟨b, 0, none⟩)] w fun r w' => r = .bool (decide (cs.length ≤ x)) ∧ Ext w w' := by
  obtain ⟨A, c, rfl, hc, hl, hr, hb⟩ := h
  refine enterR Try.func75 Try.ntmps75 rfl (by kernel_rfl) rfl ?_
  repeat first | refine ω1 ?_ | refine ω2 ?_ | refine ω3 ?_ | refine ω4 ?_ | refine ω5 ?_ | refine χ1 ?_ | refine κ1 ?_ | refine κ2 ?_ | refine χ2 ?_ | refine κ3 ?_ | refine ω6 ?_ | refine ω7 ?_ | refine ω9 ?_ | refine κ4 ?_ | refine κ7 ?_ | refine κ8 ?_ | refine χ3 ?_ | refine χ4 ?_ | refine κ5 ?_ | refine κ6 ?_ | refine χ5 ?_ | refine χ6 ?_ | refine χ7 ?_ | refine ω8 ?_
  refine kf 6 ?_ ?_
  · exact decide_eq_false (by omega)
  repeat first | refine ω1 ?_ | refine ω2 ?_ | refine ω3 ?_ | refine ω4 ?_ | refine ω5 ?_ | refine χ1 ?_ | refine κ1 ?_ | refine κ2 ?_ | refine χ2 ?_ | refine κ3 ?_ | refine ω6 ?_ | refine ω7 ?_ | refine ω9 ?_ | refine κ4 ?_ | refine κ7 ?_ | refine κ8 ?_ | refine χ3 ?_ | refine χ4 ?_ | refine κ5 ?_ | refine κ6 ?_ | refine χ5 ?_ | refine χ6 ?_ | refine χ7 ?_ | refine ω8 ?_
  refine ld (hk.at (i := 0) rfl) ?_
  repeat first | refine ω1 ?_ | refine ω2 ?_ | refine ω3 ?_ | refine ω4 ?_ | refine ω5 ?_ | refine χ1 ?_ | refine κ1 ?_ | refine κ2 ?_ | refine χ2 ?_ | refine κ3 ?_ | refine ω6 ?_ | refine ω7 ?_ | refine ω9 ?_ | refine κ4 ?_ | refine κ7 ?_ | refine κ8 ?_ | refine χ3 ?_ | refine χ4 ?_ | refine κ5 ?_ | refine κ6 ?_ | refine χ5 ?_ | refine χ6 ?_ | refine χ7 ?_ | refine ω8 ?_
  refine fin1 ⟨?_, Ext.refl w⟩
  rw [show decide ((cs.length : Int) ≤ (x : Int)) = decide (cs.length ≤ x) by rw [Bool.eq_iff_iff, decide_eq_true_iff, decide_eq_true_iff]; omega]
/-! ### the array with its columns permuted -/
def pmR (cs : List Nat) (r : Row) : Row := cs.map fun c => r.getD c V0
def unR (cs : List Nat) (r : Row) : Nat → Row
  | 0 => List.replicate r.length V0
  | k + 1 => (unR cs r k).set (cs.getD k 0) (r.getD k V0)
theorem unR_len (cs : List Nat) (r : Row) : ∀ k, (unR cs r k).length = r.length
  | 0 => by simp [unR]
  | k + 1 => by simp [unR, unR_len cs r k]
structure PerV (w : World) (x : Value) (L : List Row) (R : Row → Nat) (B : Nat) (cs : List Nat) : Prop where
  ex : ∃ v vc, x = .agg #[v, vc] ∧ ArrI w v L R B ∧ IntsV w vc cs
  ok : ∀ c ∈ cs, c < cs.length
  rows : ∀ r ∈ L, r.length = cs.length
  back : ∀ r ∈ L, unR cs (pmR cs r) cs.length = r
theorem PerV.ext {w w' : World} {x : Value} {L : List Row} {R : Row → Nat} {B : Nat} {cs : List Nat} (h : PerV w x L R B cs) (hx : Ext w w') : PerV w' x L R B cs := by
  obtain ⟨⟨v, vc, h1, h2, h3⟩, h5, h6, h7⟩ := h; exact ⟨⟨v, vc, h1, h2.ext hx, h3.ext hx⟩, h5, h6, h7⟩
set_option maxRecDepth 100000 in
theorem perLen_any {x : Value} {L : List Row} {R : Row → Nat} {B : Nat} {cs : List Nat} {w : World} (h : PerV w x L R B cs) : Ret Try.prog 145 [x] w fun x w' => NatV w' x L.length ∧ Ext w w' := by
  obtain ⟨⟨v, vc, rfl, h2, h3⟩, h5, h6, h7⟩ := h
  obtain ⟨t, y, rfl⟩ := h2.form
  obtain ⟨_, _, _, rfl⟩ := h3.slc
  have hs := h2.small
  refine enterR Try.func145 Try.ntmps145 rfl (by kernel_rfl) rfl ?_
  repeat first | refine ω1 ?_ | refine ω2 ?_ | refine ω3 ?_ | refine ω4 ?_ | refine ω5 ?_ | refine χ1 ?_ | refine κ1 ?_ | refine κ2 ?_ | refine χ2 ?_ | refine κ3 ?_ | refine ω6 ?_ | refine ω7 ?_ | refine ω9 ?_ | refine κ4 ?_ | refine κ7 ?_ | refine κ8 ?_ | refine χ3 ?_ | refine χ4 ?_ | refine κ5 ?_ | refine κ6 ?_ | refine χ5 ?_ | refine χ6 ?_ | refine χ7 ?_ | refine ω8 ?_
  refine bx ?_
  intro w1 b1 hx1 hb1 hk1
  repeat first | refine ω1 ?_ | refine ω2 ?_ | refine ω3 ?_ | refine ω4 ?_ | refine ω5 ?_ | refine χ1 ?_ | refine κ1 ?_ | refine κ2 ?_ | refine χ2 ?_ | refine κ3 ?_ | refine ω6 ?_ | refine ω7 ?_ | refine ω9 ?_ | refine κ4 ?_ | refine κ7 ?_ | refine κ8 ?_ | refine χ3 ?_ | refine χ4 ?_ | refine κ5 ?_ | refine κ6 ?_ | refine χ5 ?_ | refine χ6 ?_ | refine χ7 ?_ | refine ω8 ?_
  refine ld (hk1.at rfl) ?_
  repeat first | refine ω1 ?_ | refine ω2 ?_ | refine ω3 ?_ | refine ω4 ?_ | refine ω5 ?_ | refine χ1 ?_ | refine κ1 ?_ | refine κ2 ?_ | refine χ2 ?_ | refine κ3 ?_ | refine ω6 ?_ | refine ω7 ?_ | refine ω9 ?_ | refine κ4 ?_ | refine κ7 ?_ | refine κ8 ?_ | refine χ3 ?_ | refine χ4 ?_ | refine κ5 ?_ | refine κ6 ?_ | refine χ5 ?_ | refine χ6 ?_ | refine χ7 ?_ | refine ω8 ?_
  obtain ⟨f, rv, hm, hf⟩ := h2.len
  refine inv hm (hf w1 hx1) ?_
  rintro x w2 ⟨hn, hx2⟩
  repeat first | refine ω1 ?_ | refine ω2 ?_ | refine ω3 ?_ | refine ω4 ?_ | refine ω5 ?_ | refine χ1 ?_ | refine κ1 ?_ | refine κ2 ?_ | refine χ2 ?_ | refine κ3 ?_ | refine ω6 ?_ | refine ω7 ?_ | refine ω9 ?_ | refine κ4 ?_ | refine κ7 ?_ | refine κ8 ?_ | refine χ3 ?_ | refine χ4 ?_ | refine κ5 ?_ | refine κ6 ?_ | refine χ5 ?_ | refine χ6 ?_ | refine χ7 ?_ | refine ω8 ?_
  refine cl (natNorm_any hn (small1000 (by omega))) ?_
  rintro x w3 ⟨hn3, hx3⟩
  repeat first | refine ω1 ?_ | refine ω2 ?_ | refine ω3 ?_ | refine ω4 ?_ | refine ω5 ?_ | refine χ1 ?_ | refine κ1 ?_ | refine κ2 ?_ | refine χ2 ?_ | refine κ3 ?_ | refine ω6 ?_ | refine ω7 ?_ | refine ω9 ?_ | refine κ4 ?_ | refine κ7 ?_ | refine κ8 ?_ | refine χ3 ?_ | refine χ4 ?_ | refine κ5 ?_ | refine κ6 ?_ | refine χ5 ?_ | refine χ6 ?_ | refine χ7 ?_ | refine ω8 ?_
  exact fin1 ⟨hn3, (hx1.trans hx2).trans hx3⟩
theorem rowC_set : ∀ (q : Row) (i : Nat) (x : V), i < q.length → rowC (q.set i x) = (rowC q).take (i * 3) ++ x.cells ++ (rowC q).drop (i * 3 + 3)
  | [], i, x, h => by simp at h
  | v :: q, 0, x, _ => by
    have e : rowC (v :: q) = v.cells ++ rowC q := by simp [rowC]
    have e2 : rowC (x :: q) = x.cells ++ rowC q := by simp [rowC]
    rw [List.set_cons_zero, e, e2, Nat.zero_mul, List.take_zero, List.nil_append, Nat.zero_add]
    congr 1
  | v :: q, i + 1, x, h => by
    have ih := rowC_set q i x (by simpa using h)
    have e : rowC (v :: q) = v.cells ++ rowC q := by simp [rowC]
    have e2 : rowC (v :: q.set i x) = v.cells ++ rowC (q.set i x) := by simp [rowC]
    have hl : v.cells.length = 3 := rfl
    rw [List.set_cons_succ, e, e2, ih]
    have e3 : (v.cells ++ rowC q).take ((i + 1) * 3) = v.cells ++ (rowC q).take (i * 3) := by
      rw [List.take_append, hl, List.take_of_length_le (by omega)]
      congr 2; omega
    have e4 : (v.cells ++ rowC q).drop ((i + 1) * 3 + 3) = (rowC q).drop (i * 3 + 3) := by
      rw [List.drop_append, hl, List.drop_of_length_le (by omega), List.nil_append]
      congr 1; omega
    rw [e3, e4]
    simp [List.append_assoc]
theorem rowC_zero (n : Nat) : (madeCells (Value.agg #[.int .i64 0, .int .i64 0, .string ⟨#[]⟩]).cells (n * 3)).toList = rowC (List.replicate n V0) := by
  apply List.ext_getElem?
  intro k
  have hz : (Value.agg #[.int .i64 0, .int .i64 0, .string ⟨#[]⟩]).cells = #[.int .i64 0, .int .i64 0, .string ⟨#[]⟩] := rfl
  rw [hz]
  by_cases hk : k < n * 3
  · have h1 := rowC_get (List.replicate n V0) (k / 3) (k % 3) (by simp; omega) (by omega)
    rw [show k / 3 * 3 + k % 3 = k by omega] at h1
    rw [h1]
    have e : (List.replicate n V0).getD (k / 3) V0 = V0 := by
      rw [getD_get V0 _ (by simp; omega)]; simp
    rw [e]
    have hm : k % 3 < 3 := by omega
    simp only [madeCells, Array.getElem?_toList, Array.getElem?_map, Array.getElem?_range, hk, if_true, Option.map_some]
    generalize k % 3 = r at *
    have : r = 0 ∨ r = 1 ∨ r = 2 := by omega
    rcases this with rfl | rfl | rfl <;> rfl
  · rw [List.getElem?_eq_none (by simp [madeCells]; omega), List.getElem?_eq_none (by rw [rowC_len]; simp; omega)]
end Go.Proofs.Ytpahjnfolbnloaa
