/- Contracts of Decode and of the reference's Rows and SameRows. -/
import Derived.Test.YthjnmclnafbcdaaDecV
import Derived.Test.YthjnmclnafbcdaaCmp
import Derived.Test.YthjnmclnafbcdaaRegB
set_option linter.unusedVariables false
namespace Go.Proofs.Ythjnmclnafbcdaa
open Go.RowKit Pl Go.Wk
attribute [local irreducible] WC WL QX WD WDB
theorem bsV (v : V) (w : World) : (Instr.buildSlice 36 1 #[(0, v.val)]).run Try.prog w = .ok (.slice (some ⟨w.heap.size, 0, none⟩) 1 1) (w.alloc (.cells v.cells.toArray 42)) := by kernel_rfl
abbrev OwnR (w : World) (base : Nat) (v : Value) (r : List V) : Prop := w.ownsRow base 42 3 v r.length (rowC r)
theorem OwnR.snoc {w : World} {base : Nat} {x : Value} {r : List V} {v : V} (h : w.ownsRow base 42 3 x (r.length + 1) (rowC r ++ v.cells)) : OwnR w base x (r ++ [v]) := by
  have e : rowC (r ++ [v]) = rowC r ++ v.cells := by simp [rowC]
  rw [OwnR, e, List.length_append]; exact h
section
variable {l : List UInt8} {ds : List Bool} {acc : List V} {f : Nat}
theorem decRows_end : decRows f [] ds acc = (acc, 0) := by cases f <;> rfl
theorem decRows_on (hl : 0 < l.length) (h : (dec l (ds.getD acc.length false)).2.2 = 0) : decRows (f + 1) l ds acc = decRows f (l.drop (dec l (ds.getD acc.length false)).2.1) ds (acc ++ [(dec l (ds.getD acc.length false)).1]) := by
  match l, hl with
  | c :: l, _ => rw [decRows, if_pos h]
theorem decRows_bad (hl : 0 < l.length) (h : (dec l (ds.getD acc.length false)).2.2 ≠ 0) : decRows (f + 1) l ds acc = ([], (dec l (ds.getD acc.length false)).2.2) := by
  match l, hl with
  | c :: l, _ => rw [decRows, if_neg h]
end
theorem int_zero {n : Nat} (h : ((n : Int) != 0) = false) : n = 0 := by
  have : (n : Int) = 0 := by simpa using h
  omega
structure St where
  A : Option Addr
  c : Nat
  l : List UInt8
  v : Value
  acc : List V
  f : Nat
def St.Inv (w : World) (l0 : List UInt8) (ds : List Bool) (s : St) (w' : World) : Prop :=
  Ext w w' ∧ Rd w 1 s.A s.l.length (Bc s.l) ∧ s.l.length ≤ s.c ∧ OwnR w' w.heap.size s.v s.acc ∧ s.acc.length + s.l.length ≤ l0.length ∧ s.l.length ≤ s.f ∧ decRows l0.length l0 ds [] = decRows s.f s.l ds s.acc
/-- what Decode and Rows hand back -/
def DecT (l : List UInt8) (ds : List Bool) (w : World) (t : Value) (w' : World) : Prop :=
  Ext w w' ∧ ∃ x, t = .tuple #[x, .int .i64 ((decRows l.length l ds []).2 : Int)] ∧ OwnR w' w.heap.size x (decRows l.length l ds []).1
def nxt (s : St) (q : DR) (v : Value) : St := ⟨if s.c = q.2.1 then s.A else s.A.map (·.add (q.2.1 * 1)), s.c - q.2.1, s.l.drop q.2.1, v, s.acc ++ [q.1], s.f - 1⟩
theorem nxt_inv {w w' w2 : World} {l0 : List UInt8} {ds : List Bool} {s : St} (h : s.Inv w l0 ds w') (hp : 0 < s.l.length) (h0 : (dec s.l (ds.getD s.acc.length false)).2.2 = 0) {v : Value} (hx : Ext w w2)
    (ho : OwnR w2 w.heap.size v (s.acc ++ [(dec s.l (ds.getD s.acc.length false)).1])) :
    (nxt s (dec s.l (ds.getD s.acc.length false)) v).Inv w l0 ds w2 ∧ (dec s.l (ds.getD s.acc.length false)).2.1 ≤ s.l.length ∧ (nxt s (dec s.l (ds.getD s.acc.length false)) v).l.length < s.l.length := by
  obtain ⟨h1, h2, h3, h4, h5, h6, h7⟩ := h
  generalize hq : dec s.l (ds.getD s.acc.length false) = q at *
  obtain ⟨u, n, e⟩ := q
  simp only at h0
  subst h0
  obtain ⟨k1, k2, k3, k4, k5⟩ := dec_ok hq
  have hl : (s.l.drop n).length = s.l.length - n := List.length_drop
  refine ⟨⟨hx, ?_, ?_, ho, ?_, ?_, ?_⟩, k4, ?_⟩
  · show Rd w 1 (if s.c = n then s.A else s.A.map (·.add (n * 1))) (s.l.drop n).length (Bc (s.l.drop n))
    have := h2.drop (k := n) (c := s.c) k4 h3
    rw [Nat.mul_one, Bc_drop] at this
    rw [hl, Nat.mul_one]
    exact this
  · show (s.l.drop n).length ≤ s.c - n
    omega
  · show (s.acc ++ [u]).length + (s.l.drop n).length ≤ l0.length
    rw [List.length_append, List.length_singleton]; omega
  · show (s.l.drop n).length ≤ s.f - 1
    omega
  · show decRows l0.length l0 ds [] = decRows (s.f - 1) (s.l.drop n) ds (s.acc ++ [u])
    rw [h7]
    obtain ⟨f', hf⟩ : ∃ f', s.f = f' + 1 := ⟨s.f - 1, by omega⟩
    rw [hf, decRows_on hp (by rw [hq]), hq]
    rfl
  · show (s.l.drop n).length < s.l.length
    omega
theorem bad_inv {w w' : World} {l0 : List UInt8} {ds : List Bool} {s : St} (h : s.Inv w l0 ds w') (hp : 0 < s.l.length) (h0 : (dec s.l (ds.getD s.acc.length false)).2.2 ≠ 0) : decRows l0.length l0 ds [] = ([], (dec s.l (ds.getD s.acc.length false)).2.2) := by
  obtain ⟨h1, h2, h3, h4, h5, h6, h7⟩ := h
  obtain ⟨f', hf⟩ : ∃ f', s.f = f' + 1 := ⟨s.f - 1, by omega⟩
  rw [h7, hf, decRows_bad hp h0]
theorem end_inv {w w' : World} {l0 : List UInt8} {ds : List Bool} {s : St} (h : s.Inv w l0 ds w') (hp : s.l.length = 0) : decRows l0.length l0 ds [] = (s.acc, 0) := by
  obtain ⟨h1, h2, h3, h4, h5, h6, h7⟩ := h
  rw [h7, List.eq_nil_of_length_eq_zero hp, decRows_end]
set_option maxRecDepth 100000 in
theorem decode_any (A : Option Addr) (l : List UInt8) (c : Nat) (D : Option Addr) (ds : List Bool) (dc : Nat) (w : World) (hr : Rd w 1 A l.length (Bc l)) (hc : l.length ≤ c) (hl : l.length ≤ 100000) (hd : RdB w D ds) (hdl : ds.length ≤ 9223372036854775807) :
    Ret Try.prog 25 [.slice A l.length c, .slice D ds.length dc] w (DecT l ds w) := by
  refine enterR Try.func25 Try.ntmps25 rfl (by kernel_rfl) rfl ?_
  repeat first | refine ω1 ?_ | refine ω2 ?_ | refine ω3 ?_ | refine ω4 ?_ | refine ω5 ?_ | refine χ1 ?_ | refine κ1 ?_ | refine κ2 ?_ | refine χ2 ?_ | refine κ3 ?_ | refine ω6 ?_ | refine ω7 ?_ | refine ω9 ?_ | refine κ4 ?_ | refine κ7 ?_ | refine κ8 ?_ | refine χ3 ?_ | refine χ4 ?_ | refine κ5 ?_ | refine κ6 ?_ | refine χ5 ?_ | refine χ6 ?_ | refine χ7 ?_ | refine ω8 ?_
  refine wloop1 (fun s : St => [(0, .slice s.A s.l.length s.c), (1, .slice D ds.length dc), (6, s.v)]) (fun s w' => s.Inv w l ds w') (fun s => s.l.length) ⟨A, c, l, .slice none 0 0, [], l.length⟩ (by repeat' (first | exact Sub.nil | refine Sub.cons rfl ?_))
    ⟨Ext.refl w, hr, hc, own_nil _ _ _ _, by simp, Nat.le_refl _, rfl⟩ ?_
  rintro s w1 hI
  obtain ⟨hx, h2, h3, h4, h5, h6, h7⟩ := id hI
  obtain ⟨A6, c6, hv6, hc6, _⟩ := own_form h4
  repeat first | refine ω1 ?_ | refine ω2 ?_ | refine ω3 ?_ | refine ω4 ?_ | refine ω5 ?_ | refine χ1 ?_ | refine κ1 ?_ | refine κ2 ?_ | refine χ2 ?_ | refine κ3 ?_ | refine ω6 ?_ | refine ω7 ?_ | refine ω9 ?_ | refine κ4 ?_ | refine κ7 ?_ | refine κ8 ?_ | refine χ3 ?_ | refine χ4 ?_ | refine κ5 ?_ | refine κ6 ?_ | refine χ5 ?_ | refine χ6 ?_ | refine χ7 ?_ | refine ω8 ?_
  refine ci (fun h => ?_) (fun h => ?_)
  · have hp : 0 < s.l.length := by have := of_decide_eq_true h; omega
    have hd1 := hd.ext hx
    have hr1 := h2.ext hx
    rw [hv6]
    repeat first | refine ω1 ?_ | refine ω2 ?_ | refine ω3 ?_ | refine ω4 ?_ | refine ω5 ?_ | refine χ1 ?_ | refine κ1 ?_ | refine κ2 ?_ | refine χ2 ?_ | refine κ3 ?_ | refine ω6 ?_ | refine ω7 ?_ | refine ω9 ?_ | refine κ4 ?_ | refine κ7 ?_ | refine κ8 ?_ | refine χ3 ?_ | refine χ4 ?_ | refine κ5 ?_ | refine κ6 ?_ | refine χ5 ?_ | refine χ6 ?_ | refine χ7 ?_ | refine ω8 ?_
    refine wljoin1 (fun w' : World × Nat => [(0, .slice s.A s.l.length s.c), (1, .slice D ds.length dc), (6, .slice A6 s.acc.length c6), (8, .pointer (some ⟨w'.2, 0, none⟩)), (9, .int .i64 ((dec s.l (ds.getD s.acc.length false)).2.1 : Int)), (10, .int .i64 ((dec s.l (ds.getD s.acc.length false)).2.2 : Int))])
      (fun b w' => w' = b.1 ∧ Ext w1 w' ∧ Blk w' b.2 42 (dec s.l (ds.getD s.acc.length false)).1.cells) ?_ ?_
    · refine ki 22 (fun h => ?_) (fun h => ?_)
      · have hlt : s.acc.length < ds.length := by have := of_decide_eq_true h; omega
        repeat first | refine ω1 ?_ | refine ω2 ?_ | refine ω3 ?_ | refine ω4 ?_ | refine ω5 ?_ | refine χ1 ?_ | refine κ1 ?_ | refine κ2 ?_ | refine χ2 ?_ | refine κ3 ?_ | refine ω6 ?_ | refine ω7 ?_ | refine ω9 ?_ | refine κ4 ?_ | refine κ7 ?_ | refine κ8 ?_ | refine χ3 ?_ | refine χ4 ?_ | refine κ5 ?_ | refine κ6 ?_ | refine χ5 ?_ | refine χ6 ?_ | refine χ7 ?_ | refine ω8 ?_
        refine ix s.acc.length hd1 hlt ?_
        repeat first | refine ω1 ?_ | refine ω2 ?_ | refine ω3 ?_ | refine ω4 ?_ | refine ω5 ?_ | refine χ1 ?_ | refine κ1 ?_ | refine κ2 ?_ | refine χ2 ?_ | refine κ3 ?_ | refine ω6 ?_ | refine ω7 ?_ | refine ω9 ?_ | refine κ4 ?_ | refine κ7 ?_ | refine κ8 ?_ | refine χ3 ?_ | refine χ4 ?_ | refine κ5 ?_ | refine κ6 ?_ | refine χ5 ?_ | refine χ6 ?_ | refine χ7 ?_ | refine ω8 ?_
        refine ld (RdB.cell hd1 hlt) ?_
        repeat first | refine ω1 ?_ | refine ω2 ?_ | refine ω3 ?_ | refine ω4 ?_ | refine ω5 ?_ | refine χ1 ?_ | refine κ1 ?_ | refine κ2 ?_ | refine χ2 ?_ | refine κ3 ?_ | refine ω6 ?_ | refine ω7 ?_ | refine ω9 ?_ | refine κ4 ?_ | refine κ7 ?_ | refine κ8 ?_ | refine χ3 ?_ | refine χ4 ?_ | refine κ5 ?_ | refine κ6 ?_ | refine χ5 ?_ | refine χ6 ?_ | refine χ7 ?_ | refine ω8 ?_
        refine cl (decodeValue_any s.A s.l s.c (ds.getD s.acc.length false) w1 hr1 (by omega)) ?_
        rintro t w2 ⟨rfl, hx2⟩
        repeat first | refine ω1 ?_ | refine ω2 ?_ | refine ω3 ?_ | refine ω4 ?_ | refine ω5 ?_ | refine χ1 ?_ | refine κ1 ?_ | refine κ2 ?_ | refine χ2 ?_ | refine κ3 ?_ | refine ω6 ?_ | refine ω7 ?_ | refine ω9 ?_ | refine κ4 ?_ | refine κ7 ?_ | refine κ8 ?_ | refine χ3 ?_ | refine χ4 ?_ | refine κ5 ?_ | refine κ6 ?_ | refine χ5 ?_ | refine χ6 ?_ | refine χ7 ?_ | refine ω8 ?_
        refine alc (cs := V0.cells) zV ?_
        intro w3 b hx3 hb3 hk3
        repeat first | refine ω1 ?_ | refine ω2 ?_ | refine ω3 ?_ | refine ω4 ?_ | refine ω5 ?_ | refine χ1 ?_ | refine κ1 ?_ | refine κ2 ?_ | refine χ2 ?_ | refine κ3 ?_ | refine ω6 ?_ | refine ω7 ?_ | refine ω9 ?_ | refine κ4 ?_ | refine κ7 ?_ | refine κ8 ?_ | refine χ3 ?_ | refine χ4 ?_ | refine κ5 ?_ | refine κ6 ?_ | refine χ5 ?_ | refine χ6 ?_ | refine χ7 ?_ | refine ω8 ?_
        refine stb (cs' := (dec s.l (ds.getD s.acc.length false)).1.cells) hk3 ?_ (V.one _)
        intro w4 hk4 hg4 hx4
        repeat first | refine ω1 ?_ | refine ω2 ?_ | refine ω3 ?_ | refine ω4 ?_ | refine ω5 ?_ | refine χ1 ?_ | refine κ1 ?_ | refine κ2 ?_ | refine χ2 ?_ | refine κ3 ?_ | refine ω6 ?_ | refine ω7 ?_ | refine ω9 ?_ | refine κ4 ?_ | refine κ7 ?_ | refine κ8 ?_ | refine χ3 ?_ | refine χ4 ?_ | refine κ5 ?_ | refine κ6 ?_ | refine χ5 ?_ | refine χ6 ?_ | refine χ7 ?_ | refine ω8 ?_
        exact qjoin1 (w4, b) (by repeat' (first | exact Sub.nil | refine Sub.cons rfl ?_)) ⟨rfl, hx4 w1 (hx2.trans hx3) (by have := hx2.size; omega), hk4⟩
      · have hge : ds.length ≤ s.acc.length := by have := of_decide_eq_false h; omega
        have e : ds.getD s.acc.length false = false := by simp [List.getD, List.getElem?_eq_none hge]
        rw [e]
        repeat first | refine ω1 ?_ | refine ω2 ?_ | refine ω3 ?_ | refine ω4 ?_ | refine ω5 ?_ | refine χ1 ?_ | refine κ1 ?_ | refine κ2 ?_ | refine χ2 ?_ | refine κ3 ?_ | refine ω6 ?_ | refine ω7 ?_ | refine ω9 ?_ | refine κ4 ?_ | refine κ7 ?_ | refine κ8 ?_ | refine χ3 ?_ | refine χ4 ?_ | refine κ5 ?_ | refine κ6 ?_ | refine χ5 ?_ | refine χ6 ?_ | refine χ7 ?_ | refine ω8 ?_
        refine cl (decodeValue_any s.A s.l s.c false w1 hr1 (by omega)) ?_
        rintro t w2 ⟨rfl, hx2⟩
        repeat first | refine ω1 ?_ | refine ω2 ?_ | refine ω3 ?_ | refine ω4 ?_ | refine ω5 ?_ | refine χ1 ?_ | refine κ1 ?_ | refine κ2 ?_ | refine χ2 ?_ | refine κ3 ?_ | refine ω6 ?_ | refine ω7 ?_ | refine ω9 ?_ | refine κ4 ?_ | refine κ7 ?_ | refine κ8 ?_ | refine χ3 ?_ | refine χ4 ?_ | refine κ5 ?_ | refine κ6 ?_ | refine χ5 ?_ | refine χ6 ?_ | refine χ7 ?_ | refine ω8 ?_
        refine alc (cs := V0.cells) zV ?_
        intro w3 b hx3 hb3 hk3
        repeat first | refine ω1 ?_ | refine ω2 ?_ | refine ω3 ?_ | refine ω4 ?_ | refine ω5 ?_ | refine χ1 ?_ | refine κ1 ?_ | refine κ2 ?_ | refine χ2 ?_ | refine κ3 ?_ | refine ω6 ?_ | refine ω7 ?_ | refine ω9 ?_ | refine κ4 ?_ | refine κ7 ?_ | refine κ8 ?_ | refine χ3 ?_ | refine χ4 ?_ | refine κ5 ?_ | refine κ6 ?_ | refine χ5 ?_ | refine χ6 ?_ | refine χ7 ?_ | refine ω8 ?_
        refine stb (cs' := (dec s.l false).1.cells) hk3 ?_ (V.one _)
        intro w4 hk4 hg4 hx4
        repeat first | refine ω1 ?_ | refine ω2 ?_ | refine ω3 ?_ | refine ω4 ?_ | refine ω5 ?_ | refine χ1 ?_ | refine κ1 ?_ | refine κ2 ?_ | refine χ2 ?_ | refine κ3 ?_ | refine ω6 ?_ | refine ω7 ?_ | refine ω9 ?_ | refine κ4 ?_ | refine κ7 ?_ | refine κ8 ?_ | refine χ3 ?_ | refine χ4 ?_ | refine κ5 ?_ | refine κ6 ?_ | refine χ5 ?_ | refine χ6 ?_ | refine χ7 ?_ | refine ω8 ?_
        exact qjoin1 (w4, b) (by repeat' (first | exact Sub.nil | refine Sub.cons rfl ?_)) ⟨rfl, hx4 w1 (hx2.trans hx3) (by have := hx2.size; omega), hk4⟩
    · rintro ⟨w0, b⟩ w4 ⟨_, hx4, hk4⟩
      have hx4' := hx.trans hx4
      have ho4 := own_ext h4 hx4
      repeat first | refine ω1 ?_ | refine ω2 ?_ | refine ω3 ?_ | refine ω4 ?_ | refine ω5 ?_ | refine χ1 ?_ | refine κ1 ?_ | refine κ2 ?_ | refine χ2 ?_ | refine κ3 ?_ | refine ω6 ?_ | refine ω7 ?_ | refine ω9 ?_ | refine κ4 ?_ | refine κ7 ?_ | refine κ8 ?_ | refine χ3 ?_ | refine χ4 ?_ | refine κ5 ?_ | refine κ6 ?_ | refine χ5 ?_ | refine χ6 ?_ | refine χ7 ?_ | refine ω8 ?_
      refine ci (fun h => ?_) (fun h => ?_)
      · have hne : (dec s.l (ds.getD s.acc.length false)).2.2 ≠ 0 := by intro h0; rw [h0] at h; simp at h
        repeat first | refine ω1 ?_ | refine ω2 ?_ | refine ω3 ?_ | refine ω4 ?_ | refine ω5 ?_ | refine χ1 ?_ | refine κ1 ?_ | refine κ2 ?_ | refine χ2 ?_ | refine κ3 ?_ | refine ω6 ?_ | refine ω7 ?_ | refine ω9 ?_ | refine κ4 ?_ | refine κ7 ?_ | refine κ8 ?_ | refine χ3 ?_ | refine χ4 ?_ | refine κ5 ?_ | refine κ6 ?_ | refine χ5 ?_ | refine χ6 ?_ | refine χ7 ?_ | refine ω8 ?_
        refine fin2 ⟨hx4', .slice none 0 0, ?_, ?_⟩
        · rw [bad_inv hI hp hne]
        · rw [bad_inv hI hp hne]; exact own_nil _ _ _ _
      · have h0 : (dec s.l (ds.getD s.acc.length false)).2.2 = 0 := int_zero h
        repeat first | refine ω1 ?_ | refine ω2 ?_ | refine ω3 ?_ | refine ω4 ?_ | refine ω5 ?_ | refine χ1 ?_ | refine κ1 ?_ | refine κ2 ?_ | refine χ2 ?_ | refine κ3 ?_ | refine ω6 ?_ | refine ω7 ?_ | refine ω9 ?_ | refine κ4 ?_ | refine κ7 ?_ | refine κ8 ?_ | refine χ3 ?_ | refine χ4 ?_ | refine κ5 ?_ | refine κ6 ?_ | refine χ5 ?_ | refine χ6 ?_ | refine χ7 ?_ | refine ω8 ?_
        refine lds (cs := (dec s.l (ds.getD s.acc.length false)).1.cells) (fun j u hu => hk4.at hu) ?_
        repeat first | refine ω1 ?_ | refine ω2 ?_ | refine ω3 ?_ | refine ω4 ?_ | refine ω5 ?_ | refine χ1 ?_ | refine κ1 ?_ | refine κ2 ?_ | refine χ2 ?_ | refine κ3 ?_ | refine ω6 ?_ | refine ω7 ?_ | refine ω9 ?_ | refine κ4 ?_ | refine κ7 ?_ | refine κ8 ?_ | refine χ3 ?_ | refine χ4 ?_ | refine κ5 ?_ | refine κ6 ?_ | refine χ5 ?_ | refine χ6 ?_ | refine χ7 ?_ | refine ω8 ?_
        refine wapp1 hx4' EV (bsV (dec s.l (ds.getD s.acc.length false)).1) rfl (fun b => rfl) (.inl (by rw [hv6] at ho4; exact ho4)) rfl (V.one _) (by unfold maxLen; omega) (by omega) rfl rfl ?_
        intro v5 w5 b5 ho5 hx5 hg5 _
        obtain ⟨hI2, hn, hdec⟩ := nxt_inv hI hp h0 hx5 (OwnR.snoc ho5)
        repeat first | refine ω1 ?_ | refine ω2 ?_ | refine ω3 ?_ | refine ω4 ?_ | refine ω5 ?_ | refine χ1 ?_ | refine κ1 ?_ | refine κ2 ?_ | refine χ2 ?_ | refine κ3 ?_ | refine ω6 ?_ | refine ω7 ?_ | refine ω9 ?_ | refine κ4 ?_ | refine κ7 ?_ | refine κ8 ?_ | refine χ3 ?_ | refine χ4 ?_ | refine κ5 ?_ | refine κ6 ?_ | refine χ5 ?_ | refine χ6 ?_ | refine χ7 ?_ | refine ω8 ?_
        refine wslice tt_ok (dec s.l (ds.getD s.acc.length false)).2.1 s.l.length s.c (if s.c = (dec s.l (ds.getD s.acc.length false)).2.1 then s.A else s.A.map (·.add ((dec s.l (ds.getD s.acc.length false)).2.1 * 1))) (s.l.drop (dec s.l (ds.getD s.acc.length false)).2.1).length (s.c - (dec s.l (ds.getD s.acc.length false)).2.1) rfl rfl rfl rfl ⟨_, _, rfl, rfl⟩ rfl rfl (.inl rfl) hn h3 (Nat.le_refl _) rfl List.length_drop.symm rfl rfl ?_
        repeat first | refine ω1 ?_ | refine ω2 ?_ | refine ω3 ?_ | refine ω4 ?_ | refine ω5 ?_ | refine χ1 ?_ | refine κ1 ?_ | refine κ2 ?_ | refine χ2 ?_ | refine κ3 ?_ | refine ω6 ?_ | refine ω7 ?_ | refine ω9 ?_ | refine κ4 ?_ | refine κ7 ?_ | refine κ8 ?_ | refine χ3 ?_ | refine χ4 ?_ | refine κ5 ?_ | refine κ6 ?_ | refine χ5 ?_ | refine χ6 ?_ | refine χ7 ?_ | refine ω8 ?_
        exact qround1 (nxt s (dec s.l (ds.getD s.acc.length false)) v5) (by repeat' (first | exact Sub.nil | refine Sub.cons rfl ?_)) hI2 hdec
  · have hp : s.l.length = 0 := by have := of_decide_eq_false h; omega
    repeat first | refine ω1 ?_ | refine ω2 ?_ | refine ω3 ?_ | refine ω4 ?_ | refine ω5 ?_ | refine χ1 ?_ | refine κ1 ?_ | refine κ2 ?_ | refine χ2 ?_ | refine κ3 ?_ | refine ω6 ?_ | refine ω7 ?_ | refine ω9 ?_ | refine κ4 ?_ | refine κ7 ?_ | refine κ8 ?_ | refine χ3 ?_ | refine χ4 ?_ | refine κ5 ?_ | refine κ6 ?_ | refine χ5 ?_ | refine χ6 ?_ | refine χ7 ?_ | refine ω8 ?_
    refine fin2 ⟨hx, s.v, ?_, ?_⟩
    · rw [end_inv hI hp]; rfl
    · rw [end_inv hI hp]; exact h4
end Go.Proofs.Ythjnmclnafbcdaa
