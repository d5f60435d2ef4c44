/- Contracts of the reference's Rows and SameRows. -/
import Derived.Test.YthjnmclnafbcdaaDecRows
set_option linter.unusedVariables false
namespace Go.Proofs.Ythjnmclnafbcdaa
open Go.RowKit Pl Go.Wk
attribute [local irreducible] WC WL QX WD WDB
set_option maxRecDepth 100000 in
theorem refRows_any (A : Option Addr) (l : List UInt8) (c : Nat) (D : Option Addr) (ds : List Bool) (dc : Nat) (w : World) (hr : Rd w 1 A l.length (Bc l)) (hc : l.length ≤ c) (hl : l.length ≤ 100000) (hd : RdB w D ds) (hdl : ds.length ≤ 9223372036854775807) :
    Ret Try.prog 26 [.slice A l.length c, .slice D ds.length dc] w (DecT l ds w) := by
  refine enterR Try.func26 Try.ntmps26 rfl (by kernel_rfl) rfl ?_
  repeat first | refine ω1 ?_ | refine ω2 ?_ | refine ω3 ?_ | refine ω4 ?_ | refine ω5 ?_ | refine χ1 ?_ | refine κ1 ?_ | refine κ2 ?_ | refine χ2 ?_ | refine κ3 ?_ | refine ω6 ?_ | refine ω7 ?_ | refine ω9 ?_ | refine κ4 ?_ | refine κ7 ?_ | refine κ8 ?_ | refine χ3 ?_ | refine χ4 ?_ | refine κ5 ?_ | refine κ6 ?_ | refine χ5 ?_ | refine χ6 ?_ | refine χ7 ?_ | refine ω8 ?_
  refine wloop1 (fun s : St => [(0, .slice s.A s.l.length s.c), (1, .slice D ds.length dc), (6, s.v)]) (fun s w' => s.Inv w l ds w') (fun s => s.l.length) ⟨A, c, l, .slice none 0 0, [], l.length⟩ (by repeat' (first | exact Sub.nil | refine Sub.cons rfl ?_))
    ⟨Ext.refl w, hr, hc, own_nil _ _ _ _, by simp, Nat.le_refl _, rfl⟩ ?_
  rintro s w1 hI
  obtain ⟨hx, h2, h3, h4, h5, h6, h7⟩ := id hI
  obtain ⟨A6, c6, hv6, hc6, _⟩ := own_form h4
  repeat first | refine ω1 ?_ | refine ω2 ?_ | refine ω3 ?_ | refine ω4 ?_ | refine ω5 ?_ | refine χ1 ?_ | refine κ1 ?_ | refine κ2 ?_ | refine χ2 ?_ | refine κ3 ?_ | refine ω6 ?_ | refine ω7 ?_ | refine ω9 ?_ | refine κ4 ?_ | refine κ7 ?_ | refine κ8 ?_ | refine χ3 ?_ | refine χ4 ?_ | refine κ5 ?_ | refine κ6 ?_ | refine χ5 ?_ | refine χ6 ?_ | refine χ7 ?_ | refine ω8 ?_
  refine ci (fun h => ?_) (fun h => ?_)
  · have hp : 0 < s.l.length := by have := of_decide_eq_true h; omega
    have hd1 := hd.ext hx
    have hr1 := h2.ext hx
    rw [hv6]
    repeat first | refine ω1 ?_ | refine ω2 ?_ | refine ω3 ?_ | refine ω4 ?_ | refine ω5 ?_ | refine χ1 ?_ | refine κ1 ?_ | refine κ2 ?_ | refine χ2 ?_ | refine κ3 ?_ | refine ω6 ?_ | refine ω7 ?_ | refine ω9 ?_ | refine κ4 ?_ | refine κ7 ?_ | refine κ8 ?_ | refine χ3 ?_ | refine χ4 ?_ | refine κ5 ?_ | refine κ6 ?_ | refine χ5 ?_ | refine χ6 ?_ | refine χ7 ?_ | refine ω8 ?_
    refine wljoin1 (fun w' : World × Nat => [(0, .slice s.A s.l.length s.c), (1, .slice D ds.length dc), (6, .slice A6 s.acc.length c6), (7, .pointer (some ⟨w'.2, 0, none⟩)), (8, .int .i64 ((dec s.l (ds.getD s.acc.length false)).2.1 : Int)), (9, .int .i64 ((dec s.l (ds.getD s.acc.length false)).2.2 : Int))])
      (fun b w' => w' = b.1 ∧ Ext w1 w' ∧ Blk w' b.2 42 (dec s.l (ds.getD s.acc.length false)).1.cells) ?_ ?_
    · refine ki 20 (fun h => ?_) (fun h => ?_)
      · have hlt : s.acc.length < ds.length := by have := of_decide_eq_true h; omega
        repeat first | refine ω1 ?_ | refine ω2 ?_ | refine ω3 ?_ | refine ω4 ?_ | refine ω5 ?_ | refine χ1 ?_ | refine κ1 ?_ | refine κ2 ?_ | refine χ2 ?_ | refine κ3 ?_ | refine ω6 ?_ | refine ω7 ?_ | refine ω9 ?_ | refine κ4 ?_ | refine κ7 ?_ | refine κ8 ?_ | refine χ3 ?_ | refine χ4 ?_ | refine κ5 ?_ | refine κ6 ?_ | refine χ5 ?_ | refine χ6 ?_ | refine χ7 ?_ | refine ω8 ?_
        refine ix s.acc.length hd1 hlt ?_
        repeat first | refine ω1 ?_ | refine ω2 ?_ | refine ω3 ?_ | refine ω4 ?_ | refine ω5 ?_ | refine χ1 ?_ | refine κ1 ?_ | refine κ2 ?_ | refine χ2 ?_ | refine κ3 ?_ | refine ω6 ?_ | refine ω7 ?_ | refine ω9 ?_ | refine κ4 ?_ | refine κ7 ?_ | refine κ8 ?_ | refine χ3 ?_ | refine χ4 ?_ | refine κ5 ?_ | refine κ6 ?_ | refine χ5 ?_ | refine χ6 ?_ | refine χ7 ?_ | refine ω8 ?_
        refine ld (RdB.cell hd1 hlt) ?_
        repeat first | refine ω1 ?_ | refine ω2 ?_ | refine ω3 ?_ | refine ω4 ?_ | refine ω5 ?_ | refine χ1 ?_ | refine κ1 ?_ | refine κ2 ?_ | refine χ2 ?_ | refine κ3 ?_ | refine ω6 ?_ | refine ω7 ?_ | refine ω9 ?_ | refine κ4 ?_ | refine κ7 ?_ | refine κ8 ?_ | refine χ3 ?_ | refine χ4 ?_ | refine κ5 ?_ | refine κ6 ?_ | refine χ5 ?_ | refine χ6 ?_ | refine χ7 ?_ | refine ω8 ?_
        refine cl (read_any s.A s.l s.c (ds.getD s.acc.length false) w1 hr1 (by omega)) ?_
        rintro t w2 ⟨rfl, hx2⟩
        repeat first | refine ω1 ?_ | refine ω2 ?_ | refine ω3 ?_ | refine ω4 ?_ | refine ω5 ?_ | refine χ1 ?_ | refine κ1 ?_ | refine κ2 ?_ | refine χ2 ?_ | refine κ3 ?_ | refine ω6 ?_ | refine ω7 ?_ | refine ω9 ?_ | refine κ4 ?_ | refine κ7 ?_ | refine κ8 ?_ | refine χ3 ?_ | refine χ4 ?_ | refine κ5 ?_ | refine κ6 ?_ | refine χ5 ?_ | refine χ6 ?_ | refine χ7 ?_ | refine ω8 ?_
        refine alc (cs := V0.cells) zV ?_
        intro w3 b hx3 hb3 hk3
        repeat first | refine ω1 ?_ | refine ω2 ?_ | refine ω3 ?_ | refine ω4 ?_ | refine ω5 ?_ | refine χ1 ?_ | refine κ1 ?_ | refine κ2 ?_ | refine χ2 ?_ | refine κ3 ?_ | refine ω6 ?_ | refine ω7 ?_ | refine ω9 ?_ | refine κ4 ?_ | refine κ7 ?_ | refine κ8 ?_ | refine χ3 ?_ | refine χ4 ?_ | refine κ5 ?_ | refine κ6 ?_ | refine χ5 ?_ | refine χ6 ?_ | refine χ7 ?_ | refine ω8 ?_
        refine stb (cs' := (dec s.l (ds.getD s.acc.length false)).1.cells) hk3 ?_ (V.one _)
        intro w4 hk4 hg4 hx4
        repeat first | refine ω1 ?_ | refine ω2 ?_ | refine ω3 ?_ | refine ω4 ?_ | refine ω5 ?_ | refine χ1 ?_ | refine κ1 ?_ | refine κ2 ?_ | refine χ2 ?_ | refine κ3 ?_ | refine ω6 ?_ | refine ω7 ?_ | refine ω9 ?_ | refine κ4 ?_ | refine κ7 ?_ | refine κ8 ?_ | refine χ3 ?_ | refine χ4 ?_ | refine κ5 ?_ | refine κ6 ?_ | refine χ5 ?_ | refine χ6 ?_ | refine χ7 ?_ | refine ω8 ?_
        exact qjoin1 (w4, b) (by repeat' (first | exact Sub.nil | refine Sub.cons rfl ?_)) ⟨rfl, hx4 w1 (hx2.trans hx3) (by have := hx2.size; omega), hk4⟩
      · have hge : ds.length ≤ s.acc.length := by have := of_decide_eq_false h; omega
        have e : ds.getD s.acc.length false = false := by simp [List.getD, List.getElem?_eq_none hge]
        rw [e]
        repeat first | refine ω1 ?_ | refine ω2 ?_ | refine ω3 ?_ | refine ω4 ?_ | refine ω5 ?_ | refine χ1 ?_ | refine κ1 ?_ | refine κ2 ?_ | refine χ2 ?_ | refine κ3 ?_ | refine ω6 ?_ | refine ω7 ?_ | refine ω9 ?_ | refine κ4 ?_ | refine κ7 ?_ | refine κ8 ?_ | refine χ3 ?_ | refine χ4 ?_ | refine κ5 ?_ | refine κ6 ?_ | refine χ5 ?_ | refine χ6 ?_ | refine χ7 ?_ | refine ω8 ?_
        refine cl (read_any s.A s.l s.c false w1 hr1 (by omega)) ?_
        rintro t w2 ⟨rfl, hx2⟩
        repeat first | refine ω1 ?_ | refine ω2 ?_ | refine ω3 ?_ | refine ω4 ?_ | refine ω5 ?_ | refine χ1 ?_ | refine κ1 ?_ | refine κ2 ?_ | refine χ2 ?_ | refine κ3 ?_ | refine ω6 ?_ | refine ω7 ?_ | refine ω9 ?_ | refine κ4 ?_ | refine κ7 ?_ | refine κ8 ?_ | refine χ3 ?_ | refine χ4 ?_ | refine κ5 ?_ | refine κ6 ?_ | refine χ5 ?_ | refine χ6 ?_ | refine χ7 ?_ | refine ω8 ?_
        refine alc (cs := V0.cells) zV ?_
        intro w3 b hx3 hb3 hk3
        repeat first | refine ω1 ?_ | refine ω2 ?_ | refine ω3 ?_ | refine ω4 ?_ | refine ω5 ?_ | refine χ1 ?_ | refine κ1 ?_ | refine κ2 ?_ | refine χ2 ?_ | refine κ3 ?_ | refine ω6 ?_ | refine ω7 ?_ | refine ω9 ?_ | refine κ4 ?_ | refine κ7 ?_ | refine κ8 ?_ | refine χ3 ?_ | refine χ4 ?_ | refine κ5 ?_ | refine κ6 ?_ | refine χ5 ?_ | refine χ6 ?_ | refine χ7 ?_ | refine ω8 ?_
        refine stb (cs' := (dec s.l false).1.cells) hk3 ?_ (V.one _)
        intro w4 hk4 hg4 hx4
        repeat first | refine ω1 ?_ | refine ω2 ?_ | refine ω3 ?_ | refine ω4 ?_ | refine ω5 ?_ | refine χ1 ?_ | refine κ1 ?_ | refine κ2 ?_ | refine χ2 ?_ | refine κ3 ?_ | refine ω6 ?_ | refine ω7 ?_ | refine ω9 ?_ | refine κ4 ?_ | refine κ7 ?_ | refine κ8 ?_ | refine χ3 ?_ | refine χ4 ?_ | refine κ5 ?_ | refine κ6 ?_ | refine χ5 ?_ | refine χ6 ?_ | refine χ7 ?_ | refine ω8 ?_
        exact qjoin1 (w4, b) (by repeat' (first | exact Sub.nil | refine Sub.cons rfl ?_)) ⟨rfl, hx4 w1 (hx2.trans hx3) (by have := hx2.size; omega), hk4⟩
    · rintro ⟨w0, b⟩ w4 ⟨_, hx4, hk4⟩
      have hx4' := hx.trans hx4
      have ho4 := own_ext h4 hx4
      repeat first | refine ω1 ?_ | refine ω2 ?_ | refine ω3 ?_ | refine ω4 ?_ | refine ω5 ?_ | refine χ1 ?_ | refine κ1 ?_ | refine κ2 ?_ | refine χ2 ?_ | refine κ3 ?_ | refine ω6 ?_ | refine ω7 ?_ | refine ω9 ?_ | refine κ4 ?_ | refine κ7 ?_ | refine κ8 ?_ | refine χ3 ?_ | refine χ4 ?_ | refine κ5 ?_ | refine κ6 ?_ | refine χ5 ?_ | refine χ6 ?_ | refine χ7 ?_ | refine ω8 ?_
      refine ci (fun h => ?_) (fun h => ?_)
      · have hne : (dec s.l (ds.getD s.acc.length false)).2.2 ≠ 0 := by intro h0; rw [h0] at h; simp at h
        repeat first | refine ω1 ?_ | refine ω2 ?_ | refine ω3 ?_ | refine ω4 ?_ | refine ω5 ?_ | refine χ1 ?_ | refine κ1 ?_ | refine κ2 ?_ | refine χ2 ?_ | refine κ3 ?_ | refine ω6 ?_ | refine ω7 ?_ | refine ω9 ?_ | refine κ4 ?_ | refine κ7 ?_ | refine κ8 ?_ | refine χ3 ?_ | refine χ4 ?_ | refine κ5 ?_ | refine κ6 ?_ | refine χ5 ?_ | refine χ6 ?_ | refine χ7 ?_ | refine ω8 ?_
        refine fin2 ⟨hx4', .slice none 0 0, ?_, ?_⟩
        · rw [bad_inv hI hp hne]
        · rw [bad_inv hI hp hne]; exact own_nil _ _ _ _
      · have h0 : (dec s.l (ds.getD s.acc.length false)).2.2 = 0 := int_zero h
        repeat first | refine ω1 ?_ | refine ω2 ?_ | refine ω3 ?_ | refine ω4 ?_ | refine ω5 ?_ | refine χ1 ?_ | refine κ1 ?_ | refine κ2 ?_ | refine χ2 ?_ | refine κ3 ?_ | refine ω6 ?_ | refine ω7 ?_ | refine ω9 ?_ | refine κ4 ?_ | refine κ7 ?_ | refine κ8 ?_ | refine χ3 ?_ | refine χ4 ?_ | refine κ5 ?_ | refine κ6 ?_ | refine χ5 ?_ | refine χ6 ?_ | refine χ7 ?_ | refine ω8 ?_
        refine drB [(0, 0), (0, 4), (0, 5), (0, 6), (1, 1), (1, 2), (1, 3), (0, 7), (0, 8)] (by kernel_rfl) ?_
        have hxd : Ext w4 w4.drew := (Ext.refl w4).drew
        have hx5' := hx4'.trans hxd
        have ho5' := own_ext ho4 hxd
        have hk5' := hk4.ext hxd
        have hn : (dec s.l (ds.getD s.acc.length false)).2.1 ≤ s.l.length := by
          generalize hq : dec s.l (ds.getD s.acc.length false) = q at *
          obtain ⟨u, n, e⟩ := q
          simp only at h0
          subst h0
          exact (dec_ok hq).2.2.2.1
        repeat first | refine β4 ?_ | refine β5 ?_ | refine χ1 ?_ | refine χ2 ?_ | refine χ3 ?_ | refine χ4 ?_ | refine χ5 ?_ | refine χ6 ?_ | refine χ7 ?_
        refine bsll (dec s.l (ds.getD s.acc.length false)).2.1 ?_
        refine dknowB 40 (.slice (if s.c = (dec s.l (ds.getD s.acc.length false)).2.1 then s.A else s.A.map (·.add ((dec s.l (ds.getD s.acc.length false)).2.1 * 1))) (s.l.drop (dec s.l (ds.getD s.acc.length false)).2.1).length (s.c - (dec s.l (ds.getD s.acc.length false)).2.1)) rfl (by rw [List.length_drop]) ?_
        refine bone ?_
        refine lds (cs := (dec s.l (ds.getD s.acc.length false)).1.cells) (fun j u hu => hk5'.at hu) ?_
        refine wnil (bback ?_)
        refine bone ?_
        refine bsl (bsV (dec s.l (ds.getD s.acc.length false)).1) ?_
        intro w6 b6 hx6 hb6 hk6
        refine wnil (bback ?_)
        refine bone ?_
        refine apo (m' := 1) (hx5'.trans hx6) EV (v := .slice A6 s.acc.length c6) (by rw [hv6] at ho5'; exact own_ext ho5' hx6) (hk6.rd (sz := 3) (n := 1) rfl) (V.one _) (by unfold maxLen; omega) (by omega) ?_
        intro v7 w7 ho7 hx7 hg7 _
        obtain ⟨hI2, hn, hdec⟩ := nxt_inv hI hp h0 hx7 (OwnR.snoc ho7)
        refine wnil (bback ?_)
        repeat first | refine β4 ?_ | refine β5 ?_ | refine χ1 ?_ | refine χ2 ?_ | refine χ3 ?_ | refine χ4 ?_ | refine χ5 ?_ | refine χ6 ?_ | refine χ7 ?_
        repeat first | refine ω1 ?_ | refine ω2 ?_ | refine ω3 ?_ | refine ω4 ?_ | refine ω5 ?_ | refine χ1 ?_ | refine κ1 ?_ | refine κ2 ?_ | refine χ2 ?_ | refine κ3 ?_ | refine ω6 ?_ | refine ω7 ?_ | refine ω9 ?_ | refine κ4 ?_ | refine κ7 ?_ | refine κ8 ?_ | refine χ3 ?_ | refine χ4 ?_ | refine κ5 ?_ | refine κ6 ?_ | refine χ5 ?_ | refine χ6 ?_ | refine χ7 ?_ | refine ω8 ?_
        exact qround1 (nxt s (dec s.l (ds.getD s.acc.length false)) v7) (by repeat' (first | exact Sub.nil | refine Sub.cons rfl ?_)) hI2 hdec
  · have hp : s.l.length = 0 := by have := of_decide_eq_false h; omega
    repeat first | refine ω1 ?_ | refine ω2 ?_ | refine ω3 ?_ | refine ω4 ?_ | refine ω5 ?_ | refine χ1 ?_ | refine κ1 ?_ | refine κ2 ?_ | refine χ2 ?_ | refine κ3 ?_ | refine ω6 ?_ | refine ω7 ?_ | refine ω9 ?_ | refine κ4 ?_ | refine κ7 ?_ | refine κ8 ?_ | refine χ3 ?_ | refine χ4 ?_ | refine κ5 ?_ | refine κ6 ?_ | refine χ5 ?_ | refine χ6 ?_ | refine χ7 ?_ | refine ω8 ?_
    refine fin2 ⟨hx, s.v, ?_, ?_⟩
    · rw [end_inv hI hp]; rfl
    · rw [end_inv hI hp]; exact h4
theorem eqIn (a b : V) (w : World) : (Op.equalIn 10000 42 a.val b.val).run Try.prog w = .ok (eqv a b) w := by
  have h := eqV a b w
  rw [V.val, V.val, run_eql_struct] at h
  rw [V.val, V.val]
  revert h
  generalize (Op.equalIn 10000 42 (.agg #[.int .i64 a.kind, .int .i64 a.num, .string a.str]) (.agg #[.int .i64 b.kind, .int .i64 b.num, .string b.str])).run Try.prog w = r
  intro h
  cases r with
  | ok v w' => simp only [Result.andThen_ok] at h; injection h with h1 h2; injection h1 with h1; rw [h1, h2]
  | halt x w' => simp [Result.andThen] at h
theorem neV (a b : V) (w : World) : (binOp .neq 42 a.val b.val).run Try.prog w = .ok (.bool (!eqv a b)) w := by
  have h := eqIn a b w
  rw [V.val, V.val] at h
  rw [V.val, V.val, run_neq_struct, h]; rfl
theorem eqv_refl (a : V) : eqv a a = true := by simp [eqv]
end Go.Proofs.Ythjnmclnafbcdaa
namespace Go.Wk
open Go.RowKit
/-- != of structures, in a region that draws -/
theorem dnes {P : Program} {n : Nat} {al : AL} {w : World} {Q : Exit → Act → World → Prop} {ops : Array Oper} {drest : List (Nat × Oper)} {d ty : Nat} {pos : String} {aft : Array Edge}
    {t t2 : TypeId} {x y : Operand} {xs ys : Array Value} {v : Value} (hg : P.eqGuardType P.depth t = false) (hb : ∀ w, (binOp .neq t (.agg xs) (.agg ys)).run P w = .ok v w)
    (k : WD P n ops Q drest ((d, v) :: al) w) (hx : ev al x = some (.agg xs) := by rfl) (hy : ev al y = some (.agg ys) := by rfl) (hd : Nat.blt d n = true := by rfl) : WD P n ops Q ((0, ⟨some d, .binOp .neq t x y t2, ty, pos, aft, none⟩) :: drest) al w :=
  dy (fun w' _ a ha => by
    simp only [execOp, ha.ev hx, ha.ev hy, Sem.run_bind, run_eqGuard_agg w' _ _ _ _ _ _ hg, Result.andThen_ok, hb]; rfl) hd k
end Go.Wk
namespace Go.Proofs.Ythjnmclnafbcdaa
open Go.RowKit Pl Go.Wk
attribute [local irreducible] WC WL QX WD WDB
set_option maxRecDepth 100000 in
theorem sameRows_any (A B : Option Addr) (r : List V) (ac bc : Nat) (w : World) (ha : RdR w A r) (hb : RdR w B r) (hm : r.length ≤ 9223372036854775807) :
    Ret Try.prog 27 [.slice A r.length ac, .slice B r.length bc] w fun x w' => x = .bool true ∧ Ext w w' := by
  refine enterR Try.func27 Try.ntmps27 rfl (by kernel_rfl) rfl ?_
  repeat first | refine ω1 ?_ | refine ω2 ?_ | refine ω3 ?_ | refine ω4 ?_ | refine ω5 ?_ | refine χ1 ?_ | refine κ1 ?_ | refine κ2 ?_ | refine χ2 ?_ | refine κ3 ?_ | refine ω6 ?_ | refine ω7 ?_ | refine ω9 ?_ | refine κ4 ?_ | refine κ7 ?_ | refine κ8 ?_ | refine χ3 ?_ | refine χ4 ?_ | refine κ5 ?_ | refine κ6 ?_ | refine χ5 ?_ | refine χ6 ?_ | refine χ7 ?_ | refine ω8 ?_
  refine wcondn rfl (by simp) ?_
  repeat first | refine ω1 ?_ | refine ω2 ?_ | refine ω3 ?_ | refine ω4 ?_ | refine ω5 ?_ | refine χ1 ?_ | refine κ1 ?_ | refine κ2 ?_ | refine χ2 ?_ | refine κ3 ?_ | refine ω6 ?_ | refine ω7 ?_ | refine ω9 ?_ | refine κ4 ?_ | refine κ7 ?_ | refine κ8 ?_ | refine χ3 ?_ | refine χ4 ?_ | refine κ5 ?_ | refine κ6 ?_ | refine χ5 ?_ | refine χ6 ?_ | refine χ7 ?_ | refine ω8 ?_
  refine wloop1 (fun k => [(0, .slice A r.length ac), (1, .slice B r.length bc), (5, .int .i64 ((k : Nat) : Int))]) (fun k w' => Ext w w' ∧ k ≤ r.length) (fun k => r.length - k) 0 (by repeat' (first | exact Sub.nil | refine Sub.cons rfl ?_)) ⟨Ext.refl w, Nat.zero_le _⟩ ?_
  rintro k w1 ⟨hx, hk⟩
  repeat first | refine ω1 ?_ | refine ω2 ?_ | refine ω3 ?_ | refine ω4 ?_ | refine ω5 ?_ | refine χ1 ?_ | refine κ1 ?_ | refine κ2 ?_ | refine χ2 ?_ | refine κ3 ?_ | refine ω6 ?_ | refine ω7 ?_ | refine ω9 ?_ | refine κ4 ?_ | refine κ7 ?_ | refine κ8 ?_ | refine χ3 ?_ | refine χ4 ?_ | refine κ5 ?_ | refine κ6 ?_ | refine χ5 ?_ | refine χ6 ?_ | refine χ7 ?_ | refine ω8 ?_
  refine ci (fun h => ?_) (fun h => ?_)
  · have hlt : k < r.length := by have := of_decide_eq_true h; omega
    have hxd := hx.trans ((Ext.refl w1).drew)
    have ha1 := ha.ext hxd
    have hb1 := hb.ext hxd
    repeat first | refine ω1 ?_ | refine ω2 ?_ | refine ω3 ?_ | refine ω4 ?_ | refine ω5 ?_ | refine χ1 ?_ | refine κ1 ?_ | refine κ2 ?_ | refine χ2 ?_ | refine κ3 ?_ | refine ω6 ?_ | refine ω7 ?_ | refine ω9 ?_ | refine κ4 ?_ | refine κ7 ?_ | refine κ8 ?_ | refine χ3 ?_ | refine χ4 ?_ | refine κ5 ?_ | refine κ6 ?_ | refine χ5 ?_ | refine χ6 ?_ | refine χ7 ?_ | refine ω8 ?_
    refine dr [(0, 0), (0, 1), (0, 2), (0, 3), (0, 4), (0, 5), (0, 6), (0, 7), (0, 8)] (by kernel_rfl) ?_
    repeat first | refine δ1 ?_ | refine δ2 ?_ | refine δ4 ?_ | refine δ5 ?_ | refine δ6 ?_ | refine δ7 ?_ | refine δ9 ?_ | refine δ8 ?_ | refine χ1 ?_ | refine χ2 ?_ | refine χ3 ?_ | refine χ4 ?_ | refine χ5 ?_ | refine χ6 ?_ | refine χ7 ?_
    refine dixq 3 k ha1 hlt ?_
    repeat first | refine δ1 ?_ | refine δ2 ?_ | refine δ4 ?_ | refine δ5 ?_ | refine δ6 ?_ | refine δ7 ?_ | refine δ9 ?_ | refine δ8 ?_ | refine χ1 ?_ | refine χ2 ?_ | refine χ3 ?_ | refine χ4 ?_ | refine χ5 ?_ | refine χ6 ?_ | refine χ7 ?_
    refine dlds (fun j u hu => RdR.cell ha1 hlt hu) ?_
    repeat first | refine δ1 ?_ | refine δ2 ?_ | refine δ4 ?_ | refine δ5 ?_ | refine δ6 ?_ | refine δ7 ?_ | refine δ9 ?_ | refine δ8 ?_ | refine χ1 ?_ | refine χ2 ?_ | refine χ3 ?_ | refine χ4 ?_ | refine χ5 ?_ | refine χ6 ?_ | refine χ7 ?_
    refine dixq 3 k hb1 hlt ?_
    repeat first | refine δ1 ?_ | refine δ2 ?_ | refine δ4 ?_ | refine δ5 ?_ | refine δ6 ?_ | refine δ7 ?_ | refine δ9 ?_ | refine δ8 ?_ | refine χ1 ?_ | refine χ2 ?_ | refine χ3 ?_ | refine χ4 ?_ | refine χ5 ?_ | refine χ6 ?_ | refine χ7 ?_
    refine dlds (fun j u hu => RdR.cell hb1 hlt hu) ?_
    repeat first | refine δ1 ?_ | refine δ2 ?_ | refine δ4 ?_ | refine δ5 ?_ | refine δ6 ?_ | refine δ7 ?_ | refine δ9 ?_ | refine δ8 ?_ | refine χ1 ?_ | refine χ2 ?_ | refine χ3 ?_ | refine χ4 ?_ | refine χ5 ?_ | refine χ6 ?_ | refine χ7 ?_
    refine dnes (by kernel_rfl) (neV (r.getD k V0) (r.getD k V0)) ?_
    repeat first | refine δ1 ?_ | refine δ2 ?_ | refine δ4 ?_ | refine δ5 ?_ | refine δ6 ?_ | refine δ7 ?_ | refine δ9 ?_ | refine δ8 ?_ | refine χ1 ?_ | refine χ2 ?_ | refine χ3 ?_ | refine χ4 ?_ | refine χ5 ?_ | refine χ6 ?_ | refine χ7 ?_
    refine wcondn rfl (by rw [eqv_refl]; rfl) ?_
    repeat first | refine ω1 ?_ | refine ω2 ?_ | refine ω3 ?_ | refine ω4 ?_ | refine ω5 ?_ | refine χ1 ?_ | refine κ1 ?_ | refine κ2 ?_ | refine χ2 ?_ | refine κ3 ?_ | refine ω6 ?_ | refine ω7 ?_ | refine ω9 ?_ | refine κ4 ?_ | refine κ7 ?_ | refine κ8 ?_ | refine χ3 ?_ | refine χ4 ?_ | refine κ5 ?_ | refine κ6 ?_ | refine χ5 ?_ | refine χ6 ?_ | refine χ7 ?_ | refine ω8 ?_
    exact qround1 (k + 1) (by repeat' (first | exact Sub.nil | refine Sub.cons rfl ?_)) ⟨hxd, by omega⟩ (by omega)
  · repeat first | refine ω1 ?_ | refine ω2 ?_ | refine ω3 ?_ | refine ω4 ?_ | refine ω5 ?_ | refine χ1 ?_ | refine κ1 ?_ | refine κ2 ?_ | refine χ2 ?_ | refine κ3 ?_ | refine ω6 ?_ | refine ω7 ?_ | refine ω9 ?_ | refine κ4 ?_ | refine κ7 ?_ | refine κ8 ?_ | refine χ3 ?_ | refine χ4 ?_ | refine κ5 ?_ | refine κ6 ?_ | refine χ5 ?_ | refine χ6 ?_ | refine χ7 ?_ | refine ω8 ?_
    exact fin1 ⟨rfl, hx⟩
end Go.Proofs.Ythjnmclnafbcdaa
