/- What the laws of chapter 47 build their inputs with: of, num, rows, great. -/
import Derived.Test.YtpahjnfolbnloaaDif3
set_option linter.unusedVariables false
namespace Go.Proofs.Ytpahjnfolbnloaa
open Go.RowKit Pl Go.Wk
attribute [local irreducible] WC WL QX WD WDB WP WG
def numW (n : Int) : V := ⟨1, n, ⟨#[]⟩⟩
theorem bldNumW (n : Int) (w : World) : (Instr.build 86 #[(0, .int .i64 1), (1, .int .i64 n)]).run Try.prog w = .ok (numW n).val w := by kernel_rfl
set_option maxRecDepth 100000 in
theorem num47_any (n : Int) (w : World) : Ret Try.prog 44 [.int .i64 n] w fun x w' => x = (numW n).val ∧ Ext w w' := by
  refine enterR Try.func44 Try.ntmps44 rfl (by kernel_rfl) rfl ?_
  repeat first | refine ω1 ?_ | refine ω2 ?_ | refine ω3 ?_ | refine ω4 ?_ | refine ω5 ?_ | refine χ1 ?_ | refine κ1 ?_ | refine κ2 ?_ | refine χ2 ?_ | refine κ3 ?_ | refine ω6 ?_ | refine ω7 ?_ | refine ω9 ?_ | refine κ4 ?_ | refine κ7 ?_ | refine κ8 ?_ | refine χ3 ?_ | refine χ4 ?_ | refine κ5 ?_ | refine κ6 ?_ | refine χ5 ?_ | refine χ6 ?_ | refine χ7 ?_ | refine ω8 ?_
  refine alc (cs := [.int .i64 0, .int .i64 0, .string ⟨#[]⟩]) zVal ?_
  intro w1 b hx1 hb1 hk1
  repeat first | refine ω1 ?_ | refine ω2 ?_ | refine ω3 ?_ | refine ω4 ?_ | refine ω5 ?_ | refine χ1 ?_ | refine κ1 ?_ | refine κ2 ?_ | refine χ2 ?_ | refine κ3 ?_ | refine ω6 ?_ | refine ω7 ?_ | refine ω9 ?_ | refine κ4 ?_ | refine κ7 ?_ | refine κ8 ?_ | refine χ3 ?_ | refine χ4 ?_ | refine κ5 ?_ | refine κ6 ?_ | refine χ5 ?_ | refine χ6 ?_ | refine χ7 ?_ | refine ω8 ?_
  refine bld (bldNumW n _) ?_
  repeat first | refine ω1 ?_ | refine ω2 ?_ | refine ω3 ?_ | refine ω4 ?_ | refine ω5 ?_ | refine χ1 ?_ | refine κ1 ?_ | refine κ2 ?_ | refine χ2 ?_ | refine κ3 ?_ | refine ω6 ?_ | refine ω7 ?_ | refine ω9 ?_ | refine κ4 ?_ | refine κ7 ?_ | refine κ8 ?_ | refine χ3 ?_ | refine χ4 ?_ | refine κ5 ?_ | refine κ6 ?_ | refine χ5 ?_ | refine χ6 ?_ | refine χ7 ?_ | refine ω8 ?_
  refine stb hk1 (cs' := (numW n).cells) ?_ (V.one _)
  intro w2 hk2 hg2 hx2
  repeat first | refine ω1 ?_ | refine ω2 ?_ | refine ω3 ?_ | refine ω4 ?_ | refine ω5 ?_ | refine χ1 ?_ | refine κ1 ?_ | refine κ2 ?_ | refine χ2 ?_ | refine κ3 ?_ | refine ω6 ?_ | refine ω7 ?_ | refine ω9 ?_ | refine κ4 ?_ | refine κ7 ?_ | refine κ8 ?_ | refine χ3 ?_ | refine χ4 ?_ | refine κ5 ?_ | refine κ6 ?_ | refine χ5 ?_ | refine χ6 ?_ | refine χ7 ?_ | refine ω8 ?_
  exact finC1 hk2 ⟨rfl, hx2 w hx1 hb1⟩
set_option maxRecDepth 100000 in
theorem of47_any {n : Nat} (h : n ≤ 1100000) (w : World) : Ret Try.prog 38 [.int .i64 (n : Int)] w fun x w' => NatV w' x n ∧ Fresh w x ∧ Ext w w' := by
  refine enterR Try.func38 Try.ntmps38 rfl (by kernel_rfl) rfl ?_
  repeat first | refine ω1 ?_ | refine ω2 ?_ | refine ω3 ?_ | refine ω4 ?_ | refine ω5 ?_ | refine χ1 ?_ | refine κ1 ?_ | refine κ2 ?_ | refine χ2 ?_ | refine κ3 ?_ | refine ω6 ?_ | refine ω7 ?_ | refine ω9 ?_ | refine κ4 ?_ | refine κ7 ?_ | refine κ8 ?_ | refine χ3 ?_ | refine χ4 ?_ | refine κ5 ?_ | refine κ6 ?_ | refine χ5 ?_ | refine χ6 ?_ | refine χ7 ?_ | refine ω8 ?_
  rw [u64c _ h]
  refine cl (natOfF_any n (by omega) _) ?_
  rintro x w1 ⟨h1, h2, h3⟩
  repeat first | refine ω1 ?_ | refine ω2 ?_ | refine ω3 ?_ | refine ω4 ?_ | refine ω5 ?_ | refine χ1 ?_ | refine κ1 ?_ | refine κ2 ?_ | refine χ2 ?_ | refine κ3 ?_ | refine ω6 ?_ | refine ω7 ?_ | refine ω9 ?_ | refine κ4 ?_ | refine κ7 ?_ | refine κ8 ?_ | refine χ3 ?_ | refine χ4 ?_ | refine κ5 ?_ | refine κ6 ?_ | refine χ5 ?_ | refine χ6 ?_ | refine χ7 ?_ | refine ω8 ?_
  exact fin1 ⟨h1, h2, h3⟩
/-- pairs of bytes in memory -/
def pairC (l : List (UInt8 × UInt8)) : List Value := l.flatMap fun p => [.int .u8 (p.1.toNat : Int), .int .u8 (p.2.toNat : Int)]
theorem pairC_get : ∀ (l : List (UInt8 × UInt8)) (i j : Nat), i < l.length → j < 2 → (pairC l)[i * 2 + j]? = [Value.int .u8 ((l.getD i (0, 0)).1.toNat : Int), .int .u8 ((l.getD i (0, 0)).2.toNat : Int)][j]?
  | [], i, j, h, _ => by simp at h
  | p :: l, 0, j, _, hj => by
    simp only [pairC, List.flatMap_cons, Nat.zero_mul, Nat.zero_add, List.getD_cons_zero]
    rw [List.getElem?_append_left (by simp; omega)]
  | p :: l, i + 1, j, h, hj => by
    have ih := pairC_get l i j (by simpa using h) hj
    simp only [pairC, List.flatMap_cons, List.getD_cons_succ] at ih ⊢
    rw [List.getElem?_append_right (by simp; omega), ← ih]
    congr 1
    simp; omega
def PairsG (w : World) (v : Value) (l : List (UInt8 × UInt8)) : Prop := ∃ A c, v = .slice A l.length c ∧ l.length ≤ c ∧ l.length ≤ 9223372036854775807 ∧ Rd w 2 A l.length (pairC l)
theorem PairsG.ext {w w' : World} {v : Value} {l : List (UInt8 × UInt8)} (h : PairsG w v l) (hx : Ext w w') : PairsG w' v l := by obtain ⟨A, c, h1, h2, h3, h4⟩ := h; exact ⟨A, c, h1, h2, h3, h4.ext hx⟩
def pRow (p : UInt8 × UInt8) : Row := [numW (p.1.toNat : Int), numW (p.2.toNat : Int)]
theorem bs2W (a b : V) (w : World) : (Instr.buildSlice 25 2 #[(0, a.val), (1, b.val)]).run Try.prog w = .ok (.slice (some ⟨w.heap.size, 0, none⟩) 2 2) (w.alloc (.cells (rowC [a, b]).toArray 86)) := by kernel_rfl
theorem u8i64 (x : UInt8) : IntKind.i64.wrap (x.toNat : Int) = (x.toNat : Int) := by
  have : x.toNat < 256 := x.toNat_lt
  exact i64w (by omega)
set_option maxRecDepth 100000 in
theorem rows47_any {v : Value} {l : List (UInt8 × UInt8)} {w : World} (h : PairsG w v l) (hl : l.length ≤ 1000000) : Ret Try.prog 30 [v] w fun x w' => RowsV w' x (l.map pRow) ∧ Ext w w' := by
  obtain ⟨A, c, rfl, hc, hm, hrd⟩ := h
  refine enterR Try.func30 Try.ntmps30 rfl (by kernel_rfl) rfl ?_
  repeat first | refine ω1 ?_ | refine ω2 ?_ | refine ω3 ?_ | refine ω4 ?_ | refine ω5 ?_ | refine χ1 ?_ | refine κ1 ?_ | refine κ2 ?_ | refine χ2 ?_ | refine κ3 ?_ | refine ω6 ?_ | refine ω7 ?_ | refine ω9 ?_ | refine κ4 ?_ | refine κ7 ?_ | refine κ8 ?_ | refine χ3 ?_ | refine χ4 ?_ | refine κ5 ?_ | refine κ6 ?_ | refine χ5 ?_ | refine χ6 ?_ | refine χ7 ?_ | refine ω8 ?_
  refine wloop3 (fun (k : Nat) (v3 : Value) (qs : List Pr) => [(0, .slice A l.length c), (3, v3), (4, .int .i64 ((k : Nat) : Int))])
    (fun k v3 qs w' => Ext w w' ∧ k ≤ l.length ∧ OwnR w' w.heap.size v3 (qs.map (·.2)) ∧ qs.map (·.2) = (l.take k).map pRow) (fun k _ _ => l.length - k) 0 (.slice none 0 0) [] (by repeat' (first | exact Sub.nil | refine Sub.cons rfl ?_))
    ⟨Ext.refl w, Nat.zero_le _, OwnR.nil _ _, by simp⟩ ?_
  rintro k v3 qs w1 ⟨hx1, hk, ho1, hq1⟩
  repeat first | refine ω1 ?_ | refine ω2 ?_ | refine ω3 ?_ | refine ω4 ?_ | refine ω5 ?_ | refine χ1 ?_ | refine κ1 ?_ | refine κ2 ?_ | refine χ2 ?_ | refine κ3 ?_ | refine ω6 ?_ | refine ω7 ?_ | refine ω9 ?_ | refine κ4 ?_ | refine κ7 ?_ | refine κ8 ?_ | refine χ3 ?_ | refine χ4 ?_ | refine κ5 ?_ | refine κ6 ?_ | refine χ5 ?_ | refine χ6 ?_ | refine χ7 ?_ | refine ω8 ?_
  refine ci (fun h => ?_) (fun h => ?_)
  · have hlt : k < l.length := by have := of_decide_eq_true h; omega
    have g0 : (pairC l)[k * 2 + 0]? = some (.int .u8 ((l.getD k (0, 0)).1.toNat : Int)) := pairC_get l k 0 hlt (by omega)
    have g1 : (pairC l)[k * 2 + 1]? = some (.int .u8 ((l.getD k (0, 0)).2.toNat : Int)) := pairC_get l k 1 hlt (by omega)
    have hxd : Ext w1 w1.drew := (Ext.refl w1).drew
    have hx1d := hx1.trans hxd
    have hrd1 := hrd.ext hx1d
    have c0 : w1.drew.cell? ((adr A (k * 2)).add 0) = some (.int .u8 ((l.getD k (0, 0)).1.toNat : Int)) := by rw [adr_add]; exact hrd1.cell g0
    have c1 : w1.drew.cell? ((adr A (k * 2)).add 1) = some (.int .u8 ((l.getD k (0, 0)).2.toNat : Int)) := by rw [adr_add]; exact hrd1.cell g1
    have hql : (qs.map (·.2)).length = k := by rw [hq1]; simp; omega
    repeat first | refine ω1 ?_ | refine ω2 ?_ | refine ω3 ?_ | refine ω4 ?_ | refine ω5 ?_ | refine χ1 ?_ | refine κ1 ?_ | refine κ2 ?_ | refine χ2 ?_ | refine κ3 ?_ | refine ω6 ?_ | refine ω7 ?_ | refine ω9 ?_ | refine κ4 ?_ | refine κ7 ?_ | refine κ8 ?_ | refine χ3 ?_ | refine χ4 ?_ | refine κ5 ?_ | refine κ6 ?_ | refine χ5 ?_ | refine χ6 ?_ | refine χ7 ?_ | refine ω8 ?_
    refine drC 8 [0, 1, 2, 8, 9] [(0, 3), (0, 4), (0, 5), (0, 6), (0, 10), (0, 11), (0, 12), (0, 13), (1, 7), (1, 14), (1, 15), (1, 16), (2, 17), (2, 18)] (by kernel_rfl) ?_
    repeat first | refine π1 ?_ | refine π2 ?_ | refine π4 ?_ | refine π5 ?_
    repeat first | refine δ1 ?_ | refine δ2 ?_ | refine δ4 ?_ | refine δ5 ?_ | refine δ6 ?_ | refine δ7 ?_ | refine δ9 ?_ | refine δ8 ?_ | refine χ1 ?_ | refine χ2 ?_ | refine χ3 ?_ | refine χ4 ?_ | refine χ5 ?_ | refine χ6 ?_ | refine χ7 ?_
    refine dixq 2 k hrd1 hlt ?_
    repeat first | refine δ1 ?_ | refine δ2 ?_ | refine δ4 ?_ | refine δ5 ?_ | refine δ6 ?_ | refine δ7 ?_ | refine δ9 ?_ | refine δ8 ?_ | refine χ1 ?_ | refine χ2 ?_ | refine χ3 ?_ | refine χ4 ?_ | refine χ5 ?_ | refine χ6 ?_ | refine χ7 ?_
    refine dixa 0 ?_
    repeat first | refine δ1 ?_ | refine δ2 ?_ | refine δ4 ?_ | refine δ5 ?_ | refine δ6 ?_ | refine δ7 ?_ | refine δ9 ?_ | refine δ8 ?_ | refine χ1 ?_ | refine χ2 ?_ | refine χ3 ?_ | refine χ4 ?_ | refine χ5 ?_ | refine χ6 ?_ | refine χ7 ?_
    refine dld c0 ?_
    repeat first | refine δ1 ?_ | refine δ2 ?_ | refine δ4 ?_ | refine δ5 ?_ | refine δ6 ?_ | refine δ7 ?_ | refine δ9 ?_ | refine δ8 ?_ | refine χ1 ?_ | refine χ2 ?_ | refine χ3 ?_ | refine χ4 ?_ | refine χ5 ?_ | refine χ6 ?_ | refine χ7 ?_
    refine dixq 2 k hrd1 hlt ?_
    repeat first | refine δ1 ?_ | refine δ2 ?_ | refine δ4 ?_ | refine δ5 ?_ | refine δ6 ?_ | refine δ7 ?_ | refine δ9 ?_ | refine δ8 ?_ | refine χ1 ?_ | refine χ2 ?_ | refine χ3 ?_ | refine χ4 ?_ | refine χ5 ?_ | refine χ6 ?_ | refine χ7 ?_
    refine dixa 1 ?_
    repeat first | refine δ1 ?_ | refine δ2 ?_ | refine δ4 ?_ | refine δ5 ?_ | refine δ6 ?_ | refine δ7 ?_ | refine δ9 ?_ | refine δ8 ?_ | refine χ1 ?_ | refine χ2 ?_ | refine χ3 ?_ | refine χ4 ?_ | refine χ5 ?_ | refine χ6 ?_ | refine χ7 ?_
    refine dld c1 ?_
    repeat first | refine δ1 ?_ | refine δ2 ?_ | refine δ4 ?_ | refine δ5 ?_ | refine δ6 ?_ | refine δ7 ?_ | refine δ9 ?_ | refine δ8 ?_ | refine χ1 ?_ | refine χ2 ?_ | refine χ3 ?_ | refine χ4 ?_ | refine χ5 ?_ | refine χ6 ?_ | refine χ7 ?_
    rw [u8i64, u8i64]
    refine dcl (num47_any _ _) ?_
    rintro x w2 ⟨rfl, hx2⟩
    refine ⟨hx2, ?_⟩
    repeat first | refine δ1 ?_ | refine δ2 ?_ | refine δ4 ?_ | refine δ5 ?_ | refine δ6 ?_ | refine δ7 ?_ | refine δ9 ?_ | refine δ8 ?_ | refine χ1 ?_ | refine χ2 ?_ | refine χ3 ?_ | refine χ4 ?_ | refine χ5 ?_ | refine χ6 ?_ | refine χ7 ?_
    refine dcl (num47_any _ _) ?_
    rintro x w3 ⟨rfl, hx3⟩
    refine ⟨hx3, ?_⟩
    repeat first | refine δ1 ?_ | refine δ2 ?_ | refine δ4 ?_ | refine δ5 ?_ | refine δ6 ?_ | refine δ7 ?_ | refine δ9 ?_ | refine δ8 ?_ | refine χ1 ?_ | refine χ2 ?_ | refine χ3 ?_ | refine χ4 ?_ | refine χ5 ?_ | refine χ6 ?_ | refine χ7 ?_
    refine dbsl (bs2W _ _) ?_
    intro w4 b4 hx4 hb4 hk4
    repeat first | refine δ1 ?_ | refine δ2 ?_ | refine δ4 ?_ | refine δ5 ?_ | refine δ6 ?_ | refine δ7 ?_ | refine δ9 ?_ | refine δ8 ?_ | refine χ1 ?_ | refine χ2 ?_ | refine χ3 ?_ | refine χ4 ?_ | refine χ5 ?_ | refine χ6 ?_ | refine χ7 ?_
    refine dbsl (fun w => bs1Row _ w (some ⟨b4, 0, none⟩) 2 2 rfl) ?_
    intro w5 b5 hx5 hb5 hk5
    have hx15 := (((hxd.trans hx2).trans hx3).trans hx4).trans hx5
    have hro : RowX w5 (own w.heap.size v3) (.slice (some ⟨b4, 0, none⟩) 2 2) (pRow (l.getD k (0, 0))) := by
      refine ⟨some ⟨b4, 0, none⟩, 2, rfl, by simp [pRow], by simp [pRow], (hk4.rd (n := 2) (sz := 3) rfl).ext hx5, fun _ ad e hn => ?_⟩
      injection e with e
      subst e
      have hs : w1.heap.size ≤ b4 := Nat.le_trans ((hxd.trans hx2).trans hx3).size hb4
      rcases hn with hn | hn
      · have := hx1.size; simp only at hn; omega
      · have := (ho1.lt _ hn).2; simp only at this; omega
    repeat first | refine δ1 ?_ | refine δ2 ?_ | refine δ4 ?_ | refine δ5 ?_ | refine δ6 ?_ | refine δ7 ?_ | refine δ9 ?_ | refine δ8 ?_ | refine χ1 ?_ | refine χ2 ?_ | refine χ3 ?_ | refine χ4 ?_ | refine χ5 ?_ | refine χ6 ?_ | refine χ7 ?_
    refine dtail ?_
    refine appR (a := w) (hx1.trans hx15) ER (ho1.ext hx15) hk5 hro (by omega) ?_
    intro v6 w6 ho6 hx6 _
    repeat first | refine ω1 ?_ | refine ω2 ?_ | refine ω3 ?_ | refine ω4 ?_ | refine ω5 ?_ | refine χ1 ?_ | refine κ1 ?_ | refine κ2 ?_ | refine χ2 ?_ | refine κ3 ?_ | refine ω6 ?_ | refine ω7 ?_ | refine ω9 ?_ | refine κ4 ?_ | refine κ7 ?_ | refine κ8 ?_ | refine χ3 ?_ | refine χ4 ?_ | refine κ5 ?_ | refine κ6 ?_ | refine χ5 ?_ | refine χ6 ?_ | refine χ7 ?_ | refine ω8 ?_
    refine dback ?_
    refine dtail ?_
    repeat first | refine ω1 ?_ | refine ω2 ?_ | refine ω3 ?_ | refine ω4 ?_ | refine ω5 ?_ | refine χ1 ?_ | refine κ1 ?_ | refine κ2 ?_ | refine χ2 ?_ | refine κ3 ?_ | refine ω6 ?_ | refine ω7 ?_ | refine ω9 ?_ | refine κ4 ?_ | refine κ7 ?_ | refine κ8 ?_ | refine χ3 ?_ | refine χ4 ?_ | refine κ5 ?_ | refine κ6 ?_ | refine χ5 ?_ | refine χ6 ?_ | refine χ7 ?_ | refine ω8 ?_
    refine qround3 (k + 1) v6 (qs ++ [(.slice (some ⟨b4, 0, none⟩) 2 2, pRow (l.getD k (0, 0)))]) (by repeat' (first | exact Sub.nil | refine Sub.cons rfl ?_)) ⟨hx6, by omega, by simpa using ho6, ?_⟩ (by omega)
    have e9 : l.take (k + 1) = l.take k ++ [l.getD k (0, 0)] := by rw [List.take_succ_eq_append_getElem hlt]; simp [List.getD, List.getElem?_eq_getElem hlt]
    rw [List.map_append, hq1, e9, List.map_append]; rfl
  · have hkn : k = l.length := by have := of_decide_eq_false h; omega
    subst hkn
    repeat first | refine ω1 ?_ | refine ω2 ?_ | refine ω3 ?_ | refine ω4 ?_ | refine ω5 ?_ | refine χ1 ?_ | refine κ1 ?_ | refine κ2 ?_ | refine χ2 ?_ | refine κ3 ?_ | refine ω6 ?_ | refine ω7 ?_ | refine ω9 ?_ | refine κ4 ?_ | refine κ7 ?_ | refine κ8 ?_ | refine χ3 ?_ | refine χ4 ?_ | refine κ5 ?_ | refine κ6 ?_ | refine χ5 ?_ | refine χ6 ?_ | refine χ7 ?_ | refine ω8 ?_
    refine fin1 ⟨?_, hx1⟩
    rw [List.take_length] at hq1
    rw [← hq1]
    exact ho1.rows (by rw [hq1]; simp; omega)
def SetsG (w : World) (v : Value) (a b : List (UInt8 × UInt8)) : Prop := ∃ x y, v = .agg #[x, y] ∧ PairsG w x a ∧ PairsG w y b
def BlsG (w : World) (v : Value) (ds : List Bool) : Prop := ∃ A c, v = .slice A ds.length c ∧ ds.length ≤ c ∧ ds.length ≤ 9223372036854775807 ∧ RdB w A ds
theorem BlsG.v {w : World} {v : Value} {ds : List Bool} (h : BlsG w v ds) (hl : ds.length ≤ 1100000) : BoolsV w v ds := by obtain ⟨A, c, h1, h2, h3, h4⟩ := h; exact ⟨A, c, h1, h2, hl, h4⟩
theorem BlsG.ext {w w' : World} {v : Value} {ds : List Bool} (h : BlsG w v ds) (hx : Ext w w') : BlsG w' v ds := by obtain ⟨A, c, h1, h2, h3, h4⟩ := h; exact ⟨A, c, h1, h2, h3, h4.ext hx⟩
theorem BlsG.nil (w : World) : BlsG w (.slice none 0 0) [] := ⟨none, 0, rfl, by simp, by simp, Rd.nil⟩
theorem SetsG.ext {w w' : World} {v : Value} {a b : List (UInt8 × UInt8)} (h : SetsG w v a b) (hx : Ext w w') : SetsG w' v a b := by obtain ⟨x, y, h1, h2, h3⟩ := h; exact ⟨x, y, h1, h2.ext hx, h3.ext hx⟩
set_option maxRecDepth 100000 in
theorem great47_any {v vd : Value} {a b : List (UInt8 × UInt8)} {ds : List Bool} {w : World} (h : SetsG w v a b) (hd : BlsG w vd ds) :
    Ret Try.prog 27 [v, vd] w fun x w' => x = .bool (decide (40 < a.length) || decide (40 < b.length) || decide (10 < ds.length)) ∧ Ext w w' := by
  obtain ⟨x, y, rfl, ⟨A, c, rfl, _⟩, ⟨B, e, rfl, _⟩⟩ := h
  obtain ⟨D, dc, rfl, _⟩ := hd
  refine enterR Try.func27 Try.ntmps27 rfl (by kernel_rfl) rfl ?_
  repeat first | refine ω1 ?_ | refine ω2 ?_ | refine ω3 ?_ | refine ω4 ?_ | refine ω5 ?_ | refine χ1 ?_ | refine κ1 ?_ | refine κ2 ?_ | refine χ2 ?_ | refine κ3 ?_ | refine ω6 ?_ | refine ω7 ?_ | refine ω9 ?_ | refine κ4 ?_ | refine κ7 ?_ | refine κ8 ?_ | refine χ3 ?_ | refine χ4 ?_ | refine κ5 ?_ | refine κ6 ?_ | refine χ5 ?_ | refine χ6 ?_ | refine χ7 ?_ | refine ω8 ?_
  refine bx ?_
  intro w1 b1 hx1 hb1 hk1
  repeat first | refine ω1 ?_ | refine ω2 ?_ | refine ω3 ?_ | refine ω4 ?_ | refine ω5 ?_ | refine χ1 ?_ | refine κ1 ?_ | refine κ2 ?_ | refine χ2 ?_ | refine κ3 ?_ | refine ω6 ?_ | refine ω7 ?_ | refine ω9 ?_ | refine κ4 ?_ | refine κ7 ?_ | refine κ8 ?_ | refine χ3 ?_ | refine χ4 ?_ | refine κ5 ?_ | refine κ6 ?_ | refine χ5 ?_ | refine χ6 ?_ | refine χ7 ?_ | refine ω8 ?_
  refine ld (hk1.at rfl) ?_
  repeat first | refine ω1 ?_ | refine ω2 ?_ | refine ω3 ?_ | refine ω4 ?_ | refine ω5 ?_ | refine χ1 ?_ | refine κ1 ?_ | refine κ2 ?_ | refine χ2 ?_ | refine κ3 ?_ | refine ω6 ?_ | refine ω7 ?_ | refine ω9 ?_ | refine κ4 ?_ | refine κ7 ?_ | refine κ8 ?_ | refine χ3 ?_ | refine χ4 ?_ | refine κ5 ?_ | refine κ6 ?_ | refine χ5 ?_ | refine χ6 ?_ | refine χ7 ?_ | refine ω8 ?_
  have e1 : ∀ n m : Nat, decide ((n : Int) < (m : Int)) = decide (n < m) := fun n m => by rw [Bool.eq_iff_iff, decide_eq_true_iff, decide_eq_true_iff]; omega
  refine ki 9 (fun h => ?_) (fun h => ?_)
  · have h1 : 40 < a.length := by have := of_decide_eq_true h; omega
    repeat first | refine ω1 ?_ | refine ω2 ?_ | refine ω3 ?_ | refine ω4 ?_ | refine ω5 ?_ | refine χ1 ?_ | refine κ1 ?_ | refine κ2 ?_ | refine χ2 ?_ | refine κ3 ?_ | refine ω6 ?_ | refine ω7 ?_ | refine ω9 ?_ | refine κ4 ?_ | refine κ7 ?_ | refine κ8 ?_ | refine χ3 ?_ | refine χ4 ?_ | refine κ5 ?_ | refine κ6 ?_ | refine χ5 ?_ | refine χ6 ?_ | refine χ7 ?_ | refine ω8 ?_
    refine fin1 ⟨?_, hx1⟩
    rw [decide_eq_true h1]; rfl
  · have h1 : ¬ 40 < a.length := by have := of_decide_eq_false h; omega
    repeat first | refine ω1 ?_ | refine ω2 ?_ | refine ω3 ?_ | refine ω4 ?_ | refine ω5 ?_ | refine χ1 ?_ | refine κ1 ?_ | refine κ2 ?_ | refine χ2 ?_ | refine κ3 ?_ | refine ω6 ?_ | refine ω7 ?_ | refine ω9 ?_ | refine κ4 ?_ | refine κ7 ?_ | refine κ8 ?_ | refine χ3 ?_ | refine χ4 ?_ | refine κ5 ?_ | refine κ6 ?_ | refine χ5 ?_ | refine χ6 ?_ | refine χ7 ?_ | refine ω8 ?_
    refine ld (hk1.at rfl) ?_
    repeat first | refine ω1 ?_ | refine ω2 ?_ | refine ω3 ?_ | refine ω4 ?_ | refine ω5 ?_ | refine χ1 ?_ | refine κ1 ?_ | refine κ2 ?_ | refine χ2 ?_ | refine κ3 ?_ | refine ω6 ?_ | refine ω7 ?_ | refine ω9 ?_ | refine κ4 ?_ | refine κ7 ?_ | refine κ8 ?_ | refine χ3 ?_ | refine χ4 ?_ | refine κ5 ?_ | refine κ6 ?_ | refine χ5 ?_ | refine χ6 ?_ | refine χ7 ?_ | refine ω8 ?_
    refine ki 15 (fun h => ?_) (fun h => ?_)
    · have h2 : 40 < b.length := by have := of_decide_eq_true h; omega
      repeat first | refine ω1 ?_ | refine ω2 ?_ | refine ω3 ?_ | refine ω4 ?_ | refine ω5 ?_ | refine χ1 ?_ | refine κ1 ?_ | refine κ2 ?_ | refine χ2 ?_ | refine κ3 ?_ | refine ω6 ?_ | refine ω7 ?_ | refine ω9 ?_ | refine κ4 ?_ | refine κ7 ?_ | refine κ8 ?_ | refine χ3 ?_ | refine χ4 ?_ | refine κ5 ?_ | refine κ6 ?_ | refine χ5 ?_ | refine χ6 ?_ | refine χ7 ?_ | refine ω8 ?_
      refine fin1 ⟨?_, hx1⟩
      rw [decide_eq_true h2, Bool.or_true]; rfl
    · have h2 : ¬ 40 < b.length := by have := of_decide_eq_false h; omega
      repeat first | refine ω1 ?_ | refine ω2 ?_ | refine ω3 ?_ | refine ω4 ?_ | refine ω5 ?_ | refine χ1 ?_ | refine κ1 ?_ | refine κ2 ?_ | refine χ2 ?_ | refine κ3 ?_ | refine ω6 ?_ | refine ω7 ?_ | refine ω9 ?_ | refine κ4 ?_ | refine κ7 ?_ | refine κ8 ?_ | refine χ3 ?_ | refine χ4 ?_ | refine κ5 ?_ | refine κ6 ?_ | refine χ5 ?_ | refine χ6 ?_ | refine χ7 ?_ | refine ω8 ?_
      refine fin1 ⟨?_, hx1⟩
      rw [decide_eq_false h1, decide_eq_false h2, Bool.false_or, Bool.false_or]
      exact congrArg Value.bool (by rw [Bool.eq_iff_iff, decide_eq_true_iff, decide_eq_true_iff]; omega)
end Go.Proofs.Ytpahjnfolbnloaa
