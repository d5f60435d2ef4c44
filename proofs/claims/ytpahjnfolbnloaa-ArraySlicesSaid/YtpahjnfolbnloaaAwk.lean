/- The example that the array laws check. -/
import Derived.Test.YtpahjnfolbnloaaArr7
import Derived.Test.YtpahjnfolbnloaaRef43
import Derived.Test.YtpahjnfolbnloaaRegG
set_option linter.unusedVariables false
namespace Go.Proofs.Ytpahjnfolbnloaa
open Go.RowKit Pl Go.Wk
attribute [local irreducible] WC WL QX WD WDB WP WG
def numV (n : Int) : V := ⟨1, n, ⟨#[]⟩⟩
theorem bldNum (n : Int) (w : World) : (Instr.build 86 #[(0, .int .i64 1), (1, .int .i64 n)]).run Try.prog w = .ok (numV n).val w := by kernel_rfl
set_option maxRecDepth 100000 in
theorem num43_any (n : Int) (w : World) : Ret Try.prog 48 [.int .i64 n] w fun x w' => x = (numV n).val ∧ Ext w w' := by
  refine enterR Try.func48 Try.ntmps48 rfl (by kernel_rfl) rfl ?_
  repeat first | refine ω1 ?_ | refine ω2 ?_ | refine ω3 ?_ | refine ω4 ?_ | refine ω5 ?_ | refine χ1 ?_ | refine κ1 ?_ | refine κ2 ?_ | refine χ2 ?_ | refine κ3 ?_ | refine ω6 ?_ | refine ω7 ?_ | refine ω9 ?_ | refine κ4 ?_ | refine κ7 ?_ | refine κ8 ?_ | refine χ3 ?_ | refine χ4 ?_ | refine κ5 ?_ | refine κ6 ?_ | refine χ5 ?_ | refine χ6 ?_ | refine χ7 ?_ | refine ω8 ?_
  refine alc (cs := [.int .i64 0, .int .i64 0, .string ⟨#[]⟩]) zVal ?_
  intro w1 b hx1 hb1 hk1
  repeat first | refine ω1 ?_ | refine ω2 ?_ | refine ω3 ?_ | refine ω4 ?_ | refine ω5 ?_ | refine χ1 ?_ | refine κ1 ?_ | refine κ2 ?_ | refine χ2 ?_ | refine κ3 ?_ | refine ω6 ?_ | refine ω7 ?_ | refine ω9 ?_ | refine κ4 ?_ | refine κ7 ?_ | refine κ8 ?_ | refine χ3 ?_ | refine χ4 ?_ | refine κ5 ?_ | refine κ6 ?_ | refine χ5 ?_ | refine χ6 ?_ | refine χ7 ?_ | refine ω8 ?_
  refine bld (bldNum n _) ?_
  repeat first | refine ω1 ?_ | refine ω2 ?_ | refine ω3 ?_ | refine ω4 ?_ | refine ω5 ?_ | refine χ1 ?_ | refine κ1 ?_ | refine κ2 ?_ | refine χ2 ?_ | refine κ3 ?_ | refine ω6 ?_ | refine ω7 ?_ | refine ω9 ?_ | refine κ4 ?_ | refine κ7 ?_ | refine κ8 ?_ | refine χ3 ?_ | refine χ4 ?_ | refine κ5 ?_ | refine κ6 ?_ | refine χ5 ?_ | refine χ6 ?_ | refine χ7 ?_ | refine ω8 ?_
  refine stb hk1 (cs' := (numV n).cells) ?_ (V.one _)
  intro w2 hk2 hg2 hx2
  repeat first | refine ω1 ?_ | refine ω2 ?_ | refine ω3 ?_ | refine ω4 ?_ | refine ω5 ?_ | refine χ1 ?_ | refine κ1 ?_ | refine κ2 ?_ | refine χ2 ?_ | refine κ3 ?_ | refine ω6 ?_ | refine ω7 ?_ | refine ω9 ?_ | refine κ4 ?_ | refine κ7 ?_ | refine κ8 ?_ | refine χ3 ?_ | refine χ4 ?_ | refine κ5 ?_ | refine κ6 ?_ | refine χ5 ?_ | refine χ6 ?_ | refine χ7 ?_ | refine ω8 ?_
  exact finC1 hk2 ⟨rfl, hx2 w hx1 hb1⟩
theorem bs2V (a b : V) (w : World) : (Instr.buildSlice 25 2 #[(0, a.val), (1, b.val)]).run Try.prog w = .ok (.slice (some ⟨w.heap.size, 0, none⟩) 2 2) (w.alloc (.cells (rowC [a, b]).toArray 86)) := by kernel_rfl
theorem bs3R (v1 v2 v3 : Value) (A1 A2 A3 : Option Addr) (n1 n2 n3 c1 c2 c3 : Nat) (h1 : v1 = .slice A1 n1 c1) (h2 : v2 = .slice A2 n2 c2) (h3 : v3 = .slice A3 n3 c3) (w : World) : (Instr.buildSlice 22 3 #[(0, v1), (1, v2), (2, v3)]).run Try.prog w = .ok (.slice (some ⟨w.heap.size, 0, none⟩) 3 3) (w.alloc (.cells [v1, v2, v3].toArray 25)) := by
  subst h1; subst h2; subst h3; kernel_rfl
theorem bs2R (v1 v2 : Value) (A1 A2 : Option Addr) (n1 n2 c1 c2 : Nat) (h1 : v1 = .slice A1 n1 c1) (h2 : v2 = .slice A2 n2 c2) (w : World) : (Instr.buildSlice 22 2 #[(0, v1), (1, v2)]).run Try.prog w = .ok (.slice (some ⟨w.heap.size, 0, none⟩) 2 2) (w.alloc (.cells [v1, v2].toArray 25)) := by
  subst h1; subst h2; kernel_rfl
theorem bs2I (a b : Int) (w : World) : (Instr.buildSlice 73 2 #[(0, .int .i64 a), (1, .int .i64 b)]).run Try.prog w = .ok (.slice (some ⟨w.heap.size, 0, none⟩) 2 2) (w.alloc (.cells [Value.int .i64 a, .int .i64 b].toArray 3)) := by kernel_rfl
/-- a row that is a literal -/
theorem litRow {w : World} {b : Nat} {r : Row} (h : Blk w b 86 (rowC r)) (hl : r.length ≤ 1100000) : RowV w (.slice (some ⟨b, 0, none⟩) r.length r.length) r := ⟨some ⟨b, 0, none⟩, r.length, rfl, Nat.le_refl _, hl, h.rd (rowC_len r)⟩
/-- rows that are a literal -/
theorem litRows {w : World} {b : Nat} (ps : List Pr) (h : Blk w b 25 (ps.map (·.1))) (hr : ∀ p ∈ ps, RowV w p.1 p.2) (hl : ps.length ≤ 1100000) : RowsV w (.slice (some ⟨b, 0, none⟩) ps.length ps.length) (ps.map (·.2)) := ⟨ps, some ⟨b, 0, none⟩, ps.length, rfl, rfl, Nat.le_refl _, hl, h.rd (by simp), hr⟩
/-- an agreed value in a box -/
theorem RowsA.cells {w : World} {v : Value} {ds : List Bool} {m : List Row} (h : RowsA w v ds m) : ∃ v1 v2, v = .agg #[v1, v2] ∧ (∀ u ∈ [v1, v2], u.oneCell' = true) := by
  obtain ⟨v1, v2, rfl, h1, h2⟩ := h
  obtain ⟨_, _, _, rfl⟩ := h1.slc
  obtain ⟨_, _, _, rfl⟩ := h2.slc
  exact ⟨_, _, rfl, fun u hu => by simp at hu; rcases hu with rfl | rfl <;> rfl⟩
def ex1 : Row := [numV 2, numV 1]
def ex2 : Row := [numV 1, numV 5]
theorem exSet : IsSet [] [ex1, ex2, ex1] [ex2, ex1] := by
  refine ⟨?_, fun x => by simp; exact fun h => .inr h⟩
  unfold Lt
  rw [List.pairwise_cons]
  exact ⟨fun a ha => by simp at ha; subst ha; decide, List.pairwise_singleton _ _⟩
theorem ArrW.ext {w w' : World} {v : Value} {L : List Row} {B : Nat} (h : ArrW w v L B) (hx : Ext w w') : ArrW w' v L B := by
  obtain ⟨⟨f1, r1, m1, h1⟩, ⟨f2, r2, m2, h2⟩, ⟨f3, r3, m3, h3⟩, h4, h5⟩ := h
  exact ⟨⟨f1, r1, m1, fun w2 hx2 => h1 w2 (hx.trans hx2)⟩, ⟨f2, r2, m2, fun w2 hx2 => h2 w2 (hx.trans hx2)⟩, ⟨f3, r3, m3, fun w2 hx2 => h3 w2 (hx.trans hx2)⟩, h4, h5⟩
set_option maxRecDepth 100000 in
theorem awake43_any (w : World) : Ret Try.prog 13 [] w fun x w' => x = .bool true ∧ Ext w w' := by
  refine enterR Try.func13 Try.ntmps13 rfl (by kernel_rfl) rfl ?_
  repeat first | refine ω1 ?_ | refine ω2 ?_ | refine ω3 ?_ | refine ω4 ?_ | refine ω5 ?_ | refine χ1 ?_ | refine κ1 ?_ | refine κ2 ?_ | refine χ2 ?_ | refine κ3 ?_ | refine ω6 ?_ | refine ω7 ?_ | refine ω9 ?_ | refine κ4 ?_ | refine κ7 ?_ | refine κ8 ?_ | refine χ3 ?_ | refine χ4 ?_ | refine κ5 ?_ | refine κ6 ?_ | refine χ5 ?_ | refine χ6 ?_ | refine χ7 ?_ | refine ω8 ?_
  refine cl (num43_any 2 _) ?_
  rintro _ w1 ⟨rfl, hx1⟩
  repeat first | refine ω1 ?_ | refine ω2 ?_ | refine ω3 ?_ | refine ω4 ?_ | refine ω5 ?_ | refine χ1 ?_ | refine κ1 ?_ | refine κ2 ?_ | refine χ2 ?_ | refine κ3 ?_ | refine ω6 ?_ | refine ω7 ?_ | refine ω9 ?_ | refine κ4 ?_ | refine κ7 ?_ | refine κ8 ?_ | refine χ3 ?_ | refine χ4 ?_ | refine κ5 ?_ | refine κ6 ?_ | refine χ5 ?_ | refine χ6 ?_ | refine χ7 ?_ | refine ω8 ?_
  refine cl (num43_any 1 _) ?_
  rintro _ w2 ⟨rfl, hx2⟩
  repeat first | refine ω1 ?_ | refine ω2 ?_ | refine ω3 ?_ | refine ω4 ?_ | refine ω5 ?_ | refine χ1 ?_ | refine κ1 ?_ | refine κ2 ?_ | refine χ2 ?_ | refine κ3 ?_ | refine ω6 ?_ | refine ω7 ?_ | refine ω9 ?_ | refine κ4 ?_ | refine κ7 ?_ | refine κ8 ?_ | refine χ3 ?_ | refine χ4 ?_ | refine κ5 ?_ | refine κ6 ?_ | refine χ5 ?_ | refine χ6 ?_ | refine χ7 ?_ | refine ω8 ?_
  refine bsl (bs2V _ _) ?_
  intro w3 b3 hx3 hb3 hk3
  repeat first | refine ω1 ?_ | refine ω2 ?_ | refine ω3 ?_ | refine ω4 ?_ | refine ω5 ?_ | refine χ1 ?_ | refine κ1 ?_ | refine κ2 ?_ | refine χ2 ?_ | refine κ3 ?_ | refine ω6 ?_ | refine ω7 ?_ | refine ω9 ?_ | refine κ4 ?_ | refine κ7 ?_ | refine κ8 ?_ | refine χ3 ?_ | refine χ4 ?_ | refine κ5 ?_ | refine κ6 ?_ | refine χ5 ?_ | refine χ6 ?_ | refine χ7 ?_ | refine ω8 ?_
  refine cl (num43_any 1 _) ?_
  rintro _ w4 ⟨rfl, hx4⟩
  repeat first | refine ω1 ?_ | refine ω2 ?_ | refine ω3 ?_ | refine ω4 ?_ | refine ω5 ?_ | refine χ1 ?_ | refine κ1 ?_ | refine κ2 ?_ | refine χ2 ?_ | refine κ3 ?_ | refine ω6 ?_ | refine ω7 ?_ | refine ω9 ?_ | refine κ4 ?_ | refine κ7 ?_ | refine κ8 ?_ | refine χ3 ?_ | refine χ4 ?_ | refine κ5 ?_ | refine κ6 ?_ | refine χ5 ?_ | refine χ6 ?_ | refine χ7 ?_ | refine ω8 ?_
  refine cl (num43_any 5 _) ?_
  rintro _ w5 ⟨rfl, hx5⟩
  repeat first | refine ω1 ?_ | refine ω2 ?_ | refine ω3 ?_ | refine ω4 ?_ | refine ω5 ?_ | refine χ1 ?_ | refine κ1 ?_ | refine κ2 ?_ | refine χ2 ?_ | refine κ3 ?_ | refine ω6 ?_ | refine ω7 ?_ | refine ω9 ?_ | refine κ4 ?_ | refine κ7 ?_ | refine κ8 ?_ | refine χ3 ?_ | refine χ4 ?_ | refine κ5 ?_ | refine κ6 ?_ | refine χ5 ?_ | refine χ6 ?_ | refine χ7 ?_ | refine ω8 ?_
  refine bsl (bs2V _ _) ?_
  intro w6 b6 hx6 hb6 hk6
  repeat first | refine ω1 ?_ | refine ω2 ?_ | refine ω3 ?_ | refine ω4 ?_ | refine ω5 ?_ | refine χ1 ?_ | refine κ1 ?_ | refine κ2 ?_ | refine χ2 ?_ | refine κ3 ?_ | refine ω6 ?_ | refine ω7 ?_ | refine ω9 ?_ | refine κ4 ?_ | refine κ7 ?_ | refine κ8 ?_ | refine χ3 ?_ | refine χ4 ?_ | refine κ5 ?_ | refine κ6 ?_ | refine χ5 ?_ | refine χ6 ?_ | refine χ7 ?_ | refine ω8 ?_
  refine cl (num43_any 2 _) ?_
  rintro _ w7 ⟨rfl, hx7⟩
  repeat first | refine ω1 ?_ | refine ω2 ?_ | refine ω3 ?_ | refine ω4 ?_ | refine ω5 ?_ | refine χ1 ?_ | refine κ1 ?_ | refine κ2 ?_ | refine χ2 ?_ | refine κ3 ?_ | refine ω6 ?_ | refine ω7 ?_ | refine ω9 ?_ | refine κ4 ?_ | refine κ7 ?_ | refine κ8 ?_ | refine χ3 ?_ | refine χ4 ?_ | refine κ5 ?_ | refine κ6 ?_ | refine χ5 ?_ | refine χ6 ?_ | refine χ7 ?_ | refine ω8 ?_
  refine cl (num43_any 1 _) ?_
  rintro _ w8 ⟨rfl, hx8⟩
  repeat first | refine ω1 ?_ | refine ω2 ?_ | refine ω3 ?_ | refine ω4 ?_ | refine ω5 ?_ | refine χ1 ?_ | refine κ1 ?_ | refine κ2 ?_ | refine χ2 ?_ | refine κ3 ?_ | refine ω6 ?_ | refine ω7 ?_ | refine ω9 ?_ | refine κ4 ?_ | refine κ7 ?_ | refine κ8 ?_ | refine χ3 ?_ | refine χ4 ?_ | refine κ5 ?_ | refine κ6 ?_ | refine χ5 ?_ | refine χ6 ?_ | refine χ7 ?_ | refine ω8 ?_
  refine bsl (bs2V _ _) ?_
  intro w9 b9 hx9 hb9 hk9
  repeat first | refine ω1 ?_ | refine ω2 ?_ | refine ω3 ?_ | refine ω4 ?_ | refine ω5 ?_ | refine χ1 ?_ | refine κ1 ?_ | refine κ2 ?_ | refine χ2 ?_ | refine κ3 ?_ | refine ω6 ?_ | refine ω7 ?_ | refine ω9 ?_ | refine κ4 ?_ | refine κ7 ?_ | refine κ8 ?_ | refine χ3 ?_ | refine χ4 ?_ | refine κ5 ?_ | refine κ6 ?_ | refine χ5 ?_ | refine χ6 ?_ | refine χ7 ?_ | refine ω8 ?_
  refine bsl (bs3R _ _ _ _ _ _ _ _ _ _ _ _ rfl rfl rfl) ?_
  intro w10 b10 hx10 hb10 hk10
  have hrows : RowsV w10 (.slice (some ⟨b10, 0, none⟩) 3 3) [ex1, ex2, ex1] := by
    have h3 : Ext w3 w10 := (((((hx4.trans hx5).trans hx6).trans hx7).trans hx8).trans hx9).trans hx10
    have h6 : Ext w6 w10 := ((hx7.trans hx8).trans hx9).trans hx10
    refine litRows [(.slice (some ⟨b3, 0, none⟩) 2 2, ex1), (.slice (some ⟨b6, 0, none⟩) 2 2, ex2), (.slice (some ⟨b9, 0, none⟩) 2 2, ex1)] hk10 (fun p hp => ?_) (by simp)
    simp only [List.mem_cons, List.not_mem_nil, or_false] at hp
    rcases hp with rfl | rfl | rfl
    · exact litRow (r := ex1) (hk3.ext h3) (by decide)
    · exact litRow (r := ex2) (hk6.ext h6) (by decide)
    · exact litRow (r := ex1) (hk9.ext hx10) (by decide)
  repeat first | refine ω1 ?_ | refine ω2 ?_ | refine ω3 ?_ | refine ω4 ?_ | refine ω5 ?_ | refine χ1 ?_ | refine κ1 ?_ | refine κ2 ?_ | refine χ2 ?_ | refine κ3 ?_ | refine ω6 ?_ | refine ω7 ?_ | refine ω9 ?_ | refine κ4 ?_ | refine κ7 ?_ | refine κ8 ?_ | refine χ3 ?_ | refine χ4 ?_ | refine κ5 ?_ | refine κ6 ?_ | refine χ5 ?_ | refine χ6 ?_ | refine χ7 ?_ | refine ω8 ?_
  refine cl (ofRows_any hrows (BoolsV.nil w10 none 0)) ?_
  rintro va w11 ⟨⟨m, hA, hset, _⟩, hx11⟩
  have hm : m = [ex2, ex1] := hset.uniq exSet
  subst hm
  obtain ⟨u1, u2, rfl, hone⟩ := hA.cells
  repeat first | refine ω1 ?_ | refine ω2 ?_ | refine ω3 ?_ | refine ω4 ?_ | refine ω5 ?_ | refine χ1 ?_ | refine κ1 ?_ | refine κ2 ?_ | refine χ2 ?_ | refine κ3 ?_ | refine ω6 ?_ | refine ω7 ?_ | refine ω9 ?_ | refine κ4 ?_ | refine κ7 ?_ | refine κ8 ?_ | refine χ3 ?_ | refine χ4 ?_ | refine κ5 ?_ | refine κ6 ?_ | refine χ5 ?_ | refine χ6 ?_ | refine χ7 ?_ | refine ω8 ?_
  refine alc (cs := [.slice none 0 0, .slice none 0 0]) zRows ?_
  intro w12 b12 hx12 hb12 hk12
  repeat first | refine ω1 ?_ | refine ω2 ?_ | refine ω3 ?_ | refine ω4 ?_ | refine ω5 ?_ | refine χ1 ?_ | refine κ1 ?_ | refine κ2 ?_ | refine χ2 ?_ | refine κ3 ?_ | refine ω6 ?_ | refine ω7 ?_ | refine ω9 ?_ | refine κ4 ?_ | refine κ7 ?_ | refine κ8 ?_ | refine χ3 ?_ | refine χ4 ?_ | refine κ5 ?_ | refine κ6 ?_ | refine χ5 ?_ | refine χ6 ?_ | refine χ7 ?_ | refine ω8 ?_
  refine stb hk12 (cs' := [u1, u2]) ?_ hone
  intro w13 hk13 hg13 hx13
  have hx1113 : Ext w11 w13 := hx13 w11 hx12 hb12
  have hx013 : Ext w w13 := (((((((((((hx1.trans hx2).trans hx3).trans hx4).trans hx5).trans hx6).trans hx7).trans hx8).trans hx9).trans hx10).trans hx11).trans hx1113)
  have hA13 := rowsI (hA.ext hx1113) exSet.1 (by decide)
  repeat first | refine ω1 ?_ | refine ω2 ?_ | refine ω3 ?_ | refine ω4 ?_ | refine ω5 ?_ | refine χ1 ?_ | refine κ1 ?_ | refine κ2 ?_ | refine χ2 ?_ | refine κ3 ?_ | refine ω6 ?_ | refine ω7 ?_ | refine ω9 ?_ | refine κ4 ?_ | refine κ7 ?_ | refine κ8 ?_ | refine χ3 ?_ | refine χ4 ?_ | refine κ5 ?_ | refine κ6 ?_ | refine χ5 ?_ | refine χ6 ?_ | refine χ7 ?_ | refine ω8 ?_
  refine lds (fun j u hu => hk13.at hu) ?_
  repeat first | refine ω1 ?_ | refine ω2 ?_ | refine ω3 ?_ | refine ω4 ?_ | refine ω5 ?_ | refine χ1 ?_ | refine κ1 ?_ | refine κ2 ?_ | refine χ2 ?_ | refine κ3 ?_ | refine ω6 ?_ | refine ω7 ?_ | refine ω9 ?_ | refine κ4 ?_ | refine κ7 ?_ | refine κ8 ?_ | refine χ3 ?_ | refine χ4 ?_ | refine κ5 ?_ | refine κ6 ?_ | refine χ5 ?_ | refine χ6 ?_ | refine χ7 ?_ | refine ω8 ?_
  refine mki Try.underlying29 (fun ms e => by cases e) ?_
  repeat first | refine ω1 ?_ | refine ω2 ?_ | refine ω3 ?_ | refine ω4 ?_ | refine ω5 ?_ | refine χ1 ?_ | refine κ1 ?_ | refine κ2 ?_ | refine χ2 ?_ | refine κ3 ?_ | refine ω6 ?_ | refine ω7 ?_ | refine ω9 ?_ | refine κ4 ?_ | refine κ7 ?_ | refine κ8 ?_ | refine χ3 ?_ | refine χ4 ?_ | refine κ5 ?_ | refine κ6 ?_ | refine χ5 ?_ | refine χ6 ?_ | refine χ7 ?_ | refine ω8 ?_
  refine cl (reverse_any hA13) ?_
  rintro vb w14 ⟨hB, rfl⟩
  obtain ⟨tb, yb, rfl⟩ := hB.form
  repeat first | refine ω1 ?_ | refine ω2 ?_ | refine ω3 ?_ | refine ω4 ?_ | refine ω5 ?_ | refine χ1 ?_ | refine κ1 ?_ | refine κ2 ?_ | refine χ2 ?_ | refine κ3 ?_ | refine ω6 ?_ | refine ω7 ?_ | refine ω9 ?_ | refine κ4 ?_ | refine κ7 ?_ | refine κ8 ?_ | refine χ3 ?_ | refine χ4 ?_ | refine κ5 ?_ | refine κ6 ?_ | refine χ5 ?_ | refine χ6 ?_ | refine χ7 ?_ | refine ω8 ?_
  refine inil ifA (.inr ⟨_, _, rfl⟩) ?_
  repeat first | refine ω1 ?_ | refine ω2 ?_ | refine ω3 ?_ | refine ω4 ?_ | refine ω5 ?_ | refine χ1 ?_ | refine κ1 ?_ | refine κ2 ?_ | refine χ2 ?_ | refine κ3 ?_ | refine ω6 ?_ | refine ω7 ?_ | refine ω9 ?_ | refine κ4 ?_ | refine κ7 ?_ | refine κ8 ?_ | refine χ3 ?_ | refine χ4 ?_ | refine κ5 ?_ | refine κ6 ?_ | refine χ5 ?_ | refine χ6 ?_ | refine χ7 ?_ | refine ω8 ?_
  refine dr [(0, 0), (0, 4), (0, 5), (0, 6), (1, 1), (1, 2), (1, 3), (1, 7), (0, 8), (0, 9), (0, 10), (0, 11), (0, 12), (0, 13), (0, 14), (0, 15), (0, 16)] (by kernel_rfl) ?_
  have hxd : Ext w14 w14.drew := (Ext.refl w14).drew
  obtain ⟨fr, rr, hmr, hfr⟩ := hB.rank
  repeat first | refine δ1 ?_ | refine δ2 ?_ | refine δ4 ?_ | refine δ5 ?_ | refine δ6 ?_ | refine δ7 ?_ | refine δ9 ?_ | refine δ8 ?_ | refine χ1 ?_ | refine χ2 ?_ | refine χ3 ?_ | refine χ4 ?_ | refine χ5 ?_ | refine χ6 ?_ | refine χ7 ?_
  refine dncm hmr ?_
  repeat first | refine δ1 ?_ | refine δ2 ?_ | refine δ4 ?_ | refine δ5 ?_ | refine δ6 ?_ | refine δ7 ?_ | refine δ9 ?_ | refine δ8 ?_ | refine χ1 ?_ | refine χ2 ?_ | refine χ3 ?_ | refine χ4 ?_ | refine χ5 ?_ | refine χ6 ?_ | refine χ7 ?_
  refine dcl (num43_any 1 _) ?_
  rintro _ w15 ⟨rfl, hx15⟩
  refine ⟨hx15, ?_⟩
  refine dcl (num43_any 5 _) ?_
  rintro _ w16 ⟨rfl, hx16⟩
  refine ⟨hx16, ?_⟩
  refine dbsl (bs2V _ _) ?_
  intro w17 b17 hx17 hb17 hk17
  have hx1417 : Ext w14 w17 := ((hxd.trans hx15).trans hx16).trans hx17
  refine dinv hmr (hfr w17 hx1417 ex2 _ (litRow (r := ex2) hk17 (by decide))) ?_
  rintro _ w18 ⟨⟨vn, s, rfl, hn18, hs18⟩, hx18⟩
  refine ⟨hx18, ?_⟩
  have hx1418 := hx1417.trans hx18
  rw [show decide (ex2 ∈ [ex2, ex1].reverse) = true by simp]
  rw [show revR [ex2, ex1] (cnt [] [ex2, ex1]) ex2 = 1 by decide] at hn18
  repeat first | refine δ1 ?_ | refine δ2 ?_ | refine δ4 ?_ | refine δ5 ?_ | refine δ6 ?_ | refine δ7 ?_ | refine δ9 ?_ | refine δ8 ?_ | refine χ1 ?_ | refine χ2 ?_ | refine χ3 ?_ | refine χ4 ?_ | refine χ5 ?_ | refine χ6 ?_ | refine χ7 ?_
  repeat first | refine ω1 ?_ | refine ω2 ?_ | refine ω3 ?_ | refine ω4 ?_ | refine ω5 ?_ | refine χ1 ?_ | refine κ1 ?_ | refine κ2 ?_ | refine χ2 ?_ | refine κ3 ?_ | refine ω6 ?_ | refine ω7 ?_ | refine ω9 ?_ | refine κ4 ?_ | refine κ7 ?_ | refine κ8 ?_ | refine χ3 ?_ | refine χ4 ?_ | refine κ5 ?_ | refine κ6 ?_ | refine χ5 ?_ | refine χ6 ?_ | refine χ7 ?_ | refine ω8 ?_
  refine lds (fun j u hu => (hk13.ext hx1418).at hu) ?_
  repeat first | refine ω1 ?_ | refine ω2 ?_ | refine ω3 ?_ | refine ω4 ?_ | refine ω5 ?_ | refine χ1 ?_ | refine κ1 ?_ | refine κ2 ?_ | refine χ2 ?_ | refine κ3 ?_ | refine ω6 ?_ | refine ω7 ?_ | refine ω9 ?_ | refine κ4 ?_ | refine κ7 ?_ | refine κ8 ?_ | refine χ3 ?_ | refine χ4 ?_ | refine κ5 ?_ | refine κ6 ?_ | refine χ5 ?_ | refine χ6 ?_ | refine χ7 ?_ | refine ω8 ?_
  refine mki Try.underlying29 (fun ms e => by cases e) ?_
  repeat first | refine ω1 ?_ | refine ω2 ?_ | refine ω3 ?_ | refine ω4 ?_ | refine ω5 ?_ | refine χ1 ?_ | refine κ1 ?_ | refine κ2 ?_ | refine χ2 ?_ | refine κ3 ?_ | refine ω6 ?_ | refine ω7 ?_ | refine ω9 ?_ | refine κ4 ?_ | refine κ7 ?_ | refine κ8 ?_ | refine χ3 ?_ | refine χ4 ?_ | refine κ5 ?_ | refine κ6 ?_ | refine χ5 ?_ | refine χ6 ?_ | refine χ7 ?_ | refine ω8 ?_
  refine bsl (bs2I _ _) ?_
  intro w19 b19 hx19 hb19 hk19
  have hx1419 := hx1418.trans hx19
  repeat first | refine ω1 ?_ | refine ω2 ?_ | refine ω3 ?_ | refine ω4 ?_ | refine ω5 ?_ | refine χ1 ?_ | refine κ1 ?_ | refine κ2 ?_ | refine χ2 ?_ | refine κ3 ?_ | refine ω6 ?_ | refine ω7 ?_ | refine ω9 ?_ | refine κ4 ?_ | refine κ7 ?_ | refine κ8 ?_ | refine χ3 ?_ | refine χ4 ?_ | refine κ5 ?_ | refine κ6 ?_ | refine χ5 ?_ | refine χ6 ?_ | refine χ7 ?_ | refine ω8 ?_
  refine cl (columns_any (cs := [1, 0]) (hA13.ext hx1419) ⟨some ⟨b19, 0, none⟩, 2, rfl, by decide, by decide, hk19.rd rfl, by decide⟩ (by decide) (by decide) (by decide) (by decide)) ?_
  rintro _ w20 ⟨⟨vc, rfl, hC⟩, hx20⟩
  have hx1420 := hx1419.trans hx20
  repeat first | refine ω1 ?_ | refine ω2 ?_ | refine ω3 ?_ | refine ω4 ?_ | refine ω5 ?_ | refine χ1 ?_ | refine κ1 ?_ | refine κ2 ?_ | refine χ2 ?_ | refine κ3 ?_ | refine ω6 ?_ | refine ω7 ?_ | refine ω9 ?_ | refine κ4 ?_ | refine κ7 ?_ | refine κ8 ?_ | refine χ3 ?_ | refine χ4 ?_ | refine κ5 ?_ | refine κ6 ?_ | refine χ5 ?_ | refine χ6 ?_ | refine χ7 ?_ | refine ω8 ?_
  refine drG (by kernel_rfl) ?_
  have hxe : Ext w20 w20.drew := (Ext.refl w20).drew
  have hx14e := hx1420.trans hxe
  refine gpre (fuel' := 35) [(0, 0), (0, 1), (1, 2), (1, 3)] (lst 39 4) (by kernel_rfl) (by kernel_rfl) rfl ?_
  refine dlds (fun j u hu => (hk13.ext hx14e).at hu) ?_
  refine dmki Try.underlying29 (fun ms e => by cases e) ?_
  refine dcl (num43_any 1 _) ?_
  rintro _ w21 ⟨rfl, hx21⟩
  refine ⟨hx21, ?_⟩
  refine dcl (num43_any 5 _) ?_
  rintro _ w22 ⟨rfl, hx22⟩
  refine ⟨hx22, ?_⟩
  refine dnil (gback ?_)
  have hx1422 := (hx14e.trans hx21).trans hx22
  refine gcut 31 (lst 39 8) (fun (x : Nat × Nat) => [(3, vn), (4, .bool true), (6, .int .i64 0), (7, vc), (8, .int .i64 0), (46, .iface 29 (.agg #[u1, u2])), (49, .slice (some ⟨x.1, 0, none⟩) 2 2), (52, .slice (some ⟨x.2, 0, none⟩) 2 2)])
    (fun x w' => Ext w22 w' ∧ Blk w' x.1 86 (rowC ex2) ∧ Blk w' x.2 86 (rowC ex1)) ?_ ?_
  · rintro ⟨b4, b7⟩ w23 ⟨hx23, hk4, hk7⟩
    refine gpre (fuel' := 8) [(1, 8), (1, 9), (0, 10), (0, 11), (0, 12), (0, 13), (0, 14), (0, 15), (0, 16), (0, 17), (0, 18), (1, 19), (1, 20), (0, 21), (0, 22), (0, 23), (0, 24), (0, 25), (0, 26), (0, 27), (0, 28), (1, 29), (1, 30)] (lst 39 31) (by kernel_rfl) (by kernel_rfl) rfl ?_
    refine dbsl (bs2R _ _ _ _ _ _ _ _ rfl rfl) ?_
    intro w24 b24 hx24 hb24 hk24
    have hrows24 : RowsV w24 (.slice (some ⟨b24, 0, none⟩) 2 2) [ex2, ex1] := by
      refine litRows [(.slice (some ⟨b4, 0, none⟩) 2 2, ex2), (.slice (some ⟨b7, 0, none⟩) 2 2, ex1)] hk24 (fun p hp => ?_) (by simp)
      simp only [List.mem_cons, List.not_mem_nil, or_false] at hp
      rcases hp with rfl | rfl
      · exact litRow (r := ex2) (hk4.ext hx24) (by decide)
      · exact litRow (r := ex1) (hk7.ext hx24) (by decide)
    have hx1424 := (hx1422.trans hx23).trans hx24
    refine dcl (is_any (hA13.ext hx1424).w hrows24) ?_
    rintro _ w25 ⟨rfl, hx25⟩
    refine ⟨hx25, ?_⟩
    repeat first | refine δ1 ?_ | refine δ2 ?_ | refine δ4 ?_ | refine δ5 ?_ | refine δ6 ?_ | refine δ7 ?_ | refine δ9 ?_ | refine δ8 ?_ | refine χ1 ?_ | refine χ2 ?_ | refine χ3 ?_ | refine χ4 ?_ | refine χ5 ?_ | refine χ6 ?_ | refine χ7 ?_
    refine dcl (of43_any (n := 1) (by omega) _) ?_
    rintro _ w26 ⟨hn26, hx26⟩
    refine ⟨hx26, ?_⟩
    have hx1826 : Ext w18 w26 := (((((((hx19.trans hx20).trans hxe).trans hx21).trans hx22).trans hx23).trans hx24).trans hx25).trans hx26
    repeat first | refine δ1 ?_ | refine δ2 ?_ | refine δ4 ?_ | refine δ5 ?_ | refine δ6 ?_ | refine δ7 ?_ | refine δ9 ?_ | refine δ8 ?_ | refine χ1 ?_ | refine χ2 ?_ | refine χ3 ?_ | refine χ4 ?_ | refine χ5 ?_ | refine χ6 ?_ | refine χ7 ?_
    refine dcl (natCmp_any (hn18.ext hx1826) hn26) ?_
    rintro _ w27 ⟨rfl, hx27⟩
    refine ⟨hx27, ?_⟩
    rw [cmpN_eq.2 rfl]
    repeat first | refine δ1 ?_ | refine δ2 ?_ | refine δ4 ?_ | refine δ5 ?_ | refine δ6 ?_ | refine δ7 ?_ | refine δ9 ?_ | refine δ8 ?_ | refine χ1 ?_ | refine χ2 ?_ | refine χ3 ?_ | refine χ4 ?_ | refine χ5 ?_ | refine χ6 ?_ | refine χ7 ?_
    refine dcl (num43_any 5 _) ?_
    rintro _ w28 ⟨rfl, hx28⟩
    refine ⟨hx28, ?_⟩
    repeat first | refine δ1 ?_ | refine δ2 ?_ | refine δ4 ?_ | refine δ5 ?_ | refine δ6 ?_ | refine δ7 ?_ | refine δ9 ?_ | refine δ8 ?_ | refine χ1 ?_ | refine χ2 ?_ | refine χ3 ?_ | refine χ4 ?_ | refine χ5 ?_ | refine χ6 ?_ | refine χ7 ?_
    refine dcl (num43_any 1 _) ?_
    rintro _ w29 ⟨rfl, hx29⟩
    refine ⟨hx29, ?_⟩
    refine dnil (gback ?_)
    have hx2029 : Ext w20 w29 := ((((((((hxe.trans hx21).trans hx22).trans hx23).trans hx24).trans hx25).trans hx26).trans hx27).trans hx28).trans hx29
    refine gcut 4 (lst 39 35) (fun (x : Nat × Nat) => [(7, vc), (72, .bool true), (73, vc), (76, .slice (some ⟨x.1, 0, none⟩) 2 2), (79, .slice (some ⟨x.2, 0, none⟩) 2 2)])
      (fun x w' => Ext w29 w' ∧ Blk w' x.1 86 (rowC [numV 5, numV 1]) ∧ Blk w' x.2 86 (rowC [numV 1, numV 2])) ?_ ?_
    · rintro ⟨b4, b7⟩ w30 ⟨hx30, hk4, hk7⟩
      refine gpre (fuel' := 0) [(1, 35), (1, 36), (0, 37), (0, 38)] (lst 39 39) (by kernel_rfl) (by kernel_rfl) rfl ?_
      repeat first | refine δ1 ?_ | refine δ2 ?_ | refine δ4 ?_ | refine δ5 ?_ | refine δ6 ?_ | refine δ7 ?_ | refine δ9 ?_ | refine δ8 ?_ | refine χ1 ?_ | refine χ2 ?_ | refine χ3 ?_ | refine χ4 ?_ | refine χ5 ?_ | refine χ6 ?_ | refine χ7 ?_
      refine dbsl (bs2R _ _ _ _ _ _ _ _ rfl rfl) ?_
      intro w31 b31 hx31 hb31 hk31
      have hrows31 : RowsV w31 (.slice (some ⟨b31, 0, none⟩) 2 2) ([ex2, ex1].map (pmR [1, 0])) := by
        refine litRows [(.slice (some ⟨b4, 0, none⟩) 2 2, [numV 5, numV 1]), (.slice (some ⟨b7, 0, none⟩) 2 2, [numV 1, numV 2])] hk31 (fun p hp => ?_) (by simp)
        simp only [List.mem_cons, List.not_mem_nil, or_false] at hp
        rcases hp with rfl | rfl
        · exact litRow (r := [numV 5, numV 1]) (hk4.ext hx31) (by decide)
        · exact litRow (r := [numV 1, numV 2]) (hk7.ext hx31) (by decide)
      repeat first | refine δ1 ?_ | refine δ2 ?_ | refine δ4 ?_ | refine δ5 ?_ | refine δ6 ?_ | refine δ7 ?_ | refine δ9 ?_ | refine δ8 ?_ | refine χ1 ?_ | refine χ2 ?_ | refine χ3 ?_ | refine χ4 ?_ | refine χ5 ?_ | refine χ6 ?_ | refine χ7 ?_
      refine dcl (is_any (hC.ext ((hx2029.trans hx30).trans hx31)) hrows31) ?_
      rintro _ w32 ⟨rfl, hx32⟩
      refine ⟨hx32, ?_⟩
      repeat first | refine δ1 ?_ | refine δ2 ?_ | refine δ4 ?_ | refine δ5 ?_ | refine δ6 ?_ | refine δ7 ?_ | refine δ9 ?_ | refine δ8 ?_ | refine χ1 ?_ | refine χ2 ?_ | refine χ3 ?_ | refine χ4 ?_ | refine χ5 ?_ | refine χ6 ?_ | refine χ7 ?_
      refine gback ?_
      refine gend (by kernel_rfl) ?_
      repeat first | refine ω1 ?_ | refine ω2 ?_ | refine ω3 ?_ | refine ω4 ?_ | refine ω5 ?_ | refine χ1 ?_ | refine κ1 ?_ | refine κ2 ?_ | refine χ2 ?_ | refine κ3 ?_ | refine ω6 ?_ | refine ω7 ?_ | refine ω9 ?_ | refine κ4 ?_ | refine κ7 ?_ | refine κ8 ?_ | refine χ3 ?_ | refine χ4 ?_ | refine κ5 ?_ | refine κ6 ?_ | refine χ5 ?_ | refine χ6 ?_ | refine χ7 ?_ | refine ω8 ?_
      exact fin1 ⟨rfl, (((hx013.trans hx1420).trans hx2029).trans hx30).trans (hx31.trans hx32)⟩
    · intro rest
      refine gtwo 31 32 (by kernel_rfl) rfl rfl rfl ?_ ?_
      · repeat first | refine ω1 ?_ | refine ω2 ?_ | refine ω3 ?_ | refine ω4 ?_ | refine ω5 ?_ | refine χ1 ?_ | refine κ1 ?_ | refine κ2 ?_ | refine χ2 ?_ | refine κ3 ?_ | refine ω6 ?_ | refine ω7 ?_ | refine ω9 ?_ | refine κ4 ?_ | refine κ7 ?_ | refine κ8 ?_ | refine χ3 ?_ | refine χ4 ?_ | refine κ5 ?_ | refine κ6 ?_ | refine χ5 ?_ | refine χ6 ?_ | refine χ7 ?_ | refine ω8 ?_
        refine bsl (bs2V _ _) ?_
        intro v1 b1 hy1 _ hq1
        refine wnil (jback hy1 ?_)
        refine gpre (fuel' := 4) [(1, 32), (1, 33), (1, 34)] (lst 39 35) (by kernel_rfl) (by kernel_rfl) rfl ?_
        repeat first | refine δ1 ?_ | refine δ2 ?_ | refine δ4 ?_ | refine δ5 ?_ | refine δ6 ?_ | refine δ7 ?_ | refine δ9 ?_ | refine δ8 ?_ | refine χ1 ?_ | refine χ2 ?_ | refine χ3 ?_ | refine χ4 ?_ | refine χ5 ?_ | refine χ6 ?_ | refine χ7 ?_
        refine dcl (num43_any 1 _) ?_
        rintro _ v2 ⟨rfl, hy2⟩
        refine ⟨hy2, ?_⟩
        repeat first | refine δ1 ?_ | refine δ2 ?_ | refine δ4 ?_ | refine δ5 ?_ | refine δ6 ?_ | refine δ7 ?_ | refine δ9 ?_ | refine δ8 ?_ | refine χ1 ?_ | refine χ2 ?_ | refine χ3 ?_ | refine χ4 ?_ | refine χ5 ?_ | refine χ6 ?_ | refine χ7 ?_
        refine dcl (num43_any 2 _) ?_
        rintro _ v3 ⟨rfl, hy3⟩
        refine ⟨hy3, ?_⟩
        repeat first | refine δ1 ?_ | refine δ2 ?_ | refine δ4 ?_ | refine δ5 ?_ | refine δ6 ?_ | refine δ7 ?_ | refine δ9 ?_ | refine δ8 ?_ | refine χ1 ?_ | refine χ2 ?_ | refine χ3 ?_ | refine χ4 ?_ | refine χ5 ?_ | refine χ6 ?_ | refine χ7 ?_
        refine dbsl (bs2V _ _) ?_
        intro v4 b4 hy4 _ hq4
        refine dnil (gback ?_)
        exact rest (b1, b4) _ _ ⟨((hy1.trans hy2).trans hy3).trans hy4, ((hq1.ext hy2).ext hy3).ext hy4, hq4⟩ (by repeat' (first | exact Sub.nil | refine Sub.cons rfl ?_))
      · repeat first | refine ω1 ?_ | refine ω2 ?_ | refine ω3 ?_ | refine ω4 ?_ | refine ω5 ?_ | refine χ1 ?_ | refine κ1 ?_ | refine κ2 ?_ | refine χ2 ?_ | refine κ3 ?_ | refine ω6 ?_ | refine ω7 ?_ | refine ω9 ?_ | refine κ4 ?_ | refine κ7 ?_ | refine κ8 ?_ | refine χ3 ?_ | refine χ4 ?_ | refine κ5 ?_ | refine κ6 ?_ | refine χ5 ?_ | refine χ6 ?_ | refine χ7 ?_ | refine ω8 ?_
        refine cl (num43_any 1 _) ?_
        rintro _ v1 ⟨rfl, hy1⟩
        refine wnil (jback hy1 ?_)
        refine gtwo 31 33 (by kernel_rfl) rfl rfl rfl ?_ ?_
        · repeat first | refine ω1 ?_ | refine ω2 ?_ | refine ω3 ?_ | refine ω4 ?_ | refine ω5 ?_ | refine χ1 ?_ | refine κ1 ?_ | refine κ2 ?_ | refine χ2 ?_ | refine κ3 ?_ | refine ω6 ?_ | refine ω7 ?_ | refine ω9 ?_ | refine κ4 ?_ | refine κ7 ?_ | refine κ8 ?_ | refine χ3 ?_ | refine χ4 ?_ | refine κ5 ?_ | refine κ6 ?_ | refine χ5 ?_ | refine χ6 ?_ | refine χ7 ?_ | refine ω8 ?_
          refine bsl (bs2V _ _) ?_
          intro v2 b2 hy2 _ hq2
          refine wnil (jback hy2 ?_)
          refine gpre (fuel' := 4) [(1, 33), (1, 34)] (lst 39 35) (by kernel_rfl) (by kernel_rfl) rfl ?_
          repeat first | refine δ1 ?_ | refine δ2 ?_ | refine δ4 ?_ | refine δ5 ?_ | refine δ6 ?_ | refine δ7 ?_ | refine δ9 ?_ | refine δ8 ?_ | refine χ1 ?_ | refine χ2 ?_ | refine χ3 ?_ | refine χ4 ?_ | refine χ5 ?_ | refine χ6 ?_ | refine χ7 ?_
          refine dcl (num43_any 2 _) ?_
          rintro _ v3 ⟨rfl, hy3⟩
          refine ⟨hy3, ?_⟩
          repeat first | refine δ1 ?_ | refine δ2 ?_ | refine δ4 ?_ | refine δ5 ?_ | refine δ6 ?_ | refine δ7 ?_ | refine δ9 ?_ | refine δ8 ?_ | refine χ1 ?_ | refine χ2 ?_ | refine χ3 ?_ | refine χ4 ?_ | refine χ5 ?_ | refine χ6 ?_ | refine χ7 ?_
          refine dbsl (bs2V _ _) ?_
          intro v4 b4 hy4 _ hq4
          refine dnil (gback ?_)
          exact rest (b2, b4) _ _ ⟨((hy1.trans hy2).trans hy3).trans hy4, (hq2.ext hy3).ext hy4, hq4⟩ (by repeat' (first | exact Sub.nil | refine Sub.cons rfl ?_))
        · repeat first | refine ω1 ?_ | refine ω2 ?_ | refine ω3 ?_ | refine ω4 ?_ | refine ω5 ?_ | refine χ1 ?_ | refine κ1 ?_ | refine κ2 ?_ | refine χ2 ?_ | refine κ3 ?_ | refine ω6 ?_ | refine ω7 ?_ | refine ω9 ?_ | refine κ4 ?_ | refine κ7 ?_ | refine κ8 ?_ | refine χ3 ?_ | refine χ4 ?_ | refine κ5 ?_ | refine κ6 ?_ | refine χ5 ?_ | refine χ6 ?_ | refine χ7 ?_ | refine ω8 ?_
          refine cl (num43_any 2 _) ?_
          rintro _ v2 ⟨rfl, hy2⟩
          refine wnil (jback hy2 ?_)
          refine gtwo 31 34 (by kernel_rfl) rfl rfl rfl ?_ ?_
          · repeat first | refine ω1 ?_ | refine ω2 ?_ | refine ω3 ?_ | refine ω4 ?_ | refine ω5 ?_ | refine χ1 ?_ | refine κ1 ?_ | refine κ2 ?_ | refine χ2 ?_ | refine κ3 ?_ | refine ω6 ?_ | refine ω7 ?_ | refine ω9 ?_ | refine κ4 ?_ | refine κ7 ?_ | refine κ8 ?_ | refine χ3 ?_ | refine χ4 ?_ | refine κ5 ?_ | refine κ6 ?_ | refine χ5 ?_ | refine χ6 ?_ | refine χ7 ?_ | refine ω8 ?_
            refine bsl (bs2V _ _) ?_
            intro v3 b3 hy3 _ hq3
            refine wnil (jback hy3 ?_)
            refine gpre (fuel' := 4) [(1, 34)] (lst 39 35) (by kernel_rfl) (by kernel_rfl) rfl ?_
            repeat first | refine δ1 ?_ | refine δ2 ?_ | refine δ4 ?_ | refine δ5 ?_ | refine δ6 ?_ | refine δ7 ?_ | refine δ9 ?_ | refine δ8 ?_ | refine χ1 ?_ | refine χ2 ?_ | refine χ3 ?_ | refine χ4 ?_ | refine χ5 ?_ | refine χ6 ?_ | refine χ7 ?_
            refine dbsl (bs2V _ _) ?_
            intro v4 b4 hy4 _ hq4
            refine dnil (gback ?_)
            exact rest (b3, b4) _ _ ⟨((hy1.trans hy2).trans hy3).trans hy4, hq3.ext hy4, hq4⟩ (by repeat' (first | exact Sub.nil | refine Sub.cons rfl ?_))
          · repeat first | refine ω1 ?_ | refine ω2 ?_ | refine ω3 ?_ | refine ω4 ?_ | refine ω5 ?_ | refine χ1 ?_ | refine κ1 ?_ | refine κ2 ?_ | refine χ2 ?_ | refine κ3 ?_ | refine ω6 ?_ | refine ω7 ?_ | refine ω9 ?_ | refine κ4 ?_ | refine κ7 ?_ | refine κ8 ?_ | refine χ3 ?_ | refine χ4 ?_ | refine κ5 ?_ | refine κ6 ?_ | refine χ5 ?_ | refine χ6 ?_ | refine χ7 ?_ | refine ω8 ?_
            refine bsl (bs2V _ _) ?_
            intro v3 b3 hy3 _ hq3
            refine wnil (jback hy3 ?_)
            refine gpre (fuel' := 4) [(1, 31)] (lst 39 35) (by kernel_rfl) (by kernel_rfl) rfl ?_
            repeat first | refine δ1 ?_ | refine δ2 ?_ | refine δ4 ?_ | refine δ5 ?_ | refine δ6 ?_ | refine δ7 ?_ | refine δ9 ?_ | refine δ8 ?_ | refine χ1 ?_ | refine χ2 ?_ | refine χ3 ?_ | refine χ4 ?_ | refine χ5 ?_ | refine χ6 ?_ | refine χ7 ?_
            refine dbsl (bs2V _ _) ?_
            intro v4 b4 hy4 _ hq4
            refine dnil (gback ?_)
            exact rest (b4, b3) _ _ ⟨((hy1.trans hy2).trans hy3).trans hy4, hq4, hq3.ext hy4⟩ (by repeat' (first | exact Sub.nil | refine Sub.cons rfl ?_))
  · intro rest
    refine gtwo 4 5 (by kernel_rfl) rfl rfl rfl ?_ ?_
    · repeat first | refine ω1 ?_ | refine ω2 ?_ | refine ω3 ?_ | refine ω4 ?_ | refine ω5 ?_ | refine χ1 ?_ | refine κ1 ?_ | refine κ2 ?_ | refine χ2 ?_ | refine κ3 ?_ | refine ω6 ?_ | refine ω7 ?_ | refine ω9 ?_ | refine κ4 ?_ | refine κ7 ?_ | refine κ8 ?_ | refine χ3 ?_ | refine χ4 ?_ | refine κ5 ?_ | refine κ6 ?_ | refine χ5 ?_ | refine χ6 ?_ | refine χ7 ?_ | refine ω8 ?_
      refine bsl (bs2V _ _) ?_
      intro v1 b1 hy1 _ hq1
      refine wnil (jback hy1 ?_)
      refine gpre (fuel' := 31) [(1, 5), (1, 6), (1, 7)] (lst 39 8) (by kernel_rfl) (by kernel_rfl) rfl ?_
      repeat first | refine δ1 ?_ | refine δ2 ?_ | refine δ4 ?_ | refine δ5 ?_ | refine δ6 ?_ | refine δ7 ?_ | refine δ9 ?_ | refine δ8 ?_ | refine χ1 ?_ | refine χ2 ?_ | refine χ3 ?_ | refine χ4 ?_ | refine χ5 ?_ | refine χ6 ?_ | refine χ7 ?_
      refine dcl (num43_any 2 _) ?_
      rintro _ v2 ⟨rfl, hy2⟩
      refine ⟨hy2, ?_⟩
      repeat first | refine δ1 ?_ | refine δ2 ?_ | refine δ4 ?_ | refine δ5 ?_ | refine δ6 ?_ | refine δ7 ?_ | refine δ9 ?_ | refine δ8 ?_ | refine χ1 ?_ | refine χ2 ?_ | refine χ3 ?_ | refine χ4 ?_ | refine χ5 ?_ | refine χ6 ?_ | refine χ7 ?_
      refine dcl (num43_any 1 _) ?_
      rintro _ v3 ⟨rfl, hy3⟩
      refine ⟨hy3, ?_⟩
      repeat first | refine δ1 ?_ | refine δ2 ?_ | refine δ4 ?_ | refine δ5 ?_ | refine δ6 ?_ | refine δ7 ?_ | refine δ9 ?_ | refine δ8 ?_ | refine χ1 ?_ | refine χ2 ?_ | refine χ3 ?_ | refine χ4 ?_ | refine χ5 ?_ | refine χ6 ?_ | refine χ7 ?_
      refine dbsl (bs2V _ _) ?_
      intro v4 b4 hy4 _ hq4
      refine dnil (gback ?_)
      exact rest (b1, b4) _ _ ⟨((hy1.trans hy2).trans hy3).trans hy4, ((hq1.ext hy2).ext hy3).ext hy4, hq4⟩ (by repeat' (first | exact Sub.nil | refine Sub.cons rfl ?_))
    · repeat first | refine ω1 ?_ | refine ω2 ?_ | refine ω3 ?_ | refine ω4 ?_ | refine ω5 ?_ | refine χ1 ?_ | refine κ1 ?_ | refine κ2 ?_ | refine χ2 ?_ | refine κ3 ?_ | refine ω6 ?_ | refine ω7 ?_ | refine ω9 ?_ | refine κ4 ?_ | refine κ7 ?_ | refine κ8 ?_ | refine χ3 ?_ | refine χ4 ?_ | refine κ5 ?_ | refine κ6 ?_ | refine χ5 ?_ | refine χ6 ?_ | refine χ7 ?_ | refine ω8 ?_
      refine cl (num43_any 2 _) ?_
      rintro _ v1 ⟨rfl, hy1⟩
      refine wnil (jback hy1 ?_)
      refine gtwo 4 6 (by kernel_rfl) rfl rfl rfl ?_ ?_
      · repeat first | refine ω1 ?_ | refine ω2 ?_ | refine ω3 ?_ | refine ω4 ?_ | refine ω5 ?_ | refine χ1 ?_ | refine κ1 ?_ | refine κ2 ?_ | refine χ2 ?_ | refine κ3 ?_ | refine ω6 ?_ | refine ω7 ?_ | refine ω9 ?_ | refine κ4 ?_ | refine κ7 ?_ | refine κ8 ?_ | refine χ3 ?_ | refine χ4 ?_ | refine κ5 ?_ | refine κ6 ?_ | refine χ5 ?_ | refine χ6 ?_ | refine χ7 ?_ | refine ω8 ?_
        refine bsl (bs2V _ _) ?_
        intro v2 b2 hy2 _ hq2
        refine wnil (jback hy2 ?_)
        refine gpre (fuel' := 31) [(1, 6), (1, 7)] (lst 39 8) (by kernel_rfl) (by kernel_rfl) rfl ?_
        repeat first | refine δ1 ?_ | refine δ2 ?_ | refine δ4 ?_ | refine δ5 ?_ | refine δ6 ?_ | refine δ7 ?_ | refine δ9 ?_ | refine δ8 ?_ | refine χ1 ?_ | refine χ2 ?_ | refine χ3 ?_ | refine χ4 ?_ | refine χ5 ?_ | refine χ6 ?_ | refine χ7 ?_
        refine dcl (num43_any 1 _) ?_
        rintro _ v3 ⟨rfl, hy3⟩
        refine ⟨hy3, ?_⟩
        repeat first | refine δ1 ?_ | refine δ2 ?_ | refine δ4 ?_ | refine δ5 ?_ | refine δ6 ?_ | refine δ7 ?_ | refine δ9 ?_ | refine δ8 ?_ | refine χ1 ?_ | refine χ2 ?_ | refine χ3 ?_ | refine χ4 ?_ | refine χ5 ?_ | refine χ6 ?_ | refine χ7 ?_
        refine dbsl (bs2V _ _) ?_
        intro v4 b4 hy4 _ hq4
        refine dnil (gback ?_)
        exact rest (b2, b4) _ _ ⟨((hy1.trans hy2).trans hy3).trans hy4, (hq2.ext hy3).ext hy4, hq4⟩ (by repeat' (first | exact Sub.nil | refine Sub.cons rfl ?_))
      · repeat first | refine ω1 ?_ | refine ω2 ?_ | refine ω3 ?_ | refine ω4 ?_ | refine ω5 ?_ | refine χ1 ?_ | refine κ1 ?_ | refine κ2 ?_ | refine χ2 ?_ | refine κ3 ?_ | refine ω6 ?_ | refine ω7 ?_ | refine ω9 ?_ | refine κ4 ?_ | refine κ7 ?_ | refine κ8 ?_ | refine χ3 ?_ | refine χ4 ?_ | refine κ5 ?_ | refine κ6 ?_ | refine χ5 ?_ | refine χ6 ?_ | refine χ7 ?_ | refine ω8 ?_
        refine cl (num43_any 1 _) ?_
        rintro _ v2 ⟨rfl, hy2⟩
        refine wnil (jback hy2 ?_)
        refine gtwo 4 7 (by kernel_rfl) rfl rfl rfl ?_ ?_
        · repeat first | refine ω1 ?_ | refine ω2 ?_ | refine ω3 ?_ | refine ω4 ?_ | refine ω5 ?_ | refine χ1 ?_ | refine κ1 ?_ | refine κ2 ?_ | refine χ2 ?_ | refine κ3 ?_ | refine ω6 ?_ | refine ω7 ?_ | refine ω9 ?_ | refine κ4 ?_ | refine κ7 ?_ | refine κ8 ?_ | refine χ3 ?_ | refine χ4 ?_ | refine κ5 ?_ | refine κ6 ?_ | refine χ5 ?_ | refine χ6 ?_ | refine χ7 ?_ | refine ω8 ?_
          refine bsl (bs2V _ _) ?_
          intro v3 b3 hy3 _ hq3
          refine wnil (jback hy3 ?_)
          refine gpre (fuel' := 31) [(1, 7)] (lst 39 8) (by kernel_rfl) (by kernel_rfl) rfl ?_
          repeat first | refine δ1 ?_ | refine δ2 ?_ | refine δ4 ?_ | refine δ5 ?_ | refine δ6 ?_ | refine δ7 ?_ | refine δ9 ?_ | refine δ8 ?_ | refine χ1 ?_ | refine χ2 ?_ | refine χ3 ?_ | refine χ4 ?_ | refine χ5 ?_ | refine χ6 ?_ | refine χ7 ?_
          refine dbsl (bs2V _ _) ?_
          intro v4 b4 hy4 _ hq4
          refine dnil (gback ?_)
          exact rest (b3, b4) _ _ ⟨((hy1.trans hy2).trans hy3).trans hy4, hq3.ext hy4, hq4⟩ (by repeat' (first | exact Sub.nil | refine Sub.cons rfl ?_))
        · repeat first | refine ω1 ?_ | refine ω2 ?_ | refine ω3 ?_ | refine ω4 ?_ | refine ω5 ?_ | refine χ1 ?_ | refine κ1 ?_ | refine κ2 ?_ | refine χ2 ?_ | refine κ3 ?_ | refine ω6 ?_ | refine ω7 ?_ | refine ω9 ?_ | refine κ4 ?_ | refine κ7 ?_ | refine κ8 ?_ | refine χ3 ?_ | refine χ4 ?_ | refine κ5 ?_ | refine κ6 ?_ | refine χ5 ?_ | refine χ6 ?_ | refine χ7 ?_ | refine ω8 ?_
          refine bsl (bs2V _ _) ?_
          intro v3 b3 hy3 _ hq3
          refine wnil (jback hy3 ?_)
          refine gpre (fuel' := 31) [(1, 4)] (lst 39 8) (by kernel_rfl) (by kernel_rfl) rfl ?_
          repeat first | refine δ1 ?_ | refine δ2 ?_ | refine δ4 ?_ | refine δ5 ?_ | refine δ6 ?_ | refine δ7 ?_ | refine δ9 ?_ | refine δ8 ?_ | refine χ1 ?_ | refine χ2 ?_ | refine χ3 ?_ | refine χ4 ?_ | refine χ5 ?_ | refine χ6 ?_ | refine χ7 ?_
          refine dbsl (bs2V _ _) ?_
          intro v4 b4 hy4 _ hq4
          refine dnil (gback ?_)
          exact rest (b4, b3) _ _ ⟨((hy1.trans hy2).trans hy3).trans hy4, hq4, hq3.ext hy4⟩ (by repeat' (first | exact Sub.nil | refine Sub.cons rfl ?_))
end Go.Proofs.Ytpahjnfolbnloaa
