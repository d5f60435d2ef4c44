/- The walk of ArraySlices. -/
import Derived.Test.YtpahjnfolbnloaaLaw3
set_option linter.unusedVariables false
namespace Go.Proofs.Ytpahjnfolbnloaa
open Go.RowKit Pl Go.Wk
attribute [local irreducible] WC WL QX WD WDB WP WG
/-- four bytes -/
def Arr4 (v : Value) : Prop := ∃ a b c d : Int, v = .agg #[.int .u8 a, .int .u8 b, .int .u8 c, .int .u8 d] ∧ (0 ≤ a ∧ a ≤ 255) ∧ (0 ≤ b ∧ b ≤ 255) ∧ (0 ≤ c ∧ c ≤ 255) ∧ (0 ≤ d ∧ d ≤ 255)
theorem cnt_spec {ds : List Bool} {l : List Row} (h : Lt ds l) (r : Row) : (∀ i, i < cnt ds l r → cmpR (l.getD i []) r ds < 0) ∧ (∀ i, cnt ds l r ≤ i → i < l.length → ¬ cmpR (l.getD i []) r ds < 0) := by
  have ex : ∀ n, n ≤ l.length → ∃ k, k ≤ n ∧ (∀ i, i < k → cmpR (l.getD i []) r ds < 0) ∧ (k = n ∨ ¬ cmpR (l.getD k []) r ds < 0) := by
    intro n
    induction n with
    | zero => exact fun _ => ⟨0, Nat.le_refl _, fun i hi => by omega, .inl rfl⟩
    | succ n ih =>
      intro hn
      obtain ⟨k, k1, k2, k3⟩ := ih (by omega)
      rcases k3 with k3 | k3
      · subst k3
        by_cases h0 : cmpR (l.getD k []) r ds < 0
        · exact ⟨k + 1, Nat.le_refl _, fun i hi => by
            by_cases e : i = k
            · rw [e]; exact h0
            · exact k2 i (by omega), .inl rfl⟩
        · exact ⟨k, by omega, k2, .inr h0⟩
      · exact ⟨k, by omega, k2, .inr k3⟩
  obtain ⟨k, k1, k2, k3⟩ := ex l.length (Nat.le_refl _)
  have hi : ∀ i, k ≤ i → i < l.length → ¬ cmpR (l.getD i []) r ds < 0 := fun i h1 h2 => by
    rcases k3 with k3 | k3
    · omega
    · by_cases e : i = k
      · rw [e]; exact k3
      · exact fun h3 => k3 ((cmp_R ds).lt_trans (h.at (i := k) (j := i) (by omega) h2) h3)
  rw [cnt_take k1 k2 hi]
  exact ⟨k2, hi⟩
theorem cnt_cut {ds : List Bool} {m : List Row} (h : Lt ds m) {lo hi : Nat} (h1 : lo ≤ hi) (h2 : hi ≤ m.length) (r : Row) : cnt ds (cutL m lo hi) r = cutR (cnt ds m) lo hi r := by
  obtain ⟨s1, s2⟩ := cnt_spec h r
  have hcl := cut_len (lo := lo) h2
  unfold cutR
  refine cnt_take (by rw [hcl]; omega) (fun i hi' => ?_) (fun i hi' hl => ?_)
  · rw [cut_get (by omega)]; exact s1 _ (by omega)
  · rw [hcl] at hl
    rw [cut_get (by omega)]; exact s2 _ (by omega) (by omega)
theorem imod {x b : Int} {n : Nat} (h : 0 ≤ x ∧ x ≤ 255) (hb : b = (n : Int)) : (IntKind.i64.wrap x).tmod b = ((x.toNat % n : Nat) : Int) := by
  subst hb
  rw [i64w (by omega), Int.tmod_eq_emod_of_nonneg h.1]
  have : x = (x.toNat : Int) := by omega
  rw [this]; simp
theorem min_if (a b : Nat) : (if (b : Int) < (a : Int) then (b : Int) else (a : Int)) = ((min a b : Nat) : Int) := by split <;> omega
theorem max_if (a b : Nat) : (if (a : Int) < (b : Int) then (b : Int) else (a : Int)) = ((max a b : Nat) : Int) := by split <;> omega
theorem cut_cut {m : List Row} {lo hi a b : Nat} (h1 : lo ≤ hi) (h2 : hi ≤ m.length) (hab : a ≤ b) (hb : b ≤ hi - lo) : cutL (cutL m lo hi) a b = cutL m (lo + a) (lo + b) := by
  apply getD_ext (z := [])
  · rw [cut_len (by rw [cut_len h2]; omega), cut_len (by omega)]; omega
  · intro k hk
    rw [cut_len (by omega)] at hk
    rw [cut_get (by omega), cut_get (by omega), cut_get (by omega)]
    congr 1; omega
set_option maxRecDepth 100000 in
theorem arraySlices_any {v vq vr : Value} {l : List Row} {r : Row} {w : World} (hlG : RowsG w v l) (hq : Arr4 vq) (hrG : RowG w vr r) (hby : l.length * 24 ≤ 140737488351232) :
    Ret Try.prog 5 [v, vq, vr] w fun x w' => x = .bool true ∧ Ext w w' := by
  obtain ⟨ps, A, c, rfl, rfl, h3, h4, h5, h6⟩ := id hlG
  have hn : ps.length * 24 ≤ 140737488351232 := by simpa using hby
  obtain ⟨B, bc, hvr, hbc, hbm, hbr⟩ := id hrG
  have hone := RowG.ones h6
  refine enterR Try.func5 Try.ntmps5 rfl (by kernel_rfl) rfl ?_
  obtain ⟨q0, q1, q2, q3, rfl, hq0, hq1, hq2, hq3⟩ := hq
  repeat first | refine ω1 ?_ | refine ω2 ?_ | refine ω3 ?_ | refine ω4 ?_ | refine ω5 ?_ | refine χ1 ?_ | refine κ1 ?_ | refine κ2 ?_ | refine χ2 ?_ | refine κ3 ?_ | refine ω6 ?_ | refine ω7 ?_ | refine ω9 ?_ | refine κ4 ?_ | refine κ7 ?_ | refine κ8 ?_ | refine χ3 ?_ | refine χ4 ?_ | refine κ5 ?_ | refine κ6 ?_ | refine χ5 ?_ | refine χ6 ?_ | refine χ7 ?_ | refine ω8 ?_
  refine bx ?_
  intro wq bq hxq hbq hkq
  repeat first | refine ω1 ?_ | refine ω2 ?_ | refine ω3 ?_ | refine ω4 ?_ | refine ω5 ?_ | refine χ1 ?_ | refine κ1 ?_ | refine κ2 ?_ | refine χ2 ?_ | refine κ3 ?_ | refine ω6 ?_ | refine ω7 ?_ | refine ω9 ?_ | refine κ4 ?_ | refine κ7 ?_ | refine κ8 ?_ | refine χ3 ?_ | refine χ4 ?_ | refine κ5 ?_ | refine κ6 ?_ | refine χ5 ?_ | refine χ6 ?_ | refine χ7 ?_ | refine ω8 ?_
  refine bsl bs0Rows ?_
  intro w1 b1 hx1' hb1' hk1
  have hx1 := hxq.trans hx1'
  have hb1 : w.heap.size ≤ b1 := by have := hxq.size; omega
  repeat first | refine ω1 ?_ | refine ω2 ?_ | refine ω3 ?_ | refine ω4 ?_ | refine ω5 ?_ | refine χ1 ?_ | refine κ1 ?_ | refine κ2 ?_ | refine χ2 ?_ | refine κ3 ?_ | refine ω6 ?_ | refine ω7 ?_ | refine ω9 ?_ | refine κ4 ?_ | refine κ7 ?_ | refine κ8 ?_ | refine χ3 ?_ | refine χ4 ?_ | refine κ5 ?_ | refine κ6 ?_ | refine χ5 ?_ | refine χ6 ?_ | refine χ7 ?_ | refine ω8 ?_
  refine apo (a := wq) hx1' ER (hk1.own (n := 0) hb1' rfl (Nat.zero_le _)) (h5.ext hx1) hone (by unfold maxLen; omega) (by omega) ?_
  intro v2 w2 ho2 hx2 _ _
  repeat first | refine ω1 ?_ | refine ω2 ?_ | refine ω3 ?_ | refine ω4 ?_ | refine ω5 ?_ | refine χ1 ?_ | refine κ1 ?_ | refine κ2 ?_ | refine χ2 ?_ | refine κ3 ?_ | refine ω6 ?_ | refine ω7 ?_ | refine ω9 ?_ | refine κ4 ?_ | refine κ7 ?_ | refine κ8 ?_ | refine χ3 ?_ | refine χ4 ?_ | refine κ5 ?_ | refine κ6 ?_ | refine χ5 ?_ | refine χ6 ?_ | refine χ7 ?_ | refine ω8 ?_
  refine bsl (fun w => bs1Row vr w B _ bc hvr) ?_
  intro w3 b3 hx3 hb3 hk3
  repeat first | refine ω1 ?_ | refine ω2 ?_ | refine ω3 ?_ | refine ω4 ?_ | refine ω5 ?_ | refine χ1 ?_ | refine κ1 ?_ | refine κ2 ?_ | refine χ2 ?_ | refine κ3 ?_ | refine ω6 ?_ | refine ω7 ?_ | refine ω9 ?_ | refine κ4 ?_ | refine κ7 ?_ | refine κ8 ?_ | refine χ3 ?_ | refine χ4 ?_ | refine κ5 ?_ | refine κ6 ?_ | refine χ5 ?_ | refine χ6 ?_ | refine χ7 ?_ | refine ω8 ?_
  refine apo (a := wq) (hx2.trans hx3) ER (own_ext ho2 hx3) hk3.one (fun u hu => by rw [List.mem_singleton.1 hu]; exact hrG.one) (by unfold maxLen; omega) (by omega) ?_
  intro v4 w4 ho4 hx4' _ _
  have hx4 := hxq.trans hx4'
  repeat first | refine ω1 ?_ | refine ω2 ?_ | refine ω3 ?_ | refine ω4 ?_ | refine ω5 ?_ | refine χ1 ?_ | refine κ1 ?_ | refine κ2 ?_ | refine χ2 ?_ | refine κ3 ?_ | refine ω6 ?_ | refine ω7 ?_ | refine ω9 ?_ | refine κ4 ?_ | refine κ7 ?_ | refine κ8 ?_ | refine χ3 ?_ | refine χ4 ?_ | refine κ5 ?_ | refine κ6 ?_ | refine χ5 ?_ | refine χ6 ?_ | refine χ7 ?_ | refine ω8 ?_
  refine cl (odd_any (ds := []) (rows_more hx4 ho4 h6 hrG (by omega)) (BoolsV.nil _ none 0).g) ?_
  rintro x w5 ⟨rfl, hx5⟩
  have hx05 := hx4.trans hx5
  repeat first | refine ω1 ?_ | refine ω2 ?_ | refine ω3 ?_ | refine ω4 ?_ | refine ω5 ?_ | refine χ1 ?_ | refine κ1 ?_ | refine κ2 ?_ | refine χ2 ?_ | refine κ3 ?_ | refine ω6 ?_ | refine ω7 ?_ | refine ω9 ?_ | refine κ4 ?_ | refine κ7 ?_ | refine κ8 ?_ | refine χ3 ?_ | refine χ4 ?_ | refine κ5 ?_ | refine κ6 ?_ | refine χ5 ?_ | refine χ6 ?_ | refine χ7 ?_ | refine ω8 ?_
  refine ci (fun hodd => ?_) (fun hodd => ?_)
  · repeat first | refine ω1 ?_ | refine ω2 ?_ | refine ω3 ?_ | refine ω4 ?_ | refine ω5 ?_ | refine χ1 ?_ | refine κ1 ?_ | refine κ2 ?_ | refine χ2 ?_ | refine κ3 ?_ | refine ω6 ?_ | refine ω7 ?_ | refine ω9 ?_ | refine κ4 ?_ | refine κ7 ?_ | refine κ8 ?_ | refine χ3 ?_ | refine χ4 ?_ | refine κ5 ?_ | refine κ6 ?_ | refine χ5 ?_ | refine χ6 ?_ | refine χ7 ?_ | refine ω8 ?_
    refine cl (awake43_any _) ?_
    rintro _ w6 ⟨rfl, hx6⟩
    repeat first | refine ω1 ?_ | refine ω2 ?_ | refine ω3 ?_ | refine ω4 ?_ | refine ω5 ?_ | refine χ1 ?_ | refine κ1 ?_ | refine κ2 ?_ | refine χ2 ?_ | refine κ3 ?_ | refine ω6 ?_ | refine ω7 ?_ | refine ω9 ?_ | refine κ4 ?_ | refine κ7 ?_ | refine κ8 ?_ | refine χ3 ?_ | refine χ4 ?_ | refine κ5 ?_ | refine κ6 ?_ | refine χ5 ?_ | refine χ6 ?_ | refine χ7 ?_ | refine ω8 ?_
    exact fin1 ⟨rfl, hx05.trans hx6⟩
  rw [Bool.or_eq_false_iff] at hodd
  obtain ⟨hlen40, hrow8⟩ := not_great hodd.1
  have hl40 : ps.length ≤ 40 := by simp at hlen40; omega
  have hl := hlG.v (by simp; omega) (fun x hx => by have := hrow8 x (List.mem_append_left _ hx); omega)
  have hr := hrG.v (by have := hrow8 r (by simp); omega)
  repeat first | refine ω1 ?_ | refine ω2 ?_ | refine ω3 ?_ | refine ω4 ?_ | refine ω5 ?_ | refine χ1 ?_ | refine κ1 ?_ | refine κ2 ?_ | refine χ2 ?_ | refine κ3 ?_ | refine ω6 ?_ | refine ω7 ?_ | refine ω9 ?_ | refine κ4 ?_ | refine κ7 ?_ | refine κ8 ?_ | refine χ3 ?_ | refine χ4 ?_ | refine κ5 ?_ | refine κ6 ?_ | refine χ5 ?_ | refine χ6 ?_ | refine χ7 ?_ | refine ω8 ?_
  refine cl (ofRows_any (hl.ext hx05) (BoolsV.nil _ none 0)) ?_
  rintro va w6 ⟨⟨m, hA, hset, hml⟩, hx6⟩
  have hml40 : m.length ≤ 40 := by simp at hml; omega
  obtain ⟨u1, u2, rfl, hu12⟩ := hA.cells
  repeat first | refine ω1 ?_ | refine ω2 ?_ | refine ω3 ?_ | refine ω4 ?_ | refine ω5 ?_ | refine χ1 ?_ | refine κ1 ?_ | refine κ2 ?_ | refine χ2 ?_ | refine κ3 ?_ | refine ω6 ?_ | refine ω7 ?_ | refine ω9 ?_ | refine κ4 ?_ | refine κ7 ?_ | refine κ8 ?_ | refine χ3 ?_ | refine χ4 ?_ | refine κ5 ?_ | refine κ6 ?_ | refine χ5 ?_ | refine χ6 ?_ | refine χ7 ?_ | refine ω8 ?_
  refine alc (cs := [.slice none 0 0, .slice none 0 0]) zRows ?_
  intro w7 b7 hx7 hb7 hk7
  repeat first | refine ω1 ?_ | refine ω2 ?_ | refine ω3 ?_ | refine ω4 ?_ | refine ω5 ?_ | refine χ1 ?_ | refine κ1 ?_ | refine κ2 ?_ | refine χ2 ?_ | refine κ3 ?_ | refine ω6 ?_ | refine ω7 ?_ | refine ω9 ?_ | refine κ4 ?_ | refine κ7 ?_ | refine κ8 ?_ | refine χ3 ?_ | refine χ4 ?_ | refine κ5 ?_ | refine κ6 ?_ | refine χ5 ?_ | refine χ6 ?_ | refine χ7 ?_ | refine ω8 ?_
  refine stb hk7 (cs' := [u1, u2]) ?_ hu12
  intro w8 hk8 hg8 hx8
  have hx68 : Ext w6 w8 := hx8 w6 hx7 hb7
  have hx08 := (hx05.trans hx6).trans hx68
  repeat first | refine ω1 ?_ | refine ω2 ?_ | refine ω3 ?_ | refine ω4 ?_ | refine ω5 ?_ | refine χ1 ?_ | refine κ1 ?_ | refine κ2 ?_ | refine χ2 ?_ | refine κ3 ?_ | refine ω6 ?_ | refine ω7 ?_ | refine ω9 ?_ | refine κ4 ?_ | refine κ7 ?_ | refine κ8 ?_ | refine χ3 ?_ | refine χ4 ?_ | refine κ5 ?_ | refine κ6 ?_ | refine χ5 ?_ | refine χ6 ?_ | refine χ7 ?_ | refine ω8 ?_
  refine cl (refOf_any (hl.ext hx08) (BoolsV.nil _ none 0) (by simp; omega)) ?_
  rintro vm w9 ⟨⟨m', hM, hset', _⟩, hx9⟩
  have hmm : m' = m := hset'.uniq hset
  subst hmm
  have hx09 := hx08.trans hx9
  have hA9 := hA.ext (hx68.trans hx9)
  obtain ⟨Am, cm, rfl, hcm, _, _⟩ := hM.parts
  have hxq9 : Ext wq w9 := (((hx4'.trans hx5).trans hx6).trans hx68).trans hx9
  have hkq9 := hkq.ext hxq9
  have hk9 := hk8.ext hx9
  have hI9 := rowsI (hA.ext (hx68.trans hx9)) hset.1 (by omega)
  repeat first | refine ω1 ?_ | refine ω2 ?_ | refine ω3 ?_ | refine ω4 ?_ | refine ω5 ?_ | refine χ1 ?_ | refine κ1 ?_ | refine κ2 ?_ | refine χ2 ?_ | refine κ3 ?_ | refine ω6 ?_ | refine ω7 ?_ | refine ω9 ?_ | refine κ4 ?_ | refine κ7 ?_ | refine κ8 ?_ | refine χ3 ?_ | refine χ4 ?_ | refine κ5 ?_ | refine κ6 ?_ | refine χ5 ?_ | refine χ6 ?_ | refine χ7 ?_ | refine ω8 ?_
  refine dr [(0, 0), (0, 1), (0, 2), (0, 3), (0, 4), (0, 5), (0, 6), (0, 7), (0, 8), (0, 9)] (by kernel_rfl) ?_
  have hxd : Ext w9 w9.drew := (Ext.refl w9).drew
  refine dixa 0 ?_
  refine dld ((hkq9.ext hxd).at (i := 0 * 1) rfl) ?_
  refine drem (b := 44) (by decide) ?_
  repeat first | refine δ1 ?_ | refine δ2 ?_ | refine δ4 ?_ | refine δ5 ?_ | refine δ6 ?_ | refine δ7 ?_ | refine δ9 ?_ | refine δ8 ?_ | refine χ1 ?_ | refine χ2 ?_ | refine χ3 ?_ | refine χ4 ?_ | refine χ5 ?_ | refine χ6 ?_ | refine χ7 ?_
  refine dixa 1 ?_
  refine dld ((hkq9.ext hxd).at (i := 1 * 1) rfl) ?_
  refine drem (b := 44) (by decide) ?_
  repeat first | refine δ1 ?_ | refine δ2 ?_ | refine δ4 ?_ | refine δ5 ?_ | refine δ6 ?_ | refine δ7 ?_ | refine δ9 ?_ | refine δ8 ?_ | refine χ1 ?_ | refine χ2 ?_ | refine χ3 ?_ | refine χ4 ?_ | refine χ5 ?_ | refine χ6 ?_ | refine χ7 ?_
  rw [u8mod (mi := 44) hq0 44 rfl (by decide) (by decide), u8mod (mi := 44) hq1 44 rfl (by decide) (by decide)]
  generalize hlo : q0.toNat % 44 = lo
  generalize hhi : q1.toNat % 44 = hi
  have hlo44 : lo < 44 := by rw [← hlo]; exact Nat.mod_lt _ (by decide)
  have hhi44 : hi < 44 := by rw [← hhi]; exact Nat.mod_lt _ (by decide)
  repeat first | refine ω1 ?_ | refine ω2 ?_ | refine ω3 ?_ | refine ω4 ?_ | refine ω5 ?_ | refine χ1 ?_ | refine κ1 ?_ | refine κ2 ?_ | refine χ2 ?_ | refine κ3 ?_ | refine ω6 ?_ | refine ω7 ?_ | refine ω9 ?_ | refine κ4 ?_ | refine κ7 ?_ | refine κ8 ?_ | refine χ3 ?_ | refine χ4 ?_ | refine κ5 ?_ | refine κ6 ?_ | refine χ5 ?_ | refine χ6 ?_ | refine χ7 ?_ | refine ω8 ?_
  refine dr [(0, 0), (0, 1), (0, 2), (0, 4), (1, 3), (1, 5), (1, 6), (0, 7), (0, 8), (0, 9), (0, 10), (0, 11)] (by kernel_rfl) ?_
  have hxe : Ext w9 w9.drew.drew := hxd.trans (Ext.refl w9.drew).drew
  refine dlds (fun j u hu => (hk9.ext hxe).at hu) ?_
  refine dmki Try.underlying29 (fun ms e => by cases e) ?_
  repeat first | refine δ1 ?_ | refine δ2 ?_ | refine δ4 ?_ | refine δ5 ?_ | refine δ6 ?_ | refine δ7 ?_ | refine δ9 ?_ | refine δ8 ?_ | refine χ1 ?_ | refine χ2 ?_ | refine χ3 ?_ | refine χ4 ?_ | refine χ5 ?_ | refine χ6 ?_ | refine χ7 ?_
  refine dcl (of43_any (n := lo) (by omega) _) ?_
  rintro x10 w10 ⟨hn10, hx10⟩
  refine ⟨hx10, ?_⟩
  refine dcl (of43_any (n := hi) (by omega) _) ?_
  rintro x11 w11 ⟨hn11, hx11⟩
  refine ⟨hx11, ?_⟩
  have hx911 : Ext w9 w11 := (hxe.trans hx10).trans hx11
  refine dcl (slice_any (hI9.ext hx911) (hn10.ext hx11) hn11 (by omega) (by omega)) ?_
  rintro x12 w12 ⟨hx12', hx12⟩
  refine ⟨hx12, ?_⟩
  have hx912 := hx911.trans hx12
  have hx012 := hx09.trans hx912
  split at hx12'
  · rename_i hgood
    obtain ⟨y, rfl, hY⟩ := hx12'
    obtain ⟨ty, yy, rfl⟩ := hY.form
    have hcl := cut_len (lo := lo) hgood.2
    repeat first | refine δ1 ?_ | refine δ2 ?_ | refine δ4 ?_ | refine δ5 ?_ | refine δ6 ?_ | refine δ7 ?_ | refine δ9 ?_ | refine δ8 ?_ | refine χ1 ?_ | refine χ2 ?_ | refine χ3 ?_ | refine χ4 ?_ | refine χ5 ?_ | refine χ6 ?_ | refine χ7 ?_
    repeat first | refine ω1 ?_ | refine ω2 ?_ | refine ω3 ?_ | refine ω4 ?_ | refine ω5 ?_ | refine χ1 ?_ | refine κ1 ?_ | refine κ2 ?_ | refine χ2 ?_ | refine κ3 ?_ | refine ω6 ?_ | refine ω7 ?_ | refine ω9 ?_ | refine κ4 ?_ | refine κ7 ?_ | refine κ8 ?_ | refine χ3 ?_ | refine χ4 ?_ | refine κ5 ?_ | refine κ6 ?_ | refine χ5 ?_ | refine χ6 ?_ | refine χ7 ?_ | refine ω8 ?_
    refine kf 58 ?_ ?_
    · exact decide_eq_false (by omega)
    repeat first | refine ω1 ?_ | refine ω2 ?_ | refine ω3 ?_ | refine ω4 ?_ | refine ω5 ?_ | refine χ1 ?_ | refine κ1 ?_ | refine κ2 ?_ | refine χ2 ?_ | refine κ3 ?_ | refine ω6 ?_ | refine ω7 ?_ | refine ω9 ?_ | refine κ4 ?_ | refine κ7 ?_ | refine κ8 ?_ | refine χ3 ?_ | refine χ4 ?_ | refine κ5 ?_ | refine κ6 ?_ | refine χ5 ?_ | refine χ6 ?_ | refine χ7 ?_ | refine ω8 ?_
    refine cf ?_ ?_
    · exact decide_eq_false (by omega)
    repeat first | refine ω1 ?_ | refine ω2 ?_ | refine ω3 ?_ | refine ω4 ?_ | refine ω5 ?_ | refine χ1 ?_ | refine κ1 ?_ | refine κ2 ?_ | refine χ2 ?_ | refine κ3 ?_ | refine ω6 ?_ | refine ω7 ?_ | refine ω9 ?_ | refine κ4 ?_ | refine κ7 ?_ | refine κ8 ?_ | refine χ3 ?_ | refine χ4 ?_ | refine κ5 ?_ | refine κ6 ?_ | refine χ5 ?_ | refine χ6 ?_ | refine χ7 ?_ | refine ω8 ?_
    refine inil ifA (.inr ⟨_, _, rfl⟩) ?_
    repeat first | refine ω1 ?_ | refine ω2 ?_ | refine ω3 ?_ | refine ω4 ?_ | refine ω5 ?_ | refine χ1 ?_ | refine κ1 ?_ | refine κ2 ?_ | refine χ2 ?_ | refine κ3 ?_ | refine ω6 ?_ | refine ω7 ?_ | refine ω9 ?_ | refine κ4 ?_ | refine κ7 ?_ | refine κ8 ?_ | refine χ3 ?_ | refine χ4 ?_ | refine κ5 ?_ | refine κ6 ?_ | refine χ5 ?_ | refine χ6 ?_ | refine χ7 ?_ | refine ω8 ?_
    obtain ⟨fr, rr, hmr, hfr⟩ := hY.rank
    refine inv hmr (hfr w12 (Ext.refl _) r _ (hr.ext hx012)) ?_
    rintro _ w13 ⟨⟨vn, s, rfl, hn13, hs13⟩, hx13⟩
    have hx913 := hx912.trans hx13
    have hc2 : hi ≤ cm := by omega
    repeat first | refine ω1 ?_ | refine ω2 ?_ | refine ω3 ?_ | refine ω4 ?_ | refine ω5 ?_ | refine χ1 ?_ | refine κ1 ?_ | refine κ2 ?_ | refine χ2 ?_ | refine κ3 ?_ | refine ω6 ?_ | refine ω7 ?_ | refine ω9 ?_ | refine κ4 ?_ | refine κ7 ?_ | refine κ8 ?_ | refine χ3 ?_ | refine χ4 ?_ | refine κ5 ?_ | refine κ6 ?_ | refine χ5 ?_ | refine χ6 ?_ | refine χ7 ?_ | refine ω8 ?_
    refine slb lo hi ?_ hgood.1 hc2 rfl rfl
    have hCut := hM.cut hgood.1 hgood.2
    rw [← hcl] at hCut
    have hsl : ∀ B : Option Addr, Value.slice B (hi - lo) (cm - lo) = .slice B (cutL m' lo hi).length (cm - lo) := fun B => by rw [hcl]
    rw [hsl]
    repeat first | refine ω1 ?_ | refine ω2 ?_ | refine ω3 ?_ | refine ω4 ?_ | refine ω5 ?_ | refine χ1 ?_ | refine κ1 ?_ | refine κ2 ?_ | refine χ2 ?_ | refine κ3 ?_ | refine ω6 ?_ | refine ω7 ?_ | refine ω9 ?_ | refine κ4 ?_ | refine κ7 ?_ | refine κ8 ?_ | refine χ3 ?_ | refine χ4 ?_ | refine κ5 ?_ | refine κ6 ?_ | refine χ5 ?_ | refine χ6 ?_ | refine χ7 ?_ | refine ω8 ?_
    refine cl (refRank_any (hCut.ext hx913) (hr.ext (hx09.trans hx913)) (BoolsV.nil _ none 0)) ?_
    rintro _ w14 ⟨rfl, hx14⟩
    have hx914 := hx913.trans hx14
    have hrank : cutR (cnt [] m') lo hi r = cnt [] (cutL m' lo hi) r := (cnt_cut hset.1 hgood.1 hgood.2 r).symm
    repeat first | refine ω1 ?_ | refine ω2 ?_ | refine ω3 ?_ | refine ω4 ?_ | refine ω5 ?_ | refine χ1 ?_ | refine κ1 ?_ | refine κ2 ?_ | refine χ2 ?_ | refine κ3 ?_ | refine ω6 ?_ | refine ω7 ?_ | refine ω9 ?_ | refine κ4 ?_ | refine κ7 ?_ | refine κ8 ?_ | refine χ3 ?_ | refine χ4 ?_ | refine κ5 ?_ | refine κ6 ?_ | refine χ5 ?_ | refine χ6 ?_ | refine χ7 ?_ | refine ω8 ?_
    refine slb lo hi ?_ hgood.1 hc2 rfl rfl
    rw [hsl]
    repeat first | refine ω1 ?_ | refine ω2 ?_ | refine ω3 ?_ | refine ω4 ?_ | refine ω5 ?_ | refine χ1 ?_ | refine κ1 ?_ | refine κ2 ?_ | refine χ2 ?_ | refine κ3 ?_ | refine ω6 ?_ | refine ω7 ?_ | refine ω9 ?_ | refine κ4 ?_ | refine κ7 ?_ | refine κ8 ?_ | refine χ3 ?_ | refine χ4 ?_ | refine κ5 ?_ | refine κ6 ?_ | refine χ5 ?_ | refine χ6 ?_ | refine χ7 ?_ | refine ω8 ?_
    refine cl (is_any ((hY.ext hx13).ext hx14).w (hCut.ext hx914)) ?_
    rintro _ w15 ⟨rfl, hx15⟩
    repeat first | refine ω1 ?_ | refine ω2 ?_ | refine ω3 ?_ | refine ω4 ?_ | refine ω5 ?_ | refine χ1 ?_ | refine κ1 ?_ | refine κ2 ?_ | refine χ2 ?_ | refine κ3 ?_ | refine ω6 ?_ | refine ω7 ?_ | refine ω9 ?_ | refine κ4 ?_ | refine κ7 ?_ | refine κ8 ?_ | refine χ3 ?_ | refine χ4 ?_ | refine κ5 ?_ | refine κ6 ?_ | refine χ5 ?_ | refine χ6 ?_ | refine χ7 ?_ | refine ω8 ?_
    refine neb ?_
    rw [beq_self_eq_true]
    repeat first | refine ω1 ?_ | refine ω2 ?_ | refine ω3 ?_ | refine ω4 ?_ | refine ω5 ?_ | refine χ1 ?_ | refine κ1 ?_ | refine κ2 ?_ | refine χ2 ?_ | refine κ3 ?_ | refine ω6 ?_ | refine ω7 ?_ | refine ω9 ?_ | refine κ4 ?_ | refine κ7 ?_ | refine κ8 ?_ | refine χ3 ?_ | refine χ4 ?_ | refine κ5 ?_ | refine κ6 ?_ | refine χ5 ?_ | refine χ6 ?_ | refine χ7 ?_ | refine ω8 ?_
    have hrk := hY.rk r
    rw [hrank] at hn13 hrk
    refine cl (of43_any (n := cnt [] (cutL m' lo hi) r) (by omega) _) ?_
    rintro _ w16 ⟨hn16, hx16⟩
    repeat first | refine ω1 ?_ | refine ω2 ?_ | refine ω3 ?_ | refine ω4 ?_ | refine ω5 ?_ | refine χ1 ?_ | refine κ1 ?_ | refine κ2 ?_ | refine χ2 ?_ | refine κ3 ?_ | refine ω6 ?_ | refine ω7 ?_ | refine ω9 ?_ | refine κ4 ?_ | refine κ7 ?_ | refine κ8 ?_ | refine χ3 ?_ | refine χ4 ?_ | refine κ5 ?_ | refine κ6 ?_ | refine χ5 ?_ | refine χ6 ?_ | refine χ7 ?_ | refine ω8 ?_
    refine cl (natCmp_any (((hn13.ext hx14).ext hx15).ext hx16) hn16) ?_
    rintro _ w17 ⟨rfl, hx17⟩
    rw [cmpN_eq.2 rfl]
    have hx917 := ((hx914.trans hx15).trans hx16).trans hx17
    repeat first | refine ω1 ?_ | refine ω2 ?_ | refine ω3 ?_ | refine ω4 ?_ | refine ω5 ?_ | refine χ1 ?_ | refine κ1 ?_ | refine κ2 ?_ | refine χ2 ?_ | refine κ3 ?_ | refine ω6 ?_ | refine ω7 ?_ | refine ω9 ?_ | refine κ4 ?_ | refine κ7 ?_ | refine κ8 ?_ | refine χ3 ?_ | refine χ4 ?_ | refine κ5 ?_ | refine κ6 ?_ | refine χ5 ?_ | refine χ6 ?_ | refine χ7 ?_ | refine ω8 ?_
    refine dr [(0, 0), (0, 1), (0, 2), (0, 3), (0, 4), (0, 5), (0, 6), (0, 7), (0, 8), (0, 9), (0, 10), (0, 11), (0, 12), (0, 13), (0, 14), (0, 15), (0, 16), (0, 17)] (by kernel_rfl) ?_
    have hxf : Ext w17 w17.drew := (Ext.refl w17).drew
    have hx9f := hx917.trans hxf
    refine dixa 2 ?_
    refine dld ((hkq9.ext hx9f).at (i := 2 * 1) rfl) ?_
    repeat first | refine δ1 ?_ | refine δ2 ?_ | refine δ4 ?_ | refine δ5 ?_ | refine δ6 ?_ | refine δ7 ?_ | refine δ9 ?_ | refine δ8 ?_ | refine χ1 ?_ | refine χ2 ?_ | refine χ3 ?_ | refine χ4 ?_ | refine χ5 ?_ | refine χ6 ?_ | refine χ7 ?_
    refine drem (b := (hi : Int) - (lo : Int) + 1) (by omega) ?_
    repeat first | refine δ1 ?_ | refine δ2 ?_ | refine δ4 ?_ | refine δ5 ?_ | refine δ6 ?_ | refine δ7 ?_ | refine δ9 ?_ | refine δ8 ?_ | refine χ1 ?_ | refine χ2 ?_ | refine χ3 ?_ | refine χ4 ?_ | refine χ5 ?_ | refine χ6 ?_ | refine χ7 ?_
    refine dixa 3 ?_
    refine dld ((hkq9.ext hx9f).at (i := 3 * 1) rfl) ?_
    repeat first | refine δ1 ?_ | refine δ2 ?_ | refine δ4 ?_ | refine δ5 ?_ | refine δ6 ?_ | refine δ7 ?_ | refine δ9 ?_ | refine δ8 ?_ | refine χ1 ?_ | refine χ2 ?_ | refine χ3 ?_ | refine χ4 ?_ | refine χ5 ?_ | refine χ6 ?_ | refine χ7 ?_
    refine drem (b := (hi : Int) - (lo : Int) + 1) (by omega) ?_
    repeat first | refine δ1 ?_ | refine δ2 ?_ | refine δ4 ?_ | refine δ5 ?_ | refine δ6 ?_ | refine δ7 ?_ | refine δ9 ?_ | refine δ8 ?_ | refine χ1 ?_ | refine χ2 ?_ | refine χ3 ?_ | refine χ4 ?_ | refine χ5 ?_ | refine χ6 ?_ | refine χ7 ?_
    rw [imod (n := hi - lo + 1) hq2 (by omega), imod (n := hi - lo + 1) hq3 (by omega)]
    generalize hfr' : q2.toNat % (hi - lo + 1) = from_
    generalize hto : q3.toNat % (hi - lo + 1) = to_
    have hf1 : from_ ≤ hi - lo := by rw [← hfr']; have := Nat.mod_lt q2.toNat (show 0 < hi - lo + 1 by omega); omega
    have ht1 : to_ ≤ hi - lo := by rw [← hto]; have := Nat.mod_lt q3.toNat (show 0 < hi - lo + 1 by omega); omega
    repeat first | refine ω1 ?_ | refine ω2 ?_ | refine ω3 ?_ | refine ω4 ?_ | refine ω5 ?_ | refine χ1 ?_ | refine κ1 ?_ | refine κ2 ?_ | refine χ2 ?_ | refine κ3 ?_ | refine ω6 ?_ | refine ω7 ?_ | refine ω9 ?_ | refine κ4 ?_ | refine κ7 ?_ | refine κ8 ?_ | refine χ3 ?_ | refine χ4 ?_ | refine κ5 ?_ | refine κ6 ?_ | refine χ5 ?_ | refine χ6 ?_ | refine χ7 ?_ | refine ω8 ?_
    rw [min_if]
    refine cl (of43_any (n := min from_ to_) (by omega) _) ?_
    rintro x18 w18 ⟨hn18, hx18⟩
    repeat first | refine ω1 ?_ | refine ω2 ?_ | refine ω3 ?_ | refine ω4 ?_ | refine ω5 ?_ | refine χ1 ?_ | refine κ1 ?_ | refine κ2 ?_ | refine χ2 ?_ | refine κ3 ?_ | refine ω6 ?_ | refine ω7 ?_ | refine ω9 ?_ | refine κ4 ?_ | refine κ7 ?_ | refine κ8 ?_ | refine χ3 ?_ | refine χ4 ?_ | refine κ5 ?_ | refine κ6 ?_ | refine χ5 ?_ | refine χ6 ?_ | refine χ7 ?_ | refine ω8 ?_
    rw [max_if]
    refine cl (of43_any (n := max from_ to_) (by omega) _) ?_
    rintro x19 w19 ⟨hn19, hx19⟩
    have hx919 := (hx9f.trans hx18).trans hx19
    have hx1219 : Ext w12 w19 := (((((((hx13.trans hx14).trans hx15).trans hx16).trans hx17).trans hxf).trans hx18).trans hx19)
    repeat first | refine ω1 ?_ | refine ω2 ?_ | refine ω3 ?_ | refine ω4 ?_ | refine ω5 ?_ | refine χ1 ?_ | refine κ1 ?_ | refine κ2 ?_ | refine χ2 ?_ | refine κ3 ?_ | refine ω6 ?_ | refine ω7 ?_ | refine ω9 ?_ | refine κ4 ?_ | refine κ7 ?_ | refine κ8 ?_ | refine χ3 ?_ | refine χ4 ?_ | refine κ5 ?_ | refine κ6 ?_ | refine χ5 ?_ | refine χ6 ?_ | refine χ7 ?_ | refine ω8 ?_
    refine cl (slice_any (hY.ext hx1219) (hn18.ext hx19) hn19 (by omega) (by omega)) ?_
    rintro x20 w20 ⟨hx20', hx20⟩
    rw [if_pos ⟨by omega, by rw [hcl]; omega⟩] at hx20'
    obtain ⟨y20, rfl, hY20⟩ := hx20'
    rw [cut_cut hgood.1 hgood.2 (by omega) (by omega)] at hY20
    have hx920 := hx919.trans hx20
    repeat first | refine ω1 ?_ | refine ω2 ?_ | refine ω3 ?_ | refine ω4 ?_ | refine ω5 ?_ | refine χ1 ?_ | refine κ1 ?_ | refine κ2 ?_ | refine χ2 ?_ | refine κ3 ?_ | refine ω6 ?_ | refine ω7 ?_ | refine ω9 ?_ | refine κ4 ?_ | refine κ7 ?_ | refine κ8 ?_ | refine χ3 ?_ | refine χ4 ?_ | refine κ5 ?_ | refine κ6 ?_ | refine χ5 ?_ | refine χ6 ?_ | refine χ7 ?_ | refine ω8 ?_
    refine cl (slice_nil _ _) ?_
    rintro _ w21 ⟨rfl, rfl⟩
    repeat first | refine ω1 ?_ | refine ω2 ?_ | refine ω3 ?_ | refine ω4 ?_ | refine ω5 ?_ | refine χ1 ?_ | refine κ1 ?_ | refine κ2 ?_ | refine χ2 ?_ | refine κ3 ?_ | refine ω6 ?_ | refine ω7 ?_ | refine ω9 ?_ | refine κ4 ?_ | refine κ7 ?_ | refine κ8 ?_ | refine χ3 ?_ | refine χ4 ?_ | refine κ5 ?_ | refine κ6 ?_ | refine χ5 ?_ | refine χ6 ?_ | refine χ7 ?_ | refine ω8 ?_
    rw [min_if]
    have hle1 : lo + min from_ to_ ≤ lo + max from_ to_ := by omega
    have hle2 : lo + max from_ to_ ≤ m'.length := by omega
    have hc3 : lo + max from_ to_ ≤ cm := by omega
    have hl1 : (lo : Int) + ((min from_ to_ : Nat) : Int) = ((lo + min from_ to_ : Nat) : Int) := by omega
    repeat first | refine ω1 ?_ | refine ω2 ?_ | refine ω3 ?_ | refine ω4 ?_ | refine ω5 ?_ | refine χ1 ?_ | refine κ1 ?_ | refine κ2 ?_ | refine χ2 ?_ | refine κ3 ?_ | refine ω6 ?_ | refine ω7 ?_ | refine ω9 ?_ | refine κ4 ?_ | refine κ7 ?_ | refine κ8 ?_ | refine χ3 ?_ | refine χ4 ?_ | refine κ5 ?_ | refine κ6 ?_ | refine χ5 ?_ | refine χ6 ?_ | refine χ7 ?_ | refine ω8 ?_
    rw [max_if]
    have hl2 : (lo : Int) + ((max from_ to_ : Nat) : Int) = ((lo + max from_ to_ : Nat) : Int) := by omega
    repeat first | refine ω1 ?_ | refine ω2 ?_ | refine ω3 ?_ | refine ω4 ?_ | refine ω5 ?_ | refine χ1 ?_ | refine κ1 ?_ | refine κ2 ?_ | refine χ2 ?_ | refine κ3 ?_ | refine ω6 ?_ | refine ω7 ?_ | refine ω9 ?_ | refine κ4 ?_ | refine κ7 ?_ | refine κ8 ?_ | refine χ3 ?_ | refine χ4 ?_ | refine κ5 ?_ | refine κ6 ?_ | refine χ5 ?_ | refine χ6 ?_ | refine χ7 ?_ | refine ω8 ?_
    refine slb (lo + min from_ to_) (lo + max from_ to_) ?_ hle1 hc3 hl1 hl2
    have hCut2 := hM.cut hle1 hle2
    repeat first | refine ω1 ?_ | refine ω2 ?_ | refine ω3 ?_ | refine ω4 ?_ | refine ω5 ?_ | refine χ1 ?_ | refine κ1 ?_ | refine κ2 ?_ | refine χ2 ?_ | refine κ3 ?_ | refine ω6 ?_ | refine ω7 ?_ | refine ω9 ?_ | refine κ4 ?_ | refine κ7 ?_ | refine κ8 ?_ | refine χ3 ?_ | refine χ4 ?_ | refine κ5 ?_ | refine κ6 ?_ | refine χ5 ?_ | refine χ6 ?_ | refine χ7 ?_ | refine ω8 ?_
    refine cl (is_any hY20.w (hCut2.ext hx920)) ?_
    rintro _ w22 ⟨rfl, hx22⟩
    repeat first | refine ω1 ?_ | refine ω2 ?_ | refine ω3 ?_ | refine ω4 ?_ | refine ω5 ?_ | refine χ1 ?_ | refine κ1 ?_ | refine κ2 ?_ | refine χ2 ?_ | refine κ3 ?_ | refine ω6 ?_ | refine ω7 ?_ | refine ω9 ?_ | refine κ4 ?_ | refine κ7 ?_ | refine κ8 ?_ | refine χ3 ?_ | refine χ4 ?_ | refine κ5 ?_ | refine κ6 ?_ | refine χ5 ?_ | refine χ6 ?_ | refine χ7 ?_ | refine ω8 ?_
    refine cl (awake43_any _) ?_
    rintro _ w23 ⟨rfl, hx23⟩
    repeat first | refine ω1 ?_ | refine ω2 ?_ | refine ω3 ?_ | refine ω4 ?_ | refine ω5 ?_ | refine χ1 ?_ | refine κ1 ?_ | refine κ2 ?_ | refine χ2 ?_ | refine κ3 ?_ | refine ω6 ?_ | refine ω7 ?_ | refine ω9 ?_ | refine κ4 ?_ | refine κ7 ?_ | refine κ8 ?_ | refine χ3 ?_ | refine χ4 ?_ | refine κ5 ?_ | refine κ6 ?_ | refine χ5 ?_ | refine χ6 ?_ | refine χ7 ?_ | refine ω8 ?_
    exact fin1 ⟨rfl, ((hx09.trans hx920).trans hx22).trans hx23⟩
  · rename_i hbad
    subst hx12'
    repeat first | refine δ1 ?_ | refine δ2 ?_ | refine δ4 ?_ | refine δ5 ?_ | refine δ6 ?_ | refine δ7 ?_ | refine δ9 ?_ | refine δ8 ?_ | refine χ1 ?_ | refine χ2 ?_ | refine χ3 ?_ | refine χ4 ?_ | refine χ5 ?_ | refine χ6 ?_ | refine χ7 ?_
    repeat first | refine ω1 ?_ | refine ω2 ?_ | refine ω3 ?_ | refine ω4 ?_ | refine ω5 ?_ | refine χ1 ?_ | refine κ1 ?_ | refine κ2 ?_ | refine χ2 ?_ | refine κ3 ?_ | refine ω6 ?_ | refine ω7 ?_ | refine ω9 ?_ | refine κ4 ?_ | refine κ7 ?_ | refine κ8 ?_ | refine χ3 ?_ | refine χ4 ?_ | refine κ5 ?_ | refine κ6 ?_ | refine χ5 ?_ | refine χ6 ?_ | refine χ7 ?_ | refine ω8 ?_
    refine wljoin1 (fun (b : Bool) => [(11, .nilIface), (12, .int .i64 3), (63, .bool b)]) (fun b w' => b = true ∧ w' = w12) ?_ ?_
    · refine ki 58 (fun h => ?_) (fun h => ?_)
      · repeat first | refine ω1 ?_ | refine ω2 ?_ | refine ω3 ?_ | refine ω4 ?_ | refine ω5 ?_ | refine χ1 ?_ | refine κ1 ?_ | refine κ2 ?_ | refine χ2 ?_ | refine κ3 ?_ | refine ω6 ?_ | refine ω7 ?_ | refine ω9 ?_ | refine κ4 ?_ | refine κ7 ?_ | refine κ8 ?_ | refine χ3 ?_ | refine χ4 ?_ | refine κ5 ?_ | refine κ6 ?_ | refine χ5 ?_ | refine χ6 ?_ | refine χ7 ?_ | refine ω8 ?_
        exact qjoin1 true (by repeat' (first | exact Sub.nil | refine Sub.cons rfl ?_)) ⟨rfl, rfl⟩
      · have := of_decide_eq_false h
        repeat first | refine ω1 ?_ | refine ω2 ?_ | refine ω3 ?_ | refine ω4 ?_ | refine ω5 ?_ | refine χ1 ?_ | refine κ1 ?_ | refine κ2 ?_ | refine χ2 ?_ | refine κ3 ?_ | refine ω6 ?_ | refine ω7 ?_ | refine ω9 ?_ | refine κ4 ?_ | refine κ7 ?_ | refine κ8 ?_ | refine χ3 ?_ | refine χ4 ?_ | refine κ5 ?_ | refine κ6 ?_ | refine χ5 ?_ | refine χ6 ?_ | refine χ7 ?_ | refine ω8 ?_
        exact qjoin1 _ (by repeat' (first | exact Sub.nil | refine Sub.cons rfl ?_)) ⟨decide_eq_true (by omega), rfl⟩
    rintro b w13 ⟨rfl, rfl⟩
    repeat first | refine ω1 ?_ | refine ω2 ?_ | refine ω3 ?_ | refine ω4 ?_ | refine ω5 ?_ | refine χ1 ?_ | refine κ1 ?_ | refine κ2 ?_ | refine χ2 ?_ | refine κ3 ?_ | refine ω6 ?_ | refine ω7 ?_ | refine ω9 ?_ | refine κ4 ?_ | refine κ7 ?_ | refine κ8 ?_ | refine χ3 ?_ | refine χ4 ?_ | refine κ5 ?_ | refine κ6 ?_ | refine χ5 ?_ | refine χ6 ?_ | refine χ7 ?_ | refine ω8 ?_
    refine inil ifA (.inl rfl) ?_
    repeat first | refine ω1 ?_ | refine ω2 ?_ | refine ω3 ?_ | refine ω4 ?_ | refine ω5 ?_ | refine χ1 ?_ | refine κ1 ?_ | refine κ2 ?_ | refine χ2 ?_ | refine κ3 ?_ | refine ω6 ?_ | refine ω7 ?_ | refine ω9 ?_ | refine κ4 ?_ | refine κ7 ?_ | refine κ8 ?_ | refine χ3 ?_ | refine χ4 ?_ | refine κ5 ?_ | refine κ6 ?_ | refine χ5 ?_ | refine χ6 ?_ | refine χ7 ?_ | refine ω8 ?_
    refine cl (awake43_any _) ?_
    rintro _ w14 ⟨rfl, hx14⟩
    repeat first | refine ω1 ?_ | refine ω2 ?_ | refine ω3 ?_ | refine ω4 ?_ | refine ω5 ?_ | refine χ1 ?_ | refine κ1 ?_ | refine κ2 ?_ | refine χ2 ?_ | refine κ3 ?_ | refine ω6 ?_ | refine ω7 ?_ | refine ω9 ?_ | refine κ4 ?_ | refine κ7 ?_ | refine κ8 ?_ | refine χ3 ?_ | refine χ4 ?_ | refine κ5 ?_ | refine κ6 ?_ | refine χ5 ?_ | refine χ6 ?_ | refine χ7 ?_ | refine ω8 ?_
    exact fin1 ⟨rfl, hx012.trans hx14⟩
end Go.Proofs.Ytpahjnfolbnloaa
