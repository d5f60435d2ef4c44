/- The sorting functions of package slices, at rows: symMerge. -/
import Derived.Test.YtpahjnfolbnloaaSort2
set_option linter.unusedVariables false
namespace Go.Proofs.Ytpahjnfolbnloaa
open Go.RowKit Pl Go.Wk
attribute [local irreducible] WC WL QX WD WDB WP
theorem half (i j : Nat) (h : i + j ≤ 4400000) : IntKind.i64.wrap ((IntKind.u64.wrap ((i : Int) + (j : Int))).fdiv (2 ^ min (1 : Int).toNat IntKind.u64.bits)) = (((i + j) / 2 : Nat) : Int) := by
  have e : (2 : Int) ^ min (1 : Int).toNat IntKind.u64.bits = ((2 : Nat) : Int) := by decide
  have e2 : IntKind.u64.wrap ((i : Int) + (j : Int)) = ((i + j : Nat) : Int) := by rw [IntKind.wrap_u64]; omega
  rw [e, e2, Int.fdiv_eq_ediv_of_nonneg _ (by omega), IntKind.wrap_i64]; omega
/-- what a merge promises -/
def Merged (w : World) (base : Nat) (v : Value) (ps : List Pr) (ds : List Bool) (a b : Nat) (w' : World) : Prop :=
  ∃ ps', Dat w' base v ps' ∧ Seg z0 a b ps ps' ∧ SOn z0 (fP ds) ps' a b ∧ w.grownBy w' v.ownBlock
set_option maxRecDepth 100000 in
set_option maxHeartbeats 2000000 in
theorem symMerge_any (K : Nat) : ∀ {w : World} {base : Nat} {A : Option Addr} {n c a m b : Nat} {ai mi bi : Int} {fv : Value} {ps : List Pr} {ds : List Bool} (hK : b - a ≤ K) (hD : Dat w base (.slice A n c) ps) (hn : ps.length = n) (hai : ai = (a : Int)) (hmi : mi = (m : Int)) (hbi : bi = (b : Int))
    (ham : a < m) (hmb : m < b) (hb : b ≤ n) (hmx : n ≤ 1100000) (hC : CmpF w (Value.slice A n c).ownBlock fv ps ds) (hO1 : SOn z0 (fP ds) ps a m) (hO2 : SOn z0 (fP ds) ps m b),
    Ret Try.prog 99 [.slice A n c, .int .i64 ai, .int .i64 mi, .int .i64 bi, fv] w fun v w' => Merged w base (.slice A n c) ps ds a b w' := by
  induction K with
  | zero => intros; omega
  | succ K ih =>
  intro w base A n c a m b ai mi bi fv ps ds hK hD hn hai hmi hbi ham hmb hb hmx hC hO1 hO2
  subst hai; subst hmi; subst hbi
  obtain ⟨fid, first, cap, rfl, hC'⟩ := id hC
  have mem : ∀ {q : List Pr}, q.Perm ps → ∀ k, k < n → q.getD k z0 ∈ ps := fun hp k hk => hp.mem_iff.1 (getD_mem' z0 _ (by rw [hp.length_eq, hn]; exact hk))
  refine enterR Try.func99 Try.ntmps99 rfl (by kernel_rfl) rfl ?_
  repeat first | refine ω1 ?_ | refine ω2 ?_ | refine ω3 ?_ | refine ω4 ?_ | refine ω5 ?_ | refine χ1 ?_ | refine κ1 ?_ | refine κ2 ?_ | refine χ2 ?_ | refine κ3 ?_ | refine ω6 ?_ | refine ω7 ?_ | refine ω9 ?_ | refine κ4 ?_ | refine κ7 ?_ | refine κ8 ?_ | refine χ3 ?_ | refine χ4 ?_ | refine κ5 ?_ | refine κ6 ?_ | refine χ5 ?_ | refine χ6 ?_ | refine χ7 ?_ | refine ω8 ?_
  refine ci (fun h => ?_) (fun h => ?_)
  · have hm1 : m = a + 1 := by have := of_beq_t h; omega
    subst hm1
    repeat first | refine ω1 ?_ | refine ω2 ?_ | refine ω3 ?_ | refine ω4 ?_ | refine ω5 ?_ | refine χ1 ?_ | refine κ1 ?_ | refine κ2 ?_ | refine χ2 ?_ | refine κ3 ?_ | refine ω6 ?_ | refine ω7 ?_ | refine ω9 ?_ | refine κ4 ?_ | refine κ7 ?_ | refine κ8 ?_ | refine χ3 ?_ | refine χ4 ?_ | refine κ5 ?_ | refine κ6 ?_ | refine χ5 ?_ | refine χ6 ?_ | refine χ7 ?_ | refine ω8 ?_
    refine wloop2 (fun (i j : Nat) => [(0, .slice A n c), (1, .int .i64 (a : Int)), (3, .int .i64 (b : Int)), (4, .func (.func fid) first cap), (10, .int .i64 (i : Int)), (11, .int .i64 (j : Int))])
      (fun i j w' => a + 1 ≤ i ∧ i ≤ j ∧ j ≤ b ∧ (i = a + 1 ∨ fP ds (ps.getD (i - 1) z0) (ps.getD a z0) < 0) ∧ (j = b ∨ ¬ fP ds (ps.getD j z0) (ps.getD a z0) < 0) ∧ Ext w w') (fun i j => j - i) (a + 1) b (by repeat' (first | exact Sub.nil | refine Sub.cons (by first | rfl | (refine congrArg (fun z => some (Value.int .i64 z)) ?_; omega)) ?_)) ⟨Nat.le_refl _, by omega, Nat.le_refl _, .inl rfl, .inl rfl, Ext.refl w⟩ ?_
    rintro i j w1 ⟨h1, h2, h3, h4, h5, hx1⟩
    repeat first | refine ω1 ?_ | refine ω2 ?_ | refine ω3 ?_ | refine ω4 ?_ | refine ω5 ?_ | refine χ1 ?_ | refine κ1 ?_ | refine κ2 ?_ | refine χ2 ?_ | refine κ3 ?_ | refine ω6 ?_ | refine ω7 ?_ | refine ω9 ?_ | refine κ4 ?_ | refine κ7 ?_ | refine κ8 ?_ | refine χ3 ?_ | refine χ4 ?_ | refine κ5 ?_ | refine κ6 ?_ | refine χ5 ?_ | refine χ6 ?_ | refine χ7 ?_ | refine ω8 ?_
    refine ci (fun h => ?_) (fun h => ?_)
    · have hij : i < j := by have := of_decide_eq_true h; omega
      repeat first | refine ω1 ?_ | refine ω2 ?_ | refine ω3 ?_ | refine ω4 ?_ | refine ω5 ?_ | refine χ1 ?_ | refine κ1 ?_ | refine κ2 ?_ | refine χ2 ?_ | refine κ3 ?_ | refine ω6 ?_ | refine ω7 ?_ | refine ω9 ?_ | refine κ4 ?_ | refine κ7 ?_ | refine κ8 ?_ | refine χ3 ?_ | refine χ4 ?_ | refine κ5 ?_ | refine κ6 ?_ | refine χ5 ?_ | refine χ6 ?_ | refine χ7 ?_ | refine ω8 ?_
      refine wshr rfl rfl (by decide) rfl ?_
      repeat first | refine ω1 ?_ | refine ω2 ?_ | refine ω3 ?_ | refine ω4 ?_ | refine ω5 ?_ | refine χ1 ?_ | refine κ1 ?_ | refine κ2 ?_ | refine χ2 ?_ | refine κ3 ?_ | refine ω6 ?_ | refine ω7 ?_ | refine ω9 ?_ | refine κ4 ?_ | refine κ7 ?_ | refine κ8 ?_ | refine χ3 ?_ | refine χ4 ?_ | refine κ5 ?_ | refine κ6 ?_ | refine χ5 ?_ | refine χ6 ?_ | refine χ7 ?_ | refine ω8 ?_
      rw [half i j (by omega)]
      have lh : (i + j) / 2 < n := by omega
      have la : a < n := by omega
      refine dr [(0, 0), (0, 1), (0, 2), (0, 3), (0, 4), (0, 5), (0, 6), (0, 7), (0, 8), (1, 9), (0, 10)] (by kernel_rfl) ?_
      have hx2 : Ext w w1.drew := hx1.drew
      have hD2 := hD.ext hx2
      repeat first | refine δ1 ?_ | refine δ2 ?_ | refine δ4 ?_ | refine δ5 ?_ | refine δ6 ?_ | refine δ7 ?_ | refine δ9 ?_ | refine δ8 ?_ | refine χ1 ?_ | refine χ2 ?_ | refine χ3 ?_ | refine χ4 ?_ | refine χ5 ?_ | refine χ6 ?_ | refine χ7 ?_
      refine dix ((i + j) / 2) (hD2.rd hn) lh ?_
      repeat first | refine δ1 ?_ | refine δ2 ?_ | refine δ4 ?_ | refine δ5 ?_ | refine δ6 ?_ | refine δ7 ?_ | refine δ9 ?_ | refine δ8 ?_ | refine χ1 ?_ | refine χ2 ?_ | refine χ3 ?_ | refine χ4 ?_ | refine χ5 ?_ | refine χ6 ?_ | refine χ7 ?_
      refine dld (hD2.cell hn lh) ?_
      repeat first | refine δ1 ?_ | refine δ2 ?_ | refine δ4 ?_ | refine δ5 ?_ | refine δ6 ?_ | refine δ7 ?_ | refine δ9 ?_ | refine δ8 ?_ | refine χ1 ?_ | refine χ2 ?_ | refine χ3 ?_ | refine χ4 ?_ | refine χ5 ?_ | refine χ6 ?_ | refine χ7 ?_
      refine dix a (hD2.rd hn) la ?_
      repeat first | refine δ1 ?_ | refine δ2 ?_ | refine δ4 ?_ | refine δ5 ?_ | refine δ6 ?_ | refine δ7 ?_ | refine δ9 ?_ | refine δ8 ?_ | refine χ1 ?_ | refine χ2 ?_ | refine χ3 ?_ | refine χ4 ?_ | refine χ5 ?_ | refine χ6 ?_ | refine χ7 ?_
      refine dld (hD2.cell hn la) ?_
      repeat first | refine δ1 ?_ | refine δ2 ?_ | refine δ4 ?_ | refine δ5 ?_ | refine δ6 ?_ | refine δ7 ?_ | refine δ9 ?_ | refine δ8 ?_ | refine χ1 ?_ | refine χ2 ?_ | refine χ3 ?_ | refine χ4 ?_ | refine χ5 ?_ | refine χ6 ?_ | refine χ7 ?_
      refine dclv (hC' _ (ext_grown hx2 _) (ps.getD ((i + j) / 2) z0) (ps.getD a z0) (mem (List.Perm.refl _) _ lh) (mem (List.Perm.refl _) _ la)) ?_
      rintro r w4 ⟨rfl, hx4⟩
      refine ⟨hx4, ?_⟩
      repeat first | refine δ1 ?_ | refine δ2 ?_ | refine δ4 ?_ | refine δ5 ?_ | refine δ6 ?_ | refine δ7 ?_ | refine δ9 ?_ | refine δ8 ?_ | refine χ1 ?_ | refine χ2 ?_ | refine χ3 ?_ | refine χ4 ?_ | refine χ5 ?_ | refine χ6 ?_ | refine χ7 ?_
      repeat first | refine ω1 ?_ | refine ω2 ?_ | refine ω3 ?_ | refine ω4 ?_ | refine ω5 ?_ | refine χ1 ?_ | refine κ1 ?_ | refine κ2 ?_ | refine χ2 ?_ | refine κ3 ?_ | refine ω6 ?_ | refine ω7 ?_ | refine ω9 ?_ | refine κ4 ?_ | refine κ7 ?_ | refine κ8 ?_ | refine χ3 ?_ | refine χ4 ?_ | refine κ5 ?_ | refine κ6 ?_ | refine χ5 ?_ | refine χ6 ?_ | refine χ7 ?_ | refine ω8 ?_
      refine ci (fun h => ?_) (fun h => ?_)
      · have hneg := of_decide_eq_true h
        repeat first | refine ω1 ?_ | refine ω2 ?_ | refine ω3 ?_ | refine ω4 ?_ | refine ω5 ?_ | refine χ1 ?_ | refine κ1 ?_ | refine κ2 ?_ | refine χ2 ?_ | refine κ3 ?_ | refine ω6 ?_ | refine ω7 ?_ | refine ω9 ?_ | refine κ4 ?_ | refine κ7 ?_ | refine κ8 ?_ | refine χ3 ?_ | refine χ4 ?_ | refine κ5 ?_ | refine κ6 ?_ | refine χ5 ?_ | refine χ6 ?_ | refine χ7 ?_ | refine ω8 ?_
        exact qround2 ((i + j) / 2 + 1) j (by repeat' (first | exact Sub.nil | refine Sub.cons (by first | rfl | (refine congrArg (fun z => some (Value.int .i64 z)) ?_; omega)) ?_)) ⟨by omega, by omega, h3, .inr (by rw [Nat.add_sub_cancel]; exact hneg), h5, hx2.trans hx4⟩ (by omega)
      · have hneg := of_decide_eq_false h
        repeat first | refine ω1 ?_ | refine ω2 ?_ | refine ω3 ?_ | refine ω4 ?_ | refine ω5 ?_ | refine χ1 ?_ | refine κ1 ?_ | refine κ2 ?_ | refine χ2 ?_ | refine κ3 ?_ | refine ω6 ?_ | refine ω7 ?_ | refine ω9 ?_ | refine κ4 ?_ | refine κ7 ?_ | refine κ8 ?_ | refine χ3 ?_ | refine χ4 ?_ | refine κ5 ?_ | refine κ6 ?_ | refine χ5 ?_ | refine χ6 ?_ | refine χ7 ?_ | refine ω8 ?_
        exact qround2 i ((i + j) / 2) (by repeat' (first | exact Sub.nil | refine Sub.cons (by first | rfl | (refine congrArg (fun z => some (Value.int .i64 z)) ?_; omega)) ?_)) ⟨by omega, by omega, by omega, h4, .inr hneg, hx2.trans hx4⟩ (by omega)
    · have hij : i = j := by have := of_decide_eq_false h; omega
      subst hij
      repeat first | refine ω1 ?_ | refine ω2 ?_ | refine ω3 ?_ | refine ω4 ?_ | refine ω5 ?_ | refine χ1 ?_ | refine κ1 ?_ | refine κ2 ?_ | refine χ2 ?_ | refine κ3 ?_ | refine ω6 ?_ | refine ω7 ?_ | refine ω9 ?_ | refine κ4 ?_ | refine κ7 ?_ | refine κ8 ?_ | refine χ3 ?_ | refine χ4 ?_ | refine κ5 ?_ | refine κ6 ?_ | refine χ5 ?_ | refine χ6 ?_ | refine χ7 ?_ | refine ω8 ?_
      refine wloop2 (fun (k : Nat) (q : List Pr) => [(0, .slice A n c), (10, .int .i64 (i : Int)), (13, .int .i64 (k : Int))])
        (fun k q w' => a ≤ k ∧ k ≤ i - 1 ∧ BubU z0 ps q a k ∧ Seg z0 a b ps q ∧ Dat w' base (.slice A n c) q ∧ w.grownBy w' (Value.slice A n c).ownBlock) (fun k _ => i - k) a ps (by repeat' (first | exact Sub.nil | refine Sub.cons (by first | rfl | (refine congrArg (fun z => some (Value.int .i64 z)) ?_; omega)) ?_))
        ⟨Nat.le_refl _, by omega, BubU.start _ _, Seg.refl _ _ _, hD.ext hx1, ext_grown hx1 _⟩ ?_
      rintro k q w2 ⟨k1, k2, hB2, hS2, hD2, hg2⟩
      have hl2 : q.length = n := by rw [hS2.len, hn]
      repeat first | refine ω1 ?_ | refine ω2 ?_ | refine ω3 ?_ | refine ω4 ?_ | refine ω5 ?_ | refine χ1 ?_ | refine κ1 ?_ | refine κ2 ?_ | refine χ2 ?_ | refine κ3 ?_ | refine ω6 ?_ | refine ω7 ?_ | refine ω9 ?_ | refine κ4 ?_ | refine κ7 ?_ | refine κ8 ?_ | refine χ3 ?_ | refine χ4 ?_ | refine κ5 ?_ | refine κ6 ?_ | refine χ5 ?_ | refine χ6 ?_ | refine χ7 ?_ | refine ω8 ?_
      refine ci (fun h => ?_) (fun h => ?_)
      · have hk : k < i - 1 := by have := of_decide_eq_true h; omega
        have lk0 : k < n := by omega
        have lk1 : k + 1 < n := by omega
        repeat first | refine ω1 ?_ | refine ω2 ?_ | refine ω3 ?_ | refine ω4 ?_ | refine ω5 ?_ | refine χ1 ?_ | refine κ1 ?_ | refine κ2 ?_ | refine χ2 ?_ | refine κ3 ?_ | refine ω6 ?_ | refine ω7 ?_ | refine ω9 ?_ | refine κ4 ?_ | refine κ7 ?_ | refine κ8 ?_ | refine χ3 ?_ | refine χ4 ?_ | refine κ5 ?_ | refine κ6 ?_ | refine χ5 ?_ | refine χ6 ?_ | refine χ7 ?_ | refine ω8 ?_
        refine drC 4 [0, 1, 2, 3, 4, 5, 6, 7, 10, 11] [(0, 8), (0, 9), (0, 12), (0, 13), (0, 14), (2, 15), (2, 16), (2, 17)] (by kernel_rfl) ?_
        have hxe : Ext w2 w2.drew := (Ext.refl w2).drew
        have hD5 := hD2.ext hxe
        obtain ⟨s1, s2, s3, ⟨u, s4⟩, s5, s6⟩ := hD5.swap hl2 lk0 lk1
        repeat first | refine π1 ?_ | refine π2 ?_ | refine π4 ?_ | refine π5 ?_
        refine dix (k + 1) (hD5.rd hl2) lk1 ?_
        repeat first | refine δ1 ?_ | refine δ2 ?_ | refine δ4 ?_ | refine δ5 ?_ | refine δ6 ?_ | refine δ7 ?_ | refine δ9 ?_ | refine δ8 ?_ | refine χ1 ?_ | refine χ2 ?_ | refine χ3 ?_ | refine χ4 ?_ | refine χ5 ?_ | refine χ6 ?_ | refine χ7 ?_
        refine dld (hD5.cell hl2 lk1) ?_
        repeat first | refine δ1 ?_ | refine δ2 ?_ | refine δ4 ?_ | refine δ5 ?_ | refine δ6 ?_ | refine δ7 ?_ | refine δ9 ?_ | refine δ8 ?_ | refine χ1 ?_ | refine χ2 ?_ | refine χ3 ?_ | refine χ4 ?_ | refine χ5 ?_ | refine χ6 ?_ | refine χ7 ?_
        refine dix k (hD5.rd hl2) lk0 ?_
        repeat first | refine δ1 ?_ | refine δ2 ?_ | refine δ4 ?_ | refine δ5 ?_ | refine δ6 ?_ | refine δ7 ?_ | refine δ9 ?_ | refine δ8 ?_ | refine χ1 ?_ | refine χ2 ?_ | refine χ3 ?_ | refine χ4 ?_ | refine χ5 ?_ | refine χ6 ?_ | refine χ7 ?_
        refine dld (hD5.cell hl2 lk0) ?_
        repeat first | refine δ1 ?_ | refine δ2 ?_ | refine δ4 ?_ | refine δ5 ?_ | refine δ6 ?_ | refine δ7 ?_ | refine δ9 ?_ | refine δ8 ?_ | refine χ1 ?_ | refine χ2 ?_ | refine χ3 ?_ | refine χ4 ?_ | refine χ5 ?_ | refine χ6 ?_ | refine χ7 ?_
        refine dix k (hD5.rd hl2) lk0 ?_
        repeat first | refine δ1 ?_ | refine δ2 ?_ | refine δ4 ?_ | refine δ5 ?_ | refine δ6 ?_ | refine δ7 ?_ | refine δ9 ?_ | refine δ8 ?_ | refine χ1 ?_ | refine χ2 ?_ | refine χ3 ?_ | refine χ4 ?_ | refine χ5 ?_ | refine χ6 ?_ | refine χ7 ?_
        refine dtail ?_
        refine sto (hD5.cell hl2 lk0) s1 ?_ (hv := hD5.one (hl2.symm ▸ lk1))
        repeat first | refine ω1 ?_ | refine ω2 ?_ | refine ω3 ?_ | refine ω4 ?_ | refine ω5 ?_ | refine χ1 ?_ | refine κ1 ?_ | refine κ2 ?_ | refine χ2 ?_ | refine κ3 ?_ | refine ω6 ?_ | refine ω7 ?_ | refine ω9 ?_ | refine κ4 ?_ | refine κ7 ?_ | refine κ8 ?_ | refine χ3 ?_ | refine χ4 ?_ | refine κ5 ?_ | refine κ6 ?_ | refine χ5 ?_ | refine χ6 ?_ | refine χ7 ?_ | refine ω8 ?_
        refine dback ?_
        refine dtail ?_
        refine ix (k + 1) s2 lk1 ?_
        repeat first | refine ω1 ?_ | refine ω2 ?_ | refine ω3 ?_ | refine ω4 ?_ | refine ω5 ?_ | refine χ1 ?_ | refine κ1 ?_ | refine κ2 ?_ | refine χ2 ?_ | refine κ3 ?_ | refine ω6 ?_ | refine ω7 ?_ | refine ω9 ?_ | refine κ4 ?_ | refine κ7 ?_ | refine κ8 ?_ | refine χ3 ?_ | refine χ4 ?_ | refine κ5 ?_ | refine κ6 ?_ | refine χ5 ?_ | refine χ6 ?_ | refine χ7 ?_ | refine ω8 ?_
        refine dback ?_
        refine dtail ?_
        refine sto s4 s3 ?_ (hv := hD5.one (hl2.symm ▸ lk0))
        repeat first | refine ω1 ?_ | refine ω2 ?_ | refine ω3 ?_ | refine ω4 ?_ | refine ω5 ?_ | refine χ1 ?_ | refine κ1 ?_ | refine κ2 ?_ | refine χ2 ?_ | refine κ3 ?_ | refine ω6 ?_ | refine ω7 ?_ | refine ω9 ?_ | refine κ4 ?_ | refine κ7 ?_ | refine κ8 ?_ | refine χ3 ?_ | refine χ4 ?_ | refine κ5 ?_ | refine κ6 ?_ | refine χ5 ?_ | refine χ6 ?_ | refine χ7 ?_ | refine ω8 ?_
        exact qround2 (k + 1) (swp z0 q k (k + 1)) (by repeat' (first | exact Sub.nil | refine Sub.cons (by first | rfl | (refine congrArg (fun z => some (Value.int .i64 z)) ?_; omega)) ?_)) ⟨by omega, by omega, hB2.step k1 (by omega), hS2.trans (Seg.swp (by omega) (by omega) (by omega) (by omega) (by omega)), s5, grown_trans hg2 (grown_trans (ext_grown hxe _) s6)⟩ (by omega)
      · have hk : k = i - 1 := by have := of_decide_eq_false h; omega
        subst hk
        repeat first | refine ω1 ?_ | refine ω2 ?_ | refine ω3 ?_ | refine ω4 ?_ | refine ω5 ?_ | refine χ1 ?_ | refine κ1 ?_ | refine κ2 ?_ | refine χ2 ?_ | refine κ3 ?_ | refine ω6 ?_ | refine ω7 ?_ | refine ω9 ?_ | refine κ4 ?_ | refine κ7 ?_ | refine κ8 ?_ | refine χ3 ?_ | refine χ4 ?_ | refine κ5 ?_ | refine κ6 ?_ | refine χ5 ?_ | refine χ6 ?_ | refine χ7 ?_ | refine ω8 ?_
        exact fin0 ⟨q, hD2, hS2, hB2.sorted (preP ds) hO2 h1 h3 h4 h5, hg2⟩
  have hm2 : m ≠ a + 1 := by have := of_beq_f h; omega
  repeat first | refine ω1 ?_ | refine ω2 ?_ | refine ω3 ?_ | refine ω4 ?_ | refine ω5 ?_ | refine χ1 ?_ | refine κ1 ?_ | refine κ2 ?_ | refine χ2 ?_ | refine κ3 ?_ | refine ω6 ?_ | refine ω7 ?_ | refine ω9 ?_ | refine κ4 ?_ | refine κ7 ?_ | refine κ8 ?_ | refine χ3 ?_ | refine χ4 ?_ | refine κ5 ?_ | refine κ6 ?_ | refine χ5 ?_ | refine χ6 ?_ | refine χ7 ?_ | refine ω8 ?_
  refine ci (fun h => ?_) (fun h => ?_)
  · have hb1 : b = m + 1 := by have := of_beq_t h; omega
    subst hb1
    repeat first | refine ω1 ?_ | refine ω2 ?_ | refine ω3 ?_ | refine ω4 ?_ | refine ω5 ?_ | refine χ1 ?_ | refine κ1 ?_ | refine κ2 ?_ | refine χ2 ?_ | refine κ3 ?_ | refine ω6 ?_ | refine ω7 ?_ | refine ω9 ?_ | refine κ4 ?_ | refine κ7 ?_ | refine κ8 ?_ | refine χ3 ?_ | refine χ4 ?_ | refine κ5 ?_ | refine κ6 ?_ | refine χ5 ?_ | refine χ6 ?_ | refine χ7 ?_ | refine ω8 ?_
    refine wloop2 (fun (i j : Nat) => [(0, .slice A n c), (1, .int .i64 (a : Int)), (2, .int .i64 (m : Int)), (4, .func (.func fid) first cap), (14, .int .i64 (i : Int)), (15, .int .i64 (j : Int))])
      (fun i j w' => a ≤ i ∧ i ≤ j ∧ j ≤ m ∧ (i = a ∨ ¬ fP ds (ps.getD m z0) (ps.getD (i - 1) z0) < 0) ∧ (j = m ∨ fP ds (ps.getD m z0) (ps.getD j z0) < 0) ∧ Ext w w') (fun i j => j - i) a m (by repeat' (first | exact Sub.nil | refine Sub.cons (by first | rfl | (refine congrArg (fun z => some (Value.int .i64 z)) ?_; omega)) ?_)) ⟨Nat.le_refl _, by omega, Nat.le_refl _, .inl rfl, .inl rfl, Ext.refl w⟩ ?_
    rintro i j w1 ⟨h1, h2, h3, h4, h5, hx1⟩
    repeat first | refine ω1 ?_ | refine ω2 ?_ | refine ω3 ?_ | refine ω4 ?_ | refine ω5 ?_ | refine χ1 ?_ | refine κ1 ?_ | refine κ2 ?_ | refine χ2 ?_ | refine κ3 ?_ | refine ω6 ?_ | refine ω7 ?_ | refine ω9 ?_ | refine κ4 ?_ | refine κ7 ?_ | refine κ8 ?_ | refine χ3 ?_ | refine χ4 ?_ | refine κ5 ?_ | refine κ6 ?_ | refine χ5 ?_ | refine χ6 ?_ | refine χ7 ?_ | refine ω8 ?_
    refine ci (fun h => ?_) (fun h => ?_)
    · have hij : i < j := by have := of_decide_eq_true h; omega
      repeat first | refine ω1 ?_ | refine ω2 ?_ | refine ω3 ?_ | refine ω4 ?_ | refine ω5 ?_ | refine χ1 ?_ | refine κ1 ?_ | refine κ2 ?_ | refine χ2 ?_ | refine κ3 ?_ | refine ω6 ?_ | refine ω7 ?_ | refine ω9 ?_ | refine κ4 ?_ | refine κ7 ?_ | refine κ8 ?_ | refine χ3 ?_ | refine χ4 ?_ | refine κ5 ?_ | refine κ6 ?_ | refine χ5 ?_ | refine χ6 ?_ | refine χ7 ?_ | refine ω8 ?_
      refine wshr rfl rfl (by decide) rfl ?_
      repeat first | refine ω1 ?_ | refine ω2 ?_ | refine ω3 ?_ | refine ω4 ?_ | refine ω5 ?_ | refine χ1 ?_ | refine κ1 ?_ | refine κ2 ?_ | refine χ2 ?_ | refine κ3 ?_ | refine ω6 ?_ | refine ω7 ?_ | refine ω9 ?_ | refine κ4 ?_ | refine κ7 ?_ | refine κ8 ?_ | refine χ3 ?_ | refine χ4 ?_ | refine κ5 ?_ | refine κ6 ?_ | refine χ5 ?_ | refine χ6 ?_ | refine χ7 ?_ | refine ω8 ?_
      rw [half i j (by omega)]
      have lh : (i + j) / 2 < n := by omega
      have lm : m < n := by omega
      refine dr [(0, 0), (0, 1), (0, 2), (0, 3), (0, 4), (0, 5), (0, 6), (0, 7), (0, 8), (1, 9), (0, 10), (0, 11)] (by kernel_rfl) ?_
      have hx2 : Ext w w1.drew := hx1.drew
      have hD2 := hD.ext hx2
      repeat first | refine δ1 ?_ | refine δ2 ?_ | refine δ4 ?_ | refine δ5 ?_ | refine δ6 ?_ | refine δ7 ?_ | refine δ9 ?_ | refine δ8 ?_ | refine χ1 ?_ | refine χ2 ?_ | refine χ3 ?_ | refine χ4 ?_ | refine χ5 ?_ | refine χ6 ?_ | refine χ7 ?_
      refine dix m (hD2.rd hn) lm ?_
      repeat first | refine δ1 ?_ | refine δ2 ?_ | refine δ4 ?_ | refine δ5 ?_ | refine δ6 ?_ | refine δ7 ?_ | refine δ9 ?_ | refine δ8 ?_ | refine χ1 ?_ | refine χ2 ?_ | refine χ3 ?_ | refine χ4 ?_ | refine χ5 ?_ | refine χ6 ?_ | refine χ7 ?_
      refine dld (hD2.cell hn lm) ?_
      repeat first | refine δ1 ?_ | refine δ2 ?_ | refine δ4 ?_ | refine δ5 ?_ | refine δ6 ?_ | refine δ7 ?_ | refine δ9 ?_ | refine δ8 ?_ | refine χ1 ?_ | refine χ2 ?_ | refine χ3 ?_ | refine χ4 ?_ | refine χ5 ?_ | refine χ6 ?_ | refine χ7 ?_
      refine dix ((i + j) / 2) (hD2.rd hn) lh ?_
      repeat first | refine δ1 ?_ | refine δ2 ?_ | refine δ4 ?_ | refine δ5 ?_ | refine δ6 ?_ | refine δ7 ?_ | refine δ9 ?_ | refine δ8 ?_ | refine χ1 ?_ | refine χ2 ?_ | refine χ3 ?_ | refine χ4 ?_ | refine χ5 ?_ | refine χ6 ?_ | refine χ7 ?_
      refine dld (hD2.cell hn lh) ?_
      repeat first | refine δ1 ?_ | refine δ2 ?_ | refine δ4 ?_ | refine δ5 ?_ | refine δ6 ?_ | refine δ7 ?_ | refine δ9 ?_ | refine δ8 ?_ | refine χ1 ?_ | refine χ2 ?_ | refine χ3 ?_ | refine χ4 ?_ | refine χ5 ?_ | refine χ6 ?_ | refine χ7 ?_
      refine dclv (hC' _ (ext_grown hx2 _) (ps.getD m z0) (ps.getD ((i + j) / 2) z0) (mem (List.Perm.refl _) _ lm) (mem (List.Perm.refl _) _ lh)) ?_
      rintro r w4 ⟨rfl, hx4⟩
      refine ⟨hx4, ?_⟩
      repeat first | refine δ1 ?_ | refine δ2 ?_ | refine δ4 ?_ | refine δ5 ?_ | refine δ6 ?_ | refine δ7 ?_ | refine δ9 ?_ | refine δ8 ?_ | refine χ1 ?_ | refine χ2 ?_ | refine χ3 ?_ | refine χ4 ?_ | refine χ5 ?_ | refine χ6 ?_ | refine χ7 ?_
      repeat first | refine ω1 ?_ | refine ω2 ?_ | refine ω3 ?_ | refine ω4 ?_ | refine ω5 ?_ | refine χ1 ?_ | refine κ1 ?_ | refine κ2 ?_ | refine χ2 ?_ | refine κ3 ?_ | refine ω6 ?_ | refine ω7 ?_ | refine ω9 ?_ | refine κ4 ?_ | refine κ7 ?_ | refine κ8 ?_ | refine χ3 ?_ | refine χ4 ?_ | refine κ5 ?_ | refine κ6 ?_ | refine χ5 ?_ | refine χ6 ?_ | refine χ7 ?_ | refine ω8 ?_
      refine ci (fun h => ?_) (fun h => ?_)
      · have hneg : ¬ fP ds (ps.getD m z0) (ps.getD ((i + j) / 2) z0) < 0 := by simpa using h
        repeat first | refine ω1 ?_ | refine ω2 ?_ | refine ω3 ?_ | refine ω4 ?_ | refine ω5 ?_ | refine χ1 ?_ | refine κ1 ?_ | refine κ2 ?_ | refine χ2 ?_ | refine κ3 ?_ | refine ω6 ?_ | refine ω7 ?_ | refine ω9 ?_ | refine κ4 ?_ | refine κ7 ?_ | refine κ8 ?_ | refine χ3 ?_ | refine χ4 ?_ | refine κ5 ?_ | refine κ6 ?_ | refine χ5 ?_ | refine χ6 ?_ | refine χ7 ?_ | refine ω8 ?_
        exact qround2 ((i + j) / 2 + 1) j (by repeat' (first | exact Sub.nil | refine Sub.cons (by first | rfl | (refine congrArg (fun z => some (Value.int .i64 z)) ?_; omega)) ?_)) ⟨by omega, by omega, h3, .inr (by rw [Nat.add_sub_cancel]; exact hneg), h5, hx2.trans hx4⟩ (by omega)
      · have hneg : fP ds (ps.getD m z0) (ps.getD ((i + j) / 2) z0) < 0 := by simpa using h
        repeat first | refine ω1 ?_ | refine ω2 ?_ | refine ω3 ?_ | refine ω4 ?_ | refine ω5 ?_ | refine χ1 ?_ | refine κ1 ?_ | refine κ2 ?_ | refine χ2 ?_ | refine κ3 ?_ | refine ω6 ?_ | refine ω7 ?_ | refine ω9 ?_ | refine κ4 ?_ | refine κ7 ?_ | refine κ8 ?_ | refine χ3 ?_ | refine χ4 ?_ | refine κ5 ?_ | refine κ6 ?_ | refine χ5 ?_ | refine χ6 ?_ | refine χ7 ?_ | refine ω8 ?_
        exact qround2 i ((i + j) / 2) (by repeat' (first | exact Sub.nil | refine Sub.cons (by first | rfl | (refine congrArg (fun z => some (Value.int .i64 z)) ?_; omega)) ?_)) ⟨by omega, by omega, by omega, h4, .inr hneg, hx2.trans hx4⟩ (by omega)
    · have hij : i = j := by have := of_decide_eq_false h; omega
      subst hij
      repeat first | refine ω1 ?_ | refine ω2 ?_ | refine ω3 ?_ | refine ω4 ?_ | refine ω5 ?_ | refine χ1 ?_ | refine κ1 ?_ | refine κ2 ?_ | refine χ2 ?_ | refine κ3 ?_ | refine ω6 ?_ | refine ω7 ?_ | refine ω9 ?_ | refine κ4 ?_ | refine κ7 ?_ | refine κ8 ?_ | refine χ3 ?_ | refine χ4 ?_ | refine κ5 ?_ | refine κ6 ?_ | refine χ5 ?_ | refine χ6 ?_ | refine χ7 ?_ | refine ω8 ?_
      refine wloop2 (fun (k : Nat) (q : List Pr) => [(0, .slice A n c), (14, .int .i64 (i : Int)), (17, .int .i64 (k : Int))])
        (fun k q w' => i ≤ k ∧ k ≤ m ∧ BubD z0 ps q m k ∧ Seg z0 a (m + 1) ps q ∧ Dat w' base (.slice A n c) q ∧ w.grownBy w' (Value.slice A n c).ownBlock) (fun k _ => k) m ps (by repeat' (first | exact Sub.nil | refine Sub.cons (by first | rfl | (refine congrArg (fun z => some (Value.int .i64 z)) ?_; omega)) ?_))
        ⟨by omega, Nat.le_refl _, BubD.start _ _, Seg.refl _ _ _, hD.ext hx1, ext_grown hx1 _⟩ ?_
      rintro k q w2 ⟨k1, k2, hB2, hS2, hD2, hg2⟩
      have hl2 : q.length = n := by rw [hS2.len, hn]
      repeat first | refine ω1 ?_ | refine ω2 ?_ | refine ω3 ?_ | refine ω4 ?_ | refine ω5 ?_ | refine χ1 ?_ | refine κ1 ?_ | refine κ2 ?_ | refine χ2 ?_ | refine κ3 ?_ | refine ω6 ?_ | refine ω7 ?_ | refine ω9 ?_ | refine κ4 ?_ | refine κ7 ?_ | refine κ8 ?_ | refine χ3 ?_ | refine χ4 ?_ | refine κ5 ?_ | refine κ6 ?_ | refine χ5 ?_ | refine χ6 ?_ | refine χ7 ?_ | refine ω8 ?_
      refine ci (fun h => ?_) (fun h => ?_)
      · have hk : i < k := by have := of_decide_eq_true h; omega
        have lk0 : k < n := by omega
        have lk1 : k - 1 < n := by omega
        repeat first | refine ω1 ?_ | refine ω2 ?_ | refine ω3 ?_ | refine ω4 ?_ | refine ω5 ?_ | refine χ1 ?_ | refine κ1 ?_ | refine κ2 ?_ | refine χ2 ?_ | refine κ3 ?_ | refine ω6 ?_ | refine ω7 ?_ | refine ω9 ?_ | refine κ4 ?_ | refine κ7 ?_ | refine κ8 ?_ | refine χ3 ?_ | refine χ4 ?_ | refine κ5 ?_ | refine κ6 ?_ | refine χ5 ?_ | refine χ6 ?_ | refine χ7 ?_ | refine ω8 ?_
        refine drC 4 [0, 1, 2, 3, 4, 5, 6, 7, 10, 11] [(0, 8), (0, 9), (0, 12), (0, 13), (0, 14), (2, 15), (2, 16), (2, 17)] (by kernel_rfl) ?_
        have hxe : Ext w2 w2.drew := (Ext.refl w2).drew
        have hD5 := hD2.ext hxe
        obtain ⟨s1, s2, s3, ⟨u, s4⟩, s5, s6⟩ := hD5.swap hl2 lk0 lk1
        repeat first | refine π1 ?_ | refine π2 ?_ | refine π4 ?_ | refine π5 ?_
        refine dix (k - 1) (hD5.rd hl2) lk1 ?_
        repeat first | refine δ1 ?_ | refine δ2 ?_ | refine δ4 ?_ | refine δ5 ?_ | refine δ6 ?_ | refine δ7 ?_ | refine δ9 ?_ | refine δ8 ?_ | refine χ1 ?_ | refine χ2 ?_ | refine χ3 ?_ | refine χ4 ?_ | refine χ5 ?_ | refine χ6 ?_ | refine χ7 ?_
        refine dld (hD5.cell hl2 lk1) ?_
        repeat first | refine δ1 ?_ | refine δ2 ?_ | refine δ4 ?_ | refine δ5 ?_ | refine δ6 ?_ | refine δ7 ?_ | refine δ9 ?_ | refine δ8 ?_ | refine χ1 ?_ | refine χ2 ?_ | refine χ3 ?_ | refine χ4 ?_ | refine χ5 ?_ | refine χ6 ?_ | refine χ7 ?_
        refine dix k (hD5.rd hl2) lk0 ?_
        repeat first | refine δ1 ?_ | refine δ2 ?_ | refine δ4 ?_ | refine δ5 ?_ | refine δ6 ?_ | refine δ7 ?_ | refine δ9 ?_ | refine δ8 ?_ | refine χ1 ?_ | refine χ2 ?_ | refine χ3 ?_ | refine χ4 ?_ | refine χ5 ?_ | refine χ6 ?_ | refine χ7 ?_
        refine dld (hD5.cell hl2 lk0) ?_
        repeat first | refine δ1 ?_ | refine δ2 ?_ | refine δ4 ?_ | refine δ5 ?_ | refine δ6 ?_ | refine δ7 ?_ | refine δ9 ?_ | refine δ8 ?_ | refine χ1 ?_ | refine χ2 ?_ | refine χ3 ?_ | refine χ4 ?_ | refine χ5 ?_ | refine χ6 ?_ | refine χ7 ?_
        refine dix k (hD5.rd hl2) lk0 ?_
        repeat first | refine δ1 ?_ | refine δ2 ?_ | refine δ4 ?_ | refine δ5 ?_ | refine δ6 ?_ | refine δ7 ?_ | refine δ9 ?_ | refine δ8 ?_ | refine χ1 ?_ | refine χ2 ?_ | refine χ3 ?_ | refine χ4 ?_ | refine χ5 ?_ | refine χ6 ?_ | refine χ7 ?_
        refine dtail ?_
        refine sto (hD5.cell hl2 lk0) s1 ?_ (hv := hD5.one (hl2.symm ▸ lk1))
        repeat first | refine ω1 ?_ | refine ω2 ?_ | refine ω3 ?_ | refine ω4 ?_ | refine ω5 ?_ | refine χ1 ?_ | refine κ1 ?_ | refine κ2 ?_ | refine χ2 ?_ | refine κ3 ?_ | refine ω6 ?_ | refine ω7 ?_ | refine ω9 ?_ | refine κ4 ?_ | refine κ7 ?_ | refine κ8 ?_ | refine χ3 ?_ | refine χ4 ?_ | refine κ5 ?_ | refine κ6 ?_ | refine χ5 ?_ | refine χ6 ?_ | refine χ7 ?_ | refine ω8 ?_
        refine dback ?_
        refine dtail ?_
        refine ix (k - 1) s2 lk1 ?_
        repeat first | refine ω1 ?_ | refine ω2 ?_ | refine ω3 ?_ | refine ω4 ?_ | refine ω5 ?_ | refine χ1 ?_ | refine κ1 ?_ | refine κ2 ?_ | refine χ2 ?_ | refine κ3 ?_ | refine ω6 ?_ | refine ω7 ?_ | refine ω9 ?_ | refine κ4 ?_ | refine κ7 ?_ | refine κ8 ?_ | refine χ3 ?_ | refine χ4 ?_ | refine κ5 ?_ | refine κ6 ?_ | refine χ5 ?_ | refine χ6 ?_ | refine χ7 ?_ | refine ω8 ?_
        refine dback ?_
        refine dtail ?_
        refine sto s4 s3 ?_ (hv := hD5.one (hl2.symm ▸ lk0))
        repeat first | refine ω1 ?_ | refine ω2 ?_ | refine ω3 ?_ | refine ω4 ?_ | refine ω5 ?_ | refine χ1 ?_ | refine κ1 ?_ | refine κ2 ?_ | refine χ2 ?_ | refine κ3 ?_ | refine ω6 ?_ | refine ω7 ?_ | refine ω9 ?_ | refine κ4 ?_ | refine κ7 ?_ | refine κ8 ?_ | refine χ3 ?_ | refine χ4 ?_ | refine κ5 ?_ | refine κ6 ?_ | refine χ5 ?_ | refine χ6 ?_ | refine χ7 ?_ | refine ω8 ?_
        exact qround2 (k - 1) (swp z0 q k (k - 1)) (by repeat' (first | exact Sub.nil | refine Sub.cons (by first | rfl | (refine congrArg (fun z => some (Value.int .i64 z)) ?_; omega)) ?_)) ⟨by omega, by omega, hB2.step k2 (by omega) (by omega), hS2.trans (Seg.swp (by omega) (by omega) (by omega) (by omega) (by omega)), s5, grown_trans hg2 (grown_trans (ext_grown hxe _) s6)⟩ (by omega)
      · have hk : k = i := by have := of_decide_eq_false h; omega
        subst hk
        repeat first | refine ω1 ?_ | refine ω2 ?_ | refine ω3 ?_ | refine ω4 ?_ | refine ω5 ?_ | refine χ1 ?_ | refine κ1 ?_ | refine κ2 ?_ | refine χ2 ?_ | refine κ3 ?_ | refine ω6 ?_ | refine ω7 ?_ | refine ω9 ?_ | refine κ4 ?_ | refine κ7 ?_ | refine κ8 ?_ | refine χ3 ?_ | refine χ4 ?_ | refine κ5 ?_ | refine κ6 ?_ | refine χ5 ?_ | refine χ6 ?_ | refine χ7 ?_ | refine ω8 ?_
        exact fin0 ⟨q, hD2, hS2, hB2.sorted (preP ds) hO1 h1 k2 h4 h5, hg2⟩
  have hb2 : b ≠ m + 1 := by have := of_beq_f h; omega
  repeat first | refine ω1 ?_ | refine ω2 ?_ | refine ω3 ?_ | refine ω4 ?_ | refine ω5 ?_ | refine χ1 ?_ | refine κ1 ?_ | refine κ2 ?_ | refine χ2 ?_ | refine κ3 ?_ | refine ω6 ?_ | refine ω7 ?_ | refine ω9 ?_ | refine κ4 ?_ | refine κ7 ?_ | refine κ8 ?_ | refine χ3 ?_ | refine χ4 ?_ | refine κ5 ?_ | refine κ6 ?_ | refine χ5 ?_ | refine χ6 ?_ | refine χ7 ?_ | refine ω8 ?_
  refine wshr rfl rfl (by decide) rfl ?_
  repeat first | refine ω1 ?_ | refine ω2 ?_ | refine ω3 ?_ | refine ω4 ?_ | refine ω5 ?_ | refine χ1 ?_ | refine κ1 ?_ | refine κ2 ?_ | refine χ2 ?_ | refine κ3 ?_ | refine ω6 ?_ | refine ω7 ?_ | refine ω9 ?_ | refine κ4 ?_ | refine κ7 ?_ | refine κ8 ?_ | refine χ3 ?_ | refine χ4 ?_ | refine κ5 ?_ | refine κ6 ?_ | refine χ5 ?_ | refine χ6 ?_ | refine χ7 ?_ | refine ω8 ?_
  rw [half a b (by omega)]
  generalize hmid : (a + b) / 2 = mid
  rw [i64w (z := (mid : Int) + (m : Int)) (by omega)]
  refine wjoin2 (fun (s r : Nat) => [(0, .slice A n c), (1, .int .i64 (a : Int)), (2, .int .i64 (m : Int)), (3, .int .i64 (b : Int)), (4, .func (.func fid) first cap), (18, .int .i64 (mid : Int)), (19, .int .i64 ((mid : Int) + (m : Int))), (20, .int .i64 (s : Int)), (21, .int .i64 (r : Int))])
    (fun s r w' => s = (if mid < m then mid + m - b else a) ∧ r = (if mid < m then mid else m) ∧ w' = w) ?_ ?_
  · refine ci (fun h => ?_) (fun h => ?_)
    · have hlt : mid < m := by have := of_decide_eq_true h; omega
      repeat first | refine ω1 ?_ | refine ω2 ?_ | refine ω3 ?_ | refine ω4 ?_ | refine ω5 ?_ | refine χ1 ?_ | refine κ1 ?_ | refine κ2 ?_ | refine χ2 ?_ | refine κ3 ?_ | refine ω6 ?_ | refine ω7 ?_ | refine ω9 ?_ | refine κ4 ?_ | refine κ7 ?_ | refine κ8 ?_ | refine χ3 ?_ | refine χ4 ?_ | refine κ5 ?_ | refine κ6 ?_ | refine χ5 ?_ | refine χ6 ?_ | refine χ7 ?_ | refine ω8 ?_
      refine qjoin2 (mid + m - b) mid (by repeat' (first | exact Sub.nil | refine Sub.cons (by first | rfl | (refine congrArg (fun z => some (Value.int .i64 z)) ?_; omega)) ?_)) ⟨by rw [if_pos hlt], by rw [if_pos hlt], rfl⟩
    · have hlt : ¬ mid < m := by have := of_decide_eq_false h; omega
      repeat first | refine ω1 ?_ | refine ω2 ?_ | refine ω3 ?_ | refine ω4 ?_ | refine ω5 ?_ | refine χ1 ?_ | refine κ1 ?_ | refine κ2 ?_ | refine χ2 ?_ | refine κ3 ?_ | refine ω6 ?_ | refine ω7 ?_ | refine ω9 ?_ | refine κ4 ?_ | refine κ7 ?_ | refine κ8 ?_ | refine χ3 ?_ | refine χ4 ?_ | refine κ5 ?_ | refine κ6 ?_ | refine χ5 ?_ | refine χ6 ?_ | refine χ7 ?_ | refine ω8 ?_
      refine qjoin2 a m (by repeat' (first | exact Sub.nil | refine Sub.cons (by first | rfl | (refine congrArg (fun z => some (Value.int .i64 z)) ?_; omega)) ?_)) ⟨by rw [if_neg hlt], by rw [if_neg hlt], rfl⟩
  rintro s0 r0 w' ⟨hs0, hr0, rfl⟩
  have hs0' : a ≤ s0 := by rw [hs0]; split <;> omega
  have hr0' : r0 ≤ m ∧ r0 ≤ mid := by rw [hr0]; split <;> omega
  have hsr : s0 ≤ r0 := by rw [hs0, hr0]; split <;> omega
  have hp0 : mid + m - s0 ≤ b := by rw [hs0]; split <;> omega
  repeat first | refine ω1 ?_ | refine ω2 ?_ | refine ω3 ?_ | refine ω4 ?_ | refine ω5 ?_ | refine χ1 ?_ | refine κ1 ?_ | refine κ2 ?_ | refine χ2 ?_ | refine κ3 ?_ | refine ω6 ?_ | refine ω7 ?_ | refine ω9 ?_ | refine κ4 ?_ | refine κ7 ?_ | refine κ8 ?_ | refine χ3 ?_ | refine χ4 ?_ | refine κ5 ?_ | refine κ6 ?_ | refine χ5 ?_ | refine χ6 ?_ | refine χ7 ?_ | refine ω8 ?_
  refine wloop2 (fun (s r : Nat) => [(0, .slice A n c), (1, .int .i64 (a : Int)), (2, .int .i64 (m : Int)), (3, .int .i64 (b : Int)), (4, .func (.func fid) first cap), (18, .int .i64 (mid : Int)), (19, .int .i64 ((mid : Int) + (m : Int))), (22, .int .i64 ((mid : Int) + (m : Int) - 1)), (20, .int .i64 (s : Int)), (21, .int .i64 (r : Int))])
    (fun s r w1 => s0 ≤ s ∧ s ≤ r ∧ r ≤ r0 ∧ (s = s0 ∨ ¬ fP ds (ps.getD (mid + m - 1 - (s - 1)) z0) (ps.getD (s - 1) z0) < 0) ∧ (r = r0 ∨ fP ds (ps.getD (mid + m - 1 - r) z0) (ps.getD r z0) < 0) ∧ Ext w' w1) (fun s r => r - s) s0 r0 (by repeat' (first | exact Sub.nil | refine Sub.cons (by first | rfl | (refine congrArg (fun z => some (Value.int .i64 z)) ?_; omega)) ?_))
    ⟨Nat.le_refl _, hsr, Nat.le_refl _, .inl rfl, .inl rfl, Ext.refl _⟩ ?_
  rintro s r w1 ⟨h1, h2, h3, h4, h5, hx1⟩
  repeat first | refine ω1 ?_ | refine ω2 ?_ | refine ω3 ?_ | refine ω4 ?_ | refine ω5 ?_ | refine χ1 ?_ | refine κ1 ?_ | refine κ2 ?_ | refine χ2 ?_ | refine κ3 ?_ | refine ω6 ?_ | refine ω7 ?_ | refine ω9 ?_ | refine κ4 ?_ | refine κ7 ?_ | refine κ8 ?_ | refine χ3 ?_ | refine χ4 ?_ | refine κ5 ?_ | refine κ6 ?_ | refine χ5 ?_ | refine χ6 ?_ | refine χ7 ?_ | refine ω8 ?_
  refine ci (fun h => ?_) (fun h => ?_)
  · have hsr2 : s < r := by have := of_decide_eq_true h; omega
    repeat first | refine ω1 ?_ | refine ω2 ?_ | refine ω3 ?_ | refine ω4 ?_ | refine ω5 ?_ | refine χ1 ?_ | refine κ1 ?_ | refine κ2 ?_ | refine χ2 ?_ | refine κ3 ?_ | refine ω6 ?_ | refine ω7 ?_ | refine ω9 ?_ | refine κ4 ?_ | refine κ7 ?_ | refine κ8 ?_ | refine χ3 ?_ | refine χ4 ?_ | refine κ5 ?_ | refine κ6 ?_ | refine χ5 ?_ | refine χ6 ?_ | refine χ7 ?_ | refine ω8 ?_
    refine wshr rfl rfl (by decide) rfl ?_
    repeat first | refine ω1 ?_ | refine ω2 ?_ | refine ω3 ?_ | refine ω4 ?_ | refine ω5 ?_ | refine χ1 ?_ | refine κ1 ?_ | refine κ2 ?_ | refine χ2 ?_ | refine κ3 ?_ | refine ω6 ?_ | refine ω7 ?_ | refine ω9 ?_ | refine κ4 ?_ | refine κ7 ?_ | refine κ8 ?_ | refine χ3 ?_ | refine χ4 ?_ | refine κ5 ?_ | refine κ6 ?_ | refine χ5 ?_ | refine χ6 ?_ | refine χ7 ?_ | refine ω8 ?_
    rw [half s r (by omega)]
    generalize hc : (s + r) / 2 = k
    have lk0 : k < n := by omega
    have lp : mid + m - 1 - k < n := by omega
    refine dr [(0, 0), (0, 1), (0, 2), (0, 3), (0, 4), (0, 5), (0, 6), (0, 7), (0, 8), (0, 9), (0, 10), (1, 11), (0, 12), (0, 13)] (by kernel_rfl) ?_
    have hx2 : Ext w' w1.drew := hx1.drew
    have hD2 := hD.ext hx2
    repeat first | refine δ1 ?_ | refine δ2 ?_ | refine δ4 ?_ | refine δ5 ?_ | refine δ6 ?_ | refine δ7 ?_ | refine δ9 ?_ | refine δ8 ?_ | refine χ1 ?_ | refine χ2 ?_ | refine χ3 ?_ | refine χ4 ?_ | refine χ5 ?_ | refine χ6 ?_ | refine χ7 ?_
    refine dix (mid + m - 1 - k) (hD2.rd hn) lp ?_
    repeat first | refine δ1 ?_ | refine δ2 ?_ | refine δ4 ?_ | refine δ5 ?_ | refine δ6 ?_ | refine δ7 ?_ | refine δ9 ?_ | refine δ8 ?_ | refine χ1 ?_ | refine χ2 ?_ | refine χ3 ?_ | refine χ4 ?_ | refine χ5 ?_ | refine χ6 ?_ | refine χ7 ?_
    refine dld (hD2.cell hn lp) ?_
    repeat first | refine δ1 ?_ | refine δ2 ?_ | refine δ4 ?_ | refine δ5 ?_ | refine δ6 ?_ | refine δ7 ?_ | refine δ9 ?_ | refine δ8 ?_ | refine χ1 ?_ | refine χ2 ?_ | refine χ3 ?_ | refine χ4 ?_ | refine χ5 ?_ | refine χ6 ?_ | refine χ7 ?_
    refine dix k (hD2.rd hn) lk0 ?_
    repeat first | refine δ1 ?_ | refine δ2 ?_ | refine δ4 ?_ | refine δ5 ?_ | refine δ6 ?_ | refine δ7 ?_ | refine δ9 ?_ | refine δ8 ?_ | refine χ1 ?_ | refine χ2 ?_ | refine χ3 ?_ | refine χ4 ?_ | refine χ5 ?_ | refine χ6 ?_ | refine χ7 ?_
    refine dld (hD2.cell hn lk0) ?_
    repeat first | refine δ1 ?_ | refine δ2 ?_ | refine δ4 ?_ | refine δ5 ?_ | refine δ6 ?_ | refine δ7 ?_ | refine δ9 ?_ | refine δ8 ?_ | refine χ1 ?_ | refine χ2 ?_ | refine χ3 ?_ | refine χ4 ?_ | refine χ5 ?_ | refine χ6 ?_ | refine χ7 ?_
    refine dclv (hC' _ (ext_grown hx2 _) (ps.getD (mid + m - 1 - k) z0) (ps.getD k z0) (mem (List.Perm.refl _) _ lp) (mem (List.Perm.refl _) _ lk0)) ?_
    rintro r' w4 ⟨rfl, hx4⟩
    refine ⟨hx4, ?_⟩
    repeat first | refine δ1 ?_ | refine δ2 ?_ | refine δ4 ?_ | refine δ5 ?_ | refine δ6 ?_ | refine δ7 ?_ | refine δ9 ?_ | refine δ8 ?_ | refine χ1 ?_ | refine χ2 ?_ | refine χ3 ?_ | refine χ4 ?_ | refine χ5 ?_ | refine χ6 ?_ | refine χ7 ?_
    repeat first | refine ω1 ?_ | refine ω2 ?_ | refine ω3 ?_ | refine ω4 ?_ | refine ω5 ?_ | refine χ1 ?_ | refine κ1 ?_ | refine κ2 ?_ | refine χ2 ?_ | refine κ3 ?_ | refine ω6 ?_ | refine ω7 ?_ | refine ω9 ?_ | refine κ4 ?_ | refine κ7 ?_ | refine κ8 ?_ | refine χ3 ?_ | refine χ4 ?_ | refine κ5 ?_ | refine κ6 ?_ | refine χ5 ?_ | refine χ6 ?_ | refine χ7 ?_ | refine ω8 ?_
    refine ci (fun h => ?_) (fun h => ?_)
    · have hneg : ¬ fP ds (ps.getD (mid + m - 1 - k) z0) (ps.getD k z0) < 0 := by simpa using h
      repeat first | refine ω1 ?_ | refine ω2 ?_ | refine ω3 ?_ | refine ω4 ?_ | refine ω5 ?_ | refine χ1 ?_ | refine κ1 ?_ | refine κ2 ?_ | refine χ2 ?_ | refine κ3 ?_ | refine ω6 ?_ | refine ω7 ?_ | refine ω9 ?_ | refine κ4 ?_ | refine κ7 ?_ | refine κ8 ?_ | refine χ3 ?_ | refine χ4 ?_ | refine κ5 ?_ | refine κ6 ?_ | refine χ5 ?_ | refine χ6 ?_ | refine χ7 ?_ | refine ω8 ?_
      exact qround2 (k + 1) r (by repeat' (first | exact Sub.nil | refine Sub.cons (by first | rfl | (refine congrArg (fun z => some (Value.int .i64 z)) ?_; omega)) ?_)) ⟨by omega, by omega, h3, .inr (by rw [Nat.add_sub_cancel]; exact hneg), h5, hx2.trans hx4⟩ (by omega)
    · have hneg : fP ds (ps.getD (mid + m - 1 - k) z0) (ps.getD k z0) < 0 := by simpa using h
      repeat first | refine ω1 ?_ | refine ω2 ?_ | refine ω3 ?_ | refine ω4 ?_ | refine ω5 ?_ | refine χ1 ?_ | refine κ1 ?_ | refine κ2 ?_ | refine χ2 ?_ | refine κ3 ?_ | refine ω6 ?_ | refine ω7 ?_ | refine ω9 ?_ | refine κ4 ?_ | refine κ7 ?_ | refine κ8 ?_ | refine χ3 ?_ | refine χ4 ?_ | refine κ5 ?_ | refine κ6 ?_ | refine χ5 ?_ | refine χ6 ?_ | refine χ7 ?_ | refine ω8 ?_
      exact qround2 s k (by repeat' (first | exact Sub.nil | refine Sub.cons (by first | rfl | (refine congrArg (fun z => some (Value.int .i64 z)) ?_; omega)) ?_)) ⟨by omega, by omega, by omega, h4, .inr hneg, hx2.trans hx4⟩ (by omega)
  have hsr2 : s = r := by have := of_decide_eq_false h; omega
  subst hsr2
  have spl : ∀ q1 : List Pr, (∀ k, q1.getD k z0 = rotf z0 ps s m (mid + m - s) k) → _ := fun q1 hq => split (preP ds) hO1 hO2 ham hmb hmid.symm hs0 hr0 h1 h3 rfl h4 h5 hq
  have hend : m ≤ mid + m - s ∧ mid ≤ mid + m - s := by omega
  generalize he : mid + m - s = e at spl hend
  have hD1 := hD.ext hx1
  repeat first | refine ω1 ?_ | refine ω2 ?_ | refine ω3 ?_ | refine ω4 ?_ | refine ω5 ?_ | refine χ1 ?_ | refine κ1 ?_ | refine κ2 ?_ | refine χ2 ?_ | refine κ3 ?_ | refine ω6 ?_ | refine ω7 ?_ | refine ω9 ?_ | refine κ4 ?_ | refine κ7 ?_ | refine κ8 ?_ | refine χ3 ?_ | refine χ4 ?_ | refine κ5 ?_ | refine κ6 ?_ | refine χ5 ?_ | refine χ6 ?_ | refine χ7 ?_ | refine ω8 ?_
  refine wljoin1 (fun (t : Bool) => [(0, .slice A n c), (1, .int .i64 (a : Int)), (2, .int .i64 (m : Int)), (3, .int .i64 (b : Int)), (4, .func (.func fid) first cap), (18, .int .i64 (mid : Int)), (20, .int .i64 (s : Int)), (24, .int .i64 (e : Int)), (185, .bool t)])
    (fun t w2 => w2 = w1 ∧ t = decide (s < m ∧ m < e)) ?_ ?_
  · refine ki 181 (fun h => ?_) (fun h => ?_)
    · have hlt : s < m := by have := of_decide_eq_true h; omega
      repeat first | refine ω1 ?_ | refine ω2 ?_ | refine ω3 ?_ | refine ω4 ?_ | refine ω5 ?_ | refine χ1 ?_ | refine κ1 ?_ | refine κ2 ?_ | refine χ2 ?_ | refine κ3 ?_ | refine ω6 ?_ | refine ω7 ?_ | refine ω9 ?_ | refine κ4 ?_ | refine κ7 ?_ | refine κ8 ?_ | refine χ3 ?_ | refine χ4 ?_ | refine κ5 ?_ | refine κ6 ?_ | refine χ5 ?_ | refine χ6 ?_ | refine χ7 ?_ | refine ω8 ?_
      refine qjoin1 (decide (m < e)) ?_ ⟨rfl, by simp [hlt]⟩
      rw [show decide ((m : Int) < (mid : Int) + (m : Int) - (s : Int)) = decide (m < e) by rw [Bool.eq_iff_iff, decide_eq_true_iff, decide_eq_true_iff]; omega]
      exact (by repeat' (first | exact Sub.nil | refine Sub.cons (by first | rfl | (refine congrArg (fun z => some (Value.int .i64 z)) ?_; omega)) ?_))
    · have hlt : ¬ s < m := by have := of_decide_eq_false h; omega
      repeat first | refine ω1 ?_ | refine ω2 ?_ | refine ω3 ?_ | refine ω4 ?_ | refine ω5 ?_ | refine χ1 ?_ | refine κ1 ?_ | refine κ2 ?_ | refine χ2 ?_ | refine κ3 ?_ | refine ω6 ?_ | refine ω7 ?_ | refine ω9 ?_ | refine κ4 ?_ | refine κ7 ?_ | refine κ8 ?_ | refine χ3 ?_ | refine χ4 ?_ | refine κ5 ?_ | refine κ6 ?_ | refine χ5 ?_ | refine χ6 ?_ | refine χ7 ?_ | refine ω8 ?_
      exact qjoin1 false (by repeat' (first | exact Sub.nil | refine Sub.cons (by first | rfl | (refine congrArg (fun z => some (Value.int .i64 z)) ?_; omega)) ?_)) ⟨rfl, by simp [hlt]⟩
  rintro t w2 ⟨rfl, rfl⟩
  repeat first | refine ω1 ?_ | refine ω2 ?_ | refine ω3 ?_ | refine ω4 ?_ | refine ω5 ?_ | refine χ1 ?_ | refine κ1 ?_ | refine κ2 ?_ | refine χ2 ?_ | refine κ3 ?_ | refine ω6 ?_ | refine ω7 ?_ | refine ω9 ?_ | refine κ4 ?_ | refine κ7 ?_ | refine κ8 ?_ | refine χ3 ?_ | refine χ4 ?_ | refine κ5 ?_ | refine κ6 ?_ | refine χ5 ?_ | refine χ6 ?_ | refine χ7 ?_ | refine ω8 ?_
  refine wjoin1 (fun (q : List Pr) => [(0, .slice A n c), (1, .int .i64 (a : Int)), (3, .int .i64 (b : Int)), (4, .func (.func fid) first cap), (18, .int .i64 (mid : Int)), (20, .int .i64 (s : Int)), (24, .int .i64 (e : Int))])
    (fun q w3 => Dat w3 base (.slice A n c) q ∧ q.Perm ps ∧ (∀ k, q.getD k z0 = rotf z0 ps s m e k) ∧ w'.grownBy w3 (Value.slice A n c).ownBlock) ?_ ?_
  · refine ci (fun h => ?_) (fun h => ?_)
    · obtain ⟨g1, g2⟩ := of_decide_eq_true h
      repeat first | refine ω1 ?_ | refine ω2 ?_ | refine ω3 ?_ | refine ω4 ?_ | refine ω5 ?_ | refine χ1 ?_ | refine κ1 ?_ | refine κ2 ?_ | refine χ2 ?_ | refine κ3 ?_ | refine ω6 ?_ | refine ω7 ?_ | refine ω9 ?_ | refine κ4 ?_ | refine κ7 ?_ | refine κ8 ?_ | refine χ3 ?_ | refine χ4 ?_ | refine κ5 ?_ | refine κ6 ?_ | refine χ5 ?_ | refine χ6 ?_ | refine χ7 ?_ | refine ω8 ?_
      refine cl (rotate_any (s := s) (m := m) (e := e) hD1 hn rfl rfl rfl g1 g2 (by omega) hmx) ?_
      rintro v w3 ⟨q3, hD3, hp3, hr3, hg3⟩
      repeat first | refine ω1 ?_ | refine ω2 ?_ | refine ω3 ?_ | refine ω4 ?_ | refine ω5 ?_ | refine χ1 ?_ | refine κ1 ?_ | refine κ2 ?_ | refine χ2 ?_ | refine κ3 ?_ | refine ω6 ?_ | refine ω7 ?_ | refine ω9 ?_ | refine κ4 ?_ | refine κ7 ?_ | refine κ8 ?_ | refine χ3 ?_ | refine χ4 ?_ | refine κ5 ?_ | refine κ6 ?_ | refine χ5 ?_ | refine χ6 ?_ | refine χ7 ?_ | refine ω8 ?_
      exact qjoin1 q3 (by repeat' (first | exact Sub.nil | refine Sub.cons rfl ?_)) ⟨hD3, hp3, hr3, grown_trans (ext_grown hx1 _) hg3⟩
    · have hno := of_decide_eq_false h
      repeat first | refine ω1 ?_ | refine ω2 ?_ | refine ω3 ?_ | refine ω4 ?_ | refine ω5 ?_ | refine χ1 ?_ | refine κ1 ?_ | refine κ2 ?_ | refine χ2 ?_ | refine κ3 ?_ | refine ω6 ?_ | refine ω7 ?_ | refine ω9 ?_ | refine κ4 ?_ | refine κ7 ?_ | refine κ8 ?_ | refine χ3 ?_ | refine χ4 ?_ | refine κ5 ?_ | refine κ6 ?_ | refine χ5 ?_ | refine χ6 ?_ | refine χ7 ?_ | refine ω8 ?_
      refine qjoin1 ps (by repeat' (first | exact Sub.nil | refine Sub.cons rfl ?_)) ⟨hD1, List.Perm.refl _, fun k => ?_, ext_grown hx1 _⟩
      unfold rotf
      have : s = m ∨ e = m := by omega
      rcases this with rfl | rfl
      · split
        · rfl
        · split
          · rw [show k - s + s = k by omega]
          · split
            · omega
            · rfl
      · split
        · rfl
        · split
          · omega
          · split
            · rw [show k - (e - e) = k by omega]
            · rfl
  rintro q1 w3 ⟨hD3, hp3, hr3, hg3⟩
  obtain ⟨hspl, t1, t2, t3, t4, t5, t6⟩ := spl q1 hr3
  have hl3 : q1.length = n := by rw [hp3.length_eq, hn]
  have hS3 : Seg z0 a b ps q1 := ⟨hp3, fun k hk => by rw [hr3, rotf, if_pos (by omega)], fun k hk => by rw [hr3, rotf, if_neg (by omega), if_neg (by omega), if_neg (by omega)]⟩
  repeat first | refine ω1 ?_ | refine ω2 ?_ | refine ω3 ?_ | refine ω4 ?_ | refine ω5 ?_ | refine χ1 ?_ | refine κ1 ?_ | refine κ2 ?_ | refine χ2 ?_ | refine κ3 ?_ | refine ω6 ?_ | refine ω7 ?_ | refine ω9 ?_ | refine κ4 ?_ | refine κ7 ?_ | refine κ8 ?_ | refine χ3 ?_ | refine χ4 ?_ | refine κ5 ?_ | refine κ6 ?_ | refine χ5 ?_ | refine χ6 ?_ | refine χ7 ?_ | refine ω8 ?_
  -- the first half
  refine wljoin1 (fun (t : Bool) => [(0, .slice A n c), (1, .int .i64 (a : Int)), (3, .int .i64 (b : Int)), (4, .func (.func fid) first cap), (18, .int .i64 (mid : Int)), (20, .int .i64 (s : Int)), (24, .int .i64 (e : Int)), (199, .bool t)])
    (fun t w2 => w2 = w3 ∧ t = decide (a < s ∧ s < mid)) ?_ ?_
  · refine ki 195 (fun h => ?_) (fun h => ?_)
    · have hlt : a < s := by have := of_decide_eq_true h; omega
      repeat first | refine ω1 ?_ | refine ω2 ?_ | refine ω3 ?_ | refine ω4 ?_ | refine ω5 ?_ | refine χ1 ?_ | refine κ1 ?_ | refine κ2 ?_ | refine χ2 ?_ | refine κ3 ?_ | refine ω6 ?_ | refine ω7 ?_ | refine ω9 ?_ | refine κ4 ?_ | refine κ7 ?_ | refine κ8 ?_ | refine χ3 ?_ | refine χ4 ?_ | refine κ5 ?_ | refine κ6 ?_ | refine χ5 ?_ | refine χ6 ?_ | refine χ7 ?_ | refine ω8 ?_
      refine qjoin1 (decide (s < mid)) ?_ ⟨rfl, by simp [hlt]⟩
      rw [show decide ((s : Int) < (mid : Int)) = decide (s < mid) by rw [Bool.eq_iff_iff, decide_eq_true_iff, decide_eq_true_iff]; omega]
      exact (by repeat' (first | exact Sub.nil | refine Sub.cons (by first | rfl | (refine congrArg (fun z => some (Value.int .i64 z)) ?_; omega)) ?_))
    · have hlt : ¬ a < s := by have := of_decide_eq_false h; omega
      repeat first | refine ω1 ?_ | refine ω2 ?_ | refine ω3 ?_ | refine ω4 ?_ | refine ω5 ?_ | refine χ1 ?_ | refine κ1 ?_ | refine κ2 ?_ | refine χ2 ?_ | refine κ3 ?_ | refine ω6 ?_ | refine ω7 ?_ | refine ω9 ?_ | refine κ4 ?_ | refine κ7 ?_ | refine κ8 ?_ | refine χ3 ?_ | refine χ4 ?_ | refine κ5 ?_ | refine κ6 ?_ | refine χ5 ?_ | refine χ6 ?_ | refine χ7 ?_ | refine ω8 ?_
      exact qjoin1 false (by repeat' (first | exact Sub.nil | refine Sub.cons (by first | rfl | (refine congrArg (fun z => some (Value.int .i64 z)) ?_; omega)) ?_)) ⟨rfl, by simp [hlt]⟩
  rintro t w4 ⟨rfl, rfl⟩
  repeat first | refine ω1 ?_ | refine ω2 ?_ | refine ω3 ?_ | refine ω4 ?_ | refine ω5 ?_ | refine χ1 ?_ | refine κ1 ?_ | refine κ2 ?_ | refine χ2 ?_ | refine κ3 ?_ | refine ω6 ?_ | refine ω7 ?_ | refine ω9 ?_ | refine κ4 ?_ | refine κ7 ?_ | refine κ8 ?_ | refine χ3 ?_ | refine χ4 ?_ | refine κ5 ?_ | refine κ6 ?_ | refine χ5 ?_ | refine χ6 ?_ | refine χ7 ?_ | refine ω8 ?_
  refine wjoin1 (fun (q : List Pr) => [(0, .slice A n c), (3, .int .i64 (b : Int)), (4, .func (.func fid) first cap), (18, .int .i64 (mid : Int)), (24, .int .i64 (e : Int))])
    (fun q w5 => Dat w5 base (.slice A n c) q ∧ Seg z0 a mid q1 q ∧ SOn z0 (fP ds) q a mid ∧ w'.grownBy w5 (Value.slice A n c).ownBlock) ?_ ?_
  · refine ci (fun h => ?_) (fun h => ?_)
    · obtain ⟨g1, g2⟩ := of_decide_eq_true h
      repeat first | refine ω1 ?_ | refine ω2 ?_ | refine ω3 ?_ | refine ω4 ?_ | refine ω5 ?_ | refine χ1 ?_ | refine κ1 ?_ | refine κ2 ?_ | refine χ2 ?_ | refine κ3 ?_ | refine ω6 ?_ | refine ω7 ?_ | refine ω9 ?_ | refine κ4 ?_ | refine κ7 ?_ | refine κ8 ?_ | refine χ3 ?_ | refine χ4 ?_ | refine κ5 ?_ | refine κ6 ?_ | refine χ5 ?_ | refine χ6 ?_ | refine χ7 ?_ | refine ω8 ?_
      refine cl (ih (a := a) (m := s) (b := mid) (ds := ds) (by omega) hD3 hl3 rfl rfl rfl g1 g2 (by omega) hmx (hC.step hg3 hp3) hspl.s1 hspl.s2) ?_
      rintro v w5 ⟨q5, hD5, hS5, hO5, hg5⟩
      repeat first | refine ω1 ?_ | refine ω2 ?_ | refine ω3 ?_ | refine ω4 ?_ | refine ω5 ?_ | refine χ1 ?_ | refine κ1 ?_ | refine κ2 ?_ | refine χ2 ?_ | refine κ3 ?_ | refine ω6 ?_ | refine ω7 ?_ | refine ω9 ?_ | refine κ4 ?_ | refine κ7 ?_ | refine κ8 ?_ | refine χ3 ?_ | refine χ4 ?_ | refine κ5 ?_ | refine κ6 ?_ | refine χ5 ?_ | refine χ6 ?_ | refine χ7 ?_ | refine ω8 ?_
      exact qjoin1 q5 (by repeat' (first | exact Sub.nil | refine Sub.cons rfl ?_)) ⟨hD5, hS5, hO5, grown_trans hg3 hg5⟩
    · have hno := of_decide_eq_false h
      repeat first | refine ω1 ?_ | refine ω2 ?_ | refine ω3 ?_ | refine ω4 ?_ | refine ω5 ?_ | refine χ1 ?_ | refine κ1 ?_ | refine κ2 ?_ | refine χ2 ?_ | refine κ3 ?_ | refine ω6 ?_ | refine ω7 ?_ | refine ω9 ?_ | refine κ4 ?_ | refine κ7 ?_ | refine κ8 ?_ | refine χ3 ?_ | refine χ4 ?_ | refine κ5 ?_ | refine κ6 ?_ | refine χ5 ?_ | refine χ6 ?_ | refine χ7 ?_ | refine ω8 ?_
      refine qjoin1 q1 (by repeat' (first | exact Sub.nil | refine Sub.cons rfl ?_)) ⟨hD3, Seg.refl _ _ _, ?_, hg3⟩
      have : a = s ∨ s = mid := by omega
      rcases this with h' | h'
      · rw [h']; exact hspl.s2
      · rw [← h']; exact hspl.s1
  rintro q2 w5 ⟨hD5, hS5, hO5, hg5⟩
  have hl5 : q2.length = n := by rw [hS5.len, hl3]
  repeat first | refine ω1 ?_ | refine ω2 ?_ | refine ω3 ?_ | refine ω4 ?_ | refine ω5 ?_ | refine χ1 ?_ | refine κ1 ?_ | refine κ2 ?_ | refine χ2 ?_ | refine κ3 ?_ | refine ω6 ?_ | refine ω7 ?_ | refine ω9 ?_ | refine κ4 ?_ | refine κ7 ?_ | refine κ8 ?_ | refine χ3 ?_ | refine χ4 ?_ | refine κ5 ?_ | refine κ6 ?_ | refine χ5 ?_ | refine χ6 ?_ | refine χ7 ?_ | refine ω8 ?_
  refine wljoin1 (fun (t : Bool) => [(0, .slice A n c), (3, .int .i64 (b : Int)), (4, .func (.func fid) first cap), (18, .int .i64 (mid : Int)), (24, .int .i64 (e : Int)), (213, .bool t)])
    (fun t w2 => w2 = w5 ∧ t = decide (mid < e ∧ e < b)) ?_ ?_
  · refine ki 209 (fun h => ?_) (fun h => ?_)
    · have hlt : mid < e := by have := of_decide_eq_true h; omega
      repeat first | refine ω1 ?_ | refine ω2 ?_ | refine ω3 ?_ | refine ω4 ?_ | refine ω5 ?_ | refine χ1 ?_ | refine κ1 ?_ | refine κ2 ?_ | refine χ2 ?_ | refine κ3 ?_ | refine ω6 ?_ | refine ω7 ?_ | refine ω9 ?_ | refine κ4 ?_ | refine κ7 ?_ | refine κ8 ?_ | refine χ3 ?_ | refine χ4 ?_ | refine κ5 ?_ | refine κ6 ?_ | refine χ5 ?_ | refine χ6 ?_ | refine χ7 ?_ | refine ω8 ?_
      refine qjoin1 (decide (e < b)) ?_ ⟨rfl, by simp [hlt]⟩
      rw [show decide ((e : Int) < (b : Int)) = decide (e < b) by rw [Bool.eq_iff_iff, decide_eq_true_iff, decide_eq_true_iff]; omega]
      exact (by repeat' (first | exact Sub.nil | refine Sub.cons (by first | rfl | (refine congrArg (fun z => some (Value.int .i64 z)) ?_; omega)) ?_))
    · have hlt : ¬ mid < e := by have := of_decide_eq_false h; omega
      repeat first | refine ω1 ?_ | refine ω2 ?_ | refine ω3 ?_ | refine ω4 ?_ | refine ω5 ?_ | refine χ1 ?_ | refine κ1 ?_ | refine κ2 ?_ | refine χ2 ?_ | refine κ3 ?_ | refine ω6 ?_ | refine ω7 ?_ | refine ω9 ?_ | refine κ4 ?_ | refine κ7 ?_ | refine κ8 ?_ | refine χ3 ?_ | refine χ4 ?_ | refine κ5 ?_ | refine κ6 ?_ | refine χ5 ?_ | refine χ6 ?_ | refine χ7 ?_ | refine ω8 ?_
      exact qjoin1 false (by repeat' (first | exact Sub.nil | refine Sub.cons (by first | rfl | (refine congrArg (fun z => some (Value.int .i64 z)) ?_; omega)) ?_)) ⟨rfl, by simp [hlt]⟩
  rintro t w6 ⟨rfl, rfl⟩
  repeat first | refine ω1 ?_ | refine ω2 ?_ | refine ω3 ?_ | refine ω4 ?_ | refine ω5 ?_ | refine χ1 ?_ | refine κ1 ?_ | refine κ2 ?_ | refine χ2 ?_ | refine κ3 ?_ | refine ω6 ?_ | refine ω7 ?_ | refine ω9 ?_ | refine κ4 ?_ | refine κ7 ?_ | refine κ8 ?_ | refine χ3 ?_ | refine χ4 ?_ | refine κ5 ?_ | refine κ6 ?_ | refine χ5 ?_ | refine χ6 ?_ | refine χ7 ?_ | refine ω8 ?_
  have s3' : SOn z0 (fP ds) q2 mid e := hspl.s3.same (fun k k1 k2 => hS5.hi k k1)
  have s4' : SOn z0 (fP ds) q2 e b := hspl.s4.same (fun k k1 k2 => hS5.hi k (by omega))
  refine ci (fun h => ?_) (fun h => ?_)
  · obtain ⟨g1, g2⟩ := of_decide_eq_true h
    repeat first | refine ω1 ?_ | refine ω2 ?_ | refine ω3 ?_ | refine ω4 ?_ | refine ω5 ?_ | refine χ1 ?_ | refine κ1 ?_ | refine κ2 ?_ | refine χ2 ?_ | refine κ3 ?_ | refine ω6 ?_ | refine ω7 ?_ | refine ω9 ?_ | refine κ4 ?_ | refine κ7 ?_ | refine κ8 ?_ | refine χ3 ?_ | refine χ4 ?_ | refine κ5 ?_ | refine κ6 ?_ | refine χ5 ?_ | refine χ6 ?_ | refine χ7 ?_ | refine ω8 ?_
    refine cl (ih (a := mid) (m := e) (b := b) (ds := ds) (by omega) hD5 hl5 rfl rfl rfl g1 g2 (by omega) hmx (hC.step hg5 (hS5.perm.trans hp3)) s3' s4') ?_
    rintro v w7 ⟨q7, hD7, hS7, hO7, hg7⟩
    repeat first | refine ω1 ?_ | refine ω2 ?_ | refine ω3 ?_ | refine ω4 ?_ | refine ω5 ?_ | refine χ1 ?_ | refine κ1 ?_ | refine κ2 ?_ | refine χ2 ?_ | refine κ3 ?_ | refine ω6 ?_ | refine ω7 ?_ | refine ω9 ?_ | refine κ4 ?_ | refine κ7 ?_ | refine κ8 ?_ | refine χ3 ?_ | refine χ4 ?_ | refine κ5 ?_ | refine κ6 ?_ | refine χ5 ?_ | refine χ6 ?_ | refine χ7 ?_ | refine ω8 ?_
    exact finE ⟨q7, hD7, hS3.trans ((hS5.mono (Nat.le_refl _) (by omega)).trans (hS7.mono (by omega) (Nat.le_refl _))), hspl.join (by omega) (by omega) (by omega) hS5 hO5 hS7 hO7, grown_trans hg5 hg7⟩
  · have hno := of_decide_eq_false h
    repeat first | refine ω1 ?_ | refine ω2 ?_ | refine ω3 ?_ | refine ω4 ?_ | refine ω5 ?_ | refine χ1 ?_ | refine κ1 ?_ | refine κ2 ?_ | refine χ2 ?_ | refine κ3 ?_ | refine ω6 ?_ | refine ω7 ?_ | refine ω9 ?_ | refine κ4 ?_ | refine κ7 ?_ | refine κ8 ?_ | refine χ3 ?_ | refine χ4 ?_ | refine κ5 ?_ | refine κ6 ?_ | refine χ5 ?_ | refine χ6 ?_ | refine χ7 ?_ | refine ω8 ?_
    refine finE ⟨q2, hD5, hS3.trans (hS5.mono (Nat.le_refl _) (by omega)), hspl.join (by omega) (by omega) (by omega) hS5 hO5 (Seg.refl _ _ _) ?_, hg5⟩
    have : mid = e ∨ e = b := by omega
    rcases this with h' | h'
    · rw [h']; exact s4'
    · rw [← h']; exact s3'
end Go.Proofs.Ytpahjnfolbnloaa
