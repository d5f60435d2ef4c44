/- The sorting functions of package slices, at rows: stable, SortStableFunc. -/
import Derived.Test.YtpahjnfolbnloaaSort3
set_option linter.unusedVariables false
namespace Go.Proofs.Ytpahjnfolbnloaa
open Go.RowKit Pl Go.Wk
attribute [local irreducible] WC WL QX WD WDB WP
/-- sorted in blocks of bs -/
def Blk2 (ds : List Bool) (q : List Pr) (n bs from_ : Nat) : Prop := ∀ u, from_ ≤ u → SOn z0 (fP ds) q (u * bs) (min (u * bs + bs) n)
set_option maxRecDepth 100000 in
theorem stable_any {w : World} {base : Nat} {A : Option Addr} {n c : Nat} {fv : Value} {ps : List Pr} {ds : List Bool} (hD : Dat w base (.slice A n c) ps) (hn : ps.length = n) (hmx : n ≤ 1100000) (hC : CmpF w (Value.slice A n c).ownBlock fv ps ds) :
    Ret Try.prog 93 [.slice A n c, .int .i64 (n : Int), fv] w fun v w' => Merged w base (.slice A n c) ps ds 0 n w' := by
  refine enterR Try.func93 Try.ntmps93 rfl (by kernel_rfl) rfl ?_
  repeat first | refine ω1 ?_ | refine ω2 ?_ | refine ω3 ?_ | refine ω4 ?_ | refine ω5 ?_ | refine χ1 ?_ | refine κ1 ?_ | refine κ2 ?_ | refine χ2 ?_ | refine κ3 ?_ | refine ω6 ?_ | refine ω7 ?_ | refine ω9 ?_ | refine κ4 ?_ | refine κ7 ?_ | refine κ8 ?_ | refine χ3 ?_ | refine χ4 ?_ | refine κ5 ?_ | refine κ6 ?_ | refine χ5 ?_ | refine χ6 ?_ | refine χ7 ?_ | refine ω8 ?_
  refine wloop2 (fun (t : Nat) (q : List Pr) => [(0, .slice A n c), (1, .int .i64 (n : Int)), (2, fv), (6, .int .i64 20), (7, .int .i64 ((20 * t : Nat) : Int)), (8, .int .i64 ((20 * t + 20 : Nat) : Int))])
    (fun t q w' => 20 * t ≤ n ∧ (∀ u, u < t → SOn z0 (fP ds) q (20 * u) (20 * u + 20)) ∧ Dat w' base (.slice A n c) q ∧ Seg z0 0 n ps q ∧ w.grownBy w' (Value.slice A n c).ownBlock) (fun t _ => n - 20 * t) 0 ps (by repeat' (first | exact Sub.nil | refine Sub.cons rfl ?_))
    ⟨by omega, fun u hu => by omega, hD, Seg.refl _ _ _, ext_grown (Ext.refl w) _⟩ ?_
  rintro t q w1 ⟨ht, hB, hD1, hS1, hg1⟩
  have hl1 : q.length = n := by rw [hS1.len, hn]
  repeat first | refine ω1 ?_ | refine ω2 ?_ | refine ω3 ?_ | refine ω4 ?_ | refine ω5 ?_ | refine χ1 ?_ | refine κ1 ?_ | refine κ2 ?_ | refine χ2 ?_ | refine κ3 ?_ | refine ω6 ?_ | refine ω7 ?_ | refine ω9 ?_ | refine κ4 ?_ | refine κ7 ?_ | refine κ8 ?_ | refine χ3 ?_ | refine χ4 ?_ | refine κ5 ?_ | refine κ6 ?_ | refine χ5 ?_ | refine χ6 ?_ | refine χ7 ?_ | refine ω8 ?_
  refine ci (fun h => ?_) (fun h => ?_)
  · have hle : 20 * t + 20 ≤ n := by have := of_decide_eq_true h; omega
    repeat first | refine ω1 ?_ | refine ω2 ?_ | refine ω3 ?_ | refine ω4 ?_ | refine ω5 ?_ | refine χ1 ?_ | refine κ1 ?_ | refine κ2 ?_ | refine χ2 ?_ | refine κ3 ?_ | refine ω6 ?_ | refine ω7 ?_ | refine ω9 ?_ | refine κ4 ?_ | refine κ7 ?_ | refine κ8 ?_ | refine χ3 ?_ | refine χ4 ?_ | refine κ5 ?_ | refine κ6 ?_ | refine χ5 ?_ | refine χ6 ?_ | refine χ7 ?_ | refine ω8 ?_
    refine cl (insertion_any (a := 20 * t) (b := 20 * t + 20) (ds := ds) hD1 hl1 rfl rfl hle ht hmx (hC.step hg1 hS1.perm)) ?_
    rintro v w2 ⟨q2, hD2, hS2, hO2, hg2⟩
    repeat first | refine ω1 ?_ | refine ω2 ?_ | refine ω3 ?_ | refine ω4 ?_ | refine ω5 ?_ | refine χ1 ?_ | refine κ1 ?_ | refine κ2 ?_ | refine χ2 ?_ | refine κ3 ?_ | refine ω6 ?_ | refine ω7 ?_ | refine ω9 ?_ | refine κ4 ?_ | refine κ7 ?_ | refine κ8 ?_ | refine χ3 ?_ | refine χ4 ?_ | refine κ5 ?_ | refine κ6 ?_ | refine χ5 ?_ | refine χ6 ?_ | refine χ7 ?_ | refine ω8 ?_
    refine qround2 (t + 1) q2 (by repeat' (first | exact Sub.nil | refine Sub.cons (by first | rfl | (refine congrArg (fun z => some (Value.int .i64 z)) ?_; omega)) ?_)) ⟨by omega, fun u hu => ?_, hD2, hS1.trans (hS2.mono (by omega) hle), grown_trans hg1 hg2⟩ (by omega)
    by_cases e : u = t
    · subst e; exact hO2
    · exact (hB u (by omega)).same fun k k1 k2 => hS2.lo k (by omega)
  · have hlt : n < 20 * t + 20 := by have := of_decide_eq_false h; omega
    repeat first | refine ω1 ?_ | refine ω2 ?_ | refine ω3 ?_ | refine ω4 ?_ | refine ω5 ?_ | refine χ1 ?_ | refine κ1 ?_ | refine κ2 ?_ | refine χ2 ?_ | refine κ3 ?_ | refine ω6 ?_ | refine ω7 ?_ | refine ω9 ?_ | refine κ4 ?_ | refine κ7 ?_ | refine κ8 ?_ | refine χ3 ?_ | refine χ4 ?_ | refine κ5 ?_ | refine κ6 ?_ | refine χ5 ?_ | refine χ6 ?_ | refine χ7 ?_ | refine ω8 ?_
    refine cl (insertion_any (a := 20 * t) (b := n) (ds := ds) hD1 hl1 rfl rfl (Nat.le_refl _) ht hmx (hC.step hg1 hS1.perm)) ?_
    rintro v w2 ⟨q2, hD2, hS2, hO2, hg2⟩
    have hB2 : Blk2 ds q2 n 20 0 := fun u _ => by
      rw [Nat.mul_comm u 20]
      by_cases e1 : u < t
      · exact ((hB u e1).same fun k k1 k2 => hS2.lo k (by omega)).mono (Nat.le_refl _) (by omega)
      · by_cases e2 : u = t
        · subst e2; exact hO2.mono (Nat.le_refl _) (by omega)
        · exact SOn.one _ (by omega)
    have hS2' := hS1.trans (hS2.mono (Nat.zero_le _) (Nat.le_refl _))
    have hg2' := grown_trans hg1 hg2
    repeat first | refine ω1 ?_ | refine ω2 ?_ | refine ω3 ?_ | refine ω4 ?_ | refine ω5 ?_ | refine χ1 ?_ | refine κ1 ?_ | refine κ2 ?_ | refine χ2 ?_ | refine κ3 ?_ | refine ω6 ?_ | refine ω7 ?_ | refine ω9 ?_ | refine κ4 ?_ | refine κ7 ?_ | refine κ8 ?_ | refine χ3 ?_ | refine χ4 ?_ | refine κ5 ?_ | refine κ6 ?_ | refine χ5 ?_ | refine χ6 ?_ | refine χ7 ?_ | refine ω8 ?_
    refine wloop2 (fun (bs : Nat) (q : List Pr) => [(0, .slice A n c), (1, .int .i64 (n : Int)), (2, fv), (6, .int .i64 (bs : Int))])
      (fun bs q w' => 0 < bs ∧ bs ≤ 2200020 ∧ Blk2 ds q n bs 0 ∧ Dat w' base (.slice A n c) q ∧ Seg z0 0 n ps q ∧ w.grownBy w' (Value.slice A n c).ownBlock) (fun bs _ => n - bs) 20 q2 (by repeat' (first | exact Sub.nil | refine Sub.cons rfl ?_))
      ⟨by omega, by omega, hB2, hD2, hS2', hg2'⟩ ?_
    rintro bs q3 w3 ⟨hbs, hbs2, hB3, hD3, hS3, hg3⟩
    repeat first | refine ω1 ?_ | refine ω2 ?_ | refine ω3 ?_ | refine ω4 ?_ | refine ω5 ?_ | refine χ1 ?_ | refine κ1 ?_ | refine κ2 ?_ | refine χ2 ?_ | refine κ3 ?_ | refine ω6 ?_ | refine ω7 ?_ | refine ω9 ?_ | refine κ4 ?_ | refine κ7 ?_ | refine κ8 ?_ | refine χ3 ?_ | refine χ4 ?_ | refine κ5 ?_ | refine κ6 ?_ | refine χ5 ?_ | refine χ6 ?_ | refine χ7 ?_ | refine ω8 ?_
    refine ci (fun h => ?_) (fun h => ?_)
    · have hbn : bs < n := by have := of_decide_eq_true h; omega
      repeat first | refine ω1 ?_ | refine ω2 ?_ | refine ω3 ?_ | refine ω4 ?_ | refine ω5 ?_ | refine χ1 ?_ | refine κ1 ?_ | refine κ2 ?_ | refine χ2 ?_ | refine κ3 ?_ | refine ω6 ?_ | refine ω7 ?_ | refine ω9 ?_ | refine κ4 ?_ | refine κ7 ?_ | refine κ8 ?_ | refine χ3 ?_ | refine χ4 ?_ | refine κ5 ?_ | refine κ6 ?_ | refine χ5 ?_ | refine χ6 ?_ | refine χ7 ?_ | refine ω8 ?_
      refine wloop2 (fun (t : Nat) (q : List Pr) => [(0, .slice A n c), (1, .int .i64 (n : Int)), (2, fv), (6, .int .i64 (bs : Int)), (7, .int .i64 ((t * (2 * bs) : Nat) : Int)), (8, .int .i64 ((t * (2 * bs) + 2 * bs : Nat) : Int))])
        (fun t q w' => t * (2 * bs) ≤ n ∧ (∀ u, u < t → SOn z0 (fP ds) q (u * (2 * bs)) (u * (2 * bs) + 2 * bs)) ∧ Blk2 ds q n bs (2 * t) ∧ Dat w' base (.slice A n c) q ∧ Seg z0 0 n ps q ∧ w.grownBy w' (Value.slice A n c).ownBlock) (fun t _ => n - t * (2 * bs)) 0 q3 (by repeat' (first | exact Sub.nil | refine Sub.cons (by first | rfl | (refine congrArg (fun z => some (Value.int .i64 z)) ?_; omega)) ?_))
        ⟨by omega, fun u hu => by omega, hB3, hD3, hS3, hg3⟩ ?_
      rintro t q4 w4 ⟨ht4, hU4, hB4, hD4, hS4, hg4⟩
      have hl4 : q4.length = n := by rw [hS4.len, hn]
      have e1 : (2 * t) * bs = t * (2 * bs) := by rw [Nat.mul_comm 2 t, Nat.mul_assoc]
      have e2 : (2 * t + 1) * bs = t * (2 * bs) + bs := by rw [Nat.succ_mul, e1]
      have e3 : (t + 1) * (2 * bs) = t * (2 * bs) + 2 * bs := Nat.succ_mul _ _
      have b1 := hB4 (2 * t) (Nat.le_refl _)
      have b2 := hB4 (2 * t + 1) (by omega)
      rw [e1] at b1
      rw [e2] at b2
      have far : ∀ u, t < u → t * (2 * bs) + 2 * bs ≤ u * (2 * bs) := fun u hu => by rw [← e3]; exact Nat.mul_le_mul_right _ hu
      have far1 : ∀ u, 2 * (t + 1) ≤ u → t * (2 * bs) + 2 * bs ≤ u * bs := fun u hu => by
        have := Nat.mul_le_mul_right bs hu
        have e4 : (2 * (t + 1)) * bs = (t + 1) * (2 * bs) := by rw [Nat.mul_comm 2 (t + 1), Nat.mul_assoc]
        omega
      have low : ∀ u, u < t → u * (2 * bs) + 2 * bs ≤ t * (2 * bs) := fun u hu => by
        have := Nat.mul_le_mul_right (2 * bs) hu
        rw [Nat.succ_mul] at this; exact this
      generalize ha : t * (2 * bs) = a at *
      repeat first | refine ω1 ?_ | refine ω2 ?_ | refine ω3 ?_ | refine ω4 ?_ | refine ω5 ?_ | refine χ1 ?_ | refine κ1 ?_ | refine κ2 ?_ | refine χ2 ?_ | refine κ3 ?_ | refine ω6 ?_ | refine ω7 ?_ | refine ω9 ?_ | refine κ4 ?_ | refine κ7 ?_ | refine κ8 ?_ | refine χ3 ?_ | refine χ4 ?_ | refine κ5 ?_ | refine κ6 ?_ | refine χ5 ?_ | refine χ6 ?_ | refine χ7 ?_ | refine ω8 ?_
      refine ci (fun h => ?_) (fun h => ?_)
      · have hle : a + 2 * bs ≤ n := by have := of_decide_eq_true h; omega
        repeat first | refine ω1 ?_ | refine ω2 ?_ | refine ω3 ?_ | refine ω4 ?_ | refine ω5 ?_ | refine χ1 ?_ | refine κ1 ?_ | refine κ2 ?_ | refine χ2 ?_ | refine κ3 ?_ | refine ω6 ?_ | refine ω7 ?_ | refine ω9 ?_ | refine κ4 ?_ | refine κ7 ?_ | refine κ8 ?_ | refine χ3 ?_ | refine χ4 ?_ | refine κ5 ?_ | refine κ6 ?_ | refine χ5 ?_ | refine χ6 ?_ | refine χ7 ?_ | refine ω8 ?_
        refine cl (symMerge_any (a + 2 * bs - a) (a := a) (m := a + bs) (b := a + 2 * bs) (mi := (a : Int) + (bs : Int)) (ds := ds) (Nat.le_refl _) hD4 hl4 rfl (by omega) rfl (by omega) (by omega) hle hmx (hC.step hg4 hS4.perm) (b1.mono (Nat.le_refl _) (by omega)) (b2.mono (Nat.le_refl _) (by omega))) ?_
        rintro v w5 ⟨q5, hD5, hS5, hO5, hg5⟩
        repeat first | refine ω1 ?_ | refine ω2 ?_ | refine ω3 ?_ | refine ω4 ?_ | refine ω5 ?_ | refine χ1 ?_ | refine κ1 ?_ | refine κ2 ?_ | refine χ2 ?_ | refine κ3 ?_ | refine ω6 ?_ | refine ω7 ?_ | refine ω9 ?_ | refine κ4 ?_ | refine κ7 ?_ | refine κ8 ?_ | refine χ3 ?_ | refine χ4 ?_ | refine κ5 ?_ | refine κ6 ?_ | refine χ5 ?_ | refine χ6 ?_ | refine χ7 ?_ | refine ω8 ?_
        refine qround2 (t + 1) q5 ?_ ⟨by omega, fun u hu => ?_, fun u hu => ?_, hD5, hS4.trans (hS5.mono (by omega) hle), grown_trans hg4 hg5⟩ (by omega)
        · rw [e3]
          exact (by repeat' (first | exact Sub.nil | refine Sub.cons (by first | rfl | (refine congrArg (fun z => some (Value.int .i64 z)) ?_; omega)) ?_))
        · by_cases e : u = t
          · subst e; rw [ha]; exact hO5
          · have := low u (by omega)
            exact (hU4 u (by omega)).same fun k k1 k2 => hS5.lo k (by omega)
        · have := far1 u hu
          exact (hB4 u (by omega)).same fun k k1 k2 => hS5.hi k (by omega)
      · have hlt : n < a + 2 * bs := by have := of_decide_eq_false h; omega
        repeat first | refine ω1 ?_ | refine ω2 ?_ | refine ω3 ?_ | refine ω4 ?_ | refine ω5 ?_ | refine χ1 ?_ | refine κ1 ?_ | refine κ2 ?_ | refine χ2 ?_ | refine κ3 ?_ | refine ω6 ?_ | refine ω7 ?_ | refine ω9 ?_ | refine κ4 ?_ | refine κ7 ?_ | refine κ8 ?_ | refine χ3 ?_ | refine χ4 ?_ | refine κ5 ?_ | refine κ6 ?_ | refine χ5 ?_ | refine χ6 ?_ | refine χ7 ?_ | refine ω8 ?_
        have fin : ∀ (q5 : List Pr), (∀ k, k < a → q5.getD k z0 = q4.getD k z0) → SOn z0 (fP ds) q5 a n → Blk2 ds q5 n (bs * 2) 0 := fun q5 hlo hO5 u _ => by
          rw [Nat.mul_comm bs 2]
          by_cases e4 : u < t
          · have := low u e4
            exact ((hU4 u e4).same fun k k1 k2 => hlo k (by omega)).mono (Nat.le_refl _) (by omega)
          · by_cases e5 : u = t
            · subst e5; rw [ha]; exact hO5.mono (Nat.le_refl _) (by omega)
            · have := far u (by omega)
              exact SOn.one _ (by omega)
        refine ci (fun h => ?_) (fun h => ?_)
        · have hm : a + bs < n := by have := of_decide_eq_true h; omega
          repeat first | refine ω1 ?_ | refine ω2 ?_ | refine ω3 ?_ | refine ω4 ?_ | refine ω5 ?_ | refine χ1 ?_ | refine κ1 ?_ | refine κ2 ?_ | refine χ2 ?_ | refine κ3 ?_ | refine ω6 ?_ | refine ω7 ?_ | refine ω9 ?_ | refine κ4 ?_ | refine κ7 ?_ | refine κ8 ?_ | refine χ3 ?_ | refine χ4 ?_ | refine κ5 ?_ | refine κ6 ?_ | refine χ5 ?_ | refine χ6 ?_ | refine χ7 ?_ | refine ω8 ?_
          refine cl (symMerge_any (n - a) (a := a) (m := a + bs) (b := n) (mi := (a : Int) + (bs : Int)) (ds := ds) (Nat.le_refl _) hD4 hl4 rfl (by omega) rfl (by omega) hm (Nat.le_refl _) hmx (hC.step hg4 hS4.perm) (b1.mono (Nat.le_refl _) (by omega)) (b2.mono (Nat.le_refl _) (by omega))) ?_
          rintro v w5 ⟨q5, hD5, hS5, hO5, hg5⟩
          repeat first | refine ω1 ?_ | refine ω2 ?_ | refine ω3 ?_ | refine ω4 ?_ | refine ω5 ?_ | refine χ1 ?_ | refine κ1 ?_ | refine κ2 ?_ | refine χ2 ?_ | refine κ3 ?_ | refine ω6 ?_ | refine ω7 ?_ | refine ω9 ?_ | refine κ4 ?_ | refine κ7 ?_ | refine κ8 ?_ | refine χ3 ?_ | refine χ4 ?_ | refine κ5 ?_ | refine κ6 ?_ | refine χ5 ?_ | refine χ6 ?_ | refine χ7 ?_ | refine ω8 ?_
          exact qround2 (bs * 2) q5 (by repeat' (first | exact Sub.nil | refine Sub.cons (by first | rfl | (refine congrArg (fun z => some (Value.int .i64 z)) ?_; omega)) ?_)) ⟨by omega, by omega, fin q5 hS5.lo hO5, hD5, hS4.trans (hS5.mono (by omega) (Nat.le_refl _)), grown_trans hg4 hg5⟩ (by omega)
        · have hm : n ≤ a + bs := by have := of_decide_eq_false h; omega
          repeat first | refine ω1 ?_ | refine ω2 ?_ | refine ω3 ?_ | refine ω4 ?_ | refine ω5 ?_ | refine χ1 ?_ | refine κ1 ?_ | refine κ2 ?_ | refine χ2 ?_ | refine κ3 ?_ | refine ω6 ?_ | refine ω7 ?_ | refine ω9 ?_ | refine κ4 ?_ | refine κ7 ?_ | refine κ8 ?_ | refine χ3 ?_ | refine χ4 ?_ | refine κ5 ?_ | refine κ6 ?_ | refine χ5 ?_ | refine χ6 ?_ | refine χ7 ?_ | refine ω8 ?_
          exact qround2 (bs * 2) q4 (by repeat' (first | exact Sub.nil | refine Sub.cons (by first | rfl | (refine congrArg (fun z => some (Value.int .i64 z)) ?_; omega)) ?_)) ⟨by omega, by omega, fin q4 (fun _ _ => rfl) (b1.mono (Nat.le_refl _) (by omega)), hD4, hS4, hg4⟩ (by omega)
    · have hbn : n ≤ bs := by have := of_decide_eq_false h; omega
      repeat first | refine ω1 ?_ | refine ω2 ?_ | refine ω3 ?_ | refine ω4 ?_ | refine ω5 ?_ | refine χ1 ?_ | refine κ1 ?_ | refine κ2 ?_ | refine χ2 ?_ | refine κ3 ?_ | refine ω6 ?_ | refine ω7 ?_ | refine ω9 ?_ | refine κ4 ?_ | refine κ7 ?_ | refine κ8 ?_ | refine χ3 ?_ | refine χ4 ?_ | refine κ5 ?_ | refine κ6 ?_ | refine χ5 ?_ | refine χ6 ?_ | refine χ7 ?_ | refine ω8 ?_
      refine finE ⟨q3, hD3, hS3, (hB3 0 (Nat.le_refl _)).mono (by omega) (by omega), hg3⟩
set_option maxRecDepth 100000 in
theorem sortStable_any {w : World} {base : Nat} {A : Option Addr} {n c : Nat} {fv : Value} {ps : List Pr} {ds : List Bool} (hD : Dat w base (.slice A n c) ps) (hn : ps.length = n) (hmx : n ≤ 1100000) (hC : CmpF w (Value.slice A n c).ownBlock fv ps ds) :
    Ret Try.prog 79 [.slice A n c, fv] w fun v w' => Merged w base (.slice A n c) ps ds 0 n w' := by
  refine enterR Try.func79 Try.ntmps79 rfl (by kernel_rfl) rfl ?_
  repeat first | refine ω1 ?_ | refine ω2 ?_ | refine ω3 ?_ | refine ω4 ?_ | refine ω5 ?_ | refine χ1 ?_ | refine κ1 ?_ | refine κ2 ?_ | refine χ2 ?_ | refine κ3 ?_ | refine ω6 ?_ | refine ω7 ?_ | refine ω9 ?_ | refine κ4 ?_ | refine κ7 ?_ | refine κ8 ?_ | refine χ3 ?_ | refine χ4 ?_ | refine κ5 ?_ | refine κ6 ?_ | refine χ5 ?_ | refine χ6 ?_ | refine χ7 ?_ | refine ω8 ?_
  refine cl (stable_any (ds := ds) hD hn hmx hC) ?_
  rintro v w1 hm
  repeat first | refine ω1 ?_ | refine ω2 ?_ | refine ω3 ?_ | refine ω4 ?_ | refine ω5 ?_ | refine χ1 ?_ | refine κ1 ?_ | refine κ2 ?_ | refine χ2 ?_ | refine κ3 ?_ | refine ω6 ?_ | refine ω7 ?_ | refine ω9 ?_ | refine κ4 ?_ | refine κ7 ?_ | refine κ8 ?_ | refine χ3 ?_ | refine χ4 ?_ | refine κ5 ?_ | refine κ6 ?_ | refine χ5 ?_ | refine χ6 ?_ | refine χ7 ?_ | refine ω8 ?_
  exact finE hm
end Go.Proofs.Ytpahjnfolbnloaa
