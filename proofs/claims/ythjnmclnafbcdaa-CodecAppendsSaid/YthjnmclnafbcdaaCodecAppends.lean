/- For every input the law CodecAppends returns true, and its arguments read afterwards as they read before. No condition. -/
import Derived.Test.YthjnmclnafbcdaaApp
import Derived.Test.YthjnmclnafbcdaaMore
import Derived.Test.YthjnmclnafbcdaaOpen
set_option linter.unusedVariables false
namespace Go.Proofs.Ythjnmclnafbcdaa.codecAppends
open Go.ChangeShapes Go.WideShapes Go.ChangeAt Go.RowKit Pl Go.Wk
attribute [local irreducible] WC WL QX WD

def sv : List UInt8 := [7, 7, 7, 7, 7, 7, 7, 7, 7, 7, 7]
theorem bs11 (w : World) : (Instr.buildSlice 22 11 #[(0, .int .u8 7), (1, .int .u8 7), (2, .int .u8 7), (3, .int .u8 7), (4, .int .u8 7), (5, .int .u8 7), (6, .int .u8 7), (7, .int .u8 7), (8, .int .u8 7), (9, .int .u8 7), (10, .int .u8 7)]).run Try.prog w = .ok (.slice (some ⟨w.heap.size, 0, none⟩) 11 11) (w.alloc (.cells (Bc sv).toArray 5)) := by kernel_rfl
set_option maxRecDepth 100000 in
theorem walk (A : Option Addr) (l : List UInt8) (c : Nat) (x : Int) (w : World) (hr : Rd w 1 A l.length (Bc l)) (hlc : l.length ≤ c) (hcm : c ≤ maxLen) (hx : 0 ≤ x ∧ x ≤ 18446744073709551615) :
    Ret Try.prog 4 [.slice A l.length c, .int .u64 x] w fun r w' => r = .bool true ∧ Ext w w' := by
  obtain ⟨m, rfl⟩ : ∃ m : Nat, x = m := ⟨x.toNat, by omega⟩
  have hm : m < M64 := by unfold M64; omega
  refine enterR Try.func4 Try.ntmps4 rfl (by kernel_rfl) rfl ?_
  repeat first | refine ω1 ?_ | refine ω2 ?_ | refine ω3 ?_ | refine ω4 ?_ | refine ω5 ?_ | refine χ1 ?_ | refine κ1 ?_ | refine κ2 ?_ | refine χ2 ?_ | refine κ3 ?_ | refine ω6 ?_ | refine ω7 ?_ | refine κ4 ?_ | refine κ7 ?_ | refine κ8 ?_ | refine χ3 ?_ | refine χ4 ?_ | refine κ5 ?_ | refine κ6 ?_ | refine χ5 ?_ | refine χ6 ?_ | refine χ7 ?_ | refine ω8 ?_
  refine ci (fun h => ?_) (fun h => ?_)
  · repeat first | refine ω1 ?_ | refine ω2 ?_ | refine ω3 ?_ | refine ω4 ?_ | refine ω5 ?_ | refine χ1 ?_ | refine κ1 ?_ | refine κ2 ?_ | refine χ2 ?_ | refine κ3 ?_ | refine ω6 ?_ | refine ω7 ?_ | refine κ4 ?_ | refine κ7 ?_ | refine κ8 ?_ | refine χ3 ?_ | refine χ4 ?_ | refine κ5 ?_ | refine κ6 ?_ | refine χ5 ?_ | refine χ6 ?_ | refine χ7 ?_ | refine ω8 ?_
    refine cl (awake_any w) ?_
    rintro r w1 ⟨rfl, hx1⟩
    repeat first | refine ω1 ?_ | refine ω2 ?_ | refine ω3 ?_ | refine ω4 ?_ | refine ω5 ?_ | refine χ1 ?_ | refine κ1 ?_ | refine κ2 ?_ | refine χ2 ?_ | refine κ3 ?_ | refine ω6 ?_ | refine ω7 ?_ | refine κ4 ?_ | refine κ7 ?_ | refine κ8 ?_ | refine χ3 ?_ | refine χ4 ?_ | refine κ5 ?_ | refine κ6 ?_ | refine χ5 ?_ | refine χ6 ?_ | refine χ7 ?_ | refine ω8 ?_
    exact fin1 ⟨rfl, hx1⟩
  · have hl : l.length ≤ 100 := by have := of_decide_eq_false h; omega
    repeat first | refine ω1 ?_ | refine ω2 ?_ | refine ω3 ?_ | refine ω4 ?_ | refine ω5 ?_ | refine χ1 ?_ | refine κ1 ?_ | refine κ2 ?_ | refine χ2 ?_ | refine κ3 ?_ | refine ω6 ?_ | refine ω7 ?_ | refine κ4 ?_ | refine κ7 ?_ | refine κ8 ?_ | refine χ3 ?_ | refine χ4 ?_ | refine κ5 ?_ | refine κ6 ?_ | refine χ5 ?_ | refine χ6 ?_ | refine χ7 ?_ | refine ω8 ?_
    refine mk0 E8 (l.length + 20) (by omega) (by unfold maxLen; omega) ?_
    intro w1 A1 hx1 ho1
    repeat first | refine ω1 ?_ | refine ω2 ?_ | refine ω3 ?_ | refine ω4 ?_ | refine ω5 ?_ | refine χ1 ?_ | refine κ1 ?_ | refine κ2 ?_ | refine χ2 ?_ | refine κ3 ?_ | refine ω6 ?_ | refine ω7 ?_ | refine κ4 ?_ | refine κ7 ?_ | refine κ8 ?_ | refine χ3 ?_ | refine χ4 ?_ | refine κ5 ?_ | refine κ6 ?_ | refine χ5 ?_ | refine χ6 ?_ | refine χ7 ?_ | refine ω8 ?_
    refine apo hx1 E8 ho1 (hr.ext hx1) (Bc_one l) (by unfold maxLen; omega) (by omega) ?_
    intro v2 w2 ho2 hx2 _ _
    refine bsl bs11 ?_
    intro w3 b3 hx3 hb3 hk3
    refine apo (m' := 11) (hx2.trans hx3) E8 (own_ext ho2 hx3) (hk3.rd (by rfl)) (Bc_one sv) (by unfold maxLen; omega) (by omega) ?_
    intro v4 w4 ho4 hx4 _ _
    have e4 : [] ++ Bc l ++ Bc sv = Bc (l ++ sv) := by rw [Bc_app]; rfl
    rw [e4] at ho4
    obtain ⟨A4, c4, rfl, hc4, _⟩ := own_form ho4
    have hr4 := Rd.own ho4
    have hsl : sv.length = 11 := rfl
    have hrl : Rd w4 1 A4 l.length (Bc l) := by
      have := hr4.take (m := l.length) (by omega)
      rwa [Nat.mul_one, Bc_take, List.take_left] at this
    repeat first | refine ω1 ?_ | refine ω2 ?_ | refine ω3 ?_ | refine ω4 ?_ | refine ω5 ?_ | refine χ1 ?_ | refine κ1 ?_ | refine κ2 ?_ | refine χ2 ?_ | refine κ3 ?_ | refine ω6 ?_ | refine ω7 ?_ | refine κ4 ?_ | refine κ7 ?_ | refine κ8 ?_ | refine χ3 ?_ | refine χ4 ?_ | refine κ5 ?_ | refine κ6 ?_ | refine χ5 ?_ | refine χ6 ?_ | refine χ7 ?_ | refine ω8 ?_
    refine slh l.length ?_
    repeat first | refine ω1 ?_ | refine ω2 ?_ | refine ω3 ?_ | refine ω4 ?_ | refine ω5 ?_ | refine χ1 ?_ | refine κ1 ?_ | refine κ2 ?_ | refine χ2 ?_ | refine κ3 ?_ | refine ω6 ?_ | refine ω7 ?_ | refine κ4 ?_ | refine κ7 ?_ | refine κ8 ?_ | refine χ3 ?_ | refine χ4 ?_ | refine κ5 ?_ | refine κ6 ?_ | refine χ5 ?_ | refine χ6 ?_ | refine χ7 ?_ | refine ω8 ?_
    refine cl (appendUint_any A4 l c4 m w4 hrl (by omega) (by omega) hm) ?_
    rintro v5 w5 ⟨ho5, hx5⟩
    have hr5 := hr4.ext hx5
    obtain ⟨A5, c5, rfl, hc5, _⟩ := own_form ho5
    have hup := uEncF_pos 9 m
    have hul := uEncF_le 9 m
    have hcl : (l ++ uEnc m).length = l.length + (uEnc m).length := by simp
    change 0 < (uEnc m).length at hup
    change (uEnc m).length ≤ 10 at hul
    repeat first | refine ω1 ?_ | refine ω2 ?_ | refine ω3 ?_ | refine ω4 ?_ | refine ω5 ?_ | refine χ1 ?_ | refine κ1 ?_ | refine κ2 ?_ | refine χ2 ?_ | refine κ3 ?_ | refine ω6 ?_ | refine ω7 ?_ | refine κ4 ?_ | refine κ7 ?_ | refine κ8 ?_ | refine χ3 ?_ | refine χ4 ?_ | refine κ5 ?_ | refine κ6 ?_ | refine χ5 ?_ | refine χ6 ?_ | refine χ7 ?_ | refine ω8 ?_
    refine wloop1 (fun k => [(0, .slice A l.length c), (1, .int .u64 (m : Int)), (5, .slice A4 (0 + l.length + 11) c4), (6, .slice A5 (l ++ uEnc m).length c5), (7, .int .i64 ((k : Nat) : Int))])
      (fun k w' => w' = w5 ∧ l.length ≤ k ∧ k ≤ l.length + 11) (fun k => l.length + 11 - k) l.length (by repeat' (first | exact Sub.nil | refine Sub.cons rfl ?_)) ⟨rfl, Nat.le_refl _, by omega⟩ ?_
    rintro k w' ⟨rfl, hk1, hk2⟩
    repeat first | refine ω1 ?_ | refine ω2 ?_ | refine ω3 ?_ | refine ω4 ?_ | refine ω5 ?_ | refine χ1 ?_ | refine κ1 ?_ | refine κ2 ?_ | refine χ2 ?_ | refine κ3 ?_ | refine ω6 ?_ | refine ω7 ?_ | refine κ4 ?_ | refine κ7 ?_ | refine κ8 ?_ | refine χ3 ?_ | refine χ4 ?_ | refine κ5 ?_ | refine κ6 ?_ | refine χ5 ?_ | refine χ6 ?_ | refine χ7 ?_ | refine ω8 ?_
    refine ci (fun h => ?_) (fun h => ?_)
    · have hlt : k < l.length + 11 := by have := of_decide_eq_true h; omega
      have hg : (Bc (l ++ sv))[k]? = some (.int .u8 7) := by
        have h7 : ∀ j, j < 11 → (Bc sv)[j]? = some (.int .u8 7) := by
          intro j hj
          have e : Bc sv = List.replicate 11 (.int .u8 7) := rfl
          rw [e, List.getElem?_replicate, if_pos hj]
        rw [Bc_app, List.getElem?_append_right (by rw [Bc_len]; omega), Bc_len]
        exact h7 _ (by omega)
      repeat first | refine ω1 ?_ | refine ω2 ?_ | refine ω3 ?_ | refine ω4 ?_ | refine ω5 ?_ | refine χ1 ?_ | refine κ1 ?_ | refine κ2 ?_ | refine χ2 ?_ | refine κ3 ?_ | refine ω6 ?_ | refine ω7 ?_ | refine κ4 ?_ | refine κ7 ?_ | refine κ8 ?_ | refine χ3 ?_ | refine χ4 ?_ | refine κ5 ?_ | refine κ6 ?_ | refine χ5 ?_ | refine χ6 ?_ | refine χ7 ?_ | refine ω8 ?_
      refine ix k hr5 (by omega) ?_
      refine ld (hr5.cell hg) ?_
      repeat first | refine ω1 ?_ | refine ω2 ?_ | refine ω3 ?_ | refine ω4 ?_ | refine ω5 ?_ | refine χ1 ?_ | refine κ1 ?_ | refine κ2 ?_ | refine χ2 ?_ | refine κ3 ?_ | refine ω6 ?_ | refine ω7 ?_ | refine κ4 ?_ | refine κ7 ?_ | refine κ8 ?_ | refine χ3 ?_ | refine χ4 ?_ | refine κ5 ?_ | refine κ6 ?_ | refine χ5 ?_ | refine χ6 ?_ | refine χ7 ?_ | refine ω8 ?_
      refine qround1 (k + 1) (by repeat' (first | exact Sub.nil | refine Sub.cons rfl ?_)) ⟨rfl, by omega, by omega⟩ (by omega)
    · repeat first | refine ω1 ?_ | refine ω2 ?_ | refine ω3 ?_ | refine ω4 ?_ | refine ω5 ?_ | refine χ1 ?_ | refine κ1 ?_ | refine κ2 ?_ | refine χ2 ?_ | refine κ3 ?_ | refine ω6 ?_ | refine ω7 ?_ | refine κ4 ?_ | refine κ7 ?_ | refine κ8 ?_ | refine χ3 ?_ | refine χ4 ?_ | refine κ5 ?_ | refine κ6 ?_ | refine χ5 ?_ | refine χ6 ?_ | refine χ7 ?_ | refine ω8 ?_
      refine wkf 49 rfl (decide_eq_false (by rw [hcl]; omega)) ?_
      repeat first | refine ω1 ?_ | refine ω2 ?_ | refine ω3 ?_ | refine ω4 ?_ | refine ω5 ?_ | refine χ1 ?_ | refine κ1 ?_ | refine κ2 ?_ | refine χ2 ?_ | refine κ3 ?_ | refine ω6 ?_ | refine ω7 ?_ | refine κ4 ?_ | refine κ7 ?_ | refine κ8 ?_ | refine χ3 ?_ | refine χ4 ?_ | refine κ5 ?_ | refine κ6 ?_ | refine χ5 ?_ | refine χ6 ?_ | refine χ7 ?_ | refine ω8 ?_
      have hrc := Rd.own ho5
      have hrp : Rd w' 1 A5 l.length (Bc l) := by
        have := hrc.take (m := l.length) (by omega)
        rwa [Nat.mul_one, Bc_take, List.take_left] at this
      have hrs : Rd w' 1 (if c5 = l.length then A5 else A5.map (·.add (l.length * 1))) (uEnc m).length (Bc (uEnc m)) := by
        have := hrc.drop (k := l.length) (c := c5) (by omega) hc5
        rw [Nat.mul_one, Bc_drop, List.drop_left, hcl, Nat.add_sub_cancel_left] at this
        rw [Nat.mul_one]
        exact this
      have hrb := hr.ext (hx4.trans hx5)
      refine slh l.length ?_
      repeat first | refine ω1 ?_ | refine ω2 ?_ | refine ω3 ?_ | refine ω4 ?_ | refine ω5 ?_ | refine χ1 ?_ | refine κ1 ?_ | refine κ2 ?_ | refine χ2 ?_ | refine κ3 ?_ | refine ω6 ?_ | refine ω7 ?_ | refine κ4 ?_ | refine κ7 ?_ | refine κ8 ?_ | refine χ3 ?_ | refine χ4 ?_ | refine κ5 ?_ | refine κ6 ?_ | refine χ5 ?_ | refine χ6 ?_ | refine χ7 ?_ | refine ω8 ?_
      refine cl (same_any w' hrp hrb) ?_
      rintro r w6 ⟨rfl, rfl⟩
      repeat first | refine ω1 ?_ | refine ω2 ?_ | refine ω3 ?_ | refine ω4 ?_ | refine ω5 ?_ | refine χ1 ?_ | refine κ1 ?_ | refine κ2 ?_ | refine χ2 ?_ | refine κ3 ?_ | refine ω6 ?_ | refine ω7 ?_ | refine κ4 ?_ | refine κ7 ?_ | refine κ8 ?_ | refine χ3 ?_ | refine χ4 ?_ | refine κ5 ?_ | refine κ6 ?_ | refine χ5 ?_ | refine χ6 ?_ | refine χ7 ?_ | refine ω8 ?_
      refine wcondn rfl (by simp) ?_
      repeat first | refine ω1 ?_ | refine ω2 ?_ | refine ω3 ?_ | refine ω4 ?_ | refine ω5 ?_ | refine χ1 ?_ | refine κ1 ?_ | refine κ2 ?_ | refine χ2 ?_ | refine κ3 ?_ | refine ω6 ?_ | refine ω7 ?_ | refine κ4 ?_ | refine κ7 ?_ | refine κ8 ?_ | refine χ3 ?_ | refine χ4 ?_ | refine κ5 ?_ | refine κ6 ?_ | refine χ5 ?_ | refine χ6 ?_ | refine χ7 ?_ | refine ω8 ?_
      refine sll l.length ?_
      refine wknow 62 (.slice (if c5 = l.length then A5 else A5.map (·.add (l.length * 1))) (uEnc m).length (c5 - l.length)) rfl (by rw [hcl, Nat.add_sub_cancel_left]) ?_
      refine cl (uint_any _ (uEnc m) (c5 - l.length) w6 hrs (by omega)) ?_
      rintro r w7 ⟨rfl, rfl⟩
      rw [uGo_uEnc hm]
      repeat first | refine ω1 ?_ | refine ω2 ?_ | refine ω3 ?_ | refine ω4 ?_ | refine ω5 ?_ | refine χ1 ?_ | refine κ1 ?_ | refine κ2 ?_ | refine χ2 ?_ | refine κ3 ?_ | refine ω6 ?_ | refine ω7 ?_ | refine κ4 ?_ | refine κ7 ?_ | refine κ8 ?_ | refine χ3 ?_ | refine χ4 ?_ | refine κ5 ?_ | refine κ6 ?_ | refine χ5 ?_ | refine χ6 ?_ | refine χ7 ?_ | refine ω8 ?_
      refine wloop3 (fun f m' b => [(0, .slice A l.length c), (1, .int .u64 (m : Int)), (6, .slice A5 (l ++ uEnc m).length c5), (8, .int .u64 (m : Int)), (9, .int .i64 ((uEnc m).length : Int)), (10, .int .i64 0), (11, .int .i64 ((b : Nat) : Int)), (12, .int .u64 ((m' : Nat) : Int))])
        (fun f m' b w' => w' = w7 ∧ m' < 128 ^ (f + 1) ∧ b + f ≤ 9 + 1 ∧ m' < M64 ∧ (0 < m' → (uEnc m).length = b + (uEncF f m').length ∧ b + f = 9) ∧ (m' = 0 → max b 1 = (uEnc m).length)) (fun f m' b => m') 9 m 0 (by repeat' (first | exact Sub.nil | refine Sub.cons rfl ?_))
        ⟨rfl, Nat.lt_trans hm (by decide), by omega, hm, fun _ => ⟨by simp [uEnc], by omega⟩, fun h => by subst h; rfl⟩ ?_
      rintro f m' b w8 ⟨rfl, hf, hbf, hm', hpos, hzero⟩
      repeat first | refine ω1 ?_ | refine ω2 ?_ | refine ω3 ?_ | refine ω4 ?_ | refine ω5 ?_ | refine χ1 ?_ | refine κ1 ?_ | refine κ2 ?_ | refine χ2 ?_ | refine κ3 ?_ | refine ω6 ?_ | refine ω7 ?_ | refine κ4 ?_ | refine κ7 ?_ | refine κ8 ?_ | refine χ3 ?_ | refine χ4 ?_ | refine κ5 ?_ | refine κ6 ?_ | refine χ5 ?_ | refine χ6 ?_ | refine χ7 ?_ | refine ω8 ?_
      refine ci (fun h => ?_) (fun h => ?_)
      · have h0 : 0 < m' := by have := of_decide_eq_true h; omega
        obtain ⟨hlen, hb9⟩ := hpos h0
        repeat first | refine ω1 ?_ | refine ω2 ?_ | refine ω3 ?_ | refine ω4 ?_ | refine ω5 ?_ | refine χ1 ?_ | refine κ1 ?_ | refine κ2 ?_ | refine χ2 ?_ | refine κ3 ?_ | refine ω6 ?_ | refine ω7 ?_ | refine κ4 ?_ | refine κ7 ?_ | refine κ8 ?_ | refine χ3 ?_ | refine χ4 ?_ | refine κ5 ?_ | refine κ6 ?_ | refine χ5 ?_ | refine χ6 ?_ | refine χ7 ?_ | refine ω8 ?_
        refine wshr rfl rfl (by decide) rfl ?_
        repeat first | refine ω1 ?_ | refine ω2 ?_ | refine ω3 ?_ | refine ω4 ?_ | refine ω5 ?_ | refine χ1 ?_ | refine κ1 ?_ | refine κ2 ?_ | refine χ2 ?_ | refine κ3 ?_ | refine ω6 ?_ | refine ω7 ?_ | refine κ4 ?_ | refine κ7 ?_ | refine κ8 ?_ | refine χ3 ?_ | refine χ4 ?_ | refine κ5 ?_ | refine κ6 ?_ | refine χ5 ?_ | refine χ6 ?_ | refine χ7 ?_ | refine ω8 ?_
        by_cases h128 : 128 ≤ m'
        · obtain ⟨g, rfl⟩ : ∃ g, f = g + 1 := by
            cases f with
            | zero => simp at hf; omega
            | succ g => exact ⟨g, rfl⟩
          refine qround3 g (m' / 128) (b + 1) (Sub.cons rfl (Sub.cons rfl (Sub.cons rfl (Sub.cons rfl (Sub.cons rfl (Sub.cons rfl (Sub.cons rfl (Sub.cons (congrArg (fun z => some (Value.int .u64 z)) (shr7 m')) Sub.nil))))))))
            ⟨rfl, div128 hf, by omega, Nat.lt_of_le_of_lt (Nat.div_le_self _ _) hm', fun _ => ⟨?_, by omega⟩, fun h => by omega⟩ (by omega)
          rw [hlen, uEncF_ge h128]; simp; omega
        · have hz : m' / 128 = 0 := by omega
          refine qround3 f 0 (b + 1) (Sub.cons rfl (Sub.cons rfl (Sub.cons rfl (Sub.cons rfl (Sub.cons rfl (Sub.cons rfl (Sub.cons rfl (Sub.cons (congrArg (fun z => some (Value.int .u64 z)) ((shr7 m').trans (by rw [hz]))) Sub.nil))))))))
            ⟨rfl, Nat.pow_pos (by decide), by omega, by decide, fun h => absurd h (by omega), fun _ => ?_⟩ (by omega)
          rw [hlen, uEncF_lt (by omega)]; simp
      · have h0 : m' = 0 := by have := of_decide_eq_false h; omega
        have hmx := hzero h0
        repeat first | refine ω1 ?_ | refine ω2 ?_ | refine ω3 ?_ | refine ω4 ?_ | refine ω5 ?_ | refine χ1 ?_ | refine κ1 ?_ | refine κ2 ?_ | refine χ2 ?_ | refine κ3 ?_ | refine ω6 ?_ | refine ω7 ?_ | refine κ4 ?_ | refine κ7 ?_ | refine κ8 ?_ | refine χ3 ?_ | refine χ4 ?_ | refine κ5 ?_ | refine κ6 ?_ | refine χ5 ?_ | refine χ6 ?_ | refine χ7 ?_ | refine ω8 ?_
        refine wkt 81 rfl (beq_t rfl) ?_
        repeat first | refine ω1 ?_ | refine ω2 ?_ | refine ω3 ?_ | refine ω4 ?_ | refine ω5 ?_ | refine χ1 ?_ | refine κ1 ?_ | refine κ2 ?_ | refine χ2 ?_ | refine κ3 ?_ | refine ω6 ?_ | refine ω7 ?_ | refine κ4 ?_ | refine κ7 ?_ | refine κ8 ?_ | refine χ3 ?_ | refine χ4 ?_ | refine κ5 ?_ | refine κ6 ?_ | refine χ5 ?_ | refine χ6 ?_ | refine χ7 ?_ | refine ω8 ?_
        refine wkt 90 rfl (beq_t (by rw [hcl]; omega)) ?_
        repeat first | refine ω1 ?_ | refine ω2 ?_ | refine ω3 ?_ | refine ω4 ?_ | refine ω5 ?_ | refine χ1 ?_ | refine κ1 ?_ | refine κ2 ?_ | refine χ2 ?_ | refine κ3 ?_ | refine ω6 ?_ | refine ω7 ?_ | refine κ4 ?_ | refine κ7 ?_ | refine κ8 ?_ | refine χ3 ?_ | refine χ4 ?_ | refine κ5 ?_ | refine κ6 ?_ | refine χ5 ?_ | refine χ6 ?_ | refine χ7 ?_ | refine ω8 ?_
        refine wkt 96 rfl (beq_t (by split <;> omega)) ?_
        repeat first | refine ω1 ?_ | refine ω2 ?_ | refine ω3 ?_ | refine ω4 ?_ | refine ω5 ?_ | refine χ1 ?_ | refine κ1 ?_ | refine κ2 ?_ | refine χ2 ?_ | refine κ3 ?_ | refine ω6 ?_ | refine ω7 ?_ | refine κ4 ?_ | refine κ7 ?_ | refine κ8 ?_ | refine χ3 ?_ | refine χ4 ?_ | refine κ5 ?_ | refine κ6 ?_ | refine χ5 ?_ | refine χ6 ?_ | refine χ7 ?_ | refine ω8 ?_
        refine cl (awake_any w8) ?_
        rintro r w9 ⟨rfl, hx9⟩
        repeat first | refine ω1 ?_ | refine ω2 ?_ | refine ω3 ?_ | refine ω4 ?_ | refine ω5 ?_ | refine χ1 ?_ | refine κ1 ?_ | refine κ2 ?_ | refine χ2 ?_ | refine κ3 ?_ | refine ω6 ?_ | refine ω7 ?_ | refine κ4 ?_ | refine κ7 ?_ | refine κ8 ?_ | refine χ3 ?_ | refine χ4 ?_ | refine κ5 ?_ | refine κ6 ?_ | refine χ5 ?_ | refine χ6 ?_ | refine χ7 ?_ | refine ω8 ?_
        exact fin1 ⟨rfl, (hx4.trans hx5).trans hx9⟩

theorem own : ownKnob Try.prog.godebug = none := by kernel_rfl
theorem laidOut : laidOutB Try.prog = true := by kernel_rfl
set_option maxRecDepth 100000 in
theorem lifted (os : Os) (started : os.Started) (H : Type) (enc : TypeId × Value → H) :
    ReturnsInHanded {} Try.checked os 4 .any (Rows.codecAppendsSpec.pre6 enc Try.prog Try.f4 Rows.codecAppendsRow.domain false) (Rows.codecAppendsSpec.post enc Try.prog Try.f4 false true false false) := by
  refine returnsInHanded_of_change (C := Try.checked) own started (by kernel_rfl) Try.func4
    (ChangeSpec.witness6 (enc := enc) (C := Try.checked) false ⟨#[], #[.slice none 0 0, .int .u64 0], []⟩ 8 (by kernel_rfl) (by kernel_rfl) (by kernel_rfl) (by kernel_rfl)) ?_
  intro W base args ds gs before hval0 hW hcnd _
  have hval : ∀ (j : Nat) t v, Try.f4.params[j]? = some t → args[j]? = some v → Value.okWide Try.prog W .any base t v := hval0
  have hW' := hW
  obtain ⟨p, q, hA0, hV, rfl, hfz, hnd⟩ := hW
  have hA : DataW.TrodAll enc Try.prog W 0 (fun _ => true) true Try.f4.params.toList args.toList ds p := hA0
  rw [Try.params4] at hA hval
  obtain ⟨v0, vs0, d0, ds0, p0, q0, hargs, rfl, rfl, h0, r0⟩ := trodAll_cons hA
  obtain ⟨v1, vs1, d1, ds1, p1, q1, rfl, rfl, rfl, h1, r1⟩ := trodAll_cons r0
  obtain ⟨rfl, rfl, rfl⟩ := trodAll_nil r1
  obtain rfl : args = #[v0, v1] := by cases args; simp_all
  obtain ⟨rfl, rfl⟩ := trodVars_none hV
  obtain ⟨a0, len0, cap0, rfl⟩ := okWide_slice Try.underlying22 (hval 0 22 v0 rfl rfl)
  have k0 := h0
  have lt0 : ∀ x ∈ p0, x.block < W.heap.size := by obtain ⟨m, hm⟩ := k0; exact DataW.trod_lt m _ _ _ hm
  obtain ⟨fuel0, hf0⟩ := h0
  obtain ⟨l0, rfl, hr0, hlc0, hcm0⟩ := open_bytes Try.underlying22 Try.underlying5 (by kernel_rfl) hf0
  obtain ⟨x1, rfl, rfl, rfl, wx1⟩ := open_int Try.underlying24 (hval 1 24 v1 rfl rfl) h1
  clear hA0 hval0
  refine (walk a0 l0 cap0 x1 W hr0 hlc0 hcm0 (bounds_u64 wx1)).calls.mono fun e W' ⟨v, he, hv, bel⟩ => ?_
  subst he; subst hv
  exact ⟨_, rfl, _, _, _, [], _, [], hW', trodAll_mk1 (shut_bool Try.underlying4 _), (trodAll_cons_mk (Below.trod laidOut (by kernel_rfl) (of_decide_eq_true (by kernel_rfl)) k0 bel lt0) (trodAll_cons_mk (shut_int Try.underlying24 wx1) trodAll_mk0)), rfl, bel.frame _, fun h => by cases h⟩
theorem over : Rows.codecAppendsRow.holds Try.pinned (OpenSpec.ofChange Rows.codecAppendsSpec) :=
  OpenClaim.holds_of_wide 4 Try.f4 rfl rfl rfl rfl rfl rfl rfl ⟨rfl, rfl, rfl, rfl, rfl⟩ rfl rfl rfl rfl rfl (by kernel_rfl) Try.func4 (by kernel_rfl)
    (of_decide_eq_true (by kernel_rfl)) (by unfold Func.isWrapper; first | (rw [if_pos (by decide +kernel)]; kernel_rfl) | (rw [if_neg (by decide +kernel)]; exact ⟨rfl, rfl⟩))
    (fun os started H enc _ => lifted os started H enc)
theorem proved : Rows.CodecAppendsSaid := over
#print axioms proved
end Go.Proofs.Ythjnmclnafbcdaa.codecAppends
