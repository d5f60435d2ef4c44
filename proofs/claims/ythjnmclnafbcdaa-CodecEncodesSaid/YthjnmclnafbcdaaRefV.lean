/- Contract of the reference's Value. -/
import Derived.Test.YthjnmclnafbcdaaRow
set_option linter.unusedVariables false
namespace Go.Proofs.Ythjnmclnafbcdaa
open Go.RowKit Pl Go.Wk
attribute [local irreducible] WC WL QX WD

theorem be_val2 (m k : Nat) (hk : k < 8) : IntKind.u8.wrap ((m : Int).fdiv (2 ^ min (IntKind.u64.wrap ((56 : Int) - 8 * (k : Int))).toNat IntKind.u64.bits)) = ((be m k).toNat : Int) := by
  rw [u64w (by omega)]; exact be_val m k hk
theorem sub_byte (c : UInt8) : IntKind.u8.wrap (255 - (c.toNat : Int)) = ((255 - c).toNat : Int) := by
  have h := c.toNat_lt
  have h4 : (255 - c).toNat = 255 - c.toNat := by
    rw [UInt8.toNat_sub_of_le]
    · rfl
    · rw [UInt8.le_iff_toNat_le]; exact Nat.le_of_lt_succ h
  rw [IntKind.wrap_u8', h4]; omega
set_option maxRecDepth 100000 in
set_option maxHeartbeats 1000000 in
theorem refValue_any (v : V) (hv : v.wf) (hs : v.str.size ≤ 1000) (dsc : Bool) (w : World) :
    Ret Try.prog 18 [v.val, .bool dsc] w fun r w' => OwnB w' w.heap.size r (v.enc dsc) ∧ Ext w w' := by
  refine enterR Try.func18 Try.ntmps18 rfl (by kernel_rfl) rfl ?_
  repeat first | refine ω1 ?_ | refine ω2 ?_ | refine ω3 ?_ | refine ω4 ?_ | refine ω5 ?_ | refine χ1 ?_ | refine κ1 ?_ | refine κ2 ?_ | refine χ2 ?_ | refine κ3 ?_ | refine ω6 ?_ | refine ω7 ?_ | refine ω9 ?_ | refine κ4 ?_ | refine κ7 ?_ | refine κ8 ?_ | refine χ3 ?_ | refine χ4 ?_ | refine κ5 ?_ | refine κ6 ?_ | refine χ5 ?_ | refine χ6 ?_ | refine χ7 ?_ | refine ω8 ?_
  refine bx ?_
  intro w1 b hx1 hb hk
  repeat first | refine ω1 ?_ | refine ω2 ?_ | refine ω3 ?_ | refine ω4 ?_ | refine ω5 ?_ | refine χ1 ?_ | refine κ1 ?_ | refine κ2 ?_ | refine χ2 ?_ | refine κ3 ?_ | refine ω6 ?_ | refine ω7 ?_ | refine ω9 ?_ | refine κ4 ?_ | refine κ7 ?_ | refine κ8 ?_ | refine χ3 ?_ | refine χ4 ?_ | refine κ5 ?_ | refine κ6 ?_ | refine χ5 ?_ | refine χ6 ?_ | refine χ7 ?_ | refine ω8 ?_
  refine ld (hk.at rfl) ?_
  repeat first | refine ω1 ?_ | refine ω2 ?_ | refine ω3 ?_ | refine ω4 ?_ | refine ω5 ?_ | refine χ1 ?_ | refine κ1 ?_ | refine κ2 ?_ | refine χ2 ?_ | refine κ3 ?_ | refine ω6 ?_ | refine ω7 ?_ | refine ω9 ?_ | refine κ4 ?_ | refine κ7 ?_ | refine κ8 ?_ | refine χ3 ?_ | refine χ4 ?_ | refine κ5 ?_ | refine κ6 ?_ | refine χ5 ?_ | refine χ6 ?_ | refine χ7 ?_ | refine ω8 ?_
  refine wjoin1 (fun v7 => [(1, .bool dsc), (5, v7)]) (fun v7 w' => OwnB w' w.heap.size v7 v.raw ∧ Ext w w') ?_ ?_
  · refine ci (fun h => ?_) (fun h => ?_)
    · have h1 : v.kind = 1 := of_beq_t h
      repeat first | refine ω1 ?_ | refine ω2 ?_ | refine ω3 ?_ | refine ω4 ?_ | refine ω5 ?_ | refine χ1 ?_ | refine κ1 ?_ | refine κ2 ?_ | refine χ2 ?_ | refine κ3 ?_ | refine ω6 ?_ | refine ω7 ?_ | refine ω9 ?_ | refine κ4 ?_ | refine κ7 ?_ | refine κ8 ?_ | refine χ3 ?_ | refine χ4 ?_ | refine κ5 ?_ | refine κ6 ?_ | refine χ5 ?_ | refine χ6 ?_ | refine χ7 ?_ | refine ω8 ?_
      refine wapp1 hx1 E8 (bs1 1) rfl (fun b => rfl) (.inl (own_nil _ _ _ _)) rfl (one_int _ _) (by decide) (by decide) rfl rfl ?_
      intro v2 w2 b2 ho2 hx2 hg2 _
      have hk2 := hk.grown hg2 (by simp [Value.ownBlock])
      repeat first | refine ω1 ?_ | refine ω2 ?_ | refine ω3 ?_ | refine ω4 ?_ | refine ω5 ?_ | refine χ1 ?_ | refine κ1 ?_ | refine κ2 ?_ | refine χ2 ?_ | refine κ3 ?_ | refine ω6 ?_ | refine ω7 ?_ | refine ω9 ?_ | refine κ4 ?_ | refine κ7 ?_ | refine κ8 ?_ | refine χ3 ?_ | refine χ4 ?_ | refine κ5 ?_ | refine κ6 ?_ | refine χ5 ?_ | refine χ6 ?_ | refine χ7 ?_ | refine ω8 ?_
      refine ld (hk2.at rfl) ?_
      repeat first | refine ω1 ?_ | refine ω2 ?_ | refine ω3 ?_ | refine ω4 ?_ | refine ω5 ?_ | refine χ1 ?_ | refine κ1 ?_ | refine κ2 ?_ | refine χ2 ?_ | refine κ3 ?_ | refine ω6 ?_ | refine ω7 ?_ | refine ω9 ?_ | refine κ4 ?_ | refine κ7 ?_ | refine κ8 ?_ | refine χ3 ?_ | refine χ4 ?_ | refine κ5 ?_ | refine κ6 ?_ | refine χ5 ?_ | refine χ6 ?_ | refine χ7 ?_ | refine ω8 ?_
      refine wloop2 (fun k v7 => [(1, .bool dsc), (5, v7), (6, .int .u64 (v.m : Int)), (7, .int .i64 (56 - 8 * ((k : Nat) : Int)))])
        (fun k v7 w' => k ≤ 8 ∧ OwnB w' w.heap.size v7 (1 :: (be8 v.m).take k) ∧ Ext w w') (fun k _ => 8 - k) 0 v2
        (Sub.cons rfl (Sub.cons rfl (Sub.cons (congrArg (fun z => some (Value.int .u64 z)) (xor_top hv.1 hv.2.1)) (by repeat' (first | exact Sub.nil | refine Sub.cons rfl ?_))))) ⟨by omega, OwnB.snoc (l := []) (c := 1) rfl ho2, hx2⟩ ?_
      rintro k v7 w7 ⟨hk8, ho7, hx7⟩
      repeat first | refine ω1 ?_ | refine ω2 ?_ | refine ω3 ?_ | refine ω4 ?_ | refine ω5 ?_ | refine χ1 ?_ | refine κ1 ?_ | refine κ2 ?_ | refine χ2 ?_ | refine κ3 ?_ | refine ω6 ?_ | refine ω7 ?_ | refine ω9 ?_ | refine κ4 ?_ | refine κ7 ?_ | refine κ8 ?_ | refine χ3 ?_ | refine χ4 ?_ | refine κ5 ?_ | refine κ6 ?_ | refine χ5 ?_ | refine χ6 ?_ | refine χ7 ?_ | refine ω8 ?_
      refine ci (fun h => ?_) (fun h => ?_)
      · have hlt : k < 8 := by have := of_decide_eq_true h; omega
        repeat first | refine ω1 ?_ | refine ω2 ?_ | refine ω3 ?_ | refine ω4 ?_ | refine ω5 ?_ | refine χ1 ?_ | refine κ1 ?_ | refine κ2 ?_ | refine χ2 ?_ | refine κ3 ?_ | refine ω6 ?_ | refine ω7 ?_ | refine ω9 ?_ | refine κ4 ?_ | refine κ7 ?_ | refine κ8 ?_ | refine χ3 ?_ | refine χ4 ?_ | refine κ5 ?_ | refine κ6 ?_ | refine χ5 ?_ | refine χ6 ?_ | refine χ7 ?_ | refine ω8 ?_
        refine wshr rfl rfl (by rw [u64w (by omega)]; omega) rfl ?_
        repeat first | refine ω1 ?_ | refine ω2 ?_ | refine ω3 ?_ | refine ω4 ?_ | refine ω5 ?_ | refine χ1 ?_ | refine κ1 ?_ | refine κ2 ?_ | refine χ2 ?_ | refine κ3 ?_ | refine ω6 ?_ | refine ω7 ?_ | refine ω9 ?_ | refine κ4 ?_ | refine κ7 ?_ | refine κ8 ?_ | refine χ3 ?_ | refine χ4 ?_ | refine κ5 ?_ | refine κ6 ?_ | refine χ5 ?_ | refine χ6 ?_ | refine χ7 ?_ | refine ω8 ?_
        refine wapp1 hx7 E8 (bs1 _) rfl (fun b => rfl) (.inl ho7) rfl (one_int _ _) (by simp [be8, maxLen]; omega) (by simp [be8]; omega) rfl rfl ?_
        intro v3 w3 b3 ho3 hx3 hg3 _
        repeat first | refine ω1 ?_ | refine ω2 ?_ | refine ω3 ?_ | refine ω4 ?_ | refine ω5 ?_ | refine χ1 ?_ | refine κ1 ?_ | refine κ2 ?_ | refine χ2 ?_ | refine κ3 ?_ | refine ω6 ?_ | refine ω7 ?_ | refine ω9 ?_ | refine κ4 ?_ | refine κ7 ?_ | refine κ8 ?_ | refine χ3 ?_ | refine χ4 ?_ | refine κ5 ?_ | refine κ6 ?_ | refine χ5 ?_ | refine χ6 ?_ | refine χ7 ?_ | refine ω8 ?_
        refine qround2 (k + 1) v3 (Sub.cons rfl (Sub.cons rfl (Sub.cons rfl (Sub.cons (congrArg (fun z => some (Value.int .i64 z)) (by omega)) Sub.nil)))) ⟨by omega, ?_, hx3⟩ (by omega)
        have := OwnB.snoc (be_val2 v.m k hlt) ho3
        rw [be8_snoc _ _ hlt]
        simpa using this
      · have hge : k = 8 := by have := of_decide_eq_false h; omega
        subst hge
        repeat first | refine ω1 ?_ | refine ω2 ?_ | refine ω3 ?_ | refine ω4 ?_ | refine ω5 ?_ | refine χ1 ?_ | refine κ1 ?_ | refine κ2 ?_ | refine χ2 ?_ | refine κ3 ?_ | refine ω6 ?_ | refine ω7 ?_ | refine ω9 ?_ | refine κ4 ?_ | refine κ7 ?_ | refine κ8 ?_ | refine χ3 ?_ | refine χ4 ?_ | refine κ5 ?_ | refine κ6 ?_ | refine χ5 ?_ | refine χ6 ?_ | refine χ7 ?_ | refine ω8 ?_
        refine qjoin1 v7 (by repeat' (first | exact Sub.nil | refine Sub.cons rfl ?_)) ⟨?_, hx7⟩
        have e : (be8 v.m).take 8 = be8 v.m := List.take_of_length_le (by simp [be8])
        rw [e] at ho7
        rw [V.raw, if_pos h1]; exact ho7
    · have h1 : v.kind ≠ 1 := of_beq_f h
      repeat first | refine ω1 ?_ | refine ω2 ?_ | refine ω3 ?_ | refine ω4 ?_ | refine ω5 ?_ | refine χ1 ?_ | refine κ1 ?_ | refine κ2 ?_ | refine χ2 ?_ | refine κ3 ?_ | refine ω6 ?_ | refine ω7 ?_ | refine ω9 ?_ | refine κ4 ?_ | refine κ7 ?_ | refine κ8 ?_ | refine χ3 ?_ | refine χ4 ?_ | refine κ5 ?_ | refine κ6 ?_ | refine χ5 ?_ | refine χ6 ?_ | refine χ7 ?_ | refine ω8 ?_
      refine wapp1 hx1 E8 (bs1 2) rfl (fun b => rfl) (.inl (own_nil _ _ _ _)) rfl (one_int _ _) (by decide) (by decide) rfl rfl ?_
      intro v2 w2 b2 ho2 hx2 hg2 _
      have hk2 := hk.grown hg2 (by simp [Value.ownBlock])
      repeat first | refine ω1 ?_ | refine ω2 ?_ | refine ω3 ?_ | refine ω4 ?_ | refine ω5 ?_ | refine χ1 ?_ | refine κ1 ?_ | refine κ2 ?_ | refine χ2 ?_ | refine κ3 ?_ | refine ω6 ?_ | refine ω7 ?_ | refine ω9 ?_ | refine κ4 ?_ | refine κ7 ?_ | refine κ8 ?_ | refine χ3 ?_ | refine χ4 ?_ | refine κ5 ?_ | refine κ6 ?_ | refine χ5 ?_ | refine χ6 ?_ | refine χ7 ?_ | refine ω8 ?_
      refine wloop2 (fun k v7 => [(1, .bool dsc), (2, .pointer (some ⟨b, 0, none⟩)), (5, v7), (8, .int .i64 ((k : Nat) : Int))])
        (fun k v7 w' => k ≤ v.str.size ∧ OwnB w' w.heap.size v7 (2 :: esc (v.bytes.take k)) ∧ Ext w w' ∧ Blk w' b 42 v.cells) (fun k _ => v.str.size - k) 0 v2
        (by repeat' (first | exact Sub.nil | refine Sub.cons rfl ?_)) ⟨by omega, OwnB.snoc (l := []) (c := 2) rfl ho2, hx2, hk2⟩ ?_
      rintro k v7 w7 ⟨hks, ho7, hx7, hb7⟩
      repeat first | refine ω1 ?_ | refine ω2 ?_ | refine ω3 ?_ | refine ω4 ?_ | refine ω5 ?_ | refine χ1 ?_ | refine κ1 ?_ | refine κ2 ?_ | refine χ2 ?_ | refine κ3 ?_ | refine ω6 ?_ | refine ω7 ?_ | refine ω9 ?_ | refine κ4 ?_ | refine κ7 ?_ | refine κ8 ?_ | refine χ3 ?_ | refine χ4 ?_ | refine κ5 ?_ | refine κ6 ?_ | refine χ5 ?_ | refine χ6 ?_ | refine χ7 ?_ | refine ω8 ?_
      refine ld (hb7.at rfl) ?_
      repeat first | refine ω1 ?_ | refine ω2 ?_ | refine ω3 ?_ | refine ω4 ?_ | refine ω5 ?_ | refine χ1 ?_ | refine κ1 ?_ | refine κ2 ?_ | refine χ2 ?_ | refine κ3 ?_ | refine ω6 ?_ | refine ω7 ?_ | refine ω9 ?_ | refine κ4 ?_ | refine κ7 ?_ | refine κ8 ?_ | refine χ3 ?_ | refine χ4 ?_ | refine κ5 ?_ | refine κ6 ?_ | refine χ5 ?_ | refine χ6 ?_ | refine χ7 ?_ | refine ω8 ?_
      refine ci (fun h => ?_) (fun h => ?_)
      · have hlt : k < v.str.size := by have := of_decide_eq_true h; omega
        have hel := esc_len (v.bytes.take k)
        have htl : (v.bytes.take k).length ≤ k := List.length_take_le _ _
        repeat first | refine ω1 ?_ | refine ω2 ?_ | refine ω3 ?_ | refine ω4 ?_ | refine ω5 ?_ | refine χ1 ?_ | refine κ1 ?_ | refine κ2 ?_ | refine χ2 ?_ | refine κ3 ?_ | refine ω6 ?_ | refine ω7 ?_ | refine ω9 ?_ | refine κ4 ?_ | refine κ7 ?_ | refine κ8 ?_ | refine χ3 ?_ | refine χ4 ?_ | refine κ5 ?_ | refine κ6 ?_ | refine χ5 ?_ | refine χ6 ?_ | refine χ7 ?_ | refine ω8 ?_
        refine ld (hb7.at rfl) ?_
        repeat first | refine ω1 ?_ | refine ω2 ?_ | refine ω3 ?_ | refine ω4 ?_ | refine ω5 ?_ | refine χ1 ?_ | refine κ1 ?_ | refine κ2 ?_ | refine χ2 ?_ | refine κ3 ?_ | refine ω6 ?_ | refine ω7 ?_ | refine ω9 ?_ | refine κ4 ?_ | refine κ7 ?_ | refine κ8 ?_ | refine χ3 ?_ | refine χ4 ?_ | refine κ5 ?_ | refine κ6 ?_ | refine χ5 ?_ | refine χ6 ?_ | refine χ7 ?_ | refine ω8 ?_
        refine wsindex tt_ok k rfl rfl rfl rfl rfl hlt rfl ?_
        refine wapp1 hx7 E8 (bs1 _) rfl (fun b => rfl) (.inl ho7) rfl (one_int _ _) (by simp [maxLen]; omega) (by simp; omega) rfl rfl ?_
        intro v3 w3 b3 ho3 hx3 hg3 hob3
        have hb3 := hb7.grown hg3 (hb7.ne_own ho7 rfl)
        have hk' : k < v.bytes.length := by rw [bytes_len]; exact hlt
        have hsn := esc_snoc v.bytes k hk'
        repeat first | refine ω1 ?_ | refine ω2 ?_ | refine ω3 ?_ | refine ω4 ?_ | refine ω5 ?_ | refine χ1 ?_ | refine κ1 ?_ | refine κ2 ?_ | refine χ2 ?_ | refine κ3 ?_ | refine ω6 ?_ | refine ω7 ?_ | refine ω9 ?_ | refine κ4 ?_ | refine κ7 ?_ | refine κ8 ?_ | refine χ3 ?_ | refine χ4 ?_ | refine κ5 ?_ | refine κ6 ?_ | refine χ5 ?_ | refine χ6 ?_ | refine χ7 ?_ | refine ω8 ?_
        refine ld (hb3.at rfl) ?_
        repeat first | refine ω1 ?_ | refine ω2 ?_ | refine ω3 ?_ | refine ω4 ?_ | refine ω5 ?_ | refine χ1 ?_ | refine κ1 ?_ | refine κ2 ?_ | refine χ2 ?_ | refine κ3 ?_ | refine ω6 ?_ | refine ω7 ?_ | refine ω9 ?_ | refine κ4 ?_ | refine κ7 ?_ | refine κ8 ?_ | refine χ3 ?_ | refine χ4 ?_ | refine κ5 ?_ | refine κ6 ?_ | refine χ5 ?_ | refine χ6 ?_ | refine χ7 ?_ | refine ω8 ?_
        refine wsindex tt_ok k rfl rfl rfl rfl rfl hlt rfl ?_
        repeat first | refine ω1 ?_ | refine ω2 ?_ | refine ω3 ?_ | refine ω4 ?_ | refine ω5 ?_ | refine χ1 ?_ | refine κ1 ?_ | refine κ2 ?_ | refine χ2 ?_ | refine κ3 ?_ | refine ω6 ?_ | refine ω7 ?_ | refine ω9 ?_ | refine κ4 ?_ | refine κ7 ?_ | refine κ8 ?_ | refine χ3 ?_ | refine χ4 ?_ | refine κ5 ?_ | refine κ6 ?_ | refine χ5 ?_ | refine χ6 ?_ | refine χ7 ?_ | refine ω8 ?_
        refine ci (fun h => ?_) (fun h => ?_)
        · have hz : v.bytes.getD k 0 = 0 := by
            have := of_beq_t h
            have h2 : (v.bytes.getD k 0).toNat = 0 := by unfold V.bytes; omega
            exact UInt8.toNat_inj.1 h2
          rw [if_pos hz] at hsn
          have ho3' := OwnB.snoc (c := 0) (by have := of_beq_t h; rw [this]; rfl) ho3
          repeat first | refine ω1 ?_ | refine ω2 ?_ | refine ω3 ?_ | refine ω4 ?_ | refine ω5 ?_ | refine χ1 ?_ | refine κ1 ?_ | refine κ2 ?_ | refine χ2 ?_ | refine κ3 ?_ | refine ω6 ?_ | refine ω7 ?_ | refine ω9 ?_ | refine κ4 ?_ | refine κ7 ?_ | refine κ8 ?_ | refine χ3 ?_ | refine χ4 ?_ | refine κ5 ?_ | refine κ6 ?_ | refine χ5 ?_ | refine χ6 ?_ | refine χ7 ?_ | refine ω8 ?_
          refine wapp1 hx3 E8 (bs1 _) rfl (fun b => rfl) (.inl ho3') rfl (one_int _ _) (by simp [maxLen]; omega) (by simp; omega) rfl rfl ?_
          intro v4 w4 b4 ho4 hx4 hg4 _
          have hb4 := hb3.grown hg4 (hb3.ne_own ho3' rfl)
          repeat first | refine ω1 ?_ | refine ω2 ?_ | refine ω3 ?_ | refine ω4 ?_ | refine ω5 ?_ | refine χ1 ?_ | refine κ1 ?_ | refine κ2 ?_ | refine χ2 ?_ | refine κ3 ?_ | refine ω6 ?_ | refine ω7 ?_ | refine ω9 ?_ | refine κ4 ?_ | refine κ7 ?_ | refine κ8 ?_ | refine χ3 ?_ | refine χ4 ?_ | refine κ5 ?_ | refine κ6 ?_ | refine χ5 ?_ | refine χ6 ?_ | refine χ7 ?_ | refine ω8 ?_
          refine qround2 (k + 1) v4 (by repeat' (first | exact Sub.nil | refine Sub.cons rfl ?_)) ⟨by omega, ?_, hx4, hb4⟩ (by omega)
          have := OwnB.snoc (c := 255) rfl ho4
          rw [hsn]
          simpa using this
        · have hz : ¬ v.bytes.getD k 0 = 0 := by
            have := of_beq_f h
            intro h0
            apply this
            unfold V.bytes at h0
            rw [h0]; rfl
          rw [if_neg hz] at hsn
          repeat first | refine ω1 ?_ | refine ω2 ?_ | refine ω3 ?_ | refine ω4 ?_ | refine ω5 ?_ | refine χ1 ?_ | refine κ1 ?_ | refine κ2 ?_ | refine χ2 ?_ | refine κ3 ?_ | refine ω6 ?_ | refine ω7 ?_ | refine ω9 ?_ | refine κ4 ?_ | refine κ7 ?_ | refine κ8 ?_ | refine χ3 ?_ | refine χ4 ?_ | refine κ5 ?_ | refine κ6 ?_ | refine χ5 ?_ | refine χ6 ?_ | refine χ7 ?_ | refine ω8 ?_
          refine qround2 (k + 1) v3 (by repeat' (first | exact Sub.nil | refine Sub.cons rfl ?_)) ⟨by omega, ?_, hx3, hb3⟩ (by omega)
          have := OwnB.snoc (c := v.bytes.getD k 0) rfl ho3
          rw [hsn]
          simpa using this
      · have hge : k = v.str.size := by have := of_decide_eq_false h; omega
        subst hge
        have hel := esc_len v.bytes
        have hbl := bytes_len v
        have e : v.bytes.take v.str.size = v.bytes := List.take_of_length_le (by omega)
        rw [e] at ho7
        repeat first | refine ω1 ?_ | refine ω2 ?_ | refine ω3 ?_ | refine ω4 ?_ | refine ω5 ?_ | refine χ1 ?_ | refine κ1 ?_ | refine κ2 ?_ | refine χ2 ?_ | refine κ3 ?_ | refine ω6 ?_ | refine ω7 ?_ | refine ω9 ?_ | refine κ4 ?_ | refine κ7 ?_ | refine κ8 ?_ | refine χ3 ?_ | refine χ4 ?_ | refine κ5 ?_ | refine κ6 ?_ | refine χ5 ?_ | refine χ6 ?_ | refine χ7 ?_ | refine ω8 ?_
        refine bsl (bs2 0 0) ?_
        intro w8 b8 hx8 hb8 hk8
        refine apo (m' := 2) (hx7.trans hx8) E8 (own_ext ho7 hx8) (hk8.rd (by simp)) (two_int _ _ _) (by simp [maxLen]; omega) (by simp; omega) ?_
        intro v9 w9 ho9 hx9 _ _
        repeat first | refine ω1 ?_ | refine ω2 ?_ | refine ω3 ?_ | refine ω4 ?_ | refine ω5 ?_ | refine χ1 ?_ | refine κ1 ?_ | refine κ2 ?_ | refine χ2 ?_ | refine κ3 ?_ | refine ω6 ?_ | refine ω7 ?_ | refine ω9 ?_ | refine κ4 ?_ | refine κ7 ?_ | refine κ8 ?_ | refine χ3 ?_ | refine χ4 ?_ | refine κ5 ?_ | refine κ6 ?_ | refine χ5 ?_ | refine χ6 ?_ | refine χ7 ?_ | refine ω8 ?_
        refine qjoin1 v9 (by repeat' (first | exact Sub.nil | refine Sub.cons rfl ?_)) ⟨?_, hx9⟩
        have e2 : v.raw = (2 :: esc v.bytes) ++ [0, 0] := by rw [V.raw, if_neg h1]; rfl
        rw [OwnB, e2, Bc_app, List.length_append]
        exact ho9
  · rintro v7 w7 ⟨ho7, hx7⟩
    repeat first | refine ω1 ?_ | refine ω2 ?_ | refine ω3 ?_ | refine ω4 ?_ | refine ω5 ?_ | refine χ1 ?_ | refine κ1 ?_ | refine κ2 ?_ | refine χ2 ?_ | refine κ3 ?_ | refine ω6 ?_ | refine ω7 ?_ | refine ω9 ?_ | refine κ4 ?_ | refine κ7 ?_ | refine κ8 ?_ | refine χ3 ?_ | refine χ4 ?_ | refine κ5 ?_ | refine κ6 ?_ | refine χ5 ?_ | refine χ6 ?_ | refine χ7 ?_ | refine ω8 ?_
    have hrl : v.raw.length ≤ 2003 := by
      have := esc_len v.bytes
      have h2 := bytes_len v
      unfold V.raw
      split
      · simp [be8]
      · simp; omega
    refine ci (fun h => ?_) (fun h => ?_)
    · subst h
      repeat first | refine ω1 ?_ | refine ω2 ?_ | refine ω3 ?_ | refine ω4 ?_ | refine ω5 ?_ | refine χ1 ?_ | refine κ1 ?_ | refine κ2 ?_ | refine χ2 ?_ | refine κ3 ?_ | refine ω6 ?_ | refine ω7 ?_ | refine ω9 ?_ | refine κ4 ?_ | refine κ7 ?_ | refine κ8 ?_ | refine χ3 ?_ | refine χ4 ?_ | refine κ5 ?_ | refine κ6 ?_ | refine χ5 ?_ | refine χ6 ?_ | refine χ7 ?_ | refine ω8 ?_
      obtain ⟨A, c, rfl, hc, _⟩ := own_form ho7
      refine wloop1 (fun k => [(5, .slice A v.raw.length c), (9, .int .i64 ((k : Nat) : Int))])
        (fun k w' => k ≤ v.raw.length ∧ w'.ownsRow w.heap.size 5 1 (.slice A v.raw.length c) v.raw.length (Bc (flipTo k v.raw)) ∧ Ext w w') (fun k => v.raw.length - k) 0
        (by repeat' (first | exact Sub.nil | refine Sub.cons rfl ?_)) ⟨by omega, ho7, hx7⟩ ?_
      rintro k w8 ⟨hk8, ho8, hx8⟩
      repeat first | refine ω1 ?_ | refine ω2 ?_ | refine ω3 ?_ | refine ω4 ?_ | refine ω5 ?_ | refine χ1 ?_ | refine κ1 ?_ | refine κ2 ?_ | refine χ2 ?_ | refine κ3 ?_ | refine ω6 ?_ | refine ω7 ?_ | refine ω9 ?_ | refine κ4 ?_ | refine κ7 ?_ | refine κ8 ?_ | refine χ3 ?_ | refine χ4 ?_ | refine κ5 ?_ | refine κ6 ?_ | refine χ5 ?_ | refine χ6 ?_ | refine χ7 ?_ | refine ω8 ?_
      refine ci (fun h => ?_) (fun h => ?_)
      · have hlt : k < v.raw.length := by have := of_decide_eq_true h; omega
        obtain ⟨s1, s2, s3, s4, s5⟩ := own_store ho8 (q := k) (by omega) (.int .u8 ((255 - v.raw.getD k 0).toNat : Int))
        have hcell : w8.cell? (adr A k) = some (.int .u8 ((v.raw.getD k 0).toNat : Int)) := by
          rw [s1, Bc_get (by rw [flipTo_len]; exact hlt), flipTo_get hlt]
        have hr := Rd.own ho8
        repeat first | refine ω1 ?_ | refine ω2 ?_ | refine ω3 ?_ | refine ω4 ?_ | refine ω5 ?_ | refine χ1 ?_ | refine κ1 ?_ | refine κ2 ?_ | refine χ2 ?_ | refine κ3 ?_ | refine ω6 ?_ | refine ω7 ?_ | refine ω9 ?_ | refine κ4 ?_ | refine κ7 ?_ | refine κ8 ?_ | refine χ3 ?_ | refine χ4 ?_ | refine κ5 ?_ | refine κ6 ?_ | refine χ5 ?_ | refine χ6 ?_ | refine χ7 ?_ | refine ω8 ?_
        refine ix k hr hlt ?_
        refine ld hcell ?_
        repeat first | refine ω1 ?_ | refine ω2 ?_ | refine ω3 ?_ | refine ω4 ?_ | refine ω5 ?_ | refine χ1 ?_ | refine κ1 ?_ | refine κ2 ?_ | refine χ2 ?_ | refine κ3 ?_ | refine ω6 ?_ | refine ω7 ?_ | refine ω9 ?_ | refine κ4 ?_ | refine κ7 ?_ | refine κ8 ?_ | refine χ3 ?_ | refine χ4 ?_ | refine κ5 ?_ | refine κ6 ?_ | refine χ5 ?_ | refine χ6 ?_ | refine χ7 ?_ | refine ω8 ?_
        refine wknow 73 (.int .u8 ((255 - v.raw.getD k 0).toNat : Int)) rfl (congrArg (Value.int .u8) (sub_byte _)) ?_
        refine ix k hr hlt ?_
        refine sto hcell s2 ?_
        repeat first | refine ω1 ?_ | refine ω2 ?_ | refine ω3 ?_ | refine ω4 ?_ | refine ω5 ?_ | refine χ1 ?_ | refine κ1 ?_ | refine κ2 ?_ | refine χ2 ?_ | refine κ3 ?_ | refine ω6 ?_ | refine ω7 ?_ | refine ω9 ?_ | refine κ4 ?_ | refine κ7 ?_ | refine κ8 ?_ | refine χ3 ?_ | refine χ4 ?_ | refine κ5 ?_ | refine κ6 ?_ | refine χ5 ?_ | refine χ6 ?_ | refine χ7 ?_ | refine ω8 ?_
        refine qround1 (k + 1) (by repeat' (first | exact Sub.nil | refine Sub.cons rfl ?_)) ⟨by omega, ?_, hx8.setCell s4 _⟩ (by omega)
        rw [flipTo_set hlt] at s3
        exact s3
      · have hge : k = v.raw.length := by have := of_decide_eq_false h; omega
        subst hge
        rw [flipTo_end] at ho8
        repeat first | refine ω1 ?_ | refine ω2 ?_ | refine ω3 ?_ | refine ω4 ?_ | refine ω5 ?_ | refine χ1 ?_ | refine κ1 ?_ | refine κ2 ?_ | refine χ2 ?_ | refine κ3 ?_ | refine ω6 ?_ | refine ω7 ?_ | refine ω9 ?_ | refine κ4 ?_ | refine κ7 ?_ | refine κ8 ?_ | refine χ3 ?_ | refine χ4 ?_ | refine κ5 ?_ | refine κ6 ?_ | refine χ5 ?_ | refine χ6 ?_ | refine χ7 ?_ | refine ω8 ?_
        refine fin1 ⟨?_, hx8⟩
        rw [OwnB, V.enc, flp_len]
        exact ho8
    · subst h
      repeat first | refine ω1 ?_ | refine ω2 ?_ | refine ω3 ?_ | refine ω4 ?_ | refine ω5 ?_ | refine χ1 ?_ | refine κ1 ?_ | refine κ2 ?_ | refine χ2 ?_ | refine κ3 ?_ | refine ω6 ?_ | refine ω7 ?_ | refine ω9 ?_ | refine κ4 ?_ | refine κ7 ?_ | refine κ8 ?_ | refine χ3 ?_ | refine χ4 ?_ | refine κ5 ?_ | refine κ6 ?_ | refine χ5 ?_ | refine χ6 ?_ | refine χ7 ?_ | refine ω8 ?_
      refine fin1 ⟨?_, hx7⟩
      exact ho7
end Go.Proofs.Ythjnmclnafbcdaa
