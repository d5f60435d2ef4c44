/- The walk of the law DifferenceOrders. -/
import Derived.Test.YtpahjnfolbnloaaLst
set_option linter.unusedVariables false
namespace Go.Proofs.Ytpahjnfolbnloaa
open Go.RowKit Pl Go.Wk
attribute [local irreducible] WC WL QX WD WDB WP WG
/-- a slice of a slice, ahead of all that touches memory -/
theorem psli {P : Program} {n : Nat} {al : AL} {w : World} {Q : Exit → Act → World → Prop} {ops : Array Oper} {s : List (Nat × Oper)} {rest : List Oper} {d ty : Nat} {pos : String} {aft : Array Edge} {tt : TT} (hT : TOk P tt) {x : Operand} {lo hi mx : Option Operand} {t e sz : Nat} {k : TK} {A : Option Addr} {m c : Nat} (l h q : Nat)
    (ht : tk tt t = some k) (hk : k.desc = .slice e) (hz : k.esz = sz) (hx : ev al x = some (.slice A m c)) (hl : Bnd al lo 0 l) (hh : Bnd al hi m h) (hq : Bnd al mx c q) (hm : mx = none ∨ hi ≠ none) (h1 : l ≤ h) (h2 : h ≤ q) (h3 : q ≤ c) (hd : Nat.blt d n = true)
    (kk : WP P n ops Q s rest ((d, .slice (if q = l then A else A.map (·.add (l * sz))) (h - l) (q - l)) :: al) w) : WP P n ops Q s (⟨some d, .slice t x lo hi mx, ty, pos, aft, none⟩ :: rest) al w := by
  obtain ⟨hu, hs⟩ := tk_slice hT ht hk hz
  exact py (fun w' a ha => run_sliceOp (w := w') ha hu hs hx hl hh hq hm h1 h2 h3) hd kk
theorem Lt.nodup {ds : List Bool} {A : List Row} (h : Lt ds A) : A.Nodup := by
  unfold Lt at h
  exact h.imp (fun hab e => by subst e; exact lt_irr _ _ hab)
theorem bldCnt (x y z u : Value) (A B : Option Addr) (n c m e b : Nat) (hx : x = .slice A n c) (hy : y = .slice (some ⟨b, 0, none⟩) 2 2) (hz : z = .slice none 0 0) (hu : u = .slice B m e) (w : World) : (Instr.build 78 #[(0, .agg #[x, y, z]), (1, u)]).run Try.prog w = .ok (.agg #[x, y, z, u]) w := by subst hx; subst hy; subst hz; subst hu; kernel_rfl
set_option maxRecDepth 100000 in
set_option maxHeartbeats 2000000 in
theorem differenceOrders_any {v : Value} {a b : List (UInt8 × UInt8)} {t : Int} {w : World} (hS : SetsG w v a b) (ht : 0 ≤ t ∧ t ≤ 255) :
    Ret Try.prog 8 [v, .int .u8 t] w fun x w' => x = .bool true ∧ Ext w w' := by
  obtain ⟨xa, xb, rfl, hPa, hPb⟩ := id hS
  obtain ⟨Aa, ca, rfl, _⟩ := id hPa
  obtain ⟨Ab, cb, rfl, _⟩ := id hPb
  refine enterR Try.func8 Try.ntmps8 rfl (by kernel_rfl) rfl ?_
  repeat first | refine ω1 ?_ | refine ω2 ?_ | refine ω3 ?_ | refine ω4 ?_ | refine ω5 ?_ | refine χ1 ?_ | refine κ1 ?_ | refine κ2 ?_ | refine χ2 ?_ | refine κ3 ?_ | refine ω6 ?_ | refine ω7 ?_ | refine ω9 ?_ | refine κ4 ?_ | refine κ7 ?_ | refine κ8 ?_ | refine χ3 ?_ | refine χ4 ?_ | refine κ5 ?_ | refine κ6 ?_ | refine χ5 ?_ | refine χ6 ?_ | refine χ7 ?_ | refine ω8 ?_
  refine bx ?_
  intro w1 b1 hx1 hb1 hk1
  repeat first | refine ω1 ?_ | refine ω2 ?_ | refine ω3 ?_ | refine ω4 ?_ | refine ω5 ?_ | refine χ1 ?_ | refine κ1 ?_ | refine κ2 ?_ | refine χ2 ?_ | refine κ3 ?_ | refine ω6 ?_ | refine ω7 ?_ | refine ω9 ?_ | refine κ4 ?_ | refine κ7 ?_ | refine κ8 ?_ | refine χ3 ?_ | refine χ4 ?_ | refine κ5 ?_ | refine κ6 ?_ | refine χ5 ?_ | refine χ6 ?_ | refine χ7 ?_ | refine ω8 ?_
  refine lds (fun j u hu => hk1.at hu) ?_
  repeat first | refine ω1 ?_ | refine ω2 ?_ | refine ω3 ?_ | refine ω4 ?_ | refine ω5 ?_ | refine χ1 ?_ | refine κ1 ?_ | refine κ2 ?_ | refine χ2 ?_ | refine κ3 ?_ | refine ω6 ?_ | refine ω7 ?_ | refine ω9 ?_ | refine κ4 ?_ | refine κ7 ?_ | refine κ8 ?_ | refine χ3 ?_ | refine χ4 ?_ | refine κ5 ?_ | refine κ6 ?_ | refine χ5 ?_ | refine χ6 ?_ | refine χ7 ?_ | refine ω8 ?_
  refine cl (great47_any (hS.ext hx1) (BlsG.nil _)) ?_
  rintro _ w3 ⟨rfl, hx3⟩
  have hx03 := hx1.trans hx3
  repeat first | refine ω1 ?_ | refine ω2 ?_ | refine ω3 ?_ | refine ω4 ?_ | refine ω5 ?_ | refine χ1 ?_ | refine κ1 ?_ | refine κ2 ?_ | refine χ2 ?_ | refine κ3 ?_ | refine ω6 ?_ | refine ω7 ?_ | refine ω9 ?_ | refine κ4 ?_ | refine κ7 ?_ | refine κ8 ?_ | refine χ3 ?_ | refine χ4 ?_ | refine κ5 ?_ | refine κ6 ?_ | refine χ5 ?_ | refine χ6 ?_ | refine χ7 ?_ | refine ω8 ?_
  refine ci (fun hg => ?_) (fun hg => ?_)
  · repeat first | refine ω1 ?_ | refine ω2 ?_ | refine ω3 ?_ | refine ω4 ?_ | refine ω5 ?_ | refine χ1 ?_ | refine κ1 ?_ | refine κ2 ?_ | refine χ2 ?_ | refine κ3 ?_ | refine ω6 ?_ | refine ω7 ?_ | refine ω9 ?_ | refine κ4 ?_ | refine κ7 ?_ | refine κ8 ?_ | refine χ3 ?_ | refine χ4 ?_ | refine κ5 ?_ | refine κ6 ?_ | refine χ5 ?_ | refine χ6 ?_ | refine χ7 ?_ | refine ω8 ?_
    refine cl (awake47_any _) ?_
    rintro _ w4 ⟨rfl, hx4⟩
    repeat first | refine ω1 ?_ | refine ω2 ?_ | refine ω3 ?_ | refine ω4 ?_ | refine ω5 ?_ | refine χ1 ?_ | refine κ1 ?_ | refine κ2 ?_ | refine χ2 ?_ | refine κ3 ?_ | refine ω6 ?_ | refine ω7 ?_ | refine ω9 ?_ | refine κ4 ?_ | refine κ7 ?_ | refine κ8 ?_ | refine χ3 ?_ | refine χ4 ?_ | refine κ5 ?_ | refine κ6 ?_ | refine χ5 ?_ | refine χ6 ?_ | refine χ7 ?_ | refine ω8 ?_
    exact fin1 ⟨rfl, hx03.trans hx4⟩
  simp only [Bool.or_eq_false_iff, decide_eq_false_iff_not] at hg
  obtain ⟨⟨hla, hlb⟩, _⟩ := hg
  have hk3 := hk1.ext hx3
  repeat first | refine ω1 ?_ | refine ω2 ?_ | refine ω3 ?_ | refine ω4 ?_ | refine ω5 ?_ | refine χ1 ?_ | refine κ1 ?_ | refine κ2 ?_ | refine χ2 ?_ | refine κ3 ?_ | refine ω6 ?_ | refine ω7 ?_ | refine ω9 ?_ | refine κ4 ?_ | refine κ7 ?_ | refine κ8 ?_ | refine χ3 ?_ | refine χ4 ?_ | refine κ5 ?_ | refine κ6 ?_ | refine χ5 ?_ | refine χ6 ?_ | refine χ7 ?_ | refine ω8 ?_
  refine ld (hk3.at rfl) ?_
  repeat first | refine ω1 ?_ | refine ω2 ?_ | refine ω3 ?_ | refine ω4 ?_ | refine ω5 ?_ | refine χ1 ?_ | refine κ1 ?_ | refine κ2 ?_ | refine χ2 ?_ | refine κ3 ?_ | refine ω6 ?_ | refine ω7 ?_ | refine ω9 ?_ | refine κ4 ?_ | refine κ7 ?_ | refine κ8 ?_ | refine χ3 ?_ | refine χ4 ?_ | refine κ5 ?_ | refine κ6 ?_ | refine χ5 ?_ | refine χ6 ?_ | refine χ7 ?_ | refine ω8 ?_
  refine cl (rows47_any (hPa.ext hx03) (by omega)) ?_
  rintro va w4 ⟨ha4, hx4⟩
  have hx04 := hx03.trans hx4
  repeat first | refine ω1 ?_ | refine ω2 ?_ | refine ω3 ?_ | refine ω4 ?_ | refine ω5 ?_ | refine χ1 ?_ | refine κ1 ?_ | refine κ2 ?_ | refine χ2 ?_ | refine κ3 ?_ | refine ω6 ?_ | refine ω7 ?_ | refine ω9 ?_ | refine κ4 ?_ | refine κ7 ?_ | refine κ8 ?_ | refine χ3 ?_ | refine χ4 ?_ | refine κ5 ?_ | refine κ6 ?_ | refine χ5 ?_ | refine χ6 ?_ | refine χ7 ?_ | refine ω8 ?_
  refine cl (sort47_any ha4 (BoolsV.nil _ none 0) (by simp; omega)) ?_
  rintro vA w5 ⟨⟨A, hA5, hsA, hlA⟩, hx5⟩
  have hx05 := hx04.trans hx5
  have hlA40 : A.length ≤ 40 := by simp at hlA; omega
  obtain ⟨pA, AA, cA, hpA, rfl, hcA, hmA, hrA, hpR⟩ := id hA5
  repeat first | refine ω1 ?_ | refine ω2 ?_ | refine ω3 ?_ | refine ω4 ?_ | refine ω5 ?_ | refine χ1 ?_ | refine κ1 ?_ | refine κ2 ?_ | refine χ2 ?_ | refine κ3 ?_ | refine ω6 ?_ | refine ω7 ?_ | refine ω9 ?_ | refine κ4 ?_ | refine κ7 ?_ | refine κ8 ?_ | refine χ3 ?_ | refine χ4 ?_ | refine κ5 ?_ | refine κ6 ?_ | refine χ5 ?_ | refine χ6 ?_ | refine χ7 ?_ | refine ω8 ?_
  refine wjoin1 (fun v5 : Value => [(2, .pointer (some ⟨b1, 0, none⟩)), (4, .bool false), (5, v5)])
    (fun v5 w' => Ext w5 w' ∧ ∃ A', RowsV w' v5 A' ∧ A'.Nodup ∧ A'.length ≤ 40) ?_ ?_
  · refine ci (fun h => ?_) (fun h => ?_)
    · have hpos : 0 < pA.length := by have := of_decide_eq_true h; omega
      repeat first | refine ω1 ?_ | refine ω2 ?_ | refine ω3 ?_ | refine ω4 ?_ | refine ω5 ?_ | refine χ1 ?_ | refine κ1 ?_ | refine κ2 ?_ | refine χ2 ?_ | refine κ3 ?_ | refine ω6 ?_ | refine ω7 ?_ | refine ω9 ?_ | refine κ4 ?_ | refine κ7 ?_ | refine κ8 ?_ | refine χ3 ?_ | refine χ4 ?_ | refine κ5 ?_ | refine κ6 ?_ | refine χ5 ?_ | refine χ6 ?_ | refine χ7 ?_ | refine ω8 ?_
      have hne : ((pA.length : Nat) : Int) ≠ 0 := by omega
      refine rem hne ?_
      have hlt : t.toNat % pA.length < pA.length := Nat.mod_lt _ hpos
      have ek : (IntKind.i64.wrap t).tmod ((pA.length : Nat) : Int) = ((t.toNat % pA.length : Nat) : Int) := by
        rw [i64w (by omega)]
        obtain ⟨n, rfl⟩ := Int.eq_ofNat_of_zero_le ht.1
        rfl
      rw [ek]
      generalize t.toNat % pA.length = k at *
      have hone := RowV.ones hpR
      repeat first | refine ω1 ?_ | refine ω2 ?_ | refine ω3 ?_ | refine ω4 ?_ | refine ω5 ?_ | refine χ1 ?_ | refine κ1 ?_ | refine κ2 ?_ | refine χ2 ?_ | refine κ3 ?_ | refine ω6 ?_ | refine ω7 ?_ | refine ω9 ?_ | refine κ4 ?_ | refine κ7 ?_ | refine κ8 ?_ | refine χ3 ?_ | refine χ4 ?_ | refine κ5 ?_ | refine κ6 ?_ | refine χ5 ?_ | refine χ6 ?_ | refine χ7 ?_ | refine ω8 ?_
      refine drC 8 [1, 2, 3, 5, 6, 7] [(1, 0), (2, 4), (2, 8), (2, 9)] (by kernel_rfl) ?_
      have hxd : Ext w5 w5.drew := (Ext.refl w5).drew
      repeat first | refine π1 ?_ | refine π2 ?_ | refine π4 ?_ | refine π5 ?_
      refine psli tt_ok (sz := 1) k pA.length cA rfl rfl rfl rfl ⟨.i64, _, rfl, rfl⟩ rfl rfl (.inl rfl) (by omega) hcA (Nat.le_refl _) rfl ?_
      repeat first | refine π1 ?_ | refine π2 ?_ | refine π4 ?_ | refine π5 ?_
      refine psli tt_ok (sz := 1) 0 k cA rfl rfl rfl rfl rfl ⟨.i64, _, rfl, rfl⟩ rfl (.inl rfl) (Nat.zero_le _) (by omega) (Nat.le_refl _) rfl ?_
      repeat first | refine π1 ?_ | refine π2 ?_ | refine π4 ?_ | refine π5 ?_
      refine dbsl bs0Rows ?_
      intro w6 b6 hx6 hb6 hk6
      have hx56 := hxd.trans hx6
      refine dtail ?_
      refine apo (a := w5) hx56 ER (hk6.own (n := 0) hb6 rfl (Nat.zero_le _)) ((hrA.ext hx56).drop (k := k) (c := cA) (by omega) hcA) (fun u hu => hone u (List.mem_of_mem_drop hu)) (by unfold maxLen; omega) (by omega) ?_
      intro v7 w7 ho7 hx7 _ _
      refine wnil (dback ?_)
      refine dtail ?_
      have e0 : (if cA = 0 then AA else AA.map (·.add (0 * 1))) = AA := cut0 AA cA 1
      rw [e0, Nat.sub_zero]
      refine apo (a := w5) hx7 ER ho7 ((hrA.ext hx7).take (m := k) (by omega)) (fun u hu => hone u (List.mem_of_mem_take hu)) (by unfold maxLen; omega) (by omega) ?_
      intro v8 w8 ho8 hx8 _ _
      refine wnil (dback ?_)
      refine dtail ?_
      repeat first | refine ω1 ?_ | refine ω2 ?_ | refine ω3 ?_ | refine ω4 ?_ | refine ω5 ?_ | refine χ1 ?_ | refine κ1 ?_ | refine κ2 ?_ | refine χ2 ?_ | refine κ3 ?_ | refine ω6 ?_ | refine ω7 ?_ | refine ω9 ?_ | refine κ4 ?_ | refine κ7 ?_ | refine κ8 ?_ | refine χ3 ?_ | refine χ4 ?_ | refine κ5 ?_ | refine κ6 ?_ | refine χ5 ?_ | refine χ6 ?_ | refine χ7 ?_ | refine ω8 ?_
      refine dback ?_
      repeat first | refine δ1 ?_ | refine δ2 ?_ | refine δ4 ?_ | refine δ5 ?_ | refine δ6 ?_ | refine δ7 ?_ | refine δ9 ?_ | refine δ8 ?_ | refine χ1 ?_ | refine χ2 ?_ | refine χ3 ?_ | refine χ4 ?_ | refine χ5 ?_ | refine χ6 ?_ | refine χ7 ?_
      have el : 0 + (pA.length - k) + k = (pA.drop k ++ pA.take k).length := by rw [List.length_append, List.length_drop, List.length_take]; omega
      have ec : ([] : List Value) ++ List.drop (k * 1) (pA.map (·.1)) ++ List.take (k * 1) (pA.map (·.1)) = (pA.drop k ++ pA.take k).map (·.1) := by
        rw [Nat.mul_one, List.nil_append, List.map_append, List.map_drop, List.map_take]
      rw [el, ec] at ho8
      obtain ⟨A8, c8, rfl, hc8, _⟩ := own_form ho8
      have hperm : ∀ p, p ∈ pA.drop k ++ pA.take k → p ∈ pA := fun p hp => by
        rcases List.mem_append.1 hp with h | h
        · exact List.mem_of_mem_drop h
        · exact List.mem_of_mem_take h
      refine qjoin1 _ (by repeat' (first | exact Sub.nil | refine Sub.cons rfl ?_)) ⟨hx8, (pA.drop k ++ pA.take k).map (·.2), ⟨_, A8, c8, rfl, rfl, hc8, by omega, Rd.own ho8, fun p hp => (hpR p (hperm p hp)).ext hx8⟩, ?_, by rw [List.length_map]; rw [hpA, List.length_map] at hlA40; omega⟩
      have hn := hsA.1.nodup
      rw [hpA, ← List.take_append_drop k pA, List.map_append] at hn
      rw [List.map_append]
      exact (List.perm_append_comm.nodup_iff).1 hn
    · repeat first | refine ω1 ?_ | refine ω2 ?_ | refine ω3 ?_ | refine ω4 ?_ | refine ω5 ?_ | refine χ1 ?_ | refine κ1 ?_ | refine κ2 ?_ | refine χ2 ?_ | refine κ3 ?_ | refine ω6 ?_ | refine ω7 ?_ | refine ω9 ?_ | refine κ4 ?_ | refine κ7 ?_ | refine κ8 ?_ | refine χ3 ?_ | refine χ4 ?_ | refine κ5 ?_ | refine κ6 ?_ | refine χ5 ?_ | refine χ6 ?_ | refine χ7 ?_ | refine ω8 ?_
      exact qjoin1 _ (by repeat' (first | exact Sub.nil | refine Sub.cons rfl ?_)) ⟨Ext.refl _, A, hA5, hsA.1.nodup, hlA40⟩
  rintro v5 w6 ⟨hx6, A', hA6, hnd, hl6⟩
  have hx06 := hx05.trans hx6
  obtain ⟨A5, c5, rfl, hc5, hm5, _⟩ := id hA6.parts
  have hk6 := (((hk3.ext hx4).ext hx5).ext hx6)
  repeat first | refine ω1 ?_ | refine ω2 ?_ | refine ω3 ?_ | refine ω4 ?_ | refine ω5 ?_ | refine χ1 ?_ | refine κ1 ?_ | refine κ2 ?_ | refine χ2 ?_ | refine κ3 ?_ | refine ω6 ?_ | refine ω7 ?_ | refine ω9 ?_ | refine κ4 ?_ | refine κ7 ?_ | refine κ8 ?_ | refine χ3 ?_ | refine χ4 ?_ | refine κ5 ?_ | refine κ6 ?_ | refine χ5 ?_ | refine χ6 ?_ | refine χ7 ?_ | refine ω8 ?_
  refine ld (hk6.at rfl) ?_
  repeat first | refine ω1 ?_ | refine ω2 ?_ | refine ω3 ?_ | refine ω4 ?_ | refine ω5 ?_ | refine χ1 ?_ | refine κ1 ?_ | refine κ2 ?_ | refine χ2 ?_ | refine κ3 ?_ | refine ω6 ?_ | refine ω7 ?_ | refine ω9 ?_ | refine κ4 ?_ | refine κ7 ?_ | refine κ8 ?_ | refine χ3 ?_ | refine χ4 ?_ | refine κ5 ?_ | refine κ6 ?_ | refine χ5 ?_ | refine χ6 ?_ | refine χ7 ?_ | refine ω8 ?_
  refine cl (rows47_any (hPb.ext hx06) (by omega)) ?_
  rintro vb w7 ⟨hb7, hx7⟩
  repeat first | refine ω1 ?_ | refine ω2 ?_ | refine ω3 ?_ | refine ω4 ?_ | refine ω5 ?_ | refine χ1 ?_ | refine κ1 ?_ | refine κ2 ?_ | refine χ2 ?_ | refine κ3 ?_ | refine ω6 ?_ | refine ω7 ?_ | refine ω9 ?_ | refine κ4 ?_ | refine κ7 ?_ | refine κ8 ?_ | refine χ3 ?_ | refine χ4 ?_ | refine κ5 ?_ | refine κ6 ?_ | refine χ5 ?_ | refine χ6 ?_ | refine χ7 ?_ | refine ω8 ?_
  refine cl (both47_any (hA6.ext hx7) hb7) ?_
  rintro vC w8 ⟨hC8, hx8⟩
  have hx68 := hx7.trans hx8
  have hA8 := hA6.ext hx68
  generalize hq : (fun r : Row => decide (r ∈ List.map pRow b)) = q at *
  have hlC : (A'.filter q).length ≤ A'.length := List.length_filter_le _ _
  obtain ⟨AC, cC, rfl, hcC, hmC, _⟩ := id hC8.parts
  repeat first | refine ω1 ?_ | refine ω2 ?_ | refine ω3 ?_ | refine ω4 ?_ | refine ω5 ?_ | refine χ1 ?_ | refine κ1 ?_ | refine κ2 ?_ | refine χ2 ?_ | refine κ3 ?_ | refine ω6 ?_ | refine ω7 ?_ | refine ω9 ?_ | refine κ4 ?_ | refine κ7 ?_ | refine κ8 ?_ | refine χ3 ?_ | refine χ4 ?_ | refine κ5 ?_ | refine κ6 ?_ | refine χ5 ?_ | refine χ6 ?_ | refine χ7 ?_ | refine ω8 ?_
  refine cl ascending_any ?_
  rintro _ w9 ⟨⟨b9, rfl⟩, hx9⟩
  repeat first | refine ω1 ?_ | refine ω2 ?_ | refine ω3 ?_ | refine ω4 ?_ | refine ω5 ?_ | refine χ1 ?_ | refine κ1 ?_ | refine κ2 ?_ | refine χ2 ?_ | refine κ3 ?_ | refine ω6 ?_ | refine ω7 ?_ | refine ω9 ?_ | refine κ4 ?_ | refine κ7 ?_ | refine κ8 ?_ | refine χ3 ?_ | refine χ4 ?_ | refine κ5 ?_ | refine κ6 ?_ | refine χ5 ?_ | refine χ6 ?_ | refine χ7 ?_ | refine ω8 ?_
  refine mki Try.underlying75 (fun ms e => by cases e) ?_
  repeat first | refine ω1 ?_ | refine ω2 ?_ | refine ω3 ?_ | refine ω4 ?_ | refine ω5 ?_ | refine χ1 ?_ | refine κ1 ?_ | refine κ2 ?_ | refine χ2 ?_ | refine κ3 ?_ | refine ω6 ?_ | refine ω7 ?_ | refine ω9 ?_ | refine κ4 ?_ | refine κ7 ?_ | refine κ8 ?_ | refine χ3 ?_ | refine χ4 ?_ | refine κ5 ?_ | refine κ6 ?_ | refine χ5 ?_ | refine χ6 ?_ | refine χ7 ?_ | refine ω8 ?_
  refine cl ascending_any ?_
  rintro _ w10 ⟨⟨b10, rfl⟩, hx10⟩
  have hx810 := hx9.trans hx10
  repeat first | refine ω1 ?_ | refine ω2 ?_ | refine ω3 ?_ | refine ω4 ?_ | refine ω5 ?_ | refine χ1 ?_ | refine κ1 ?_ | refine κ2 ?_ | refine χ2 ?_ | refine κ3 ?_ | refine ω6 ?_ | refine ω7 ?_ | refine ω9 ?_ | refine κ4 ?_ | refine κ7 ?_ | refine κ8 ?_ | refine χ3 ?_ | refine χ4 ?_ | refine κ5 ?_ | refine κ6 ?_ | refine χ5 ?_ | refine χ6 ?_ | refine χ7 ?_ | refine ω8 ?_
  refine bld (bldCnt _ _ _ _ _ _ _ _ _ _ _ rfl rfl rfl rfl _) ?_
  repeat first | refine ω1 ?_ | refine ω2 ?_ | refine ω3 ?_ | refine ω4 ?_ | refine ω5 ?_ | refine χ1 ?_ | refine κ1 ?_ | refine κ2 ?_ | refine χ2 ?_ | refine κ3 ?_ | refine ω6 ?_ | refine ω7 ?_ | refine ω9 ?_ | refine κ4 ?_ | refine κ7 ?_ | refine κ8 ?_ | refine χ3 ?_ | refine χ4 ?_ | refine κ5 ?_ | refine κ6 ?_ | refine χ5 ?_ | refine χ6 ?_ | refine χ7 ?_ | refine ω8 ?_
  refine mki Try.underlying78 (fun ms e => by cases e) ?_
  repeat first | refine ω1 ?_ | refine ω2 ?_ | refine ω3 ?_ | refine ω4 ?_ | refine ω5 ?_ | refine χ1 ?_ | refine κ1 ?_ | refine κ2 ?_ | refine χ2 ?_ | refine κ3 ?_ | refine ω6 ?_ | refine ω7 ?_ | refine ω9 ?_ | refine κ4 ?_ | refine κ7 ?_ | refine κ8 ?_ | refine χ3 ?_ | refine χ4 ?_ | refine κ5 ?_ | refine κ6 ?_ | refine χ5 ?_ | refine χ6 ?_ | refine χ7 ?_ | refine ω8 ?_
  have hD := list_H hnd q
  have hAO := listO (y := .slice (some ⟨b9, 0, none⟩) 2 2) (z := .slice none 0 0) (hA8.ext hx810)
  have hCO := cntO (y := .slice (some ⟨b10, 0, none⟩) 2 2) (z := .slice none 0 0) (hC8.ext hx810) (hA8.ext hx810) (by rw [hD.2]; exact Nat.le_refl _)
  refine cl (difOf_any hAO hCO) ?_
  rintro _ w12 ⟨rfl, hx12⟩
  rw [if_pos hlC]
  repeat first | refine ω1 ?_ | refine ω2 ?_ | refine ω3 ?_ | refine ω4 ?_ | refine ω5 ?_ | refine χ1 ?_ | refine κ1 ?_ | refine κ2 ?_ | refine χ2 ?_ | refine κ3 ?_ | refine ω6 ?_ | refine ω7 ?_ | refine ω9 ?_ | refine κ4 ?_ | refine κ7 ?_ | refine κ8 ?_ | refine χ3 ?_ | refine χ4 ?_ | refine κ5 ?_ | refine κ6 ?_ | refine χ5 ?_ | refine χ6 ?_ | refine χ7 ?_ | refine ω8 ?_
  refine alc zDif ?_
  intro w13 b13 hx13 hb13 hk13
  repeat first | refine ω1 ?_ | refine ω2 ?_ | refine ω3 ?_ | refine ω4 ?_ | refine ω5 ?_ | refine χ1 ?_ | refine κ1 ?_ | refine κ2 ?_ | refine χ2 ?_ | refine κ3 ?_ | refine ω6 ?_ | refine ω7 ?_ | refine ω9 ?_ | refine κ4 ?_ | refine κ7 ?_ | refine κ8 ?_ | refine χ3 ?_ | refine χ4 ?_ | refine κ5 ?_ | refine κ6 ?_ | refine χ5 ?_ | refine χ6 ?_ | refine χ7 ?_ | refine ω8 ?_
  refine stb hk13 (cs' := [.iface 75 _, .iface 78 _]) ?_ (fun u hu => by simp at hu; rcases hu with rfl | rfl <;> rfl)
  intro w14 hk14 hg14 hx14
  have hx1214 : Ext w12 w14 := hx14 w12 hx13 hb13
  have hx1014 := hx12.trans hx1214
  have hxd : Ext w14 w14.drew := (Ext.refl w14).drew
  have hx814 := (hx810.trans hx1014).trans hxd
  repeat first | refine ω1 ?_ | refine ω2 ?_ | refine ω3 ?_ | refine ω4 ?_ | refine ω5 ?_ | refine χ1 ?_ | refine κ1 ?_ | refine κ2 ?_ | refine χ2 ?_ | refine κ3 ?_ | refine ω6 ?_ | refine ω7 ?_ | refine ω9 ?_ | refine κ4 ?_ | refine κ7 ?_ | refine κ8 ?_ | refine χ3 ?_ | refine χ4 ?_ | refine κ5 ?_ | refine κ6 ?_ | refine χ5 ?_ | refine χ6 ?_ | refine χ7 ?_ | refine ω8 ?_
  refine dr [(0, 0), (0, 1), (0, 2), (0, 3), (0, 4), (0, 5), (1, 6), (1, 7), (0, 8), (0, 9), (1, 10), (0, 11), (0, 12)] (by kernel_rfl) ?_
  repeat first | refine δ1 ?_ | refine δ2 ?_ | refine δ4 ?_ | refine δ5 ?_ | refine δ6 ?_ | refine δ7 ?_ | refine δ9 ?_ | refine δ8 ?_ | refine χ1 ?_ | refine χ2 ?_ | refine χ3 ?_ | refine χ4 ?_ | refine χ5 ?_ | refine χ6 ?_ | refine χ7 ?_
  refine dlds (fun j u hu => (hk14.ext hxd).at hu) ?_
  repeat first | refine δ1 ?_ | refine δ2 ?_ | refine δ4 ?_ | refine δ5 ?_ | refine δ6 ?_ | refine δ7 ?_ | refine δ9 ?_ | refine δ8 ?_ | refine χ1 ?_ | refine χ2 ?_ | refine χ3 ?_ | refine χ4 ?_ | refine χ5 ?_ | refine χ6 ?_ | refine χ7 ?_
  refine dcl (minus47_any (hA8.ext hx814) (hC8.ext hx814)) ?_
  rintro vW w15 ⟨hW15, hx15⟩
  refine ⟨hx15, ?_⟩
  have hx1015 := (hx1014.trans hxd).trans hx15
  repeat first | refine δ1 ?_ | refine δ2 ?_ | refine δ4 ?_ | refine δ5 ?_ | refine δ6 ?_ | refine δ7 ?_ | refine δ9 ?_ | refine δ8 ?_ | refine χ1 ?_ | refine χ2 ?_ | refine χ3 ?_ | refine χ4 ?_ | refine χ5 ?_ | refine χ6 ?_ | refine χ7 ?_
  refine dcl (agrees_any hD (hAO.ext hx1015) (hCO.ext hx1015) (fun _ h => h) (fun _ _ => trivial) (fun i hi => idx_at hnd hi) hW15) ?_
  rintro _ w16 ⟨rfl, hx16⟩
  refine ⟨hx16, ?_⟩
  repeat first | refine δ1 ?_ | refine δ2 ?_ | refine δ4 ?_ | refine δ5 ?_ | refine δ6 ?_ | refine δ7 ?_ | refine δ9 ?_ | refine δ8 ?_ | refine χ1 ?_ | refine χ2 ?_ | refine χ3 ?_ | refine χ4 ?_ | refine χ5 ?_ | refine χ6 ?_ | refine χ7 ?_
  refine dcl (awake47_any _) ?_
  rintro _ w17 ⟨rfl, hx17⟩
  refine ⟨hx17, ?_⟩
  repeat first | refine δ1 ?_ | refine δ2 ?_ | refine δ4 ?_ | refine δ5 ?_ | refine δ6 ?_ | refine δ7 ?_ | refine δ9 ?_ | refine δ8 ?_ | refine χ1 ?_ | refine χ2 ?_ | refine χ3 ?_ | refine χ4 ?_ | refine χ5 ?_ | refine χ6 ?_ | refine χ7 ?_
  repeat first | refine ω1 ?_ | refine ω2 ?_ | refine ω3 ?_ | refine ω4 ?_ | refine ω5 ?_ | refine χ1 ?_ | refine κ1 ?_ | refine κ2 ?_ | refine χ2 ?_ | refine κ3 ?_ | refine ω6 ?_ | refine ω7 ?_ | refine ω9 ?_ | refine κ4 ?_ | refine κ7 ?_ | refine κ8 ?_ | refine χ3 ?_ | refine χ4 ?_ | refine κ5 ?_ | refine κ6 ?_ | refine χ5 ?_ | refine χ6 ?_ | refine χ7 ?_ | refine ω8 ?_
  exact fin1 ⟨rfl, ((((hx06.trans hx68).trans hx814).trans hx15).trans hx16).trans hx17⟩
end Go.Proofs.Ytpahjnfolbnloaa
