/- difference.Changes, where a column is lacking; its refusals. -/
import Derived.Test.YtpahjnfolbnloaaChg
set_option linter.unusedVariables false
namespace Go.Proofs.Ytpahjnfolbnloaa
open Go.RowKit Pl Go.Wk
attribute [local irreducible] WC WL QX WD WDB WP WG
theorem own_gr {w w' : World} {base e sz : Nat} {v : Value} {m : Nat} {xs : List Value} {N : Nat → Prop} (h : w.ownsRow base e sz v m xs) (hg : GrN N w w') (hn : ∀ g, v.ownBlock = some g → ¬ N g) : w'.ownsRow base e sz v m xs := by
  refine ⟨h.1, ?_⟩
  rcases h.2 with h2 | ⟨g, cap, cur, rfl, h3, h4, h5⟩
  · exact .inl h2
  · refine .inr ⟨g, cap, cur, rfl, h3, ?_, h5⟩
    have hlt : g < w.heap.size := by
      rcases Nat.lt_or_ge g w.heap.size with h' | h'
      · exact h'
      · rw [Array.getElem?_eq_none h'] at h4; cases h4
    exact (hg.block g hlt (hn g (by simp [Value.ownBlock]))).trans h4
theorem bldRdr (x y : Value) (t : Nat) (u : Value) (A : Option Addr) (n c : Nat) (hx : x = .iface t u) (hy : y = .slice A n c) (w : World) : (Instr.build 120 #[(0, x), (1, y)]).run Try.prog w = .ok (.agg #[x, y, .slice none 0 0, .slice none 0 0]) w := by subst hx; subst hy; kernel_rfl
theorem bldChg (x : Value) (A : Option Addr) (n c : Nat) (hx : x = .slice A n c) (w : World) : (Instr.build 125 #[(0, x), (1, .bool true)]).run Try.prog w = .ok (.agg #[x, .bool true]) w := by subst hx; kernel_rfl
theorem bldChg0 (x : Value) (A : Option Addr) (n c : Nat) (hx : x = .slice A n c) (w : World) : (Instr.build 125 #[(0, x)]).run Try.prog w = .ok (.agg #[x, .bool false]) w := by subst hx; kernel_rfl
theorem bsChg (A : Option Addr) (n c : Nat) (b : Bool) (w : World) : (Instr.buildSlice 88 1 #[(0, .agg #[.slice A n c, .bool b])]).run Try.prog w = .ok (.slice (some ⟨w.heap.size, 0, none⟩) 1 1) (w.alloc (.cells [Value.slice A n c, .bool b].toArray 125)) := by kernel_rfl
theorem EC : ElT Try.prog 88 125 2 32 (.agg #[.slice none 0 0, .bool false]) := ⟨Try.underlying88, info_parts (by kernel_rfl), rfl, by decide⟩
theorem NatV.off {w : World} {b : Nat} {t : TypeId} {cs : List Value} {v : Value} {n : Nat} (h : NatV w v n) (hk : Blk w b t cs) (hcs : ∀ u ∈ cs, ∀ k z, u ≠ .int k z) : NatY w (fun k => k = b) v n := by
  refine ⟨h, fun h0 ad m c e hb => ?_⟩
  obtain ⟨A, c', e2, _, _, hr⟩ := h
  subst e2
  injection e with e3 _ _
  subst e3
  obtain ⟨l, x, hl, _⟩ := limbs_last h0
  have hp : 0 < (limbs n).length := by rw [hl]; simp
  have hc := hr.cell (k := 0) (Nc_get hp)
  simp only [adr, Option.getD_some, add_zero] at hc
  have hsp : ad.spot = none := by
    unfold World.cell? at hc
    split at hc
    · split at hc
      · cases hc
      · rename_i h3; simpa using h3
    · cases hc
  obtain ⟨b', o, sp⟩ := ad
  simp only at hsp hb
  subst hsp; subst hb
  rw [hk.cell] at hc
  exact hcs _ (List.mem_of_getElem? hc) _ _ rfl
set_option maxRecDepth 100000 in
theorem changesNilA_any {vb vc vd vm : Value} (w : World) : Ret Try.prog 45 [.nilIface, vb, vc, vd, vm] w fun x w' => x = .tuple #[.slice none 0 0, .int .i64 1] ∧ w' = w := by
  refine enterR Try.func45 Try.ntmps45 rfl (by kernel_rfl) rfl ?_
  repeat first | refine ω1 ?_ | refine ω2 ?_ | refine ω3 ?_ | refine ω4 ?_ | refine ω5 ?_ | refine χ1 ?_ | refine κ1 ?_ | refine κ2 ?_ | refine χ2 ?_ | refine κ3 ?_ | refine ω6 ?_ | refine ω7 ?_ | refine ω9 ?_ | refine κ4 ?_ | refine κ7 ?_ | refine κ8 ?_ | refine χ3 ?_ | refine χ4 ?_ | refine κ5 ?_ | refine κ6 ?_ | refine χ5 ?_ | refine χ6 ?_ | refine χ7 ?_ | refine ω8 ?_
  refine inil Try.underlying46 (.inl rfl) ?_
  repeat first | refine ω1 ?_ | refine ω2 ?_ | refine ω3 ?_ | refine ω4 ?_ | refine ω5 ?_ | refine χ1 ?_ | refine κ1 ?_ | refine κ2 ?_ | refine χ2 ?_ | refine κ3 ?_ | refine ω6 ?_ | refine ω7 ?_ | refine ω9 ?_ | refine κ4 ?_ | refine κ7 ?_ | refine κ8 ?_ | refine χ3 ?_ | refine χ4 ?_ | refine κ5 ?_ | refine κ6 ?_ | refine χ5 ?_ | refine χ6 ?_ | refine χ7 ?_ | refine ω8 ?_
  exact fin2 ⟨rfl, rfl⟩
set_option maxRecDepth 100000 in
theorem changesNilB_any {t : Nat} {xa vc vd vm : Value} (w : World) : Ret Try.prog 45 [.iface t xa, .nilIface, vc, vd, vm] w fun x w' => x = .tuple #[.slice none 0 0, .int .i64 1] ∧ w' = w := by
  refine enterR Try.func45 Try.ntmps45 rfl (by kernel_rfl) rfl ?_
  repeat first | refine ω1 ?_ | refine ω2 ?_ | refine ω3 ?_ | refine ω4 ?_ | refine ω5 ?_ | refine χ1 ?_ | refine κ1 ?_ | refine κ2 ?_ | refine χ2 ?_ | refine κ3 ?_ | refine ω6 ?_ | refine ω7 ?_ | refine ω9 ?_ | refine κ4 ?_ | refine κ7 ?_ | refine κ8 ?_ | refine χ3 ?_ | refine χ4 ?_ | refine κ5 ?_ | refine κ6 ?_ | refine χ5 ?_ | refine χ6 ?_ | refine χ7 ?_ | refine ω8 ?_
  refine inil Try.underlying46 (.inr ⟨_, _, rfl⟩) ?_
  repeat first | refine ω1 ?_ | refine ω2 ?_ | refine ω3 ?_ | refine ω4 ?_ | refine ω5 ?_ | refine χ1 ?_ | refine κ1 ?_ | refine κ2 ?_ | refine χ2 ?_ | refine κ3 ?_ | refine ω6 ?_ | refine ω7 ?_ | refine ω9 ?_ | refine κ4 ?_ | refine κ7 ?_ | refine κ8 ?_ | refine χ3 ?_ | refine χ4 ?_ | refine κ5 ?_ | refine κ6 ?_ | refine χ5 ?_ | refine χ6 ?_ | refine χ7 ?_ | refine ω8 ?_
  refine inil Try.underlying46 (.inl rfl) ?_
  repeat first | refine ω1 ?_ | refine ω2 ?_ | refine ω3 ?_ | refine ω4 ?_ | refine ω5 ?_ | refine χ1 ?_ | refine κ1 ?_ | refine κ2 ?_ | refine χ2 ?_ | refine κ3 ?_ | refine ω6 ?_ | refine ω7 ?_ | refine ω9 ?_ | refine κ4 ?_ | refine κ7 ?_ | refine κ8 ?_ | refine χ3 ?_ | refine χ4 ?_ | refine κ5 ?_ | refine κ6 ?_ | refine χ5 ?_ | refine χ6 ?_ | refine χ7 ?_ | refine ω8 ?_
  exact fin2 ⟨rfl, rfl⟩
/-- the blocks that are written -/
def CN (bf bt : Nat) (v : Value) (k : Nat) : Prop := k = bf ∨ k = bt ∨ v.ownBlock = some k
theorem Rdr.app {w w' : World} {base bf bt b e sz m : Nat} {v v' va : Value} {xs : List Value} {L : List Row} {p : Nat} (h : Rdr w (CN bf bt v) b va L p) (ho : w.ownsRow base e sz v m xs) (hne : Nat.beq e 120 = false) (hg : w.grownBy w' v.ownBlock) (hv : ∀ g, v'.ownBlock = some g → v.ownBlock = some g ∨ w.heap.size ≤ g) : Rdr w' (CN bf bt v') b va L p := by
  obtain ⟨vr, ⟨vn, vp, hk, hn, hp, h1⟩, hr⟩ := h
  have hG : GrN (CN bf bt v) w w' := GrN.by hg (fun k e => .inr (.inr e))
  have hN : ∀ k, CN bf bt v' k → CN bf bt v k ∨ w.heap.size ≤ k := fun k hk => by
    rcases hk with h | h | h
    · exact .inl (.inl h)
    · exact .inl (.inr (.inl h))
    · rcases hv k h with h | h
      · exact .inl (.inr (.inr h))
      · exact .inr h
  refine ⟨vr, ⟨vn, vp, hk.grown hg (hk.ne_own ho hne), hn.re (hn.gr hG).1 hN, hp.re (hp.gr hG).1 hN, h1⟩, fun hlt => (hr hlt).re ((hr hlt).gr hG) hN⟩
set_option maxRecDepth 100000 in
set_option maxHeartbeats 2000000 in
theorem changes_any {w : World} {va vb vc : Value} {L M : List Row} {RA RB : Row → Nat} {BA BB : Nat} {SA SB : Row → Prop} (ha : ArrO w va L RA BA SA) (hb : ArrO w vb M RB BB SB) (hc : Col1 w vc) (hL : ∀ r ∈ L, r.length ≤ 1) (hl : L.length ≤ 50) (hm : M.length ≤ 50) :
    Ret Try.prog 45 [va, vb, vc, .slice none 0 0, .int .i64 100] w fun x w' => (∃ v, x = .tuple #[v, .int .i64 (if L.length = 0 ∨ M.length = 0 then 0 else 6)]) ∧ Ext w w' := by
  obtain ⟨ta, xa, rfl⟩ := ha.form
  obtain ⟨tb, xb, rfl⟩ := hb.form
  obtain ⟨fA, rA, mA, hA⟩ := ha.len
  obtain ⟨fB, rB, mB, hB⟩ := hb.len
  refine enterR Try.func45 Try.ntmps45 rfl (by kernel_rfl) rfl ?_
  repeat first | refine ω1 ?_ | refine ω2 ?_ | refine ω3 ?_ | refine ω4 ?_ | refine ω5 ?_ | refine χ1 ?_ | refine κ1 ?_ | refine κ2 ?_ | refine χ2 ?_ | refine κ3 ?_ | refine ω6 ?_ | refine ω7 ?_ | refine ω9 ?_ | refine κ4 ?_ | refine κ7 ?_ | refine κ8 ?_ | refine χ3 ?_ | refine χ4 ?_ | refine κ5 ?_ | refine κ6 ?_ | refine χ5 ?_ | refine χ6 ?_ | refine χ7 ?_ | refine ω8 ?_
  refine inil Try.underlying46 (.inr ⟨_, _, rfl⟩) ?_
  repeat first | refine ω1 ?_ | refine ω2 ?_ | refine ω3 ?_ | refine ω4 ?_ | refine ω5 ?_ | refine χ1 ?_ | refine κ1 ?_ | refine κ2 ?_ | refine χ2 ?_ | refine κ3 ?_ | refine ω6 ?_ | refine ω7 ?_ | refine ω9 ?_ | refine κ4 ?_ | refine κ7 ?_ | refine κ8 ?_ | refine χ3 ?_ | refine χ4 ?_ | refine κ5 ?_ | refine κ6 ?_ | refine χ5 ?_ | refine χ6 ?_ | refine χ7 ?_ | refine ω8 ?_
  refine inil Try.underlying46 (.inr ⟨_, _, rfl⟩) ?_
  repeat first | refine ω1 ?_ | refine ω2 ?_ | refine ω3 ?_ | refine ω4 ?_ | refine ω5 ?_ | refine χ1 ?_ | refine κ1 ?_ | refine κ2 ?_ | refine χ2 ?_ | refine κ3 ?_ | refine ω6 ?_ | refine ω7 ?_ | refine ω9 ?_ | refine κ4 ?_ | refine κ7 ?_ | refine κ8 ?_ | refine χ3 ?_ | refine χ4 ?_ | refine κ5 ?_ | refine κ6 ?_ | refine χ5 ?_ | refine χ6 ?_ | refine χ7 ?_ | refine ω8 ?_
  refine inv mA (hA w (Ext.refl w)) ?_
  rintro vn w1 ⟨hn1, hx1⟩
  obtain ⟨An, cn, rfl, _⟩ := id hn1
  repeat first | refine ω1 ?_ | refine ω2 ?_ | refine ω3 ?_ | refine ω4 ?_ | refine ω5 ?_ | refine χ1 ?_ | refine κ1 ?_ | refine κ2 ?_ | refine χ2 ?_ | refine κ3 ?_ | refine ω6 ?_ | refine ω7 ?_ | refine ω9 ?_ | refine κ4 ?_ | refine κ7 ?_ | refine κ8 ?_ | refine χ3 ?_ | refine χ4 ?_ | refine κ5 ?_ | refine κ6 ?_ | refine χ5 ?_ | refine χ6 ?_ | refine χ7 ?_ | refine ω8 ?_
  refine bld (bldRdr _ _ _ _ _ _ _ rfl rfl _) ?_
  repeat first | refine ω1 ?_ | refine ω2 ?_ | refine ω3 ?_ | refine ω4 ?_ | refine ω5 ?_ | refine χ1 ?_ | refine κ1 ?_ | refine κ2 ?_ | refine χ2 ?_ | refine κ3 ?_ | refine ω6 ?_ | refine ω7 ?_ | refine ω9 ?_ | refine κ4 ?_ | refine κ7 ?_ | refine κ8 ?_ | refine χ3 ?_ | refine χ4 ?_ | refine κ5 ?_ | refine κ6 ?_ | refine χ5 ?_ | refine χ6 ?_ | refine χ7 ?_ | refine ω8 ?_
  refine bx ?_
  intro w2 bf hx2 hbf hkf
  have hx02 := hx1.trans hx2
  repeat first | refine ω1 ?_ | refine ω2 ?_ | refine ω3 ?_ | refine ω4 ?_ | refine ω5 ?_ | refine χ1 ?_ | refine κ1 ?_ | refine κ2 ?_ | refine χ2 ?_ | refine κ3 ?_ | refine ω6 ?_ | refine ω7 ?_ | refine ω9 ?_ | refine κ4 ?_ | refine κ7 ?_ | refine κ8 ?_ | refine χ3 ?_ | refine χ4 ?_ | refine κ5 ?_ | refine κ6 ?_ | refine χ5 ?_ | refine χ6 ?_ | refine χ7 ?_ | refine ω8 ?_
  refine inv mB (hB w2 hx02) ?_
  rintro vm w3 ⟨hm3, hx3⟩
  obtain ⟨Am, cm, rfl, _⟩ := id hm3
  repeat first | refine ω1 ?_ | refine ω2 ?_ | refine ω3 ?_ | refine ω4 ?_ | refine ω5 ?_ | refine χ1 ?_ | refine κ1 ?_ | refine κ2 ?_ | refine χ2 ?_ | refine κ3 ?_ | refine ω6 ?_ | refine ω7 ?_ | refine ω9 ?_ | refine κ4 ?_ | refine κ7 ?_ | refine κ8 ?_ | refine χ3 ?_ | refine χ4 ?_ | refine κ5 ?_ | refine κ6 ?_ | refine χ5 ?_ | refine χ6 ?_ | refine χ7 ?_ | refine ω8 ?_
  refine bld (bldRdr _ _ _ _ _ _ _ rfl rfl _) ?_
  repeat first | refine ω1 ?_ | refine ω2 ?_ | refine ω3 ?_ | refine ω4 ?_ | refine ω5 ?_ | refine χ1 ?_ | refine κ1 ?_ | refine κ2 ?_ | refine χ2 ?_ | refine κ3 ?_ | refine ω6 ?_ | refine ω7 ?_ | refine ω9 ?_ | refine κ4 ?_ | refine κ7 ?_ | refine κ8 ?_ | refine χ3 ?_ | refine χ4 ?_ | refine κ5 ?_ | refine κ6 ?_ | refine χ5 ?_ | refine χ6 ?_ | refine χ7 ?_ | refine ω8 ?_
  refine bx ?_
  intro w4 bt hx4 hbt hkt
  have hx24 := hx3.trans hx4
  have hx04 := hx02.trans hx24
  have hkf4 := hkf.ext hx24
  have hs02 := hx1.size
  have hlf := hkf.lt
  have hs3 := hx3.size
  have hs4 := hx4.size
  have hlt := hkt.lt
  have hne : bf ≠ bt := by omega
  have hNf : ∀ k, CN bf bt (.slice none 0 0) k → w1.heap.size ≤ k := fun k hk => by
    rcases hk with h | h | h
    · omega
    · have := hx2.size; omega
    · simp [Value.ownBlock] at h
  have hN4 : ∀ k, CN bf bt (.slice none 0 0) k → w.heap.size ≤ k ∧ k < w4.heap.size := fun k hk => by
    rcases hk with h | h | h
    · omega
    · have := hx2.size; omega
    · simp [Value.ownBlock] at h
  have hN4' : ∀ k, CN bf bt (.slice none 0 0) k → k ≠ bf → w3.heap.size ≤ k := fun k hk hne => by
    rcases hk with h | h | h
    · exact absurd h hne
    · omega
    · simp [Value.ownBlock] at h
  have hRf : RdrP w4 (CN bf bt (.slice none 0 0)) bf (.iface ta xa) L 0 (.slice none 0 0) :=
    ⟨_, _, hkf4, ((hn1.y hNf).ext hx2).ext hx24, ⟨NatV.nil _, fun h => absurd rfl h⟩, rfl⟩
  have hRt : RdrP w4 (CN bf bt (.slice none 0 0)) bt (.iface tb xb) M 0 (.slice none 0 0) := by
    refine ⟨_, _, hkt, ?_, ⟨NatV.nil _, fun h => absurd rfl h⟩, rfl⟩
    have hy := hm3.off (hkf.ext hx3) (fun u hu k z => by simp at hu; rcases hu with rfl | rfl | rfl | rfl <;> exact fun h => by cases h)
    refine (NatY.re hy hm3 (fun k hk => ?_)).ext hx4
    by_cases h : k = bf
    · exact .inl h
    · exact .inr (hN4' k hk h)
  repeat first | refine ω1 ?_ | refine ω2 ?_ | refine ω3 ?_ | refine ω4 ?_ | refine ω5 ?_ | refine χ1 ?_ | refine κ1 ?_ | refine κ2 ?_ | refine χ2 ?_ | refine κ3 ?_ | refine ω6 ?_ | refine ω7 ?_ | refine ω9 ?_ | refine κ4 ?_ | refine κ7 ?_ | refine κ8 ?_ | refine χ3 ?_ | refine χ4 ?_ | refine κ5 ?_ | refine κ6 ?_ | refine χ5 ?_ | refine χ6 ?_ | refine χ7 ?_ | refine ω8 ?_
  refine cl (rdLoad_any ha hx04 hN4 (.inl rfl) hRf) ?_
  rintro _ w5 ⟨rfl, hg5, hF5⟩
  have hx05 : Ext w w5 := hg5.old hx04 (fun k e => by subst e; exact (hN4 _ (.inl rfl)).1)
  repeat first | refine ω1 ?_ | refine ω2 ?_ | refine ω3 ?_ | refine ω4 ?_ | refine ω5 ?_ | refine χ1 ?_ | refine κ1 ?_ | refine κ2 ?_ | refine χ2 ?_ | refine κ3 ?_ | refine ω6 ?_ | refine ω7 ?_ | refine ω9 ?_ | refine κ4 ?_ | refine κ7 ?_ | refine κ8 ?_ | refine χ3 ?_ | refine χ4 ?_ | refine κ5 ?_ | refine κ6 ?_ | refine χ5 ?_ | refine χ6 ?_ | refine χ7 ?_ | refine ω8 ?_
  refine cl (rdLoad_any hb hx05 (fun k hk => ⟨(hN4 k hk).1, Nat.lt_of_lt_of_le (hN4 k hk).2 hg5.size⟩) (.inr (.inl rfl)) (hRt.gr hg5 (.inl rfl) (Ne.symm hne))) ?_
  rintro _ w6 ⟨rfl, hg6, hT6⟩
  have hx06 : Ext w w6 := hg6.old hx05 (fun k e => by subst e; exact (hN4 _ (.inr (.inl rfl))).1)
  have hF6 := hF5.gr hg6 (.inr (.inl rfl)) hne
  have hbf0 := (hN4 bf (.inl rfl)).1
  have hbt0 := (hN4 bt (.inr (.inl rfl))).1
  have hbf6 : bf < w6.heap.size := Nat.lt_of_lt_of_le (hN4 bf (.inl rfl)).2 (Nat.le_trans hg5.size hg6.size)
  have hbt6 : bt < w6.heap.size := Nat.lt_of_lt_of_le (hN4 bt (.inr (.inl rfl))).2 (Nat.le_trans hg5.size hg6.size)
  repeat first | refine ω1 ?_ | refine ω2 ?_ | refine ω3 ?_ | refine ω4 ?_ | refine ω5 ?_ | refine χ1 ?_ | refine κ1 ?_ | refine κ2 ?_ | refine χ2 ?_ | refine κ3 ?_ | refine ω6 ?_ | refine ω7 ?_ | refine ω9 ?_ | refine κ4 ?_ | refine κ7 ?_ | refine κ8 ?_ | refine χ3 ?_ | refine χ4 ?_ | refine κ5 ?_ | refine κ6 ?_ | refine χ5 ?_ | refine χ6 ?_ | refine χ7 ?_ | refine ω8 ?_
  refine wloop4 (fun (v : Value) (p q : Nat) (cs : List Value) => [(2, vc), (3, .slice none 0 0), (4, .int .i64 100), (12, .pointer (some ⟨bf, 0, none⟩)), (13, .pointer (some ⟨bt, 0, none⟩)), (16, v)])
    (fun v p q cs w' => Ext w w' ∧ bf < w'.heap.size ∧ bt < w'.heap.size ∧ w'.ownsRow w.heap.size 125 2 v (p + q) cs ∧ Rdr w' (CN bf bt v) bf (.iface ta xa) L p ∧ Rdr w' (CN bf bt v) bt (.iface tb xb) M q ∧ p ≤ L.length ∧ q ≤ M.length ∧ (p = 0 ∨ M.length = 0) ∧ (q = 0 ∨ L.length = 0))
    (fun _ p q _ => L.length + M.length - (p + q)) (.slice none 0 0) 0 0 [] (by repeat' (first | exact Sub.nil | refine Sub.cons rfl ?_)) ⟨hx06, hbf6, hbt6, own_nil _ _ _ _, hF6, hT6, Nat.zero_le _, Nat.zero_le _, .inl rfl, .inl rfl⟩ ?_
  rintro v p q cs w7 ⟨hx7, hbf7, hbt7, ho7, hF7, hT7, hp7, hq7, hpm, hql⟩
  obtain ⟨Av, cv, rfl, _⟩ := own_form ho7
  have hN7 : ∀ k, CN bf bt (.slice Av (p + q) cv) k → w.heap.size ≤ k ∧ k < w7.heap.size := fun k hk => by
    rcases hk with rfl | rfl | h
    · exact ⟨hbf0, hbf7⟩
    · exact ⟨hbt0, hbt7⟩
    · exact World.ownsRow.lt ho7 k h
  obtain ⟨vrf, hFp, hFr⟩ := id hF7
  obtain ⟨vrt, hTp, hTr⟩ := id hT7
  repeat first | refine ω1 ?_ | refine ω2 ?_ | refine ω3 ?_ | refine ω4 ?_ | refine ω5 ?_ | refine χ1 ?_ | refine κ1 ?_ | refine κ2 ?_ | refine χ2 ?_ | refine κ3 ?_ | refine ω6 ?_ | refine ω7 ?_ | refine ω9 ?_ | refine κ4 ?_ | refine κ7 ?_ | refine κ8 ?_ | refine χ3 ?_ | refine χ4 ?_ | refine κ5 ?_ | refine κ6 ?_ | refine χ5 ?_ | refine χ6 ?_ | refine χ7 ?_ | refine ω8 ?_
  have hpq : p + q < 100 := by omega
  have hpq' : ((p + q : Nat) : Int) < 100 := by omega
  refine kt 53 (decide_eq_true hpq') ?_
  repeat first | refine ω1 ?_ | refine ω2 ?_ | refine ω3 ?_ | refine ω4 ?_ | refine ω5 ?_ | refine χ1 ?_ | refine κ1 ?_ | refine κ2 ?_ | refine χ2 ?_ | refine κ3 ?_ | refine ω6 ?_ | refine ω7 ?_ | refine ω9 ?_ | refine κ4 ?_ | refine κ7 ?_ | refine κ8 ?_ | refine χ3 ?_ | refine χ4 ?_ | refine κ5 ?_ | refine κ6 ?_ | refine χ5 ?_ | refine χ6 ?_ | refine χ7 ?_ | refine ω8 ?_
  refine wljoin1 (fun (t : Bool) => [(2, vc), (3, .slice none 0 0), (4, .int .i64 100), (12, .pointer (some ⟨bf, 0, none⟩)), (13, .pointer (some ⟨bt, 0, none⟩)), (16, .slice Av (p + q) cv), (61, .bool t)])
    (fun t w8 => Ext w7 w8 ∧ t = !decide (L.length ≤ p ∧ M.length ≤ q)) ?_ ?_
  · refine cl (rdDone_any hFp) ?_
    rintro _ w8 ⟨rfl, hx8⟩
    repeat first | refine ω1 ?_ | refine ω2 ?_ | refine ω3 ?_ | refine ω4 ?_ | refine ω5 ?_ | refine χ1 ?_ | refine κ1 ?_ | refine κ2 ?_ | refine χ2 ?_ | refine κ3 ?_ | refine ω6 ?_ | refine ω7 ?_ | refine ω9 ?_ | refine κ4 ?_ | refine κ7 ?_ | refine κ8 ?_ | refine χ3 ?_ | refine χ4 ?_ | refine κ5 ?_ | refine κ6 ?_ | refine χ5 ?_ | refine χ6 ?_ | refine χ7 ?_ | refine ω8 ?_
    refine ki 56 (fun h => ?_) (fun h => ?_)
    · repeat first | refine ω1 ?_ | refine ω2 ?_ | refine ω3 ?_ | refine ω4 ?_ | refine ω5 ?_ | refine χ1 ?_ | refine κ1 ?_ | refine κ2 ?_ | refine χ2 ?_ | refine κ3 ?_ | refine ω6 ?_ | refine ω7 ?_ | refine ω9 ?_ | refine κ4 ?_ | refine κ7 ?_ | refine κ8 ?_ | refine χ3 ?_ | refine χ4 ?_ | refine κ5 ?_ | refine κ6 ?_ | refine χ5 ?_ | refine χ6 ?_ | refine χ7 ?_ | refine ω8 ?_
      refine cl (rdDone_any (hTp.ext hx8)) ?_
      rintro _ w9 ⟨rfl, hx9⟩
      repeat first | refine ω1 ?_ | refine ω2 ?_ | refine ω3 ?_ | refine ω4 ?_ | refine ω5 ?_ | refine χ1 ?_ | refine κ1 ?_ | refine κ2 ?_ | refine χ2 ?_ | refine κ3 ?_ | refine ω6 ?_ | refine ω7 ?_ | refine ω9 ?_ | refine κ4 ?_ | refine κ7 ?_ | refine κ8 ?_ | refine χ3 ?_ | refine χ4 ?_ | refine κ5 ?_ | refine κ6 ?_ | refine χ5 ?_ | refine χ6 ?_ | refine χ7 ?_ | refine ω8 ?_
      refine qjoin1 _ (by repeat' (first | exact Sub.nil | refine Sub.cons rfl ?_)) ⟨hx8.trans hx9, ?_⟩
      have := of_decide_eq_true h
      simp [this]
    · repeat first | refine ω1 ?_ | refine ω2 ?_ | refine ω3 ?_ | refine ω4 ?_ | refine ω5 ?_ | refine χ1 ?_ | refine κ1 ?_ | refine κ2 ?_ | refine χ2 ?_ | refine κ3 ?_ | refine ω6 ?_ | refine ω7 ?_ | refine ω9 ?_ | refine κ4 ?_ | refine κ7 ?_ | refine κ8 ?_ | refine χ3 ?_ | refine χ4 ?_ | refine κ5 ?_ | refine κ6 ?_ | refine χ5 ?_ | refine χ6 ?_ | refine χ7 ?_ | refine ω8 ?_
      refine qjoin1 true (by repeat' (first | exact Sub.nil | refine Sub.cons rfl ?_)) ⟨hx8, ?_⟩
      have := of_decide_eq_false h
      simp; omega
  rintro t w8 ⟨hx8, rfl⟩
  have hx08 := hx7.trans hx8
  have hF8 := hF7.ext hx8
  have hT8 := hT7.ext hx8
  have ho8 : w8.ownsRow w.heap.size 125 2 (.slice Av (p + q) cv) (p + q) cs := own_gr ho7 (GrN.ext (N := fun _ => False) hx8) (fun _ _ h => h)
  repeat first | refine ω1 ?_ | refine ω2 ?_ | refine ω3 ?_ | refine ω4 ?_ | refine ω5 ?_ | refine χ1 ?_ | refine κ1 ?_ | refine κ2 ?_ | refine χ2 ?_ | refine κ3 ?_ | refine ω6 ?_ | refine ω7 ?_ | refine ω9 ?_ | refine κ4 ?_ | refine κ7 ?_ | refine κ8 ?_ | refine χ3 ?_ | refine χ4 ?_ | refine κ5 ?_ | refine κ6 ?_ | refine χ5 ?_ | refine χ6 ?_ | refine χ7 ?_ | refine ω8 ?_
  refine ci (fun h => ?_) (fun h => ?_)
  · have hnd : ¬ (L.length ≤ p ∧ M.length ≤ q) := by
      intro h2
      rw [decide_eq_true h2] at h
      cases h
    repeat first | refine ω1 ?_ | refine ω2 ?_ | refine ω3 ?_ | refine ω4 ?_ | refine ω5 ?_ | refine χ1 ?_ | refine κ1 ?_ | refine κ2 ?_ | refine χ2 ?_ | refine κ3 ?_ | refine ω6 ?_ | refine ω7 ?_ | refine ω9 ?_ | refine κ4 ?_ | refine κ7 ?_ | refine κ8 ?_ | refine χ3 ?_ | refine χ4 ?_ | refine κ5 ?_ | refine κ6 ?_ | refine χ5 ?_ | refine χ6 ?_ | refine χ7 ?_ | refine ω8 ?_
    refine cl (against_any (hc.ext hx08) hF8 hT8 hL) ?_
    rintro _ w9 ⟨rfl, hx9⟩
    have hx09 := hx08.trans hx9
    have hF9 := hF8.ext hx9
    have hT9 := hT8.ext hx9
    have ho9 : w9.ownsRow w.heap.size 125 2 (.slice Av (p + q) cv) (p + q) cs := own_gr ho8 (GrN.ext (N := fun _ => False) hx9) (fun _ _ h => h)
    have hs9 := (hx8.trans hx9).size
    by_cases hM : M.length ≤ q
    · rw [if_pos hM]
      have hlt : p < L.length := by omega
      obtain ⟨vrf9, hFp9, hFr9⟩ := id hF9
      obtain ⟨vn9, vp9, hk9, _⟩ := id hFp9
      obtain ⟨Ar, cr, rfl, _⟩ := hFr9 hlt
      repeat first | refine ω1 ?_ | refine ω2 ?_ | refine ω3 ?_ | refine ω4 ?_ | refine ω5 ?_ | refine χ1 ?_ | refine κ1 ?_ | refine κ2 ?_ | refine χ2 ?_ | refine κ3 ?_ | refine ω6 ?_ | refine ω7 ?_ | refine ω9 ?_ | refine κ4 ?_ | refine κ7 ?_ | refine κ8 ?_ | refine χ3 ?_ | refine χ4 ?_ | refine κ5 ?_ | refine κ6 ?_ | refine χ5 ?_ | refine χ6 ?_ | refine χ7 ?_ | refine ω8 ?_
      refine ld (hk9.at rfl) ?_
      repeat first | refine ω1 ?_ | refine ω2 ?_ | refine ω3 ?_ | refine ω4 ?_ | refine ω5 ?_ | refine χ1 ?_ | refine κ1 ?_ | refine κ2 ?_ | refine χ2 ?_ | refine κ3 ?_ | refine ω6 ?_ | refine ω7 ?_ | refine ω9 ?_ | refine κ4 ?_ | refine κ7 ?_ | refine κ8 ?_ | refine χ3 ?_ | refine χ4 ?_ | refine κ5 ?_ | refine κ6 ?_ | refine χ5 ?_ | refine χ6 ?_ | refine χ7 ?_ | refine ω8 ?_
      refine bld (bldChg _ _ _ _ rfl _) ?_
      repeat first | refine ω1 ?_ | refine ω2 ?_ | refine ω3 ?_ | refine ω4 ?_ | refine ω5 ?_ | refine χ1 ?_ | refine κ1 ?_ | refine κ2 ?_ | refine χ2 ?_ | refine κ3 ?_ | refine ω6 ?_ | refine ω7 ?_ | refine ω9 ?_ | refine κ4 ?_ | refine κ7 ?_ | refine κ8 ?_ | refine χ3 ?_ | refine χ4 ?_ | refine κ5 ?_ | refine κ6 ?_ | refine χ5 ?_ | refine χ6 ?_ | refine χ7 ?_ | refine ω8 ?_
      refine bsl (bsChg _ _ _ _) ?_
      intro w10 b10 hx10 hb10 hk10
      have ho10 : w10.ownsRow w.heap.size 125 2 (.slice Av (p + q) cv) (p + q) cs := own_gr ho9 (GrN.ext (N := fun _ => False) hx10) (fun _ _ h => h)
      have hx010 := hx09.trans hx10
      repeat first | refine ω1 ?_ | refine ω2 ?_ | refine ω3 ?_ | refine ω4 ?_ | refine ω5 ?_ | refine χ1 ?_ | refine κ1 ?_ | refine κ2 ?_ | refine χ2 ?_ | refine κ3 ?_ | refine ω6 ?_ | refine ω7 ?_ | refine ω9 ?_ | refine κ4 ?_ | refine κ7 ?_ | refine κ8 ?_ | refine χ3 ?_ | refine χ4 ?_ | refine κ5 ?_ | refine κ6 ?_ | refine χ5 ?_ | refine χ6 ?_ | refine χ7 ?_ | refine ω8 ?_
      refine apo (a := w) hx010 EC ho10 (hk10.rd (sz := 2) (n := 1) rfl) (fun u hu => by simp at hu; rcases hu with rfl | rfl <;> rfl) (by unfold maxLen; omega) (by omega) ?_
      intro v11 w11 ho11 hx11 hg11 hb11
      have hF11 := (hF9.ext hx10).app ho10 rfl hg11 hb11
      have hT11 := (hT9.ext hx10).app ho10 rfl hg11 hb11
      have hs11 := hg11.size
      have hs10 := hx10.size
      have hN11 : ∀ k, CN bf bt v11 k → w.heap.size ≤ k ∧ k < w11.heap.size := fun k hk => by
        rcases hk with rfl | rfl | h
        · exact ⟨hbf0, by omega⟩
        · exact ⟨hbt0, by omega⟩
        · exact World.ownsRow.lt ho11 k h
      obtain ⟨vrf11, hFp11, _⟩ := id hF11
      repeat first | refine ω1 ?_ | refine ω2 ?_ | refine ω3 ?_ | refine ω4 ?_ | refine ω5 ?_ | refine χ1 ?_ | refine κ1 ?_ | refine κ2 ?_ | refine χ2 ?_ | refine κ3 ?_ | refine ω6 ?_ | refine ω7 ?_ | refine ω9 ?_ | refine κ4 ?_ | refine κ7 ?_ | refine κ8 ?_ | refine χ3 ?_ | refine χ4 ?_ | refine κ5 ?_ | refine κ6 ?_ | refine χ5 ?_ | refine χ6 ?_ | refine χ7 ?_ | refine ω8 ?_
      refine cl (rdAdvance_any ha hx11 hN11 (.inl rfl) hFp11 (by omega)) ?_
      rintro _ w12 ⟨rfl, hg12, hF12⟩
      have hx12 : Ext w w12 := hg12.old hx11 (fun k e => by subst e; exact hbf0)
      have hT12 := hT11.gr hg12 (.inl rfl) (Ne.symm hne)
      have ho12 := own_gr ho11 hg12 (fun g hg e => by
        obtain ⟨vn, vp, hk, _⟩ := hFp11
        exact hk.ne_own ho11 rfl (by rw [hg, e]))
      have hs12 := hg12.size
      repeat first | refine ω1 ?_ | refine ω2 ?_ | refine ω3 ?_ | refine ω4 ?_ | refine ω5 ?_ | refine χ1 ?_ | refine κ1 ?_ | refine κ2 ?_ | refine χ2 ?_ | refine κ3 ?_ | refine ω6 ?_ | refine ω7 ?_ | refine ω9 ?_ | refine κ4 ?_ | refine κ7 ?_ | refine κ8 ?_ | refine χ3 ?_ | refine χ4 ?_ | refine κ5 ?_ | refine κ6 ?_ | refine χ5 ?_ | refine χ6 ?_ | refine χ7 ?_ | refine ω8 ?_
      rw [show p + q + 1 = p + 1 + q by omega] at ho12
      have z1 : bf < w12.heap.size := by omega
      have z2 : bt < w12.heap.size := by omega
      exact qround4 v11 (p + 1) q _ (by repeat' (first | exact Sub.nil | refine Sub.cons rfl ?_)) ⟨hx12, z1, z2, ho12, hF12, hT12, hlt, hq7, .inr (by omega), hql⟩ (by omega)
    · rw [if_neg hM]
      by_cases hL0 : L.length ≤ p
      · rw [if_pos hL0]
        have hlt : q < M.length := by omega
        obtain ⟨vrt9, hTp9, hTr9⟩ := id hT9
        obtain ⟨vn9, vp9, hk9, _⟩ := id hTp9
        obtain ⟨Ar, cr, rfl, _⟩ := hTr9 hlt
        repeat first | refine ω1 ?_ | refine ω2 ?_ | refine ω3 ?_ | refine ω4 ?_ | refine ω5 ?_ | refine χ1 ?_ | refine κ1 ?_ | refine κ2 ?_ | refine χ2 ?_ | refine κ3 ?_ | refine ω6 ?_ | refine ω7 ?_ | refine ω9 ?_ | refine κ4 ?_ | refine κ7 ?_ | refine κ8 ?_ | refine χ3 ?_ | refine χ4 ?_ | refine κ5 ?_ | refine κ6 ?_ | refine χ5 ?_ | refine χ6 ?_ | refine χ7 ?_ | refine ω8 ?_
        refine ld (hk9.at rfl) ?_
        repeat first | refine ω1 ?_ | refine ω2 ?_ | refine ω3 ?_ | refine ω4 ?_ | refine ω5 ?_ | refine χ1 ?_ | refine κ1 ?_ | refine κ2 ?_ | refine χ2 ?_ | refine κ3 ?_ | refine ω6 ?_ | refine ω7 ?_ | refine ω9 ?_ | refine κ4 ?_ | refine κ7 ?_ | refine κ8 ?_ | refine χ3 ?_ | refine χ4 ?_ | refine κ5 ?_ | refine κ6 ?_ | refine χ5 ?_ | refine χ6 ?_ | refine χ7 ?_ | refine ω8 ?_
        refine bld (bldChg0 _ _ _ _ rfl _) ?_
        repeat first | refine ω1 ?_ | refine ω2 ?_ | refine ω3 ?_ | refine ω4 ?_ | refine ω5 ?_ | refine χ1 ?_ | refine κ1 ?_ | refine κ2 ?_ | refine χ2 ?_ | refine κ3 ?_ | refine ω6 ?_ | refine ω7 ?_ | refine ω9 ?_ | refine κ4 ?_ | refine κ7 ?_ | refine κ8 ?_ | refine χ3 ?_ | refine χ4 ?_ | refine κ5 ?_ | refine κ6 ?_ | refine χ5 ?_ | refine χ6 ?_ | refine χ7 ?_ | refine ω8 ?_
        refine bsl (bsChg _ _ _ _) ?_
        intro w10 b10 hx10 hb10 hk10
        have ho10 : w10.ownsRow w.heap.size 125 2 (.slice Av (p + q) cv) (p + q) cs := own_gr ho9 (GrN.ext (N := fun _ => False) hx10) (fun _ _ h => h)
        have hx010 := hx09.trans hx10
        repeat first | refine ω1 ?_ | refine ω2 ?_ | refine ω3 ?_ | refine ω4 ?_ | refine ω5 ?_ | refine χ1 ?_ | refine κ1 ?_ | refine κ2 ?_ | refine χ2 ?_ | refine κ3 ?_ | refine ω6 ?_ | refine ω7 ?_ | refine ω9 ?_ | refine κ4 ?_ | refine κ7 ?_ | refine κ8 ?_ | refine χ3 ?_ | refine χ4 ?_ | refine κ5 ?_ | refine κ6 ?_ | refine χ5 ?_ | refine χ6 ?_ | refine χ7 ?_ | refine ω8 ?_
        refine apo (a := w) hx010 EC ho10 (hk10.rd (sz := 2) (n := 1) rfl) (fun u hu => by simp at hu; rcases hu with rfl | rfl <;> rfl) (by unfold maxLen; omega) (by omega) ?_
        intro v11 w11 ho11 hx11 hg11 hb11
        have hF11 := (hF9.ext hx10).app ho10 rfl hg11 hb11
        have hT11 := (hT9.ext hx10).app ho10 rfl hg11 hb11
        have hs11 := hg11.size
        have hs10 := hx10.size
        have hN11 : ∀ k, CN bf bt v11 k → w.heap.size ≤ k ∧ k < w11.heap.size := fun k hk => by
          rcases hk with rfl | rfl | h
          · exact ⟨hbf0, by omega⟩
          · exact ⟨hbt0, by omega⟩
          · exact World.ownsRow.lt ho11 k h
        obtain ⟨vrt11, hTp11, _⟩ := id hT11
        repeat first | refine ω1 ?_ | refine ω2 ?_ | refine ω3 ?_ | refine ω4 ?_ | refine ω5 ?_ | refine χ1 ?_ | refine κ1 ?_ | refine κ2 ?_ | refine χ2 ?_ | refine κ3 ?_ | refine ω6 ?_ | refine ω7 ?_ | refine ω9 ?_ | refine κ4 ?_ | refine κ7 ?_ | refine κ8 ?_ | refine χ3 ?_ | refine χ4 ?_ | refine κ5 ?_ | refine κ6 ?_ | refine χ5 ?_ | refine χ6 ?_ | refine χ7 ?_ | refine ω8 ?_
        refine cl (rdAdvance_any hb hx11 hN11 (.inr (.inl rfl)) hTp11 (by omega)) ?_
        rintro _ w12 ⟨rfl, hg12, hT12⟩
        have hx12 : Ext w w12 := hg12.old hx11 (fun k e => by subst e; exact hbt0)
        have hF12 := hF11.gr hg12 (.inr (.inl rfl)) hne
        have ho12 := own_gr ho11 hg12 (fun g hg e => by
          obtain ⟨vn, vp, hk, _⟩ := hTp11
          exact hk.ne_own ho11 rfl (by rw [hg, e]))
        have hs12 := hg12.size
        repeat first | refine ω1 ?_ | refine ω2 ?_ | refine ω3 ?_ | refine ω4 ?_ | refine ω5 ?_ | refine χ1 ?_ | refine κ1 ?_ | refine κ2 ?_ | refine χ2 ?_ | refine κ3 ?_ | refine ω6 ?_ | refine ω7 ?_ | refine ω9 ?_ | refine κ4 ?_ | refine κ7 ?_ | refine κ8 ?_ | refine χ3 ?_ | refine χ4 ?_ | refine κ5 ?_ | refine κ6 ?_ | refine χ5 ?_ | refine χ6 ?_ | refine χ7 ?_ | refine ω8 ?_
        have z1 : bf < w12.heap.size := by omega
        have z2 : bt < w12.heap.size := by omega
        exact qround4 v11 p (q + 1) _ (by repeat' (first | exact Sub.nil | refine Sub.cons rfl ?_)) ⟨hx12, z1, z2, ho12, hF12, hT12, hp7, hlt, hpm, .inr (by omega)⟩ (by omega)
      · rw [if_neg hL0]
        repeat first | refine ω1 ?_ | refine ω2 ?_ | refine ω3 ?_ | refine ω4 ?_ | refine ω5 ?_ | refine χ1 ?_ | refine κ1 ?_ | refine κ2 ?_ | refine χ2 ?_ | refine κ3 ?_ | refine ω6 ?_ | refine ω7 ?_ | refine ω9 ?_ | refine κ4 ?_ | refine κ7 ?_ | refine κ8 ?_ | refine χ3 ?_ | refine χ4 ?_ | refine κ5 ?_ | refine κ6 ?_ | refine χ5 ?_ | refine χ6 ?_ | refine χ7 ?_ | refine ω8 ?_
        have e : (if L.length = 0 ∨ M.length = 0 then (0 : Int) else 6) = 6 := if_neg (by omega)
        rw [e]
        exact fin2 ⟨⟨.slice none 0 0, rfl⟩, hx09⟩
  · have hnd : L.length ≤ p ∧ M.length ≤ q := by simpa using h
    repeat first | refine ω1 ?_ | refine ω2 ?_ | refine ω3 ?_ | refine ω4 ?_ | refine ω5 ?_ | refine χ1 ?_ | refine κ1 ?_ | refine κ2 ?_ | refine χ2 ?_ | refine κ3 ?_ | refine ω6 ?_ | refine ω7 ?_ | refine ω9 ?_ | refine κ4 ?_ | refine κ7 ?_ | refine κ8 ?_ | refine χ3 ?_ | refine χ4 ?_ | refine κ5 ?_ | refine κ6 ?_ | refine χ5 ?_ | refine χ6 ?_ | refine χ7 ?_ | refine ω8 ?_
    have e : (if L.length = 0 ∨ M.length = 0 then (0 : Int) else 6) = 0 := if_pos (by omega)
    rw [e]
    exact fin2 ⟨⟨.slice Av (p + q) cv, rfl⟩, hx08⟩
end Go.Proofs.Ytpahjnfolbnloaa
