/- Contract of codec.Encode. -/
import Derived.Test.YthjnmclnafbcdaaRow
set_option linter.unusedVariables false
namespace Go.Proofs.Ythjnmclnafbcdaa
open Go.RowKit Pl Go.Wk
attribute [local irreducible] WC WL QX WD

def encN (r : List V) (ds : List Bool) : Nat → List UInt8
  | 0 => []
  | k + 1 => encN r ds k ++ (r.getD k V0).enc (ds.getD k false)
def encR (r : List V) (ds : List Bool) : List UInt8 := encN r ds r.length
theorem enc_len {v : V} (h : v.valid = true) (d : Bool) : (v.enc d).length ≤ 60 := by
  have h1 := valid_size h
  have := esc_len v.bytes
  have h2 := bytes_len v
  rw [V.enc, flp_len]
  unfold V.raw
  split
  · simp [be8]
  · simp; omega
/-- what Encode hands back -/
def EncT (r : List V) (ds : List Bool) (w : World) (t : Value) (w' : World) : Prop :=
  Ext w w' ∧ ((r.all V.valid = true ∧ ∃ x, t = .tuple #[x, .int .i64 0] ∧ OwnB w' w.heap.size x (encR r ds)) ∨ (r.all V.valid = false ∧ t = .tuple #[.slice none 0 0, .int .i64 4]))
set_option maxRecDepth 100000 in
theorem encode_any (A D : Option Addr) (r : List V) (ds : List Bool) (c dc : Nat) (w : World) (hr : RdR w A r) (hok : RowOk r) (hd : RdB w D ds) (hl : r.length ≤ 1000) (hdl : ds.length ≤ 9223372036854775807) :
    Ret Try.prog 19 [.slice A r.length c, .slice D ds.length dc] w (EncT r ds w) := by
  refine enterR Try.func19 Try.ntmps19 rfl (by kernel_rfl) rfl ?_
  repeat first | refine ω1 ?_ | refine ω2 ?_ | refine ω3 ?_ | refine ω4 ?_ | refine ω5 ?_ | refine χ1 ?_ | refine κ1 ?_ | refine κ2 ?_ | refine χ2 ?_ | refine κ3 ?_ | refine ω6 ?_ | refine ω7 ?_ | refine ω9 ?_ | refine κ4 ?_ | refine κ7 ?_ | refine κ8 ?_ | refine χ3 ?_ | refine χ4 ?_ | refine κ5 ?_ | refine κ6 ?_ | refine χ5 ?_ | refine χ6 ?_ | refine χ7 ?_ | refine ω8 ?_
  refine wloop2 (fun k v6 => [(0, .slice A r.length c), (1, .slice D ds.length dc), (6, v6), (10, .int .i64 (r.length : Int)), (11, .int .i64 ((k : Nat) : Int))])
    (fun k v6 w' => Ext w w' ∧ k ≤ r.length ∧ (r.take k).all V.valid = true ∧ OwnB w' w.heap.size v6 (encN r ds k) ∧ (encN r ds k).length ≤ 60 * k) (fun k _ => r.length - k) 0 (.slice none 0 0) (by repeat' (first | exact Sub.nil | refine Sub.cons rfl ?_))
    ⟨Ext.refl w, Nat.zero_le _, rfl, own_nil _ _ _ _, by simp [encN]⟩ ?_
  rintro k v6 w1 ⟨hx, hk, hv, ho, hn⟩
  have hr1 := hr.ext hx
  have hd1 := hd.ext hx
  repeat first | refine ω1 ?_ | refine ω2 ?_ | refine ω3 ?_ | refine ω4 ?_ | refine ω5 ?_ | refine χ1 ?_ | refine κ1 ?_ | refine κ2 ?_ | refine χ2 ?_ | refine κ3 ?_ | refine ω6 ?_ | refine ω7 ?_ | refine ω9 ?_ | refine κ4 ?_ | refine κ7 ?_ | refine κ8 ?_ | refine χ3 ?_ | refine χ4 ?_ | refine κ5 ?_ | refine κ6 ?_ | refine χ5 ?_ | refine χ6 ?_ | refine χ7 ?_ | refine ω8 ?_
  refine ci (fun h => ?_) (fun h => ?_)
  · have hlt : k < r.length := by have := of_decide_eq_true h; omega
    repeat first | refine ω1 ?_ | refine ω2 ?_ | refine ω3 ?_ | refine ω4 ?_ | refine ω5 ?_ | refine χ1 ?_ | refine κ1 ?_ | refine κ2 ?_ | refine χ2 ?_ | refine κ3 ?_ | refine ω6 ?_ | refine ω7 ?_ | refine ω9 ?_ | refine κ4 ?_ | refine κ7 ?_ | refine κ8 ?_ | refine χ3 ?_ | refine χ4 ?_ | refine κ5 ?_ | refine κ6 ?_ | refine χ5 ?_ | refine χ6 ?_ | refine χ7 ?_ | refine ω8 ?_
    refine ixq 3 k hr1 hlt ?_
    refine lds (fun j u hu => RdR.cell hr1 hlt hu) ?_
    refine cl (valid_any (r.getD k V0) w1) ?_
    rintro x w2 ⟨rfl, hx2⟩
    have hr2 := hr1.ext hx2
    have hd2 := hd1.ext hx2
    repeat first | refine ω1 ?_ | refine ω2 ?_ | refine ω3 ?_ | refine ω4 ?_ | refine ω5 ?_ | refine χ1 ?_ | refine κ1 ?_ | refine κ2 ?_ | refine χ2 ?_ | refine κ3 ?_ | refine ω6 ?_ | refine ω7 ?_ | refine ω9 ?_ | refine κ4 ?_ | refine κ7 ?_ | refine κ8 ?_ | refine χ3 ?_ | refine χ4 ?_ | refine κ5 ?_ | refine κ6 ?_ | refine χ5 ?_ | refine χ6 ?_ | refine χ7 ?_ | refine ω8 ?_
    refine ci (fun h => ?_) (fun h => ?_)
    · repeat first | refine ω1 ?_ | refine ω2 ?_ | refine ω3 ?_ | refine ω4 ?_ | refine ω5 ?_ | refine χ1 ?_ | refine κ1 ?_ | refine κ2 ?_ | refine χ2 ?_ | refine κ3 ?_ | refine ω6 ?_ | refine ω7 ?_ | refine ω9 ?_ | refine κ4 ?_ | refine κ7 ?_ | refine κ8 ?_ | refine χ3 ?_ | refine χ4 ?_ | refine κ5 ?_ | refine κ6 ?_ | refine χ5 ?_ | refine χ6 ?_ | refine χ7 ?_ | refine ω8 ?_
      exact fin2 ⟨hx.trans hx2, .inr ⟨all_false hlt (by simpa using h), rfl⟩⟩
    · have hval : (r.getD k V0).valid = true := by simpa using h
      repeat first | refine ω1 ?_ | refine ω2 ?_ | refine ω3 ?_ | refine ω4 ?_ | refine ω5 ?_ | refine χ1 ?_ | refine κ1 ?_ | refine κ2 ?_ | refine χ2 ?_ | refine κ3 ?_ | refine ω6 ?_ | refine ω7 ?_ | refine ω9 ?_ | refine κ4 ?_ | refine κ7 ?_ | refine κ8 ?_ | refine χ3 ?_ | refine χ4 ?_ | refine κ5 ?_ | refine κ6 ?_ | refine χ5 ?_ | refine χ6 ?_ | refine χ7 ?_ | refine ω8 ?_
      have hxd : Ext w2 w2.drew := (Ext.refl w2).drew
      have hr3 := hr2.ext hxd
      have hd3 := hd2.ext hxd
      have hwf := valid_wf hval (hok _ (getD_mem hlt))
      have hsz := valid_size hval
      refine wjoin1 (fun v8 => [(0, .slice A r.length c), (1, .slice D ds.length dc), (6, v6), (8, v8), (10, .int .i64 (r.length : Int)), (11, .int .i64 (k : Int))])
        (fun v8 w' => OwnB w' w2.drew.heap.size v8 ((r.getD k V0).enc (ds.getD k false)) ∧ Ext w2 w') ?_ ?_
      · refine dr [(0, 0), (0, 1), (0, 2), (0, 3), (0, 4), (0, 5), (0, 6), (0, 7), (0, 8), (0, 9), (0, 10), (0, 11), (0, 12), (0, 13), (1, 14), (0, 15)] (by kernel_rfl) ?_
        repeat first | refine δ1 ?_ | refine δ2 ?_ | refine δ4 ?_ | refine δ5 ?_ | refine δ6 ?_ | refine δ7 ?_ | refine δ9 ?_ | refine δ8 ?_ | refine χ1 ?_ | refine χ2 ?_ | refine χ3 ?_ | refine χ4 ?_ | refine χ5 ?_ | refine χ6 ?_ | refine χ7 ?_
        refine dixq 3 k hr3 hlt ?_
        refine dlds (fun j u hu => RdR.cell hr3 hlt hu) ?_
        repeat first | refine δ1 ?_ | refine δ2 ?_ | refine δ4 ?_ | refine δ5 ?_ | refine δ6 ?_ | refine δ7 ?_ | refine δ9 ?_ | refine δ8 ?_ | refine χ1 ?_ | refine χ2 ?_ | refine χ3 ?_ | refine χ4 ?_ | refine χ5 ?_ | refine χ6 ?_ | refine χ7 ?_
        refine dki 28 (fun h => ?_) (fun h => ?_)
        · have hlt2 : k < ds.length := by have := of_decide_eq_true h; omega
          repeat first | refine δ1 ?_ | refine δ2 ?_ | refine δ4 ?_ | refine δ5 ?_ | refine δ6 ?_ | refine δ7 ?_ | refine δ9 ?_ | refine δ8 ?_ | refine χ1 ?_ | refine χ2 ?_ | refine χ3 ?_ | refine χ4 ?_ | refine χ5 ?_ | refine χ6 ?_ | refine χ7 ?_
          refine dix k hd3 hlt2 ?_
          repeat first | refine δ1 ?_ | refine δ2 ?_ | refine δ4 ?_ | refine δ5 ?_ | refine δ6 ?_ | refine δ7 ?_ | refine δ9 ?_ | refine δ8 ?_ | refine χ1 ?_ | refine χ2 ?_ | refine χ3 ?_ | refine χ4 ?_ | refine χ5 ?_ | refine χ6 ?_ | refine χ7 ?_
          refine dld (RdB.cell hd3 hlt2) ?_
          repeat first | refine δ1 ?_ | refine δ2 ?_ | refine δ4 ?_ | refine δ5 ?_ | refine δ6 ?_ | refine δ7 ?_ | refine δ9 ?_ | refine δ8 ?_ | refine χ1 ?_ | refine χ2 ?_ | refine χ3 ?_ | refine χ4 ?_ | refine χ5 ?_ | refine χ6 ?_ | refine χ7 ?_
          refine dcl (appendValue_any (r.getD k V0) hwf (by omega) (ds.getD k false) w2.drew) ?_
          rintro x w4 ⟨ho4, hx4⟩
          refine ⟨hx4, ?_⟩
          repeat first | refine δ1 ?_ | refine δ2 ?_ | refine δ4 ?_ | refine δ5 ?_ | refine δ6 ?_ | refine δ7 ?_ | refine δ9 ?_ | refine δ8 ?_ | refine χ1 ?_ | refine χ2 ?_ | refine χ3 ?_ | refine χ4 ?_ | refine χ5 ?_ | refine χ6 ?_ | refine χ7 ?_
          exact qjoin1 x (by repeat' (first | exact Sub.nil | refine Sub.cons rfl ?_)) ⟨ho4, hxd.trans hx4⟩
        · have hge2 : ds.length ≤ k := by have := of_decide_eq_false h; omega
          have e : ds.getD k false = false := by simp [List.getD, List.getElem?_eq_none hge2]
          repeat first | refine δ1 ?_ | refine δ2 ?_ | refine δ4 ?_ | refine δ5 ?_ | refine δ6 ?_ | refine δ7 ?_ | refine δ9 ?_ | refine δ8 ?_ | refine χ1 ?_ | refine χ2 ?_ | refine χ3 ?_ | refine χ4 ?_ | refine χ5 ?_ | refine χ6 ?_ | refine χ7 ?_
          refine dcl (appendValue_any (r.getD k V0) hwf (by omega) false w2.drew) ?_
          rintro x w4 ⟨ho4, hx4⟩
          refine ⟨hx4, ?_⟩
          repeat first | refine δ1 ?_ | refine δ2 ?_ | refine δ4 ?_ | refine δ5 ?_ | refine δ6 ?_ | refine δ7 ?_ | refine δ9 ?_ | refine δ8 ?_ | refine χ1 ?_ | refine χ2 ?_ | refine χ3 ?_ | refine χ4 ?_ | refine χ5 ?_ | refine χ6 ?_ | refine χ7 ?_
          exact qjoin1 x (by repeat' (first | exact Sub.nil | refine Sub.cons rfl ?_)) ⟨by rw [e]; exact ho4, hxd.trans hx4⟩
      · rintro v8 w4 ⟨ho4, hx4⟩
        obtain ⟨A8, c8, rfl, hc8, _⟩ := own_form ho4
        have hel := enc_len hval (ds.getD k false)
        repeat first | refine ω1 ?_ | refine ω2 ?_ | refine ω3 ?_ | refine ω4 ?_ | refine ω5 ?_ | refine χ1 ?_ | refine κ1 ?_ | refine κ2 ?_ | refine χ2 ?_ | refine κ3 ?_ | refine ω6 ?_ | refine ω7 ?_ | refine ω9 ?_ | refine κ4 ?_ | refine κ7 ?_ | refine κ8 ?_ | refine χ3 ?_ | refine χ4 ?_ | refine κ5 ?_ | refine κ6 ?_ | refine χ5 ?_ | refine χ6 ?_ | refine χ7 ?_ | refine ω8 ?_
        refine apo ((hx.trans hx2).trans hx4) E8 (own_ext ho (hx2.trans hx4)) (Rd.own ho4) (Bc_one _) (by unfold maxLen; omega) (by omega) ?_
        intro v9 w9 ho9 hx9 _ _
        repeat first | refine ω1 ?_ | refine ω2 ?_ | refine ω3 ?_ | refine ω4 ?_ | refine ω5 ?_ | refine χ1 ?_ | refine κ1 ?_ | refine κ2 ?_ | refine χ2 ?_ | refine κ3 ?_ | refine ω6 ?_ | refine ω7 ?_ | refine ω9 ?_ | refine κ4 ?_ | refine κ7 ?_ | refine κ8 ?_ | refine χ3 ?_ | refine χ4 ?_ | refine κ5 ?_ | refine κ6 ?_ | refine χ5 ?_ | refine χ6 ?_ | refine χ7 ?_ | refine ω8 ?_
        refine qround2 (k + 1) v9 (by repeat' (first | exact Sub.nil | refine Sub.cons rfl ?_)) ⟨hx9, by omega, ?_, ?_, ?_⟩ (by omega)
        · rw [all_snoc hlt, hv, hval]; rfl
        · rw [OwnB, encN, Bc_app, List.length_append]; exact ho9
        · rw [encN, List.length_append]; omega
  · have hge : k = r.length := by have := of_decide_eq_false h; omega
    subst hge
    rw [List.take_length] at hv
    repeat first | refine ω1 ?_ | refine ω2 ?_ | refine ω3 ?_ | refine ω4 ?_ | refine ω5 ?_ | refine χ1 ?_ | refine κ1 ?_ | refine κ2 ?_ | refine χ2 ?_ | refine κ3 ?_ | refine ω6 ?_ | refine ω7 ?_ | refine ω9 ?_ | refine κ4 ?_ | refine κ7 ?_ | refine κ8 ?_ | refine χ3 ?_ | refine χ4 ?_ | refine κ5 ?_ | refine κ6 ?_ | refine χ5 ?_ | refine χ6 ?_ | refine χ7 ?_ | refine ω8 ?_
    exact fin2 ⟨hx, .inl ⟨hv, v6, rfl, ho⟩⟩
end Go.Proofs.Ythjnmclnafbcdaa
