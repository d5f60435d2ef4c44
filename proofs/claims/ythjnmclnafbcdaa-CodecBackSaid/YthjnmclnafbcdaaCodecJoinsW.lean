/- The walk of the law CodecJoins. -/
import Derived.Test.YthjnmclnafbcdaaEncR
import Derived.Test.YthjnmclnafbcdaaOpenR
set_option linter.unusedVariables false
namespace Go.Proofs.Ythjnmclnafbcdaa
open Go.RowKit Pl Go.Wk
attribute [local irreducible] WC WL QX WD
theorem encN_left (a b : List V) (ds : List Bool) : ∀ k, k ≤ a.length → encN (a ++ b) ds k = encN a ds k
  | 0, _ => rfl
  | k + 1, h => by
    have e : (a ++ b).getD k V0 = a.getD k V0 := by simp [List.getD, List.getElem?_append_left (show k < a.length by omega)]
    rw [encN, encN, encN_left a b ds k (by omega), e]
theorem encN_right (a b : List V) (ds : List Bool) : ∀ k, encN (a ++ b) ds (a.length + k) = encR a ds ++ encN b (ds.drop a.length) k
  | 0 => by simp [encN, encR, encN_left a b ds a.length (Nat.le_refl _)]
  | k + 1 => by
    have e : (a ++ b).getD (a.length + k) V0 = b.getD k V0 := by simp [List.getD, List.getElem?_append_right]
    have e2 : ds.getD (a.length + k) false = (ds.drop a.length).getD k false := by simp [List.getD, List.getElem?_drop]
    rw [← Nat.add_assoc, encN, encN, encN_right a b ds k, e, e2, List.append_assoc]
theorem encR_app (a b : List V) (ds : List Bool) : encR (a ++ b) ds = encR a ds ++ encR b (ds.drop a.length) := by
  rw [encR, List.length_append, encN_right]; rfl
theorem drop_min (ds : List Bool) (k : Nat) : ds.drop (min k ds.length) = ds.drop k := by
  rcases Nat.le_total k ds.length with h | h
  · rw [Nat.min_eq_left h]
  · rw [Nat.min_eq_right h, List.drop_of_length_le (Nat.le_refl _), List.drop_of_length_le h]
theorem rowC_one (r : List V) : ∀ u ∈ rowC r, u.oneCell' = true := by
  intro u hu
  obtain ⟨v, _, hv⟩ := List.mem_flatMap.1 hu
  simp [V.cells] at hv
  rcases hv with rfl | rfl | rfl <;> rfl
theorem rowC_app (a b : List V) : rowC (a ++ b) = rowC a ++ rowC b := by simp [rowC]
theorem encN_len {r : List V} {ds : List Bool} (h : r.all V.valid = true) : ∀ k, k ≤ r.length → (encN r ds k).length ≤ 60 * k
  | 0, _ => by simp [encN]
  | k + 1, hk => by
    have h1 := encN_len (ds := ds) h k (by omega)
    have h2 := enc_len (List.all_eq_true.1 h _ (getD_mem (show k < r.length by omega))) (ds.getD k false)
    rw [encN, List.length_append]; omega
theorem greatL_of {r : List V} (h : greatL r = false) : r.length ≤ 12 := by
  unfold greatL at h
  rw [Bool.or_eq_false_iff] at h
  have := of_decide_eq_false h.2
  omega
theorem RowOk.app {a b : List V} (ha : RowOk a) (hb : RowOk b) : RowOk (a ++ b) := fun v hv => (List.mem_append.1 hv).elim (ha v) (hb v)
end Go.Proofs.Ythjnmclnafbcdaa
namespace Go.Proofs.Ythjnmclnafbcdaa.codecJoins
open Go.RowKit Pl Go.Wk
attribute [local irreducible] WC WL QX WD
set_option maxRecDepth 100000 in
set_option maxHeartbeats 1000000 in
theorem walk (A : Option Addr) (a : List V) (ac : Nat) (B : Option Addr) (b : List V) (bc : Nat) (D : Option Addr) (ds : List Bool) (dc : Nat) (w : World) (ha0 : Rd w 3 A a.length (rowC a) ∧ RowOk a) (hac : a.length ≤ ac) (ham : ac ≤ maxLen)
    (hb0 : Rd w 3 B b.length (rowC b) ∧ RowOk b) (hbc : b.length ≤ bc) (hbm : bc ≤ maxLen) (hd : Rd w 1 D ds.length (ds.map Value.bool)) (hdc : ds.length ≤ dc) (hdm : dc ≤ maxLen) :
    Ret Try.prog 6 [.slice A a.length ac, .slice B b.length bc, .slice D ds.length dc] w fun x w' => x = .bool true ∧ Ext w w' := by
  obtain ⟨ha, hoka⟩ := ha0
  obtain ⟨hb, hokb⟩ := hb0
  unfold maxLen at ham hbm hdm
  refine enterR Try.func6 Try.ntmps6 rfl (by kernel_rfl) rfl ?_
  repeat first | refine ω1 ?_ | refine ω2 ?_ | refine ω3 ?_ | refine ω4 ?_ | refine ω5 ?_ | refine χ1 ?_ | refine κ1 ?_ | refine κ2 ?_ | refine χ2 ?_ | refine κ3 ?_ | refine ω6 ?_ | refine ω7 ?_ | refine ω9 ?_ | refine κ4 ?_ | refine κ7 ?_ | refine κ8 ?_ | refine χ3 ?_ | refine χ4 ?_ | refine κ5 ?_ | refine κ6 ?_ | refine χ5 ?_ | refine χ6 ?_ | refine χ7 ?_ | refine ω8 ?_
  refine cl (great_any A a ac w ha (by omega)) ?_
  rintro x w1 ⟨rfl, rfl⟩
  have out : ∀ (w2 : World), Ext w1 w2 → Ret Try.prog 10 [] w2 fun x w' => x = .bool true ∧ Ext w1 w' := fun w2 h => (awake_any w2).mono fun v w' hv => ⟨hv.1, h.trans hv.2⟩
  repeat first | refine ω1 ?_ | refine ω2 ?_ | refine ω3 ?_ | refine ω4 ?_ | refine ω5 ?_ | refine χ1 ?_ | refine κ1 ?_ | refine κ2 ?_ | refine χ2 ?_ | refine κ3 ?_ | refine ω6 ?_ | refine ω7 ?_ | refine ω9 ?_ | refine κ4 ?_ | refine κ7 ?_ | refine κ8 ?_ | refine χ3 ?_ | refine χ4 ?_ | refine κ5 ?_ | refine κ6 ?_ | refine χ5 ?_ | refine χ6 ?_ | refine χ7 ?_ | refine ω8 ?_
  refine ki 16 (fun h => ?_) (fun hga => ?_)
  · repeat first | refine ω1 ?_ | refine ω2 ?_ | refine ω3 ?_ | refine ω4 ?_ | refine ω5 ?_ | refine χ1 ?_ | refine κ1 ?_ | refine κ2 ?_ | refine χ2 ?_ | refine κ3 ?_ | refine ω6 ?_ | refine ω7 ?_ | refine ω9 ?_ | refine κ4 ?_ | refine κ7 ?_ | refine κ8 ?_ | refine χ3 ?_ | refine χ4 ?_ | refine κ5 ?_ | refine κ6 ?_ | refine χ5 ?_ | refine χ6 ?_ | refine χ7 ?_ | refine ω8 ?_
    refine cl (out w1 (Ext.refl _)) ?_
    rintro x w2 ⟨rfl, hx2⟩
    repeat first | refine ω1 ?_ | refine ω2 ?_ | refine ω3 ?_ | refine ω4 ?_ | refine ω5 ?_ | refine χ1 ?_ | refine κ1 ?_ | refine κ2 ?_ | refine χ2 ?_ | refine κ3 ?_ | refine ω6 ?_ | refine ω7 ?_ | refine ω9 ?_ | refine κ4 ?_ | refine κ7 ?_ | refine κ8 ?_ | refine χ3 ?_ | refine χ4 ?_ | refine κ5 ?_ | refine κ6 ?_ | refine χ5 ?_ | refine χ6 ?_ | refine χ7 ?_ | refine ω8 ?_
    exact fin1 ⟨rfl, hx2⟩
  repeat first | refine ω1 ?_ | refine ω2 ?_ | refine ω3 ?_ | refine ω4 ?_ | refine ω5 ?_ | refine χ1 ?_ | refine κ1 ?_ | refine κ2 ?_ | refine χ2 ?_ | refine κ3 ?_ | refine ω6 ?_ | refine ω7 ?_ | refine ω9 ?_ | refine κ4 ?_ | refine κ7 ?_ | refine κ8 ?_ | refine χ3 ?_ | refine χ4 ?_ | refine κ5 ?_ | refine κ6 ?_ | refine χ5 ?_ | refine χ6 ?_ | refine χ7 ?_ | refine ω8 ?_
  refine cl (great_any B b bc w1 hb (by omega)) ?_
  rintro x w1 ⟨rfl, rfl⟩
  repeat first | refine ω1 ?_ | refine ω2 ?_ | refine ω3 ?_ | refine ω4 ?_ | refine ω5 ?_ | refine χ1 ?_ | refine κ1 ?_ | refine κ2 ?_ | refine χ2 ?_ | refine κ3 ?_ | refine ω6 ?_ | refine ω7 ?_ | refine ω9 ?_ | refine κ4 ?_ | refine κ7 ?_ | refine κ8 ?_ | refine χ3 ?_ | refine χ4 ?_ | refine κ5 ?_ | refine κ6 ?_ | refine χ5 ?_ | refine χ6 ?_ | refine χ7 ?_ | refine ω8 ?_
  refine ki 20 (fun h => ?_) (fun hgb => ?_)
  · repeat first | refine ω1 ?_ | refine ω2 ?_ | refine ω3 ?_ | refine ω4 ?_ | refine ω5 ?_ | refine χ1 ?_ | refine κ1 ?_ | refine κ2 ?_ | refine χ2 ?_ | refine κ3 ?_ | refine ω6 ?_ | refine ω7 ?_ | refine ω9 ?_ | refine κ4 ?_ | refine κ7 ?_ | refine κ8 ?_ | refine χ3 ?_ | refine χ4 ?_ | refine κ5 ?_ | refine κ6 ?_ | refine χ5 ?_ | refine χ6 ?_ | refine χ7 ?_ | refine ω8 ?_
    refine cl (out w1 (Ext.refl _)) ?_
    rintro x w2 ⟨rfl, hx2⟩
    repeat first | refine ω1 ?_ | refine ω2 ?_ | refine ω3 ?_ | refine ω4 ?_ | refine ω5 ?_ | refine χ1 ?_ | refine κ1 ?_ | refine κ2 ?_ | refine χ2 ?_ | refine κ3 ?_ | refine ω6 ?_ | refine ω7 ?_ | refine ω9 ?_ | refine κ4 ?_ | refine κ7 ?_ | refine κ8 ?_ | refine χ3 ?_ | refine χ4 ?_ | refine κ5 ?_ | refine κ6 ?_ | refine χ5 ?_ | refine χ6 ?_ | refine χ7 ?_ | refine ω8 ?_
    exact fin1 ⟨rfl, hx2⟩
  repeat first | refine ω1 ?_ | refine ω2 ?_ | refine ω3 ?_ | refine ω4 ?_ | refine ω5 ?_ | refine χ1 ?_ | refine κ1 ?_ | refine κ2 ?_ | refine χ2 ?_ | refine κ3 ?_ | refine ω6 ?_ | refine ω7 ?_ | refine ω9 ?_ | refine κ4 ?_ | refine κ7 ?_ | refine κ8 ?_ | refine χ3 ?_ | refine χ4 ?_ | refine κ5 ?_ | refine κ6 ?_ | refine χ5 ?_ | refine χ6 ?_ | refine χ7 ?_ | refine ω8 ?_
  refine ki 25 (fun h => ?_) (fun hgd => ?_)
  · repeat first | refine ω1 ?_ | refine ω2 ?_ | refine ω3 ?_ | refine ω4 ?_ | refine ω5 ?_ | refine χ1 ?_ | refine κ1 ?_ | refine κ2 ?_ | refine χ2 ?_ | refine κ3 ?_ | refine ω6 ?_ | refine ω7 ?_ | refine ω9 ?_ | refine κ4 ?_ | refine κ7 ?_ | refine κ8 ?_ | refine χ3 ?_ | refine χ4 ?_ | refine κ5 ?_ | refine κ6 ?_ | refine χ5 ?_ | refine χ6 ?_ | refine χ7 ?_ | refine ω8 ?_
    refine cl (out w1 (Ext.refl _)) ?_
    rintro x w2 ⟨rfl, hx2⟩
    repeat first | refine ω1 ?_ | refine ω2 ?_ | refine ω3 ?_ | refine ω4 ?_ | refine ω5 ?_ | refine χ1 ?_ | refine κ1 ?_ | refine κ2 ?_ | refine χ2 ?_ | refine κ3 ?_ | refine ω6 ?_ | refine ω7 ?_ | refine ω9 ?_ | refine κ4 ?_ | refine κ7 ?_ | refine κ8 ?_ | refine χ3 ?_ | refine χ4 ?_ | refine κ5 ?_ | refine κ6 ?_ | refine χ5 ?_ | refine χ6 ?_ | refine χ7 ?_ | refine ω8 ?_
    exact fin1 ⟨rfl, hx2⟩
  repeat first | refine ω1 ?_ | refine ω2 ?_ | refine ω3 ?_ | refine ω4 ?_ | refine ω5 ?_ | refine χ1 ?_ | refine κ1 ?_ | refine κ2 ?_ | refine χ2 ?_ | refine κ3 ?_ | refine ω6 ?_ | refine ω7 ?_ | refine ω9 ?_ | refine κ4 ?_ | refine κ7 ?_ | refine κ8 ?_ | refine χ3 ?_ | refine χ4 ?_ | refine κ5 ?_ | refine κ6 ?_ | refine χ5 ?_ | refine χ6 ?_ | refine χ7 ?_ | refine ω8 ?_
  refine cl (lawValid_any A a ac w1 ha (by omega)) ?_
  rintro x w2 ⟨rfl, hx2⟩
  repeat first | refine ω1 ?_ | refine ω2 ?_ | refine ω3 ?_ | refine ω4 ?_ | refine ω5 ?_ | refine χ1 ?_ | refine κ1 ?_ | refine κ2 ?_ | refine χ2 ?_ | refine κ3 ?_ | refine ω6 ?_ | refine ω7 ?_ | refine ω9 ?_ | refine κ4 ?_ | refine κ7 ?_ | refine κ8 ?_ | refine χ3 ?_ | refine χ4 ?_ | refine κ5 ?_ | refine κ6 ?_ | refine χ5 ?_ | refine χ6 ?_ | refine χ7 ?_ | refine ω8 ?_
  refine ki 30 (fun h => ?_) (fun hva => ?_)
  · repeat first | refine ω1 ?_ | refine ω2 ?_ | refine ω3 ?_ | refine ω4 ?_ | refine ω5 ?_ | refine χ1 ?_ | refine κ1 ?_ | refine κ2 ?_ | refine χ2 ?_ | refine κ3 ?_ | refine ω6 ?_ | refine ω7 ?_ | refine ω9 ?_ | refine κ4 ?_ | refine κ7 ?_ | refine κ8 ?_ | refine χ3 ?_ | refine χ4 ?_ | refine κ5 ?_ | refine κ6 ?_ | refine χ5 ?_ | refine χ6 ?_ | refine χ7 ?_ | refine ω8 ?_
    refine cl (out w2 hx2) ?_
    rintro x w2 ⟨rfl, hx2⟩
    repeat first | refine ω1 ?_ | refine ω2 ?_ | refine ω3 ?_ | refine ω4 ?_ | refine ω5 ?_ | refine χ1 ?_ | refine κ1 ?_ | refine κ2 ?_ | refine χ2 ?_ | refine κ3 ?_ | refine ω6 ?_ | refine ω7 ?_ | refine ω9 ?_ | refine κ4 ?_ | refine κ7 ?_ | refine κ8 ?_ | refine χ3 ?_ | refine χ4 ?_ | refine κ5 ?_ | refine κ6 ?_ | refine χ5 ?_ | refine χ6 ?_ | refine χ7 ?_ | refine ω8 ?_
    exact fin1 ⟨rfl, hx2⟩
  repeat first | refine ω1 ?_ | refine ω2 ?_ | refine ω3 ?_ | refine ω4 ?_ | refine ω5 ?_ | refine χ1 ?_ | refine κ1 ?_ | refine κ2 ?_ | refine χ2 ?_ | refine κ3 ?_ | refine ω6 ?_ | refine ω7 ?_ | refine ω9 ?_ | refine κ4 ?_ | refine κ7 ?_ | refine κ8 ?_ | refine χ3 ?_ | refine χ4 ?_ | refine κ5 ?_ | refine κ6 ?_ | refine χ5 ?_ | refine χ6 ?_ | refine χ7 ?_ | refine ω8 ?_
  refine cl (lawValid_any B b bc w2 (hb.ext hx2) (by omega)) ?_
  rintro x w3 ⟨rfl, hx3⟩
  have hx3 := hx2.trans hx3
  repeat first | refine ω1 ?_ | refine ω2 ?_ | refine ω3 ?_ | refine ω4 ?_ | refine ω5 ?_ | refine χ1 ?_ | refine κ1 ?_ | refine κ2 ?_ | refine χ2 ?_ | refine κ3 ?_ | refine ω6 ?_ | refine ω7 ?_ | refine ω9 ?_ | refine κ4 ?_ | refine κ7 ?_ | refine κ8 ?_ | refine χ3 ?_ | refine χ4 ?_ | refine κ5 ?_ | refine κ6 ?_ | refine χ5 ?_ | refine χ6 ?_ | refine χ7 ?_ | refine ω8 ?_
  refine ci (fun h => ?_) (fun hvb => ?_)
  · repeat first | refine ω1 ?_ | refine ω2 ?_ | refine ω3 ?_ | refine ω4 ?_ | refine ω5 ?_ | refine χ1 ?_ | refine κ1 ?_ | refine κ2 ?_ | refine χ2 ?_ | refine κ3 ?_ | refine ω6 ?_ | refine ω7 ?_ | refine ω9 ?_ | refine κ4 ?_ | refine κ7 ?_ | refine κ8 ?_ | refine χ3 ?_ | refine χ4 ?_ | refine κ5 ?_ | refine κ6 ?_ | refine χ5 ?_ | refine χ6 ?_ | refine χ7 ?_ | refine ω8 ?_
    refine cl (out w3 hx3) ?_
    rintro x w2 ⟨rfl, hx2⟩
    repeat first | refine ω1 ?_ | refine ω2 ?_ | refine ω3 ?_ | refine ω4 ?_ | refine ω5 ?_ | refine χ1 ?_ | refine κ1 ?_ | refine κ2 ?_ | refine χ2 ?_ | refine κ3 ?_ | refine ω6 ?_ | refine ω7 ?_ | refine ω9 ?_ | refine κ4 ?_ | refine κ7 ?_ | refine κ8 ?_ | refine χ3 ?_ | refine χ4 ?_ | refine κ5 ?_ | refine κ6 ?_ | refine χ5 ?_ | refine χ6 ?_ | refine χ7 ?_ | refine ω8 ?_
    exact fin1 ⟨rfl, hx2⟩
  have hva' : a.all V.valid = true := by simpa using hva
  have hvb' : b.all V.valid = true := by simpa using hvb
  have hla := greatL_of hga
  have hlb := greatL_of hgb
  have hld : ds.length ≤ 20 := by have := of_decide_eq_false hgd; omega
  repeat first | refine ω1 ?_ | refine ω2 ?_ | refine ω3 ?_ | refine ω4 ?_ | refine ω5 ?_ | refine χ1 ?_ | refine κ1 ?_ | refine κ2 ?_ | refine χ2 ?_ | refine κ3 ?_ | refine ω6 ?_ | refine ω7 ?_ | refine ω9 ?_ | refine κ4 ?_ | refine κ7 ?_ | refine κ8 ?_ | refine χ3 ?_ | refine χ4 ?_ | refine κ5 ?_ | refine κ6 ?_ | refine χ5 ?_ | refine χ6 ?_ | refine χ7 ?_ | refine ω8 ?_
  have hrest : RdB w3 (if dc = min a.length ds.length then D else D.map (·.add (min a.length ds.length * 1))) (ds.drop (min a.length ds.length)) := by
    have := (hd.ext hx3).drop (k := min a.length ds.length) (c := dc) (by omega) hdc
    rw [Nat.mul_one, ← List.map_drop] at this
    rw [RdB, List.length_drop, Nat.mul_one]
    exact this
  have hdl : (ds.drop (min a.length ds.length)).length = ds.length - min a.length ds.length := List.length_drop
  refine wslice tt_ok (min a.length ds.length) ds.length dc _ (ds.drop (min a.length ds.length)).length (dc - min a.length ds.length) rfl rfl rfl rfl ⟨_, _, rfl, by split <;> omega⟩ rfl rfl (.inl rfl) (by omega) hdc (Nat.le_refl _) rfl hdl.symm rfl rfl ?_
  repeat first | refine ω1 ?_ | refine ω2 ?_ | refine ω3 ?_ | refine ω4 ?_ | refine ω5 ?_ | refine χ1 ?_ | refine κ1 ?_ | refine κ2 ?_ | refine χ2 ?_ | refine κ3 ?_ | refine ω6 ?_ | refine ω7 ?_ | refine ω9 ?_ | refine κ4 ?_ | refine κ7 ?_ | refine κ8 ?_ | refine χ3 ?_ | refine χ4 ?_ | refine κ5 ?_ | refine κ6 ?_ | refine χ5 ?_ | refine χ6 ?_ | refine χ7 ?_ | refine ω8 ?_
  refine cl (encode_any A D a ds ac dc w3 (ha.ext hx3) hoka (hd.ext hx3) (by omega) (by omega)) ?_
  rintro t w4 ⟨hx4, ht⟩
  rcases ht with ⟨_, x, rfl, hox⟩ | ⟨hn, _⟩
  case inr => rw [hva'] at hn; cases hn
  have hx4' := hx3.trans hx4
  repeat first | refine ω1 ?_ | refine ω2 ?_ | refine ω3 ?_ | refine ω4 ?_ | refine ω5 ?_ | refine χ1 ?_ | refine κ1 ?_ | refine κ2 ?_ | refine χ2 ?_ | refine κ3 ?_ | refine ω6 ?_ | refine ω7 ?_ | refine ω9 ?_ | refine κ4 ?_ | refine κ7 ?_ | refine κ8 ?_ | refine χ3 ?_ | refine χ4 ?_ | refine κ5 ?_ | refine κ6 ?_ | refine χ5 ?_ | refine χ6 ?_ | refine χ7 ?_ | refine ω8 ?_
  refine cl (encode_any B _ b (ds.drop (min a.length ds.length)) bc (dc - min a.length ds.length) w4 (hb.ext hx4') hokb (hrest.ext hx4) (by omega) (by omega)) ?_
  rintro t w5 ⟨hx5, ht⟩
  rcases ht with ⟨_, y, rfl, hoy⟩ | ⟨hn, _⟩
  case inr => rw [hvb'] at hn; cases hn
  have hx5' := hx4'.trans hx5
  repeat first | refine ω1 ?_ | refine ω2 ?_ | refine ω3 ?_ | refine ω4 ?_ | refine ω5 ?_ | refine χ1 ?_ | refine κ1 ?_ | refine κ2 ?_ | refine χ2 ?_ | refine κ3 ?_ | refine ω6 ?_ | refine ω7 ?_ | refine ω9 ?_ | refine κ4 ?_ | refine κ7 ?_ | refine κ8 ?_ | refine χ3 ?_ | refine χ4 ?_ | refine κ5 ?_ | refine κ6 ?_ | refine χ5 ?_ | refine χ6 ?_ | refine χ7 ?_ | refine ω8 ?_
  refine bsl bsRow0 ?_
  intro w6 b6 hx6 hb6 hk6
  have hx6' := hx5'.trans hx6
  repeat first | refine ω1 ?_ | refine ω2 ?_ | refine ω3 ?_ | refine ω4 ?_ | refine ω5 ?_ | refine χ1 ?_ | refine κ1 ?_ | refine κ2 ?_ | refine χ2 ?_ | refine κ3 ?_ | refine ω6 ?_ | refine ω7 ?_ | refine ω9 ?_ | refine κ4 ?_ | refine κ7 ?_ | refine κ8 ?_ | refine χ3 ?_ | refine χ4 ?_ | refine κ5 ?_ | refine κ6 ?_ | refine χ5 ?_ | refine χ6 ?_ | refine χ7 ?_ | refine ω8 ?_
  refine apo hx6' EV (hk6.own (n := 0) (Nat.le_trans hx5'.size hb6) rfl (Nat.zero_le _)) (ha.ext hx6') (rowC_one a) (by unfold maxLen; omega) (by omega) ?_
  intro v7 w7 ho7 hx7 hg7 _
  repeat first | refine ω1 ?_ | refine ω2 ?_ | refine ω3 ?_ | refine ω4 ?_ | refine ω5 ?_ | refine χ1 ?_ | refine κ1 ?_ | refine κ2 ?_ | refine χ2 ?_ | refine κ3 ?_ | refine ω6 ?_ | refine ω7 ?_ | refine ω9 ?_ | refine κ4 ?_ | refine κ7 ?_ | refine κ8 ?_ | refine χ3 ?_ | refine χ4 ?_ | refine κ5 ?_ | refine κ6 ?_ | refine χ5 ?_ | refine χ6 ?_ | refine χ7 ?_ | refine ω8 ?_
  refine apo hx7 EV ho7 (hb.ext hx7) (rowC_one b) (by unfold maxLen; omega) (by omega) ?_
  intro v8 w8 ho8 hx8 hg8 _
  have e8 : [] ++ rowC a ++ rowC b = rowC (a ++ b) := by rw [rowC_app]; rfl
  have el : 0 + a.length + b.length = (a ++ b).length := by simp
  rw [e8, el] at ho8
  obtain ⟨A8, c8, rfl, hc8, _⟩ := own_form ho8
  have ho6 := hk6.own (base := w1.heap.size) (sz := 3) (n := 0) (Nat.le_trans hx5'.size hb6) rfl (Nat.zero_le _)
  have hoxr : RdV w8 1 x (Bc (encR a ds)) := RdV.own (own_kept_ne (own_kept_ne (own_ext hox (hx5.trans hx6)) ho6 hg7 rfl) ho7 hg8 rfl)
  have hoyr : RdV w8 1 y (Bc (encR b (ds.drop (min a.length ds.length)))) := RdV.own (own_kept_ne (own_kept_ne (own_ext hoy hx6) ho6 hg7 rfl) ho7 hg8 rfl)
  repeat first | refine ω1 ?_ | refine ω2 ?_ | refine ω3 ?_ | refine ω4 ?_ | refine ω5 ?_ | refine χ1 ?_ | refine κ1 ?_ | refine κ2 ?_ | refine χ2 ?_ | refine κ3 ?_ | refine ω6 ?_ | refine ω7 ?_ | refine ω9 ?_ | refine κ4 ?_ | refine κ7 ?_ | refine κ8 ?_ | refine χ3 ?_ | refine χ4 ?_ | refine κ5 ?_ | refine κ6 ?_ | refine χ5 ?_ | refine χ6 ?_ | refine χ7 ?_ | refine ω8 ?_
  refine cl (encode_any A8 D (a ++ b) ds c8 dc w8 (Rd.own ho8) (hoka.app hokb) (hd.ext hx8) (by simp; omega) (by omega)) ?_
  rintro t w9 ⟨hx9, ht⟩
  rcases ht with ⟨_, z, rfl, hoz⟩ | ⟨hn, _⟩
  case inr => rw [List.all_append, hva', hvb'] at hn; cases hn
  obtain ⟨Ax, nx, cx, rfl, hcx, hrx⟩ := hoxr
  obtain ⟨Ay, ny, cy, rfl, hcy, hry⟩ := hoyr
  obtain ⟨Az, cz, rfl, hcz, _⟩ := own_form hoz
  repeat first | refine ω1 ?_ | refine ω2 ?_ | refine ω3 ?_ | refine ω4 ?_ | refine ω5 ?_ | refine χ1 ?_ | refine κ1 ?_ | refine κ2 ?_ | refine χ2 ?_ | refine κ3 ?_ | refine ω6 ?_ | refine ω7 ?_ | refine ω9 ?_ | refine κ4 ?_ | refine κ7 ?_ | refine κ8 ?_ | refine χ3 ?_ | refine χ4 ?_ | refine κ5 ?_ | refine κ6 ?_ | refine χ5 ?_ | refine χ6 ?_ | refine χ7 ?_ | refine ω8 ?_
  refine sb (Rd.own hoz) ?_
  repeat first | refine ω1 ?_ | refine ω2 ?_ | refine ω3 ?_ | refine ω4 ?_ | refine ω5 ?_ | refine χ1 ?_ | refine κ1 ?_ | refine κ2 ?_ | refine χ2 ?_ | refine κ3 ?_ | refine ω6 ?_ | refine ω7 ?_ | refine ω9 ?_ | refine κ4 ?_ | refine κ7 ?_ | refine κ8 ?_ | refine χ3 ?_ | refine χ4 ?_ | refine κ5 ?_ | refine κ6 ?_ | refine χ5 ?_ | refine χ6 ?_ | refine χ7 ?_ | refine ω8 ?_
  refine sb (hrx.ext hx9) ?_
  repeat first | refine ω1 ?_ | refine ω2 ?_ | refine ω3 ?_ | refine ω4 ?_ | refine ω5 ?_ | refine χ1 ?_ | refine κ1 ?_ | refine κ2 ?_ | refine χ2 ?_ | refine κ3 ?_ | refine ω6 ?_ | refine ω7 ?_ | refine ω9 ?_ | refine κ4 ?_ | refine κ7 ?_ | refine κ8 ?_ | refine χ3 ?_ | refine χ4 ?_ | refine κ5 ?_ | refine κ6 ?_ | refine χ5 ?_ | refine χ6 ?_ | refine χ7 ?_ | refine ω8 ?_
  refine sb (hry.ext hx9) ?_
  repeat first | refine ω1 ?_ | refine ω2 ?_ | refine ω3 ?_ | refine ω4 ?_ | refine ω5 ?_ | refine χ1 ?_ | refine κ1 ?_ | refine κ2 ?_ | refine χ2 ?_ | refine κ3 ?_ | refine ω6 ?_ | refine ω7 ?_ | refine ω9 ?_ | refine κ4 ?_ | refine κ7 ?_ | refine κ8 ?_ | refine χ3 ?_ | refine χ4 ?_ | refine κ5 ?_ | refine κ6 ?_ | refine χ5 ?_ | refine χ6 ?_ | refine χ7 ?_ | refine ω8 ?_
  have l1 := encN_len (ds := ds) hva' a.length (Nat.le_refl _)
  have l2 := encN_len (ds := ds.drop (min a.length ds.length)) hvb' b.length (Nat.le_refl _)
  refine scat (l := encR a ds) (r := encR b (ds.drop (min a.length ds.length))) (by unfold encR; omega) ?_
  repeat first | refine ω1 ?_ | refine ω2 ?_ | refine ω3 ?_ | refine ω4 ?_ | refine ω5 ?_ | refine χ1 ?_ | refine κ1 ?_ | refine κ2 ?_ | refine χ2 ?_ | refine κ3 ?_ | refine ω6 ?_ | refine ω7 ?_ | refine ω9 ?_ | refine κ4 ?_ | refine κ7 ?_ | refine κ8 ?_ | refine χ3 ?_ | refine χ4 ?_ | refine κ5 ?_ | refine κ6 ?_ | refine χ5 ?_ | refine χ6 ?_ | refine χ7 ?_ | refine ω8 ?_
  refine wkt 85 rfl (by rw [str_list, str_list, encR_app, drop_min]; simp) ?_
  repeat first | refine ω1 ?_ | refine ω2 ?_ | refine ω3 ?_ | refine ω4 ?_ | refine ω5 ?_ | refine χ1 ?_ | refine κ1 ?_ | refine κ2 ?_ | refine χ2 ?_ | refine κ3 ?_ | refine ω6 ?_ | refine ω7 ?_ | refine ω9 ?_ | refine κ4 ?_ | refine κ7 ?_ | refine κ8 ?_ | refine χ3 ?_ | refine χ4 ?_ | refine κ5 ?_ | refine κ6 ?_ | refine χ5 ?_ | refine χ6 ?_ | refine χ7 ?_ | refine ω8 ?_
  refine cl (out w9 (hx8.trans hx9)) ?_
  rintro t w10 ⟨rfl, hx10⟩
  repeat first | refine ω1 ?_ | refine ω2 ?_ | refine ω3 ?_ | refine ω4 ?_ | refine ω5 ?_ | refine χ1 ?_ | refine κ1 ?_ | refine κ2 ?_ | refine χ2 ?_ | refine κ3 ?_ | refine ω6 ?_ | refine ω7 ?_ | refine ω9 ?_ | refine κ4 ?_ | refine κ7 ?_ | refine κ8 ?_ | refine χ3 ?_ | refine χ4 ?_ | refine κ5 ?_ | refine κ6 ?_ | refine χ5 ?_ | refine χ6 ?_ | refine χ7 ?_ | refine ω8 ?_
  exact fin1 ⟨rfl, hx10⟩
end Go.Proofs.Ythjnmclnafbcdaa.codecJoins
