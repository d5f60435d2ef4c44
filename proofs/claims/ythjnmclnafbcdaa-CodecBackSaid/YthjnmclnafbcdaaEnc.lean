/- Contracts of value.Valid, codec.appendValue, codec.EncodeValue and of the reference's comparison of bytes. -/
import Derived.Test.YthjnmclnafbcdaaTab
set_option linter.unusedVariables false
namespace Go.Proofs.Ythjnmclnafbcdaa
open Go.RowKit Pl Go.Wk
attribute [local irreducible] WC WL QX WD

theorem beq_nil (s : ByteArray) : (s.toList == (⟨#[]⟩ : ByteArray).toList) = s.data.toList.isEmpty := by
  have h1 : s.toList = s.data.toList := ByteArray.toList_eq s
  have h2 : (⟨#[]⟩ : ByteArray).toList = [] := by rw [ByteArray.toList_eq]
  rw [h1, h2]
  cases s.data.toList <;> rfl

set_option maxRecDepth 100000 in
theorem valid_any (v : V) (w : World) : Ret Try.prog 28 [v.val] w fun r w' => r = .bool v.valid ∧ Ext w w' := by
  refine enterR Try.func28 Try.ntmps28 rfl (by kernel_rfl) rfl ?_
  repeat (first | (first | refine wadd rfl rfl (by omega) rfl ?_ | refine wsub rfl rfl (by omega) rfl ?_ | refine wmul rfl rfl (by omega) rfl ?_ | refine wp tt_ok rfl rfl ?_ | refine wnil ?_ | refine wguard rfl rfl ?_ | refine wpass rfl rfl rfl rfl ?_) | (first | refine qnext ?_ | refine bnormal ?_ | refine qret ?_ | refine bret ?_ | refine bexit ?_ | refine bother rfl ?_ | refine qexit ?_) | (first | refine wseq ?_ | refine wregion ?_ | refine wblock ?_ | refine wskip ?_ | refine wexit ?_ | refine wret ?_ | refine wcondt rfl ?_ | refine wcondf rfl ?_))
  refine wbox rfl rfl rfl ?_
  intro w1 b hx hb hk
  repeat (first | (first | refine wadd rfl rfl (by omega) rfl ?_ | refine wsub rfl rfl (by omega) rfl ?_ | refine wmul rfl rfl (by omega) rfl ?_ | refine wp tt_ok rfl rfl ?_ | refine wnil ?_ | refine wguard rfl rfl ?_ | refine wpass rfl rfl rfl rfl ?_) | (first | refine qnext ?_ | refine bnormal ?_ | refine qret ?_ | refine bret ?_ | refine bexit ?_ | refine bother rfl ?_ | refine qexit ?_) | (first | refine wseq ?_ | refine wregion ?_ | refine wblock ?_ | refine wskip ?_ | refine wexit ?_ | refine wret ?_ | refine wcondt rfl ?_ | refine wcondf rfl ?_))
  refine wload tt_ok rfl rfl rfl (hk.at rfl) rfl ?_
  repeat (first | (first | refine wadd rfl rfl (by omega) rfl ?_ | refine wsub rfl rfl (by omega) rfl ?_ | refine wmul rfl rfl (by omega) rfl ?_ | refine wp tt_ok rfl rfl ?_ | refine wnil ?_ | refine wguard rfl rfl ?_ | refine wpass rfl rfl rfl rfl ?_) | (first | refine qnext ?_ | refine bnormal ?_ | refine qret ?_ | refine bret ?_ | refine bexit ?_ | refine bother rfl ?_ | refine qexit ?_) | (first | refine wseq ?_ | refine wregion ?_ | refine wblock ?_ | refine wskip ?_ | refine wexit ?_ | refine wret ?_ | refine wcondt rfl ?_ | refine wcondf rfl ?_))
  refine wcond rfl (fun h => ?_) (fun h => ?_)
  · have h1 : v.kind = 1 := eq_of_beq h
    repeat (first | (first | refine wadd rfl rfl (by omega) rfl ?_ | refine wsub rfl rfl (by omega) rfl ?_ | refine wmul rfl rfl (by omega) rfl ?_ | refine wp tt_ok rfl rfl ?_ | refine wnil ?_ | refine wguard rfl rfl ?_ | refine wpass rfl rfl rfl rfl ?_) | (first | refine qnext ?_ | refine bnormal ?_ | refine qret ?_ | refine bret ?_ | refine bexit ?_ | refine bother rfl ?_ | refine qexit ?_) | (first | refine wseq ?_ | refine wregion ?_ | refine wblock ?_ | refine wskip ?_ | refine wexit ?_ | refine wret ?_ | refine wcondt rfl ?_ | refine wcondf rfl ?_))
    refine wload tt_ok rfl rfl rfl (hk.at rfl) rfl ?_
    repeat (first | (first | refine wadd rfl rfl (by omega) rfl ?_ | refine wsub rfl rfl (by omega) rfl ?_ | refine wmul rfl rfl (by omega) rfl ?_ | refine wp tt_ok rfl rfl ?_ | refine wnil ?_ | refine wguard rfl rfl ?_ | refine wpass rfl rfl rfl rfl ?_) | (first | refine qnext ?_ | refine bnormal ?_ | refine qret ?_ | refine bret ?_ | refine bexit ?_ | refine bother rfl ?_ | refine qexit ?_) | (first | refine wseq ?_ | refine wregion ?_ | refine wblock ?_ | refine wskip ?_ | refine wexit ?_ | refine wret ?_ | refine wcondt rfl ?_ | refine wcondf rfl ?_))
    refine done1 rfl rfl ⟨?_, hx⟩
    rw [beq_nil, V.valid, h1]; simp [V.bytes]
  · have h1 : v.kind ≠ 1 := ne_of_beq_false h
    repeat (first | (first | refine wadd rfl rfl (by omega) rfl ?_ | refine wsub rfl rfl (by omega) rfl ?_ | refine wmul rfl rfl (by omega) rfl ?_ | refine wp tt_ok rfl rfl ?_ | refine wnil ?_ | refine wguard rfl rfl ?_ | refine wpass rfl rfl rfl rfl ?_) | (first | refine qnext ?_ | refine bnormal ?_ | refine qret ?_ | refine bret ?_ | refine bexit ?_ | refine bother rfl ?_ | refine qexit ?_) | (first | refine wseq ?_ | refine wregion ?_ | refine wblock ?_ | refine wskip ?_ | refine wexit ?_ | refine wret ?_ | refine wcondt rfl ?_ | refine wcondf rfl ?_))
    refine wcond rfl (fun h => ?_) (fun h => ?_)
    · have h2 : v.kind = 2 := eq_of_beq h
      repeat (first | (first | refine wadd rfl rfl (by omega) rfl ?_ | refine wsub rfl rfl (by omega) rfl ?_ | refine wmul rfl rfl (by omega) rfl ?_ | refine wp tt_ok rfl rfl ?_ | refine wnil ?_ | refine wguard rfl rfl ?_ | refine wpass rfl rfl rfl rfl ?_) | (first | refine qnext ?_ | refine bnormal ?_ | refine qret ?_ | refine bret ?_ | refine bexit ?_ | refine bother rfl ?_ | refine qexit ?_) | (first | refine wseq ?_ | refine wregion ?_ | refine wblock ?_ | refine wskip ?_ | refine wexit ?_ | refine wret ?_ | refine wcondt rfl ?_ | refine wcondf rfl ?_))
      refine wload tt_ok rfl rfl rfl (hk.at rfl) rfl ?_
      repeat (first | (first | refine wadd rfl rfl (by omega) rfl ?_ | refine wsub rfl rfl (by omega) rfl ?_ | refine wmul rfl rfl (by omega) rfl ?_ | refine wp tt_ok rfl rfl ?_ | refine wnil ?_ | refine wguard rfl rfl ?_ | refine wpass rfl rfl rfl rfl ?_) | (first | refine qnext ?_ | refine bnormal ?_ | refine qret ?_ | refine bret ?_ | refine bexit ?_ | refine bother rfl ?_ | refine qexit ?_) | (first | refine wseq ?_ | refine wregion ?_ | refine wblock ?_ | refine wskip ?_ | refine wexit ?_ | refine wret ?_ | refine wcondt rfl ?_ | refine wcondf rfl ?_))
      refine wpart 15 rfl (fun h => ?_) (fun h => ?_)
      · repeat (first | (first | refine wadd rfl rfl (by omega) rfl ?_ | refine wsub rfl rfl (by omega) rfl ?_ | refine wmul rfl rfl (by omega) rfl ?_ | refine wp tt_ok rfl rfl ?_ | refine wnil ?_ | refine wguard rfl rfl ?_ | refine wpass rfl rfl rfl rfl ?_) | (first | refine qnext ?_ | refine bnormal ?_ | refine qret ?_ | refine bret ?_ | refine bexit ?_ | refine bother rfl ?_ | refine qexit ?_) | (first | refine wseq ?_ | refine wregion ?_ | refine wblock ?_ | refine wskip ?_ | refine wexit ?_ | refine wret ?_ | refine wcondt rfl ?_ | refine wcondf rfl ?_))
        refine wload tt_ok rfl rfl rfl (hk.at rfl) rfl ?_
        repeat (first | (first | refine wadd rfl rfl (by omega) rfl ?_ | refine wsub rfl rfl (by omega) rfl ?_ | refine wmul rfl rfl (by omega) rfl ?_ | refine wp tt_ok rfl rfl ?_ | refine wnil ?_ | refine wguard rfl rfl ?_ | refine wpass rfl rfl rfl rfl ?_) | (first | refine qnext ?_ | refine bnormal ?_ | refine qret ?_ | refine bret ?_ | refine bexit ?_ | refine bother rfl ?_ | refine qexit ?_) | (first | refine wseq ?_ | refine wregion ?_ | refine wblock ?_ | refine wskip ?_ | refine wexit ?_ | refine wret ?_ | refine wcondt rfl ?_ | refine wcondf rfl ?_))
        refine done1 rfl rfl ⟨?_, hx⟩
        have h3 : (v.num == 0) = true := h
        rw [V.valid, h2, h3, bytes_len]; simp; omega
      · repeat (first | (first | refine wadd rfl rfl (by omega) rfl ?_ | refine wsub rfl rfl (by omega) rfl ?_ | refine wmul rfl rfl (by omega) rfl ?_ | refine wp tt_ok rfl rfl ?_ | refine wnil ?_ | refine wguard rfl rfl ?_ | refine wpass rfl rfl rfl rfl ?_) | (first | refine qnext ?_ | refine bnormal ?_ | refine qret ?_ | refine bret ?_ | refine bexit ?_ | refine bother rfl ?_ | refine qexit ?_) | (first | refine wseq ?_ | refine wregion ?_ | refine wblock ?_ | refine wskip ?_ | refine wexit ?_ | refine wret ?_ | refine wcondt rfl ?_ | refine wcondf rfl ?_))
        refine done1 rfl rfl ⟨?_, hx⟩
        have h3 : (v.num == 0) = false := h
        rw [V.valid, h2, h3]; simp
    · have h2 : v.kind ≠ 2 := ne_of_beq_false h
      repeat (first | (first | refine wadd rfl rfl (by omega) rfl ?_ | refine wsub rfl rfl (by omega) rfl ?_ | refine wmul rfl rfl (by omega) rfl ?_ | refine wp tt_ok rfl rfl ?_ | refine wnil ?_ | refine wguard rfl rfl ?_ | refine wpass rfl rfl rfl rfl ?_) | (first | refine qnext ?_ | refine bnormal ?_ | refine qret ?_ | refine bret ?_ | refine bexit ?_ | refine bother rfl ?_ | refine qexit ?_) | (first | refine wseq ?_ | refine wregion ?_ | refine wblock ?_ | refine wskip ?_ | refine wexit ?_ | refine wret ?_ | refine wcondt rfl ?_ | refine wcondf rfl ?_))
      refine done1 rfl rfl ⟨?_, hx⟩
      have e1 : (v.kind == 1) = false := by simpa using h1
      have e2 : (v.kind == 2) = false := by simpa using h2
      rw [V.valid, e1, e2]; rfl

set_option maxRecDepth 100000 in
theorem same_any {A B : Option Addr} {n m c d : Nat} {l r : List UInt8} (w : World) (ha : Rd w 1 A n (Bc l)) (hb : Rd w 1 B m (Bc r)) :
    Ret Try.prog 14 [.slice A n c, .slice B m d] w fun v w' => v = .bool (l == r) ∧ w' = w := by
  refine enterR Try.func14 Try.ntmps14 rfl (by kernel_rfl) rfl ?_
  repeat (first | (first | refine wadd rfl rfl (by omega) rfl ?_ | refine wsub rfl rfl (by omega) rfl ?_ | refine wmul rfl rfl (by omega) rfl ?_ | refine wp tt_ok rfl rfl ?_ | refine wnil ?_ | refine wguard rfl rfl ?_ | refine wpass rfl rfl rfl rfl ?_) | (first | refine qnext ?_ | refine bnormal ?_ | refine qret ?_ | refine bret ?_ | refine bexit ?_ | refine bother rfl ?_ | refine qexit ?_) | (first | refine wseq ?_ | refine wregion ?_ | refine wblock ?_ | refine wskip ?_ | refine wexit ?_ | refine wret ?_ | refine wcondt rfl ?_ | refine wcondf rfl ?_))
  refine wbytes tt_ok rfl rfl rfl rfl rfl rfl rfl ha rfl ?_
  repeat (first | (first | refine wadd rfl rfl (by omega) rfl ?_ | refine wsub rfl rfl (by omega) rfl ?_ | refine wmul rfl rfl (by omega) rfl ?_ | refine wp tt_ok rfl rfl ?_ | refine wnil ?_ | refine wguard rfl rfl ?_ | refine wpass rfl rfl rfl rfl ?_) | (first | refine qnext ?_ | refine bnormal ?_ | refine qret ?_ | refine bret ?_ | refine bexit ?_ | refine bother rfl ?_ | refine qexit ?_) | (first | refine wseq ?_ | refine wregion ?_ | refine wblock ?_ | refine wskip ?_ | refine wexit ?_ | refine wret ?_ | refine wcondt rfl ?_ | refine wcondf rfl ?_))
  refine wbytes tt_ok rfl rfl rfl rfl rfl rfl rfl hb rfl ?_
  repeat (first | (first | refine wadd rfl rfl (by omega) rfl ?_ | refine wsub rfl rfl (by omega) rfl ?_ | refine wmul rfl rfl (by omega) rfl ?_ | refine wp tt_ok rfl rfl ?_ | refine wnil ?_ | refine wguard rfl rfl ?_ | refine wpass rfl rfl rfl rfl ?_) | (first | refine qnext ?_ | refine bnormal ?_ | refine qret ?_ | refine bret ?_ | refine bexit ?_ | refine bother rfl ?_ | refine qexit ?_) | (first | refine wseq ?_ | refine wregion ?_ | refine wblock ?_ | refine wskip ?_ | refine wexit ?_ | refine wret ?_ | refine wcondt rfl ?_ | refine wcondf rfl ?_))
  refine done1 rfl rfl ⟨?_, rfl⟩
  have h1 : ∀ l : List UInt8, (str l).toList = l := fun l => by rw [ByteArray.toList_eq]; rfl
  rw [h1, h1]

theorem one_int (k : IntKind) (x : Int) : ∀ u ∈ [Value.int k x], u.oneCell' = true := by intro u hu; simp at hu; subst hu; rfl
theorem two_int (k : IntKind) (x y : Int) : ∀ u ∈ [Value.int k x, Value.int k y], u.oneCell' = true := by
  intro u hu; simp at hu; rcases hu with rfl | rfl <;> rfl
/-- own bytes -/
abbrev OwnB (w : World) (base : Nat) (v : Value) (l : List UInt8) : Prop := w.ownsRow base 5 1 v l.length (Bc l)
theorem OwnB.snoc {w : World} {base : Nat} {v : Value} {l : List UInt8} {c : UInt8} {x : Int} (hx : x = (c.toNat : Int)) (h : w.ownsRow base 5 1 v (l.length + 1) (Bc l ++ [.int .u8 x])) : OwnB w base v (l ++ [c]) := by
  subst hx
  have e : Bc (l ++ [c]) = Bc l ++ [.int .u8 (c.toNat : Int)] := by simp [Bc]
  rw [OwnB, e, List.length_append]; exact h
def flipTo (i : Nat) (l : List UInt8) : List UInt8 := (l.take i).map (255 - ·) ++ l.drop i
theorem flipTo_len (i : Nat) (l : List UInt8) : (flipTo i l).length = l.length := by simp [flipTo]; omega
theorem flipTo_get {i : Nat} {l : List UInt8} (h : i < l.length) : (flipTo i l).getD i 0 = l.getD i 0 := by
  unfold flipTo
  have h1 : ((l.take i).map (255 - ·)).length = i := by simp; omega
  rw [List.getD_eq_getElem?_getD, List.getElem?_append_right (by omega), h1, Nat.sub_self]
  simp [List.getD, List.getElem?_drop]
theorem flipTo_set {i : Nat} {l : List UInt8} (h : i < l.length) : (Bc (flipTo i l)).set i (.int .u8 ((255 - l.getD i 0).toNat : Int)) = Bc (flipTo (i + 1) l) := by
  have h1 : ((l.take i).map (255 - ·)).length = i := by simp; omega
  unfold flipTo Bc
  rw [← List.map_set (f := fun c : UInt8 => Value.int .u8 (c.toNat : Int))]
  congr 1
  have h2 : l.getD i 0 = l[i] := by simp [List.getD, List.getElem?_eq_getElem h]
  rw [List.set_append_right _ _ (by omega), h1, Nat.sub_self, List.take_succ_eq_append_getElem h, List.drop_eq_getElem_cons h, h2, List.set_cons_zero, List.map_append, List.append_assoc]
  rfl
theorem flipTo_end (l : List UInt8) : flipTo l.length l = flp true l := by simp [flipTo, flp]

set_option maxRecDepth 100000 in
set_option maxHeartbeats 1000000 in
theorem appendValue_any (v : V) (hv : v.wf) (hs : v.str.size ≤ 1000) (dsc : Bool) (w : World) :
    Ret Try.prog 29 [.slice none 0 0, v.val, .bool dsc] w fun r w' => OwnB w' w.heap.size r (v.enc dsc) ∧ Ext w w' := by
  refine enterR Try.func29 Try.ntmps29 rfl (by kernel_rfl) rfl ?_
  repeat (first | (first | refine wadd rfl rfl (by omega) rfl ?_ | refine wsub rfl rfl (by omega) rfl ?_ | refine wmul rfl rfl (by omega) rfl ?_ | refine wp tt_ok rfl rfl ?_ | refine wnil ?_ | refine wguard rfl rfl ?_ | refine wpass rfl rfl rfl rfl ?_) | (first | refine qnext ?_ | refine bnormal ?_ | refine qret ?_ | refine bret ?_ | refine bexit ?_ | refine bother rfl ?_ | refine qexit ?_) | (first | refine wseq ?_ | refine wregion ?_ | refine wblock ?_ | refine wskip ?_ | refine wexit ?_ | refine wret ?_ | refine wcondt rfl ?_ | refine wcondf rfl ?_))
  refine wbox rfl rfl rfl ?_
  intro w1 b hx1 hb hk
  repeat (first | (first | refine wadd rfl rfl (by omega) rfl ?_ | refine wsub rfl rfl (by omega) rfl ?_ | refine wmul rfl rfl (by omega) rfl ?_ | refine wp tt_ok rfl rfl ?_ | refine wnil ?_ | refine wguard rfl rfl ?_ | refine wpass rfl rfl rfl rfl ?_) | (first | refine qnext ?_ | refine bnormal ?_ | refine qret ?_ | refine bret ?_ | refine bexit ?_ | refine bother rfl ?_ | refine qexit ?_) | (first | refine wseq ?_ | refine wregion ?_ | refine wblock ?_ | refine wskip ?_ | refine wexit ?_ | refine wret ?_ | refine wcondt rfl ?_ | refine wcondf rfl ?_))
  refine wslice tt_ok 0 0 0 none 0 0 rfl rfl rfl rfl rfl ⟨_, _, rfl, rfl⟩ ⟨_, _, rfl, rfl⟩ (.inr (by simp)) (Nat.le_refl _) (Nat.le_refl _) (Nat.le_refl _) rfl rfl rfl rfl ?_
  repeat (first | (first | refine wadd rfl rfl (by omega) rfl ?_ | refine wsub rfl rfl (by omega) rfl ?_ | refine wmul rfl rfl (by omega) rfl ?_ | refine wp tt_ok rfl rfl ?_ | refine wnil ?_ | refine wguard rfl rfl ?_ | refine wpass rfl rfl rfl rfl ?_) | (first | refine qnext ?_ | refine bnormal ?_ | refine qret ?_ | refine bret ?_ | refine bexit ?_ | refine bother rfl ?_ | refine qexit ?_) | (first | refine wseq ?_ | refine wregion ?_ | refine wblock ?_ | refine wskip ?_ | refine wexit ?_ | refine wret ?_ | refine wcondt rfl ?_ | refine wcondf rfl ?_))
  refine wload tt_ok rfl rfl rfl (hk.at rfl) rfl ?_
  repeat (first | (first | refine wadd rfl rfl (by omega) rfl ?_ | refine wsub rfl rfl (by omega) rfl ?_ | refine wmul rfl rfl (by omega) rfl ?_ | refine wp tt_ok rfl rfl ?_ | refine wnil ?_ | refine wguard rfl rfl ?_ | refine wpass rfl rfl rfl rfl ?_) | (first | refine qnext ?_ | refine bnormal ?_ | refine qret ?_ | refine bret ?_ | refine bexit ?_ | refine bother rfl ?_ | refine qexit ?_) | (first | refine wseq ?_ | refine wregion ?_ | refine wblock ?_ | refine wskip ?_ | refine wexit ?_ | refine wret ?_ | refine wcondt rfl ?_ | refine wcondf rfl ?_))
  refine wjoin1 (fun v7 => [(0, .slice none 0 0), (2, .bool dsc), (7, v7)]) (fun v7 w' => OwnB w' w.heap.size v7 v.raw ∧ Ext w w') ?_ ?_
  · refine wcond rfl (fun h => ?_) (fun h => ?_)
    · have h1 : v.kind = 1 := eq_of_beq h
      repeat (first | (first | refine wadd rfl rfl (by omega) rfl ?_ | refine wsub rfl rfl (by omega) rfl ?_ | refine wmul rfl rfl (by omega) rfl ?_ | refine wp tt_ok rfl rfl ?_ | refine wnil ?_ | refine wguard rfl rfl ?_ | refine wpass rfl rfl rfl rfl ?_) | (first | refine qnext ?_ | refine bnormal ?_ | refine qret ?_ | refine bret ?_ | refine bexit ?_ | refine bother rfl ?_ | refine qexit ?_) | (first | refine wseq ?_ | refine wregion ?_ | refine wblock ?_ | refine wskip ?_ | refine wexit ?_ | refine wret ?_ | refine wcondt rfl ?_ | refine wcondf rfl ?_))
      refine wapp1 hx1 E8 (bs1 1) rfl (fun b => rfl) (.inl (own_nil _ _ _ _)) rfl (one_int _ _) (by decide) (by decide) rfl rfl ?_
      intro v2 w2 b2 ho2 hx2 hg2 _
      have hk2 := hk.grown hg2 (by simp [Value.ownBlock])
      repeat (first | (first | refine wadd rfl rfl (by omega) rfl ?_ | refine wsub rfl rfl (by omega) rfl ?_ | refine wmul rfl rfl (by omega) rfl ?_ | refine wp tt_ok rfl rfl ?_ | refine wnil ?_ | refine wguard rfl rfl ?_ | refine wpass rfl rfl rfl rfl ?_) | (first | refine qnext ?_ | refine bnormal ?_ | refine qret ?_ | refine bret ?_ | refine bexit ?_ | refine bother rfl ?_ | refine qexit ?_) | (first | refine wseq ?_ | refine wregion ?_ | refine wblock ?_ | refine wskip ?_ | refine wexit ?_ | refine wret ?_ | refine wcondt rfl ?_ | refine wcondf rfl ?_))
      refine wload tt_ok rfl rfl rfl (hk2.at rfl) rfl ?_
      repeat (first | (first | refine wadd rfl rfl (by omega) rfl ?_ | refine wsub rfl rfl (by omega) rfl ?_ | refine wmul rfl rfl (by omega) rfl ?_ | refine wp tt_ok rfl rfl ?_ | refine wnil ?_ | refine wguard rfl rfl ?_ | refine wpass rfl rfl rfl rfl ?_) | (first | refine qnext ?_ | refine bnormal ?_ | refine qret ?_ | refine bret ?_ | refine bexit ?_ | refine bother rfl ?_ | refine qexit ?_) | (first | refine wseq ?_ | refine wregion ?_ | refine wblock ?_ | refine wskip ?_ | refine wexit ?_ | refine wret ?_ | refine wcondt rfl ?_ | refine wcondf rfl ?_))
      refine wloop2 (fun k v7 => [(0, .slice none 0 0), (2, .bool dsc), (7, v7), (8, .int .u64 (v.m : Int)), (28, .int .i64 ((k : Nat) : Int))])
        (fun k v7 w' => k ≤ 8 ∧ OwnB w' w.heap.size v7 (1 :: (be8 v.m).take k) ∧ Ext w w') (fun k _ => 8 - k) 0 v2
        (Sub.cons rfl (Sub.cons rfl (Sub.cons rfl (Sub.cons (congrArg (fun z => some (Value.int .u64 z)) (xor_top hv.1 hv.2.1)) (by repeat' (first | exact Sub.nil | refine Sub.cons rfl ?_)))))) ⟨by omega, OwnB.snoc (l := []) (c := 1) rfl ho2, hx2⟩ ?_
      rintro k v7 w7 ⟨hk8, ho7, hx7⟩
      repeat (first | (first | refine wadd rfl rfl (by omega) rfl ?_ | refine wsub rfl rfl (by omega) rfl ?_ | refine wmul rfl rfl (by omega) rfl ?_ | refine wp tt_ok rfl rfl ?_ | refine wnil ?_ | refine wguard rfl rfl ?_ | refine wpass rfl rfl rfl rfl ?_) | (first | refine qnext ?_ | refine bnormal ?_ | refine qret ?_ | refine bret ?_ | refine bexit ?_ | refine bother rfl ?_ | refine qexit ?_) | (first | refine wseq ?_ | refine wregion ?_ | refine wblock ?_ | refine wskip ?_ | refine wexit ?_ | refine wret ?_ | refine wcondt rfl ?_ | refine wcondf rfl ?_))
      refine wcond rfl (fun h => ?_) (fun h => ?_)
      · have hlt : k < 8 := by have := of_decide_eq_true h; omega
        repeat (first | (first | refine wadd rfl rfl (by omega) rfl ?_ | refine wsub rfl rfl (by omega) rfl ?_ | refine wmul rfl rfl (by omega) rfl ?_ | refine wp tt_ok rfl rfl ?_ | refine wnil ?_ | refine wguard rfl rfl ?_ | refine wpass rfl rfl rfl rfl ?_) | (first | refine qnext ?_ | refine bnormal ?_ | refine qret ?_ | refine bret ?_ | refine bexit ?_ | refine bother rfl ?_ | refine qexit ?_) | (first | refine wseq ?_ | refine wregion ?_ | refine wblock ?_ | refine wskip ?_ | refine wexit ?_ | refine wret ?_ | refine wcondt rfl ?_ | refine wcondf rfl ?_))
        refine wshr rfl rfl (by omega) rfl ?_
        repeat (first | (first | refine wadd rfl rfl (by omega) rfl ?_ | refine wsub rfl rfl (by omega) rfl ?_ | refine wmul rfl rfl (by omega) rfl ?_ | refine wp tt_ok rfl rfl ?_ | refine wnil ?_ | refine wguard rfl rfl ?_ | refine wpass rfl rfl rfl rfl ?_) | (first | refine qnext ?_ | refine bnormal ?_ | refine qret ?_ | refine bret ?_ | refine bexit ?_ | refine bother rfl ?_ | refine qexit ?_) | (first | refine wseq ?_ | refine wregion ?_ | refine wblock ?_ | refine wskip ?_ | refine wexit ?_ | refine wret ?_ | refine wcondt rfl ?_ | refine wcondf rfl ?_))
        refine wapp1 hx7 E8 (bs1 _) rfl (fun b => rfl) (.inl ho7) rfl (one_int _ _) (by simp [be8, maxLen]; omega) (by simp [be8]; omega) rfl rfl ?_
        intro v3 w3 b3 ho3 hx3 hg3 _
        repeat (first | (first | refine wadd rfl rfl (by omega) rfl ?_ | refine wsub rfl rfl (by omega) rfl ?_ | refine wmul rfl rfl (by omega) rfl ?_ | refine wp tt_ok rfl rfl ?_ | refine wnil ?_ | refine wguard rfl rfl ?_ | refine wpass rfl rfl rfl rfl ?_) | (first | refine qnext ?_ | refine bnormal ?_ | refine qret ?_ | refine bret ?_ | refine bexit ?_ | refine bother rfl ?_ | refine qexit ?_) | (first | refine wseq ?_ | refine wregion ?_ | refine wblock ?_ | refine wskip ?_ | refine wexit ?_ | refine wret ?_ | refine wcondt rfl ?_ | refine wcondf rfl ?_))
        refine qround2 (k + 1) v3 (by repeat' (first | exact Sub.nil | refine Sub.cons rfl ?_)) ⟨by omega, ?_, hx3⟩ (by omega)
        have := OwnB.snoc (be_val v.m k hlt) ho3
        rw [be8_snoc _ _ hlt]
        simpa using this
      · have hge : k = 8 := by have := of_decide_eq_false h; omega
        subst hge
        repeat (first | (first | refine wadd rfl rfl (by omega) rfl ?_ | refine wsub rfl rfl (by omega) rfl ?_ | refine wmul rfl rfl (by omega) rfl ?_ | refine wp tt_ok rfl rfl ?_ | refine wnil ?_ | refine wguard rfl rfl ?_ | refine wpass rfl rfl rfl rfl ?_) | (first | refine qnext ?_ | refine bnormal ?_ | refine qret ?_ | refine bret ?_ | refine bexit ?_ | refine bother rfl ?_ | refine qexit ?_) | (first | refine wseq ?_ | refine wregion ?_ | refine wblock ?_ | refine wskip ?_ | refine wexit ?_ | refine wret ?_ | refine wcondt rfl ?_ | refine wcondf rfl ?_))
        refine qjoin1 v7 (by repeat' (first | exact Sub.nil | refine Sub.cons rfl ?_)) ⟨?_, hx7⟩
        have e : (be8 v.m).take 8 = be8 v.m := List.take_of_length_le (by simp [be8])
        rw [e] at ho7
        rw [V.raw, if_pos h1]; exact ho7
    · have h1 : v.kind ≠ 1 := ne_of_beq_false h
      repeat (first | (first | refine wadd rfl rfl (by omega) rfl ?_ | refine wsub rfl rfl (by omega) rfl ?_ | refine wmul rfl rfl (by omega) rfl ?_ | refine wp tt_ok rfl rfl ?_ | refine wnil ?_ | refine wguard rfl rfl ?_ | refine wpass rfl rfl rfl rfl ?_) | (first | refine qnext ?_ | refine bnormal ?_ | refine qret ?_ | refine bret ?_ | refine bexit ?_ | refine bother rfl ?_ | refine qexit ?_) | (first | refine wseq ?_ | refine wregion ?_ | refine wblock ?_ | refine wskip ?_ | refine wexit ?_ | refine wret ?_ | refine wcondt rfl ?_ | refine wcondf rfl ?_))
      refine wapp1 hx1 E8 (bs1 2) rfl (fun b => rfl) (.inl (own_nil _ _ _ _)) rfl (one_int _ _) (by decide) (by decide) rfl rfl ?_
      intro v2 w2 b2 ho2 hx2 hg2 _
      have hk2 := hk.grown hg2 (by simp [Value.ownBlock])
      repeat (first | (first | refine wadd rfl rfl (by omega) rfl ?_ | refine wsub rfl rfl (by omega) rfl ?_ | refine wmul rfl rfl (by omega) rfl ?_ | refine wp tt_ok rfl rfl ?_ | refine wnil ?_ | refine wguard rfl rfl ?_ | refine wpass rfl rfl rfl rfl ?_) | (first | refine qnext ?_ | refine bnormal ?_ | refine qret ?_ | refine bret ?_ | refine bexit ?_ | refine bother rfl ?_ | refine qexit ?_) | (first | refine wseq ?_ | refine wregion ?_ | refine wblock ?_ | refine wskip ?_ | refine wexit ?_ | refine wret ?_ | refine wcondt rfl ?_ | refine wcondf rfl ?_))
      refine wload tt_ok rfl rfl rfl (hk2.at rfl) rfl ?_
      repeat (first | (first | refine wadd rfl rfl (by omega) rfl ?_ | refine wsub rfl rfl (by omega) rfl ?_ | refine wmul rfl rfl (by omega) rfl ?_ | refine wp tt_ok rfl rfl ?_ | refine wnil ?_ | refine wguard rfl rfl ?_ | refine wpass rfl rfl rfl rfl ?_) | (first | refine qnext ?_ | refine bnormal ?_ | refine qret ?_ | refine bret ?_ | refine bexit ?_ | refine bother rfl ?_ | refine qexit ?_) | (first | refine wseq ?_ | refine wregion ?_ | refine wblock ?_ | refine wskip ?_ | refine wexit ?_ | refine wret ?_ | refine wcondt rfl ?_ | refine wcondf rfl ?_))
      refine wloop2 (fun k v7 => [(0, .slice none 0 0), (2, .bool dsc), (4, .pointer (some ⟨b, 0, none⟩)), (7, v7), (46, .int .i64 (v.str.size : Int)), (47, .int .i64 ((k : Nat) : Int))])
        (fun k v7 w' => k ≤ v.str.size ∧ OwnB w' w.heap.size v7 (2 :: esc (v.bytes.take k)) ∧ Ext w w' ∧ Blk w' b 42 v.cells) (fun k _ => v.str.size - k) 0 v2
        (by repeat' (first | exact Sub.nil | refine Sub.cons rfl ?_)) ⟨by omega, OwnB.snoc (l := []) (c := 2) rfl ho2, hx2, hk2⟩ ?_
      rintro k v7 w7 ⟨hks, ho7, hx7, hb7⟩
      repeat (first | (first | refine wadd rfl rfl (by omega) rfl ?_ | refine wsub rfl rfl (by omega) rfl ?_ | refine wmul rfl rfl (by omega) rfl ?_ | refine wp tt_ok rfl rfl ?_ | refine wnil ?_ | refine wguard rfl rfl ?_ | refine wpass rfl rfl rfl rfl ?_) | (first | refine qnext ?_ | refine bnormal ?_ | refine qret ?_ | refine bret ?_ | refine bexit ?_ | refine bother rfl ?_ | refine qexit ?_) | (first | refine wseq ?_ | refine wregion ?_ | refine wblock ?_ | refine wskip ?_ | refine wexit ?_ | refine wret ?_ | refine wcondt rfl ?_ | refine wcondf rfl ?_))
      refine wcond rfl (fun h => ?_) (fun h => ?_)
      · have hlt : k < v.str.size := by have := of_decide_eq_true h; omega
        have hel := esc_len (v.bytes.take k)
        have htl : (v.bytes.take k).length ≤ k := List.length_take_le _ _
        repeat (first | (first | refine wadd rfl rfl (by omega) rfl ?_ | refine wsub rfl rfl (by omega) rfl ?_ | refine wmul rfl rfl (by omega) rfl ?_ | refine wp tt_ok rfl rfl ?_ | refine wnil ?_ | refine wguard rfl rfl ?_ | refine wpass rfl rfl rfl rfl ?_) | (first | refine qnext ?_ | refine bnormal ?_ | refine qret ?_ | refine bret ?_ | refine bexit ?_ | refine bother rfl ?_ | refine qexit ?_) | (first | refine wseq ?_ | refine wregion ?_ | refine wblock ?_ | refine wskip ?_ | refine wexit ?_ | refine wret ?_ | refine wcondt rfl ?_ | refine wcondf rfl ?_))
        refine wload tt_ok rfl rfl rfl (hb7.at rfl) rfl ?_
        repeat (first | (first | refine wadd rfl rfl (by omega) rfl ?_ | refine wsub rfl rfl (by omega) rfl ?_ | refine wmul rfl rfl (by omega) rfl ?_ | refine wp tt_ok rfl rfl ?_ | refine wnil ?_ | refine wguard rfl rfl ?_ | refine wpass rfl rfl rfl rfl ?_) | (first | refine qnext ?_ | refine bnormal ?_ | refine qret ?_ | refine bret ?_ | refine bexit ?_ | refine bother rfl ?_ | refine qexit ?_) | (first | refine wseq ?_ | refine wregion ?_ | refine wblock ?_ | refine wskip ?_ | refine wexit ?_ | refine wret ?_ | refine wcondt rfl ?_ | refine wcondf rfl ?_))
        refine wsindex tt_ok k rfl rfl rfl rfl rfl hlt rfl ?_
        refine wapp1 hx7 E8 (bs1 _) rfl (fun b => rfl) (.inl ho7) rfl (one_int _ _) (by simp [maxLen]; omega) (by simp; omega) rfl rfl ?_
        intro v3 w3 b3 ho3 hx3 hg3 hob3
        have hb3 := hb7.grown hg3 (hb7.ne_own ho7 rfl)
        have hk' : k < v.bytes.length := by rw [bytes_len]; exact hlt
        have hsn := esc_snoc v.bytes k hk'
        repeat (first | (first | refine wadd rfl rfl (by omega) rfl ?_ | refine wsub rfl rfl (by omega) rfl ?_ | refine wmul rfl rfl (by omega) rfl ?_ | refine wp tt_ok rfl rfl ?_ | refine wnil ?_ | refine wguard rfl rfl ?_ | refine wpass rfl rfl rfl rfl ?_) | (first | refine qnext ?_ | refine bnormal ?_ | refine qret ?_ | refine bret ?_ | refine bexit ?_ | refine bother rfl ?_ | refine qexit ?_) | (first | refine wseq ?_ | refine wregion ?_ | refine wblock ?_ | refine wskip ?_ | refine wexit ?_ | refine wret ?_ | refine wcondt rfl ?_ | refine wcondf rfl ?_))
        refine wload tt_ok rfl rfl rfl (hb3.at rfl) rfl ?_
        repeat (first | (first | refine wadd rfl rfl (by omega) rfl ?_ | refine wsub rfl rfl (by omega) rfl ?_ | refine wmul rfl rfl (by omega) rfl ?_ | refine wp tt_ok rfl rfl ?_ | refine wnil ?_ | refine wguard rfl rfl ?_ | refine wpass rfl rfl rfl rfl ?_) | (first | refine qnext ?_ | refine bnormal ?_ | refine qret ?_ | refine bret ?_ | refine bexit ?_ | refine bother rfl ?_ | refine qexit ?_) | (first | refine wseq ?_ | refine wregion ?_ | refine wblock ?_ | refine wskip ?_ | refine wexit ?_ | refine wret ?_ | refine wcondt rfl ?_ | refine wcondf rfl ?_))
        refine wsindex tt_ok k rfl rfl rfl rfl rfl hlt rfl ?_
        repeat (first | (first | refine wadd rfl rfl (by omega) rfl ?_ | refine wsub rfl rfl (by omega) rfl ?_ | refine wmul rfl rfl (by omega) rfl ?_ | refine wp tt_ok rfl rfl ?_ | refine wnil ?_ | refine wguard rfl rfl ?_ | refine wpass rfl rfl rfl rfl ?_) | (first | refine qnext ?_ | refine bnormal ?_ | refine qret ?_ | refine bret ?_ | refine bexit ?_ | refine bother rfl ?_ | refine qexit ?_) | (first | refine wseq ?_ | refine wregion ?_ | refine wblock ?_ | refine wskip ?_ | refine wexit ?_ | refine wret ?_ | refine wcondt rfl ?_ | refine wcondf rfl ?_))
        refine wcond rfl (fun h => ?_) (fun h => ?_)
        · have hz : v.bytes.getD k 0 = 0 := by
            have := eq_of_beq h
            have h2 : (v.bytes.getD k 0).toNat = 0 := by unfold V.bytes; omega
            exact UInt8.toNat_inj.1 h2
          rw [if_pos hz] at hsn
          have ho3' := OwnB.snoc (c := 0) (by have := eq_of_beq h; rw [this]; rfl) ho3
          repeat (first | (first | refine wadd rfl rfl (by omega) rfl ?_ | refine wsub rfl rfl (by omega) rfl ?_ | refine wmul rfl rfl (by omega) rfl ?_ | refine wp tt_ok rfl rfl ?_ | refine wnil ?_ | refine wguard rfl rfl ?_ | refine wpass rfl rfl rfl rfl ?_) | (first | refine qnext ?_ | refine bnormal ?_ | refine qret ?_ | refine bret ?_ | refine bexit ?_ | refine bother rfl ?_ | refine qexit ?_) | (first | refine wseq ?_ | refine wregion ?_ | refine wblock ?_ | refine wskip ?_ | refine wexit ?_ | refine wret ?_ | refine wcondt rfl ?_ | refine wcondf rfl ?_))
          refine wapp1 hx3 E8 (bs1 _) rfl (fun b => rfl) (.inl ho3') rfl (one_int _ _) (by simp [maxLen]; omega) (by simp; omega) rfl rfl ?_
          intro v4 w4 b4 ho4 hx4 hg4 _
          have hb4 := hb3.grown hg4 (hb3.ne_own ho3' rfl)
          repeat (first | (first | refine wadd rfl rfl (by omega) rfl ?_ | refine wsub rfl rfl (by omega) rfl ?_ | refine wmul rfl rfl (by omega) rfl ?_ | refine wp tt_ok rfl rfl ?_ | refine wnil ?_ | refine wguard rfl rfl ?_ | refine wpass rfl rfl rfl rfl ?_) | (first | refine qnext ?_ | refine bnormal ?_ | refine qret ?_ | refine bret ?_ | refine bexit ?_ | refine bother rfl ?_ | refine qexit ?_) | (first | refine wseq ?_ | refine wregion ?_ | refine wblock ?_ | refine wskip ?_ | refine wexit ?_ | refine wret ?_ | refine wcondt rfl ?_ | refine wcondf rfl ?_))
          refine qround2 (k + 1) v4 (by repeat' (first | exact Sub.nil | refine Sub.cons rfl ?_)) ⟨by omega, ?_, hx4, hb4⟩ (by omega)
          have := OwnB.snoc (c := 255) rfl ho4
          rw [hsn]
          simpa using this
        · have hz : ¬ v.bytes.getD k 0 = 0 := by
            have := ne_of_beq_false h
            intro h0
            apply this
            unfold V.bytes at h0
            rw [h0]; rfl
          rw [if_neg hz] at hsn
          repeat (first | (first | refine wadd rfl rfl (by omega) rfl ?_ | refine wsub rfl rfl (by omega) rfl ?_ | refine wmul rfl rfl (by omega) rfl ?_ | refine wp tt_ok rfl rfl ?_ | refine wnil ?_ | refine wguard rfl rfl ?_ | refine wpass rfl rfl rfl rfl ?_) | (first | refine qnext ?_ | refine bnormal ?_ | refine qret ?_ | refine bret ?_ | refine bexit ?_ | refine bother rfl ?_ | refine qexit ?_) | (first | refine wseq ?_ | refine wregion ?_ | refine wblock ?_ | refine wskip ?_ | refine wexit ?_ | refine wret ?_ | refine wcondt rfl ?_ | refine wcondf rfl ?_))
          refine qround2 (k + 1) v3 (by repeat' (first | exact Sub.nil | refine Sub.cons rfl ?_)) ⟨by omega, ?_, hx3, hb3⟩ (by omega)
          have := OwnB.snoc (c := v.bytes.getD k 0) rfl ho3
          rw [hsn]
          simpa using this
      · have hge : k = v.str.size := by have := of_decide_eq_false h; omega
        subst hge
        have hel := esc_len v.bytes
        have hbl := bytes_len v
        have e : v.bytes.take v.str.size = v.bytes := List.take_of_length_le (by omega)
        rw [e] at ho7
        repeat (first | (first | refine wadd rfl rfl (by omega) rfl ?_ | refine wsub rfl rfl (by omega) rfl ?_ | refine wmul rfl rfl (by omega) rfl ?_ | refine wp tt_ok rfl rfl ?_ | refine wnil ?_ | refine wguard rfl rfl ?_ | refine wpass rfl rfl rfl rfl ?_) | (first | refine qnext ?_ | refine bnormal ?_ | refine qret ?_ | refine bret ?_ | refine bexit ?_ | refine bother rfl ?_ | refine qexit ?_) | (first | refine wseq ?_ | refine wregion ?_ | refine wblock ?_ | refine wskip ?_ | refine wexit ?_ | refine wret ?_ | refine wcondt rfl ?_ | refine wcondf rfl ?_))
        refine wbuildSlice rfl (bs2 0 0) rfl ?_
        intro w8 b8 hx8 hb8 hk8
        refine wappend (hx7.trans hx8) E8 (m' := 2) rfl rfl (.inl (own_ext ho7 hx8)) (hk8.rd (by simp)) (two_int _ _ _) (by simp [maxLen]; omega) (by simp; omega) rfl ?_
        intro v9 w9 _ ho9 _ hx9 _ _
        repeat (first | (first | refine wadd rfl rfl (by omega) rfl ?_ | refine wsub rfl rfl (by omega) rfl ?_ | refine wmul rfl rfl (by omega) rfl ?_ | refine wp tt_ok rfl rfl ?_ | refine wnil ?_ | refine wguard rfl rfl ?_ | refine wpass rfl rfl rfl rfl ?_) | (first | refine qnext ?_ | refine bnormal ?_ | refine qret ?_ | refine bret ?_ | refine bexit ?_ | refine bother rfl ?_ | refine qexit ?_) | (first | refine wseq ?_ | refine wregion ?_ | refine wblock ?_ | refine wskip ?_ | refine wexit ?_ | refine wret ?_ | refine wcondt rfl ?_ | refine wcondf rfl ?_))
        refine qjoin1 v9 (by repeat' (first | exact Sub.nil | refine Sub.cons rfl ?_)) ⟨?_, hx9⟩
        have h9 := ho9 (by omega)
        have e2 : v.raw = (2 :: esc v.bytes) ++ [0, 0] := by rw [V.raw, if_neg h1]; rfl
        rw [OwnB, e2, Bc_app, List.length_append]
        exact h9
  · rintro v7 w7 ⟨ho7, hx7⟩
    repeat (first | (first | refine wadd rfl rfl (by omega) rfl ?_ | refine wsub rfl rfl (by omega) rfl ?_ | refine wmul rfl rfl (by omega) rfl ?_ | refine wp tt_ok rfl rfl ?_ | refine wnil ?_ | refine wguard rfl rfl ?_ | refine wpass rfl rfl rfl rfl ?_) | (first | refine qnext ?_ | refine bnormal ?_ | refine qret ?_ | refine bret ?_ | refine bexit ?_ | refine bother rfl ?_ | refine qexit ?_) | (first | refine wseq ?_ | refine wregion ?_ | refine wblock ?_ | refine wskip ?_ | refine wexit ?_ | refine wret ?_ | refine wcondt rfl ?_ | refine wcondf rfl ?_))
    have hrl : v.raw.length ≤ 2003 := by
      have := esc_len v.bytes
      have h2 := bytes_len v
      unfold V.raw
      split
      · simp [be8]
      · simp; omega
    refine wcond rfl (fun h => ?_) (fun h => ?_)
    · subst h
      repeat (first | (first | refine wadd rfl rfl (by omega) rfl ?_ | refine wsub rfl rfl (by omega) rfl ?_ | refine wmul rfl rfl (by omega) rfl ?_ | refine wp tt_ok rfl rfl ?_ | refine wnil ?_ | refine wguard rfl rfl ?_ | refine wpass rfl rfl rfl rfl ?_) | (first | refine qnext ?_ | refine bnormal ?_ | refine qret ?_ | refine bret ?_ | refine bexit ?_ | refine bother rfl ?_ | refine qexit ?_) | (first | refine wseq ?_ | refine wregion ?_ | refine wblock ?_ | refine wskip ?_ | refine wexit ?_ | refine wret ?_ | refine wcondt rfl ?_ | refine wcondf rfl ?_))
      obtain ⟨A, c, rfl, hc, _⟩ := own_form ho7
      refine wloop2 (fun k v7 => [(0, .slice none 0 0), (7, .slice A v.raw.length c), (11, .int .i64 ((k : Nat) : Int))])
        (fun k (v7 : Unit) w' => k ≤ v.raw.length ∧ w'.ownsRow w.heap.size 5 1 (.slice A v.raw.length c) v.raw.length (Bc (flipTo k v.raw)) ∧ Ext w w') (fun k _ => v.raw.length - k) 0 ()
        (by repeat' (first | exact Sub.nil | refine Sub.cons rfl ?_)) ⟨by omega, ho7, hx7⟩ ?_
      rintro k _ w8 ⟨hk8, ho8, hx8⟩
      repeat (first | (first | refine wadd rfl rfl (by omega) rfl ?_ | refine wsub rfl rfl (by omega) rfl ?_ | refine wmul rfl rfl (by omega) rfl ?_ | refine wp tt_ok rfl rfl ?_ | refine wnil ?_ | refine wguard rfl rfl ?_ | refine wpass rfl rfl rfl rfl ?_) | (first | refine qnext ?_ | refine bnormal ?_ | refine qret ?_ | refine bret ?_ | refine bexit ?_ | refine bother rfl ?_ | refine qexit ?_) | (first | refine wseq ?_ | refine wregion ?_ | refine wblock ?_ | refine wskip ?_ | refine wexit ?_ | refine wret ?_ | refine wcondt rfl ?_ | refine wcondf rfl ?_))
      refine wcond rfl (fun h => ?_) (fun h => ?_)
      · have hlt : k < v.raw.length := by have := of_decide_eq_true h; omega
        obtain ⟨s1, s2, s3, s4, s5⟩ := own_store ho8 (q := k) (by omega) (.int .u8 ((255 - v.raw.getD k 0).toNat : Int))
        have hcell : w8.cell? (adr A k) = some (.int .u8 ((v.raw.getD k 0).toNat : Int)) := by
          rw [s1, Bc_get (by rw [flipTo_len]; exact hlt), flipTo_get hlt]
        have hr := Rd.own ho8
        repeat (first | (first | refine wadd rfl rfl (by omega) rfl ?_ | refine wsub rfl rfl (by omega) rfl ?_ | refine wmul rfl rfl (by omega) rfl ?_ | refine wp tt_ok rfl rfl ?_ | refine wnil ?_ | refine wguard rfl rfl ?_ | refine wpass rfl rfl rfl rfl ?_) | (first | refine qnext ?_ | refine bnormal ?_ | refine qret ?_ | refine bret ?_ | refine bexit ?_ | refine bother rfl ?_ | refine qexit ?_) | (first | refine wseq ?_ | refine wregion ?_ | refine wblock ?_ | refine wskip ?_ | refine wexit ?_ | refine wret ?_ | refine wcondt rfl ?_ | refine wcondf rfl ?_))
        refine windex1 tt_ok k rfl rfl rfl rfl rfl hr rfl hlt rfl ?_
        refine wload tt_ok rfl rfl rfl hcell rfl ?_
        repeat (first | (first | refine wadd rfl rfl (by omega) rfl ?_ | refine wsub rfl rfl (by omega) rfl ?_ | refine wmul rfl rfl (by omega) rfl ?_ | refine wp tt_ok rfl rfl ?_ | refine wnil ?_ | refine wguard rfl rfl ?_ | refine wpass rfl rfl rfl rfl ?_) | (first | refine qnext ?_ | refine bnormal ?_ | refine qret ?_ | refine bret ?_ | refine bexit ?_ | refine bother rfl ?_ | refine qexit ?_) | (first | refine wseq ?_ | refine wregion ?_ | refine wblock ?_ | refine wskip ?_ | refine wexit ?_ | refine wret ?_ | refine wcondt rfl ?_ | refine wcondf rfl ?_))
        refine wknow 84 (.int .u8 ((255 - v.raw.getD k 0).toNat : Int)) rfl (congrArg (Value.int .u8) (not_byte _)) ?_
        refine windex1 tt_ok k rfl rfl rfl rfl rfl hr rfl hlt rfl ?_
        refine wstore tt_ok rfl rfl rfl rfl rfl rfl hcell s2 ?_
        repeat (first | (first | refine wadd rfl rfl (by omega) rfl ?_ | refine wsub rfl rfl (by omega) rfl ?_ | refine wmul rfl rfl (by omega) rfl ?_ | refine wp tt_ok rfl rfl ?_ | refine wnil ?_ | refine wguard rfl rfl ?_ | refine wpass rfl rfl rfl rfl ?_) | (first | refine qnext ?_ | refine bnormal ?_ | refine qret ?_ | refine bret ?_ | refine bexit ?_ | refine bother rfl ?_ | refine qexit ?_) | (first | refine wseq ?_ | refine wregion ?_ | refine wblock ?_ | refine wskip ?_ | refine wexit ?_ | refine wret ?_ | refine wcondt rfl ?_ | refine wcondf rfl ?_))
        refine qround2 (k + 1) () (by repeat' (first | exact Sub.nil | refine Sub.cons rfl ?_)) ⟨by omega, ?_, hx8.setCell s4 _⟩ (by omega)
        rw [flipTo_set hlt] at s3
        exact s3
      · have hge : k = v.raw.length := by have := of_decide_eq_false h; omega
        subst hge
        rw [flipTo_end] at ho8
        repeat (first | (first | refine wadd rfl rfl (by omega) rfl ?_ | refine wsub rfl rfl (by omega) rfl ?_ | refine wmul rfl rfl (by omega) rfl ?_ | refine wp tt_ok rfl rfl ?_ | refine wnil ?_ | refine wguard rfl rfl ?_ | refine wpass rfl rfl rfl rfl ?_) | (first | refine qnext ?_ | refine bnormal ?_ | refine qret ?_ | refine bret ?_ | refine bexit ?_ | refine bother rfl ?_ | refine qexit ?_) | (first | refine wseq ?_ | refine wregion ?_ | refine wblock ?_ | refine wskip ?_ | refine wexit ?_ | refine wret ?_ | refine wcondt rfl ?_ | refine wcondf rfl ?_))
        refine done1 rfl rfl ⟨?_, hx8⟩
        rw [OwnB, V.enc, flp_len]
        exact ho8
    · subst h
      repeat (first | (first | refine wadd rfl rfl (by omega) rfl ?_ | refine wsub rfl rfl (by omega) rfl ?_ | refine wmul rfl rfl (by omega) rfl ?_ | refine wp tt_ok rfl rfl ?_ | refine wnil ?_ | refine wguard rfl rfl ?_ | refine wpass rfl rfl rfl rfl ?_) | (first | refine qnext ?_ | refine bnormal ?_ | refine qret ?_ | refine bret ?_ | refine bexit ?_ | refine bother rfl ?_ | refine qexit ?_) | (first | refine wseq ?_ | refine wregion ?_ | refine wblock ?_ | refine wskip ?_ | refine wexit ?_ | refine wret ?_ | refine wcondt rfl ?_ | refine wcondf rfl ?_))
      refine done1 rfl rfl ⟨?_, hx7⟩
      exact ho7
end Go.Proofs.Ythjnmclnafbcdaa
