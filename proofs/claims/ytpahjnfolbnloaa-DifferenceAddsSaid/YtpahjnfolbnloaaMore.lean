/- The walking layer, more: make, slices cut, in short words. No program in sight. -/
import Derived.Test.YtpahjnfolbnloaaUse
set_option linter.unusedVariables false
namespace Go.Wk
open Go.RowKit
theorem Rd.take {w : World} {sz n : Nat} {A : Option Addr} {cs : List Value} (h : Rd w sz A n cs) {m : Nat} (hm : m ≤ n) : Rd w sz A m (cs.take (m * sz)) := by
  refine ⟨?_, fun h0 => ?_⟩
  · rw [List.length_take, h.1]; exact Nat.min_eq_left (Nat.mul_le_mul_right _ hm)
  · obtain ⟨ad, e, hb, hc⟩ := h.2 (by rw [List.length_take] at h0; omega)
    refine ⟨ad, e, hb, fun j u hu => ?_⟩
    rw [List.getElem?_take] at hu
    split at hu
    · exact hc j u hu
    · cases hu
theorem Rd.drop {w : World} {sz n : Nat} {A : Option Addr} {cs : List Value} (h : Rd w sz A n cs) {k c : Nat} (hk : k ≤ n) (hc : n ≤ c) : Rd w sz (if c = k then A else A.map (·.add (k * sz))) (n - k) (cs.drop (k * sz)) := by
  have := h.cut k n c hk (Nat.le_refl _) (.inl hc)
  rwa [List.take_of_length_le (by rw [List.length_drop, h.1, Nat.sub_mul]; exact Nat.le_refl _)] at this
/-- rows of different element types never share a block -/
theorem own_kept_ne {w w' : World} {base e sz m base' e' sz' m' : Nat} {v v' : Value} {xs xs' : List Value} (h : w.ownsRow base e sz v m xs) (h' : w.ownsRow base' e' sz' v' m' xs') (hg : w.grownBy w' v'.ownBlock) (hne : Nat.beq e e' = false) : w'.ownsRow base e sz v m xs := by
  refine h.kept hg ?_
  have hne' : e ≠ e' := by intro e''; subst e''; simp at hne
  rcases h.2 with ⟨rfl, _⟩ | ⟨g, cap, cur, rfl, _, hh, _⟩
  · exact .inl rfl
  · right
    intro he
    rcases h'.2 with ⟨rfl, _⟩ | ⟨g', cap', cur', rfl, _, hh', _⟩
    · simp [Value.ownBlock] at he
    · have : g = g' := by simpa [Value.ownBlock] using he
      subst this
      rw [hh] at hh'
      injection hh' with hh'
      injection hh' with _ ht
      exact hne' ht
theorem Bc_take (l : List UInt8) (k : Nat) : (Bc l).take k = Bc (l.take k) := by simp [Bc]
theorem Bc_drop (l : List UInt8) (k : Nat) : (Bc l).drop k = Bc (l.drop k) := by simp [Bc]
section
variable {P : Program} {n : Nat} {al : AL} {w : World} {Q Q' Q2 : Exit → Act → World → Prop} {ops : Array Oper}
theorem wpList_monoQ (hq : ∀ e a w, Q e a w → Q2 e a w) : ∀ (l : List Oper) (a : Act) (w : World), wpList P ops Q l a w → wpList P ops Q2 l a w
  | [], a, w, h => hq _ _ _ h
  | o :: l, a, w, h => by
    unfold wpList at h ⊢
    split
    · rename_i hw
      rw [if_pos hw] at h
      rcases h with h | ⟨h1, a', w', h2⟩
      · exact .inl (upon_monoQ (Q := Q) (fun c a w hp => hq _ _ _ hp) (fun ⟨a, w, h⟩ => ⟨a, w, hq _ _ _ h⟩) (Oper.wp_mono (fun a w h => wpList_monoQ hq l a w h) h))
      · exact .inr ⟨h1, a', w', hq _ _ _ h2⟩
    · rename_i hw
      rw [if_neg hw] at h
      exact wpList_monoQ hq l _ _ h
/-- ways inside a region that meet at its end -/
theorem wljoin0 {d : Code} {l : List Oper} (fr : AL) (I : World → Prop) (h1 : WL P n ops (Exit.then (fun a w => Fr n fr a ∧ I w) Q) l al w) (h2 : ∀ w, I w → WC P n d Q' fr w) : WL P n ops (Exit.then (d.wp P Q') Q) l al w := by
  intro a ha
  refine wpList_monoQ ?_ l a w (h1 a ha)
  intro e a' w' hq
  cases e with
  | normal => exact h2 w' hq.2 a' hq.1
  | exit id => exact hq
  | goto l => exact hq
  | ret => exact hq
  | panic c => exact hq
  | outgrown => exact hq
theorem wljoin1 {α : Type} {d : Code} {l : List Oper} (fr : α → AL) (I : α → World → Prop) (h1 : WL P n ops (Exit.then (fun a w => ∃ x, Fr n (fr x) a ∧ I x w) Q) l al w) (h2 : ∀ x w, I x w → WC P n d Q' (fr x) w) : WL P n ops (Exit.then (d.wp P Q') Q) l al w := by
  intro a ha
  refine wpList_monoQ ?_ l a w (h1 a ha)
  intro e a' w' hq
  cases e with
  | normal => obtain ⟨x, h3, h4⟩ := hq; exact h2 x w' h4 a' h3
  | exit id => exact hq
  | goto l => exact hq
  | ret => exact hq
  | panic c => exact hq
  | outgrown => exact hq
end
section
variable {P : Program} {n : Nat} {al : AL} {w : World} {Q Q' : Exit → Act → World → Prop} {ops : Array Oper} {rest : List Oper} {drest : List (Nat × Oper)}
variable {d ty : Nat} {op : Op} {pos : String} {aft : Array Edge} {tt : TT}
/-- make([]T, 0, c) -/
theorem mk0 {t e sz bytes : Nat} {z : Value} (hE : ElT P t e sz bytes z) {x y : Operand} {kl kc : IntKind} {zc : Int} (c : Nat) (hb : bytes * c ≤ 281474976710656) (h63 : c ≤ maxLen)
    (kk : ∀ w1 A, Ext w w1 → w1.ownsRow w.heap.size e sz (.slice A 0 c) 0 [] → WL P n ops Q rest ((d, .slice A 0 c) :: al) w1)
    (hx : ev al x = some (.int kl 0) := by rfl) (hy : ev al y = some (.int kc zc) := by rfl) (hc : zc = (c : Int) := by first | rfl | omega) (hd : Nat.blt d n = true := by rfl) : WL P n ops Q (⟨some d, .makeSlice t x y, ty, pos, aft, none⟩ :: rest) al w := by
  subst hc
  obtain ⟨i, hi, hz, hsz, hbt⟩ := hE.info
  subst hbt
  obtain ⟨w1, h1, h2, h3⟩ := run_make_own (P := P) w w.heap.size t e i z sz hE.sl hi hz hsz kl kc c hb h63 (Nat.le_refl _)
  exact wop hd (fun a ha => by simp [execOp, ha.ev hx, ha.ev hy, h1]) (kk w1 _ ⟨h3.os, h3.tape, h3.output, h3.size, fun k hk => h3.block k hk (by simp)⟩ h2)
/-- make([]T, m) -/
theorem mkn {t e sz bytes : Nat} {z : Value} (hE : ElT P t e sz bytes z) {x y : Operand} {kl kc : IntKind} {zl zc : Int} (m : Nat) (hb : bytes * m ≤ 281474976710656) (h63 : m ≤ maxLen)
    (kk : ∀ w1 A, Ext w w1 → w1.ownsRow w.heap.size e sz (.slice A m m) m (madeCells z.cells (m * sz)).toList → (∀ g, A = some g → w.heap.size ≤ g.block) → WL P n ops Q rest ((d, .slice A m m) :: al) w1)
    (hx : ev al x = some (.int kl zl) := by rfl) (hy : ev al y = some (.int kc zc) := by rfl) (hl : zl = (m : Int) := by first | rfl | omega) (hc : zc = (m : Int) := by first | rfl | omega) (hd : Nat.blt d n = true := by rfl) : WL P n ops Q (⟨some d, .makeSlice t x y, ty, pos, aft, none⟩ :: rest) al w := by
  subst hc; subst hl
  obtain ⟨i, hi, hz, hsz, hbt⟩ := hE.info
  subst hbt
  obtain ⟨w1, h1, h2, h3⟩ := run_make_full (P := P) w w.heap.size t e i z sz hE.sl hi hz hsz kl kc m hb h63 (Nat.le_refl _)
  exact wop hd (fun a ha => by simp [execOp, ha.ev hx, ha.ev hy, h1]) (kk w1 _ ⟨h3.os, h3.tape, h3.output, h3.size, fun k hk => h3.block k hk (by simp)⟩ h2 (fun g hg => by injection hg with hg; subst hg; exact Nat.le_refl _))
/-- s[:h] of a slice that reads as cs -/
theorem slh [hT : Tab P tt] {x y : Operand} {t e : Nat} {k : TK} {A : Option Addr} {m c : Nat} {kd : IntKind} {z : Int} (h : Nat) (kk : WL P n ops Q rest ((d, .slice A h c) :: al) w)
    (ht : tk tt t = some k := by rfl) (hk : k.desc = .slice e := by rfl) (hx : ev al x = some (.slice A m c) := by rfl) (hy : ev al y = some (.int kd z) := by rfl) (hz : z = (h : Int) := by first | rfl | omega) (h2 : h ≤ c := by omega) (hd : Nat.blt d n = true := by rfl) :
    WL P n ops Q (⟨some d, .slice t x none (some y) none, ty, pos, aft, none⟩ :: rest) al w :=
  wslice hT.ok 0 h c A h c ht hk rfl hx rfl ⟨kd, z, hy, hz⟩ rfl (.inl rfl) (Nat.zero_le _) h2 (Nat.le_refl _) (cut0 A _ _) rfl rfl hd kk
/-- s[l:] -/
theorem sll [hT : Tab P tt] {x y : Operand} {t e : Nat} {k : TK} {A : Option Addr} {m c : Nat} {kd : IntKind} {z : Int} (l : Nat) (kk : WL P n ops Q rest ((d, .slice (if c = l then A else A.map (·.add (l * k.esz))) (m - l) (c - l)) :: al) w)
    (ht : tk tt t = some k := by rfl) (hk : k.desc = .slice e := by rfl) (hx : ev al x = some (.slice A m c) := by rfl) (hy : ev al y = some (.int kd z) := by rfl) (hz : z = (l : Int) := by first | rfl | omega) (h1 : l ≤ m := by omega) (h2 : m ≤ c := by omega) (hd : Nat.blt d n = true := by rfl) :
    WL P n ops Q (⟨some d, .slice t x (some y) none none, ty, pos, aft, none⟩ :: rest) al w :=
  wslice hT.ok l m c _ _ _ ht hk rfl hx ⟨kd, z, hy, hz⟩ rfl rfl (.inl rfl) h1 h2 (Nat.le_refl _) rfl rfl rfl hd kk
/-- append of what reads as a list onto what is the call's own -/
theorem apo {a : World} (hxa : Ext a w) {t e sz bytes : Nat} {z : Value} (hE : ElT P t e sz bytes z) {x y : Operand} {v : Value} {m : Nat} {xs : List Value} {A' : Option Addr} {m' c' : Nat} {news : List Value}
    (ha : w.ownsRow a.heap.size e sz v m xs) (hr : Rd w sz A' m' news) (h1 : ∀ u ∈ news, u.oneCell' = true) (h63 : m + m' ≤ maxLen) (hby : (m + m') * bytes ≤ 140737488355328)
    (kk : ∀ v' w', w'.ownsRow a.heap.size e sz v' (m + m') (xs ++ news) → Ext a w' → w.grownBy w' v.ownBlock → (∀ g, v'.ownBlock = some g → v.ownBlock = some g ∨ w.heap.size ≤ g) → WL P n ops Q rest ((d, v') :: al) w')
    (hx : ev al x = some v := by rfl) (hy : ev al y = some (.slice A' m' c') := by rfl) (hd : Nat.blt d n = true := by rfl) :
    WL P n ops Q (⟨some d, .call { callee := .builtin .append, args := #[x, y], argTypes := #[t, t] }, ty, pos, aft, none⟩ :: rest) al w :=
  wappend hxa hE hx hy (.inl ha) hr h1 h63 hby hd fun v' w' _ _ k3 k4 k5 k6 => kk v' w' (k3 ha) k4 k5 k6
/-- a slice literal -/
theorem bsl {t : Nat} {len : Nat} {parts : Array (Nat × Operand)} {vs : List Value} {e : Nat} {cs : List Value} {pw : Array (Nat × Value)}
    (hb : ∀ w : World, (Instr.buildSlice t len pw).run P w = .ok (.slice (some ⟨w.heap.size, 0, none⟩) len len) (w.alloc (.cells cs.toArray e)))
    (kk : ∀ w1 b, Ext w w1 → w.heap.size ≤ b → Blk w1 b e cs → WL P n ops Q rest ((d, .slice (some ⟨b, 0, none⟩) len len) :: al) w1) (hx : evs al (parts.toList.map (·.2)) = some vs := by rfl) (hp : ((parts.toList.map (·.1)).zip vs).toArray = pw := by rfl) (hd : Nat.blt d n = true := by rfl) :
    WL P n ops Q (⟨some d, .buildSlice t len parts, ty, pos, aft, none⟩ :: rest) al w := by subst hp; exact wbuildSlice hx hb hd kk
/-- a struct literal -/
theorem bld {t : Nat} {parts : Array (Nat × Operand)} {vs : List Value} {v : Value} {pw : Array (Nat × Value)} (hb : (Instr.build t pw).run P w = .ok v w) (kk : WL P n ops Q rest ((d, v) :: al) w)
    (hx : evs al (parts.toList.map (·.2)) = some vs := by rfl) (hp : ((parts.toList.map (·.1)).zip vs).toArray = pw := by rfl) (hd : Nat.blt d n = true := by rfl) : WL P n ops Q (⟨some d, .build t parts, ty, pos, aft, none⟩ :: rest) al w := by subst hp; exact wbuild hx hb hd kk
/-- string(b) -/
theorem sb [h : Tab P tt] {x : Operand} {src dst e : Nat} {k k2 k3 : TK} {A : Option Addr} {m c : Nat} {l : List UInt8} (hr : Rd w 1 A m (Bc l)) (kk : WL P n ops Q rest ((d, .string (str l)) :: al) w)
    (hs : tk tt src = some k := by rfl) (hk : k.desc = .slice e := by rfl) (he : tk tt e = some k3 := by rfl) (hk3 : k3.desc = .int .u8 := by rfl) (hdst : tk tt dst = some k2 := by rfl) (hk2 : k2.desc = .string := by rfl)
    (hx : ev al x = some (.slice A m c) := by rfl) (hd : Nat.blt d n = true := by rfl) : WL P n ops Q (⟨some d, .convert src dst x, ty, pos, aft, none⟩ :: rest) al w := wbytes h.ok hs hk he hk3 hdst hk2 hx hr hd kk
theorem str_app (l r : List UInt8) : str l ++ str r = str (l ++ r) := by
  apply ByteArray.ext
  simp [str]
theorem str_list (l : List UInt8) : (str l).toList = l := by rw [ByteArray.toList_eq]; rfl
/-- x + y on strings -/
theorem scat {x y : Operand} {t yt : Nat} {l r : List UInt8} (hl : l.length + r.length ≤ 9223372036854775807) (kk : WL P n ops Q rest ((d, .string (str (l ++ r))) :: al) w)
    (hx : ev al x = some (.string (str l)) := by rfl) (hy : ev al y = some (.string (str r)) := by rfl) (hd : Nat.blt d n = true := by rfl) : WL P n ops Q (⟨some d, .binOp .add t x y yt, ty, pos, aft, none⟩ :: rest) al w :=
  wop hd (fun a ha => by
    have h1 : (str l).size = l.length := by simp [str, ByteArray.size]
    have h2 : (str r).size = r.length := by simp [str, ByteArray.size]
    simp [execOp, ha.ev hx, ha.ev hy, eqGuard, binOp, Op.stringOp, h1, h2, str_app]
    omega) kk
end
end Go.Wk
