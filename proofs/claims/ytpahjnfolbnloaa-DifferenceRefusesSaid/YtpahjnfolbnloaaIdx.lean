/- The walking layer: elements of arrays in boxes, remainders and unequal truth values, in plain regions and in those that draw. No program in sight. -/
import Derived.Test.YtpahjnfolbnloaaMak
set_option linter.unusedVariables false
namespace Go.Wk
open Go.RowKit
section
variable {P : Program} {n : Nat} {al : AL} {w : World} {Q : Exit → Act → World → Prop} {ops : Array Oper} {rest : List Oper} {drest : List (Nat × Oper)}
variable {d ty : Nat} {op : Op} {pos : String} {aft : Array Edge} {tt : TT}
theorem tk_array (hT : TOk P tt) {t m e sz : Nat} {k : TK} (ht : tk tt t = some k) (hk : k.desc = .array m e) (hz : k.esz = sz) : P.underlying t = some (.array m e) ∧ szOf P e = some sz := by
  have := hT.at ht
  unfold rowOk at this
  rw [hk] at this
  subst hz
  exact ⟨this.1, this.2.1⟩
theorem run_ixa (hT : TOk P tt) {x i : Operand} {t m e : Nat} {k : TK} {p : Addr} {kd : IntKind} {z : Int} (j : Nat) (ht : tk tt t = some k) (hk : k.desc = .array m e) (hlt : j < m) {a : Act} (ha : Fr n al a) (hx : ev al x = some (.pointer (some p))) (hi : ev al i = some (.int kd z)) (hj : z = (j : Int)) (dst : Option Nat) (w : World) :
    (execOp a.eval ⟨dst, .indexAddr t x i, ty, pos, aft, none⟩).run P w = .ok (.value (.pointer (some (p.add (j * k.esz))))) w := by
  obtain ⟨hu, hs⟩ := tk_array hT ht hk rfl
  subst hj
  simp [execOp, ha.ev hx, ha.ev hi, Instr.indexAt, asIntOf, run_underlying hu, run_sizeOf w hs, Instr.sureAddr]
  intro h; omega
/-- an element of an array in a box -/
theorem ixa [h : Tab P tt] {x i : Operand} {t m e : Nat} {k : TK} {p : Addr} {kd : IntKind} {z : Int} (j : Nat) (kk : WL P n ops Q rest ((d, .pointer (some (p.add (j * k.esz)))) :: al) w) (ht : tk tt t = some k := by rfl) (hk : k.desc = .array m e := by rfl) (hlt : Nat.blt j m = true := by rfl)
    (hx : ev al x = some (.pointer (some p)) := by rfl) (hi : ev al i = some (.int kd z) := by rfl) (hj : z = (j : Int) := by first | rfl | omega) (hd : Nat.blt d n = true := by rfl) : WL P n ops Q (⟨some d, .indexAddr t x i, ty, pos, aft, none⟩ :: rest) al w :=
  wop hd (fun a ha => run_ixa h.ok j ht hk (by have : j + 1 ≤ m := by simpa [Nat.blt] using hlt
                                               omega) ha hx hi hj (some d) w) kk
theorem dixa [h : Tab P tt] {x i : Operand} {t m e : Nat} {k : TK} {p : Addr} {kd : IntKind} {z : Int} (j : Nat) (kk : WD P n ops Q drest ((d, .pointer (some (p.add (j * k.esz)))) :: al) w) (ht : tk tt t = some k := by rfl) (hk : k.desc = .array m e := by rfl) (hlt : Nat.blt j m = true := by rfl)
    (hx : ev al x = some (.pointer (some p)) := by rfl) (hi : ev al i = some (.int kd z) := by rfl) (hj : z = (j : Int) := by first | rfl | omega) (hd : Nat.blt d n = true := by rfl) : WD P n ops Q ((0, ⟨some d, .indexAddr t x i, ty, pos, aft, none⟩) :: drest) al w :=
  dy (fun w' _ a ha => run_ixa h.ok j ht hk (by have : j + 1 ≤ m := by simpa [Nat.blt] using hlt
                                                omega) ha hx hi hj (some d) w') hd kk
theorem run_rem {x y : Operand} {t yt : TypeId} {k1 : IntKind} {a b : Int} (h0 : b ≠ 0) {e : Act} (he : Fr n al e) (hx : ev al x = some (.int k1 a)) (hy : ev al y = some (.int k1 b)) (dst : Option Nat) (w : World) :
    (execOp e.eval ⟨dst, .binOp .rem t x y yt, ty, pos, aft, none⟩).run P w = .ok (.value (.int k1 (a.tmod b))) w := by
  simp [execOp, he.ev hx, he.ev hy, eqGuard, binOp, Op.intDiv, h0]
theorem drem {x y : Operand} {t yt : TypeId} {k1 : IntKind} {a b : Int} (h0 : b ≠ 0) (kk : WD P n ops Q drest ((d, .int k1 (a.tmod b)) :: al) w) (hx : ev al x = some (.int k1 a) := by rfl) (hy : ev al y = some (.int k1 b) := by rfl) (hd : Nat.blt d n = true := by rfl) :
    WD P n ops Q ((0, ⟨some d, .binOp .rem t x y yt, ty, pos, aft, none⟩) :: drest) al w := dy (fun w' _ e he => run_rem h0 he hx hy (some d) w') hd kk
theorem rem {x y : Operand} {t yt : TypeId} {k1 : IntKind} {a b : Int} (h0 : b ≠ 0) (kk : WL P n ops Q rest ((d, .int k1 (a.tmod b)) :: al) w) (hx : ev al x = some (.int k1 a) := by rfl) (hy : ev al y = some (.int k1 b) := by rfl) (hd : Nat.blt d n = true := by rfl) :
    WL P n ops Q (⟨some d, .binOp .rem t x y yt, ty, pos, aft, none⟩ :: rest) al w := wop hd (fun e he => run_rem h0 he hx hy (some d) w) kk
theorem run_neb (hT : TOk P tt) {t t2 : TypeId} {k : TK} {x y : Operand} {p q : Bool} (ht : tk tt t = some k) (hk : k.desc = .bool) {a : Act} (ha : Fr n al a) (hx : ev al x = some (.bool p)) (hy : ev al y = some (.bool q)) (dst : Option Nat) (w : World) :
    (execOp a.eval ⟨dst, .binOp .neq t x y t2, ty, pos, aft, none⟩).run P w = .ok (.value (.bool (!(p == q)))) w := by
  have hu := tk_is hT ht hk rfl
  have h : ∀ d : Nat, (Op.equalIn (d + 1) t (.bool p) (.bool q)).run P w = .ok (p == q) w := fun d => by simp [Op.equalIn, run_underlying hu]
  simp [execOp, ha.ev hx, ha.ev hy, eqGuard, binOp, Op.equal, Op.maxDepth, h 9999]
theorem neb [h : Tab P tt] {t t2 : TypeId} {k : TK} {x y : Operand} {p q : Bool} (kk : WL P n ops Q rest ((d, .bool (!(p == q))) :: al) w) (ht : tk tt t = some k := by rfl) (hk : k.desc = .bool := by rfl) (hx : ev al x = some (.bool p) := by rfl) (hy : ev al y = some (.bool q) := by rfl) (hd : Nat.blt d n = true := by rfl) :
    WL P n ops Q (⟨some d, .binOp .neq t x y t2, ty, pos, aft, none⟩ :: rest) al w := wop hd (fun a ha => run_neb h.ok ht hk ha hx hy (some d) w) kk
/-- s[l:h] -/
theorem slb [hT : Tab P tt] {x y1 y2 : Operand} {t e : Nat} {k : TK} {A : Option Addr} {m c : Nat} {kd1 kd2 : IntKind} {z1 z2 : Int} (l h : Nat) (kk : WL P n ops Q rest ((d, .slice (if c = l then A else A.map (·.add (l * k.esz))) (h - l) (c - l)) :: al) w)
    (h1 : l ≤ h) (h2 : h ≤ c) (hz1 : z1 = (l : Int)) (hz2 : z2 = (h : Int)) (ht : tk tt t = some k := by rfl) (hk : k.desc = .slice e := by rfl) (hx : ev al x = some (.slice A m c) := by rfl) (hy1 : ev al y1 = some (.int kd1 z1) := by rfl) (hy2 : ev al y2 = some (.int kd2 z2) := by rfl) (hd : Nat.blt d n = true := by rfl) :
    WL P n ops Q (⟨some d, .slice t x (some y1) (some y2) none, ty, pos, aft, none⟩ :: rest) al w :=
  wslice hT.ok l h c _ _ _ ht hk rfl hx ⟨kd1, z1, hy1, hz1⟩ ⟨kd2, z2, hy2, hz2⟩ rfl (.inl rfl) h1 h2 (Nat.le_refl _) rfl rfl rfl hd kk
end
end Go.Wk
