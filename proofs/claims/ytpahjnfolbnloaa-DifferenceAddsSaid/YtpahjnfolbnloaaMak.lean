/- The walking layer: what makes memory in a region that draws; interface values there; equal truth values. No program in sight. -/
import Derived.Test.YtpahjnfolbnloaaSto
set_option linter.unusedVariables false
namespace Go.Wk
open Go.RowKit
section
variable {P : Program} {n : Nat} {al : AL} {w : World} {Q : Exit → Act → World → Prop} {ops : Array Oper} {rest : List Oper} {drest : List (Nat × Oper)}
variable {d ty : Nat} {op : Op} {pos : String} {aft : Array Edge} {tt : TT}
/-- one operation that makes memory, by the laws of a plain list -/
def toE (P : Program) (ops : Array Oper) (Q : Exit → Act → World → Prop) (w0 : World) (rest : List (Nat × Oper)) : Exit → Act → World → Prop
  | .normal, a, w => Ext w0 w ∧ wpSched P ops Q rest a w
  | _, _, _ => False
theorem eback {w0 : World} (hx : Ext w0 w) (h : WD P n ops Q drest al w) : QX n (toE P ops Q w0 drest) .normal al w := fun a ha => ⟨hx, h a ha⟩
theorem done_ {o : Oper} (h : WL P n ops (toE P ops Q w drest) [o] al w) : WD P n ops Q ((1, o) :: drest) al w := fun a ha => by
  have h1 := h a ha
  unfold wpList at h1
  unfold wpSched wk1
  simp only
  have hno : ¬ LetsOut (toE P ops Q w drest) := by rintro ⟨a, w, h⟩; exact h
  split
  · rename_i hw
    simp only [hw, if_true] at h1
    rcases h1 with h1 | ⟨_, h1⟩
    · refine Oper.wp_mono (K := wpList P ops (toE P ops Q w drest) []) (fun a' w' h' => h') ?_
      unfold Oper.wp at h1 ⊢
      exact upon_monoQ (Q := toE P ops Q w drest) (fun c a w hf => hf.elim) (fun hf => absurd hf hno) h1
    · exact absurd h1 hno
  · rename_i hw
    simp only [hw] at h1
    exact h1.2
theorem run_mki {t : TypeId} {td : TypeDesc} (ht : P.underlying t = some td) (hn : ∀ ms, td ≠ .interface ms) {v : Value} {x : Operand} {a : Act} (ha : Fr n al a) (hx : ev al x = some v) (dst : Option Nat) (w : World) :
    (execOp a.eval ⟨dst, .makeInterface t x, ty, pos, aft, none⟩).run P w = .ok (.value (.iface t v)) w := by
  simp only [execOp, ha.ev hx, Instr.makeInterface, Sem.run_bind, run_underlying ht, Result.andThen_ok]
  cases td <;> first | rfl | exact absurd rfl (hn _)
theorem dmki {t : TypeId} {td : TypeDesc} (ht : P.underlying t = some td) (hn : ∀ ms, td ≠ .interface ms) {v : Value} {x : Operand} (kk : WD P n ops Q drest ((d, .iface t v) :: al) w)
    (hx : ev al x = some v := by rfl) (hd : Nat.blt d n = true := by rfl) : WD P n ops Q ((0, ⟨some d, .makeInterface t x, ty, pos, aft, none⟩) :: drest) al w :=
  dy (fun w' _ a ha => run_mki ht hn ha hx (some d) w') hd kk
theorem run_eqb (hT : TOk P tt) {t t2 : TypeId} {k : TK} {x y : Operand} {p q : Bool} (ht : tk tt t = some k) (hk : k.desc = .bool) {a : Act} (ha : Fr n al a) (hx : ev al x = some (.bool p)) (hy : ev al y = some (.bool q)) (dst : Option Nat) (w : World) :
    (execOp a.eval ⟨dst, .binOp .eql t x y t2, ty, pos, aft, none⟩).run P w = .ok (.value (.bool (p == q))) w := by
  have hu := tk_is hT ht hk rfl
  have h : ∀ d : Nat, (Op.equalIn (d + 1) t (.bool p) (.bool q)).run P w = .ok (p == q) w := fun d => by simp [Op.equalIn, run_underlying hu]
  simp [execOp, ha.ev hx, ha.ev hy, eqGuard, binOp, Op.equal, Op.maxDepth, h 9999]
/-- p == q, of truth values -/
theorem eqb [h : Tab P tt] {t t2 : TypeId} {k : TK} {x y : Operand} {p q : Bool} (kk : WL P n ops Q rest ((d, .bool (p == q)) :: al) w) (ht : tk tt t = some k := by rfl) (hk : k.desc = .bool := by rfl) (hx : ev al x = some (.bool p) := by rfl) (hy : ev al y = some (.bool q) := by rfl) (hd : Nat.blt d n = true := by rfl) :
    WL P n ops Q (⟨some d, .binOp .eql t x y t2, ty, pos, aft, none⟩ :: rest) al w := wop hd (fun a ha => run_eqb h.ok ht hk ha hx hy (some d) w) kk
theorem deqb [h : Tab P tt] {t t2 : TypeId} {k : TK} {x y : Operand} {p q : Bool} (kk : WD P n ops Q drest ((d, .bool (p == q)) :: al) w) (ht : tk tt t = some k := by rfl) (hk : k.desc = .bool := by rfl) (hx : ev al x = some (.bool p) := by rfl) (hy : ev al y = some (.bool q) := by rfl) (hd : Nat.blt d n = true := by rfl) :
    WD P n ops Q ((0, ⟨some d, .binOp .eql t x y t2, ty, pos, aft, none⟩) :: drest) al w := dy (fun w' _ a ha => run_eqb h.ok ht hk ha hx hy (some d) w') hd kk
/-- a slice literal, in a region that draws -/
theorem dbsl {t : Nat} {len : Nat} {parts : Array (Nat × Operand)} {vs : List Value} {e : Nat} {cs : List Value} {pw : Array (Nat × Value)}
    (hb : ∀ w : World, (Instr.buildSlice t len pw).run P w = .ok (.slice (some ⟨w.heap.size, 0, none⟩) len len) (w.alloc (.cells cs.toArray e)))
    (kk : ∀ w1 b, Ext w w1 → w.heap.size ≤ b → Blk w1 b e cs → WD P n ops Q drest ((d, .slice (some ⟨b, 0, none⟩) len len) :: al) w1) (hx : evs al (parts.toList.map (·.2)) = some vs := by rfl) (hp : ((parts.toList.map (·.1)).zip vs).toArray = pw := by rfl) (hd : Nat.blt d n = true := by rfl) :
    WD P n ops Q ((1, ⟨some d, .buildSlice t len parts, ty, pos, aft, none⟩) :: drest) al w :=
  done_ (bsl hb (fun w1 b hx1 hb1 hk1 => wnil (eback hx1 (kk w1 b hx1 hb1 hk1))) hx hp hd)
end
end Go.Wk
