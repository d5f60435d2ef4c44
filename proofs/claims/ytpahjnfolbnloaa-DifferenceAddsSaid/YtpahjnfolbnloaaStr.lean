/- Structures in boxes: allocation, whole stores, results that lie in boxes; comparison of structures in a region that draws. -/
import Derived.Test.YtpahjnfolbnloaaExtn
set_option linter.unusedVariables false
namespace Go.Wk
open Go.RowKit
section
variable {P : Program} {n : Nat} {al : AL} {w : World} {Q : Exit → Act → World → Prop} {ops : Array Oper} {rest : List Oper}
variable {d ty : Nat} {op : Op} {pos : String} {aft : Array Edge} {tt : TT}
theorem grown_setRow (w : World) (g : Nat) (cs : Array Value) : w.grownBy (w.setRow g cs) (some g) :=
  ⟨rfl, rfl, rfl, by rw [setRow_size]; exact Nat.le_refl _, fun k _ hk => setRow_other w g k cs (fun e => hk (by rw [e]))⟩
/-- a new variable -/
theorem alc {t : Nat} {z : Value} {cs : List Value} (hz : zeroOf P t = some z) (kk : ∀ w1 b, Ext w w1 → w.heap.size ≤ b → Blk w1 b t cs → WL P n ops Q rest ((d, .pointer (some ⟨b, 0, none⟩)) :: al) w1) (hv : z.cells = cs.toArray := by rfl) (hd : Nat.blt d n = true := by rfl) :
    WL P n ops Q (⟨some d, .alloc t, ty, pos, aft, none⟩ :: rest) al w := walloc hz hv hd kk
/-- a structure stored whole in its box -/
theorem stb [h : Tab P tt] {x y : Operand} {t b : Nat} {k : TK} {cs cs' : List Value} (hb : Blk w b t cs) (kk : ∀ w1, Blk w1 b t cs' → w.grownBy w1 (some b) → (∀ a, Ext a w → a.heap.size ≤ b → Ext a w1) → WL P n ops Q rest al w1)
    (h1 : ∀ u ∈ cs', u.oneCell' = true) (hl : cs.length = cs'.length := by rfl) (ht : tk tt t = some k := by rfl) (hk : k.desc = .invalid := by rfl) (hs : k.size = cs'.length := by rfl) (hx : ev al x = some (.pointer (some ⟨b, 0, none⟩)) := by rfl) (hy : ev al y = some (.agg cs'.toArray) := by rfl) :
    WL P n ops Q (⟨none, .store t x y, ty, pos, aft, none⟩ :: rest) al w := by
  have hg := grown_setRow w b cs'.toArray
  refine wopn (fun a ha => ?_) (kk (w.setRow b cs'.toArray) (setRow_heap w b _ _ _ _ hb) hg (fun a hx ha => grown_ext hx hg (fun k hk => by injection hk with hk; omega)))
  have hsz := run_sizeOf w (tk_struct h.ok ht hk w).2
  have hst := run_storeCells_from (P := P) b t cs' 0 cs.toArray w hb (by simpa using hl.symm) h1
  simp only [List.take_zero, List.nil_append] at hst
  simp [execOp, ha.ev hx, ha.ev hy, Instr.storeAt, Instr.sureAddr, storeVar, Value.cells, hsz, hs, hst]
/-- results: a box, two slots -/
theorem finC3 [h : Tab P tt] {fn : Func} {Φ : Value → World → Prop} {c t t1 t2 b : Nat} {k : TK} {cs : List Value} {x y : Value} (hb : Blk w b t cs) (hp : Φ (.tuple #[.agg cs.toArray, x, y]) w)
    (hr : fn.results = #[.cell c t, .tmp t1, .tmp t2] := by rfl) (ht : tk tt t = some k := by rfl) (hk : k.desc = .invalid := by rfl) (hs : k.size = cs.length := by rfl) (hc : lk al c = some (.pointer (some ⟨b, 0, none⟩)) := by rfl) (h1 : lk al t1 = some x := by rfl) (h2 : lk al t2 = some y := by rfl) :
    QX n (Body P fn Φ) .ret al w :=
  doneR (rs := [.cell c t, .tmp t1, .tmp t2]) (vs := [.agg cs.toArray, x, y]) hr ⟨⟨_, hc, run_loadS h.ok ht hk hs (fun j u hu => hb.at hu)⟩, h1, h2, trivial⟩ rfl hp
/-- results: a box -/
theorem finC1 [h : Tab P tt] {fn : Func} {Φ : Value → World → Prop} {c t b : Nat} {k : TK} {cs : List Value} (hb : Blk w b t cs) (hp : Φ (.agg cs.toArray) w)
    (hr : fn.results = #[.cell c t] := by rfl) (ht : tk tt t = some k := by rfl) (hk : k.desc = .invalid := by rfl) (hs : k.size = cs.length := by rfl) (hc : lk al c = some (.pointer (some ⟨b, 0, none⟩)) := by rfl) :
    QX n (Body P fn Φ) .ret al w :=
  doneR (rs := [.cell c t]) (vs := [.agg cs.toArray]) hr ⟨⟨_, hc, run_loadS h.ok ht hk hs (fun j u hu => hb.at hu)⟩, trivial⟩ rfl hp
/-- != of structures -/
theorem wnes {t t2 : TypeId} {x y : Operand} {xs ys : Array Value} {v : Value} (hg : P.eqGuardType P.depth t = false) (hb : (binOp .neq t (.agg xs) (.agg ys)).run P w = .ok v w)
    (k : WL P n ops Q rest ((d, v) :: al) w) (hx : ev al x = some (.agg xs) := by rfl) (hy : ev al y = some (.agg ys) := by rfl) (hd : Nat.blt d n = true := by rfl) : WL P n ops Q (⟨some d, .binOp .neq t x y t2, ty, pos, aft, none⟩ :: rest) al w :=
  wop hd (fun a ha => by
    simp only [execOp, ha.ev hx, ha.ev hy, Sem.run_bind, run_eqGuard_agg w _ _ _ _ _ _ hg, Result.andThen_ok, hb]; rfl) k
end
end Go.Wk
