/- The walking layer, in short words: what is computed is met by rfl. No program in sight. -/
import Derived.Test.YtpahjnfolbnloaaReg
set_option linter.unusedVariables false
namespace Go.Wk
open Go.RowKit

/-- the program's own table of types -/
class Tab (P : Program) (tt : outParam TT) : Prop where
  ok : TOk P tt
  mixed : P.follows .mixedOrders = true

section
variable {P : Program} {n : Nat} {al : AL} {w : World} {Q Q' : Exit → Act → World → Prop} {ops : Array Oper} {rest : List Oper} {drest : List (Nat × Oper)}
variable {d ty : Nat} {op : Op} {pos : String} {aft : Array Edge} {tt : TT}

/-! control: c1 .. -/
theorem κ1 {x y : Code} (h : WC P n x (Exit.then (y.wp P Q) Q) al w) : WC P n (.seq x y) Q al w := wseq h
theorem κ2 {id : Nat} {l : List Oper} (h : WL P n l.toArray Q l al w) : WC P n (.region id l.toArray false) Q al w := wregion h
theorem κ3 {id : Nat} {c : Code} (h : WC P n c (Exit.inBlock id Q) al w) : WC P n (.block id c) Q al w := wblock h
theorem κ4 (h : QX n Q .normal al w) : WC P n .skip Q al w := wskip h
theorem κ5 {id : Nat} (h : QX n Q (.exit id) al w) : WC P n (.exit id) Q al w := wexit h
theorem κ6 (h : QX n Q .ret al w) : WC P n .ret Q al w := wret h
theorem κ7 {c : Operand} {x y : Code} (h : WC P n x Q al w) (hc : ev al c = some (.bool true) := by rfl) : WC P n (.cond c x y) Q al w := wcondt hc h
theorem κ8 {c : Operand} {x y : Code} (h : WC P n y Q al w) (hc : ev al c = some (.bool false) := by rfl) : WC P n (.cond c x y) Q al w := wcondf hc h
/-! exits: q1 .. -/
theorem χ1 {y : Code} (h : WC P n y Q' al w) : QX n (Exit.then (y.wp P Q') Q) .normal al w := qnext h
theorem χ2 {id : Nat} (h : QX n Q .normal al w) : QX n (Exit.inBlock id Q) .normal al w := bnormal h
theorem χ3 {y : Act → World → Prop} (h : QX n Q .ret al w) : QX n (Exit.then y Q) .ret al w := qret h
theorem χ4 {id : Nat} (h : QX n Q .ret al w) : QX n (Exit.inBlock id Q) .ret al w := bret h
theorem χ5 {id : Nat} (h : QX n Q .normal al w) : QX n (Exit.inBlock id Q) (.exit id) al w := bexit h
theorem χ6 {id id' : Nat} (h : QX n Q (.exit id') al w) (hne : Nat.beq id' id = false := by rfl) : QX n (Exit.inBlock id Q) (.exit id') al w := bother hne h
theorem χ7 {y : Act → World → Prop} {id : Nat} (h : QX n Q (.exit id) al w) : QX n (Exit.then y Q) (.exit id) al w := qexit h
/-! operations: o1 .. -/
theorem ω1 {x y : Operand} {t yt : TypeId} {a b : Int} (k : WL P n ops Q rest ((d, .int .i64 (a + b)) :: al) w) (hx : ev al x = some (.int .i64 a) := by rfl) (hy : ev al y = some (.int .i64 b) := by rfl) (hd : Nat.blt d n = true := by rfl) (hc : -9223372036854775808 ≤ a + b ∧ a + b ≤ 9223372036854775807 := by omega) :
    WL P n ops Q (⟨some d, .binOp .add t x y yt, ty, pos, aft, none⟩ :: rest) al w := wadd hx hy hc hd k
theorem ω2 {x y : Operand} {t yt : TypeId} {a b : Int} (k : WL P n ops Q rest ((d, .int .i64 (a - b)) :: al) w) (hx : ev al x = some (.int .i64 a) := by rfl) (hy : ev al y = some (.int .i64 b) := by rfl) (hd : Nat.blt d n = true := by rfl) (hc : -9223372036854775808 ≤ a - b ∧ a - b ≤ 9223372036854775807 := by omega) :
    WL P n ops Q (⟨some d, .binOp .sub t x y yt, ty, pos, aft, none⟩ :: rest) al w := wsub hx hy hc hd k
theorem ω3 {x y : Operand} {t yt : TypeId} {a b : Int} (k : WL P n ops Q rest ((d, .int .i64 (a * b)) :: al) w) (hx : ev al x = some (.int .i64 a) := by rfl) (hy : ev al y = some (.int .i64 b) := by rfl) (hd : Nat.blt d n = true := by rfl) (hc : -9223372036854775808 ≤ a * b ∧ a * b ≤ 9223372036854775807 := by omega) :
    WL P n ops Q (⟨some d, .binOp .mul t x y yt, ty, pos, aft, none⟩ :: rest) al w := wmul hx hy hc hd k
theorem ω4 [h : Tab P tt] {v : Value} (k : WL P n ops Q rest ((d, v) :: al) w) (hv : pv tt (ev al) op = some v := by rfl) (hd : Nat.blt d n = true := by rfl) : WL P n ops Q (⟨some d, op, ty, pos, aft, none⟩ :: rest) al w := wp h.ok hv hd k
theorem ω5 (h : QX n Q .normal al w) : WL P n ops Q [] al w := wnil h
theorem ω6 {dst : Option Nat} {j s : Nat} {b : Bool} (k : WL P n ops Q (⟨dst, op, ty, pos, aft, none⟩ :: rest) al w) (hj : gslot ops j = some s := by rfl) (hs : lk al s = some (.bool b) := by rfl) : WL P n ops Q (⟨dst, op, ty, pos, aft, some (j, b)⟩ :: rest) al w := wguard hj hs k
theorem ω7 {j s : Nat} {b c : Bool} (k : WL P n ops Q rest ((d, undef) :: al) w) (hj : gslot ops j = some s := by rfl) (hs : lk al s = some (.bool b) := by rfl) (hne : (b == c) = false := by rfl) (hd : Nat.blt d n = true := by rfl) :
    WL P n ops Q (⟨some d, op, ty, pos, aft, some (j, c)⟩ :: rest) al w := wpass hj hs hne hd k
theorem ω8 [h : Tab P tt] {v : Value} (k : WL P n ops Q rest al w) (hv : pv tt (ev al) op = some v := by rfl) : WL P n ops Q (⟨none, op, ty, pos, aft, none⟩ :: rest) al w := wpn h.ok hv k
theorem yielded_undef {a : Act} (ha : Fr n al a) {j s : Nat} (hj : gslot ops j = some s) (hs : lk al s = some undef) : yielded ops a.tmps j = none := by
  unfold gslot at hj
  rw [nth_eq] at hj
  split at hj
  · rename_i o ho
    have ho' : ops[j]? = some o := by rw [← ho]; simp
    have := ha.has s _ hs
    simp only [Array.getD_eq_getD_getElem?] at this
    cases hq : a.tmps[s]? with
    | none => simp [yielded, ho', hj, hq]
    | some u =>
      rw [hq] at this
      simp only [Option.getD_some] at this
      subst this
      simp [yielded, ho', hj, hq, undef]
  · cases hj
theorem ω9 {j s : Nat} {c : Bool} (k : WL P n ops Q rest ((d, undef) :: al) w) (hj : gslot ops j = some s := by rfl) (hs : lk al s = some undef := by rfl) (hd : Nat.blt d n = true := by rfl) :
    WL P n ops Q (⟨some d, op, ty, pos, aft, some (j, c)⟩ :: rest) al w := fun a ha => by
  have hd' : d < n := by have : d + 1 ≤ n := by simpa [Nat.blt] using hd
                         omega
  have hy := yielded_undef (ops := ops) ha hj hs
  unfold wpList
  have e2 : ¬ Region.wanted (⟨some d, op, ty, pos, aft, some (j, c)⟩ : Oper) (yielded ops a.tmps) = true := by simp [Region.wanted, hy]
  rw [if_neg e2]
  exact k _ (ha.put hd' undef)
theorem δ9 {kd : Nat} {j s : Nat} {c : Bool} (k : WD P n ops Q drest ((d, undef) :: al) w) (hj : gslot ops j = some s := by rfl) (hs : lk al s = some undef := by rfl) (hd : Nat.blt d n = true := by rfl) :
    WD P n ops Q ((kd, ⟨some d, op, ty, pos, aft, some (j, c)⟩) :: drest) al w := fun a ha => by
  have hd' : d < n := by have : d + 1 ≤ n := by simpa [Nat.blt] using hd
                         omega
  have hy := yielded_undef (ops := ops) ha hj hs
  have e2 : Region.wanted (⟨some d, op, ty, pos, aft, some (j, c)⟩ : Oper) (yielded ops a.tmps) = false := by simp [Region.wanted, hy]
  have h2 := k _ (ha.put hd' undef)
  unfold wpSched wk1
  match kd with
  | 0 => exact ⟨undef, .inr ⟨e2, rfl⟩, h2⟩
  | 1 => simp only [e2]; exact h2
  | m + 2 => simp only [e2]; exact h2
/-! the same in a region that draws: d1 .. -/
theorem δ1 {x y : Operand} {t yt : TypeId} {a b : Int} (k : WD P n ops Q drest ((d, .int .i64 (a + b)) :: al) w) (hx : ev al x = some (.int .i64 a) := by rfl) (hy : ev al y = some (.int .i64 b) := by rfl) (hd : Nat.blt d n = true := by rfl) (hc : -9223372036854775808 ≤ a + b ∧ a + b ≤ 9223372036854775807 := by omega) :
    WD P n ops Q ((0, ⟨some d, .binOp .add t x y yt, ty, pos, aft, none⟩) :: drest) al w := dadd hx hy hc hd k
theorem δ2 {x y : Operand} {t yt : TypeId} {a b : Int} (k : WD P n ops Q drest ((d, .int .i64 (a - b)) :: al) w) (hx : ev al x = some (.int .i64 a) := by rfl) (hy : ev al y = some (.int .i64 b) := by rfl) (hd : Nat.blt d n = true := by rfl) (hc : -9223372036854775808 ≤ a - b ∧ a - b ≤ 9223372036854775807 := by omega) :
    WD P n ops Q ((0, ⟨some d, .binOp .sub t x y yt, ty, pos, aft, none⟩) :: drest) al w := dsub hx hy hc hd k
theorem δ4 [h : Tab P tt] {v : Value} (k : WD P n ops Q drest ((d, v) :: al) w) (hv : pv tt (ev al) op = some v := by rfl) (hd : Nat.blt d n = true := by rfl) : WD P n ops Q ((0, ⟨some d, op, ty, pos, aft, none⟩) :: drest) al w := dp h.ok hv hd k
theorem δ5 (h : QX n Q .normal al w) : WD P n ops Q [] al w := dnil h
theorem δ6 {kd : Nat} {dst : Option Nat} {j s : Nat} {b : Bool} (k : WD P n ops Q ((kd, ⟨dst, op, ty, pos, aft, none⟩) :: drest) al w) (hj : gslot ops j = some s := by rfl) (hs : lk al s = some (.bool b) := by rfl) : WD P n ops Q ((kd, ⟨dst, op, ty, pos, aft, some (j, b)⟩) :: drest) al w := dguard hj hs k
theorem δ7 {kd : Nat} {j s : Nat} {b c : Bool} (k : WD P n ops Q drest ((d, undef) :: al) w) (hj : gslot ops j = some s := by rfl) (hs : lk al s = some (.bool b) := by rfl) (hne : (b == c) = false := by rfl) (hd : Nat.blt d n = true := by rfl) :
    WD P n ops Q ((kd, ⟨some d, op, ty, pos, aft, some (j, c)⟩) :: drest) al w := dpass hj hs hne hd k
theorem δ8 [h : Tab P tt] {v : Value} (k : WD P n ops Q drest al w) (hv : pv tt (ev al) op = some v := by rfl) : WD P n ops Q ((0, ⟨none, op, ty, pos, aft, none⟩) :: drest) al w := dpn h.ok hv k
/-! tests -/
theorem ct {c : Operand} {x y : Code} {b : Bool} (hb : b = true) (h : WC P n x Q al w) (hc : ev al c = some (.bool b) := by rfl) : WC P n (.cond c x y) Q al w := wconde hc hb h
theorem cf {c : Operand} {x y : Code} {b : Bool} (hb : b = false) (h : WC P n y Q al w) (hc : ev al c = some (.bool b) := by rfl) : WC P n (.cond c x y) Q al w := wcondn hc hb h
theorem ci {c : Operand} {x y : Code} {b : Bool} (ht : b = true → WC P n x Q al w) (hf : b = false → WC P n y Q al w) (hc : ev al c = some (.bool b) := by rfl) : WC P n (.cond c x y) Q al w := wcond hc ht hf
/-! the slot's bool is known -/
theorem kt {l : List Oper} {b : Bool} (s : Nat) (hb : b = true) (k : WL P n ops Q l ((s, .bool true) :: al) w) (hs : lk al s = some (.bool b) := by rfl) : WL P n ops Q l al w := wkt s hs hb k
theorem kf {l : List Oper} {b : Bool} (s : Nat) (hb : b = false) (k : WL P n ops Q l ((s, .bool false) :: al) w) (hs : lk al s = some (.bool b) := by rfl) : WL P n ops Q l al w := wkf s hs hb k
theorem ki {l : List Oper} {b : Bool} (s : Nat) (ht : b = true → WL P n ops Q l ((s, .bool true) :: al) w) (hf : b = false → WL P n ops Q l ((s, .bool false) :: al) w) (hs : lk al s = some (.bool b) := by rfl) : WL P n ops Q l al w := wpart s hs ht hf
theorem kv {l : List Oper} {v u : Value} (s : Nat) (hv : v = u) (k : WL P n ops Q l ((s, u) :: al) w) (hs : lk al s = some v := by rfl) : WL P n ops Q l al w := wknow s u hs hv k
theorem dkt {l : List (Nat × Oper)} {b : Bool} (s : Nat) (hb : b = true) (k : WD P n ops Q l ((s, .bool true) :: al) w) (hs : lk al s = some (.bool b) := by rfl) : WD P n ops Q l al w := by subst hb; exact k.sub (Sub.cons hs Sub.refl)
theorem dkf {l : List (Nat × Oper)} {b : Bool} (s : Nat) (hb : b = false) (k : WD P n ops Q l ((s, .bool false) :: al) w) (hs : lk al s = some (.bool b) := by rfl) : WD P n ops Q l al w := by subst hb; exact k.sub (Sub.cons hs Sub.refl)
theorem dki {l : List (Nat × Oper)} {b : Bool} (s : Nat) (ht : b = true → WD P n ops Q l ((s, .bool true) :: al) w) (hf : b = false → WD P n ops Q l ((s, .bool false) :: al) w) (hs : lk al s = some (.bool b) := by rfl) : WD P n ops Q l al w := dpart s hs ht hf
theorem dkv {l : List (Nat × Oper)} {v u : Value} (s : Nat) (hv : v = u) (k : WD P n ops Q l ((s, u) :: al) w) (hs : lk al s = some v := by rfl) : WD P n ops Q l al w := dknow s u hs hv k
/-! memory -/
/-- a load of one cell -/
theorem ld [h : Tab P tt] {x : Operand} {t : Nat} {k : TK} {p : Addr} {v : Value} (hc : w.cell? p = some v) (kk : WL P n ops Q rest ((d, v) :: al) w)
    (ht : tk tt t = some k := by rfl) (hk : plainT k.desc = true := by rfl) (hx : ev al x = some (.pointer (some p)) := by rfl) (hd : Nat.blt d n = true := by rfl) : WL P n ops Q (⟨some d, .load t x, ty, pos, aft, none⟩ :: rest) al w := wload h.ok ht hk hx hc hd kk
theorem dld [h : Tab P tt] {x : Operand} {t : Nat} {k : TK} {p : Addr} {v : Value} (hc : w.cell? p = some v) (kk : WD P n ops Q drest ((d, v) :: al) w)
    (ht : tk tt t = some k := by rfl) (hk : plainT k.desc = true := by rfl) (hx : ev al x = some (.pointer (some p)) := by rfl) (hd : Nat.blt d n = true := by rfl) : WD P n ops Q ((0, ⟨some d, .load t x, ty, pos, aft, none⟩) :: drest) al w := dload h.ok ht hk hx hc hd kk
/-- a load of a struct -/
theorem lds [h : Tab P tt] {x : Operand} {t : Nat} {k : TK} {p : Addr} {cs : List Value} (hc : ∀ j u, cs[j]? = some u → w.cell? (p.add j) = some u) (kk : WL P n ops Q rest ((d, .agg cs.toArray) :: al) w)
    (ht : tk tt t = some k := by rfl) (hk : k.desc = .invalid := by rfl) (hl : k.size = cs.length := by rfl) (hx : ev al x = some (.pointer (some p)) := by rfl) (hd : Nat.blt d n = true := by rfl) : WL P n ops Q (⟨some d, .load t x, ty, pos, aft, none⟩ :: rest) al w := wloadS h.ok ht hk hl hx hc hd kk
theorem dlds [h : Tab P tt] {x : Operand} {t : Nat} {k : TK} {p : Addr} {cs : List Value} (hc : ∀ j u, cs[j]? = some u → w.cell? (p.add j) = some u) (kk : WD P n ops Q drest ((d, .agg cs.toArray) :: al) w)
    (ht : tk tt t = some k := by rfl) (hk : k.desc = .invalid := by rfl) (hl : k.size = cs.length := by rfl) (hx : ev al x = some (.pointer (some p)) := by rfl) (hd : Nat.blt d n = true := by rfl) : WD P n ops Q ((0, ⟨some d, .load t x, ty, pos, aft, none⟩) :: drest) al w := dloadS h.ok ht hk hl hx hc hd kk
/-- an index into a slice of one-cell elements -/
theorem ix [h : Tab P tt] {x i : Operand} {t e : Nat} {k : TK} {A : Option Addr} {m c : Nat} {kd : IntKind} {z : Int} {cs : List Value} (j : Nat) (hr : Rd w 1 A m cs) (hlt : j < m) (kk : WL P n ops Q rest ((d, .pointer (some (adr A j))) :: al) w)
    (ht : tk tt t = some k := by rfl) (hk : k.desc = .slice e := by rfl) (hz : k.esz = 1 := by rfl) (hx : ev al x = some (.slice A m c) := by rfl) (hi : ev al i = some (.int kd z) := by rfl) (hj : z = (j : Int) := by first | rfl | omega) (hd : Nat.blt d n = true := by rfl) :
    WL P n ops Q (⟨some d, .indexAddr t x i, ty, pos, aft, none⟩ :: rest) al w := windex1 h.ok j ht hk hz hx hi hr hj hlt hd kk
theorem dix [h : Tab P tt] {x i : Operand} {t e : Nat} {k : TK} {A : Option Addr} {m c : Nat} {kd : IntKind} {z : Int} {cs : List Value} (j : Nat) (hr : Rd w 1 A m cs) (hlt : j < m) (kk : WD P n ops Q drest ((d, .pointer (some (adr A j))) :: al) w)
    (ht : tk tt t = some k := by rfl) (hk : k.desc = .slice e := by rfl) (hz : k.esz = 1 := by rfl) (hx : ev al x = some (.slice A m c) := by rfl) (hi : ev al i = some (.int kd z) := by rfl) (hj : z = (j : Int) := by first | rfl | omega) (hd : Nat.blt d n = true := by rfl) :
    WD P n ops Q ((0, ⟨some d, .indexAddr t x i, ty, pos, aft, none⟩) :: drest) al w := dindex1 h.ok j ht hk hz hx hi hr hj hlt hd kk
/-- an index into a slice of wider elements -/
theorem ixq [h : Tab P tt] {x i : Operand} {t e : Nat} {k : TK} {A : Option Addr} {m c : Nat} {kd : IntKind} {z : Int} {cs : List Value} (sz j : Nat) (hr : Rd w sz A m cs) (hlt : j < m) (kk : WL P n ops Q rest ((d, .pointer (some (adr A (j * sz)))) :: al) w)
    (ht : tk tt t = some k := by rfl) (hk : k.desc = .slice e := by rfl) (hz : k.esz = sz := by rfl) (hx : ev al x = some (.slice A m c) := by rfl) (hi : ev al i = some (.int kd z) := by rfl) (hj : z = (j : Int) := by first | rfl | omega) (h0 : 0 < sz := by omega) (hd : Nat.blt d n = true := by rfl) :
    WL P n ops Q (⟨some d, .indexAddr t x i, ty, pos, aft, none⟩ :: rest) al w := windexq h.ok (j * sz) j ht hk hz hx hi hr hj hlt h0 rfl hd kk
theorem dixq [h : Tab P tt] {x i : Operand} {t e : Nat} {k : TK} {A : Option Addr} {m c : Nat} {kd : IntKind} {z : Int} {cs : List Value} (sz j : Nat) (hr : Rd w sz A m cs) (hlt : j < m) (kk : WD P n ops Q drest ((d, .pointer (some (adr A (j * sz)))) :: al) w)
    (ht : tk tt t = some k := by rfl) (hk : k.desc = .slice e := by rfl) (hz : k.esz = sz := by rfl) (hx : ev al x = some (.slice A m c) := by rfl) (hi : ev al i = some (.int kd z) := by rfl) (hj : z = (j : Int) := by first | rfl | omega) (h0 : 0 < sz := by omega) (hd : Nat.blt d n = true := by rfl) :
    WD P n ops Q ((0, ⟨some d, .indexAddr t x i, ty, pos, aft, none⟩) :: drest) al w := dindexq h.ok (j * sz) j ht hk hz hx hi hr hj hlt h0 rfl hd kk
/-- a store of one cell -/
theorem sto [h : Tab P tt] {x y : Operand} {t : Nat} {k : TK} {p : Addr} {u v : Value} (hc : w.cell? p = some u) (hf : w.frozen? p = false) (kk : WL P n ops Q rest al (w.setCell p v))
    (ht : tk tt t = some k := by rfl) (hk : k.size = 1 := by rfl) (hp : plainT k.desc = true := by rfl) (hx : ev al x = some (.pointer (some p)) := by rfl) (hy : ev al y = some v := by rfl) (hv : v.oneCell' = true := by rfl) : WL P n ops Q (⟨none, .store t x y, ty, pos, aft, none⟩ :: rest) al w := wstore h.ok ht hk hp hx hy hv hc hf kk
/-- a box -/
theorem bx {x : Operand} {t : Nat} {v : Value} {cs : List Value} (kk : ∀ w1 b, Ext w w1 → w.heap.size ≤ b → Blk w1 b t cs → WL P n ops Q rest ((d, .pointer (some ⟨b, 0, none⟩)) :: al) w1)
    (hx : ev al x = some v := by rfl) (hv : v.cells = cs.toArray := by rfl) (hd : Nat.blt d n = true := by rfl) : WL P n ops Q (⟨some d, .box t x, ty, pos, aft, none⟩ :: rest) al w := wbox hx hv hd kk
/-- a call by contract -/
theorem cl {f : FuncId} {xs : Array Operand} {ats : Array TypeId} {vs : List Value} {Φ : Value → World → Prop} (hc : Ret P f vs w Φ) (k : ∀ v w', Φ v w' → WL P n ops Q rest ((d, v) :: al) w') (hx : evs al xs.toList = some vs := by rfl) (hd : Nat.blt d n = true := by rfl) :
    WL P n ops Q (⟨some d, .call { callee := .value (.func f), args := xs, argTypes := ats }, ty, pos, aft, none⟩ :: rest) al w := wcall hx hd hc k
theorem dcl {f : FuncId} {xs : Array Operand} {ats : Array TypeId} {vs : List Value} {Φ : Value → World → Prop} (hc : Ret P f vs w Φ) (k : ∀ v w', Φ v w' → Ext w w' ∧ WD P n ops Q drest ((d, v) :: al) w') (hx : evs al xs.toList = some vs := by rfl) (hd : Nat.blt d n = true := by rfl) :
    WD P n ops Q ((1, ⟨some d, .call { callee := .value (.func f), args := xs, argTypes := ats }, ty, pos, aft, none⟩) :: drest) al w := dcall hx hd hc k
/-- a region that draws -/
theorem dr [h : Tab P tt] {id : Nat} {l : List Oper} (s : List (Nat × Nat)) (hB : schedB l.toArray s = true) (k : WD P n l.toArray Q (opsOf l s) al w.drew) : WC P n (.region id l.toArray true) Q al w := wdraw s h.mixed hB k
/-! the end -/
theorem fin1 {fn : Func} {Φ : Value → World → Prop} {t : Nat} {v : Value} (h : Φ v w) (hr : fn.results = #[.tmp t] := by rfl) (ht : lk al t = some v := by rfl) : QX n (Body P fn Φ) .ret al w := done1 hr ht h
theorem fin2 {fn : Func} {Φ : Value → World → Prop} {t u : Nat} {x y : Value} (h : Φ (.tuple #[x, y]) w) (hr : fn.results = #[.tmp t, .tmp u] := by rfl) (ht : lk al t = some x := by rfl) (hu : lk al u = some y := by rfl) : QX n (Body P fn Φ) .ret al w := done2 hr ht hu h
theorem fin3 {fn : Func} {Φ : Value → World → Prop} {t u s : Nat} {x y z : Value} (h : Φ (.tuple #[x, y, z]) w) (hr : fn.results = #[.tmp t, .tmp u, .tmp s] := by rfl) (ht : lk al t = some x := by rfl) (hu : lk al u = some y := by rfl) (hs : lk al s = some z := by rfl) : QX n (Body P fn Φ) .ret al w := done3 hr ht hu hs h
theorem fin4 {fn : Func} {Φ : Value → World → Prop} {t u s r : Nat} {x y z q : Value} (h : Φ (.tuple #[x, y, z, q]) w) (hr : fn.results = #[.tmp t, .tmp u, .tmp s, .tmp r] := by rfl) (ht : lk al t = some x := by rfl) (hu : lk al u = some y := by rfl) (hs : lk al s = some z := by rfl) (hq : lk al r = some q := by rfl) : QX n (Body P fn Φ) .ret al w := done4 hr ht hu hs hq h
end
end Go.Wk
