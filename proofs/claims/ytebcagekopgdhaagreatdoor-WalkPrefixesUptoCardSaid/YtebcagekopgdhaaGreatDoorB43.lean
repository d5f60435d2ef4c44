/- Part 43. -/
import Derived.Test.YtebcagekopgdhaaGreatDoorB42
set_option linter.unusedVariables false
set_option maxRecDepth 100000
set_option maxHeartbeats 40000000
namespace Go.Wk
open Go.RowKit
section
variable {α:Type} {E:TypeId} {sz base:Nat} {Φ:World->List Value->α->Prop} {N0:Nat->Prop} {w w':World} {v:Value} {ls:List α}
def OwnM(E:TypeId)(sz:Nat)(Φ:World->List Value->α->Prop)(N0:Nat->Prop)(w:World)(base:Nat)(v:Value)(ls:List α): Prop :=
 ∃ ps:List (List Value×α),ls=ps.map (·.2)/\w.ownsRow base E sz v ps.length (Qj ps)/\∀ p∈ps,p.1.length=sz/\Off (λk=>N0 k∨v.ownBlock=some k) w (λu=>Φ u p.1 p.2)
theorem OwnM.nil(w:World)(base:Nat): OwnM E sz Φ N0 w base (.slice none 0 0) []:=⟨[],rfl,Xs _ _ _ _,λp o=>by cases o⟩
theorem OwnM.gr(h:OwnM E sz Φ N0 w base v ls)(hg:GrN N0 w w')(hN:∀ g,v.ownBlock=some g->¬ N0 g): OwnM E sz Φ N0 w' base v ls:=by
 obtain ⟨ps,J,G,u⟩:=h;exact ⟨ps,J,Jr G hg hN,λp o=>⟨(u p o).1,(u p o).2.gr (hg.mono λk _ C=>.inl C)⟩⟩
theorem OwnM.ext(h:OwnM E sz Φ N0 w base v ls)(hx:Ext w w'): OwnM E sz Φ N0 w' base v ls:=by
 obtain ⟨ps,G,C,u⟩:=h;exact ⟨ps,G,Jk C hx,λp o=>⟨(u p o).1,(u p o).2.ext hx⟩⟩
theorem OwnM.form(h:OwnM E sz Φ N0 w base v ls): ∃ A c,v=.slice A ls.length c/\ls.length<=c/\∀ g,v.ownBlock=some g->base<=g/\g<w.heap.size:=by
 obtain ⟨ps,rfl,C,G⟩:=h;obtain ⟨A,c,rfl,u,o⟩:=Jv C;exact ⟨A,c,by simp,by simpa using u,o⟩
theorem OwnM.gv(h:OwnM E sz Φ N0 w base v ls)(hm:ls.length<=1100000): GV sz Φ w v ls:=by
 obtain ⟨ps,rfl,C,u⟩:=h;obtain ⟨A,c,rfl,G,J⟩:=Jv C;exact ⟨ps,A,c,rfl,rfl,G,by simpa using hm,Rd.own C,λp o=>⟨(u p o).1,(u p o).2.here⟩⟩
theorem apM{P:Program}{n:Nat}{al:AL}{Q:Exit->Act->World->Prop}{ops:Array Oper}{rest:List Oper}{d ty:Nat}{pos:String}{aft:Array Edge}{t bytes:Nat}{z:Value}(hE:ElT P t E sz bytes z){x y:Operand}{b:Nat}{cs:List Value}{a:α}(ho:OwnM E sz Φ N0 w base v ls)(hb:Blk w b E cs)(hl:cs.length=sz)(h1:∀ u∈cs,u.oneCell'=true)(hΦ:Off (λk=>N0 k∨v.ownBlock=some k) w (λu=>Φ u cs a))(hm:ls.length<=1100000)(hby:bytes<=64)(hbase:base<=w.heap.size)(kk:∀ v' w',OwnM E sz Φ N0 w' base v' (ls++[a])->w.grownBy w' v.ownBlock->(∀ g,v'.ownBlock=some g->v.ownBlock=some g∨w.heap.size<=g)->WL P n ops Q rest ((d,v')::al) w')(hx:ev al x=some v:=by rfl)(hy:ev al y=some (.slice (some ⟨b,0,none⟩) 1 1):=by rfl)(hd:Nat.blt d n=true:=by rfl):
  WL P n ops Q (⟨some d,.call { callee:=.builtin .append,args:=#[x,y],argTypes:=#[t,t] },ty,pos,aft,none⟩::rest) al w:=by
 obtain ⟨ps,e,hr,hp⟩:=ho;have a1:ps.length<=1100000:=by rw [e,List.length_map]at hm;exact hm
 have a2:(ps.length+1)*bytes<=1100001*64:=Nat.mul_le_mul om hby;refine apb hE hr (hb.rd (n:=1) om) h1 (by unfold maxLen;omega) om hbase ?_ hx hy hd;intro v' w' Z O J;have C:∀ {Ψ:World->Prop},Off (λk=>N0 k∨v.ownBlock=some k) w Ψ->Off (λk=>N0 k∨v'.ownBlock=some k) w' Ψ:=fun {Ψ} h W hW=>by
  refine h W ?_;have h1:GrN (λk=>(N0 k∨v.ownBlock=some k)∨w.heap.size<=k) w W:=(GrN.by O λk G=>.inl (.inr G)).trans (hW.mono λk _ G=>by
   rcases G with G|G
   .exact .inl (.inl G)
   .rcases J k G with o|o
    .exact .inl (.inr o)
    .exact .inr o)
  exact h1.mono λk G h=>h.elim id λo=>by omega
 refine kk v' w' ⟨ps++[(cs,a)],by rw [e];simp,?_,λp U=>?_⟩ O J
 .have e2:Qj (ps++[(cs,a)])=Qj ps++cs:=by simp [Qj]
  rw [List.length_append,e2];exact Z
 .rcases List.mem_append.1 U with o|o
  .exact ⟨(hp p o).1,C (hp p o).2⟩
  .rw [List.mem_singleton.1 o];exact ⟨hl,C hΦ⟩
end
end Go.Wk
namespace Go.Proofs.YtebcagekopgdhaaGreatDoor
open Go.RowKit Pl Go.Wk
attribute [local irreducible] WC WL QX WD WDB WP WN WG WH WM
theorem zRin: Qt Tryz.prog 119=some (.agg #[.int .i64 0,.int .i64 0,.slice none 0 0,.slice none 0 0,.slice none 0 0]):=kr
theorem Qnh(n f:Int)(A B C:Option Addr)(a a' b b' c c':Nat)(w:World): (Instr.build 119 #[(0,.int .i64 n),(1,.int .i64 f),(2,.slice A a a'),(3,.slice B b b'),(4,.slice C c c')]).run Tryz.prog w=.ok (.agg #[.int .i64 n,.int .i64 f,.slice A a a',.slice B b b',.slice C c c']) w:=kr
theorem zInp: Qt Tryz.prog 92=some (.agg #[.int .i64 0,.int .i64 0,.slice none 0 0,.slice none 0 0,.slice none 0 0]):=kr
theorem Qnm(n f:Int)(A B:Option Addr)(a a' b b':Nat)(w:World): (Instr.build 92 #[(0,.int .i64 n),(1,.int .i64 f),(2,.slice A a a'),(3,.slice B b b')]).run Tryz.prog w=.ok (.agg #[.int .i64 n,.int .i64 f,.slice A a a',.slice B b b',.slice none 0 0]) w:=kr
theorem ref_any{w:World}{n f:Int}{dA pA vA rA:Option Addr}{d dc p pc v vc r rc:Nat}:
  Ret Tryz.prog 61 [.agg #[.int .i64 n,.int .i64 f,.slice dA d dc,.slice pA p pc,.slice vA v vc,.slice rA r rc]] w λu w'=>u=.agg #[.int .i64 n,.int .i64 f,.slice pA p pc,.slice vA v vc,.slice rA r rc]/\Ext w w':=by
 refine Jz Tryz.func61 Tryz.ntmps61 rfl kr rfl ?_;refine ρ ?_;refine bx ?_;intro w1 b G hb hB;refine ρ ?_;refine alc zRin ?_;intro w2 b2 C O Z;have o:=hB.ext C;refine ρ ?_;refine ld (o.at (i:=0) rfl) ?_;refine ρ ?_;refine ld (o.at (i:=1) rfl) ?_;refine ρ ?_;refine ld (o.at (i:=3) rfl) ?_;refine ρ ?_;refine ld (o.at (i:=4) rfl) ?_;refine ρ ?_;refine ld (o.at (i:=5) rfl) ?_;refine ρ ?_;refine bld (Qnh _ _ _ _ _ _ _ _ _ _ _ _) ?_;refine ρ ?_;refine stW Z ?_;intro w3 U a1 J;refine ρ ?_;exact Jqv U ⟨rfl,J w (G.trans C) (nL G.size O)⟩
structure MkA(a:Atm)(zs:List Int)(rows:List Row): Prop where
 vars:a.vars=zs
 ar:a.ar=zs.length
 l32:zs.length<=32
 ok:∀ r∈rows,r.length=zs.length/\r.all Qr=true
 len:a.rows.length<=65536
 sub:∀ x∈a.rows,x∈rows
 set:rows.length<=1000->IsSet [] rows a.rows
structure MkS(c:Cse): Prop where
 len:c.vs.length=c.rss.length
 l32:∀ i,i<c.vs.length->(c.vs.getD i []).length<=32
 ok:∀ i,i<c.vs.length->∀ r∈c.rss.getD i [],r.length=(c.vs.getD i []).length/\r.all Qr=true
 row:∀ i,i<c.vs.length->(c.rss.getD i []).length<=65536
set_option maxRecDepth 100000 in
set_option maxHeartbeats 4000000 in
theorem Qdz{w0 w : World}{cs : List Value}{c : Cse}(h : CseV w0 cs c)(h00 : Ext w0 w): Ret Tryz.prog 105 [.agg cs.toArray] w fun u w' => Ext w w' ∧ ∃ (dA pA aA : Option Addr) (dc pc ac an : Nat) (ok : Bool), u = .tuple #[.agg #[.int .i64 c.n, .int .i64 c.f, .slice dA c.ds.length dc, .slice pA c.pm.length pc, .slice aA an ac], .bool ok] ∧
      BoolsV w0 (.slice dA c.ds.length dc) c.ds ∧ IntsV w0 (.slice pA c.pm.length pc) c.pm ∧ (ok = true → c.vs.length = c.rss.length ∧ ∃ ats : List Atm, ats.length = c.vs.length ∧ Off (fun k => w0.heap.size ≤ k ∧ k < w.heap.size) w' (fun u => GV 3 AtG u (.slice aA an ac) ats) ∧ ∀ i, i < c.vs.length → MkA (ats.getD i a0) (c.vs.getD i []) (c.rss.getD i [])) ∧ (MkS c → ok = true) := by
  obtain ⟨dA, dc, pA, pc, vA, vc, rA, rc, rfl, hD, hP, hV0, hR, hn, hf⟩ := h
  have hV := hV0
  obtain ⟨_, _, rcs, e1, _, hrm, hRR0, hRe0⟩ := id hR
  injection e1 with e1 e2 e3
  subst e1; subst e3
  obtain ⟨_, _, vcs, e1, _, hvm, hVR0, hVe⟩ := id hV
  injection e1 with e1 e2 e3
  subst e1; subst e3
  have hRR := hRR0.ext h00
  have hVR := hVR0.ext h00
  have hRe : ∀ i, i < c.rss.length → ∃ u, rcs[i]? = some u ∧ RowsV w u (c.rss.getD i []) := fun i hi => by obtain ⟨u, e, hu⟩ := hRe0 i hi; exact ⟨u, e, hu.ext h00⟩
  refine Jz Tryz.func105 Tryz.ntmps105 rfl kr rfl ?_
  refine ρ ?_
  refine bx ?_
  intro w1 b hx1 hb hB
  refine ρ ?_
  refine alc zInp ?_
  intro w2 b2 hx2 hb2 hB2
  have hB' := hB.ext hx2
  refine ρ ?_
  refine ld (hB'.at (i := 0) rfl) ?_
  refine ρ ?_
  refine ld (hB'.at (i := 1) rfl) ?_
  refine ρ ?_
  refine ld (hB'.at (i := 2) rfl) ?_
  refine ρ ?_
  refine ld (hB'.at (i := 3) rfl) ?_
  refine ρ ?_
  refine bld (Qnm _ _ _ _ _ _ _ _ _) ?_
  refine ρ ?_
  refine alc zInp ?_
  intro w3 b4 hx3 hb4 hB4
  refine ρ ?_
  refine stW hB4 ?_
  intro w4 hB44 hg4 hx4
  have hx24 : Ext w2 w4 := hx4 w2 hx3 hb4
  have hxw4 := (hx1.trans hx2).trans hx24
  have hb14 : ¬ b = b4 := fun e => by have := hB'.lt; omega
  have hb24 : ¬ b2 = b4 := fun e => by have := hB2.lt; omega
  have hB04 := hB'.ext hx24
  have hB24 := hB2.ext hx24
  refine ρ ?_
  refine Jt (fun (i : Nat) (av : Value) => [(1, .pointer (some ⟨b, 0, none⟩)), (2, .pointer (some ⟨b2, 0, none⟩)), (3, .bool false), (4, .pointer (some ⟨b4, 0, none⟩)), (5, .int .i64 (i : Int))])
    (fun i av w' => i ≤ c.vs.length ∧ i ≤ c.rss.length ∧ GrN (fun k => k = b4) w4 w' ∧ Blk w' b4 92 [.int .i64 c.n, .int .i64 c.f, .slice dA c.ds.length dc, .slice pA c.pm.length pc, av] ∧ ∃ ats : List Atm, ats.length = i ∧ OwnM 99 3 AtG (fun k => (k = b2 ∨ k = b4) ∨ (w0.heap.size ≤ k ∧ k < w.heap.size)) w' w4.heap.size av ats ∧ ∀ j, j < i → MkA (ats.getD j a0) (c.vs.getD j []) (c.rss.getD j [])) (fun i _ => c.vs.length - i) 0 (.slice none 0 0) sB
    ⟨Nat.zero_le _, Nat.zero_le _, GrN.refl _ _, hB44, [], rfl, OwnM.nil _ _, fun j hj => by omega⟩ ?_
  rintro i av w5 ⟨hiv, hir, hg5, hB45, ats, hal, hG5, hmk⟩
  have hB05 := Jd hB04 hg5 hb14
  have hB25 := Jd hB24 hg5 hb24
  have hx5 : Ext w w5 := hg5.old hxw4 fun k hk => by rw [hk]; have := (hx1.trans hx2).size; omega
  refine ρ ?_
  refine ld (hB05.at (i := 4) rfl) ?_
  refine ρ ?_
  refine Vm (fun (t : Bool) => [(28, .bool t), (1, .pointer (some ⟨b, 0, none⟩)), (2, .pointer (some ⟨b2, 0, none⟩)), (3, .bool false), (4, .pointer (some ⟨b4, 0, none⟩)), (5, .int .i64 (i : Int))]) (fun t w6 => w6 = w5 ∧ (t = true ↔ i < c.vs.length ∧ i < c.rss.length)) ?_ ?_
  . refine ki 22 (fun h => ?_) (fun h => ?_)
    . have := oT h
      refine ρ ?_
      refine ld (hB05.at (i := 5) rfl) ?_
      refine ρ ?_
      refine Jb (decide ((i : Int) < (c.rss.length : Int))) sB ⟨rfl, ?_⟩
      rw [decide_eq_true_eq]; omega
    . have := oF h
      refine ρ ?_
      refine Jb false sB ⟨rfl, ?_⟩
      constructor
      . intro h; cases h
      . omega
  rintro t w6 ⟨rfl, ht⟩
  refine ρ ?_
  refine ci (fun h => ?_) (fun h => ?_)
  . obtain ⟨lv, lr⟩ := ht.1 h
    clear h
    obtain ⟨vu, hvc, hvV⟩ := hVe i lv
    obtain ⟨ru, hrc, hrV⟩ := hRe i lr
    obtain ⟨QA, qc, rfl, hqc, hqm, hqR⟩ := id hvV
    have hxd : Ext w6 w6.drew := (Ext.refl w6).drew
    have hx0d := hx5.trans hxd
    have hBd := hB05.ext hxd
    have hVd := hVR.ext hx0d
    have hRd := hRR.ext hx0d
    obtain ⟨TA, tc, rfl, _, _, _⟩ := id (hrV.ext hx0d).parts
    refine ρ ?_
    refine drH (fun i => Nat.ble 16 i) ?_
    refine Zf (fuel' := 7) 8 [(0, 0), (0, 1), (0, 2), (0, 3), (0, 4), (0, 5), (0, 6), (0, 7), (0, 8), (0, 9), (0, 10)] (lst 18 11) kr kr rfl ?_
    refine ρd ?_
    refine dld (hBd.at (i := 4) rfl) ?_
    refine ρd ?_
    refine dix i hVd lv ?_
    refine ρd ?_
    refine dld (hVd.cell hvc) ?_
    refine ρd ?_
    refine dld (hBd.at (i := 5) rfl) ?_
    refine ρd ?_
    refine dix i hRd lr ?_
    refine ρd ?_
    refine dld (hRd.cell hrc) ?_
    refine ρd ?_
    refine Xx ?_
    refine hcut 2 (lst 18 16) (fun (q : Value × Int × Nat) => [(44, q.1), (45, .int .i64 q.2.1), (6, .pointer (some ⟨q.2.2, 0, none⟩)), (1, .pointer (some ⟨b, 0, none⟩)), (2, .pointer (some ⟨b2, 0, none⟩)), (3, .bool false), (4, .pointer (some ⟨b4, 0, none⟩)), (5, .int .i64 (i : Int))])
      (fun q W => Ext w6.drew W ∧ Blk W q.2.2 95 [.int .i64 0, .slice none 0 0] ∧ w6.drew.heap.size ≤ q.2.2 ∧ (∃ z B m d, q.1 = .agg #[.int .i64 z, .slice B m d]) ∧ ((c.vs.getD i []).length ≤ 32 → (∀ r ∈ c.rss.getD i [], r.length = (c.vs.getD i []).length ∧ r.all Qr = true) → (c.rss.getD i []).length ≤ 65536 → q.2.1 = 0) ∧
        (q.2.1 = 0 → (c.vs.getD i []).length ≤ 32 ∧ (∀ r ∈ c.rss.getD i [], r.length = (c.vs.getD i []).length ∧ r.all Qr = true) ∧ ∃ m, Off (fun k => k < w6.drew.heap.size ∨ k = q.2.2) W (fun u => RelV u q.1 (c.vs.getD i []).length m) ∧ m.length ≤ 65536 ∧ (∀ x ∈ m, x ∈ c.rss.getD i []) ∧ (((c.rss.getD i []).length ≤ 1000 ∨ Srt [] (c.rss.getD i [])) → IsSet [] (c.rss.getD i []) m))) ?_ ?_
    . rintro ⟨rv, e, b6⟩ W ⟨hxW, hBW, hbW, ⟨z, B, mm, dd, erv⟩, hsuf, hrel⟩
      simp only at hBW hbW hsuf hrel erv
      subst erv
      refine Zf (fuel' := 0) 8 [(2, 16), (2, 17)] (lst 18 18) kr kr rfl ?_
      refine Jo ?_
      refine stb (cs' := [.int .i64 z, .slice B mm dd]) hBW ?_ Vs
      intro W2 hBW2 hgW2 hxW2
      refine Jh (Ql ?_)
      refine Jo ?_
      refine ρ ?_
      refine Ql ?_
      refine Uw (Xx ?_)
      refine hend kr ?_
      have hx6W2 : Ext w6 W2 := hxW2 w6 (hxd.trans hxW) (nL hxd.size hbW)
      have hgW2' : GrN (fun k => k = b6) W W2 := GrN.by hgW2 fun k hk => by injection hk with hk; exact hk.symm
      have hB4W := hB45.ext hx6W2
      refine ρ ?_
      refine ci (fun h => ?_) (fun h => ?_)
      . refine ρ ?_
        refine ldW hB4W ?_
        obtain ⟨AA, ac, eav, _, _⟩ := hG5.form
        subst eav
        refine ρ ?_
        refine stW (hB25.ext hx6W2) ?_
        intro W3 hB3 hg3 hx3'
        have hxf : Ext w W3 := hx3' w (hx5.trans hx6W2) (nL hx1.size hb2)
        refine ρ ?_
        exact Zh hB3 ⟨hxf, dA, pA, AA, dc, pc, ac, ats.length, false, rfl, hD, hP, fun h => (by cases h), fun hS => absurd (hsuf (hS.l32 i lv) (hS.ok i lv) (hS.row i lv)) (Gf h)⟩
      . have he : e = 0 := Gg h
        clear h
        obtain ⟨hv32, hrok, m, hoff, hm6, hmsub, hmset⟩ := hrel he
        have hoff2 := hoff.gr (hgW2'.mono fun k _ hk => (.inr hk : k < w6.drew.heap.size ∨ k = b6))
        obtain ⟨AA, ac, eav, hacl, hal2⟩ := hG5.form
        subst eav
        have hlo : ∀ g, (Value.slice AA ats.length ac).ownBlock = some g → w4.heap.size ≤ g := fun g e => (hal2 g e).1
        have hxe : Ext W2 W2.drew := (Ext.refl W2).drew
        have hB4e := hB4W.ext hxe
        have hGe := (hG5.ext hx6W2).ext hxe
        have hx0e : Ext w W2.drew := (hx5.trans hx6W2).trans hxe
        have hBe := (hB05.ext hx6W2).ext hxe
        have hB6e := hBW2.ext hxe
        obtain ⟨ps0, _, hown0, _⟩ := id hGe
        have n4 : ¬ (Value.slice AA ats.length ac).ownBlock = some b4 := fun e => by have := hlo b4 e; have := hB44.lt; omega
        have n1 : ¬ (Value.slice AA ats.length ac).ownBlock = some b := fun e => by have := hlo b e; have := hB04.lt; omega
        have n6 : ¬ (Value.slice AA ats.length ac).ownBlock = some b6 := fun e => by have := (hal2 b6 e).2; have := hxd.size; omega
        have hNx : ∀ {W'}, GrN (fun k => (Value.slice AA ats.length ac).ownBlock = some k) W2.drew W' → Ext w W' := fun hg => hg.old hx0e fun k hk => by have := hlo k hk; have := hxw4.size; omega
        refine ρ ?_
        refine drN (fun k => (Value.slice AA ats.length ac).ownBlock = some k) 10 [(0, 0), (0, 1), (0, 2), (0, 3), (0, 4), (0, 5), (0, 6), (0, 7), (0, 8), (1, 9), (1, 10), (0, 11), (2, 12)] kr ?_
        refine ρn ?_
        refine nld (Jm (hB4e.at (i := 4) rfl) n4) ?_
        refine ρn ?_
        refine nld (Jm (hBe.at (i := 4) rfl) n1) ?_
        refine ρn ?_
        refine nix i (hVR.ext hx0e) lv ?_
        refine ρn ?_
        refine nld (fun w' hg => (hVR.ext (hNx hg)).cell hvc) ?_
        refine ρn ?_
        refine Xd (cs := [.int .i64 z, .slice B mm dd]) (fun w' hg j u hu => (Jd hB6e hg n6).at hu) ?_
        refine ρn ?_
        refine Idq (fun w => Qqk _ _ _ _ _ _ _ w) ?_
        refine ρn ?_
        refine nop ?_
        refine bsl (fun w => Jfq _ _ _ QA B _ qc _ dd _ rfl rfl rfl w) ?_
        intro W3 b8 hx8 hb8 hB8
        refine ρ ?_
        refine Je (GrN.ext hx8) ?_
        refine nop ?_
        have hoff3 := (hoff2.ext hxe).ext hx8
        have hΦ : Off (fun k => ((k = b2 ∨ k = b4) ∨ (w0.heap.size ≤ k ∧ k < w.heap.size)) ∨ (Value.slice AA ats.length ac).ownBlock = some k) W3 (fun u => AtG u [.slice QA (c.vs.getD i []).length qc, .int .i64 z, .slice B mm dd] ⟨c.vs.getD i [], (c.vs.getD i []).length, m⟩) := by
          intro W' hg'
          have h1 : IntsV W' (.slice QA (c.vs.getD i []).length qc) (c.vs.getD i []) := hvV.ext (hg'.old (h00.trans (hx0e.trans hx8)) fun k hk => by
            rcases hk with ((hk | hk) | hk) | hk
            . rw [hk]; exact nL (h00.trans hx1).size hb2
            . rw [hk]; exact nL (h00.trans (hx1.trans hx2)).size hb4
            . exact hk.1
            . have := hlo k hk; have := (h00.trans hxw4).size; omega)
          obtain ⟨rv', er, h2⟩ := hoff3 W' (hg'.mono fun k _ hk => .inl (by
            rcases hk with ((hk | hk) | hk) | hk
            . have := hB25.lt; have := hxd.size; omega
            . have := hB45.lt; have := hxd.size; omega
            . have := hx0d.size; omega
            . have := (hal2 k hk).2; have := hxd.size; omega))
          have er2 := congrArg (fun v : Value => match v with | .agg xs => xs.toList | _ => []) er
          simp only [List.cons.injEq, Value.int.injEq, true_and, and_true] at er2
          refine ⟨(.slice QA (c.vs.getD i []).length qc, .int .i64 z, .slice B mm dd), rfl, h1, ?_, ?_⟩
          . simp only; rw [er2.1]
          . simp only; rw [er2.2]; exact h2
        refine apM EA (Φ := AtG) (hGe.ext hx8) hB8 rfl (Kk rfl) hΦ om om (nL hg5.size (nL (hx6W2.trans hxe).size hx8.size)) ?_
        intro av9 W4 hG9 hg9 hn9
        refine ρ ?_
        refine Je (GrN.by hg9 fun k hk => hk) ?_
        have hg39 : GrN (fun k => (Value.slice AA ats.length ac).ownBlock = some k) W3 W4 := GrN.by hg9 fun k hk => hk
        have hB4f := Jd (hB4e.ext hx8) hg39 n4
        obtain ⟨A9, c9, ev9, hc9, hal9⟩ := hG9.form
        refine ρn ?_
        refine Xv ?_
        refine sto (hB4f.at (i := 4) rfl) (hB4f.frozen 4) ?_ (hv := by rw [ev9]; rfl)
        have hg40 : GrN (fun k => k = b4) W4 (W4.setCell ((⟨b4, 0, none⟩ : Addr).add 4) av9) := GrN.set _ rfl
        have hB4g : Blk (W4.setCell ((⟨b4, 0, none⟩ : Addr).add 4) av9) b4 92 [.int .i64 c.n, .int .i64 c.f, .slice dA c.ds.length dc, .slice pA c.pm.length pc, av9] := hB4f.set 4 _
        have hG10 : OwnM 99 3 AtG (fun k => (k = b2 ∨ k = b4) ∨ (w0.heap.size ≤ k ∧ k < w.heap.size)) (W4.setCell ((⟨b4, 0, none⟩ : Addr).add 4) av9) w4.heap.size av9 (ats ++ [⟨c.vs.getD i [], (c.vs.getD i []).length, m⟩]) := hG9.gr (hg40.mono fun k _ h => .inl (.inr h)) fun g eg e => by have := (hal9 g eg).1; have := hB44.lt; have := hB24.lt; have := hxw4.size; rcases e with (e | e) | e <;> omega
        generalize (W4.setCell ((⟨b4, 0, none⟩ : Addr).add 4) av9) = W5 at hg40 hB4g hG10
        have hgt : GrN (fun k => k = b4) w4 W5 := by
          have h1 : GrN (fun k => k = b4 ∨ w4.heap.size ≤ k) w4 W5 := (((hg5.mono fun k _ h => (.inl h : k = b4 ∨ w4.heap.size ≤ k)).trans (GrN.ext ((hx6W2.trans hxe).trans hx8))).trans (hg39.mono fun k _ h => .inr (hlo k h))).trans (hg40.mono fun k _ h => .inl h)
          exact h1.mono fun k hk h => h.elim id fun h' => by omega
        refine Jh (Us ?_)
        refine ρn ?_
        refine ρ ?_
        refine Jg (i + 1) av9 sO ⟨om, by omega, hgt, hB4g, _, by rw [List.length_append, hal]; rfl, hG10, fun j hj => ?_⟩ om
        by_cases ej : j = i
        . subst ej
          have : (ats ++ [(⟨c.vs.getD j [], (c.vs.getD j []).length, m⟩ : Atm)]).getD j a0 = ⟨c.vs.getD j [], (c.vs.getD j []).length, m⟩ := by simp [List.getD, ← hal]
          rw [this]
          exact ⟨rfl, rfl, hv32, hrok, hm6, hmsub, fun h => hmset (.inl h)⟩
        . have : (ats ++ [(⟨c.vs.getD i [], (c.vs.getD i []).length, m⟩ : Atm)]).getD j a0 = ats.getD j a0 := by simp [List.getD, List.getElem?_append_left (show j < ats.length by omega)]
          rw [this]; exact hmk j om
    . intro rest
      refine htwo 11 15 kr rfl rfl rfl ?_ ?_
      . refine ρ ?_
        refine cl (Jcc (ar := (c.vs.getD i []).length) (hrV.ext hx0d)) ?_
        rintro u W ⟨hy, rv, e, rfl, hform, hsuf, hrel⟩
        refine Jh (Ky hy ?_)
        refine Zf (fuel' := 4) 8 [(0, 12), (0, 13)] (lst 18 14) kr kr rfl ?_
        refine ρd ?_
        refine Xx ?_
        refine Yf (fuel' := 3) 14 kr kr rfl rfl ?_
        refine ρp ?_
        refine ρd ?_
        refine Xx ?_
        refine Zf (fuel' := 2) 8 [(1, 15)] (lst 18 16) kr kr rfl ?_
        refine dalc' (cs := [.int .i64 0, .slice none 0 0]) Ug ?_
        intro W2 b6 hy2 hb6 hB6
        refine Uw (Xx ?_)
        refine rest (rv, e, b6) _ _ ⟨hy.trans hy2, hB6, nL hy.size hb6, hform, hsuf, fun he => ?_⟩ sB
        obtain ⟨q1, q2, m, q3, q4, q5, q6⟩ := hrel he
        exact ⟨q1, q2, m, (q3.mono fun k hk h => h.elim id fun (h : k = b6) => by omega).ext hy2, q4, q5, q6⟩
      . refine ρ ?_
        refine alc Ug ?_
        intro W b6 hy hb6 hB6
        refine Jh (Ky hy ?_)
        refine Zf (fuel' := 3) 8 [(1, 11), (0, 12), (0, 13)] ((lst 18 14).setIfInBounds 15 true) kr kr rfl ?_
        refine ρd ?_
        refine dcl (Jcc (ar := (c.vs.getD i []).length) (hrV.ext (hx0d.trans hy))) ?_
        rintro u W2 ⟨hy2, rv, e, rfl, hform, hsuf, hrel⟩
        refine ⟨hy2, ?_⟩
        refine ρd ?_
        refine Xx ?_
        refine Yf (fuel' := 2) 14 kr kr rfl rfl ?_
        refine ρp ?_
        refine ρd ?_
        refine Xx ?_
        refine hlist (listed' := lst 18 16) kr ?_
        refine rest (rv, e, b6) _ _ ⟨hy.trans hy2, hB6.ext hy2, hb6, hform, hsuf, fun he => ?_⟩ sB
        obtain ⟨q1, q2, m, q3, q4, q5, q6⟩ := hrel he
        refine ⟨q1, q2, m, q3.mono fun k hk h => ?_, q4, q5, q6⟩
        have := hB6.lt
        have := hy.size
        rcases h with h | (h : k = b6) <;> omega
  . have hex : ¬ (i < c.vs.length ∧ i < c.rss.length) := fun h' => by have := ht.2 h'; rw [h] at this; cases this
    clear h ht
    obtain ⟨AA, ac, eav, hacl, hal2⟩ := hG5.form
    subst eav
    have hxd : Ext w6 w6.drew := (Ext.refl w6).drew
    refine ρ ?_
    have n2 : ¬ b = b2 := fun e => by have := hB.lt; omega
    refine drN (fun k => k = b2) 10 [(0, 0), (0, 1), (0, 2), (0, 3), (0, 4), (0, 5), (0, 6), (0, 7), (1, 8), (0, 9)] kr ?_
    refine ρn ?_
    refine Xd (cs := [.int .i64 c.n, .int .i64 c.f, .slice dA c.ds.length dc, .slice pA c.pm.length pc, .slice AA ats.length ac]) (fun w' hg j u hu => (Jd (hB45.ext hxd) hg (fun e => hb24 e.symm)).at hu) ?_
    refine ρn ?_
    refine nld (Jm ((hB05.ext hxd).at (i := 4) rfl) n2) ?_
    refine ρn ?_
    refine nld (Jm ((hB05.ext hxd).at (i := 5) rfl) n2) ?_
    refine ρn ?_
    refine nop ?_
    refine stW (hB25.ext hxd) ?_
    intro W3 hB3 hg3 hx3'
    have hxf : Ext w W3 := hx3' w (hx5.trans hxd) (nL hx1.size hb2)
    have hgg : GrN (fun k => k = b2) w6.drew W3 := GrN.by hg3 fun k hk => by injection hk with hk; exact hk.symm
    refine Jh (Je hgg ?_)
    refine ρn ?_
    refine ρ ?_
    refine Zh hB3 ⟨hxf, dA, pA, AA, dc, pc, ac, ats.length, ((c.vs.length : Int) == (c.rss.length : Int)), rfl, hD, hP, fun h => ?_, fun hS => by rw [hS.len]; exact beq_self_eq_true _⟩
    have he : c.vs.length = c.rss.length := by have := Xf h; omega
    have hi' : i = c.vs.length := by omega
    refine ⟨he, ats, by omega, ?_, fun j hj => hmk j om⟩
    have hN0 : ∀ g, (Value.slice AA ats.length ac).ownBlock = some g → ¬ ((g = b2 ∨ g = b4) ∨ (w0.heap.size ≤ g ∧ g < w.heap.size)) := fun g eg e => by have := (hal2 g eg).1; have := hB44.lt; have := hB24.lt; have := hxw4.size; rcases e with (e | e) | e <;> omega
    intro W hW
    exact (((hG5.ext hxd).gr (hgg.mono fun k _ h => .inl (.inl h)) hN0).gr (hW.mono fun k _ h => .inr h) hN0).gv om
open Go.RowKit Pl Go.Wk
def MkR(w:World)(c:Cse)(u:Value)(P:Prop): Prop:=∃ (dA pA aA:Option Addr) (dc pc ac an:Nat) (ok:Bool),u=.tuple #[.agg #[.int .i64 c.n,.int .i64 c.f,.slice dA c.ds.length dc,.slice pA c.pm.length pc,.slice aA an ac],.bool ok] /\
 BoolsV w (.slice dA c.ds.length dc) c.ds/\IntsV w (.slice pA c.pm.length pc) c.pm/\(ok=true->c.vs.length=c.rss.length/\∃ ats:List Atm,ats.length=c.vs.length/\GV 3 AtG w (.slice aA an ac) ats/\(∀ i,i<c.vs.length->MkA (ats.getD i a0) (c.vs.getD i []) (c.rss.getD i []))/\(P->Jxf ⟨c.n,c.f,c.ds,c.pm,ats⟩))/\(MkS c->(∀ ats:List Atm,ats.length=c.vs.length->(∀ i,i<c.vs.length->MkA (ats.getD i a0) (c.vs.getD i []) (c.rss.getD i []))->Jxf ⟨c.n,c.f,c.ds,c.pm,ats⟩)->ok=true)
theorem Qrp{w:World}{cs:List Value}{c:Cse}(h:CseV w cs c): Ret Tryz.prog 58 [.agg cs.toArray] w λu w'=>Ext w w'/\MkR w' c u True:=by
 obtain ⟨ba,b9,b7,b6,vA,vc,rA,rc,b5,_,_,_,_,hn,hf⟩:=id h;subst b5;refine Jz Tryz.func58 Tryz.ntmps58 rfl kr rfl ?_;refine ρ ?_;refine bx ?_;intro w1 b a1 hb hB;refine ρ ?_;refine alc zInp ?_;intro w2 b2 a6 ah ab;have b1:=hB.ext a6;refine ρ ?_;refine ldW b1 ?_;refine ρ ?_;refine cl (Qdz h (a1.trans a6)) ?_;rintro u w3 ⟨a5,dA,pA,aA,dc,pc,ac,an,ok,rfl,hD,hP,au,ae⟩;refine ρ ?_;refine alc zInp ?_;intro w4 b4 ao ax ay;refine ρ ?_;refine stW ay ?_;intro w5 aa b8 am;have J:Ext w3 w5:=am w3 ao ax;have a2:=(ab.ext a5).ext J;have ad:=((a1.trans a6).trans a5).trans J;refine ρ ?_;have G:Ext w5 w5.drew:=(Ext.refl w5).drew;have a3:¬ b4=b2:=λe=>by have:=ab.lt;have:=a5.size;omega
 have a4:=ad.trans G;have aj:∀ {W:World},GrN (λk=>k=b2) w5.drew W->Ext w W:=λhg=>hg.old a4 λk U=>by rw [U];exact nL a1.size ah
 have aw:=ab.lt;cases ok with
 | true=>
  obtain ⟨ag,ats,ai,af,hmk⟩:=au rfl;have O:=(af.ext J).ext G;have hG:=O.here;obtain ⟨ts,A,cc,b3,eA,av,ap,ar,aq⟩:=Jfx hG;refine drN (λk=>k=b2) 10 [(0,0),(0,1),(0,2),(0,3),(1,4),(0,5),(0,6),(1,7),(0,8)] kr ?_;refine ρn ?_;refine Xd (cs:=[.int .i64 c.n,.int .i64 c.f,.slice dA c.ds.length dc,.slice pA c.pm.length pc,.slice aA an ac]) (λw' hg j u hu=>(Jd (aa.ext G) hg a3).at hu) ?_;refine ρn ?_;refine Xd (cs:=[.int .i64 c.n,.int .i64 c.f,.slice dA c.ds.length dc,.slice pA c.pm.length pc,.slice aA an ac]) (λw' hg j u hu=>(Jd (aa.ext G) hg a3).at hu) ?_;refine ρn ?_;refine nop ?_;refine cl (Jsl (inp:=⟨c.n,c.f,c.ds,c.pm,ats⟩) ⟨_,rfl,_,_,_,rfl,hD.ext a4,hP.ext a4,⟨ts,A,cc,b3,eA,av,ap,ar,aq⟩⟩ hn hf) ?_;rintro u w6 ⟨Z,e,rfl,he⟩;refine ρ ?_;refine Je (GrN.ext Z) ?_;refine ρn ?_;refine nop ?_;refine stW ((a2.ext G).ext Z) ?_;intro w7 a9 a8 ak;have C:GrN (λk=>k=b2) w6 w7:=GrN.by a8 λk U=>by injection U with U;exact U.symm
  refine Jh (Je C ?_);have o:=aj ((GrN.ext Z).trans C);refine ρn ?_;refine ρ ?_;refine Zh a9 ⟨o,dA,pA,aA,dc,pc,ac,an,_,rfl,hD.ext o,hP.ext o,λh=>⟨ag,ats,ai,?_,hmk,λ_=>he.1 (Xf h)⟩,λ_ hC=>?_⟩;rotate_left
  .have:=he.2 (hC ats ai hmk);rw [this];rfl
  have a7:=(O.ext Z).gr (C.mono λk _ U=>by rw [U];exact ⟨nL a1.size ah,aw⟩);exact a7.here
 | false=>
  refine drN (λk=>k=b2) 10 [(0,0),(0,1),(0,2),(0,3),(1,4),(0,5),(0,6),(1,7),(0,8)] kr ?_;refine ρn ?_;refine Xd (cs:=[.int .i64 c.n,.int .i64 c.f,.slice dA c.ds.length dc,.slice pA c.pm.length pc,.slice aA an ac]) (λw' hg j u hu=>(Jd (aa.ext G) hg a3).at hu) ?_;refine ρn ?_;refine nop ?_;refine stW (a2.ext G) ?_;intro w7 a9 a8 ak;have C:GrN (λk=>k=b2) w5.drew w7:=GrN.by a8 λk U=>by injection U with U;exact U.symm
  refine Jh (Je C ?_);have o:=aj C;refine ρn ?_;refine ρ ?_;exact Zh a9 ⟨o,dA,pA,aA,dc,pc,ac,an,false,rfl,hD.ext o,hP.ext o,λh=>(by cases h),λhS _=>ae hS⟩
end Go.Proofs.YtebcagekopgdhaaGreatDoor
namespace Go.Proofs.YtebcagekopgdhaaGreatDoor
open Pl Go.Wk
noncomputable def BBx(tot n f:Nat)(kf:Nat->Nat)(pf:Nat->Int)(R:Nat->List Row)(ds:List Bool)(pl:Nat->Nat)(u:Nat): List BkT:=if u<f then (if tot=0 then [] else BBo n f kf pf R ds pl u) else []
section
variable {n f m:Nat} {es perm:List Nat} {vars:Nat->List Nat} {rs:Nat->List Row} {kf:Nat->Nat} {pf:Nat->Int} {R:Nat->List Row} {ds:List Bool} {ats:List Atm} {tot:Nat} {L:List Row} {BB:Nat->List BkT}
theorem Qwg(hat:ats.length=m)(hae:∀ i,i<m->(ats.getD i a0).rows=rs i){T:Nat->Row->Nat}: Zs n pf T ats≠0↔(∀ i,i<m->rs i≠[])/\∀ v,v<n->pf v = -1->0<T v []:=by
 unfold Zs;have o:ats.any (λa=>a.rows.isEmpty)=true↔∃ i,i<m/\rs i=[]:=by
  rw [List.any_eq_true];constructor
  .rintro ⟨a,G,h⟩;obtain ⟨i,hi,rfl⟩:=List.getElem_of_mem G;refine ⟨i,om,?_⟩;rw [<-hae i om];have:ats.getD i a0=ats[i]:=by simp [List.getD,hi]
   rw [this];exact List.isEmpty_iff.1 h
  .rintro ⟨i,hi,h⟩;refine ⟨ats.getD i a0,getD_mem' a0 _ om,?_⟩;rw [hae i hi,h];rfl
 split
 .rename_i h;obtain ⟨i,hi,e⟩:=o.1 h;exact ⟨λh=>absurd rfl h,λh=>absurd e (h.1 i hi)⟩
 .rename_i h;have J:∀ i,i<m->rs i≠[]:=λi hi e=>h (o.2 ⟨i,hi,e⟩);rw [<-Nat.pos_iff_ne_zero,prodR_pos];refine ⟨λh=>⟨J,λv C u=>?_⟩,λh v C=>?_⟩
  .have:=h v C;rwa [if_pos u]at this
  .by_cases u:pf v = -1
   .rw [if_pos u];exact h.2 v C u
   .rw [if_neg u];exact Nat.one_pos
theorem ElR.ixP(h:ElR n f m es perm vars rs kf pf R)(hfit:∀ v,v<f->∀ x∈R v,∀ u∈x,Va u/\u.bytes.length<=24)(hat:ats.length=m)(hae:∀ i,i<m->(ats.getD i a0).rows=rs i)(htot:tot=Zs n pf (TV n f kf pf R ds (plO perm f)) ats)(hL:Lt ds L)(hLm:∀ y,y∈L↔∃ z,Zr n m vars rs z/\z.take f=y):
  IxP f ds kf pf (BBx tot n f kf pf R ds (plO perm f)) tot L:=by
 have ac:=h.pm.fn;have hn:=h.n32;have C:=h.ok (ds:=ds);have J:tot≠0↔(Jxh n f m perm vars rs kf pf R ds).Roots:=by
  rw [htot,Qwg hat hae];constructor
  .rintro ⟨Z,h2⟩;refine ⟨λv o hp=>h2 v o hp,λa ha=>?_⟩;obtain ⟨i,hi,rfl⟩:=List.mem_map.1 ha;exact Z i (List.mem_range.1 hi)
  .rintro ⟨Z,h2⟩;exact ⟨λi hi=>h2 (vars i,rs i) (List.mem_map.2 ⟨i,List.mem_range.2 hi,rfl⟩),λv o hp=>Z v o hp⟩
 have a3:∀ z,(Jxh n f m perm vars rs kf pf R ds).Join z↔Zr n m vars rs z:=λz=>by
  constructor
  .rintro ⟨Z,h2⟩;exact ⟨Z,λi hi=>h2 (vars i,rs i) (List.mem_map.2 ⟨i,List.mem_range.2 hi,rfl⟩)⟩
  .rintro ⟨Z,h2⟩;refine ⟨Z,λa ha=>?_⟩;obtain ⟨i,hi,rfl⟩:=List.mem_map.1 ha;exact h2 i (List.mem_range.1 hi)
 have hE:tot≠0->∀ v,v<f->∀ k,entK (BBx tot n f kf pf R ds (plO perm f) v) k=(Jxh n f m perm vars rs kf pf R ds).E v k:=λh0 v o k=>by
  unfold BBx;rw [if_pos o,if_neg h0];rfl
 obtain ⟨X,hX⟩:∃ X:BX V,X=⟨V0,n,f,λv=>bk (kf v) 32,pf,plO perm f,(List.range m).map λi=>(vars i,rs i),TV n f kf pf R ds (plO perm f),λv k=>entK (BBx tot n f kf pf R ds (plO perm f) v) k⟩:=⟨_,rfl⟩;have G:tot≠0->X.Ok:=λh0=>by
  subst hX;exact ⟨C.FN,C.plN,C.inj,C.k1,C.k2,C.k3,C.k4,C.k5,C.k6,C.al,C.t1,λv o k=>by
   have:=C.t2 v o k;rw [<-hE h0 v o k]at this;exact this⟩
 have aj:tot≠0↔X.Roots:=by subst hX;exact J
 have ad:∀ z,X.Join z↔Zr n m vars rs z:=λz=>by subst hX;exact a3 z
 have a4:Xm f kf pf (BBx tot n f kf pf R ds (plO perm f))=X.ix:=by subst hX;rfl
 have O:X.F=f:=by subst hX;rfl
 have ak:X.N=n:=by subst hX;rfl
 have an:X.d0=V0:=by subst hX;rfl
 have a7:tot≠0->X.ix.Srt ds:=λh0=>by
  have hs:=h.srt (ds:=ds);subst hX;refine ⟨rfl,λv o k=>?_⟩;have:=hs.srt v o k;show Iu _ (entK _ k);rw [hE h0 v o k];exact this
 have a6:tot=0->L=[]:=λh0=>by
  refine List.eq_nil_iff_forall_not_mem.2 λy hy=>?_;obtain ⟨z,hz,e⟩:=(hLm y).1 hy;have ae:=(a3 z).2 hz;have a1:y.length=f:=by rw [<-e,List.length_take,hz.1];omega
  have:=(C.answers (y:=y) a1).2 ⟨z,ae,e⟩;exact absurd h0 (J.2 this.2)
 have a8:tot≠0->L=X.ix.ext f []:=λh0=>by
  refine Jjq hL ((a7 h0).ext f [] (by show 0+f=X.F;omega)) λy=>?_;rw [hLm y];have U:=(G h0).ixOk;constructor
  .rintro ⟨z,hz,e⟩;have a1:y.length=X.F:=by rw [<-e,List.length_take,hz.1];omega
   have:=((G h0).answers a1).2 ⟨z,(ad z).2 hz,by rw [O];exact e⟩;refine (AX.ext_mem f [] y).2 ⟨by rw [a1,O];simp,rfl,λv _ o=>?_⟩;have a9:v<X.F:=by rw [O];simpa using o
   have Z:=this.1 v a9;have hk:X.ix.key v (y.take v)=X.ix.key v y:=by
    have:=U.key_pre (c:=v) (y:=y.take v) (z:=y.drop v) a9 (by rw [List.length_take,Nat.min_eq_left om];exact (U.pl v a9).2);rw [List.take_append_drop]at this;exact this.symm
   show y.getD v X.d0∈(X.E v (X.ix.key v (y.take v))).map (·.1)
   rw [hk];exact Z
  .intro hy;obtain ⟨Z,_,h3⟩:=(AX.ext_mem f [] y).1 hy;have a1:y.length=X.F:=by rw [Z,O];simp
   have af:∀ v,v<X.F->y.getD v X.d0∈(X.E v (prj X.d0 (X.K v) y)).map (·.1):=λv o=>by
    have h4:=h3 v (Nat.zero_le _) (by simpa [O] using o);have hk:X.ix.key v (y.take v)=X.ix.key v y:=by
     have:=U.key_pre (c:=v) (y:=y.take v) (z:=y.drop v) o (by rw [List.length_take,Nat.min_eq_left om];exact (U.pl v o).2);rw [List.take_append_drop]at this;exact this.symm
    rw [hk]at h4;exact h4
   obtain ⟨z,hz,e⟩:=((G h0).answers a1).1 ⟨af,aj.1 h0⟩;exact ⟨z,(ad z).1 hz,by rw [O]at e;exact e⟩
 have aa:∀ v,v<f->GInv (ds.getD v false) (λx=>wtL (TV n f kf pf R ds (plO perm f)) x (chK kf pf v n)) (Go.Proofs.YtebcagekopgdhaaGreatDoor.lastC kf v) (R v) (BBo n f kf pf R ds (plO perm f) v):=λv o=>Jyg h o;have ab:∀ v k,(trK (BBx tot n f kf pf R ds (plO perm f) v) k).toL=[]∨(v<f/\(trK (BBx tot n f kf pf R ds (plO perm f) v) k).toL=Vq (ds.getD v false) (Qp (λx=>wtL (TV n f kf pf R ds (plO perm f)) x (chK kf pf v n)) (Go.Proofs.YtebcagekopgdhaaGreatDoor.lastC kf v) (R v) k)):=λv k=>by
  rw [Jyz];unfold BBx;by_cases o:v<f
  .rw [if_pos o];by_cases h0:tot=0
   .rw [if_pos h0];exact .inl rfl
   .rw [if_neg h0];exact .inr ⟨o,(aa v o).entK k⟩
  .rw [if_neg o];exact .inl rfl
 refine ⟨?_,λh0 v=>?_,λh0=>a4 ▸ (G h0).ixOk,λh0=>a4 ▸ a7 h0,λh0=>a4 ▸ a8 h0,λv k=>?_,λv k=>?_,λv b hb p hp=>?_,om,λv o=>(h.bags v om).1⟩
 .by_cases h0:tot=0
  .rw [a6 h0,h0];rfl
  .have U:=(G h0).ixOk;rw [a8 h0,U.ext_len f [] (by show 0+f=X.F;omega)];have e1:tot=Jc n λv=>if pf v = -1 then TV n f kf pf R ds (plO perm f) v [] else 1:=by
    have a5:=h0;rw [htot]at a5 ⊢;unfold Zs at a5 ⊢;split
    .rename_i hc;rw [if_pos hc]at a5;exact absurd rfl a5
    .rfl
   rw [e1,Jnx ac λc Z h2=>?_]
   .show Jc f _=Jc X.F _;rw [O];refine Ur λc hc=>?_;have ag:=U.pl c (by rw [show X.ix.F=X.F from rfl,O];exact hc);have a2:X.ix.par c=pf c:=by subst hX;rfl
    rw [a2]at ag;by_cases hp:pf c = -1
    .rw [if_pos hp,if_pos ⟨Nat.zero_le _,by rw [a2];simp;omega⟩];have ah:X.ix.key c []=[]:=by
      have ai:X.K c=[]:=(G h0).kroot (by rw [ak];omega) (by subst hX;exact hp);show prj X.d0 (X.K c) []=[];rw [ai];rfl
     have:=((G h0).t2 c (by rw [O];exact hc) []).1;have hT:X.T c []=TV n f kf pf R ds (plO perm f) c []:=by subst hX;rfl
     rw [hT]at this;rw [this];show _=Pl.tot (X.E c (X.ix.key c []));rw [ah]
    .rw [if_neg hp,if_neg];rintro ⟨_,h2⟩;rw [a2]at h2;simp at h2;omega
   .by_cases hp:pf c = -1
    .rw [if_pos hp];have h3:=(J.1 h0).1 c h2 hp;have h4:=Jgf (n:=n) (R:=R) (ds:=ds) (kf:=kf) h.chf c Z [];have h5:0<TV n f kf pf R ds (plO perm f) c []:=h3;omega
    .rw [if_neg hp]
 .unfold BBx;rw [if_pos h0];split<;>rfl
 .rw [Tr.sum_eq];rcases ab v k with e|⟨o,e⟩
  .rw [e];exact Nat.zero_le _
  .rw [e,Jvq];have:=h.big (ds:=ds) v k;rw [Jyc h.chf ac o,Jbb]at this;have e2:=(aa v o).entK k;unfold BBo at e2;rw [e2,Jvq]at this;exact this
 .rw [Tr.sz_eq];rcases ab v k with e|⟨o,e⟩
  .rw [e];exact Nat.zero_le _
  .rw [e];have Z:(Vq (ds.getD v false) (Qp (λx=>wtL (TV n f kf pf R ds (plO perm f)) x (chK kf pf v n)) (Go.Proofs.YtebcagekopgdhaaGreatDoor.lastC kf v) (R v) k)).length<=(R v).length:=by
    have:(Qp (λx=>wtL (TV n f kf pf R ds (plO perm f)) x (chK kf pf v n)) (Go.Proofs.YtebcagekopgdhaaGreatDoor.lastC kf v) (R v) k).length<=(R v).length:=by
     unfold Qp;rw [List.length_map];exact List.length_filter_le _ _
    unfold Vq;split<;>simpa using this
   exact nL Z (h.rows v om).2.2
 .unfold BBx at hb;by_cases o:v<f
  .rw [if_pos o]at hb;by_cases h0:tot=0
   .rw [if_pos h0]at hb;cases hb
   .rw [if_neg h0]at hb;rw [((aa v o).con b hb).1,Jtk,entL_mem]at hp;obtain ⟨x,hx,_,h2,_⟩:=hp;rw [<-h2];have am:=h.rl o x hx;have:x.getD (Go.Proofs.YtebcagekopgdhaaGreatDoor.lastC kf v) V0∈x:=getD_mem' V0 x om;exact hfit v o x hx _ this
  .rw [if_neg o]at hb;cases hb
theorem IxP.few(h:IxP f ds kf pf BB tot L)(hl:L.length<4294967296): tot≠0->∀ z,(Xm f kf pf BB).Gp z->z.length<f->0<(Xm f kf pf BB).pend z.length z->(Xm f kf pf BB).others z.length z<4294967296:=λh0 z C o u=>by
 have J:=((h.ok h0).others_le o u).2;have G:=(h.ok h0).pend_le z.length z rfl (Nat.le_of_lt o) C;rw [h.pend0 h0,h.len]at G;omega
end
end Go.Proofs.YtebcagekopgdhaaGreatDoor
