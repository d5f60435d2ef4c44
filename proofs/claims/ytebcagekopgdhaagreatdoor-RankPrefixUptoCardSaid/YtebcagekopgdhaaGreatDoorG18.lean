/- Part 18. -/
import Derived.Test.YtebcagekopgdhaaGreatDoorG17
set_option linter.unusedVariables false
set_option maxRecDepth 100000
set_option maxHeartbeats 40000000
namespace Go.Wk
open Go.RowKit
variable {b bytes d n t ty:Nat}
section
variable {α:Type} {E:TypeId} {sz base:Nat} {Φ:World->List Value->α->Prop} {N0:Nat->Prop} {w w':World} {v:Value} {ls:List α}
def OwnM(E:TypeId)(sz:Nat)(Φ:World->List Value->α->Prop)(N0:Nat->Prop)(w:World)(base:Nat)(v:Value)(ls:List α): Prop :=
 ∃ ps:List (List Value×α),ls=ps.map (·.2)/\w.ownsRow base E sz v ps.length (Qj ps)/\∀ p∈ps,p.1.length=sz/\Off (λk=>N0 k∨v.ownBlock=some k) w (λu=>Φ u p.1 p.2)
theorem OwnM.nil(w:World)(base:Nat): OwnM E sz Φ N0 w base (.slice none 0 0) []:=⟨[],rfl,Xa _ _ _ _,λp o=>by cases o⟩
theorem OwnM.gr(h:OwnM E sz Φ N0 w base v ls)(hg:GrN N0 w w')(hN:∀ g,v.ownBlock=some g->¬ N0 g): OwnM E sz Φ N0 w' base v ls:=by
 obtain ⟨ps,J,G,u⟩:=h;exact ⟨ps,J,Js G hg hN,λp o=>⟨(u p o).1,(u p o).2.gr (hg.mono λk _ C=>.inl C)⟩⟩
theorem OwnM.ext(h:OwnM E sz Φ N0 w base v ls)(hx:Ext w w'): OwnM E sz Φ N0 w' base v ls:=by
 obtain ⟨ps,G,C,u⟩:=h;exact ⟨ps,G,Jk C hx,λp o=>⟨(u p o).1,(u p o).2.ext hx⟩⟩
theorem OwnM.form(h:OwnM E sz Φ N0 w base v ls): ∃ A c,v=.slice A ls.length c/\ls.length<=c/\∀ g,v.ownBlock=some g->base<=g/\g<w.heap.size:=by
 obtain ⟨ps,rfl,C,G⟩:=h;obtain ⟨A,c,rfl,u,o⟩:=Jy C;exact ⟨A,c,by simp,by simpa using u,o⟩
theorem OwnM.gv(h:OwnM E sz Φ N0 w base v ls)(hm:ls.length<=1100000): GV sz Φ w v ls:=by
 obtain ⟨ps,rfl,C,u⟩:=h;obtain ⟨A,c,rfl,G,J⟩:=Jy C;exact ⟨ps,A,c,rfl,rfl,G,by simpa using hm,Rd.own C,λp o=>⟨(u p o).1,(u p o).2.here⟩⟩
theorem apM{P:Program}{al:AL}{Q:Exit->Act->World->Prop}{ops:Array Oper}{rest:List Oper}{pos:String}{aft:Array Edge}{z:Value}(hE:ElT P t E sz bytes z){x y:Operand}{cs:List Value}{a:α}(ho:OwnM E sz Φ N0 w base v ls)(hb:Blk w b E cs)(hl:cs.length=sz)(h1:∀ u∈cs,u.oneCell'=true)(hΦ:Off (λk=>N0 k∨v.ownBlock=some k) w (λu=>Φ u cs a))(hm:ls.length<=1100000)(hby:bytes<=64)(hbase:base<=w.heap.size)(kk:∀ v' w',OwnM E sz Φ N0 w' base v' (ls++[a])->w.grownBy w' v.ownBlock->(∀ g,v'.ownBlock=some g->v.ownBlock=some g∨w.heap.size<=g)->WL P n ops Q rest ((d,v')::al) w')(hx:ev al x=some v:=by rfl)(hy:ev al y=some (.slice (some ⟨b,0,none⟩) 1 1):=by rfl)(hd:Nat.blt d n=true:=by rfl):
  WL P n ops Q (⟨some d,.call { callee:=.builtin .append,args:=#[x,y],argTypes:=#[t,t] },ty,pos,aft,none⟩::rest) al w:=by
 obtain ⟨ps,e,hr,hp⟩:=ho;have a1:ps.length<=1100000:=by rw [e,List.length_map]at hm;exact hm
 have a2:(ps.length+1)*bytes<=1100001*64:=Nat.mul_le_mul om hby;refine apb hE hr (hb.rd (n:=1) om) h1 (by unfold maxLen;omega) om hbase ?_ hx hy hd;intro v' w' Z O J;have C:∀ {Ψ:World->Prop},Off (λk=>N0 k∨v.ownBlock=some k) w Ψ->Off (λk=>N0 k∨v'.ownBlock=some k) w' Ψ:=fun {Ψ} h W hW=>by
  refine h W ?_;have h1:GrN (λk=>(N0 k∨v.ownBlock=some k)∨w.heap.size<=k) w W:=(GrN.by O λk G=>.inl (.inr G)).trans (hW.mono λk _ G=>by
   rcases G with G|G
   .exact .inl (.inl G)
   .rcases J k G with o|o
    .exact .inl (.inr o)
    .exact .inr o)
  exact h1.mono λk G h=>h.elim id λo=>by omega
 refine kk v' w' ⟨ps++[(cs,a)],by rw [e];simp,?_,λp U=>?_⟩ O J
 .have e2:Qj (ps++[(cs,a)])=Qj ps++cs:=by simp [Qj]
  rw [List.length_append,e2];exact Z
 .rcases List.mem_append.1 U with o|o
  .exact ⟨(hp p o).1,C (hp p o).2⟩
  .rw [List.mem_singleton.1 o];exact ⟨hl,C hΦ⟩
end
end Go.Wk
namespace Go.Proofs.YtebcagekopgdhaaGreatDoor
open Go.RowKit Pl Go.Wk
attribute [local irreducible] WC WL QX WD WDB WP WN WG WH WM
variable {w w0:World}
theorem zRin: Qp Tryz.prog 119=some (.agg #[.int .i64 0,.int .i64 0,.slice none 0 0,.slice none 0 0,.slice none 0 0]):=kr
theorem Qsn(n f:Int)(A B C:Option Addr)(a a' b b' c c':Nat)(w:World): (Instr.build 119 #[(0,.int .i64 n),(1,.int .i64 f),(2,.slice A a a'),(3,.slice B b b'),(4,.slice C c c')]).run Tryz.prog w=.ok (.agg #[.int .i64 n,.int .i64 f,.slice A a a',.slice B b b',.slice C c c']) w:=kr
theorem Jzp: Qp Tryz.prog 92=some (.agg #[.int .i64 0,.int .i64 0,.slice none 0 0,.slice none 0 0,.slice none 0 0]):=kr
theorem Qsv(n f:Int)(A B:Option Addr)(a a' b b':Nat)(w:World): (Instr.build 92 #[(0,.int .i64 n),(1,.int .i64 f),(2,.slice A a a'),(3,.slice B b b')]).run Tryz.prog w=.ok (.agg #[.int .i64 n,.int .i64 f,.slice A a a',.slice B b b',.slice none 0 0]) w:=kr
theorem Qdn{n f:Int}{dA pA vA rA:Option Addr}{d dc p pc v vc r rc:Nat}:
  Ret Tryz.prog 61 [.agg #[.int .i64 n,.int .i64 f,.slice dA d dc,.slice pA p pc,.slice vA v vc,.slice rA r rc]] w λu w'=>u=.agg #[.int .i64 n,.int .i64 f,.slice pA p pc,.slice vA v vc,.slice rA r rc]/\Ext w w':=by
 refine Jz Tryz.func61 Tryz.ntmps61 rfl kr rfl ?_;refine ρ ?_;refine bx ?_;intro w1 b G hb hB;refine ρ ?_;refine alc zRin ?_;intro w2 b2 C O Z;have o:=hB.ext C;refine ρ ?_;refine ld (o.at (i:=0) rfl) ?_;refine ρ ?_;refine ld (o.at (i:=1) rfl) ?_;refine ρ ?_;refine ld (o.at (i:=3) rfl) ?_;refine ρ ?_;refine ld (o.at (i:=4) rfl) ?_;refine ρ ?_;refine ld (o.at (i:=5) rfl) ?_;refine ρ ?_;refine bld (Qsn _ _ _ _ _ _ _ _ _ _ _ _) ?_;refine ρ ?_;refine stW Z ?_;intro w3 U a1 J;refine ρ ?_;exact Iq U ⟨rfl,J w (G.trans C) (nL G.size O)⟩
structure MkA(a:Atm)(zs:List Int)(rows:List Row): Prop where
 vars:a.vars=zs
 ar:a.ar=zs.length
 l32:zs.length<=32
 ok:∀ r∈rows,r.length=zs.length/\r.all Xj=true
 len:a.rows.length<=65536
 sub:∀ x∈a.rows,x∈rows
 set:rows.length<=1000->IsSet [] rows a.rows
structure MkS(c:Cse): Prop where
 len:c.vs.length=c.rss.length
 l32:∀ i,i<c.vs.length->(c.vs.getD i []).length<=32
 ok:∀ i,i<c.vs.length->∀ r∈c.rss.getD i [],r.length=(c.vs.getD i []).length/\r.all Xj=true
 row:∀ i,i<c.vs.length->(c.rss.getD i []).length<=65536
set_option maxRecDepth 100000 in
set_option maxHeartbeats 4000000 in
theorem Qlb{cs : List Value}{c : Cse}(h : CseV w0 cs c)(h00 : Ext w0 w): Ret Tryz.prog 105 [.agg cs.toArray] w fun u w' => Ext w w' ∧ ∃ (dA pA aA : Option Addr) (dc pc ac an : Nat) (ok : Bool), u = .tuple #[.agg #[.int .i64 c.n, .int .i64 c.f, .slice dA c.ds.length dc, .slice pA c.pm.length pc, .slice aA an ac], .bool ok] ∧
      BoolsV w0 (.slice dA c.ds.length dc) c.ds ∧ IntsV w0 (.slice pA c.pm.length pc) c.pm ∧ (ok = true → c.vs.length = c.rss.length ∧ ∃ ats : List Atm, ats.length = c.vs.length ∧ Off (fun k => w0.heap.size ≤ k ∧ k < w.heap.size) w' (fun u => GV 3 AtG u (.slice aA an ac) ats) ∧ ∀ i, i < c.vs.length → MkA (ats.getD i a0) (c.vs.getD i []) (c.rss.getD i [])) ∧ (MkS c → ok = true) := by
  obtain ⟨dA, dc, pA, pc, vA, vc, rA, rc, rfl, hD, hP, hV0, hR, hn, hf⟩ := h
  have hV := hV0
  obtain ⟨_, _, rcs, e1, _, hrm, hRR0, hRe0⟩ := id hR
  injection e1 with e1 e2 e3
  subst e1; subst e3
  obtain ⟨_, _, vcs, e1, _, hvm, hVR0, hVe⟩ := id hV
  injection e1 with e1 e2 e3
  subst e1; subst e3
  have hRR := hRR0.ext h00
  have hVR := hVR0.ext h00
  have hRe : ∀ i, i < c.rss.length → ∃ u, rcs[i]? = some u ∧ RowsV w u (c.rss.getD i []) := fun i hi => by obtain ⟨u, e, hu⟩ := hRe0 i hi; exact ⟨u, e, hu.ext h00⟩
  refine Jz Tryz.func105 Tryz.ntmps105 rfl kr rfl ?_
  refine ρ ?_
  refine bx ?_
  intro w1 b hx1 hb hB
  refine ρ ?_
  refine alc Jzp ?_
  intro w2 b2 hx2 hb2 hB2
  have hB' := hB.ext hx2
  refine ρ ?_
  refine ld (hB'.at (i := 0) rfl) ?_
  refine ρ ?_
  refine ld (hB'.at (i := 1) rfl) ?_
  refine ρ ?_
  refine ld (hB'.at (i := 2) rfl) ?_
  refine ρ ?_
  refine ld (hB'.at (i := 3) rfl) ?_
  refine ρ ?_
  refine bld (Qsv _ _ _ _ _ _ _ _ _) ?_
  refine ρ ?_
  refine alc Jzp ?_
  intro w3 b4 hx3 hb4 hB4
  refine ρ ?_
  refine stW hB4 ?_
  intro w4 hB44 hg4 hx4
  have hx24 : Ext w2 w4 := hx4 w2 hx3 hb4
  have hxw4 := (hx1.trans hx2).trans hx24
  have hb14 : ¬ b = b4 := fun e => by have := hB'.lt; omega
  have hb24 : ¬ b2 = b4 := fun e => by have := hB2.lt; omega
  have hB04 := hB'.ext hx24
  have hB24 := hB2.ext hx24
  refine ρ ?_
  refine Je (fun (i : Nat) (av : Value) => [(1, .pointer (some ⟨b, 0, none⟩)), (2, .pointer (some ⟨b2, 0, none⟩)), (3, .bool false), (4, .pointer (some ⟨b4, 0, none⟩)), (5, .int .i64 (i : Int))])
    (fun i av w' => i ≤ c.vs.length ∧ i ≤ c.rss.length ∧ GrN (fun k => k = b4) w4 w' ∧ Blk w' b4 92 [.int .i64 c.n, .int .i64 c.f, .slice dA c.ds.length dc, .slice pA c.pm.length pc, av] ∧ ∃ ats : List Atm, ats.length = i ∧ OwnM 99 3 AtG (fun k => (k = b2 ∨ k = b4) ∨ (w0.heap.size ≤ k ∧ k < w.heap.size)) w' w4.heap.size av ats ∧ ∀ j, j < i → MkA (ats.getD j a0) (c.vs.getD j []) (c.rss.getD j [])) (fun i _ => c.vs.length - i) 0 (.slice none 0 0) sB
    ⟨Nat.zero_le _, Nat.zero_le _, GrN.refl _ _, hB44, [], rfl, OwnM.nil _ _, fun j hj => by omega⟩ ?_
  rintro i av w5 ⟨hiv, hir, hg5, hB45, ats, hal, hG5, hmk⟩
  have hB05 := Jv hB04 hg5 hb14
  have hB25 := Jv hB24 hg5 hb24
  have hx5 : Ext w w5 := hg5.old hxw4 fun k hk => by rw [hk]; have := (hx1.trans hx2).size; omega
  refine ρ ?_
  refine ld (hB05.at (i := 4) rfl) ?_
  refine ρ ?_
  refine Vg (fun (t : Bool) => [(28, .bool t), (1, .pointer (some ⟨b, 0, none⟩)), (2, .pointer (some ⟨b2, 0, none⟩)), (3, .bool false), (4, .pointer (some ⟨b4, 0, none⟩)), (5, .int .i64 (i : Int))]) (fun t w6 => w6 = w5 ∧ (t = true ↔ i < c.vs.length ∧ i < c.rss.length)) ?_ ?_
  . refine ki 22 (fun h => ?_) (fun h => ?_)
    . have := oT h
      refine ρ ?_
      refine ld (hB05.at (i := 5) rfl) ?_
      refine ρ ?_
      refine Jf (decide ((i : Int) < (c.rss.length : Int))) sB ⟨rfl, ?_⟩
      rw [decide_eq_true_eq]; omega
    . have := oF h
      refine ρ ?_
      refine Jf false sB ⟨rfl, ?_⟩
      constructor
      . intro h; cases h
      . omega
  rintro t w6 ⟨rfl, ht⟩
  refine ρ ?_
  refine ci (fun h => ?_) (fun h => ?_)
  . obtain ⟨lv, lr⟩ := ht.1 h
    clear h
    obtain ⟨vu, hvc, hvV⟩ := hVe i lv
    obtain ⟨ru, hrc, hrV⟩ := hRe i lr
    obtain ⟨QA, qc, rfl, hqc, hqm, hqR⟩ := id hvV
    have hxd : Ext w6 w6.drew := (Ext.refl w6).drew
    have hx0d := hx5.trans hxd
    have hBd := hB05.ext hxd
    have hVd := hVR.ext hx0d
    have hRd := hRR.ext hx0d
    obtain ⟨TA, tc, rfl, _, _, _⟩ := id (hrV.ext hx0d).parts
    refine ρ ?_
    refine drH (fun i => Nat.ble 16 i) ?_
    refine hpre (fuel' := 7) 8 [(0, 0), (0, 1), (0, 2), (0, 3), (0, 4), (0, 5), (0, 6), (0, 7), (0, 8), (0, 9), (0, 10)] (lst 18 11) kr kr rfl ?_
    refine ρd ?_
    refine dld (hBd.at (i := 4) rfl) ?_
    refine ρd ?_
    refine dix i hVd lv ?_
    refine ρd ?_
    refine dld (hVd.cell hvc) ?_
    refine ρd ?_
    refine dld (hBd.at (i := 5) rfl) ?_
    refine ρd ?_
    refine dix i hRd lr ?_
    refine ρd ?_
    refine dld (hRd.cell hrc) ?_
    refine ρd ?_
    refine Qz ?_
    refine Jxt 2 (lst 18 16) (fun (q : Value × Int × Nat) => [(44, q.1), (45, .int .i64 q.2.1), (6, .pointer (some ⟨q.2.2, 0, none⟩)), (1, .pointer (some ⟨b, 0, none⟩)), (2, .pointer (some ⟨b2, 0, none⟩)), (3, .bool false), (4, .pointer (some ⟨b4, 0, none⟩)), (5, .int .i64 (i : Int))])
      (fun q W => Ext w6.drew W ∧ Blk W q.2.2 95 [.int .i64 0, .slice none 0 0] ∧ w6.drew.heap.size ≤ q.2.2 ∧ (∃ z B m d, q.1 = .agg #[.int .i64 z, .slice B m d]) ∧ ((c.vs.getD i []).length ≤ 32 → (∀ r ∈ c.rss.getD i [], r.length = (c.vs.getD i []).length ∧ r.all Xj = true) → (c.rss.getD i []).length ≤ 65536 → q.2.1 = 0) ∧
        (q.2.1 = 0 → (c.vs.getD i []).length ≤ 32 ∧ (∀ r ∈ c.rss.getD i [], r.length = (c.vs.getD i []).length ∧ r.all Xj = true) ∧ ∃ m, Off (fun k => k < w6.drew.heap.size ∨ k = q.2.2) W (fun u => RelV u q.1 (c.vs.getD i []).length m) ∧ m.length ≤ 65536 ∧ (∀ x ∈ m, x ∈ c.rss.getD i []) ∧ (((c.rss.getD i []).length ≤ 1000 ∨ Srt [] (c.rss.getD i [])) → IsSet [] (c.rss.getD i []) m))) ?_ ?_
    . rintro ⟨rv, e, b6⟩ W ⟨hxW, hBW, hbW, ⟨z, B, mm, dd, erv⟩, hsuf, hrel⟩
      simp only at hBW hbW hsuf hrel erv
      subst erv
      refine hpre (fuel' := 0) 8 [(2, 16), (2, 17)] (lst 18 18) kr kr rfl ?_
      refine Ja ?_
      refine stb (cs' := [.int .i64 z, .slice B mm dd]) hBW ?_ Vn
      intro W2 hBW2 hgW2 hxW2
      refine Jg (Qg ?_)
      refine Ja ?_
      refine ρ ?_
      refine Qg ?_
      refine Vb (Qz ?_)
      refine Ks kr ?_
      have hx6W2 : Ext w6 W2 := hxW2 w6 (hxd.trans hxW) (nL hxd.size hbW)
      have hgW2' : GrN (fun k => k = b6) W W2 := GrN.by hgW2 fun k hk => by injection hk with hk; exact hk.symm
      have hB4W := hB45.ext hx6W2
      refine ρ ?_
      refine ci (fun h => ?_) (fun h => ?_)
      . refine ρ ?_
        refine ldW hB4W ?_
        obtain ⟨AA, ac, eav, _, _⟩ := hG5.form
        subst eav
        refine ρ ?_
        refine stW (hB25.ext hx6W2) ?_
        intro W3 hB3 hg3 hx3'
        have hxf : Ext w W3 := hx3' w (hx5.trans hx6W2) (nL hx1.size hb2)
        refine ρ ?_
        exact Zp hB3 ⟨hxf, dA, pA, AA, dc, pc, ac, ats.length, false, rfl, hD, hP, fun h => (by cases h), fun hS => absurd (hsuf (hS.l32 i lv) (hS.ok i lv) (hS.row i lv)) (Gn h)⟩
      . have he : e = 0 := Gr h
        clear h
        obtain ⟨hv32, hrok, m, hoff, hm6, hmsub, hmset⟩ := hrel he
        have hoff2 := hoff.gr (hgW2'.mono fun k _ hk => (.inr hk : k < w6.drew.heap.size ∨ k = b6))
        obtain ⟨AA, ac, eav, hacl, hal2⟩ := hG5.form
        subst eav
        have hlo : ∀ g, (Value.slice AA ats.length ac).ownBlock = some g → w4.heap.size ≤ g := fun g e => (hal2 g e).1
        have hxe : Ext W2 W2.drew := (Ext.refl W2).drew
        have hB4e := hB4W.ext hxe
        have hGe := (hG5.ext hx6W2).ext hxe
        have hx0e : Ext w W2.drew := (hx5.trans hx6W2).trans hxe
        have hBe := (hB05.ext hx6W2).ext hxe
        have hB6e := hBW2.ext hxe
        obtain ⟨ps0, _, hown0, _⟩ := id hGe
        have n4 : ¬ (Value.slice AA ats.length ac).ownBlock = some b4 := fun e => by have := hlo b4 e; have := hB44.lt; omega
        have n1 : ¬ (Value.slice AA ats.length ac).ownBlock = some b := fun e => by have := hlo b e; have := hB04.lt; omega
        have n6 : ¬ (Value.slice AA ats.length ac).ownBlock = some b6 := fun e => by have := (hal2 b6 e).2; have := hxd.size; omega
        have hNx : ∀ {W'}, GrN (fun k => (Value.slice AA ats.length ac).ownBlock = some k) W2.drew W' → Ext w W' := fun hg => hg.old hx0e fun k hk => by have := hlo k hk; have := hxw4.size; omega
        refine ρ ?_
        refine drN (fun k => (Value.slice AA ats.length ac).ownBlock = some k) 10 [(0, 0), (0, 1), (0, 2), (0, 3), (0, 4), (0, 5), (0, 6), (0, 7), (0, 8), (1, 9), (1, 10), (0, 11), (2, 12)] kr ?_
        refine ρn ?_
        refine nld (Jp (hB4e.at (i := 4) rfl) n4) ?_
        refine ρn ?_
        refine nld (Jp (hBe.at (i := 4) rfl) n1) ?_
        refine ρn ?_
        refine nix i (hVR.ext hx0e) lv ?_
        refine ρn ?_
        refine nld (fun w' hg => (hVR.ext (hNx hg)).cell hvc) ?_
        refine ρn ?_
        refine Qe (cs := [.int .i64 z, .slice B mm dd]) (fun w' hg j u hu => (Jv hB6e hg n6).at hu) ?_
        refine ρn ?_
        refine Jjg (fun w => Jht _ _ _ _ _ _ _ w) ?_
        refine ρn ?_
        refine nop ?_
        refine bsl (fun w => Jbq _ _ _ QA B _ qc _ dd _ rfl rfl rfl w) ?_
        intro W3 b8 hx8 hb8 hB8
        refine ρ ?_
        refine Jb (GrN.ext hx8) ?_
        refine nop ?_
        have hoff3 := (hoff2.ext hxe).ext hx8
        have hΦ : Off (fun k => ((k = b2 ∨ k = b4) ∨ (w0.heap.size ≤ k ∧ k < w.heap.size)) ∨ (Value.slice AA ats.length ac).ownBlock = some k) W3 (fun u => AtG u [.slice QA (c.vs.getD i []).length qc, .int .i64 z, .slice B mm dd] ⟨c.vs.getD i [], (c.vs.getD i []).length, m⟩) := by
          intro W' hg'
          have h1 : IntsV W' (.slice QA (c.vs.getD i []).length qc) (c.vs.getD i []) := hvV.ext (hg'.old (h00.trans (hx0e.trans hx8)) fun k hk => by
            rcases hk with ((hk | hk) | hk) | hk
            . rw [hk]; exact nL (h00.trans hx1).size hb2
            . rw [hk]; exact nL (h00.trans (hx1.trans hx2)).size hb4
            . exact hk.1
            . have := hlo k hk; have := (h00.trans hxw4).size; omega)
          obtain ⟨rv', er, h2⟩ := hoff3 W' (hg'.mono fun k _ hk => .inl (by
            rcases hk with ((hk | hk) | hk) | hk
            . have := hB25.lt; have := hxd.size; omega
            . have := hB45.lt; have := hxd.size; omega
            . have := hx0d.size; omega
            . have := (hal2 k hk).2; have := hxd.size; omega))
          have er2 := congrArg (fun v : Value => match v with | .agg xs => xs.toList | _ => []) er
          simp only [List.cons.injEq, Value.int.injEq, true_and, and_true] at er2
          refine ⟨(.slice QA (c.vs.getD i []).length qc, .int .i64 z, .slice B mm dd), rfl, h1, ?_, ?_⟩
          . simp only; rw [er2.1]
          . simp only; rw [er2.2]; exact h2
        refine apM EA (Φ := AtG) (hGe.ext hx8) hB8 rfl (Kl rfl) hΦ om om (nL hg5.size (nL (hx6W2.trans hxe).size hx8.size)) ?_
        intro av9 W4 hG9 hg9 hn9
        refine ρ ?_
        refine Jb (GrN.by hg9 fun k hk => hk) ?_
        have hg39 : GrN (fun k => (Value.slice AA ats.length ac).ownBlock = some k) W3 W4 := GrN.by hg9 fun k hk => hk
        have hB4f := Jv (hB4e.ext hx8) hg39 n4
        obtain ⟨A9, c9, ev9, hc9, hal9⟩ := hG9.form
        refine ρn ?_
        refine Xy ?_
        refine sto (hB4f.at (i := 4) rfl) (hB4f.frozen 4) ?_ (hv := by rw [ev9]; rfl)
        have hg40 : GrN (fun k => k = b4) W4 (W4.setCell ((⟨b4, 0, none⟩ : Addr).add 4) av9) := GrN.set _ rfl
        have hB4g : Blk (W4.setCell ((⟨b4, 0, none⟩ : Addr).add 4) av9) b4 92 [.int .i64 c.n, .int .i64 c.f, .slice dA c.ds.length dc, .slice pA c.pm.length pc, av9] := hB4f.set 4 _
        have hG10 : OwnM 99 3 AtG (fun k => (k = b2 ∨ k = b4) ∨ (w0.heap.size ≤ k ∧ k < w.heap.size)) (W4.setCell ((⟨b4, 0, none⟩ : Addr).add 4) av9) w4.heap.size av9 (ats ++ [⟨c.vs.getD i [], (c.vs.getD i []).length, m⟩]) := hG9.gr (hg40.mono fun k _ h => .inl (.inr h)) fun g eg e => by have := (hal9 g eg).1; have := hB44.lt; have := hB24.lt; have := hxw4.size; rcases e with (e | e) | e <;> omega
        generalize (W4.setCell ((⟨b4, 0, none⟩ : Addr).add 4) av9) = W5 at hg40 hB4g hG10
        have hgt : GrN (fun k => k = b4) w4 W5 := by
          have h1 : GrN (fun k => k = b4 ∨ w4.heap.size ≤ k) w4 W5 := (((hg5.mono fun k _ h => (.inl h : k = b4 ∨ w4.heap.size ≤ k)).trans (GrN.ext ((hx6W2.trans hxe).trans hx8))).trans (hg39.mono fun k _ h => .inr (hlo k h))).trans (hg40.mono fun k _ h => .inl h)
          exact h1.mono fun k hk h => h.elim id fun h' => by omega
        refine Jg (Uv ?_)
        refine ρn ?_
        refine ρ ?_
        refine Jl (i + 1) av9 sO ⟨om, by omega, hgt, hB4g, _, by rw [List.length_append, hal]; rfl, hG10, fun j hj => ?_⟩ om
        by_cases ej : j = i
        . subst ej
          have : (ats ++ [(⟨c.vs.getD j [], (c.vs.getD j []).length, m⟩ : Atm)]).getD j a0 = ⟨c.vs.getD j [], (c.vs.getD j []).length, m⟩ := by simp [List.getD, ← hal]
          rw [this]
          exact ⟨rfl, rfl, hv32, hrok, hm6, hmsub, fun h => hmset (.inl h)⟩
        . have : (ats ++ [(⟨c.vs.getD i [], (c.vs.getD i []).length, m⟩ : Atm)]).getD j a0 = ats.getD j a0 := by simp [List.getD, List.getElem?_append_left (show j < ats.length by omega)]
          rw [this]; exact hmk j om
    . intro rest
      refine Jkt 11 15 kr rfl rfl rfl ?_ ?_
      . refine ρ ?_
        refine cl (Jvs (ar := (c.vs.getD i []).length) (hrV.ext hx0d)) ?_
        rintro u W ⟨hy, rv, e, rfl, hform, hsuf, hrel⟩
        refine Jg (Gq hy ?_)
        refine hpre (fuel' := 4) 8 [(0, 12), (0, 13)] (lst 18 14) kr kr rfl ?_
        refine ρd ?_
        refine Qz ?_
        refine Zm (fuel' := 3) 14 kr kr rfl rfl ?_
        refine ρp ?_
        refine ρd ?_
        refine Qz ?_
        refine hpre (fuel' := 2) 8 [(1, 15)] (lst 18 16) kr kr rfl ?_
        refine dalc' (cs := [.int .i64 0, .slice none 0 0]) Yo ?_
        intro W2 b6 hy2 hb6 hB6
        refine Vb (Qz ?_)
        refine rest (rv, e, b6) _ _ ⟨hy.trans hy2, hB6, nL hy.size hb6, hform, hsuf, fun he => ?_⟩ sB
        obtain ⟨q1, q2, m, q3, q4, q5, q6⟩ := hrel he
        exact ⟨q1, q2, m, (q3.mono fun k hk h => h.elim id fun (h : k = b6) => by omega).ext hy2, q4, q5, q6⟩
      . refine ρ ?_
        refine alc Yo ?_
        intro W b6 hy hb6 hB6
        refine Jg (Gq hy ?_)
        refine hpre (fuel' := 3) 8 [(1, 11), (0, 12), (0, 13)] ((lst 18 14).setIfInBounds 15 true) kr kr rfl ?_
        refine ρd ?_
        refine dcl (Jvs (ar := (c.vs.getD i []).length) (hrV.ext (hx0d.trans hy))) ?_
        rintro u W2 ⟨hy2, rv, e, rfl, hform, hsuf, hrel⟩
        refine ⟨hy2, ?_⟩
        refine ρd ?_
        refine Qz ?_
        refine Zm (fuel' := 2) 14 kr kr rfl rfl ?_
        refine ρp ?_
        refine ρd ?_
        refine Qz ?_
        refine hlist (listed' := lst 18 16) kr ?_
        refine rest (rv, e, b6) _ _ ⟨hy.trans hy2, hB6.ext hy2, hb6, hform, hsuf, fun he => ?_⟩ sB
        obtain ⟨q1, q2, m, q3, q4, q5, q6⟩ := hrel he
        refine ⟨q1, q2, m, q3.mono fun k hk h => ?_, q4, q5, q6⟩
        have := hB6.lt
        have := hy.size
        rcases h with h | (h : k = b6) <;> omega
  . have hex : ¬ (i < c.vs.length ∧ i < c.rss.length) := fun h' => by have := ht.2 h'; rw [h] at this; cases this
    clear h ht
    obtain ⟨AA, ac, eav, hacl, hal2⟩ := hG5.form
    subst eav
    have hxd : Ext w6 w6.drew := (Ext.refl w6).drew
    refine ρ ?_
    have n2 : ¬ b = b2 := fun e => by have := hB.lt; omega
    refine drN (fun k => k = b2) 10 [(0, 0), (0, 1), (0, 2), (0, 3), (0, 4), (0, 5), (0, 6), (0, 7), (1, 8), (0, 9)] kr ?_
    refine ρn ?_
    refine Qe (cs := [.int .i64 c.n, .int .i64 c.f, .slice dA c.ds.length dc, .slice pA c.pm.length pc, .slice AA ats.length ac]) (fun w' hg j u hu => (Jv (hB45.ext hxd) hg (fun e => hb24 e.symm)).at hu) ?_
    refine ρn ?_
    refine nld (Jp ((hB05.ext hxd).at (i := 4) rfl) n2) ?_
    refine ρn ?_
    refine nld (Jp ((hB05.ext hxd).at (i := 5) rfl) n2) ?_
    refine ρn ?_
    refine nop ?_
    refine stW (hB25.ext hxd) ?_
    intro W3 hB3 hg3 hx3'
    have hxf : Ext w W3 := hx3' w (hx5.trans hxd) (nL hx1.size hb2)
    have hgg : GrN (fun k => k = b2) w6.drew W3 := GrN.by hg3 fun k hk => by injection hk with hk; exact hk.symm
    refine Jg (Jb hgg ?_)
    refine ρn ?_
    refine ρ ?_
    refine Zp hB3 ⟨hxf, dA, pA, AA, dc, pc, ac, ats.length, ((c.vs.length : Int) == (c.rss.length : Int)), rfl, hD, hP, fun h => ?_, fun hS => by rw [hS.len]; exact beq_self_eq_true _⟩
    have he : c.vs.length = c.rss.length := by have := Xd h; omega
    have hi' : i = c.vs.length := by omega
    refine ⟨he, ats, by omega, ?_, fun j hj => hmk j om⟩
    have hN0 : ∀ g, (Value.slice AA ats.length ac).ownBlock = some g → ¬ ((g = b2 ∨ g = b4) ∨ (w0.heap.size ≤ g ∧ g < w.heap.size)) := fun g eg e => by have := (hal2 g eg).1; have := hB44.lt; have := hB24.lt; have := hxw4.size; rcases e with (e | e) | e <;> omega
    intro W hW
    exact (((hG5.ext hxd).gr (hgg.mono fun k _ h => .inl (.inl h)) hN0).gr (hW.mono fun k _ h => .inr h) hN0).gv om
open Go.RowKit Pl Go.Wk
def MkR(w:World)(c:Cse)(u:Value)(P:Prop): Prop:=∃ (dA pA aA:Option Addr) (dc pc ac an:Nat) (ok:Bool),u=.tuple #[.agg #[.int .i64 c.n,.int .i64 c.f,.slice dA c.ds.length dc,.slice pA c.pm.length pc,.slice aA an ac],.bool ok] /\
 BoolsV w (.slice dA c.ds.length dc) c.ds/\IntsV w (.slice pA c.pm.length pc) c.pm/\(ok=true->c.vs.length=c.rss.length/\∃ ats:List Atm,ats.length=c.vs.length/\GV 3 AtG w (.slice aA an ac) ats/\(∀ i,i<c.vs.length->MkA (ats.getD i a0) (c.vs.getD i []) (c.rss.getD i []))/\(P->Jzg ⟨c.n,c.f,c.ds,c.pm,ats⟩))/\(MkS c->(∀ ats:List Atm,ats.length=c.vs.length->(∀ i,i<c.vs.length->MkA (ats.getD i a0) (c.vs.getD i []) (c.rss.getD i []))->Jzg ⟨c.n,c.f,c.ds,c.pm,ats⟩)->ok=true)
theorem Qyg{w:World}{cs:List Value}{c:Cse}(h:CseV w cs c): Ret Tryz.prog 58 [.agg cs.toArray] w λu w'=>Ext w w'/\MkR w' c u True:=by
 obtain ⟨ba,b9,b7,b6,vA,vc,rA,rc,b5,_,_,_,_,hn,hf⟩:=id h;subst b5;refine Jz Tryz.func58 Tryz.ntmps58 rfl kr rfl ?_;refine ρ ?_;refine bx ?_;intro w1 b a1 hb hB;refine ρ ?_;refine alc Jzp ?_;intro w2 b2 a6 ah ab;have b1:=hB.ext a6;refine ρ ?_;refine ldW b1 ?_;refine ρ ?_;refine cl (Qlb h (a1.trans a6)) ?_;rintro u w3 ⟨a5,dA,pA,aA,dc,pc,ac,an,ok,rfl,hD,hP,au,ae⟩;refine ρ ?_;refine alc Jzp ?_;intro w4 b4 ao ax ay;refine ρ ?_;refine stW ay ?_;intro w5 aa b8 am;have J:Ext w3 w5:=am w3 ao ax;have a2:=(ab.ext a5).ext J;have ad:=((a1.trans a6).trans a5).trans J;refine ρ ?_;have G:Ext w5 w5.drew:=(Ext.refl w5).drew;have a3:¬ b4=b2:=λe=>by have:=ab.lt;have:=a5.size;omega
 have a4:=ad.trans G;have aj:∀ {W:World},GrN (λk=>k=b2) w5.drew W->Ext w W:=λhg=>hg.old a4 λk U=>by rw [U];exact nL a1.size ah
 have aw:=ab.lt;cases ok with
 | true=>
  obtain ⟨ag,ats,ai,af,hmk⟩:=au rfl;have O:=(af.ext J).ext G;have hG:=O.here;obtain ⟨ts,A,cc,b3,eA,av,ap,ar,aq⟩:=Jlc hG;refine drN (λk=>k=b2) 10 [(0,0),(0,1),(0,2),(0,3),(1,4),(0,5),(0,6),(1,7),(0,8)] kr ?_;refine ρn ?_;refine Qe (cs:=[.int .i64 c.n,.int .i64 c.f,.slice dA c.ds.length dc,.slice pA c.pm.length pc,.slice aA an ac]) (λw' hg j u hu=>(Jv (aa.ext G) hg a3).at hu) ?_;refine ρn ?_;refine Qe (cs:=[.int .i64 c.n,.int .i64 c.f,.slice dA c.ds.length dc,.slice pA c.pm.length pc,.slice aA an ac]) (λw' hg j u hu=>(Jv (aa.ext G) hg a3).at hu) ?_;refine ρn ?_;refine nop ?_;refine cl (Qqb (inp:=⟨c.n,c.f,c.ds,c.pm,ats⟩) ⟨_,rfl,_,_,_,rfl,hD.ext a4,hP.ext a4,⟨ts,A,cc,b3,eA,av,ap,ar,aq⟩⟩ hn hf) ?_;rintro u w6 ⟨Z,e,rfl,he⟩;refine ρ ?_;refine Jb (GrN.ext Z) ?_;refine ρn ?_;refine nop ?_;refine stW ((a2.ext G).ext Z) ?_;intro w7 a9 a8 ak;have C:GrN (λk=>k=b2) w6 w7:=GrN.by a8 λk U=>by injection U with U;exact U.symm
  refine Jg (Jb C ?_);have o:=aj ((GrN.ext Z).trans C);refine ρn ?_;refine ρ ?_;refine Zp a9 ⟨o,dA,pA,aA,dc,pc,ac,an,_,rfl,hD.ext o,hP.ext o,λh=>⟨ag,ats,ai,?_,hmk,λ_=>he.1 (Xd h)⟩,λ_ hC=>?_⟩;rotate_left
  .have:=he.2 (hC ats ai hmk);rw [this];rfl
  have a7:=(O.ext Z).gr (C.mono λk _ U=>by rw [U];exact ⟨nL a1.size ah,aw⟩);exact a7.here
 | false=>
  refine drN (λk=>k=b2) 10 [(0,0),(0,1),(0,2),(0,3),(1,4),(0,5),(0,6),(1,7),(0,8)] kr ?_;refine ρn ?_;refine Qe (cs:=[.int .i64 c.n,.int .i64 c.f,.slice dA c.ds.length dc,.slice pA c.pm.length pc,.slice aA an ac]) (λw' hg j u hu=>(Jv (aa.ext G) hg a3).at hu) ?_;refine ρn ?_;refine nop ?_;refine stW (a2.ext G) ?_;intro w7 a9 a8 ak;have C:GrN (λk=>k=b2) w5.drew w7:=GrN.by a8 λk U=>by injection U with U;exact U.symm
  refine Jg (Jb C ?_);have o:=aj C;refine ρn ?_;refine ρ ?_;exact Zp a9 ⟨o,dA,pA,aA,dc,pc,ac,an,false,rfl,hD.ext o,hP.ext o,λh=>(by cases h),λhS _=>ae hS⟩
end Go.Proofs.YtebcagekopgdhaaGreatDoor
namespace Go.Proofs.YtebcagekopgdhaaGreatDoor
open Pl Go.Wk
noncomputable def BBx(tot n f:Nat)(kf:Nat->Nat)(pf:Nat->Int)(R:Nat->List Row)(ds:List Bool)(pl:Nat->Nat)(u:Nat): List BkT:=if u<f then (if tot=0 then [] else BBo n f kf pf R ds pl u) else []
section
variable {n f m:Nat} {es perm:List Nat} {vars:Nat->List Nat} {rs:Nat->List Row} {kf:Nat->Nat} {pf:Nat->Int} {R:Nat->List Row} {ds:List Bool} {ats:List Atm} {tot:Nat} {L:List Row} {BB:Nat->List BkT}
theorem Qbc(hat:ats.length=m)(hae:∀ i,i<m->(ats.getD i a0).rows=rs i){T:Nat->Row->Nat}: Zu n pf T ats≠0↔(∀ i,i<m->rs i≠[])/\∀ v,v<n->pf v = -1->0<T v []:=by
 unfold Zu;have o:ats.any (λa=>a.rows.isEmpty)=true↔∃ i,i<m/\rs i=[]:=by
  rw [List.any_eq_true];constructor
  .rintro ⟨a,G,h⟩;obtain ⟨i,hi,rfl⟩:=List.getElem_of_mem G;refine ⟨i,om,?_⟩;rw [<-hae i om];have:ats.getD i a0=ats[i]:=by simp [List.getD,hi]
   rw [this];exact List.isEmpty_iff.1 h
  .rintro ⟨i,hi,h⟩;refine ⟨ats.getD i a0,getD_mem' a0 _ om,?_⟩;rw [hae i hi,h];rfl
 split
 .rename_i h;obtain ⟨i,hi,e⟩:=o.1 h;exact ⟨λh=>absurd rfl h,λh=>absurd e (h.1 i hi)⟩
 .rename_i h;have J:∀ i,i<m->rs i≠[]:=λi hi e=>h (o.2 ⟨i,hi,e⟩);rw [<-Nat.pos_iff_ne_zero,prodR_pos];refine ⟨λh=>⟨J,λv C u=>?_⟩,λh v C=>?_⟩
  .have:=h v C;rwa [if_pos u]at this
  .by_cases u:pf v = -1
   .rw [if_pos u];exact h.2 v C u
   .rw [if_neg u];exact Nat.one_pos
theorem ElR.ixP(h:ElR n f m es perm vars rs kf pf R)(hfit:∀ v,v<f->∀ x∈R v,∀ u∈x,Vt u/\u.bytes.length<=24)(hat:ats.length=m)(hae:∀ i,i<m->(ats.getD i a0).rows=rs i)(htot:tot=Zu n pf (TV n f kf pf R ds (plO perm f)) ats)(hL:Lt ds L)(hLm:∀ y,y∈L↔∃ z,Ze n m vars rs z/\z.take f=y):
  IxP f ds kf pf (BBx tot n f kf pf R ds (plO perm f)) tot L:=by
 have ac:=h.pm.fn;have hn:=h.n32;have C:=h.ok (ds:=ds);have J:tot≠0↔(Jzj n f m perm vars rs kf pf R ds).Roots:=by
  rw [htot,Qbc hat hae];constructor
  .rintro ⟨Z,h2⟩;refine ⟨λv o hp=>h2 v o hp,λa ha=>?_⟩;obtain ⟨i,hi,rfl⟩:=List.mem_map.1 ha;exact Z i (List.mem_range.1 hi)
  .rintro ⟨Z,h2⟩;exact ⟨λi hi=>h2 (vars i,rs i) (List.mem_map.2 ⟨i,List.mem_range.2 hi,rfl⟩),λv o hp=>Z v o hp⟩
 have a3:∀ z,(Jzj n f m perm vars rs kf pf R ds).Join z↔Ze n m vars rs z:=λz=>by
  constructor
  .rintro ⟨Z,h2⟩;exact ⟨Z,λi hi=>h2 (vars i,rs i) (List.mem_map.2 ⟨i,List.mem_range.2 hi,rfl⟩)⟩
  .rintro ⟨Z,h2⟩;refine ⟨Z,λa ha=>?_⟩;obtain ⟨i,hi,rfl⟩:=List.mem_map.1 ha;exact h2 i (List.mem_range.1 hi)
 have hE:tot≠0->∀ v,v<f->∀ k,entK (BBx tot n f kf pf R ds (plO perm f) v) k=(Jzj n f m perm vars rs kf pf R ds).E v k:=λh0 v o k=>by
  unfold BBx;rw [if_pos o,if_neg h0];rfl
 obtain ⟨X,hX⟩:∃ X:BX V,X=⟨V0,n,f,λv=>bk (kf v) 32,pf,plO perm f,(List.range m).map λi=>(vars i,rs i),TV n f kf pf R ds (plO perm f),λv k=>entK (BBx tot n f kf pf R ds (plO perm f) v) k⟩:=⟨_,rfl⟩;have G:tot≠0->X.Ok:=λh0=>by
  subst hX;exact ⟨C.FN,C.plN,C.inj,C.k1,C.k2,C.k3,C.k4,C.k5,C.k6,C.al,C.t1,λv o k=>by
   have:=C.t2 v o k;rw [<-hE h0 v o k]at this;exact this⟩
 have aj:tot≠0↔X.Roots:=by subst hX;exact J
 have ad:∀ z,X.Join z↔Ze n m vars rs z:=λz=>by subst hX;exact a3 z
 have a4:Qu f kf pf (BBx tot n f kf pf R ds (plO perm f))=X.ix:=by subst hX;rfl
 have O:X.F=f:=by subst hX;rfl
 have ak:X.N=n:=by subst hX;rfl
 have an:X.d0=V0:=by subst hX;rfl
 have a7:tot≠0->X.ix.Srt ds:=λh0=>by
  have hs:=h.srt (ds:=ds);subst hX;refine ⟨rfl,λv o k=>?_⟩;have:=hs.srt v o k;show Iv _ (entK _ k);rw [hE h0 v o k];exact this
 have a6:tot=0->L=[]:=λh0=>by
  refine List.eq_nil_iff_forall_not_mem.2 λy hy=>?_;obtain ⟨z,hz,e⟩:=(hLm y).1 hy;have ae:=(a3 z).2 hz;have a1:y.length=f:=by rw [<-e,List.length_take,hz.1];omega
  have:=(C.answers (y:=y) a1).2 ⟨z,ae,e⟩;exact absurd h0 (J.2 this.2)
 have a8:tot≠0->L=X.ix.ext f []:=λh0=>by
  refine Jqq hL ((a7 h0).ext f [] (by show 0+f=X.F;omega)) λy=>?_;rw [hLm y];have U:=(G h0).ixOk;constructor
  .rintro ⟨z,hz,e⟩;have a1:y.length=X.F:=by rw [<-e,List.length_take,hz.1];omega
   have:=((G h0).answers a1).2 ⟨z,(ad z).2 hz,by rw [O];exact e⟩;refine (AX.ext_mem f [] y).2 ⟨by rw [a1,O];simp,rfl,λv _ o=>?_⟩;have a9:v<X.F:=by rw [O];simpa using o
   have Z:=this.1 v a9;have hk:X.ix.key v (y.take v)=X.ix.key v y:=by
    have:=U.key_pre (c:=v) (y:=y.take v) (z:=y.drop v) a9 (by rw [List.length_take,Nat.min_eq_left om];exact (U.pl v a9).2);rw [List.take_append_drop]at this;exact this.symm
   show y.getD v X.d0∈(X.E v (X.ix.key v (y.take v))).map (·.1)
   rw [hk];exact Z
  .intro hy;obtain ⟨Z,_,h3⟩:=(AX.ext_mem f [] y).1 hy;have a1:y.length=X.F:=by rw [Z,O];simp
   have af:∀ v,v<X.F->y.getD v X.d0∈(X.E v (prj X.d0 (X.K v) y)).map (·.1):=λv o=>by
    have h4:=h3 v (Nat.zero_le _) (by simpa [O] using o);have hk:X.ix.key v (y.take v)=X.ix.key v y:=by
     have:=U.key_pre (c:=v) (y:=y.take v) (z:=y.drop v) o (by rw [List.length_take,Nat.min_eq_left om];exact (U.pl v o).2);rw [List.take_append_drop]at this;exact this.symm
    rw [hk]at h4;exact h4
   obtain ⟨z,hz,e⟩:=((G h0).answers a1).1 ⟨af,aj.1 h0⟩;exact ⟨z,(ad z).1 hz,by rw [O]at e;exact e⟩
 have aa:∀ v,v<f->GInv (ds.getD v false) (λx=>wtL (TV n f kf pf R ds (plO perm f)) x (chK kf pf v n)) (Go.Proofs.YtebcagekopgdhaaGreatDoor.lastC kf v) (R v) (BBo n f kf pf R ds (plO perm f) v):=λv o=>Jcb h o;have ab:∀ v k,(trK (BBx tot n f kf pf R ds (plO perm f) v) k).toL=[]∨(v<f/\(trK (BBx tot n f kf pf R ds (plO perm f) v) k).toL=Vc (ds.getD v false) (Qo (λx=>wtL (TV n f kf pf R ds (plO perm f)) x (chK kf pf v n)) (Go.Proofs.YtebcagekopgdhaaGreatDoor.lastC kf v) (R v) k)):=λv k=>by
  rw [Jct];unfold BBx;by_cases o:v<f
  .rw [if_pos o];by_cases h0:tot=0
   .rw [if_pos h0];exact .inl rfl
   .rw [if_neg h0];exact .inr ⟨o,(aa v o).entK k⟩
  .rw [if_neg o];exact .inl rfl
 refine ⟨?_,λh0 v=>?_,λh0=>a4 ▸ (G h0).ixOk,λh0=>a4 ▸ a7 h0,λh0=>a4 ▸ a8 h0,λv k=>?_,λv k=>?_,λv b hb p hp=>?_,om,λv o=>(h.bags v om).1⟩
 .by_cases h0:tot=0
  .rw [a6 h0,h0];rfl
  .have U:=(G h0).ixOk;rw [a8 h0,U.ext_len f [] (by show 0+f=X.F;omega)];have e1:tot=Jd n λv=>if pf v = -1 then TV n f kf pf R ds (plO perm f) v [] else 1:=by
    have a5:=h0;rw [htot]at a5 ⊢;unfold Zu at a5 ⊢;split
    .rename_i hc;rw [if_pos hc]at a5;exact absurd rfl a5
    .rfl
   rw [e1,Jsj ac λc Z h2=>?_]
   .show Jd f _=Jd X.F _;rw [O];refine Ym λc hc=>?_;have ag:=U.pl c (by rw [show X.ix.F=X.F from rfl,O];exact hc);have a2:X.ix.par c=pf c:=by subst hX;rfl
    rw [a2]at ag;by_cases hp:pf c = -1
    .rw [if_pos hp,if_pos ⟨Nat.zero_le _,by rw [a2];simp;omega⟩];have ah:X.ix.key c []=[]:=by
      have ai:X.K c=[]:=(G h0).kroot (by rw [ak];omega) (by subst hX;exact hp);show prj X.d0 (X.K c) []=[];rw [ai];rfl
     have:=((G h0).t2 c (by rw [O];exact hc) []).1;have hT:X.T c []=TV n f kf pf R ds (plO perm f) c []:=by subst hX;rfl
     rw [hT]at this;rw [this];show _=Pl.tot (X.E c (X.ix.key c []));rw [ah]
    .rw [if_neg hp,if_neg];rintro ⟨_,h2⟩;rw [a2]at h2;simp at h2;omega
   .by_cases hp:pf c = -1
    .rw [if_pos hp];have h3:=(J.1 h0).1 c h2 hp;have h4:=Jlj (n:=n) (R:=R) (ds:=ds) (kf:=kf) h.chf c Z [];have h5:0<TV n f kf pf R ds (plO perm f) c []:=h3;omega
    .rw [if_neg hp]
 .unfold BBx;rw [if_pos h0];split<;>rfl
 .rw [Tr.sum_eq];rcases ab v k with e|⟨o,e⟩
  .rw [e];exact Nat.zero_le _
  .rw [e,Jbh];have:=h.big (ds:=ds) v k;rw [Jbv h.chf ac o,Jcv]at this;have e2:=(aa v o).entK k;unfold BBo at e2;rw [e2,Jbh]at this;exact this
 .rw [Tr.sz_eq];rcases ab v k with e|⟨o,e⟩
  .rw [e];exact Nat.zero_le _
  .rw [e];have Z:(Vc (ds.getD v false) (Qo (λx=>wtL (TV n f kf pf R ds (plO perm f)) x (chK kf pf v n)) (Go.Proofs.YtebcagekopgdhaaGreatDoor.lastC kf v) (R v) k)).length<=(R v).length:=by
    have:(Qo (λx=>wtL (TV n f kf pf R ds (plO perm f)) x (chK kf pf v n)) (Go.Proofs.YtebcagekopgdhaaGreatDoor.lastC kf v) (R v) k).length<=(R v).length:=by
     unfold Qo;rw [List.length_map];exact List.length_filter_le _ _
    unfold Vc;split<;>simpa using this
   exact nL Z (h.rows v om).2.2
 .unfold BBx at hb;by_cases o:v<f
  .rw [if_pos o]at hb;by_cases h0:tot=0
   .rw [if_pos h0]at hb;cases hb
   .rw [if_neg h0]at hb;rw [((aa v o).con b hb).1,Qqz,entL_mem]at hp;obtain ⟨x,hx,_,h2,_⟩:=hp;rw [<-h2];have am:=h.rl o x hx;have:x.getD (Go.Proofs.YtebcagekopgdhaaGreatDoor.lastC kf v) V0∈x:=getD_mem' V0 x om;exact hfit v o x hx _ this
  .rw [if_neg o]at hb;cases hb
theorem IxP.few(h:IxP f ds kf pf BB tot L)(hl:L.length<4294967296): tot≠0->∀ z,(Qu f kf pf BB).Gp z->z.length<f->0<(Qu f kf pf BB).pend z.length z->(Qu f kf pf BB).others z.length z<4294967296:=λh0 z C o u=>by
 have J:=((h.ok h0).others_le o u).2;have G:=(h.ok h0).pend_le z.length z rfl (Nat.le_of_lt o) C;rw [h.pend0 h0,h.len]at G;omega
end
open Pl Go.Wk
variable {l:List Int}{i n u v:Nat}
def toN(l:List Int): List Nat:=l.map Int.toNat
theorem Jyf(h:∀ v∈l,0<=v): nz (toN l)=l:=by
 unfold nz toN;rw [List.map_map];conv=>rhs;rw [<-List.map_id l]
 exact List.map_congr_left λv o=>by simp only [Function.comp,id];have:=h v o;omega
theorem Jcw(h:∀ v∈l,0<=v): u∈toN l↔(u:Int)∈l:=by
 conv=>rhs;rw [<-Jyf h]
 unfold nz;rw [List.mem_map];exact ⟨λC=>⟨u,C,rfl⟩,λ⟨v,o,e⟩=>by (have:v=u:=by omega);(exact this ▸ o)⟩
theorem Xjb{l:List Nat}(h:ascB (nz l)): Xx l:=by
 unfold Xx;rw [List.pairwise_iff_getElem];intro i j hi C G;have step:∀ k,0<k->k<l.length->l.getD (k-1) 0<l.getD k 0:=λk h0 u=>by
  have:=h k h0 (by rw [Qq];exact u);rw [Jyg om,Jyg u]at this;omega
 have key:∀ d,i+1+d<l.length->l.getD i 0<l.getD (i+1+d) 0:=by
  intro d;induction d with
  | zero=>intro o;have:=step (i+1) om o;simpa using this
  | succ d ih=>
   intro o;have O:=ih om;have J:=step (i+1+(d+1)) om o;have e:i+1+(d+1)-1=i+1+d:=om
   rw [e]at J;omega
 have:=key (j-(i+1)) om;rw [show i+1+(j-(i+1))=j by omega,Jr 0 _ hi,Jr 0 _ C]at this;exact this
structure CseOk(c:Cse)(ats:List Atm): Prop where
 few:FewP c
 len:c.vs.length=c.rss.length
 al:ats.length=c.vs.length
 mka:∀ i,i<c.vs.length->MkA (ats.getD i a0) (c.vs.getD i []) (c.rss.getD i [])
 chk:Jzg ⟨c.n,c.f,c.ds,c.pm,ats⟩
 fit:∀ i,i<c.rss.length->∀ r∈c.rss.getD i [],∀ u∈r,Vt u
def Cse.N(c:Cse): Nat:=c.n.toNat
def Cse.F(c:Cse): Nat:=c.f.toNat
def Cse.m(c:Cse): Nat:=c.vs.length
def Cse.vars(c:Cse)(i:Nat): List Nat:=toN (c.vs.getD i [])
def Cse.crs(c:Cse)(i:Nat): List Row:=c.rss.getD i []
def rsA(ats:List Atm)(i:Nat): List Row:=(ats.getD i a0).rows
def Cse.ans(c:Cse): List Row:=ansF c.m c.vars c.crs c.N c.F c.ds
section
variable {c:Cse} {ats:List Atm}
theorem CseOk.nN(h:CseOk c ats): c.n=(c.N:Int)/\c.N<=6:=by
 have u:=h.chk.1;have o:=h.chk.2.1;have C:=h.few.n6;simp only at u o;unfold Cse.N;omega
theorem CseOk.fF(h:CseOk c ats): c.f=(c.F:Int)/\c.F<=c.N:=by
 obtain ⟨C,_,u,o,_⟩:=h.chk;simp only at C u o;unfold Cse.F Cse.N;omega
theorem CseOk.at_(h:CseOk c ats)(hi:i<c.m): Jwp c.n (ats.getD i a0):=by
 obtain ⟨_,_,_,_,_,_,_,_,_,_,_,o,_⟩:=h.chk;exact o _ (getD_mem' a0 _ (by rw [h.al];exact hi))
theorem CseOk.vars(h:CseOk c ats){i:Nat}(hi:i<c.m): nz (c.vars i)=c.vs.getD i []/\Xx (c.vars i)/\(∀ v∈c.vars i,v<c.N)/\(c.vars i).length=(c.vs.getD i []).length:=by
 obtain ⟨C,u,J⟩:=h.at_ hi;have G:=(h.mka i hi).vars;rw [G]at C u;have h0:∀ v∈c.vs.getD i [],0<=v:=λv o=>(u v o).1;refine ⟨Jyf h0,Xjb (by unfold Cse.vars;rw [Jyf h0];exact C),λv o=>?_,by simp [Cse.vars,toN]⟩;have:=(u v ((Jcw h0).1 o)).2;have:=h.nN.1;omega
theorem CseOk.cov(h:CseOk c ats)(hv:v<c.N): ∃ i,i<c.m/\v∈c.vars i:=by
 obtain ⟨_,_,_,_,_,_,_,_,_,_,_,_,Z⟩:=h.chk;obtain ⟨a,U,C⟩:=Z v (by have:=h.nN.1;simp only;omega);obtain ⟨i,hi,e⟩:=List.getElem_of_mem U;have o:i<c.m:=by have:=h.al;unfold Cse.m;simp only at hi;omega
 have J:ats.getD i a0=a:=by rw [Jr a0 _ hi,e]
 have G:=(h.mka i o).vars;rw [J]at G;refine ⟨i,o,(Jcw λu O=>?_).2 (G ▸ C)⟩;have:=(h.at_ o).2.1 u (by rw [J,G];exact O);exact this.1
theorem CseOk.set(h:CseOk c ats){i:Nat}(hi:i<c.m): IsSet [] (c.crs i) (rsA ats i):=(h.mka i hi).set (by have:=h.few.row i (by rw [<-h.len];exact hi);unfold Cse.m at hi;omega)
theorem CseOk.clen(h:CseOk c ats)(hi:i<c.m): ∀ r∈c.crs i,r.length=(c.vars i).length:=λr o=>by rw [(h.vars hi).2.2.2];exact ((h.mka i hi).ok r o).1
theorem CseOk.slen(h:CseOk c ats)(hi:i<c.m): ∀ r∈rsA ats i,r.length=(c.vars i).length:=λr o=>h.clen hi r (((h.set hi).2 r).1 o)
theorem Jsh{g g':Nat->Nat}(h:∀ c,c<n->g c<=g' c): Jd n g<=Jd n g':=by
 induction n with
 | zero=>exact Nat.le_refl _
 | succ n ih=>rw [Jd,Jd];exact Nat.mul_le_mul (ih λc o=>h c om) (h n om)
theorem CseOk.cnt(h:CseOk c ats): max 1 (Jd c.m λi=>(c.crs i).length)<=5000:=by
 have o:=h.few.cnt;rw [<-h.len]at o;have u:Jd c.m (λi=>(c.crs i).length)<=Jd c.vs.length λi=>max 1 (c.rss.getD i []).length:=Jsh λi _=>Nat.le_max_right _ _;omega
theorem CseOk.refP(h:CseOk c ats): RefP c.N c.m c.vars c.crs:=by
 have u:=h.nN.2;refine ⟨om,by have:=h.few.v5;unfold Cse.m;omega,λi hi=>(h.vars hi).2.1,λi hi=>(h.vars hi).2.2.1,λi hi=>h.clen hi,λv o=>h.cov o,h.cnt,λi hi=>h.few.row i (by rw [<-h.len];exact hi)⟩
theorem Jdg{ds:List Bool}{ls m:List Row}(h:IsSet ds ls m): m.length<=ls.length:=Jfm (Jtx h.1) λx o=>(h.2 x).1 o
theorem CseOk.pm(h:CseOk c ats): PermOk c.N c.F (toN c.pm)/\nz (toN c.pm)=c.pm:=by
 obtain ⟨_,_,_,_,_,G,u,C,_⟩:=h.chk;simp only at G u C;have hn:=h.nN.1;have J:=h.fF.1;have h0:∀ v∈c.pm,0<=v:=λv o=>by have:=(u v o).1;omega
 refine ⟨⟨h.fF.2,by simp [toN];omega,λv o=>?_,?_⟩,Jyf h0⟩
 .have:=u v ((Jcw h0).1 o);omega
 .unfold toN List.Nodup;rw [List.pairwise_map];exact List.Pairwise.imp_of_mem (fun {a b} ha hb hab e=>hab (by have:=h0 a ha;have:=h0 b hb;omega)) C
theorem CseOk.bldI(h:CseOk c ats){ts:List TA}(hts:ats=ts.map (·.2)): BldI c.N c.F c.ds (toN c.pm) ts c.vars (rsA ats):=by
 have hN:=h.nN.2;have o:ts.length=c.m:=by have:=h.al;rw [hts,List.length_map]at this;exact this
 have C:RunOk c.N ts c.vars (rsA ats):=by
  refine ⟨om,by have:=h.few.v5;unfold Cse.m at o;omega,λi hi=>?_,λi hi=>(h.vars (o ▸ hi)).2.1,λi hi=>(h.vars (o ▸ hi)).2.2.1,λv J=>by rw [o];exact h.cov J,λi hi=>(h.set (o ▸ hi)).1,λi hi=>h.slen (o ▸ hi),λi hi=>(h.mka i (show i<c.m from o ▸ hi)).len⟩;have G:i<c.m:=o ▸ hi;have e:(ts.getD i ta0).2=ats.getD i a0:=by rw [hts];simp [List.getD,hi]
  have hm:=h.mka i G;obtain ⟨v1,_,_,v4⟩:=h.vars G;rw [e];have e2:ats.getD i a0=⟨(ats.getD i a0).vars,(ats.getD i a0).ar,(ats.getD i a0).rows⟩:=rfl;rw [e2,hm.vars,hm.ar,v1,v4];rfl
 refine ⟨C,h.pm.1,?_,λi hi r hr u hu=>?_,λkf pf hb v J=>⟨λl hl hx=>?_,λi hi=>.inl ?_⟩⟩
 .obtain ⟨_,_,_,_,U,_⟩:=h.chk;simp only at U;unfold Cse.F;omega
 .have G:i<c.m:=o ▸ hi;have O:=((h.set G).2 r).1 hr;have U:=((h.mka i G).ok r O).2;exact ⟨List.all_eq_true.1 U u hu,h.fit i (by rw [<-h.len];exact G) r O u hu⟩
 .have hs:kf v ||| 2^v<2^c.N:=by
   refine Nat.lt_pow_two_of_testBit _ λi hi=>?_;cases hbt:(kf v ||| 2^v).testBit i with
   | false=>rfl
   | true=>
    rw [Nat.testBit_or,Nat.testBit_two_pow,Bool.or_eq_true,decide_eq_true_eq]at hbt;rcases hbt with hbt|hbt
    .rw [(hb v J).2.1]at hbt;have Z:∀ e∈Zd ts.length c.vars,e<2^c.N:=λe he=>by
      obtain ⟨i,hi,rfl⟩:=List.mem_map.1 he;exact Jxz (C.lt i (List.mem_range.1 hi))
     have:=Jyn (nb:=nb0 c.N (Zd ts.length c.vars)) (ord:=Xv (toN c.pm) c.F) (N:=c.N) (λa b a1=>(Jxh Z a1).2.1) hbt;omega
    .omega
  have U:=Qts (m:=ts.length) (vars:=c.vars) (rs:=rsA ats) (l:=l) (λi hi=>C.asc i hi) (λv J=>C.cov v J) hs hl hx;have h2:Jd ts.length (λi=>(rsA ats i).length)<=Jd ts.length λi=>(c.crs i).length:=Jsh λi hi=>Jdg (h.set (o ▸ hi));have h3:=h.cnt;rw [o]at h2;rw [o]at U;omega
 .have:=Jdg (h.set (o ▸ hi));have h2:=h.few.row i (by rw [<-h.len];exact (show i<c.m from o ▸ hi));unfold Cse.crs at this;omega
theorem CseOk.ansJ(h:CseOk c ats)(z:Row): Ze c.N c.m c.vars (rsA ats) z↔Ze c.N c.m c.vars c.crs z:=by
 unfold Ze;refine and_congr_right λ_=>forall_congr' λi=>forall_congr' λhi=>?_;exact (h.set hi).2 _
theorem CseOk.ans(h:CseOk c ats): Lt c.ds c.ans/\∀ y,y∈c.ans↔∃ z,Ze c.N c.m c.vars (rsA ats) z/\z.take c.F=y:=by
 have C:=Qwb c.m c.vars c.crs c.N c.F c.ds;have o:=h.refP;refine ⟨C.1,λy=>?_⟩;rw [show c.ans=ansF c.m c.vars c.crs c.N c.F c.ds from rfl,C.2 y,List.mem_map];constructor
 .rintro ⟨z,u,e⟩;exact ⟨z,(h.ansJ z).2 ((Jgh o.asc o.len o.lt o.cov z).1 u),e⟩
 .rintro ⟨z,u,e⟩;exact ⟨z,(Jgh o.asc o.len o.lt o.cov z).2 ((h.ansJ z).1 u),e⟩
theorem CseOk.anl(h:CseOk c ats): c.ans.length<=5000:=by
 have o:=h.refP;have u:=Jdg (Qwb c.m c.vars c.crs c.N c.F c.ds);have C:=Qjk o.asc o.len o.cov;rw [List.length_map]at u;exact nL u (nL C o.cnt)
theorem CseOk.arow(h:CseOk c ats){y:Row}(hy:y∈c.ans): y.length=c.F:=by
 obtain ⟨z,o,e⟩:=(h.ans.2 y).1 hy;rw [<-e,List.length_take,o.1];have:=h.fF.2;omega
end
open Go.RowKit Pl Go.Wk
attribute [local irreducible] WC WL QX WD WDB WP WN WG WH WM
variable {c:Cse}{ats:List Atm}{ds:List Bool}{es perm:List Nat}{ts:List TA}{f m n rc v vc:Nat}{pf:Nat->Int}{vars:Nat->List Nat}{R rs:Nat->List Row}{aA dA pA rA vA:Option Addr}{x:Value}{w:World}
theorem IxV.congr{kf:Nat->Nat}{BB BB':Nat->List BkT}{tot:Nat}(h:IxV w x f ds kf pf BB tot)(he:∀ v,v<f->BB v=BB' v): IxV w x f ds kf pf BB' tot:=by
 obtain ⟨DA,dc,BA,cb,KA,ck,PA,cp,G,u,o,h1,h2,h3,h4,h5,Z,U,O,J⟩:=h.ex;exact ⟨⟨DA,dc,BA,cb,KA,ck,PA,cp,G,u,o,h1,h2,h3,h4,h5,Z,U,O,λv C=>he v C ▸ J v C⟩,h.dl,h.f32⟩
theorem Qsx(w:World): (Instr.build 31 #[]).run Tryz.prog w=.ok (.agg #[.slice none 0 0,.slice none 0 0,.slice none 0 0,.slice none 0 0,.slice none 0 0]) w:=kr
theorem ElR.fits{kf:Nat->Nat}(h:ElR n f ts.length es perm vars rs kf pf R)(hI:BldI n f ds perm ts vars rs):
  ∀ v,v<f->∀ x∈R v,∀ u∈x,Vt u/\u.bytes.length<=24:=λv G x C u J=>by
 have o:v<n:=nM G h.pm.fn;obtain ⟨z,_,e,O⟩:=((h.rows v o).2.1 x).1 C;subst e;exact (hI.fit (h.sb o) O).1.2 u J
theorem ElR.htb{kf:Nat->Nat}{tot:Nat}(h:ElR n f m es perm vars rs kf pf R){b:BkT}(hb:b∈BBx tot n f kf pf R ds (plO perm f) v): b.2.ht<=65536:=by
 unfold BBx at hb;by_cases hv:v<f
 .rw [if_pos hv]at hb;by_cases h0:tot=0
  .rw [if_pos h0]at hb;cases hb
  .rw [if_neg h0]at hb;have e:=((Jcb (ds:=ds) h hv).con b hb).1;have C:b.2.toL.length<=(R v).length:=by
    rw [e];have:(Qo (λx=>wtL (TV n f kf pf R ds (plO perm f)) x (chK kf pf v n)) (Go.Proofs.YtebcagekopgdhaaGreatDoor.lastC kf v) (R v) b.1).length<=(R v).length:=by
     unfold Qo;rw [List.length_map];exact List.length_filter_le _ _
    unfold Vc;split<;>simpa using this
   have o:=Tr.ht_le b.2;rw [Tr.sz_eq]at o;have u:=(h.rows v (nM hv h.pm.fn)).2.2;omega
 .rw [if_neg hv]at hb;cases hb
theorem Qjn{kf:Nat->Nat}{L:List Row}(hTB:∃ B0,TB B0 w)(hI:BldI n f ds perm ts vars rs)(hats:∀ i,i<ts.length->((ts.map (·.2)).getD i a0).rows=rs i)(hE:ElR n f ts.length es perm vars rs kf pf R)(hV:IxV w x f ds kf pf (λu=>if Zu n pf (TV n f kf pf R ds (plO perm f)) (ts.map (·.2))=0 then [] else BBo n f kf pf R ds (plO perm f) u) (Zu n pf (TV n f kf pf R ds (plO perm f)) (ts.map (·.2))))(hL:Lt ds L)(hLm:∀ y,y∈L↔∃ z,Ze n ts.length vars rs z/\z.take f=y)(hl:L.length<4294967296):
  IxA w x f ds kf pf (BBx (Zu n pf (TV n f kf pf R ds (plO perm f)) (ts.map (·.2))) n f kf pf R ds (plO perm f)) (Zu n pf (TV n f kf pf R ds (plO perm f)) (ts.map (·.2))) L:=by
 have o:=hE.ixP (ds:=ds) (tot:=Zu n pf (TV n f kf pf R ds (plO perm f)) (ts.map (·.2))) (hE.fits hI) (ats:=ts.map (·.2)) (by rw [List.length_map]) hats rfl hL hLm
 exact ⟨hTB,hV.congr λv C=>by unfold BBx;rw [if_pos C],o,o.few hl,λv b G=>hE.htb G⟩
def Jbx(c:Cse): Prop:=FewS c/\MkS c/\∀ ats:List Atm,ats.length=c.vs.length->(∀ i,i<c.vs.length->MkA (ats.getD i a0) (c.vs.getD i []) (c.rss.getD i []))->Jzg ⟨c.n,c.f,c.ds,c.pm,ats⟩
theorem Jrd(h:ats=ts.map (·.2)): ∀ i,i<ts.length->((ts.map (·.2)).getD i a0).rows=rsA ats i:=λi hi=>by rw [rsA,h]
theorem CseV.rin(hV:IntssV w (.slice vA c.vs.length vc) c.vs)(hR:RowssV w (.slice rA c.rss.length rc) c.rss)(h:CseOk c ats): RInM w vA rA c.m c.vars c.crs:=by
 obtain ⟨_,_,u,o,_,_,J,G⟩:=hV;injection o with o e2 e3
 subst o;subst e3;obtain ⟨_,_,C,o,_,_,U,O⟩:=hR;injection o with o e2 e3
 subst o;subst e3;refine ⟨⟨u,J,λi hi=>?_⟩,⟨C,?_,λi hi=>O i (by rw [<-h.len];exact hi)⟩⟩
 .rw [(h.vars hi).1];exact G i hi
 .have:=h.len;unfold Cse.m;rw [this];exact U
theorem Qzx{dc pc ac an:Nat}(h:CseOk c ats)(hD:BoolsV w (.slice dA c.ds.length dc) c.ds)(hP:IntsV w (.slice pA c.pm.length pc) c.pm)(hG:GV 3 AtG w (.slice aA an ac) ats):
  ∃ ts:List TA,ats=ts.map (·.2)/\BldV w (.agg #[.int .i64 c.n,.int .i64 c.f,.slice dA c.ds.length dc,.slice pA c.pm.length pc,.slice aA an ac]) c.N c.F c.ds (toN c.pm) ts:=by
 obtain ⟨ts,A,cc,G,eA,U,Z,O,J⟩:=Jlc hG;injection eA with o e2 e3
 subst o;subst e2;subst e3;obtain ⟨D,d',o,h1,h2,h3⟩:=hD;injection o with o e2 e3
 subst o;subst e3;obtain ⟨Q,q',o,h4,h5,h6⟩:=hP;injection o with o e2 e3
 subst o;subst e3;have C:=(h.bldI G).dl;have u:(toN c.pm).length=c.pm.length:=by simp [toN]
 refine ⟨ts,G,dA,dc,pA,pc,aA,ac,?_,by rw [<-C];exact h1,h3,?_,by rw [u];exact h4,O,U,J⟩
 .rw [h.nN.1.symm,h.fF.1.symm,u,<-C]
 .rw [h.pm.2,u];exact h6
end Go.Proofs.YtebcagekopgdhaaGreatDoor
namespace Go.Proofs.YtebcagekopgdhaaGreatDoor
open Pl Go.Wk
def nV(n:Int): V:=⟨1,n,⟨#[]⟩⟩
def nR(a b:Int): Row:=[nV a,nV b]
theorem Qhp{n:Int}(h:-9223372036854775808<=n/\n<=9223372036854775807): Vt (nV n):=⟨by show _<=(1:Int)/\(1:Int)<=_;omega,h⟩
def Xw(ds:List Bool)(r1 r2 r3:Row): Cse:=⟨2,2,ds,[],[[0,1]],[[r1,r2,r3]]⟩
theorem goodE{ds:List Bool}{r1 r2 r3:Row}(hd:ds.length=2)(h1:r1.length=2/\r1.all Xj=true)(h2:r2.length=2/\r2.all Xj=true)(h3:r3.length=2/\r3.all Xj=true): Jbx (Xw ds r1 r2 r3):=by
 refine ⟨⟨λi hi=>?_,by simp [Xw,Jd],by simp [Xw],by simp [Xw],by simp [Xw],λi hi=>?_,by show ds.length<=10;omega,by simp [Xw]⟩,⟨rfl,λi hi=>?_,λi hi r J=>?_,λi hi=>?_⟩,λats G hmk=>?_⟩
 .have:i=0:=by simp [Xw]at hi;exact hi
  subst this;simp [Xw]
 .have:i=0:=by simp [Xw]at hi;exact hi
  subst this;simp [Xw]
 .have:i=0:=by simp [Xw]at hi;exact hi
  subst this;simp [Xw]
 .have:i=0:=by simp [Xw]at hi;exact hi
  subst this;simp only [Xw,List.getD_cons_zero,List.mem_cons,List.not_mem_nil,or_false]at J;rcases J with rfl|rfl|rfl
  .exact h1
  .exact h2
  .exact h3
 .have:i=0:=by simp [Xw]at hi;exact hi
  subst this;simp [Xw]
 .have u:ats.length=1:=G;obtain ⟨a,rfl⟩:∃ a,ats=[a]:=List.length_eq_one_iff.1 u;have O:=hmk 0 (by simp [Xw]);have o:a.vars=[0,1]:=O.vars;have ha:a.ar=2:=O.ar;refine ⟨by simp [Xw],by simp [Xw],by simp [Xw],by simp [Xw],by show (ds.length:Int)=2;omega,by simp [Xw],λv o=>(by cases o),by simp [Xw],by simp [Xw],by simp [Xw],by simp,λb U=>?_,λv C=>⟨a,by simp,?_⟩⟩
  .rw [List.mem_singleton]at U;subst U;refine ⟨?_,?_,by rw [o,ha];rfl⟩
   .rw [o];intro j h0 hj;have:j=1:=by simp at hj;omega
    subst this;decide
   .rw [o];intro v h;simp only [List.mem_cons,List.not_mem_nil,or_false]at h;rcases h with rfl|rfl<;>simp [Xw]
  .rw [o];have Z:(v:Int)<2:=C;simp only [List.mem_cons,List.not_mem_nil,or_false];omega
open Go.RowKit Pl Go.Wk
attribute [local irreducible] WC WL QX WD WDB WP WN WG WH WM
theorem Qsp(n:Int)(w:World): (Instr.build 47 #[(0,.int .i64 1),(1,.int .i64 n)]).run Tryz.prog w=.ok (nV n).val w:=kr
theorem bs1V(a:V)(w:World): (Instr.buildSlice 37 1 #[(0,a.val)]).run Tryz.prog w=.ok (.slice (some ⟨w.heap.size,0,none⟩) 1 1) (w.alloc (.cells (Jm [a]).toArray 47)):=kr
theorem bs3R(A1 A2 A3:Option Addr)(n1 n2 n3 c1 c2 c3:Nat)(w:World): (Instr.buildSlice 54 3 #[(0,.slice A1 n1 c1),(1,.slice A2 n2 c2),(2,.slice A3 n3 c3)]).run Tryz.prog w=.ok (.slice (some ⟨w.heap.size,0,none⟩) 3 3) (w.alloc (.cells [.slice A1 n1 c1,.slice A2 n2 c2,.slice A3 n3 c3].toArray 37)):=kr
theorem bs2I(a b:Int)(w:World): (Instr.buildSlice 44 2 #[(0,.int .i64 a),(1,.int .i64 b)]).run Tryz.prog w=.ok (.slice (some ⟨w.heap.size,0,none⟩) 2 2) (w.alloc (.cells [Value.int .i64 a,.int .i64 b].toArray 3)):=kr
theorem Qlk{w:World}{b:Nat}(ps:List Pr)(h:Blk w b 37 (ps.map (·.1)))(hr:∀ p∈ps,RowV w p.1 p.2)(hl:ps.length<=1100000): RowsV w (.slice (some ⟨b,0,none⟩) ps.length ps.length) (ps.map (·.2)):=⟨ps,some ⟨b,0,none⟩,ps.length,rfl,rfl,Nat.le_refl _,hl,h.rd (by simp),hr⟩
end Go.Proofs.YtebcagekopgdhaaGreatDoor
namespace Go.Wk
open Go.RowKit
section
variable {P:Program} {n:Nat} {al:AL} {w:World} {Q:Exit->Act->World->Prop} {ops:Array Oper} {rest:List Oper} {d ty:Nat} {pos:String} {aft:Array Edge}
theorem apz{t e sz bytes base:Nat}{z:Value}(hE:ElT P t e sz bytes z){x y:Operand}{b:Addr}{A':Option Addr}{m' c':Nat}{news:List Value}(hr:Rd w sz A' m' news)(h1:∀ u∈news,u.oneCell'=true)(h0:0<m')(h63:m'<=maxLen)(hby:m'*bytes<=140737488355328)(hbase:base<=w.heap.size)(kk:∀ v' w',Ext w w'->w'.ownsRow base e sz v' m' news->WL P n ops Q rest ((d,v')::al) w')(hx:ev al x=some (.slice (some b) 0 0):=by rfl)(hy:ev al y=some (.slice A' m' c'):=by rfl)(hd:Nat.blt d n=true:=by rfl):
  WL P n ops Q (⟨some d,.call { callee:=.builtin .append,args:=#[x,y],argTypes:=#[t,t] },ty,pos,aft,none⟩::rest) al w:=by
 obtain ⟨i,hi,Z,J,O⟩:=hE.info;obtain ⟨ad,rfl,hb,hc⟩:=hr.2 (by rw [hr.1];exact Nat.mul_pos h0 hE.pos);obtain ⟨v',w',o,h2,G⟩:=run_append_arg_grows (P:=P) w t ty e i z sz bytes hE.sl hi Z J O hE.cells hE.pos b 0 0 [] (by simp) (λj u hu=>by simp at hu) ad m' c' news hr.1 hc om om (by rw [Nat.zero_add];exact hby);have U:w'.ownsRow base e sz v' m' news:=by
  have:=World.ownsRow.mono h2 hbase;simpa using this
 refine wop hd (λa C=>?_) (kk v' w' ⟨G.os,G.tape,G.output,G.size,λk hk=>G.block k hk (by simp)⟩ U);simp [execOp,resolve,invoke,builtin,C.ev hx,C.ev hy,o]
end
end Go.Wk
namespace Go.Proofs.YtebcagekopgdhaaGreatDoor
open Go.RowKit Pl Go.Wk
attribute [local irreducible] WC WL QX WD WDB WP WN WG WH WM
open Go.RowKit Pl Go.Wk
theorem Qdc{w:World}{A:Option Addr}{r:Row}{b t:Nat}{cs:List Value}(hR:RdR w A r)(hB:Blk w b t cs)(hs:∀ u∈cs,∀ s,u≠.string s): Off (λk=>k=b) w λu=>RdR u A r:=Jvt hR λh0 C e (e2:C.block=b)=>by
 obtain ⟨a1,G,Z,o⟩:=hR.2 h0;rw [e]at G;injection G with G
 subst G;cases r with
 | nil=>simp [Jm]at h0
 | cons v r=>
  have J:w.cell? (C.add 2)=some (.string v.str):=o 2 _ rfl;have U:=World.cell?_spot J;have O:(C.add 2).block=b:=by rw [Ya];exact e2
  have h5:C.add 2=⟨b,(C.add 2).off,none⟩:=by
   generalize hq:C.add 2=q at *
   obtain ⟨qb,qo,qs⟩:=q;simp only at U O;subst U;subst O;rfl
  rw [h5,hB.cell]at J;exact hs _ (List.mem_of_getElem? J) _ rfl
section
variable {w:World} {x cu:Value} {f:Nat} {ds:List Bool} {kf:Nat->Nat} {pf:Nat->Int} {BB:Nat->List BkT} {tot:Nat} {L:List Row} {p st:Nat}
end
end Go.Proofs.YtebcagekopgdhaaGreatDoor
namespace Go.Wk
open Go.RowKit
variable {b d i k t:Nat}{v:Value}{w w':World}
structure SF where
 p: Value->World->Prop
 st:∀ {v:Value} {w w':World},p v w->Ext w w'->p v w'
def SF.bk{cs:List Value}(h:Blk w b t cs): SF:=⟨λv _=>v=.agg cs.toArray,λh _=>h⟩
def SF.eq(c:Value): SF:=⟨λv _=>v=c,λh _=>h⟩
def depB(o:Oper)(k:Nat): Bool:=o.after.any λe=>Region.binds .any e && e.on == k
def slM(vs:Nat->Value)(al:AL): List Nat->Nat->AL
 | [],_=>al
 | d::r,i=>(d,vs i)::slM vs al r (i+1)
theorem Jfx{vs:Nat->Value}{al:AL}{t:Nat}: ∀ {ds:List Nat} {i:Nat},t ∉ ds->lk (slM vs al ds i) t=lk al t
 | [],_,_=>rfl
 | d::r,i,h=>by
  unfold slM;rw [Jjm _ _ (λe=>h (by rw [e];exact mC ..))];exact Jfx λh'=>h (List.mem_cons_of_mem _ h')
theorem Jfz{vs:Nat->Value}{al:AL}: ∀ {ds:List Nat} {i j:Nat},ds.Nodup->j<ds.length->lk (slM vs al ds i) (ds.getD j 0)=some (vs (i+j))
 | [],_,_,_,h=>by simp at h
 | d::r,i,0,_,_=>by unfold slM;simp [Jkm]
 | d::r,i,j+1,hn,hj=>by
  have hn':=List.nodup_cons.1 hn;have hj':j<r.length:=by simpa using hj
  unfold slM;have e:(d::r).getD (j+1) 0=r.getD j 0:=by simp
  rw [e];have hm:r.getD j 0∈r:=by rw [List.getD_eq_getElem?_getD,List.getElem?_eq_getElem hj'];exact List.getElem_mem hj'
  rw [Jjm _ _ (λe=>hn'.1 (by rw [e];exact hm)),Jfz hn'.2 hj'];congr 2;omega
theorem Jtn{ds:List Nat}(h:t∈ds): ∃ j,j<ds.length/\ds.getD j 0=t:=by
 obtain ⟨j,o,e⟩:=List.getElem_of_mem h;exact ⟨j,o,by rw [List.getD_eq_getElem?_getD,List.getElem?_eq_getElem o];exact e⟩
section
variable {P:Program} {n:Nat} {al:AL} {w:World} {Q:Exit->Act->World->Prop} {ops:Array Oper}
def toM(G:Act->World->Prop): Exit->Act->World->Prop
 | .normal,a,w=>G a w
 | _,_,_=>False
theorem Qvh{o:Oper}{G:Act->World->Prop}(ho:ops[i]?=some o)(h:WL P n ops (toM G) [o] al w): ∀ a,Fr n al a->wpOp P ops (QF Q) i G a w:=λa O=>by
 have u:=h a O;unfold wpList at u;unfold wpOp;simp only [ho];have C:¬ LetsOut (toM G):=by rintro ⟨a,w,h⟩;exact h
 split
 .rename_i hw;simp only [hw,if_true]at u;rcases u with u|⟨_,u⟩
  .left
   refine Oper.wp_mono (K:=wpList P ops (toM G) []) (λZ w' U=>U) ?_;unfold Oper.wp at u ⊢;exact Yj (Q:=toM G) (λc a w J=>J.elim) (λJ=>absurd J C) u
  .exact absurd u C
 .rename_i hw;simp only [hw]at u;exact u
def PM(n:Nat)(al:AL)(w:World)(d:Nat)(F:SF)(a:Act)(w':World): Prop:=∃ v,Fr n ((d,v)::al) a/\Ext w w'/\F.p v w'
theorem Zz{F:SF}(hx:Ext w w')(h:F.p v w'): QX n (toM (PM n al w d F)) .normal ((d,v)::al) w':=λa o=>⟨v,o,hx,h⟩
def fiM(Fs:List SF)(k:Nat)(v:Value)(w:World): Prop:=(Fs.getD k ⟨λ_ _=>True,λ_ _=>trivial⟩).p v w
theorem fiM.ext{Fs:List SF}{w:World}(h:fiM Fs k v w)(hx:Ext w w'): fiM Fs k v w':=SF.st _ h hx
def ndB: List Nat->Bool
 | []=>true
 | d::r=>!(r.any λx=>Nat.beq d x) && ndB r
theorem Jfn: ∀ {ds:List Nat},ndB ds=true->ds.Nodup
 | [],_=>List.nodup_nil
 | d::r,h=>by
  simp only [ndB,Bool.and_eq_true,Bool.not_eq_true']at h;refine List.nodup_cons.2 ⟨λhm=>?_,Jfn h.2⟩;have:=List.any_eq_false.1 h.1 d hm;simp at this
end
end Go.Wk
namespace Go.Wk
open Go.RowKit
variable {ds r us:List Nat}{l:List Oper}{Fs:List SF}{i j k:Nat}{w0:World}
section
variable {P:Program} {n:Nat} {al:AL} {w:World} {Q:Exit->Act->World->Prop} {ops:Array Oper}
def OpS(P:Program)(n:Nat)(ops:Array Oper)(al:AL)(w0:World)(us ds:List Nat)(Fs:List SF)(i:Nat)(o:Oper): Prop :=
 ∀ vs w1,Ext w0 w1->(∀ j,j<us.length->depB o (us.getD j 0)=true->fiM Fs j (vs j) w1)->WL P n ops (toM (PM n (slM vs al ds 0) w1 (ds.getD i 0) (Fs.getD i ⟨λ_ _=>True,λ_ _=>trivial⟩))) [o] (slM vs al ds 0) w1
def GoS(P:Program)(n:Nat)(l:List Oper)(al:AL)(w0:World)(us ds:List Nat)(Fs:List SF): Nat->List Nat->Prop
 | _,[]=>True
 | i,k::r=>(∀ o,nth l k=some o->OpS P n l.toArray al w0 us ds Fs i o)/\GoS P n l al w0 us ds Fs (i+1) r
theorem GoS.get{w0:World}{l:List Oper}{us ds:List Nat}{Fs:List SF}: ∀ {r:List Nat} {s i:Nat} {o:Oper},GoS P n l al w0 us ds Fs s r->i<r.length->nth l (r.getD i 0)=some o->OpS P n l.toArray al w0 us ds Fs (s+i) o
 | [],_,_,_,_,h,_=>by simp at h
 | x::r,s,0,o,h,_,e=>h.1 o e
 | x::r,s,i+1,o,h,h0,e=>by
  have:=GoS.get h.2 (by simpa using h0:i<r.length) (by simpa using e);rwa [show s+(i+1)=s+1+i by omega]
theorem gsc{o:Oper}(h:∀ vs w1,Ext w0 w1->(∀ j,(hj:j<us.length:=by decide)->(hk:depB o (us.getD j 0)=true:=by kernel_rfl)->fiM Fs j (vs j) w1)->WL P n l.toArray (toM (PM n (slM vs al ds 0) w1 (ds.getD i 0) (Fs.getD i ⟨λ_ _=>True,λ_ _=>trivial⟩))) [o] (slM vs al ds 0) w1)(h2:GoS P n l al w0 us ds Fs (i+1) r)(ho:nth l k=some o:=by rfl): GoS P n l al w0 us ds Fs i (k::r):=⟨λC u=>by rw [ho]at u;injection u with u;subst u;exact h,h2⟩
theorem gse: GoS P n l al w0 us ds Fs i []:=trivial
theorem Jfp(h:us.Nodup)(hi:i<us.length)(hj:j<us.length)(e:us.getD i 0=us.getD j 0): i=j:=by
 rw [List.getD_eq_getElem?_getD,List.getD_eq_getElem?_getD,List.getElem?_eq_getElem hi,List.getElem?_eq_getElem hj]at e;have o:=List.pairwise_iff_getElem.1 h;rcases Nat.lt_trichotomy i j with hlt|he|hlt
 .exact absurd e (o i j hi hj hlt)
 .exact he
 .exact absurd e.symm (o j i hj hi hlt)
end
end Go.Wk
namespace Go.Wk
open Go.RowKit
section
variable {P:Program} {n:Nat} {al:AL} {w:World} {Q:Exit->Act->World->Prop} {ops:Array Oper}
def stgQ(l:List Oper)(F q:Nat)(st st':Array Bool)(us:List Nat): Bool :=
 Nat.beq st.size l.length && Nat.beq st'.size l.length && ndB us && (us.all λk=>Nat.blt k l.length && !(st.getD k true)) &&
 (us.all λi=>match nth l i with
  | some o=>o.after.all λe=>!Region.binds .any e || (Nat.blt e.on l.length && st.getD e.on true) || (us.any (λj=>Nat.beq j e.on) && Nat.blt e.on i)
  | none=>false) &&
 ((List.range l.length).all λi=>st.getD i true || us.any (λj=>Nat.beq j i) || us.all λj=>Nat.beq j q || Uw l.toArray F i j) &&
 ((List.range l.length).all λi=>st'.getD i true == (st.getD i true || us.any λj=>Nat.beq j i))
theorem Qqg{T : Nat → Bool}{l : List Oper}(F q fuel' : Nat)(st st' : Array Bool)(us ds : List Nat)(Fs : List SF){fuel : Nat}(hc : (stgQ l F q st st' us && ndB ds && Nat.beq ds.length us.length && Nat.beq (us.length + fuel') fuel) = true)(hfree : (ds.all fun d => (lk al d).isNone) = true)(hop : GoS P n l al w us ds Fs 0 us)(Ks : ∀ vs w1, Ext w w1 → (∀ j, (hj : j < us.length := by decide) → fiM Fs j (vs j) w1) → WH P n l.toArray Q T fuel' st' (slM vs al ds 0) w1)(hend2 : q < l.length → ∀ vs w1, Ext w w1 → (∀ j, (hj : j < us.length := by decide) → (hq : us.getD j 0 ≠ q := by decide) → fiM Fs j (vs j) w1) → WH P n l.toArray Q T (fuel' + 1) (st'.setIfInBounds q false) (slM vs al ds 0) w1): WH P n l.toArray Q T fuel st al w := fun hcl a ha => by
  simp only [Bool.and_eq_true] at hc
  obtain ⟨⟨⟨h0, h4⟩, h5⟩, h6⟩ := hc
  unfold stgQ at h0
  simp only [Bool.and_eq_true] at h0
  obtain ⟨⟨⟨⟨⟨⟨c1, c2⟩, c3⟩, c4⟩, c5⟩, c6⟩, c7⟩ := h0
  have hst : st.size = l.length := Nat.eq_of_beq_eq_true c1
  have hst' : st'.size = l.length := Nat.eq_of_beq_eq_true c2
  have hU := Jfn c3
  have hN := Jfn h4
  have hl : ds.length = us.length := Nat.eq_of_beq_eq_true h5
  have hfu : us.length + fuel' = fuel := Nat.eq_of_beq_eq_true h6
  have hfr : ∀ d ∈ ds, lk al d = none := fun d hd => by simpa using List.all_eq_true.1 hfree d hd
  have hUlt : ∀ j, j < us.length → us.getD j 0 < l.length ∧ st.getD (us.getD j 0) true = false := fun j hj => by
    have hm : us.getD j 0 ∈ us := by rw [List.getD_eq_getElem?_getD, List.getElem?_eq_getElem hj]; exact List.getElem_mem _
    have := List.all_eq_true.1 c4 _ hm
    simp only [Bool.and_eq_true, Bool.not_eq_true'] at this
    exact ⟨by have h : us.getD j 0 + 1 ≤ l.length := by simpa [Nat.blt] using this.1
              omega, this.2⟩
  have hmem : ∀ k, (us.any fun j => Nat.beq j k) = true → ∃ j, j < us.length ∧ us.getD j 0 = k := fun k hk => by
    rw [List.any_eq_true] at hk
    obtain ⟨u, hu, e⟩ := hk
    have e := Nat.eq_of_beq_eq_true e
    subst e
    exact Jtn hu
  have hall : ∀ a : Act, Fr n al a → Fr n (slM (fun j => a.tmps.getD (ds.getD j 0) undef) al ds 0) a := fun a ha => ⟨ha.size, ha.defers, fun t v h => by
    by_cases hm : t ∈ ds
    . obtain ⟨j, hj, e⟩ := Jtn hm
      rw [← e, Jfz hN hj] at h
      simp only [Nat.zero_add, Option.some.injEq] at h
      rw [← e]; exact h
    . rw [Jfx hm] at h
      exact ha.has t v h⟩
  suffices key : ∀ (L : Nat) (ps : List Nat) (listed : Array Bool) (a : Act) (w1 : World), ps.length = L → ps.Nodup → (∀ j ∈ ps, j < us.length) → (∀ j, j < us.length → (listed.getD (us.getD j 0) true = false ↔ j ∈ ps)) → (∀ k, k < l.length → (∀ j, j < us.length → us.getD j 0 ≠ k) → listed.getD k true = st.getD k true) → listed.size = l.length → Closed l.toArray listed → Fr n al a → Ext w w1 →
      (∀ j, j < us.length → j ∉ ps → fiM Fs j (a.tmps.getD (ds.getD j 0) undef) w1) → Vk P l.toArray Q T (L + fuel') listed a w1 by
    have := key us.length (List.range us.length) st a w List.length_range List.nodup_range (fun j hj => List.mem_range.1 hj) (fun j hj => ⟨fun _ => List.mem_range.2 hj, fun _ => (hUlt j hj).2⟩) (fun k _ _ => rfl) hst hcl ha (Ext.refl w) fun j hj h => absurd (List.mem_range.2 hj) h
    rwa [hfu] at this
  intro L
  induction L with
  | zero =>
    intro ps listed a w1 hL hu hum hus hge hsz hcl ha hx hf
    have hnil : ps = [] := List.length_eq_zero_iff.1 hL
    subst hnil
    have e : listed = st' := by
      refine Array.ext_getElem? fun i => ?_
      by_cases hi : i < l.length
      . have h7 := List.all_eq_true.1 c7 i (List.mem_range.2 hi)
        rw [beq_iff_eq] at h7
        have h8 : listed.getD i true = st'.getD i true := by
          rw [h7]
          by_cases hm : ∃ j, j < us.length ∧ us.getD j 0 = i
          . obtain ⟨j, hj, e⟩ := hm
            have h1 := hus j hj
            rw [e] at h1
            have h2 : listed.getD i true = true := by
              cases hh : listed.getD i true with
              | true => rfl
              | false => exact absurd (h1.1 hh) (by simp)
            rw [h2]
            symm
            rw [Bool.or_eq_true]
            right
            rw [List.any_eq_true]
            refine ⟨us.getD j 0, ?_, by rw [e]; simp⟩
            rw [List.getD_eq_getElem?_getD, List.getElem?_eq_getElem hj]; exact List.getElem_mem _
          . have h1 : ∀ j, j < us.length → us.getD j 0 ≠ i := fun j hj e => hm ⟨j, hj, e⟩
            rw [hge i hi h1]
            have h2 : (us.any fun j => Nat.beq j i) = false := by
              cases hh : us.any fun j => Nat.beq j i with
              | false => rfl
              | true => exact absurd (hmem i hh) hm
            rw [h2, Bool.or_false]
        have h9 : i < listed.size := by omega
        have h10 : i < st'.size := by omega
        simp [h9, h10] at h8
        simp [h9, h10, h8]
      . rw [Array.getElem?_eq_none om, Array.getElem?_eq_none om]
    rw [Nat.zero_add, e]
    rw [e] at hcl
    exact Ks _ w1 hx (fun j hj => hf j hj (by simp)) hcl a (hall a ha)
  | succ L ih =>
    intro ps listed a w1 hL hu hum hus hge hsz hcl ha hx hf
    by_cases hq0 : ∀ p ∈ ps, us.getD p 0 = q
    . have hL0 : L = 0 := by
        rcases Nat.eq_zero_or_pos L with h | h
        . exact h
        . exfalso
          obtain ⟨x, y, r, rfl⟩ : ∃ x y r, ps = x :: y :: r := by
            match ps, hL with
            | [], h' => simp at h'
            | [x], h' => simp at h'; omega
            | x :: y :: r, _ => exact ⟨x, y, r, rfl⟩
          have h1 := hq0 x (by simp)
          have h2 := hq0 y (by simp)
          have h3 := Jfp hU (hum x (by simp)) (hum y (by simp)) (by rw [h1, h2])
          have := (List.nodup_cons.1 hu).1
          rw [h3] at this
          exact this (by simp)
      subst hL0
      obtain ⟨p, rfl⟩ : ∃ p, ps = [p] := List.length_eq_one_iff.1 om
      have hpq := hq0 p (by simp)
      have hpl := hum p (by simp)
      have hql := (hUlt p hpl).1
      rw [hpq] at hql
      have e : listed = st'.setIfInBounds q false := by
        refine Array.ext_getElem? fun i => ?_
        by_cases hi : i < l.length
        . have h7 := List.all_eq_true.1 c7 i (List.mem_range.2 hi)
          rw [beq_iff_eq] at h7
          have h8 : listed.getD i true = (st'.setIfInBounds q false).getD i true := by
            by_cases hiq : i = q
            . have h1 := (hus p hpl).2 (by simp)
              rw [hpq] at h1
              rw [hiq, h1]
              have : q < st'.size := by omega
              simp [this]
            . have h10 : (st'.setIfInBounds q false).getD i true = st'.getD i true := by
                have h9 : i < st'.size := by omega
                simp [h9, Ne.symm hiq]
              rw [h10, h7]
              by_cases hm : ∃ j, j < us.length ∧ us.getD j 0 = i
              . obtain ⟨j, hj, e⟩ := hm
                have h1 := hus j hj
                rw [e] at h1
                have h2 : listed.getD i true = true := by
                  cases hh : listed.getD i true with
                  | true => rfl
                  | false =>
                    have := List.mem_singleton.1 (h1.1 hh)
                    rw [this, hpq] at e
                    exact absurd e.symm hiq
                rw [h2]
                symm
                rw [Bool.or_eq_true]
                right
                rw [List.any_eq_true]
                refine ⟨us.getD j 0, ?_, by rw [e]; simp⟩
                rw [List.getD_eq_getElem?_getD, List.getElem?_eq_getElem hj]; exact List.getElem_mem _
              . have h1 : ∀ j, j < us.length → us.getD j 0 ≠ i := fun j hj e => hm ⟨j, hj, e⟩
                rw [hge i hi h1]
                have h2 : (us.any fun j => Nat.beq j i) = false := by
                  cases hh : us.any fun j => Nat.beq j i with
                  | false => rfl
                  | true => exact absurd (hmem i hh) hm
                rw [h2, Bool.or_false]
          have h9 : i < listed.size := by omega
          have h10 : i < (st'.setIfInBounds q false).size := by rw [Array.size_setIfInBounds]; omega
          rw [Array.getElem?_eq_getElem h9, Array.getElem?_eq_getElem h10]
          rw [Array.getD, Array.getD, dif_pos h9, dif_pos h10] at h8
          exact congrArg some h8
        . rw [Array.getElem?_eq_none om, Array.getElem?_eq_none (by rw [Array.size_setIfInBounds]; omega)]
      rw [show 0 + 1 + fuel' = fuel' + 1 by omega, e]
      rw [e] at hcl
      exact hend2 hql _ w1 hx (fun j hj hq => hf j hj (fun h => hq (by rw [List.mem_singleton.1 h]; exact hpq))) hcl a (hall a ha)
    obtain ⟨p0, hp0, hpq0⟩ : ∃ p, p ∈ ps ∧ us.getD p 0 ≠ q := by
      refine Classical.byContradiction fun h => hq0 fun p hp => Classical.byContradiction fun h2 => h ⟨p, hp, h2⟩
    rw [show L + 1 + fuel' = (L + fuel') + 1 by omega]
    refine ⟨fun hr => ?_, fun i hi => ?_⟩
    . exfalso
      obtain ⟨p, hp, hmin⟩ : ∃ p, p ∈ ps ∧ ∀ q ∈ ps, us.getD p 0 ≤ us.getD q 0 := by
        have : ∀ s p, p ∈ ps → us.getD p 0 < s → ∃ p, p ∈ ps ∧ ∀ q ∈ ps, us.getD p 0 ≤ us.getD q 0 := by
          intro s
          induction s with
          | zero => intro p _ h; omega
          | succ s ihs =>
            intro p hp hps
            by_cases h : ∃ q, q ∈ ps ∧ us.getD q 0 < us.getD p 0
            . obtain ⟨q, hq, hlt⟩ := h
              exact ihs q hq om
            . exact ⟨p, hp, fun q hq => by
                rcases Nat.lt_or_ge (us.getD q 0) (us.getD p 0) with h' | h'
                . exact absurd ⟨q, hq, h'⟩ h
                . exact h'⟩
        exact this (us.getD p0 0 + 1) p0 hp0 om
      have hpm := hum p hp
      obtain ⟨hkl, _⟩ := hUlt p hpm
      have hk1 := (hus p hpm).2 hp
      have hr2 : us.getD p 0 ∈ Region.ready .any l.toArray listed := by
        refine mem_ready.2 ⟨hk1, l[us.getD p 0], by simp, fun e he hb => ?_⟩
        have hm : us.getD p 0 ∈ us := by rw [List.getD_eq_getElem?_getD, List.getElem?_eq_getElem hpm]; exact List.getElem_mem _
        have h1 := List.all_eq_true.1 c5 _ hm
        have hn : nth l (us.getD p 0) = some l[us.getD p 0] := by rw [Xz]; simp
        rw [hn] at h1
        simp only [Array.all_eq_true_iff_forall_mem, Bool.or_eq_true, Bool.not_eq_true', Bool.and_eq_true] at h1
        have h2 := h1 e he
        rw [hb] at h2
        have h5 : listed.getD e.on true = true ∧ e.on < listed.size := by
          rcases h2 with (h2 | ⟨h3, h2⟩) | ⟨h2, h3⟩
          . cases h2
          . have h3' : e.on < l.length := by have : e.on + 1 ≤ l.length := by simpa [Nat.blt] using h3
                                             omega
            refine ⟨?_, by omega⟩
            by_cases hm2 : ∃ j, j < us.length ∧ us.getD j 0 = e.on
            . obtain ⟨j, hj, e2⟩ := hm2
              have := (hUlt j hj).2
              rw [e2, h2] at this; cases this
            . rw [hge _ h3' fun j hj e2 => hm2 ⟨j, hj, e2⟩]; exact h2
          . obtain ⟨j, hj, e2⟩ := hmem _ h2
            have h3' : e.on < us.getD p 0 := by have : e.on + 1 ≤ us.getD p 0 := by simpa [Nat.blt] using h3
                                                omega
            refine ⟨?_, by omega⟩
            cases hh : listed.getD e.on true with
            | true => rfl
            | false =>
              rw [← e2] at hh
              have h6 := (hus j hj).1 hh
              have := hmin j h6
              omega
        have h6 := h5.2
        have h7 := h5.1
        simp [h6] at h7 ⊢
        exact h7
      rw [hr] at hr2
      cases hr2
    . obtain ⟨hun, o, ho, hdep⟩ := mem_ready.1 hi
      have hol : l[i]? = some o := by simpa using ho
      have hil : i < l.length := (List.getElem?_eq_some_iff.1 hol).1
      obtain ⟨p, hpm, hpi⟩ : ∃ j, j < us.length ∧ us.getD j 0 = i := by
        refine Classical.byContradiction fun hno => ?_
        have h1 := List.all_eq_true.1 c6 i (List.mem_range.2 hil)
        simp only [Bool.or_eq_true] at h1
        have h2 := hge i hil fun j hj e => hno ⟨j, hj, e⟩
        rcases h1 with (h1 | h1) | h1
        . rw [h1] at h2; rw [h2] at hun; cases hun
        . exact hno (hmem i h1)
        . have hm : us.getD p0 0 ∈ us := by rw [List.getD_eq_getElem?_getD, List.getElem?_eq_getElem (hum p0 hp0)]; exact List.getElem_mem _
          have h3 := List.all_eq_true.1 h1 _ hm
          rw [Bool.or_eq_true] at h3
          have h3 := h3.resolve_left fun h => hpq0 (Nat.eq_of_beq_eq_true h)
          have h4 := Jkf hcl F i (us.getD p0 0) o ho (Jkd ho hi) h3
          have h5 := (hus p0 (hum p0 hp0)).2 hp0
          have h6 : us.getD p0 0 < listed.size := by have := (hUlt p0 (hum p0 hp0)).1; omega
          generalize us.getD p0 0 = k0 at h4 h5 h6
          simp [h6] at h4 h5
          rw [h4] at h5; cases h5
      subst hpi
      have hps := (hus p hpm).1 hun
      have hO := GoS.get hop hpm (by rw [Xz]; exact hol)
      rw [Nat.zero_add] at hO
      have hW := hO (fun j => a.tmps.getD (ds.getD j 0) undef) w1 hx fun j hj hk => by
        unfold depB at hk
        rw [Array.any_eq_true'] at hk
        obtain ⟨e, he, h1⟩ := hk
        simp only [Bool.and_eq_true, beq_iff_eq] at h1
        have h2 := hdep e he h1.1
        rw [h1.2] at h2
        have h3 : us.getD j 0 < listed.size := by have := (hUlt j hj).1; omega
        refine hf j hj fun hk' => ?_
        have h4 := (hus j hj).2 hk'
        generalize us.getD j 0 = k0 at h2 h3 h4
        simp [h3] at h2 h4
        rw [h2] at h4; cases h4
      have h1 := Qvh (Q := Q) (ops := l.toArray) (by simpa using hol) hW a (hall a ha)
      refine wpOp_mono (fun a' w' h => ?_) h1
      obtain ⟨v, hfr', hx', hF⟩ := h
      have hdi : lk ((ds.getD p 0, v) :: slM (fun j => a.tmps.getD (ds.getD j 0) undef) al ds 0) (ds.getD p 0) = some v := Jkm _ _ _
      have hin : ds.getD p 0 ∈ ds := by rw [List.getD_eq_getElem?_getD, List.getElem?_eq_getElem om]; exact List.getElem_mem _
      refine ⟨fun _ => hx', ih (ps.erase p) _ a' w' (by rw [List.length_erase_of_mem hps, hL]; omega) (hu.erase p) (fun j hj => hum j (hu.mem_erase_iff.1 hj).2) (fun j hj => ?_) (fun k h1 h2 => ?_) (by simp [hsz]) (hcl.step hi) ?_ (hx.trans hx') fun j hj hj' => ?_⟩
      . by_cases e : p = j
        . subst e
          have : us.getD p 0 < listed.size := by omega
          simp only [hu.mem_erase_iff]
          simp
        . rw [getD_set_ne true (fun e2 => e (Jfp hU hpm hj e2)), hus j hj, hu.mem_erase_iff]
          exact ⟨fun h => ⟨fun h' => e h'.symm, h⟩, fun h => h.2⟩
      . rw [getD_set_ne true (h2 p hpm)]; exact hge k h1 h2
      . refine ⟨hfr'.size, hfr'.defers, fun t u htu => ?_⟩
        have hm : t ∉ ds := fun hm => by rw [hfr t hm] at htu; cases htu
        exact hfr'.has t u (by rw [Jjm _ _ (fun e => hm (by rw [← e]; exact hin)), Jfx hm]; exact htu)
      . by_cases e : j = p
        . subst e
          rw [hfr'.has _ _ hdi]
          exact hF
        . have hk2 : j ∉ ps := fun h => hj' (hu.mem_erase_iff.2 ⟨e, h⟩)
          have hne : ds.getD p 0 ≠ ds.getD j 0 := fun h => e (Jfp hN om om h.symm)
          have h3 := hfr'.has (ds.getD j 0) _ (by rw [Jjm _ _ hne]; exact Jfz hN om)
          simp only [Nat.zero_add] at h3
          rw [h3]
          exact (hf j hj hk2).ext hx'
end
end Go.Wk
namespace Go.Proofs.YtebcagekopgdhaaGreatDoor
open Go.RowKit Pl Go.Wk
attribute [local irreducible] WC WL QX WD WDB WP WN WG WH WM
variable {a a' b b' c c' d d' e e' t:Nat}{A B C D E:Option Addr}
theorem no_u32{F:Option Addr}{f f':Nat}{z:Int}: ∀ u∈[Value.slice A a a',.slice B b b',.slice C c c',.slice D d d',.slice E e e',.slice F f f',.int .i64 z],∀ s,u≠.int .u32 s:=λu o s=>by
 simp only [List.mem_cons,List.not_mem_nil,or_false]at o;rcases o with rfl|rfl|rfl|rfl|rfl|rfl|rfl<;>simp
theorem Qhc: ∀ u∈[Value.slice A a a',.slice B b b',.slice C c c',.slice D d d',.slice E e e'],∀ s,u≠.string s:=λu o s=>by
 simp only [List.mem_cons,List.not_mem_nil,or_false]at o;rcases o with rfl|rfl|rfl|rfl|rfl<;>simp
theorem RowsV.off{w:World}{v:Value}{L:List Row}{cs:List Value}(h:RowsV w v L)(hf:∀ ad m c,v=.slice (some ad) m c->ad.block≠b)(hB:Blk w b t cs)(hs:∀ u∈cs,∀ s,u≠.string s): Off (λk=>k=b) w λu=>RowsV u v L:=by
 obtain ⟨ps,A,c,rfl,rfl,U,O,J,G⟩:=h;exact λW o=>⟨ps,A,c,rfl,rfl,U,O,Vj J o (λ_ ad e=>hf ad _ _ (by rw [e])),λp C=>by
  obtain ⟨A',c',e1,e2,e3,Z⟩:=G p C;exact ⟨A',c',e1,e2,e3,(Qdc Z hB hs) W o⟩⟩
end Go.Proofs.YtebcagekopgdhaaGreatDoor
