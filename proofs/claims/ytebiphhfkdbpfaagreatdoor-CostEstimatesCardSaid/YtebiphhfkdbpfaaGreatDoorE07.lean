/- Part 7. -/
import Derived.Test.YtebiphhfkdbpfaaGreatDoorE06
import Derived.ChangeKeysEq
import Derived.ProofKit
import Derived.OpenShut
import Derived.ShutString
import Derived.ChangeOld
import Derived.Deep.Slices
import Derived.Deep.Fields
import Derived.Test.YtebiphhfkdbpfaaGreatDoorRows
import Derived.LaidSub
import Derived.Lib.LaidTab
set_option linter.unusedVariables false
set_option maxRecDepth 100000
set_option maxHeartbeats 40000000
namespace Go.Wk
open Go.RowKit
variable {d n t ty:Nat}
theorem dalc'{P:Program}{al:AL}{w:World}{Q:Exit->Act->World->Prop}{ops:Array Oper}{drest:List (Nat×Oper)}{pos:String}{aft:Array Edge}{z:Value}{cs:List Value}(hz:Qa P t=some z)(kk:∀ w1 b,Ext w w1->w.heap.size<=b->Blk w1 b t cs->WD P n ops Q drest ((d,.pointer (some ⟨b,0,none⟩))::al) w1)(hv:z.cells=cs.toArray:=by rfl)(hd:Nat.blt d n=true:=by rfl):
  WD P n ops Q ((1,⟨some d,.alloc t,ty,pos,aft,none⟩)::drest) al w:=by grind [done_,alc,Jp,eback]
end Go.Wk
namespace Go.Wk
open Go.RowKit
variable {b bytes d n t ty:Nat}
section
variable {α:Type} {E:TypeId} {sz base:Nat} {Φ:World->List Value->α->Prop} {N0:Nat->Prop} {w w':World} {v:Value} {ls:List α}
def OwnM(E:TypeId)(sz:Nat)(Φ:World->List Value->α->Prop)(N0:Nat->Prop)(w:World)(base:Nat)(v:Value)(ls:List α): Prop :=
 ∃ ps:List (List Value×α),ls=ps.map (·.2)/\w.ownsRow base E sz v ps.length (Jh ps)/\∀ p∈ps,p.1.length=sz/\Off (λk=>N0 k∨v.ownBlock=some k) w (λu=>Φ u p.1 p.2)
theorem OwnM.nil(w:World)(base:Nat): OwnM E sz Φ N0 w base (.slice none 0 0) []:=⟨[],rfl,Zh _ _ _ _,λp i=>by cases i⟩
theorem OwnM.gr(h:OwnM E sz Φ N0 w base v ls)(hg:GrN N0 w w')(hN:∀ g,v.ownBlock=some g->¬ N0 g): OwnM E sz Φ N0 w' base v ls:=by
 obtain⟨ps,B,y,j⟩:=h;exact⟨ps,B,Qc y hg hN,λp i=>⟨(j p i).1,(j p i).2.gr (hg.mono λk _ u=>.inl u)⟩⟩
theorem OwnM.ext(h:OwnM E sz Φ N0 w base v ls)(hx:Ext w w'): OwnM E sz Φ N0 w' base v ls:=by
 obtain⟨ps,y,u,j⟩:=h;exact⟨ps,y,Jo u hx,λp i=>⟨(j p i).1,(j p i).2.ext hx⟩⟩
theorem OwnM.form(h:OwnM E sz Φ N0 w base v ls): ∃ A c,v=.slice A ls.length c/\ls.length<=c/\∀ g,v.ownBlock=some g->base<=g/\g<w.heap.size:=by
 obtain⟨ps,rfl,j,i⟩:=h;grind [Jc]
theorem OwnM.gv(h:OwnM E sz Φ N0 w base v ls)(hm:ls.length<=1100000): GV sz Φ w v ls:=by
 obtain⟨ps,rfl,u,j⟩:=h;obtain⟨A,c,rfl,y,B⟩:=Jc u;exact⟨ps,A,c,rfl,rfl,y,by simpa using hm,Rd.own u,λp i=>⟨(j p i).1,(j p i).2.here⟩⟩
theorem apM{P:Program}{al:AL}{Q:Exit->Act->World->Prop}{ops:Array Oper}{rest:List Oper}{pos:String}{aft:Array Edge}{z:Value}(hE:ElT P t E sz bytes z){x y:Operand}{cs:List Value}{a:α}(ho:OwnM E sz Φ N0 w base v ls)(hb:Blk w b E cs)(hl:cs.length=sz)(h1:∀ u∈cs,u.oneCell'=true)(hΦ:Off (λk=>N0 k∨v.ownBlock=some k) w (λu=>Φ u cs a))(hm:ls.length<=1100000)(hby:bytes<=128)(hbase:base<=w.heap.size)(kk:∀ v' w',OwnM E sz Φ N0 w' base v' (ls++[a])->w.grownBy w' v.ownBlock->(∀ g,v'.ownBlock=some g->v.ownBlock=some g∨w.heap.size<=g)->WL P n ops Q rest ((d,v')::al) w')(hx:ev al x=some v:=by rfl)(hy:ev al y=some (.slice (some ⟨b,0,none⟩) 1 1):=by rfl)(hd:Nat.blt d n=true:=by rfl):
  WL P n ops Q (⟨some d,.call { callee:=.builtin .append,args:=#[x,y],argTypes:=#[t,t] },ty,pos,aft,none⟩::rest) al w:=by
 obtain⟨ps,e,hr,U⟩:=ho;have Z:ps.length<=1100000:=by rw[e,List.length_map]at hm;exact hm
 have a1:(ps.length+1)*bytes<=1100001*128:=Nat.mul_le_mul om hby;refine apb hE hr (hb.rd (n:=1) om) h1 (by unfold maxLen;omega) om hbase ?_ hx hy hd;intro v' w' O G D;have j:∀ {Ψ:World->Prop},Off (λk=>N0 k∨v.ownBlock=some k) w Ψ->Off (λk=>N0 k∨v'.ownBlock=some k) w' Ψ:=fun {Ψ} h W hW=>by
  refine h W ?_;have h1:GrN (λk=>(N0 k∨v.ownBlock=some k)∨w.heap.size<=k) w W:=(GrN.by G λk B=>.inl (.inr B)).trans (hW.mono λk _ B=>by
   rcases B with B|B
   .exact .inl (.inl B)
   rcases D k B with i|i
   .exact .inl (.inr i)
   exact .inr i)
  exact h1.mono λk B h=>h.elim id λi=>by omega
 refine kk v' w' ⟨ps++[(cs,a)],by rw[e];simp,?_,λp J=>?_⟩ G D
 .have e2:Jh (ps++[(cs,a)])=Jh ps++cs:=by simp[Jh]
  rw[List.length_append,e2];exact O
 rcases List.mem_append.1 J with i|i
 .exact⟨(U p i).1,j (U p i).2⟩
 rw[List.mem_singleton.1 i];exact⟨hl,j hΦ⟩
end
end Go.Wk
namespace Go.Proofs.YtebiphhfkdbpfaaGreatDoor
open Go.RowKit Pl Go.Wk
attribute [local irreducible] WC WL QX WD WDB WP WN WG WH WM
theorem Ib: Qa Tryz.prog 35=some (.agg #[.int .i64 0,.int .i64 0,.slice none 0 0,.slice none 0 0,.slice none 0 0]):=kr
theorem Qpc(n f:Int)(A B:Option Addr)(a a' b b':Nat)(w:World): (Instr.build 35 #[(0,.int .i64 n),(1,.int .i64 f),(2,.slice A a a'),(3,.slice B b b')]).run Tryz.prog w=.ok (.agg #[.int .i64 n,.int .i64 f,.slice A a a',.slice B b b',.slice none 0 0]) w:=kr
structure MkA(a:Atm)(zs:List Int)(rows:List Row): Prop where
 vars:a.vars=zs
 ar:a.ar=zs.length
 l32:zs.length<=32
 ok:∀ r∈rows,r.length=zs.length/\r.all Xa=true
 len:a.rows.length<=65536
 sub:∀ x∈a.rows,x∈rows
 set:rows.length<=12->Vn [] rows a.rows
structure MkS(c:Cse): Prop where
 len:c.vs.length=c.rss.length
 l32:∀ i,i<c.vs.length->(c.vs.getD i []).length<=32
 ok:∀ i,i<c.vs.length->∀ r∈c.rss.getD i [],r.length=(c.vs.getD i []).length/\r.all Xa=true
 row:∀ i,i<c.vs.length->(c.rss.getD i []).length<=65536
theorem Jpd{w0 w:World}{cs:List Value}{c:Cse}(h:CseV w0 cs c)(hF:FewP c)(h00:Ext w0 w): Ret Tryz.prog 16 [.agg cs.toArray] w λu w'=>Ext w w'/\∃(dA pA aA:Option Addr) (dc pc ac an:Nat) (ok:Bool),u=.tuple #[.agg #[.int .i64 c.n,.int .i64 c.f,.slice dA c.ds.length dc,.slice pA c.pm.length pc,.slice aA an ac],.bool ok] /\
  BoolsV w0 (.slice dA c.ds.length dc) c.ds/\IntsV w0 (.slice pA c.pm.length pc) c.pm/\(ok=true->c.vs.length=c.rss.length/\∃ ats:List Atm,ats.length=c.vs.length/\Off (λk=>w0.heap.size<=k/\k<w.heap.size) w' (λu=>GV 3 AtG u (.slice aA an ac) ats)/\∀ i,i<c.vs.length->MkA (ats.getD i a0) (c.vs.getD i []) (c.rss.getD i []))/\(MkS c->ok=true):=by
 obtain⟨dA,dc,pA,pc,vA,vc,rA,rc,rfl,hD,hP,d2,hR,hn,hf⟩:=h;have df:c.vs.length<=5:=hF.v5;have dg:c.rss.length<=5:=hF.r5;replace hD:=hD.v (nL hF.d10 (by decide))
 replace hP:=hP.v (nL hF.p10 (by decide))
 have hV:=d2;obtain⟨_,_,cr,e1,_,ce,cc⟩:=id hR;injection e1 with e1 e2 e3
 subst e1;subst e3;obtain⟨_,_,da,e1,_,cb,d1⟩:=id hV;injection e1 with e1 e2 e3
 subst e1;subst e3;have d4:=ce.ext h00;have bm:=cb.ext h00;have d3:∀ i,i<c.rss.length->∃ u,cr[i]?=some u/\RowsM w u (c.rss.getD i []):=λi hi=>by obtain⟨u,e,hu⟩:=cc i hi;exact⟨u,e,hu.ext h00⟩
 refine Jz Tryz.func16 Tryz.ntmps16 rfl kr rfl ?_;refine ρ ?_;refine bx ?_;intro w1 b aa hb hB;refine ρ ?_;refine alc Ib ?_;intro w2 b2 aw bl cp;have ab:=hB.ext aw;refine ρ ?_;refine ld (ab.at (i:=0) rfl) ?_;refine ρ ?_;refine ld (ab.at (i:=1) rfl) ?_;refine ρ ?_;refine ld (ab.at (i:=2) rfl) ?_;refine ρ ?_;refine ld (ab.at (i:=3) rfl) ?_;refine ρ ?_;refine bld (Qpc _ _ _ _ _ _ _ _ _) ?_;refine ρ ?_;refine alc Ib ?_;intro w3 J cx c4 d8;refine ρ ?_;refine stW d8 ?_;intro w4 a8 dq cw;have ae:Ext w2 w4:=cw w2 cx c4;have a2:=(aa.trans aw).trans ae;have c5:¬ b=J:=λe=>by have:=ab.lt;omega
 have b3:¬ b2=J:=λe=>by have:=cp.lt;omega
 have bb:=ab.ext ae;have ap:=cp.ext ae;refine ρ ?_;refine Ju (fun (i:Nat) (av:Value)=>[(1,.pointer (some ⟨b,0,none⟩)),(2,.pointer (some ⟨b2,0,none⟩)),(3,.bool false),(4,.pointer (some ⟨J,0,none⟩)),(5,.int .i64 (i:Int))])
  (λi av w'=>i<=c.vs.length/\i<=c.rss.length/\GrN (λk=>k=J) w4 w'/\Blk w' J 35 [.int .i64 c.n,.int .i64 c.f,.slice dA c.ds.length dc,.slice pA c.pm.length pc,av]/\∃ ats:List Atm,ats.length=i/\OwnM 82 3 AtG (λk=>(k=b2∨k=J)∨(w0.heap.size<=k/\k<w.heap.size)) w' w4.heap.size av ats/\∀ j,j<i->MkA (ats.getD j a0) (c.vs.getD j []) (c.rss.getD j [])) (λi _=>c.vs.length-i) 0 (.slice none 0 0) sB
  ⟨Nat.zero_le _,Nat.zero_le _,GrN.refl _ _,a8,[],rfl,OwnM.nil _ _,λj hj=>om⟩ ?_
 rintro i av w5 ⟨dl,dm,ah,am,ats,c7,aj,hmk⟩;have a1:=Qs bb ah c5;have ao:=Qs ap ah b3;have au:Ext w w5:=ah.old a2 λk y=>by rw[y];have:=(aa.trans aw).size;omega
 refine ρ ?_;refine ld (a1.at (i:=4) rfl) ?_;refine ρ ?_;refine Yb (fun (t:Bool)=>[(28,.bool t),(1,.pointer (some ⟨b,0,none⟩)),(2,.pointer (some ⟨b2,0,none⟩)),(3,.bool false),(4,.pointer (some ⟨J,0,none⟩)),(5,.int .i64 (i:Int))]) (λt w6=>w6=w5/\(t=true↔i<c.vs.length/\i<c.rss.length)) ?_ ?_
 .refine ki 22 (λh=>?_) (λh=>?_)
  .have:=oT h;refine ρ ?_;refine ld (a1.at (i:=5) rfl) ?_;refine ρ ?_;refine Jf (decide ((i:Int)<(c.rss.length:Int))) sB ⟨rfl,?_⟩;rw[decide_eq_true_eq];omega
  have:=oF h;refine ρ ?_;refine Jf false sB ⟨rfl,?_⟩;constructor
  .intro h;cases h
  omega
 rintro t w6 ⟨rfl,ht⟩;refine ρ ?_;refine ci (λh=>?_) (λh=>?_)
 .obtain⟨lv,lr⟩:=ht.1 h;clear h;obtain⟨vu,bq,ax⟩:=d1 i lv;obtain⟨ru,cy,bd⟩:=d3 i lr;obtain⟨QA,qc,rfl,di,dj⟩:=id ax;have dh:=hF.v8 i lv;replace ax:=ax.v om
  have G:Ext w6 w6.drew:=(Ext.refl w6).drew;have O:=au.trans G;have ck:=a1.ext G;have ca:=bm.ext O;have cd:=d4.ext O;obtain⟨TA,tc,rfl,_⟩:=id (bd.ext O).form;have az:(c.rss.getD i []).length<=1000000:=nL (hF.row i lr) (by decide);refine ρ ?_;refine drH (λi=>Nat.ble 16 i) ?_;refine Vd (fuel':=7) 8 [(0,0),(0,1),(0,2),(0,3),(0,4),(0,5),(0,6),(0,7),(0,8),(0,9),(0,10)] (lst 18 11) kr kr rfl ?_;refine ρd ?_;refine dld (ck.at (i:=4) rfl) ?_;refine ρd ?_;refine dix i ca lv ?_;refine ρd ?_;refine dld (ca.cell bq) ?_;refine ρd ?_;refine dld (ck.at (i:=5) rfl) ?_;refine ρd ?_;refine dix i cd lr ?_;refine ρd ?_;refine dld (cd.cell cy) ?_;refine ρd ?_;refine Zb ?_;refine hcut 2 (lst 18 16) (fun (q:Value×Int×Nat)=>[(44,q.1),(45,.int .i64 q.2.1),(6,.pointer (some ⟨q.2.2,0,none⟩)),(1,.pointer (some ⟨b,0,none⟩)),(2,.pointer (some ⟨b2,0,none⟩)),(3,.bool false),(4,.pointer (some ⟨J,0,none⟩)),(5,.int .i64 (i:Int))])
   (λq W=>Ext w6.drew W/\Blk W q.2.2 80 [.int .i64 0,.slice none 0 0]/\w6.drew.heap.size<=q.2.2/\(∃ z B m d,q.1=.agg #[.int .i64 z,.slice B m d])/\((c.vs.getD i []).length<=32->(∀ r∈c.rss.getD i [],r.length=(c.vs.getD i []).length/\r.all Xa=true)->(c.rss.getD i []).length<=65536->q.2.1=0) /\
    (q.2.1=0->(c.vs.getD i []).length<=32/\(∀ r∈c.rss.getD i [],r.length=(c.vs.getD i []).length/\r.all Xa=true)/\∃ m,Off (λk=>k<w6.drew.heap.size∨k=q.2.2) W (λu=>RelV u q.1 (c.vs.getD i []).length m)/\m.length<=65536/\(∀ x∈m,x∈c.rss.getD i [])/\(((c.rss.getD i []).length<=12∨Srt [] (c.rss.getD i []))->Vn [] (c.rss.getD i []) m))) ?_ ?_
  .rintro⟨rv,e,b6⟩ W ⟨cu,cn,c2,⟨z,B,mm,dd,cq⟩,U,Z⟩;simp only at cn c2 U Z cq;subst cq;refine Vd (fuel':=0) 8 [(2,16),(2,17)] (lst 18 18) kr kr rfl ?_;refine Jy ?_;refine stb (cs':=[.int .i64 z,.slice B mm dd]) cn ?_ Ye;intro W2 cm bw bp;refine Jp (Qz ?_);refine Jy ?_;refine ρ ?_;refine Qz ?_;refine Jzd (Zb ?_);refine Xm kr ?_;have D:Ext w6 W2:=bp w6 (G.trans cu) (nL G.size c2);have bi:GrN (λk=>k=b6) W W2:=GrN.by bw λk y=>by injection y with y;exact y.symm
   have ba:=am.ext D;refine ρ ?_;refine ci (λh=>?_) (λh=>?_)
   .refine ρ ?_;refine ldW ba ?_;obtain⟨AA,ac,aq,_,_⟩:=aj.form;subst aq;refine ρ ?_;refine stW (ao.ext D) ?_;intro W3 bn c0 ad;have bc:Ext w W3:=ad w (au.trans D) (nL aa.size bl);refine ρ ?_;exact Zc bn ⟨bc,dA,pA,AA,dc,pc,ac,ats.length,false,rfl,hD,hP,λh=>(by cases h),λhS=>absurd (U (hS.l32 i lv) (hS.ok i lv) (hS.row i lv)) (Kt h)⟩
   have he:e=0:=Ka h;clear h;obtain⟨br,bs,m,bt,d0,bg,bh⟩:=Z he;have bf:=bt.gr (bi.mono λk _ y=>(.inr y:k<w6.drew.heap.size∨k=b6));obtain⟨AA,ac,aq,c8,a4⟩:=aj.form;subst aq;have ag:∀ g,(Value.slice AA ats.length ac).ownBlock=some g->w4.heap.size<=g:=λg e=>(a4 g e).1;have a3:Ext W2 W2.drew:=(Ext.refl W2).drew;have b9:=ba.ext a3;have ch:=(aj.ext D).ext a3;have af:Ext w W2.drew:=(au.trans D).trans a3;have d6:=(a1.ext D).ext a3;have co:=cm.ext a3;obtain⟨de,_,cz,_⟩:=id ch;have n4:¬ (Value.slice AA ats.length ac).ownBlock=some J:=λe=>by have:=ag J e;have:=a8.lt;omega
   have n1:¬ (Value.slice AA ats.length ac).ownBlock=some b:=λe=>by have:=ag b e;have:=bb.lt;omega
   have n6:¬ (Value.slice AA ats.length ac).ownBlock=some b6:=λe=>by have:=(a4 b6 e).2;have:=G.size;omega
   have d5:∀ {W'},GrN (λk=>(Value.slice AA ats.length ac).ownBlock=some k) W2.drew W'->Ext w W':=λhg=>hg.old af λk y=>by have:=ag k y;have:=a2.size;omega
   refine ρ ?_;refine drN (λk=>(Value.slice AA ats.length ac).ownBlock=some k) 10 [(0,0),(0,1),(0,2),(0,3),(0,4),(0,5),(0,6),(0,7),(0,8),(1,9),(1,10),(0,11),(2,12)] kr ?_;refine ρn ?_;refine nld (Ks (b9.at (i:=4) rfl) n4) ?_;refine ρn ?_;refine nld (Ks (d6.at (i:=4) rfl) n1) ?_;refine ρn ?_;refine nix i (bm.ext af) lv ?_;refine ρn ?_;refine nld (λw' hg=>(bm.ext (d5 hg)).cell bq) ?_;refine ρn ?_;refine Jxl (cs:=[.int .i64 z,.slice B mm dd]) (λw' hg j u hu=>(Qs co hg n6).at hu) ?_;refine ρn ?_;refine nbld (λw=>Qpk _ _ _ _ _ _ _ w) ?_;refine ρn ?_;refine nop ?_;refine bsl (λw=>Qnp _ _ _ QA B _ qc _ dd _ rfl rfl rfl w) ?_;intro W3 b8 a5 dw d7;refine ρ ?_;refine Vb (GrN.ext a5) ?_;refine nop ?_;have be:=(bf.ext a3).ext a5;have hΦ:Off (λk=>((k=b2∨k=J)∨(w0.heap.size<=k/\k<w.heap.size))∨(Value.slice AA ats.length ac).ownBlock=some k) W3 (λu=>AtG u [.slice QA (c.vs.getD i []).length qc,.int .i64 z,.slice B mm dd] ⟨c.vs.getD i [],(c.vs.getD i []).length,m⟩):=by
    intro W' c1;have h1:IntsV W' (.slice QA (c.vs.getD i []).length qc) (c.vs.getD i []):=ax.ext (c1.old (h00.trans (af.trans a5)) λk y=>by
     rcases y with((y|y)|y)|y
     .rw[y];exact nL (h00.trans aa).size bl
     .rw[y];exact nL (h00.trans (aa.trans aw)).size c4
     .exact y.1
     have:=ag k y;have:=(h00.trans a2).size;omega)
    obtain⟨db,er,h2⟩:=be W' (c1.mono λk _ y=>.inl (by
     rcases y with((y|y)|y)|y
     .have:=ao.lt;have:=G.size;omega
     .have:=am.lt;have:=G.size;omega
     .have:=O.size;omega
     have:=(a4 k y).2;have:=G.size;omega))
    have bo:=congrArg (λv:Value=>match v with | .agg xs=>xs.toList|_=>[]) er;simp only[List.cons.injEq,Value.int.injEq,true_and,and_true]at bo;refine⟨(.slice QA (c.vs.getD i []).length qc,.int .i64 z,.slice B mm dd),rfl,h1,?_,?_⟩
    .simp only;rw[bo.1]
    simp only;rw[bo.2];exact h2
   refine apM EA (Φ:=AtG) (ch.ext a5) d7 rfl (one3 rfl) hΦ om om (nL ah.size (nL (D.trans a3).size a5.size)) ?_;intro a7 W4 cj bz dk;refine ρ ?_;refine Vb (GrN.by bz λk y=>y) ?_;have b1:GrN (λk=>(Value.slice AA ats.length ac).ownBlock=some k) W3 W4:=GrN.by bz λk y=>y
   have ak:=Qs (b9.ext a5) b1 n4;obtain⟨A9,c9,d9,du,c6⟩:=cj.form;refine ρn ?_;refine Jjf ?_;refine sto (ak.at (i:=4) rfl) (ak.frozen 4) ?_ (hv:=by rw[d9];rfl);have ai:GrN (λk=>k=J) W4 (W4.setCell ((⟨J,0,none⟩:Addr).add 4) a7):=GrN.set _ rfl;have b7:Blk (W4.setCell ((⟨J,0,none⟩:Addr).add 4) a7) J 35 [.int .i64 c.n,.int .i64 c.f,.slice dA c.ds.length dc,.slice pA c.pm.length pc,a7]:=ak.set 4 _;have b5:OwnM 82 3 AtG (λk=>(k=b2∨k=J)∨(w0.heap.size<=k/\k<w.heap.size)) (W4.setCell ((⟨J,0,none⟩:Addr).add 4) a7) w4.heap.size a7 (ats++[⟨c.vs.getD i [],(c.vs.getD i []).length,m⟩]):=cj.gr (ai.mono λk _ h=>.inl (.inr h)) λg eg e=>by have:=(c6 g eg).1;have:=a8.lt;have:=ap.lt;have:=a2.size;rcases e with(e|e)|e<;>omega
   generalize (W4.setCell ((⟨J,0,none⟩:Addr).add 4) a7)=W5 at ai b7 b5
   have hgt:GrN (λk=>k=J) w4 W5:=by
    have h1:GrN (λk=>k=J∨w4.heap.size<=k) w4 W5:=(((ah.mono λk _ h=>(.inl h:k=J∨w4.heap.size<=k)).trans (GrN.ext ((D.trans a3).trans a5))).trans (b1.mono λk _ h=>.inr (ag k h))).trans (ai.mono λk _ h=>.inl h);exact h1.mono λk y h=>h.elim id λh'=>by omega
   refine Jp (Jjd ?_);refine ρn ?_;refine ρ ?_;refine Js (i+1) a7 sO ⟨om,om,hgt,b7,_,by rw[List.length_append,c7];rfl,b5,λj hj=>?_⟩ om;by_cases ej:j=i
   .subst ej;have:(ats++[(⟨c.vs.getD j [],(c.vs.getD j []).length,m⟩:Atm)]).getD j a0=⟨c.vs.getD j [],(c.vs.getD j []).length,m⟩:=by simp[List.getD,<-c7]
    rw[this];exact⟨rfl,rfl,br,bs,d0,bg,λh=>bh (.inl h)⟩
   have:(ats++[(⟨c.vs.getD i [],(c.vs.getD i []).length,m⟩:Atm)]).getD j a0=ats.getD j a0:=by simp[List.getD,List.getElem?_append_left (show j<ats.length by omega)]
   rw[this];exact hmk j om
  intro rest;refine htwo 11 15 kr rfl rfl rfl ?_ ?_
  .refine ρ ?_;refine cl (Jmc (ar:=(c.vs.getD i []).length) (bd.ext O) az) ?_;rintro u W ⟨hy,rv,e,rfl,a6,U,Z⟩;refine Jp (Jpv hy ?_);refine Vd (fuel':=4) 8 [(0,12),(0,13)] (lst 18 14) kr kr rfl ?_;refine ρd ?_;refine Zb ?_;refine hpur (fuel':=3) 14 kr kr rfl rfl ?_;refine ρp ?_;refine ρd ?_;refine Zb ?_;refine Vd (fuel':=2) 8 [(1,15)] (lst 18 16) kr kr rfl ?_;refine dalc' (cs:=[.int .i64 0,.slice none 0 0]) Gz ?_;intro W2 b6 a9 bj ay;refine Jzd (Zb ?_);refine rest (rv,e,b6) _ _ ⟨hy.trans a9,ay,Nat.le_trans hy.size bj,a6,U,λhe=>?_⟩ sB;obtain⟨q1,q2,m,q3,q4,q5,q6⟩:=Z he;exact⟨q1,q2,m,(q3.mono λk y h=>h.elim id fun (h:k=b6)=>om).ext a9,q4,q5,q6⟩
  refine ρ ?_;refine alc Gz ?_;intro W b6 hy bj ay;refine Jp (Jpv hy ?_);refine Vd (fuel':=3) 8 [(1,11),(0,12),(0,13)] ((lst 18 14).setIfInBounds 15 true) kr kr rfl ?_;refine ρd ?_;refine dcl (Jmc (ar:=(c.vs.getD i []).length) (bd.ext (O.trans hy)) az) ?_;rintro u W2 ⟨a9,rv,e,rfl,a6,U,Z⟩;refine⟨a9,?_⟩;refine ρd ?_;refine Zb ?_;refine hpur (fuel':=2) 14 kr kr rfl rfl ?_;refine ρp ?_;refine ρd ?_;refine Zb ?_;refine Uj (listed':=lst 18 16) kr ?_;refine rest (rv,e,b6) _ _ ⟨hy.trans a9,ay.ext a9,bj,a6,U,λhe=>?_⟩ sB;obtain⟨q1,q2,m,q3,q4,q5,q6⟩:=Z he;refine⟨q1,q2,m,q3.mono λk y h=>?_,q4,q5,q6⟩;have:=ay.lt;have:=hy.size;rcases h with h|(h:k=b6)<;>omega
 have dt:¬ (i<c.vs.length/\i<c.rss.length):=λh'=>by have:=ht.2 h';rw[h]at this;cases this
 clear h ht;obtain⟨AA,ac,aq,c8,a4⟩:=aj.form;subst aq;have G:Ext w6 w6.drew:=(Ext.refl w6).drew;refine ρ ?_;have n2:¬ b=b2:=λe=>by have:=hB.lt;omega
 refine drN (λk=>k=b2) 10 [(0,0),(0,1),(0,2),(0,3),(0,4),(0,5),(0,6),(0,7),(1,8),(0,9)] kr ?_;refine ρn ?_;refine Jxl (cs:=[.int .i64 c.n,.int .i64 c.f,.slice dA c.ds.length dc,.slice pA c.pm.length pc,.slice AA ats.length ac]) (λw' hg j u hu=>(Qs (am.ext G) hg (λe=>b3 e.symm)).at hu) ?_;refine ρn ?_;refine nld (Ks ((a1.ext G).at (i:=4) rfl) n2) ?_;refine ρn ?_;refine nld (Ks ((a1.ext G).at (i:=5) rfl) n2) ?_;refine ρn ?_;refine nop ?_;refine stW (ao.ext G) ?_;intro W3 bn c0 ad;have bc:Ext w W3:=ad w (au.trans G) (nL aa.size bl);have bu:GrN (λk=>k=b2) w6.drew W3:=GrN.by c0 λk y=>by injection y with y;exact y.symm
 refine Jp (Vb bu ?_);refine ρn ?_;refine ρ ?_;refine Zc bn ⟨bc,dA,pA,AA,dc,pc,ac,ats.length,((c.vs.length:Int) == (c.rss.length:Int)),rfl,hD,hP,λh=>?_,λhS=>by rw[hS.len];exact beq_self_eq_true _⟩;have he:c.vs.length=c.rss.length:=by have:=Gp h;omega
 have dn:i=c.vs.length:=om
 refine⟨he,ats,om,?_,λj hj=>hmk j om⟩;have cg:∀ g,(Value.slice AA ats.length ac).ownBlock=some g->¬ ((g=b2∨g=J)∨(w0.heap.size<=g/\g<w.heap.size)):=λg eg e=>by have:=(a4 g eg).1;have:=a8.lt;have:=ap.lt;have:=a2.size;rcases e with(e|e)|e<;>omega
 intro W hW;exact(((aj.ext G).gr (bu.mono λk _ h=>.inl (.inl h)) cg).gr (hW.mono λk _ h=>.inr h) cg).gv om
open Go.RowKit Pl Go.Wk
variable {c:Cse}{cs:List Value}{w w0:World}
def MkR(w:World)(c:Cse)(u:Value)(P:Prop): Prop:=∃(dA pA aA:Option Addr) (dc pc ac an:Nat) (ok:Bool),u=.tuple #[.agg #[.int .i64 c.n,.int .i64 c.f,.slice dA c.ds.length dc,.slice pA c.pm.length pc,.slice aA an ac],.bool ok] /\
 BoolsV w (.slice dA c.ds.length dc) c.ds/\IntsV w (.slice pA c.pm.length pc) c.pm/\(ok=true->c.vs.length=c.rss.length/\∃ ats:List Atm,ats.length=c.vs.length/\GV 3 AtG w (.slice aA an ac) ats/\(∀ i,i<c.vs.length->MkA (ats.getD i a0) (c.vs.getD i []) (c.rss.getD i []))/\(P->Yl ⟨c.n,c.f,c.ds,c.pm,ats⟩))/\(MkS c->(∀ ats:List Atm,ats.length=c.vs.length->(∀ i,i<c.vs.length->MkA (ats.getD i a0) (c.vs.getD i []) (c.rss.getD i []))->Yl ⟨c.n,c.f,c.ds,c.pm,ats⟩)->ok=true)
def MkO(w0:World)(N:Nat->Prop)(w:World)(c:Cse)(u:Value)(P:Prop): Prop:=∃(dA pA aA:Option Addr) (dc pc ac an:Nat) (ok:Bool),u=.tuple #[.agg #[.int .i64 c.n,.int .i64 c.f,.slice dA c.ds.length dc,.slice pA c.pm.length pc,.slice aA an ac],.bool ok] /\
 BoolsV w0 (.slice dA c.ds.length dc) c.ds/\IntsV w0 (.slice pA c.pm.length pc) c.pm/\(ok=true->c.vs.length=c.rss.length/\∃ ats:List Atm,ats.length=c.vs.length/\Off N w (λu=>GV 3 AtG u (.slice aA an ac) ats)/\(∀ i,i<c.vs.length->MkA (ats.getD i a0) (c.vs.getD i []) (c.rss.getD i []))/\(P->Yl ⟨c.n,c.f,c.ds,c.pm,ats⟩))/\(MkS c->(∀ ats:List Atm,ats.length=c.vs.length->(∀ i,i<c.vs.length->MkA (ats.getD i a0) (c.vs.getD i []) (c.rss.getD i []))->Yl ⟨c.n,c.f,c.ds,c.pm,ats⟩)->ok=true)
theorem Qxx(h:CseV w0 cs c)(hF:FewP c)(h00:Ext w0 w): Ret Tryz.prog 28 [.agg cs.toArray] w λu w'=>Ext w w'/\MkO w0 (λk=>w0.heap.size<=k/\k<w.heap.size) w' c u True:=by
 obtain⟨b6,b5,b1,az,vA,vc,rA,rc,ay,_,_,_,_,hn,hf⟩:=id h;subst ay;refine Jz Tryz.func28 Tryz.ntmps28 rfl kr rfl ?_;refine ρ ?_;refine bx ?_;intro w1 b G hb hB;refine ρ ?_;refine alc Ib ?_;intro w2 b2 Z ae a8;have aw:=hB.ext Z;refine ρ ?_;refine ldW aw ?_;refine ρ ?_;refine cl (Jpd h hF (h00.trans (G.trans Z))) ?_;rintro u w3 ⟨a4,dA,pA,aA,dc,pc,ac,an,ok,rfl,hD,hP,ap,aa⟩;refine ρ ?_;refine alc Ib ?_;intro w4 b4 aj au av;refine ρ ?_;refine stW av ?_;intro w5 a7 b3 ai;have D:Ext w3 w5:=ai w3 aj au;have a1:=(a8.ext a4).ext D;have a9:=((G.trans Z).trans a4).trans D;refine ρ ?_;have y:Ext w5 w5.drew:=(Ext.refl w5).drew;have a2:¬ b4=b2:=λe=>by have:=a8.lt;have:=a4.size;omega
 have a3:=a9.trans y;have ag:∀ {W:World},GrN (λk=>k=b2) w5.drew W->Ext w W:=λhg=>hg.old a3 λk B=>by rw[B];exact nL G.size ae
 have ar:=a8.lt;cases ok with
 | true=>
  obtain⟨ad,ats,af,ab,hmk⟩:=ap rfl;have O:=(ab.ext D).ext y;have hG:=O.here;obtain⟨ts,A,cc,ax,eA,aq,ak,ao,am⟩:=Jfw hG;refine drN (λk=>k=b2) 10 [(0,0),(0,1),(0,2),(0,3),(1,4),(0,5),(0,6),(1,7),(0,8)] kr ?_;refine ρn ?_;refine Jxl (cs:=[.int .i64 c.n,.int .i64 c.f,.slice dA c.ds.length dc,.slice pA c.pm.length pc,.slice aA an ac]) (λw' hg j u hu=>(Qs (a7.ext y) hg a2).at hu) ?_;refine ρn ?_;refine Jxl (cs:=[.int .i64 c.n,.int .i64 c.f,.slice dA c.ds.length dc,.slice pA c.pm.length pc,.slice aA an ac]) (λw' hg j u hu=>(Qs (a7.ext y) hg a2).at hu) ?_;refine ρn ?_;refine nop ?_;refine cl (Jrf (inp:=⟨c.n,c.f,c.ds,c.pm,ats⟩) ⟨_,rfl,_,_,_,rfl,hD.ext (h00.trans a3),hP.ext (h00.trans a3),⟨ts,A,cc,ax,eA,aq,ak,ao,am⟩⟩ hn hf) ?_;rintro u w6 ⟨U,e,rfl,he⟩;refine ρ ?_;refine Vb (GrN.ext U) ?_;refine ρn ?_;refine nop ?_;refine stW ((a1.ext y).ext U) ?_;intro w7 a6 hg7 ah
  have i:GrN (λk=>k=b2) w6 w7:=GrN.by hg7 λk B=>by injection B with B;exact B.symm
  refine Jp (Vb i ?_);have J:=ag ((GrN.ext U).trans i);refine ρn ?_;refine ρ ?_;refine Zc a6 ⟨J,dA,pA,aA,dc,pc,ac,an,_,rfl,hD,hP,λh=>⟨ad,ats,af,?_,hmk,λ_=>he.1 (Gp h)⟩,λ_ hC=>?_⟩;rotate_left
  .have:=he.2 (hC ats af hmk);rw[this];rfl
  have a5:=(O.ext U).gr (i.mono λk _ B=>by rw[B];exact⟨nL (h00.trans G).size ae,ar⟩);exactλW hW=>a5 W (hW.mono λk _ B=>⟨B.1,Nat.lt_of_lt_of_le B.2 (G.trans Z).size⟩)
 | false=>
  refine drN (λk=>k=b2) 10 [(0,0),(0,1),(0,2),(0,3),(1,4),(0,5),(0,6),(1,7),(0,8)] kr ?_;refine ρn ?_;refine Jxl (cs:=[.int .i64 c.n,.int .i64 c.f,.slice dA c.ds.length dc,.slice pA c.pm.length pc,.slice aA an ac]) (λw' hg j u hu=>(Qs (a7.ext y) hg a2).at hu) ?_;refine ρn ?_;refine nop ?_;refine stW (a1.ext y) ?_;intro w7 a6 hg7 ah;have i:GrN (λk=>k=b2) w5.drew w7:=GrN.by hg7 λk B=>by injection B with B;exact B.symm
  refine Jp (Vb i ?_);have J:=ag i;refine ρn ?_;refine ρ ?_;exact Zc a6 ⟨J,dA,pA,aA,dc,pc,ac,an,false,rfl,hD,hP,λh=>(by cases h),λhS _=>aa hS⟩
theorem Qdx(h:CseV w cs c)(hF:FewP c): Ret Tryz.prog 28 [.agg cs.toArray] w λu w'=>Ext w w'/\MkR w' c u True:=(Qxx h hF (Ext.refl w)).mono λu w' ⟨i,dA,y,aA,dc,j,ac,an,B,e,h1,h2,Z,U⟩=>⟨i,dA,y,aA,dc,j,ac,an,B,e,h1.ext i,h2.ext i,λh=>by
 obtain⟨O,ats,J,G,D⟩:=Z h;exact⟨O,ats,J,G.here,D⟩,U⟩
end Go.Proofs.YtebiphhfkdbpfaaGreatDoor
namespace Go.Proofs.YtebiphhfkdbpfaaGreatDoor
open Pl Go.Wk Bl Nw
variable {ds:List Bool}{l:List Int}{ord sizes:List Nat}{col i n u v:Nat}{pf pf' pf0:Nat->Int}{g g' kf' kf0:Nat->Nat}
theorem Jxk{α:Type}: ∀ {l m:List α},l.Nodup->(∀ x∈l,x∈m)->l.length<=m.length
 | [],_,_,_=>Nat.zero_le _
 | x::l,m,hn,hs=>by
  obtain⟨a,b,rfl⟩:=List.append_of_mem (hs x mC);have hn':=List.nodup_cons.1 hn;have:=Jxk (l:=l) (m:=a++b) hn'.2 λy hy=>by grind
  grind
theorem Jpk{l:List Row}(h:Lt ds l): l.Nodup:=h.imp fun {a b} hab e=>by grind [Ik]
def toN(l:List Int): List Nat:=l.map Int.toNat
theorem Jwd(h:∀ v∈l,0<=v): nz (toN l)=l:=by
 unfold nz toN;rw[List.map_map];conv=>rhs;rw[<-List.map_id l]
 grind [List.map_congr_left]
theorem Jyp(h:∀ v∈l,0<=v): u∈toN l↔(u:Int)∈l:=by grind [Jwd,nz]
theorem Qrb{l:List Nat}(h:Iv (nz l)): Gx l:=by
 unfold Gx;rw[List.pairwise_iff_getElem];intro i j hi y B;have step:∀ k,0<k->k<l.length->l.getD (k-1) 0<l.getD k 0:=λk h0 u=>by
  have:=h k h0 (by rw[Jbx];exact u);grind [Qcj]
 have key:∀ d,i+1+d<l.length->l.getD i 0<l.getD (i+1+d) 0:=by
  intro d;induction d with
  | zero=>intro D;have:=step (i+1) om D;simpa using this
  | succ d ih=>
   grind
 have:=key (j-(i+1)) om;rw[show i+1+(j-(i+1))=j by omega,Xv 0 _ hi,Xv 0 _ y]at this;exact this
structure CseOk(c:Cse)(ats:List Atm): Prop where
 few:FewP c
 len:c.vs.length=c.rss.length
 al:ats.length=c.vs.length
 mka:∀ i,i<c.vs.length->MkA (ats.getD i a0) (c.vs.getD i []) (c.rss.getD i [])
 chk:Yl ⟨c.n,c.f,c.ds,c.pm,ats⟩
def Cse.N(c:Cse): Nat:=c.n.toNat
def Cse.F(c:Cse): Nat:=c.f.toNat
def Cse.m(c:Cse): Nat:=c.vs.length
def Cse.vars(c:Cse)(i:Nat): List Nat:=toN (c.vs.getD i [])
def Cse.crs(c:Cse)(i:Nat): List Row:=c.rss.getD i []
def rsA(ats:List Atm)(i:Nat): List Row:=(ats.getD i a0).rows
section
variable {c:Cse} {ats:List Atm}
theorem CseOk.nN(h:CseOk c ats): c.n=(c.N:Int)/\c.N<=6:=by
 have u:=h.chk.1;have j:=h.chk.2.1;have i:=h.few.n6;grind [Cse.N]
theorem CseOk.fF(h:CseOk c ats): c.f=(c.F:Int)/\c.F<=c.N:=by
 obtain⟨u,_,j,i,_⟩:=h.chk;grind [Cse.F,Cse.N]
theorem CseOk.at_(h:CseOk c ats)(hi:i<c.m): Uw c.n (ats.getD i a0):=by
 obtain⟨_,_,_,_,_,_,_,_,_,_,_,j,_⟩:=h.chk;exact j _ (getD_mem' a0 _ (by rw[h.al];exact hi))
theorem CseOk.vars(h:CseOk c ats){i:Nat}(hi:i<c.m): nz (c.vars i)=c.vs.getD i []/\Gx (c.vars i)/\(∀ v∈c.vars i,v<c.N)/\(c.vars i).length=(c.vs.getD i []).length:=by
 obtain⟨B,u,D⟩:=h.at_ hi;have y:=(h.mka i hi).vars;rw[y]at B u;have h0:∀ v∈c.vs.getD i [],0<=v:=λv j=>(u v j).1;refine⟨Jwd h0,Qrb (by grind [Cse.vars,Jwd]),λv j=>?_,by simp[Cse.vars,toN]⟩;have:=(u v ((Jyp h0).1 j)).2;have:=h.nN.1;omega
theorem CseOk.cov(h:CseOk c ats)(hv:v<c.N): ∃ i,i<c.m/\v∈c.vars i:=by
 obtain⟨_,_,_,_,_,_,_,_,_,_,_,_,O⟩:=h.chk;obtain⟨a,J,y⟩:=O v (by have:=h.nN.1;simp only;omega);obtain⟨i,hi,e⟩:=List.getElem_of_mem J;have j:i<c.m:=by have:=h.al;grind [Cse.m]
 have D:ats.getD i a0=a:=by grind
 have B:=(h.mka i j).vars;rw[D]at B;refine⟨i,j,(Jyp λu G=>?_).2 (B ▸ y)⟩;have:=(h.at_ j).2.1 u (by rw[D,B];exact G);exact this.1
theorem CseOk.set(h:CseOk c ats){i:Nat}(hi:i<c.m): Vn [] (c.crs i) (rsA ats i):=(h.mka i hi).set (by have:=h.few.row i (by rw[<-h.len];exact hi);grind)
theorem CseOk.clen(h:CseOk c ats)(hi:i<c.m): ∀ r∈c.crs i,r.length=(c.vars i).length:=λr j=>by rw[(h.vars hi).2.2.2];exact((h.mka i hi).ok r j).1
theorem CseOk.slen(h:CseOk c ats)(hi:i<c.m): ∀ r∈rsA ats i,r.length=(c.vars i).length:=λr j=>h.clen hi r (((h.set hi).2 r).1 j)
theorem Qyd(h:∀ c,c<n->g c<=g' c): Xb n g<=Xb n g':=by
 induction n with
 | zero=>exact Nat.le_refl _
 | succ n ih=>rw[Xb,Xb];exact Nat.mul_le_mul (ih λc i=>h c om) (h n om)
theorem CseOk.cnt(h:CseOk c ats): max 1 (Xb c.m λi=>(c.crs i).length)<=5000:=by
 have j:=h.few.cnt;rw[<-h.len]at j;have u:Xb c.m (λi=>(c.crs i).length)<=Xb c.vs.length λi=>max 1 (c.rss.getD i []).length:=Qyd λi _=>Nat.le_max_right _ _;omega
theorem Qkz{ls m:List Row}(h:Vn ds ls m): m.length<=ls.length:=Jxk (Jpk h.1) λx i=>(h.2 x).1 i
theorem CseOk.pm(h:CseOk c ats): PermOk c.N c.F (toN c.pm)/\nz (toN c.pm)=c.pm:=by
 obtain⟨_,_,_,_,_,u,j,i,_⟩:=h.chk;simp only at u j i;have hn:=h.nN.1;have B:=h.fF.1;have h0:∀ v∈c.pm,0<=v:=by grind
 refine⟨⟨h.fF.2,by simp[toN];omega,λv y=>?_,?_⟩,Jwd h0⟩;repeat grind [Jyp,toN,List.Nodup,List.Pairwise.imp_of_mem]
theorem CseOk.run(h:CseOk c ats){ts:List TA}(hts:ats=ts.map (·.2)): RunOk c.N ts c.vars (rsA ats):=by
 have O:=h.nN.2;have j:ts.length=c.m:=by have:=h.al;rw[hts,List.length_map]at this;exact this
 refine⟨om,by have:=h.few.v5;grind [Cse.m],λi hi=>?_,λi hi=>(h.vars (j ▸ hi)).2.1,λi hi=>(h.vars (j ▸ hi)).2.2.1,λv G=>by rw[j];exact h.cov G,λi hi=>(h.set (j ▸ hi)).1,λi hi=>h.slen (j ▸ hi),λi hi=>(h.mka i (show i<c.m from j ▸ hi)).len⟩;have u:i<c.m:=j ▸ hi;have e:(ts.getD i ta0).2=ats.getD i a0:=by grind
 have y:=h.mka i u;obtain⟨D,_,_,B⟩:=h.vars u;rw[e];have J:ats.getD i a0=⟨(ats.getD i a0).vars,(ats.getD i a0).ar,(ats.getD i a0).rows⟩:=rfl;rw[J,y.vars,y.ar,D,B];rfl
def Cse.vss(c:Cse): List (List Nat):=(List.range c.m).map c.vars
def Cse.es(c:Cse): List Nat:=c.vss.map Xx
def szA(ats:List Atm): List Nat:=ats.map λa=>a.rows.length
theorem Cse.esl(c:Cse): c.es.length=c.m:=by simp[Cse.es,Cse.vss]
theorem Cse.esg{c:Cse}(hi:i<c.m): c.es.getD i 0=Xx (c.vars i):=by
 simp[Cse.es,Cse.vss,List.getD,hi]
theorem CseOk.elt(h:CseOk c ats): ∀ e∈c.es,e<2^c.N:=λe u=>by
 obtain⟨vs,j,rfl⟩:=List.mem_map.1 u;obtain⟨i,hi,rfl⟩:=List.mem_map.1 j;exact Jvh (h.vars (List.mem_range.1 hi)).2.2.1
theorem CseOk.bagset(h:CseOk c ats){kf:Nat->Nat}(hb:Vo c.N c.es (Zv (toN c.pm) c.F) kf pf)(hv:v<c.N): kf v ||| 2^v<2^c.N/\kf v ||| 2^v≠0/\(kf v ||| 2^v).testBit v=true:=by
 have j:(kf v ||| 2^v).testBit v=true:=by rw[Nat.testBit_or,Nat.testBit_two_pow];simp
 refine⟨?_,λe=>by rw[e]at j;simp at j,j⟩;refine Nat.lt_pow_two_of_testBit _ λi hi=>?_;cases hbt:(kf v ||| 2^v).testBit i with
 | false=>rfl
 | true=>
  rw[Nat.testBit_or,Nat.testBit_two_pow,Bool.or_eq_true,decide_eq_true_eq]at hbt;rcases hbt with hbt|hbt
  .rw[(hb v hv).2.1]at hbt;have:=Jcx (nb:=nb0 c.N c.es) (ord:=Zv (toN c.pm) c.F) (N:=c.N) (λa b u=>(Jxn h.elt u).2.1) hbt;omega
  omega
theorem CseOk.covd(h:CseOk c ats)(set:Nat): Ub c.N c.es set:=λv j _=>by
 obtain⟨i,hi,u⟩:=h.cov j;exact⟨i,by rw[Cse.esl];exact hi,by rw[Cse.esg hi];exact edgeOf_bit.2 u⟩
theorem CseOk.five(h:CseOk c ats): c.es.length<=5:=by rw[Cse.esl];exact h.few.v5
theorem CseOk.row10(h:CseOk c ats)(hi:i<c.m): (rsA ats i).length<=10 :=
 nL (Qkz (h.set hi)) (h.few.row i (by rw[<-h.len];exact hi))
theorem CseOk.szl(h:CseOk c ats): (szA ats).length=c.es.length:=by rw[Cse.esl,szA,List.length_map,h.al];rfl
theorem CseOk.szg(h:CseOk c ats)(hi:i<c.m): (szA ats).getD i 0=(rsA ats i).length:=by
 have:i<ats.length:=by rw[h.al];exact hi
 simp[szA,rsA,List.getD,this]
theorem CseOk.szs(h:CseOk c ats): ∀ s∈szA ats,s<2048:=λs u=>by
 obtain⟨i,hi,rfl⟩:=List.getElem_of_mem u;have j:i<c.m:=by rw[h.szl,Cse.esl]at hi;exact hi
 have:=h.row10 j;rw[<-h.szg j,Ja 0 hi]at this;omega
theorem Jpn{f:Nat->Nat}: ∀ {l:List Nat},l≠[]->∃ p∈l,∀ x∈l,f p<=f x
 | [a],_=>⟨a,by simp,by simp⟩
 | a::b::l,_=>by
  obtain⟨p,hp,h⟩:=Jpn (f:=f) (l:=b::l) (by simp);rcases Nat.lt_or_ge (f a) (f p) with h1|h1
  .refine⟨a,by simp,λx hx=>?_⟩;rcases List.mem_cons.1 hx with rfl|hx
   .exact Nat.le_refl _
   have:=h x hx;omega
  refine⟨p,by simp[hp],λx hx=>?_⟩;rcases List.mem_cons.1 hx with rfl|hx
  .exact h1
  exact h x hx
theorem Qpv{es:List Nat}(hn:n<=32)(he:∀ e∈es,e<2^n): ∃ kf pf,Vo n es ord kf pf:=by
 have B:∀ v x,Zy (nb0 n es) ord v x=true->x<n:=λv x h=>Jcx (nb:=nb0 n es) (ord:=ord) (N:=n) (λa b u=>(Jxn he u).2.1) h;let F:Nat->List Nat:=λv=>(List.range n).filter λx=>Zy (nb0 n es) ord v x
 have i:∀ v x,x∈F v↔Zy (nb0 n es) ord v x=true:=λv x=>by
  show x∈(List.range n).filter _↔_;rw[List.mem_filter,List.mem_range];exact⟨λh=>h.2,λh=>⟨B v x h,h⟩⟩
 have y:∀ v,∃ p:Int,(p = -1/\∀ x,Zy (nb0 n es) ord v x=false)∨∃ q:Nat,p=q/\Zy (nb0 n es) ord v q=true/\∀ x,Zy (nb0 n es) ord v x=true->plc ord q<=plc ord x:=λv=>by
  by_cases h0:F v=[]
  .refine⟨-1,.inl ⟨rfl,λx=>Bool.eq_false_iff.2 λh=>?_⟩⟩;have:=(i v x).2 h;rw[h0]at this;cases this
  obtain⟨q,D,h⟩:=Jpn (f:=plc ord) h0;exact⟨q,.inr ⟨q,rfl,(i v q).1 D,λx j=>h x ((i v x).2 j)⟩⟩
 refine⟨λv=>Xx (F v),λv=>Classical.choose (y v),λv G=>⟨?_,λx=>?_,Classical.choose_spec (y v)⟩⟩
 .refine nM (Jvh λx j=>B v x ((i v x).1 j)) ?_;exact Nat.pow_le_pow_right (by decide) hn
 rw[Bool.eq_iff_iff,edgeOf_bit,i]
theorem Qqc{es:List Nat}{kf:Nat->Nat}(h:Vo n es ord kf pf)(h':Vo n es ord kf' pf')(hv:v<n): kf v=kf' v :=
 Nat.eq_of_testBit_eq λx=>by rw[(h v hv).2.1,(h' v hv).2.1]
def Yk(c:Cse)(kf:Nat->Nat)(sizes:List Nat)(v:Nat): Nat:=Kq c.N c.es sizes (kf v ||| 2^v)
theorem CseOk.bagB(h:CseOk c ats)(hdiv:Uy KQ)(hl:sizes.length=c.es.length)(hs:∀ s∈sizes,s<2048){kf:Nat->Nat}(hb:Vo c.N c.es (Zv (toN c.pm) c.F) kf pf)(hv:v<c.N): BagB c.N c.es sizes (kf v ||| 2^v) (Yk c kf sizes v):=by
 obtain⟨j,i,_⟩:=h.bagset hb hv;exact Qpx hdiv h.five hl hs j i (h.covd _)
theorem Qnw{set:Nat}{es:List Nat}(h5:es.length<=5)(hl:sizes.length=es.length)(hs:∀ s∈sizes,s<2048)(hlt:set<2^n)(h0:set≠0)(hc:Ub n es set): Kq n es sizes set<2^KP:=by
 obtain⟨u,B,j,D⟩:=Qjt h5 h0 hlt hc;obtain⟨_,G,_⟩:=D sizes hl;have i:sN es.length (exK u.ws)<=300:=nL (j.tot5 hc) (Nat.mul_le_mul j.d60.2.2 h5);have y:∀ k,sizes.getD k 0<=2048:=λk=>by
  by_cases hk:k<sizes.length
  .rw[Ja 0 hk];exact Nat.le_of_lt (hs _ (List.getElem_mem _))
  rw[List.getD,List.getElem?_eq_none om];exact Nat.zero_le _
 have O:=Nat.lt_of_le_of_lt (Jmr (a:=2048) (n:=es.length) (s:=λk=>sizes.getD k 0) (e:=exK u.ws) λk _ _=>y k) (pw11 i);have J:=Nat.le_self_pow (n:=dnm u.ws) (by have:=j.d60.2.1;omega) (Kq n es sizes set);omega
theorem Jnn(h:n<2^(KP+9)): Nb n:=by
 unfold Nb;refine nM h ?_;rw[show 4294967296=2^32 from rfl,<-Nat.pow_mul];exact Nat.pow_le_pow_right (by decide) (by rw[Jfv];unfold KP;decide)
theorem CseOk.bndV_lt(h:CseOk c ats)(hl:sizes.length=c.es.length)(hs:∀ s∈sizes,s<2048){kf:Nat->Nat}(hb:Vo c.N c.es (Zv (toN c.pm) c.F) kf pf)(hv:v<c.N): Yk c kf sizes v<2^KP:=by
 obtain⟨j,i,_⟩:=h.bagset hb hv;exact Qnw h.five hl hs j i (h.covd _)
open Classical in
noncomputable def Vl (l:List V):List V:=l.foldl (λs v=>if v∈s then s else s++[v]) []
open Classical in
theorem Jdv (l:List V) (v:V):Vl (l++[v])=if v∈Vl l then Vl l else Vl l++[v]:=by
 unfold Vl;rw[List.foldl_append];rfl
theorem Jzc: ∀ l:List V,(Vl l).Nodup/\∀ v,v∈Vl l↔v∈l:=λl=>by
 rw[<-List.reverse_reverse l];induction l.reverse with
 | nil=>exact⟨List.nodup_nil,λv=>Iff.rfl⟩
 | cons a k ih=>
  rw[List.reverse_cons,Jdv];split
  .rename_i hm;refine⟨ih.1,λv=>?_⟩;rw[ih.2 v,List.mem_append,List.mem_singleton];refine⟨λh=>.inl h,λh=>h.elim id λe=>by rw[e];exact(ih.2 a).1 hm⟩
  rename_i hm;refine⟨List.nodup_append.2 ⟨ih.1,by simp,λx j y i e=>?_⟩,λv=>by rw[List.mem_append,List.mem_append,ih.2 v]⟩;rw[List.mem_singleton.1 i]at e;exact hm (e ▸ j)
noncomputable def Kj(l:List V): Nat:=(Vl l).length
theorem Jtw{l m:List V}(hn:m.Nodup)(h:∀ v,v∈m↔v∈l): m.length=Kj l:=by
 obtain⟨u,j⟩:=Jzc l;exact Nat.le_antisymm (Jxk hn λx i=>(j x).2 ((h x).1 i)) (Jxk u λx i=>(h x).2 ((j x).1 i))
theorem Qms{l m:List V}(h:∀ v,v∈l↔v∈m): Kj l=Kj m:=Jtw (Jzc l).1 λv=>((Jzc l).2 v).trans (h v)
noncomputable def dA(x:Nat)(a:Atm): Nat:=Kj (a.rows.map λr=>r.getD (a.vars.idxOf (x:Int)) V0)
theorem Qmr{rows m:List Row}(h:Vn [] (rows.map (pmR [col])) m): m.length=Kj (rows.map λr=>r.getD col V0):=by
 have i:∀ y∈m,∃ r∈rows,y=[r.getD col V0]:=λy j=>by
  obtain⟨r,u,rfl⟩:=List.mem_map.1 ((h.2 y).1 j);exact⟨r,u,rfl⟩
 rw[<-List.length_map (f:=λy:Row=>y.getD 0 V0)];refine Jtw ?_ λv=>?_
 .rw[List.Nodup,List.pairwise_map];refine List.Pairwise.imp_of_mem ?_ (Jpk h.1);intro x y D j B e;obtain⟨r,_,rfl⟩:=i x D;obtain⟨s,_,rfl⟩:=i y j;exact B (by rw[show r.getD col V0=s.getD col V0 from e])
 rw[List.mem_map,List.mem_map];constructor
 .rintro⟨y,j,rfl⟩;obtain⟨r,u,rfl⟩:=i y j;exact⟨r,u,rfl⟩
 rintro⟨r,u,rfl⟩;exact⟨[r.getD col V0],(h.2 _).2 (List.mem_map.2 ⟨r,u,rfl⟩),rfl⟩
theorem CseOk.cntA(h:CseOk c ats)(hi:i<c.m)(x:Nat): CntA (dA x) (x:Int) (ats.getD i a0):=by
 obtain⟨a1,a2,Z⟩:=h.at_ hi;have D:=h.mka i hi;have y:=h.vars hi;refine⟨a1,Z,λr O=>?_,by have:=h.row10 hi;unfold rsA at this;omega,λu m G J j=>?_⟩
 .rw[D.ar,<-y.2.2.2];exact h.slen hi r O
 rw[Qmr j];have B:(ats.getD i a0).vars.Nodup:=by
  have U:(c.vars i).Pairwise (· < ·):=y.2.1
  rw[D.vars,<-y.1,nz,List.Nodup,List.pairwise_map];exact U.imp fun {a b} hab e=>by omega
 have e:(ats.getD i a0).vars.idxOf (x:Int)=u:=by
  rw[<-J,Ja 0 G];exact B.idxOf_getElem u G
 unfold dA;rw[e]
theorem CseOk.costI(h:CseOk c ats)(hdiv:Uy KQ)(hb0:Vo c.N c.es (Zv (toN c.pm) c.F) kf0 pf0): CostI c.N c.F (toN c.pm) c.vss (szA ats) dA (Yk c kf0 (szA ats)) ⟨c.n,c.f,c.ds,c.pm,ats⟩:=by
 have hN:=h.nN;have D:ats.map (·.vars)=c.vss.map nz:=by
  refine List.ext_getElem (by simp[Cse.vss,h.al];rfl) λi Z U=>?_;have hi:i<c.m:=by simpa [Cse.vss] using U
  have O:i<ats.length:=by rw[h.al];exact hi
  simp only[List.getElem_map,Cse.vss,List.getElem_range];rw[(h.vars hi).1,<-(h.mka i hi).vars,Ja a0 O]
 have B:∀ v,v<c.N->Yk c kf0 (szA ats) v<2^KP:=λv u=>h.bndV_lt h.szl h.szs hb0 u;generalize hr:Yk c kf0 (szA ats)=r at *
 have y:∀ i,i<=c.N->((((List.range c.N).map r).take i).foldl (· + ·) 0)<=i*2^KP:=λi=>by
  induction i with
  | zero=>intro _;simp
  | succ i ih=>
   intro hi;have Z:=ih om;have U:=B i om;have e:((List.range c.N).map r).take (i+1)=((List.range c.N).map r).take i++[r i]:=by
    rw[List.take_add_one];simp[show i<c.N by omega]
   rw[e,List.foldl_append,Nat.add_mul];simp only[List.foldl_cons,List.foldl_nil];omega
 have h8:6*2^KP<2^(KP+9):=by
  rw[Nat.pow_add,Nat.mul_comm];exact Nat.mul_lt_mul_of_pos_left (by decide) (Nat.two_pow_pos _)
 have j:∀ i,i<=c.N->Nb ((((List.range c.N).map r).take i).foldl (· + ·) 0):=λi hi=>by
  have Z:=y i hi;have U:=nO (2^KP) (show i<=6 by omega);exact Jnn om
 refine⟨h.chk,hN.1,h.fF.1,h.pm.2.symm,D,rfl,by rw[h.al];exact h.few.v5,h.pm.1,om,λvs J x G=>?_,λx G a ha=>?_,λkf pf hb v u=>?_,?_,j,λx G=>?_⟩
 .obtain⟨i,hi,rfl⟩:=List.mem_map.1 J;exact(h.vars (List.mem_range.1 hi)).2.2.1 x G
 .obtain⟨i,hi,rfl⟩:=List.getElem_of_mem ha;have:=h.cntA (i:=i) (by rw[h.al]at hi;exact hi) x;rwa [Ja a0 hi]at this
 .have e:r v=Yk c kf (szA ats) v:=by rw[<-hr];unfold Yk;rw[Qqc hb0 hb u]
  rw[e];exact h.bagB hdiv h.szl h.szs hb u
 .have:=j c.N (Nat.le_refl _);rwa [List.take_of_length_le (by simp)]at this
 obtain⟨v,u,rfl⟩:=List.mem_map.1 G;have Z:=B v (List.mem_range.1 u);have:2^KP<=2^(KP+9):=Nat.pow_le_pow_right (by decide) om;exact Jnn om
end
end Go.Proofs.YtebiphhfkdbpfaaGreatDoor
namespace Go.Wk
open Go.RowKit
theorem finC4{P:Program}{n:Nat}{al:AL}{w:World}{tt:TT}[h:Tab P tt]{fn:Func}{Φ:Value->World->Prop}{c t t1 t2 t3 b:Nat}{k:TK}{cs:List Value}{x y z:Value}(hb:Blk w b t cs)(hp:Φ (.tuple #[.agg cs.toArray,x,y,z]) w)(hr:fn.results = #[.cell c t,.tmp t1,.tmp t2,.tmp t3]:=by rfl)(ht:tk tt t=some k:=by rfl)(hk:k.desc=.invalid:=by rfl)(hs:k.size=cs.length:=by rfl)(hc:lk al c=some (.pointer (some ⟨b,0,none⟩)):=by rfl)(h1:lk al t1=some x:=by rfl)(h2:lk al t2=some y:=by rfl)(h3:lk al t3=some z:=by rfl):
  QX n (Vx P fn Φ) .ret al w :=
 Jjv (rs:=[.cell c t,.tmp t1,.tmp t2,.tmp t3]) (vs:=[.agg cs.toArray,x,y,z]) hr ⟨⟨_,hc,Kd h.ok ht hk hs (λj u i=>hb.at i)⟩,h1,h2,h3,trivial⟩ rfl hp
end Go.Wk
namespace Go.Proofs.YtebiphhfkdbpfaaGreatDoor
open Go.RowKit Pl Go.Wk Bl Nw
attribute [local irreducible] WC WL QX WD WDB WP WN WG WH
variable {inp:Inp}{vss:List (List Nat)}{es perm sizes:List Nat}{f n:Nat}{w w':World}
structure GraI(n f:Nat)(perm:List Nat)(vss:List (List Nat))(sizes:List Nat)(inp:Inp): Prop where
 en:inp.n=(n:Int)
 ef:inp.free=(f:Int)
 ep:inp.perm=nz perm
 ev:inp.ats.map (·.vars)=vss.map nz
 es:inp.ats.map (λa=>a.rows.length)=sizes
 five:inp.ats.length<=5
 pok:PermOk n f perm
 n32:n<=32
 vlt:∀ vs∈vss,∀ x∈vs,x<n
theorem CostI.gra{d:Nat->Atm->Nat}{r:Nat->Nat}(h:CostI n f perm vss sizes d r inp): GraI n f perm vss sizes inp:=⟨h.en,h.ef,h.ep,h.ev,h.es,h.five,h.pok,h.n32,h.vlt⟩
theorem GrV.off{b t c:Nat}{cs:List Value}{A:Option Addr}(h:GrV w A c n es)(hB:Blk w b t cs)(hcs:∀ u∈cs,∀ x,u≠.int .u32 x)(hg:w.grownBy w' (some b)): GrV w' A c n es:=by
 refine⟨?_,h.cap,h.n32,h.few,h.lt⟩;rcases Nat.eq_zero_or_pos es.length with h0|h0
 .have:es=[]:=List.eq_nil_of_length_eq_zero h0;subst this;exact Rd.nil
 refine Rd.grown h.rd hg λad e i=>?_;subst e;have B:(Uc es)[0]?=some (.int .u32 (es[0]:Int)):=by simp[Uc,h0]
 have y:=h.rd.cell B;have j:ad.block=b:=by injection i with i;exact i.symm
 exact hcs _ (List.mem_of_getElem? (Jvr hB (ad:=adr (some ad) 0) j y)) _ rfl
theorem Qgq{v:Value}(hC:GraI n f perm vss sizes inp)(h:InV w v inp):
  Ret Tryz.prog 19 [v] w λu w'=>∃ GA gc B SA sc kf pf,u=.tuple #[.agg (grC GA gc n (vss.map Xx)).toArray,.slice B n n,.slice SA sizes.length sc,.bool true]/\GrV w' GA gc n (vss.map Xx)/\w'.ownsRow w.heap.size 66 3 (.slice B n n) n (Ql n (Zd kf pf))/\Vo n (vss.map Xx) (Zv perm f) kf pf/\w'.ownsRow w.heap.size 3 1 (.slice SA sizes.length sc) sizes.length (Jb (nz sizes))/\Ext w w':=by
 have d0:=h;obtain⟨cs,rfl,vd,vp,va,rfl,hD,hP,c2⟩:=h;obtain⟨ts,A,c,bf,rfl,da,d9,hR,ck⟩:=id c2;obtain⟨DA,dc,rfl,_⟩:=id hD;obtain⟨PA,pc,rfl,d8,d7,cc⟩:=id hP;have bq:=hC.n32;have de:=hC.pok.fn;have br:inp.ats.length=ts.length:=by rw[bf,List.length_map]
 have az:vss.length=ts.length:=by have:=congrArg List.length hC.ev;simp only[List.length_map]at this;omega
 have ce:sizes.length=ts.length:=by rw[<-hC.es,List.length_map,br]
 have h5:ts.length<=5:=by have:=hC.five;omega
 refine Jz Tryz.func19 Tryz.ntmps19 rfl kr rfl ?_;refine ρ ?_;refine bx ?_;intro w1 b1 bm df cu;refine ρ ?_;refine alc Ic ?_;intro w3 b2 bj cj bd;have ao:=cu.ext bj;have G:=bm.trans bj;have co:OX 22 1 NtC (λq=>w3.heap.size<=q) w3 w3.heap.size (.slice none 0 0) ([]:List (List Nat)):=⟨[],rfl,Zh _ _ _ _,λp hp=>by cases hp⟩;have cm:w3.ownsRow w3.heap.size 3 1 (.slice none 0 0) 0 (Jb (nz [])):=Zh _ _ _ _;refine ρ ?_;refine Xh (fun (k:Nat) (vs vz:Value)=>[(1,.pointer (some ⟨b1,0,none⟩)),(2,.pointer (some ⟨b2,0,none⟩)),(6,vs),(7,vz),(8,.int .i64 (k:Int))])
  (λk vs vz w'=>k<=ts.length/\Ext w3 w'/\OX 22 1 NtC (λq=>w3.heap.size<=q) w' w3.heap.size vs (vss.take k)/\w'.ownsRow w3.heap.size 3 1 vz k (Jb (nz (sizes.take k)))) (λk _ _=>ts.length-k) 0 (.slice none 0 0) (.slice none 0 0) sB
  ⟨Nat.zero_le _,Ext.refl _,by rw[List.take_zero];exact co,by rw[List.take_zero];exact cm⟩ ?_
 rintro k vs vz w6 ⟨hk,O,aa,ae⟩;have a3:=G.trans O;have Z:=ao.ext O;obtain⟨SA,sc,rfl,cb,ay⟩:=aa.form;obtain⟨ZA,zc,rfl,d3,bi⟩:=Jc ae;have bn:(vss.take k).length=k:=by rw[List.length_take];omega
 rw[bn]at aa cb ay ⊢;refine ρ ?_;refine ld (Z.at (i:=4) rfl) ?_;refine ρ ?_;refine ci (λh=>?_) (λh=>?_)
 .have lk:k<ts.length:=by have:=oT h;omega
  clear h;have bh:k<vss.length:=om
  have bg:k<sizes.length:=om
  have hp:=ck _ (Jkb rfl lk);have bs:∀ j u,(ts.getD k ta0).1.cells[j]?=some u->w6.cell? ((adr A (k*3)).add j)=some u:=λj u hu=>Jzm (hR.ext a3) rfl lk hu;have ad:(ts.getD k ta0).2.vars=nz (vss.getD k []):=by
   have e1:(inp.ats.map (·.vars))[k]?=(vss.map nz)[k]?:=by rw[hC.ev]
   rw[bf]at e1;simpa [List.getElem?_eq_getElem lk,List.getElem?_eq_getElem bh,List.getD] using e1
  have b4:(ts.getD k ta0).2.rows.length=sizes.getD k 0:=by
   have e1:(inp.ats.map λa=>a.rows.length)[k]?=sizes[k]?:=by rw[hC.es]
   rw[bf]at e1;simpa [List.getElem?_eq_getElem lk,List.getElem?_eq_getElem bg,List.getD] using e1
  generalize hq:ts.getD k ta0=q at hp bs ad b4
  obtain⟨⟨t1,t2,t3⟩,a⟩:=q;simp only at ad b4;obtain⟨⟨QA,qc,c6,d6,d5,d4⟩,c5,ac⟩:=id hp;simp only at c6 c5;obtain⟨aq,PG,au,dg,c4,_⟩:=id ac;simp only at c4;subst c6;subst c5;subst c4;refine ρ ?_;refine ld (Z.at (i:=4) rfl) ?_;refine ρ ?_;refine ixq 3 k (hR.ext a3) lk ?_;refine ρ ?_;refine ld (bs 0 _ rfl) ?_;refine ρ ?_;refine bsl (Qjn _ _ _) ?_;intro w9 di ax cz c1;have y:=ax;have a5:=O.trans y;have cp:∀ u,Ext w3 u->IntsV u (.slice QA a.vars.length qc) (nz (vss.getD k [])):=λu hu=>by
   have:=(hp.ext (G.trans hu)).1;rw[ad]at this;rwa [ad]
  have ak:=aa.ext NtC.sta y;obtain⟨_,_,bt⟩:=id ak.own;have ai:=Jo ae y;refine ρ ?_;refine apX EIs NtC.sta ak c1 rfl (λu hu=>by rw[List.mem_singleton.1 hu];rfl) ⟨_,rfl,Off.old cp a5 λq hq=>hq⟩ (λg hg=>(ay g hg).1) om (by decide) a5.size ?_;intro c8 a1 ba ah _;have D:Ext w3 a1:=Jt a5 ah λg eg=>(ay g eg).1;have b6:=Qc ai (GrN.by (N:=λq=>(Value.slice SA k sc).ownBlock=some q) ah λq e=>e) λg eg e=>Us bt ai kr e eg;have be:=ao.ext D;have b3:∀ j u,(V3.cells ⟨.slice QA a.vars.length qc,.int .i64 (a.ar:Int),.slice PG aq.length au⟩)[j]?=some u->a1.cell? ((adr A (k*3)).add j)=some u:=λj u hu=>Jzm (hR.ext (G.trans D)) rfl lk (by rw[hq];exact hu);refine ρ ?_;refine ld (be.at (i:=4) rfl) ?_;refine ρ ?_;refine ixq 3 k (hR.ext (G.trans D)) lk ?_;refine ρ ?_;refine lds (cs:=[.int .i64 (a.ar:Int),.slice PG aq.length au]) (λj u hu=>by rw[Jvz];exact b3 (1+j) u (by rw[Nat.add_comm];exact hu)) ?_
  have bu:RelV a1 (.agg #[.int .i64 (a.ar:Int),.slice PG aq.length au]) a.ar a.rows:=(hp.ext (G.trans D)).rel;refine ρ ?_;refine cl (Jxb bu) ?_;rintro u ap ⟨rfl,a7⟩;refine ρ ?_;refine bsl (Jjz _) ?_;intro d2 dh bl cy c0;have J:=a7.trans bl;have a6:=D.trans J;have a8:=Jo b6 J;have a9:=ba.ext NtC.sta J;obtain⟨_,_,b7⟩:=id a9.own;refine ρ ?_;refine apb (m':=1) (news:=[.int .i64 (a.rows.length:Int)]) EI a8 (c0.rd (n:=1) rfl) (by simp[Value.oneCell']) (by unfold maxLen;omega) om a6.size ?_;intro c7 d1 b5 af _;have b8:=a9.gr NtC.sta (GrN.by (N:=λq=>(Value.slice ZA k zc).ownBlock=some q) af λq e=>e) λq e=>⟨(bi q e).1,λe'=>Us a8 b7 kr e e'⟩;have cx:vss.take (k+1)=vss.take k++[vss.getD k []]:=Qo [] bh;have cw:Jb (nz (sizes.take (k+1)))=Jb (nz (sizes.take k))++[.int .i64 (a.rows.length:Int)]:=by
   rw[Qo 0 bg,b4];simp[Jb,nz]
  refine ρ ?_;exact Qn (k+1) c8 c7 sO ⟨lk,Jt a6 af λg eg=>(bi g eg).1,by rw[cx];exact b8,by rw[cw];exact b5⟩ om
 have cg:k=ts.length:=by have:=oF h;omega
 subst cg;have db:ts.length=vss.length:=az.symm;rw[<-az,List.take_length]at aa;rw[<-ce,List.take_length]at ae;have cn:=aa.gx (N':=Nn) NtC.sta om λk hk=>hk.elim;refine ρ ?_;refine ld (Z.at (i:=0) rfl) ?_;rw[hC.en,<-az];refine ρ ?_;refine cl (Jrj cn bq om hC.vlt) ?_;rintro u w7 ⟨GA,gc,rfl,hG,ca⟩;refine ρ ?_;refine alc Ic ?_;intro w8 b9 c9 ch cr;refine ρ ?_;refine stW cr ?_;intro w9 am dd ax;have a4:Ext w7 w9:=ax w7 c9 ch;have y:=ca.trans a4;have an:=Z.ext y;have bp:inp.perm.length=perm.length:=by rw[hC.ep,nzl]
 have bo:Rd w 1 PA perm.length (Jb (nz perm)):=by rw[<-bp,<-hC.ep];exact cc
 refine ρ ?_;refine ldW am ?_;refine ρ ?_;refine ld (an.at (i:=1) rfl) ?_;rw[hC.ef];refine ρ ?_;refine ld (an.at (i:=3) rfl) ?_;rw[bp];refine ρ ?_;have a2:=a3.trans y;refine cl (Jsq (pc:=pc) (hG.ext a4) hC.pok (bo.ext a2)) ?_;rintro u a1 ⟨U,B,kf,pf,rfl,bz,cq⟩;refine ρ ?_;have aw:=a2.trans U;have bb:=am.ext U;refine ldW bb ?_;refine ρ ?_;have ab:=(bd.ext O).ext (y.trans U);refine stW ab ?_;intro ap bc ag a7;have av:Ext w ap:=a7 w aw (nL bm.size cj);have bw:GrN (λk=>k=b2) a1 ap:=GrN.by ag λk hk=>by injection hk with hk;exact hk.symm
 have aj:=Jo ae (y.trans U);refine ρ ?_;have cd:sizes.length=vss.length:=om
 refine finC4 bc ⟨GA,gc,B,ZA,zc,kf,pf,by rw[cd],?_,?_,cq,?_,av⟩
 .refine((hG.ext a4).ext U).off ab (λu hu x e=>?_) ag;simp only[List.mem_cons,List.not_mem_nil,or_false]at hu;rcases hu with rfl|rfl<;>cases e
 .have h1:=Qc bz bw λg eg e=>by
   obtain⟨_,_,_,_,hf⟩:=Jc bz;have:=(hf g eg).1;have:=bd.lt;have:=(O.trans y).size;omega
  exact Io h1 a2.size
 have h1:=Qc aj bw λg eg e=>by
  have h2:=bd.lt;obtain⟨_,_,_,_,hf⟩:=Jc aj;have:=(hf g eg).1;omega
 have h2:=Io h1 G.size;exact h2
end Go.Proofs.YtebiphhfkdbpfaaGreatDoor
namespace Go.Proofs.YtebiphhfkdbpfaaGreatDoor
open Go.RowKit Pl Go.Wk
attribute [local irreducible] WC WL QX WD WDB WP
def eqv(a b:V): Bool:=(a.kind == b.kind) && (a.num == b.num) && (a.str.toList == b.str.toList)
theorem V.bytes_eq(a:V): a.str.toList=a.bytes:=by rw[V.bytes,ByteArray.toList_eq]
theorem Qhl(a b:V): eqv a b=true↔a=b:=by
 unfold eqv;simp only[Bool.and_eq_true,beq_iff_eq];grind [V.ext,V.bytes_eq]
theorem eqV(a b:V)(w:World): (binOp .eql 102 a.val b.val).run Tryz.prog w=.ok (.bool (eqv a b)) w:=by
 rw[V.val,V.val,run_eql_struct,run_equalIn_agg w 9999 102 _ _ kr kr];have e:∃ f1 j i:Field,(Tryz.prog.fieldsOf 102).toList=[f1,j,i]/\(f1.name≠"_"/\f1.type=3/\f1.offset=0)/\(j.name≠"_"/\j.type=2/\j.offset=1)/\(i.name≠"_"/\i.type=9/\i.offset=2) :=
  ⟨_,_,_,rfl,⟨by decide,rfl,rfl⟩,⟨by decide,rfl,rfl⟩,⟨by decide,rfl,rfl⟩⟩
 obtain⟨f1,j,i,h0,⟨n1,J,Z⟩,⟨n2,G,U⟩,⟨n3,D,O⟩⟩:=e;rw[h0];simp only[Op.eqFields,if_pos n1,if_pos n2,if_pos n3,J,G,D,Z,U,O,Sem.run_bind];have B:∀ v:V,(part 3 #[.int .i64 v.kind,.int .i64 v.num,.string v.str] 0).run Tryz.prog w=.ok (.int .i64 v.kind) w:=λv=>run_part_plain w kr rfl;have y:∀ v:V,(part 2 #[.int .i64 v.kind,.int .i64 v.num,.string v.str] 1).run Tryz.prog w=.ok (.int .i64 v.num) w:=λv=>run_part_plain w kr rfl;have u:∀ v:V,(part 9 #[.int .i64 v.kind,.int .i64 v.num,.string v.str] 2).run Tryz.prog w=.ok (.string v.str) w:=λv=>run_part_plain w kr rfl;rw[B a];simp only[Result.andThen_ok];rw[B b];simp only[Result.andThen_ok];rw[run_equalIn_int w 9998 3 .i64 .i64 _ _ kr];simp only[Result.andThen_ok];unfold eqv;cases h1:(a.kind == b.kind) with
 | false=>simp
 | true=>
  simp only[Bool.not_true,Bool.false_eq_true,if_false,Bool.true_and,Sem.run_bind];rw[y a];simp only[Result.andThen_ok];rw[y b];simp only[Result.andThen_ok];rw[run_equalIn_int w 9998 2 .i64 .i64 _ _ kr];simp only[Result.andThen_ok];cases h2:(a.num == b.num) with
  | false=>simp
  | true=>
   simp only[Bool.not_true,Bool.false_eq_true,if_false,Bool.true_and,Sem.run_bind];rw[u a];simp only[Result.andThen_ok];rw[u b];simp only[Result.andThen_ok];rw[run_equalIn_string w 9998 9 _ _ kr];simp only[Result.andThen_ok];cases h3:(a.str.toList == b.str.toList)<;>simp
open Go.RowKit Pl Go.Wk
end Go.Proofs.YtebiphhfkdbpfaaGreatDoor
namespace Go.Wk
open Go.RowKit
variable {d n ty:Nat}
theorem deqs{P:Program}{al:AL}{w:World}{Q:Exit->Act->World->Prop}{ops:Array Oper}{drest:List (Nat×Oper)}{pos:String}{aft:Array Edge}{t t2:TypeId}{x y:Operand}{xs ys:Array Value}{v:Value}(hg:P.eqGuardType P.depth t=false)(hb:∀ w,(binOp .eql t (.agg xs) (.agg ys)).run P w=.ok v w)(k:WD P n ops Q drest ((d,v)::al) w)(hx:ev al x=some (.agg xs):=by rfl)(hy:ev al y=some (.agg ys):=by rfl)(hd:Nat.blt d n=true:=by rfl): WD P n ops Q ((0,⟨some d,.binOp .eql t x y t2,ty,pos,aft,none⟩)::drest) al w :=
 dy (λw' _ a i=>by
  simp only[execOp,i.ev hx,i.ev hy,Sem.run_bind,run_eqGuard_agg w' _ _ _ _ _ _ hg,Result.andThen_ok,hb];rfl) hd k
end Go.Wk
namespace Go.Proofs.YtebiphhfkdbpfaaGreatDoor
open Go.RowKit Pl Go.Wk Bl Nw
attribute [local irreducible] WC WL QX WD WDB WP WN WG WH
theorem bs1Vv(v:V)(w:World): (Instr.buildSlice 84 1 #[(0,v.val)]).run Tryz.prog w=.ok (.slice (some ⟨w.heap.size,0,none⟩) 1 1) (w.alloc (.cells v.cells.toArray 102)):=kr
theorem Qhw(l:List V): (Vl l).length<=l.length:=Jxk (Jzc l).1 λx i=>((Jzc l).2 x).1 i
theorem Qlh{w:World}{v:Value}{ls:List Row}{col:Nat}(hR:RowsV w v ls)(hl:ls.length<=100)(hc:∀ r∈ls,col<r.length):
  Ret Tryz.prog 61 [v,.int .i64 (col:Int)] w λu w'=>u=.int .i64 (Kj (ls.map λr=>r.getD col V0):Int)/\Ext w w':=by
 obtain⟨ps,A,c,rfl,rfl,aw,av,ad,a9⟩:=hR;rw[List.length_map]at hl;have hm:(ps.map (·.2)).map (λr=>r.getD col V0)=ps.map λp=>p.2.getD col V0:=by rw[List.map_map];rfl
 refine Jz Tryz.func61 Tryz.ntmps61 rfl kr rfl ?_;refine ρ ?_;refine Ju (fun (i:Nat) (vl:Value)=>[(0,.slice A ps.length c),(1,.int .i64 (col:Int)),(5,vl),(6,.int .i64 (i:Int))])
  (λi vl w'=>i<=ps.length/\Ext w w'/\w'.ownsRow w.heap.size 102 3 vl (Vl ((ps.take i).map λp=>p.2.getD col V0)).length (Qj (Vl ((ps.take i).map λp=>p.2.getD col V0)))) (λi _=>ps.length-i) 0 (.slice none 0 0) sB
  ⟨Nat.zero_le _,Ext.refl _,Zh _ _ _ _⟩ ?_
 rintro i vl w1 ⟨hi,B,Z⟩;obtain⟨SA,sc,rfl,aq,ah⟩:=Jc Z;have ag:=Qhw ((ps.take i).map λp=>p.2.getD col V0);rw[List.length_map,List.length_take]at ag;refine ρ ?_;refine ci (λh=>?_) (λh=>?_)
 .have li:i<ps.length:=by have:=oT h;omega
  clear h;have hp:ps[i]∈ps:=List.getElem_mem _;have aa:col<ps[i].2.length:=hc _ (List.mem_map.2 ⟨_,hp,rfl⟩);obtain⟨PA,pc,e,au,ar,ab⟩:=(a9 _ hp).ext B;have a5:(ps.map (·.1))[i]?=some ps[i].1:=by simp[li]
  have J:(ps.take (i+1)).map (λp=>p.2.getD col V0)=((ps.take i).map λp=>p.2.getD col V0)++[ps[i].2.getD col V0]:=by
   rw[List.take_add_one,List.getElem?_eq_getElem li,List.map_append];rfl
  generalize hS:Vl ((ps.take i).map λp=>p.2.getD col V0)=seen at *
  generalize hx:ps[i].2.getD col V0=x at *
  refine ρ ?_;refine ix i (ad.ext B) li ?_;refine ρ ?_;refine ld ((ad.ext B).cell a5) ?_;rw[e];refine ρ ?_;refine ixq 3 col ab aa ?_;refine ρ ?_;refine lds (cs:=x.cells) (λj u G=>?_) ?_
  .have hj:j<3:=by
    rcases Nat.lt_or_ge j 3 with h|h
    .exact h
    rw[List.getElem?_eq_none (by exact h)]at G;cases G
   rw[Uv];exact Rd.cell ab ((Jqx _ col j aa hj).trans (by rw[hx];exact G))
  refine ρ ?_;refine alc zVal ?_;intro w2 b7 af am ao;refine ρ ?_;refine stb ao (cs':=x.cells) ?_ (V.one _);intro w3 a3 ax a7;have a1:Ext w1 w3:=a7 w1 af am;refine ρ ?_;refine Ju (fun (k:Nat) (b:Bool)=>[(0,.slice A ps.length c),(1,.int .i64 (col:Int)),(5,.slice SA seen.length sc),(6,.int .i64 (i:Int)),(7,.pointer (some ⟨b7,0,none⟩)),(8,.bool b),(9,.int .i64 (k:Int))])
   (λk b w'=>k<=seen.length/\Ext w3 w'/\(b=true↔x∈seen.take k)) (λk _=>seen.length-k) 0 false sB
   ⟨Nat.zero_le _,Ext.refl _,by simp⟩ ?_
  rintro k b w4 ⟨hk,D,hb⟩;refine ρ ?_;refine ci (λh=>?_) (λh=>?_)
  .have lk:k<seen.length:=by have:=oT h;omega
   clear h;have ht:seen.take (k+1)=seen.take k++[seen.getD k V0]:=Qo V0 lk;have U:Ext w4 w4.drew:=(Ext.refl w4).drew;have a8:=a1.trans (D.trans U);have ac:=(Rd.own Z).ext a8;have an:=a3.ext (D.trans U);refine ρ ?_;refine dr [(0,0),(0,1),(0,2),(0,3),(0,4),(0,5),(0,6),(0,7),(0,8),(0,9)] kr ?_;refine ρd ?_;refine dki 30 (λh=>?_) (λh=>?_)
   .refine ρd ?_;refine ρ ?_;refine Js (k+1) true sO ⟨lk,D.trans U,?_⟩ om;rw[ht,List.mem_append];exact⟨λ_=>.inl (hb.1 h),λ_=>rfl⟩
   refine ρd ?_;refine Qe 3 k ac lk ?_;refine ρd ?_;refine Qw (cs:=(seen.getD k V0).cells) (λj u G=>?_) ?_
   .have hj:j<3:=by
     rcases Nat.lt_or_ge j 3 with h|h
     .exact h
     rw[List.getElem?_eq_none (by exact h)]at G;cases G
    rw[Uv];exact ac.cell ((Jqx _ k j lk hj).trans G)
   refine ρd ?_;refine Qw (cs:=x.cells) (λj u G=>an.at G) ?_;refine ρd ?_;refine deqs kr (λw'=>eqV (seen.getD k V0) x w') ?_;refine ρd ?_;refine ρ ?_;refine Js (k+1) (eqv (seen.getD k V0) x) sO ⟨lk,D.trans U,?_⟩ om;rw[ht,List.mem_append,List.mem_singleton,Qhl];refine⟨λe=>.inr e.symm,λh2=>h2.elim (λh2=>?_) λe=>e.symm⟩;rw[hb.2 h2]at h;cases h
  have aj:k=seen.length:=by have:=oF h;omega
  subst aj;clear h;rw[List.take_length]at hb;have y:=a1.trans D;have ae:=a3.ext D;refine ρ ?_;refine ci (λh=>?_) (λh=>?_)
  .have ai:x ∉ seen:=λhm=>by rw[hb.2 hm]at h;cases h
   have O:Vl ((ps.take (i+1)).map λp=>p.2.getD col V0)=seen++[x]:=by
    rw[J,Jdv,hS,if_neg ai]
   refine ρ ?_;refine lds (cs:=x.cells) (λj u G=>ae.at G) ?_;refine ρ ?_;refine bsl (bs1Vv x) ?_;intro w5 b5 a4 ay ap;refine ρ ?_;refine apb (m':=1) (news:=x.cells) EVs (Jo Z (y.trans a4)) (ap.rd (n:=1) rfl) (V.one _) (by unfold maxLen;omega) om ((B.trans y).trans a4).size ?_;intro v2 w6 a2 hg6 _;have er:Qj seen++x.cells=Qj (seen++[x]):=by rw[Qww];simp[Qj]
   rw[er]at a2;refine ρ ?_;refine Js (i+1) v2 sO ⟨li,Jt ((B.trans y).trans a4) hg6 λg eg=>(ah g eg).1,?_⟩ om;rw[O,List.length_append];exact a2
  have a6:x∈seen:=hb.1 (by cases b;cases h;rfl);have O:Vl ((ps.take (i+1)).map λp=>p.2.getD col V0)=seen:=by
   rw[J,Jdv,hS,if_pos a6]
  refine ρ ?_;refine Js (i+1) (.slice SA seen.length sc) sO ⟨li,B.trans y,?_⟩ om;rw[O];exact Jo Z y
 have ak:i=ps.length:=by have:=oF h;omega
 subst ak;rw[List.take_length]at *;refine ρ ?_;exact Jq ⟨by rw[hm],B⟩
open Go.RowKit Pl Go.Wk Bl Nw
def vK(D:Nat->Nat)(vs:List Int)(x e:Int): Nat->Int
 | 0=>e
 | k+1=>if vs.getD k 0=x then(if vK D vs x e k<0∨(D k:Int)<vK D vs x e k then(D k:Int) else vK D vs x e k) else vK D vs x e k
def vI(D:Nat->Nat->Nat)(vss:List (List Int))(x:Int): Nat->Int
 | 0=>-1
 | i+1=>vK (D i) (vss.getD i []) x (vI D vss x i) (vss.getD i []).length
noncomputable def dC(rss:List (List Row))(i k:Nat): Nat:=Kj ((rss.getD i []).map λr=>r.getD k V0)
theorem Qxt{w:World}{VA RA:Option Addr}{vc rc f m:Nat}{vss:List (List Int)}{rss:List (List Row)}(hV:IntssV w (.slice VA m vc) vss)(hR:RowssV w (.slice RA m rc) rss)(hvm:vss.length=m)(hrm:rss.length=m)(hf:f<=32)(hm5:m<=5)(hv8:∀ i,i<m->(vss.getD i []).length<=8)(hl:∀ i,i<m->(rss.getD i []).length<=100)(hc:∀ i,i<m->∀ r∈rss.getD i [],r.length=(vss.getD i []).length):
  Ret Tryz.prog 27 [.int .i64 (f:Int),.slice VA m vc,.slice RA m rc] w λu w'=>IntsV w' u ((List.range f).map λx:Nat=>vI (dC rss) vss (x:Int) m)/\Ext w w':=by
 obtain⟨_,_,ar,e1,_,a1,ae⟩:=hV;injection e1 with e1 e2 e3
 subst e1;subst e3;obtain⟨_,_,au,e1,_,a8,af⟩:=hR;injection e1 with e1 e2 e3
 subst e1;subst e3;rw[hvm]at a1 ae;rw[hrm]at a8 af;refine Jz Tryz.func27 Tryz.ntmps27 rfl kr rfl ?_;refine ρ ?_;refine mkn EI f om (by unfold maxLen;omega) ?_;intro w1 O ah ac aw;have e0:(madeCells (Value.int .i64 0).cells (f*1)).toList=Jb (List.replicate f 0):=by
  rw[Nat.mul_one];refine(Vc _ _).trans ?_;simp[Jb]
 rw[e0]at ac;refine ρ ?_;refine Ju (fun (x:Nat) (ls:List Int)=>[(0,.int .i64 (f:Int)),(1,.slice VA m vc),(2,.slice RA m rc),(7,.slice O f f),(8,.int .i64 (x:Int))])
  (λx ls w'=>x<=f/\Ext w w'/\ls.length=f/\(∀ j:Nat,j<x->ls.getD j 0=vI (dC rss) vss (j:Int) m)/\w'.ownsRow w.heap.size 3 1 (.slice O f f) f (Jb ls)) (λx _=>f-x) 0 (List.replicate f 0) sB
  ⟨Nat.zero_le _,ah,by simp,λj hj=>absurd hj (Nat.not_lt_zero j),ac⟩ ?_
 rintro x ls w2 ⟨hx,a5,B,G,a2⟩;refine ρ ?_;refine ci (λh=>?_) (λh=>?_)
 .have lx:x<f:=by have:=oT h;omega
  clear h;have an:∀ {w':World} {l:List Int},w'.ownsRow w.heap.size 3 1 (.slice O f f) f (Jb l)->∀ g,(Value.slice O f f).ownBlock=some g->w.heap.size<=g:=λh g hg=>by
   obtain⟨_,_,_,_,hf⟩:=Jc h;exact(hf g hg).1
  have store:∀ {w':World} {l:List Int} (z:Int),l.length=f->Ext w w'->w'.ownsRow w.heap.size 3 1 (.slice O f f) f (Jb l)->w'.cell? (adr O x)=some (.int .i64 (l.getD x 0))/\w'.frozen? (adr O x)=false/\(w'.setCell (adr O x) (.int .i64 z)).ownsRow w.heap.size 3 1 (.slice O f f) f (Jb (l.set x z))/\Ext w (w'.setCell (adr O x) (.int .i64 z)):=fun {w'} {l} z hl hxw ho=>by
   obtain⟨s1,s2,s3,s4,s5⟩:=Zw ho (q:=x) om (.int .i64 z);have e:(Jb l).set x (.int .i64 z)=Jb (l.set x z):=by simp[Jb,List.map_set]
   rw[e]at s3;exact⟨s1.trans (Yx om),s2,s3,Jt hxw s5 (an ho)⟩
  obtain⟨s1,s2,s3,s4⟩:=store (-1) B a5 a2;refine ρ ?_;refine ix x (Rd.own a2) lx ?_;refine ρ ?_;refine sto s1 s2 ?_;refine ρ ?_;refine Ju (fun (i:Nat) (ls:List Int)=>[(0,.int .i64 (f:Int)),(1,.slice VA m vc),(2,.slice RA m rc),(7,.slice O f f),(8,.int .i64 (x:Int)),(9,.int .i64 (i:Int))])
   (λi ls w'=>i<=m/\Ext w w'/\ls.length=f/\(∀ j:Nat,j<x->ls.getD j 0=vI (dC rss) vss (j:Int) m)/\ls.getD x 0=vI (dC rss) vss (x:Int) i/\w'.ownsRow w.heap.size 3 1 (.slice O f f) f (Jb ls)) (λi _=>m-i) 0 (ls.set x (-1)) sB
   ⟨Nat.zero_le _,s4,by rw[List.length_set];exact B,λj hj=>by rw[<-G j hj];simp[List.getD,show x≠j by omega],by simp[List.getD,show x<ls.length by omega,vI],s3⟩ ?_
  clear s1 s2 s3 s4 a2 G B a5 ls;rintro i ls w3 ⟨hi,a4,B,G,J,a7⟩;refine ρ ?_;refine ci (λh=>?_) (λh=>?_)
  .have li:i<m:=by have:=oT h;omega
   clear h;obtain⟨vu,aa,aj⟩:=ae i li;obtain⟨PA,pc,rfl,av,ab⟩:=aj;obtain⟨ru,ak,am⟩:=af i li;have ai:=hv8 i li;generalize hvs:vss.getD i []=vs at *
   refine ρ ?_;refine Ju (fun (k:Nat) (ls:List Int)=>[(0,.int .i64 (f:Int)),(1,.slice VA m vc),(2,.slice RA m rc),(7,.slice O f f),(8,.int .i64 (x:Int)),(9,.int .i64 (i:Int)),(10,.int .i64 (k:Int))])
    (λk ls w'=>k<=vs.length/\Ext w w'/\ls.length=f/\(∀ j:Nat,j<x->ls.getD j 0=vI (dC rss) vss (j:Int) m)/\ls.getD x 0=vK (dC rss i) vs (x:Int) (vI (dC rss) vss (x:Int) i) k/\w'.ownsRow w.heap.size 3 1 (.slice O f f) f (Jb ls)) (λk _=>vs.length-k) 0 ls sB
    ⟨Nat.zero_le _,a4,B,G,J,a7⟩ ?_
   clear J a7 G B a4 ls;rintro k ls w4 ⟨hk,D,B,G,J,a6⟩;refine ρ ?_;refine ix i (a1.ext D) li ?_;refine ρ ?_;refine ld ((a1.ext D).cell aa) ?_;refine ρ ?_;refine ci (λh=>?_) (λh=>?_)
   .have lk:k<vs.length:=by have:=oT h;omega
    clear h;refine ρ ?_;refine ix i (a1.ext D) li ?_;refine ρ ?_;refine ld ((a1.ext D).cell aa) ?_;refine ρ ?_;refine ix k (ab.ext D) lk ?_;refine ρ ?_;refine ld ((ab.ext D).cell (Yx lk)) ?_;refine ρ ?_;refine ci (λh=>?_) (λh=>?_)
    .have ao:vs.getD k 0≠(x:Int):=Kt h;refine ρ ?_;exact Js (k+1) ls sO ⟨lk,D,B,G,by rw[vK,if_neg ao];exact J,a6⟩ om
    have ad:vs.getD k 0=(x:Int):=Ka h;clear h;refine ρ ?_;refine ix i (a8.ext D) li ?_;refine ρ ?_;refine ld ((a8.ext D).cell ak) ?_;refine ρ ?_;refine cl (Qlh (col:=k) ((am.v (nL (hl i li) (by decide)) λr hr=>by rw[hc i li r hr,hvs];exact nL ai (by decide)).ext D) (hl i li) (λr hr=>by rw[hc i li r hr,hvs];exact lk)) ?_;rintro _ w5 ⟨rfl,a9⟩;have a3:=D.trans a9;have Z:=Jo a6 a9;have U:w5.cell? (adr O x)=some (.int .i64 (ls.getD x 0)):=(Rd.own Z).cell (Yx om);have hD:Kj ((rss.getD i []).map λr=>r.getD k V0)=dC rss i k:=rfl;rw[hD];generalize hd:dC rss i k=d at *
    refine ρ ?_;refine ix x (Rd.own Z) lx ?_;refine ρ ?_;refine ld U ?_;refine ρ ?_;refine Yb (fun (t:Bool)=>[(0,.int .i64 (f:Int)),(1,.slice VA m vc),(2,.slice RA m rc),(7,.slice O f f),(8,.int .i64 (x:Int)),(9,.int .i64 (i:Int)),(10,.int .i64 (k:Int)),(11,.int .i64 (d:Int)),(64,.bool t)])
     (λt w'=>w'=w5/\(t=true↔ls.getD x 0<0∨(d:Int)<ls.getD x 0)) ?_ ?_
    .refine ki 57 (λh=>?_) (λh=>?_)
     .have h1:=oT h;refine ρ ?_;exact Jf true sB ⟨rfl,λ_=>.inl h1,λ_=>rfl⟩
     have h1:=oF h;refine ρ ?_;refine ix x (Rd.own Z) lx ?_;refine ρ ?_;refine ld U ?_;refine ρ ?_;refine Jf _ sB ⟨rfl,?_⟩;rw[decide_eq_true_eq];exact⟨λh2=>.inr h2,λh2=>h2.elim (λh3=>absurd h3 h1) id⟩
    rintro t w6 ⟨rfl,ht⟩;refine ρ ?_;refine ci (λh=>?_) (λh=>?_)
    .obtain⟨s1,s2,s3,s4⟩:=store (d:Int) B a3 Z;refine ρ ?_;refine ix x (Rd.own Z) lx ?_;refine ρ ?_;refine sto s1 s2 ?_;refine ρ ?_;refine Js (k+1) (ls.set x (d:Int)) sO ⟨lk,s4,by rw[List.length_set];exact B,λj hj=>by rw[<-G j hj];simp[List.getD,show x≠j by omega],?_,s3⟩ om;rw[vK,if_pos ad,<-J,if_pos (by rw[hd];exact ht.1 h),hd];simp[List.getD,show x<ls.length by omega]
    refine ρ ?_;refine Js (k+1) ls sO ⟨lk,a3,B,G,?_,Z⟩ om;rw[vK,if_pos ad,<-J,if_neg (by rw[hd];exactλe=>by rw[ht.2 e]at h;cases h)]
   have ap:k=vs.length:=by have:=oF h;omega
   subst ap;refine ρ ?_;exact Js (i+1) ls sO ⟨li,D,B,G,by rw[vI,hvs];exact J,a6⟩ om
  have aq:i=m:=by have:=oF h;omega
  subst aq;refine ρ ?_;refine Js (x+1) ls sO ⟨lx,a4,B,λj hj=>?_,a7⟩ om;rcases Nat.lt_or_ge j x with h1|h1
  .exact G j h1
  rw[show j=x by omega];exact J
 have ag:x=f:=by have:=oF h;omega
 subst ag;have e:ls=(List.range x).map λy:Nat=>vI (dC rss) vss (y:Int) m:=by
  refine List.ext_getElem (by simp[B]) λj h1 h2=>?_;have:=G j om;rw[Ja 0 h1]at this;simp[this]
 refine ρ ?_;refine Jq ⟨⟨O,x,by rw[List.length_map,List.length_range],by rw[List.length_map,List.length_range];exact Nat.le_refl _,by rw[List.length_map,List.length_range];omega,?_⟩,a5⟩;rw[<-e,B];exact Rd.own a2
open Go.RowKit Pl Go.Wk Bl Nw
variable {c n:Nat}{v:Value}{w:World}
theorem Qdj(hv:NatV w v n)(hs:(Jj n).length<=1000): Ret Tryz.prog 73 [v] w λr w'=>(∃ A c,r=.slice A (Jj n).length c/\w'.ownsRow w.heap.size 63 1 r (Jj n).length (Nc (Jj n)))/\Ext w w':=by
 refine Jz Tryz.func73 Tryz.ntmps73 rfl kr rfl ?_;refine ρ ?_;refine cl (Zj hv) ?_;rintro j w' ⟨⟨A,rfl,y⟩,rfl⟩;refine ρ ?_;refine cl (Jzj y (Jqd _) om) ?_;rintro j w1 ⟨i,u⟩;obtain⟨D,B,rfl,J,G⟩:=Jc i;refine ρ ?_;exact Jq ⟨⟨D,B,rfl,i⟩,u⟩
theorem Qvc{A:Option Addr}(w:World): Ret Tryz.prog 75 [.slice A 1 c] w λu w'=>w'=w:=by
 refine Jz Tryz.func75 Tryz.ntmps75 rfl kr rfl ?_;refine ρ ?_;refine Jr (fun (_:Nat)=>[(3,.int .i64 ((1:Nat)-1:Int)),(2,.int .i64 0)]) (λ_ w'=>w'=w) (λ_=>0) 0 sB rfl ?_;rintro _ _ rfl;refine ρ ?_;exact Vg rfl
theorem EU8: ElT Tryz.prog 74 5 1 1 (.int .u8 0):=⟨Tryz.underlying74,info_parts kr,rfl,by decide⟩
theorem bs1By(z:Int)(w:World): (Instr.buildSlice 74 1 #[(0,.int .u8 z)]).run Tryz.prog w=.ok (.slice (some ⟨w.heap.size,0,none⟩) 1 1) (w.alloc (.cells [.int .u8 z].toArray 5)):=kr
theorem Qdg(hv:NatV w v 8): Ret Tryz.prog 37 [v] w λr w'=>r=.string ⟨#[56]⟩/\Ext w w':=by
 have el:Jj 8=[8]:=Jcr (by decide) (by decide);refine Jz Tryz.func37 Tryz.ntmps37 rfl kr rfl ?_;refine ρ ?_;refine cl (Qdj hv (by rw[el];decide)) ?_;rintro u w1 ⟨⟨A,c,rfl,ho⟩,a2⟩;rw[el]at ho ⊢;refine ρ ?_;refine Xh (fun (j:Nat) (y:Option Addr×Nat) (z:Nat)=>[(3,.slice A (1-j) z),(4,.slice y.1 j y.2)])
  (λj y z w'=>(j=0/\y=(none,0)/\z=c/\w'=w1)∨(j=1/\Ext w w'/\Rd w' 1 y.1 1 (Bc [56]))) (λj _ _=>1-j) 0 (none,0) c sB (.inl ⟨rfl,rfl,rfl,rfl⟩) ?_
 rintro j y z w2 (⟨rfl,rfl,rfl,rfl⟩|⟨rfl,a1,hr⟩)
 .obtain⟨_,_,e0,U,a5⟩:=Jc ho;injection e0 with _ _ e0
  subst e0;have U:1<=z:=U;refine ρ ?_;refine cl (Jsv (A:=A) (L:=1) (c:=z) (d:=1000000000) (l:=[8]) rfl (by decide) ho (by decide) (by decide)) ?_;rintro u w3 ⟨rfl,⟨os,J,a4,a6⟩,a7⟩;have a3:val os=0:=by rw[a4];decide
  have e8:val [8] % 1000000000=8:=by decide
  have D:Ext w w3:=Jt a2 a7 λg eg=>(a5 g eg).1;have G:=Uf (A:=A) (l:=os) (c:=z) (by rw[J];exact Rd.own a6) om om;rw[J,a3,limbs_0]at G;rw[e8];refine ρ ?_;refine cl G ?_;rintro u w4 ⟨rfl,rfl⟩;refine ρ ?_;refine Ju (fun (i:Nat) (y:Option Addr×Nat)=>[(5,.int .u32 ((8*(1-i):Nat):Int)),(19,.int .i64 (i:Int)),(3,.slice A 0 0),(4,.slice y.1 i y.2)])
   (λi y w'=>(i=0/\y=(none,0)/\w'=w4)∨(i=1/\Ext w w'/\Rd w' 1 y.1 1 (Bc [56]))) (λi _=>1-i) 0 (none,0) sB (.inl ⟨rfl,rfl,rfl⟩) ?_
  rintro i y w5 (⟨rfl,rfl,rfl⟩|⟨rfl,Z,hr⟩)
  .refine ρ ?_;refine kv 34 (u:=.int .u32 8) rfl ?_;refine kv 5 (u:=.int .u32 8) rfl ?_;refine rem (b:=10) (by decide) ?_;refine kv 35 (show Value.int .u32 (Int.tmod 8 10)=.int .u32 8 from rfl) ?_;refine ρ ?_;refine kv 37 (show Value.int .u8 (IntKind.u8.wrap (IntKind.u32.wrap (48+8)))=.int .u8 56 from rfl) ?_;refine bsl (bs1By 56) ?_;intro w6 b6 B ab a8;refine ρ ?_;refine apb (m':=1) (base:=w.heap.size) (news:=[.int .u8 56]) EU8 (Zh _ _ _ _) (a8.rd (n:=1) rfl) (by simp[Value.oneCell']) (by unfold maxLen;omega) om (D.trans B).size ?_;intro v7 w7 O hg7 a9;obtain⟨BA,bc,rfl,_,aa⟩:=Jc O;refine ρ ?_;refine Kz rfl rfl (by decide) rfl ?_;refine ρ ?_;exact Js 1 (BA,bc) sO (.inr ⟨rfl,Jt (D.trans B) hg7 (λg eg=>by cases eg),Rd.own O⟩) (by decide)
  refine ρ ?_;exact Qn 1 y 0 sB (.inr ⟨rfl,Z,hr⟩) (by decide)
 refine ρ ?_;refine cl (Qvc w2) ?_;rintro u w3 rfl;refine ρ ?_;refine sb hr ?_;refine ρ ?_;exact Jq ⟨rfl,a1⟩
end Go.Proofs.YtebiphhfkdbpfaaGreatDoor
namespace Go.Proofs.YtebiphhfkdbpfaaGreatDoor
open Go.RowKit Pl Go.Wk Bl Nw
variable {ats:List Atm}{m:List Row}{c n set v:Nat}{pf:Nat->Int}
def nV(n:Int): V:=⟨1,n,⟨#[]⟩⟩
def nR(a b:Int): Row:=[nV a,nV b]
def rw4: List Row:=[nR 1 1,nR 1 2,nR 2 1,nR 2 2]
def v3: List (List Nat):=[[0,1],[1,2],[0,2]]
def rB(v:Nat): Nat:=if v=2 then 8 else 4
abbrev Gn: PR:=⟨false,1,1⟩
abbrev Vz: PR:=⟨false,0,1⟩
theorem es3: v3.map Xx=[3,6,5]:=by decide
theorem bag7: BagB 3 [3,6,5] [4,4,4] 7 8:=by
 have u:∀ q∈[hlf,hlf,hlf],q=hlf:=λq j=>by
  simp only[List.mem_cons,List.not_mem_nil,or_false,or_self]at j;exact j
 refine⟨by decide,by decide,Jhn,216,_,32,32,by decide +kernel,Qzn,(λq j=>by rw[u q j];decide),(λq j=>by rw[u q j];decide +kernel),(λi hi=>?_),(λq j=>by rw[u q j];decide +kernel),by rw[Jqp];decide,by rw[Jqp];decide,by rw[Jqp];exact Qzm,by decide,by decide,by rw[Jqp,Jhm];decide,Jsw,λx y=>?_⟩
 .have hi:i<=3:=hi;rcases(show i=0∨i=1∨i=2∨i=3 by omega) with rfl|rfl|rfl|rfl<;>decide +kernel
 rw[Jqp,Jhm]at y;exact Jbh y ⟨by decide,by decide⟩
theorem Jxh: dnm [Gn,Vz,Vz]=1:=by decide +kernel
theorem Jnj: Vj [Gn,Vz,Vz] [4,4,4] 1=4:=by decide +kernel
theorem Jwb{q:PR}(h:q∈[Gn,Vz,Vz]): q=Gn∨q=Vz:=by
 simp only[List.mem_cons,List.not_mem_nil,or_false,or_self]at h;exact h
theorem Qbz: PrOk [Gn,Vz,Vz] [4,4,4] 1 32:=by
 refine⟨by decide,rfl,λq B=>?_,λs j=>?_,λi hi=>?_,λi u G=>?_⟩
 .rcases Jwb B with rfl|rfl
  .exact⟨by decide,by decide,by decide,by decide +kernel,by decide +kernel,by decide +kernel,by decide +kernel,by decide +kernel,by decide +kernel⟩
  exact⟨by decide,by decide,by decide,by decide +kernel,by decide +kernel,by decide +kernel,by decide +kernel,by decide +kernel,by decide +kernel⟩
 .simp only[List.mem_cons,List.not_mem_nil,or_false,or_self]at j;rw[j];decide
 .have hi:i<=3:=hi;rcases(show i=0∨i=1∨i=2∨i=3 by omega) with rfl|rfl|rfl|rfl<;>decide +kernel
 have u:i<3:=u;have D:4^Za Gn 1<2^32:=by decide +kernel
 have y:4^Za Vz 1<2^32:=by decide +kernel
 rcases(show i=0∨i=1∨i=2 by omega) with rfl|rfl|rfl
 .exact D
 .exact y
 exact y
theorem bagS(h0:set<2^3)(h1:set≠0)(hf:((Jv 3 set).length+(Jd [3,6,5] set [3,6,5].length).length)^(Jd [3,6,5] set [3,6,5].length).length<=125)(hcv:cvr 125 3 [3,6,5] set=some ⟨[Gn,Vz,Vz],[Gn,Vz,Vz],⟨false,1,1⟩⟩): BagB 3 [3,6,5] [4,4,4] set 4:=by
 refine⟨h0,h1,λv y B=>?_,125,_,32,32,hf,hcv,(λq j=>?_),(λq j=>?_),(λi hi=>?_),(λq j=>?_),by rw[Jxh];decide,by rw[Jxh];decide,by rw[Jxh];exact Qbz,by decide,by decide,by rw[Jxh,Jnj];decide,Jsw,λx u=>?_⟩
 .exact Jhn v y (by rcases(show v=0∨v=1∨v=2 by omega) with rfl|rfl|rfl<;>decide)
 .rcases Jwb j with rfl|rfl<;>decide
 .rcases Jwb j with rfl|rfl<;>decide +kernel
 .have hi:i<=3:=hi;rcases(show i=0∨i=1∨i=2∨i=3 by omega) with rfl|rfl|rfl|rfl<;>decide +kernel
 .rcases Jwb j with rfl|rfl<;>decide +kernel
 rw[Jxh,Jnj]at u;exact Jbh u ⟨by decide,by decide⟩
theorem Jcw{kf:Nat->Nat}(h:Vo 3 [3,6,5] [2,1,0] kf pf)(hv:v<3)(hc:c<4294967296)(hk:∀ x,x<32->Zy (nb0 3 [3,6,5]) [2,1,0] v x=c.testBit x): kf v=c:=by
 obtain⟨u,j,_⟩:=h v hv;refine Nat.eq_of_testBit_eq λx=>?_;by_cases hx:x<32
 .rw[j,hk x hx]
 have i:4294967296<=2^x:=Nat.pow_le_pow_right (n:=2) (by decide) (show 32<=x by omega);rw[Nat.testBit_lt_two_pow (nM u i),Nat.testBit_lt_two_pow (nM hc i)]
theorem Qhk{kf:Nat->Nat}(h:Vo 3 (v3.map Xx) (Zv [] 3) kf pf)(v:Nat)(hv:v<3): BagB 3 (v3.map Xx) [4,4,4] (kf v ||| 2^v) (rB v):=by
 rw[es3]at h ⊢;have h:Vo 3 [3,6,5] [2,1,0] kf pf:=h;rcases(show v=0∨v=1∨v=2 by omega) with rfl|rfl|rfl
 .rw[Jcw h (by decide) (c:=0) (by decide) (by decide +kernel)];exact bagS (by decide) (by decide) (by decide +kernel) (by decide +kernel)
 .rw[Jcw h (by decide) (c:=1) (by decide) (by decide +kernel)];exact bagS (by decide) (by decide) (by decide +kernel) (by decide +kernel)
 rw[Jcw h (by decide) (c:=3) (by decide) (by decide +kernel)];exact bag7
theorem Qwc: Lt [] rw4:=by unfold Lt;decide +kernel
theorem Qnm: Lt [] [[nV 1],[nV 2]]:=by unfold Lt;decide +kernel
theorem Jkm(h:Vn [] rw4 m): m=rw4:=Jyv h.1 Qwc h.2
theorem Qmq(hc:c<2)(h:Vn [] (rw4.map (pmR [c])) m): m=[[nV 1],[nV 2]]:=by
 refine Jyv h.1 Qnm λx=>(h.2 x).trans ?_;have j:rw4.map (pmR [0])=[[nV 1],[nV 1],[nV 2],[nV 2]]:=rfl;have i:rw4.map (pmR [1])=[[nV 1],[nV 2],[nV 1],[nV 2]]:=rfl;rcases(show c=0∨c=1 by omega) with rfl|rfl
 .rw[j];simp only[List.mem_cons,List.not_mem_nil,or_false];grind
 rw[i];simp only[List.mem_cons,List.not_mem_nil,or_false];grind
theorem Jcc(h:n<4294967296): Nb n:=nM h (Nat.le_self_pow (show bK≠0 by rw[Jfv];decide) _)
theorem hg2: hgt 2=2:=by decide +kernel
def c3: Cse:=⟨3,3,[false,false,false],[],[[0,1],[1,2],[0,2]],[rw4,rw4,rw4]⟩
theorem asc2{p q:Int}(h:p<q): Iv [p,q]:=λj u i=>by
 have i:j<2:=i;obtain rfl:j=1:=om
 exact h
theorem Jdq(hl:ats.length=3)(h:∀ i,i<3->MkA (ats.getD i a0) (c3.vs.getD i []) (c3.rss.getD i [])): ∃ a b c,ats=[a,b,c]/\MkA a [0,1] rw4/\MkA b [1,2] rw4/\MkA c [0,2] rw4:=by
 match ats,hl with
 | [a,b,c],_=>exact⟨a,b,c,rfl,h 0 (by decide),h 1 (by decide),h 2 (by decide)⟩
theorem Jsk(hl:ats.length=3)(h:∀ i,i<3->MkA (ats.getD i a0) (c3.vs.getD i []) (c3.rss.getD i [])): Yl ⟨3,3,[false,false,false],[],ats⟩:=by
 obtain⟨a,b,c,rfl,y,D,G⟩:=Jdq hl h;have u:∀ {a:Atm} {p q:Int},MkA a [p,q] rw4->p<q->0<=p->q<3->Uw 3 a:=fun {a p q} h h1 h2 h3=>by
  refine⟨by rw[h.vars];exact asc2 h1,λv j=>?_,by rw[h.vars,h.ar]⟩;rw[h.vars]at j;simp only[List.mem_cons,List.not_mem_nil,or_false]at j;rcases j with rfl|rfl<;>omega
 refine⟨(show(0:Int)<=3 by decide),(show(3:Int)<=32 by decide),(show(0:Int)<=3 by decide),(show(3:Int)<=3 by decide),rfl,rfl,(λv j=>by cases j),List.nodup_nil,(show(0:Int)<=3 by decide),(show(3:Int)<=32 by decide),by simp,λx B=>?_,λv j=>?_⟩
 .simp only[List.mem_cons,List.not_mem_nil,or_false]at B;rcases B with rfl|rfl|rfl
  .exact u y (by decide) (by decide) (by decide)
  .exact u D (by decide) (by decide) (by decide)
  exact u G (by decide) (by decide) (by decide)
 have j:(v:Int)<3:=j;rcases(show v=0∨v=1∨v=2 by omega) with rfl|rfl|rfl
 .exact⟨a,by simp,by rw[y.vars];simp⟩
 .exact⟨a,by simp,by rw[y.vars];simp⟩
 exact⟨b,by simp,by rw[D.vars];simp⟩
theorem Jdp{a:Atm}{zs:List Int}{x:Int}(h:MkA a zs rw4)(h2:zs.length=2)(ha:Iv zs): CntA (λ_=>2) x a:=by
 have j:a.rows=rw4:=Jkm (h.set (by decide));refine⟨by rw[h.vars];exact ha,by rw[h.vars,h.ar],λr i=>?_,by rw[j];decide,λB m y D u=>?_⟩
 .rw[h.ar];exact(h.ok r (h.sub r i)).1
 rw[j]at u;rw[Qmq (by rw[h.vars,h2]at y;exact y) u];rfl
theorem Qhj(hl:ats.length=3)(h:∀ i,i<3->MkA (ats.getD i a0) (c3.vs.getD i []) (c3.rss.getD i [])): CostI 3 3 [] v3 [4,4,4] (λ_ _=>2) rB ⟨3,3,[false,false,false],[],ats⟩:=by
 have j:=Jsk hl h;obtain⟨a,b,c,rfl,Z,U,O⟩:=Jdq hl h;have J:a.rows=rw4:=Jkm (Z.set (by decide));have G:b.rows=rw4:=Jkm (U.set (by decide));have D:c.rows=rw4:=Jkm (O.set (by decide));have er:(List.range 3).map rB=[4,4,8]:=rfl;refine⟨j,rfl,rfl,rfl,?_,?_,by simp,⟨Nat.le_refl _,rfl,(λv B=>by cases B),List.nodup_nil⟩,by decide,by decide,λx y a' u=>?_,λkf pf h v B=>Qhk h v B,?_,λi hi=>?_,λx y=>?_⟩
 .show[a.vars,b.vars,c.vars]=_;rw[Z.vars,U.vars,O.vars];rfl
 .show[a.rows.length,b.rows.length,c.rows.length]=_;rw[J,G,D];rfl
 .simp only[List.mem_cons,List.not_mem_nil,or_false]at u;rcases u with rfl|rfl|rfl
  .exact Jdp Z rfl (asc2 (by decide))
  .exact Jdp U rfl (asc2 (by decide))
  exact Jdp O rfl (asc2 (by decide))
 .rw[er];exact Jcc (by decide)
 .rw[er];rcases(show i=0∨i=1∨i=2∨i=3 by omega) with rfl|rfl|rfl|rfl<;>exact Jcc (by decide)
 rw[er]at y;simp only[List.mem_cons,List.not_mem_nil,or_false]at y;rcases y with rfl|rfl|rfl<;>exact Jcc (by decide)
theorem Qhh(hl:ats.length=3)(h:∀ i,i<3->MkA (ats.getD i a0) (c3.vs.getD i []) (c3.rss.getD i [])): Jqv 3 (λ_ _=>2) ⟨3,3,[false,false,false],[],ats⟩=6:=by
 obtain⟨a,b,c,rfl,y,u,j⟩:=Jdq hl h;have D:max (Qf (λ_=>2) ((0:Nat):Int) [a,b,c]) 0=2:=by simp[Qf,Uq,y.vars,u.vars,j.vars];rfl
 have f1:max (Qf (λ_=>2) ((1:Nat):Int) [a,b,c]) 0=2:=by simp[Qf,Uq,y.vars,u.vars,j.vars];rfl
 have B:max (Qf (λ_=>2) ((2:Nat):Int) [a,b,c]) 0=2:=by simp[Qf,Uq,y.vars,u.vars,j.vars];rfl
 have e:(List.range 3).map (λx:Nat=>max (Qf (λ_=>2) (x:Int) [a,b,c]) 0)=[2,2,2]:=by
  show[max (Qf (λ_=>2) ((0:Nat):Int) [a,b,c]) 0,max (Qf (λ_=>2) ((1:Nat):Int) [a,b,c]) 0,max (Qf (λ_=>2) ((2:Nat):Int) [a,b,c]) 0]=_;rw[D,f1,B]
 show hgS ((List.range 3).map (λx:Nat=>max (Qf (λ_=>2) (x:Int) [a,b,c]) 0))=6;rw[e];show[hgt 2,hgt 2,hgt 2].sum=6;rw[hg2];rfl
open Go.RowKit Pl Go.Wk Bl Nw
attribute [local irreducible] WC WL QX WD WDB WP WN WG WH
variable {B0 b:Nat}{w:World}
theorem Qpb(n:Int)(w:World): (Instr.build 102 #[(0,.int .i64 1),(1,.int .i64 n)]).run Tryz.prog w=.ok (nV n).val w:=kr
theorem Gr(n:Int)(w:World): Ret Tryz.prog 36 [.int .i64 n] w λx w'=>x=(nV n).val/\Ext w w':=by
 refine Jz Tryz.func36 Tryz.ntmps36 rfl kr rfl ?_;refine ρ ?_;refine alc zVal ?_;intro w1 b j B y;refine ρ ?_;refine bld (Qpb n _) ?_;refine ρ ?_;refine stb y (cs':=(nV n).cells) ?_ (V.one _);intro w2 u hg2 i;refine ρ ?_;exact Vh u ⟨rfl,i w j B⟩
theorem bs2V(a b:V)(w:World): (Instr.buildSlice 85 2 #[(0,a.val),(1,b.val)]).run Tryz.prog w=.ok (.slice (some ⟨w.heap.size,0,none⟩) 2 2) (w.alloc (.cells (Qj [a,b]).toArray 102)):=kr
theorem bs4R(A1 A2 A3 A4:Option Addr)(n1 n2 n3 n4 c1 c2 c3 c4:Nat)(w:World): (Instr.buildSlice 78 4 #[(0,.slice A1 n1 c1),(1,.slice A2 n2 c2),(2,.slice A3 n3 c3),(3,.slice A4 n4 c4)]).run Tryz.prog w=.ok (.slice (some ⟨w.heap.size,0,none⟩) 4 4) (w.alloc (.cells [.slice A1 n1 c1,.slice A2 n2 c2,.slice A3 n3 c3,.slice A4 n4 c4].toArray 85)):=kr
theorem bs3RR(A1 A2 A3:Option Addr)(n1 n2 n3 c1 c2 c3:Nat)(w:World): (Instr.buildSlice 29 3 #[(0,.slice A1 n1 c1),(1,.slice A2 n2 c2),(2,.slice A3 n3 c3)]).run Tryz.prog w=.ok (.slice (some ⟨w.heap.size,0,none⟩) 3 3) (w.alloc (.cells [.slice A1 n1 c1,.slice A2 n2 c2,.slice A3 n3 c3].toArray 78)):=kr
theorem bs3II(A1 A2 A3:Option Addr)(n1 n2 n3 c1 c2 c3:Nat)(w:World): (Instr.buildSlice 28 3 #[(0,.slice A1 n1 c1),(1,.slice A2 n2 c2),(2,.slice A3 n3 c3)]).run Tryz.prog w=.ok (.slice (some ⟨w.heap.size,0,none⟩) 3 3) (w.alloc (.cells [.slice A1 n1 c1,.slice A2 n2 c2,.slice A3 n3 c3].toArray 22)):=kr
theorem bs2I(a b:Int)(w:World): (Instr.buildSlice 22 2 #[(0,.int .i64 a),(1,.int .i64 b)]).run Tryz.prog w=.ok (.slice (some ⟨w.heap.size,0,none⟩) 2 2) (w.alloc (.cells [Value.int .i64 a,.int .i64 b].toArray 3)):=kr
theorem Qph(A B C:Option Addr)(a b c a' b' c':Nat)(w:World): (Instr.build 31 #[(0,.int .i64 3),(1,.int .i64 3),(2,.slice A a a'),(4,.slice B b b'),(5,.slice C c c')]).run Tryz.prog w=.ok (.agg #[.int .i64 3,.int .i64 3,.slice A a a',.slice none 0 0,.slice B b b',.slice C c c']) w:=kr
theorem Jwq{r:Row}(h:Blk w b 102 (Qj r))(hl:r.length<=1100000): RowV w (.slice (some ⟨b,0,none⟩) r.length r.length) r:=⟨some ⟨b,0,none⟩,r.length,rfl,Nat.le_refl _,hl,h.rd (Jmb r)⟩
theorem Qff(ps:List Pr)(h:Blk w b 85 (ps.map (·.1)))(hr:∀ p∈ps,RowV w p.1 p.2)(hl:ps.length<=1100000): RowsV w (.slice (some ⟨b,0,none⟩) ps.length ps.length) (ps.map (·.2)):=⟨ps,some ⟨b,0,none⟩,ps.length,rfl,rfl,Nat.le_refl _,hl,h.rd (by simp),hr⟩
theorem hg7: hgt 7=4:=by decide +kernel
theorem hg6: hgt 6=3:=by decide +kernel
theorem few3: FewP c3:=⟨by decide,by decide,.inl (by decide),by decide,by decide,by decide,by decide,by decide⟩
theorem mks3: MkS c3:=by
 have j:∀ r∈rw4,r.length=2/\r.all Xa=true:=by decide +kernel
 refine⟨rfl,λi hi=>?_,λi hi=>?_,λi hi=>?_⟩<;>(have hi:i<3:=hi;rcases(show i=0∨i=1∨i=2 by omega) with rfl|rfl|rfl)
 .decide
 .decide
 .decide
 .exact j
 .exact j
 .exact j
 .decide
 .decide
 decide
theorem Qpz(hT:FB B0 w): Ret Tryz.prog 10 [] w λu w'=>u=.bool true/\Ext w w':=by
 refine Jz Tryz.func10 Tryz.ntmps10 rfl kr rfl ?_;refine ρ ?_;refine cl (Gr 1 _) ?_;rintro _ w1 ⟨rfl,bz⟩;refine ρ ?_;refine cl (Gr 1 _) ?_;rintro _ w2 ⟨rfl,bw⟩;refine ρ ?_;refine bsl (bs2V _ _) ?_;intro w3 b3 bu dh c6;refine ρ ?_;refine cl (Gr 1 _) ?_;rintro _ w4 ⟨rfl,bt⟩;refine ρ ?_;refine cl (Gr 2 _) ?_;rintro _ w5 ⟨rfl,bs⟩;refine ρ ?_;refine bsl (bs2V _ _) ?_;intro w6 b6 br dg c5;refine ρ ?_;refine cl (Gr 2 _) ?_;rintro _ w7 ⟨rfl,bq⟩;refine ρ ?_;refine cl (Gr 1 _) ?_;rintro _ w8 ⟨rfl,bp⟩;refine ρ ?_;refine bsl (bs2V _ _) ?_;intro w9 b9 bo df c4;refine ρ ?_;refine cl (Gr 2 _) ?_;rintro _ de ⟨rfl,b7⟩;refine ρ ?_;refine cl (Gr 2 _) ?_;rintro _ dd ⟨rfl,b5⟩;refine ρ ?_;refine bsl (bs2V _ _) ?_;intro db co b1 d0 bf;refine ρ ?_;refine bsl (bs4R _ _ _ _ _ _ _ _ _ _ _ _) ?_;intro da cn az cz be;refine ρ ?_;refine mkn EB 3 (by decide) (by unfold maxLen;decide) ?_
 intro d9 a5 ay a1 _;have e0:(madeCells (Value.bool false).cells (3*1)).toList=[false,false,false].map Value.bool:=kr
 rw[e0]at a1;refine ρ ?_;refine bsl (bs2I _ _) ?_;intro d8 cm ax cy bd;refine ρ ?_;refine bsl (bs2I _ _) ?_;intro d7 ck aw cx bc;refine ρ ?_;refine bsl (bs2I _ _) ?_;intro d6 cj av cw bb;refine ρ ?_;refine bsl (bs3II _ _ _ _ _ _ _ _ _) ?_;intro d5 a4 au cu ba;refine ρ ?_;refine bsl (bs3RR _ _ _ _ _ _ _ _ _) ?_;intro ag a3 ar cr b8;refine ρ ?_;refine bld (Qph _ _ _ _ _ _ _ _ _ _) ?_;have a7:=ar;have a8:=au.trans a7;have a9:=av.trans a8;have aa:=aw.trans a9;have ab:=ax.trans aa;have ad:=ay.trans ab;have ae:=az.trans ad;have bi:=b1.trans ae;have bj:=b5.trans bi;have y9:=b7.trans bj;have y8:=bo.trans y9;have y7:=bp.trans y8;have y6:=bq.trans y7;have y5:=br.trans y6;have y4:=bs.trans y5;have y3:=bt.trans y4;have y2:=bu.trans y3;have y1:=bw.trans y2;have y0:=bz.trans y1;have ca:RowsV ag (.slice (some ⟨cn,0,none⟩) 4 4) rw4:=by
  refine Qff [(.slice (some ⟨b3,0,none⟩) 2 2,nR 1 1),(.slice (some ⟨b6,0,none⟩) 2 2,nR 1 2),(.slice (some ⟨b9,0,none⟩) 2 2,nR 2 1),(.slice (some ⟨co,0,none⟩) 2 2,nR 2 2)] (be.ext ad) (λp hp=>?_) (by simp);simp only[List.mem_cons,List.not_mem_nil,or_false]at hp;rcases hp with rfl|rfl|rfl|rfl
  .exact Jwq (r:=nR 1 1) (c6.ext y3) (by decide)
  .exact Jwq (r:=nR 1 2) (c5.ext y6) (by decide)
  .exact Jwq (r:=nR 2 1) (c4.ext y9) (by decide)
  exact Jwq (r:=nR 2 2) (bf.ext ae) (by decide)
 have hC:CseV ag [.int .i64 3,.int .i64 3,.slice a5 3 3,.slice none 0 0,.slice (some ⟨a4,0,none⟩) 3 3,.slice (some ⟨a3,0,none⟩) 3 3] c3:=by
  refine⟨a5,3,none,0,some ⟨a4,0,none⟩,3,some ⟨a3,0,none⟩,3,rfl,⟨a5,3,rfl,by decide,Rd.own (Jo a1 ab)⟩,⟨none,0,rfl,Nat.le_refl _,Rd.nil⟩,⟨some ⟨a4,0,none⟩,3,_,rfl,by decide,(ba.ext a7).rd rfl,λi hi=>?_⟩,⟨some ⟨a3,0,none⟩,3,_,rfl,by decide,b8.rd rfl,λi hi=>?_⟩,by decide,by decide⟩
  .have hi:i<3:=hi;rcases(show i=0∨i=1∨i=2 by omega) with rfl|rfl|rfl
   .exact⟨_,rfl,some ⟨cm,0,none⟩,2,rfl,by decide,(bd.ext aa).rd rfl⟩
   .exact⟨_,rfl,some ⟨ck,0,none⟩,2,rfl,by decide,(bc.ext a9).rd rfl⟩
   exact⟨_,rfl,some ⟨cj,0,none⟩,2,rfl,by decide,(bb.ext a8).rd rfl⟩
  have hi:i<3:=hi;rcases(show i=0∨i=1∨i=2 by omega) with rfl|rfl|rfl<;>exact⟨_,rfl,ca.m⟩
 refine ρ ?_;refine cl (Qdx hC few3) ?_;rintro u a2 ⟨aq,dA,pA,aA,dc,pc,ac,an,ok,rfl,cd,cb,c2,c7⟩;obtain rfl:ok=true:=c7 mks3 λats hl h=>Jsk hl h;obtain⟨_,ats,hl,hG,hA,_⟩:=c2 rfl;have hl:ats.length=3:=hl;have hA:∀ i,i<3->MkA (ats.getD i a0) (c3.vs.getD i []) (c3.rss.getD i []):=hA;have cc:InV a2 (.agg #[.int .i64 3,.int .i64 3,.slice dA 3 dc,.slice pA 0 pc,.slice aA an ac]) ⟨3,3,[false,false,false],[],ats⟩:=⟨_,rfl,_,_,_,rfl,cd,cb,Jfw hG⟩;have a6:=y0.trans aq;show WL _ _ _ _ _ ((30,.tuple #[.agg #[.int .i64 3,.int .i64 3,.slice dA 3 dc,.slice pA 0 pc,.slice aA an ac],.bool true])::_) _;refine ρ ?_;refine alc Ib ?_;intro d4 b2 ap c9 ch;refine ρ ?_;refine stW ch ?_;intro bn bh cq ao;have y:Ext a2 bn:=ao a2 ap c9;refine ρ ?_;refine ldW bh ?_;refine ρ ?_;refine cl (Jtn (hT.ext (a6.trans y)) (Qhj hl hA) (cc.ext y)) ?_;rintro u af ⟨O,us,VS,vn,vc,rfl,ce,hv,am⟩;rw[Qhh hl hA]
 refine ρ ?_;refine alc Jqg ?_;intro d3 b4 ak c8 cg;refine ρ ?_;refine stW cg ?_;intro bm bg cp aj;have D:Ext af bm:=aj af ak c8;have B:=a6.trans (y.trans (am.trans D));have J:=ce.ext D;obtain⟨u2,e2,c1⟩:=J.2.2.2 2 (by decide);refine ρ ?_;refine cl (Jfm (hT.ext B) 7) ?_;rintro u d2 ⟨rfl,Z⟩;rw[hg7];refine ρ ?_;refine cl (Jfm (hT.ext (B.trans Z)) 6) ?_;rintro u bl ⟨rfl,ai⟩;rw[hg6];have j:=Z.trans ai;have U:=bg.ext j;have G:=J.ext j;refine ρ ?_;refine ld (U.at (i:=0) rfl) ?_;refine ρ ?_;refine ld (U.at (i:=2) rfl) ?_;refine ρ ?_;refine ld (U.at (i:=2) rfl) ?_;refine ρ ?_;refine ix 2 (Rd.own G.2.1) (by decide) ?_;refine ρ ?_;refine ld ((Rd.own G.2.1).cell e2) ?_;have c0:NatV bl u2 8:=c1.ext j;refine ρ ?_;refine cl (Qdg c0) ?_;rintro u d1 ⟨rfl,ah⟩;refine ρ ?_;exact Jq ⟨congrArg Value.bool (beq_self_eq_true _),B.trans (j.trans ah)⟩
open Go.RowKit Pl Go.Wk Bl Nw
theorem Jvl: Uy KQ:=divCL (by unfold KQ;decide)
theorem CseOk.gra{c:Cse}{ats:List Atm}(h:CseOk c ats): GraI c.N c.F (toN c.pm) c.vss (szA ats) ⟨c.n,c.f,c.ds,c.pm,ats⟩:=by
 have B:=h.nN;refine⟨B.1,h.fF.1,h.pm.2.symm,?_,rfl,by show ats.length<=5;rw[h.al];exact h.few.v5,h.pm.1,om,λvs j x y=>?_⟩
 .refine List.ext_getElem (by simp[Cse.vss,h.al];rfl) λi G D=>?_;have hi:i<c.m:=by simpa [Cse.vss] using D
  have u:i<ats.length:=by rw[h.al];exact hi
  simp only[List.getElem_map,Cse.vss,List.getElem_range];rw[(h.vars hi).1,<-(h.mka i hi).vars,Ja a0 u]
 obtain⟨i,hi,rfl⟩:=List.mem_map.1 j;exact(h.vars (List.mem_range.1 hi)).2.2.1 x y
open Go.RowKit Pl Go.Wk Bl Nw
variable {w:World}
theorem Jym{D:Nat->Nat}{vs:List Int}{x e:Int}: ∀ k,(∀ j,j<k->vs.getD j 0≠x)->vK D vs x e k=e
 | 0,_=>rfl
 | k+1,h=>by rw[vK,if_neg (h k om),Jym k λj hj=>h j om]
theorem Jhj{D:Nat->Nat}{vs:List Int}{x e:Int}{k0:Nat}(h0:vs.getD k0 0=x): ∀ k,k0<k->(∀ j,j<k->j≠k0->vs.getD j 0≠x)->vK D vs x e k=if e<0∨(D k0:Int)<e then(D k0:Int) else e
 | k+1,hk,h=>by
  by_cases e1:k=k0
  .subst e1;rw[vK,if_pos h0,Jym k λj hj=>h j om om]
  rw[vK,if_neg (h k om e1),Jhj h0 k om λj hj=>h j om]
section
variable {c:Cse} {ats:List Atm}
theorem CseOk.few_vI(h:CseOk c ats)(x:Nat): ∀ i,i<=c.m->(ats.take i).foldl (Uq (dA x) (x:Int)) (-1)=vI (dC c.rss) c.vs (x:Int) i
 | 0,_=>rfl
 | i+1,hi=>by
  have hia:i<ats.length:=by rw[h.al];exact hi
  have ih:=h.few_vI x i om;have hm:=h.mka i hi;have hv:=h.vars (i:=i) hi;have ea:ats[i]=ats.getD i a0:=(Ja a0 hia).symm;rw[List.take_add_one,List.getElem?_eq_getElem hia,List.foldl_append,ih,vI];simp only[Option.toList_some,List.foldl_cons,List.foldl_nil];rw[ea];generalize vI (dC c.rss) c.vs (x:Int) i=e
  have hnd:(c.vs.getD i []).Nodup:=by
   have hp:(c.vars i).Pairwise (· < ·):=hv.2.1
   rw[<-hv.1,nz,List.Nodup,List.pairwise_map];exact hp.imp fun {a b} hab e=>by omega
  unfold Uq;rw[hm.vars];by_cases hx:(x:Int)∈c.vs.getD i []
  .rw[if_pos hx];obtain⟨k0,hk0,e0⟩:=List.getElem_of_mem hx;have e1:(c.vs.getD i []).getD k0 0=(x:Int):=by rw[Ja 0 hk0,e0]
   rw[Jhj e1 _ hk0 λj hj hne e2=>by
    rw[Ja 0 hj,<-e0]at e2;exact hne ((List.getElem_inj hnd).1 e2)]
   have ed:dA x (ats.getD i a0)=dC c.rss i k0:=by
    unfold dA dC;have ei:(ats.getD i a0).vars.idxOf (x:Int)=k0:=by rw[hm.vars,<-e0];exact hnd.idxOf_getElem k0 hk0
    rw[ei];refine Qms λv=>?_;have hs:=h.set (i:=i) hi;unfold Cse.crs rsA at hs;rw[List.mem_map,List.mem_map];exact⟨λ⟨r,hr,e⟩=>⟨r,(hs.2 r).1 hr,e⟩,λ⟨r,hr,e⟩=>⟨r,(hs.2 r).2 hr,e⟩⟩
   rw[ed]
  rw[if_neg hx,Jym _ λj hj e2=>hx (by rw[Ja 0 hj]at e2;rw[<-e2];exact List.getElem_mem _)]
theorem CseOk.fewP_eq(h:CseOk c ats)(x:Nat): Qf (dA x) (x:Int) ats=vI (dC c.rss) c.vs (x:Int) c.m:=by
 have:=h.few_vI x c.m (Nat.le_refl _);rw[List.take_of_length_le (by rw[h.al];exact Nat.le_refl _)]at this;exact this
theorem CseOk.steps(h:CseOk c ats): Jqv c.F dA ⟨c.n,c.f,c.ds,c.pm,ats⟩=hgS ((List.range c.F).map λx:Nat=>vI (dC c.rss) c.vs (x:Int) c.m):=by
 unfold Jqv hgS;rw[List.map_map,List.map_map];congr 1
 refine List.map_congr_left λx _=>?_;simp only[Function.comp_apply];rw[h.fewP_eq x];generalize vI (dC c.rss) c.vs (x:Int) c.m=z
 rcases Int.le_total 0 z with h1|h1
 .rw[Int.max_eq_left h1]
 rw[Int.max_eq_right h1,Jdc (Int.le_refl 0),Jdc h1]
end
theorem Qpf(w:World): (Instr.build 42 #[]).run Tryz.prog w=.ok (.agg #[.int .i64 0,.int .i64 0,.slice none 0 0,.slice none 0 0]) w:=kr
theorem Jfl(n:Nat): Ze n n=0:=by unfold Ze;rw[if_neg (Nat.lt_irrefl _),if_neg (Nat.lt_irrefl _)]
theorem mk_of{cs:List Value}{c:Cse}(h:CseV w cs c)(hF:FewP c): Ret Tryz.prog 16 [.agg cs.toArray] w λu w'=>Ext w w'/\∃(dA pA aA:Option Addr) (dc pc ac an:Nat) (ok:Bool),u=.tuple #[.agg #[.int .i64 c.n,.int .i64 c.f,.slice dA c.ds.length dc,.slice pA c.pm.length pc,.slice aA an ac],.bool ok] /\
  (ok=true->∃ ats:List Atm,(Yl ⟨c.n,c.f,c.ds,c.pm,ats⟩->CseOk c ats)/\InV w' (.agg #[.int .i64 c.n,.int .i64 c.f,.slice dA c.ds.length dc,.slice pA c.pm.length pc,.slice aA an ac]) ⟨c.n,c.f,c.ds,c.pm,ats⟩) :=
 (Jpd h hF (Ext.refl w)).mono λu w' ⟨j,dA,pA,aA,dc,pc,ac,an,ok,e,O,J,y,_⟩=>⟨j,dA,pA,aA,dc,pc,ac,an,ok,e,λU=>by
  obtain⟨D,ats,B,i,hmk⟩:=y U;exact⟨ats,λG=>⟨hF,D,B,hmk,G⟩,_,rfl,_,_,_,rfl,O.ext j,J.ext j,Jfw i.here⟩⟩
theorem Qlz{v:Value}{inp:Inp}(h:InV w v inp)(hn64:-9223372036854775808<=inp.n/\inp.n<=9223372036854775807)(hf64:-9223372036854775808<=inp.free/\inp.free<=9223372036854775807)(hc:Yu inp≠0):
  Ret Tryz.prog 17 [v] w λu w'=>u=.tuple #[.agg #[.int .i64 0,.int .i64 0,.slice none 0 0,.slice none 0 0],.int .i64 (Yu inp)]/\Ext w w':=by
 have G:=h;obtain⟨cs,rfl,vd,vp,va,rfl,hD,hP,a3⟩:=h;refine Jz Tryz.func17 Tryz.ntmps17 rfl kr rfl ?_;refine ρ ?_;refine bx ?_;intro w1 b1 D a5 a2;refine ρ ?_;refine alc Jqg ?_;intro w2 b2 B U a1;have J:=a2.ext B;have i:=D.trans B;refine ρ ?_;refine ldW J ?_;refine ρ ?_;refine cl (Jwv (G.ext i) hn64 hf64) ?_;rintro u w3 ⟨y,rfl⟩;have j:=i.trans y;refine ρ ?_;refine ct ?_ ?_
 .exact Qjs hc
 refine ρ ?_;refine bld (Qpf _) ?_;refine ρ ?_;refine stW ((a1.ext y)) ?_;intro w4 Z a4 O;refine ρ ?_;exact Zc Z ⟨rfl,O w j (nL D.size U)⟩
open Go.RowKit Pl Go.Wk Bl Nw
theorem Qmc{B0:Nat}{w:World}{cs:List Value}{c:Cse}(hT:FB B0 w)(hC:CseV w cs c):
  Ret Tryz.prog 4 [.agg cs.toArray] w λu w'=>u=.bool true/\Ext w w':=by
 have bl:∀ {w':World},Ext w w'->Ret Tryz.prog 10 [] w' λu e9=>u=.bool true/\Ext w' e9:=λhx=>Qpz (hT.ext hx);obtain⟨fx,fw,fo,fn,fk,fj,cr,cq,fe,_,_,f5,f6,az,b4⟩:=id hC;refine Jz Tryz.func4 Tryz.ntmps4 rfl kr rfl ?_;refine ρ ?_;refine bx ?_;intro w1 b1 d3 ft dx;refine ρ ?_;subst fe;refine ldW dx ?_;refine ρ ?_;refine cl (Qhd (hC.ext d3)) ?_;rintro u w2 ⟨d0,bf,rfl,hF,_⟩;have aj:=d3.trans d0;have bs:=dx.ext d0;cases bf with
 | false=>
  refine ρ ?_;refine cl (bl aj) ?_;rintro _ w3 ⟨rfl,bh⟩;refine ρ ?_;exact Jq ⟨rfl,aj.trans bh⟩
 | true=>
  have hF:=hF rfl;refine ρ ?_;refine ldW bs ?_;refine ρ ?_;refine cl (mk_of (hC.ext aj) hF) ?_;rintro u w3 ⟨bh,dA,pA,aA,dc,pc,ac,an,ok,rfl,eo⟩;have cw:=aj.trans bh;refine ρ ?_;refine alc Ib ?_;intro w4 b3 eb f2 fd;refine ρ ?_;refine stW fd ?_;intro w5 ag fq cz;have a1:Ext w3 w5:=cz w3 eb f2;have ad:=cw.trans a1;cases ok with
  | false=>
   refine ρ ?_;refine cl (bl ad) ?_;rintro _ w6 ⟨rfl,au⟩;refine ρ ?_;exact Jq ⟨rfl,ad.trans au⟩
  | true=>
   obtain⟨ats,f7,b6⟩:=eo rfl;by_cases hE:Yu ⟨c.n,c.f,c.ds,c.pm,ats⟩=0
   case neg=>
    refine ρ ?_;refine ldW ag ?_;refine ρ ?_;refine cl (Qlz (b6.ext a1) az b4 hE) ?_;rintro u w6 ⟨rfl,au⟩;refine ρ ?_;refine alc Jqg ?_;intro w7 b5 c6 cj co;refine ρ ?_;refine stW co ?_;intro w8 bd et aq;have ae:Ext w6 w8:=aq w6 c6 cj;have Z:=au.trans ae;refine ρ ?_;refine ldW (ag.ext Z) ?_;refine ρ ?_;refine cl (Jwv (b6.ext (a1.trans Z)) az b4) ?_;rintro u w9 ⟨D,rfl⟩;have br:=bd.ext D;have bn:=ad.trans (Z.trans D);refine ρ ?_;refine ct ?_ ?_
    .exact Qjs hE
    refine ρ ?_;refine Go.Wk.kt 45 ?_ ?_
    .exact Jft rfl
    refine ρ ?_;refine ld (br.at (i:=2) rfl) ?_;refine ρ ?_;refine ld (br.at (i:=0) rfl) ?_;refine ρ ?_;refine cl (bl bn) ?_;rintro _ bz ⟨rfl,ay⟩;refine ρ ?_;exact Jq ⟨rfl,bn.trans ay⟩
   have db:=idxE_iff.1 hE;have hO:=f7 db;have fu:=hO.nN.2;obtain⟨cu,fm,ck⟩:=Qpv (n:=c.N) (es:=c.es) (ord:=Zv (toN c.pm) c.F) om hO.elt;refine ρ ?_;refine ldW ag ?_;refine ρ ?_;refine cl (Jtn (hT.ext ad) (hO.costI Jvl ck) (b6.ext a1)) ?_;rintro u w6 ⟨O,us,VS,vn,vc,rfl,du,hv,au⟩;refine ρ ?_;refine alc Jqg ?_;intro w7 b5 c6 cj co;refine ρ ?_;refine stW co ?_;intro w8 bd et aq;have ae:Ext w6 w8:=aq w6 c6 cj;have Z:=au.trans ae;refine ρ ?_;refine ldW (ag.ext Z) ?_;refine ρ ?_;refine cl (Jwv (b6.ext (a1.trans Z)) az b4) ?_;rintro u w9 ⟨D,rfl⟩;rw[hE];have av:=Z.trans D;refine ρ ?_;refine ldW (ag.ext av) ?_;refine ρ ?_;refine cl (Qgq hO.gra (b6.ext (a1.trans av))) ?_;rintro u bz ⟨GA,gc,B,SA,sc,kf,pf,rfl,hG,fb,b7,cm,ay⟩;have a3:(szA ats).length=c.m:=by rw[hO.szl,c.esl]
   obtain⟨bm,ao,eS,d5,ef⟩:=Jc cm;obtain⟨rfl,rfl⟩:bm=SA/\ao=sc:=by injection eS with e1 _ e3;exact⟨e1.symm,e3.symm⟩
   rw[a3]at cm d5 ef ⊢;refine ρ ?_;refine alc Ic ?_;intro fi b8 d2 f0 fc;refine ρ ?_;refine stW fc ?_;intro bw bc ff c9;have J:Ext bz bw:=c9 bz d2 f0;have a7:=ay.trans J;have aw:=av.trans a7;have c4:=ad.trans aw;have fp:=hO.few.v5;have fr:c.m=c.vs.length:=rfl;have d7:(c.vss.map Xx).length=c.m:=c.esl;have dk:=Rd.own (Jo cm J);have dq:=Rd.own (Jo fb J);have dd:=Jtp (w:=bw) (A:=GA) (c:=gc) (cb:=c.N) (SA:=bm) (sc:=ao) (sizes:=szA ats) (r:=Yk c kf (szA ats)) (hG.ext J) dq (λv hv=>(b7 v hv).1) (by rw[a3];exact dk) (by rw[a3];exact d5) (by rw[d7];exact a3) (by rw[d7,<-c.esl];exact hO.five) (λv hv=>hO.bagB Jvl hO.szl hO.szs b7 hv);rw[a3]at dd;refine ρ ?_;refine ldW bc ?_;refine ρ ?_;refine cl dd ?_;rintro _ bu ⟨O2,fl,rfl,bq,a6⟩;have c7:Ext w2 bu:=bh.trans (a1.trans (aw.trans a6));have ai:=bs.ext c7;have aa:=(bd.ext D).ext (a7.trans a6);have c0:=c4.trans a6;refine ρ ?_
   refine ld (ai.at (i:=0) rfl) ?_;refine ρ ?_;refine Go.Wk.kf 90 ?_ ?_
   .exact Jfr (by have:=hO.nN.1;omega)
   refine ρ ?_;refine ld (aa.at (i:=2) rfl) ?_;refine ρ ?_;refine ld (ai.at (i:=0) rfl) ?_;refine ρ ?_;refine cf ?_ ?_
   .exact Jfr (by have:=hO.nN.1;omega)
   refine ρ ?_;refine cl (Xd 0 (by decide) _) ?_;rintro nv fh ⟨ep,d1⟩;refine ρ ?_;have dn:=hO.costI Jvl ck;have e0:∀ v,v<c.N->Yk c cu (szA ats) v=Yk c kf (szA ats) v:=λv hv=>by unfold Yk;rw[Qqc ck b7 hv]
   generalize hr:Yk c cu (szA ats)=r at *
   refine Ju (fun (k:Nat) (sv:Value)=>[(1,.pointer (some ⟨b1,0,none⟩)),(5,.pointer (some ⟨b5,0,none⟩)),(8,.pointer (some ⟨b8,0,none⟩)),(9,.slice B c.N c.N),(10,.slice bm c.m ao),(12,.slice O2 c.N c.N),(14,sv),(15,.int .i64 (k:Int))])
    (λk sv w'=>k<=c.N/\Ext bu w'/\NatV w' sv ((((List.range c.N).map r).take k).foldl (· + ·) 0)) (λk _=>c.N-k) 0 nv sB ⟨Nat.zero_le _,d1,by rw[List.take_zero];exact ep.1⟩ ?_
   rintro k sv a4 ⟨hk,a5,ca⟩;have ab:=ai.ext a5;refine ρ ?_;refine ld (ab.at (i:=0) rfl) ?_;refine ρ ?_;refine ci (λh=>?_) (λh=>?_)
   .have lk:k<c.N:=by have:=oT h;have:=hO.nN.1;omega
    clear h;have dg:=hO.bagB Jvl hO.szl hO.szs b7 lk;rw[<-e0 k lk]at dg;obtain⟨df,de,ch,fg,pc,K,K2,ce,en,d9,ek,ew,ej,ey,da,em,hK,f9,f8,d8,cc⟩:=dg;have c5:Ext a4 a4.drew:=(Ext.refl a4).drew;have a9:Ext bw a4.drew:=a6.trans (a5.trans c5);have dw:=bc.ext a9;have bp:=dq.ext a9;have fa:=(hG.ext J).ext a9;have cg:∀ j u,(Zd kf pf k)[j]?=some u->a4.drew.cell? ((adr B (k*3)).add j)=some u:=λj u hu=>by
     have hj:j<3:=by grind [Nat.lt_or_ge,List.getElem?_eq_none,Zd]
     rw[Uv];exact bp.cell ((Jdj (sz:=3) (λ_ _=>rfl) lk hj).trans hu)
    refine ρ ?_;refine drH (λi=>Nat.ble 11 i) ?_;refine Vd (fuel':=8) 20 [(0,0),(0,1),(0,2),(0,3),(0,4)] (lst 13 5) kr kr rfl ?_;refine ρd ?_;refine Qw (cs:=grC GA gc c.N c.es) (λj u hu=>dw.at hu) ?_;refine ρd ?_;refine Qe 3 k bp lk ?_;refine ρd ?_;refine Qw (cs:=Zd kf pf k) cg ?_;refine ρd ?_;refine Zb ?_;refine hcut 2 (lst 13 11) (fun (y:List Value×Nat)=>[(113,.agg y.1.toArray),(114,.int .i64 0),(16,.pointer (some ⟨y.2,0,none⟩)),(1,.pointer (some ⟨b1,0,none⟩)),(5,.pointer (some ⟨b5,0,none⟩)),(8,.pointer (some ⟨b8,0,none⟩)),(9,.slice B c.N c.N),(10,.slice bm c.m ao),(12,.slice O2 c.N c.N),(14,sv),(15,.int .i64 (k:Int))])
     (λy W=>Ext a4.drew W/\CovC pc.ws W y.1/\Blk W y.2 60 [.slice none 0 0,.slice none 0 0,.bool false,.slice none 0 0,.slice none 0 0]/\a4.drew.heap.size<=y.2) ?_ ?_
    rotate_left
    .intro rest;refine Jdb 14 9 2 _ (lst 13 11) [5,6,7,8,9,10] [111,112,105,113,114,16] [SF.eq (.int .u32 ((kf k ||| 2^k:Nat):Int)),SF.cov pc.ws,SF.cov pc.ws,SF.cv pc.ws,SF.eq (.int .i64 0),SF.bxz a4.drew.heap.size] kr (by rfl) ?_ ?_ ?_
     .refine gsc (λvs w9 D hd=>?_) ?_
      .simp only[slM];refine cl (Jsp om (b7 k lk).1 _) ?_;rintro u W ⟨rfl,hy⟩;exact Jp (Qd hy rfl)
      refine gsc (λvs w9 D hd=>?_) ?_
      .have e2:vs 0=_:=hd 0;simp only[slM,e2];refine cl (Jtl (fa.ext D) df de hO.five ch ce en) ?_;rintro u W ⟨W0,P0,q1,q2,rfl,hW,hP,bj,cd,hy⟩;obtain⟨W1,W3,_,rfl,_⟩:=id hW.el;obtain⟨P1,P3,_,rfl,_⟩:=id hP.el;obtain⟨Q1,m1,c1,rfl⟩:=bj.1.slc;obtain⟨Q2,m2,c2,rfl⟩:=cd.1.slc;exact Jp (Qd hy ⟨_,rfl,W1,W3,P1,_,P3,_,Q1,m1,c1,Q2,m2,c2,rfl,hW⟩)
      refine gsc (λvs w9 D hd=>?_) ?_
      .obtain⟨cs,e3,af⟩:=hd 1;simp only[slM,e3];refine ρ ?_;exact Qd (Ext.refl _) ⟨cs,rfl,af⟩
      refine gsc (λvs w9 D hd=>?_) ?_
      .obtain⟨cs,e4,af⟩:=hd 2;simp only[slM,e4];refine ρ ?_;exact Qd (Ext.refl _) ⟨cs,rfl,af⟩
      refine gsc (λvs w9 D hd=>?_) ?_
      .obtain⟨cs,e4,af⟩:=hd 2;simp only[slM,e4];refine ρ ?_;exact Qd (Ext.refl _) rfl
      refine gsc (λvs w9 D hd=>?_) gse
      simp only[slM];refine alc Kx ?_;intro W b9 hy ez ba;exact Jp (Qd hy ⟨b9,rfl,ba,Nat.le_trans D.size ez⟩)
     .intro vs W hy hf;obtain⟨b9,e7,ba,h9⟩:=hf 5;obtain⟨cs,e5,af⟩:=hf 3;have e6:vs 4=_:=hf 4;simp only[slM,e7,e6,e5];exact rest (cs,b9) _ _ ⟨hy,af,ba,h9⟩ sB
     intro _ vs W hy hf;obtain⟨b9,e7,ba,h9⟩:=hf 5;obtain⟨cs,e5,af⟩:=hf 3;obtain⟨fy,e4,_⟩:=hf 2;simp only[slM,e7,e5,e4];refine hpur (fuel':=2) 9 kr kr rfl rfl ?_;refine ρp ?_;refine ρd ?_;refine Zb ?_;refine Uj (listed':=lst 13 11) kr ?_;exact rest (cs,b9) _ _ ⟨hy,af,ba,h9⟩ sB
    rintro⟨cs,b9⟩ W ⟨ea,⟨WA,W3,P1,P2,P3,bb,Q1,m1,c1,Q2,m2,c2,e,f3⟩,cn,di⟩;simp only at e cn di;subst e;refine Vd (fuel':=0) 14 [(2,11),(2,12)] (lst 13 13) kr kr rfl ?_;refine Jy ?_;refine stW cn ?_;intro W2 dt d6 cx;refine Jp (Qz ?_);refine Jy ?_;refine ρ ?_;refine Qz ?_;refine Jzd (Zb ?_);refine Xm kr ?_;have ar:Ext a4.drew W2:=cx a4.drew ea di;have dj:=(Jtm f3 cn d9).gr RtC.sta (by decide) (GrN.by (N:=λq=>q=b9) d6 λq e=>by injection e with e;exact e.symm);have c8:=a9.trans ar;refine ρ ?_;refine lds (cs:=[.slice WA pc.ws.length W3,.slice P1 P2 P3,.bool bb,.slice Q1 m1 c1,.slice Q2 m2 c2]) (λj u hu=>dt.at hu) ?_;refine ρ ?_;have dh:=Qjr (sizes:=szA ats) (sc:=ao) (b:=bb) (P1:=P1) (P2:=P2) (P3:=P3) (Q1:=Q1) (Q2:=Q2) (m1:=m1) (c1:=c1) (m2:=m2) (c2:=c2) (dj.old RtC.sta (by decide) λk hk=>hk.elim) (by rw[a3];exact dk.ext c8) ek ew ej ey da em hK f9 f8 d8
    rw[a3]at dh;refine cl dh ?_;rintro u bt ⟨⟨v,r',rfl,bi,ei⟩,am⟩;rw[cc r' ei]at bi;have a2:Ext bu bt:=(a5.trans c5).trans (ar.trans am);have bo:Ext w6 bt:=ae.trans ((D.trans a7).trans (a6.trans a2));obtain⟨u1,ed,bj⟩:=bq.2.2.2 k lk;obtain⟨u2,ec,cd⟩:=du.2.2.2 k lk;rw[<-e0 k lk]at bj;have dm:=(Rd.own bq.2.1).ext a2;have dl:=(Rd.own du.2.1).ext bo;refine ρ ?_;refine ix k dm lk ?_;refine ρ ?_;refine ld (dm.cell ed) ?_;refine ρ ?_;refine cl (Gt (bj.ext a2) bi) ?_;rintro _ cp ⟨rfl,U⟩;rw[Jfl];refine ρ ?_;refine ld ((aa.ext (a2.trans U)).at (i:=2) rfl) ?_;refine ρ ?_;refine ix k (dl.ext U) lk ?_;refine ρ ?_;refine ld ((dl.ext U).cell ec) ?_;refine ρ ?_;refine cl (Gt (cd.ext (bo.trans U)) (bi.ext U)) ?_;rintro _ e8 ⟨rfl,ak⟩;rw[Jfl];refine ρ ?_;have a8:=U.trans ak;have eh:=dn.oneN (r k) (List.mem_map.2 ⟨k,List.mem_range.2 lk,rfl⟩);have ee:=dn.subN k (Nat.le_of_lt lk);have es:(((List.range c.N).map r).take (k+1)).foldl (· + ·) 0=(((List.range c.N).map r).take k).foldl (· + ·) 0+r k:=by
     have e:((List.range c.N).map r).take (k+1)=((List.range c.N).map r).take k++[r k]:=by
      rw[List.take_add_one];simp[lk]
     rw[e,List.foldl_append];rfl
    refine cl (Jnt (ca.ext ((c5.trans (ar.trans am)).trans a8)) (bi.ext a8) ee.len eh.len) ?_;rintro s2 dz ⟨eg,ax⟩;refine ρ ?_;exact Js (k+1) s2 sO ⟨lk,a2.trans (a8.trans ax),by rw[es];exact eg⟩ om
   have er:k=c.N:=by have:=oF h;have:=hO.nN.1;omega
   subst er;clear h;rw[List.take_of_length_le (by simp)]at ca;rw[hO.steps]at aa;have ah:=c0.trans a5;have eu:=hO.fF;have b2:=hO.len;have bg:=aa.ext a5;refine ρ ?_;refine ld (ab.at (i:=1) rfl) ?_;refine ρ ?_;refine ld (ab.at (i:=4) rfl) ?_;refine ρ ?_;refine ld (ab.at (i:=5) rfl) ?_;rw[eu.1];refine ρ ?_;have d4:=Qxt (m:=c.vs.length) (vss:=c.vs) (rss:=c.rss) (f:=c.F) (f5.ext ah) (by have:=f6.ext ah;rw[<-b2]at this;exact this) rfl b2.symm om hF.v5 hF.v8 (λi hi=>by have:=hF.row i om;omega) (λi hi r hr=>((hO.mka i hi).ok r hr).1);have esl:(Value.slice cr c.vs.length cq)=.slice cr c.rss.length cq:=by rw[b2]
   rw[esl]at d4;refine cl d4 ?_;rintro u bt ⟨f4,am⟩;refine ρ ?_;refine cl (Qvs f4) ?_;rintro _ cp ⟨rfl,U⟩;have G:=am.trans U;have cy:Ext w6 cp:=ae.trans ((D.trans a7).trans (a6.trans (a5.trans G)));refine ρ ?_;refine ld ((bg.ext G).at (i:=3) rfl) ?_;refine ρ ?_;refine cl (Gt (hv.ext cy) (ca.ext G)) ?_;rintro _ e8 ⟨rfl,ak⟩;rw[Jfl];have be:=(bg.ext G).ext ak;have ap:=ah.trans (G.trans ak);refine ρ ?_;refine ld (be.at (i:=0) rfl) ?_;refine ρ ?_;refine Go.Wk.kt 168 ?_ ?_
   .exact Jft rfl
   refine ρ ?_;refine ld (be.at (i:=1) rfl) ?_;refine ρ ?_;refine Go.Wk.kt 174 ?_ ?_
   .exact Jft rfl
   refine ρ ?_;refine cl (bl ap) ?_;rintro _ dz ⟨rfl,ax⟩;refine ρ ?_;exact Jq ⟨rfl,ap.trans ax⟩
end Go.Proofs.YtebiphhfkdbpfaaGreatDoor
namespace Go.Wk
open Go.RowKit Go.ChangeShapes Go.WideShapes
variable {cap e fuel len t:Nat}{A:Option Addr}{α:Type}
section
variable {H:Type} {enc:TypeId×Value->H} {P:Program} {w:World} {base:Nat} {spare:Nat->Bool} {held:Bool}
theorem rd_of{sz:Nat}{cs:List Value}{ad:Addr}(hA:A=some ad)(hl:cs.length=len*sz)(hc:∀ j u,cs[j]?=some u->w.cell? (ad.add j)=some u): Rd w sz A len cs :=
 ⟨hl,λh0=>⟨ad,hA,by
  have i:=hc 0 cs[0] (gE h0);rw[add_zero]at i;exact World.block_lt_of_cell? w ad i,hc⟩⟩
theorem Qbt{sz:Nat}{x:DataW H×List MemPlace}(X:α->List Value)(R:α->Prop)(ht:P.underlying t=some (.slice e))(hc:P.cellsOf e=sz)(hX:∀(n:Nat) (cs':List Value) (y:DataW H×List MemPlace),DataW.trod enc P w base spare held n e cs'=some y->∃ z:α,cs'=X z/\R z)(h:DataW.trod enc P w base spare held fuel t [.slice A len cap]=some x): ∃ l:List α,l.length=len/\Rd w sz A len (l.flatMap X)/\(∀ z∈l,R z)/\len<=cap/\cap<=maxLen:=by
 rcases Go.Deep.open_slice ht h with⟨i,_⟩|⟨a,len',cap',m,n,D,Pl,i,_,hl,hm,hmm,_,hel⟩
 .simp only[List.cons.injEq,Value.slice.injEq,and_true]at i;obtain⟨rfl,rfl,rfl⟩:=i;exact⟨[],rfl,Rd.nil,(λz J=>by cases J),Nat.le_refl _,Nat.zero_le _⟩
 simp only[List.cons.injEq,Value.slice.injEq,and_true]at i;obtain⟨rfl,rfl,rfl⟩:=i;have a1:len<=m:=by grind
 have key:∀ k,k<=len->∃ l:List α,l.length=k/\(l.flatMap X).length=k*sz/\(∀ j u,(l.flatMap X)[j]?=some u->w.cell? (a.add j)=some u)/\∀ z∈l,R z:=by
  intro k;induction k with
  | zero=>intro _;exact⟨[],rfl,by simp,(λj u G=>by simp at G),(λz J=>by cases J)⟩
  | succ k ih=>
   intro hk;obtain⟨l,h1,h2,h3,h4⟩:=ih om;obtain⟨cs',B,O⟩:=hel k om;obtain⟨z,rfl,J⟩:=hX n cs' _ O;rw[hc]at B;obtain⟨_,Z,U⟩:=World.cells?_some B;refine⟨l++[z],by simp[h1],?_,?_,?_⟩
   .grind
   .intro j u G;rw[List.flatMap_append]at G;simp only[List.flatMap_cons,List.flatMap_nil,List.append_nil]at G;rcases Nat.lt_or_ge j (k*sz) with hj|hj
    .grind
    rw[List.getElem?_append_right om,h2]at G;have hb:j-k*sz<sz:=by grind
    have:=U (j-k*sz) hb;rw[Jvz]at this;grind
   repeat grind
 obtain⟨l,h1,h2,h3,h4⟩:=key len (Nat.le_refl _);grind [rd_of]
theorem Jxz(f:α->Value)(l:List α): l.flatMap (λz=>[f z])=l.map f:=by induction l<;>simp_all
end
end Go.Wk
namespace Go.Proofs.YtebiphhfkdbpfaaGreatDoor
open Go.RowKit Pl Go.Wk Go.ChangeShapes Go.WideShapes
section
variable {H:Type} {enc:TypeId×Value->H} {P:Program} {w:World} {base:Nat} {spare:Nat->Bool} {held:Bool}
theorem Jjb{α:Type}{t e sz:Nat}{fuel:Nat}{cs:List Value}{x:DataW H×List MemPlace}(X:α->List Value)(R:α->Prop)(ht:P.underlying t=some (.slice e))(hc:P.cellsOf e=sz)(hX:∀(n:Nat) (cs':List Value) (y:DataW H×List MemPlace),DataW.trod enc P w base spare held n e cs'=some y->∃ z:α,cs'=X z/\R z)(h:DataW.trod enc P w base spare held fuel t cs=some x): ∃(l:List α) (A:Option Addr) (cap:Nat),cs=[.slice A l.length cap]/\Rd w sz A l.length (l.flatMap X)/\(∀ z∈l,R z)/\l.length<=cap:=by
 have key:∀(A:Option Addr) (len cap:Nat),cs=[.slice A len cap]->∃(l:List α) (A:Option Addr) (cap:Nat),cs=[.slice A l.length cap]/\Rd w sz A l.length (l.flatMap X)/\(∀ z∈l,R z)/\l.length<=cap:=λA len cap e=>by
  subst e;obtain⟨l,G,B,u,j,_⟩:=Qbt X R ht hc hX h;subst G;exact⟨l,A,cap,rfl,B,u,j⟩
 rcases Go.Deep.open_slice ht h with⟨i,_⟩|⟨a,len,cap,m,n,D,Pl,i,_⟩
 .exact key _ _ _ i
 exact key _ _ _ i
end
section
variable {H:Type} {enc:TypeId×Value->H} {w:World} {base b0:Nat} {spare:Nat->Bool} {held:Bool}
end
theorem gFibT: (Tryz.prog.globals[0]?).map (·.type)=some 105:=kr
theorem fb_of{W:World}(h:laidMetH Tryz.prog [("ordinal/cost.fibonacci",Rows.laid_ordinal_cost_fibonacci)] W): FB W.heap.size W:=by
 refine⟨Nat.le_refl _,Lib.tabBelow_of_tabIs ?_⟩;have i:=h.filter (λx=>x.1 == "ordinal/cost.fibonacci");exact Lib.tabIs_of_head (rest:=[]) gFib gFibT Tryz.underlying105 Tryz.underlying3 kr kr i
def layOn(d:DataW Unit): Obj->Obj
 | .cells _ t z=>.cells (match d with
  | .agg ps=>(ps.map fun
   | .lit (.int k z)=>Value.int k z
   | _=>Value.bool false).toArray
  | _=>#[]) t z
 | o=>o
open Go.RowKit Pl Go.Wk Go.ChangeShapes Go.WideShapes
variable {cs:List Value}{n:Nat}
def Iq(v:V): Prop:=(-9223372036854775808<=v.kind/\v.kind<=9223372036854775807)/\(-9223372036854775808<=v.num/\v.num<=9223372036854775807)
section
variable {H:Type} {enc:TypeId×Value->H} {w:World} {base b0:Nat} {spare:Nat->Bool} {held:Bool}
theorem Qbn{y:DataW H×List MemPlace}(h:DataW.trod enc Tryz.prog w base spare held n 102 cs=some y): ∃ v:V,cs=v.cells/\Iq v:=by
 obtain⟨u,m,_,_,j,B,G⟩:=DataW.trod_struct Tryz.underlying102 h;have D:cs.length=3:=by rw[j];kernel_rfl
 have a1:u.length=3:=B;match cs,D with
 | [c0,c1,c2],_=>
  have O:DataW.trod enc Tryz.prog w base spare held m 3 (([c0,c1,c2].drop 0).take (Tryz.prog.cellsOf 3))=u[0]?:=G 0 _ rfl;have f1:DataW.trod enc Tryz.prog w base spare held m 2 (([c0,c1,c2].drop 1).take (Tryz.prog.cellsOf 2))=u[1]?:=G 1 _ rfl;have J:DataW.trod enc Tryz.prog w base spare held m 9 (([c0,c1,c2].drop 2).take (Tryz.prog.cellsOf 9))=u[2]?:=G 2 _ rfl;rw[show Tryz.prog.cellsOf 3=1 by kernel_rfl,List.getElem?_eq_getElem om]at O;rw[show Tryz.prog.cellsOf 2=1 by kernel_rfl,List.getElem?_eq_getElem om]at f1;rw[show Tryz.prog.cellsOf 9=1 by kernel_rfl,List.getElem?_eq_getElem om]at J;obtain⟨k,e0,_,wk⟩:=DataW.trod_int Tryz.underlying3 O;obtain⟨i,Z,_,wi⟩:=DataW.trod_int Tryz.underlying2 f1;obtain⟨s,U,_,_⟩:=DataW.trod_string Tryz.underlying9 J;simp at e0 Z U;subst e0;subst Z;subst U;exact⟨⟨k,i,s⟩,rfl,bounds_i64 wk,bounds_i64 wi⟩
def RowE(w:World)(v:Value)(r:Row): Prop:=RowM w v r/\∀ u∈r,Iq u
theorem Qbr{y:DataW H×List MemPlace}(h:DataW.trod enc Tryz.prog w base spare held n 85 cs=some y): ∃ p:Pr,cs=[p.1]/\RowE w p.1 p.2:=by
 obtain⟨l,A,i,e,D,B,u⟩:=Jjb (sz:=3) V.cells Iq Tryz.underlying85 kr (λn G y j=>Qbn j) h;exact⟨(.slice A l.length i,l),e,⟨A,i,rfl,u,D⟩,B⟩
def Qql(w:World)(v:Value)(ls:List Row): Prop:=RowsM w v ls/\∀ r∈ls,∀ u∈r,Iq u
theorem Qbq{y:DataW H×List MemPlace}(h:DataW.trod enc Tryz.prog w base spare held n 78 cs=some y): ∃ p:Value×List Row,cs=[p.1]/\Qql w p.1 p.2:=by
 obtain⟨ps,A,i,e,D,B,U⟩:=Jjb (sz:=1) (λp:Pr=>[p.1]) (λp=>RowE w p.1 p.2) Tryz.underlying78 kr (λn Z y G=>Qbr G) h;rw[Jxz]at D;exact⟨(.slice A ps.length i,ps.map (·.2)),e,⟨ps,A,i,rfl,rfl,U,D,λp j=>(B p j).1⟩,λr O u J=>by
  obtain⟨p,j,rfl⟩:=List.mem_map.1 O;exact(B p j).2 u J⟩
theorem Qbp{y:DataW H×List MemPlace}(h:DataW.trod enc Tryz.prog w base spare held n 29 cs=some y):
  ∃(A:Option Addr) (c:Nat) (rss:List (List Row)),cs=[.slice A rss.length c]/\RowssV w (.slice A rss.length c) rss/\∀ i,i<rss.length->∀ r∈rss.getD i [],∀ u∈r,Iq u:=by
 obtain⟨ps,A,B,e,O,J,h3⟩:=Jjb (sz:=1) (λp:Value×List Row=>[p.1]) (λp=>Qql w p.1 p.2) Tryz.underlying29 kr (λn Z y U=>Qbq U) h;rw[Jxz]at O;have D:(ps.map (·.2)).length=ps.length:=List.length_map _
 have G:∀ i,i<ps.length->(ps.map (·.2)).getD i []=(ps.getD i (.bool false,[])).2:=by grind
 refine⟨A,B,ps.map (·.2),by rw[D];exact e,⟨A,B,ps.map (·.1),rfl,om,by rw[D];exact O,λi hi=>?_⟩,λi hi=>?_⟩
 .have j:i<ps.length:=om
  rw[G i j];exact⟨(ps.getD i (.bool false,[])).1,by grind,(J _ (getD_mem' _ _ j)).1⟩
 have j:i<ps.length:=om
 rw[G i j];exact(J _ (getD_mem' _ _ j)).2
theorem Jnh{y:DataW H×List MemPlace}(h:DataW.trod enc Tryz.prog w base spare held n 22 cs=some y): ∃ p:Value×List Int,cs=[p.1]/\IntsM w p.1 p.2/\∃ A c,p.1=.slice A p.2.length c:=by
 obtain⟨l,A,i,e,j,G,B⟩:=Jjb (sz:=1) (λz:Int=>[Value.int .i64 z]) (λ_=>True) Tryz.underlying22 kr (λn D y u=>by obtain⟨z,e,_,_⟩:=DataW.trod_int Tryz.underlying3 u;exact⟨z,e,trivial⟩) h;rw[Jxz]at j;exact⟨(.slice A l.length i,l),e,⟨A,i,rfl,B,j⟩,A,i,rfl⟩
theorem Qbs{y:DataW H×List MemPlace}(h:DataW.trod enc Tryz.prog w base spare held n 28 cs=some y):
  ∃(A:Option Addr) (c:Nat) (zss:List (List Int)),cs=[.slice A zss.length c]/\IntssV w (.slice A zss.length c) zss:=by
 obtain⟨ps,A,j,e,B,U,O⟩:=Jjb (sz:=1) (λp:Value×List Int=>[p.1]) (λp=>IntsM w p.1 p.2) Tryz.underlying28 kr (λn J y D=>by obtain⟨p,e,G,_⟩:=Jnh D;exact⟨p,e,G⟩) h;rw[Jxz]at B;have u:(ps.map (·.2)).length=ps.length:=List.length_map _
 refine⟨A,j,ps.map (·.2),by rw[u];exact e,⟨A,j,ps.map (·.1),rfl,om,by rw[u];exact B,λi hi=>?_⟩⟩
 grind
theorem Qbx{y:DataW H×List MemPlace}(h:DataW.trod enc Tryz.prog w base spare held n 27 cs=some y): ∃(A:Option Addr) (c:Nat) (l:List Bool),cs=[.slice A l.length c]/\BoolsM w (.slice A l.length c) l:=by
 obtain⟨l,A,i,e,j,G,B⟩:=Jjb (sz:=1) (λz:Bool=>[Value.bool z]) (λ_=>True) Tryz.underlying27 kr (λn D y u=>by obtain⟨z,e,_⟩:=DataW.trod_bool Tryz.underlying4 u;exact⟨z,e,trivial⟩) h;rw[Jxz]at j;exact⟨A,i,l,e,⟨A,i,rfl,B,j⟩⟩
def Qqp(w:World)(v:Value): Prop:=∃(cs:List Value) (c:Cse),v=.agg cs.toArray/\CseV w cs c/\∀ i,i<c.rss.length->∀ r∈c.rss.getD i [],∀ u∈r,Iq u
set_option linter.constructorNameAsVariable false in
theorem Qbv{y:DataW H×List MemPlace}(h:DataW.trod enc Tryz.prog w base spare held n 31 cs=some y): ∃ c:Cse,CseV w cs c/\∀ i,i<c.rss.length->∀ r∈c.rss.getD i [],∀ u∈r,Iq u:=by
 obtain⟨j,m,_,hx,D,O,B⟩:=DataW.trod_struct Tryz.underlying31 h;have U:cs.length=6:=by rw[D];kernel_rfl
 match cs,U with
 | [c0,c1,c2,c3,c4,c5],_=>
  have a1:j.length=6:=O;subst hx;have f0:DataW.trod enc Tryz.prog w base spare held m 3 (([c0,c1,c2,c3,c4,c5].drop 0).take (Tryz.prog.cellsOf 3))=j[0]?:=B 0 _ rfl;have f1:DataW.trod enc Tryz.prog w base spare held m 3 (([c0,c1,c2,c3,c4,c5].drop 1).take (Tryz.prog.cellsOf 3))=j[1]?:=B 1 _ rfl;have f2:DataW.trod enc Tryz.prog w base spare held m 27 (([c0,c1,c2,c3,c4,c5].drop 2).take (Tryz.prog.cellsOf 27))=j[2]?:=B 2 _ rfl;have f3:DataW.trod enc Tryz.prog w base spare held m 22 (([c0,c1,c2,c3,c4,c5].drop 3).take (Tryz.prog.cellsOf 22))=j[3]?:=B 3 _ rfl;have f4:DataW.trod enc Tryz.prog w base spare held m 28 (([c0,c1,c2,c3,c4,c5].drop 4).take (Tryz.prog.cellsOf 28))=j[4]?:=B 4 _ rfl;have f5:DataW.trod enc Tryz.prog w base spare held m 29 (([c0,c1,c2,c3,c4,c5].drop 5).take (Tryz.prog.cellsOf 29))=j[5]?:=B 5 _ rfl;rw[show Tryz.prog.cellsOf 3=1 by kernel_rfl,List.getElem?_eq_getElem om]at f0 f1
  rw[show Tryz.prog.cellsOf 27=1 by kernel_rfl,List.getElem?_eq_getElem om]at f2;rw[show Tryz.prog.cellsOf 22=1 by kernel_rfl,List.getElem?_eq_getElem om]at f3;rw[show Tryz.prog.cellsOf 28=1 by kernel_rfl,List.getElem?_eq_getElem om]at f4;rw[show Tryz.prog.cellsOf 29=1 by kernel_rfl,List.getElem?_eq_getElem om]at f5;obtain⟨n,e0,_,w0⟩:=DataW.trod_int Tryz.underlying3 f0;obtain⟨f,e1,_,w1⟩:=DataW.trod_int Tryz.underlying3 f1;obtain⟨A2,k2,ds,e2,g2⟩:=Qbx f2;obtain⟨⟨p3,pm⟩,Z,g3,A3,k3,J⟩:=Jnh f3;simp only at J g3 Z;subst J;obtain⟨A4,k4,vs,e4,g4⟩:=Qbs f4;obtain⟨A5,k5,rss,e5,g5,G⟩:=Qbp f5;simp at e0 e1 e2 Z e4 e5;subst e0;subst e1;subst e2;subst Z;subst e4;subst e5;exact⟨⟨n,f,ds,pm,vs,rss⟩,⟨A2,k2,A3,k3,A4,k4,A5,k5,rfl,g2,g3,g4,g5,bounds_i64 w0,bounds_i64 w1⟩,G⟩
theorem Qbw{v:Value}{d:DataW H}{p:List MemPlace}(hv:Value.okWide Tryz.prog w .any b0 31 v)(h:DataW.Trod enc Tryz.prog w base spare held 31 v d p): Qqp w v:=by
 simp only[Value.okWide,Tryz.underlying31]at hv;obtain⟨⟨l⟩,rfl,_,_⟩:=hv;obtain⟨i,h⟩:=h;obtain⟨c,u,j⟩:=Qbv h;exact⟨l,c,rfl,u,j⟩
end
open Go.RowKit Pl Go.Wk
theorem Qmb{B0:Nat}{w:World}{v:Value}(hT:FB B0 w)(hc:Qqp w v): Ret Tryz.prog 4 [v] w λu w'=>u=.bool true/\Ext w w':=by
 obtain⟨cs,c,rfl,i,_⟩:=hc;exact Qmc hT i
end Go.Proofs.YtebiphhfkdbpfaaGreatDoor
