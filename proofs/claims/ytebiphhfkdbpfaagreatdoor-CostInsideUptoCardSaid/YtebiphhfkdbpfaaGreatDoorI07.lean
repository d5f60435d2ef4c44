/- Part 7. -/
import Derived.Test.YtebiphhfkdbpfaaGreatDoorI06
import Derived.ProofKit
import Derived.OpenShut
import Derived.ShutString
import Derived.ChangeOld
import Derived.Deep.Slices
import Derived.Deep.Fields
import Derived.Test.YtebiphhfkdbpfaaGreatDoorRows
import Derived.LaidSub
import Derived.Lib.LaidTab
set_option linter.unusedVariables false
set_option maxRecDepth 100000
set_option maxHeartbeats 40000000
namespace Go.Wk
open Go.RowKit
variable {d n t ty:Nat}
theorem dalc'{P:Program}{al:AL}{w:World}{Q:Exit->Act->World->Prop}{ops:Array Oper}{drest:List (Nat×Oper)}{pos:String}{aft:Array Edge}{z:Value}{cs:List Value}(hz:Qt P t=some z)(kk:∀ w1 b,Ext w w1->w.heap.size<=b->Blk w1 b t cs->WD P n ops Q drest ((d,.pointer (some ⟨b,0,none⟩))::al) w1)(hv:z.cells=cs.toArray:=by rfl)(hd:Nat.blt d n=true:=by rfl):
  WD P n ops Q ((1,⟨some d,.alloc t,ty,pos,aft,none⟩)::drest) al w:=by grind [done_,alc,Jp,eback]
end Go.Wk
namespace Go.Wk
open Go.RowKit
variable {b bytes d n t ty:Nat}
section
variable {α:Type} {E:TypeId} {sz base:Nat} {Φ:World->List Value->α->Prop} {N0:Nat->Prop} {w w':World} {v:Value} {ls:List α}
def OwnM(E:TypeId)(sz:Nat)(Φ:World->List Value->α->Prop)(N0:Nat->Prop)(w:World)(base:Nat)(v:Value)(ls:List α): Prop :=
 ∃ ps:List (List Value×α),ls=ps.map (·.2)/\w.ownsRow base E sz v ps.length (Jg ps)/\∀ p∈ps,p.1.length=sz/\Off (λk=>N0 k∨v.ownBlock=some k) w (λu=>Φ u p.1 p.2)
theorem OwnM.nil(w:World)(base:Nat): OwnM E sz Φ N0 w base (.slice none 0 0) []:=⟨[],rfl,Zc _ _ _ _,λp i=>by cases i⟩
theorem OwnM.gr(h:OwnM E sz Φ N0 w base v ls)(hg:GrN N0 w w')(hN:∀ g,v.ownBlock=some g->¬ N0 g): OwnM E sz Φ N0 w' base v ls:=by
 obtain⟨ps,D,y,j⟩:=h;exact⟨ps,D,Qf y hg hN,λp i=>⟨(j p i).1,(j p i).2.gr (hg.mono λk _ u=>.inl u)⟩⟩
theorem OwnM.ext(h:OwnM E sz Φ N0 w base v ls)(hx:Ext w w'): OwnM E sz Φ N0 w' base v ls:=by
 obtain⟨ps,y,u,j⟩:=h;exact⟨ps,y,Je u hx,λp i=>⟨(j p i).1,(j p i).2.ext hx⟩⟩
theorem OwnM.form(h:OwnM E sz Φ N0 w base v ls): ∃ A c,v=.slice A ls.length c/\ls.length<=c/\∀ g,v.ownBlock=some g->base<=g/\g<w.heap.size:=by
 obtain⟨ps,rfl,j,i⟩:=h;grind [Jd]
theorem OwnM.gv(h:OwnM E sz Φ N0 w base v ls)(hm:ls.length<=1100000): GV sz Φ w v ls:=by
 obtain⟨ps,rfl,u,j⟩:=h;obtain⟨A,c,rfl,y,D⟩:=Jd u;exact⟨ps,A,c,rfl,rfl,y,by simpa using hm,Rd.own u,λp i=>⟨(j p i).1,(j p i).2.here⟩⟩
theorem apM{P:Program}{al:AL}{Q:Exit->Act->World->Prop}{ops:Array Oper}{rest:List Oper}{pos:String}{aft:Array Edge}{z:Value}(hE:ElT P t E sz bytes z){x y:Operand}{cs:List Value}{a:α}(ho:OwnM E sz Φ N0 w base v ls)(hb:Blk w b E cs)(hl:cs.length=sz)(h1:∀ u∈cs,u.oneCell'=true)(hΦ:Off (λk=>N0 k∨v.ownBlock=some k) w (λu=>Φ u cs a))(hm:ls.length<=1100000)(hby:bytes<=128)(hbase:base<=w.heap.size)(kk:∀ v' w',OwnM E sz Φ N0 w' base v' (ls++[a])->w.grownBy w' v.ownBlock->(∀ g,v'.ownBlock=some g->v.ownBlock=some g∨w.heap.size<=g)->WL P n ops Q rest ((d,v')::al) w')(hx:ev al x=some v:=by rfl)(hy:ev al y=some (.slice (some ⟨b,0,none⟩) 1 1):=by rfl)(hd:Nat.blt d n=true:=by rfl):
  WL P n ops Q (⟨some d,.call { callee:=.builtin .append,args:=#[x,y],argTypes:=#[t,t] },ty,pos,aft,none⟩::rest) al w:=by
 obtain⟨ps,e,hr,Z⟩:=ho;have a1:ps.length<=1100000:=by rw[e,List.length_map]at hm;exact hm
 have a2:(ps.length+1)*bytes<=1100001*128:=Nat.mul_le_mul om hby;refine apb hE hr (hb.rd (n:=1) om) h1 (by unfold maxLen;omega) om hbase ?_ hx hy hd;intro v' w' U J G;have j:∀ {Ψ:World->Prop},Off (λk=>N0 k∨v.ownBlock=some k) w Ψ->Off (λk=>N0 k∨v'.ownBlock=some k) w' Ψ:=fun {Ψ} h W hW=>by
  refine h W ?_;have h1:GrN (λk=>(N0 k∨v.ownBlock=some k)∨w.heap.size<=k) w W:=(GrN.by J λk D=>.inl (.inr D)).trans (hW.mono λk _ D=>by
   rcases D with D|D
   .exact .inl (.inl D)
   rcases G k D with i|i
   .exact .inl (.inr i)
   exact .inr i)
  exact h1.mono λk D h=>h.elim id λi=>by omega
 refine kk v' w' ⟨ps++[(cs,a)],by rw[e];simp,?_,λp O=>?_⟩ J G
 .have e2:Jg (ps++[(cs,a)])=Jg ps++cs:=by simp[Jg]
  rw[List.length_append,e2];exact U
 rcases List.mem_append.1 O with i|i
 .exact⟨(Z p i).1,j (Z p i).2⟩
 rw[List.mem_singleton.1 i];exact⟨hl,j hΦ⟩
end
end Go.Wk
namespace Go.Proofs.YtebiphhfkdbpfaaGreatDoor
open Go.RowKit Pl Go.Wk
attribute [local irreducible] WC WL QX WD WDB WP WN WG WH WM
theorem Ij: Qt Tryz.prog 35=some (.agg #[.int .i64 0,.int .i64 0,.slice none 0 0,.slice none 0 0,.slice none 0 0]):=kr
theorem Qnd(n f:Int)(A B:Option Addr)(a a' b b':Nat)(w:World): (Instr.build 35 #[(0,.int .i64 n),(1,.int .i64 f),(2,.slice A a a'),(3,.slice B b b')]).run Tryz.prog w=.ok (.agg #[.int .i64 n,.int .i64 f,.slice A a a',.slice B b b',.slice none 0 0]) w:=kr
structure MkA(a:Atm)(zs:List Int)(rows:List Row): Prop where
 vars:a.vars=zs
 ar:a.ar=zs.length
 l32:zs.length<=32
 ok:∀ r∈rows,r.length=zs.length/\r.all Xe=true
 len:a.rows.length<=65536
 sub:∀ x∈a.rows,x∈rows
 set:rows.length<=12->Yx [] rows a.rows
structure MkS(c:Cse): Prop where
 len:c.vs.length=c.rss.length
 l32:∀ i,i<c.vs.length->(c.vs.getD i []).length<=32
 ok:∀ i,i<c.vs.length->∀ r∈c.rss.getD i [],r.length=(c.vs.getD i []).length/\r.all Xe=true
 row:∀ i,i<c.vs.length->(c.rss.getD i []).length<=65536
theorem Qcr{w0 w:World}{cs:List Value}{c:Cse}(h:CseV w0 cs c)(h00:Ext w0 w): Ret Tryz.prog 16 [.agg cs.toArray] w λu w'=>Ext w w'/\∃(dA pA aA:Option Addr) (dc pc ac an:Nat) (ok:Bool),u=.tuple #[.agg #[.int .i64 c.n,.int .i64 c.f,.slice dA c.ds.length dc,.slice pA c.pm.length pc,.slice aA an ac],.bool ok] /\
  BoolsV w0 (.slice dA c.ds.length dc) c.ds/\IntsV w0 (.slice pA c.pm.length pc) c.pm/\(ok=true->c.vs.length=c.rss.length/\∃ ats:List Atm,ats.length=c.vs.length/\Off (λk=>w0.heap.size<=k/\k<w.heap.size) w' (λu=>GV 3 AtG u (.slice aA an ac) ats)/\∀ i,i<c.vs.length->MkA (ats.getD i a0) (c.vs.getD i []) (c.rss.getD i []))/\(MkS c->ok=true):=by
 obtain⟨dA,dc,pA,pc,vA,vc,rA,rc,rfl,hD,hP,d1,hR,hn,hf⟩:=h;have hV:=d1;obtain⟨_,_,cq,e1,_,df,cd,cb⟩:=id hR;injection e1 with e1 e2 e3
 subst e1;subst e3;obtain⟨_,_,d9,e1,_,de,ca,d0⟩:=id hV;injection e1 with e1 e2 e3
 subst e1;subst e3;have d3:=cd.ext h00;have bj:=ca.ext h00;have d2:∀ i,i<c.rss.length->∃ u,cq[i]?=some u/\RowsV w u (c.rss.getD i []):=λi hi=>by obtain⟨u,e,hu⟩:=cb i hi;exact⟨u,e,hu.ext h00⟩
 refine Jz Tryz.func16 Tryz.ntmps16 rfl kr rfl ?_;refine ρ ?_;refine bx ?_;intro w1 b aa hb hB;refine ρ ?_;refine alc Ij ?_;intro w2 b2 aw bi co;have ab:=hB.ext aw;refine ρ ?_;refine ld (ab.at (i:=0) rfl) ?_;refine ρ ?_;refine ld (ab.at (i:=1) rfl) ?_;refine ρ ?_;refine ld (ab.at (i:=2) rfl) ?_;refine ρ ?_;refine ld (ab.at (i:=3) rfl) ?_;refine ρ ?_;refine bld (Qnd _ _ _ _ _ _ _ _ _) ?_;refine ρ ?_;refine alc Ij ?_;intro w3 J cw c2 d7;refine ρ ?_;refine stW d7 ?_;intro w4 a8 dn cu;have ae:Ext w2 w4:=cu w2 cw c2;have a2:=(aa.trans aw).trans ae;have c4:¬ b=J:=λe=>by have:=ab.lt;omega
 have az:¬ b2=J:=λe=>by have:=co.lt;omega
 have b9:=ab.ext ae;have ap:=co.ext ae;refine ρ ?_;refine Ju (fun (i:Nat) (av:Value)=>[(1,.pointer (some ⟨b,0,none⟩)),(2,.pointer (some ⟨b2,0,none⟩)),(3,.bool false),(4,.pointer (some ⟨J,0,none⟩)),(5,.int .i64 (i:Int))])
  (λi av w'=>i<=c.vs.length/\i<=c.rss.length/\GrN (λk=>k=J) w4 w'/\Blk w' J 35 [.int .i64 c.n,.int .i64 c.f,.slice dA c.ds.length dc,.slice pA c.pm.length pc,av]/\∃ ats:List Atm,ats.length=i/\OwnM 82 3 AtG (λk=>(k=b2∨k=J)∨(w0.heap.size<=k/\k<w.heap.size)) w' w4.heap.size av ats/\∀ j,j<i->MkA (ats.getD j a0) (c.vs.getD j []) (c.rss.getD j [])) (λi _=>c.vs.length-i) 0 (.slice none 0 0) sB
  ⟨Nat.zero_le _,Nat.zero_le _,GrN.refl _ _,a8,[],rfl,OwnM.nil _ _,λj hj=>om⟩ ?_
 rintro i av w5 ⟨dk,dl,ah,am,ats,c6,aj,hmk⟩;have a1:=Qr b9 ah c4;have ao:=Qr ap ah az;have au:Ext w w5:=ah.old a2 λk y=>by rw[y];have:=(aa.trans aw).size;omega
 refine ρ ?_;refine ld (a1.at (i:=4) rfl) ?_;refine ρ ?_;refine Yz (fun (t:Bool)=>[(28,.bool t),(1,.pointer (some ⟨b,0,none⟩)),(2,.pointer (some ⟨b2,0,none⟩)),(3,.bool false),(4,.pointer (some ⟨J,0,none⟩)),(5,.int .i64 (i:Int))]) (λt w6=>w6=w5/\(t=true↔i<c.vs.length/\i<c.rss.length)) ?_ ?_
 .refine ki 22 (λh=>?_) (λh=>?_)
  .have:=oT h;refine ρ ?_;refine ld (a1.at (i:=5) rfl) ?_;refine ρ ?_;refine Jc (decide ((i:Int)<(c.rss.length:Int))) sB ⟨rfl,?_⟩;rw[decide_eq_true_eq];omega
  have:=oF h;refine ρ ?_;refine Jc false sB ⟨rfl,?_⟩;constructor
  .intro h;cases h
  omega
 rintro t w6 ⟨rfl,ht⟩;refine ρ ?_;refine ci (λh=>?_) (λh=>?_)
 .obtain⟨lv,lr⟩:=ht.1 h;clear h;obtain⟨vu,bo,bp⟩:=d0 i lv;obtain⟨ru,cx,bb⟩:=d2 i lr;obtain⟨QA,qc,rfl,dh,dg,di⟩:=id bp;have G:Ext w6 w6.drew:=(Ext.refl w6).drew;have O:=au.trans G;have cj:=a1.ext G;have c8:=bj.ext O;have cc:=d3.ext O;obtain⟨TA,tc,rfl,_,_,_⟩:=id (bb.ext O).parts;refine ρ ?_;refine drH (λi=>Nat.ble 16 i) ?_;refine Ve (fuel':=7) 8 [(0,0),(0,1),(0,2),(0,3),(0,4),(0,5),(0,6),(0,7),(0,8),(0,9),(0,10)] (lst 18 11) kr kr rfl ?_;refine ρd ?_;refine dld (cj.at (i:=4) rfl) ?_;refine ρd ?_;refine dix i c8 lv ?_;refine ρd ?_;refine dld (c8.cell bo) ?_;refine ρd ?_;refine dld (cj.at (i:=5) rfl) ?_;refine ρd ?_;refine dix i cc lr ?_;refine ρd ?_;refine dld (cc.cell cx) ?_;refine ρd ?_;refine Zu ?_;refine hcut 2 (lst 18 16) (fun (q:Value×Int×Nat)=>[(44,q.1),(45,.int .i64 q.2.1),(6,.pointer (some ⟨q.2.2,0,none⟩)),(1,.pointer (some ⟨b,0,none⟩)),(2,.pointer (some ⟨b2,0,none⟩)),(3,.bool false),(4,.pointer (some ⟨J,0,none⟩)),(5,.int .i64 (i:Int))])
   (λq W=>Ext w6.drew W/\Blk W q.2.2 80 [.int .i64 0,.slice none 0 0]/\w6.drew.heap.size<=q.2.2/\(∃ z B m d,q.1=.agg #[.int .i64 z,.slice B m d])/\((c.vs.getD i []).length<=32->(∀ r∈c.rss.getD i [],r.length=(c.vs.getD i []).length/\r.all Xe=true)->(c.rss.getD i []).length<=65536->q.2.1=0) /\
    (q.2.1=0->(c.vs.getD i []).length<=32/\(∀ r∈c.rss.getD i [],r.length=(c.vs.getD i []).length/\r.all Xe=true)/\∃ m,Off (λk=>k<w6.drew.heap.size∨k=q.2.2) W (λu=>RelV u q.1 (c.vs.getD i []).length m)/\m.length<=65536/\(∀ x∈m,x∈c.rss.getD i [])/\(((c.rss.getD i []).length<=12∨Srt [] (c.rss.getD i []))->Yx [] (c.rss.getD i []) m))) ?_ ?_
  .rintro⟨rv,e,b6⟩ W ⟨cr,cm,c1,⟨z,B,mm,dd,cp⟩,U,Z⟩;simp only at cm c1 U Z cp;subst cp;refine Ve (fuel':=0) 8 [(2,16),(2,17)] (lst 18 18) kr kr rfl ?_;refine Jy ?_;refine stb (cs':=[.int .i64 z,.slice B mm dd]) cm ?_ Yp;intro W2 ck bu bn;refine Jp (Qq ?_);refine Jy ?_;refine ρ ?_;refine Qq ?_;refine dnil (Zu ?_);refine Zw kr ?_;have D:Ext w6 W2:=bn w6 (G.trans cr) (nL G.size c1);have bg:GrN (λk=>k=b6) W W2:=GrN.by bu λk y=>by injection y with y;exact y.symm
   have b7:=am.ext D;refine ρ ?_;refine ci (λh=>?_) (λh=>?_)
   .refine ρ ?_;refine ldW b7 ?_;obtain⟨AA,ac,aq,_,_⟩:=aj.form;subst aq;refine ρ ?_;refine stW (ao.ext D) ?_;intro W3 bl bz ad;have ba:Ext w W3:=ad w (au.trans D) (nL aa.size bi);refine ρ ?_;exact Zf bl ⟨ba,dA,pA,AA,dc,pc,ac,ats.length,false,rfl,hD,hP,λh=>(by cases h),λhS=>absurd (U (hS.l32 i lv) (hS.ok i lv) (hS.row i lv)) (Ir h)⟩
   have he:e=0:=Ia h;clear h;obtain⟨bq,br,m,bs,cz,be,bf⟩:=Z he;have bd:=bs.gr (bg.mono λk _ y=>(.inr y:k<w6.drew.heap.size∨k=b6));obtain⟨AA,ac,aq,c7,a4⟩:=aj.form;subst aq;have ag:∀ g,(Value.slice AA ats.length ac).ownBlock=some g->w4.heap.size<=g:=λg e=>(a4 g e).1;have a3:Ext W2 W2.drew:=(Ext.refl W2).drew;have b5:=b7.ext a3;have cg:=(aj.ext D).ext a3;have af:Ext w W2.drew:=(au.trans D).trans a3;have d5:=(a1.ext D).ext a3;have cn:=ck.ext a3;obtain⟨db,_,cy,_⟩:=id cg;have n4:¬ (Value.slice AA ats.length ac).ownBlock=some J:=λe=>by have:=ag J e;have:=a8.lt;omega
   have n1:¬ (Value.slice AA ats.length ac).ownBlock=some b:=λe=>by have:=ag b e;have:=b9.lt;omega
   have n6:¬ (Value.slice AA ats.length ac).ownBlock=some b6:=λe=>by have:=(a4 b6 e).2;have:=G.size;omega
   have d4:∀ {W'},GrN (λk=>(Value.slice AA ats.length ac).ownBlock=some k) W2.drew W'->Ext w W':=λhg=>hg.old af λk y=>by have:=ag k y;have:=a2.size;omega
   refine ρ ?_;refine drN (λk=>(Value.slice AA ats.length ac).ownBlock=some k) 10 [(0,0),(0,1),(0,2),(0,3),(0,4),(0,5),(0,6),(0,7),(0,8),(1,9),(1,10),(0,11),(2,12)] kr ?_;refine ρn ?_;refine nld (Kg (b5.at (i:=4) rfl) n4) ?_;refine ρn ?_;refine nld (Kg (d5.at (i:=4) rfl) n1) ?_;refine ρn ?_;refine nix i (bj.ext af) lv ?_;refine ρn ?_;refine nld (λw' hg=>(bj.ext (d4 hg)).cell bo) ?_;refine ρn ?_;refine Jxd (cs:=[.int .i64 z,.slice B mm dd]) (λw' hg j u hu=>(Qr cn hg n6).at hu) ?_;refine ρn ?_;refine nbld (λw=>Qnk _ _ _ _ _ _ _ w) ?_;refine ρn ?_;refine nop ?_;refine bsl (λw=>Qmp _ _ _ QA B _ qc _ dd _ rfl rfl rfl w) ?_;intro W3 b8 a5 du d6;refine ρ ?_;refine Vy (GrN.ext a5) ?_;refine nop ?_;have bc:=(bd.ext a3).ext a5;have hΦ:Off (λk=>((k=b2∨k=J)∨(w0.heap.size<=k/\k<w.heap.size))∨(Value.slice AA ats.length ac).ownBlock=some k) W3 (λu=>AtG u [.slice QA (c.vs.getD i []).length qc,.int .i64 z,.slice B mm dd] ⟨c.vs.getD i [],(c.vs.getD i []).length,m⟩):=by
    intro W' c0;have h1:IntsV W' (.slice QA (c.vs.getD i []).length qc) (c.vs.getD i []):=bp.ext (c0.old (h00.trans (af.trans a5)) λk y=>by
     rcases y with((y|y)|y)|y
     .rw[y];exact nL (h00.trans aa).size bi
     .rw[y];exact nL (h00.trans (aa.trans aw)).size c2
     .exact y.1
     have:=ag k y;have:=(h00.trans a2).size;omega)
    obtain⟨da,er,h2⟩:=bc W' (c0.mono λk _ y=>.inl (by
     rcases y with((y|y)|y)|y
     .have:=ao.lt;have:=G.size;omega
     .have:=am.lt;have:=G.size;omega
     .have:=O.size;omega
     have:=(a4 k y).2;have:=G.size;omega))
    have bm:=congrArg (λv:Value=>match v with | .agg xs=>xs.toList|_=>[]) er;simp only[List.cons.injEq,Value.int.injEq,true_and,and_true]at bm;refine⟨(.slice QA (c.vs.getD i []).length qc,.int .i64 z,.slice B mm dd),rfl,h1,?_,?_⟩
    .simp only;rw[bm.1]
    simp only;rw[bm.2];exact h2
   refine apM EA (Φ:=AtG) (cg.ext a5) d6 rfl (one3 rfl) hΦ om om (nL ah.size (nL (D.trans a3).size a5.size)) ?_;intro a7 W4 ch bw dj;refine ρ ?_;refine Vy (GrN.by bw λk y=>y) ?_;have ay:GrN (λk=>(Value.slice AA ats.length ac).ownBlock=some k) W3 W4:=GrN.by bw λk y=>y
   have ak:=Qr (b5.ext a5) ay n4;obtain⟨A9,c9,d8,dt,c5⟩:=ch.form;refine ρn ?_;refine Iu ?_;refine sto (ak.at (i:=4) rfl) (ak.frozen 4) ?_ (hv:=by rw[d8];rfl);have ai:GrN (λk=>k=J) W4 (W4.setCell ((⟨J,0,none⟩:Addr).add 4) a7):=GrN.set _ rfl;have b3:Blk (W4.setCell ((⟨J,0,none⟩:Addr).add 4) a7) J 35 [.int .i64 c.n,.int .i64 c.f,.slice dA c.ds.length dc,.slice pA c.pm.length pc,a7]:=ak.set 4 _;have b1:OwnM 82 3 AtG (λk=>(k=b2∨k=J)∨(w0.heap.size<=k/\k<w.heap.size)) (W4.setCell ((⟨J,0,none⟩:Addr).add 4) a7) w4.heap.size a7 (ats++[⟨c.vs.getD i [],(c.vs.getD i []).length,m⟩]):=ch.gr (ai.mono λk _ h=>.inl (.inr h)) λg eg e=>by have:=(c5 g eg).1;have:=a8.lt;have:=ap.lt;have:=a2.size;rcases e with(e|e)|e<;>omega
   generalize (W4.setCell ((⟨J,0,none⟩:Addr).add 4) a7)=W5 at ai b3 b1
   have hgt:GrN (λk=>k=J) w4 W5:=by
    have h1:GrN (λk=>k=J∨w4.heap.size<=k) w4 W5:=(((ah.mono λk _ h=>(.inl h:k=J∨w4.heap.size<=k)).trans (GrN.ext ((D.trans a3).trans a5))).trans (ay.mono λk _ h=>.inr (ag k h))).trans (ai.mono λk _ h=>.inl h);exact h1.mono λk y h=>h.elim id λh'=>by omega
   refine Jp (Io ?_);refine ρn ?_;refine ρ ?_;refine Jt (i+1) a7 sO ⟨om,om,hgt,b3,_,by rw[List.length_append,c6];rfl,b1,λj hj=>?_⟩ om;by_cases ej:j=i
   .subst ej;have:(ats++[(⟨c.vs.getD j [],(c.vs.getD j []).length,m⟩:Atm)]).getD j a0=⟨c.vs.getD j [],(c.vs.getD j []).length,m⟩:=by simp[List.getD,<-c6]
    rw[this];exact⟨rfl,rfl,bq,br,cz,be,λh=>bf (.inl h)⟩
   have:(ats++[(⟨c.vs.getD i [],(c.vs.getD i []).length,m⟩:Atm)]).getD j a0=ats.getD j a0:=by simp[List.getD,List.getElem?_append_left (show j<ats.length by omega)]
   rw[this];exact hmk j om
  intro rest;refine htwo 11 15 kr rfl rfl rfl ?_ ?_
  .refine ρ ?_;refine cl (Jlh (ar:=(c.vs.getD i []).length) (bb.ext O)) ?_;rintro u W ⟨hy,rv,e,rfl,a6,U,Z⟩;refine Jp (Jpc hy ?_);refine Ve (fuel':=4) 8 [(0,12),(0,13)] (lst 18 14) kr kr rfl ?_;refine ρd ?_;refine Zu ?_;refine hpur (fuel':=3) 14 kr kr rfl rfl ?_;refine ρp ?_;refine ρd ?_;refine Zu ?_;refine Ve (fuel':=2) 8 [(1,15)] (lst 18 16) kr kr rfl ?_;refine dalc' (cs:=[.int .i64 0,.slice none 0 0]) Ue ?_;intro W2 b6 a9 bh ax;refine dnil (Zu ?_);refine rest (rv,e,b6) _ _ ⟨hy.trans a9,ax,Nat.le_trans hy.size bh,a6,U,λhe=>?_⟩ sB;obtain⟨q1,q2,m,q3,q4,q5,q6⟩:=Z he;exact⟨q1,q2,m,(q3.mono λk y h=>h.elim id fun (h:k=b6)=>om).ext a9,q4,q5,q6⟩
  refine ρ ?_;refine alc Ue ?_;intro W b6 hy bh ax;refine Jp (Jpc hy ?_);refine Ve (fuel':=3) 8 [(1,11),(0,12),(0,13)] ((lst 18 14).setIfInBounds 15 true) kr kr rfl ?_;refine ρd ?_;refine dcl (Jlh (ar:=(c.vs.getD i []).length) (bb.ext (O.trans hy))) ?_;rintro u W2 ⟨a9,rv,e,rfl,a6,U,Z⟩;refine⟨a9,?_⟩;refine ρd ?_;refine Zu ?_;refine hpur (fuel':=2) 14 kr kr rfl rfl ?_;refine ρp ?_;refine ρd ?_;refine Zu ?_;refine Un (listed':=lst 18 16) kr ?_;refine rest (rv,e,b6) _ _ ⟨hy.trans a9,ax.ext a9,bh,a6,U,λhe=>?_⟩ sB;obtain⟨q1,q2,m,q3,q4,q5,q6⟩:=Z he;refine⟨q1,q2,m,q3.mono λk y h=>?_,q4,q5,q6⟩;have:=ax.lt;have:=hy.size;rcases h with h|(h:k=b6)<;>omega
 have dq:¬ (i<c.vs.length/\i<c.rss.length):=λh'=>by have:=ht.2 h';rw[h]at this;cases this
 clear h ht;obtain⟨AA,ac,aq,c7,a4⟩:=aj.form;subst aq;have G:Ext w6 w6.drew:=(Ext.refl w6).drew;refine ρ ?_;have n2:¬ b=b2:=λe=>by have:=hB.lt;omega
 refine drN (λk=>k=b2) 10 [(0,0),(0,1),(0,2),(0,3),(0,4),(0,5),(0,6),(0,7),(1,8),(0,9)] kr ?_;refine ρn ?_;refine Jxd (cs:=[.int .i64 c.n,.int .i64 c.f,.slice dA c.ds.length dc,.slice pA c.pm.length pc,.slice AA ats.length ac]) (λw' hg j u hu=>(Qr (am.ext G) hg (λe=>az e.symm)).at hu) ?_;refine ρn ?_;refine nld (Kg ((a1.ext G).at (i:=4) rfl) n2) ?_;refine ρn ?_;refine nld (Kg ((a1.ext G).at (i:=5) rfl) n2) ?_;refine ρn ?_;refine nop ?_;refine stW (ao.ext G) ?_;intro W3 bl bz ad;have ba:Ext w W3:=ad w (au.trans G) (nL aa.size bi);have bt:GrN (λk=>k=b2) w6.drew W3:=GrN.by bz λk y=>by injection y with y;exact y.symm
 refine Jp (Vy bt ?_);refine ρn ?_;refine ρ ?_;refine Zf bl ⟨ba,dA,pA,AA,dc,pc,ac,ats.length,((c.vs.length:Int) == (c.rss.length:Int)),rfl,hD,hP,λh=>?_,λhS=>by rw[hS.len];exact beq_self_eq_true _⟩;have he:c.vs.length=c.rss.length:=by have:=Uf h;omega
 have dm:i=c.vs.length:=om
 refine⟨he,ats,om,?_,λj hj=>hmk j om⟩;have ce:∀ g,(Value.slice AA ats.length ac).ownBlock=some g->¬ ((g=b2∨g=J)∨(w0.heap.size<=g/\g<w.heap.size)):=λg eg e=>by have:=(a4 g eg).1;have:=a8.lt;have:=ap.lt;have:=a2.size;rcases e with(e|e)|e<;>omega
 intro W hW;exact(((aj.ext G).gr (bt.mono λk _ h=>.inl (.inl h)) ce).gr (hW.mono λk _ h=>.inr h) ce).gv om
open Go.RowKit Pl Go.Wk
variable {c:Cse}{cs:List Value}{w w0:World}
def MkR(w:World)(c:Cse)(u:Value)(P:Prop): Prop:=∃(dA pA aA:Option Addr) (dc pc ac an:Nat) (ok:Bool),u=.tuple #[.agg #[.int .i64 c.n,.int .i64 c.f,.slice dA c.ds.length dc,.slice pA c.pm.length pc,.slice aA an ac],.bool ok] /\
 BoolsV w (.slice dA c.ds.length dc) c.ds/\IntsV w (.slice pA c.pm.length pc) c.pm/\(ok=true->c.vs.length=c.rss.length/\∃ ats:List Atm,ats.length=c.vs.length/\GV 3 AtG w (.slice aA an ac) ats/\(∀ i,i<c.vs.length->MkA (ats.getD i a0) (c.vs.getD i []) (c.rss.getD i []))/\(P->Ya ⟨c.n,c.f,c.ds,c.pm,ats⟩))/\(MkS c->(∀ ats:List Atm,ats.length=c.vs.length->(∀ i,i<c.vs.length->MkA (ats.getD i a0) (c.vs.getD i []) (c.rss.getD i []))->Ya ⟨c.n,c.f,c.ds,c.pm,ats⟩)->ok=true)
def MkO(w0:World)(N:Nat->Prop)(w:World)(c:Cse)(u:Value)(P:Prop): Prop:=∃(dA pA aA:Option Addr) (dc pc ac an:Nat) (ok:Bool),u=.tuple #[.agg #[.int .i64 c.n,.int .i64 c.f,.slice dA c.ds.length dc,.slice pA c.pm.length pc,.slice aA an ac],.bool ok] /\
 BoolsV w0 (.slice dA c.ds.length dc) c.ds/\IntsV w0 (.slice pA c.pm.length pc) c.pm/\(ok=true->c.vs.length=c.rss.length/\∃ ats:List Atm,ats.length=c.vs.length/\Off N w (λu=>GV 3 AtG u (.slice aA an ac) ats)/\(∀ i,i<c.vs.length->MkA (ats.getD i a0) (c.vs.getD i []) (c.rss.getD i []))/\(P->Ya ⟨c.n,c.f,c.ds,c.pm,ats⟩))/\(MkS c->(∀ ats:List Atm,ats.length=c.vs.length->(∀ i,i<c.vs.length->MkA (ats.getD i a0) (c.vs.getD i []) (c.rss.getD i []))->Ya ⟨c.n,c.f,c.ds,c.pm,ats⟩)->ok=true)
theorem Qqv(h:CseV w0 cs c)(h00:Ext w0 w): Ret Tryz.prog 28 [.agg cs.toArray] w λu w'=>Ext w w'/\MkO w0 (λk=>w0.heap.size<=k/\k<w.heap.size) w' c u True:=by
 obtain⟨b7,b6,b3,b1,vA,vc,rA,rc,az,_,_,_,_,hn,hf⟩:=id h;subst az;refine Jz Tryz.func28 Tryz.ntmps28 rfl kr rfl ?_;refine ρ ?_;refine bx ?_;intro w1 b J hb hB;refine ρ ?_;refine alc Ij ?_;intro w2 b2 a1 af a9;have ax:=hB.ext a1;refine ρ ?_;refine ldW ax ?_;refine ρ ?_;refine cl (Qcr h (h00.trans (J.trans a1))) ?_;rintro u w3 ⟨a5,dA,pA,aA,dc,pc,ac,an,ok,rfl,hD,hP,aq,ab⟩;refine ρ ?_;refine alc Ij ?_;intro w4 b4 ak av aw;refine ρ ?_;refine stW aw ?_;intro w5 a8 b5 aj;have G:Ext w3 w5:=aj w3 ak av;have a2:=(a9.ext a5).ext G;have aa:=((J.trans a1).trans a5).trans G;refine ρ ?_;have y:Ext w5 w5.drew:=(Ext.refl w5).drew;have a3:¬ b4=b2:=λe=>by have:=a9.lt;have:=a5.size;omega
 have a4:=aa.trans y;have ah:∀ {W:World},GrN (λk=>k=b2) w5.drew W->Ext w W:=λhg=>hg.old a4 λk D=>by rw[D];exact nL J.size af
 have au:=a9.lt;cases ok with
 | true=>
  obtain⟨ae,ats,ag,ad,hmk⟩:=aq rfl;have U:=(ad.ext G).ext y;have hG:=U.here;obtain⟨ts,A,cc,ay,eA,ar,am,ap,ao⟩:=Jdz hG;refine drN (λk=>k=b2) 10 [(0,0),(0,1),(0,2),(0,3),(1,4),(0,5),(0,6),(1,7),(0,8)] kr ?_;refine ρn ?_;refine Jxd (cs:=[.int .i64 c.n,.int .i64 c.f,.slice dA c.ds.length dc,.slice pA c.pm.length pc,.slice aA an ac]) (λw' hg j u hu=>(Qr (a8.ext y) hg a3).at hu) ?_;refine ρn ?_;refine Jxd (cs:=[.int .i64 c.n,.int .i64 c.f,.slice dA c.ds.length dc,.slice pA c.pm.length pc,.slice aA an ac]) (λw' hg j u hu=>(Qr (a8.ext y) hg a3).at hu) ?_;refine ρn ?_;refine nop ?_;refine cl (Jpl (inp:=⟨c.n,c.f,c.ds,c.pm,ats⟩) ⟨_,rfl,_,_,_,rfl,hD.ext (h00.trans a4),hP.ext (h00.trans a4),⟨ts,A,cc,ay,eA,ar,am,ap,ao⟩⟩ hn hf) ?_;rintro u w6 ⟨Z,e,rfl,he⟩;refine ρ ?_;refine Vy (GrN.ext Z) ?_;refine ρn ?_;refine nop ?_;refine stW ((a2.ext y).ext Z) ?_;intro w7 a7 hg7 ai
  have i:GrN (λk=>k=b2) w6 w7:=GrN.by hg7 λk D=>by injection D with D;exact D.symm
  refine Jp (Vy i ?_);have O:=ah ((GrN.ext Z).trans i);refine ρn ?_;refine ρ ?_;refine Zf a7 ⟨O,dA,pA,aA,dc,pc,ac,an,_,rfl,hD,hP,λh=>⟨ae,ats,ag,?_,hmk,λ_=>he.1 (Uf h)⟩,λ_ hC=>?_⟩;rotate_left
  .have:=he.2 (hC ats ag hmk);rw[this];rfl
  have a6:=(U.ext Z).gr (i.mono λk _ D=>by rw[D];exact⟨nL (h00.trans J).size af,au⟩);exactλW hW=>a6 W (hW.mono λk _ D=>⟨D.1,Nat.lt_of_lt_of_le D.2 (J.trans a1).size⟩)
 | false=>
  refine drN (λk=>k=b2) 10 [(0,0),(0,1),(0,2),(0,3),(1,4),(0,5),(0,6),(1,7),(0,8)] kr ?_;refine ρn ?_;refine Jxd (cs:=[.int .i64 c.n,.int .i64 c.f,.slice dA c.ds.length dc,.slice pA c.pm.length pc,.slice aA an ac]) (λw' hg j u hu=>(Qr (a8.ext y) hg a3).at hu) ?_;refine ρn ?_;refine nop ?_;refine stW (a2.ext y) ?_;intro w7 a7 hg7 ai;have i:GrN (λk=>k=b2) w5.drew w7:=GrN.by hg7 λk D=>by injection D with D;exact D.symm
  refine Jp (Vy i ?_);have O:=ah i;refine ρn ?_;refine ρ ?_;exact Zf a7 ⟨O,dA,pA,aA,dc,pc,ac,an,false,rfl,hD,hP,λh=>(by cases h),λhS _=>ab hS⟩
theorem Jnl(h:CseV w cs c): Ret Tryz.prog 28 [.agg cs.toArray] w λu w'=>Ext w w'/\MkR w' c u True:=(Qqv h (Ext.refl w)).mono λu w' ⟨i,dA,y,aA,dc,j,ac,an,D,e,h1,h2,h3,Z⟩=>⟨i,dA,y,aA,dc,j,ac,an,D,e,h1.ext i,h2.ext i,λh=>by
 obtain⟨U,ats,O,J,G⟩:=h3 h;exact⟨U,ats,O,J.here,G⟩,Z⟩
end Go.Proofs.YtebiphhfkdbpfaaGreatDoor
namespace Go.Proofs.YtebiphhfkdbpfaaGreatDoor
open Pl Go.Wk Bl Nw
variable {l:List Int}{i n u v:Nat}{pf:Nat->Int}
def toN(l:List Int): List Nat:=l.map Int.toNat
theorem Jkr(h:∀ v∈l,0<=v): nz (toN l)=l:=by
 unfold nz toN;rw[List.map_map];conv=>rhs;rw[<-List.map_id l]
 grind [List.map_congr_left]
theorem Jvx(h:∀ v∈l,0<=v): u∈toN l↔(u:Int)∈l:=by grind [Jkr,nz]
theorem Qnz{l:List Nat}(h:Ko (nz l)): Ua l:=by
 unfold Ua;rw[List.pairwise_iff_getElem];intro i j hi y D;have step:∀ k,0<k->k<l.length->l.getD (k-1) 0<l.getD k 0:=λk h0 u=>by
  have:=h k h0 (by rw[Jbl];exact u);grind [Qbf]
 have key:∀ d,i+1+d<l.length->l.getD i 0<l.getD (i+1+d) 0:=by
  intro d;induction d with
  | zero=>intro G;have:=step (i+1) om G;simpa using this
  | succ d ih=>
   grind
 have:=key (j-(i+1)) om;rw[show i+1+(j-(i+1))=j by omega,Xc 0 _ hi,Xc 0 _ y]at this;exact this
structure CseOk(c:Cse)(ats:List Atm): Prop where
 few:FewP c
 len:c.vs.length=c.rss.length
 al:ats.length=c.vs.length
 mka:∀ i,i<c.vs.length->MkA (ats.getD i a0) (c.vs.getD i []) (c.rss.getD i [])
 chk:Ya ⟨c.n,c.f,c.ds,c.pm,ats⟩
def Cse.N(c:Cse): Nat:=c.n.toNat
def Cse.F(c:Cse): Nat:=c.f.toNat
def Cse.m(c:Cse): Nat:=c.vs.length
def Cse.vars(c:Cse)(i:Nat): List Nat:=toN (c.vs.getD i [])
def Cse.crs(c:Cse)(i:Nat): List Row:=c.rss.getD i []
def rsA(ats:List Atm)(i:Nat): List Row:=(ats.getD i a0).rows
section
variable {c:Cse} {ats:List Atm}
theorem CseOk.nN(h:CseOk c ats): c.n=(c.N:Int)/\c.N<=6:=by
 have u:=h.chk.1;have j:=h.chk.2.1;have i:=h.few.n6;grind [Cse.N]
theorem CseOk.fF(h:CseOk c ats): c.f=(c.F:Int)/\c.F<=c.N:=by
 obtain⟨u,_,j,i,_⟩:=h.chk;grind [Cse.F,Cse.N]
theorem CseOk.at_(h:CseOk c ats)(hi:i<c.m): Yu c.n (ats.getD i a0):=by
 obtain⟨_,_,_,_,_,_,_,_,_,_,_,j,_⟩:=h.chk;exact j _ (getD_mem' a0 _ (by rw[h.al];exact hi))
theorem CseOk.vars(h:CseOk c ats){i:Nat}(hi:i<c.m): nz (c.vars i)=c.vs.getD i []/\Ua (c.vars i)/\(∀ v∈c.vars i,v<c.N)/\(c.vars i).length=(c.vs.getD i []).length:=by
 obtain⟨D,u,G⟩:=h.at_ hi;have y:=(h.mka i hi).vars;rw[y]at D u;have h0:∀ v∈c.vs.getD i [],0<=v:=λv j=>(u v j).1;refine⟨Jkr h0,Qnz (by grind [Cse.vars,Jkr]),λv j=>?_,by simp[Cse.vars,toN]⟩;have:=(u v ((Jvx h0).1 j)).2;have:=h.nN.1;omega
theorem CseOk.cov(h:CseOk c ats)(hv:v<c.N): ∃ i,i<c.m/\v∈c.vars i:=by
 obtain⟨_,_,_,_,_,_,_,_,_,_,_,_,U⟩:=h.chk;obtain⟨a,O,y⟩:=U v (by have:=h.nN.1;simp only;omega);obtain⟨i,hi,e⟩:=List.getElem_of_mem O;have j:i<c.m:=by have:=h.al;grind [Cse.m]
 have G:ats.getD i a0=a:=by grind
 have D:=(h.mka i j).vars;rw[G]at D;refine⟨i,j,(Jvx λu J=>?_).2 (D ▸ y)⟩;have:=(h.at_ j).2.1 u (by rw[G,D];exact J);exact this.1
theorem CseOk.set(h:CseOk c ats){i:Nat}(hi:i<c.m): Yx [] (c.crs i) (rsA ats i):=(h.mka i hi).set (by have:=h.few.row i (by rw[<-h.len];exact hi);grind)
theorem CseOk.clen(h:CseOk c ats)(hi:i<c.m): ∀ r∈c.crs i,r.length=(c.vars i).length:=λr j=>by rw[(h.vars hi).2.2.2];exact((h.mka i hi).ok r j).1
theorem CseOk.slen(h:CseOk c ats)(hi:i<c.m): ∀ r∈rsA ats i,r.length=(c.vars i).length:=λr j=>h.clen hi r (((h.set hi).2 r).1 j)
theorem Qwx{g g':Nat->Nat}(h:∀ c,c<n->g c<=g' c): Xb n g<=Xb n g':=by
 induction n with
 | zero=>exact Nat.le_refl _
 | succ n ih=>rw[Xb,Xb];exact Nat.mul_le_mul (ih λc i=>h c om) (h n om)
theorem CseOk.cnt(h:CseOk c ats): max 1 (Xb c.m λi=>(c.crs i).length)<=5000:=by
 have j:=h.few.cnt;rw[<-h.len]at j;have u:Xb c.m (λi=>(c.crs i).length)<=Xb c.vs.length λi=>max 1 (c.rss.getD i []).length:=Qwx λi _=>Nat.le_max_right _ _;omega
theorem CseOk.pm(h:CseOk c ats): PermOk c.N c.F (toN c.pm)/\nz (toN c.pm)=c.pm:=by
 obtain⟨_,_,_,_,_,u,j,i,_⟩:=h.chk;simp only at u j i;have hn:=h.nN.1;have D:=h.fF.1;have h0:∀ v∈c.pm,0<=v:=by grind
 refine⟨⟨h.fF.2,by simp[toN];omega,λv y=>?_,?_⟩,Jkr h0⟩;repeat grind [Jvx,toN,List.Nodup,List.Pairwise.imp_of_mem]
theorem CseOk.run(h:CseOk c ats){ts:List TA}(hts:ats=ts.map (·.2)): RunOk c.N ts c.vars (rsA ats):=by
 have U:=h.nN.2;have j:ts.length=c.m:=by have:=h.al;rw[hts,List.length_map]at this;exact this
 refine⟨om,by have:=h.few.v5;grind [Cse.m],λi hi=>?_,λi hi=>(h.vars (j ▸ hi)).2.1,λi hi=>(h.vars (j ▸ hi)).2.2.1,λv J=>by rw[j];exact h.cov J,λi hi=>(h.set (j ▸ hi)).1,λi hi=>h.slen (j ▸ hi),λi hi=>(h.mka i (show i<c.m from j ▸ hi)).len⟩;have u:i<c.m:=j ▸ hi;have e:(ts.getD i ta0).2=ats.getD i a0:=by grind
 have y:=h.mka i u;obtain⟨G,_,_,D⟩:=h.vars u;rw[e];have O:ats.getD i a0=⟨(ats.getD i a0).vars,(ats.getD i a0).ar,(ats.getD i a0).rows⟩:=rfl;rw[O,y.vars,y.ar,G,D];rfl
def Cse.vss(c:Cse): List (List Nat):=(List.range c.m).map c.vars
def Cse.es(c:Cse): List Nat:=c.vss.map Xj
def szA(ats:List Atm): List Nat:=ats.map λa=>a.rows.length
theorem Cse.esl(c:Cse): c.es.length=c.m:=by simp[Cse.es,Cse.vss]
theorem Cse.esg{c:Cse}(hi:i<c.m): c.es.getD i 0=Xj (c.vars i):=by
 simp[Cse.es,Cse.vss,List.getD,hi]
theorem CseOk.elt(h:CseOk c ats): ∀ e∈c.es,e<2^c.N:=λe u=>by
 obtain⟨vs,j,rfl⟩:=List.mem_map.1 u;obtain⟨i,hi,rfl⟩:=List.mem_map.1 j;exact Jdc (h.vars (List.mem_range.1 hi)).2.2.1
theorem CseOk.bagset(h:CseOk c ats){kf:Nat->Nat}(hb:Ga c.N c.es (Zo (toN c.pm) c.F) kf pf)(hv:v<c.N): kf v ||| 2^v<2^c.N/\kf v ||| 2^v≠0/\(kf v ||| 2^v).testBit v=true:=by
 have j:(kf v ||| 2^v).testBit v=true:=by rw[Nat.testBit_or,Nat.testBit_two_pow];simp
 refine⟨?_,λe=>by rw[e]at j;simp at j,j⟩;refine Nat.lt_pow_two_of_testBit _ λi hi=>?_;cases hbt:(kf v ||| 2^v).testBit i with
 | false=>rfl
 | true=>
  rw[Nat.testBit_or,Nat.testBit_two_pow,Bool.or_eq_true,decide_eq_true_eq]at hbt;rcases hbt with hbt|hbt
  .rw[(hb v hv).2.1]at hbt;have:=Jpb (nb:=nb0 c.N c.es) (ord:=Zo (toN c.pm) c.F) (N:=c.N) (λa b u=>(Jkw h.elt u).2.1) hbt;omega
  omega
theorem CseOk.covd(h:CseOk c ats)(set:Nat): Uj c.N c.es set:=λv j _=>by
 obtain⟨i,hi,u⟩:=h.cov j;exact⟨i,by rw[Cse.esl];exact hi,by rw[Cse.esg hi];exact edgeOf_bit.2 u⟩
theorem CseOk.five(h:CseOk c ats): c.es.length<=5:=by rw[Cse.esl];exact h.few.v5
def Jjw(c:Cse)(kf:Nat->Nat)(sizes:List Nat)(v:Nat): Nat:=Up c.N c.es sizes (kf v ||| 2^v)
theorem CseOk.bagB(h:CseOk c ats)(hdiv:Ut KQ){sizes:List Nat}(hl:sizes.length=c.es.length)(hs:∀ s∈sizes,s<2048){kf:Nat->Nat}(hb:Ga c.N c.es (Zo (toN c.pm) c.F) kf pf)(hv:v<c.N): BagB c.N c.es sizes (kf v ||| 2^v) (Jjw c kf sizes v):=by
 obtain⟨j,i,_⟩:=h.bagset hb hv;exact Qnw hdiv h.five hl hs j i (h.covd _)
open Classical in
noncomputable def dsts (l:List V):List V:=l.foldl (λs v=>if v∈s then s else s++[v]) []
noncomputable def cntD(l:List V): Nat:=(dsts l).length
noncomputable def dA(x:Nat)(a:Atm): Nat:=cntD (a.rows.map λr=>r.getD (a.vars.idxOf (x:Int)) V0)
end
end Go.Proofs.YtebiphhfkdbpfaaGreatDoor
namespace Go.Wk
open Go.RowKit
theorem finC4{P:Program}{n:Nat}{al:AL}{w:World}{tt:TT}[h:Tab P tt]{fn:Func}{Φ:Value->World->Prop}{c t t1 t2 t3 b:Nat}{k:TK}{cs:List Value}{x y z:Value}(hb:Blk w b t cs)(hp:Φ (.tuple #[.agg cs.toArray,x,y,z]) w)(hr:fn.results = #[.cell c t,.tmp t1,.tmp t2,.tmp t3]:=by rfl)(ht:tk tt t=some k:=by rfl)(hk:k.desc=.invalid:=by rfl)(hs:k.size=cs.length:=by rfl)(hc:lk al c=some (.pointer (some ⟨b,0,none⟩)):=by rfl)(h1:lk al t1=some x:=by rfl)(h2:lk al t2=some y:=by rfl)(h3:lk al t3=some z:=by rfl):
  QX n (Vq P fn Φ) .ret al w :=
 Jjr (rs:=[.cell c t,.tmp t1,.tmp t2,.tmp t3]) (vs:=[.agg cs.toArray,x,y,z]) hr ⟨⟨_,hc,Kk h.ok ht hk hs (λj u i=>hb.at i)⟩,h1,h2,h3,trivial⟩ rfl hp
end Go.Wk
namespace Go.Proofs.YtebiphhfkdbpfaaGreatDoor
open Go.RowKit Pl Go.Wk Bl Nw
attribute [local irreducible] WC WL QX WD WDB WP WN WG WH
variable {inp:Inp}{vss:List (List Nat)}{es perm sizes:List Nat}{f n:Nat}{w w':World}
structure GraI(n f:Nat)(perm:List Nat)(vss:List (List Nat))(sizes:List Nat)(inp:Inp): Prop where
 en:inp.n=(n:Int)
 ef:inp.free=(f:Int)
 ep:inp.perm=nz perm
 ev:inp.ats.map (·.vars)=vss.map nz
 es:inp.ats.map (λa=>a.rows.length)=sizes
 five:inp.ats.length<=5
 pok:PermOk n f perm
 n32:n<=32
 vlt:∀ vs∈vss,∀ x∈vs,x<n
theorem CostI.gra{d:Nat->Atm->Nat}{r:Nat->Nat}(h:CostI n f perm vss sizes d r inp): GraI n f perm vss sizes inp:=⟨h.en,h.ef,h.ep,h.ev,h.es,h.five,h.pok,h.n32,h.vlt⟩
theorem GrV.off{b t c:Nat}{cs:List Value}{A:Option Addr}(h:GrV w A c n es)(hB:Blk w b t cs)(hcs:∀ u∈cs,∀ x,u≠.int .u32 x)(hg:w.grownBy w' (some b)): GrV w' A c n es:=by
 refine⟨?_,h.cap,h.n32,h.few,h.lt⟩;rcases Nat.eq_zero_or_pos es.length with h0|h0
 .have:es=[]:=List.eq_nil_of_length_eq_zero h0;subst this;exact Rd.nil
 refine Rd.grown h.rd hg λad e i=>?_;subst e;have D:(Uc es)[0]?=some (.int .u32 (es[0]:Int)):=by simp[Uc,h0]
 have y:=h.rd.cell D;have j:ad.block=b:=by injection i with i;exact i.symm
 exact hcs _ (List.mem_of_getElem? (Jvd hB (ad:=adr (some ad) 0) j y)) _ rfl
theorem Qfq{v:Value}(hC:GraI n f perm vss sizes inp)(h:InV w v inp):
  Ret Tryz.prog 19 [v] w λu w'=>∃ GA gc B SA sc kf pf,u=.tuple #[.agg (grC GA gc n (vss.map Xj)).toArray,.slice B n n,.slice SA sizes.length sc,.bool true]/\GrV w' GA gc n (vss.map Xj)/\w'.ownsRow w.heap.size 66 3 (.slice B n n) n (Qg n (Zv kf pf))/\Ga n (vss.map Xj) (Zo perm f) kf pf/\w'.ownsRow w.heap.size 3 1 (.slice SA sizes.length sc) sizes.length (Jh (nz sizes))/\Ext w w':=by
 have d0:=h;obtain⟨cs,rfl,vd,vp,va,rfl,hD,hP,c2⟩:=h;obtain⟨ts,A,c,bf,rfl,da,d9,hR,ck⟩:=id c2;obtain⟨DA,dc,rfl,_⟩:=id hD;obtain⟨PA,pc,rfl,d8,d7,cc⟩:=id hP;have bq:=hC.n32;have de:=hC.pok.fn;have br:inp.ats.length=ts.length:=by rw[bf,List.length_map]
 have az:vss.length=ts.length:=by have:=congrArg List.length hC.ev;simp only[List.length_map]at this;omega
 have ce:sizes.length=ts.length:=by rw[<-hC.es,List.length_map,br]
 have h5:ts.length<=5:=by have:=hC.five;omega
 refine Jz Tryz.func19 Tryz.ntmps19 rfl kr rfl ?_;refine ρ ?_;refine bx ?_;intro w1 b1 bm df cu;refine ρ ?_;refine alc Iq ?_;intro w3 b2 bj cj bd;have ao:=cu.ext bj;have G:=bm.trans bj;have co:OX 22 1 NtC (λq=>w3.heap.size<=q) w3 w3.heap.size (.slice none 0 0) ([]:List (List Nat)):=⟨[],rfl,Zc _ _ _ _,λp hp=>by cases hp⟩;have cm:w3.ownsRow w3.heap.size 3 1 (.slice none 0 0) 0 (Jh (nz [])):=Zc _ _ _ _;refine ρ ?_;refine Xh (fun (k:Nat) (vs vz:Value)=>[(1,.pointer (some ⟨b1,0,none⟩)),(2,.pointer (some ⟨b2,0,none⟩)),(6,vs),(7,vz),(8,.int .i64 (k:Int))])
  (λk vs vz w'=>k<=ts.length/\Ext w3 w'/\OX 22 1 NtC (λq=>w3.heap.size<=q) w' w3.heap.size vs (vss.take k)/\w'.ownsRow w3.heap.size 3 1 vz k (Jh (nz (sizes.take k)))) (λk _ _=>ts.length-k) 0 (.slice none 0 0) (.slice none 0 0) sB
  ⟨Nat.zero_le _,Ext.refl _,by rw[List.take_zero];exact co,by rw[List.take_zero];exact cm⟩ ?_
 rintro k vs vz w6 ⟨hk,O,aa,ae⟩;have a3:=G.trans O;have Z:=ao.ext O;obtain⟨SA,sc,rfl,cb,ay⟩:=aa.form;obtain⟨ZA,zc,rfl,d3,bi⟩:=Jd ae;have bn:(vss.take k).length=k:=by rw[List.length_take];omega
 rw[bn]at aa cb ay ⊢;refine ρ ?_;refine ld (Z.at (i:=4) rfl) ?_;refine ρ ?_;refine ci (λh=>?_) (λh=>?_)
 .have lk:k<ts.length:=by have:=oT h;omega
  clear h;have bh:k<vss.length:=om
  have bg:k<sizes.length:=om
  have hp:=ck _ (Jzq rfl lk);have bs:∀ j u,(ts.getD k ta0).1.cells[j]?=some u->w6.cell? ((adr A (k*3)).add j)=some u:=λj u hu=>Jzb (hR.ext a3) rfl lk hu;have ad:(ts.getD k ta0).2.vars=nz (vss.getD k []):=by
   have e1:(inp.ats.map (·.vars))[k]?=(vss.map nz)[k]?:=by rw[hC.ev]
   rw[bf]at e1;simpa [List.getElem?_eq_getElem lk,List.getElem?_eq_getElem bh,List.getD] using e1
  have b4:(ts.getD k ta0).2.rows.length=sizes.getD k 0:=by
   have e1:(inp.ats.map λa=>a.rows.length)[k]?=sizes[k]?:=by rw[hC.es]
   rw[bf]at e1;simpa [List.getElem?_eq_getElem lk,List.getElem?_eq_getElem bg,List.getD] using e1
  generalize hq:ts.getD k ta0=q at hp bs ad b4
  obtain⟨⟨t1,t2,t3⟩,a⟩:=q;simp only at ad b4;obtain⟨⟨QA,qc,c6,d6,d5,d4⟩,c5,ac⟩:=id hp;simp only at c6 c5;obtain⟨aq,PG,au,dg,c4,_⟩:=id ac;simp only at c4;subst c6;subst c5;subst c4;refine ρ ?_;refine ld (Z.at (i:=4) rfl) ?_;refine ρ ?_;refine ixq 3 k (hR.ext a3) lk ?_;refine ρ ?_;refine ld (bs 0 _ rfl) ?_;refine ρ ?_;refine bsl (Jtp _ _ _) ?_;intro w9 di ax cz c1;have y:=ax;have a5:=O.trans y;have cp:∀ u,Ext w3 u->IntsV u (.slice QA a.vars.length qc) (nz (vss.getD k [])):=λu hu=>by
   have:=(hp.ext (G.trans hu)).1;rw[ad]at this;rwa [ad]
  have ak:=aa.ext NtC.sta y;obtain⟨_,_,bt⟩:=id ak.own;have ai:=Je ae y;refine ρ ?_;refine apX EIs NtC.sta ak c1 rfl (λu hu=>by rw[List.mem_singleton.1 hu];rfl) ⟨_,rfl,Off.old cp a5 λq hq=>hq⟩ (λg hg=>(ay g hg).1) om (by decide) a5.size ?_;intro c8 a1 ba ah _;have D:Ext w3 a1:=Js a5 ah λg eg=>(ay g eg).1;have b6:=Qf ai (GrN.by (N:=λq=>(Value.slice SA k sc).ownBlock=some q) ah λq e=>e) λg eg e=>Ud bt ai kr e eg;have be:=ao.ext D;have b3:∀ j u,(V3.cells ⟨.slice QA a.vars.length qc,.int .i64 (a.ar:Int),.slice PG aq.length au⟩)[j]?=some u->a1.cell? ((adr A (k*3)).add j)=some u:=λj u hu=>Jzb (hR.ext (G.trans D)) rfl lk (by rw[hq];exact hu);refine ρ ?_;refine ld (be.at (i:=4) rfl) ?_;refine ρ ?_;refine ixq 3 k (hR.ext (G.trans D)) lk ?_;refine ρ ?_;refine lds (cs:=[.int .i64 (a.ar:Int),.slice PG aq.length au]) (λj u hu=>by rw[Jvl];exact b3 (1+j) u (by rw[Nat.add_comm];exact hu)) ?_
  have bu:RelV a1 (.agg #[.int .i64 (a.ar:Int),.slice PG aq.length au]) a.ar a.rows:=(hp.ext (G.trans D)).rel;refine ρ ?_;refine cl (Jqt bu) ?_;rintro u ap ⟨rfl,a7⟩;refine ρ ?_;refine bsl (Ka _) ?_;intro d2 dh bl cy c0;have J:=a7.trans bl;have a6:=D.trans J;have a8:=Je b6 J;have a9:=ba.ext NtC.sta J;obtain⟨_,_,b7⟩:=id a9.own;refine ρ ?_;refine apb (m':=1) (news:=[.int .i64 (a.rows.length:Int)]) EI a8 (c0.rd (n:=1) rfl) (by simp[Value.oneCell']) (by unfold maxLen;omega) om a6.size ?_;intro c7 d1 b5 af _;have b8:=a9.gr NtC.sta (GrN.by (N:=λq=>(Value.slice ZA k zc).ownBlock=some q) af λq e=>e) λq e=>⟨(bi q e).1,λe'=>Ud a8 b7 kr e e'⟩;have cx:vss.take (k+1)=vss.take k++[vss.getD k []]:=Qa [] bh;have cw:Jh (nz (sizes.take (k+1)))=Jh (nz (sizes.take k))++[.int .i64 (a.rows.length:Int)]:=by
   rw[Qa 0 bg,b4];simp[Jh,nz]
  refine ρ ?_;exact Qm (k+1) c8 c7 sO ⟨lk,Js a6 af λg eg=>(bi g eg).1,by rw[cx];exact b8,by rw[cw];exact b5⟩ om
 have cg:k=ts.length:=by have:=oF h;omega
 subst cg;have db:ts.length=vss.length:=az.symm;rw[<-az,List.take_length]at aa;rw[<-ce,List.take_length]at ae;have cn:=aa.gx (N':=Nn) NtC.sta om λk hk=>hk.elim;refine ρ ?_;refine ld (Z.at (i:=0) rfl) ?_;rw[hC.en,<-az];refine ρ ?_;refine cl (Jpp cn bq om hC.vlt) ?_;rintro u w7 ⟨GA,gc,rfl,hG,ca⟩;refine ρ ?_;refine alc Iq ?_;intro w8 b9 c9 ch cr;refine ρ ?_;refine stW cr ?_;intro w9 am dd ax;have a4:Ext w7 w9:=ax w7 c9 ch;have y:=ca.trans a4;have an:=Z.ext y;have bp:inp.perm.length=perm.length:=by rw[hC.ep,nzl]
 have bo:Rd w 1 PA perm.length (Jh (nz perm)):=by rw[<-bp,<-hC.ep];exact cc
 refine ρ ?_;refine ldW am ?_;refine ρ ?_;refine ld (an.at (i:=1) rfl) ?_;rw[hC.ef];refine ρ ?_;refine ld (an.at (i:=3) rfl) ?_;rw[bp];refine ρ ?_;have a2:=a3.trans y;refine cl (Jrv (pc:=pc) (hG.ext a4) hC.pok (bo.ext a2)) ?_;rintro u a1 ⟨U,B,kf,pf,rfl,bz,cq⟩;refine ρ ?_;have aw:=a2.trans U;have bb:=am.ext U;refine ldW bb ?_;refine ρ ?_;have ab:=(bd.ext O).ext (y.trans U);refine stW ab ?_;intro ap bc ag a7;have av:Ext w ap:=a7 w aw (nL bm.size cj);have bw:GrN (λk=>k=b2) a1 ap:=GrN.by ag λk hk=>by injection hk with hk;exact hk.symm
 have aj:=Je ae (y.trans U);refine ρ ?_;have cd:sizes.length=vss.length:=om
 refine finC4 bc ⟨GA,gc,B,ZA,zc,kf,pf,by rw[cd],?_,?_,cq,?_,av⟩
 .refine((hG.ext a4).ext U).off ab (λu hu x e=>?_) ag;simp only[List.mem_cons,List.not_mem_nil,or_false]at hu;rcases hu with rfl|rfl<;>cases e
 .have h1:=Qf bz bw λg eg e=>by
   obtain⟨_,_,_,_,hf⟩:=Jd bz;have:=(hf g eg).1;have:=bd.lt;have:=(O.trans y).size;omega
  exact Il h1 a2.size
 have h1:=Qf aj bw λg eg e=>by
  have h2:=bd.lt;obtain⟨_,_,_,_,hf⟩:=Jd aj;have:=(hf g eg).1;omega
 have h2:=Il h1 G.size;exact h2
open Go.RowKit Pl Go.Wk Bl Nw
variable {c n:Nat}{v:Value}{w:World}
theorem Qcg(hv:NatV w v n)(hs:(Jj n).length<=1000): Ret Tryz.prog 73 [v] w λr w'=>(∃ A c,r=.slice A (Jj n).length c/\w'.ownsRow w.heap.size 63 1 r (Jj n).length (Nc (Jj n)))/\Ext w w':=by
 refine Jz Tryz.func73 Tryz.ntmps73 rfl kr rfl ?_;refine ρ ?_;refine cl (Zq hv) ?_;rintro j w' ⟨⟨A,rfl,y⟩,rfl⟩;refine ρ ?_;refine cl (Jxw y (Jqb _) om) ?_;rintro j w1 ⟨i,u⟩;obtain⟨G,D,rfl,O,J⟩:=Jd i;refine ρ ?_;exact Jq ⟨⟨G,D,rfl,i⟩,u⟩
theorem Qwb{A:Option Addr}(w:World): Ret Tryz.prog 75 [.slice A 1 c] w λu w'=>w'=w:=by
 refine Jz Tryz.func75 Tryz.ntmps75 rfl kr rfl ?_;refine ρ ?_;refine Jr (fun (_:Nat)=>[(3,.int .i64 ((1:Nat)-1:Int)),(2,.int .i64 0)]) (λ_ w'=>w'=w) (λ_=>0) 0 sB rfl ?_;rintro _ _ rfl;refine ρ ?_;exact Vb rfl
theorem EU8: ElT Tryz.prog 74 5 1 1 (.int .u8 0):=⟨Tryz.underlying74,info_parts kr,rfl,by decide⟩
theorem bs1By(z:Int)(w:World): (Instr.buildSlice 74 1 #[(0,.int .u8 z)]).run Tryz.prog w=.ok (.slice (some ⟨w.heap.size,0,none⟩) 1 1) (w.alloc (.cells [.int .u8 z].toArray 5)):=kr
theorem Qcc(hv:NatV w v 8): Ret Tryz.prog 37 [v] w λr w'=>r=.string ⟨#[56]⟩/\Ext w w':=by
 have el:Jj 8=[8]:=Jcf (by decide) (by decide);refine Jz Tryz.func37 Tryz.ntmps37 rfl kr rfl ?_;refine ρ ?_;refine cl (Qcg hv (by rw[el];decide)) ?_;rintro u w1 ⟨⟨A,c,rfl,ho⟩,a3⟩;rw[el]at ho ⊢;refine ρ ?_;refine Xh (fun (j:Nat) (y:Option Addr×Nat) (z:Nat)=>[(3,.slice A (1-j) z),(4,.slice y.1 j y.2)])
  (λj y z w'=>(j=0/\y=(none,0)/\z=c/\w'=w1)∨(j=1/\Ext w w'/\Rd w' 1 y.1 1 (Bc [56]))) (λj _ _=>1-j) 0 (none,0) c sB (.inl ⟨rfl,rfl,rfl,rfl⟩) ?_
 rintro j y z w2 (⟨rfl,rfl,rfl,rfl⟩|⟨rfl,a2,hr⟩)
 .obtain⟨_,_,e0,Z,a6⟩:=Jd ho;injection e0 with _ _ e0
  subst e0;have Z:1<=z:=Z;refine ρ ?_;refine cl (Jsb (A:=A) (L:=1) (c:=z) (d:=1000000000) (l:=[8]) rfl (by decide) ho (by decide) (by decide)) ?_;rintro u w3 ⟨rfl,⟨os,O,a5,a7⟩,a8⟩;have a4:val os=0:=by rw[a5];decide
  have e8:val [8] % 1000000000=8:=by decide
  have G:Ext w w3:=Js a3 a8 λg eg=>(a6 g eg).1;have J:=Yh (A:=A) (l:=os) (c:=z) (by rw[O];exact Rd.own a7) om om;rw[O,a4,limbs_0]at J;rw[e8];refine ρ ?_;refine cl J ?_;rintro u w4 ⟨rfl,rfl⟩;refine ρ ?_;refine Ju (fun (i:Nat) (y:Option Addr×Nat)=>[(5,.int .u32 ((8*(1-i):Nat):Int)),(19,.int .i64 (i:Int)),(3,.slice A 0 0),(4,.slice y.1 i y.2)])
   (λi y w'=>(i=0/\y=(none,0)/\w'=w4)∨(i=1/\Ext w w'/\Rd w' 1 y.1 1 (Bc [56]))) (λi _=>1-i) 0 (none,0) sB (.inl ⟨rfl,rfl,rfl⟩) ?_
  rintro i y w5 (⟨rfl,rfl,rfl⟩|⟨rfl,a1,hr⟩)
  .refine ρ ?_;refine kv 34 (u:=.int .u32 8) rfl ?_;refine kv 5 (u:=.int .u32 8) rfl ?_;refine rem (b:=10) (by decide) ?_;refine kv 35 (show Value.int .u32 (Int.tmod 8 10)=.int .u32 8 from rfl) ?_;refine ρ ?_;refine kv 37 (show Value.int .u8 (IntKind.u8.wrap (IntKind.u32.wrap (48+8)))=.int .u8 56 from rfl) ?_;refine bsl (bs1By 56) ?_;intro w6 b6 D ac a9;refine ρ ?_;refine apb (m':=1) (base:=w.heap.size) (news:=[.int .u8 56]) EU8 (Zc _ _ _ _) (a9.rd (n:=1) rfl) (by simp[Value.oneCell']) (by unfold maxLen;omega) om (G.trans D).size ?_;intro v7 w7 U hg7 aa;obtain⟨BA,bc,rfl,_,ab⟩:=Jd U;refine ρ ?_;refine Ge rfl rfl (by decide) rfl ?_;refine ρ ?_;exact Jt 1 (BA,bc) sO (.inr ⟨rfl,Js (G.trans D) hg7 (λg eg=>by cases eg),Rd.own U⟩) (by decide)
  refine ρ ?_;exact Qm 1 y 0 sB (.inr ⟨rfl,a1,hr⟩) (by decide)
 refine ρ ?_;refine cl (Qwb w2) ?_;rintro u w3 rfl;refine ρ ?_;refine sb hr ?_;refine ρ ?_;exact Jq ⟨rfl,a2⟩
end Go.Proofs.YtebiphhfkdbpfaaGreatDoor
namespace Go.Proofs.YtebiphhfkdbpfaaGreatDoor
open Go.RowKit Pl Go.Wk Bl Nw
variable {ats:List Atm}{m:List Row}{c n set v:Nat}{pf:Nat->Int}
def nV(n:Int): V:=⟨1,n,⟨#[]⟩⟩
def nR(a b:Int): Row:=[nV a,nV b]
def rw4: List Row:=[nR 1 1,nR 1 2,nR 2 1,nR 2 2]
def v3: List (List Nat):=[[0,1],[1,2],[0,2]]
def rB(v:Nat): Nat:=if v=2 then 8 else 4
abbrev Gf: PR:=⟨false,1,1⟩
abbrev Vx: PR:=⟨false,0,1⟩
theorem es3: v3.map Xj=[3,6,5]:=by decide
theorem bag7: BagB 3 [3,6,5] [4,4,4] 7 8:=by
 have u:∀ q∈[hlf,hlf,hlf],q=hlf:=λq j=>by
  simp only[List.mem_cons,List.not_mem_nil,or_false,or_self]at j;exact j
 refine⟨by decide,by decide,Jgs,216,_,32,32,by decide +kernel,Qxk,(λq j=>by rw[u q j];decide),(λq j=>by rw[u q j];decide +kernel),(λi hi=>?_),(λq j=>by rw[u q j];decide +kernel),by rw[Jql];decide,by rw[Jql];decide,by rw[Jql];exact Qxj,by decide,by decide,by rw[Jql,Jgr];decide,Jsc,λx y=>?_⟩
 .have hi:i<=3:=hi;rcases(show i=0∨i=1∨i=2∨i=3 by omega) with rfl|rfl|rfl|rfl<;>decide +kernel
 rw[Jql,Jgr]at y;exact Jyt y ⟨by decide,by decide⟩
theorem Jxb: dnm [Gf,Vx,Vx]=1:=by decide +kernel
theorem Jmp: Ze [Gf,Vx,Vx] [4,4,4] 1=4:=by decide +kernel
theorem Jkp{q:PR}(h:q∈[Gf,Vx,Vx]): q=Gf∨q=Vx:=by
 simp only[List.mem_cons,List.not_mem_nil,or_false,or_self]at h;exact h
theorem Qyv: PrOk [Gf,Vx,Vx] [4,4,4] 1 32:=by
 refine⟨by decide,rfl,λq D=>?_,λs j=>?_,λi hi=>?_,λi u J=>?_⟩
 .rcases Jkp D with rfl|rfl
  .exact⟨by decide,by decide,by decide,by decide +kernel,by decide +kernel,by decide +kernel,by decide +kernel,by decide +kernel,by decide +kernel⟩
  exact⟨by decide,by decide,by decide,by decide +kernel,by decide +kernel,by decide +kernel,by decide +kernel,by decide +kernel,by decide +kernel⟩
 .simp only[List.mem_cons,List.not_mem_nil,or_false,or_self]at j;rw[j];decide
 .have hi:i<=3:=hi;rcases(show i=0∨i=1∨i=2∨i=3 by omega) with rfl|rfl|rfl|rfl<;>decide +kernel
 have u:i<3:=u;have G:4^Zr Gf 1<2^32:=by decide +kernel
 have y:4^Zr Vx 1<2^32:=by decide +kernel
 rcases(show i=0∨i=1∨i=2 by omega) with rfl|rfl|rfl
 .exact G
 .exact y
 exact y
theorem bagS(h0:set<2^3)(h1:set≠0)(hf:((Jv 3 set).length+(Jb [3,6,5] set [3,6,5].length).length)^(Jb [3,6,5] set [3,6,5].length).length<=125)(hcv:cvr 125 3 [3,6,5] set=some ⟨[Gf,Vx,Vx],[Gf,Vx,Vx],⟨false,1,1⟩⟩): BagB 3 [3,6,5] [4,4,4] set 4:=by
 refine⟨h0,h1,λv y D=>?_,125,_,32,32,hf,hcv,(λq j=>?_),(λq j=>?_),(λi hi=>?_),(λq j=>?_),by rw[Jxb];decide,by rw[Jxb];decide,by rw[Jxb];exact Qyv,by decide,by decide,by rw[Jxb,Jmp];decide,Jsc,λx u=>?_⟩
 .exact Jgs v y (by rcases(show v=0∨v=1∨v=2 by omega) with rfl|rfl|rfl<;>decide)
 .rcases Jkp j with rfl|rfl<;>decide
 .rcases Jkp j with rfl|rfl<;>decide +kernel
 .have hi:i<=3:=hi;rcases(show i=0∨i=1∨i=2∨i=3 by omega) with rfl|rfl|rfl|rfl<;>decide +kernel
 .rcases Jkp j with rfl|rfl<;>decide +kernel
 rw[Jxb,Jmp]at u;exact Jyt u ⟨by decide,by decide⟩
theorem Jck{kf:Nat->Nat}(h:Ga 3 [3,6,5] [2,1,0] kf pf)(hv:v<3)(hc:c<4294967296)(hk:∀ x,x<32->Va (nb0 3 [3,6,5]) [2,1,0] v x=c.testBit x): kf v=c:=by
 obtain⟨u,j,_⟩:=h v hv;refine Nat.eq_of_testBit_eq λx=>?_;by_cases hx:x<32
 .rw[j,hk x hx]
 have i:4294967296<=2^x:=Nat.pow_le_pow_right (n:=2) (by decide) (show 32<=x by omega);rw[Nat.testBit_lt_two_pow (nM u i),Nat.testBit_lt_two_pow (nM hc i)]
theorem Qgk{kf:Nat->Nat}(h:Ga 3 (v3.map Xj) (Zo [] 3) kf pf)(v:Nat)(hv:v<3): BagB 3 (v3.map Xj) [4,4,4] (kf v ||| 2^v) (rB v):=by
 rw[es3]at h ⊢;have h:Ga 3 [3,6,5] [2,1,0] kf pf:=h;rcases(show v=0∨v=1∨v=2 by omega) with rfl|rfl|rfl
 .rw[Jck h (by decide) (c:=0) (by decide) (by decide +kernel)];exact bagS (by decide) (by decide) (by decide +kernel) (by decide +kernel)
 .rw[Jck h (by decide) (c:=1) (by decide) (by decide +kernel)];exact bagS (by decide) (by decide) (by decide +kernel) (by decide +kernel)
 rw[Jck h (by decide) (c:=3) (by decide) (by decide +kernel)];exact bag7
theorem Qkc: Lt [] rw4:=by unfold Lt;decide +kernel
theorem Qmk: Lt [] [[nV 1],[nV 2]]:=by unfold Lt;decide +kernel
theorem Jkb(h:Yx [] rw4 m): m=rw4:=Jyg h.1 Qkc h.2
theorem Qlq(hc:c<2)(h:Yx [] (rw4.map (pmR [c])) m): m=[[nV 1],[nV 2]]:=by
 refine Jyg h.1 Qmk λx=>(h.2 x).trans ?_;have j:rw4.map (pmR [0])=[[nV 1],[nV 1],[nV 2],[nV 2]]:=rfl;have i:rw4.map (pmR [1])=[[nV 1],[nV 2],[nV 1],[nV 2]]:=rfl;rcases(show c=0∨c=1 by omega) with rfl|rfl
 .rw[j];simp only[List.mem_cons,List.not_mem_nil,or_false];grind
 rw[i];simp only[List.mem_cons,List.not_mem_nil,or_false];grind
theorem Jbp(h:n<4294967296): Nb n:=nM h (Nat.le_self_pow (show bK≠0 by rw[Qjd];decide) _)
theorem hg2: hgt 2=2:=by decide +kernel
def c3: Cse:=⟨3,3,[false,false,false],[],[[0,1],[1,2],[0,2]],[rw4,rw4,rw4]⟩
theorem asc2{p q:Int}(h:p<q): Ko [p,q]:=λj u i=>by
 have i:j<2:=i;obtain rfl:j=1:=om
 exact h
theorem Jcx(hl:ats.length=3)(h:∀ i,i<3->MkA (ats.getD i a0) (c3.vs.getD i []) (c3.rss.getD i [])): ∃ a b c,ats=[a,b,c]/\MkA a [0,1] rw4/\MkA b [1,2] rw4/\MkA c [0,2] rw4:=by
 match ats,hl with
 | [a,b,c],_=>exact⟨a,b,c,rfl,h 0 (by decide),h 1 (by decide),h 2 (by decide)⟩
theorem Jrp(hl:ats.length=3)(h:∀ i,i<3->MkA (ats.getD i a0) (c3.vs.getD i []) (c3.rss.getD i [])): Ya ⟨3,3,[false,false,false],[],ats⟩:=by
 obtain⟨a,b,c,rfl,y,G,J⟩:=Jcx hl h;have u:∀ {a:Atm} {p q:Int},MkA a [p,q] rw4->p<q->0<=p->q<3->Yu 3 a:=fun {a p q} h h1 h2 h3=>by
  refine⟨by rw[h.vars];exact asc2 h1,λv j=>?_,by rw[h.vars,h.ar]⟩;rw[h.vars]at j;simp only[List.mem_cons,List.not_mem_nil,or_false]at j;rcases j with rfl|rfl<;>omega
 refine⟨(show(0:Int)<=3 by decide),(show(3:Int)<=32 by decide),(show(0:Int)<=3 by decide),(show(3:Int)<=3 by decide),rfl,rfl,(λv j=>by cases j),List.nodup_nil,(show(0:Int)<=3 by decide),(show(3:Int)<=32 by decide),by simp,λx D=>?_,λv j=>?_⟩
 .simp only[List.mem_cons,List.not_mem_nil,or_false]at D;rcases D with rfl|rfl|rfl
  .exact u y (by decide) (by decide) (by decide)
  .exact u G (by decide) (by decide) (by decide)
  exact u J (by decide) (by decide) (by decide)
 have j:(v:Int)<3:=j;rcases(show v=0∨v=1∨v=2 by omega) with rfl|rfl|rfl
 .exact⟨a,by simp,by rw[y.vars];simp⟩
 .exact⟨a,by simp,by rw[y.vars];simp⟩
 exact⟨b,by simp,by rw[G.vars];simp⟩
theorem Jcw{a:Atm}{zs:List Int}{x:Int}(h:MkA a zs rw4)(h2:zs.length=2)(ha:Ko zs): CntA (λ_=>2) x a:=by
 have j:a.rows=rw4:=Jkb (h.set (by decide));refine⟨by rw[h.vars];exact ha,by rw[h.vars,h.ar],λr i=>?_,by rw[j];decide,λD m y G u=>?_⟩
 .rw[h.ar];exact(h.ok r (h.sub r i)).1
 rw[j]at u;rw[Qlq (by rw[h.vars,h2]at y;exact y) u];rfl
theorem Qgj(hl:ats.length=3)(h:∀ i,i<3->MkA (ats.getD i a0) (c3.vs.getD i []) (c3.rss.getD i [])): CostI 3 3 [] v3 [4,4,4] (λ_ _=>2) rB ⟨3,3,[false,false,false],[],ats⟩:=by
 have j:=Jrp hl h;obtain⟨a,b,c,rfl,ha,Z,U⟩:=Jcx hl h;have O:a.rows=rw4:=Jkb (ha.set (by decide));have J:b.rows=rw4:=Jkb (Z.set (by decide));have G:c.rows=rw4:=Jkb (U.set (by decide));have er:(List.range 3).map rB=[4,4,8]:=rfl;refine⟨j,rfl,rfl,rfl,?_,?_,by simp,⟨Nat.le_refl _,rfl,(λv D=>by cases D),List.nodup_nil⟩,by decide,by decide,λx y a' u=>?_,λkf pf h v D=>Qgk h v D,?_,λi hi=>?_,λx y=>?_⟩
 .show[a.vars,b.vars,c.vars]=_;rw[ha.vars,Z.vars,U.vars];rfl
 .show[a.rows.length,b.rows.length,c.rows.length]=_;rw[O,J,G];rfl
 .simp only[List.mem_cons,List.not_mem_nil,or_false]at u;rcases u with rfl|rfl|rfl
  .exact Jcw ha rfl (asc2 (by decide))
  .exact Jcw Z rfl (asc2 (by decide))
  exact Jcw U rfl (asc2 (by decide))
 .rw[er];exact Jbp (by decide)
 .rw[er];rcases(show i=0∨i=1∨i=2∨i=3 by omega) with rfl|rfl|rfl|rfl<;>exact Jbp (by decide)
 rw[er]at y;simp only[List.mem_cons,List.not_mem_nil,or_false]at y;rcases y with rfl|rfl|rfl<;>exact Jbp (by decide)
theorem Qgh(hl:ats.length=3)(h:∀ i,i<3->MkA (ats.getD i a0) (c3.vs.getD i []) (c3.rss.getD i [])): Jyc 3 (λ_ _=>2) ⟨3,3,[false,false,false],[],ats⟩=6:=by
 obtain⟨a,b,c,rfl,y,u,j⟩:=Jcx hl h;have G:max (Qh (λ_=>2) ((0:Nat):Int) [a,b,c]) 0=2:=by simp[Qh,Gp,y.vars,u.vars,j.vars];rfl
 have f1:max (Qh (λ_=>2) ((1:Nat):Int) [a,b,c]) 0=2:=by simp[Qh,Gp,y.vars,u.vars,j.vars];rfl
 have D:max (Qh (λ_=>2) ((2:Nat):Int) [a,b,c]) 0=2:=by simp[Qh,Gp,y.vars,u.vars,j.vars];rfl
 have e:(List.range 3).map (λx:Nat=>max (Qh (λ_=>2) (x:Int) [a,b,c]) 0)=[2,2,2]:=by
  show[max (Qh (λ_=>2) ((0:Nat):Int) [a,b,c]) 0,max (Qh (λ_=>2) ((1:Nat):Int) [a,b,c]) 0,max (Qh (λ_=>2) ((2:Nat):Int) [a,b,c]) 0]=_;rw[G,f1,D]
 show hgS ((List.range 3).map (λx:Nat=>max (Qh (λ_=>2) (x:Int) [a,b,c]) 0))=6;rw[e];show[hgt 2,hgt 2,hgt 2].sum=6;rw[hg2];rfl
open Go.RowKit Pl Go.Wk Bl Nw
attribute [local irreducible] WC WL QX WD WDB WP WN WG WH
variable {B0 b:Nat}{w:World}
theorem Qnc(n:Int)(w:World): (Instr.build 102 #[(0,.int .i64 1),(1,.int .i64 n)]).run Tryz.prog w=.ok (nV n).val w:=kr
theorem Gg(n:Int)(w:World): Ret Tryz.prog 36 [.int .i64 n] w λx w'=>x=(nV n).val/\Ext w w':=by
 refine Jz Tryz.func36 Tryz.ntmps36 rfl kr rfl ?_;refine ρ ?_;refine alc zVal ?_;intro w1 b j D y;refine ρ ?_;refine bld (Qnc n _) ?_;refine ρ ?_;refine stb y (cs':=(nV n).cells) ?_ (V.one _);intro w2 u hg2 i;refine ρ ?_;exact Vc u ⟨rfl,i w j D⟩
theorem bs2V(a b:V)(w:World): (Instr.buildSlice 85 2 #[(0,a.val),(1,b.val)]).run Tryz.prog w=.ok (.slice (some ⟨w.heap.size,0,none⟩) 2 2) (w.alloc (.cells (Qw [a,b]).toArray 102)):=kr
theorem bs4R(A1 A2 A3 A4:Option Addr)(n1 n2 n3 n4 c1 c2 c3 c4:Nat)(w:World): (Instr.buildSlice 78 4 #[(0,.slice A1 n1 c1),(1,.slice A2 n2 c2),(2,.slice A3 n3 c3),(3,.slice A4 n4 c4)]).run Tryz.prog w=.ok (.slice (some ⟨w.heap.size,0,none⟩) 4 4) (w.alloc (.cells [.slice A1 n1 c1,.slice A2 n2 c2,.slice A3 n3 c3,.slice A4 n4 c4].toArray 85)):=kr
theorem bs3RR(A1 A2 A3:Option Addr)(n1 n2 n3 c1 c2 c3:Nat)(w:World): (Instr.buildSlice 29 3 #[(0,.slice A1 n1 c1),(1,.slice A2 n2 c2),(2,.slice A3 n3 c3)]).run Tryz.prog w=.ok (.slice (some ⟨w.heap.size,0,none⟩) 3 3) (w.alloc (.cells [.slice A1 n1 c1,.slice A2 n2 c2,.slice A3 n3 c3].toArray 78)):=kr
theorem bs3II(A1 A2 A3:Option Addr)(n1 n2 n3 c1 c2 c3:Nat)(w:World): (Instr.buildSlice 28 3 #[(0,.slice A1 n1 c1),(1,.slice A2 n2 c2),(2,.slice A3 n3 c3)]).run Tryz.prog w=.ok (.slice (some ⟨w.heap.size,0,none⟩) 3 3) (w.alloc (.cells [.slice A1 n1 c1,.slice A2 n2 c2,.slice A3 n3 c3].toArray 22)):=kr
theorem bs2I(a b:Int)(w:World): (Instr.buildSlice 22 2 #[(0,.int .i64 a),(1,.int .i64 b)]).run Tryz.prog w=.ok (.slice (some ⟨w.heap.size,0,none⟩) 2 2) (w.alloc (.cells [Value.int .i64 a,.int .i64 b].toArray 3)):=kr
theorem Qnh(A B C:Option Addr)(a b c a' b' c':Nat)(w:World): (Instr.build 31 #[(0,.int .i64 3),(1,.int .i64 3),(2,.slice A a a'),(4,.slice B b b'),(5,.slice C c c')]).run Tryz.prog w=.ok (.agg #[.int .i64 3,.int .i64 3,.slice A a a',.slice none 0 0,.slice B b b',.slice C c c']) w:=kr
theorem Jwg{r:Row}(h:Blk w b 102 (Qw r))(hl:r.length<=1100000): RowV w (.slice (some ⟨b,0,none⟩) r.length r.length) r:=⟨some ⟨b,0,none⟩,r.length,rfl,Nat.le_refl _,hl,h.rd (Jlg r)⟩
theorem Qdd(ps:List Pr)(h:Blk w b 85 (ps.map (·.1)))(hr:∀ p∈ps,RowV w p.1 p.2)(hl:ps.length<=1100000): RowsV w (.slice (some ⟨b,0,none⟩) ps.length ps.length) (ps.map (·.2)):=⟨ps,some ⟨b,0,none⟩,ps.length,rfl,rfl,Nat.le_refl _,hl,h.rd (by simp),hr⟩
theorem hg7: hgt 7=4:=by decide +kernel
theorem hg6: hgt 6=3:=by decide +kernel
theorem mks3: MkS c3:=by
 have j:∀ r∈rw4,r.length=2/\r.all Xe=true:=by decide +kernel
 refine⟨rfl,λi hi=>?_,λi hi=>?_,λi hi=>?_⟩<;>(have hi:i<3:=hi;rcases(show i=0∨i=1∨i=2 by omega) with rfl|rfl|rfl)
 .decide
 .decide
 .decide
 .exact j
 .exact j
 .exact j
 .decide
 .decide
 decide
theorem Qnx(hT:FB B0 w): Ret Tryz.prog 10 [] w λu w'=>u=.bool true/\Ext w w':=by
 refine Jz Tryz.func10 Tryz.ntmps10 rfl kr rfl ?_;refine ρ ?_;refine cl (Gg 1 _) ?_;rintro _ w1 ⟨rfl,c0⟩;refine ρ ?_;refine cl (Gg 1 _) ?_;rintro _ w2 ⟨rfl,bz⟩;refine ρ ?_;refine bsl (bs2V _ _) ?_;intro w3 b3 bw di c7;refine ρ ?_;refine cl (Gg 1 _) ?_;rintro _ w4 ⟨rfl,bu⟩;refine ρ ?_;refine cl (Gg 2 _) ?_;rintro _ w5 ⟨rfl,bt⟩;refine ρ ?_;refine bsl (bs2V _ _) ?_;intro w6 b6 bs dh c6;refine ρ ?_;refine cl (Gg 2 _) ?_;rintro _ w7 ⟨rfl,br⟩;refine ρ ?_;refine cl (Gg 1 _) ?_;rintro _ w8 ⟨rfl,bq⟩;refine ρ ?_;refine bsl (bs2V _ _) ?_;intro w9 b9 bp dg c5;refine ρ ?_;refine cl (Gg 2 _) ?_;rintro _ df ⟨rfl,b8⟩;refine ρ ?_;refine cl (Gg 2 _) ?_;rintro _ de ⟨rfl,b7⟩;refine ρ ?_;refine bsl (bs2V _ _) ?_;intro dd cp b5 d1 bg;refine ρ ?_;refine bsl (bs4R _ _ _ _ _ _ _ _ _ _ _ _) ?_;intro db co b1 d0 bf;refine ρ ?_;refine mkn EB 3 (by decide) (by unfold maxLen;decide) ?_
 intro da a6 az a2 _;have e0:(madeCells (Value.bool false).cells (3*1)).toList=[false,false,false].map Value.bool:=kr
 rw[e0]at a2;refine ρ ?_;refine bsl (bs2I _ _) ?_;intro d9 cn ay cz be;refine ρ ?_;refine bsl (bs2I _ _) ?_;intro d8 cm ax cy bd;refine ρ ?_;refine bsl (bs2I _ _) ?_;intro d7 ck aw cx bc;refine ρ ?_;refine bsl (bs3II _ _ _ _ _ _ _ _ _) ?_;intro d6 a5 av cw bb;refine ρ ?_;refine bsl (bs3RR _ _ _ _ _ _ _ _ _) ?_;intro ah a4 au cu ba;refine ρ ?_;refine bld (Qnh _ _ _ _ _ _ _ _ _ _) ?_;have a8:=au;have a9:=av.trans a8;have aa:=aw.trans a9;have ab:=ax.trans aa;have ad:=ay.trans ab;have ae:=az.trans ad;have af:=b1.trans ae;have bj:=b5.trans af;have bl:=b7.trans bj;have y9:=b8.trans bl;have y8:=bp.trans y9;have y7:=bq.trans y8;have y6:=br.trans y7;have y5:=bs.trans y6;have y4:=bt.trans y5;have y3:=bu.trans y4;have y2:=bw.trans y3;have y1:=bz.trans y2;have y0:=c0.trans y1;have cb:RowsV ah (.slice (some ⟨co,0,none⟩) 4 4) rw4:=by
  refine Qdd [(.slice (some ⟨b3,0,none⟩) 2 2,nR 1 1),(.slice (some ⟨b6,0,none⟩) 2 2,nR 1 2),(.slice (some ⟨b9,0,none⟩) 2 2,nR 2 1),(.slice (some ⟨cp,0,none⟩) 2 2,nR 2 2)] (bf.ext ae) (λp hp=>?_) (by simp);simp only[List.mem_cons,List.not_mem_nil,or_false]at hp;rcases hp with rfl|rfl|rfl|rfl
  .exact Jwg (r:=nR 1 1) (c7.ext y3) (by decide)
  .exact Jwg (r:=nR 1 2) (c6.ext y6) (by decide)
  .exact Jwg (r:=nR 2 1) (c5.ext y9) (by decide)
  exact Jwg (r:=nR 2 2) (bg.ext af) (by decide)
 have hC:CseV ah [.int .i64 3,.int .i64 3,.slice a6 3 3,.slice none 0 0,.slice (some ⟨a5,0,none⟩) 3 3,.slice (some ⟨a4,0,none⟩) 3 3] c3:=by
  refine⟨a6,3,none,0,some ⟨a5,0,none⟩,3,some ⟨a4,0,none⟩,3,rfl,⟨a6,3,rfl,by decide,by decide,Rd.own (Je a2 ad)⟩,⟨none,0,rfl,Nat.le_refl _,Nat.zero_le _,Rd.nil⟩,⟨some ⟨a5,0,none⟩,3,_,rfl,by decide,by decide,(bb.ext a8).rd rfl,λi hi=>?_⟩,⟨some ⟨a4,0,none⟩,3,_,rfl,by decide,by decide,ba.rd rfl,λi hi=>?_⟩,by decide,by decide⟩
  .have hi:i<3:=hi;rcases(show i=0∨i=1∨i=2 by omega) with rfl|rfl|rfl
   .exact⟨_,rfl,some ⟨cn,0,none⟩,2,rfl,by decide,by decide,(be.ext ab).rd rfl⟩
   .exact⟨_,rfl,some ⟨cm,0,none⟩,2,rfl,by decide,by decide,(bd.ext aa).rd rfl⟩
   exact⟨_,rfl,some ⟨ck,0,none⟩,2,rfl,by decide,by decide,(bc.ext a9).rd rfl⟩
  have hi:i<3:=hi;rcases(show i=0∨i=1∨i=2 by omega) with rfl|rfl|rfl<;>exact⟨_,rfl,cb⟩
 refine ρ ?_;refine cl (Jnl hC) ?_;rintro u a3 ⟨ar,dA,pA,aA,dc,pc,ac,an,ok,rfl,ce,cc,c4,c8⟩;obtain rfl:ok=true:=c8 mks3 λats hl h=>Jrp hl h;obtain⟨_,ats,hl,hG,hA,_⟩:=c4 rfl;have hl:ats.length=3:=hl;have hA:∀ i,i<3->MkA (ats.getD i a0) (c3.vs.getD i []) (c3.rss.getD i []):=hA;have cd:InV a3 (.agg #[.int .i64 3,.int .i64 3,.slice dA 3 dc,.slice pA 0 pc,.slice aA an ac]) ⟨3,3,[false,false,false],[],ats⟩:=⟨_,rfl,_,_,_,rfl,ce,cc,Jdz hG⟩;have a7:=y0.trans ar;show WL _ _ _ _ _ ((30,.tuple #[.agg #[.int .i64 3,.int .i64 3,.slice dA 3 dc,.slice pA 0 pc,.slice aA an ac],.bool true])::_) _;refine ρ ?_;refine alc Ij ?_;intro d5 b2 aq ca cj;refine ρ ?_;refine stW cj ?_;intro bo bi cr ap;have y:Ext a3 bo:=ap a3 aq ca;refine ρ ?_;refine ldW bi ?_;refine ρ ?_;refine cl (Qhz (hT.ext (a7.trans y)) (Qgj hl hA) (cd.ext y)) ?_;rintro u ag ⟨O,us,VS,vn,vc,rfl,cg,hv,ao⟩;rw[Qgh hl hA]
 refine ρ ?_;refine alc zEst ?_;intro d4 b4 am c9 ch;refine ρ ?_;refine stW ch ?_;intro bn bh cq ak;have G:Ext ag bn:=ak ag am c9;have D:=a7.trans (y.trans (ao.trans G));have U:=cg.ext G;obtain⟨u2,e2,c2⟩:=U.2.2.2 2 (by decide);refine ρ ?_;refine cl (Jds (hT.ext D) 7) ?_;rintro u d3 ⟨rfl,a1⟩;rw[hg7];refine ρ ?_;refine cl (Jds (hT.ext (D.trans a1)) 6) ?_;rintro u bm ⟨rfl,aj⟩;rw[hg6];have j:=a1.trans aj;have Z:=bh.ext j;have J:=U.ext j;refine ρ ?_;refine ld (Z.at (i:=0) rfl) ?_;refine ρ ?_;refine ld (Z.at (i:=2) rfl) ?_;refine ρ ?_;refine ld (Z.at (i:=2) rfl) ?_;refine ρ ?_;refine ix 2 (Rd.own J.2.1) (by decide) ?_;refine ρ ?_;refine ld ((Rd.own J.2.1).cell e2) ?_;have c1:NatV bm u2 8:=c2.ext j;refine ρ ?_;refine cl (Qcc c1) ?_;rintro u d2 ⟨rfl,ai⟩;refine ρ ?_;exact Jq ⟨congrArg Value.bool (beq_self_eq_true _),D.trans (j.trans ai)⟩
open Go.RowKit Pl Go.Wk Bl Nw
variable {c:Cse}
theorem divCQ: Ut KQ:=divCL (by unfold KQ;decide)
theorem CseOk.gra{ats:List Atm}(h:CseOk c ats): GraI c.N c.F (toN c.pm) c.vss (szA ats) ⟨c.n,c.f,c.ds,c.pm,ats⟩:=by
 have D:=h.nN;refine⟨D.1,h.fF.1,h.pm.2.symm,?_,rfl,by show ats.length<=5;rw[h.al];exact h.few.v5,h.pm.1,om,λvs j x y=>?_⟩
 .refine List.ext_getElem (by simp[Cse.vss,h.al];rfl) λi J G=>?_;have hi:i<c.m:=by simpa [Cse.vss] using G
  have u:i<ats.length:=by rw[h.al];exact hi
  simp only[List.getElem_map,Cse.vss,List.getElem_range];rw[(h.vars hi).1,<-(h.mka i hi).vars,Qj a0 u]
 obtain⟨i,hi,rfl⟩:=List.mem_map.1 j;exact(h.vars (List.mem_range.1 hi)).2.2.1 x y
theorem Qhv{w:World}{u:Value}(hF:FewP c)(h:MkR w c u True): ∃(dA pA aA:Option Addr) (dc pc ac an:Nat) (ok:Bool),u=.tuple #[.agg #[.int .i64 c.n,.int .i64 c.f,.slice dA c.ds.length dc,.slice pA c.pm.length pc,.slice aA an ac],.bool ok]/\(ok=true->∃ ats:List Atm,an=ats.length/\CseOk c ats/\GV 3 AtG w (.slice aA an ac) ats/\InV w (.agg #[.int .i64 c.n,.int .i64 c.f,.slice dA c.ds.length dc,.slice pA c.pm.length pc,.slice aA an ac]) ⟨c.n,c.f,c.ds,c.pm,ats⟩):=by
 obtain⟨dA,pA,aA,dc,pc,ac,an,ok,rfl,hD,Z,j,_⟩:=h;refine⟨dA,pA,aA,dc,pc,ac,an,ok,rfl,λe=>?_⟩;obtain⟨O,ats,D,G,hmk,i⟩:=j e;obtain⟨ps,A',c',e1,e2,U,hm,hr,J⟩:=id G;have y:an=ats.length:=by
  injection e2 with _ e3 _
  rw[e3,e1,List.length_map]
 exact⟨ats,y,⟨hF,O,D,hmk,i trivial⟩,G,⟨_,rfl,_,_,_,rfl,hD,Z,Jdz G⟩⟩
open Go.RowKit Pl Go.Wk Bl Nw
variable {B0 bc:Nat}
def mst(es sizes:List Nat)(set:Nat): Nat->Int
 | 0=>-1
 | i+1=>if es.getD i 0 &&& set=set then(if mst es sizes set i<(sizes.getD i 0:Int) then(sizes.getD i 0:Int) else mst es sizes set i) else mst es sizes set i
theorem Jnc{es sizes:List Nat}{set:Nat}: ∀ i,(mst es sizes set i = -1/\∀ k,k<i->es.getD k 0 &&& set≠set)∨(0<=mst es sizes set i/\(∃ k,k<i/\es.getD k 0 &&& set=set)/\∀ k,k<i->es.getD k 0 &&& set=set->(sizes.getD k 0:Int)<=mst es sizes set i)
 | 0=>.inl ⟨rfl,λk hk=>absurd hk (Nat.not_lt_zero k)⟩
 | i+1=>by
  have ih:=Jnc (es:=es) (sizes:=sizes) (set:=set) i;by_cases h:es.getD i 0 &&& set=set
  .right
   have e:mst es sizes set (i+1)=if mst es sizes set i<(sizes.getD i 0:Int) then(sizes.getD i 0:Int) else mst es sizes set i:=by rw[mst,if_pos h]
   refine⟨?_,⟨i,om,h⟩,λk hk hk2=>?_⟩
   .rw[e];split<;>omega
   rcases Nat.lt_or_ge k i with h1|h1
   .rcases ih with⟨_,h2⟩|⟨_,_,h2⟩
    .exact absurd hk2 (h2 k h1)
    have:=h2 k h1 hk2;rw[e];split<;>omega
   obtain rfl:k=i:=om
   rw[e];split<;>omega
  have e:mst es sizes set (i+1)=mst es sizes set i:=by rw[mst,if_neg h]
  rw[e];rcases ih with⟨h1,h2⟩|⟨h1,⟨k0,hk0,h2⟩,h3⟩
  .refine .inl ⟨h1,λk hk hk2=>?_⟩;rcases Nat.lt_or_ge k i with h4|h4
   .exact h2 k h4 hk2
   obtain rfl:k=i:=om
   exact h hk2
  refine .inr ⟨h1,⟨k0,om,h2⟩,λk hk hk2=>?_⟩;rcases Nat.lt_or_ge k i with h4|h4
  .exact h3 k h4 hk2
  obtain rfl:k=i:=om
  exact absurd hk2 h
theorem Jnd{es sizes:List Nat}{set:Nat}(h:∀ s∈sizes,s<2048): ∀ i,mst es sizes set i<2048
 | 0=>by rw[mst];decide
 | i+1=>by
  have ih:=Jnd (es:=es) (set:=set) h i;have hs:sizes.getD i 0<2048:=by
   by_cases hk:i<sizes.length
   .rw[Qj 0 hk];exact h _ (List.getElem_mem _)
   rw[List.getD,List.getElem?_eq_none om];decide
  rw[mst];split
  .split<;>omega
  exact ih
theorem Qlc{w:World}{cs:List Value}{c:Cse}{BA:Option Addr}{bs:List UInt8}(hT:FB B0 w)(hC:CseV w cs c)(hBs:Rd w 1 BA bs.length (Bc bs)):
  Ret Tryz.prog 7 [.agg cs.toArray,.slice BA bs.length bc] w λu w'=>u=.bool true/\Ext w w':=by
 have ak:∀ {w':World},Ext w w'->Ret Tryz.prog 10 [] w' λu c7=>u=.bool true/\Ext w' c7:=λhx=>Qnx (hT.ext hx);obtain⟨du,dt,da,d9,d6,d5,d8,d7,cy,_,_,_,_,d0,d1⟩:=id hC;refine Jz Tryz.func7 Tryz.ntmps7 rfl kr rfl ?_;refine ρ ?_;refine bx ?_;intro w1 b1 bm dl c5;refine ρ ?_;subst cy;refine ldW c5 ?_;refine ρ ?_;refine cl (Qgd (hC.ext bm)) ?_;rintro u w2 ⟨bl,bf,rfl,hF,_⟩;have a4:=bm.trans bl;have c2:=c5.ext bl;cases bf with
 | false=>
  refine ρ ?_;refine cl (ak a4) ?_;rintro _ w3 ⟨rfl,b4⟩;refine ρ ?_;exact Jq ⟨rfl,a4.trans b4⟩
 | true=>
  have hF:=hF rfl;refine ρ ?_;refine ldW c2 ?_;refine ρ ?_;refine cl (Jnl (hC.ext a4)) ?_;rintro u w3 ⟨b4,cp⟩;obtain⟨dA,pA,aA,dc,pc,ac,an,ok,rfl,ce⟩:=Qhv hF cp;have bh:=a4.trans b4;refine ρ ?_;refine alc Ij ?_;intro w4 b5 ca co cx;refine ρ ?_;refine stW cx ?_;intro w5 af dj bj;have aq:Ext w3 w5:=bj w3 ca co;have a1:=bh.trans aq;cases ok with
  | false=>
   refine ρ ?_;refine cl (ak a1) ?_;rintro _ w6 ⟨rfl,a8⟩;refine ρ ?_;exact Jq ⟨rfl,a1.trans a8⟩
  | true=>
   obtain⟨ats,rfl,hO,ds,cq⟩:=ce rfl;have dm:ats.length=c.m:=hO.al;refine ρ ?_;refine ld (af.at (i:=4) rfl) ?_;refine ρ ?_;refine ci (λh=>?_) (λh=>?_)
   .refine ρ ?_;refine cl (ak a1) ?_;rintro _ w6 ⟨rfl,a8⟩;refine ρ ?_;exact Jq ⟨rfl,a1.trans a8⟩
   have de:c.m<=bs.length:=by have:=oF h;omega
   clear h;refine ρ ?_;refine ldW af ?_;refine ρ ?_;refine cl (Qfq hO.gra (cq.ext aq)) ?_;rintro u w6 ⟨GA,gc,B,SA,sc,kf,pf,rfl,hG,bw,aj,dn,a8⟩;refine ρ ?_;refine alc Iq ?_;intro w7 b7 c9 cn cw;refine ρ ?_;refine stW cw ?_;intro w8 au di bi;have a6:Ext w6 w8:=bi w6 c9 cn;have ap:=a8.trans a6;have am:=a1.trans ap;have c1:=af.ext ap;have db:=hO.few.v5;have dk:c.m=c.vs.length:=rfl;refine ρ ?_;refine Ju (fun (i:Nat) (vl:Value)=>[(1,.slice BA bs.length bc),(2,.pointer (some ⟨b1,0,none⟩)),(5,.pointer (some ⟨b5,0,none⟩)),(7,.pointer (some ⟨b7,0,none⟩)),(8,.slice B c.N c.N),(10,.bool true),(11,vl),(12,.int .i64 (i:Int))])
    (λi vl w'=>i<=c.m/\Ext w8 w'/\w'.ownsRow w8.heap.size 3 1 vl i (Jh (nz ((bs.take i).map UInt8.toNat)))) (λi _=>c.m-i) 0 (.slice none 0 0) sB ⟨Nat.zero_le _,Ext.refl _,Zc _ _ _ _⟩ ?_
   rintro i vl w9 ⟨hi,G,ai⟩;have bg:=am.trans G;have c0:=c1.ext G;obtain⟨LA,lc,rfl,ch,hlf⟩:=Jd ai;refine ρ ?_;refine ld (c0.at (i:=4) rfl) ?_;refine ρ ?_;refine ci (λh=>?_) (λh=>?_)
   .have li:i<c.m:=by have:=oT h;omega
    clear h;have bp:=hBs.ext bg;refine ρ ?_;refine ix i bp om ?_;refine ρ ?_;refine ld (bp.cell (Jff (show i<bs.length by omega))) ?_;refine ρ ?_;have cz:(bs.getD i 0).toNat<256:=(bs.getD i 0).toNat_lt;rw[Zd (z:=((bs.getD i 0).toNat:Int)) om];refine bsl (Ka _) ?_;intro be dw Z d2 c4;refine ρ ?_;refine apb (m':=1) (news:=[.int .i64 ((bs.getD i 0).toNat:Int)]) EI (Je ai Z) (c4.rd (n:=1) rfl) (by simp[Value.oneCell']) (by unfold maxLen;omega) om (G.trans Z).size ?_;intro v2 bd ba bq _;have e:Jh (nz ((bs.take (i+1)).map UInt8.toNat))=Jh (nz ((bs.take i).map UInt8.toNat))++[.int .i64 ((bs.getD i 0).toNat:Int)]:=by
     rw[Qa 0 (show i<bs.length by omega)];simp[Jh,nz]
    refine ρ ?_;exact Jt (i+1) v2 sO ⟨li,Js (G.trans Z) bq λg eg=>(hlf g eg).1,by rw[e];exact ba⟩ om
   have b8:i=c.m:=by have:=oF h;omega
   subst b8;clear h hi;generalize hlz:(bs.take c.m).map UInt8.toNat=lz at ai
   have a5:lz.length=c.m:=by rw[<-hlz];simp;omega
   have ab:(c.vss.map Xj).length=c.m:=c.esl;have bn:∀ s∈lz,s<2048:=λs hs=>by
    rw[<-hlz]at hs;obtain⟨x,_,rfl⟩:=List.mem_map.1 hs;have:x.toNat<256:=x.toNat_lt;omega
   have ao:=a6.trans G;have cu:=Rd.own (Je bw ao);have bu:=Rd.own ai;have dq:=hO.nN.2;have br:=Jsq (w:=w9) (A:=GA) (c:=gc) (cb:=c.N) (SA:=LA) (sc:=lc) (sizes:=lz) (r:=Jjw c kf lz) (hG.ext ao) cu (λv hv=>(aj v hv).1) (by rw[a5];exact bu) (by rw[a5];exact ch) (by rw[ab];exact a5) (by rw[ab,<-c.esl];exact hO.five) (λv hv=>hO.bagB divCQ (by rw[c.esl];exact a5) bn aj hv);rw[a5]at br;refine ρ ?_;refine ldW (au.ext G) ?_;refine ρ ?_;refine cl br ?_;rintro _ be ⟨O,us,rfl,bz,Z⟩;refine ρ ?_;refine cf ?_ ?_
   .exact Jts rfl
   refine ρ ?_;have a3:=G.trans Z;have ay:=am.trans a3;refine Jr (fun (v:Nat)=>[(7,.pointer (some ⟨b7,0,none⟩)),(8,.slice B c.N c.N),(11,.slice LA c.m lc),(13,.slice O c.N c.N),(15,.int .i64 (v:Int))])
    (λv w'=>v<=c.N/\Ext be w') (λv=>c.N-v) 0 sB ⟨Nat.zero_le _,Ext.refl _⟩ ?_
   rintro v bd ⟨hv,J⟩;have a2:=ay.trans J;have a7:=a6.trans (a3.trans J);refine ρ ?_;refine ci (λh=>?_) (λh=>?_)
   .have lv:v<c.N:=by have:=oT h;omega
    clear h;have av:=Rd.own (Je bw a7);have b9:∀ j u,(Zv kf pf v)[j]?=some u->bd.cell? ((adr B (v*3)).add j)=some u:=λj u hu=>by
     have hj:j<3:=by grind [Nat.lt_or_ge,List.getElem?_eq_none,Zv]
     rw[Gt];exact av.cell ((Jcq (sz:=3) (λ_ _=>rfl) lv hj).trans hu)
    refine ρ ?_;refine ixq 3 v av lv ?_;refine ρ ?_;refine lds (cs:=Zv kf pf v) b9 ?_;refine ρ ?_;refine cl (Jrt om (aj v lv).1 _) ?_;rintro _ ax ⟨rfl,D⟩;obtain⟨bo,cd,dd⟩:=hO.bagset aj lv;generalize hS:kf v ||| 2^v=set at *
    have ah:set<4294967296:=nM bo (Nat.pow_le_pow_right (n:=2) (by decide) (show c.N<=32 by omega));have c8:=a2.trans D;have b3:=a7.trans D;have b2:Ext w8 ax:=(a3.trans J).trans D;have cr:Jjw c kf lz v=Up c.N c.es lz set:=by unfold Jjw;rw[hS]
    refine ρ ?_;refine Ju (fun (i:Nat) (y:Int)=>[(7,.pointer (some ⟨b7,0,none⟩)),(8,.slice B c.N c.N),(11,.slice LA c.m lc),(13,.slice O c.N c.N),(15,.int .i64 (v:Int)),(16,.int .u32 (set:Int)),(17,.int .i64 y),(18,.int .i64 (i:Int))])
     (λi y w'=>i<=c.m/\w'=ax/\y=mst c.es lz set i) (λi _=>c.m-i) 0 (-1) sB ⟨Nat.zero_le _,rfl,rfl⟩ ?_
    rintro i y c6 ⟨hi,rfl,U⟩;have ae:=au.ext b2;have bb:=hG.rd.ext b3;have ad:=bu.ext ((Z.trans J).trans D);refine ρ ?_;refine ld (ae.at (i:=1) rfl) ?_;rw[ab];refine ρ ?_;refine Yz (fun (t:Bool)=>[(7,.pointer (some ⟨b7,0,none⟩)),(8,.slice B c.N c.N),(11,.slice LA c.m lc),(13,.slice O c.N c.N),(15,.int .i64 (v:Int)),(16,.int .u32 (set:Int)),(17,.int .i64 y),(18,.int .i64 (i:Int)),(102,.bool t)])
     (λt w'=>w'=c6/\t=decide (i<c.m)) ?_ ?_
    .refine ki 97 (λh=>?_) (λh=>?_)
     .have h1:=oT h;refine ρ ?_;refine Jc _ sB ⟨rfl,?_⟩;exact decide_eq_decide.2 om
     have h1:=oF h;refine ρ ?_;refine Jc false sB ⟨rfl,?_⟩;exact(dF om).symm
    rintro t aw ⟨rfl,rfl⟩;refine ρ ?_;refine ci (λh=>?_) (λh=>?_)
    .have li:i<c.m:=oT h;clear h;have ck:c.es.getD i 0<4294967296:=nM (hO.elt _ (getD_mem' 0 _ (by rw[c.esl];exact li))) (Nat.pow_le_pow_right (n:=2) (by decide) (show c.N<=32 by omega));refine ρ ?_;refine ld (ae.at (i:=1) rfl) ?_;rw[ab];refine ρ ?_;rw[ab]at bb;refine ix i bb li ?_;refine ρ ?_;refine ld (bb.cell (Jzd (show i<(c.vss.map Xj).length by omega))) ?_;refine ρ ?_;have ea:bits .and .u32 ((c.es.getD i 0:Nat):Int) (set:Int)=((c.es.getD i 0 &&& set:Nat):Int):=u32_and_nat _ _ ck ah;refine ci (λh=>?_) (λh=>?_)
     .have h':(bits .and .u32 ((c.es.getD i 0:Nat):Int) (set:Int) == (set:Int))=true:=h;rw[ea]at h';have b6:c.es.getD i 0 &&& set=set:=by have:=Uf h';omega
      refine ρ ?_;refine ix i ad li ?_;refine ρ ?_;refine ld (ad.cell (Xw (show i<lz.length by omega))) ?_;refine ρ ?_;refine Jt (i+1) (mst c.es lz set (i+1)) ?_ ⟨li,rfl,rfl⟩ om;rw[mst,if_pos b6,<-U];exact sO
     have h':(bits .and .u32 ((c.es.getD i 0:Nat):Int) (set:Int) == (set:Int))=false:=h;rw[ea]at h';have b6:c.es.getD i 0 &&& set≠set:=by have:=Yr h';omega
     refine ρ ?_;exact Jt (i+1) y sO ⟨li,rfl,by rw[mst,if_neg b6];exact U⟩ om
    have b8:i=c.m:=by have:=oF h;omega
    subst b8;clear h;have df:y<2048:=by rw[U];exact Jnd bn _
    have ag:=J.trans D;have az:Ext aw aw.drew:=(Ext.refl aw).drew;have aa:=ag.trans az;obtain⟨u,hu,cc⟩:=bz.2.2.2 v lv;have bt:=(Rd.own bz.2.1).ext aa;refine ρ ?_;refine dr [(0,0),(0,1),(0,2),(0,3),(0,4),(0,5),(0,6),(0,7),(0,8),(1,9),(1,10),(0,11),(0,12)] kr ?_;refine ρd ?_;refine dki 122 (λh=>?_) (λh=>?_)
    .have dh:0<=y:=by have:=oT h;omega
     obtain⟨mm,rfl⟩:∃ mm:Nat,y=mm:=⟨y.toNat,om⟩;have dg:Jjw c kf lz v<=mm:=by
      rcases Jnc (es:=c.es) (sizes:=lz) (set:=set) c.m with⟨h1,_⟩|⟨_,⟨k0,hk0,h2⟩,h3⟩
      .rw[<-U]at h1;omega
      rw[cr];exact Qmx hO.five cd bo (hO.covd _) (by rw[c.esl];exact a5) (by rw[c.esl];exact hk0) h2 λk hk cj=>by
       have:=h3 k (by rw[c.esl]at hk;exact hk) cj;rw[<-U]at this;omega
     refine ρd ?_;refine dix v bt lv ?_;refine ρd ?_;refine dld (bt.cell hu) ?_;refine ρd ?_;rw[Zj (z:=(mm:Int)) om];refine dcl (Qcf mm om _) ?_;rintro n1 d4 ⟨cg,a9⟩;refine⟨a9,?_⟩;refine ρd ?_;refine dcl (Jjf ((cc.ext aa).ext a9) cg) ?_;rintro _ d3 ⟨rfl,ar⟩;refine⟨ar,?_⟩;have cm:decide (0<Zs (Jjw c kf lz v) mm)=false:=by
      refine dF ?_;unfold Zs;split
      .decide
      rw[if_neg om];decide
     refine ρd ?_;refine ρ ?_;refine cf ?_ ?_
     .exact cm
     refine ρ ?_;exact Jm (v+1) sO ⟨lv,((J.trans D).trans az).trans (a9.trans ar)⟩ om
    refine ρd ?_;refine ρ ?_;exact Jm (v+1) sO ⟨lv,(J.trans D).trans az⟩ om
   refine ρ ?_;refine cl (ak a2) ?_;rintro _ ax ⟨rfl,D⟩;refine ρ ?_;exact Jq ⟨rfl,a2.trans D⟩
end Go.Proofs.YtebiphhfkdbpfaaGreatDoor
namespace Go.Wk
open Go.RowKit Go.ChangeShapes Go.WideShapes
variable {cap fuel len:Nat}{A:Option Addr}
section
variable {H:Type} {enc:TypeId×Value->H} {P:Program} {w:World} {base:Nat} {spare:Nat->Bool} {held:Bool}
theorem Jlj{sz:Nat}{cs:List Value}{ad:Addr}(hA:A=some ad)(hl:cs.length=len*sz)(hc:∀ j u,cs[j]?=some u->w.cell? (ad.add j)=some u): Rd w sz A len cs :=
 ⟨hl,λh0=>⟨ad,hA,by
  have i:=hc 0 cs[0] (gE h0);rw[add_zero]at i;exact World.block_lt_of_cell? w ad i,hc⟩⟩
theorem wf_u8{n:Int}(h:(Lit.int .u8 n).wf=true): 0<=n/\n<=255:=bounds_u8 h
theorem Qys{t e:TypeId}{x:DataW H×List MemPlace}(ht:P.underlying t=some (.slice e))(he:P.underlying e=some (.int .u8))(hc:P.cellsOf e=1)(h:DataW.trod enc P w base spare held fuel t [.slice A len cap]=some x): ∃ l:List UInt8,l.length=len/\Rd w 1 A len (Bc l)/\len<=cap/\cap<=maxLen:=by
 rcases open_ints ht he hc h with⟨i,_⟩|⟨a,len',cap',zs,i,_,hl,hm,hz,_,hcell,hwz⟩
 .simp only[List.cons.injEq,Value.slice.injEq,and_true]at i;obtain⟨rfl,rfl,rfl⟩:=i;exact⟨[],rfl,Rd.nil,Nat.le_refl _,Nat.zero_le _⟩
 simp only[List.cons.injEq,Value.slice.injEq,and_true]at i;obtain⟨rfl,rfl,rfl⟩:=i;have G:len<=zs.length:=by grind
 refine⟨(zs.take len).map λn=>UInt8.ofNat n.toNat,by simp;omega,Jlj rfl (by simp[Bc];omega) λj u D=>?_,hl,hm⟩;have J:j<len:=by grind [List.getElem?_eq_some_iff.1,Bc]
 have y:j<zs.length:=om
 rw[hcell j y];rw[<-D];have O:=wf_u8 (hwz zs[j] (List.getElem_mem y));grind [List.getD,List.getElem?_eq_getElem,Bc,List.map_map,UInt8.toNat_ofNat']
theorem Jxq{α:Type}(f:α->Value)(l:List α): l.flatMap (λz=>[f z])=l.map f:=by induction l<;>simp_all
end
end Go.Wk
namespace Go.Proofs.YtebiphhfkdbpfaaGreatDoor
open Go.RowKit Pl Go.Wk Go.ChangeShapes Go.WideShapes
variable {H α:Type}
theorem Qml(d:DataW H): 1<=Rows.uptoBulk d:=by
 cases d with
 | lit l=>cases l<;>simp[Rows.uptoBulk]
 | nil=>simp[Rows.uptoBulk]
 | ptr d=>simp[Rows.uptoBulk]
 | slice elems spare=>simp[Rows.uptoBulk]
 | agg parts=>simp[Rows.uptoBulk]
 | iface t d=>simp[Rows.uptoBulk]
 | map entries=>simp[Rows.uptoBulk]
 | held h=>simp[Rows.uptoBulk]
theorem Jtl{d:DataW H}{l:List (DataW H)}(h:d∈l): Rows.uptoBulk d<=Rows.uptoBulkAll l:=by
 induction l with
 | nil=>cases h
 | cons x r ih=>
  simp only[Rows.uptoBulkAll];grind
theorem Qmm(l:List (DataW H)): l.length<=Rows.uptoBulkAll l:=by
 induction l with
 | nil=>simp[Rows.uptoBulkAll]
 | cons x r ih=>have:=Qml x;simp only[Rows.uptoBulkAll,List.length_cons];omega
section
variable {H:Type} {enc:TypeId×Value->H} {P:Program} {w:World} {base:Nat} {spare:Nat->Bool} {held:Bool} {B:Nat}
theorem Ip{t e sz:Nat}{fuel:Nat}{cs:List Value}{x:DataW H×List MemPlace}(X:α->List Value)(R:α->Prop)(ht:P.underlying t=some (.slice e))(hc:P.cellsOf e=sz)(hb:Rows.uptoBulk x.1<=B)(hX:∀(n:Nat) (cs':List Value) (y:DataW H×List MemPlace),DataW.trod enc P w base spare held n e cs'=some y->Rows.uptoBulk y.1<=B->∃ z:α,cs'=X z/\R z)(h:DataW.trod enc P w base spare held fuel t cs=some x): ∃(l:List α) (A:Option Addr) (cap:Nat),cs=[.slice A l.length cap]/\Rd w sz A l.length (l.flatMap X)/\(∀ z∈l,R z)/\l.length<=cap/\l.length<=B:=by
 rcases Go.Deep.open_slice ht h with⟨G,_⟩|⟨a,len,cap,m,n,D,Pl,G,_,hl,hm,hmm,hx,hel⟩
 .exact⟨[],none,0,G,Rd.nil,(λz O=>by cases O),Nat.le_refl _,Nat.zero_le _⟩
 subst G;subst hx;have a4:len<=m:=by grind
 have Z:Rows.uptoBulkAll ((List.range len).map D)<=B:=by
  simp only[Rows.uptoBulk]at hb;omega
 have a5:len<=B:=by
  have:=Qmm ((List.range len).map D);simp at this;omega
 have key:∀ k,k<=len->∃ l:List α,l.length=k/\(l.flatMap X).length=k*sz/\(∀ j u,(l.flatMap X)[j]?=some u->w.cell? (a.add j)=some u)/\∀ z∈l,R z:=by
  intro k;induction k with
  | zero=>intro _;exact⟨[],rfl,by simp,(λj u J=>by simp at J),(λz O=>by cases O)⟩
  | succ k ih=>
   intro hk;obtain⟨l,h1,h2,h3,h4⟩:=ih om;obtain⟨cs',i,U⟩:=hel k om;have a2:D k∈(List.range len).map D:=by grind
   obtain⟨z,rfl,O⟩:=hX n cs' _ U (nL (Jtl a2) Z);rw[hc]at i;obtain⟨_,a3,a1⟩:=World.cells?_some i;refine⟨l++[z],by simp[h1],?_,?_,?_⟩
   .grind
   .intro j u J;rw[List.flatMap_append]at J;simp only[List.flatMap_cons,List.flatMap_nil,List.append_nil]at J;rcases Nat.lt_or_ge j (k*sz) with hj|hj
    .grind
    rw[List.getElem?_append_right om,h2]at J;have hb:j-k*sz<sz:=by grind
    have:=a1 (j-k*sz) hb;rw[Jvl]at this;grind
   repeat grind
 obtain⟨l,h1,h2,h3,h4⟩:=key len (Nat.le_refl _);grind [Jlj]
end
section
variable {H:Type} {enc:TypeId×Value->H} {w:World} {base b0:Nat} {spare:Nat->Bool} {held:Bool}
end
theorem gFibT: (Tryz.prog.globals[0]?).map (·.type)=some 105:=kr
def layOn(d:DataW Unit): Obj->Obj
 | .cells _ t z=>.cells (match d with
  | .agg ps=>(ps.map fun
   | .lit (.int k z)=>Value.int k z
   | _=>Value.bool false).toArray
  | _=>#[]) t z
 | o=>o
open Go.RowKit Pl Go.Wk Go.ChangeShapes Go.WideShapes
variable {p:List MemPlace}{cs:List Value}{n:Nat}{v:Value}
def Ks(v:V): Prop:=(-9223372036854775808<=v.kind/\v.kind<=9223372036854775807)/\(-9223372036854775808<=v.num/\v.num<=9223372036854775807)
section
variable {H:Type} {enc:TypeId×Value->H} {w:World} {base b0:Nat} {spare:Nat->Bool} {held:Bool}
theorem Qyj{y:DataW H×List MemPlace}(h:DataW.trod enc Tryz.prog w base spare held n 102 cs=some y): ∃ v:V,cs=v.cells/\Ks v:=by
 obtain⟨u,m,_,_,j,D,J⟩:=DataW.trod_struct Tryz.underlying102 h;have G:cs.length=3:=by rw[j];kernel_rfl
 have a1:u.length=3:=D;match cs,G with
 | [c0,c1,c2],_=>
  have U:DataW.trod enc Tryz.prog w base spare held m 3 (([c0,c1,c2].drop 0).take (Tryz.prog.cellsOf 3))=u[0]?:=J 0 _ rfl;have f1:DataW.trod enc Tryz.prog w base spare held m 2 (([c0,c1,c2].drop 1).take (Tryz.prog.cellsOf 2))=u[1]?:=J 1 _ rfl;have O:DataW.trod enc Tryz.prog w base spare held m 9 (([c0,c1,c2].drop 2).take (Tryz.prog.cellsOf 9))=u[2]?:=J 2 _ rfl;rw[show Tryz.prog.cellsOf 3=1 by kernel_rfl,List.getElem?_eq_getElem om]at U;rw[show Tryz.prog.cellsOf 2=1 by kernel_rfl,List.getElem?_eq_getElem om]at f1;rw[show Tryz.prog.cellsOf 9=1 by kernel_rfl,List.getElem?_eq_getElem om]at O;obtain⟨k,e0,_,wk⟩:=DataW.trod_int Tryz.underlying3 U;obtain⟨i,e1,_,wi⟩:=DataW.trod_int Tryz.underlying2 f1;obtain⟨s,Z,_,_⟩:=DataW.trod_string Tryz.underlying9 O;simp at e0 e1 Z;subst e0;subst e1;subst Z;exact⟨⟨k,i,s⟩,rfl,bounds_i64 wk,bounds_i64 wi⟩
def RowE(w:World)(v:Value)(r:Row): Prop:=RowV w v r/\∀ u∈r,Ks u
theorem Qyn{y:DataW H×List MemPlace}(h:DataW.trod enc Tryz.prog w base spare held n 85 cs=some y)(hb:Rows.uptoBulk y.1<=1048576): ∃ p:Pr,cs=[p.1]/\RowE w p.1 p.2:=by
 obtain⟨l,A,i,e,J,G,D,U⟩:=Ip (sz:=3) V.cells Ks Tryz.underlying85 kr hb (λn O y j _=>Qyj j) h;have u:l.length<=1100000:=om
 exact⟨(.slice A l.length i,l),e,⟨A,i,rfl,D,u,J⟩,G⟩
def Qjl(w:World)(v:Value)(ls:List Row): Prop:=RowsV w v ls/\∀ r∈ls,∀ u∈r,Ks u
theorem Qym{y:DataW H×List MemPlace}(h:DataW.trod enc Tryz.prog w base spare held n 78 cs=some y)(hb:Rows.uptoBulk y.1<=1048576): ∃ p:Value×List Row,cs=[p.1]/\Qjl w p.1 p.2:=by
 obtain⟨ps,A,i,e,G,D,Z,h4⟩:=Ip (sz:=1) (λp:Pr=>[p.1]) (λp=>RowE w p.1 p.2) Tryz.underlying78 kr hb (λn a1 y J hb=>Qyn J hb) h;rw[Jxq]at G;exact⟨(.slice A ps.length i,ps.map (·.2)),e,⟨ps,A,i,rfl,rfl,Z,om,G,λp j=>(D p j).1⟩,λr U u O=>by
  obtain⟨p,j,rfl⟩:=List.mem_map.1 U;exact(D p j).2 u O⟩
theorem Qyl{y:DataW H×List MemPlace}(h:DataW.trod enc Tryz.prog w base spare held n 29 cs=some y)(hb:Rows.uptoBulk y.1<=1048576):
  ∃(A:Option Addr) (c:Nat) (rss:List (List Row)),cs=[.slice A rss.length c]/\RowssV w (.slice A rss.length c) rss/\∀ i,i<rss.length->∀ r∈rss.getD i [],∀ u∈r,Ks u:=by
 obtain⟨ps,A,D,e,U,O,h3,h4⟩:=Ip (sz:=1) (λp:Value×List Row=>[p.1]) (λp=>Qjl w p.1 p.2) Tryz.underlying29 kr hb (λn a1 y Z hb=>Qym Z hb) h;rw[Jxq]at U;have G:(ps.map (·.2)).length=ps.length:=List.length_map _
 have J:∀ i,i<ps.length->(ps.map (·.2)).getD i []=(ps.getD i (.bool false,[])).2:=by grind
 refine⟨A,D,ps.map (·.2),by rw[G];exact e,⟨A,D,ps.map (·.1),rfl,om,om,by rw[G];exact U,λi hi=>?_⟩,λi hi=>?_⟩
 .have j:i<ps.length:=om
  rw[J i j];exact⟨(ps.getD i (.bool false,[])).1,by grind,(O _ (getD_mem' _ _ j)).1⟩
 have j:i<ps.length:=om
 rw[J i j];exact(O _ (getD_mem' _ _ j)).2
theorem Jmn{y:DataW H×List MemPlace}(h:DataW.trod enc Tryz.prog w base spare held n 22 cs=some y)(hb:Rows.uptoBulk y.1<=1048576): ∃ p:Value×List Int,cs=[p.1]/\IntsV w p.1 p.2/\∃ A c,p.1=.slice A p.2.length c:=by
 obtain⟨l,A,i,e,j,U,G,O⟩:=Ip (sz:=1) (λz:Int=>[Value.int .i64 z]) (λ_=>True) Tryz.underlying22 kr hb (λn J y u _=>by obtain⟨z,e,_,_⟩:=DataW.trod_int Tryz.underlying3 u;exact⟨z,e,trivial⟩) h;rw[Jxq]at j;have D:l.length<=1100000:=om
 exact⟨(.slice A l.length i,l),e,⟨A,i,rfl,G,D,j⟩,A,i,rfl⟩
theorem Qyp{y:DataW H×List MemPlace}(h:DataW.trod enc Tryz.prog w base spare held n 28 cs=some y)(hb:Rows.uptoBulk y.1<=1048576):
  ∃(A:Option Addr) (c:Nat) (zss:List (List Int)),cs=[.slice A zss.length c]/\IntssV w (.slice A zss.length c) zss:=by
 obtain⟨ps,A,j,e,D,h2,Z,U⟩:=Ip (sz:=1) (λp:Value×List Int=>[p.1]) (λp=>IntsV w p.1 p.2) Tryz.underlying28 kr hb (λn O y G hb=>by obtain⟨p,e,J,_⟩:=Jmn G hb;exact⟨p,e,J⟩) h;rw[Jxq]at D;have u:(ps.map (·.2)).length=ps.length:=List.length_map _
 refine⟨A,j,ps.map (·.2),by rw[u];exact e,⟨A,j,ps.map (·.1),rfl,om,om,by rw[u];exact D,λi hi=>?_⟩⟩
 grind
theorem Qyt{y:DataW H×List MemPlace}(h:DataW.trod enc Tryz.prog w base spare held n 27 cs=some y)(hb:Rows.uptoBulk y.1<=1048576): ∃(A:Option Addr) (c:Nat) (l:List Bool),cs=[.slice A l.length c]/\BoolsV w (.slice A l.length c) l:=by
 obtain⟨l,A,i,e,j,O,D,J⟩:=Ip (sz:=1) (λz:Bool=>[Value.bool z]) (λ_=>True) Tryz.underlying27 kr hb (λn G y u _=>by obtain⟨z,e,_⟩:=DataW.trod_bool Tryz.underlying4 u;exact⟨z,e,trivial⟩) h;rw[Jxq]at j;exact⟨A,i,l,e,⟨A,i,rfl,D,om,j⟩⟩
def Qjp(w:World)(v:Value): Prop:=∃(cs:List Value) (c:Cse),v=.agg cs.toArray/\CseV w cs c/\∀ i,i<c.rss.length->∀ r∈c.rss.getD i [],∀ u∈r,Ks u
set_option linter.constructorNameAsVariable false in
theorem Qyq{y:DataW H×List MemPlace}(h:DataW.trod enc Tryz.prog w base spare held n 31 cs=some y)(hb:Rows.uptoBulk y.1<=1048576): ∃ c:Cse,CseV w cs c/\∀ i,i<c.rss.length->∀ r∈c.rss.getD i [],∀ u∈r,Ks u:=by
 obtain⟨j,m,_,hx,G,Z,D⟩:=DataW.trod_struct Tryz.underlying31 h;have a1:cs.length=6:=by rw[G];kernel_rfl
 match cs,a1 with
 | [c0,c1,c2,c3,c4,c5],_=>
  have a2:j.length=6:=Z;subst hx;have U:∀ i (hi:i<j.length),Rows.uptoBulk j[i].1<=1048576:=λi hi=>by
   have h1:j[i].1∈j.map (·.1):=by grind
   have h2:=Jtl h1;simp only[Rows.uptoBulk]at hb;omega
  have f0:DataW.trod enc Tryz.prog w base spare held m 3 (([c0,c1,c2,c3,c4,c5].drop 0).take (Tryz.prog.cellsOf 3))=j[0]?:=D 0 _ rfl;have f1:DataW.trod enc Tryz.prog w base spare held m 3 (([c0,c1,c2,c3,c4,c5].drop 1).take (Tryz.prog.cellsOf 3))=j[1]?:=D 1 _ rfl;have f2:DataW.trod enc Tryz.prog w base spare held m 27 (([c0,c1,c2,c3,c4,c5].drop 2).take (Tryz.prog.cellsOf 27))=j[2]?:=D 2 _ rfl;have f3:DataW.trod enc Tryz.prog w base spare held m 22 (([c0,c1,c2,c3,c4,c5].drop 3).take (Tryz.prog.cellsOf 22))=j[3]?:=D 3 _ rfl;have f4:DataW.trod enc Tryz.prog w base spare held m 28 (([c0,c1,c2,c3,c4,c5].drop 4).take (Tryz.prog.cellsOf 28))=j[4]?:=D 4 _ rfl;have f5:DataW.trod enc Tryz.prog w base spare held m 29 (([c0,c1,c2,c3,c4,c5].drop 5).take (Tryz.prog.cellsOf 29))=j[5]?:=D 5 _ rfl;rw[show Tryz.prog.cellsOf 3=1 by kernel_rfl,List.getElem?_eq_getElem om]at f0 f1;rw[show Tryz.prog.cellsOf 27=1 by kernel_rfl,List.getElem?_eq_getElem om]at f2
  rw[show Tryz.prog.cellsOf 22=1 by kernel_rfl,List.getElem?_eq_getElem om]at f3;rw[show Tryz.prog.cellsOf 28=1 by kernel_rfl,List.getElem?_eq_getElem om]at f4;rw[show Tryz.prog.cellsOf 29=1 by kernel_rfl,List.getElem?_eq_getElem om]at f5;obtain⟨n,e0,_,w0⟩:=DataW.trod_int Tryz.underlying3 f0;obtain⟨f,e1,_,w1⟩:=DataW.trod_int Tryz.underlying3 f1;obtain⟨A2,k2,ds,e2,g2⟩:=Qyt f2 (U 2 om);obtain⟨⟨p3,pm⟩,e3,g3,A3,k3,O⟩:=Jmn f3 (U 3 om);simp only at O g3 e3;subst O;obtain⟨A4,k4,vs,e4,g4⟩:=Qyp f4 (U 4 om);obtain⟨A5,k5,rss,e5,g5,J⟩:=Qyl f5 (U 5 om);simp at e0 e1 e2 e3 e4 e5;subst e0;subst e1;subst e2;subst e3;subst e4;subst e5;exact⟨⟨n,f,ds,pm,vs,rss⟩,⟨A2,k2,A3,k3,A4,k4,A5,k5,rfl,g2,g3,g4,g5,bounds_i64 w0,bounds_i64 w1⟩,J⟩
theorem Qyr{d:DataW H}(hv:Value.okWide Tryz.prog w .any b0 31 v)(h:DataW.Trod enc Tryz.prog w base spare held 31 v d p)(hb:Rows.uptoBulk d<=1048576): Qjp w v:=by
 simp only[Value.okWide,Tryz.underlying31]at hv;obtain⟨⟨l⟩,rfl,_,_⟩:=hv;obtain⟨i,h⟩:=h;obtain⟨c,u,j⟩:=Qyq h hb;exact⟨l,c,rfl,u,j⟩
def U8sE(w:World)(v:Value): Prop:=∃(l:List UInt8) (A:Option Addr) (c:Nat),v=.slice A l.length c/\Rd w 1 A l.length (Bc l)/\l.length<=c/\c<=maxLen
theorem Qyk{d:DataW H}(hv:Value.okWide Tryz.prog w .any b0 74 v)(h:DataW.Trod enc Tryz.prog w base spare held 74 v d p): U8sE w v:=by
 obtain⟨A,len,i,rfl⟩:=okWide_slice Tryz.underlying74 hv;obtain⟨j,u⟩:=h;obtain⟨l,J,G,D,y⟩:=Qys Tryz.underlying74 Tryz.underlying5 kr u;subst J;exact⟨l,A,i,rfl,G,D,y⟩
end
theorem fb_of{W:World}(h:laidMetH Tryz.prog [("ordinal/cost.fibonacci",Rows.laid_ordinal_cost_fibonacci)] W): FB W.heap.size W:=by
 refine⟨Nat.le_refl _,Lib.tabBelow_of_tabIs ?_⟩;have i:=h.filter (λx=>x.1 == "ordinal/cost.fibonacci");exact Lib.tabIs_of_head (rest:=[]) gFib gFibT Tryz.underlying105 Tryz.underlying3 kr kr i
open Go.RowKit Pl Go.Wk
theorem Qlb{B0:Nat}{w:World}{v u:Value}(hT:FB B0 w)(hc:Qjp w v)(hb:U8sE w u): Ret Tryz.prog 7 [v,u] w λu w'=>u=.bool true/\Ext w w':=by
 obtain⟨cs,c,rfl,j,_⟩:=hc;obtain⟨l,A,k,rfl,i,_⟩:=hb;exact Qlc hT j i
end Go.Proofs.YtebiphhfkdbpfaaGreatDoor
