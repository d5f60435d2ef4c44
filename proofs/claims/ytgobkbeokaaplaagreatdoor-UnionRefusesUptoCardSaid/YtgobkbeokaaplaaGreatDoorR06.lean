/- Part 6. -/
import Derived.Test.YtgobkbeokaaplaaGreatDoorR05
import Derived.ChangeKeysEq
set_option linter.unusedVariables false
set_option maxRecDepth 100000
set_option maxHeartbeats 40000000
namespace Go.Proofs.YtgobkbeokaaplaaGreatDoor
open Go.RowKit Pl Go.Wk _root_.Go.Proofs.Tryz
attribute [local irreducible] WC WL QX WD WDB WP WN WG
variable {d:Bool}{bs:List BkT}{bvs cs:List Value}{M N:Nat->Prop}{A BA DA KA:Option Addr}{bv tv x:Value}{w:World}
theorem DnB.old{N N':Nat->Prop}{d:Bool}{w:World}{x:Value}{bs:List BkT}(h:DnB N d w x bs)(hs:∀ k,N' k->N k∨w.heap.size<=k): DnB N' d w x bs:=by
 obtain⟨ps,A,c,O,J,G,D,j,C,i⟩:=h;refine⟨ps,A,c,O,J,G,D,j,λh0 ad e u=>?_,λp hp=>⟨(i p hp).1,(i p hp).2.old hs⟩⟩;rcases hs _ u with h'|h'
 .exact C h0 ad e h'
 have o:0<(Qw ps).length:=by rw[Jmn λp hp=>(i p hp).1];omega
 obtain⟨Z,e',hb,_⟩:=j.2 o;grind
theorem DnB.ext{N:Nat->Prop}{d:Bool}{w w':World}{x:Value}{bs:List BkT}(h:DnB N d w x bs)(hx:Ext w w'): DnB N d w' x bs:=h.gr (GrN.ext hx)
theorem DnB.nil(N:Nat->Prop)(d:Bool)(w:World): DnB N d w (.slice none 0 0) []:=⟨[],none,0,rfl,rfl,Nat.le_refl _,by simp,Rd.nil,λh=>absurd h (by simp),λp hp=>by cases hp⟩
theorem Xyh(w:World): (Instr.buildSlice 51 0 #[]).run prog w=.ok (.slice (some ⟨w.heap.size,0,none⟩) 0 0) (w.alloc (.cells ([]:List Value).toArray 208)):=kr
theorem Qbc{n c:Nat}(hr:Rd w 3 A n cs)(h1:∀ u∈cs,u.oneCell'=true)(hb:n*24<=140737488355328):
  Ret prog 136 [.slice A n c] w λv w'=>(∃ A' c',v=.slice A' n c'/\n<=c'/\Rd w' 3 A' n cs/\∀ ad,A'=some ad->w.heap.size<=ad.block)/\Ext w w':=by
 refine enE func136 ntmps136 ?_;refine ρ ?_;refine Kr ?_;refine ciR (λh=>?_) (λh=>?_)
 .have O:A=none:=by simpa using h
  subst O;have hn:n=0:=by
   rcases Nat.eq_zero_or_pos n with h0|h0
   .exact h0
   obtain⟨ad,Z,_⟩:=hr.isome h0 om;cases Z
  subst hn;refine ρ ?_;exact Jj ⟨⟨none,0,rfl,Nat.le_refl _,hr,λad e=>by cases e⟩,Ext.refl w⟩
 refine Qb Xyh ?_;intro w1 b j G D;refine ρ ?_;refine apo j EBg (D.own (n:=0) G rfl (Nat.zero_le _)) (hr.ext j) h1 (by unfold maxLen;omega) om ?_;intro v2 w2 i C _ _;obtain⟨A2,c2,rfl,o,J⟩:=Jb i;refine ρ ?_;rw[Nat.zero_add]at i o ⊢;exact Jj ⟨⟨A2,c2,rfl,o,Rd.own i,λad e=>by subst e;exact(J ad.block rfl).1⟩,C⟩
theorem Qwr(n:Nat)(kf:Nat->Nat)(pf:Nat->Int): ∀ u∈Qy n (Xq kf pf),u.oneCell'=true:=λu j=>by
 obtain⟨i,_,h⟩:=List.mem_flatMap.1 j;exact Jwl u h
theorem Xwf(h:DnB N d w x bs)(hN:∀ k,N k->k<w.heap.size):
  Ret prog 80 [x] w λu w'=>DnB N d w' u bs/\Ext w w':=by
 obtain⟨ps,A,c,rfl,rfl,hc,hl,hR,hA,am⟩:=h;refine enE func80 ntmps80 ?_;refine ρ ?_;refine Jo (fun (i:Nat) (vl:Value)=>[(3,vl),(6,.slice A ps.length c),(7,.int .i64 (ps.length:Int)),(8,.int .i64 (i:Int))])
  (λi vl w'=>i<=ps.length/\Ext w w'/\∃ o:List (List Value×BkT),w'.ownsRow w.heap.size 78 3 vl o.length (Qw o)/\o.map (·.2)=(ps.map (·.2)).take i/\∀ q∈o,q.1.length=3/\BkE d (λk=>N k∨vl.ownBlock=some k) w' q.1 q.2) (λi _=>ps.length-i) 0 (.slice none 0 0) sB
  ⟨Nat.zero_le _,Ext.refl _,[],Zd _ _ _ _,rfl,λq hq=>by cases hq⟩ ?_
 rintro i vl w1 ⟨hi,a2,o,ae,a7,a6⟩;obtain⟨LA,lc,rfl,ay,J⟩:=Jb ae;have ba:o.length=i:=by have:=congrArg List.length a7;rw[List.length_map,List.length_take,List.length_map]at this;omega
 refine ciR (λh=>?_) (λh=>?_)
 .have li:i<ps.length:=by have:=oT h;omega
  clear h;obtain⟨z,hz⟩:∃ z,z=ps[i]:=⟨_,rfl⟩;have ar:z∈ps:=by rw[hz];exact List.getElem_mem li
  obtain⟨b9,ai⟩:=am z ar;have a4:∀ j u,z.1[j]?=some u->w1.cell? ((adr A (i*3)).add j)=some u:=λj u hu=>by
   have hj:j<3:=by have:=(List.getElem?_eq_some_iff.1 hu).1;omega
   rw[Xv];refine(hR.ext a2).cell ?_;rw[Jjj (p:=z) (λp hp=>(am p hp).1) (by rw[hz];exact gE li) hj];exact hu
  obtain⟨kv,zq,ap,ab,aa⟩:=id ai;obtain⟨zp,rfl⟩:=aa.ptr;obtain⟨zc,zk,zt⟩:=z;simp only at ap ab aa a4 ai;subst ap;obtain⟨aq,ag,rfl,b7,b6,b8,_⟩:=id ab;refine Qp 3 i (hR.ext a2) li ?_;refine Jh (cs:=[.slice aq zk.length ag,.bool d,.pointer zp]) a4 ?_;refine Jw Jfl ?_;intro w2 bb av b1 b2;refine Qh (cs':=[.slice aq zk.length ag,.bool d,.pointer zp]) b2 ?_ (Jbz rfl);intro w3 ao bc au;have a1:Ext w1 w3:=au w1 av b1;have a5:Ext w3 w3.drew:=(Ext.refl w3).drew;have a8:=a2.trans (a1.trans a5);have a9:=ao.ext a5;have an:¬ (Value.slice LA o.length lc).ownBlock=some bb:=λe=>by have:=(J bb e).2;omega
  refine ρ ?_;refine drN (λk=>(Value.slice LA o.length lc).ownBlock=some k) 10 [(0,0),(0,1),(0,2),(0,4),(0,5),(1,3),(0,6),(1,7),(1,8),(0,9)] kr ?_;refine ρn ?_;refine nld (Jr (a9.at (i:=0) rfl) an) ?_;refine ρn ?_;refine Zh (cs:=[.bool d,.pointer zp]) (λw' hg j u hu=>Jr (a9.sub (i:=1) (j:=j) (by rw[Nat.add_comm];exact hu)) (by rw[Ud];exact an) w' hg) ?_;refine ρn ?_;refine nop ?_;refine cl (Jyc (r:=zk) (ab.v.ext a8) (λk=>N k∨(Value.slice LA o.length lc).ownBlock=some k) λk O=>?_) ?_
  .rcases O with Z|Z
   .exact nM (hN k Z) a8.size
   exact nM (J k Z).2 (a1.trans a5).size
  rintro kv w4 ⟨ak,aj⟩;obtain⟨D,C,rfl,_⟩:=id ak;refine ρ ?_;refine Ju (GrN.ext aj) ?_;refine ρn ?_;refine Jjb (Qcb _ D _ C d zp rfl) ?_;refine ρn ?_;refine nop ?_;refine bsl (Qbr _ D _ C d zp rfl) ?_;intro w5 b5 ac bd b3;refine ρ ?_;refine Ju (GrN.ext ac) ?_;refine ρn ?_;refine nop ?_;have G:Ext w1 w5:=((a1.trans a5).trans aj).trans ac;have a3:=a2.trans G;refine apb (m':=1) (news:=[.slice D zk.length C,.bool d,.pointer zp]) EBk (Jk ae G) (b3.rd (n:=1) rfl) (Jbz rfl) (by unfold maxLen;omega) om a3.size ?_;intro v6 w6 aw af ax;have b4:∀ g,(Value.slice LA o.length lc).ownBlock=some g->g<w5.heap.size:=λg eg=>nM (J g eg).2 G.size;refine ρ ?_;refine Ju (GrN.by af λg eg=>eg) ?_;refine ρn ?_;refine ρ ?_;have key:∀ p:List Value×BkT,BkE d (λk=>N k∨(Value.slice LA o.length lc).ownBlock=some k) w5 p.1 p.2->BkE d (λk=>N k∨v6.ownBlock=some k) w6 p.1 p.2:=λp h1=>by
   have h2:BkE d (λk=>(N k∨(Value.slice LA o.length lc).ownBlock=some k)∨v6.ownBlock=some k) w5 p.1 p.2:=h1.old λk O=>by
    rcases O with Z|Z
    .exact .inl Z
    rcases ax k Z with h''|h''
    .exact .inl (.inr h'')
    exact .inr h''
   exact(h2.gr (GrN.by af λk O=>.inl (.inr O))).old λk O=>.inl (O.elim (λZ=>.inl (.inl Z)) .inr)
  have ah:TrV (λk=>N k∨(Value.slice LA o.length lc).ownBlock=some k) w5 zt (.pointer zp):=by
   refine TrV.ext (TrV.old ?_ aa) a3;intro k O;rcases O with Z|Z
   .exact .inl Z
   exact .inr (J k Z).1
  refine Jf (i+1) v6 sO ⟨li,Qa a3 af (λg eg=>(J g eg).1),o++[([.slice D zk.length C,.bool d,.pointer zp],(zk,zt))],?_,?_,λq hq=>?_⟩ om
  .rw[List.length_append,List.length_singleton];have e:Qw (o++[([.slice D zk.length C,.bool d,.pointer zp],(zk,zt))])=Qw o++[.slice D zk.length C,.bool d,.pointer zp]:=by simp[Qw]
   rw[e];exact aw
  .rw[List.map_append,a7,List.take_succ_eq_append_getElem (by rw[List.length_map];exact li),List.getElem_map,<-hz];rfl
  rcases List.mem_append.1 hq with h1|h1
  .exact⟨(a6 q h1).1,key q ((a6 q h1).2.ext G)⟩
  rw[List.mem_singleton.1 h1];exact⟨rfl,key ([.slice D zk.length C,.bool d,.pointer zp],(zk,zt)) ⟨_,_,rfl,ak.ext ac,ah⟩⟩
 have az:i=ps.length:=by have:=oF h;omega
 rw[az,List.take_of_length_le (by rw[List.length_map];exact nR _)]at a7;refine ρ ?_;refine Jj ⟨⟨o,LA,lc,a7.symm,rfl,ay,om,Rd.own ae,λh0 ad e O=>?_,λp hp=>⟨(a6 p hp).1,?_⟩⟩,a2⟩
 .have:=(J ad.block (by rw[e];simp[Value.ownBlock])).1;have:=hN _ O;omega
 exact(a6 p hp).2.old λk O=>.inl (.inl O)
def Zo(bs:List BkT)(k:Row): Option Nat:=bs.findIdx? λb=>decide (b.1=k)
theorem Xzc(bs:List BkT)(b:BkT)(k:Row)(h:b.1 ∉ bs.map (·.1)): Zo (bs++[b]) k=if b.1=k then some bs.length else Zo bs k:=by grind [Zo,List.findIdx?_eq_none_iff,List.mem_map.2]
structure VarQ(N:Nat->Prop)(d:Bool)(w:World)(bv pv:Value)(bs:List BkT): Prop where
 bks:DnB N d w bv bs
 plc:∃ mb m fm,pv=.map (some mb)/\m<=1000000/\(MapS prog 9 w mb m fm/\¬ N mb)/\∀ k:Row,fm (.string (idn k))=(Zo bs k).map λi=>.int .i64 (i:Int)
theorem VarQ.gr{N:Nat->Prop}{d:Bool}{w w':World}{bv pv:Value}{bs:List BkT}(h:VarQ N d w bv pv bs)(hg:GrN N w w'): VarQ N d w' bv pv bs:=by
 refine⟨h.bks.gr hg,?_⟩;obtain⟨j,m,fm,D,C,⟨u,i⟩,o⟩:=h.plc;exact⟨j,m,fm,D,C,⟨u.gr hg i,i⟩,o⟩
theorem VarQ.none{pv:Value}(h:VarQ N d w bv pv bs): VarQ (λ_=>False) d w bv pv bs:=by
 refine⟨h.bks.old λk i=>i.elim,?_⟩;obtain⟨j,m,fm,G,D,⟨C,u⟩,o⟩:=h.plc;grind
structure IxV(w:World)(x:Value)(f:Nat)(ds:List Bool)(kf:Nat->Nat)(pf:Nat->Int)(BB:Nat->List BkT)(tot:Nat): Prop where
 ex:∃ DA dc BA cb KA ck PA cp tv kvs pvs,x=.agg #[.slice DA f dc,.slice BA f cb,.slice KA f ck,.slice PA f cp,tv]/\f<=dc/\f<=cb/\RdB w DA ds/\Rd w 3 BA f (Qy f (Xq kf pf))/\Rd w 1 KA f kvs/\Rd w 1 PA f pvs/\NatV w tv tot /\
  ∀ v,v<f->VarQ (λ_=>False) (ds.getD v false) w (kvs.getD v (.slice none 0 0)) (pvs.getD v (.map none)) (BB v)
 dl:ds.length=f
 f32:f<=32
theorem IxV.ext{w w':World}{x:Value}{f:Nat}{ds:List Bool}{kf:Nat->Nat}{pf:Nat->Int}{BB:Nat->List BkT}{tot:Nat}(h:IxV w x f ds kf pf BB tot)(hx:Ext w w'): IxV w' x f ds kf pf BB tot:=by
 obtain⟨DA,dc,BA,cb,KA,ck,PA,cp,o,j,i,h1,h2,h3,Z,O,J,G,D,C⟩:=h.ex;exact⟨⟨DA,dc,BA,cb,KA,ck,PA,cp,o,j,i,h1,h2,h3,Rd.ext Z hx,O.ext hx,J.ext hx,G.ext hx,D.ext hx,λv u=>(C v u).gr (GrN.ext hx)⟩,h.dl,h.f32⟩
theorem Jjq: Qu prog 55=some (.agg #[.slice none 0 0,.slice none 0 0,.slice none 0 0,.slice none 0 0,.slice none 0 0]):=kr
theorem Xbd(A B C:Option Addr)(a b c a' b' c':Nat)(w:World): (Instr.build 55 #[(0,.slice A a a'),(1,.slice B b b'),(4,.slice C c c')]).run prog w=.ok (.agg #[.slice A a a',.slice B b b',.slice none 0 0,.slice none 0 0,.slice C c c']) w:=kr
theorem Qxf{B C D E:Option Addr}{a b c d e a' b' c' d' e':Nat}: ∀ u∈[Value.slice A a a',.slice B b b',.slice C c c',.slice D d d',.slice E e e'],u.oneCell'=true:=λu i=>by
 simp only[List.mem_cons,List.not_mem_nil,or_false]at i;rcases i with rfl|rfl|rfl|rfl|rfl<;>rfl
theorem EBks: ElT prog 52 72 1 24 (.slice none 0 0):=⟨underlying52,info_parts kr,rfl,by decide⟩
theorem EPls: ElT prog 53 228 1 8 (.map none):=⟨underlying53,info_parts kr,rfl,by decide⟩
theorem Gj(z:Value)(h:z.cells = #[z])(n:Nat): (madeCells z.cells (n*1)).toList=List.replicate n z:=by rw[Nat.mul_one,h];exact Gq _ _
theorem Xck{B0 f dc cb ck tot:Nat}{ds:List Bool}{kf:Nat->Nat}{pf:Nat->Int}{BB:Nat->List BkT}(hTB:TB B0 w)(hdl:ds.length=f)(f32:f<=32)(hD:RdB w DA ds)(hBg:Rd w 3 BA f (Qy f (Xq kf pf)))(hK:Rd w 1 KA f bvs)(hel:∀ v,v<f->DnB M (ds.getD v false) w (bvs.getD v (.slice none 0 0)) (BB v))(htv:NatX M w tv tot)(hM:∀ k,M k->k<w.heap.size)(hfit:∀ v,v<f->∀ b∈BB v,FitR b.1)(hlt:∀ v,v<f->Lt [] ((BB v).map (·.1))):
  Ret prog 78 [.slice DA f dc,.slice BA f cb,.slice KA f ck,tv] w λu w'=>Off M w' (λW=>IxV W u f ds kf pf BB tot)/\IxV w' u f ds kf pf BB tot/\Ext w w':=by
 obtain⟨TA,tc,rfl,g1⟩:=id htv.1;have fi:Rd w 1 DA f (ds.map Value.bool):=hdl ▸ hD;refine enE func78 ntmps78 ?_;refine Jw Jjq ?_;intro w1 b8 ao e3 dd;refine clR (Jnj (fi.ext ao) (λu hu=>by obtain⟨b,_,rfl⟩:=List.mem_map.1 hu;rfl) om) ?_;rintro _ w2 ⟨⟨bo,c6,rfl,dx,bj,f9⟩,an⟩;refine clR (Qbc ((hBg.ext ao).ext an) (Qwr _ _ _) om) ?_;rintro _ w3 ⟨⟨bp,c7,rfl,dz,cv,fa⟩,am⟩;refine Xh (Xbd _ _ _ _ _ _ _ _ _ _) ?_;refine Jw Jjq ?_;intro w4 b9 f2 ar fj;refine Qg fj ?_;intro w5 ek g5 f0;have a9:Ext w3 w5:=f0 w3 f2 ar;have ca:Ext w w5:=((ao.trans an).trans am).trans a9;have b2:Ext w5 w5.drew:=(Ext.refl w5).drew;have bl:=ek.ext b2;refine ρ ?_;refine drH (λi=>Nat.beq i 7 || Nat.beq i 9) ?_;refine Zr (fuel':=8) 8 [(0,0),(0,1)] #[true,true,false,false,false,false,false,false,false,false] kr kr rfl ?_;refine ρd ?_
 refine Xa ?_;refine Gn (fuel':=7) 3 kr kr rfl rfl ?_;refine ρp ?_;refine ρd ?_;refine Xa ?_;refine Gn (fuel':=6) 4 kr kr rfl rfl ?_;refine ρp ?_;refine ρd ?_;refine Xa ?_;have g6:w5.drew.heap.size=w5.heap.size:=rfl;refine Jvl 2 (lst 10 8) (fun (y:Option Addr×Option Addr)=>[(24,.slice y.2 f f),(9,.pointer (some ⟨b9,0,none⟩)),(8,.pointer (some ⟨b8,0,none⟩)),(0,.slice DA f dc),(2,.slice KA f ck)])
  (λy W=>GrN (λk=>k=b9) w5.drew W/\Blk W b9 55 [.slice bo f c6,.slice bp f c7,.slice y.1 f f,.slice none 0 0,.slice TA (Jq tot).length tc] /\
   W.ownsRow w5.drew.heap.size 72 1 (.slice y.1 f f) f (List.replicate f (.slice none 0 0))/\W.ownsRow w5.drew.heap.size 228 1 (.slice y.2 f f) f (List.replicate f (.map none))) ?_ ?_
 rotate_left
 .intro rest;refine itwo 2 5 kr rfl rfl rfl ?_ ?_
  .refine mkn EBks f om (by unfold maxLen;omega) ?_;intro w6 D aa ah _;rw[Gj _ rfl]at ah;refine Jl (Iz (λ_=>aa) ?_);refine Gn (fuel':=4) 6 kr kr rfl rfl ?_;refine ρp ?_;refine ρd ?_;refine Xa ?_;refine itwo 5 7 kr rfl rfl rfl ?_ ?_
   .refine mkn EPls f om (by unfold maxLen;omega) ?_;intro w7 G a1 af _;rw[Gj _ rfl]at af;refine Jl (Iz (λ_=>a1) ?_);refine Jvg 7 kr rfl rfl ?_;have a5:=(bl.ext aa).ext a1;refine sto (a5.at (i:=2) rfl) (a5.frozen 2) ?_;refine Jl (Iz (λh=>by cases h) ?_);refine hlist (listed':=lst 10 8) kr ?_;have ab:GrN (λk=>k=b9) w7 (w7.setCell ⟨b9,2,none⟩ (.slice D f f)):=GrN.set _ rfl;refine rest (D,G) _ _ ⟨(GrN.ext (aa.trans a1)).trans ab,a5.set 2 _,Je (Jk ah a1) ab λg Z e=>?_,Je (af.mono aa.size) ab λg Z e=>?_⟩ sB
    .rw[e]at Z;exact a5.ne_own (Jk ah a1) rfl Z.symm
    rw[e]at Z;exact a5.ne_own af rfl Z.symm
   have ae:=bl.ext aa;refine sto (ae.at (i:=2) rfl) (ae.frozen 2) ?_;refine Jl (Iz (λh=>by cases h) ?_);refine Jvg 5 kr rfl rfl ?_;have ab:GrN (λk=>k=b9) w6 (w6.setCell ⟨b9,2,none⟩ (.slice D f f)):=GrN.set _ rfl;refine mkn EPls f om (by unfold maxLen;omega) ?_;intro w7 G a1 af _;rw[Gj _ rfl]at af;refine Jl (Iz (λ_=>a1) ?_);refine hlist (listed':=lst 10 8) kr ?_;refine rest (D,G) _ _ ⟨((GrN.ext aa).trans ab).trans (GrN.ext a1),(ae.set 2 _).ext a1,Jk (Je ah ab λg Z e=>?_) a1,af.mono (nL aa.size ab.size)⟩ sB;rw[e]at Z;exact ae.ne_own ah rfl Z.symm
  refine mkn EPls f om (by unfold maxLen;omega) ?_;intro w6 G aa au _;rw[Gj _ rfl]at au;refine Jl (Iz (λ_=>aa) ?_);refine Jvg 2 kr rfl rfl ?_;refine mkn EBks f om (by unfold maxLen;omega) ?_;intro w7 D a1 aw _;rw[Gj _ rfl]at aw;refine Jl (Iz (λ_=>a1) ?_);refine Gn (fuel':=3) 6 kr kr rfl rfl ?_;refine ρp ?_;refine ρd ?_;refine Xa ?_;refine Jvg 7 kr rfl rfl ?_;have a5:=(bl.ext aa).ext a1;refine sto (a5.at (i:=2) rfl) (a5.frozen 2) ?_;refine Jl (Iz (λh=>by cases h) ?_);refine hlist (listed':=lst 10 8) kr ?_;have ab:GrN (λk=>k=b9) w7 (w7.setCell ⟨b9,2,none⟩ (.slice D f f)):=GrN.set _ rfl;refine rest (D,G) _ _ ⟨(GrN.ext (aa.trans a1)).trans ab,a5.set 2 _,Je (aw.mono aa.size) ab λg Z e=>?_,Je (Jk au a1) ab λg Z e=>?_⟩ sB
  .rw[e]at Z;exact a5.ne_own aw rfl Z.symm
  rw[e]at Z;exact a5.ne_own (Jk au a1) rfl Z.symm
 rintro⟨D,G⟩ w6 ⟨ai,ae,ah,au⟩;simp only at ae ah au;refine Gn (fuel':=1) 8 kr kr rfl rfl ?_;refine ρp ?_;refine ρd ?_;refine Xa ?_;refine Jvg 9 kr rfl rfl ?_;refine sto (ae.at (i:=3) rfl) (ae.frozen 3) ?_;refine Jl (Iz (λh=>by cases h) ?_);refine Yx kr ?_;obtain⟨w7,bs⟩:∃ w7,w7=w6.setCell ⟨b9,3,none⟩ (.slice G f f):=⟨_,rfl⟩;have ac:GrN (λk=>k=b9) w6 w7:=by rw[bs];exact GrN.set _ rfl
 have a5:Blk w7 b9 55 [.slice bo f c6,.slice bp f c7,.slice D f f,.slice G f f,.slice TA (Jq tot).length tc]:=by rw[bs];exact ae.set 3 _
 have aw:=Je ah ac λg Z e=>by rw[e]at Z;exact ae.ne_own ah rfl Z.symm
 have af:=Je au ac λg Z e=>by rw[e]at Z;exact ae.ne_own au rfl Z.symm
 rw[show w6.setCell ((⟨b9,0,none⟩:Addr).add 3) (.slice (D,G).2 f f)=w7 from bs.symm];clear bs;obtain⟨N,bz⟩:∃ N:Nat->Prop,N=λk=>(Value.slice D f f).ownBlock=some k∨(Value.slice G f f).ownBlock=some k:=⟨_,rfl⟩;obtain⟨NB,bg⟩:∃ NB:Nat->Prop,NB=λk=>N k∨k=b8∨M k:=⟨_,rfl⟩;have ag:∀ {W W':World},GrN N W W'->GrN NB W W':=λhg=>hg.mono λk _ o=>by rw[bg];exact .inl o
 have lK:∀ g,(Value.slice D f f).ownBlock=some g->w5.heap.size<=g/\g<w7.heap.size:=(Jb aw).choose_spec.choose_spec.2.2;have lP:∀ g,(Value.slice G f f).ownBlock=some g->w5.heap.size<=g/\g<w7.heap.size:=(Jb af).choose_spec.choose_spec.2.2;have av:∀ k,N k->w5.heap.size<=k/\k<w7.heap.size:=λk o=>by
  rw[bz]at o;exact o.elim (lK k) (lP k)
 have c1:¬ N b9:=λo=>by
  rw[bz]at o;rcases o with h'|h'
  .exact a5.ne_own aw rfl h'.symm
  exact a5.ne_own af rfl h'.symm
 have di:Ext w w7:=by
  have h1:Ext w3 w6:=(ai.old (a9.trans b2) λk o=>by rw[o];exact ar);have h2:Ext w3 w7:=ac.old h1 λk o=>by rw[o];exact ar
  exact((ao.trans an).trans am).trans h2
 have fy:b8<w3.heap.size:=nM dd.lt (an.trans am).size;have en:Blk w7 b8 55 _:=Jy (Jy ((((dd.ext an).ext am).ext (a9.trans b2))) ai λe=>om) ac λe=>by omega
 have fg:Rd w7 1 bo f (ds.map Value.bool):=by
  have h1:Ext w3 w6:=(ai.old (a9.trans b2) λk o=>by rw[o];exact ar);have h2:Ext w3 w7:=ac.old h1 λk o=>by rw[o];exact ar
  exact Rd.ext (Rd.ext bj am) h2
 have ei:Rd w7 3 bp f (Qy f (Xq kf pf)):=by
  have h1:Ext w3 w6:=(ai.old (a9.trans b2) λk o=>by rw[o];exact ar);have h2:Ext w3 w7:=ac.old h1 λk o=>by rw[o];exact ar
  exact Rd.ext cv h2
 have fo:w5.heap.size<=w7.heap.size:=nL ai.size ac.size;have f3:w3.heap.size<=w5.heap.size:=a9.size;refine ρ ?_;refine Zj (fun (v:Nat) (C J:List Value)=>[(8,.pointer (some ⟨b8,0,none⟩)),(9,.pointer (some ⟨b9,0,none⟩)),(2,.slice KA f ck),(28,.int .i64 (f:Int)),(29,.int .i64 (v:Int))])
  (λv C J w'=>v<=f/\GrN N w7 w'/\w'.ownsRow w5.drew.heap.size 72 1 (.slice D f f) f C/\w'.ownsRow w5.drew.heap.size 228 1 (.slice G f f) f J /\
   ∀ u,u<v->VarQ NB (ds.getD u false) w' (C.getD u (.slice none 0 0)) (J.getD u (.map none)) (BB u)) (λv _ _=>f-v) 0 _ _ sB
  ⟨Nat.zero_le _,GrN.refl _ _,aw,af,λu hu=>om⟩ ?_
 rintro v C J w8 ⟨hv,a3,d7,d1,e6⟩;have ay:=Jy a5 a3 c1;have a2:Ext w w8:=a3.old di λk o=>by have:=(av k o).1;have:=ca.size;omega
 refine ciR (λh=>?_) (λh=>?_)
 .have lv:v<f:=by have:=oT h;omega
  clear h;obtain⟨d,hd⟩:∃ d,d=ds.getD v false:=⟨_,rfl⟩;have cg:=hel v lv;rw[<-hd]at cg;have fw:bvs.length=f:=by have:=hK.len;omega
  have g4:C.length=f:=by have:=d7.1;omega
  have g2:J.length=f:=by have:=d1.1;omega
  have d2:∀ k,N k->w.heap.size<=k:=λk o=>nL ca.size (av k o).1;have a8:Ext w8 w8.drew:=(Ext.refl w8).drew;have bm:=ay.ext a8;have cq:=Jk d7 a8;have cj:=Jk d1 a8;have fe:Rd w8.drew 1 KA f bvs:=hK.ext (a2.trans a8);have ea:∀ g,(Value.slice D f f).ownBlock=some g->N g:=λg Z=>by rw[bz];exact .inl Z
  have d3:∀ g,(Value.slice G f f).ownBlock=some g->N g:=λg Z=>by rw[bz];exact .inr Z
  have ch:∀(W:World) (N':Nat->Prop),Ext w W->(∀ k,N' k->(M k∨w.heap.size<=k)/\k<W.heap.size)->Ret prog 80 [bvs.getD v (.slice none 0 0)] W λu w'=>DnB N' d w' u (BB v)/\Ext W w':=λW N' ez eb=>
   Xwf ((((cg.old (N':=λk=>M k∨w.heap.size<=k) λk o=>o)).ext ez).old λk o=>.inl (eb k o).1) λk o=>(eb k o).2
  have b4:∀(W:World) (C:List Value) (u:Value),W.ownsRow w5.drew.heap.size 72 1 (.slice D f f) f C->W.ownsRow w5.drew.heap.size 228 1 (.slice G f f) f J ->
    W.cell? (adr D v)=C[v]?/\W.frozen? (adr D v)=false/\(W.setCell (adr D v) u).ownsRow w5.drew.heap.size 72 1 (.slice D f f) f (C.set v u)/\(W.setCell (adr D v) u).ownsRow w5.drew.heap.size 228 1 (.slice G f f) f J/\GrN N W (W.setCell (adr D v) u):=λW C u ee fc=>by
   obtain⟨s1,s2,s3,s4,s5⟩:=Vc ee (q:=v) om u;exact⟨s1,s2,s3,Ze fc ee s5 rfl,GrN.by s5 ea⟩
  refine ρ ?_;refine drM N ?_;refine Un (fuel':=6) [(0,0),(0,1),(0,2),(0,3),(0,4),(0,5),(0,6),(0,7),(0,8),(0,9)] (lst 16 10) kr kr rfl ?_;refine ρn ?_;refine nld (Jr (bm.at (i:=2) rfl) c1) ?_;refine ρn ?_;refine nld (Jr (bm.at (i:=3) rfl) c1) ?_;refine ρn ?_;refine nix v fe lv ?_;refine ρn ?_;refine nld (v:=bvs.getD v (.slice none 0 0)) (λw' hg=>Ga (hg.old (a2.trans a8) d2) (hK.cell (show bvs[v]?=some (bvs.getD v (.slice none 0 0)) by simp[List.getD,List.getElem?_eq_getElem (show v<bvs.length by omega)]))) ?_;refine ρn ?_;refine Up ?_;refine mcut 2 (lst 16 14) (fun (y:Value×Nat)=>[(43,.map (some y.2)),(36,.slice G f f),(37,.int .i64 (v:Int)),(10,.int .i64 (v:Int)),(8,.pointer (some ⟨b8,0,none⟩)),(9,.pointer (some ⟨b9,0,none⟩)),(2,.slice KA f ck),(28,.int .i64 (f:Int)),(29,.int .i64 (v:Int))])
   (λy W=>GrN N w8.drew W/\W.ownsRow w5.drew.heap.size 72 1 (.slice D f f) f (C.set v y.1)/\W.ownsRow w5.drew.heap.size 228 1 (.slice G f f) f J/\DnB (λk=>NB k∨k=y.2) d W y.1 (BB v)/\MapS prog 9 W y.2 0 (λ_=>none)/\w8.heap.size<=y.2) ?_ ?_
  rotate_left
  .intro rest;have ax:∀ k,NB k->(M k∨w.heap.size<=k)/\k<w8.heap.size:=λk o=>by
    rw[bg]at o;rcases o with o|o|o
    .exact⟨.inr (d2 k o),Nat.lt_of_lt_of_le (av k o).2 a3.size⟩
    .have:=a3.size;rw[o];exact⟨.inr e3,om⟩
    exact⟨.inl o,Nat.lt_of_lt_of_le (hM k o) a2.size⟩
   have bf:∀ k,N k->k<w8.heap.size:=λk o=>nM (av k o).2 a3.size;refine Jql 10 11 kr rfl rfl rfl ?_ ?_
   .refine cl (ch _ NB (a2.trans a8) ax) ?_;rintro u W1 ⟨c4,a4⟩;have d8:=Jk cq a4;have e8:=Jk cj a4;refine Jl (Xg (GrN.ext a4) ?_);refine Un (fuel':=4) [(0,12)] #[true,true,true,true,true,true,true,true,true,true,true,false,true,false,false,false] kr kr rfl ?_;refine ρn ?_;refine nix v (Rd.own d8) lv ?_;refine ρn ?_;refine Up ?_;refine Jql 11 13 kr rfl rfl rfl ?_ ?_
    .refine mkm 9 ?_;intro W2 mb O ap d6;refine Jl (Xg (GrN.ext O) ?_);refine Vd 13 kr rfl rfl ?_;obtain⟨s1,s2,s3,s4,s5⟩:=b4 W2 C u (Jk d8 O) (Jk e8 O);refine sto (s1.trans (show C[v]?=some (C.getD v (.slice none 0 0)) by simp[List.getD,List.getElem?_eq_getElem (show v<C.length by omega)])) s2 ?_ rfl rfl rfl rfl rfl (by obtain⟨_,_,_,_,e,_⟩:=c4;rw[e];rfl);refine Jl (Xg s5 ?_);refine Gg (listed':=lst 16 14) kr ?_;refine rest (u,mb) _ _ ⟨(GrN.ext (a4.trans O)).trans s5,s3,s4,?_,d6.gr s5 λo=>?_,Nat.le_trans a4.size ap⟩ sB
     .exact(((c4.old (N':=λk=>NB k∨k=mb) λk o=>o.imp id λe=>by rw[e];exact ap).ext O).gr ((ag s5).mono λk _ o=>.inl o))
     have h1:=bf _ o;have h2:w8.heap.size<=W1.heap.size:=a4.size;omega
    obtain⟨s1,s2,s3,s4,s5⟩:=b4 W1 C u d8 e8;refine sto (s1.trans (show C[v]?=some (C.getD v (.slice none 0 0)) by simp[List.getD,List.getElem?_eq_getElem (show v<C.length by omega)])) s2 ?_ rfl rfl rfl rfl rfl (by obtain⟨_,_,_,_,e,_⟩:=c4;rw[e];rfl);refine Jl (Xg s5 ?_);refine Vd 11 kr rfl rfl ?_;refine mkm 9 ?_;intro W2 mb O ap d6;refine Jl (Xg (GrN.ext O) ?_);refine Gg (listed':=lst 16 14) kr ?_;refine rest (u,mb) _ _ ⟨((GrN.ext a4).trans s5).trans (GrN.ext O),Jk s3 O,Jk s4 O,?_,d6,Nat.le_trans a4.size (nL s5.size ap)⟩ sB;exact((c4.gr (ag s5)).old (N':=λk=>NB k∨k=mb) λk o=>o.imp id λe=>by rw[e];exact ap).ext O
   refine mkm 9 ?_;intro W1 mb a4 ap ed;refine Jl (Xg (GrN.ext a4) ?_);refine Vd 10 kr rfl rfl ?_;have fq:=ed.lt;have dm:w8.heap.size<=mb:=ap;have g7:w8.heap.size<=W1.heap.size:=a4.size;refine cl (ch _ (λk=>NB k∨k=mb) ((a2.trans a8).trans a4) λk o=>?_) ?_
   .rcases o with o|o
    .have:=ax k o;exact⟨this.1,om⟩
    have:=a2.size;exact⟨.inr om,om⟩
   rintro u W2 ⟨bj,O⟩;have cr:=Jk (Jk cq a4) O;have fd:=Jk (Jk cj a4) O;refine Jl (Xg (GrN.ext O) ?_);refine Un (fuel':=3) [(0,12)] (lst 16 13) kr kr rfl ?_;refine ρn ?_;refine nix v (Rd.own cr) lv ?_;refine ρn ?_;refine Up ?_;refine Vd 13 kr rfl rfl ?_;obtain⟨s1,s2,s3,s4,s5⟩:=b4 W2 C u cr fd;refine sto (s1.trans (show C[v]?=some (C.getD v (.slice none 0 0)) by simp[List.getD,List.getElem?_eq_getElem (show v<C.length by omega)])) s2 ?_ rfl rfl rfl rfl rfl (by obtain⟨_,_,_,_,e,_⟩:=bj;rw[e];rfl);refine Jl (Xg s5 ?_);refine Gg (listed':=lst 16 14) kr ?_;refine rest (u,mb) _ _ ⟨(GrN.ext (a4.trans O)).trans s5,s3,s4,bj.gr ((ag s5).mono λk _ o=>.inl o),(ed.ext O).gr s5 λo=>?_,dm⟩ sB;have:=bf _ o;omega
  rintro⟨u,mb⟩ w9 ⟨ba,c2,be,da,d5,dl⟩;simp only at c2 da d5 dl;refine Un (fuel':=1) [(0,14)] (lst 16 15) kr kr rfl ?_;refine ρn ?_;refine nix v (Rd.own be) lv ?_;refine ρn ?_;refine Up ?_;refine Vd 15 kr rfl rfl ?_;obtain⟨r1,r2,r3,r4,r5⟩:=Vc be (q:=v) om (.map (some mb));refine sto (r1.trans (show J[v]?=some (J.getD v (.map none)) by simp[List.getD,List.getElem?_eq_getElem (show v<J.length by omega)])) r2 ?_;have b5:=GrN.by r5 d3
  refine Jl (Xg b5 ?_);refine Jwv kr ?_;obtain⟨az,cc⟩:∃ az,az=w9.setCell (adr G v) (.map (some mb)):=⟨_,rfl⟩;rw[<-cc]at r3 r5 b5 ⊢;clear cc;have ax:∀ k,N k->k<w8.heap.size:=λk o=>nM (av k o).2 a3.size;have aj:¬ N mb:=λo=>by have:=ax _ o;omega
  have d4:¬ NB mb:=λo=>by
   rw[bg]at o;rcases o with o|o|o
   .exact aj o
   .have:=a3.size;omega
   have:=hM _ o;have:=a2.size;omega
  have aq:=(GrN.ext (N:=N) a8).trans (ba.trans b5);have bn:=Jy ay aq c1;have bh:=Ze c2 be r5 rfl;have eh:=da.gr ((ag b5).mono λk _ o=>.inl o);have cp:=d5.gr b5 aj;have c8:Ext w az:=aq.old a2 d2;have f6:=cp.lt;clear da d5;obtain⟨ps,GA,gc,c5,rfl,f8,dk,d9,ef,c3⟩:=eh;have dt:(C.set v (.slice GA ps.length gc))[v]?=some (.slice GA ps.length gc):=by rw[List.getElem?_set_self om]
  have e0:¬ b9=mb:=λe=>by have:=ay.lt;omega
  have dq:ps.length=(BB v).length:=by rw[c5,List.length_map]
  have fb:=hTB.ext c8;refine ldR (bn.at (i:=2) rfl) ?_;refine ixR v (Rd.own bh) lv ?_;refine ldR ((Rd.own bh).cell dt) ?_;refine ρ ?_;refine Zj (fun (i:Nat) (mc:Nat) (fm:Lit->Option Value)=>[(8,.pointer (some ⟨b8,0,none⟩)),(9,.pointer (some ⟨b9,0,none⟩)),(2,.slice KA f ck),(10,.int .i64 (v:Int)),(28,.int .i64 (f:Int)),(29,.int .i64 (v:Int)),(50,.slice GA ps.length gc),(51,.int .i64 (ps.length:Int)),(52,.int .i64 (i:Int))])
   (λi mc fm w'=>i<=ps.length/\GrN (λk=>k=mb) az w'/\MapS prog 9 w' mb mc fm/\mc<=i/\∀ k:Row,fm (.string (idn k))=(Zo ((BB v).take i) k).map λj=>.int .i64 (j:Int)) (λi _ _=>ps.length-i) 0 0 (λ_=>none) sB
   ⟨Nat.zero_le _,GrN.refl _ _,cp,Nat.le_refl _,λk=>rfl⟩ ?_
  rintro i mc fm ak ⟨hi,a6,co,g3,cz⟩;refine ciR (λh=>?_) (λh=>?_)
  .have li:i<ps.length:=by have:=oT h;omega
   clear h;obtain⟨z,hz⟩:∃ z,z=ps[i]:=⟨_,rfl⟩;have cw:z∈ps:=by rw[hz];exact List.getElem_mem li
   have ey:z.2∈BB v:=by rw[c5];exact List.mem_map_of_mem cw
   have bb:GrN (λk=>NB k∨k=mb) az ak:=a6.mono λk _ o=>.inr o;have bi:=Yj d9 bb λh0 ad e=>ef (by have:=d9.1;omega) ad e;have d0:=(c3 z cw).2.gr bb;have bd:∀ j u,z.1[j]?=some u->ak.cell? ((adr GA (i*3)).add j)=some u:=λj u hu=>by
    have hj:j<3:=by have:=(List.getElem?_eq_some_iff.1 hu).1;have:=(c3 z cw).1;omega
    rw[Xv];refine bi.cell ?_;rw[Jjj (p:=z) (λp hp=>(c3 p hp).1) (by rw[hz];exact gE li) hj];exact hu
   obtain⟨kv,zq,fk,ex,ew⟩:=id d0;obtain⟨zp,rfl⟩:=ew.ptr;have bc:=hfit v lv z.2 ey;obtain⟨et,df,rfl,ft,fr,du,_⟩:=id ex;rw[fk]at bd;have cx:Ext w ak:=a6.old c8 λk o=>by rw[o];have:=a2.size;omega
   have db:=Jy bn a6 e0;have e7:=Je r3 a6 λg Z e=>aj (by rw[<-e];exact d3 g Z);refine Qp 3 i bi li ?_;refine Jh (cs:=[.slice et z.2.1.length df,.bool d,.pointer zp]) bd ?_;refine Jw Jfl ?_;intro g0 g8 dh e4 eo;refine Qh (cs':=[.slice et z.2.1.length df,.bool d,.pointer zp]) eo ?_ (Jbz rfl);intro bq de fu dg;have br:Ext ak bq:=dg ak dh e4;have b1:Ext bq bq.drew:=(Ext.refl bq).drew;have a7:=br.trans b1;have cm:=Rd.own (Jk e7 a7);refine ρ ?_;refine drN (λ_=>False) 10 [(0,0),(0,1),(0,2),(0,3),(0,4),(0,5),(0,6),(0,8),(1,7),(2,9)] kr ?_;refine ρn ?_;refine nld (Jr ((db.ext a7).at (i:=3) rfl) (λe=>e)) ?_;refine ρn ?_;refine nix v cm lv ?_;refine ρn ?_;refine nld (Jr (cm.cell (show(J.set v (.map (some mb)))[v]?=some (.map (some mb)) by rw[List.getElem?_set_self om])) (λe=>e)) ?_;refine ρn ?_;refine nld (Jr ((de.ext b1).at (i:=0) rfl) (λe=>e)) ?_
   refine ρn ?_;refine nop ?_;refine cl (Jzn (r:=z.2.1) (hTB.ext (cx.trans a7)) (du.ext a7) (λu hu=>(bc.2 u hu).1) (by have:=bc.len;omega) (by have:=bc.1;omega)) ?_;rintro un fz ⟨rfl,b3⟩;refine ρ ?_;refine Ju (GrN.ext b3) ?_;refine ρn ?_;refine Xu ?_;refine mup KS ((co.ext a7).ext b3) (by unfold maxLen;omega) (Kw bc) ?_;intro eu ec dw;have bw:GrN (λk=>k=mb) ak eu:=(GrN.ext (a7.trans b3)).trans (GrN.by dw λk o=>by injection o with o;exact o.symm);refine ρ ?_;refine Qe (i+1) (mc+1) (upL fm (.string (idn z.2.1)) (some (.int .i64 (i:Int)))) sO ⟨li,a6.trans bw,ec,om,λk=>?_⟩ om;have er:(BB v).take (i+1)=(BB v).take i++[z.2]:=by
    rw[c5,List.take_succ_eq_append_getElem (by rw[List.length_map];exact li),List.getElem_map,hz]
   have f5:z.2.1 ∉ ((BB v).take i).map (·.1):=by
    have h1:=hlt v lv;rw[<-List.take_append_drop (i+1) (BB v),er,List.map_append,List.map_append]at h1;intro hm;have h2:=(List.pairwise_append.1 (List.pairwise_append.1 h1).1).2.2 _ hm z.2.1 (by simp);rw[Ye]at h2;omega
   rw[er,Xzc _ _ _ f5];have dn:((BB v).take i).length=i:=by rw[List.length_take];omega
   by_cases e:z.2.1=k
   .rw[if_pos e,<-e,Kg (KS.key (Kw bc)),dn];rfl
   rw[if_neg e,Ua (λe'=>e (Jcz (by injection e'.symm)))];exact cz k
  have f7:i=ps.length:=by have:=oF h;omega
  clear h;have cy:(BB v).take i=BB v:=by rw[f7,dq,List.take_length]
  rw[cy]at cz;have dv:GrN N w8 ak:=by
   refine((aq.mono λk _ o=>(.inl o:N k∨k=mb)).trans (a6.mono λk _ o=>.inr o)).mono λk o h=>?_;rcases h with h|h
   .exact h
   omega
  have dj:∀ u,u<v->(C.set v (.slice GA ps.length gc)).getD u (.slice none 0 0)=C.getD u (.slice none 0 0)/\(J.set v (.map (some mb))).getD u (.map none)=J.getD u (.map none):=λu hu=>by
   constructor<;>simp[List.getD,List.getElem?_set_ne (show v≠u by omega)]
  have e5:(C.set v (.slice GA ps.length gc)).getD v (.slice none 0 0)=.slice GA ps.length gc/\(J.set v (.map (some mb))).getD v (.map none)=.map (some mb):=by
   constructor
   .rw[List.getD,dt];rfl
   rw[List.getD,List.getElem?_set_self om];rfl
  have ff:DnB (λk=>NB k∨k=mb) d az (.slice GA ps.length gc) (BB v):=⟨ps,GA,gc,c5,rfl,f8,dk,d9,ef,c3⟩;refine ρ ?_;refine Qe (v+1) (C.set v (.slice GA ps.length gc)) (J.set v (.map (some mb))) sO ⟨lv,a3.trans dv,Je bh a6 λg Z e=>aj (by rw[<-e];exact ea g Z),Je r3 a6 λg Z e=>aj (by rw[<-e];exact d3 g Z),λu hu=>?_⟩ om;by_cases e:u=v
  .subst e;rw[e5.1,e5.2,<-hd];refine⟨(ff.gr (a6.mono λk _ o=>.inr o)).old λk o=>.inl (.inl o),mb,mc,fm,rfl,om,⟨co,d4⟩,cz⟩
  obtain⟨e1,e2⟩:=dj u om;rw[e1,e2];exact(e6 u om).gr (ag dv)
 have f4:v=f:=by have:=oF h;omega
 clear h;subst f4;refine Ja ay ?_;refine ρ ?_;have e9:¬ N b8:=λo=>by have:=(av _ o).1;omega
 have em:=Jy en a3 e9;refine stW em ?_;intro w9 el ba fn;have b7:GrN (λk=>k=b8) w8 w9:=GrN.by ba λk o=>by injection o with o;exact o.symm
 have c9:Ext w w9:=b7.old a2 λk o=>by rw[o];exact e3
 have fx:b8<w1.heap.size:=dd.lt;have cn:∀ k,NB k->k<w1.heap.size∨w5.heap.size<=k:=λk o=>by
  rw[bg]at o;rcases o with o|o|o
  .exact .inr (av k o).1
  .left;omega
  left;exact nM (hM k o) ao.size
 have ep:∀ W,GrN M w9 W->IxV W (.agg #[.slice bo v c6,.slice bp v c7,.slice D v v,.slice G v v,.slice TA (Jq tot).length tc]) v ds kf pf BB tot:=λW hW=>by
  have b6:GrN (λk=>k=b8∨M k) w8 W:=(b7.mono λk _ o=>.inl o).trans (hW.mono λk _ o=>.inr o);have cd:GrN NB w8 W:=b6.mono λk _ o=>by rw[bg];exact .inr o
  have ce:GrN NB w7 W:=(ag a3).trans cd;have fh:=Yj fg ce λh0 ad e o=>by
   obtain⟨fl,e',hb,_⟩:=bj.2 h0;rw[e]at e';injection e' with e';subst e'
   have h1:=f9 ad e;have h2:w2.heap.size<=w5.heap.size:=(am.trans a9).size;rcases cn _ o with h'|h'<;>omega
  have ej:=Yj ei ce λh0 ad e o=>by
   obtain⟨fl,e',hb,_⟩:=cv.2 h0;rw[e]at e';injection e' with e';subst e'
   have h1:=fa ad e;have h2:=an.size;rcases cn _ o with h'|h'<;>omega
  have fp:w1.heap.size<=w5.heap.size:=(an.trans (am.trans a9)).size;have c2:=Je d7 b6 λg Z e=>by
   have h1:=(lK g Z).1;rcases e with e|e
   .omega
   have:=hM g e;have:=ao.size;omega
  have be:=Je d1 b6 λg Z e=>by
   have h1:=(lP g Z).1;rcases e with e|e
   .omega
   have:=hM g e;have:=ao.size;omega
  refine⟨⟨bo,c6,bp,c7,D,v,G,v,_,C,J,rfl,dx,dz,?_,ej,Rd.own c2,Rd.own be,((htv.ext c9).gr hW).1,λu hu=>?_⟩,hdl,f32⟩
  .unfold RdB;rw[hdl];exact fh
  exact((e6 u hu).gr cd).none
 refine ρ ?_;exact Jzr el ⟨λW hW=>ep W hW,ep w9 (GrN.refl _ _),c9⟩
end Go.Proofs.YtgobkbeokaaplaaGreatDoor
namespace Go.Wk
open Go.RowKit
variable {c d e m n t ty:Nat}
theorem nslh{N:Nat->Prop}{P:Program}{al:AL}{w:World}{Q:Exit->Act->World->Prop}{ops:Array Oper}{drest:List (Nat×Oper)}{pos:String}{aft:Array Edge}{tt:TT}[hT:Tab P tt]{x y:Operand}{k:TK}{A:Option Addr}{kd:IntKind}{z:Int}(h:Nat)(kk:WN N P n ops Q drest ((d,.slice A h c)::al) w)(h2:h<=c)(ht:tk tt t=some k:=by rfl)(hk:k.desc=.slice e:=by rfl)(hx:ev al x=some (.slice A m c):=by rfl)(hy:ev al y=some (.int kd z):=by rfl)(hz:z=(h:Int):=by first|rfl|omega)(hd:Nat.blt d n=true:=by rfl):
  WN N P n ops Q ((0,⟨some d,.slice t x none (some y) none,ty,pos,aft,none⟩)::drest) al w:=by
 obtain⟨i,hs⟩:=Km hT.ok ht hk rfl;refine ny_ (λw' _ a j=>?_) hd kk;have:=Jgv (ty:=ty) (pos:=pos) (aft:=aft) (P:=P) (w:=w') (lo:=none) (hi:=some y) (mx:=none) (l:=0) (h:=h) (q:=c) (dst:=some d) j i hs hx rfl ⟨kd,z,hy,hz⟩ rfl (.inl rfl) (Nat.zero_le _) h2 (nR _);rw[cut0]at this;simpa using this
end Go.Wk
namespace Go.Proofs.YtgobkbeokaaplaaGreatDoor
open Go.RowKit Pl Go.Wk
attribute [local irreducible] WC WL QX WD WDB WP WN WG
variable {ds:List Bool}{l perm:List Nat}{ts:List TA}{B0 c f m n s u v:Nat}{pf:Nat->Int}{vars:Nat->List Nat}{R rs:Nat->List Row}{w:World}
def Gz(e:Nat)(l:List Nat): Nat:=l.foldl (λe v=>e ||| 2^v) e
def Qt(l:List Nat): Nat:=Gz 0 l
theorem Qvh: ∀(l:List Nat) (e u:Nat),(Gz e l).testBit u=true↔e.testBit u=true∨u∈l
 | [],e,u=>by simp[Gz]
 | v::l,e,u=>by
  have:=Qvh l (e ||| 2^v) u;rw[show Gz e (v::l)=Gz (e ||| 2^v) l from rfl,this,Nat.testBit_or,Nat.testBit_two_pow,Bool.or_eq_true,decide_eq_true_eq,List.mem_cons];grind
theorem edgeOf_bit: (Qt l).testBit u=true↔u∈l:=by rw[Qt,Qvh];simp
theorem Jzv(h:∀ v∈l,v<n): Qt l<2^n:=by
 refine Nat.lt_pow_two_of_testBit _ λi hi=>?_;cases hb:(Qt l).testBit i with
 | false=>rfl
 | true=>have:=h i (edgeOf_bit.1 hb);omega
theorem Qvg(e:Nat)(l:List Nat)(v:Nat): Gz e (l++[v])=Gz e l ||| 2^v:=by simp[Gz]
def Zl(m:Nat)(vars:Nat->List Nat): List Nat:=(List.range m).map λi=>Qt (vars i)
structure BldI(n f:Nat)(ds:List Bool)(perm:List Nat)(ts:List TA)(vars:Nat->List Nat)(rs:Nat->List Row): Prop where
 run:RunOk n ts vars rs
 pm:PermOk n f perm
 dl:ds.length=f
 ok:∀ i,i<ts.length->∀ r∈rs i,∀ u∈r,Xl u=true/\Xs u
 cap:∀ kf pf,Jkl n (Zl ts.length vars) (Xb perm f) kf pf->∀ v,v<n->(∀ l:List Row,Lt [] l->(∀ x∈l,∃ z:Row,z.length=n/\x=pmR (bk (kf v ||| 2^v) 32) z/\Ig ts.length vars rs (kf v ||| 2^v) z)->l.length<=65536) /\
  ∀ i,i<ts.length->(rs i).length<=12∨Srt [] ((rs i).map (pmR (Xw (vars i) (kf v ||| 2^v))))
def BldV(w:World)(v:Value)(n f:Nat)(ds:List Bool)(perm:List Nat)(ts:List TA): Prop:=∃ DA dc PA pc AA ac,v=.agg #[.int .i64 (n:Int),.int .i64 (f:Int),.slice DA f dc,.slice PA perm.length pc,.slice AA ts.length ac]/\f<=dc/\RdB w DA ds/\Rd w 1 PA perm.length (Jt (nz perm))/\perm.length<=pc /\
 Rd w 3 AA ts.length (atC ts)/\ts.length<=ac/\∀ p∈ts,AtV w p.1 p.2
theorem BldV.ext{w w':World}{v:Value}{n f:Nat}{ds:List Bool}{perm:List Nat}{ts:List TA}(h:BldV w v n f ds perm ts)(hx:Ext w w'): BldV w' v n f ds perm ts:=by
 obtain⟨DA,O,PA,pc,AA,Z,J,G,D,C,u,o,j,i⟩:=h;exact⟨DA,O,PA,pc,AA,Z,J,G,Rd.ext D hx,C.ext hx,u,o.ext hx,j,λp hp=>(i p hp).ext hx⟩
section
variable {n f:Nat} {ds:List Bool} {perm:List Nat} {ts:List TA} {vars:Nat->List Nat} {rs:Nat->List Row}
theorem BldI.inp(h:BldI n f ds perm ts vars rs){v:Value}(hv:BldV w v n f ds perm ts): InV w v ⟨n,f,ds,nz perm,ts.map (·.2)⟩/\Gk ⟨n,f,ds,nz perm,ts.map (·.2)⟩:=by
 obtain⟨DA,dc,PA,pc,AA,ac,rfl,h2,h3,h4,Z,O,J,G⟩:=hv;have hn:=h.run.n32;have hm:=h.run.m32;have C:=h.pm.len;have D:=h.pm.fn;have i:=h.dl;subst i;constructor
 .exact⟨_,rfl,_,_,_,rfl,⟨DA,dc,rfl,h2,by simp only;omega,h3⟩,⟨PA,pc,by rw[Qk],by rw[Qk];exact Z,by rw[Qk];omega,by rw[Qk];exact h4⟩,⟨ts,AA,ac,rfl,rfl,J,om,O,G⟩⟩
 refine⟨by simp only;omega,by simp only;omega,by simp only;omega,by simp only;omega,rfl,by grind [Qk],λv hv=>?_,?_,Jgz h.run⟩
 .obtain⟨u,o,rfl⟩:=List.mem_map.1 hv;have:=h.pm.rng u o;simp only;omega
 exact List.Pairwise.map _ (λa b j e=>j om) h.pm.nd
theorem BldI.es(h:BldI n f ds perm ts vars rs): (Zl ts.length vars).length=ts.length/\(∀ i,i<ts.length->∀ u,((Zl ts.length vars).getD i 0).testBit u=true↔u∈vars i)/\∀ e∈Zl ts.length vars,e<2^n:=by
 refine⟨by simp[Zl],λi hi u=>?_,λe j=>?_⟩
 .grind [Zl,Qt,List.getD,edgeOf_bit]
 obtain⟨i,hi,rfl⟩:=List.mem_map.1 j;exact Jzv (h.run.lt i (List.mem_range.1 hi))
theorem BldI.elr(h:BldI n f ds perm ts vars rs){kf:Nat->Nat}(hb:Jkl n (Zl ts.length vars) (Xb perm f) kf pf)(hR:∀ v,v<n->Jfh n ts.length vars rs (kf v ||| 2^v) (R v)): ElR n f ts.length (Zl ts.length vars) perm vars rs kf pf R :=
 ⟨h.pm,h.run.n32,h.run.lt,h.run.len,h.es.1,h.es.2.1,h.es.2.2,hb,hR⟩
theorem Qgp{v:V}(h:Xl v=true): v.bytes.length<=24:=by
 unfold Xl at h;grind
theorem BldI.fit(h:BldI n f ds perm ts vars rs)(hs:s<2^n){z:Row}(hb:Ig ts.length vars rs s z): FitR (pmR (bk s 32) z)/\∀ u∈pmR (bk s 32) z,Xl u=true:=by
 have key:∀ u∈pmR (bk s 32) z,Xl u=true/\Xs u:=λu o=>by
  obtain⟨c,hc,rfl⟩:=List.mem_map.1 o;have C:=(bk_mem.1 hc).2;have D:=Jyg hs C;obtain⟨i,hi,hm⟩:=h.run.cov c D;obtain⟨j,J,e⟩:=List.getElem_of_mem hm;obtain⟨r,G,h1⟩:=hb i hi;have Z:(vars i).getD j 0=c:=by rw[Qd 0 _ J,e]
  have O:=h1 j J (by rw[Z];exact C);rw[Z]at O;rw[<-O];have a1:=h.run.len i hi r G;exact h.ok i hi r G _ (getD_mem' V0 r om)
 exact⟨⟨by grind [Xc,Yo],λu o=>⟨(key u o).2,Qgp (key u o).1⟩⟩,λu o=>(key u o).1⟩
end
theorem ElR.sb{es:List Nat}{kf:Nat->Nat}(h:ElR n f m es perm vars rs kf pf R)(hv:v<n): kf v ||| 2^v<2^n:=by
 refine Nat.lt_pow_two_of_testBit _ λi hi=>?_;cases hb:(kf v ||| 2^v).testBit i with
 | false=>rfl
 | true=>
  rw[Nat.testBit_or,Nat.testBit_two_pow,Bool.or_eq_true,decide_eq_true_eq]at hb;rcases hb with hb|hb
  .have:=(h.kbit hv hb).1;omega
  omega
theorem Qcl{kf:Nat->Nat}(h:BldI n f ds perm ts vars rs)(hb:Jkl n (Zl ts.length vars) (Xb perm f) kf pf)(hv:v<n): kf v ||| 2^v<2^n:=by
 refine Nat.lt_pow_two_of_testBit _ λi hi=>?_;cases hbt:(kf v ||| 2^v).testBit i with
 | false=>rfl
 | true=>
  rw[Nat.testBit_or,Nat.testBit_two_pow,Bool.or_eq_true,decide_eq_true_eq]at hbt;rcases hbt with hbt|hbt
  .rw[(hb v hv).2.1]at hbt;have:=Jcm (nb:=nb0 n (Zl ts.length vars)) (ord:=Xb perm f) (N:=n) (λa b j=>(Jzj h.es.2.2 j).2.1) hbt;omega
  omega
noncomputable def BBo(n f:Nat)(kf:Nat->Nat)(pf:Nat->Int)(R:Nat->List Row)(ds:List Bool)(pl:Nat->Nat)(v:Nat): List BkT:=Yz (ds.getD v false) (λx=>wtL (TV n f kf pf R ds pl) x (chK kf pf v n)) (lastC kf v) (R v)
theorem EVm: ElT Tryz.prog 156 213 1 8 (.map none):=⟨Tryz.underlying156,info_parts kr,rfl,by decide⟩
theorem ETm: ElT Tryz.prog 157 221 1 8 (.map none):=⟨Tryz.underlying157,info_parts kr,rfl,by decide⟩
theorem EU32s: ElT Tryz.prog 44 64 1 4 (.int .u32 0):=⟨Tryz.underlying44,info_parts kr,rfl,by decide⟩
theorem Xyd(z:Int)(w:World): (Instr.buildSlice 44 1 #[(0,.int .u32 z)]).run Tryz.prog w=.ok (.slice (some ⟨w.heap.size,0,none⟩) 1 1) (w.alloc (.cells [.int .u32 z].toArray 64)):=kr
theorem Qfd: Qu Tryz.prog 151=some (.agg #[.int .i64 0,.slice none 0 0]):=kr
theorem Xbg(z:Int)(w:World): (Instr.build 151 #[(0,.int .i64 z)]).run Tryz.prog w=.ok (.agg #[.int .i64 z,.slice none 0 0]) w:=kr
theorem Qfj: Qu Tryz.prog 159=some (.agg #[.int .i64 0,.int .i64 0,.slice none 0 0,.slice none 0 0,.slice none 0 0,.slice none 0 0,.slice none 0 0,.slice none 0 0,.slice none 0 0,.slice none 0 0]):=kr
theorem Xbk(n f:Int)(D P A B R:Option Addr)(dn dc pn pc an ac bn bc rn rc:Nat)(w:World): (Instr.build 159 #[(0,.agg #[.int .i64 n,.int .i64 f,.slice D dn dc,.slice P pn pc,.slice A an ac]),(1,.slice B bn bc),(2,.slice R rn rc)]).run Tryz.prog w=.ok (.agg #[.int .i64 n,.int .i64 f,.slice D dn dc,.slice P pn pc,.slice A an ac,.slice B bn bc,.slice R rn rc,.slice none 0 0,.slice none 0 0,.slice none 0 0]) w:=kr
theorem Xdc(a b:List Nat): Uc (a++b)=Uc a++Uc b:=by simp[Uc]
theorem Xch{A:Option Addr}(hA:Rd w 3 A ts.length (atC ts))(hc:ts.length<=c)(hm:ts.length<=1100000)(he:∀ p∈ts,AtV w p.1 p.2): GV 3 AtG w (.slice A ts.length c) (ts.map (·.2)):=by
 refine⟨ts.map λt=>(t.1.cells,t.2),A,c,by simp,by rw[List.length_map],by grind,by grind,?_,λp hp=>?_⟩
 .grind [List.length_map,Qw,atC,List.flatMap_map]
 obtain⟨t,ht,rfl⟩:=List.mem_map.1 hp;exact⟨rfl,t.1,rfl,he t ht⟩
theorem Xzw{sz:Nat}{g : Nat → List Value}(h : ∀ i, i < n → (g i).length = sz)(hf : f ≤ n): (Qy n g).take (f * sz) = Qy f g := by
  induction n with
  | zero => have : f = 0 := by omega
            subst this; simp [Qy]
  | succ n ih =>
    have hl := Jvp (n := n) (fun i hi => h i om)
    by_cases e : f = n + 1
    . subst e
      rw [List.take_of_length_le]
      rw [Jvp h]; exact nR _
    repeat grind [Ky,Nat.mul_le_mul_right]
theorem Jym{es:List Nat}{kf:Nat->Nat}(h:ElR n f m es perm vars rs kf pf R)(hv:v<f):
  GInv (ds.getD v false) (λx=>wtL (TV n f kf pf R ds (plO perm f)) x (chK kf pf v n)) (lastC kf v) (R v) (BBo n f kf pf R ds (plO perm f) v):=Jvm (h.rlt hv) (h.rl hv)
theorem Xxc{v:Value}(hTB:TB B0 w)(hI:BldI n f ds perm ts vars rs)(hV:BldV w v n f ds perm ts):
  Ret Tryz.prog 22 [v] w λu w'=>Ext w w'/\∃(x:Value) (st:Int) (kf:Nat->Nat) (pf:Nat->Int) (R:Nat->List Row),u=.tuple #[x,.int .i64 st,.int .i64 0]/\ElR n f ts.length (Zl ts.length vars) perm vars rs kf pf R /\
   Off (λk=>k<w.heap.size) w' λW=>IxV W x f ds kf pf (λu=>if Vo n pf (TV n f kf pf R ds (plO perm f)) (ts.map (·.2))=0 then[] else BBo n f kf pf R ds (plO perm f) u) (Vo n pf (TV n f kf pf R ds (plO perm f)) (ts.map (·.2))):=by
 obtain⟨g8,fx⟩:=hI.inp hV;obtain⟨DA,dc,PA,pc,AA,ac,rfl,j1,hD,hP,iv,hA,fz,fb⟩:=id hV;have bq:=hI.run.n32;have ie:=hI.run.m32;have co:=hI.pm.fn;have iu:=hI.pm.len;have fw:=hI.dl;refine enE Tryz.func22 Tryz.ntmps22 ?_;refine bxR ?_;intro w1 b1 em j5 f9;refine Jw Jjq ?_;intro w2 b2 da hg gf;refine Ja (f9.ext da) ?_;refine clR (Qkz (g8.ext (em.trans da)) (by simp only;omega) (by simp only;omega)) ?_;rintro u w3 ⟨d9,e,rfl,he⟩;have h8:e=0:=he.2 fx;subst h8;refine ρ ?_;have d1:=(f9.ext da).ext d9;refine ld (d1.at (i:=0) rfl) ?_;refine Xh (Xbg _ _) ?_;refine Jw Qfd ?_;intro w4 b6 gn fy c7;refine Qg c7 ?_;intro w5 ge j0 gm;have du:Ext w3 w5:=gm w3 gn fy;have dw:Ext w w3:=(em.trans da).trans d9;refine ldR ((d1.ext du).at (i:=4) rfl) ?_;refine ρ ?_;refine Jo (fun (i:Nat) (vl:Value)=>[(1,.pointer (some ⟨b1,0,none⟩)),(2,.pointer (some ⟨b2,0,none⟩)),(3,.int .i64 0),(4,.int .i64 0),(6,.pointer (some ⟨b6,0,none⟩)),(34,.slice AA ts.length ac),(35,.int .i64 (ts.length:Int)),(36,.int .i64 (i:Int))])
  (λi vl w'=>i<=ts.length/\Ext w3 w'/\Blk w' b6 151 [.int .i64 (n:Int),vl]/\w'.ownsRow w3.heap.size 64 1 vl i (Uc ((Zl ts.length vars).take i))) (λi _=>ts.length-i) 0 (.slice none 0 0) sB
  ⟨Nat.zero_le _,du,ge,by rw[List.take_zero];exact Zd _ _ _ _⟩ ?_
 rintro i vl w6 ⟨hi,ah,bz,c6⟩;obtain⟨EA,ec,rfl,fu,h7⟩:=Jb c6;refine ciR (λh=>?_) (λh=>?_)
 .have li:i<ts.length:=by have:=oT h;omega
  clear h;have ai:=dw.trans ah;have hp:=fb _ (Jbh rfl li);have ez:=hI.run.at_ i li;have dz:=hI.run.lt i li;generalize hq:ts.getD i ta0=q at hp ez
  obtain⟨⟨t1,t2,t3⟩,a⟩:=q;simp only at ez;subst ez;obtain⟨⟨QA,qc,d6,fj,fi,er⟩,d5,dd⟩:=id hp;simp only at d6 d5;obtain⟨bc,PG,bd,i5,d4,_⟩:=id dd;simp only at d4;subst d6;subst d5;subst d4;have iw:(vars i).length<=1100000:=by have:=fi;simpa [Qk] using this
  rw[Qk]at er fj;have aq:∀ j u,([.slice QA (nz (vars i)).length qc,.int .i64 ((vars i).length:Int),.slice PG bc.length bd]:List Value)[j]?=some u->w6.cell? ((adr AA (i*3)).add j)=some u:=λj u hu=>Ga ai (Jkg hA rfl li (by rw[hq];exact hu));rw[Qk]at aq;refine Qp 3 i (hA.ext ai) li ?_;refine Jh (cs:=[.slice QA (vars i).length qc,.int .i64 ((vars i).length:Int),.slice PG bc.length bd]) aq ?_;refine Jw Yr ?_;intro w7 b8 c5 ha i4;refine Qh (cs':=[.slice QA (vars i).length qc,.int .i64 ((vars i).length:Int),.slice PG bc.length bd]) i4 ?_ (Ij rfl);intro w8 gd a5 bf;have ax:Ext w6 w8:=bf w6 c5 ha;refine ldR (gd.at (i:=0) rfl) ?_;refine ρ ?_;have fk:=er.ext (ai.trans ax);refine Qs (fun (j:Nat)=>[(1,.pointer (some ⟨b1,0,none⟩)),(2,.pointer (some ⟨b2,0,none⟩)),(3,.int .i64 0),(4,.int .i64 0),(6,.pointer (some ⟨b6,0,none⟩)),(34,.slice AA ts.length ac),(35,.int .i64 (ts.length:Int)),(36,.int .i64 (i:Int)),(9,.int .u32 (Gz 0 ((vars i).take j):Int)),(41,.slice QA (vars i).length qc),(42,.int .i64 ((vars i).length:Int)),(43,.int .i64 (j:Int))])
   (λj w'=>j<=(vars i).length/\w'=w8) (λj=>(vars i).length-j) 0 sB ⟨Nat.zero_le _,rfl⟩ ?_
  rintro j _ ⟨hj,rfl⟩;refine ciR (λh=>?_) (λh=>?_)
  .have lj:j<(vars i).length:=by have:=oT h;omega
   clear h;have ir:=dz _ (getD_mem' 0 (vars i) lj);refine ixR j fk lj ?_;refine ldR (fk.cell (show(Jt (nz (vars i)))[j]?=some (.int .i64 ((vars i).getD j 0:Int)) by simp[Jt,nz,List.getD,List.getElem?_eq_getElem lj])) ?_;refine ρ ?_;refine sl32 (v:=(vars i).getD j 0) om ?_;refine ρ ?_;have i6:Gz 0 ((vars i).take j)<4294967296:=nM (Jzv (l:=(vars i).take j) λv hv=>dz v (List.mem_of_mem_take hv)) (Jxw bq);rw[Jjp i6 (Ko om),<-Qvg,<-Qr 0 lj];refine ρ ?_;exact Qm (j+1) sO ⟨lj,rfl⟩ om
  have gy:j=(vars i).length:=by have:=oF h;omega
  clear h;rw[gy,List.take_length];have cy:=bz.ext ax;refine ldR (cy.at (i:=1) rfl) ?_;refine Qb (Xyd _) ?_;intro w9 b9 ca j4 i3;have dt:=ah.trans (ax.trans ca);refine ρ ?_;refine apb (m':=1) (news:=[.int .u32 (Gz 0 (vars i):Int)]) EU32s (Jk c6 (ax.trans ca)) (i3.rd (n:=1) rfl) (by simp[Value.oneCell']) (by unfold maxLen;omega) om dt.size ?_;intro ip b7 cm e5 ic;have au:Blk b7 b6 151 [.int .i64 (n:Int),.slice EA i ec]:=(cy.ext ca).grown e5 ((cy.ext ca).ne_own (Jk c6 (ax.trans ca)) rfl);obtain⟨dq,dk,rfl,_,ih⟩:=Jb cm;refine Xo (au.at (i:=1) rfl) (au.frozen 1) ?_;obtain⟨a4,bp⟩:∃ a4,a4=b7.setCell ⟨b6,1,none⟩ (.slice dq (i+1) dk):=⟨_,rfl⟩;rw[show b7.setCell ((⟨b6,0,none⟩:Addr).add 1) (.slice dq (i+1) dk)=a4 from bp.symm];have br:GrN (λk=>k=b6) b7 a4:=by rw[bp];exact GrN.set _ rfl
  have f5:Blk a4 b6 151 [.int .i64 (n:Int),.slice dq (i+1) dk]:=by rw[bp];exact au.set 1 _
  clear bp;have el:Ext w3 b7:=Qa dt e5 λg Z=>(h7 g Z).1;refine ρ ?_;refine Jf (i+1) (.slice dq (i+1) dk) sO ⟨li,br.old el λk C=>by rw[C];exact fy,f5,?_⟩ om;have e1:(Zl ts.length vars).take (i+1)=(Zl ts.length vars).take i++[Gz 0 (vars i)]:=by
   rw[Qr 0 (by simp[Zl];exact li)];congr 2
   simp[Zl,List.getD,li];rfl
  rw[e1,Xdc];exact Je cm br λg Z e=>by rw[e]at Z;exact au.ne_own cm rfl Z.symm
 have fp:i=ts.length:=by have:=oF h;omega
 clear h;have aj:=hI.es.1;rw[fp,List.take_of_length_le (by rw[aj];exact nR _)]at c6;rw[fp]at bz fu;have ft:=hI.es.2.2;obtain⟨es,fr⟩:∃ es,es=Zl ts.length vars:=⟨_,rfl⟩;rw[<-fr]at aj ft c6;have hw:GrV w6 EA ec n es:=⟨by rw[aj];exact Rd.own c6,by rw[aj];exact fu,bq,by rw[aj];omega,ft⟩;rw[<-aj]at bz;have d0:=d1.ext ah;have ai:=dw.trans ah;refine Ja bz ?_;refine ldR (d0.at (i:=1) rfl) ?_;refine ldR (d0.at (i:=3) rfl) ?_;refine clR (Xkq (pc:=pc) hw hI.pm (hP.ext ai)) ?_;rintro u w7 ⟨c5,BA,kf,pf,rfl,gw,bj⟩;rw[fr]at bj;refine ρ ?_;have cg:=ai.trans c5;have cz:=d0.ext c5;refine ld (cz.at (i:=0) rfl) ?_;refine ldR (cz.at (i:=4) rfl) ?_;refine ρ ?_;have fo:∀ v,v<n->kf v<4294967296:=λv hv=>(bj v hv).1;have gc:=Rd.own gw;refine cl (Xcb (vars:=vars) (rs:=rs) bq (λv hv=>⟨hI.run,Qcl hI bj hv,λi hi r hr=>List.all_eq_true.2 λu hu=>(hI.ok i hi r hr u hu).1,(hI.cap kf pf bj v hv).2⟩) (hA.ext cg) fz (λp hp=>(fb p hp).ext cg) gc fo (λv hv=>(hI.cap kf pf bj v hv).1)) ?_
 rintro u w8 ⟨bf,va,gl,R,rfl,fl,cx⟩;have a3:=hI.elr bj cx;have eb:=fl.here;have cr:=eb;have ff:=cg.trans bf;obtain⟨RA,rc,iq,rfl,gu,gt,g5,hh⟩:=eb.parts;rw[List.length_map,List.length_range]at gu gt g5 cr ⊢;refine ρ ?_;refine Jo (fun (k:Nat) (st:Int)=>[(1,.pointer (some ⟨b1,0,none⟩)),(2,.pointer (some ⟨b2,0,none⟩)),(12,.slice BA n n),(14,.slice RA n rc),(15,.int .i64 st),(86,.slice RA n rc),(87,.int .i64 (n:Int)),(88,.int .i64 (k:Int))])
  (λk st w'=>k<=n/\Ext w8 w') (λk _=>n-k) 0 gl sB ⟨Nat.zero_le _,Ext.refl _⟩ ?_
 rintro k st w9 ⟨C,a1⟩;refine ciR (λh=>?_) (λh=>?_)
 .have lk:k<n:=by have:=oT h;omega
  clear h;obtain⟨ce,j2,⟨⟨t1,t2,t3⟩,rfl,fa⟩,aq⟩:=hh k (by simpa using lk);simp only[List.getElem_map,List.getElem_range]at fa;obtain⟨⟨QA,qc,d6,fj,fi,er⟩,d5,de⟩:=id fa;simp only at d6 d5;obtain⟨bc,PG,bd,i5,d4,_⟩:=id de;simp only at d4;subst d6;subst d5;subst d4;refine Qp 3 k (g5.ext a1) lk ?_;refine Jh (cs:=[.slice QA (Yu (kf k ||| 2^k) (R k)).vars.length qc,.int .i64 ((Yu (kf k ||| 2^k) (R k)).ar:Int),.slice PG bc.length bd]) (λj u hu=>Ga a1 (aq j u hu)) ?_;refine Jw Yr ?_;intro b7 bb cd h9 i2;refine Qh (cs':=[.slice QA (Yu (kf k ||| 2^k) (R k)).vars.length qc,.int .i64 ((Yu (kf k ||| 2^k) (R k)).ar:Int),.slice PG bc.length bd]) i2 ?_ (Ij rfl);intro a4 f4 br cc;have ap:Ext w9 a4:=cc w9 cd h9;refine Jh (cs:=[.int .i64 ((Yu (kf k ||| 2^k) (R k)).ar:Int),.slice PG bc.length bd]) (λj u hu=>f4.sub (i:=1) (j:=j) (by rw[Nat.add_comm];exact hu)) ?_;refine clR (Jwd (fa.ext (a1.trans ap)).rel) ?_
  rintro u ao ⟨rfl,G⟩;obtain⟨ej,fh⟩:∃ ej:Int,ej=IntKind.i64.wrap (st+((Yu (kf k ||| 2^k) (R k)).rows.length:Int)):=⟨_,rfl⟩;refine ρ ?_;rw[<-fh];refine ρ ?_;exact Jf (k+1) ej sO ⟨lk,(a1.trans ap).trans G⟩ om
 have iy:k=n:=by have:=oF h;omega
 clear h;have a2:=ff.trans a1;have aa:=(cz.ext bf).ext a1;refine Ja aa ?_;refine Xh (Xbk _ _ _ _ _ _ _ _ _ _ _ _ _ _ _ _ _ _) ?_;refine Jw Qfj ?_;intro b7 o cd b3 gg;refine Qg gg ?_;intro a4 dj br cc;have ap:Ext w9 a4:=cc w9 cd b3;have bi:∀ v,v<n->∀ x∈R v,(x.length=(bk (kf v ||| 2^v) 32).length/\FitR x)/\∀ u∈x,Xl u=true:=λv hv x hx=>by
  obtain⟨z,_,rfl,hb⟩:=((cx v hv).2.1 x).1 hx;have:=hI.fit (Qcl hI bj hv) hb;exact⟨⟨Xc _ _,this.1⟩,this.2⟩
 have hF:FixW B0 n f kf pf R (.slice RA n rc) BA w9:=⟨hTB.ext a2,gc.ext (bf.trans a1),cr.ext a1 λcs a h=>Jnw h a1,bq,co,fo,λc O e=>by have:=(a3.chf c c O e).2;omega,λv hv x hx=>(bi v hv x hx).1,λv hv=>(cx v hv).2.2⟩;have fd:Ext a4 a4.drew:=(Ext.refl a4).drew;have bl:=ap.trans fd;have ef:=(aa.ext bl);have f3:=dj.ext fd;have dx:¬ b1=o:=λe=>by have:=aa.lt;omega
 refine ρ ?_;refine drM (λk=>k=o) ?_;refine Un (fuel':=6) [(0,0),(0,1),(0,3),(0,4)] #[true,true,false,true,true,false,false,false,false,false] kr kr rfl ?_;refine ρn ?_;refine nld (Jr (ef.at (i:=0) rfl) dx) ?_;refine ρn ?_;refine nld (Jr (ef.at (i:=0) rfl) dx) ?_;refine ρn ?_;refine Up ?_;refine mcut 2 (lst 10 8) (fun (y:Option Addr×Option Addr)=>[(107,.slice y.2 n n),(1,.pointer (some ⟨b1,0,none⟩)),(2,.pointer (some ⟨b2,0,none⟩)),(12,.slice BA n n),(15,.int .i64 st),(18,.pointer (some ⟨o,0,none⟩))])
  (λy W=>GrN (λk=>k=o) a4.drew W/\Blk W o 159 [.int .i64 (n:Int),.int .i64 (f:Int),.slice DA f dc,.slice PA perm.length pc,.slice AA ts.length ac,.slice BA n n,.slice RA n rc,.slice y.1 n n,.slice none 0 0,.slice none 0 0] /\
   W.ownsRow a4.drew.heap.size 213 1 (.slice y.1 n n) n (List.replicate n (.map none))/\W.ownsRow a4.drew.heap.size 221 1 (.slice y.2 n n) n (List.replicate n (.map none))) ?_ ?_
 rotate_left
 .intro rest;refine Jql 2 5 kr rfl rfl rfl ?_ ?_
  .refine mkn EVm n om (by unfold maxLen;omega) ?_;intro ao VA G a8 _;rw[Gj _ rfl]at a8;refine Jl (Xg (GrN.ext G) ?_);refine Un (fuel':=4) [(0,6)] #[true,true,true,true,true,false,true,false,false,false] kr kr rfl ?_;refine ρn ?_;refine Up ?_;refine Jql 5 7 kr rfl rfl rfl ?_ ?_
   .refine mkn ETm n om (by unfold maxLen;omega) ?_;intro ab TA D a9 _;rw[Gj _ rfl]at a9;refine Jl (Xg (GrN.ext D) ?_);refine Vd 7 kr rfl rfl ?_;have ag:=(f3.ext G).ext D;refine sto (ag.at (i:=7) rfl) (ag.frozen 7) ?_;have a5:GrN (λk=>k=o) ab (ab.setCell ⟨o,7,none⟩ (.slice VA n n)):=GrN.set _ rfl;refine Jl (Xg a5 ?_);refine Gg (listed':=lst 10 8) kr ?_;refine rest (VA,TA) _ _ ⟨(GrN.ext (G.trans D)).trans a5,ag.set 7 _,Je (Jk a8 D) a5 λg Z e=>?_,Je (a9.mono G.size) a5 λg Z e=>?_⟩ sB
    .rw[e]at Z;exact ag.ne_own (Jk a8 D) rfl Z.symm
    rw[e]at Z;exact ag.ne_own a9 rfl Z.symm
   have c7:=f3.ext G;refine sto (c7.at (i:=7) rfl) (c7.frozen 7) ?_;have a5:GrN (λk=>k=o) ao (ao.setCell ⟨o,7,none⟩ (.slice VA n n)):=GrN.set _ rfl;refine Jl (Xg a5 ?_);refine Vd 5 kr rfl rfl ?_;refine mkn ETm n om (by unfold maxLen;omega) ?_;intro ab TA D a9 _;rw[Gj _ rfl]at a9;refine Jl (Xg (GrN.ext D) ?_);refine Gg (listed':=lst 10 8) kr ?_;refine rest (VA,TA) _ _ ⟨((GrN.ext G).trans a5).trans (GrN.ext D),(c7.set 7 _).ext D,Jk (Je a8 a5 λg Z e=>?_) D,a9.mono (nL G.size a5.size)⟩ sB;rw[e]at Z;exact c7.ne_own a8 rfl Z.symm
  refine mkn ETm n om (by unfold maxLen;omega) ?_;intro ao TA G af _;rw[Gj _ rfl]at af;refine Jl (Xg (GrN.ext G) ?_);refine Vd 2 kr rfl rfl ?_;refine mkn EVm n om (by unfold maxLen;omega) ?_;intro ab VA D b5 _;rw[Gj _ rfl]at b5;refine Jl (Xg (GrN.ext D) ?_);refine Un (fuel':=3) [(0,6)] (lst 10 7) kr kr rfl ?_;refine ρn ?_;refine Up ?_;refine Vd 7 kr rfl rfl ?_;have ag:=(f3.ext G).ext D;refine sto (ag.at (i:=7) rfl) (ag.frozen 7) ?_;have a5:GrN (λk=>k=o) ab (ab.setCell ⟨o,7,none⟩ (.slice VA n n)):=GrN.set _ rfl;refine Jl (Xg a5 ?_);refine Gg (listed':=lst 10 8) kr ?_;refine rest (VA,TA) _ _ ⟨(GrN.ext (G.trans D)).trans a5,ag.set 7 _,Je (b5.mono G.size) a5 λg Z e=>?_,Je (Jk af D) a5 λg Z e=>?_⟩ sB
  .rw[e]at Z;exact ag.ne_own b5 rfl Z.symm
  rw[e]at Z;exact ag.ne_own (Jk af D) rfl Z.symm
 rintro⟨VA,TA⟩ ao ⟨df,an,a8,af⟩;simp only at an a8 af;refine Un (fuel':=1) [(0,8)] (lst 10 9) kr kr rfl ?_;refine ρn ?_;refine Up ?_;refine Vd 9 kr rfl rfl ?_;refine sto (an.at (i:=8) rfl) (an.frozen 8) ?_;have az:GrN (λk=>k=o) ao (ao.setCell ⟨o,8,none⟩ (.slice TA n n)):=GrN.set _ rfl;refine Jl (Xg az ?_);refine Jwv kr ?_;obtain⟨ab,bo⟩:∃ ab,ab=ao.setCell ⟨o,8,none⟩ (.slice TA n n):=⟨_,rfl⟩;have f8:Blk ab o 159 [.int .i64 (n:Int),.int .i64 (f:Int),.slice DA f dc,.slice PA perm.length pc,.slice AA ts.length ac,.slice BA n n,.slice RA n rc,.slice VA n n,.slice TA n n,.slice none 0 0]:=by rw[bo];exact an.set 8 _
 rw[<-bo]at az;rw[show ao.setCell ((⟨o,0,none⟩:Addr).add 8) (.slice (VA,TA).2 n n)=ab from bo.symm];clear bo;have b5:=Je a8 az λg Z e=>by rw[e]at Z;exact an.ne_own a8 rfl Z.symm
 have a9:=Je af az λg Z e=>by rw[e]at Z;exact an.ne_own af rfl Z.symm
 have be:Ext w9 ab:=az.old (df.old bl λk C=>by rw[C];exact b3) λk C=>by rw[C];exact b3
 refine ldR ((aa.ext be).at (i:=1) rfl) ?_;refine ρ ?_;refine mkn EBks f om (by unfold maxLen;omega) ?_;intro d7 KA bm ea _;rw[Gj _ rfl]at ea;refine ρ ?_;have c4:=f8.ext bm;refine sto (c4.at (i:=9) rfl) (c4.frozen 9) ?_;obtain⟨aw,bn⟩:∃ aw,aw=d7.setCell ⟨o,9,none⟩ (.slice KA f f):=⟨_,rfl⟩;have e4:GrN (λk=>k=o) d7 aw:=by rw[bn];exact GrN.set _ rfl
 have gh:Blk aw o 159 (bCs n f (.slice DA f dc) (.slice PA perm.length pc) (.slice AA ts.length ac) BA n (.slice RA n rc) VA n TA n (.slice KA f f)):=by rw[bn];exact c4.set 9 _
 rw[show d7.setCell ((⟨o,0,none⟩:Addr).add 9) (.slice KA f f)=aw from bn.symm];clear bn;have bg:∀ {t:Nat} {v:Value} {xs:List Value} {b m:Nat},d7.ownsRow b t 1 v m xs->Nat.beq t 159=false->aw.ownsRow b t 1 v m xs:=λho gx=>Je ho e4 λg Z e=>by rw[e]at Z;exact c4.ne_own ho gx Z.symm
 have c9:Ext w9 aw:=e4.old (be.trans bm) λk C=>by rw[C];exact b3
 have g3:=bg ((Jk b5 bm).mono bl.size) rfl;have g4:=bg ((Jk a9 bm).mono bl.size) rfl;have g7:=bg (ea.mono be.size) rfl;have g0:BldW w9 o n (bCs n f (.slice DA f dc) (.slice PA perm.length pc) (.slice AA ts.length ac) BA n (.slice RA n rc) VA n TA n (.slice KA f f)) VA n TA n aw (List.replicate n (.map none)) (List.replicate n (.map none)):=⟨c9,gh,g3,g4⟩;obtain⟨T,hT⟩:∃ T,T=TV n f kf pf R ds (plO perm f):=⟨_,rfl⟩;have f2:∀ c,f<=c->∀ k,T c k<=1:=λc O k=>by rw[hT];exact Jpf a3.chf c O k
 have f0:∀ c k,T c k<=4294967296^20:=λc k=>by rw[hT];exact a3.big c k
 have f7:=aa.ext c9;refine ldR (f7.at (i:=3) rfl) ?_;have j6:(Value.slice KA f f)=Value.slice KA f f:=rfl;obtain⟨AR,fc⟩:∃ AR:Nat->Prop,AR=λk=>ARk n f VA n TA n (.slice KA f f) k∨k=b2∨k<w.heap.size:=⟨_,rfl⟩;have d3:∀ k,ARk n f VA n TA n (.slice KA f f) k->AR k:=λk C=>by rw[fc];exact .inl C
 have e6:b2<w9.heap.size:=nM gf.lt (d9.trans (ah.trans (c5.trans (bf.trans a1)))).size;have d2:∀(W:World) (va ta ba:List Value),Ext w9 W->W.ownsRow w9.heap.size 213 1 (.slice VA n n) n va->W.ownsRow w9.heap.size 221 1 (.slice TA n n) n ta->W.ownsRow w9.heap.size 72 1 (.slice KA f f) f ba->∀ k,AR k->k<W.heap.size:=λW va ta ba fe hv ht hb k C=>by
  rw[fc]at C;rcases C with(C|C|C)|C|C
  .exact((Jb hv).choose_spec.choose_spec.2.2 k C).2
  .exact((Jb ht).choose_spec.choose_spec.2.2 k C).2
  .exact((Jb hb).choose_spec.choose_spec.2.2 k C).2
  .rw[C];exact nM e6 fe.size
  exact nM C (a2.trans fe).size
 have lV:∀ {W:World} {xs:List Value},W.ownsRow w9.heap.size 213 1 (.slice VA n n) n xs->∀ g,(Value.slice VA n n).ownBlock=some g->w9.heap.size<=g/\g<W.heap.size:=λho=>(Jb ho).choose_spec.choose_spec.2.2;have gi:∀ k,(Value.slice VA n n).ownBlock=some k->AR k:=λk C=>d3 k (.inl C);refine ρ ?_;refine Jo (fun (i:Nat) (va:List Value)=>[(1,.pointer (some ⟨b1,0,none⟩)),(2,.pointer (some ⟨b2,0,none⟩)),(12,.slice BA n n),(15,.int .i64 st),(18,.pointer (some ⟨o,0,none⟩)),(115,.slice PA perm.length pc),(116,.int .i64 (perm.length:Int)),(117,.int .i64 (i:Int))])
  (λi va w'=>i<=perm.length/\BldW w9 o n (bCs n f (.slice DA f dc) (.slice PA perm.length pc) (.slice AA ts.length ac) BA n (.slice RA n rc) VA n TA n (.slice KA f f)) VA n TA n w' va (List.replicate n (.map none)) /\
   w'.ownsRow w9.heap.size 72 1 (.slice KA f f) f (List.replicate f (.slice none 0 0))/\∀ c,c<n->plO perm f c<i->f<=c->DnV AR (T c) w' (va.getD c (.map none))) (λi _=>perm.length-i) 0 _ sB
  ⟨Nat.zero_le _,g0,g7,λc O h=>om⟩ ?_
 rintro i va ei ⟨hi,a7,bs,dg⟩;have e9:Rd ei 1 PA perm.length (Jt (nz perm)):=hP.ext (a2.trans a7.ext);refine ciR (λh=>?_) (λh=>?_)
 .have li:i<perm.length:=by have:=oT h;omega
  clear h;obtain⟨v,hv⟩:∃ v,v=perm.getD i 0:=⟨_,rfl⟩;have db:=hI.pm.rng v (by rw[hv];exact getD_mem' 0 perm li);have ia:plO perm f v=i:=by rw[hv];exact hI.pm.plPerm li
  refine ixR i e9 li ?_;refine ldR (e9.cell (show(Jt (nz perm))[i]?=some (.int .i64 (v:Int)) by rw[hv];simp[Jt,nz,List.getD,List.getElem?_eq_getElem li])) ?_;refine clR (Qpg (AR:=AR) hF a7 db.2 (λc O hp hf=>?_) (λc O hp hf=>?_) f2 f0 d3 (d2 _ _ _ _ a7.ext a7.va a7.ta bs)) ?_
  .have:=(a3.chf c v O hp).2;exact dg c O om hf
  .have h1:=(a3.chf c v O hp).2;have h2:=hI.pm.plLow hf db.1 db.2;omega
  rintro u c8 ⟨rfl,mv,J,e3,gb⟩;have eu:GrN AR ei c8:=e3.mono λk _ C=>gi k C;have ak:=Je bs e3 λg Z e=>by
   have h1:=a7.va;rcases h1.2 with⟨h2,_⟩|⟨g1,c1,cu1,h2,_,h3,_⟩
   .rw[h2]at e;simp[Value.ownBlock]at e
   rcases bs.2 with⟨h4,_⟩|⟨g2,c2,cu2,h4,_,h5,_⟩
   .rw[h4]at Z;simp[Value.ownBlock]at Z
   rw[h2]at e;rw[h4]at Z;simp only[Value.ownBlock,Option.some.injEq]at e Z;subst e;subst Z;rw[h3]at h5;injection h5 with h5
   injection h5 with _ h6
   exact absurd h6 (by decide)
  refine ρ ?_;refine Jf (i+1) (va.set v mv) sO ⟨li,J,ak,λc O ib hf=>?_⟩ om;have i8:va.length=n:=by have:=a7.va.1;omega
  by_cases e:c=v
  .subst e;rw[getD_set' (.map none) va c c mv om,if_pos rfl,hT,Jyj a3.chf O hf,<-hT];exact gb
  rw[getD_set' (.map none) va v c mv om,if_neg e];refine(dg c O ?_ hf).gr eu;rcases Nat.lt_or_ge (plO perm f c) i with h'|h'
  .exact h'
  exact absurd (hI.pm.inj O db.2 om) e
 have ig:i=perm.length:=by have:=oF h;omega
 clear h;have am:∀ c,c<n->f<=c->DnV AR (T c) ei (va.getD c (.map none)):=λc O hf=>dg c O (by
  have hm:c∈perm:=by
   rcases List.mem_append.1 (hI.pm.omem.2 O) with h1|h1
   .exact h1
   have:=List.mem_range.1 (List.mem_reverse.1 h1);omega
  obtain⟨j,hj,e⟩:=List.getElem_of_mem hm;have:=hI.pm.plPerm hj;rw[Qd 0 _ hj,e]at this;omega) hf
 have di:=aa.ext a7.ext;refine ldR (di.at (i:=1) rfl) ?_;refine ρ ?_;refine Zj (fun (i:Nat) (ta ba:List Value)=>[(1,.pointer (some ⟨b1,0,none⟩)),(2,.pointer (some ⟨b2,0,none⟩)),(12,.slice BA n n),(15,.int .i64 st),(18,.pointer (some ⟨o,0,none⟩)),(125,.int .i64 (f:Int)),(126,.int .i64 (i:Int))])
  (λi ta ba w'=>i<=f/\BldW w9 o n (bCs n f (.slice DA f dc) (.slice PA perm.length pc) (.slice AA ts.length ac) BA n (.slice RA n rc) VA n TA n (.slice KA f f)) VA n TA n w' va ta /\
   w'.ownsRow w9.heap.size 72 1 (.slice KA f f) f ba/\(∀ c,c<n->f<=c->DnV AR (T c) w' (va.getD c (.map none))) /\
   ∀ c,c<f->f-i<=c->DnT AR (T c) w' (ta.getD c (.map none))/\DnB AR (ds.getD c false) w' (ba.getD c (.slice none 0 0)) (BBo n f kf pf R ds (plO perm f) c)) (λi _ _=>f-i) 0 _ _ sB
  ⟨Nat.zero_le _,a7,bs,am,λc O h=>om⟩ ?_
 clear dg am;rintro i ta ba c8 ⟨hi,J,ak,am,bw⟩;have c3:=aa.ext J.ext;refine ciR (λh=>?_) (λh=>?_)
 .have li:i<f:=by have:=oT h;omega
  clear h;obtain⟨v,hv⟩:∃ v,v=f-1-i:=⟨_,rfl⟩;have ch:v<f:=om
  have gq:v<n:=om
  refine ldR (c3.at (i:=1) rfl) ?_;refine ρ ?_;refine Go.Wk.kv 133 (show Value.int .i64 ((f:Int)-1-(i:Int))=.int .i64 (v:Int) by congr 1;omega) ?_;refine cl (Xzp (v:=v) (AR:=AR) hF fw (Rd.ext hD a2) J ak ch (by rw[(a3.lastC ch).2];omega) (λx hx=>?_) (a3.rlt ch) (λc O hp hf=>am c O hf) (λc O hp hf=>?_) f2 f0 d3 (d2 _ _ _ _ J.ext J.va J.ta ak)) ?_
  .have h1:=bi v gq x hx;refine h1.2 _ (getD_mem' V0 x ?_);rw[h1.1.1,(a3.lastC ch).2];omega
  .have h1:=(a3.chf c v O hp).2;have h2:plO perm f c<plO perm f v:=h1;rw[hI.pm.plFree hf,hI.pm.plFree ch]at h2;exact(bw c hf om).1
  rintro u eh ⟨rfl,mv,lv,b4,cq,cn,g9,ga⟩;have eB:Yz (ds.getD v false) (λx=>wtL T x (chK kf pf v n)) ((bk (kf v ||| 2^v) 32).length-1) (R v)=BBo n f kf pf R ds (plO perm f) v:=by rw[hT];rfl
  rw[eB]at g9 ga;have i9:ta.length=n:=by have:=J.ta.1;omega
  have ii:ba.length=f:=by have:=ak.1;omega
  refine ρ ?_;refine Qe (i+1) (ta.set v mv) (ba.set v lv) sO ⟨li,b4,cq,λc O hf=>(am c O hf).gr cn,λc O j3=>?_⟩ om;by_cases e:c=v
  .subst e;rw[getD_set' (.map none) ta c c mv om,if_pos rfl,getD_set' (.slice none 0 0) ba c c lv om,if_pos rfl];refine⟨?_,ga⟩;rw[hT,Jff a3.chf co O];exact g9
  rw[getD_set' (.map none) ta v c mv om,if_neg e,getD_set' (.slice none 0 0) ba v c lv om,if_neg e];have:=bw c O om;exact⟨this.1.gr cn,this.2.gr cn⟩
 have iz:i=f:=by have:=oF h;omega
 clear h;have ep:∀ c,c<n->pf c = -1->f<=c->∀ k,0<T c k->k=[]:=λc O hp hf k C=>by
  rw[hT,Jyj a3.chf O hf,redT_pos]at C;obtain⟨x,_,_,e⟩:=C;have h1:∀ u,(kf c).testBit u=false:=by
   rcases a3.par O with⟨_,h1⟩|⟨p,h1,_⟩
   .exact h1
   rw[h1]at hp;omega
  have h2:Vq kf c=[]:=by
   unfold Vq Xw;refine List.filter_eq_nil_iff.2 λu _ hu=>?_;rw[h1]at hu;cases hu
  rw[h2]at e;exact e.symm
 have cv:∀ c,c<f->DnT AR (T c) c8 (ta.getD c (.map none))/\DnB AR (ds.getD c false) c8 (ba.getD c (.slice none 0 0)) (BBo n f kf pf R ds (plO perm f) c):=λc O=>bw c O om;clear bw;refine clR (Qlg (AR:=AR) hF J (Xch (hA.ext a2) fz om λp hp=>(fb p hp).ext a2) (λc O=>?_) (λc O hf=>am c O hf) (λc O hf=>(cv c hf).1) ep f2 f0) ?_
 .rcases a3.par O with⟨h1,_⟩|⟨p,h1,_⟩
  .exact .inl h1
  exact .inr ⟨p,h1⟩
 rintro u eh ⟨eo,gz,ay⟩;have ew:b2<c8.heap.size:=nM e6 J.ext.size;obtain⟨tot,ck⟩:∃ tot,tot=Vo n pf T (ts.map (·.2)):=⟨_,rfl⟩
 rw[<-ck]at eo;rw[hT]at ck;obtain⟨dm,d8,rfl,cj⟩:=Jlm eo;have fg:NatX (λk=>k=b2∨k<w.heap.size) eh (.slice dm (Jq tot).length d8) tot:=gz.x eo λk C=>by
  rcases C with C|C
  .rw[C];exact ew
  exact nM C (a2.trans J.ext).size
 have b4:=J.ext' ay;have cq:=Jk ak ay;refine ρ ?_;refine Zc (fun (y:Option Addr×List Value)=>[(1,.pointer (some ⟨b1,0,none⟩)),(2,.pointer (some ⟨b2,0,none⟩)),(12,.slice BA n n),(15,.int .i64 st),(18,.pointer (some ⟨o,0,none⟩)),(23,.slice dm (Jq tot).length d8)])
  (λy w'=>Ext w9 w'/\Blk w' o 159 (bCs n f (.slice DA f dc) (.slice PA perm.length pc) (.slice AA ts.length ac) BA n (.slice RA n rc) VA n TA n (.slice y.1 f f))/\Rd w' 1 y.1 f y.2/\NatX (λk=>k=b2∨k<w.heap.size) w' (.slice dm (Jq tot).length d8) tot /\
   ∀ c,c<f->DnB AR (ds.getD c false) w' (y.2.getD c (.slice none 0 0)) (if tot=0 then[] else BBo n f kf pf R ds (plO perm f) c)) ?_ ?_
 .refine ci (λh=>?_) (λh=>?_)
  .have h0:tot=0:=by
    have:=Zv h;rcases Nat.eq_zero_or_pos tot with h'|h'
    .exact h'
    have:=cj.2 h';omega
   clear h;have dh:=c3.ext ay;refine ldR (dh.at (i:=1) rfl) ?_;refine ρ ?_;refine mkn EBks f om (by unfold maxLen;omega) ?_;intro av dn dv cp _;rw[Gj _ rfl]at cp;refine ρ ?_;have a6:=b4.blk.ext dv;refine sto (a6.at (i:=9) rfl) (a6.frozen 9) ?_;have e2:GrN (λk=>k=o) av (av.setCell ⟨o,9,none⟩ (.slice dn f f)):=GrN.set _ rfl;have et:Ext eh (av.setCell ⟨o,9,none⟩ (.slice dn f f))∨True:=.inr trivial;clear et;refine ρ ?_;refine Jc (dn,List.replicate f (.slice none 0 0)) sB ⟨e2.old ((J.ext.trans ay).trans dv) λk C=>by rw[C];exact b3,a6.set 9 _,Rd.own (Je cp e2 λg Z e=>by rw[e]at Z;exact a6.ne_own cp rfl Z.symm),?_,λc O=>?_⟩
   .have e0:(Jq tot).length=0:=by rw[h0,limbs_0];rfl
    rw[e0,h0];exact⟨⟨dm,d8,by rw[limbs_0];rfl,by rw[limbs_0];simp,by rw[limbs_0];simp,by rw[limbs_0];exact Rd.nil⟩,λh=>absurd rfl h⟩
   rw[if_pos h0];have:(List.replicate f (Value.slice none 0 0)).getD c (.slice none 0 0)=.slice none 0 0:=by simp[List.getD,O]
   rw[this];exact DnB.nil _ _ _
  have h0:¬ tot=0:=λe=>by
   have h1:=Zz h;have h2:¬ 0<(Jq tot).length:=λh'=>by have:=cj.1 h';omega
   omega
  clear h;refine ρ ?_;refine Jc (KA,ba) sB ⟨b4.ext,b4.blk,Rd.own cq,fg,λc O=>?_⟩;rw[if_neg h0];exact(cv c O).2.ext ay
 rintro⟨dn,j7⟩ av ⟨ek,a6,e8,en,cw⟩;simp only at a6 e8 cw;have ad:Ext av av.drew:=(Ext.refl av).drew;have ae:=ek.trans ad;have ee:=aa.ext ae;have i1:=a6.ext ad;have e7:¬ b1=b2:=λe=>by have:=f9.lt;omega
 have ey:¬ o=b2:=λe=>by omega
 have ed:=((gf.ext (d9.trans (ah.trans (c5.trans (bf.trans a1))))).ext ae);refine ρ ?_;refine drM (λk=>k=b2) ?_;refine Un (fuel':=0) [(0,0),(0,1),(0,2),(0,3),(0,4),(0,5),(0,6),(0,7),(0,8),(0,10),(1,9),(1,11),(0,12),(0,13)] (lst 14 14) kr kr rfl ?_;refine ρn ?_;refine nld (Jr (ee.at (i:=2) rfl) e7) ?_;refine ρn ?_;refine nld (Jr (ee.at (i:=1) rfl) e7) ?_;refine ρn ?_;refine nslh f ?_ co;refine ρn ?_;refine nld (Jr (i1.at (i:=9) rfl) ey) ?_;refine ρn ?_;have i0:Rd av.drew 3 BA f (Qy f (Xq kf pf)):=by
  have h1:=(hF.bags.ext ae).take co;rw[Xzw (sz:=3) (g:=Xq kf pf) (λ_ _=>rfl) co]at h1;exact h1
 refine nop ?_;refine cl (Xck (M:=λk=>k=b2∨k<w.heap.size) (hTB.ext (a2.trans ae)) fw om (Rd.ext hD (a2.trans ae)) i0 (e8.ext ad) (λu hu=>((cw u hu).old λk C=>.inl (by rw[fc];exact .inr C)).ext ad) (en.ext ad) (λk C=>by
  rcases C with C|C
  .rw[C];exact ed.lt
  exact nM C (a2.trans ae).size) (λu hu b hb=>?_) (λu hu=>?_)) ?_
 .split at hb
  .cases hb
  obtain⟨y,hy,e1,_⟩:=entL_ne.1 ((Jym a3 hu).con b hb).2;have h1:=(bi u om y hy).1.2;rw[<-e1];exact⟨by have:=h1.1;rw[List.length_take];omega,λz hz=>h1.2 z (List.mem_of_mem_take hz)⟩
 .split
  .exact List.Pairwise.nil
  exact(Jym a3 hu).lt
 rintro xi gk ⟨g6,hl,cb⟩;obtain⟨xD,ik,xB,io,xK,im,xP,il,xt,_,_,rfl,_,_,_,_,_,_,⟨xT,ij,rfl,_⟩,_⟩:=hl.ex;refine ρ ?_;refine Ju (GrN.ext cb) ?_;refine ρn ?_;refine nop ?_;refine stW (ed.ext cb) ?_;intro gj f6 fq i7;have bh:GrN (λk=>k=b2) gk gj:=GrN.by fq λk C=>by injection C with C;exact C.symm
 refine ρ ?_;refine Ju bh ?_;refine ρn ?_;refine Up ?_;refine Jwv kr ?_;refine ρ ?_;refine Jqs f6 ⟨bh.old ((a2.trans ae).trans cb) λk C=>by rw[C];exact nL em.size hg,_,st,kf,pf,R,rfl,a3,?_⟩;rw[<-ck];exact(g6.gr (bh.mono λk _ C=>.inl C)).mono λk _ C=>.inr C
end Go.Proofs.YtgobkbeokaaplaaGreatDoor
namespace Go.Wk
open Go.RowKit Maps
variable {d n ty:Nat}
theorem dmlo{P:Program}{al:AL}{w:World}{Q:Exit->Act->World->Prop}{ops:Array Oper}{drest:List (Nat×Oper)}{pos:String}{aft:Array Edge}{tt:TT}[hT:Tab P tt]{t k e b m:Nat}{kd:TK}{f:Lit->Option Value}{x y:Operand}{key z:Value}{kl:Lit}(K:Keyed P k)(hM:MapS P k w b m f)(hz:Qu P e=some z)(hkey:keyOf P k key=some kl)(kk:WD P n ops Q drest ((d,.tuple #[(f kl).getD z,.bool (f kl).isSome])::al) w)(ht:tk tt t=some kd:=by rfl)(hk:kd.desc=.map k e:=by rfl)(hx:ev al x=some (.map (some b)):=by rfl)(hy:ev al y=some key:=by rfl)(hd:Nat.blt d n=true:=by rfl):
  WD P n ops Q ((0,⟨some d,.lookup t x y true,ty,pos,aft,none⟩)::drest) al w :=
 dy (λw' j a i=>by
  have:=((hM.ext j).look K (Yc hT.ok ht hk rfl) (Jgt hz w') hkey).1;simp[execOp,i.ev hx,i.ev hy,this]) hd kk
end Go.Wk
namespace Go.Proofs.YtgobkbeokaaplaaGreatDoor
open Go.RowKit Pl Go.Wk
attribute [local irreducible] WC WL QX WD WDB WP WN WG
variable {B0 c v:Nat}{A:Option Addr}{k y:Row}
def trK(bs:List BkT)(k:Row): Tr:=match bs.find? λb=>decide (b.1=k) with
 | some b=>b.2
 | none=>.nil
theorem Jgb(bs:List BkT)(k:Row): (trK bs k).toL=entK bs k:=by
 unfold trK entK;cases bs.find? λb=>decide (b.1=k)<;>rfl
theorem Qkx: ∀ {bs:List BkT} {k:Row} {i:Nat},Zo bs k=some i->∃ b,bs[i]?=some b/\trK bs k=b.2/\b∈bs
 | [],_,_,h=>by simp[Zo]at h
 | b::bs,k,i,h=>by
  unfold Zo at h;rw[List.findIdx?_cons]at h;by_cases e:b.1=k
  .grind [Option.some.injEq,trK,List.mem_cons_self]
  simp only[e,decide_false]at h;obtain⟨j,hj,rfl⟩:=Option.map_eq_some_iff.1 h;obtain⟨b',h1,h2,h3⟩:=Qkx (bs:=bs) (k:=k) hj;grind [trK,List.mem_cons_of_mem]
theorem Jmj{bs:List BkT}(h:Zo bs k=none): trK bs k=.nil:=by grind [Zo,List.findIdx?_eq_none_iff,List.find?_eq_none.2,trK]
theorem Qcc{s u:Nat}(h:s<2^u): ∀ k,u<=k->bk s k=bk s u
 | 0,hk=>by(have:u=0:=by omega);(rw[this])
 | k+1,hk=>by
  by_cases e:u=k+1
  .rw[e]
  rw[Ge,Qcc h k om];grind [Nat.testBit_lt_two_pow,Nat.lt_of_lt_of_le,Nat.pow_le_pow_right]
theorem Jdq(v:V)(w:World): (Instr.buildSlice 59 1 #[(0,v.val)]).run Tryz.prog w=.ok (.slice (some ⟨w.heap.size,0,none⟩) 1 1) (w.alloc (.cells v.cells.toArray 147)):=kr
section
variable {w:World} {x:Value} {f:Nat} {ds:List Bool} {kf:Nat->Nat} {pf:Nat->Int} {BB:Nat->List BkT} {tot:Nat}
theorem Jcw(h:IxV w x f ds kf pf BB tot): Ret Tryz.prog 65 [x] w λu w'=>u=.int .i64 (f:Int)/\Ext w w':=by
 obtain⟨DA,dc,BA,cb,KA,ck,PA,cp,tv,G,D,rfl,J,O,hD,hB,hK,hP,o,hv⟩:=h.ex;obtain⟨TA,tc,rfl,_⟩:=id o;refine enE Tryz.func65 Tryz.ntmps65 ?_;refine bxR ?_;intro Z b j hb C;refine ldR (C.at (i:=0) rfl) ?_;refine ρ ?_;exact Jj ⟨rfl,j⟩
theorem Qkh(h:IxV w x f ds kf pf BB tot)(hv:v<f): Ret Tryz.prog 79 [x,.int .i64 (v:Int)] w λu w'=>u=.bool true/\Ext w w':=by
 obtain⟨DA,dc,BA,cb,KA,ck,PA,cp,tv,G,D,rfl,O,Z,hD,hB,hK,hP,o,J⟩:=h.ex;obtain⟨TA,tc,rfl,_⟩:=id o;refine enE Tryz.func79 Tryz.ntmps79 ?_;refine bxR ?_;intro w1 b j hb C;refine ktR 7 ?_ ?_
 .grind
 refine ldR (C.at (i:=0) rfl) ?_;refine ρ ?_;refine Jj ⟨?_,j⟩;grind
theorem Jmb(h:IxV w x f ds kf pf BB tot)(hn:Nb tot): Ret Tryz.prog 29 [x] w λu w'=>NatV w' u tot/\Fresh w u/\Ext w w':=by
 obtain⟨DA,dc,BA,cb,KA,ck,PA,cp,tv,O,J,rfl,Z,a1,hD,hB,hK,hP,o,hv⟩:=h.ex;obtain⟨TA,tc,rfl,_⟩:=id o;refine enE Tryz.func29 Tryz.ntmps29 ?_;refine bxR ?_;intro w1 b j hb G;refine ldR (G.at (i:=4) rfl) ?_;refine clR (Jws (o.ext j) hn.len) ?_;rintro u w2 ⟨h2,D,C⟩;refine ρ ?_;exact Jj ⟨h2,λad m c e=>nL j.size (D ad m c e),j.trans C⟩
theorem Xxd(h:IxV w x f ds kf pf BB tot): Ret Tryz.prog 147 [x] w λu w'=>(∃ A c,u=.slice A f c/\f<=c/\Rd w' 3 A f (Qy f (Xq kf pf))/\∀ ad,A=some ad->w.heap.size<=ad.block)/\Ext w w':=by
 obtain⟨DA,dc,BA,cb,KA,ck,PA,cp,tv,a1,Z,rfl,a2,a3,hD,hB,hK,hP,C,hv⟩:=h.ex;obtain⟨TA,tc,rfl,_⟩:=id C;have f32:=h.f32;refine enE Tryz.func147 Tryz.ntmps147 ?_;refine bxR ?_;intro w1 b j hb O;refine ldR (O.at (i:=1) rfl) ?_;refine clR (Qbc (hB.ext j) (Qwr _ _ _) om) ?_;rintro _ w2 ⟨⟨A2,c2,rfl,G,J,D⟩,o⟩;refine ρ ?_;exact Jj ⟨⟨A2,c2,rfl,G,J,λad e=>nL j.size (D ad e)⟩,j.trans o⟩
theorem zIntv: Qu Tryz.prog 3=some (.int .i64 0):=kr
theorem Xyq(w:World): (Instr.build 76 #[]).run Tryz.prog w=.ok (.agg #[.bool false,.pointer none]) w:=kr
theorem Qkl{w0:World}(hTB:TB B0 w)(h0:Ext w0 w)(h:IxV w0 x f ds kf pf BB tot)(hv:v<f)(hk:RdR w A k)(hfit:FitR k):
  Ret Tryz.prog 117 [x,.int .i64 (v:Int),.slice A k.length c] w λu w'=>∃ d p,u=.tuple #[.agg #[.bool d,.pointer p],.bool (Zo (BB v) k).isSome]/\TrV (λ_=>False) w0 (trK (BB v) k) (.pointer p)/\((Zo (BB v) k).isSome=true->d=ds.getD v false)/\Ext w w':=by
 obtain⟨DA,dc,BA,cb,KA,ck,PA,cp,tv,a8,aj,rfl,b4,b5,hD,hB,hK,hP,ao,an⟩:=id h.ex;obtain⟨TA,tc,rfl,_⟩:=id ao;obtain⟨av,mb,m,fm,b9,hm,⟨hM,_⟩,au⟩:=an v hv;have aq:aj[v]?=some (.map (some mb)):=by grind
 have ac:a8[v]?=some (a8.getD v (.slice none 0 0)):=by
  have:=hK.len;grind
 refine enE Tryz.func117 Tryz.ntmps117 ?_;refine bxR ?_;intro w1 b Z hb ag;refine Jw Kx ?_;intro w2 b6 O ad aw;refine Ja (ag.ext O) ?_;refine clR (Qkh (h.ext (h0.trans (Z.trans O))) hv) ?_;rintro _ w3 ⟨rfl,a5⟩;have ab:=(Z.trans O).trans a5;have a3:Ext w3 w3.drew:=(Ext.refl w3).drew;have C:=ab.trans a3;have a1:=h0.trans C;have ah:=((ag.ext O).ext a5).ext a3;refine drR (scq 13 [6]) ?_;refine Jz (ah.at (i:=3) rfl) ?_;refine Jd v (hP.ext a1) hv ?_;refine Jz ((hP.ext a1).cell aq) ?_;refine Qq (Jzn (r:=k) (hTB.ext C) (hk.ext C) (λu hu=>(hfit.2 u hu).1) (by have:=hfit.len;omega) (by have:=hfit.1;omega)) ?_;rintro _ w4 ⟨rfl,J⟩;refine⟨J,?_⟩;have D:=C.trans J;have o:=h0.trans D;refine ρd ?_;refine dmlo KS (hM.ext o) zIntv (Kw hfit) ?_;rw[au];have a2:=((aw.ext a5).ext a3).ext J;cases hix:Zo (BB v) k with
 | none=>
  refine ρd ?_;refine Xh (Xyq _) ?_;refine Qg a2 ?_;intro w5 G ar a4;refine ρ ?_;refine Zk G ⟨false,none,rfl,?_,(λh=>by cases h),a4 w D (nL Z.size ad)⟩;rw[Jmj hix];rfl
 | some i=>
  obtain⟨bt,a7,ap,b7⟩:=Qkx hix;obtain⟨ps,GA,gc,ai,ay,b3,az,af,b8,ae⟩:=av;have li:i<ps.length:=by have:=(List.getElem?_eq_some_iff.1 a7).1;rw[ai,List.length_map]at this;exact this
  obtain⟨z,hz⟩:∃ z,z=ps[i]:=⟨_,rfl⟩;have ak:z∈ps:=by rw[hz];exact List.getElem_mem li
  have am:z.2=bt:=by
   rw[ai,List.getElem?_map,List.getElem?_eq_getElem li,<-hz]at a7;simpa using a7
  obtain⟨b2,kv,zq,ax,b1,a9⟩:=ae z ak;obtain⟨zp,rfl⟩:=a9.ptr;have a6:∀ j u,([.bool (ds.getD v false),.pointer zp]:List Value)[j]?=some u->w4.cell? (((adr GA (i*3)).add 1).add j)=some u:=λj u hu=>by
   have hj:j<2:=(List.getElem?_eq_some_iff.1 hu).1;rw[Xv,Xv,Nat.add_assoc];refine(af.ext o).cell ?_;rw[Jjj (p:=z) (λp hp=>(ae p hp).1) (by rw[hz];exact gE li) om,ax,Nat.add_comm];exact hu
  rw[ay]at ac;refine ρd ?_;refine ldR ((ah.ext J).at (i:=2) rfl) ?_;refine ixR v (hK.ext o) hv ?_;refine ldR ((hK.ext o).cell ac) ?_;refine Qp 3 i (af.ext o) li ?_;refine Jh (cs:=[.bool (ds.getD v false),.pointer zp]) a6 ?_;refine Qg a2 ?_;intro w5 G ar a4;have aa:=a4 w D (nL Z.size ad);refine ρ ?_;refine Zk G ⟨_,zp,rfl,?_,λ_=>rfl,aa⟩;rw[ap,<-am];exact a9
theorem Qkj(h:IxV w x f ds kf pf BB tot)(hv:v<f)(hy:RdR w A y)(hyc:y.length<=c)(hyl:y.length<=32)(hk:kf v<2^y.length):
  Ret Tryz.prog 118 [x,.int .i64 (v:Int),.slice A y.length c] w λu w'=>RowX w' (λk=>k<w.heap.size) u (pmR (bk (kf v) 32) y)/\Ext w w':=by
 obtain⟨DA,dc,BA,cb,KA,ck,PA,cp,tv,ap,ao,rfl,av,aw,hD,hB,hK,hP,ae,aq⟩:=id h.ex;obtain⟨TA,tc,rfl,_⟩:=id ae;have O:kf v<4294967296:=nM hk (Jxw hyl);have an:Js (kf v)<=y.length:=Gl hk;have o:∀ {w'} (hx:Ext w w') j u,(Xq kf pf v)[j]?=some u->w'.cell? ((adr BA (v*3)).add j)=some u:=λhx j u hu=>by
  have hj:j<3:=by grind [Nat.lt_or_ge,List.getElem?_eq_none,Xq]
  rw[Xv];exact(hB.ext hx).cell ((Yk (sz:=3) (λ_ _=>rfl) hv hj).trans hu)
 refine enE Tryz.func118 Tryz.ntmps118 ?_;refine bxR ?_;intro w1 b a6 hb aa;refine Ja aa ?_;refine clR (Qkh (h.ext a6) hv) ?_;rintro _ w2 ⟨rfl,a5⟩;have D:=a6.trans a5;have a3:=aa.ext a5;refine ldR (a3.at (i:=1) rfl) ?_;refine Qp 3 v (hB.ext D) hv ?_;refine ldR (o D 1 _ rfl) ?_;refine clR (Qzs (kf v) O w2) ?_;rintro _ ac ⟨rfl,e2⟩;rw[e2];clear e2 ac;refine cfR ?_ ?_
 .grind
 refine Qb Iy ?_;intro w3 b3 a2 aj am;have Z:=D.trans a2;have a9:=a3.ext a2;refine ldR (a9.at (i:=1) rfl) ?_;refine Qp 3 v (hB.ext Z) hv ?_;refine ldR (o Z 1 _ rfl) ?_;refine clR (Qzs (kf v) O w3) ?_;rintro _ ab ⟨rfl,e3⟩;rw[e3];clear e3 ab;refine ρ ?_;refine Jo (fun (u:Nat) (vk:Value)=>[(1,.int .i64 (v:Int)),(2,.slice A y.length c),(3,.pointer (some ⟨b,0,none⟩)),(7,vk),(32,.int .i64 (Js (kf v):Int)),(33,.int .i64 (u:Int))])
  (λu vk w'=>u<=Js (kf v)/\Ext w2 w'/\w'.ownsRow w2.heap.size 147 3 vk (bk (kf v) u).length (Jp (pmR (bk (kf v) u) y))) (λu _=>Js (kf v)-u) 0 (.slice (some ⟨b3,0,none⟩) 0 0) sB
  ⟨Nat.zero_le _,a2,am.own (n:=0) aj rfl (Nat.zero_le _)⟩ ?_
 rintro u vk w4 ⟨hu,C,J⟩;have G:=D.trans C;have a8:=a3.ext C;refine ciR (λh=>?_) (λh=>?_)
 .have lu:u<Js (kf v):=by have:=oT h;omega
  clear h;refine ldR (a8.at (i:=1) rfl) ?_;refine Qp 3 v (hB.ext G) hv ?_;refine ldR (o G 1 _ rfl) ?_;refine ρ ?_;refine Ia (s:=kf v) (v:=u) om ?_;refine ρ ?_;rw[Gu O];refine ci (λh=>?_) (λh=>?_)
  .have a4:=hy.ext G;refine Qp 3 u a4 om ?_;refine Jh (cs:=(y.getD u V0).cells) (λj u' a7=>RdR.cell a4 om a7) ?_;refine Qb (Jdq (y.getD u V0)) ?_;intro w5 b5 a1 b1 ak;obtain⟨A3,c3,rfl,ax,ag⟩:=Jb J;have ay:=Yo (kf v) u;refine ρ ?_;refine apb (m':=1) (news:=(y.getD u V0).cells) EV (Jk J a1) (ak.rd (n:=1) rfl) (V.one _) (by unfold maxLen;omega) om (C.trans a1).size ?_;intro v6 w6 ar af au;have e:bk (kf v) (u+1)=bk (kf v) u++[u]:=by rw[Ge,h];simp
   refine ρ ?_;refine Jf (u+1) v6 sO ⟨lu,Qa (C.trans a1) af (λg eg=>(ag g eg).1),?_⟩ om;grind [pmR,bk,kf,V0,List.length_append,List.length_singleton,rowC_app',Jp]
  have e:bk (kf v) (u+1)=bk (kf v) u:=by rw[Ge,h];simp
  refine ρ ?_;refine Jf (u+1) vk sO ⟨lu,C,by rw[e];exact J⟩ om
 have a7:u=Js (kf v):=by have:=oF h;omega
 clear h;have e:bk (kf v) u=bk (kf v) 32:=by grind [Qcc,Jvc]
 rw[e]at J;obtain⟨A2,c2,rfl,ai,ah⟩:=Jb J;have az:=Yo (kf v) 32;refine ρ ?_;refine Jj ⟨⟨A2,c2,by rw[Xc],by rw[Xc];exact ai,by rw[Xc];omega,by unfold RdR;rw[Xc];exact Rd.own J,λ_ ad e=>?_⟩,G⟩;have:=(ah ad.block (by rw[e];simp[Value.ownBlock])).1;have:=D.size;omega
end
end Go.Proofs.YtgobkbeokaaplaaGreatDoor
namespace Go.Wk
open Go.RowKit
open Go.Maps (Keyed)
variable {f:Lit->Option Value}{b k m r:Nat}{x:Operand}
def RgS(P:Program)(k:TypeId)(w:World)(b r n:Nat)(f:Lit->Option Value)(left:Lit->Bool)(cnt:Nat): Prop :=
 ∃ D:DV,w.ranges P k RT b r n D left cnt/\(∀ kl,Maps.has D kl=(f kl).isSome)/\∀ kl zd,D.atKey kl zd=(match f kl with|some v=>.held v|none=>zd)
section
variable {P:Program} {k:TypeId} {w w':World} {b r n cnt:Nat} {f:Lit->Option Value} {left:Lit->Bool}
theorem RgS.gr{N:Nat->Prop}(h:RgS P k w b r n f left cnt)(hg:GrN N w w')(hb:¬ N b)(hr:¬ N r): RgS P k w' b r n f left cnt:=by
 obtain⟨D,G,O⟩:=h;have C:=G.owns.lt;have u:=G.lt;obtain⟨es,j,i,o,c0,e1,F,hs,J,Z,rest⟩:=G;exact⟨D,⟨es,j,i,o,c0,(hg.block b C hb).trans e1,F,hs,J,(hg.block r u hr).trans Z,rest⟩,O⟩
theorem RgS.ext(h:RgS P k w b r n f left cnt)(hx:Ext w w'): RgS P k w' b r n f left cnt:=h.gr (N:=λ_=>False) (GrN.ext hx) (λe=>e) (λe=>e)
theorem RgS.lt(h:RgS P k w b r n f left cnt): r<w.heap.size:=by obtain⟨D,i,_⟩:=h;exact i.lt
end
section
variable {P:Program} {n:Nat} {al:AL} {w:World} {Q:Exit->Act->World->Prop} {ops:Array Oper} {rest:List Oper}
variable {d ty:Nat} {pos:String} {aft:Array Edge} {tt:TT}
theorem rngm[hT:Tab P tt]{t e:Nat}{kd:TK}(K:Keyed P k)(hM:MapS P k w b m f)(kk:∀ w1 r cnt,Ext w w1->w.heap.size<=r->RgS P k w1 b r m f (λkl=>(f kl).isSome) cnt->WL P n ops Q rest ((d,.pointer (some ⟨r,0,none⟩))::al) w1)(ht:tk tt t=some kd:=by rfl)(hk:kd.desc=.map k e:=by rfl)(hx:ev al x=some (.map (some b)):=by rfl)(hd:Nat.blt d n=true:=by rfl):
  WL P n ops Q (⟨some d,.range t x,ty,pos,aft,none⟩::rest) al w:=by
 obtain⟨D,O,C,J⟩:=hM;obtain⟨w',j,u,o,_⟩:=O.range K (Yc hT.ok ht hk rfl);have Z:Maps.has D=λkl=>(f kl).isSome:=funext C;rw[Z]at u;refine wop hd (λa G=>?_) (kk w' w.heap.size _ ⟨o.os,o.tape,o.output,o.size,λi hi=>o.block i hi (by simp)⟩ (nR _) ⟨D,u,C,J⟩);simp[execOp,G.ev hx,j]
theorem nxtm{cnt:Nat}{left:Lit->Bool}(K:Keyed P k)(h:RgS P k w b r m f left cnt)(kd:(∀ kl,left kl=false)->WL P n ops Q rest ((d,.tuple #[.bool false])::al) w)(km:∀(key v:Value) (kl:Lit) (w1:World) (cnt':Nat),keyOf P k key=some kl->left kl=true->f kl=some v->RgS P k w1 b r m f (λz=>left z && !z.sameKey kl) cnt'->cnt'<cnt->GrN (λi=>i=r) w w1 ->
  (Instr.entry (.pointer (some ⟨r,0,none⟩))).run P w1=.ok (.tuple #[key,v]) w1->WL P n ops Q rest ((d,.tuple #[.bool true,key,v])::al) w1)(hx:ev al x=some (.pointer (some ⟨r,0,none⟩)):=by rfl)(hd:Nat.blt d n=true:=by rfl): WL P n ops Q (⟨some d,.next x false,ty,pos,aft,none⟩::rest) al w:=by
 obtain⟨D,h1,h2,G⟩:=h;rcases h1.next K ty with⟨h0,O,j⟩|⟨key,v,kl,y,w',cnt',hkey,hlk,hv,hat,j,hrg,hlt,hgr,hsz,hen⟩
 .exact wop hd (λa C=>by simp[execOp,C.ev hx,j]) (kd O)
 have J:y=(.held v,[]):=by simpa [RT] using hv.symm
 have Z:f kl=some v:=by
  have o:=hat (.map []);rw[G,J]at o;cases hfk:f kl with
  | none=>rw[hfk]at o;cases o
  | some u=>rw[hfk]at o;injection o with o;rw[o]
 exact wop hd (λa C=>by simp[execOp,C.ev hx,j]) (km key v kl w' cnt' hkey hlk Z ⟨D,hrg,h2,G⟩ hlt (GrN.by hgr λi hi=>by injection hi with hi;exact hi.symm) hen)
theorem entm{key v:Value}(hen:(Instr.entry (.pointer (some ⟨r,0,none⟩))).run P w=.ok (.tuple #[key,v]) w)(kk:WL P n ops Q rest ((d,.tuple #[key,v])::al) w)(hx:ev al x=some (.pointer (some ⟨r,0,none⟩)):=by rfl)(hd:Nat.blt d n=true:=by rfl): WL P n ops Q (⟨some d,.entry x,ty,pos,aft,none⟩::rest) al w :=
 wop hd (λa i=>by simp[execOp,i.ev hx,hen]) kk
end
end Go.Wk
namespace Go.Proofs.YtgobkbeokaaplaaGreatDoor
namespace Pl
variable {m n v:Nat}{x y:Row}
section
variable {α:Type} {X:AX α}
def AX.Gp(X:AX α)(y:List α): Prop:=∀ v,v<y.length->y.getD v X.d0∈(X.E v (X.key v (y.take v))).map (·.1)
theorem AX.Gp.nil: X.Gp []:=λv h=>by simp at h
theorem AX.Gp.snoc{y:List α}(h:X.Gp y){a:α}(ha:a∈(X.E y.length (X.key y.length y)).map (·.1)): X.Gp (y++[a]):=λv i=>by
 rw[List.length_append,List.length_singleton]at i;by_cases e:v=y.length
 .grind
 rw[Jvn om,List.take_append_of_le_length om];exact h v om
theorem getD_take(d0:α){y:List α}(h:v<m): (y.take m).getD v d0=y.getD v d0:=by simp[List.getD,h]
theorem AX.Gp.pre{y:List α}(h:X.Gp y)(m:Nat): X.Gp (y.take m):=λv i=>by
 rw[List.length_take]at i;rw[getD_take X.d0 om,List.take_take,Nat.min_eq_left om];exact h v om
theorem Jth(d0:α){y:List α}(h:y.length=n+1): y=y.take n++[y.getD n d0]:=by
 have e:y.getD n d0=y[n]:=by grind
 rw[e,<-List.take_succ_eq_append_getElem,List.take_of_length_le om]
theorem Qlj{l:List (α×Nat)}{p:α×Nat}(h:p∈l): p.2<=tot l:=by
 induction l with
 | nil=>cases h
 | cons q l ih=>
  grind [tot,List.mem_cons.1]
theorem AX.Ok.pend_snoc(h:X.Ok){y:List α}(hm:y.length<X.F){a:α}(ha:a∈(X.E y.length (X.key y.length y)).map (·.1)): X.pend (y.length+1) (y++[a])<=X.pend y.length y:=by
 obtain⟨p,hp,rfl⟩:=List.mem_map.1 ha;rw[h.pend_next hm hp,h.pend_split hm];exact nO _ (Qlj hp)
theorem AX.Ok.pend_le(h:X.Ok): ∀(n:Nat) (y:List α),y.length=n->n<=X.F->X.Gp y->X.pend n y<=X.pend 0 []
 | 0,y,e,_,_=>by grind
 | n+1,y,e,hF,hg=>by
  have h1:=Jth X.d0 e;have hl:(y.take n).length=n:=by grind
  have h2:=h.pend_le n (y.take n) hl om (hg.pre n);have h3:=h.pend_snoc (y:=y.take n) (a:=y.getD n X.d0) om (by rw[hl];exact hg n om);grind
theorem AX.Ok.others_le(h:X.Ok){y:List α}(hm:y.length<X.F)(hp:0<X.pend y.length y): 0<X.others y.length y/\X.others y.length y<=X.pend y.length y:=by
 rw[h.pend_split hm]at hp ⊢;have j:=Nat.pos_of_mul_pos_right hp;have i:=Nat.pos_of_mul_pos_left hp;refine⟨by grind,?_⟩;have:0<X.T y.length y:=by grind
 calc X.others y.length y=1*X.others y.length y:=(Nat.one_mul _).symm
  _<=_:=nO _ this
def AX.prodS(X:AX α)(S:Nat->Bool)(y:List α): Nat:=Jg X.F λc=>if S c=true then X.T c y else 1
end
theorem Lt.filter{ds:List Bool}{l:List Row}(h:Lt ds l)(q:Row->Bool): Lt ds (l.filter q):=h.sublist List.filter_sublist
section
variable {X:IX} {ds:List Bool}
theorem AX.gp_iff(hx:x∈X.ext n y)(hm:m<=y.length+n)(hg:X.Gp y): X.Gp (x.take m):=by
 obtain⟨u,o,j⟩:=(AX.ext_mem n y x).1 hx;intro v i;rw[List.length_take]at i;rw[getD_take X.d0 om,List.take_take,Nat.min_eq_left om];rcases Nat.lt_or_ge v y.length with h4|h4
 .have:=hg v h4;grind
 repeat grind
theorem AX.ext_gp(hx:x∈X.ext X.F [])(m:Nat): X.Gp (x.take m):=by
 have i:=((AX.ext_mem X.F [] x).1 hx).1;rw[List.length_nil,Nat.zero_add]at i;rcases Nat.lt_or_ge X.F m with h|h
 .rw[List.take_of_length_le om];have:=AX.gp_iff (m:=X.F) hx (by simp) AX.Gp.nil;grind
 repeat grind [AX.gp_iff,AX.Gp.nil]
theorem AX.Srt.within(h:X.Srt ds)(hy:y.length<=X.F)(hg:X.Gp y): (X.ext X.F []).filter (λx=>decide (x.take y.length=y))=X.ext (X.F-y.length) y:=by
 refine Ie ((h.ext X.F [] (by simp)).filter _) (h.ext _ y om) λx=>?_;rw[List.mem_filter,AX.ext_mem,AX.ext_mem,decide_eq_true_eq];simp only[List.length_nil,Nat.zero_add,List.take_zero,true_and,Nat.zero_le,true_implies];constructor
 .grind
 rintro⟨u,i,o⟩;refine⟨⟨om,λv j=>?_⟩,i⟩;rcases Nat.lt_or_ge v y.length with h4|h4
 .have:=hg v h4;grind
 repeat grind
theorem AX.within_none(hg:¬ X.Gp y): (X.ext X.F []).filter (λx=>decide (x.take y.length=y))=[]:=by grind [List.filter_eq_nil_iff,AX.ext_gp]
end
end Pl
open Pl Go.Wk
variable {c m:Nat}{y:Row}
def Xp(f:Nat)(kf:Nat->Nat)(pf:Nat->Int)(BB:Nat->List BkT): IX:=⟨V0,f,λv=>bk (kf v) 32,pf,λv k=>entK (BB v) k⟩
structure IxP(f:Nat)(ds:List Bool)(kf:Nat->Nat)(pf:Nat->Int)(BB:Nat->List BkT)(tot:Nat)(L:List Row): Prop where
 len:tot=L.length
 nil:tot=0->∀ v,BB v=[]
 ok:tot≠0->(Xp f kf pf BB).Ok
 srt:tot≠0->(Xp f kf pf BB).Srt ds
 ans:tot≠0->L=(Xp f kf pf BB).ext f []
 big:∀ v k,(trK (BB v) k).sum<=4294967296^20
 siz:∀ v k,(trK (BB v) k).sz<=65536
 fit:∀ v b,b∈BB v->∀ p∈b.2.toL,Xs p.1/\p.1.bytes.length<=24
 f32:f<=32
 kv:∀ v,v<f->kf v<2^v
section
variable {f:Nat} {ds:List Bool} {kf:Nat->Nat} {pf:Nat->Int} {BB:Nat->List BkT} {tot:Nat} {L:List Row}
theorem Qcq(c:Nat)(y:Row): (Xp f kf pf BB).T c y=(trK (BB c) (pmR (bk (kf c) 32) y)).sum:=by
 rw[Tr.sum_eq,Jgb];rfl
theorem Jdz(c:Nat)(k:Row): (Xp f kf pf BB).E c k=(trK (BB c) k).toL:=by rw[Jgb];rfl
theorem IxP.one(h:IxP f ds kf pf BB tot L)(v:Nat)(k:Row)(p:V×Nat)(hp:p∈(trK (BB v) k).toL): Xs p.1/\p.1.bytes.length<=24:=by
 unfold trK at hp;cases hf:(BB v).find? λb=>decide (b.1=k) with
 | none=>rw[hf]at hp;cases hp
 | some b=>rw[hf]at hp;exact h.fit v b (List.mem_of_find?_eq_some hf) p hp
theorem IxP.gp(h:IxP f ds kf pf BB tot L)(hg:(Xp f kf pf BB).Gp y): ∀ u∈y,Xs u/\u.bytes.length<=24:=λu j=>by
 obtain⟨i,hi,rfl⟩:=List.getElem_of_mem j;have:=hg i hi;rw[Jdz]at this;obtain⟨p,hp,e⟩:=List.mem_map.1 this;have o:y.getD i (Xp f kf pf BB).d0=y[i]:=by simp[List.getD,hi]
 rw[o]at e;rw[<-e];exact h.one _ _ p hp
theorem fit0: Xs V0/\V0.bytes.length<=24:=⟨⟨⟨by decide,by decide⟩,⟨by decide,by decide⟩⟩,by decide⟩
theorem IxP.fitK(h:IxP f ds kf pf BB tot L)(hg:(Xp f kf pf BB).Gp y)(c:Nat): FitR (pmR (bk (kf c) 32) y):=by
 refine⟨by grind [Xc,Yo],λv j=>?_⟩;obtain⟨i,_,rfl⟩:=List.mem_map.1 j;simp only[List.getD];cases hi:y[i]? with
 | none=>exact fit0
 | some u=>exact h.gp hg u (List.mem_of_getElem? hi)
theorem IxP.pend0(h:IxP f ds kf pf BB tot L)(h0:tot≠0): (Xp f kf pf BB).pend 0 []=tot:=by
 have:=(h.ok h0).ext_len f [] (by simp;rfl);rw[<-h.ans h0,<-h.len]at this;exact this.symm
theorem IxP.keyb(h:IxP f ds kf pf BB tot L)(h0:tot≠0)(hc:c<f)(hp:pf c<(m:Int)): kf c<2^m:=by
 refine Nat.lt_pow_two_of_testBit _ λi hi=>?_;cases hb:(kf c).testBit i with
 | false=>rfl
 | true=>
  have j:i<32:=by
   rcases Nat.lt_or_ge i 32 with h'|h'
   .exact h'
   rw[Nat.testBit_lt_two_pow (nM (h.kv c hc) (Nat.pow_le_pow_right (n:=2) (by decide) (show c<=i by have:=h.f32;omega)))]at hb;cases hb
  have:(i:Int)<=pf c:=(h.ok h0).kl c hc i (bk_mem.2 ⟨j,hb⟩);omega
theorem IxP.par(h:IxP f ds kf pf BB tot L)(h0:tot≠0)(hc:c<f): -1<=pf c/\pf c<(c:Int):=(h.ok h0).pl c hc
end
end Go.Proofs.YtgobkbeokaaplaaGreatDoor
namespace Go.Wk
open Go.RowKit
open Go.Maps (Keyed)
variable {key v:Value}
section
variable {P:Program} {n:Nat} {al:AL} {w:World} {Q:Exit->Act->World->Prop} {ops:Array Oper} {rest:List Oper} {d ty:Nat} {op:Op} {pos:String} {aft:Array Edge} {tt:TT}
theorem wopv{w':World}(h:∀ a,Fr n al a->(execOp a.eval ⟨none,op,ty,pos,aft,none⟩).run P w=.ok (.value v) w')(k:WL P n ops Q rest al w'):
  WL P n ops Q (⟨none,op,ty,pos,aft,none⟩::rest) al w:=λa i=>
 wpList_plain rfl λK j=>by
  unfold Oper.wp;rw[h a i,Oper.upon_value];exact j _ _ (k _ i)
theorem mdn[hT:Tab P tt]{t k e b m:Nat}{kd:TK}{f:Lit->Option Value}{x y:Operand}{kl:Lit}(K:Keyed P k)(hM:MapS P k w b m f)(hkey:keyOf P k key=some kl)(kk:∀ w1,MapS P k w1 b m (upL f kl none)->w.grownBy w1 (some b)->WL P n ops Q rest al w1)(ht:tk tt t=some kd:=by rfl)(hk:kd.desc=.map k e:=by rfl)(hx:ev al x=some (.map (some b)):=by rfl)(hy:ev al y=some key:=by rfl):
  WL P n ops Q (⟨none,.call { callee:=.builtin .delete,args:=#[x,y],argTypes:=#[t,k] },ty,pos,aft,none⟩::rest) al w:=by
 obtain⟨w',j,u,o⟩:=hM.drop K (Yc hT.ok ht hk rfl) hkey ty;exact wopv (v:=.tuple #[]) (w':=w') (λa i=>by simp[execOp,resolve,invoke,builtin,i.ev hx,i.ev hy,j]) (kk w' u o)
end
end Go.Wk
namespace Go.Proofs.YtgobkbeokaaplaaGreatDoor
open Go.RowKit Pl Go.Wk
attribute [local irreducible] WC WL QX WD WDB WP WN WG
variable {M' c c' f:Nat}{BA p:Option Addr}
theorem KI: Maps.Keyed Tryz.prog 3:=Maps.int_keyed Tryz.underlying3
theorem keyI(hc:c<=1000000): keyOf Tryz.prog 3 (.int .i64 (c:Int))=some (.int .i64 (c:Int)):=Maps.keyOf_int_mk Tryz.underlying3 (by
 have j:IntKind.i64.min = -9223372036854775808:=by decide
 have i:IntKind.i64.max=9223372036854775807:=by decide
 simp only[Lit.wf,Bool.and_eq_true,decide_eq_true_eq,j,i];omega)
theorem Qfc: Qu Tryz.prog 76=some (.agg #[.bool false,.pointer none]):=Kx
structure SeK where
 B0: Nat
 w0:World
 w1:World
 mb:Nat
 sb:Nat
 x0:Value
 x1:Value
 x2:Value
 x3:Value
 x4:Value
 BA:Option Addr
 bc:Nat
 f:Nat
 ds:List Bool
 kf:Nat->Nat
 pf:Nat->Int
 BB:Nat->List BkT
 tot:Nat
 L:List Row
def SeK.x(K:SeK): Value:=.agg #[K.x0,K.x1,K.x2,K.x3,K.x4]
def SeK.X(K:SeK): IX:=Xp K.f K.kf K.pf K.BB
def SeK.t(K:SeK)(c:Nat)(y:Row): Tr:=trK (K.BB c) (pmR (bk (K.kf c) 32) y)
theorem SeK.T(K:SeK)(c:Nat)(y:Row): K.X.T c y=(K.t c y).sum:=Qcq c y
theorem SeK.E(K:SeK)(c:Nat)(y:Row): K.X.E c (K.X.key c y)=(K.t c y).toL:=Jdz c _
def PdF(K:SeK)(y:Row)(S:Nat->Bool)(fm:Lit->Option Value): Prop :=
 (∀ c,c<K.f->S c=true->∃ d p,fm (.int .i64 (c:Int))=some (.agg #[.bool d,.pointer p])/\TrV (λ_=>False) K.w0 (K.t c y) (.pointer p)/\(K.t c y≠.nil->d=K.ds.getD c false)) /\
 ∀ kl,fm kl≠none->∃ c:Nat,c<K.f/\S c=true/\kl=.int .i64 (c:Int)
structure SeF(K:SeK): Prop where
 tb:TB K.B0 K.w0
 ix:IxV K.w0 K.x K.f K.ds K.kf K.pf K.BB K.tot
 ip:IxP K.f K.ds K.kf K.pf K.BB K.tot K.L
 ne:K.tot≠0
 e01:Ext K.w0 K.w1
 m1:K.w0.heap.size<=K.mb
 m2:K.mb<K.w1.heap.size
 s1:K.w1.heap.size<=K.sb
 bcl:K.f<=K.bc
 bg:Off (λk=>k=K.mb) K.w1 (λu=>Rd u 3 K.BA K.f (Qy K.f (Xq K.kf K.pf)))
 one:∀ u∈[K.x0,K.x1,K.x2,K.x3,K.x4],u.oneCell'=true
def sCs(K:SeK)(yv:Value)(st:Nat): List Value:=[K.x0,K.x1,K.x2,K.x3,K.x4,.slice K.BA K.f K.bc,yv,.map (some K.mb),.int .i64 (st:Int)]
structure SeM(K:SeK)(w:World)(y:Row)(S:Nat->Bool)(st M:Nat)(yv:Value)(m:Nat)(fm:Lit->Option Value): Prop where
 gr:GrN (λk=>k=K.mb) K.w1 w
 blk:Blk w K.sb 241 (sCs K yv st)
 row:w.ownsRow K.w1.heap.size 147 3 yv y.length (Jp y)
 map:MapS Tryz.prog 3 w K.mb m fm
 mle:m<=M
 pd:PdF K y S fm
def LoB(K:SeK)(B:Nat)(yv:Value): Prop:=K.sb<B/\∀ g,yv.ownBlock=some g->g<B
def SeV(K:SeK)(w:World)(y:Row)(S:Nat->Bool)(st M B:Nat): Prop:=∃ yv m fm,SeM K w y S st M yv m fm/\LoB K B yv
section
variable {K:SeK} {w w':World} {y:Row} {S:Nat->Bool} {st M m B:Nat} {yv:Value} {fm:Lit->Option Value}
theorem SeF.nsm(hF:SeF K): ¬ K.sb=K.mb:=λe=>by have:=hF.m2;have:=hF.s1;omega
theorem SeF.ext(hF:SeF K)(h:GrN (λk=>k=K.mb) K.w1 w): Ext K.w0 w:=h.old hF.e01 λk i=>by rw[i];exact hF.m1
theorem SeM.ext'(h:SeM K w y S st M yv m fm)(hx:Ext w w'): SeM K w' y S st M yv m fm :=
 ⟨h.gr.trans (GrN.ext hx),h.blk.ext hx,Jk h.row hx,h.map.ext hx,h.mle,h.pd⟩
theorem SeM.x5(h:SeM K w y S st M yv m fm)(j:Nat)(u:Value)(hu:[K.x0,K.x1,K.x2,K.x3,K.x4][j]?=some u): w.cell? ((⟨K.sb,0,none⟩:Addr).add j)=some u :=
 Blk.pre (cs:=[K.x0,K.x1,K.x2,K.x3,K.x4]) (ds:=[.slice K.BA K.f K.bc,yv,.map (some K.mb),.int .i64 (st:Int)]) h.blk j u hu
theorem SeV.ext(h:SeV K w y S st M B)(hx:Ext w w'): SeV K w' y S st M B:=by
 obtain⟨yv,m,fm,h,i⟩:=h;exact⟨yv,m,fm,h.ext' hx,i⟩
theorem SeV.same{S':Nat->Bool}(h:SeV K w y S st M B)(e:∀ c,c<K.f->S c=S' c): SeV K w y S' st M B:=by
 obtain⟨yv,m,fm,h,u⟩:=h;refine⟨yv,m,fm,⟨h.gr,h.blk,h.row,h.map,h.mle,λc i hs=>h.pd.1 c i ((e c i).trans hs),λj o=>?_⟩,u⟩;obtain⟨c,G,D,C⟩:=h.pd.2 j o;grind
theorem SeV.more(h:SeV K w y S st M B)(hM:M<=M'): SeV K w y S st M' B:=by
 obtain⟨yv,m,fm,h,i⟩:=h;exact⟨yv,m,fm,⟨h.gr,h.blk,h.row,h.map,Nat.le_trans h.mle hM,h.pd⟩,i⟩
theorem Jlr(hc:c<=1000000): WideAt.IsKeyLit (.int .i64 (c:Int)):=KI.key (keyI hc)
theorem Jlk(h:Lit.int .i64 (c:Int)=.int .i64 (c':Int)): c=c':=by grind
theorem PdF.put(h:PdF K y S fm)(hf:K.f<=32)(hc:c<K.f){d:Bool}(ht:TrV (λ_=>False) K.w0 (K.t c y) (.pointer p))(hd:K.t c y≠.nil->d=K.ds.getD c false):
  PdF K y (λj=>S j || decide (j=c)) (upL fm (.int .i64 (c:Int)) (some (.agg #[.bool d,.pointer p]))):=by
 constructor
 .intro j u hs;by_cases e:j=c
  .subst e;rw[Kg (Jlr om)];exact⟨d,p,rfl,ht,hd⟩
  rw[Ua λC=>e (Jlk C)];exact h.1 j u (by simpa [e] using hs)
 intro i o;by_cases e:i=.int .i64 (c:Int)
 .grind
 rw[Ua e]at o;obtain⟨j,J,G,D⟩:=h.2 i o;grind
theorem PdF.drop(h:PdF K y S fm)(hf:K.f<=32)(hc:c<K.f): PdF K y (λj=>S j && !decide (j=c)) (upL fm (.int .i64 (c:Int)) none):=by
 constructor
 .intro j u hs;simp only[Bool.and_eq_true,Bool.not_eq_true',decide_eq_false_iff_not]at hs;rw[Ua λC=>hs.2 (Jlk C)];exact h.1 j u hs.1
 intro i o;by_cases e:i=.int .i64 (c:Int)
 .grind [Kg,Jlr]
 rw[Ua e]at o;obtain⟨j,J,G,D⟩:=h.2 i o;grind
theorem SeK.t_app(hF:SeF K)(hc:c<K.f)(hp:K.pf c<(y.length:Int))(z:Row): K.t c (y++z)=K.t c y:=by
 have:=(hF.ip.ok hF.ne).key_pre (y:=y) (z:=z) hc hp;unfold SeK.t;exact congrArg (trK (K.BB c)) this
theorem PdF.app(h:PdF K y S fm)(hF:SeF K)(hS:∀ c,c<K.f->S c=true->K.pf c<(y.length:Int))(z:Row): PdF K (y++z) S fm:=by
 refine⟨λc i hs=>?_,h.2⟩;rw[SeK.t_app hF i (hS c i hs)];exact h.1 c i hs
theorem Xcf{kf:Nat->Nat}{pf:Nat->Int}(hR:Rd w 3 BA f (Qy f (Xq kf pf)))(hc:c<f): ∀ j u,(Xq kf pf c)[j]?=some u->w.cell? ((adr BA (c*3)).add j)=some u:=λj u i=>by
 have o:j<3:=by grind [Nat.lt_or_ge,List.getElem?_eq_none,Xq]
 rw[Xv];exact hR.cell ((Yk (sz:=3) (λ_ _=>rfl) hc o).trans i)
end
open Go.RowKit Pl Go.Wk
attribute [local irreducible] WH
variable {L:List Row}{c f k m:Nat}{pf:Nat->Int}{BB:Nat->List BkT}{y z:Row}{w w0:World}
def pS(pf:Nat->Int)(m q:Nat)(c:Nat): Bool:=decide (m<=c) && decide (pf c<(q:Int))
theorem Qrj(K:SeK)(m:Nat)(y:Row): K.X.prodS (pS K.pf m m) y=K.X.pend m y:=Gf λc _=>by
 simp only[pS,Bool.and_eq_true,decide_eq_true_eq];rfl
theorem Qrk(K:SeK)(m:Nat)(y:Row): K.X.prodS (pS K.pf (m+1) m) y=K.X.others m y:=Gf λc _=>by
 simp only[pS,Bool.and_eq_true,decide_eq_true_eq];rfl
theorem Qsh: (pS pf m m c && !decide (c=m))=pS pf (m+1) m c:=by grind [pS]
theorem Qsj(hp:pf c<(c:Int)): (pS pf (m+1) m c || decide (pf c=(m:Int)))=pS pf (m+1) (m+1) c:=by
 unfold pS;grind
def hmB(bs:List BkT): Nat:=bs.foldl (λm b=>max m b.2.ht) 0
theorem foldl_max{bs:List BkT}: ∀ {m:Nat},m<=bs.foldl (λm b=>max m b.2.ht) m/\∀ b∈bs,b.2.ht<=bs.foldl (λm b=>max m b.2.ht) m:=by
 induction bs with
 | nil=>intro m;exact⟨nR _,λb i=>by cases i⟩
 | cons a bs ih=>
  grind
theorem Qlf(bs:List BkT)(k:Row): (trK bs k).ht<=hmB bs:=by
 unfold trK;cases hf:bs.find? λb=>decide (b.1=k) with
 | none=>exact Nat.zero_le _
 | some b=>exact foldl_max.2 b (List.mem_of_find?_eq_some hf)
def wiL(L:List Row)(y:Row): List Row:=L.filter λx=>decide (x.take y.length=y)
section
variable {f:Nat} {ds:List Bool} {kf:Nat->Nat} {pf:Nat->Int} {BB:Nat->List BkT} {tot:Nat} {L:List Row}
end
section
variable {K:SeK} {w:World} {y:Row} {S:Nat->Bool} {st M B:Nat}
theorem SeV.steps(hF:SeF K)(h:SeV K w y S st M B)(k:Nat): SeV K (w.setCell ((⟨K.sb,0,none⟩:Addr).add 8) (.int .i64 ((st+k:Nat):Int))) y S (st+k) M B/\GrN (λk=>k=K.sb) w (w.setCell ((⟨K.sb,0,none⟩:Addr).add 8) (.int .i64 ((st+k:Nat):Int))):=by
 obtain⟨yv,m,fm,H,o⟩:=h;have i:GrN (λk=>k=K.sb) w (w.setCell ((⟨K.sb,0,none⟩:Addr).add 8) (.int .i64 ((st+k:Nat):Int))):=GrN.set _ rfl;refine⟨⟨yv,m,fm,⟨?_,H.blk.set 8 _,Je H.row i λg j e=>?_,H.map.gr i λe=>hF.nsm e.symm,H.mle,H.pd⟩,o⟩,i⟩
 .exact((H.gr.mono λk _ h=>(.inl h:k=K.mb∨k=K.sb)).trans (i.mono λk _ h=>.inr h)).mono λk u h=>h.elim id λe=>by have:=hF.s1;omega
 rw[e]at j;exact(Blk.ne_own H.blk H.row rfl) j.symm
theorem SeF.pnb(hF:SeF K)(m:Nat)(z:Row): Nb (K.X.pend m z):=by
 refine Nb.pow (k:=K.f) (Jxv (Nat.pow_pos (by decide)) λc _=>?_) hF.ip.f32;split
 .rw[K.T];exact hF.ip.big _ _
 repeat grind
theorem SeF.has(hF:SeF K)(hc:c<K.f){d:Bool}(hd:K.t c z≠.nil->d=K.ds.getD c false)(v:V):
  Tr.hasT d v (K.t c z)=true↔v∈(K.X.E c (K.X.key c z)).map (·.1):=by
 rw[K.E];by_cases h:K.t c z=.nil
 .rw[h];simp[Tr.hasT,Tr.toL]
 have hs:Us d (K.t c z).toL:=by
  rw[hd h,<-K.E];exact(hF.ip.srt hF.ne).srt c hc _
 exact(Tr.befT_eq hs).2
end
def AcR(f:Nat)(BB:Nat->List BkT)(L:List Row)(y:Row)(k:Nat)(u:Value)(w:World): Prop:=match(wiL L y)[k]? with
 | some r=>∃ A c,∃ st:Nat,u=.tuple #[.slice A r.length c,.int .i64 (st:Int),.int .i64 0]/\RdR w A r/\r.length<=c/\r.length=f/\st<=Ql f λv=>hmB (BB v)
 | none=>u=.tuple #[.slice none 0 0,.int .i64 0,.int .i64 3]
theorem AcR.none(h:(wiL L y)[k]?=none): AcR f BB L y k (.tuple #[.slice none 0 0,.int .i64 0,.int .i64 3]) w:=by
 unfold AcR;rw[h]
def AcRF(w0:World)(f:Nat)(BB:Nat->List BkT)(L:List Row)(y:Row)(k:Nat)(u:Value)(w:World): Prop:=match(wiL L y)[k]? with
 | some r=>∃ A c,∃ st:Nat,u=.tuple #[.slice A r.length c,.int .i64 (st:Int),.int .i64 0]/\RdR w A r/\r.length<=c/\r.length=f/\(st<=Ql f λv=>hmB (BB v))/\(r≠[]->∀ ad,A=some ad->w0.heap.size<=ad.block)
 | none=>u=.tuple #[.slice none 0 0,.int .i64 0,.int .i64 3]
theorem AcRF.none(h:(wiL L y)[k]?=none): AcRF w0 f BB L y k (.tuple #[.slice none 0 0,.int .i64 0,.int .i64 3]) w:=by
 unfold AcRF;rw[h]
section
variable {f:Nat} {ds:List Bool} {kf:Nat->Nat} {pf:Nat->Int} {BB:Nat->List BkT} {tot:Nat} {L:List Row}
theorem IxP.wi_none(ip:IxP f ds kf pf BB tot L)(ne:tot≠0)(hg:¬ (Xp f kf pf BB).Gp y): wiL L y=[]:=by
 unfold wiL;rw[ip.ans ne];exact AX.within_none hg
theorem IxP.wi_some(ip:IxP f ds kf pf BB tot L)(ne:tot≠0)(hy:y.length<=f)(hg:(Xp f kf pf BB).Gp y): wiL L y=(Xp f kf pf BB).ext (f-y.length) y:=by
 unfold wiL;rw[ip.ans ne];exact(ip.srt ne).within hy hg
theorem IxP.nbP(ip:IxP f ds kf pf BB tot L)(m:Nat)(z:Row): Nb ((Xp f kf pf BB).pend m z):=by
 refine Nb.pow (k:=f) (Jxv (Nat.pow_pos (by decide)) λc _=>?_) ip.f32;split
 .rw[Qcq];exact ip.big _ _
 repeat grind
theorem IxP.nbT(ip:IxP f ds kf pf BB tot L): Nb tot:=by
 by_cases h:tot=0
 .rw[h];exact(ip.nbP 0 []).le (Nat.zero_le _)
 rw[<-ip.pend0 h];exact ip.nbP 0 []
end
open Go.RowKit Pl Go.Wk
structure IxA(w:World)(x:Value)(f:Nat)(ds:List Bool)(kf:Nat->Nat)(pf:Nat->Int)(BB:Nat->List BkT)(tot:Nat)(L:List Row): Prop where
 tb:∃ B0,TB B0 w
 ix:IxV w x f ds kf pf BB tot
 ip:IxP f ds kf pf BB tot L
 ho:tot≠0->∀ z,(Xp f kf pf BB).Gp z->z.length<f->0<(Xp f kf pf BB).pend z.length z->(Xp f kf pf BB).others z.length z<4294967296
 hb:∀ v b,b∈BB v->b.2.ht<=65536
section
variable {w:World} {x:Value} {f:Nat} {ds:List Bool} {kf:Nat->Nat} {pf:Nat->Int} {BB:Nat->List BkT} {tot:Nat} {L:List Row}
theorem IxA.ext(h:IxA w x f ds kf pf BB tot L){w':World}(hx:Ext w w'): IxA w' x f ds kf pf BB tot L:=by
 obtain⟨i,ht⟩:=h.tb;exact⟨⟨i,ht.ext hx⟩,h.ix.ext hx,h.ip,h.ho,h.hb⟩
end
end Go.Proofs.YtgobkbeokaaplaaGreatDoor
namespace Go.Proofs.YtgobkbeokaaplaaGreatDoor
open Go.RowKit Pl Go.Wk _root_.Go.Proofs.Tryz
attribute [local irreducible] WC WL QX WD WDB WP
variable {a b:Row}{va vb vd:Value}{w:World}
theorem Qbk: ∀(x y:List UInt8),(Lib.compareBytes x y<0)↔Op.bytesLess x y=true
 | [],[]=>by simp[Lib.compareBytes,Op.bytesLess]
 | [],_::_=>by simp[Lib.compareBytes,Op.bytesLess]
 | _::_,[]=>by simp[Lib.compareBytes,Op.bytesLess]
 | a::x,b::y=>by
  have ih:=Qbk x y;simp only[Lib.compareBytes,Op.bytesLess];grind
def eqv(a b:V): Bool:=(a.kind == b.kind) && (a.num == b.num) && (a.str.toList == b.str.toList)
theorem V.bytes_eq(a:V): a.str.toList=a.bytes:=by rw[V.bytes,ByteArray.toList_eq]
theorem Qvf(a b:V): eqv a b=true↔a=b:=by
 unfold eqv;simp only[Bool.and_eq_true,beq_iff_eq];grind [V.ext,V.bytes_eq]
theorem eqV(a b:V)(w:World): (binOp .eql 147 a.val b.val).run prog w=.ok (.bool (eqv a b)) w:=by
 rw[V.val,V.val,run_eql_struct,run_equalIn_agg w 9999 147 _ _ kr kr];have e:∃ f1 j i:Field,(prog.fieldsOf 147).toList=[f1,j,i]/\(f1.name≠"_"/\f1.type=3/\f1.offset=0)/\(j.name≠"_"/\j.type=2/\j.offset=1)/\(i.name≠"_"/\i.type=9/\i.offset=2) :=
  ⟨_,_,_,rfl,⟨by decide,rfl,rfl⟩,⟨by decide,rfl,rfl⟩,⟨by decide,rfl,rfl⟩⟩
 obtain⟨f1,j,i,h0,⟨n1,J,o1⟩,⟨n2,G,Z⟩,⟨n3,D,O⟩⟩:=e;rw[h0];simp only[Op.eqFields,if_pos n1,if_pos n2,if_pos n3,J,G,D,o1,Z,O,Sem.run_bind];have C:∀ v:V,(part 3 #[.int .i64 v.kind,.int .i64 v.num,.string v.str] 0).run prog w=.ok (.int .i64 v.kind) w:=λv=>run_part_plain w kr rfl;have u:∀ v:V,(part 2 #[.int .i64 v.kind,.int .i64 v.num,.string v.str] 1).run prog w=.ok (.int .i64 v.num) w:=λv=>run_part_plain w kr rfl;have o:∀ v:V,(part 9 #[.int .i64 v.kind,.int .i64 v.num,.string v.str] 2).run prog w=.ok (.string v.str) w:=λv=>run_part_plain w kr rfl;rw[C a];simp only[Result.andThen_ok];rw[C b];simp only[Result.andThen_ok];rw[run_equalIn_int w 9998 3 .i64 .i64 _ _ kr];simp only[Result.andThen_ok];unfold eqv;cases h1:(a.kind == b.kind) with
 | false=>simp
 | true=>
  simp only[Bool.not_true,Bool.false_eq_true,if_false,Bool.true_and,Sem.run_bind];rw[u a];simp only[Result.andThen_ok];rw[u b];simp only[Result.andThen_ok];rw[run_equalIn_int w 9998 2 .i64 .i64 _ _ kr];simp only[Result.andThen_ok];cases h2:(a.num == b.num) with
  | false=>simp
  | true=>
   simp only[Bool.not_true,Bool.false_eq_true,if_false,Bool.true_and,Sem.run_bind];rw[o a];simp only[Result.andThen_ok];rw[o b];simp only[Result.andThen_ok];rw[run_equalIn_string w 9998 9 _ _ kr];simp only[Result.andThen_ok];cases h3:(a.str.toList == b.str.toList)<;>simp
theorem Jts(a b:Int): sgn a b<0↔a<b:=by grind [sgn]
def Jjc(a b:V): Bool:=decide (a.kind<b.kind) || ((a.kind == b.kind) && (decide (a.num<b.num) || ((a.num == b.num) && Op.bytesLess a.str.toList b.str.toList)))
theorem Qzp(a b:V): Jjc a b=true↔cmpV a b<0:=by
 unfold Jjc cmpV;by_cases h:a.kind=b.kind
 .rw[if_neg (not_not_intro h)];by_cases h2:a.num=b.num
  .rw[if_neg (not_not_intro h2),Qbk,<-V.bytes_eq,<-V.bytes_eq];simp[h,h2]
  rw[if_pos h2,Jts];grind
 rw[if_pos h,Jts];grind
theorem Qpf(a b:V)(w:World): Ret prog 150 [a.val,b.val] w λr w'=>r=.int .i64 (cmpV a b)/\Ext w w':=by
 refine enE func150 ntmps150 ?_;refine bxR ?_;intro w1 b1 G a3 o;refine bxR ?_;intro w2 b2 D a2 C;have o:=o.ext D;have J:=G.trans D;refine Jh (cs:=a.cells) (λj u O=>o.at O) ?_;refine Jh (cs:=b.cells) (λj u O=>C.at O) ?_;refine ρ ?_;refine weqs kr (eqV a b w2) ?_;refine ciR (λh=>?_) (λh=>?_)
 .refine ρ ?_;have:=(Qvf a b).1 h;subst this;exact Jj ⟨by rw[Vv],J⟩
 have a1:cmpV a b≠0:=λe=>by
  have:=(Qvf a b).2 (cmp_V.zero _ _ e);rw[h]at this;cases this
 refine ρ ?_;refine Ve (fun (t:Bool)=>[(40,.bool t)]) (λt Z=>t=Jjc a b/\Z=w2) ?_ ?_
 .refine ld (o.at (i:=0) rfl) ?_;refine ldR (C.at (i:=0) rfl) ?_;refine ρ ?_;refine ki 13 (λh1=>?_) (λh1=>?_)
  .refine ρ ?_;exact Jc true sB ⟨by unfold Jjc;rw[h1];rfl,rfl⟩
  refine ldR (o.at (i:=0) rfl) ?_;refine ldR (C.at (i:=0) rfl) ?_;refine ρ ?_;refine ki 19 (λh2=>?_) (λh2=>?_)
  .refine ldR (o.at (i:=1) rfl) ?_;refine ldR (C.at (i:=1) rfl) ?_;refine ρ ?_;refine ki 25 (λh3=>?_) (λh3=>?_)
   .refine ρ ?_;exact Jc true sB ⟨by grind [Jjc],rfl⟩
   refine ldR (o.at (i:=1) rfl) ?_;refine ldR (C.at (i:=1) rfl) ?_;refine ρ ?_;refine ki 31 (λh4=>?_) (λh4=>?_)
   .refine ldR (o.at (i:=2) rfl) ?_;refine ldR (C.at (i:=2) rfl) ?_;refine ρ ?_;exact Jc _ sB ⟨by grind [Jjc],rfl⟩
   refine ρ ?_;exact Jc false sB ⟨by grind [Jjc],rfl⟩
  refine ρ ?_;exact Jc false sB ⟨by grind [Jjc],rfl⟩
 rintro t Z ⟨rfl,rfl⟩;refine ρ ?_;have h3:=Qyh a b;refine ci (λh=>?_) (λh=>?_)
 .have:=(Qzp a b).1 h;refine ρ ?_;refine Jj ⟨?_,J⟩;grind
 have:¬ cmpV a b<0:=by grind [Qzp]
 refine ρ ?_;refine Jj ⟨?_,J⟩;grind
theorem Qjt{ds:List Bool}(ha:RowV w va a)(hb:RowV w vb b)(hd:BoolsV w vd ds):
  Ret prog 93 [va,vb,vd] w λr w'=>(∃ c:Int,r=.int .i64 c/\(c<0↔Jv a b ds<0)/\(c=0↔a=b))/\Ext w w':=by
 obtain⟨A,ac,rfl,ag,af,ha⟩:=ha;obtain⟨B,bc,rfl,ae,ad,hb⟩:=hb;obtain⟨D,dc,rfl,ab,aa,hd⟩:=hd;refine enE func93 ntmps93 ?_;refine ρ ?_;refine Qs (λk=>[(0,.slice A a.length ac),(1,.slice B b.length bc),(2,.slice D ds.length dc),(7,.int .i64 ((k:Nat):Int))])
  (λk w'=>Ext w w'/\k<=a.length/\k<=b.length/\Jv a b ds=Jv (a.drop k) (b.drop k) (ds.drop k)) (λk=>a.length-k) 0 sB ⟨Ext.refl w,Nat.zero_le _,Nat.zero_le _,rfl⟩ ?_
 rintro k w1 ⟨hx,a9,a8,he⟩;have a6:=ha.ext hx;have a5:=hb.ext hx;have sgl:∀ c:Int,c=Jv a b ds->(c<0↔Jv a b ds<0)/\(c=0↔a=b):=λc hc=>by grind [Jzz,Ye]
 have O:(a.length<=k∨b.length<=k)->(((a.length:Int)-(b.length:Int)<0↔Jv a b ds<0)/\((a.length:Int)-(b.length:Int)=0↔a=b)):=λh=>by grind [Qyq,Jv,Jzz,Ye,Nat.lt_trichotomy]
 refine ρ ?_;refine ki 13 (λh=>?_) (λh=>?_)
 .have G:k<a.length:=by have:=oT h;omega
  refine ciR (λh=>?_) (λh=>?_)
  .have C:k<b.length:=by have:=oT h;omega
   refine drR (scq 10 [8]) ?_;have o:Ext w1 w1.drew:=(Ext.refl w1).drew;have a4:=a6.ext o;have a3:=a5.ext o;refine Zu 3 k a4 G ?_;refine Qf (λj u hu=>RdR.cell a4 G hu) ?_;refine Zu 3 k a3 C ?_;refine Qf (λj u hu=>RdR.cell a3 C hu) ?_;refine Qq (Qpf (a.getD k V0) (b.getD k V0) _) ?_;rintro x w2 ⟨rfl,Z⟩;refine⟨Z,?_⟩;have i:Ext w w2:=(hx.trans o).trans Z;have a2:=hd.ext i;refine ρd ?_;refine ρ ?_;have step:=Qys (ds:=ds) G C;have a7:∀ d,neg d (cmpV (a.getD k V0) (b.getD k V0))=0↔cmpV (a.getD k V0) (b.getD k V0)=0:=λd=>by cases d<;>simp[neg]
   refine Ve (fun (t:Bool)=>[(0,.slice A a.length ac),(1,.slice B b.length bc),(2,.slice D ds.length dc),(7,.int .i64 ((k:Nat):Int)),(8,.int .i64 (cmpV (a.getD k V0) (b.getD k V0))),(39,.bool t)]) (λt w3=>t=ds.getD k false/\w3=w2) ?_ ?_
   .refine ki 34 (λh=>?_) (λh=>?_)
    .have a1:k<ds.length:=by have:=oT h;omega
     refine ixR k a2 a1 ?_;refine ldR (RdB.cell a2 a1) ?_;refine ρ ?_;exact Jc _ sB ⟨rfl,rfl⟩
    have h1:ds.getD k false=false:=by grind
    refine ρ ?_;exact Jc false sB ⟨h1.symm,rfl⟩
   rintro t w3 ⟨rfl,rfl⟩;refine ρ ?_;have more:∀ c:Int,c=neg (ds.getD k false) (cmpV (a.getD k V0) (b.getD k V0))->c≠0->c=Jv a b ds:=λc hc h0=>by grind
   refine ci (λh1=>?_) (λh1=>?_)
   .refine ρ ?_;rw[Jpv];rw[h1]at more;refine ci (λh=>?_) (λh=>?_)
    .refine ρ ?_;exact Jj ⟨⟨_,rfl,sgl _ (more _ rfl (Yh h))⟩,i⟩
    refine ρ ?_;refine Qm (k+1) sB ⟨i,om,om,?_⟩ om;grind
   refine ρ ?_;rw[h1]at more;refine ci (λh=>?_) (λh=>?_)
   .refine ρ ?_;exact Jj ⟨⟨_,rfl,sgl _ (more _ rfl (Yh h))⟩,i⟩
   refine ρ ?_;refine Qm (k+1) sB ⟨i,om,om,?_⟩ om;grind
  have J:=O (by grind);refine ρ ?_;exact Jj ⟨⟨_,rfl,J⟩,hx⟩
 have J:=O (by grind);refine ρ ?_;exact Jj ⟨⟨_,rfl,J⟩,hx⟩
theorem Jtw(ha:RowV w va a)(hb:RowV w vb b):
  Ret prog 43 [va,vb] w λr w'=>r=.bool (decide (a=b))/\Ext w w':=by
 obtain⟨A,O,rfl,C,u,_⟩:=id ha;obtain⟨B,J,rfl,o,j,_⟩:=id hb;refine enE func43 ntmps43 ?_;refine ρ ?_;refine ki 10 (λh=>?_) (λh=>?_)
 .refine clR (Qjt ha hb (BoolsV.nil w none 0)) ?_;rintro x D ⟨⟨c,rfl,_,G⟩,i⟩;refine ρ ?_;refine Jj ⟨?_,i⟩;grind
 refine ρ ?_;refine Jj ⟨?_,Ext.refl w⟩;rw[decide_eq_false (λe=>by grind)]
open Go.RowKit Pl Go.Wk
variable {v vd vr:Value}{w w0:World}
theorem RowV.ones{ps:List Pr}(h:∀ p∈ps,RowV w p.1 p.2): ∀ u∈ps.map (·.1),u.oneCell'=true:=by
 intro u i;obtain⟨p,hp,rfl⟩:=List.mem_map.1 i;exact(h p hp).one
theorem Qsm{e sz m:Nat}{xs:List Value}(h:w.ownsRow w0.heap.size e sz v m xs): Fresh w0 v:=λj n c e=>by
 rcases h.2 with⟨i,_⟩|⟨g,cap,cur,i,hb,_⟩
 repeat grind
theorem Qjs{l:List Row}{r:Row}{ds:List Bool}(hl:RowsV w v l)(hr:RowV w vr r)(hd:BoolsV w vd ds)(hlt:Lt ds l)(hlen:l.length<=1000000):
  Ret Tryz.prog 103 [v,vr,vd] w λx w'=>RowsV w' x (Za ds l r)/\Ext w w'/\(x=v∨Fresh w x):=by
 obtain⟨ps,A,c,rfl,rfl,h3,h4,h5,h6⟩:=id hl;have hn:ps.length<=1000000:=by simpa using hlen
 obtain⟨B,bc,a9,ak,aj,ai⟩:=id hr;refine enE Tryz.func103 Tryz.ntmps103 ?_;refine ρ ?_;refine Qs (λk=>[(0,.slice A ps.length c),(1,vr),(2,vd),(7,.int .i64 ((k:Nat):Int))])
  (λk w'=>Ext w w'/\k<=ps.length/\∀ i,i<k->Jv ((ps.map (·.2)).getD i []) r ds<0) (λk=>ps.length-k) 0 sB ⟨Ext.refl w,Nat.zero_le _,λi hi=>om⟩ ?_
 rintro k w1 ⟨C,hk,hp⟩;refine ρ ?_;refine Ve (fun (t:Bool)=>[(0,.slice A ps.length c),(1,vr),(2,vd),(7,.int .i64 ((k:Nat):Int)),(22,.bool t)])
  (λt w2=>Ext w1 w2/\t=decide (k<ps.length/\Jv ((ps.map (·.2)).getD k []) r ds<0)) ?_ ?_
 .refine ki 13 (λh=>?_) (λh=>?_)
  .have hlt:k<ps.length:=by have:=oT h;omega
   refine ixR k (h5.ext C) hlt ?_;refine ldR ((h5.ext C).cell (Jwg hlt)) ?_;refine clR (Qjt ((h6 _ (getD_mem' z0 ps hlt)).ext C) (hr.ext C) (hd.ext C)) ?_;rintro x w2 ⟨⟨cc,rfl,ah,ag⟩,a1⟩;refine ρ ?_;refine Jc _ sB ⟨a1,?_⟩;grind
  have hlt:¬ k<ps.length:=by have:=oF h;omega
  refine ρ ?_;exact Jc false sB ⟨Ext.refl _,(dF (λh=>hlt h.1)).symm⟩
 rintro t w2 ⟨a1,rfl⟩;have j:=C.trans a1;refine ciR (λh=>?_) (λh=>?_)
 .obtain⟨hlt,hc⟩:=oT h;refine ρ ?_;refine Qm (k+1) sB ⟨j,om,λi hi=>?_⟩ om;grind
 have aa:=oF h;obtain⟨a6,af⟩:=Qpl hlt (r:=r) (k:=k) (by simpa using hk) (by grind) (by grind);refine ρ ?_;refine Ve (fun (t:Bool)=>[(0,.slice A ps.length c),(1,vr),(7,.int .i64 ((k:Nat):Int)),(36,.bool t)])
  (λt w3=>Ext w2 w3/\t=decide (r∈ps.map (·.2))) ?_ ?_
 .refine ki 29 (λh=>?_) (λh=>?_)
  .have hlt:k<ps.length:=by have:=oT h;omega
   refine ixR k (h5.ext j) hlt ?_;refine ldR ((h5.ext j).cell (Jwg hlt)) ?_;refine clR (Jtw ((h6 _ (getD_mem' z0 ps hlt)).ext j) (hr.ext j)) ?_;rintro x w3 ⟨rfl,Z⟩;refine ρ ?_;refine Jc _ sB ⟨Z,?_⟩;grind
  have hlt:¬ k<ps.length:=by have:=oF h;omega
  refine ρ ?_;refine Jc false sB ⟨Ext.refl _,(dF (λh=>?_)).symm⟩;grind
 rintro t w3 ⟨Z,rfl⟩;have o:=j.trans Z;refine ciR (λh=>?_) (λh=>?_)
 .have a2:=oT h;refine ρ ?_;refine Jj ⟨?_,o,.inl rfl⟩;unfold Za;rw[if_pos a2];exact hl.ext o
 have a2:=oF h;have O:=RowV.ones h6;refine Qb Qbs ?_;intro w4 b a8 an ad;have J:=o.trans a8;refine ρ ?_;refine slh k ?_;refine ρ ?_;refine apo (a:=w) J ER (ad.own (n:=0) (by have:=o.size;omega) rfl (Nat.zero_le _)) ((h5.ext J).take (m:=k) hk) (λu hu=>O u (List.mem_of_mem_take hu)) (by unfold maxLen;omega) om ?_;intro v5 w5 a5 a7 _ _;rw[Nat.mul_one]at a5;refine Qb (λw=>Jdr vr w B _ bc a9) ?_;intro w6 b6 a4 am ac;refine ρ ?_;refine apo (a:=w) (a7.trans a4) ER (Jk a5 a4) ac.one (λu hu=>by rw[List.mem_singleton.1 hu];exact hr.one) (by unfold maxLen;omega) om ?_;intro v7 w7 ab a3 _ _;refine ρ ?_;refine sll k ?_;refine ρ ?_;refine apo (a:=w) a3 ER ab ((h5.ext a3).drop (k:=k) (c:=c) hk h3) (λu hu=>O u (List.mem_of_mem_drop hu)) (by unfold maxLen;omega) om ?_;intro v8 w8 G D _ _;rw[Nat.mul_one]at G;refine ρ ?_;refine Jj ⟨?_,D,.inr (Qsm G)⟩
 have e0:Za ds (ps.map (·.2)) r=(ps.take k++[(vr,r)]++ps.drop k).map (·.2):=by
  unfold Za;rw[if_neg a2,a6];simp
 have el:(ps.take k++[(vr,r)]++ps.drop k).length=0+k+1+(ps.length-k):=by simp;omega
 have ec:(ps.take k++[(vr,r)]++ps.drop k).map (·.1)=[]++(ps.map (·.1)).take k++[vr]++(ps.map (·.1)).drop k:=by simp
 rw[e0];obtain⟨A8,c8,rfl,ae,_⟩:=Jb G;refine⟨_,A8,c8,rfl,by rw[el],by rw[el];exact ae,by rw[el];omega,by rw[el,ec];exact Rd.own G,λp hp=>?_⟩;simp only[List.mem_append,List.mem_singleton]at hp;rcases hp with(hp|hp)|hp
 .exact(h6 p (List.mem_of_mem_take hp)).ext D
 .rw[hp];exact hr.ext D
 exact(h6 p (List.mem_of_mem_drop hp)).ext D
end Go.Proofs.YtgobkbeokaaplaaGreatDoor
namespace Go.Proofs.YtgobkbeokaaplaaGreatDoor
open Pl Go.Wk
variable {l out:List Row}{i k m v:Nat}{vars:Nat->List Nat}{g g':Nat->Row}{y z:Row}
theorem Jlb{α:Type}: ∀ {l m:List α},l.Nodup->(∀ x∈l,x∈m)->l.length<=m.length
 | [],_,_,_=>Nat.zero_le _
 | x::l,m,hn,hs=>by
  obtain⟨a,b,rfl⟩:=List.append_of_mem (hs x mC);have hn':=List.nodup_cons.1 hn;have:=Jlb (l:=l) (m:=a++b) hn'.2 λy hy=>by grind
  grind
def Jjl(rs:Nat->List Row): Nat->List (List Row)
 | 0=>[[]]
 | m+1=>(Jjl rs m).flatMap λc=>(rs m).map λr=>c++[r]
theorem Qyc(rs:Nat->List Row): ∀ m,(Jjl rs m).length=Jg m λi=>(rs i).length
 | 0=>rfl
 | m+1=>by
  rw[Jjl,Jg,<-Qyc rs m];generalize Jjl rs m=l
  induction l with
  | nil=>simp
  | cons c l ih=>rw[List.flatMap_cons,List.length_append,ih,List.length_map,List.length_cons,Nat.succ_mul,Nat.add_comm]
theorem Qyb{rs:Nat->List Row}(g:Nat->Row): ∀ m,(∀ i,i<m->g i∈rs i)->(List.range m).map g∈Jjl rs m
 | 0,_=>by simp[Jjl]
 | m+1,h=>by
  rw[List.range_succ,List.map_append,Jjl,List.mem_flatMap];refine⟨_,Qyb g m λi hi=>h i om,?_⟩;grind
theorem Qvw{rs:Nat->List Row}(F:(Nat->Row)->Row)(hF:∀ g g',(∀ i,i<m->g i=g' i)->F g=F g')(hn:l.Nodup)(h:∀ x∈l,∃ g:Nat->Row,(∀ i,i<m->g i∈rs i)/\x=F g):
  l.length<=Jg m λi=>(rs i).length:=by
 rw[<-Qyc];have:=Jlb (m:=(Jjl rs m).map λc=>F λi=>c.getD i []) hn λx j=>by
  obtain⟨g,o,rfl⟩:=h x j;refine List.mem_map.2 ⟨_,Qyb g m o,hF _ _ λi hi=>?_⟩;simp[List.getD,hi]
 grind
theorem Qzf{ds:List Bool}(h:Lt ds l): l.Nodup:=h.imp fun {a b} hab e=>by grind [Ye]
def Jqg(m:Nat)(vars:Nat->List Nat)(g:Nat->Row)(v:Nat): V:=match(List.range m).find? λi=>decide (v∈vars i) with
 | some i=>(g i).getD (lv (vars i) v) V0
 | none=>V0
theorem Qqw(h:∀ i,i<m->g i=g' i)(v:Nat): Jqg m vars g v=Jqg m vars g' v:=by grind [Jqg,List.range,List.mem_range.1,List.mem_of_find?_eq_some]
theorem Qqv(hasc:∀ i,i<m->Qo (vars i))(hc:∃ i,i<m/\v∈vars i)(h:∀ i,i<m->∀ j,j<(vars i).length->(vars i).getD j 0=v->(g i).getD j V0=z.getD v V0): Jqg m vars g v=z.getD v V0:=by
 unfold Jqg;cases hf:(List.range m).find? λi=>decide (v∈vars i) with
 | none=>
  grind
 | some i=>
  have hi:=List.mem_range.1 (List.mem_of_find?_eq_some hf);have o:v∈vars i:=by grind
  have:=Ys (hasc i hi) o;grind
section
variable (m:Nat) (vars:Nat->List Nat) (rs:Nat->List Row)
def Gx(vl:List Nat)(r:Row): Bool:=(List.range m).all λi=>(rs i).any λx=>decide (pmR (Xw (vars i) (Qt vl &&& Qt (vars i))) x=pmR (Xw vl (Qt vl &&& Qt (vars i))) r)
def Jvt(v:Nat): List Row:=(List.range m).flatMap λi=>(List.range (vars i).length).flatMap λk=>if(vars i).getD k 0=v then(rs i).map λr=>[r.getD k V0] else[]
def Gc(v:Nat): List Row:=(Jvt m vars rs v).foldl (Za []) []
def Xt(v:Nat): List V:=(Gc m vars rs v).map λr=>r.getD 0 V0
def Jjz(vl:List Nat)(k:Nat)(out:List Row): List Row:=out.flatMap λr=>((Xt m vars rs (vl.getD k 0)).map λx=>r++[x]).filter (Gx m vars rs (vl.take (k+1)))
def Xn(vl:List Nat): Nat->List Row
 | 0=>[[]]
 | k+1=>Jjz m vars rs vl k (Xn vl k)
def Zy(n:Nat): List Row:=if n=0 then(if Gx m vars rs [] [] then[[]] else[]) else Xn m vars rs (List.range n) n
end
section
variable {n m:Nat} {vars:Nat->List Nat} {rs:Nat->List Row}
theorem Jzq{ds:List Bool}: ∀(ls:List Row) {done l:List Row},Zn ds done l->Zn ds (done++ls) (ls.foldl (Za ds) l)
 | [],done,l,h=>by simpa using h
 | r::ls,done,l,h=>by
  rw[List.foldl_cons];have:=Jzq ls (Qrc (r:=r) h);grind
theorem Jyz(v:Nat): Zn [] (Jvt m vars rs v) (Gc m vars rs v):=by
 have:=Jzq (ds:=[]) (Jvt m vars rs v) (done:=[]) (l:=[]) ⟨List.Pairwise.nil,λx=>Iff.rfl⟩;rwa [List.nil_append]at this
theorem enumV_mem: y∈Jvt m vars rs v↔∃ i,i<m/\∃ k,k<(vars i).length/\(vars i).getD k 0=v/\∃ r∈rs i,y=[r.getD k V0]:=by
 unfold Jvt;grind
theorem valL_mem{x:V}: x∈Xt m vars rs v↔∃ i,i<m/\∃ k,k<(vars i).length/\(vars i).getD k 0=v/\∃ r∈rs i,x=r.getD k V0:=by
 unfold Xt;rw[List.mem_map];constructor
 .rintro⟨y,u,rfl⟩;obtain⟨i,hi,k,o,e,r,j,rfl⟩:=enumV_mem.1 (((Jyz v).2 y).1 u);grind
 rintro⟨i,hi,k,o,e,r,j,rfl⟩;exact⟨_,((Jyz v).2 _).2 (enumV_mem.2 ⟨i,hi,k,o,e,r,j,rfl⟩),rfl⟩
theorem Jrv(hy:y∈Gc m vars rs v): ∃ x,y=[x]:=by
 obtain⟨i,hi,k,o,e,r,j,rfl⟩:=enumV_mem.1 (((Jyz v).2 y).1 hy);exact⟨_,rfl⟩
theorem Qgt(v:Nat): (Xt m vars rs v).Nodup:=by
 unfold Xt List.Nodup;rw[List.pairwise_map];refine List.Pairwise.imp_of_mem (fun {a b} ha hb hab e=>?_) (Jyz (m:=m) (vars:=vars) (rs:=rs) v).1;grind [Jrv,List.getD_cons_zero,Ye]
theorem Xzv{α β:Type}{f:α->List β}{l:List α}(h1:l.Nodup)(h2:∀ a∈l,(f a).Nodup)(h3:∀ a∈l,∀ b∈l,∀ x,x∈f a->x∈f b->a=b): (l.flatMap f).Nodup:=by
 induction l with
 | nil=>exact List.Pairwise.nil
 | cons a l ih=>
  grind
theorem Qmm{vl:List Nat}(h:out.Nodup): (Jjz m vars rs vl k out).Nodup:=by
 unfold Jjz;refine Xzv h (λr _=>?_) λa _ b _ x j i=>?_
 .grind [List.Pairwise.sublist,List.filter_sublist,List.map,List.Nodup,Qgt,List.append_cancel_left]
 obtain⟨u,D,rfl⟩:=List.mem_map.1 (List.mem_filter.1 j).1;obtain⟨o,C,e⟩:=List.mem_map.1 (List.mem_filter.1 i).1;have:=congrArg List.dropLast e;simpa using this.symm
theorem Qcm(vl:List Nat): ∀ k,(Xn m vars rs vl k).Nodup
 | 0=>by simp[Xn]
 | k+1=>Qmm (Qcm vl k)
def Ic(m:Nat)(vars:Nat->List Nat)(rs:Nat->List Row)(k:Nat)(z:Row): Prop:=∀ i,i<m->∃ x∈rs i,∀ j,j<(vars i).length->(vars i).getD j 0<k->x.getD j V0=z.getD ((vars i).getD j 0) V0
theorem Jqd{n:Nat}(h:i<n): (List.range n).getD i 0=i:=by simp[List.getD,h]
theorem Xwp(k s:Nat): Xw (List.range k) s=(List.range k).filter λu=>s.testBit u:=by grind [Xw,List.length_range,List.filter_congr,Jqd,List.mem_range.1]
theorem Xcn{l:List Nat}{p:Nat->Bool}(ha:Qo l)(hp:∀ u,p u=true↔u∈l): (List.range k).filter p=l.filter λu=>decide (u<k):=by
 have key:∀ {a b:List Nat},Qo a->Qo b->(∀ u,u∈a↔u∈b)->a=b:=by
  intro a;induction a with
  | nil=>
   intro b _ _ h;cases b with
   | nil=>rfl
   | cons y b=>have:=(h y).2 mC;cases this
  | cons x a ih=>
   intro b ha j h;cases b with
   | nil=>have:=(h x).1 mC;cases this
   | cons y b=>
    obtain⟨G,C⟩:=List.pairwise_cons.1 ha;obtain⟨D,o⟩:=List.pairwise_cons.1 j;have i:x=y:=by grind [List.mem_cons_self,List.mem_cons.1]
    subst i;rw[ih C o λu=>?_];grind
 refine key (List.Pairwise.sublist List.filter_sublist List.pairwise_lt_range) (List.Pairwise.sublist List.filter_sublist ha) λu=>?_;grind
theorem Jmp(hasc:∀ i,i<m->Qo (vars i))(hlen:∀ i,i<m->∀ r∈rs i,r.length=(vars i).length)(k:Nat)(z:Row): Gx m vars rs (List.range k) z=true↔Ic m vars rs k z:=by
 unfold Gx Ic;simp only[List.all_eq_true,List.mem_range,List.any_eq_true,decide_eq_true_eq];refine⟨λh i hi=>?_,λh i hi=>?_⟩;all_goals
  have hs:∀ u,(Qt (List.range k) &&& Qt (vars i)).testBit u=true↔u<k/\u∈vars i:=λu=>by
   rw[Nat.testBit_and,Bool.and_eq_true,edgeOf_bit,edgeOf_bit,List.mem_range]
  obtain⟨x,j,e⟩:=h i hi;refine⟨x,j,?_⟩;have G:Xw (List.range k) (Qt (List.range k) &&& Qt (vars i))=inS (vars i) (Qt (List.range k) &&& Qt (vars i)):=by
   rw[Xwp];have:(List.range k).filter (λu=>(Qt (List.range k) &&& Qt (vars i)).testBit u)=(List.range k).filter λu=>decide (u∈vars i):=List.filter_congr λu C=>by grind
   rw[this,Xcn (hasc i hi) λu=>by simp];unfold inS;refine List.filter_congr λu C=>?_;grind
  have o:=Jmz (vars:=vars i) (s:=Qt (List.range k) &&& Qt (vars i)) (r:=x) (z:=z) (hlen i hi x j) (vars i).length (nR _);rw[List.take_length]at o;have D:Zm (vars i) (Qt (List.range k) &&& Qt (vars i)) (vars i).length=Xw (vars i) (Qt (List.range k) &&& Qt (vars i)):=rfl;rw[D]at o
 repeat grind
theorem Xkc{l:Nat}(hkl:k<=l): Ic m vars rs k (z.take l)↔Ic m vars rs k z:=by grind [Ic,V0]
theorem Jdx(hasc:∀ i,i<m->Qo (vars i))(hlen:∀ i,i<m->∀ r∈rs i,r.length=(vars i).length)(hn:∀ v,v<n->∃ i,i<m/\v∈vars i): ∀ k,k<=n->∀ z:Row,z∈Xn m vars rs (List.range n) k↔z.length=k/\(k=0∨Ic m vars rs k z)
 | 0,_,z=>by grind [Xn,List.mem_singleton,List.eq_nil_of_length_eq_zero]
 | k+1,hk,z=>by
  have ih:=Jdx hasc hlen hn k om;rw[Xn];unfold Jjz;rw[Jqd om,Qpn om];simp only[List.mem_flatMap,List.mem_filter,List.mem_map];constructor
  .grind [Jmp]
  rintro⟨hl,h⟩;have hf:Ic m vars rs (k+1) z:=h.resolve_left om;have hz:z=z.take k++[z.getD k V0]:=Jth V0 hl;refine⟨z.take k,(ih _).2 ⟨by grind,?_⟩,⟨z.getD k V0,?_,hz.symm⟩,(Jmp hasc hlen (k+1) _).2 hf⟩
  .refine .inr ((Xkc (nR _)).2 λi hi=>?_);obtain⟨x,hx,h1⟩:=hf i hi;grind
  obtain⟨i,hi,hv⟩:=hn k om;obtain⟨x,hx,h1⟩:=hf i hi;have h2:=Ys (hasc i hi) hv;refine valL_mem.2 ⟨i,hi,_,h2.2.1,h2.2.2,x,hx,?_⟩;grind
theorem Qcn(hasc:∀ i,i<m->Qo (vars i))(hlen:∀ i,i<m->∀ r∈rs i,r.length=(vars i).length)(hn:∀ v,v<n->∃ i,i<m/\v∈vars i)(hk:k<=n): (Xn m vars rs (List.range n) k).length<=max 1 (Jg m λi=>(rs i).length):=by
 by_cases h0:k=0
 .subst h0;simp only[Xn,List.length_singleton];omega
 refine nL (Qvw (F:=λg=>(List.range k).map (Jqg m vars g)) (λg g' o=>List.map_congr_left λv _=>Qqw o v) (Qcm _ k) λx D=>?_) (Nat.le_max_right _ _);obtain⟨Z,O⟩:=(Jdx hasc hlen hn k hk x).1 D;have C:Ic m vars rs k x:=O.resolve_left h0;obtain⟨g,o⟩:∃ g:Nat->Row,∀ i,i<m->g i∈rs i/\∀ j,j<(vars i).length->(vars i).getD j 0<k->(g i).getD j V0=x.getD ((vars i).getD j 0) V0:=by
  refine⟨λi=>if hi:i<m then Classical.choose (C i hi) else[],λi hi=>?_⟩;simp only[hi,dite_true];exact Classical.choose_spec (C i hi)
 refine⟨g,λi hi=>(o i hi).1,?_⟩;apply List.ext_getElem
 .simp[Z]
 intro v u G;have hp:=Qqv (g:=g) (z:=x) hasc (hn v om) λi hi j J e=>by
  have:=(o i hi).2 j J om;rw[e]at this;exact this
 rw[List.getElem_map,List.getElem_range,hp];simp[List.getD,u]
theorem Jls(hasc:∀ i,i<m->Qo (vars i))(hlen:∀ i,i<m->∀ r∈rs i,r.length=(vars i).length)(hlt:∀ i,i<m->∀ v∈vars i,v<n)(hn:∀ v,v<n->∃ i,i<m/\v∈vars i)(z:Row): z∈Zy m vars rs n↔Zt n m vars rs z:=by
 have key:z.length=n->(Ic m vars rs n z↔∀ i,i<m->pmR (vars i) z∈rs i):=λj=>by
  constructor
  .intro h i hi;obtain⟨x,o,C⟩:=h i hi;grind [pmR,List.ext_getElem,Xc,getD_mem',List.getD,V0]
  intro h i hi;grind [pmR,List.getD]
 unfold Zy Zt;split
 .rename_i h0;subst h0;have u:=Jmp (vars:=vars) (rs:=rs) hasc hlen 0 [];grind
 rename_i h0;rw[Jdx hasc hlen hn n (nR _) z];grind
theorem Qzz(hasc:∀ i,i<m->Qo (vars i))(hlen:∀ i,i<m->∀ r∈rs i,r.length=(vars i).length)(hn:∀ v,v<n->∃ i,i<m/\v∈vars i): (Zy m vars rs n).length<=max 1 (Jg m λi=>(rs i).length):=by
 unfold Zy;split
 .grind
 exact Qcn hasc hlen hn (nR _)
end
end Go.Proofs.YtgobkbeokaaplaaGreatDoor
namespace Go.Wk
open Go.RowKit
variable {k2:IntKind}{s v:Nat}{x y:Operand}{t yt:TypeId}
section
variable {P:Program} {n:Nat} {al:AL} {w:World} {Q:Exit->Act->World->Prop} {ops:Array Oper} {rest:List Oper} {d ty:Nat} {pos:String} {aft:Array Edge}
theorem sr32g(hv:v<=32)(kk:WL P n ops Q rest ((d,.int .u32 ((s / 2^v:Nat):Int))::al) w)(hx:ev al x=some (.int .u32 (s:Int)):=by rfl)(hy:ev al y=some (.int k2 (v:Int)):=by rfl)(hd:Nat.blt d n=true:=by rfl):
  WL P n ops Q (⟨some d,.binOp .shr t x y yt,ty,pos,aft,none⟩::rest) al w:=by
 rw[<-Jtp s v hv]at kk;exact wop hd (λa i=>Jtx hx hy om i (some d) w) kk
theorem Jtj(hv:v<32)(kk:WL P n ops Q rest ((d,.int .u32 ((2^v:Nat):Int))::al) w)(hy:ev al y=some (.int k2 (v:Int)):=by rfl)(hd:Nat.blt d n=true:=by rfl):
  WL P n ops Q (⟨some d,.binOp .shl t (.const (.int .u32 1)) y yt,ty,pos,aft,none⟩::rest) al w:=by
 rw[<-Jbl hv]at kk;exact wop hd (λa i=>Jkz (x:=.const (.int .u32 1)) rfl hy om i (some d) w) kk
end
end Go.Wk
namespace Go.Proofs.YtgobkbeokaaplaaGreatDoor
open Go.RowKit Pl Go.Wk _root_.Go.Proofs.Tryz
attribute [local irreducible] WC WL QX WD WDB WP WN WG WH
variable {l vars:List Nat}{s:Nat}{rv v vv:Value}{w:World}
theorem IntsV.n(h:IntsV w v (nz l)): ∃ A c,v=.slice A l.length c/\l.length<=c/\l.length<=1100000/\Rd w 1 A l.length (Jt (nz l)):=by
 obtain⟨A,c,u,o,j,i⟩:=h;grind [Qk]
theorem Qqb{v:Nat}(hs:s<4294967296)(hv:v<=32)(w:World): Ret prog 209 [.int .u32 (s:Int),.int .i64 (v:Int)] w λu w'=>u=.bool (s.testBit v)/\w'=w:=by
 refine enE func209 ntmps209 ?_;refine ρ ?_;refine Go.Wk.kv 7 (congrArg (λz=>Value.int .u64 z) (Kh (z:=(v:Int)) om)) ?_;refine sr32g (s:=s) (v:=v) hv ?_;refine ρ ?_;rw[Gu hs];exact Jj ⟨rfl,rfl⟩
theorem Qjx(h:IntsV w v (nz l))(hl:∀ u∈l,u<32): Ret prog 210 [v] w λu w'=>u=.int .u32 (Qt l:Int)/\w'=w:=by
 obtain⟨A,c,rfl,hc,hm,D⟩:=h.n;refine enE func210 ntmps210 ?_;refine ρ ?_;refine Qs (fun (i:Nat)=>[(0,.slice A l.length c),(3,.int .u32 (Qt (l.take i):Int)),(4,.int .i64 (i:Int))])
  (λi w'=>i<=l.length/\w'=w) (λi=>l.length-i) 0 sB ⟨Nat.zero_le _,rfl⟩ ?_
 rintro i Z ⟨hi,rfl⟩;refine ciR (λh=>?_) (λh=>?_)
 .have o:i<l.length:=by have:=oT h;omega
  clear h;have j:=hl _ (getD_mem' 0 l o);refine ixR i D o ?_;refine ldR (D.cell (Zb o)) ?_;refine ρ ?_;refine Go.Wk.kv 16 (congrArg (λz=>Value.int .u64 z) (Kh (z:=(l.getD i 0:Int)) om)) ?_;refine Jtj (v:=l.getD i 0) j ?_;refine ρ ?_;have e:Qt (l.take (i+1))=Qt (l.take i) ||| 2^l.getD i 0:=by rw[Qr 0 o];exact Qvg _ _ _
  have O:Qt (l.take i)<4294967296:=Jzv (n:=32) λv G=>hl v (List.mem_of_mem_take G);have J:=Jjp O (Ko j);rw[J,<-e];exact Qm (i+1) sO ⟨o,rfl⟩ om
 have C:i=l.length:=by have:=oF h;omega
 subst C;clear h;refine ρ ?_;rw[List.take_length];exact Jj ⟨rfl,rfl⟩
theorem Qjz{r:Row}(hr:RowV w rv r)(hv:IntsV w vv (nz vars))(hs:s<4294967296)(hl:∀ u∈vars,u<32)(hrl:r.length=vars.length):
  Ret prog 211 [rv,vv,.int .u32 (s:Int)] w λu w'=>RowV w' u (pmR (Xw vars s) r)/\Ext w w':=by
 obtain⟨A,c,rfl,hc,hm,hR⟩:=id hr;obtain⟨B,d,rfl,hd,aa,hV⟩:=hv.n;refine enE func211 ntmps211 ?_;refine Qb Iy ?_;intro w0 b0 a1 a7 a8;refine ρ ?_;refine Jo (fun (k:Nat) (D:Value)=>[(0,.slice A r.length c),(1,.slice B vars.length d),(2,.int .u32 (s:Int)),(7,D),(8,.int .i64 (k:Int))])
  (λk D w'=>k<=vars.length/\Ext w w'/\Vs w' w.heap.size D (pmR (Zm vars s k) r)) (λk _=>vars.length-k) 0 (.slice (some ⟨b0,0,none⟩) 0 0) sB
  ⟨Nat.zero_le _,a1,a8.own (n:=0) a7 rfl (Nat.zero_le _)⟩ ?_
 rintro k D w1 ⟨hk,o,J⟩;refine ciR (λh=>?_) (λh=>?_)
 .have lk:k<vars.length:=by have:=oT h;omega
  clear h;have O:RdR w1 A r:=Rd.ext hR o;have G:=hl _ (getD_mem' 0 vars lk);have a5:(Zm vars s k).length<=k:=by
   have:=List.length_filter_le (λi=>s.testBit (vars.getD i 0)) (List.range k);rw[List.length_range]at this;exact this
  refine ixR k (hV.ext o) lk ?_;refine ldR ((hV.ext o).cell (Zb lk)) ?_;refine clR (Qqb hs (Nat.le_of_lt G) w1) ?_;rintro _ Z ⟨rfl,e1⟩;rw[e1];clear e1 Z;refine ciR (λh=>?_) (λh=>?_)
  .refine Qp 3 k O om ?_;refine Jh (cs:=(r.getD k V0).cells) (λj u hu=>RdR.cell O om hu) ?_;refine Qb (Jnl _) ?_;intro w2 b C hb hB;refine ρ ?_;refine apb (m':=1) (news:=(r.getD k V0).cells) EV (Jk J C) (hB.rd (n:=1) rfl) (V.one _) (by rw[Xc];unfold maxLen;omega) (by rw[Xc];omega) (o.trans C).size ?_;intro v3 w3 a2 a4 a9;refine ρ ?_;refine Jf (k+1) v3 sO ⟨lk,Qa (o.trans C) a4 (Ku (Jk J C)),?_⟩ om;have e:pmR (Zm vars s (k+1)) r=pmR (Zm vars s k) r++[r.getD k V0]:=by grind [Iv,pmR]
   rw[Vs,e,List.length_append,rowC_app',rowC_one''];exact a2
  refine ρ ?_;refine Jf (k+1) D sO ⟨lk,o,?_⟩ om;grind [Iv]
 have a3:k=vars.length:=by have:=oF h;omega
 rw[a3]at J;have a5:(Zm vars s vars.length).length<=vars.length:=by
  have:=List.length_filter_le (λi=>s.testBit (vars.getD i 0)) (List.range vars.length);rw[List.length_range]at this;exact this
 obtain⟨A3,c3,rfl,a6,_⟩:=Jb J;refine ρ ?_;refine Jj ⟨⟨A3,c3,rfl,a6,?_,Rd.own J⟩,o⟩;show(pmR (Zm vars s vars.length) r).length<=_;rw[Xc];omega
theorem Qpq(hs:s<4294967296)(w:World): Ret prog 185 [.int .u32 (s:Int)] w λu w'=>IntsV w' u (nz (bk s 32))/\Ext w w':=by
 refine enE func185 ntmps185 ?_;refine ρ ?_;refine Jo (fun (k:Nat) (o:Value)=>[(0,.int .u32 (s:Int)),(3,o),(4,.int .i64 (k:Int))])
  (λk o w'=>k<=32/\Ext w w'/\Zs w' w.heap.size o (bk s k)) (λk _=>32-k) 0 (.slice none 0 0) sB
  ⟨Nat.zero_le _,Ext.refl _,Zd _ _ _ _⟩ ?_
 rintro k o w1 ⟨hk,j,C⟩;refine ciR (λh=>?_) (λh=>?_)
 .have lk:k<32:=by have:=oT h;omega
  clear h;have O:=Yo s k;refine clR (Qqb hs hk w1) ?_;rintro _ D ⟨rfl,e1⟩;rw[e1];clear e1 D;refine ciR (λh=>?_) (λh=>?_)
  .refine Qb (bs1Int'' _) ?_;intro w2 b i hb hB;refine ρ ?_;refine apI (Jk C i) hB om (j.trans i).size ?_;intro v3 w3 a1 J a2;refine ρ ?_;refine Jf (k+1) v3 sO ⟨lk,Qa (j.trans i) J (Ku (Jk C i)),?_⟩ om;grind [Ge]
  refine ρ ?_;refine Jf (k+1) o sO ⟨lk,j,?_⟩ om;grind [Ge]
 have G:k=32:=by have:=oF h;omega
 rw[G]at C;have O:=Yo s 32;obtain⟨A3,c3,rfl,Z,_⟩:=Jb C;refine ρ ?_;exact Jj ⟨⟨A3,c3,by rw[Qk],by rw[Qk];exact Z,by rw[Qk];omega,by rw[Qk];exact Rd.own C⟩,j⟩
open Go.RowKit Pl Go.Wk
structure RInM(w:World)(VA RA:Option Addr)(m:Nat)(vars:Nat->List Nat)(rs:Nat->List Row): Prop where
 v:∃ cs,Rd w 1 VA m cs/\∀ i,i<m->∃ u,cs[i]?=some u/\IntsV w u (nz (vars i))
 r:∃ cs,Rd w 1 RA m cs/\∀ i,i<m->∃ u,cs[i]?=some u/\RowsV w u (rs i)
theorem RInM.ext{w w':World}{VA RA:Option Addr}{m:Nat}{vars:Nat->List Nat}{rs:Nat->List Row}(h:RInM w VA RA m vars rs)(hx:Ext w w'): RInM w' VA RA m vars rs:=by
 obtain⟨cs,G,D⟩:=h.v;obtain⟨ds,C,o⟩:=h.r;exact⟨⟨cs,G.ext hx,λi hi=>by obtain⟨u,e,j⟩:=D i hi;exact⟨u,e,j.ext hx⟩⟩,⟨ds,C.ext hx,λi hi=>by obtain⟨u,e,j⟩:=o i hi;exact⟨u,e,j.ext hx⟩⟩⟩
structure RefP(n m:Nat)(vars:Nat->List Nat)(rs:Nat->List Row): Prop where
 n32:n<=32
 m32:m<=32
 asc:∀ i,i<m->Qo (vars i)
 lt:∀ i,i<m->∀ v∈vars i,v<n
 len:∀ i,i<m->∀ r∈rs i,r.length=(vars i).length
 cov:∀ v,v<n->∃ i,i<m/\v∈vars i
 cnt:max 1 (Jg m λi=>(rs i).length)<=5000
 row:∀ i,i<m->(rs i).length<=10
def Vu(n f:Int)(pA:Option Addr)(pn pc:Nat)(VA:Option Addr)(vc:Nat)(RA:Option Addr)(rc m:Nat): List Value:=[.int .i64 n,.int .i64 f,.slice pA pn pc,.slice VA m vc,.slice RA m rc]
def Jvr(vars:Nat->List Nat)(rs:Nat->List Row)(vl:List Nat)(r:Row)(i:Nat)(x:Row): Bool:=decide (pmR (Xw (vars i) (Qt vl &&& Qt (vars i))) x=pmR (Xw vl (Qt vl &&& Qt (vars i))) r)
section
variable {n f:Int} {pA VA RA:Option Addr} {pn pc vc rc N m:Nat} {vars:Nat->List Nat} {rs:Nat->List Row} {w:World}
theorem Qqc(hP:RefP N m vars rs)(hM:RInM w VA RA m vars rs){vl:List Nat}{r:Row}{vv rv:Value}(hv:IntsV w vv (nz vl))(hr:RowV w rv r)(hvl:∀ u∈vl,u<32)(hrl:r.length=vl.length):
  Ret Tryz.prog 187 [.agg (Vu n f pA pn pc VA vc RA rc m).toArray,rv,vv] w λu w'=>u=.bool (Gx m vars rs vl r)/\Ext w w':=by
 have b5:=hP.m32;refine enE Tryz.func187 Tryz.ntmps187 ?_;refine bxR (cs:=Vu n f pA pn pc VA vc RA rc m) ?_;intro w1 b D hb hB;refine clR (Qjx (hv.ext D) hvl) ?_;rintro _ am ⟨rfl,e1⟩;rw[e1];clear e1 am;refine ρ ?_;refine Qs (fun (i:Nat)=>[(1,rv),(2,vv),(3,.pointer (some ⟨b,0,none⟩)),(7,.int .u32 (Qt vl:Int)),(8,.int .i64 (i:Int))])
  (λi w'=>i<=m/\Ext w1 w'/\(List.range i).all (λi=>(rs i).any (Jvr vars rs vl r i))=true) (λi=>m-i) 0 sB ⟨Nat.zero_le _,Ext.refl _,rfl⟩ ?_
 rintro i w2 ⟨hi,o,ag⟩;have aa:=hB.ext o;refine ldR (aa.at (i:=3) rfl) ?_;refine ciR (λh=>?_) (λh=>?_)
 .have Z:i<m:=by have:=oT h;omega
  clear h;obtain⟨b2,a1,au⟩:=(hM.ext (D.trans o)).v;obtain⟨b4,a6,av⟩:=(hM.ext (D.trans o)).r;obtain⟨vi,ac,ah⟩:=au i Z;obtain⟨ri,ad,b1⟩:=av i Z;have G:∀ u∈vars i,u<32:=λu hu=>by have:=hP.lt i Z u hu;have:=hP.n32;omega
  refine ldR (aa.at (i:=3) rfl) ?_;refine ixR i a1 Z ?_;refine ldR (a1.cell ac) ?_;refine clR (Qjx ah G) ?_;rintro _ ak ⟨rfl,e2⟩;rw[e2];clear e2 ak;have af:Qt vl<4294967296:=Jzv (n:=32) hvl;have ay:Qt (vars i)<4294967296:=Jzv (n:=32) G;refine ρ ?_;have a3:bits .and .u32 (Qt vl:Int) (Qt (vars i):Int)=((Qt vl &&& Qt (vars i):Nat):Int):=u32_and_nat _ _ af ay;have ae:Qt vl &&& Qt (vars i)<4294967296:=Nat.lt_of_le_of_lt Nat.and_le_left af;rw[a3];clear a3;refine cl (Qjz (hr.ext (D.trans o)) (hv.ext (D.trans o)) ae hvl hrl) ?_;rintro wv w3 ⟨ar,aq⟩;refine ρ ?_;refine Jo (fun (k:Nat) (O:Bool)=>[(1,rv),(2,vv),(3,.pointer (some ⟨b,0,none⟩)),(7,.int .u32 (Qt vl:Int)),(8,.int .i64 (i:Int)),(9,.int .u32 ((Qt vl &&& Qt (vars i):Nat):Int)),(10,wv),(11,.bool O),(12,.int .i64 (k:Int))])
   (λk O w'=>k<=(rs i).length/\Ext w3 w'/\O=((rs i).take k).any (Jvr vars rs vl r i)) (λk _=>(rs i).length-k) 0 false sB ⟨Nat.zero_le _,Ext.refl _,rfl⟩ ?_
  rintro k O w4 ⟨hk,a5,a2⟩;have j:=aq.trans a5;have a9:=aa.ext j;obtain⟨TA,tc,rfl,b7,b6,b3,ai,az⟩:=(b1.ext j).parts;refine ldR (a9.at (i:=4) rfl) ?_;refine ixR i (a6.ext j) Z ?_;refine ldR ((a6.ext j).cell ad) ?_;refine ρ ?_;have next:(rs i).any (Jvr vars rs vl r i)=true->(List.range (i+1)).all (λi=>(rs i).any (Jvr vars rs vl r i))=true:=λh=>by grind
  refine ki 42 (λh=>?_) (λh=>?_)
  .have lk:k<(rs i).length:=by have:=oT h;omega
   clear h;refine ciR (λh=>?_) (λh=>?_)
   .have a8:O=false:=by cases O<;>first|rfl|cases h
    subst a8;obtain⟨xv,ao,ap⟩:=az k lk;have an:=hP.len i Z _ (getD_mem' [] (rs i) lk);have C:Ext w4 w4.drew:=(Ext.refl w4).drew;have J:=j.trans C;refine drR [(0,0),(0,1),(0,2),(0,3),(0,4),(0,5),(0,6),(0,7),(0,8),(0,9),(0,10),(0,11),(0,12),(0,13),(0,15),(1,14),(1,16),(0,17)] ?_;have aj:=(a6.ext J);refine Jz ((a9.ext C).at (i:=4) rfl) ?_;refine Jd i aj Z ?_;refine Jz (aj.cell ad) ?_;refine Jd k (ai.ext C) lk ?_;refine Jz ((ai.ext C).cell ao) ?_;refine Jz ((a9.ext C).at (i:=3) rfl) ?_;refine Jd i (a1.ext J) Z ?_;refine Jz ((a1.ext J).cell ac) ?_;refine Qq (Qjz (ap.ext C) (ah.ext J) ae G an) ?_;rintro pv w5 ⟨aw,a4⟩;refine⟨a4,?_⟩;refine Qq (Jtw aw (ar.ext ((a5.trans C).trans a4))) ?_;rintro _ w6 ⟨rfl,ab⟩;refine⟨ab,?_⟩;refine ρd ?_;refine ρ ?_;refine Jf (k+1) (Jvr vars rs vl r i ((rs i).getD k [])) sO ⟨lk,((a5.trans C).trans a4).trans ab,?_⟩ om
    grind [Qr,lk]
   have a7:O=true:=by cases O<;>first|rfl|cases h
   subst a7;refine ρ ?_;refine Qm (i+1) sO ⟨Z,o.trans j,next ?_⟩ om;grind
  have lk:k=(rs i).length:=by have:=oF h;omega
  clear h;rw[lk,List.take_length]at a2;refine ciR (λh=>?_) (λh=>?_)
  .have a8:O=false:=by cases O<;>first|rfl|cases h
   refine ρ ?_;refine Jj ⟨?_,(D.trans o).trans j⟩;congr 1
   symm
   refine Bool.eq_false_iff.2 λhc=>?_;have:=List.all_eq_true.1 hc i (List.mem_range.2 Z);rw[a8]at a2;exact Bool.false_ne_true (a2.trans this)
  have a7:O=true:=by cases O<;>first|rfl|cases h
  refine ρ ?_;exact Qm (i+1) sO ⟨Z,o.trans j,next (by rw[<-a2];exact a7)⟩ om
 have ax:i=m:=by have:=oF h;omega
 subst ax;refine ρ ?_;exact Jj ⟨congrArg Value.bool ag.symm,D.trans o⟩
end
open Go.RowKit Pl Go.Wk
theorem EVv: ElT Tryz.prog 58 147 3 32 (.agg #[.int .i64 0,.int .i64 0,.string ⟨#[]⟩]):=⟨Tryz.underlying58,info_parts kr,rfl,by decide⟩
theorem Xyc(v:V)(w:World): (Instr.buildSlice 58 1 #[(0,v.val)]).run Tryz.prog w=.ok (.slice (some ⟨w.heap.size,0,none⟩) 1 1) (w.alloc (.cells v.cells.toArray 147)):=kr
theorem Blk.rowV{w:World}{b t:Nat}{v:V}(h:Blk w b t v.cells): RowV w (.slice (some ⟨b,0,none⟩) 1 1) [v]:=⟨some ⟨b,0,none⟩,1,rfl,Nat.le_refl _,by simp,by
 have:=h.rd (n:=1) (sz:=3) rfl;unfold RdR;grind [rowC_one'']⟩
def enI(vars:Nat->List Nat)(rs:Nat->List Row)(v i:Nat): List Row:=(List.range (vars i).length).flatMap λk=>if(vars i).getD k 0=v then(rs i).map λr=>[r.getD k V0] else[]
def enD(vars:Nat->List Nat)(rs:Nat->List Row)(v i k:Nat): List Row:=(List.range i).flatMap (enI vars rs v)++(List.range k).flatMap λk=>if(vars i).getD k 0=v then(rs i).map λr=>[r.getD k V0] else[]
def Ul(D:List Row): List Row:=D.foldl (Za []) []
theorem Qrf(D:List Row): Zn [] D (Ul D):=by
 have:=Jzq (ds:=[]) D (done:=[]) (l:=[]) ⟨List.Pairwise.nil,λx=>Iff.rfl⟩;rwa [List.nil_append]at this
theorem Qqf(D:List Row)(r:Row): Ul (D++[r])=Za [] (Ul D) r:=by simp[Ul]
theorem Qrg(D:List Row)(r:Row): (Ul (D++[r])).length<=(Ul D).length+1:=by
 rw[Qqf];unfold Za;grind
section
variable {n f:Int} {pA VA RA:Option Addr} {pn pc vc rc N m:Nat} {vars:Nat->List Nat} {rs:Nat->List Row} {w:World}
theorem Qpp(hP:RefP N m vars rs)(hM:RInM w VA RA m vars rs)(v:Nat):
  Ret Tryz.prog 186 [.agg (Vu n f pA pn pc VA vc RA rc m).toArray,.int .i64 (v:Int)] w λu w'=>(RowV w' u (Xt m vars rs v)/\(Xt m vars rs v).length<=10240)/\Ext w w':=by
 have bf:=hP.m32;refine enE Tryz.func186 Tryz.ntmps186 ?_;refine bxR (cs:=Vu n f pA pn pc VA vc RA rc m) ?_;intro w1 b aa hb hB;refine ρ ?_;refine Jo (fun (i:Nat) (lv:Value)=>[(1,.int .i64 (v:Int)),(2,.pointer (some ⟨b,0,none⟩)),(5,lv),(6,.int .i64 (i:Int))])
  (λi lv w'=>i<=m/\Ext w1 w'/\RowsV w' lv (Ul ((List.range i).flatMap (enI vars rs v)))/\(Ul ((List.range i).flatMap (enI vars rs v))).length<=320*i) (λi _=>m-i) 0 (.slice none 0 0) sB
  ⟨Nat.zero_le _,Ext.refl _,⟨[],none,0,rfl,rfl,Nat.le_refl _,Nat.zero_le _,Rd.nil,λp hp=>by cases hp⟩,Nat.le_refl _⟩ ?_
 rintro i lv w2 ⟨hi,a9,o,J⟩;have ao:=hB.ext a9;refine ldR (ao.at (i:=3) rfl) ?_;refine ciR (λh=>?_) (λh=>?_)
 .have Z:i<m:=by have:=oT h;omega
  clear h;have ab:∀ u∈vars i,u<32:=λu hu=>by have:=hP.lt i Z u hu;have:=hP.n32;omega
  have aj:=Jyh (hP.asc i Z) ab;have bb:=hP.row i Z;refine ρ ?_;refine Jo (fun (k:Nat) (lv:Value)=>[(1,.int .i64 (v:Int)),(2,.pointer (some ⟨b,0,none⟩)),(5,lv),(6,.int .i64 (i:Int)),(7,.int .i64 (k:Int))])
   (λk lv w'=>k<=(vars i).length/\Ext w2 w'/\RowsV w' lv (Ul (enD vars rs v i k))/\(Ul (enD vars rs v i k)).length<=320*i+10*k) (λk _=>(vars i).length-k) 0 lv sB
   ⟨Nat.zero_le _,Ext.refl _,by unfold enD;simpa using o,by unfold enD;simpa using J⟩ ?_
  clear o J lv;rintro k lv w3 ⟨hk,C,o,J⟩;have a1:=a9.trans C;have ae:=ao.ext C;obtain⟨bc,a5,au⟩:=(hM.ext (aa.trans a1)).v;obtain⟨vi,ak,b8⟩:=au i Z;obtain⟨PA,be,rfl,bj,bh,an⟩:=b8.n;refine ldR (ae.at (i:=3) rfl) ?_;refine ixR i a5 Z ?_;refine ldR (a5.cell ak) ?_;refine ciR (λh=>?_) (λh=>?_)
  .have lk:k<(vars i).length:=by have:=oT h;omega
   clear h;refine ldR (ae.at (i:=3) rfl) ?_;refine ixR i a5 Z ?_;refine ldR (a5.cell ak) ?_;refine ixR k an lk ?_;refine ldR (an.cell (Zb lk)) ?_;refine ρ ?_;have O:∀ D,enD vars rs v i (k+1)=D->D=enD vars rs v i k++(if(vars i).getD k 0=v then(rs i).map λr=>[r.getD k V0] else[]):=λD hD=>by grind [enD,List.range_succ,List.append_assoc]
   have O:=O _ rfl;refine ci (λh=>?_) (λh=>?_)
   .have az:(vars i).getD k 0≠v:=λe=>by have:=Yh h;omega
    rw[if_neg az,List.append_nil]at O;refine ρ ?_;refine Jf (k+1) lv sO ⟨lk,C,by rw[O];exact o,by rw[O];omega⟩ om
   have he:(vars i).getD k 0=v:=by have:=Uv h;omega
   rw[if_pos he]at O;clear h;refine ρ ?_;refine Jo (fun (j:Nat) (lv:Value)=>[(1,.int .i64 (v:Int)),(2,.pointer (some ⟨b,0,none⟩)),(5,lv),(6,.int .i64 (i:Int)),(7,.int .i64 (k:Int)),(8,.int .i64 (j:Int))])
    (λj lv w'=>j<=(rs i).length/\Ext w3 w'/\RowsV w' lv (Ul (enD vars rs v i k++((rs i).take j).map λr=>[r.getD k V0]))/\(Ul (enD vars rs v i k++((rs i).take j).map λr=>[r.getD k V0])).length<=320*i+10*k+j) (λj _=>(rs i).length-j) 0 lv sB
    ⟨Nat.zero_le _,Ext.refl _,by simpa using o,by simpa using J⟩ ?_
   clear o J lv;rintro j lv w4 ⟨hj,G,o,J⟩;have ai:=a1.trans G;have a7:=ae.ext G;obtain⟨bd,a6,ax⟩:=(hM.ext (aa.trans ai)).r;obtain⟨ri,am,b9⟩:=ax i Z;obtain⟨TA,tc,rfl,aw,av,ap,a3,ad⟩:=b9.parts;refine ldR (a7.at (i:=4) rfl) ?_;refine ixR i a6 Z ?_;refine ldR (a6.cell am) ?_;refine ciR (λh=>?_) (λh=>?_)
   .have lj:j<(rs i).length:=by have:=oT h;omega
    clear h;obtain⟨xv,a8,a4⟩:=ad j lj;have bg:=hP.len i Z _ (getD_mem' [] (rs i) lj);obtain⟨XA,xc,rfl,ag,af,a2⟩:=id a4;refine ldR (a7.at (i:=4) rfl) ?_;refine ixR i a6 Z ?_;refine ldR (a6.cell am) ?_;refine ixR j a3 lj ?_;refine ldR (a3.cell a8) ?_;refine Qp 3 k a2 om ?_;refine Jh (cs:=(((rs i).getD j []).getD k V0).cells) (λq u hu=>RdR.cell a2 om hu) ?_;refine Qb (Jnl _) ?_;intro w5 b5 ah bn ba;refine clR (Qjs (o.ext ah) (Blk.rowV ba) (BoolsV.nil _ none 0) (Qrf _).1 om) ?_;rintro aq w6 ⟨b1,ar,_⟩;have e:enD vars rs v i k++((rs i).take (j+1)).map (λr=>[r.getD k V0])=(enD vars rs v i k++((rs i).take j).map λr=>[r.getD k V0])++[[((rs i).getD j []).getD k V0]]:=by grind [Qr,List.append_assoc]
    have bi:=Qrg (enD vars rs v i k++((rs i).take j).map λr=>[r.getD k V0]) [((rs i).getD j []).getD k V0];refine ρ ?_;refine Jf (j+1) aq sO ⟨lj,(G.trans ah).trans ar,by rw[e,Qqf];exact b1,by rw[e];omega⟩ om
   have b2:j=(rs i).length:=by have:=oF h;omega
   subst b2;clear h;rw[List.take_length,<-O]at o J;refine ρ ?_;exact Jf (k+1) lv sO ⟨lk,C.trans G,o,om⟩ om
  have ac:k=(vars i).length:=by have:=oF h;omega
  subst ac;clear h;have e:(List.range (i+1)).flatMap (enI vars rs v)=enD vars rs v i (vars i).length:=by grind [enD,List.range_succ,enI]
  refine ρ ?_;refine Jf (i+1) lv sO ⟨Z,a1,by rw[e];exact o,by rw[e];omega⟩ om
 have b3:i=m:=by have:=oF h;omega
 subst b3;clear h;have eR:Ul ((List.range i).flatMap (enI vars rs v))=Gc i vars rs v:=rfl;rw[eR]at o J;obtain⟨TA,tc,rfl,aw,av,ap,a3,ad⟩:=o.parts;refine ρ ?_;refine Jo (fun (k:Nat) (vo:Value)=>[(5,.slice TA (Gc i vars rs v).length tc),(9,vo),(10,.int .i64 (k:Int))])
  (λk vo w'=>k<=(Gc i vars rs v).length/\Ext w2 w'/\Vs w' w2.heap.size vo ((Xt i vars rs v).take k)) (λk _=>(Gc i vars rs v).length-k) 0 (.slice none 0 0) sB
  ⟨Nat.zero_le _,Ext.refl _,Zd _ _ _ _⟩ ?_
 have aj:(Xt i vars rs v).length=(Gc i vars rs v).length:=by simp[Xt]
 rintro k vo w3 ⟨hk,C,ho⟩;refine ciR (λh=>?_) (λh=>?_)
 .have lk:k<(Gc i vars rs v).length:=by have:=oT h;omega
  clear h;obtain⟨xv,a8,a4⟩:=ad k lk;obtain⟨x,hx⟩:=Jrv (getD_mem' [] _ lk);rw[hx]at a4;obtain⟨XA,xc,rfl,ag,af,a2⟩:=id (a4.ext C);refine ixR k (a3.ext C) lk ?_;refine ldR ((a3.ext C).cell a8) ?_;refine Qp 3 0 a2 (by simp) ?_;refine Jh (cs:=x.cells) (λq u hu=>RdR.cell (r:=[x]) a2 (i:=0) (by simp) hu) ?_;refine Qb (Xyc x) ?_;intro w4 b4 G bo a7;have bm:((Xt i vars rs v).take k).length=k:=by rw[List.length_take];omega
  refine ρ ?_;refine apb (m':=1) (news:=x.cells) EVv (Jk ho G) (a7.rd (n:=1) rfl) (V.one _) (by unfold maxLen;omega) om (C.trans G).size ?_;intro v5 w5 ay b6 bl;have e:(Xt i vars rs v).take (k+1)=(Xt i vars rs v).take k++[x]:=by
   rw[Qr V0 om];grind [Xt,V0,Gc,List.getD,List.getElem?_eq_getElem,lk]
  refine ρ ?_;refine Jf (k+1) v5 sO ⟨lk,Qa (C.trans G) b6 (Ku (Jk ho G)),?_⟩ om;rw[Vs,e,List.length_append,rowC_app',rowC_one''];exact ay
 have ac:k=(Gc i vars rs v).length:=by have:=oF h;omega
 rw[ac,<-aj,List.take_length]at ho;obtain⟨A3,c3,rfl,b7,_⟩:=Jb ho;refine ρ ?_;exact Jj ⟨⟨⟨A3,c3,rfl,b7,om,Rd.own ho⟩,om⟩,(aa.trans a9).trans C⟩
end
open Go.RowKit Pl Go.Wk
attribute [local irreducible] WM
variable {k s:Nat}
def Jkk(m:Nat)(vars:Nat->List Nat)(rs:Nat->List Row)(n f:Nat)(ds:List Bool): List Row:=((Zy m vars rs n).map (List.take f)).foldl (Za ds) []
theorem Qdb(m:Nat)(vars:Nat->List Nat)(rs:Nat->List Row)(n f:Nat)(ds:List Bool): Zn ds ((Zy m vars rs n).map (List.take f)) (Jkk m vars rs n f ds):=by
 have:=Jzq (ds:=ds) ((Zy m vars rs n).map (List.take f)) (done:=[]) (l:=[]) ⟨List.Pairwise.nil,λx=>Iff.rfl⟩;rwa [List.nil_append]at this
theorem Qrh(ds:List Bool)(l:List Row)(r:Row): (Za ds l r).length<=l.length+1:=by
 unfold Za;grind
section
variable {n f:Int} {pA VA RA:Option Addr} {pn pc vc rc N m:Nat} {vars:Nat->List Nat} {rs:Nat->List Row} {w:World}
theorem Jnt(hP:RefP N m vars rs)(hk:k<=N): (Xn m vars rs (List.range N) k).length<=5000:=nL (Qcn hP.asc hP.len hP.cov hk) hP.cnt
def Uk(m:Nat)(vars:Nat->List Nat)(rs:Nat->List Row)(vl:List Nat)(k:Nat)(r:Row)(j:Nat): List Row:=(((Xt m vars rs (vl.getD k 0)).take j).map λx=>r++[x]).filter (Gx m vars rs (vl.take (k+1)))
theorem Qps(hP:RefP N m vars rs)(hM:RInM w VA RA m vars rs)(hs:s<4294967296)(hbk:bk s 32=List.range N):
  Ret Tryz.prog 154 [.agg (Vu n f pA pn pc VA vc RA rc m).toArray,.int .u32 (s:Int)] w λu w'=>RowsV w' u (Zy m vars rs N)/\Ext w w':=by
 have d0:=hP.m32;have cz:=hP.n32;refine enE Tryz.func154 Tryz.ntmps154 ?_;refine bxR (cs:=Vu n f pA pn pc VA vc RA rc m) ?_;intro w1 b a8 hb hB;refine clR (Qpq hs w1) ?_;rintro lv w2 ⟨bo,c9⟩;rw[hbk]at bo;obtain⟨LA,lc,rfl,ce,cd,ba⟩:=id bo.n;rw[List.length_range]at ce cd ba ⊢;refine Qb Iy ?_;intro w3 b3 bh d9 db;refine Qb (λw=>Jdr (.slice (some ⟨b3,0,none⟩) 0 0) w _ _ _ rfl) ?_;intro w4 b4 bg d8 cp;have bl:=(c9.trans bh).trans bg;have bj:=bh.trans bg;have h0:RowsV w4 (.slice (some ⟨b4,0,none⟩) 1 1) (Xn m vars rs (List.range N) 0):=⟨[(.slice (some ⟨b3,0,none⟩) 0 0,[])],_,_,rfl,rfl,by simp,by simp,cp.rd (n:=1) rfl,λp hp=>by
  rw[List.mem_singleton.1 hp];exact⟨_,_,rfl,by simp,by simp,Rd.nil⟩⟩
 refine ρ ?_;refine Jo (fun (i:Nat) (ov:Value)=>[(2,.pointer (some ⟨b,0,none⟩)),(5,.slice LA N lc),(6,ov),(7,.int .i64 (i:Int))])
  (λi ov w'=>i<=N/\Ext w4 w'/\RowsV w' ov (Xn m vars rs (List.range N) i)) (λi _=>N-i) 0 (.slice (some ⟨b4,0,none⟩) 1 1) sB ⟨Nat.zero_le _,Ext.refl _,h0⟩ ?_
 clear h0;rintro i ov w5 ⟨hi,az,b5⟩;have G:=bl.trans az;have ao:=bj.trans az;have c2:=hB.ext G;refine ciR (λh=>?_) (λh=>?_)
 .have li:i<N:=by have:=oT h;omega
  clear h;have bp:=Jnt hP hi;have ag:=Jnt hP (show i+1<=N by omega);have ak:Ext w5 w5.drew:=(Ext.refl w5).drew;have bz:=ba.ext (ao.trans ak);have b9:(Jt (nz (List.range N)))[i]?=some (.int .i64 (i:Int)):=by
   have:=Zb (cs:=List.range N) (show i<(List.range N).length by simpa using li);rwa [Jqd li]at this
  refine drR (scq 7 [5]) ?_;refine Qf (cs:=Vu n f pA pn pc VA vc RA rc m) (λj u hu=>(c2.ext ak).at hu) ?_;refine Jd i bz li ?_;refine Jz (bz.cell b9) ?_;refine Qq (Qpp hP (hM.ext (a8.trans (G.trans ak))) i) ?_;rintro xv w6 ⟨⟨c8,d2⟩,a4⟩;refine⟨a4,?_⟩;have a6:=ak.trans a4;obtain⟨OA,oc,rfl,d6,d5,cy,co,cn⟩:=id (b5.ext a6).parts;obtain⟨XA,xc,rfl,d3,d1,cm⟩:=id c8;refine ρd ?_;refine ρ ?_;refine Jo (fun (k:Nat) (nv:Value)=>[(2,.pointer (some ⟨b,0,none⟩)),(5,.slice LA N lc),(6,.slice OA (Xn m vars rs (List.range N) i).length oc),(7,.int .i64 (i:Int)),(8,nv),(9,.slice XA (Xt m vars rs i).length xc),(10,.int .i64 (k:Int))])
   (λk nv w'=>k<=(Xn m vars rs (List.range N) i).length/\Ext w6 w'/\OwnR w' w6.heap.size nv (((Xn m vars rs (List.range N) i).take k).flatMap λr=>Uk m vars rs (List.range N) i r (Xt m vars rs i).length)) (λk _=>(Xn m vars rs (List.range N) i).length-k) 0 (.slice none 0 0) sB
   ⟨Nat.zero_le _,Ext.refl _,OwnR.nil _ _⟩ ?_
  rintro k nv w7 ⟨J,C,a1⟩;refine ciR (λh=>?_) (λh=>?_)
  .have lk:k<(Xn m vars rs (List.range N) i).length:=by have:=oT h;omega
   clear h;obtain⟨r,hr⟩:∃ r,r=(Xn m vars rs (List.range N) i).getD k []:=⟨_,rfl⟩;have d4:r.length=i:=((Jdx hP.asc hP.len hP.cov i hi r).1 (by rw[hr];exact getD_mem' [] _ lk)).1;obtain⟨yv,c7,bd⟩:=cn k lk;rw[<-hr]at bd;obtain⟨YA,yc,rfl,cv,cr,ck⟩:=id bd;have b2:Jjz m vars rs (List.range N) i (Xn m vars rs (List.range N) i)=(Xn m vars rs (List.range N) i).flatMap λr=>Uk m vars rs (List.range N) i r (Xt m vars rs i).length:=by
    unfold Jjz Uk;rw[Jqd li,List.take_length]
   have Zr:∀ j,j<=(Xt m vars rs i).length->(((Xn m vars rs (List.range N) i).take k).flatMap (λr=>Uk m vars rs (List.range N) i r (Xt m vars rs i).length)++Uk m vars rs (List.range N) i r j).length<=5000:=λj hj=>by
    refine nL ?_ ag;rw[Xn,b2];conv=>rhs;rw[<-List.take_append_drop k (Xn m vars rs (List.range N) i),List.flatMap_append,List.length_append]
    rw[List.length_append];refine Nat.add_le_add_left ?_ _;have hd:(Xn m vars rs (List.range N) i).drop k=r::(Xn m vars rs (List.range N) i).drop (k+1):=by
     rw[hr];simp[List.getD,List.getElem?_eq_getElem lk]
    rw[hd,List.flatMap_cons,List.length_append];refine nL ?_ (Nat.le_add_right _ _);unfold Uk;refine List.Sublist.length_le (List.Sublist.filter _ (List.Sublist.map _ ?_));rw[Jqd li,List.take_length];exact List.take_sublist _ _
   refine ρ ?_;refine Jo (fun (j:Nat) (nv:Value)=>[(2,.pointer (some ⟨b,0,none⟩)),(5,.slice LA N lc),(6,.slice OA (Xn m vars rs (List.range N) i).length oc),(7,.int .i64 (i:Int)),(8,nv),(9,.slice XA (Xt m vars rs i).length xc),(10,.int .i64 (k:Int)),(11,.int .i64 (j:Int))])
    (λj nv w'=>j<=(Xt m vars rs i).length/\Ext w6 w'/\OwnR w' w6.heap.size nv (((Xn m vars rs (List.range N) i).take k).flatMap (λr=>Uk m vars rs (List.range N) i r (Xt m vars rs i).length)++Uk m vars rs (List.range N) i r j)) (λj _=>(Xt m vars rs i).length-j) 0 nv sB
    ⟨Nat.zero_le _,C,by simpa [Uk] using a1⟩ ?_
   clear a1 nv C w7;rintro j nv w7 ⟨hj,C,a1⟩;refine ciR (λh=>?_) (λh=>?_)
   .have lj:j<(Xt m vars rs i).length:=by have:=oT h;omega
    clear h;obtain⟨x,hx⟩:∃ x,x=(Xt m vars rs i).getD j V0:=⟨_,rfl⟩;have bm:Uk m vars rs (List.range N) i r (j+1)=Uk m vars rs (List.range N) i r j++if Gx m vars rs ((List.range N).take (i+1)) (r++[x])=true then[r++[x]] else[]:=by
     unfold Uk;rw[Jqd li,Qr V0 lj,List.map_append,List.filter_append,<-hx];congr 1
     by_cases hf:Gx m vars rs ((List.range N).take (i+1)) (r++[x])=true
     .rw[if_pos hf];exact List.filter_cons_of_pos hf
     rw[if_neg hf];exact List.filter_cons_of_neg hf
    have ay:Ext w7 w7.drew:=(Ext.refl w7).drew;have a5:=C.trans ay;have ai:=Rd.ext ck a5;have au:=Rd.ext cm a5;have av:=co.ext a5;have xt:∀ {W:World},GrN (λk=>w7.drew.heap.size<=k) w7.drew W->Ext w7.drew W:=λh=>h.old (Ext.refl _) λk J=>J;refine ρ ?_;refine drM (λk=>w7.drew.heap.size<=k) ?_;refine Un (fuel':=5) [(0,1),(0,2),(0,3),(0,4),(0,6),(0,7),(0,8),(0,9)] #[false,true,true,true,true,false,true,true,true,true,false,false,false] kr kr rfl ?_;refine ρn ?_;refine nix k av lk ?_;refine ρn ?_;refine nld (λw' hg=>(av.ext (xt hg)).cell c7) ?_;refine ρn ?_;refine Uy 3 j au om ?_;refine ρn ?_;refine Zh (cs:=x.cells) (λw' hg q u hu=>RdR.cell (Rd.ext au (xt hg)) lj (by rw[<-hx];exact hu)) ?_;refine ρn ?_;refine Up ?_;refine mcut 2 (lst 13 11) (fun (q:Value×Nat)=>[(46,q.1),(51,.slice (some ⟨q.2,0,none⟩) 1 1),(2,.pointer (some ⟨b,0,none⟩)),(5,.slice LA N lc),(6,.slice OA (Xn m vars rs (List.range N) i).length oc),(7,.int .i64 (i:Int)),(8,nv),(9,.slice XA (Xt m vars rs i).length xc),(10,.int .i64 (k:Int)),(11,.int .i64 (j:Int))])
     (λq W=>Ext w7.drew W/\W.ownsRow w7.drew.heap.size 147 3 q.1 r.length (Jp r)/\Blk W q.2 147 x.cells) ?_ ?_
    .rintro⟨a7,aa⟩ W ⟨be,b7,c1⟩;simp only at b7 c1;refine Vd 11 kr rfl rfl ?_;refine apb (m':=1) (news:=x.cells) EV b7 (c1.rd (n:=1) rfl) (V.one _) (by unfold maxLen;omega) om be.size ?_;intro cx W2 a9 b8 cc;obtain⟨_,_,rfl,_,br⟩:=Jb b7;have O:GrN (λk=>w7.drew.heap.size<=k) W W2:=GrN.by b8 λk J=>(br k J).1
     have bi:=O.old be λk J=>J;refine Jl (Xg O ?_);refine Un (fuel':=0) [(0,12)] (lst 13 13) kr kr rfl ?_;refine ρn ?_;refine Up ?_;refine Jwv kr ?_;have cq:Jp r++x.cells=Jp (r++[x]):=by rw[rowC_app',rowC_one'']
     have c6:r.length+1=(r++[x]).length:=by simp
     rw[cq,c6]at a9;obtain⟨bc,bb,rfl,bs,bq⟩:=Jb a9;have c4:RowX W2 (own w6.heap.size nv) (.slice bc (r++[x]).length bb) (r++[x]):=by
      refine⟨bc,bb,rfl,bs,by simp;omega,Rd.own a9,λ_ ad e J=>?_⟩;have h1:=(bq ad.block (by rw[e];simp[Value.ownBlock])).1;have h2:=a5.size;rcases J with J|J
      .omega
      have:=(a1.lt _ J).2;have:=ay.size;omega
     have ax:Ext W2 W2.drew:=(Ext.refl W2).drew;have am:=(ay.trans bi).trans ax;have an:=C.trans am;have ap:=G.trans (a6.trans an);have b1:=ao.trans (a6.trans an);have ca:IntsV W2.drew (.slice LA (i+1) lc) (nz ((List.range N).take (i+1))):=by
      have hl:((List.range N).take (i+1)).length=i+1:=by rw[List.length_take,List.length_range];omega
      refine⟨LA,lc,by rw[Qk,hl],by rw[Qk,hl];omega,by rw[Qk,hl];omega,?_⟩;have:=(ba.ext b1).take (m:=i+1) om;rw[Qk,hl];have e:(Jt (nz (List.range N))).take ((i+1)*1)=Jt (nz ((List.range N).take (i+1))):=by rw[Nat.mul_one];simp only[Jt,nz,List.map_take]
      rw[e]at this;exact this
     refine ρ ?_;refine drN (λ_=>False) 10 (scq 7 [6]) kr ?_;refine ρn ?_;refine Zh (cs:=Vu n f pA pn pc VA vc RA rc m) (λw' hg j u hu=>((hB.ext ap).ext hg.toExt).at hu) ?_;refine ρn ?_;refine nslh (A:=LA) (m:=N) (c:=lc) (i+1) ?_ om;refine ρn ?_;refine nop ?_;refine cl (Qqc hP (hM.ext (a8.trans ap)) ca (c4.v.ext ax) (λu hu=>by have:=List.mem_range.1 (List.mem_of_mem_take hu);omega) (by simp;omega)) ?_;rintro _ W3 ⟨rfl,ae⟩;refine ρ ?_;refine Ju (GrN.ext ae) ?_;refine ρn ?_;have a3:=am.trans ae;have aq:=a1.ext a3;refine ciR (λhf=>?_) (λhf=>?_)
     .refine Qb (λw=>Jdr (.slice bc (r++[x]).length bb) w _ _ _ rfl) ?_;intro W4 dc ac cw c3;refine ρ ?_;refine appR (a:=w6) (C.trans (a3.trans ac)) ER (aq.ext ac) c3 ((((c4.ext ax).ext ae)).ext ac) (by have:=Zr j om;omega) ?_;intro c5 W5 bn bf _;refine ρ ?_;refine Jf (j+1) c5 sO ⟨lj,bf,?_⟩ om;rw[bm,if_pos hf,<-List.append_assoc];exact bn
     refine ρ ?_;refine Jf (j+1) nv sO ⟨lj,C.trans a3,?_⟩ om;rw[bm,if_neg (by rw[hf];simp),List.append_nil];exact aq
    intro rest;have ab:∀ {W:World} {g:Nat},Blk W g 147 ([]:List Value)->w7.drew.heap.size<=g->W.ownsRow w7.drew.heap.size 147 3 (.slice (some ⟨g,0,none⟩) 0 0) 0 []:=λhB hb=>hB.own (n:=0) hb rfl (Nat.zero_le _);refine Jql 0 10 kr rfl rfl rfl ?_ ?_
    .refine Qb Iy ?_;intro W1 b0 o a2 aj;refine Jl (Xg (GrN.ext o) ?_);refine Jql 5 10 kr rfl rfl rfl ?_ ?_
     .refine apb (m':=r.length) (news:=Jp r) EV (ab aj a2) (ai.ext o) (Jxp r) (by unfold maxLen;omega) om o.size ?_;intro a7 W2 a9 b8 cc;rw[Nat.zero_add,List.nil_append]at a9;have O:GrN (λk=>w7.drew.heap.size<=k) W1 W2:=GrN.by b8 λk J=>by simp[Value.ownBlock]at J;omega
      refine Jl (Xg O ?_);refine Vd 10 kr rfl rfl ?_;refine bsl (Jdq x) ?_;intro W3 aa aw ar Z;refine Jl (Xg (GrN.ext aw) ?_);refine Gg (listed':=lst 13 11) kr ?_;exact rest (a7,aa) _ _ ⟨(O.old o λk J=>J).trans aw,Jk a9 aw,Z⟩ sB
     refine Qb (Jdq x) ?_;intro W2 aa D ar Z;refine Jl (Xg (GrN.ext D) ?_);refine Vd 5 kr rfl rfl ?_;refine apb (m':=r.length) (news:=Jp r) EV (ab (aj.ext D) a2) (ai.ext (o.trans D)) (Jxp r) (by unfold maxLen;omega) om (o.trans D).size ?_;intro a7 W3 af ah cb;rw[Nat.zero_add,List.nil_append]at af;have O:GrN (λk=>w7.drew.heap.size<=k) W2 W3:=GrN.by ah λk J=>by simp[Value.ownBlock]at J;omega
     refine Jl (Xg O ?_);refine Gg (listed':=lst 13 11) kr ?_;refine rest (a7,aa) _ _ ⟨O.old (o.trans D) λk J=>J,af,Z.grown ah ?_⟩ sB;have:=aj.lt;simp[Value.ownBlock];omega
    refine Qb (Jdq x) ?_;intro W1 aa o ar Z;refine Jl (Xg (GrN.ext o) ?_);refine Vd 0 kr rfl rfl ?_;refine bsl Iy ?_;intro W2 b0 D a2 aj;refine Jl (Xg (GrN.ext D) ?_);refine Vd 5 kr rfl rfl ?_;have bw:=nL o.size a2;refine apb (m':=r.length) (news:=Jp r) EV (ab aj bw) (ai.ext (o.trans D)) (Jxp r) (by unfold maxLen;omega) om (o.trans D).size ?_;intro a7 W3 af ah cb;rw[Nat.zero_add,List.nil_append]at af;have O:GrN (λk=>w7.drew.heap.size<=k) W2 W3:=GrN.by ah λk J=>by simp[Value.ownBlock]at J;omega
    refine Jl (Xg O ?_);refine Gg (listed':=lst 13 11) kr ?_;refine rest (a7,aa) _ _ ⟨O.old (o.trans D) λk J=>J,af,(Z.ext D).grown ah ?_⟩ sB;have:=Z.lt;simp[Value.ownBlock];omega
   have ch:j=(Xt m vars rs i).length:=by have:=oF h;omega
   subst ch;clear h;refine ρ ?_;refine Jf (k+1) nv sO ⟨lk,C,?_⟩ om;rw[Qr [] lk,List.flatMap_append,<-hr];simpa using a1
  have cg:k=(Xn m vars rs (List.range N) i).length:=by have:=oF h;omega
  subst cg;clear h;rw[List.take_length]at a1;refine ρ ?_;refine Jf (i+1) nv sO ⟨li,(az.trans a6).trans C,?_⟩ om;have e:Xn m vars rs (List.range N) (i+1)=(Xn m vars rs (List.range N) i).flatMap λr=>Uk m vars rs (List.range N) i r (Xt m vars rs i).length:=by
   rw[Xn];unfold Jjz Uk;rw[Jqd li,List.take_length]
  rw[e]at ag ⊢;exact a1.rows om
 have cj:i=N:=by have:=oF h;omega
 subst cj;clear h;have bp:=Jnt hP (nR i);refine ρ ?_;refine ki 68 (λh=>?_) (λh=>?_)
 .have h0:i=0:=by have:=Zv h;omega
  clear h;refine Jh (cs:=Vu n f pA pn pc VA vc RA rc m) (λj u hu=>c2.at hu) ?_;refine Qb Iy ?_;intro w6 b6 a4 d7 da;refine clR (Qqc (vl:=[]) (r:=[]) hP (hM.ext (a8.trans (G.trans a4))) ⟨none,0,rfl,Nat.le_refl _,Nat.zero_le _,Rd.nil⟩ ⟨some ⟨b6,0,none⟩,0,rfl,Nat.le_refl _,Nat.zero_le _,Rd.nil⟩ (λu hu=>by cases hu) rfl) ?_;rintro _ w7 ⟨rfl,C⟩;refine ρ ?_;subst h0;refine ci (λhf=>?_) (λhf=>?_)
  .have a2:Gx m vars rs [] []=false:=by cases hh:Gx m vars rs [] []<;>first|rfl|(rw[hh]at hf;cases hf)
   refine ρ ?_;refine Jj ⟨?_,(a8.trans G).trans (a4.trans C)⟩;unfold Zy;rw[if_pos rfl,a2];exact⟨[],none,0,rfl,rfl,Nat.le_refl _,Nat.zero_le _,Rd.nil,λp hp=>by cases hp⟩
  have a2:Gx m vars rs [] []=true:=by cases hh:Gx m vars rs [] []<;>first|rfl|(rw[hh]at hf;cases hf)
  refine ρ ?_;refine Jj ⟨?_,(a8.trans G).trans (a4.trans C)⟩;unfold Zy;rw[if_pos rfl,if_pos a2];exact b5.ext (a4.trans C)
 have h0:i≠0:=λe=>by have:=Zz h;omega
 clear h;refine ρ ?_;refine Jj ⟨?_,a8.trans G⟩;unfold Zy;rw[if_neg h0];exact b5
end
end Go.Proofs.YtgobkbeokaaplaaGreatDoor
