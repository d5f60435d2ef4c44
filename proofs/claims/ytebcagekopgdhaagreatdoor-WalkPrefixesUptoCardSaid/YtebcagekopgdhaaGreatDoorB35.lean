/- Part 35. -/
import Derived.Test.YtebcagekopgdhaaGreatDoorB34
set_option linter.unusedVariables false
set_option maxRecDepth 100000
set_option maxHeartbeats 40000000
namespace Go.Proofs.YtebcagekopgdhaaGreatDoor
open Go.RowKit Pl Go.Wk
attribute [local irreducible] WC WL QX WD WDB WP WN WG
theorem DnB.old{N N':Nat->Prop}{d:Bool}{w:World}{x:Value}{bs:List BkT}(h:DnB N d w x bs)(hs:∀ k,N' k->N k∨w.heap.size<=k): DnB N' d w x bs:=by
 obtain ⟨ps,A,c,h1,h2,h3,Z,G,U,C⟩:=h;refine ⟨ps,A,c,h1,h2,h3,Z,G,λh0 ad e O=>?_,λp o=>⟨(C p o).1,(C p o).2.old hs⟩⟩;rcases hs _ O with h'|h'
 .exact U h0 ad e h'
 .have J:0<(Qj ps).length:=by rw [Jdw λp o=>(C p o).1];omega
  obtain ⟨a1,u,hb,_⟩:=G.2 J;rw [e]at u;injection u with u;subst u;omega
theorem DnB.ext{N:Nat->Prop}{d:Bool}{w w':World}{x:Value}{bs:List BkT}(h:DnB N d w x bs)(hx:Ext w w'): DnB N d w' x bs:=h.gr (GrN.ext hx)
theorem DnB.nil(N:Nat->Prop)(d:Bool)(w:World): DnB N d w (.slice none 0 0) []:=⟨[],none,0,rfl,rfl,Nat.le_refl _,by simp,Rd.nil,λh=>absurd h (by simp),λp o=>by cases o⟩
theorem Qmw(w:World): (Instr.buildSlice 25 0 #[]).run Tryz.prog w=.ok (.slice (some ⟨w.heap.size,0,none⟩) 0 0) (w.alloc (.cells ([]:List Value).toArray 187)):=kr
theorem Qjp{A:Option Addr}{n c:Nat}{cs:List Value}{w:World}(hr:Rd w 3 A n cs)(h1:∀ u∈cs,u.oneCell'=true)(hb:n*24<=140737488355328):
  Ret Tryz.prog 138 [.slice A n c] w λv w'=>(∃ A' c',v=.slice A' n c'/\n<=c'/\Rd w' 3 A' n cs/\∀ ad,A'=some ad->w.heap.size<=ad.block)/\Ext w w':=by
 refine Jz Tryz.func138 Tryz.ntmps138 rfl kr rfl ?_;refine ρ ?_;refine Iq ?_;refine ρ ?_;refine ci (λh=>?_) (λh=>?_)
 .have hA:A=none:=by simpa using h
  subst hA;have hn:n=0:=by
   rcases Nat.eq_zero_or_pos n with h0|h0
   .exact h0
   .obtain ⟨ad,h2,_⟩:=hr.isome h0 om;cases h2
  subst hn;refine ρ ?_;exact Jj ⟨⟨none,0,rfl,Nat.le_refl _,hr,λad e=>by cases e⟩,Ext.refl w⟩
 .refine ρ ?_;refine bsl Qmw ?_;intro w1 b C U O;refine ρ ?_;refine apo C EBg (O.own (n:=0) U rfl (Nat.zero_le _)) (hr.ext C) h1 (by unfold maxLen;omega) om ?_;intro v2 w2 o J _ _;obtain ⟨A2,c2,rfl,G,Z⟩:=Jv o;refine ρ ?_;rw [Nat.zero_add]at o G ⊢;exact Jj ⟨⟨A2,c2,rfl,G,Rd.own o,λad e=>by subst e;exact (Z ad.block rfl).1⟩,J⟩
theorem Jsv(n:Nat)(kf:Nat->Nat)(pf:Nat->Int): ∀ u∈Qf n (Qb kf pf),u.oneCell'=true:=λu o=>by
 obtain ⟨i,_,h⟩:=List.mem_flatMap.1 o;exact Jzd u h
theorem Qll{N:Nat->Prop}{d:Bool}{w:World}{x:Value}{bs:List BkT}(h:DnB N d w x bs)(hN:∀ k,N k->k<w.heap.size):
  Ret Tryz.prog 116 [x] w λu w'=>DnB N d w' u bs/\Ext w w':=by
 obtain ⟨ps,A,c,rfl,rfl,hc,hl,hR,hA,am⟩:=h;refine Jz Tryz.func116 Tryz.ntmps116 rfl kr rfl ?_;refine ρ ?_;refine Jt (fun (i:Nat) (vl:Value)=>[(3,vl),(6,.slice A ps.length c),(7,.int .i64 (ps.length:Int)),(8,.int .i64 (i:Int))])
  (λi vl w'=>i<=ps.length/\Ext w w'/\∃ o:List (List Value×BkT),w'.ownsRow w.heap.size 140 3 vl o.length (Qj o)/\o.map (·.2)=(ps.map (·.2)).take i/\∀ q∈o,q.1.length=3/\BkE d (λk=>N k∨vl.ownBlock=some k) w' q.1 q.2) (λi _=>ps.length-i) 0 (.slice none 0 0) sB
  ⟨Nat.zero_le _,Ext.refl _,[],Xs _ _ _ _,rfl,λq hq=>by cases hq⟩ ?_
 rintro i vl w1 ⟨hi,a2,o,ae,a7,a6⟩;obtain ⟨LA,lc,rfl,ay,O⟩:=Jv ae;have bc:o.length=i:=by have:=congrArg List.length a7;rw [List.length_map,List.length_take,List.length_map]at this;omega
 refine ρ ?_;refine ci (λh=>?_) (λh=>?_)
 .have li:i<ps.length:=by have:=oT h;omega
  clear h;obtain ⟨z,hz⟩:∃ z,z=ps[i]:=⟨_,rfl⟩;have ar:z∈ps:=by rw [hz];exact List.getElem_mem li
  obtain ⟨ba,ai⟩:=am z ar;have a4:∀ j u,z.1[j]?=some u->w1.cell? ((adr A (i*3)).add j)=some u:=λj u hu=>by
   have hj:j<3:=by have:=(List.getElem?_eq_some_iff.1 hu).1;omega
   rw [Xb];refine (hR.ext a2).cell ?_;rw [Kg (p:=z) (λp hp=>(am p hp).1) (by rw [hz];exact List.getElem?_eq_getElem li) hj];exact hu
  obtain ⟨kv,zq,ap,ab,aa⟩:=id ai;obtain ⟨zp,rfl⟩:=aa.ptr;obtain ⟨zc,zk,zt⟩:=z;simp only at ap ab aa a4 ai;subst ap;obtain ⟨aq,ag,rfl,b8,b7,b9,_⟩:=id ab;refine ρ ?_;refine ixq 3 i (hR.ext a2) li ?_;refine ρ ?_;refine lds (cs:=[.slice aq zk.length ag,.bool d,.pointer zp]) a4 ?_;refine ρ ?_;refine alc Jyk ?_;intro w2 bb av b2 b3;refine ρ ?_;refine stb (cs':=[.slice aq zk.length ag,.bool d,.pointer zp]) b3 ?_ (Jwr rfl);intro w3 ao bd au;have a1:Ext w1 w3:=au w1 av b2;have a5:Ext w3 w3.drew:=(Ext.refl w3).drew;have a8:=a2.trans (a1.trans a5);have a9:=ao.ext a5;have an:¬ (Value.slice LA o.length lc).ownBlock=some bb:=λe=>by have:=(O bb e).2;omega
  refine ρ ?_;refine drN (λk=>(Value.slice LA o.length lc).ownBlock=some k) 10 [(0,0),(0,1),(0,2),(0,4),(0,5),(1,3),(0,6),(1,7),(1,8),(0,9)] kr ?_;refine ρn ?_;refine nld (Jm (a9.at (i:=0) rfl) an) ?_;refine ρn ?_;refine Xd (cs:=[.bool d,.pointer zp]) (λw' hg j u hu=>Jm (a9.sub (i:=1) (j:=j) (by rw [Nat.add_comm];exact hu)) (by rw [Uf];exact an) w' hg) ?_;refine ρn ?_;refine nop ?_;refine cl (Jxd (r:=zk) (ab.v.ext a8) (λk=>N k∨(Value.slice LA o.length lc).ownBlock=some k) λk U=>?_) ?_
  .rcases U with Z|Z
   .exact nM (hN k Z) a8.size
   .exact nM (O k Z).2 (a1.trans a5).size
  rintro kv w4 ⟨ak,aj⟩;obtain ⟨G,C,rfl,_⟩:=id ak;refine ρ ?_;refine Je (GrN.ext aj) ?_;refine ρn ?_;refine Idq (Qqj _ G _ C d zp rfl) ?_;refine ρn ?_;refine nop ?_;refine bsl (Qqb _ G _ C d zp rfl) ?_;intro w5 b5 ac be b4;refine ρ ?_;refine Je (GrN.ext ac) ?_;refine ρn ?_;refine nop ?_;have J:Ext w1 w5:=((a1.trans a5).trans aj).trans ac;have a3:=a2.trans J;refine apb (m':=1) (news:=[.slice G zk.length C,.bool d,.pointer zp]) EBk (Jk ae J) (b4.rd (n:=1) rfl) (Jwr rfl) (by unfold maxLen;omega) om a3.size ?_;intro v6 w6 aw af ax;have b6:∀ g,(Value.slice LA o.length lc).ownBlock=some g->g<w5.heap.size:=λg eg=>nM (O g eg).2 J.size;refine ρ ?_;refine Je (GrN.by af λg eg=>eg) ?_;refine ρn ?_;refine ρ ?_;have key:∀ p:List Value×BkT,BkE d (λk=>N k∨(Value.slice LA o.length lc).ownBlock=some k) w5 p.1 p.2->BkE d (λk=>N k∨v6.ownBlock=some k) w6 p.1 p.2:=λp h1=>by
   have h2:BkE d (λk=>(N k∨(Value.slice LA o.length lc).ownBlock=some k)∨v6.ownBlock=some k) w5 p.1 p.2:=h1.old λk U=>by
    rcases U with Z|Z
    .exact .inl Z
    .rcases ax k Z with h''|h''
     .exact .inl (.inr h'')
     .exact .inr h''
   exact (h2.gr (GrN.by af λk U=>.inl (.inr U))).old λk U=>.inl (U.elim (λZ=>.inl (.inl Z)) .inr)
  have ah:TrV (λk=>N k∨(Value.slice LA o.length lc).ownBlock=some k) w5 zt (.pointer zp):=by
   refine TrV.ext (TrV.old ?_ aa) a3;intro k U;rcases U with Z|Z
   .exact .inl Z
   .exact .inr (O k Z).1
  refine Jg (i+1) v6 sO ⟨li,Qv a3 af (λg eg=>(O g eg).1),o++[([.slice G zk.length C,.bool d,.pointer zp],(zk,zt))],?_,?_,λq hq=>?_⟩ om
  .rw [List.length_append,List.length_singleton];have e:Qj (o++[([.slice G zk.length C,.bool d,.pointer zp],(zk,zt))])=Qj o++[.slice G zk.length C,.bool d,.pointer zp]:=by simp [Qj]
   rw [e];exact aw
  .rw [List.map_append,a7,List.take_succ_eq_append_getElem (by rw [List.length_map];exact li),List.getElem_map,<-hz];rfl
  .rcases List.mem_append.1 hq with h1|h1
   .exact ⟨(a6 q h1).1,key q ((a6 q h1).2.ext J)⟩
   .rw [List.mem_singleton.1 h1];exact ⟨rfl,key ([.slice G zk.length C,.bool d,.pointer zp],(zk,zt)) ⟨_,_,rfl,ak.ext ac,ah⟩⟩
 have b1:i=ps.length:=by have:=oF h;omega
 rw [b1,List.take_of_length_le (by rw [List.length_map];exact Nat.le_refl _)]at a7;refine ρ ?_;refine Jj ⟨⟨o,LA,lc,a7.symm,rfl,ay,om,Rd.own ae,λh0 ad e U=>?_,λp hp=>⟨(a6 p hp).1,?_⟩⟩,a2⟩
 .have:=(O ad.block (by rw [e];simp [Value.ownBlock])).1;have:=hN _ U;omega
 .exact (a6 p hp).2.old λk U=>.inl (.inl U)
def Vf(bs:List BkT)(k:Row): Option Nat:=bs.findIdx? λb=>decide (b.1=k)
theorem Qgs(bs:List BkT)(b:BkT)(k:Row)(h:b.1 ∉ bs.map (·.1)): Vf (bs++[b]) k=if b.1=k then some bs.length else Vf bs k:=by
 unfold Vf;rw [List.findIdx?_append];by_cases e:b.1=k
 .rw [if_pos e];have:bs.findIdx? (λc=>decide (c.1=k))=none:=by
   rw [List.findIdx?_eq_none_iff];intro c o;exact dF λu=>h (by rw [e];exact List.mem_map.2 ⟨c,o,u⟩)
  rw [this];simp [List.findIdx?_cons,e]
 .rw [if_neg e];cases hf:bs.findIdx? (λc=>decide (c.1=k)) with
  | some c=>simp
  | none=>simp [List.findIdx?_cons,e]
structure VarQ(N:Nat->Prop)(d:Bool)(w:World)(bv pv:Value)(bs:List BkT): Prop where
 bks:DnB N d w bv bs
 plc:∃ mb m fm,pv=.map (some mb)/\m<=1000000/\(MapS Tryz.prog 9 w mb m fm/\¬ N mb)/\∀ k:Row,fm (.string (idn k))=(Vf bs k).map λi=>.int .i64 (i:Int)
theorem VarQ.gr{N:Nat->Prop}{d:Bool}{w w':World}{bv pv:Value}{bs:List BkT}(h:VarQ N d w bv pv bs)(hg:GrN N w w'): VarQ N d w' bv pv bs:=by
 refine ⟨h.bks.gr hg,?_⟩;obtain ⟨u,m,fm,O,J,⟨G,o⟩,C⟩:=h.plc;exact ⟨u,m,fm,O,J,⟨G.gr hg o,o⟩,C⟩
theorem VarQ.none{N:Nat->Prop}{d:Bool}{w:World}{bv pv:Value}{bs:List BkT}(h:VarQ N d w bv pv bs): VarQ (λ_=>False) d w bv pv bs:=by
 refine ⟨h.bks.old λk u=>u.elim,?_⟩;obtain ⟨o,m,fm,O,J,⟨G,U⟩,C⟩:=h.plc;exact ⟨o,m,fm,O,J,⟨G,λe=>e⟩,C⟩
structure IxV(w:World)(x:Value)(f:Nat)(ds:List Bool)(kf:Nat->Nat)(pf:Nat->Int)(BB:Nat->List BkT)(tot:Nat): Prop where
 ex:∃ DA dc BA cb KA ck PA cp tv kvs pvs,x=.agg #[.slice DA f dc,.slice BA f cb,.slice KA f ck,.slice PA f cp,tv]/\f<=dc/\f<=cb/\RdB w DA ds/\Rd w 3 BA f (Qf f (Qb kf pf))/\Rd w 1 KA f kvs/\Rd w 1 PA f pvs/\NatV w tv tot /\
  ∀ v,v<f->VarQ (λ_=>False) (ds.getD v false) w (kvs.getD v (.slice none 0 0)) (pvs.getD v (.map none)) (BB v)
 dl:ds.length=f
 f32:f<=32
theorem IxV.ext{w w':World}{x:Value}{f:Nat}{ds:List Bool}{kf:Nat->Nat}{pf:Nat->Int}{BB:Nat->List BkT}{tot:Nat}(h:IxV w x f ds kf pf BB tot)(hx:Ext w w'): IxV w' x f ds kf pf BB tot:=by
 obtain ⟨DA,dc,BA,cb,KA,ck,PA,cp,C,u,o,h1,h2,h3,h4,h5,Z,U,O,J⟩:=h.ex;exact ⟨⟨DA,dc,BA,cb,KA,ck,PA,cp,C,u,o,h1,h2,h3,Rd.ext h4 hx,h5.ext hx,Z.ext hx,U.ext hx,O.ext hx,λv G=>(J v G).gr (GrN.ext hx)⟩,h.dl,h.f32⟩
theorem Jyj: Qt Tryz.prog 31=some (.agg #[.slice none 0 0,.slice none 0 0,.slice none 0 0,.slice none 0 0,.slice none 0 0]):=kr
theorem Qnn(A B C:Option Addr)(a b c a' b' c':Nat)(w:World): (Instr.build 31 #[(0,.slice A a a'),(1,.slice B b b'),(4,.slice C c c')]).run Tryz.prog w=.ok (.agg #[.slice A a a',.slice B b b',.slice none 0 0,.slice none 0 0,.slice C c c']) w:=kr
theorem Qcr{A B C D E:Option Addr}{a b c d e a' b' c' d' e':Nat}: ∀ u∈[Value.slice A a a',.slice B b b',.slice C c c',.slice D d d',.slice E e e'],u.oneCell'=true:=λu o=>by
 simp only [List.mem_cons,List.not_mem_nil,or_false]at o;rcases o with rfl|rfl|rfl|rfl|rfl<;>rfl
theorem EBks: ElT Tryz.prog 26 134 1 24 (.slice none 0 0):=⟨Tryz.underlying26,info_parts kr,rfl,by decide⟩
theorem EPls: ElT Tryz.prog 27 219 1 8 (.map none):=⟨Tryz.underlying27,info_parts kr,rfl,by decide⟩
theorem Yd(z:Value)(h:z.cells = #[z])(n:Nat): (madeCells z.cells (n*1)).toList=List.replicate n z:=by rw [Nat.mul_one,h];exact Uj _ _
theorem Qpq{B0 f dc cb ck tot:Nat}{w:World}{DA BA KA:Option Addr}{ds:List Bool}{kf:Nat->Nat}{pf:Nat->Int}{bvs:List Value}{BB:Nat->List BkT}{tv:Value}{M:Nat->Prop}(hTB:TB B0 w)(hdl:ds.length=f)(f32:f<=32)(hD:RdB w DA ds)(hBg:Rd w 3 BA f (Qf f (Qb kf pf)))(hK:Rd w 1 KA f bvs)(hel:∀ v,v<f->DnB M (ds.getD v false) w (bvs.getD v (.slice none 0 0)) (BB v))(htv:NatX M w tv tot)(hM:∀ k,M k->k<w.heap.size)(hfit:∀ v,v<f->∀ b∈BB v,FitR b.1)(hlt:∀ v,v<f->Lt [] ((BB v).map (·.1))):
  Ret Tryz.prog 86 [.slice DA f dc,.slice BA f cb,.slice KA f ck,tv] w λu w'=>Off M w' (λW=>IxV W u f ds kf pf BB tot)/\IxV w' u f ds kf pf BB tot/\Ext w w':=by
 obtain ⟨TA,tc,rfl,g0⟩:=id htv.1;have ff:Rd w 1 DA f (ds.map Value.bool):=hdl ▸ hD;refine Jz Tryz.func86 Tryz.ntmps86 rfl kr rfl ?_;refine ρ ?_;refine alc Jyj ?_;intro w1 b8 ao dx d9;refine ρ ?_;refine cl (Qmn (ff.ext ao) (λu hu=>by obtain ⟨b,_,rfl⟩:=List.mem_map.1 hu;rfl) om) ?_;rintro _ w2 ⟨⟨bp,c3,rfl,du,bl,f6⟩,an⟩;refine ρ ?_;refine cl (Qjp ((hBg.ext ao).ext an) (Jsv _ _ _) om) ?_;rintro _ w3 ⟨⟨bq,c4,rfl,dv,cp,f7⟩,am⟩;refine ρ ?_;refine bld (Qnn _ _ _ _ _ _ _ _ _ _) ?_;refine ρ ?_;refine alc Jyj ?_;intro w4 b9 ey ar fg;refine ρ ?_;refine stW fg ?_;intro w5 eh g4 ex;have a9:Ext w3 w5:=ex w3 ey ar;have c7:Ext w w5:=((ao.trans an).trans am).trans a9;have b3:Ext w5 w5.drew:=(Ext.refl w5).drew;have bm:=eh.ext b3;refine ρ ?_;refine drH (λi=>Nat.beq i 7 || Nat.beq i 9) ?_;refine Zf (fuel':=8) 8 [(0,0),(0,1)] #[true,true,false,false,false,false,false,false,false,false] kr kr rfl ?_
 refine ρd ?_;refine Xx ?_;refine Yf (fuel':=7) 3 kr kr rfl rfl ?_;refine ρp ?_;refine ρd ?_;refine Xx ?_;refine Yf (fuel':=6) 4 kr kr rfl rfl ?_;refine ρp ?_;refine ρd ?_;refine Xx ?_;have g5:w5.drew.heap.size=w5.heap.size:=rfl;refine hcut 2 (lst 10 8) (fun (y:Option Addr×Option Addr)=>[(24,.slice y.2 f f),(9,.pointer (some ⟨b9,0,none⟩)),(8,.pointer (some ⟨b8,0,none⟩)),(0,.slice DA f dc),(2,.slice KA f ck)])
  (λy W=>GrN (λk=>k=b9) w5.drew W/\Blk W b9 31 [.slice bp f c3,.slice bq f c4,.slice y.1 f f,.slice none 0 0,.slice TA (Jq tot).length tc] /\
   W.ownsRow w5.drew.heap.size 134 1 (.slice y.1 f f) f (List.replicate f (.slice none 0 0))/\W.ownsRow w5.drew.heap.size 219 1 (.slice y.2 f f) f (List.replicate f (.map none))) ?_ ?_
 rotate_left
 .intro rest;refine itwo 2 5 kr rfl rfl rfl ?_ ?_
  .refine mkn EBks f om (by unfold maxLen;omega) ?_;intro w6 G aa ah _;rw [Yd _ rfl]at ah;refine Jh (Gl (λ_=>aa) ?_);refine Yf (fuel':=4) 6 kr kr rfl rfl ?_;refine ρp ?_;refine ρd ?_;refine Xx ?_;refine itwo 5 7 kr rfl rfl rfl ?_ ?_
   .refine mkn EPls f om (by unfold maxLen;omega) ?_;intro w7 J a1 af _;rw [Yd _ rfl]at af;refine Jh (Gl (λ_=>a1) ?_);refine Jzj 7 kr rfl rfl ?_;have a5:=(bm.ext aa).ext a1;refine sto (a5.at (i:=2) rfl) (a5.frozen 2) ?_;refine Jh (Gl (λh=>by cases h) ?_);refine hlist (listed':=lst 10 8) kr ?_;have ab:GrN (λk=>k=b9) w7 (w7.setCell ⟨b9,2,none⟩ (.slice G f f)):=GrN.set _ rfl;refine rest (G,J) _ _ ⟨(GrN.ext (aa.trans a1)).trans ab,a5.set 2 _,Jr (Jk ah a1) ab λg Z e=>?_,Jr (af.mono aa.size) ab λg Z e=>?_⟩ sB
    .rw [e]at Z;exact a5.ne_own (Jk ah a1) rfl Z.symm
    .rw [e]at Z;exact a5.ne_own af rfl Z.symm
   .have ae:=bm.ext aa;refine sto (ae.at (i:=2) rfl) (ae.frozen 2) ?_;refine Jh (Gl (λh=>by cases h) ?_);refine Jzj 5 kr rfl rfl ?_;have ab:GrN (λk=>k=b9) w6 (w6.setCell ⟨b9,2,none⟩ (.slice G f f)):=GrN.set _ rfl;refine mkn EPls f om (by unfold maxLen;omega) ?_;intro w7 J a1 af _;rw [Yd _ rfl]at af;refine Jh (Gl (λ_=>a1) ?_);refine hlist (listed':=lst 10 8) kr ?_;refine rest (G,J) _ _ ⟨((GrN.ext aa).trans ab).trans (GrN.ext a1),(ae.set 2 _).ext a1,Jk (Jr ah ab λg Z e=>?_) a1,af.mono (nL aa.size ab.size)⟩ sB;rw [e]at Z;exact ae.ne_own ah rfl Z.symm
  .refine mkn EPls f om (by unfold maxLen;omega) ?_;intro w6 J aa au _;rw [Yd _ rfl]at au;refine Jh (Gl (λ_=>aa) ?_);refine Jzj 2 kr rfl rfl ?_;refine mkn EBks f om (by unfold maxLen;omega) ?_;intro w7 G a1 aw _;rw [Yd _ rfl]at aw;refine Jh (Gl (λ_=>a1) ?_);refine Yf (fuel':=3) 6 kr kr rfl rfl ?_;refine ρp ?_;refine ρd ?_;refine Xx ?_;refine Jzj 7 kr rfl rfl ?_;have a5:=(bm.ext aa).ext a1;refine sto (a5.at (i:=2) rfl) (a5.frozen 2) ?_;refine Jh (Gl (λh=>by cases h) ?_);refine hlist (listed':=lst 10 8) kr ?_;have ab:GrN (λk=>k=b9) w7 (w7.setCell ⟨b9,2,none⟩ (.slice G f f)):=GrN.set _ rfl;refine rest (G,J) _ _ ⟨(GrN.ext (aa.trans a1)).trans ab,a5.set 2 _,Jr (aw.mono aa.size) ab λg Z e=>?_,Jr (Jk au a1) ab λg Z e=>?_⟩ sB
   .rw [e]at Z;exact a5.ne_own aw rfl Z.symm
   .rw [e]at Z;exact a5.ne_own (Jk au a1) rfl Z.symm
 rintro ⟨G,J⟩ w6 ⟨ai,ae,ah,au⟩;simp only at ae ah au;refine Yf (fuel':=1) 8 kr kr rfl rfl ?_;refine ρp ?_;refine ρd ?_;refine Xx ?_;refine Jzj 9 kr rfl rfl ?_;refine sto (ae.at (i:=3) rfl) (ae.frozen 3) ?_;refine Jh (Gl (λh=>by cases h) ?_);refine hend kr ?_;obtain ⟨w7,bt⟩:∃ w7,w7=w6.setCell ⟨b9,3,none⟩ (.slice J f f):=⟨_,rfl⟩;have ac:GrN (λk=>k=b9) w6 w7:=by rw [bt];exact GrN.set _ rfl
 have a5:Blk w7 b9 31 [.slice bp f c3,.slice bq f c4,.slice G f f,.slice J f f,.slice TA (Jq tot).length tc]:=by rw [bt];exact ae.set 3 _
 have aw:=Jr ah ac λg Z e=>by rw [e]at Z;exact ae.ne_own ah rfl Z.symm
 have af:=Jr au ac λg Z e=>by rw [e]at Z;exact ae.ne_own au rfl Z.symm
 rw [show w6.setCell ((⟨b9,0,none⟩:Addr).add 3) (.slice (G,J).2 f f)=w7 from bt.symm];clear bt;obtain ⟨N,bv⟩:∃ N:Nat->Prop,N=λk=>(Value.slice G f f).ownBlock=some k∨(Value.slice J f f).ownBlock=some k:=⟨_,rfl⟩;obtain ⟨NB,bh⟩:∃ NB:Nat->Prop,NB=λk=>N k∨k=b8∨M k:=⟨_,rfl⟩;have ag:∀ {W W':World},GrN N W W'->GrN NB W W':=λhg=>hg.mono λk _ o=>by rw [bh];exact .inl o
 have lK:∀ g,(Value.slice G f f).ownBlock=some g->w5.heap.size<=g/\g<w7.heap.size:=(Jv aw).choose_spec.choose_spec.2.2;have lP:∀ g,(Value.slice J f f).ownBlock=some g->w5.heap.size<=g/\g<w7.heap.size:=(Jv af).choose_spec.choose_spec.2.2;have av:∀ k,N k->w5.heap.size<=k/\k<w7.heap.size:=λk o=>by
  rw [bv]at o;exact o.elim (lK k) (lP k)
 have bw:¬ N b9:=λo=>by
  rw [bv]at o;rcases o with h'|h'
  .exact a5.ne_own aw rfl h'.symm
  .exact a5.ne_own af rfl h'.symm
 have df:Ext w w7:=by
  have h1:Ext w3 w6:=(ai.old (a9.trans b3) λk o=>by rw [o];exact ar);have h2:Ext w3 w7:=ac.old h1 λk o=>by rw [o];exact ar
  exact ((ao.trans an).trans am).trans h2
 have fx:b8<w3.heap.size:=nM d9.lt (an.trans am).size;have ek:Blk w7 b8 31 _:=Jd (Jd ((((d9.ext an).ext am).ext (a9.trans b3))) ai λe=>om) ac λe=>by omega
 have fd:Rd w7 1 bp f (ds.map Value.bool):=by
  have h1:Ext w3 w6:=(ai.old (a9.trans b3) λk o=>by rw [o];exact ar);have h2:Ext w3 w7:=ac.old h1 λk o=>by rw [o];exact ar
  exact Rd.ext (Rd.ext bl am) h2
 have ee:Rd w7 3 bq f (Qf f (Qb kf pf)):=by
  have h1:Ext w3 w6:=(ai.old (a9.trans b3) λk o=>by rw [o];exact ar);have h2:Ext w3 w7:=ac.old h1 λk o=>by rw [o];exact ar
  exact Rd.ext cp h2
 have fk:w5.heap.size<=w7.heap.size:=nL ai.size ac.size;have ez:w3.heap.size<=w5.heap.size:=a9.size;refine ρ ?_;refine Xr (fun (v:Nat) (C O:List Value)=>[(8,.pointer (some ⟨b8,0,none⟩)),(9,.pointer (some ⟨b9,0,none⟩)),(2,.slice KA f ck),(28,.int .i64 (f:Int)),(29,.int .i64 (v:Int))])
  (λv C O w'=>v<=f/\GrN N w7 w'/\w'.ownsRow w5.drew.heap.size 134 1 (.slice G f f) f C/\w'.ownsRow w5.drew.heap.size 219 1 (.slice J f f) f O /\
   ∀ u,u<v->VarQ NB (ds.getD u false) w' (C.getD u (.slice none 0 0)) (O.getD u (.map none)) (BB u)) (λv _ _=>f-v) 0 _ _ sB
  ⟨Nat.zero_le _,GrN.refl _ _,aw,af,λu hu=>om⟩ ?_
 rintro v C O w8 ⟨hv,a3,d4,cy,e3⟩;have ay:=Jd a5 a3 bw;have a2:Ext w w8:=a3.old df λk o=>by have:=(av k o).1;have:=c7.size;omega
 refine ρ ?_;refine ci (λh=>?_) (λh=>?_)
 .have lv:v<f:=by have:=oT h;omega
  clear h;obtain ⟨d,hd⟩:∃ d,d=ds.getD v false:=⟨_,rfl⟩;have cc:=hel v lv;rw [<-hd]at cc;have fu:bvs.length=f:=by have:=hK.len;omega
  have g3:C.length=f:=by have:=d4.1;omega
  have g1:O.length=f:=by have:=cy.1;omega
  have cz:∀ k,N k->w.heap.size<=k:=λk o=>nL c7.size (av k o).1;have a8:Ext w8 w8.drew:=(Ext.refl w8).drew;have bn:=ay.ext a8;have cn:=Jk d4 a8;have ce:=Jk cy a8;have fb:Rd w8.drew 1 KA f bvs:=hK.ext (a2.trans a8);have e7:∀ g,(Value.slice G f f).ownBlock=some g->N g:=λg Z=>by rw [bv];exact .inl Z
  have d0:∀ g,(Value.slice J f f).ownBlock=some g->N g:=λg Z=>by rw [bv];exact .inr Z
  have cd:∀ (W:World) (N':Nat->Prop),Ext w W->(∀ k,N' k->(M k∨w.heap.size<=k)/\k<W.heap.size)->Ret Tryz.prog 116 [bvs.getD v (.slice none 0 0)] W λu w'=>DnB N' d w' u (BB v)/\Ext W w':=λW N' ew e8=>
   Qll ((((cc.old (N':=λk=>M k∨w.heap.size<=k) λk o=>o)).ext ew).old λk o=>.inl (e8 k o).1) λk o=>(e8 k o).2
  have b5:∀ (W:World) (C:List Value) (u:Value),W.ownsRow w5.drew.heap.size 134 1 (.slice G f f) f C->W.ownsRow w5.drew.heap.size 219 1 (.slice J f f) f O ->
    W.cell? (adr G v)=C[v]?/\W.frozen? (adr G v)=false/\(W.setCell (adr G v) u).ownsRow w5.drew.heap.size 134 1 (.slice G f f) f (C.set v u)/\(W.setCell (adr G v) u).ownsRow w5.drew.heap.size 219 1 (.slice J f f) f O/\GrN N W (W.setCell (adr G v) u):=λW C u eb f9=>by
   obtain ⟨s1,s2,s3,s4,s5⟩:=Zd eb (q:=v) om u;exact ⟨s1,s2,s3,Xe f9 eb s5 rfl,GrN.by s5 e7⟩
  refine ρ ?_;refine drM N ?_;refine Yo (fuel':=6) [(0,0),(0,1),(0,2),(0,3),(0,4),(0,5),(0,6),(0,7),(0,8),(0,9)] (lst 16 10) kr kr rfl ?_;refine ρn ?_;refine nld (Jm (bn.at (i:=2) rfl) bw) ?_;refine ρn ?_;refine nld (Jm (bn.at (i:=3) rfl) bw) ?_;refine ρn ?_;refine nix v fb lv ?_;refine ρn ?_;refine nld (v:=bvs.getD v (.slice none 0 0)) (λw' hg=>Uv (hg.old (a2.trans a8) cz) (hK.cell (show bvs[v]?=some (bvs.getD v (.slice none 0 0)) by simp [List.getD,List.getElem?_eq_getElem (show v<bvs.length by omega)]))) ?_;refine ρn ?_;refine Yu ?_;refine mcut 2 (lst 16 14) (fun (y:Value×Nat)=>[(43,.map (some y.2)),(36,.slice J f f),(37,.int .i64 (v:Int)),(10,.int .i64 (v:Int)),(8,.pointer (some ⟨b8,0,none⟩)),(9,.pointer (some ⟨b9,0,none⟩)),(2,.slice KA f ck),(28,.int .i64 (f:Int)),(29,.int .i64 (v:Int))])
   (λy W=>GrN N w8.drew W/\W.ownsRow w5.drew.heap.size 134 1 (.slice G f f) f (C.set v y.1)/\W.ownsRow w5.drew.heap.size 219 1 (.slice J f f) f O/\DnB (λk=>NB k∨k=y.2) d W y.1 (BB v)/\MapS Tryz.prog 9 W y.2 0 (λ_=>none)/\w8.heap.size<=y.2) ?_ ?_
  rotate_left
  .intro rest;have ax:∀ k,NB k->(M k∨w.heap.size<=k)/\k<w8.heap.size:=λk o=>by
    rw [bh]at o;rcases o with o|o|o
    .exact ⟨.inr (cz k o),Nat.lt_of_lt_of_le (av k o).2 a3.size⟩
    .have:=a3.size;rw [o];exact ⟨.inr dx,om⟩
    .exact ⟨.inl o,Nat.lt_of_lt_of_le (hM k o) a2.size⟩
   have bg:∀ k,N k->k<w8.heap.size:=λk o=>nM (av k o).2 a3.size;refine Jqk 10 11 kr rfl rfl rfl ?_ ?_
   .refine cl (cd _ NB (a2.trans a8) ax) ?_;rintro u W1 ⟨c1,a4⟩;have d5:=Jk cn a4;have e5:=Jk ce a4;refine Jh (Xy (GrN.ext a4) ?_);refine Yo (fuel':=4) [(0,12)] #[true,true,true,true,true,true,true,true,true,true,true,false,true,false,false,false] kr kr rfl ?_;refine ρn ?_;refine nix v (Rd.own d5) lv ?_;refine ρn ?_;refine Yu ?_;refine Jqk 11 13 kr rfl rfl rfl ?_ ?_
    .refine mkm 9 ?_;intro W2 mb U ap d3;refine Jh (Xy (GrN.ext U) ?_);refine Vc 13 kr rfl rfl ?_;obtain ⟨s1,s2,s3,s4,s5⟩:=b5 W2 C u (Jk d5 U) (Jk e5 U);refine sto (s1.trans (show C[v]?=some (C.getD v (.slice none 0 0)) by simp [List.getD,List.getElem?_eq_getElem (show v<C.length by omega)])) s2 ?_ rfl rfl rfl rfl rfl (by obtain ⟨_,_,_,_,e,_⟩:=c1;rw [e];rfl);refine Jh (Xy s5 ?_);refine Gh (listed':=lst 16 14) kr ?_;refine rest (u,mb) _ _ ⟨(GrN.ext (a4.trans U)).trans s5,s3,s4,?_,d3.gr s5 λo=>?_,Nat.le_trans a4.size ap⟩ sB
     .exact (((c1.old (N':=λk=>NB k∨k=mb) λk o=>o.imp id λe=>by rw [e];exact ap).ext U).gr ((ag s5).mono λk _ o=>.inl o))
     .have h1:=bg _ o;have h2:w8.heap.size<=W1.heap.size:=a4.size;omega
    .obtain ⟨s1,s2,s3,s4,s5⟩:=b5 W1 C u d5 e5;refine sto (s1.trans (show C[v]?=some (C.getD v (.slice none 0 0)) by simp [List.getD,List.getElem?_eq_getElem (show v<C.length by omega)])) s2 ?_ rfl rfl rfl rfl rfl (by obtain ⟨_,_,_,_,e,_⟩:=c1;rw [e];rfl);refine Jh (Xy s5 ?_);refine Vc 11 kr rfl rfl ?_;refine mkm 9 ?_;intro W2 mb U ap d3;refine Jh (Xy (GrN.ext U) ?_);refine Gh (listed':=lst 16 14) kr ?_;refine rest (u,mb) _ _ ⟨((GrN.ext a4).trans s5).trans (GrN.ext U),Jk s3 U,Jk s4 U,?_,d3,Nat.le_trans a4.size (nL s5.size ap)⟩ sB;exact ((c1.gr (ag s5)).old (N':=λk=>NB k∨k=mb) λk o=>o.imp id λe=>by rw [e];exact ap).ext U
   .refine mkm 9 ?_;intro W1 mb a4 ap ea;refine Jh (Xy (GrN.ext a4) ?_);refine Vc 10 kr rfl rfl ?_;have fo:=ea.lt;have dj:w8.heap.size<=mb:=ap;have g6:w8.heap.size<=W1.heap.size:=a4.size;refine cl (cd _ (λk=>NB k∨k=mb) ((a2.trans a8).trans a4) λk o=>?_) ?_
    .rcases o with o|o
     .have:=ax k o;exact ⟨this.1,om⟩
     .have:=a2.size;exact ⟨.inr om,om⟩
    rintro u W2 ⟨bl,U⟩;have co:=Jk (Jk cn a4) U;have fa:=Jk (Jk ce a4) U;refine Jh (Xy (GrN.ext U) ?_);refine Yo (fuel':=3) [(0,12)] (lst 16 13) kr kr rfl ?_;refine ρn ?_;refine nix v (Rd.own co) lv ?_;refine ρn ?_;refine Yu ?_;refine Vc 13 kr rfl rfl ?_;obtain ⟨s1,s2,s3,s4,s5⟩:=b5 W2 C u co fa;refine sto (s1.trans (show C[v]?=some (C.getD v (.slice none 0 0)) by simp [List.getD,List.getElem?_eq_getElem (show v<C.length by omega)])) s2 ?_ rfl rfl rfl rfl rfl (by obtain ⟨_,_,_,_,e,_⟩:=bl;rw [e];rfl);refine Jh (Xy s5 ?_);refine Gh (listed':=lst 16 14) kr ?_;refine rest (u,mb) _ _ ⟨(GrN.ext (a4.trans U)).trans s5,s3,s4,bl.gr ((ag s5).mono λk _ o=>.inl o),(ea.ext U).gr s5 λo=>?_,dj⟩ sB;have:=bg _ o;omega
  rintro ⟨u,mb⟩ w9 ⟨bb,bz,bf,d7,d2,di⟩;simp only at bz d7 d2 di;refine Yo (fuel':=1) [(0,14)] (lst 16 15) kr kr rfl ?_;refine ρn ?_;refine nix v (Rd.own bf) lv ?_;refine ρn ?_;refine Yu ?_;refine Vc 15 kr rfl rfl ?_;obtain ⟨r1,r2,r3,r4,r5⟩:=Zd bf (q:=v) om (.map (some mb));refine sto (r1.trans (show O[v]?=some (O.getD v (.map none)) by simp [List.getD,List.getElem?_eq_getElem (show v<O.length by omega)])) r2 ?_;have b6:=GrN.by r5 d0
  refine Jh (Xy b6 ?_);refine mend kr ?_;obtain ⟨b1,c8⟩:∃ b1,b1=w9.setCell (adr J v) (.map (some mb)):=⟨_,rfl⟩;rw [<-c8]at r3 r5 b6 ⊢;clear c8;have ax:∀ k,N k->k<w8.heap.size:=λk o=>nM (av k o).2 a3.size;have aj:¬ N mb:=λo=>by have:=ax _ o;omega
  have d1:¬ NB mb:=λo=>by
   rw [bh]at o;rcases o with o|o|o
   .exact aj o
   .have:=a3.size;omega
   .have:=hM _ o;have:=a2.size;omega
  have aq:=(GrN.ext (N:=N) a8).trans (bb.trans b6);have bo:=Jd ay aq bw;have bi:=Xe bz bf r5 rfl;have ed:=d7.gr ((ag b6).mono λk _ o=>.inl o);have cm:=d2.gr b6 aj;have c5:Ext w b1:=aq.old a2 cz;have f3:=cm.lt;clear d7 d2;obtain ⟨ps,GA,gc,c2,rfl,f5,dh,d6,ec,c0⟩:=ed;have dm:(C.set v (.slice GA ps.length gc))[v]?=some (.slice GA ps.length gc):=by rw [List.getElem?_set_self om]
  have dw:¬ b9=mb:=λe=>by have:=ay.lt;omega
  have dl:ps.length=(BB v).length:=by rw [c2,List.length_map]
  have f8:=hTB.ext c5;refine ρ ?_;refine ld (bo.at (i:=2) rfl) ?_;refine ρ ?_;refine ix v (Rd.own bi) lv ?_;refine ρ ?_;refine ld ((Rd.own bi).cell dm) ?_;refine ρ ?_;refine Xr (fun (i:Nat) (mc:Nat) (fm:Lit->Option Value)=>[(8,.pointer (some ⟨b8,0,none⟩)),(9,.pointer (some ⟨b9,0,none⟩)),(2,.slice KA f ck),(10,.int .i64 (v:Int)),(28,.int .i64 (f:Int)),(29,.int .i64 (v:Int)),(50,.slice GA ps.length gc),(51,.int .i64 (ps.length:Int)),(52,.int .i64 (i:Int))])
   (λi mc fm w'=>i<=ps.length/\GrN (λk=>k=mb) b1 w'/\MapS Tryz.prog 9 w' mb mc fm/\mc<=i/\∀ k:Row,fm (.string (idn k))=(Vf ((BB v).take i) k).map λj=>.int .i64 (j:Int)) (λi _ _=>ps.length-i) 0 0 (λ_=>none) sB
   ⟨Nat.zero_le _,GrN.refl _ _,cm,Nat.le_refl _,λk=>rfl⟩ ?_
  rintro i mc fm ak ⟨hi,a6,cj,g2,cw⟩;refine ρ ?_;refine ci (λh=>?_) (λh=>?_)
  .have li:i<ps.length:=by have:=oT h;omega
   clear h;obtain ⟨z,hz⟩:∃ z,z=ps[i]:=⟨_,rfl⟩;have cq:z∈ps:=by rw [hz];exact List.getElem_mem li
   have eu:z.2∈BB v:=by rw [c2];exact List.mem_map_of_mem cq
   have bc:GrN (λk=>NB k∨k=mb) b1 ak:=a6.mono λk _ o=>.inr o;have bj:=Zo d6 bc λh0 ad e=>ec (by have:=d6.1;omega) ad e;have cx:=(c0 z cq).2.gr bc;have be:∀ j u,z.1[j]?=some u->ak.cell? ((adr GA (i*3)).add j)=some u:=λj u hu=>by
    have hj:j<3:=by have:=(List.getElem?_eq_some_iff.1 hu).1;have:=(c0 z cq).1;omega
    rw [Xb];refine bj.cell ?_;rw [Kg (p:=z) (λp hp=>(c0 p hp).1) (by rw [hz];exact List.getElem?_eq_getElem li) hj];exact hu
   obtain ⟨kv,zq,fh,et,er⟩:=id cx;obtain ⟨zp,rfl⟩:=er.ptr;have bd:=hfit v lv z.2 eu;obtain ⟨eo,db,rfl,fq,fp,dn,_⟩:=id et;rw [fh]at be;have cr:Ext w ak:=a6.old c5 λk o=>by rw [o];have:=a2.size;omega
   have d8:=Jd bo a6 dw;have e4:=Jr r3 a6 λg Z e=>aj (by rw [<-e];exact d0 g Z);refine ρ ?_;refine ixq 3 i bj li ?_;refine ρ ?_;refine lds (cs:=[.slice eo z.2.1.length db,.bool d,.pointer zp]) be ?_;refine ρ ?_;refine alc Jyk ?_;intro fz g7 de dz el;refine ρ ?_;refine stb (cs':=[.slice eo z.2.1.length db,.bool d,.pointer zp]) el ?_ (Jwr rfl);intro br da ft dd;have bs:Ext ak br:=dd ak de dz;have b2:Ext br br.drew:=(Ext.refl br).drew;have a7:=bs.trans b2;have cg:=Rd.own (Jk e4 a7);refine ρ ?_;refine drN (λ_=>False) 10 [(0,0),(0,1),(0,2),(0,3),(0,4),(0,5),(0,6),(0,8),(1,7),(2,9)] kr ?_;refine ρn ?_;refine nld (Jm ((d8.ext a7).at (i:=3) rfl) (λe=>e)) ?_;refine ρn ?_;refine nix v cg lv ?_;refine ρn ?_;refine nld (Jm (cg.cell (show (O.set v (.map (some mb)))[v]?=some (.map (some mb)) by rw [List.getElem?_set_self om])) (λe=>e)) ?_;refine ρn ?_
   refine nld (Jm ((da.ext b2).at (i:=0) rfl) (λe=>e)) ?_;refine ρn ?_;refine nop ?_;refine cl (Jqs (r:=z.2.1) (hTB.ext (cr.trans a7)) (dn.ext a7) (λu hu=>(bd.2 u hu).1) (by have:=bd.len;omega) (by have:=bd.1;omega)) ?_;rintro un fy ⟨rfl,b4⟩;refine ρ ?_;refine Je (GrN.ext b4) ?_;refine ρn ?_;refine Xv ?_;refine mup KS ((cj.ext a7).ext b4) (by unfold maxLen;omega) (Ua bd) ?_;intro ep e9 dt;have bu:GrN (λk=>k=mb) ak ep:=(GrN.ext (a7.trans b4)).trans (GrN.by dt λk o=>by injection o with o;exact o.symm);refine ρ ?_;refine Qa (i+1) (mc+1) (upL fm (.string (idn z.2.1)) (some (.int .i64 (i:Int)))) sO ⟨li,a6.trans bu,e9,om,λk=>?_⟩ om;have en:(BB v).take (i+1)=(BB v).take i++[z.2]:=by
    rw [c2,List.take_succ_eq_append_getElem (by rw [List.length_map];exact li),List.getElem_map,hz]
   have f2:z.2.1 ∉ ((BB v).take i).map (·.1):=by
    have h1:=hlt v lv;rw [<-List.take_append_drop (i+1) (BB v),en,List.map_append,List.map_append]at h1;intro hm;have h2:=(List.pairwise_append.1 (List.pairwise_append.1 h1).1).2.2 _ hm z.2.1 (by simp);rw [Vo]at h2;omega
   rw [en,Qgs _ _ _ f2];have dk:((BB v).take i).length=i:=by rw [List.length_take];omega
   by_cases e:z.2.1=k
   .rw [if_pos e,<-e,Gx (KS.key (Ua bd)),dk];rfl
   .rw [if_neg e,Yy (λe'=>e (Jvg (by injection e'.symm)))];exact cw k
  .have f4:i=ps.length:=by have:=oF h;omega
   clear h;have cv:(BB v).take i=BB v:=by rw [f4,dl,List.take_length]
   rw [cv]at cw;have dq:GrN N w8 ak:=by
    refine ((aq.mono λk _ o=>(.inl o:N k∨k=mb)).trans (a6.mono λk _ o=>.inr o)).mono λk o h=>?_;rcases h with h|h
    .exact h
    .omega
   have dg:∀ u,u<v->(C.set v (.slice GA ps.length gc)).getD u (.slice none 0 0)=C.getD u (.slice none 0 0)/\(O.set v (.map (some mb))).getD u (.map none)=O.getD u (.map none):=λu hu=>by
    constructor<;>simp [List.getD,List.getElem?_set_ne (show v≠u by omega)]
   have e0:(C.set v (.slice GA ps.length gc)).getD v (.slice none 0 0)=.slice GA ps.length gc/\(O.set v (.map (some mb))).getD v (.map none)=.map (some mb):=by
    constructor
    .rw [List.getD,dm];rfl
    .rw [List.getD,List.getElem?_set_self om];rfl
   have fc:DnB (λk=>NB k∨k=mb) d b1 (.slice GA ps.length gc) (BB v):=⟨ps,GA,gc,c2,rfl,f5,dh,d6,ec,c0⟩;refine ρ ?_;refine Qa (v+1) (C.set v (.slice GA ps.length gc)) (O.set v (.map (some mb))) sO ⟨lv,a3.trans dq,Jr bi a6 λg Z e=>aj (by rw [<-e];exact e7 g Z),Jr r3 a6 λg Z e=>aj (by rw [<-e];exact d0 g Z),λu hu=>?_⟩ om;by_cases e:u=v
   .subst e;rw [e0.1,e0.2,<-hd];refine ⟨(fc.gr (a6.mono λk _ o=>.inr o)).old λk o=>.inl (.inl o),mb,mc,fm,rfl,om,⟨cj,d1⟩,cw⟩
   .obtain ⟨e1,e2⟩:=dg u om;rw [e1,e2];exact (e3 u om).gr (ag dq)
 .have f0:v=f:=by have:=oF h;omega
  clear h;subst f0;refine ρ ?_;refine ldW ay ?_;refine ρ ?_;have e6:¬ N b8:=λo=>by have:=(av _ o).1;omega
  have ej:=Jd ek a3 e6;refine stW ej ?_;intro w9 ei bb fj;have ba:GrN (λk=>k=b8) w8 w9:=GrN.by bb λk o=>by injection o with o;exact o.symm
  have c6:Ext w w9:=ba.old a2 λk o=>by rw [o];exact dx
  have fw:b8<w1.heap.size:=d9.lt;have ch:∀ k,NB k->k<w1.heap.size∨w5.heap.size<=k:=λk o=>by
   rw [bh]at o;rcases o with o|o|o
   .exact .inr (av k o).1
   .left;omega
   .left;exact nM (hM k o) ao.size
  have em:∀ W,GrN M w9 W->IxV W (.agg #[.slice bp v c3,.slice bq v c4,.slice G v v,.slice J v v,.slice TA (Jq tot).length tc]) v ds kf pf BB tot:=λW hW=>by
   have b7:GrN (λk=>k=b8∨M k) w8 W:=(ba.mono λk _ o=>.inl o).trans (hW.mono λk _ o=>.inr o);have c9:GrN NB w8 W:=b7.mono λk _ o=>by rw [bh];exact .inr o
   have ca:GrN NB w7 W:=(ag a3).trans c9;have fe:=Zo fd ca λh0 ad e o=>by
    obtain ⟨fi,e',hb,_⟩:=bl.2 h0;rw [e]at e';injection e' with e';subst e'
    have h1:=f6 ad e;have h2:w2.heap.size<=w5.heap.size:=(am.trans a9).size;rcases ch _ o with h'|h'<;>omega
   have ef:=Zo ee ca λh0 ad e o=>by
    obtain ⟨fi,e',hb,_⟩:=cp.2 h0;rw [e]at e';injection e' with e';subst e'
    have h1:=f7 ad e;have h2:=an.size;rcases ch _ o with h'|h'<;>omega
   have fl:w1.heap.size<=w5.heap.size:=(an.trans (am.trans a9)).size;have bz:=Jr d4 b7 λg Z e=>by
    have h1:=(lK g Z).1;rcases e with e|e
    .omega
    .have:=hM g e;have:=ao.size;omega
   have bf:=Jr cy b7 λg Z e=>by
    have h1:=(lP g Z).1;rcases e with e|e
    .omega
    .have:=hM g e;have:=ao.size;omega
   refine ⟨⟨bp,c3,bq,c4,G,v,J,v,_,C,O,rfl,du,dv,?_,ef,Rd.own bz,Rd.own bf,((htv.ext c6).gr hW).1,λu hu=>?_⟩,hdl,f32⟩
   .unfold RdB;rw [hdl];exact fe
   .exact ((e3 u hu).gr c9).none
  refine ρ ?_;exact Jqv ei ⟨λW hW=>em W hW,em w9 (GrN.refl _ _),c6⟩
end Go.Proofs.YtebcagekopgdhaaGreatDoor
