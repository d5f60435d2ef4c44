/- Part 34 of the proof: Ix8. -/
import Derived.Test.YtefpailelagbkaaGreatDoorJ33
set_option linter.unusedVariables false
set_option maxRecDepth 100000
set_option maxHeartbeats 40000000
namespace Go.Proofs.YtefpailelagbkaaGreatDoor
open Go.RowKit Pl Go.Wk
attribute [local irreducible] WC WL QX WD WDB WP WN WG
theorem DnB.old{N N':Nat->Prop}{d:Bool}{w:World}{x:Value}{bs:List BkT}(h:DnB N d w x bs)(hs:∀ k,N' k->N k∨w.heap.size<=k): DnB N' d w x bs:=by
 obtain ⟨ps,A,c,Z,U,O,J,u,G,o⟩:=h;refine ⟨ps,A,c,Z,U,O,J,u,λh0 ad e D=>?_,λp i=>⟨(o p i).1,(o p i).2.old hs⟩⟩;rcases hs _ D with h'|h'
 ·exact G h0 ad e h'
 ·have C:0<(Jxf ps).length:=by rw [Jlw λp i=>(o p i).1];omega
  obtain ⟨a1,j,hb,_⟩:=u.2 C;rw [e]at j;injection j with j;subst j;omega
theorem DnB.ext{N:Nat->Prop}{d:Bool}{w w':World}{x:Value}{bs:List BkT}(h:DnB N d w x bs)(hx:Ext w w'): DnB N d w' x bs:=h.gr (GrN.ext hx)
theorem DnB.nil(N:Nat->Prop)(d:Bool)(w:World): DnB N d w (.slice none 0 0) []:=⟨[],none,0,rfl,rfl,Nat.le_refl _,by simp,Rd.nil,λh=>absurd h (by simp),λp i=>by cases i⟩
theorem Xvt(w:World): (Instr.buildSlice 28 0 #[]).run Tryz.prog w=.ok (.slice (some ⟨w.heap.size,0,none⟩) 0 0) (w.alloc (.cells ([]:List Value).toArray 195)):=by kernel_rfl
theorem Qvk{A:Option Addr}{n c:Nat}{cs:List Value}{w:World}(hr:Rd w 3 A n cs)(h1:∀ u∈cs,u.oneCell'=true)(hb:n*24<=140737488355328):
  Ret Tryz.prog 133 [.slice A n c] w λv w'=>(∃ A' c',v=.slice A' n c'/\n<=c'/\Rd w' 3 A' n cs/\∀ ad,A'=some ad->w.heap.size<=ad.block)/\Ext w w':=by
 refine Jjc Tryz.func133 Tryz.ntmps133 rfl (by kernel_rfl) rfl ?_;refine ρ ?_;refine Qrw ?_;refine ρ ?_;refine ci (λh=>?_) (λh=>?_)
 ·have O:A=none:=by simpa using h
  subst O;have hn:n=0:=by
   rcases Nat.eq_zero_or_pos n with h0|h0
   ·exact h0
   ·obtain ⟨ad,U,_⟩:=hr.isome h0 (by omega);cases U
  subst hn;refine ρ ?_;exact Jjr ⟨⟨none,0,rfl,Nat.le_refl _,hr,λad e=>by cases e⟩,Ext.refl w⟩
 ·refine ρ ?_;refine bsl Xvt ?_;intro w1 b j G D;refine ρ ?_;refine apo j EBg (D.own (n:=0) G rfl (Nat.zero_le _)) (hr.ext j) h1 (by unfold maxLen;omega) (by omega) ?_;intro v2 w2 i C _ _;obtain ⟨A2,Z,rfl,o,J⟩:=Jjd i;refine ρ ?_;rw [Nat.zero_add]at i o ⊢;exact Jjr ⟨⟨A2,Z,rfl,o,Rd.own i,λad e=>by subst e;exact (J ad.block rfl).1⟩,C⟩
theorem Jlx(n:Nat)(kf:Nat->Nat)(pf:Nat->Int): ∀ u∈Jxn n (Jvt kf pf),u.oneCell'=true:=λu j=>by
 obtain ⟨i,_,h⟩:=List.mem_flatMap.1 j;exact Jlf u h
theorem Qcd{N:Nat->Prop}{d:Bool}{w:World}{x:Value}{bs:List BkT}(h:DnB N d w x bs)(hN:∀ k,N k->k<w.heap.size):
  Ret Tryz.prog 107 [x] w λu w'=>DnB N d w' u bs/\Ext w w':=by
 obtain ⟨ps,A,c,rfl,rfl,hc,hl,hR,hA,am⟩:=h;refine Jjc Tryz.func107 Tryz.ntmps107 rfl (by kernel_rfl) rfl ?_;refine ρ ?_;refine Jqb (fun (i:Nat) (vl:Value)=>[(3,vl),(6,.slice A ps.length c),(7,.int .i64 (ps.length:Int)),(8,.int .i64 (i:Int))])
  (λi vl w'=>i<=ps.length/\Ext w w'/\∃ o:List (List Value×BkT),w'.ownsRow w.heap.size 141 3 vl o.length (Jxf o)/\o.map (·.2)=(ps.map (·.2)).take i/\∀ q∈o,q.1.length=3/\BkE d (λk=>N k∨vl.ownBlock=some k) w' q.1 q.2) (λi _=>ps.length-i) 0 (.slice none 0 0) sB
  ⟨Nat.zero_le _,Ext.refl _,[],Jxm _ _ _ _,rfl,λq hq=>by cases hq⟩ ?_
 rintro i vl w1 ⟨hi,a2,o,ae,a7,a6⟩;obtain ⟨LA,lc,rfl,ay,J⟩:=Jjd ae;have ba:o.length=i:=by have:=congrArg List.length a7;rw [List.length_map,List.length_take,List.length_map]at this;omega
 refine ρ ?_;refine ci (λh=>?_) (λh=>?_)
 ·have li:i<ps.length:=by have:=oT h;omega
  clear h;obtain ⟨z,hz⟩:∃ z,z=ps[i]:=⟨_,rfl⟩;have ar:z∈ps:=by rw [hz];exact List.getElem_mem li
  obtain ⟨b9,ai⟩:=am z ar;have a4:∀ j u,z.1[j]?=some u->w1.cell? ((adr A (i*3)).add j)=some u:=λj u hu=>by
   have hj:j<3:=by have:=(List.getElem?_eq_some_iff.1 hu).1;omega
   rw [Jqr];refine (hR.ext a2).cell ?_;rw [Jkk (p:=z) (λp hp=>(am p hp).1) (by rw [hz];exact gE li) hj];exact hu
  obtain ⟨kv,zq,ap,ab,aa⟩:=id ai;obtain ⟨Z,rfl⟩:=aa.ptr;obtain ⟨zc,zk,zt⟩:=z;simp only at ap ab aa a4 ai;subst ap;obtain ⟨aq,ag,rfl,b7,b6,b8,_⟩:=id ab;refine ρ ?_;refine ixq 3 i (hR.ext a2) li ?_;refine ρ ?_;refine lds (cs:=[.slice aq zk.length ag,.bool d,.pointer Z]) a4 ?_;refine ρ ?_;refine alc Qqp ?_;intro w2 bb av b1 b2;refine ρ ?_;refine stb (cs':=[.slice aq zk.length ag,.bool d,.pointer Z]) b2 ?_ (Qwc rfl);intro w3 ao bc au;have a1:Ext w1 w3:=au w1 av b1;have a5:Ext w3 w3.drew:=(Ext.refl w3).drew;have a8:=a2.trans (a1.trans a5);have a9:=ao.ext a5;have an:¬ (Value.slice LA o.length lc).ownBlock=some bb:=λe=>by have:=(J bb e).2;omega
  refine ρ ?_;refine drN (λk=>(Value.slice LA o.length lc).ownBlock=some k) 10 [(0,0),(0,1),(0,2),(0,4),(0,5),(1,3),(0,6),(1,7),(1,8),(0,9)] (by kernel_rfl) ?_;refine ρn ?_;refine nld (Jjg (a9.at (i:=0) rfl) an) ?_;refine ρn ?_;refine Jlg (cs:=[.bool d,.pointer Z]) (λw' hg j u hu=>Jjg (a9.sub (i:=1) (j:=j) (by rw [Nat.add_comm];exact hu)) (by rw [Jxt];exact an) w' hg) ?_;refine ρn ?_;refine nop ?_;refine cl (Jyn (r:=zk) (ab.v.ext a8) (λk=>N k∨(Value.slice LA o.length lc).ownBlock=some k) λk O=>?_) ?_
  ·rcases O with U|U
   ·exact nM (hN k U) a8.size
   ·exact nM (J k U).2 (a1.trans a5).size
  rintro kv w4 ⟨ak,aj⟩;obtain ⟨D,C,rfl,_⟩:=id ak;refine ρ ?_;refine Jqt (GrN.ext aj) ?_;refine ρn ?_;refine Xqb (Xvx _ D _ C d Z rfl) ?_;refine ρn ?_;refine nop ?_;refine bsl (Xvs _ D _ C d Z rfl) ?_;intro w5 b5 ac bd b3;refine ρ ?_;refine Jqt (GrN.ext ac) ?_;refine ρn ?_;refine nop ?_;have G:Ext w1 w5:=((a1.trans a5).trans aj).trans ac;have a3:=a2.trans G;refine apb (m':=1) (news:=[.slice D zk.length C,.bool d,.pointer Z]) EBk (Jjb ae G) (b3.rd (n:=1) rfl) (Qwc rfl) (by unfold maxLen;omega) (by omega) a3.size ?_;intro v6 w6 aw af ax;have b4:∀ g,(Value.slice LA o.length lc).ownBlock=some g->g<w5.heap.size:=λg eg=>nM (J g eg).2 G.size;refine ρ ?_;refine Jqt (GrN.by af λg eg=>eg) ?_;refine ρn ?_;refine ρ ?_;have key:∀ p:List Value×BkT,BkE d (λk=>N k∨(Value.slice LA o.length lc).ownBlock=some k) w5 p.1 p.2->BkE d (λk=>N k∨v6.ownBlock=some k) w6 p.1 p.2:=λp h1=>by
   have h2:BkE d (λk=>(N k∨(Value.slice LA o.length lc).ownBlock=some k)∨v6.ownBlock=some k) w5 p.1 p.2:=h1.old λk O=>by
    rcases O with U|U
    ·exact .inl U
    ·rcases ax k U with h''|h''
     ·exact .inl (.inr h'')
     ·exact .inr h''
   exact (h2.gr (GrN.by af λk O=>.inl (.inr O))).old λk O=>.inl (O.elim (λU=>.inl (.inl U)) .inr)
  have ah:TrV (λk=>N k∨(Value.slice LA o.length lc).ownBlock=some k) w5 zt (.pointer Z):=by
   refine TrV.ext (TrV.old ?_ aa) a3;intro k O;rcases O with U|U
   ·exact .inl U
   ·exact .inr (J k U).1
  refine Jjm (i+1) v6 sO ⟨li,Jjk a3 af (λg eg=>(J g eg).1),o++[([.slice D zk.length C,.bool d,.pointer Z],(zk,zt))],?_,?_,λq hq=>?_⟩ (by omega)
  ·rw [List.length_append,List.length_singleton];have e:Jxf (o++[([.slice D zk.length C,.bool d,.pointer Z],(zk,zt))])=Jxf o++[.slice D zk.length C,.bool d,.pointer Z]:=by simp [Jxf]
   rw [e];exact aw
  ·rw [List.map_append,a7,List.take_succ_eq_append_getElem (by rw [List.length_map];exact li),List.getElem_map,<-hz];rfl
  ·rcases List.mem_append.1 hq with h1|h1
   ·exact ⟨(a6 q h1).1,key q ((a6 q h1).2.ext G)⟩
   ·rw [List.mem_singleton.1 h1];exact ⟨rfl,key ([.slice D zk.length C,.bool d,.pointer Z],(zk,zt)) ⟨_,_,rfl,ak.ext ac,ah⟩⟩
 have az:i=ps.length:=by have:=oF h;omega
 rw [az,List.take_of_length_le (by rw [List.length_map];exact Nat.le_refl _)]at a7;refine ρ ?_;refine Jjr ⟨⟨o,LA,lc,a7.symm,rfl,ay,by omega,Rd.own ae,λh0 ad e O=>?_,λp hp=>⟨(a6 p hp).1,?_⟩⟩,a2⟩
 ·have:=(J ad.block (by rw [e];simp [Value.ownBlock])).1;have:=hN _ O;omega
 ·exact (a6 p hp).2.old λk O=>.inl (.inl O)
def Qxw(bs:List BkT)(k:Row): Option Nat:=bs.findIdx? λb=>decide (b.1=k)
theorem Qgw(bs:List BkT)(b:BkT)(k:Row)(h:b.1 ∉ bs.map (·.1)): Qxw (bs++[b]) k=if b.1=k then some bs.length else Qxw bs k:=by
 unfold Qxw;rw [List.findIdx?_append];by_cases e:b.1=k
 ·rw [if_pos e];have:bs.findIdx? (λc=>decide (c.1=k))=none:=by
   rw [List.findIdx?_eq_none_iff];intro c i;exact dF λj=>h (by rw [e];exact List.mem_map.2 ⟨c,i,j⟩)
  rw [this];simp [List.findIdx?_cons,e]
 ·rw [if_neg e];cases hf:bs.findIdx? (λc=>decide (c.1=k)) with
  | some c=>simp
  | none=>simp [List.findIdx?_cons,e]
structure VarQ(N:Nat->Prop)(d:Bool)(w:World)(bv pv:Value)(bs:List BkT): Prop where
 bks:DnB N d w bv bs
 plc:∃ mb m fm,pv=.map (some mb)/\m<=1000000/\(MapS Tryz.prog 9 w mb m fm/\¬ N mb)/\∀ k:Row,fm (.string (idn k))=(Qxw bs k).map λi=>.int .i64 (i:Int)
theorem VarQ.gr{N:Nat->Prop}{d:Bool}{w w':World}{bv pv:Value}{bs:List BkT}(h:VarQ N d w bv pv bs)(hg:GrN N w w'): VarQ N d w' bv pv bs:=by
 refine ⟨h.bks.gr hg,?_⟩;obtain ⟨j,m,fm,D,C,⟨u,i⟩,o⟩:=h.plc;exact ⟨j,m,fm,D,C,⟨u.gr hg i,i⟩,o⟩
theorem VarQ.none{N:Nat->Prop}{d:Bool}{w:World}{bv pv:Value}{bs:List BkT}(h:VarQ N d w bv pv bs): VarQ (λ_=>False) d w bv pv bs:=by
 refine ⟨h.bks.old λk j=>j.elim,?_⟩;obtain ⟨i,m,fm,D,C,⟨u,G⟩,o⟩:=h.plc;exact ⟨i,m,fm,D,C,⟨u,λe=>e⟩,o⟩
structure IxV(w:World)(x:Value)(f:Nat)(ds:List Bool)(kf:Nat->Nat)(pf:Nat->Int)(BB:Nat->List BkT)(tot:Nat): Prop where
 ex:∃ DA dc BA cb KA ck PA cp tv kvs pvs,x=.agg #[.slice DA f dc,.slice BA f cb,.slice KA f ck,.slice PA f cp,tv]/\f<=dc/\f<=cb/\RdB w DA ds/\Rd w 3 BA f (Jxn f (Jvt kf pf))/\Rd w 1 KA f kvs/\Rd w 1 PA f pvs/\NatV w tv tot /\
  ∀ v,v<f->VarQ (λ_=>False) (ds.getD v false) w (kvs.getD v (.slice none 0 0)) (pvs.getD v (.map none)) (BB v)
 dl:ds.length=f
 f32:f<=32
theorem IxV.ext{w w':World}{x:Value}{f:Nat}{ds:List Bool}{kf:Nat->Nat}{pf:Nat->Int}{BB:Nat->List BkT}{tot:Nat}(h:IxV w x f ds kf pf BB tot)(hx:Ext w w'): IxV w' x f ds kf pf BB tot:=by
 obtain ⟨DA,dc,BA,cb,KA,ck,PA,cp,o,j,i,h1,h2,Z,U,O,J,G,D,C⟩:=h.ex;exact ⟨⟨DA,dc,BA,cb,KA,ck,PA,cp,o,j,i,h1,h2,Z,Rd.ext U hx,O.ext hx,J.ext hx,G.ext hx,D.ext hx,λv u=>(C v u).gr (GrN.ext hx)⟩,h.dl,h.f32⟩
theorem Qcz: Jxd Tryz.prog 34=some (.agg #[.slice none 0 0,.slice none 0 0,.slice none 0 0,.slice none 0 0,.slice none 0 0]):=by kernel_rfl
theorem Qlm(A B C:Option Addr)(a b c a' b' c':Nat)(w:World): (Instr.build 34 #[(0,.slice A a a'),(1,.slice B b b'),(4,.slice C c c')]).run Tryz.prog w=.ok (.agg #[.slice A a a',.slice B b b',.slice none 0 0,.slice none 0 0,.slice C c c']) w:=by kernel_rfl
theorem Xkz{A B C D E:Option Addr}{a b c d e a' b' c' d' e':Nat}: ∀ u∈[Value.slice A a a',.slice B b b',.slice C c c',.slice D d d',.slice E e e'],u.oneCell'=true:=λu i=>by
 simp only [List.mem_cons,List.not_mem_nil,or_false]at i;rcases i with rfl|rfl|rfl|rfl|rfl<;>rfl
theorem EBks: ElT Tryz.prog 29 138 1 24 (.slice none 0 0):=⟨Tryz.underlying29,info_parts (by kernel_rfl),rfl,by decide⟩
theorem EPls: ElT Tryz.prog 30 215 1 8 (.map none):=⟨Tryz.underlying30,info_parts (by kernel_rfl),rfl,by decide⟩
theorem Jgj(z:Value)(h:z.cells = #[z])(n:Nat): (madeCells z.cells (n*1)).toList=List.replicate n z:=by rw [Nat.mul_one,h];exact Jlk _ _
theorem Qqd{B0 f dc cb ck tot:Nat}{w:World}{DA BA KA:Option Addr}{ds:List Bool}{kf:Nat->Nat}{pf:Nat->Int}{bvs:List Value}{BB:Nat->List BkT}{tv:Value}{M:Nat->Prop}(hTB:TB B0 w)(hdl:ds.length=f)(f32:f<=32)(hD:RdB w DA ds)(hBg:Rd w 3 BA f (Jxn f (Jvt kf pf)))(hK:Rd w 1 KA f bvs)(hel:∀ v,v<f->DnB M (ds.getD v false) w (bvs.getD v (.slice none 0 0)) (BB v))(htv:NatX M w tv tot)(hM:∀ k,M k->k<w.heap.size)(hfit:∀ v,v<f->∀ b∈BB v,FitR b.1)(hlt:∀ v,v<f->Lt [] ((BB v).map (·.1))):
  Ret Tryz.prog 86 [.slice DA f dc,.slice BA f cb,.slice KA f ck,tv] w λu w'=>Off M w' (λW=>IxV W u f ds kf pf BB tot)/\IxV w' u f ds kf pf BB tot/\Ext w w':=by
 obtain ⟨TA,tc,rfl,fw⟩:=id htv.1;have fd:Rd w 1 DA f (ds.map Value.bool):=hdl ▸ hD;refine Jjc Tryz.func86 Tryz.ntmps86 rfl (by kernel_rfl) rfl ?_;refine ρ ?_;refine alc Qcz ?_;intro w1 b8 an dv d7;refine ρ ?_;refine cl (Qcj (fd.ext an) (λu hu=>by obtain ⟨b,_,rfl⟩:=List.mem_map.1 hu;rfl) (by omega)) ?_;rintro _ w2 ⟨⟨bn,c1,rfl,dq,bi,f4⟩,am⟩;refine ρ ?_;refine cl (Qvk ((hBg.ext an).ext am) (Jlx _ _ _) (by omega)) ?_;rintro _ w3 ⟨⟨bo,c2,rfl,dt,cn,f5⟩,ak⟩;refine ρ ?_;refine bld (Qlm _ _ _ _ _ _ _ _ _ _) ?_;refine ρ ?_;refine alc Qcz ?_;intro w4 b9 ew aq fe;refine ρ ?_;refine stW fe ?_;intro w5 ee g0 eu;have a8:Ext w3 w5:=eu w3 ew aq;have c5:Ext w w5:=((an.trans am).trans ak).trans a8;have b1:Ext w5 w5.drew:=(Ext.refl w5).drew;have bj:=ee.ext b1;refine ρ ?_;refine drH (λi=>Nat.beq i 7 || Nat.beq i 9) ?_;refine Qjk (fuel':=8) 8 [(0,0),(0,1)] #[true,true,false,false,false,false,false,false,false,false] (by kernel_rfl) (by kernel_rfl) rfl ?_
 refine ρd ?_;refine Jzn ?_;refine Qct (fuel':=7) 3 (by kernel_rfl) (by kernel_rfl) rfl rfl ?_;refine ρp ?_;refine ρd ?_;refine Jzn ?_;refine Qct (fuel':=6) 4 (by kernel_rfl) (by kernel_rfl) rfl rfl ?_;refine ρp ?_;refine ρd ?_;refine Jzn ?_;have g1:w5.drew.heap.size=w5.heap.size:=rfl;refine hcut 2 (lst 10 8) (fun (y:Option Addr×Option Addr)=>[(24,.slice y.2 f f),(9,.pointer (some ⟨b9,0,none⟩)),(8,.pointer (some ⟨b8,0,none⟩)),(0,.slice DA f dc),(2,.slice KA f ck)])
  (λy W=>GrN (λk=>k=b9) w5.drew W/\Blk W b9 34 [.slice bn f c1,.slice bo f c2,.slice y.1 f f,.slice none 0 0,.slice TA (Jjf tot).length tc] /\
   W.ownsRow w5.drew.heap.size 138 1 (.slice y.1 f f) f (List.replicate f (.slice none 0 0))/\W.ownsRow w5.drew.heap.size 215 1 (.slice y.2 f f) f (List.replicate f (.map none))) ?_ ?_
 rotate_left
 ·intro rest;refine itwo 2 5 (by kernel_rfl) rfl rfl rfl ?_ ?_
  ·refine mkn EBks f (by omega) (by unfold maxLen;omega) ?_;intro w6 D a9 ag _;rw [Jgj _ rfl]at ag;refine Jzr (Jdc (λ_=>a9) ?_);refine Qct (fuel':=4) 6 (by kernel_rfl) (by kernel_rfl) rfl rfl ?_;refine ρp ?_;refine ρd ?_;refine Jzn ?_;refine itwo 5 7 (by kernel_rfl) rfl rfl rfl ?_ ?_
   ·refine mkn EPls f (by omega) (by unfold maxLen;omega) ?_;intro w7 G Z ae _;rw [Jgj _ rfl]at ae;refine Jzr (Jdc (λ_=>Z) ?_);refine Xwq 7 (by kernel_rfl) rfl rfl ?_;have a4:=(bj.ext a9).ext Z;refine sto (a4.at (i:=2) rfl) (a4.frozen 2) ?_;refine Jzr (Jdc (λh=>by cases h) ?_);refine hlist (listed':=lst 10 8) (by kernel_rfl) ?_;have aa:GrN (λk=>k=b9) w7 (w7.setCell ⟨b9,2,none⟩ (.slice D f f)):=GrN.set _ rfl;refine rest (D,G) _ _ ⟨(GrN.ext (a9.trans Z)).trans aa,a4.set 2 _,Jjq (Jjb ag Z) aa λg U e=>?_,Jjq (ae.mono a9.size) aa λg U e=>?_⟩ sB
    ·rw [e]at U;exact a4.ne_own (Jjb ag Z) rfl U.symm
    ·rw [e]at U;exact a4.ne_own ae rfl U.symm
   ·have ac:=bj.ext a9;refine sto (ac.at (i:=2) rfl) (ac.frozen 2) ?_;refine Jzr (Jdc (λh=>by cases h) ?_);refine Xwq 5 (by kernel_rfl) rfl rfl ?_;have aa:GrN (λk=>k=b9) w6 (w6.setCell ⟨b9,2,none⟩ (.slice D f f)):=GrN.set _ rfl;refine mkn EPls f (by omega) (by unfold maxLen;omega) ?_;intro w7 G Z ae _;rw [Jgj _ rfl]at ae;refine Jzr (Jdc (λ_=>Z) ?_);refine hlist (listed':=lst 10 8) (by kernel_rfl) ?_;refine rest (D,G) _ _ ⟨((GrN.ext a9).trans aa).trans (GrN.ext Z),(ac.set 2 _).ext Z,Jjb (Jjq ag aa λg U e=>?_) Z,ae.mono (nL a9.size aa.size)⟩ sB;rw [e]at U;exact ac.ne_own ag rfl U.symm
  ·refine mkn EPls f (by omega) (by unfold maxLen;omega) ?_;intro w6 G a9 ar _;rw [Jgj _ rfl]at ar;refine Jzr (Jdc (λ_=>a9) ?_);refine Xwq 2 (by kernel_rfl) rfl rfl ?_;refine mkn EBks f (by omega) (by unfold maxLen;omega) ?_;intro w7 D Z av _;rw [Jgj _ rfl]at av;refine Jzr (Jdc (λ_=>Z) ?_);refine Qct (fuel':=3) 6 (by kernel_rfl) (by kernel_rfl) rfl rfl ?_;refine ρp ?_;refine ρd ?_;refine Jzn ?_;refine Xwq 7 (by kernel_rfl) rfl rfl ?_;have a4:=(bj.ext a9).ext Z;refine sto (a4.at (i:=2) rfl) (a4.frozen 2) ?_;refine Jzr (Jdc (λh=>by cases h) ?_);refine hlist (listed':=lst 10 8) (by kernel_rfl) ?_;have aa:GrN (λk=>k=b9) w7 (w7.setCell ⟨b9,2,none⟩ (.slice D f f)):=GrN.set _ rfl;refine rest (D,G) _ _ ⟨(GrN.ext (a9.trans Z)).trans aa,a4.set 2 _,Jjq (av.mono a9.size) aa λg U e=>?_,Jjq (Jjb ar Z) aa λg U e=>?_⟩ sB
   ·rw [e]at U;exact a4.ne_own av rfl U.symm
   ·rw [e]at U;exact a4.ne_own (Jjb ar Z) rfl U.symm
 rintro ⟨D,G⟩ w6 ⟨ah,ac,ag,ar⟩;simp only at ac ag ar;refine Qct (fuel':=1) 8 (by kernel_rfl) (by kernel_rfl) rfl rfl ?_;refine ρp ?_;refine ρd ?_;refine Jzn ?_;refine Xwq 9 (by kernel_rfl) rfl rfl ?_;refine sto (ac.at (i:=3) rfl) (ac.frozen 3) ?_;refine Jzr (Jdc (λh=>by cases h) ?_);refine hend (by kernel_rfl) ?_;obtain ⟨w7,br⟩:∃ w7,w7=w6.setCell ⟨b9,3,none⟩ (.slice G f f):=⟨_,rfl⟩;have ab:GrN (λk=>k=b9) w6 w7:=by rw [br];exact GrN.set _ rfl
 have a4:Blk w7 b9 34 [.slice bn f c1,.slice bo f c2,.slice D f f,.slice G f f,.slice TA (Jjf tot).length tc]:=by rw [br];exact ac.set 3 _
 have av:=Jjq ag ab λg U e=>by rw [e]at U;exact ac.ne_own ag rfl U.symm
 have ae:=Jjq ar ab λg U e=>by rw [e]at U;exact ac.ne_own ar rfl U.symm
 rw [show w6.setCell ((⟨b9,0,none⟩:Addr).add 3) (.slice (D,G).2 f f)=w7 from br.symm];clear br;obtain ⟨N,bt⟩:∃ N:Nat->Prop,N=λk=>(Value.slice D f f).ownBlock=some k∨(Value.slice G f f).ownBlock=some k:=⟨_,rfl⟩;obtain ⟨NB,bf⟩:∃ NB:Nat->Prop,NB=λk=>N k∨k=b8∨M k:=⟨_,rfl⟩;have af:∀ {W W':World},GrN N W W'->GrN NB W W':=λhg=>hg.mono λk _ o=>by rw [bf];exact .inl o
 have lK:∀ g,(Value.slice D f f).ownBlock=some g->w5.heap.size<=g/\g<w7.heap.size:=(Jjd av).choose_spec.choose_spec.2.2;have lP:∀ g,(Value.slice G f f).ownBlock=some g->w5.heap.size<=g/\g<w7.heap.size:=(Jjd ae).choose_spec.choose_spec.2.2;have au:∀ k,N k->w5.heap.size<=k/\k<w7.heap.size:=λk o=>by
  rw [bt]at o;exact o.elim (lK k) (lP k)
 have bu:¬ N b9:=λo=>by
  rw [bt]at o;rcases o with h'|h'
  ·exact a4.ne_own av rfl h'.symm
  ·exact a4.ne_own ae rfl h'.symm
 have dd:Ext w w7:=by
  have h1:Ext w3 w6:=(ah.old (a8.trans b1) λk o=>by rw [o];exact aq);have h2:Ext w3 w7:=ab.old h1 λk o=>by rw [o];exact aq
  exact ((an.trans am).trans ak).trans h2
 have fr:b8<w3.heap.size:=nM d7.lt (am.trans ak).size;have ei:Blk w7 b8 34 _:=Jjw (Jjw ((((d7.ext am).ext ak).ext (a8.trans b1))) ah λe=>by omega) ab λe=>by omega
 have fb:Rd w7 1 bn f (ds.map Value.bool):=by
  have h1:Ext w3 w6:=(ah.old (a8.trans b1) λk o=>by rw [o];exact aq);have h2:Ext w3 w7:=ab.old h1 λk o=>by rw [o];exact aq
  exact Rd.ext (Rd.ext bi ak) h2
 have ec:Rd w7 3 bo f (Jxn f (Jvt kf pf)):=by
  have h1:Ext w3 w6:=(ah.old (a8.trans b1) λk o=>by rw [o];exact aq);have h2:Ext w3 w7:=ab.old h1 λk o=>by rw [o];exact aq
  exact Rd.ext cn h2
 have fi:w5.heap.size<=w7.heap.size:=nL ah.size ab.size;have ex:w3.heap.size<=w5.heap.size:=a8.size;refine ρ ?_;refine Jxx (fun (v:Nat) (C J:List Value)=>[(8,.pointer (some ⟨b8,0,none⟩)),(9,.pointer (some ⟨b9,0,none⟩)),(2,.slice KA f ck),(28,.int .i64 (f:Int)),(29,.int .i64 (v:Int))])
  (λv C J w'=>v<=f/\GrN N w7 w'/\w'.ownsRow w5.drew.heap.size 138 1 (.slice D f f) f C/\w'.ownsRow w5.drew.heap.size 215 1 (.slice G f f) f J /\
   ∀ u,u<v->VarQ NB (ds.getD u false) w' (C.getD u (.slice none 0 0)) (J.getD u (.map none)) (BB u)) (λv _ _=>f-v) 0 _ _ sB
  ⟨Nat.zero_le _,GrN.refl _ _,av,ae,λu hu=>by omega⟩ ?_
 rintro v C J w8 ⟨hv,a2,d2,cw,dz⟩;have ax:=Jjw a4 a2 bu;have a1:Ext w w8:=a2.old dd λk o=>by have:=(au k o).1;have:=c5.size;omega
 refine ρ ?_;refine ci (λh=>?_) (λh=>?_)
 ·have lv:v<f:=by have:=oT h;omega
  clear h;obtain ⟨d,hd⟩:∃ d,d=ds.getD v false:=⟨_,rfl⟩;have c9:=hel v lv;rw [<-hd]at c9;have fp:bvs.length=f:=by have:=hK.len;omega
  have fz:C.length=f:=by have:=d2.1;omega
  have fx:J.length=f:=by have:=cw.1;omega
  have cx:∀ k,N k->w.heap.size<=k:=λk o=>nL c5.size (au k o).1;have a7:Ext w8 w8.drew:=(Ext.refl w8).drew;have bl:=ax.ext a7;have cj:=Jjb d2 a7;have cc:=Jjb cw a7;have f9:Rd w8.drew 1 KA f bvs:=hK.ext (a1.trans a7);have e5:∀ g,(Value.slice D f f).ownBlock=some g->N g:=λg U=>by rw [bt];exact .inl U
  have cy:∀ g,(Value.slice G f f).ownBlock=some g->N g:=λg U=>by rw [bt];exact .inr U
  have ca:∀ (W:World) (N':Nat->Prop),Ext w W->(∀ k,N' k->(M k∨w.heap.size<=k)/\k<W.heap.size)->Ret Tryz.prog 107 [bvs.getD v (.slice none 0 0)] W λu w'=>DnB N' d w' u (BB v)/\Ext W w':=λW N' et e6=>
   Qcd ((((c9.old (N':=λk=>M k∨w.heap.size<=k) λk o=>o)).ext et).old λk o=>.inl (e6 k o).1) λk o=>(e6 k o).2
  have b3:∀ (W:World) (C:List Value) (u:Value),W.ownsRow w5.drew.heap.size 138 1 (.slice D f f) f C->W.ownsRow w5.drew.heap.size 215 1 (.slice G f f) f J ->
    W.cell? (adr D v)=C[v]?/\W.frozen? (adr D v)=false/\(W.setCell (adr D v) u).ownsRow w5.drew.heap.size 138 1 (.slice D f f) f (C.set v u)/\(W.setCell (adr D v) u).ownsRow w5.drew.heap.size 215 1 (.slice G f f) f J/\GrN N W (W.setCell (adr D v) u):=λW C u e9 f7=>by
   obtain ⟨s1,s2,s3,s4,s5⟩:=Jqj e9 (q:=v) (by omega) u;exact ⟨s1,s2,s3,Jjs f7 e9 s5 rfl,GrN.by s5 e5⟩
  refine ρ ?_;refine drM N ?_;refine Qnl (fuel':=6) [(0,0),(0,1),(0,2),(0,3),(0,4),(0,5),(0,6),(0,7),(0,8),(0,9)] (lst 16 10) (by kernel_rfl) (by kernel_rfl) rfl ?_;refine ρn ?_;refine nld (Jjg (bl.at (i:=2) rfl) bu) ?_;refine ρn ?_;refine nld (Jjg (bl.at (i:=3) rfl) bu) ?_;refine ρn ?_;refine nix v f9 lv ?_;refine ρn ?_;refine nld (v:=bvs.getD v (.slice none 0 0)) (λw' hg=>Jwf (hg.old (a1.trans a7) cx) (hK.cell (show bvs[v]?=some (bvs.getD v (.slice none 0 0)) by simp [List.getD,List.getElem?_eq_getElem (show v<bvs.length by omega)]))) ?_;refine ρn ?_;refine Jrk ?_;refine mcut 2 (lst 16 14) (fun (y:Value×Nat)=>[(43,.map (some y.2)),(36,.slice G f f),(37,.int .i64 (v:Int)),(10,.int .i64 (v:Int)),(8,.pointer (some ⟨b8,0,none⟩)),(9,.pointer (some ⟨b9,0,none⟩)),(2,.slice KA f ck),(28,.int .i64 (f:Int)),(29,.int .i64 (v:Int))])
   (λy W=>GrN N w8.drew W/\W.ownsRow w5.drew.heap.size 138 1 (.slice D f f) f (C.set v y.1)/\W.ownsRow w5.drew.heap.size 215 1 (.slice G f f) f J/\DnB (λk=>NB k∨k=y.2) d W y.1 (BB v)/\MapS Tryz.prog 9 W y.2 0 (λ_=>none)/\w8.heap.size<=y.2) ?_ ?_
  rotate_left
  ·intro rest;have aw:∀ k,NB k->(M k∨w.heap.size<=k)/\k<w8.heap.size:=λk o=>by
    rw [bf]at o;rcases o with o|o|o
    ·exact ⟨.inr (cx k o),Nat.lt_of_lt_of_le (au k o).2 a2.size⟩
    ·have:=a2.size;rw [o];exact ⟨.inr dv,by omega⟩
    ·exact ⟨.inl o,Nat.lt_of_lt_of_le (hM k o) a1.size⟩
   have be:∀ k,N k->k<w8.heap.size:=λk o=>nM (au k o).2 a2.size;refine mtwo 10 11 (by kernel_rfl) rfl rfl rfl ?_ ?_
   ·refine cl (ca _ NB (a1.trans a7) aw) ?_;rintro u W1 ⟨bz,a3⟩;have d3:=Jjb cj a3;have e3:=Jjb cc a3;refine Jzr (Jzt (GrN.ext a3) ?_);refine Qnl (fuel':=4) [(0,12)] #[true,true,true,true,true,true,true,true,true,true,true,false,true,false,false,false] (by kernel_rfl) (by kernel_rfl) rfl ?_;refine ρn ?_;refine nix v (Rd.own d3) lv ?_;refine ρn ?_;refine Jrk ?_;refine mtwo 11 13 (by kernel_rfl) rfl rfl rfl ?_ ?_
    ·refine mkm 9 ?_;intro W2 mb O ao d1;refine Jzr (Jzt (GrN.ext O) ?_);refine Qmj 13 (by kernel_rfl) rfl rfl ?_;obtain ⟨s1,s2,s3,s4,s5⟩:=b3 W2 C u (Jjb d3 O) (Jjb e3 O);refine sto (s1.trans (show C[v]?=some (C.getD v (.slice none 0 0)) by simp [List.getD,List.getElem?_eq_getElem (show v<C.length by omega)])) s2 ?_ rfl rfl rfl rfl rfl (by obtain ⟨_,_,_,_,e,_⟩:=bz;rw [e];rfl);refine Jzr (Jzt s5 ?_);refine Qbf (listed':=lst 16 14) (by kernel_rfl) ?_;refine rest (u,mb) _ _ ⟨(GrN.ext (a3.trans O)).trans s5,s3,s4,?_,d1.gr s5 λo=>?_,Nat.le_trans a3.size ao⟩ sB
     ·exact (((bz.old (N':=λk=>NB k∨k=mb) λk o=>o.imp id λe=>by rw [e];exact ao).ext O).gr ((af s5).mono λk _ o=>.inl o))
     ·have h1:=be _ o;have h2:w8.heap.size<=W1.heap.size:=a3.size;omega
    ·obtain ⟨s1,s2,s3,s4,s5⟩:=b3 W1 C u d3 e3;refine sto (s1.trans (show C[v]?=some (C.getD v (.slice none 0 0)) by simp [List.getD,List.getElem?_eq_getElem (show v<C.length by omega)])) s2 ?_ rfl rfl rfl rfl rfl (by obtain ⟨_,_,_,_,e,_⟩:=bz;rw [e];rfl);refine Jzr (Jzt s5 ?_);refine Qmj 11 (by kernel_rfl) rfl rfl ?_;refine mkm 9 ?_;intro W2 mb O ao d1;refine Jzr (Jzt (GrN.ext O) ?_);refine Qbf (listed':=lst 16 14) (by kernel_rfl) ?_;refine rest (u,mb) _ _ ⟨((GrN.ext a3).trans s5).trans (GrN.ext O),Jjb s3 O,Jjb s4 O,?_,d1,Nat.le_trans a3.size (nL s5.size ao)⟩ sB;exact ((bz.gr (af s5)).old (N':=λk=>NB k∨k=mb) λk o=>o.imp id λe=>by rw [e];exact ao).ext O
   ·refine mkm 9 ?_;intro W1 mb a3 ao e8;refine Jzr (Jzt (GrN.ext a3) ?_);refine Qmj 10 (by kernel_rfl) rfl rfl ?_;have fk:=e8.lt;have dh:w8.heap.size<=mb:=ao;have g2:w8.heap.size<=W1.heap.size:=a3.size;refine cl (ca _ (λk=>NB k∨k=mb) ((a1.trans a7).trans a3) λk o=>?_) ?_
    ·rcases o with o|o
     ·have:=aw k o;exact ⟨this.1,by omega⟩
     ·have:=a1.size;exact ⟨.inr (by omega),by omega⟩
    rintro u W2 ⟨bi,O⟩;have cm:=Jjb (Jjb cj a3) O;have f8:=Jjb (Jjb cc a3) O;refine Jzr (Jzt (GrN.ext O) ?_);refine Qnl (fuel':=3) [(0,12)] (lst 16 13) (by kernel_rfl) (by kernel_rfl) rfl ?_;refine ρn ?_;refine nix v (Rd.own cm) lv ?_;refine ρn ?_;refine Jrk ?_;refine Qmj 13 (by kernel_rfl) rfl rfl ?_;obtain ⟨s1,s2,s3,s4,s5⟩:=b3 W2 C u cm f8;refine sto (s1.trans (show C[v]?=some (C.getD v (.slice none 0 0)) by simp [List.getD,List.getElem?_eq_getElem (show v<C.length by omega)])) s2 ?_ rfl rfl rfl rfl rfl (by obtain ⟨_,_,_,_,e,_⟩:=bi;rw [e];rfl);refine Jzr (Jzt s5 ?_);refine Qbf (listed':=lst 16 14) (by kernel_rfl) ?_;refine rest (u,mb) _ _ ⟨(GrN.ext (a3.trans O)).trans s5,s3,s4,bi.gr ((af s5).mono λk _ o=>.inl o),(e8.ext O).gr s5 λo=>?_,dh⟩ sB;have:=be _ o;omega
  rintro ⟨u,mb⟩ w9 ⟨b7,bv,bd,d5,d0,dg⟩;simp only at bv d5 d0 dg;refine Qnl (fuel':=1) [(0,14)] (lst 16 15) (by kernel_rfl) (by kernel_rfl) rfl ?_;refine ρn ?_;refine nix v (Rd.own bd) lv ?_;refine ρn ?_;refine Jrk ?_;refine Qmj 15 (by kernel_rfl) rfl rfl ?_;obtain ⟨r1,r2,r3,r4,r5⟩:=Jqj bd (q:=v) (by omega) (.map (some mb));refine sto (r1.trans (show J[v]?=some (J.getD v (.map none)) by simp [List.getD,List.getElem?_eq_getElem (show v<J.length by omega)])) r2 ?_;have b4:=GrN.by r5 cy
  refine Jzr (Jzt b4 ?_);refine mend (by kernel_rfl) ?_;obtain ⟨ay,c6⟩:∃ ay,ay=w9.setCell (adr G v) (.map (some mb)):=⟨_,rfl⟩;rw [<-c6]at r3 r5 b4 ⊢;clear c6;have aw:∀ k,N k->k<w8.heap.size:=λk o=>nM (au k o).2 a2.size;have ai:¬ N mb:=λo=>by have:=aw _ o;omega
  have cz:¬ NB mb:=λo=>by
   rw [bf]at o;rcases o with o|o|o
   ·exact ai o
   ·have:=a2.size;omega
   ·have:=hM _ o;have:=a1.size;omega
  have ap:=(GrN.ext (N:=N) a7).trans (b7.trans b4);have bm:=Jjw ax ap bu;have bg:=Jjs bv bd r5 rfl;have eb:=d5.gr ((af b4).mono λk _ o=>.inl o);have ch:=d0.gr b4 ai;have c3:Ext w ay:=ap.old a1 cx;have f0:=ch.lt;clear d5 d0;obtain ⟨ps,GA,gc,c0,rfl,f3,df,d4,ea,bw⟩:=eb;have dk:(C.set v (.slice GA ps.length gc))[v]?=some (.slice GA ps.length gc):=by rw [List.getElem?_set_self (by omega)]
  have du:¬ b9=mb:=λe=>by have:=ax.lt;omega
  have dj:ps.length=(BB v).length:=by rw [c0,List.length_map]
  have f6:=hTB.ext c3;refine ρ ?_;refine ld (bm.at (i:=2) rfl) ?_;refine ρ ?_;refine ix v (Rd.own bg) lv ?_;refine ρ ?_;refine ld ((Rd.own bg).cell dk) ?_;refine ρ ?_;refine Jxx (fun (i:Nat) (mc:Nat) (fm:Lit->Option Value)=>[(8,.pointer (some ⟨b8,0,none⟩)),(9,.pointer (some ⟨b9,0,none⟩)),(2,.slice KA f ck),(10,.int .i64 (v:Int)),(28,.int .i64 (f:Int)),(29,.int .i64 (v:Int)),(50,.slice GA ps.length gc),(51,.int .i64 (ps.length:Int)),(52,.int .i64 (i:Int))])
   (λi mc fm w'=>i<=ps.length/\GrN (λk=>k=mb) ay w'/\MapS Tryz.prog 9 w' mb mc fm/\mc<=i/\∀ k:Row,fm (.string (idn k))=(Qxw ((BB v).take i) k).map λj=>.int .i64 (j:Int)) (λi _ _=>ps.length-i) 0 0 (λ_=>none) sB
   ⟨Nat.zero_le _,GrN.refl _ _,ch,Nat.le_refl _,λk=>rfl⟩ ?_
  rintro i mc fm aj ⟨hi,a5,cg,fy,cr⟩;refine ρ ?_;refine ci (λh=>?_) (λh=>?_)
  ·have li:i<ps.length:=by have:=oT h;omega
   clear h;obtain ⟨z,hz⟩:∃ z,z=ps[i]:=⟨_,rfl⟩;have co:z∈ps:=by rw [hz];exact List.getElem_mem li
   have er:z.2∈BB v:=by rw [c0];exact List.mem_map_of_mem co
   have ba:GrN (λk=>NB k∨k=mb) ay aj:=a5.mono λk _ o=>.inr o;have bh:=Qqk d4 ba λh0 ad e=>ea (by have:=d4.1;omega) ad e;have cv:=(bw z co).2.gr ba;have bc:∀ j u,z.1[j]?=some u->aj.cell? ((adr GA (i*3)).add j)=some u:=λj u hu=>by
    have hj:j<3:=by have:=(List.getElem?_eq_some_iff.1 hu).1;have:=(bw z co).1;omega
    rw [Jqr];refine bh.cell ?_;rw [Jkk (p:=z) (λp hp=>(bw p hp).1) (by rw [hz];exact gE li) hj];exact hu
   obtain ⟨kv,zq,ff,ep,eo⟩:=id cv;obtain ⟨zp,rfl⟩:=eo.ptr;have bb:=hfit v lv z.2 er;obtain ⟨em,d9,rfl,fn,fl,dl,_⟩:=id ep;rw [ff]at bc;have cp:Ext w aj:=a5.old c3 λk o=>by rw [o];have:=a1.size;omega
   have d6:=Jjw bm a5 du;have e0:=Jjq r3 a5 λg U e=>ai (by rw [<-e];exact cy g U);refine ρ ?_;refine ixq 3 i bh li ?_;refine ρ ?_;refine lds (cs:=[.slice em z.2.1.length d9,.bool d,.pointer zp]) bc ?_;refine ρ ?_;refine alc Qqp ?_;intro fu g3 db dw ej;refine ρ ?_;refine stb (cs':=[.slice em z.2.1.length d9,.bool d,.pointer zp]) ej ?_ (Qwc rfl);intro bp d8 fo da;have bq:Ext aj bp:=da aj db dw;have az:Ext bp bp.drew:=(Ext.refl bp).drew;have a6:=bq.trans az;have cd:=Rd.own (Jjb e0 a6);refine ρ ?_;refine drN (λ_=>False) 10 [(0,0),(0,1),(0,2),(0,3),(0,4),(0,5),(0,6),(0,8),(1,7),(2,9)] (by kernel_rfl) ?_;refine ρn ?_;refine nld (Jjg ((d6.ext a6).at (i:=3) rfl) (λe=>e)) ?_;refine ρn ?_;refine nix v cd lv ?_;refine ρn ?_;refine nld (Jjg (cd.cell (show (J.set v (.map (some mb)))[v]?=some (.map (some mb)) by rw [List.getElem?_set_self (by omega)])) (λe=>e)) ?_;refine ρn ?_
   refine nld (Jjg ((d8.ext az).at (i:=0) rfl) (λe=>e)) ?_;refine ρn ?_;refine nop ?_;refine cl (Jzd (r:=z.2.1) (hTB.ext (cp.trans a6)) (dl.ext a6) (λu hu=>(bb.2 u hu).1) (by have:=bb.len;omega) (by have:=bb.1;omega)) ?_;rintro un ft ⟨rfl,b2⟩;refine ρ ?_;refine Jqt (GrN.ext b2) ?_;refine ρn ?_;refine Jzx ?_;refine mup KS ((cg.ext a6).ext b2) (by unfold maxLen;omega) (Jbx bb) ?_;intro en e7 dn;have bs:GrN (λk=>k=mb) aj en:=(GrN.ext (a6.trans b2)).trans (GrN.by dn λk o=>by injection o with o;exact o.symm);refine ρ ?_;refine Jqc (i+1) (mc+1) (upL fm (.string (idn z.2.1)) (some (.int .i64 (i:Int)))) sO ⟨li,a5.trans bs,e7,by omega,λk=>?_⟩ (by omega);have el:(BB v).take (i+1)=(BB v).take i++[z.2]:=by
    rw [c0,List.take_succ_eq_append_getElem (by rw [List.length_map];exact li),List.getElem_map,hz]
   have ez:z.2.1 ∉ ((BB v).take i).map (·.1):=by
    have h1:=hlt v lv;rw [<-List.take_append_drop (i+1) (BB v),el,List.map_append,List.map_append]at h1;intro hm;have h2:=(List.pairwise_append.1 (List.pairwise_append.1 h1).1).2.2 _ hm z.2.1 (by simp);rw [Jxl]at h2;omega
   rw [el,Qgw _ _ _ ez];have di:((BB v).take i).length=i:=by rw [List.length_take];omega
   by_cases e:z.2.1=k
   ·rw [if_pos e,<-e,Jcr (KS.key (Jbx bb)),di];rfl
   ·rw [if_neg e,Jvx (λe'=>e (Jrt (by injection e'.symm)))];exact cr k
  ·have f2:i=ps.length:=by have:=oF h;omega
   clear h;have cq:(BB v).take i=BB v:=by rw [f2,dj,List.take_length]
   rw [cq]at cr;have dm:GrN N w8 aj:=by
    refine ((ap.mono λk _ o=>(.inl o:N k∨k=mb)).trans (a5.mono λk _ o=>.inr o)).mono λk o h=>?_;rcases h with h|h
    ·exact h
    ·omega
   have de:∀ u,u<v->(C.set v (.slice GA ps.length gc)).getD u (.slice none 0 0)=C.getD u (.slice none 0 0)/\(J.set v (.map (some mb))).getD u (.map none)=J.getD u (.map none):=λu hu=>by
    constructor<;>simp [List.getD,List.getElem?_set_ne (show v≠u by omega)]
   have dx:(C.set v (.slice GA ps.length gc)).getD v (.slice none 0 0)=.slice GA ps.length gc/\(J.set v (.map (some mb))).getD v (.map none)=.map (some mb):=by
    constructor
    ·rw [List.getD,dk];rfl
    ·rw [List.getD,List.getElem?_set_self (by omega)];rfl
   have fa:DnB (λk=>NB k∨k=mb) d ay (.slice GA ps.length gc) (BB v):=⟨ps,GA,gc,c0,rfl,f3,df,d4,ea,bw⟩;refine ρ ?_;refine Jqc (v+1) (C.set v (.slice GA ps.length gc)) (J.set v (.map (some mb))) sO ⟨lv,a2.trans dm,Jjq bg a5 λg U e=>ai (by rw [<-e];exact e5 g U),Jjq r3 a5 λg U e=>ai (by rw [<-e];exact cy g U),λu hu=>?_⟩ (by omega);by_cases e:u=v
   ·subst e;rw [dx.1,dx.2,<-hd];refine ⟨(fa.gr (a5.mono λk _ o=>.inr o)).old λk o=>.inl (.inl o),mb,mc,fm,rfl,by omega,⟨cg,cz⟩,cr⟩
   ·obtain ⟨e1,e2⟩:=de u (by omega);rw [e1,e2];exact (dz u (by omega)).gr (af dm)
 ·have ey:v=f:=by have:=oF h;omega
  clear h;subst ey;refine ρ ?_;refine ldW ax ?_;refine ρ ?_;have e4:¬ N b8:=λo=>by have:=(au _ o).1;omega
  have eh:=Jjw ei a2 e4;refine stW eh ?_;intro w9 ef b7 fh;have b6:GrN (λk=>k=b8) w8 w9:=GrN.by b7 λk o=>by injection o with o;exact o.symm
  have c4:Ext w w9:=b6.old a1 λk o=>by rw [o];exact dv
  have fq:b8<w1.heap.size:=d7.lt;have ce:∀ k,NB k->k<w1.heap.size∨w5.heap.size<=k:=λk o=>by
   rw [bf]at o;rcases o with o|o|o
   ·exact .inr (au k o).1
   ·left;omega
   ·left;exact nM (hM k o) an.size
  have ek:∀ W,GrN M w9 W->IxV W (.agg #[.slice bn v c1,.slice bo v c2,.slice D v v,.slice G v v,.slice TA (Jjf tot).length tc]) v ds kf pf BB tot:=λW hW=>by
   have b5:GrN (λk=>k=b8∨M k) w8 W:=(b6.mono λk _ o=>.inl o).trans (hW.mono λk _ o=>.inr o);have c7:GrN NB w8 W:=b5.mono λk _ o=>by rw [bf];exact .inr o
   have c8:GrN NB w7 W:=(af a2).trans c7;have fc:=Qqk fb c8 λh0 ad e o=>by
    obtain ⟨fg,e',hb,_⟩:=bi.2 h0;rw [e]at e';injection e' with e';subst e'
    have h1:=f4 ad e;have h2:w2.heap.size<=w5.heap.size:=(ak.trans a8).size;rcases ce _ o with h'|h'<;>omega
   have ed:=Qqk ec c8 λh0 ad e o=>by
    obtain ⟨fg,e',hb,_⟩:=cn.2 h0;rw [e]at e';injection e' with e';subst e'
    have h1:=f5 ad e;have h2:=am.size;rcases ce _ o with h'|h'<;>omega
   have fj:w1.heap.size<=w5.heap.size:=(am.trans (ak.trans a8)).size;have bv:=Jjq d2 b5 λg U e=>by
    have h1:=(lK g U).1;rcases e with e|e
    ·omega
    ·have:=hM g e;have:=an.size;omega
   have bd:=Jjq cw b5 λg U e=>by
    have h1:=(lP g U).1;rcases e with e|e
    ·omega
    ·have:=hM g e;have:=an.size;omega
   refine ⟨⟨bn,c1,bo,c2,D,v,G,v,_,C,J,rfl,dq,dt,?_,ed,Rd.own bv,Rd.own bd,((htv.ext c4).gr hW).1,λu hu=>?_⟩,hdl,f32⟩
   ·unfold RdB;rw [hdl];exact fc
   ·exact ((dz u hu).gr c7).none
  refine ρ ?_;exact Qhj ef ⟨λW hW=>ek W hW,ek w9 (GrN.refl _ _),c4⟩
end Go.Proofs.YtefpailelagbkaaGreatDoor
