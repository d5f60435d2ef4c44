/- Part 33. -/
import Derived.Test.YtebcagekopgdhaaGreatDoorB32
set_option linter.unusedVariables false
set_option maxRecDepth 100000
set_option maxHeartbeats 40000000
namespace Go.Wk
theorem dalc'{P:Program}{n:Nat}{al:AL}{w:World}{Q:Exit->Act->World->Prop}{ops:Array Oper}{drest:List (Nat×Oper)}{d ty:Nat}{pos:String}{aft:Array Edge}{t:Nat}{z:Value}{cs:List Value}(hz:Qt P t=some z)(kk:∀ w1 b,Ext w w1->w.heap.size<=b->Blk w1 b t cs->WD P n ops Q drest ((d,.pointer (some ⟨b,0,none⟩))::al) w1)(hv:z.cells=cs.toArray:=by rfl)(hd:Nat.blt d n=true:=by rfl):
  WD P n ops Q ((1,⟨some d,.alloc t,ty,pos,aft,none⟩)::drest) al w:=Uk (alc hz (λw1 b o C u=>Jh (Uz o (kk w1 b o C u))) hv hd)
end Go.Wk
namespace Go.Proofs.YtebcagekopgdhaaGreatDoor
open Go.RowKit Pl Go.Wk
attribute [local irreducible] WC WL QX WD WDB WP WN WG
theorem Qqj(kv:Value)(A:Option Addr)(n c:Nat)(d:Bool)(p:Option Addr)(h:kv=.slice A n c)(w:World): (Instr.build 140 #[(0,kv),(1,.agg #[.bool d,.pointer p])]).run Tryz.prog w=.ok (.agg [kv,.bool d,.pointer p].toArray) w:=by subst h;kernel_rfl
theorem Qqb(kv:Value)(A:Option Addr)(n c:Nat)(d:Bool)(p:Option Addr)(h:kv=.slice A n c)(w:World): (Instr.buildSlice 134 1 #[(0,.agg [kv,.bool d,.pointer p].toArray)]).run Tryz.prog w=.ok (.slice (some ⟨w.heap.size,0,none⟩) 1 1) (w.alloc (.cells [kv,.bool d,.pointer p].toArray 140)):=by subst h;kernel_rfl
def DnB(AR:Nat->Prop)(d:Bool)(w:World)(x:Value)(bs:List BkT): Prop:=∃ (ps:List (List Value×BkT)) (A:Option Addr) (c:Nat),bs=ps.map (·.2)/\x=.slice A ps.length c/\ps.length<=c/\ps.length<=65536/\Rd w 3 A ps.length (Qj ps)/\(0<ps.length->∀ ad,A=some ad->¬ AR ad.block)/\∀ p∈ps,p.1.length=3/\BkE d AR w p.1 p.2
theorem DnB.gr{AR:Nat->Prop}{d:Bool}{w w':World}{x:Value}{bs:List BkT}(h:DnB AR d w x bs)(hg:GrN AR w w'): DnB AR d w' x bs:=by
 obtain ⟨ps,A,c,Z,U,O,J,G,C,u⟩:=h;refine ⟨ps,A,c,Z,U,O,J,Zo G hg λh0 ad e=>C ?_ ad e,C,λp o=>⟨(u p o).1,(u p o).2.gr hg⟩⟩;have:=G.1;omega
theorem Nb.big{k S e:Nat}(hS:S<=4294967296^e)(he:e<=800)(hk:k<=4294967296){n:Nat}(hn:n<=k*S): Nb n:=by
 have o:k*S<=4294967296^(e+1):=by
  rw [Nat.pow_succ,Nat.mul_comm];exact Nat.mul_le_mul hS hk
 exact Nat.lt_of_le_of_lt (nL hn o) (Nat.pow_lt_pow_right (by decide) (by rw [Jfw];omega))
theorem Jnc(x:Row){m:Nat}(h:m<=x.length): (Jl x).take (m*3)=Jl (x.take m):=by
 have e:Jl x=Jl (x.take m)++Jl (x.drop m):=by rw [<-rowC_app',List.take_append_drop]
 rw [e];refine List.take_left' ?_;rw [Jnd,List.length_take,Nat.min_eq_left h]
theorem Jlg{N:Nat->Prop}{w:World}{d:Bool}{p:Value}{t:Tr}(h:TrV N w t p)(hn:Nb t.sum): Ret Tryz.prog 114 [.agg #[.bool d,p]] w λu w'=>NatV w' u t.sum/\Fresh w u/\Ext w w':=by
 obtain ⟨q,rfl⟩:=h.ptr;refine Jz Tryz.func114 Tryz.ntmps114 rfl kr rfl ?_;refine ρ ?_;refine bx ?_;intro w1 b o hb U;refine ρ ?_;refine ld (U.at (i:=1) rfl) ?_;refine ρ ?_;refine cl (Jjm (h.ext o)) ?_;rintro u w2 ⟨O,rfl⟩;refine ρ ?_;refine cl (Jcr O.1 hn.len) ?_;rintro u3 w3 ⟨G,J,C⟩;refine ρ ?_;exact Jj ⟨G,λZ m c e=>nL o.size (J Z m c e),o.trans C⟩
theorem Jyk: Qt Tryz.prog 140=some (.agg #[.slice none 0 0,.bool false,.pointer none]):=kr
theorem Jwr{v:Value}{d:Bool}{p:Option Addr}(h:v.oneCell'=true): ∀ u∈[v,.bool d,.pointer p],u.oneCell'=true:=λu o=>by
 simp only [List.mem_cons,List.not_mem_nil,or_false]at o;rcases o with rfl|rfl|rfl
 .exact h
 .rfl
 .rfl
theorem Qwh(bs:List BkT)(b:BkT)(k:Row)(h:b.1 ∉ bs.map (·.1)): Ye (bs++[b]) k=if b.1=k then b.2.sum else Ye bs k:=by
 unfold Ye;rw [List.find?_append];by_cases e:b.1=k
 .rw [if_pos e];have:bs.find? (λc=>decide (c.1=k))=none:=List.find?_eq_none.2 λc o u=>h (by rw [e];exact List.mem_map.2 ⟨c,o,by simpa using u⟩);rw [this];simp [e]
 .rw [if_neg e];cases hf:bs.find? (λc=>decide (c.1=k)) with
  | some c=>simp
  | none=>simp [e]
theorem Qwf{wt:Row->Nat}{m:Nat}{rs:List Row}{bs:List BkT}{d:Bool}(h:GInv d wt m rs bs){b:BkT}(hb:b∈bs): 0<b.2.sum:=by
 obtain ⟨G,C⟩:=h.con b hb;rw [Tr.sum_eq,G,Jvq];exact (Qwc λp o=>by obtain ⟨x,_,_,_,_,u⟩:=entL_mem.1 o;exact u).2 C
theorem Qhc{B0 n f b v cb cv ct ck dc:Nat}{kf:Nat->Nat}{pf:Nat->Int}{R:Nat->List Row}{vR Pv Av:Value}{BA VA TA KA DA:Option Addr}{wF w:World}{va ta ba:List Value}{ds:List Bool}{T:Nat->Row->Nat}{AR:Nat->Prop}(hF:FixW B0 n f kf pf R vR BA wF)(hds:ds.length=f)(hD:RdB wF DA ds)(hW:BldW wF b n (bCs n f (.slice DA f dc) Pv Av BA cb vR VA cv TA ct (.slice KA f ck)) VA cv TA ct w va ta)(hBa:w.ownsRow wF.heap.size 134 1 (.slice KA f ck) f ba)(hvf:v<f)(hm:0<(bk (kf v ||| 2^v) 32).length)(hval:∀ x∈R v,Qr (x.getD ((bk (kf v ||| 2^v) 32).length-1) V0)=true)(hlt:Lt [] (R v))(hdv:∀ c,c<n->pf c=(v:Int)->f<=c->DnV AR (T c) w (va.getD c (.map none)))(hdt:∀ c,c<n->pf c=(v:Int)->c<f->DnT AR (T c) w (ta.getD c (.map none)))(hT1:∀ c,f<=c->∀ k,T c k<=1)(hTb:∀ c k,T c k<=4294967296^20)(hAR:∀ k,ARk n f VA cv TA ct (.slice KA f ck) k->AR k)(hARl:∀ k,AR k->k<w.heap.size):
  Ret Tryz.prog 84 [.pointer (some ⟨b,0,none⟩),.int .i64 (v:Int)] w λu w'=>u=.int .i64 0/\∃ mv lv,BldW wF b n (bCs n f (.slice DA f dc) Pv Av BA cb vR VA cv TA ct (.slice KA f ck)) VA cv TA ct w' va (ta.set v mv)/\w'.ownsRow wF.heap.size 134 1 (.slice KA f ck) f (ba.set v lv) /\
   GrN AR w w'/\DnT AR (Ye (Zt (ds.getD v false) (λx=>wtL T x (chK kf pf v n)) ((bk (kf v ||| 2^v) 32).length-1) (R v))) w' mv /\
   DnB AR (ds.getD v false) w' lv (Zt (ds.getD v false) (λx=>wtL T x (chK kf pf v n)) ((bk (kf v ||| 2^v) 32).length-1) (R v)):=by
 obtain ⟨e9,hB,fd,aq⟩:=hW;have eo:=hF.n32;have j3:=hF.fn;have hv:v<n:=om
 have hh:Rd wF 1 DA f (ds.map Value.bool):=hds ▸ hD;refine Jz Tryz.func84 Tryz.ntmps84 rfl kr rfl ?_;refine ρ ?_;refine ld (hB.at (i:=8) rfl) ?_;refine ρ ?_;refine mkm 9 ?_;intro w1 mb a3 gn hM;obtain ⟨s1,s2,s3,s4,s5⟩:=Zd (Jk aq a3) (q:=v) om (.map (some mb));have iq:ta.length=n:=by have:=aq.1;omega
 refine ρ ?_;refine ix v (Rd.own (Jk aq a3)) om ?_;refine ρ ?_;refine sto (s1.trans (show ta[v]?=some (ta.getD v (.map none)) by simp [List.getD,List.getElem?_eq_getElem (show v<ta.length by omega)])) s2 ?_;refine ρ ?_;obtain ⟨w2,eh⟩:∃ w2,w2=w1.setCell (adr TA v) (.map (some mb)):=⟨_,rfl⟩;rw [<-eh]at s3 s5 ⊢;clear eh;have g8:∀ g,(Value.slice VA n cv).ownBlock=some g->wF.heap.size<=g/\g<w.heap.size:=(Jv fd).choose_spec.choose_spec.2.2;have cx:∀ g,(Value.slice TA n ct).ownBlock=some g->wF.heap.size<=g/\g<w.heap.size:=(Jv aq).choose_spec.choose_spec.2.2;have dz:∀ g,(Value.slice KA f ck).ownBlock=some g->wF.heap.size<=g/\g<w.heap.size:=(Jv hBa).choose_spec.choose_spec.2.2;have i5:=a3.size;have ib:=hM.lt;have dm:Blk w2 b 157 _:=(hB.ext a3).grown s5 ((hB.ext a3).ne_own (Jk aq a3) rfl);have co:w2.ownsRow wF.heap.size 205 1 (.slice VA n cv) n va:=Xe (Jk fd a3) (Jk aq a3) s5 rfl
 have fq:w2.ownsRow wF.heap.size 134 1 (.slice KA f ck) f ba:=Xe (Jk hBa a3) (Jk aq a3) s5 rfl;have fo:MapS Tryz.prog 9 w2 mb 0 (λ_=>none):=hM.kept s5 (λe=>by have:=(cx mb e.symm).2;omega);have f4:GrN AR w w2:=(GrN.ext a3).trans (GrN.by s5 λk C=>hAR k (.inr (.inl C)));have ag:Ext wF w2:=Qv (e9.trans a3) s5 λk C=>(cx k C).1;have gq:wF.heap.size<=mb:=nL e9.size gn;have ia:=fo.lt;obtain ⟨RA,rc,il,fz,gi,gh,fh,h8⟩:=hF.rels.parts;rw [List.length_map,List.length_range]at fz gi gh fh;obtain ⟨re,i6,⟨t,i1,dq⟩,c1⟩:=h8 v (by simpa using hv);subst i1;simp only [List.getElem_map,List.getElem_range]at dq;obtain ⟨⟨PA,pc,g2,iw,iv,iu⟩,g1,g6⟩:=id dq;obtain ⟨t1,t2,t3⟩:=t;simp only [Vx]at g2 g1;subst g2;subst g1;have en:(nz (bk (kf v ||| 2^v) 32)).length=(bk (kf v ||| 2^v) 32).length:=Qq _;subst fz;refine cl (Qjq (R:=R) dm rfl rfl (hF.bags.ext ag) (hF.rels.ext ag λcs a h=>Jfz h ag) eo hv hF.kb) ?_
 rintro vl w3 ⟨hf,d3⟩;have b8:=ag.trans d3;have hs:=dm.ext d3;have d7:∀ j u,([.int .i64 ((bk (kf v ||| 2^v) 32).length:Int),t3]:List Value)[j]?=some u->w3.cell? (((adr RA (v*3)).add 1).add j)=some u:=λj u hu=>by
  have:=c1 (1+j) u (by rw [Nat.add_comm];exact hu);rw [Xb]at this;rw [Xb,Xb,Nat.add_assoc];exact Uv b8 this
 refine ρ ?_;refine ld (hs.at (i:=6) rfl) ?_;refine ρ ?_;refine ixq 3 v (fh.ext b8) hv ?_;refine ρ ?_;refine lds (cs:=[.int .i64 ((bk (kf v ||| 2^v) 32).length:Int),t3]) d7 ?_;refine ρ ?_;refine cl (Jcb (ar:=(bk (kf v ||| 2^v) 32).length) (ls:=R v) ((dq.ext b8).rel)) ?_;rintro ur w5 ⟨ec,c0⟩;obtain ⟨ps,GA,gc,du,rfl,j1,i8,ek,d6⟩:=c0;have da:(R v).length=ps.length:=by rw [du,List.length_map]
 have ir:=hF.rlen v hv;have a1:=d3.trans ec;have d8:=ek.here;have aw:∀ p∈ps,RowV w5 p.1 p.2:=λp hp=>(d6 p hp).here;have c4:=dm.ext a1;have au:=ag.trans a1;have hb:=hf.ext ec;have dk:=fo.ext a1;have ej:∀ c,c≠v->(ta.set v (.map (some mb))).getD c (.map none)=ta.getD c (.map none):=λc hc=>by simp [List.getD,List.getElem?_set_ne (Ne.symm hc)]
 have gm:∀ c,c<n->pf c=(v:Int)->c≠v:=λc hc hp e=>hF.pn c hc (by rw [hp,e]);have cm:GrN AR w w5:=f4.trans (GrN.ext a1);have bl:=cm;obtain ⟨d,hd⟩:∃ d,d=ds.getD v false:=⟨_,rfl⟩;obtain ⟨m,c2⟩:∃ m,m=(bk (kf v ||| 2^v) 32).length-1:=⟨_,rfl⟩;obtain ⟨wt,d4⟩:∃ wt:Row->Nat,wt=λx=>wtL T x (chK kf pf v n):=⟨_,rfl⟩;rw [<-hd,<-c2,<-d4];rw [<-c2]at hval;obtain ⟨S,hS⟩:∃ S:Nat,S=(4294967296^20)^32:=⟨_,rfl⟩;obtain ⟨e,he,ff⟩:∃ e,e<=800/\S<=4294967296^e:=⟨20*32,om,by rw [hS,<-Nat.pow_mul];exact Nat.le_refl _⟩;have ed:∀ x,wt x<=S:=λx=>by
  rw [d4,hS];refine nL (Jym λp hp=>hTb _ _) (Nat.pow_le_pow_right (Nat.pow_pos (by decide)) ?_);have:=Jxg kf pf v n;omega
 refine ρ ?_;refine Jt (fun (i:Nat) (vb:Value)=>[(0,.pointer (some ⟨b,0,none⟩)),(1,.int .i64 (v:Int)),(5,vl),(6,vb),(34,.slice GA ps.length gc),(35,.int .i64 (ps.length:Int)),(36,.int .i64 (i:Int))])
  (λi vb w'=>i<=ps.length/\Ext w5 w'/\∃ J,OwnB d w5.heap.size w' vb J/\J.map (·.2)=Zt d wt m ((R v).take i)/\J.length<=i/\∀ q∈J,q.2.2.sum<=i*S/\q.2.2.sz<=i) (λi _=>ps.length-i) 0 (.slice none 0 0) sB
  ⟨Nat.zero_le _,Ext.refl _,[],OwnB.nil _ _ _,rfl,Nat.le_refl _,λq hq=>by cases hq⟩ ?_
 clear hS;rintro i vb w6 ⟨hi,G,J,am,ab,gj,b4⟩;obtain ⟨LA,lc,rfl,gs,ao⟩:=am.form;refine ρ ?_;refine ci (λh=>?_) (λh=>?_)
 .have li:i<ps.length:=by have:=oT h;omega
  clear h;obtain ⟨x,bv⟩:∃ x,x=(ps.getD i z0).2:=⟨_,rfl⟩;have e4:x∈R v:=by rw [du,bv];exact List.mem_map_of_mem (getD_mem' z0 ps li)
  have gd:(R v).getD i []=x:=by rw [du,bv];simp [List.getD,List.getElem?_eq_getElem li]
  obtain ⟨e5,cy⟩:=hF.rows v hv x e4;have bf:RowV w6 (ps.getD i z0).1 x:=by rw [bv];exact (aw _ (getD_mem' z0 ps li)).ext G
  have cc:=d8.ext G;have b7:=au.trans G;have ce:=cm.trans (GrN.ext G);have ha:GV 2 ChG w6 vl (chK kf pf v n):=(hb.ext G).gv (by have:=Jxg kf pf v n;omega);have bz:=Qy [] (show i<(R v).length by omega);rw [gd]at bz;refine ρ ?_;refine ix i cc li ?_;refine ρ ?_;refine ld (cc.cell (show (ps.map (·.1))[i]?=some (ps.getD i z0).1 by simp [List.getD,List.getElem?_eq_getElem li])) ?_
  refine ρ ?_;refine cl (Jhn (T:=T) (AR:=AR) (hF.tb.ext b7) (c4.ext G) rfl rfl rfl (Rd.own (Jk co (a1.trans G))) (Rd.own (Jk s3 (a1.trans G))) ha (by have:=Jxg kf pf v n;omega) (λp hp=>?_) bf cy (λp hp bh=>?_) (λp hp bh=>?_) (λp hp bh k=>hT1 _ bh k) (λp hp k=>hTb _ k)) ?_
  .obtain ⟨O,h2,h3⟩:=Ig hp;refine ⟨O,λc hc=>?_⟩;rw [h3]at hc;rw [e5];exact Jxb hc
  .obtain ⟨O,h2,h3⟩:=Ig hp;exact (hdv _ O h2 bh).gr ce
  .obtain ⟨O,h2,h3⟩:=Ig hp;rw [ej _ (gm _ O h2)];exact (hdt _ O h2 bh).gr ce
  rintro vw w7 ⟨d5,f5,b3⟩;have i0:wtL T x (chK kf pf v n)=wt x:=by rw [d4]
  rw [i0]at d5;obtain ⟨WA,wc,rfl,bd⟩:=Jdg d5;refine ρ ?_;refine ci (λh=>?_) (λh=>?_)
  .have h0:wt x=0:=by
    have:=Xf h;rcases Nat.eq_zero_or_pos (wt x) with h'|h'
    .exact h'
    .have:=bd.2 h';omega
   refine ρ ?_;refine Jg (i+1) _ sO ⟨li,G.trans b3,J,am.ext b3,?_,om,λq hq=>⟨?_,by have:=(b4 q hq).2;omega⟩⟩ om
   .rw [bz,Jvh,Qvc h0];exact ab
   .have:=(b4 q hq).1;rw [Nat.succ_mul];omega
  have h0:wt x≠0:=λe=>by (have:=Xg h;have O:¬ 0<(Jq (wt x)).length:=λh'=>by have:=bd.1 h';omega);(omega)
  clear h;obtain ⟨XA,xc,fy,ip,i3,ge⟩:=id bf;have iy:x.length=m+1:=by rw [e5,c2];omega
  rw [fy];have dd:RdR w7 XA (x.take m):=by
   have O:=(Rd.ext ge b3).take (m:=m) om;have h2:(Jl x).take (m*3)=Jl (x.take m):=Jnc x om;rw [h2]at O;have h3:(x.take m).length=m:=by rw [List.length_take];omega
   unfold RdR;rw [h3];exact O
  have bj:RowV w7 (.slice XA m xc) (x.take m):=⟨XA,xc,by rw [List.length_take,Nat.min_eq_left om],by rw [List.length_take];omega,by rw [List.length_take];omega,dd⟩;have ca:=G.trans b3;have ak:=am.ext b3;refine ρ ?_;refine slh m ?_;refine ρ ?_;refine Jhk (fun (bb:Bool) (_:Unit)=>[(66,.bool bb),(0,.pointer (some ⟨b,0,none⟩)),(1,.int .i64 (v:Int)),(5,vl),(6,.slice LA J.length lc),(8,.slice XA x.length xc),(9,.slice WA (Jq (wt x)).length wc),(10,.slice XA m xc),(34,.slice GA ps.length gc),(35,.int .i64 (ps.length:Int)),(36,.int .i64 (i:Int))])
   (λbb _ w'=>Ext w7 w'/\(bb=true↔¬ (J.getLast?.map (·.2.1))=some (x.take m))) ?_ ?_
  .refine ki 55 (λh=>?_) (λh=>?_)
   .have gk:J=[]:=List.eq_nil_of_length_eq_zero (by have:=Xf h;omega);refine ρ ?_;refine Zn true () sB ⟨Ext.refl _,?_⟩;rw [gk];simp
   .have d9:J≠[]:=λe=>by have:=Xg h;rw [e]at this;simp at this
    obtain ⟨o,z,ez,dt,_⟩:=Jvk d9;have af:z∈J:=by rw [ez];simp
    obtain ⟨kv,zq,b5,bu,b6⟩:=ak.el z af;have i7:J.length=o.length+1:=by rw [ez];simp
    have g9:(Qj J)[(o.length)*3+0]?=some kv:=by
     rw [Kg (p:=z) (λp hp=>(ak.el p hp).len) (by rw [ez];simp) om,b5];rfl
    have em:=Rd.own ak.own;refine ρ ?_;refine ixq 3 o.length em om ?_;refine ρ ?_;refine ld (by have:=em.cell g9;rw [<-Xb]at this;exact this) ?_;refine ρ ?_;refine cl (Jmz bu.v bj) ?_;rintro u w8 ⟨rfl,cz⟩;refine ρ ?_;refine Zn (!decide (z.2.1=x.take m)) () sB ⟨cz,?_⟩;rw [dt];simp
  rintro bb _ w8 ⟨a6,f8⟩;refine Xa (λs:((List (List Value×BkT))×Value×Option Addr×Tr)×Value=>[(0,.pointer (some ⟨b,0,none⟩)),(1,.int .i64 (v:Int)),(5,vl),(6,s.2),(8,.slice XA x.length xc),(9,.slice WA (Jq (wt x)).length wc),(10,.slice XA m xc),(34,.slice GA ps.length gc),(35,.int .i64 (ps.length:Int)),(36,.int .i64 (i:Int))])
   (λs w'=>Ext w5 w'/\GrN (λk=>Qn w5.heap.size (.slice LA J.length lc) k/\w5.heap.size<=k) w7 w'/\OwnB d w5.heap.size w' s.2 (s.1.1++[([s.1.2.1,.bool d,.pointer s.1.2.2.1],(x.take m,s.1.2.2.2))])/\Zt d wt m ((R v).take (i+1))=s.1.1.map (·.2)++[(x.take m,Tr.put d (x.getD m V0) (wt x) s.1.2.2.2)]/\s.1.1.length<=i/\s.1.2.2.2.sum<=i*S/\s.1.2.2.2.sz<=i/\∀ q∈s.1.1,q.2.2.sum<=i*S/\q.2.2.sz<=i) ?_ ?_
  .have bp:=ak.ext a6;refine ci (λh=>?_) (λh=>?_)
   .have en:=f8.1 h;have a8:=ca.trans a6;have a4:Ext w8 w8.drew:=(Ext.refl w8).drew;have ho:=(c4.ext a8).ext a4;have e8:=(au.trans a8).trans a4;have h6:¬ w5.heap.size<=b:=by have:=c4.lt;omega
    refine ρ ?_;refine drN (λk=>w5.heap.size<=k) 10 [(0,0),(0,1),(0,3),(0,4),(0,5),(0,6),(0,7),(0,8),(0,9),(0,10),(1,2),(1,11),(0,12),(1,13),(1,14),(0,15)] kr ?_;refine ρn ?_;refine nld (Jm (ho.at (i:=2) rfl) h6) ?_;refine ρn ?_;refine nix v (Rd.ext hh e8) om ?_;refine ρn ?_;refine nld (λw' hg=>Uv (au.trans (hg.old (a8.trans a4) λk C=>C)) (RdB.cell hD (show v<ds.length by omega))) ?_;refine ρn ?_;refine nop ?_;refine cl (Jxd ((bj.ext a6).ext a4) (Qn w5.heap.size (.slice LA J.length lc)) λk C=>?_) ?_
    .rcases C with h'|h'
     .exact nM h' (a8.trans a4).size
     .exact nM (ao k h').2 ((b3.trans a6).trans a4).size
    rintro kv w9 ⟨eu,bw⟩;obtain ⟨an,ae,rfl,_⟩:=id eu;refine ρ ?_;refine Je (GrN.ext bw) ?_;refine ρn ?_;refine nop ?_;refine cl Qdh ?_;rintro u g7 ⟨rfl,a2⟩;refine ρ ?_;refine Je (GrN.ext a2) ?_;rw [<-hd];refine ρn ?_;refine Idq (Qqj _ an _ ae d none rfl) ?_;refine ρn ?_;refine nop ?_;refine bsl (Qqb _ an _ ae d none rfl) ?_;intro bt j5 a9 ii fx;refine ρ ?_;refine Je (GrN.ext a9) ?_;refine ρn ?_;refine nop ?_;have av:Ext w8 bt:=((a4.trans bw).trans a2).trans a9;have er:BkE d (Qn w5.heap.size (.slice LA J.length lc)) bt [.slice an (x.take m).length ae,.bool d,.pointer none] (x.take m,.nil):=⟨_,_,rfl,(eu.ext a2).ext a9,rfl⟩;refine apB (bp.ext av) fx er om (a8.trans av).size ?_;intro dw bs fj ah;refine ρ ?_;refine Je (GrN.by ah λg eg=>(ao g eg).1) ?_;refine ρn ?_;refine ρ ?_;refine Jb ((J,.slice an (x.take m).length ae,none,.nil),dw) sB ⟨?_,?_,fj,?_,gj,by simp [Tr.sum],by simp [Tr.sz],b4⟩
    .exact Qv (a8.trans av) ah λg eg=>(ao g eg).1
    .exact (GrN.ext (a6.trans av)).trans (GrN.by ah λg eg=>⟨.inr eg,(ao g eg).1⟩)
    .rw [bz,Jvh,<-ab];exact Qvd h0 (by rw [List.getLast?_map];simpa [Option.map_map] using en)
   .have hl:(J.getLast?.map (·.2.1))=some (x.take m):=Classical.byContradiction λh'=>by rw [f8.2 h']at h;cases h
    have d9:J≠[]:=λe=>by rw [e]at hl;cases hl
    obtain ⟨o,z,ez,dt,_⟩:=Jvk d9;rw [dt]at hl;have e2:z.2.1=x.take m:=by simpa using hl
    have af:z∈J:=by rw [ez];simp
    obtain ⟨kv,zq,b5,bu,b6⟩:=bp.el z af;obtain ⟨zp,rfl⟩:=b6.ptr;obtain ⟨zc,zk,zt⟩:=z;simp only at b5 e2;subst b5;subst e2;have fb:=b4 _ af;refine ρ ?_;refine Jb ((o,kv,zp,zt),.slice LA J.length lc) sB ⟨ca.trans a6,GrN.ext a6,by rw [<-ez];exact bp,?_,?_,fb.1,fb.2,λq hq=>b4 q (by rw [ez];simp [hq])⟩
    .rw [bz,Jvh,<-ab,ez,List.map_append];exact Qvf h0
    .have:J.length=o.length+1:=by rw [ez];simp
     simp only;omega
  .rintro ⟨⟨o,kv,q,t⟩,dw⟩ w9 ⟨bc,f2,aj,f0,gw,gg,gf,ex⟩;simp only at aj f0 gw gg gf ex;obtain ⟨LB,lb,rfl,gt,ax⟩:=aj.form;have ac:(o++[([kv,.bool d,.pointer q],(x.take m,t))]).length=o.length+1:=by simp
   rw [ac]at gt ax ⊢;have ay:=aj.own;rw [ac]at ay;refine ρ ?_;refine ixq 3 o.length (Rd.own ay) om ?_;refine ρ ?_;have Z:Ext w9 w9.drew:=(Ext.refl w9).drew;have b9:=bc.trans Z;have ij:=aj.ext Z;have di:=Jk ay Z;have gb:RowV w9.drew (.slice XA x.length xc) x:=by
    have:=(aw _ (getD_mem' z0 ps li)).ext b9;rw [<-bv,fy]at this;exact this
   obtain ⟨j6,ik,hx,_,_,c6⟩:=id gb;injection hx with exx1 _ exx2
   subst exx1;subst exx2;have f7:BkE d (Qn w5.heap.size (.slice LB (o.length+1) lb)) w9 [kv,.bool d,.pointer q] (x.take m,t):=by
    have:=aj.el ([kv,.bool d,.pointer q],(x.take m,t)) (by simp);rw [ac]at this;exact this
   obtain ⟨io,q',g5,er,ei⟩:=id f7;simp only [List.cons.injEq,and_true,true_and]at g5;obtain ⟨g4,g3⟩:=g5;subst g4;subst g3;have db:∀ j u,([.bool d,.pointer q]:List Value)[j]?=some u->w9.drew.cell? (((adr LB (o.length*3)).add 1).add j)=some u:=λj u hu=>by
    have j0:j<2:=(List.getElem?_eq_some_iff.1 hu).1;have O:(Qj (o++[([kv,.bool d,.pointer q],(x.take m,t))]))[o.length*3+(1+j)]?=some u:=by
     rw [Kg (p:=([kv,.bool d,.pointer q],(x.take m,t))) (λp hp=>(aj.el p hp).len) (by simp) om,Nat.add_comm 1 j];exact hu
    have:=(Rd.own di).cell O;rw [Xb,Xb,Nat.add_assoc];exact this
   have ee:NatV w9.drew (.slice WA (Jq (wt x)).length wc) (wt x):=by
    have O:NatX (λk=>Qn w5.heap.size (.slice LA J.length lc) k/\w5.heap.size<=k) w7 (.slice WA (Jq (wt x)).length wc) (wt x):=f5.x d5 λk C=>by
     rcases C.1 with h'|h'
     .have:=G.size;omega
     .exact (ao k h').2
    exact (O.gr f2).1.ext Z
   have be:Qr (x.getD m V0)=true:=hval x e4;have cd:Nb (t.sum+wt x):=Nb.big (k:=i+1) ff he om (by have:=ed x;rw [Nat.succ_mul];omega);have dx:t.sz+1<=1000000:=om
   have bi:∀ k,Qn w5.heap.size (.slice LB (o.length+1) lb) k->k<w9.heap.size:=λk C=>by
    rcases C with h'|h'
    .exact nM h' bc.size
    .exact (ax k h').2
   refine drH (λi=>Nat.ble 16 i) ?_;refine Zf (fuel':=7) 8 [(0,0),(0,1),(0,2),(0,3),(0,4),(0,5),(0,6),(0,7),(0,8),(0,9),(0,10)] #[true,true,true,true,true,true,true,true,true,true,true,false,false,false,false,false,false,false] kr kr rfl ?_;refine ρd ?_;refine Qk (cs:=[.bool d,.pointer q]) db ?_;refine ρd ?_;refine Gs 3 m c6 om ?_;refine ρd ?_;refine Qk (cs:=(x.getD m V0).cells) (λj u hu=>RdR.cell c6 om hu) ?_;refine ρd ?_;refine Xx ?_;refine hcut 2 (lst 18 16) (fun (y:Nat×Option Addr)=>[(12,.pointer (some ⟨y.1,0,none⟩)),(100,.agg #[.bool d,.pointer y.2]),(101,.int .i64 0),(0,.pointer (some ⟨b,0,none⟩)),(1,.int .i64 (v:Int)),(5,vl),(6,.slice LB (o.length+1) lb),(11,.pointer (some (adr LB (o.length*3)))),(34,.slice GA ps.length gc),(35,.int .i64 (ps.length:Int)),(36,.int .i64 (i:Int))])
    (λy W=>Ext w9.drew W/\Blk W y.1 138 [.bool false,.pointer none]/\w9.drew.heap.size<=y.1/\TrV (λk=>Qn w5.heap.size (.slice LB (o.length+1) lb) k∨k=y.1) W (Tr.put d (x.getD m V0) (wt x) t) (.pointer y.2)) ?_ ?_
   .rintro ⟨dv,p2⟩ W ⟨e7,fu,f9,fe⟩;simp only at fu f9 fe;refine Zf (fuel':=0) 8 [(2,16),(2,17)] (lst 18 18) kr kr rfl ?_;refine Jo ?_;refine stW fu ?_;intro W2 ft ch i4;refine Jh (Ql ?_);refine Jo ?_;refine ρ ?_;refine Ql ?_;refine Uw (Xx ?_);refine hend kr ?_;refine ρ ?_;have d2:Ext w5 W:=b9.trans e7;have c8:Ext w9 W:=Z.trans e7;have ea:w9.heap.size<=dv:=nL Z.size f9;have ap:GrN (λk=>k=dv) W W2:=GrN.by ch λk C=>by injection C with C;exact C.symm
    have fi:W2.ownsRow w5.heap.size 140 3 (.slice LB (o.length+1) lb) (o.length+1) (Qj (o++[([kv,.bool d,.pointer q],(x.take m,t))])):=Jr (Jk ay c8) ap λg eg e=>by have:=(ax g eg).2;omega
    refine ρ ?_;refine ldW ft ?_;refine ρ ?_;refine Go.Wk.kv 108 (congrArg (λp=>Value.pointer (some p)) (Xb LB (o.length*3) 1)) ?_;refine stoG (q:=o.length*3+1) (cs:=[.bool d,.pointer p2]) fi (by simp;omega) (by simp) ?_ Qcp;intro W3 cq cg;have de:∀ p∈o,p.1.length=3:=λp hp=>(aj.el p (by simp [hp])).len;have i2:=Qhk de kv (.bool d) (.pointer q) (.bool d) (.pointer p2) (x.take m,t) (x.take m,Tr.put d (x.getD m V0) (wt x) t);rw [show o.length*3+1+([Value.bool d,.pointer p2]:List Value).length=o.length*3+1+2 from rfl,i2]at cq;have d1:Ext w5 W2:=Qv d2 ch λk C=>by injection C with C;have:=bc.size;omega
    have d0:Ext w5 W3:=Qv d1 cg λk C=>(ax k C).1;have cj:GrN (λk=>Qn w5.heap.size (.slice LB (o.length+1) lb) k) W2 W3:=GrN.by cg λk C=>.inr C
    have cn:∀ p:List Value×BkT,BkE d (Qn w5.heap.size (.slice LB (o.length+1) lb)) w9 p.1 p.2->BkE d (Qn w5.heap.size (.slice LB (o.length+1) lb)) W3 p.1 p.2:=λp hp=>by
     have O:BkE d (λk=>Qn w5.heap.size (.slice LB (o.length+1) lb) k∨k=dv) w9 p.1 p.2:=hp.old λk C=>C.imp id λe=>by rw [e];exact ea
     exact (((O.ext c8).gr (ap.mono λk _ C=>.inr C)).old λk C=>.inl (.inl C)).gr cj
    refine ρ ?_;refine Jg (i+1) (.slice LB (o.length+1) lb) sO ⟨li,d0,o++[([kv,.bool d,.pointer p2],(x.take m,Tr.put d (x.getD m V0) (wt x) t))],⟨?_,λp hp=>?_⟩,?_,by simp;omega,λp hp=>?_⟩ om
    .have:(o++[([kv,Value.bool d,.pointer p2],(x.take m,Tr.put d (x.getD m V0) (wt x) t))]).length=o.length+1:=by simp
     rw [this];exact cq
    .rcases List.mem_append.1 hp with O|O
     .have:=aj.el p (by simp [O]);rw [ac]at this;exact cn p this
     .rw [List.mem_singleton.1 O];obtain ⟨im,q3,e3,ew,_⟩:=cn ([kv,.bool d,.pointer q],(x.take m,t)) f7;simp only [List.cons.injEq,and_true,true_and]at e3;rw [<-e3.1]at ew;exact ⟨kv,.pointer p2,rfl,ew,((fe.gr (ap.mono λk _ C=>.inr C)).old λk C=>.inl (.inl C)).gr cj⟩
    .rw [f0];simp
    .rcases List.mem_append.1 hp with O|O
     .have:=ex p O;rw [Nat.succ_mul];omega
     .rw [List.mem_singleton.1 O];have h2:=Jxz d (x.getD m V0) (wt x) t;have h3:=Tr.put_sz d (x.getD m V0) (wt x) t;have h4:=ed x;simp only;rw [Nat.succ_mul];omega
   intro rest;refine htwo 11 15 kr rfl rfl rfl ?_ ?_
   .refine ρ ?_;refine cl (Jlh (ei.ext Z) be ee (λk C=>nM (bi k C) Z.size) h0 cd dx) ?_;rintro u W ⟨q2,rfl,bg,hy⟩;obtain ⟨p2,rfl⟩:=bg.ptr;refine Jh (Ky hy ?_);refine Zf (fuel':=4) 8 [(0,12),(0,13)] (lst 18 14) kr kr rfl ?_;refine ρd ?_;refine Xx ?_;refine Yf (fuel':=3) 14 kr kr rfl rfl ?_;refine ρp ?_;refine ρd ?_;refine Xx ?_;refine Zf (fuel':=2) 8 [(1,15)] (lst 18 16) kr kr rfl ?_;refine dalc' (cs:=[.bool false,.pointer none]) Yj ?_;intro W2 br b2 ai b1;refine Uw (Xx ?_);exact rest (br,p2) _ _ ⟨hy.trans b2,b1,Nat.le_trans hy.size ai,(bg.old λk C=>C.imp id λe=>by rw [e];exact ai).ext b2⟩ sB
   .refine ρ ?_;refine alc Yj ?_;intro W br hy ai b1;refine Jh (Ky hy ?_);refine Zf (fuel':=3) 8 [(1,11),(0,12),(0,13)] #[true,true,true,true,true,true,true,true,true,true,true,true,true,true,false,true,false,false] kr kr rfl ?_;refine ρd ?_;have h9:∀ k,(Qn w5.heap.size (.slice LB (o.length+1) lb) k∨k=br)->k<W.heap.size:=λk C=>by
     rcases C with h'|h'
     .exact nM (bi k h') (Z.trans hy).size
     .rw [h'];exact b1.lt
    refine dcl (Jlh (N:=λk=>Qn w5.heap.size (.slice LB (o.length+1) lb) k∨k=br) (((ei.ext Z).old λk C=>C.imp id λe=>by rw [e];exact ai).ext hy) be (ee.ext hy) h9 h0 cd dx) ?_;rintro u W2 ⟨q2,rfl,bg,b2⟩;obtain ⟨p2,rfl⟩:=bg.ptr;refine ⟨b2,?_⟩;refine ρd ?_;refine Xx ?_;refine Yf (fuel':=2) 14 kr kr rfl rfl ?_;refine ρp ?_;refine ρd ?_;refine Xx ?_;refine hlist (listed':=lst 18 16) kr ?_;exact rest (br,p2) _ _ ⟨hy.trans b2,b1.ext b2,ai,bg⟩ sB
 .have gy:i=ps.length:=by have:=oF h;omega
  clear h;rw [gy,<-da,List.take_length]at ab;have dl:GInv d wt m (R v) (Zt d wt m (R v)):=Jzn hlt λy hy=>by rw [(hF.rows v hv y hy).1,c2];omega
  have b7:=au.trans G;have ig:=(GrN.ext (N:=λk=>k=mb) (a1.trans G));have fl:=dk.ext G;have i9:=fl.lt;have hr:=c4.ext G;have h7:=Jk s3 (a1.trans G);have ep:∀ g,(Value.slice LA J.length lc).ownBlock=some g->¬ g=mb:=λg eg e=>by have:=(ao g eg).1;have:=dk.lt;omega
  have h5:¬ b=mb:=λe=>by have:=hB.lt;omega
  have dj:=dk.lt;have hw:∀ k,(AR k∨k=mb)->k<w6.heap.size:=by
   rintro k (h'|h')
   .have:=hARl k h';have:=(bl.size);have:=G.size;omega
   .omega
  refine ρ ?_;refine Xr (fun (j:Nat) (mc:Nat) (fm:Lit->Option Value)=>[(0,.pointer (some ⟨b,0,none⟩)),(1,.int .i64 (v:Int)),(6,.slice LA J.length lc),(110,.slice LA J.length lc),(111,.int .i64 (J.length:Int)),(112,.int .i64 (j:Int))])
   (λj mc fm w'=>j<=J.length/\GrN (λk=>k=mb) w6 w'/\MapS Tryz.prog 9 w' mb mc fm/\mc<=j/\∀ k:Row,(fm (.string (idn k))=none/\Ye ((J.map (·.2)).take j) k=0)∨∃ y,fm (.string (idn k))=some y/\0<Ye ((J.map (·.2)).take j) k/\NatX (λk=>AR k∨k=mb) w' y (Ye ((J.map (·.2)).take j) k)) (λj _ _=>J.length-j) 0 0 (λ_=>none) sB
   ⟨Nat.zero_le _,GrN.refl _ _,fl,Nat.le_refl _,λk=>.inl ⟨rfl,rfl⟩⟩ ?_
  rintro j mc fm w7 ⟨hj,U,fk,iz,dg⟩;have c3:=Jd hr U h5;have ak:=Jr am.own U ep;have fg:=Jr h7 U λg eg e=>by have:=(cx g eg).2;omega
  have c7:Ext wF w7:=U.old b7 λk C=>by rw [C];exact gq
  refine ρ ?_;refine ci (λh=>?_) (λh=>?_)
  .have lj:j<J.length:=by have:=oT h;omega
   clear h;obtain ⟨z,hz⟩:∃ z,z=J[j]:=⟨_,rfl⟩;have af:z∈J:=by rw [hz];exact List.getElem_mem lj
   have e0:z.2∈Zt d wt m (R v):=by rw [<-ab];exact List.mem_map_of_mem af
   have f6:=(am.el z af).gr (U.mono λk _ C=>.inl (by rw [C];exact dj));obtain ⟨kv,zq,b5,bu,b6⟩:=id f6;obtain ⟨zp,rfl⟩:=b6.ptr;obtain ⟨an,ae,rfl,ie,ic,et,_⟩:=id bu;have a7:FitR z.2.1:=by
    obtain ⟨y,hy,e1,_⟩:=entL_ne.1 (dl.con z.2 e0).2;have:=(hF.rows v hv y hy).2;rw [<-e1];exact ⟨by have:=this.1;rw [List.length_take];omega,λu hu=>this.2 u (List.mem_of_mem_take hu)⟩
   have dh:∀ i u,([.slice an z.2.1.length ae,.bool d,.pointer zp]:List Value)[i]?=some u->w7.cell? ((adr LA (j*3)).add i)=some u:=λi u hu=>by
    have gx:i<3:=(List.getElem?_eq_some_iff.1 hu).1;rw [Xb];refine (Rd.own ak).cell ?_;rw [Kg (p:=z) (λp hp=>(am.el p hp).len) (by rw [hz];exact List.getElem?_eq_getElem lj) gx,b5];exact hu
   refine ρ ?_;refine ixq 3 j (Rd.own ak) lj ?_;refine ρ ?_;refine lds (cs:=[.slice an z.2.1.length ae,.bool d,.pointer zp]) dh ?_;refine ρ ?_;refine alc Jyk ?_;intro w8 j4 cz fa fw;refine ρ ?_;refine stb (cs':=[.slice an z.2.1.length ae,.bool d,.pointer zp]) fw ?_ (Jwr rfl);intro w9 dn j2 bw;have eb:Ext w7 w9:=bw w7 cz fa;have e6:Ext w9 w9.drew:=(Ext.refl w9).drew;have a5:=eb.trans e6;refine ρ ?_;refine drN (λ_=>False) 10 [(0,0),(0,1),(0,2),(0,3),(0,4),(0,5),(0,6),(0,7),(0,8),(0,10),(0,11),(1,9),(1,12),(2,13)] kr ?_;have cp:=Rd.own (Jk fg a5);have bq:=dn.ext e6;refine ρn ?_;refine nld (Jm ((c3.ext a5).at (i:=8) rfl) (λe=>e)) ?_;refine ρn ?_;refine nix v cp hv ?_;refine ρn ?_;refine nld (Jm (cp.cell (show (ta.set v (.map (some mb)))[v]?=some (.map (some mb)) by rw [List.getElem?_set_self om])) (λe=>e)) ?_;refine ρn ?_;refine nld (Jm (bq.at (i:=0) rfl) (λe=>e)) ?_
   refine ρn ?_;refine Xd (cs:=[.bool d,.pointer zp]) (λw' hg j u hu=>Jm (bq.sub (i:=1) (j:=j) (by rw [Nat.add_comm];exact hu)) (λe=>e) w' hg) ?_;refine ρn ?_;refine nop ?_;refine cl (Jqs (r:=z.2.1) (hF.tb.ext (c7.trans a5)) (et.ext a5) (λu hu=>(a7.2 u hu).1) (by have:=a7.len;omega) (by have:=a7.1;omega)) ?_;rintro un g7 ⟨rfl,a2⟩;refine ρ ?_;refine Je (GrN.ext a2) ?_;refine ρn ?_;refine nop ?_;refine cl (Jlg ((b6.ext a5).ext a2) (Nb.big (k:=i) ff he om (b4 z af).1)) ?_;rintro uy bt ⟨c5,gz,a9⟩;obtain ⟨YA,yc,rfl,_⟩:=id c5;have c9:=(a5.trans a2).trans a9;refine ρ ?_;refine Je (GrN.ext a9) ?_;refine ρn ?_;refine Xv ?_;refine mup KS (fk.ext c9) (by unfold maxLen;omega) (Ua a7) ?_;intro bs fp ah;have bo:GrN (λk=>k=mb) bt bs:=GrN.by ah λk C=>by injection C with C;exact C.symm
   have bn:GrN (λk=>k=mb) w7 bs:=(GrN.ext c9).trans bo;have ga:NatX (λk=>AR k∨k=mb) bs (.slice YA (Jq z.2.2.sum).length yc) z.2.2.sum :=
    (gz.x c5 λk C=>nM (hw k C) (nL U.size (a5.trans a2).size)).gr (bo.mono λk _ C=>.inr C)
   have g0:(J.map (·.2)).take (j+1)=(J.map (·.2)).take j++[z.2]:=by
    rw [List.take_succ_eq_append_getElem (by rw [List.length_map];exact lj),List.getElem_map,hz]
   have gl:z.2.1 ∉ ((J.map (·.2)).take j).map (·.1):=by
    have O:=dl.lt;rw [<-ab,<-List.take_append_drop (j+1) (J.map (·.2)),g0,List.map_append,List.map_append]at O
    intro hm;have h2:=(List.pairwise_append.1 (List.pairwise_append.1 O).1).2.2 _ hm z.2.1 (by simp);rw [Vo]at h2;omega
   refine ρ ?_;refine Qa (j+1) (mc+1) (upL fm (.string (idn z.2.1)) (some (.slice YA (Jq z.2.2.sum).length yc))) sO ⟨lj,U.trans bn,fp,om,λk=>?_⟩ om;rw [g0,Qwh _ _ _ gl];by_cases e:z.2.1=k
   .rw [if_pos e,<-e,Gx (KS.key (Ua a7))];exact .inr ⟨_,rfl,Qwf dl e0,ga⟩
   .rw [if_neg e,Yy (λe'=>e (Jvg (by injection e'.symm)))];rcases dg k with O|⟨y,O,h2,h3⟩
    .exact .inl O
    .exact .inr ⟨y,O,h2,h3.gr (bn.mono λk _ C=>.inr C)⟩
  .have gu:j=J.length:=by have:=oF h;omega
   clear h;have df:(J.map (·.2)).take j=Zt d wt m (R v):=by rw [ab,gu,List.take_of_length_le];rw [<-ab,List.length_map];exact Nat.le_refl _
   rw [df]at dg;have aa:=Jr (Jk fq (a1.trans G)) U λg eg e=>by have:=(dz g eg).2;omega
   have fc:=Jr (Jk co (a1.trans G)) U λg eg e=>by have:=(g8 g eg).2;omega
   obtain ⟨r1,r2,r3,r4,r5⟩:=Zd aa (q:=v) om (.slice LA J.length lc);have ih:ba.length=f:=by have:=hBa.1;omega
   refine ρ ?_;refine ld (c3.at (i:=9) rfl) ?_;refine ρ ?_;refine ix v (Rd.own aa) hvf ?_;refine ρ ?_;refine sto (r1.trans (show ba[v]?=some (ba.getD v (.slice none 0 0)) by simp [List.getD,List.getElem?_eq_getElem (show v<ba.length by omega)])) r2 ?_;refine ρ ?_;obtain ⟨w8,ef⟩:∃ w8,w8=w7.setCell (adr KA v) (.slice LA J.length lc):=⟨_,rfl⟩;rw [<-ef]at r3 r5 ⊢;clear ef;have ey:GrN AR w w7:=(((bl.trans (GrN.ext G)).mono λk _ C=>(.inl C:AR k∨k=mb)).trans (U.mono λk _ C=>.inr C)).mono λk C h=>h.elim id λe=>by omega
   have bm:GrN AR w7 w8:=GrN.by r5 λk C=>hAR k (.inr (.inr C))
   have f3:GrN (λk=>AR k∨k=mb) w6 w8:=(U.mono λk _ C=>.inr C).trans (bm.mono λk _ C=>.inl C);have bp:=Xe ak aa r5 rfl;have cr:¬ AR mb:=by
    intro h';have:=hARl mb h';omega
   have cw:∀ k,(AR k∨k=mb)->k<w5.heap.size:=by
    rintro k (h'|h')
    .have:=hARl k h';have:=(bl.size);omega
    .omega
   refine Jj ⟨rfl,.map (some mb),.slice LA J.length lc,⟨Qv c7 r5 λk C=>(dz k C).1,c3.grown r5 (c3.ne_own aa rfl),Xe fc aa r5 rfl,Xe fg aa r5 rfl⟩,r3,ey.trans bm,
    ⟨mb,mc,fm,rfl,om,⟨fk.kept r5 (λe=>cr (hAR mb (.inr (.inr e.symm)))),cr⟩,λk=>?_⟩,
    ⟨J,LA,lc,ab.symm,rfl,gs,om,Rd.own bp,λh0 ad e=>?_,λp hp=>⟨(am.el p hp).len,?_⟩⟩⟩
   .rcases dg k with O|⟨y,O,h2,h3⟩
    .exact .inl O
    .exact .inr ⟨y,O,h2,(h3.old λk C=>.inl (.inl C)).gr bm⟩
   .intro hA;have:=(ao ad.block (by rw [e];simp [Value.ownBlock])).1;have:=cw _ (.inl hA);omega
   .have O:BkE d (λk=>AR k∨k=mb) w6 p.1 p.2:=(am.el p hp).old λk C=>.inl (.inl (cw k C));exact (O.gr f3).old λk C=>.inl (.inl C)
end Go.Proofs.YtebcagekopgdhaaGreatDoor
