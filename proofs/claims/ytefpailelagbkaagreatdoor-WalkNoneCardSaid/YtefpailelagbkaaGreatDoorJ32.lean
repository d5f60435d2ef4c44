/- Part 32 of the proof: Ix6. -/
import Derived.Test.YtefpailelagbkaaGreatDoorJ31
set_option linter.unusedVariables false
set_option maxRecDepth 100000
set_option maxHeartbeats 40000000
namespace Go.Wk
theorem dalc'{P:Program}{n:Nat}{al:AL}{w:World}{Q:Exit->Act->World->Prop}{ops:Array Oper}{drest:List (Nat×Oper)}{d ty:Nat}{pos:String}{aft:Array Edge}{t:Nat}{z:Value}{cs:List Value}(hz:Jxd P t=some z)(kk:∀ w1 b,Ext w w1->w.heap.size<=b->Blk w1 b t cs->WD P n ops Q drest ((d,.pointer (some ⟨b,0,none⟩))::al) w1)(hv:z.cells=cs.toArray:=by rfl)(hd:Nat.blt d n=true:=by rfl):
  WD P n ops Q ((1,⟨some d,.alloc t,ty,pos,aft,none⟩)::drest) al w:=Jmg (alc hz (λw1 b i o j=>Jzr (Jmf i (kk w1 b i o j))) hv hd)
end Go.Wk
namespace Go.Proofs.YtefpailelagbkaaGreatDoor
open Go.RowKit Pl Go.Wk
attribute [local irreducible] WC WL QX WD WDB WP WN WG
theorem Xvx(kv:Value)(A:Option Addr)(n c:Nat)(d:Bool)(p:Option Addr)(h:kv=.slice A n c)(w:World): (Instr.build 141 #[(0,kv),(1,.agg #[.bool d,.pointer p])]).run Tryz.prog w=.ok (.agg [kv,.bool d,.pointer p].toArray) w:=by subst h;kernel_rfl
theorem Xvs(kv:Value)(A:Option Addr)(n c:Nat)(d:Bool)(p:Option Addr)(h:kv=.slice A n c)(w:World): (Instr.buildSlice 138 1 #[(0,.agg [kv,.bool d,.pointer p].toArray)]).run Tryz.prog w=.ok (.slice (some ⟨w.heap.size,0,none⟩) 1 1) (w.alloc (.cells [kv,.bool d,.pointer p].toArray 141)):=by subst h;kernel_rfl
def DnB(AR:Nat->Prop)(d:Bool)(w:World)(x:Value)(bs:List BkT): Prop:=∃ (ps:List (List Value×BkT)) (A:Option Addr) (c:Nat),bs=ps.map (·.2)/\x=.slice A ps.length c/\ps.length<=c/\ps.length<=65536/\Rd w 3 A ps.length (Jxf ps)/\(0<ps.length->∀ ad,A=some ad->¬ AR ad.block)/\∀ p∈ps,p.1.length=3/\BkE d AR w p.1 p.2
theorem DnB.gr{AR:Nat->Prop}{d:Bool}{w w':World}{x:Value}{bs:List BkT}(h:DnB AR d w x bs)(hg:GrN AR w w'): DnB AR d w' x bs:=by
 obtain ⟨ps,A,c,J,G,D,C,u,o,j⟩:=h;refine ⟨ps,A,c,J,G,D,C,Qqk u hg λh0 O e=>o ?_ O e,o,λp i=>⟨(j p i).1,(j p i).2.gr hg⟩⟩;have:=u.1;omega
theorem Nb.big{k S e:Nat}(hS:S<=4294967296^e)(he:e<=800)(hk:k<=4294967296){n:Nat}(hn:n<=k*S): Nb n:=by
 have i:k*S<=4294967296^(e+1):=by
  rw [Nat.pow_succ,Nat.mul_comm];exact Nat.mul_le_mul hS hk
 exact Nat.lt_of_le_of_lt (nL hn i) (Nat.pow_lt_pow_right (by decide) (by rw [Xxh];omega))
theorem Qfq(x:Row){m:Nat}(h:m<=x.length): (Jzj x).take (m*3)=Jzj (x.take m):=by
 have e:Jzj x=Jzj (x.take m)++Jzj (x.drop m):=by rw [<-rowC_app',List.take_append_drop]
 rw [e];refine List.take_left' ?_;rw [Qkq,List.length_take,Nat.min_eq_left h]
theorem Jbn{N:Nat->Prop}{w:World}{d:Bool}{p:Value}{t:Tr}(h:TrV N w t p)(hn:Nb t.sum): Ret Tryz.prog 101 [.agg #[.bool d,p]] w λu w'=>NatV w' u t.sum/\Fresh w u/\Ext w w':=by
 obtain ⟨q,rfl⟩:=h.ptr;refine Jjc Tryz.func101 Tryz.ntmps101 rfl (by kernel_rfl) rfl ?_;refine ρ ?_;refine bx ?_;intro w1 b j hb J;refine ρ ?_;refine ld (J.at (i:=1) rfl) ?_;refine ρ ?_;refine cl (Jwt (h.ext j)) ?_;rintro u Z ⟨G,rfl⟩;refine ρ ?_;refine cl (Jyj G.1 hn.len) ?_;rintro u3 U ⟨C,D,o⟩;refine ρ ?_;exact Jjr ⟨C,λO m c e=>nL j.size (D O m c e),j.trans o⟩
theorem Qqp: Jxd Tryz.prog 141=some (.agg #[.slice none 0 0,.bool false,.pointer none]):=by kernel_rfl
theorem Qwc{v:Value}{d:Bool}{p:Option Addr}(h:v.oneCell'=true): ∀ u∈[v,.bool d,.pointer p],u.oneCell'=true:=λu i=>by
 simp only [List.mem_cons,List.not_mem_nil,or_false]at i;rcases i with rfl|rfl|rfl
 ·exact h
 ·rfl
 ·rfl
theorem Qds(bs:List BkT)(b:BkT)(k:Row)(h:b.1 ∉ bs.map (·.1)): Qdt (bs++[b]) k=if b.1=k then b.2.sum else Qdt bs k:=by
 unfold Qdt;rw [List.find?_append];by_cases e:b.1=k
 ·rw [if_pos e];have:bs.find? (λc=>decide (c.1=k))=none:=List.find?_eq_none.2 λc i j=>h (by rw [e];exact List.mem_map.2 ⟨c,i,by simpa using j⟩);rw [this];simp [e]
 ·rw [if_neg e];cases hf:bs.find? (λc=>decide (c.1=k)) with
  | some c=>simp
  | none=>simp [e]
theorem Qyf{wt:Row->Nat}{m:Nat}{rs:List Row}{bs:List BkT}{d:Bool}(h:GInv d wt m rs bs){b:BkT}(hb:b∈bs): 0<b.2.sum:=by
 obtain ⟨u,o⟩:=h.con b hb;rw [Tr.sum_eq,u,Jgs];exact (Qtp λp i=>by obtain ⟨x,_,_,_,_,j⟩:=entL_mem.1 i;exact j).2 o
theorem Qhc{B0 n f b v cb cv ct ck dc:Nat}{kf:Nat->Nat}{pf:Nat->Int}{R:Nat->List Row}{vR Pv Av:Value}{BA VA TA KA DA:Option Addr}{wF w:World}{va ta ba:List Value}{ds:List Bool}{T:Nat->Row->Nat}{AR:Nat->Prop}(hF:FixW B0 n f kf pf R vR BA wF)(hds:ds.length=f)(hD:RdB wF DA ds)(hW:BldW wF b n (bCs n f (.slice DA f dc) Pv Av BA cb vR VA cv TA ct (.slice KA f ck)) VA cv TA ct w va ta)(hBa:w.ownsRow wF.heap.size 138 1 (.slice KA f ck) f ba)(hvf:v<f)(hm:0<(bk (kf v ||| 2^v) 32).length)(hval:∀ x∈R v,Jqz (x.getD ((bk (kf v ||| 2^v) 32).length-1) V0)=true)(hlt:Lt [] (R v))(hdv:∀ c,c<n->pf c=(v:Int)->f<=c->DnV AR (T c) w (va.getD c (.map none)))(hdt:∀ c,c<n->pf c=(v:Int)->c<f->DnT AR (T c) w (ta.getD c (.map none)))(hT1:∀ c,f<=c->∀ k,T c k<=1)(hTb:∀ c k,T c k<=4294967296^20)(hAR:∀ k,ARk n f VA cv TA ct (.slice KA f ck) k->AR k)(hARl:∀ k,AR k->k<w.heap.size):
  Ret Tryz.prog 84 [.pointer (some ⟨b,0,none⟩),.int .i64 (v:Int)] w λu w'=>u=.int .i64 0/\∃ mv lv,BldW wF b n (bCs n f (.slice DA f dc) Pv Av BA cb vR VA cv TA ct (.slice KA f ck)) VA cv TA ct w' va (ta.set v mv)/\w'.ownsRow wF.heap.size 138 1 (.slice KA f ck) f (ba.set v lv) /\
   GrN AR w w'/\DnT AR (Qdt (Qjm (ds.getD v false) (λx=>wtL T x (chK kf pf v n)) ((bk (kf v ||| 2^v) 32).length-1) (R v))) w' mv /\
   DnB AR (ds.getD v false) w' lv (Qjm (ds.getD v false) (λx=>wtL T x (chK kf pf v n)) ((bk (kf v ||| 2^v) 32).length-1) (R v)):=by
 obtain ⟨e7,hB,fb,ap⟩:=hW;have em:=hF.n32;have j0:=hF.fn;have hv:v<n:=by omega
 have ha:Rd wF 1 DA f (ds.map Value.bool):=hds ▸ hD;refine Jjc Tryz.func84 Tryz.ntmps84 rfl (by kernel_rfl) rfl ?_;refine ρ ?_;refine ld (hB.at (i:=8) rfl) ?_;refine ρ ?_;refine mkm 9 ?_;intro w1 mb a2 gk hM;obtain ⟨s1,s2,s3,s4,s5⟩:=Jqj (Jjb ap a2) (q:=v) (by omega) (.map (some mb));have im:ta.length=n:=by have:=ap.1;omega
 refine ρ ?_;refine ix v (Rd.own (Jjb ap a2)) (by omega) ?_;refine ρ ?_;refine sto (s1.trans (show ta[v]?=some (ta.getD v (.map none)) by simp [List.getD,List.getElem?_eq_getElem (show v<ta.length by omega)])) s2 ?_;refine ρ ?_;obtain ⟨w2,ee⟩:∃ w2,w2=w1.setCell (adr TA v) (.map (some mb)):=⟨_,rfl⟩;rw [<-ee]at s3 s5 ⊢;clear ee;have g5:∀ g,(Value.slice VA n cv).ownBlock=some g->wF.heap.size<=g/\g<w.heap.size:=(Jjd fb).choose_spec.choose_spec.2.2;have cr:∀ g,(Value.slice TA n ct).ownBlock=some g->wF.heap.size<=g/\g<w.heap.size:=(Jjd ap).choose_spec.choose_spec.2.2;have dw:∀ g,(Value.slice KA f ck).ownBlock=some g->wF.heap.size<=g/\g<w.heap.size:=(Jjd hBa).choose_spec.choose_spec.2.2;have i2:=a2.size;have i8:=hM.lt;have dk:Blk w2 b 158 _:=(hB.ext a2).grown s5 ((hB.ext a2).ne_own (Jjb ap a2) rfl);have cm:w2.ownsRow wF.heap.size 200 1 (.slice VA n cv) n va:=Jjs (Jjb fb a2) (Jjb ap a2) s5 rfl
 have fo:w2.ownsRow wF.heap.size 138 1 (.slice KA f ck) f ba:=Jjs (Jjb hBa a2) (Jjb ap a2) s5 rfl;have fk:MapS Tryz.prog 9 w2 mb 0 (λ_=>none):=hM.kept s5 (λe=>by have:=(cr mb e.symm).2;omega);have f2:GrN AR w w2:=(GrN.ext a2).trans (GrN.by s5 λk C=>hAR k (.inr (.inl C)));have af:Ext wF w2:=Jjk (e7.trans a2) s5 λk C=>(cr k C).1;have gl:wF.heap.size<=mb:=nL e7.size gk;have i7:=fk.lt;obtain ⟨RA,rc,ii,fw,gf,ge,ff,h5⟩:=hF.rels.parts;rw [List.length_map,List.length_range]at fw gf ge ff;obtain ⟨re,i3,⟨t,hw,dm⟩,bz⟩:=h5 v (by simpa using hv);subst hw;simp only [List.getElem_map,List.getElem_range]at dm;obtain ⟨⟨PA,pc,fz,ir,iq,ip⟩,fy,g3⟩:=id dm;obtain ⟨t1,t2,t3⟩:=t;simp only [Jkm]at fz fy;subst fz;subst fy;have ek:(nz (bk (kf v ||| 2^v) 32)).length=(bk (kf v ||| 2^v) 32).length:=Jqp _;subst fw;refine cl (Jgc (R:=R) dk rfl rfl (hF.bags.ext af) (hF.rels.ext af λcs a h=>Qzq h af) em hv hF.kb) ?_
 rintro vl w3 ⟨h9,d1⟩;have b6:=af.trans d1;have hh:=dk.ext d1;have d5:∀ j u,([.int .i64 ((bk (kf v ||| 2^v) 32).length:Int),t3]:List Value)[j]?=some u->w3.cell? (((adr RA (v*3)).add 1).add j)=some u:=λj u hu=>by
  have:=bz (1+j) u (by rw [Nat.add_comm];exact hu);rw [Jqr]at this;rw [Jqr,Jqr,Nat.add_assoc];exact Jwf b6 this
 refine ρ ?_;refine ld (hh.at (i:=6) rfl) ?_;refine ρ ?_;refine ixq 3 v (ff.ext b6) hv ?_;refine ρ ?_;refine lds (cs:=[.int .i64 ((bk (kf v ||| 2^v) 32).length:Int),t3]) d5 ?_;refine ρ ?_;refine cl (Jcj (ar:=(bk (kf v ||| 2^v) 32).length) (ls:=R v) ((dm.ext b6).rel)) ?_;rintro ur w5 ⟨ea,bw⟩;obtain ⟨ps,GA,gc,dq,rfl,iy,i5,ei,d4⟩:=bw;have d8:(R v).length=ps.length:=by rw [dq,List.length_map]
 have io:=hF.rlen v hv;have Z:=d1.trans ea;have d6:=ei.here;have av:∀ p∈ps,RowV w5 p.1 p.2:=λp hp=>(d4 p hp).here;have c2:=dk.ext Z;have aq:=af.trans Z;have h8:=h9.ext ea;have di:=fk.ext Z;have eh:∀ c,c≠v->(ta.set v (.map (some mb))).getD c (.map none)=ta.getD c (.map none):=λc hc=>by simp [List.getD,List.getElem?_set_ne (Ne.symm hc)]
 have gj:∀ c,c<n->pf c=(v:Int)->c≠v:=λc hc hp e=>hF.pn c hc (by rw [hp,e]);have ch:GrN AR w w5:=f2.trans (GrN.ext Z);have bi:=ch;obtain ⟨d,hd⟩:∃ d,d=ds.getD v false:=⟨_,rfl⟩;obtain ⟨m,c0⟩:∃ m,m=(bk (kf v ||| 2^v) 32).length-1:=⟨_,rfl⟩;obtain ⟨wt,d2⟩:∃ wt:Row->Nat,wt=λx=>wtL T x (chK kf pf v n):=⟨_,rfl⟩;rw [<-hd,<-c0,<-d2];rw [<-c0]at hval;obtain ⟨S,hS⟩:∃ S:Nat,S=(4294967296^20)^32:=⟨_,rfl⟩;obtain ⟨e,he,fd⟩:∃ e,e<=800/\S<=4294967296^e:=⟨20*32,by omega,by rw [hS,<-Nat.pow_mul];exact Nat.le_refl _⟩;have eb:∀ x,wt x<=S:=λx=>by
  rw [d2,hS];refine nL (Qdc λp hp=>hTb _ _) (Nat.pow_le_pow_right (Nat.pow_pos (by decide)) ?_);have:=Jfm kf pf v n;omega
 refine ρ ?_;refine Jqb (fun (i:Nat) (vb:Value)=>[(0,.pointer (some ⟨b,0,none⟩)),(1,.int .i64 (v:Int)),(5,vl),(6,vb),(34,.slice GA ps.length gc),(35,.int .i64 (ps.length:Int)),(36,.int .i64 (i:Int))])
  (λi vb w'=>i<=ps.length/\Ext w5 w'/\∃ G,OwnB d w5.heap.size w' vb G/\G.map (·.2)=Qjm d wt m ((R v).take i)/\G.length<=i/\∀ q∈G,q.2.2.sum<=i*S/\q.2.2.sz<=i) (λi _=>ps.length-i) 0 (.slice none 0 0) sB
  ⟨Nat.zero_le _,Ext.refl _,[],OwnB.nil _ _ _,rfl,Nat.le_refl _,λq hq=>by cases hq⟩ ?_
 clear hS;rintro i vb w6 ⟨hi,D,G,ak,aa,gg,b2⟩;obtain ⟨LA,lc,rfl,gm,an⟩:=ak.form;refine ρ ?_;refine ci (λh=>?_) (λh=>?_)
 ·have li:i<ps.length:=by have:=oT h;omega
  clear h;obtain ⟨x,bt⟩:∃ x,x=(ps.getD i z0).2:=⟨_,rfl⟩;have e0:x∈R v:=by rw [dq,bt];exact List.mem_map_of_mem (getD_mem' z0 ps li)
  have g9:(R v).getD i []=x:=by rw [dq,bt];simp [List.getD,List.getElem?_eq_getElem li]
  obtain ⟨e2,cw⟩:=hF.rows v hv x e0;have bd:RowV w6 (ps.getD i z0).1 x:=by rw [bt];exact (av _ (getD_mem' z0 ps li)).ext D
  have c9:=d6.ext D;have b5:=aq.trans D;have cc:=ch.trans (GrN.ext D);have h7:GV 2 ChG w6 vl (chK kf pf v n):=(h8.ext D).gv (by have:=Jfm kf pf v n;omega);have bv:=Jjp [] (show i<(R v).length by omega);rw [g9]at bv;refine ρ ?_;refine ix i c9 li ?_;refine ρ ?_;refine ld (c9.cell (show (ps.map (·.1))[i]?=some (ps.getD i z0).1 by simp [List.getD,List.getElem?_eq_getElem li])) ?_
  refine ρ ?_;refine cl (Jnl (T:=T) (AR:=AR) (hF.tb.ext b5) (c2.ext D) rfl rfl rfl (Rd.own (Jjb cm (Z.trans D))) (Rd.own (Jjb s3 (Z.trans D))) h7 (by have:=Jfm kf pf v n;omega) (λp hp=>?_) bd cw (λp hp bf=>?_) (λp hp bf=>?_) (λp hp bf k=>hT1 _ bf k) (λp hp k=>hTb _ k)) ?_
  ·obtain ⟨J,h2,h3⟩:=Jcl hp;refine ⟨J,λc hc=>?_⟩;rw [h3]at hc;rw [e2];exact Jvd hc
  ·obtain ⟨J,h2,h3⟩:=Jcl hp;exact (hdv _ J h2 bf).gr cc
  ·obtain ⟨J,h2,h3⟩:=Jcl hp;rw [eh _ (gj _ J h2)];exact (hdt _ J h2 bf).gr cc
  rintro vw w7 ⟨d3,f3,b1⟩;have hs:wtL T x (chK kf pf v n)=wt x:=by rw [d2]
  rw [hs]at d3;obtain ⟨WA,wc,rfl,b9⟩:=Jrm d3;refine ρ ?_;refine ci (λh=>?_) (λh=>?_)
  ·have h0:wt x=0:=by
    have:=Jqn h;rcases Nat.eq_zero_or_pos (wt x) with h'|h'
    ·exact h'
    ·have:=b9.2 h';omega
   refine ρ ?_;refine Jjm (i+1) _ sO ⟨li,D.trans b1,G,ak.ext b1,?_,by omega,λq hq=>⟨?_,by have:=(b2 q hq).2;omega⟩⟩ (by omega)
   ·rw [bv,Jdf,Qyh h0];exact aa
   ·have:=(b2 q hq).1;rw [Nat.succ_mul];omega
  have h0:wt x≠0:=λe=>by (have:=Jqk h;have J:¬ 0<(Jjf (wt x)).length:=λh'=>by have:=b9.1 h';omega);(omega)
  clear h;obtain ⟨XA,xc,fu,il,i0,ga⟩:=id bd;have iu:x.length=m+1:=by rw [e2,c0];omega
  rw [fu];have da:RdR w7 XA (x.take m):=by
   have J:=(Rd.ext ga b1).take (m:=m) (by omega);have h2:(Jzj x).take (m*3)=Jzj (x.take m):=Qfq x (by omega);rw [h2]at J;have h3:(x.take m).length=m:=by rw [List.length_take];omega
   unfold RdR;rw [h3];exact J
  have bh:RowV w7 (.slice XA m xc) (x.take m):=⟨XA,xc,by rw [List.length_take,Nat.min_eq_left (by omega)],by rw [List.length_take];omega,by rw [List.length_take];omega,da⟩;have c8:=D.trans b1;have aj:=ak.ext b1;refine ρ ?_;refine slh m ?_;refine ρ ?_;refine Qdf (fun (bb:Bool) (_:Unit)=>[(66,.bool bb),(0,.pointer (some ⟨b,0,none⟩)),(1,.int .i64 (v:Int)),(5,vl),(6,.slice LA G.length lc),(8,.slice XA x.length xc),(9,.slice WA (Jjf (wt x)).length wc),(10,.slice XA m xc),(34,.slice GA ps.length gc),(35,.int .i64 (ps.length:Int)),(36,.int .i64 (i:Int))])
   (λbb _ w'=>Ext w7 w'/\(bb=true↔¬ (G.getLast?.map (·.2.1))=some (x.take m))) ?_ ?_
  ·refine ki 55 (λh=>?_) (λh=>?_)
   ·have gh:G=[]:=List.eq_nil_of_length_eq_zero (by have:=Jqn h;omega);refine ρ ?_;refine Jzs true () sB ⟨Ext.refl _,?_⟩;rw [gh];simp
   ·have d7:G≠[]:=λe=>by have:=Jqk h;rw [e]at this;simp at this
    obtain ⟨o,z,ez,dn,_⟩:=Jkr d7;have ae:z∈G:=by rw [ez];simp
    obtain ⟨kv,zq,b3,bs,b4⟩:=aj.el z ae;have i4:G.length=o.length+1:=by rw [ez];simp
    have g6:(Jxf G)[(o.length)*3+0]?=some kv:=by
     rw [Jkk (p:=z) (λp hp=>(aj.el p hp).len) (by rw [ez];simp) (by omega),b3];rfl
    have ej:=Rd.own aj.own;refine ρ ?_;refine ixq 3 o.length ej (by omega) ?_;refine ρ ?_;refine ld (by have:=ej.cell g6;rw [<-Jqr]at this;exact this) ?_;refine ρ ?_;refine cl (Jfv bs.v bh) ?_;rintro u w8 ⟨rfl,cx⟩;refine ρ ?_;refine Jzs (!decide (z.2.1=x.take m)) () sB ⟨cx,?_⟩;rw [dn];simp
  rintro bb _ w8 ⟨a5,f6⟩;refine Jxz (λs:((List (List Value×BkT))×Value×Option Addr×Tr)×Value=>[(0,.pointer (some ⟨b,0,none⟩)),(1,.int .i64 (v:Int)),(5,vl),(6,s.2),(8,.slice XA x.length xc),(9,.slice WA (Jjf (wt x)).length wc),(10,.slice XA m xc),(34,.slice GA ps.length gc),(35,.int .i64 (ps.length:Int)),(36,.int .i64 (i:Int))])
   (λs w'=>Ext w5 w'/\GrN (λk=>Jyz w5.heap.size (.slice LA G.length lc) k/\w5.heap.size<=k) w7 w'/\OwnB d w5.heap.size w' s.2 (s.1.1++[([s.1.2.1,.bool d,.pointer s.1.2.2.1],(x.take m,s.1.2.2.2))])/\Qjm d wt m ((R v).take (i+1))=s.1.1.map (·.2)++[(x.take m,Tr.put d (x.getD m V0) (wt x) s.1.2.2.2)]/\s.1.1.length<=i/\s.1.2.2.2.sum<=i*S/\s.1.2.2.2.sz<=i/\∀ q∈s.1.1,q.2.2.sum<=i*S/\q.2.2.sz<=i) ?_ ?_
  ·have bn:=aj.ext a5;refine ci (λh=>?_) (λh=>?_)
   ·have ek:=f6.1 h;have a7:=c8.trans a5;have a3:Ext w8 w8.drew:=(Ext.refl w8).drew;have hb:=(c2.ext a7).ext a3;have e6:=(aq.trans a7).trans a3;have gy:¬ w5.heap.size<=b:=by have:=c2.lt;omega
    refine ρ ?_;refine drN (λk=>w5.heap.size<=k) 10 [(0,0),(0,1),(0,3),(0,4),(0,5),(0,6),(0,7),(0,8),(0,9),(0,10),(1,2),(1,11),(0,12),(1,13),(1,14),(0,15)] (by kernel_rfl) ?_;refine ρn ?_;refine nld (Jjg (hb.at (i:=2) rfl) gy) ?_;refine ρn ?_;refine nix v (Rd.ext ha e6) (by omega) ?_;refine ρn ?_;refine nld (λw' hg=>Jwf (aq.trans (hg.old (a7.trans a3) λk C=>C)) (RdB.cell hD (show v<ds.length by omega))) ?_;refine ρn ?_;refine nop ?_;refine cl (Jyn ((bh.ext a5).ext a3) (Jyz w5.heap.size (.slice LA G.length lc)) λk C=>?_) ?_
    ·rcases C with h'|h'
     ·exact nM h' (a7.trans a3).size
     ·exact nM (an k h').2 ((b1.trans a5).trans a3).size
    rintro kv w9 ⟨er,bu⟩;obtain ⟨am,ac,rfl,_⟩:=id er;refine ρ ?_;refine Jqt (GrN.ext bu) ?_;refine ρn ?_;refine nop ?_;refine cl Qxk ?_;rintro u g4 ⟨rfl,a1⟩;refine ρ ?_;refine Jqt (GrN.ext a1) ?_;rw [<-hd];refine ρn ?_;refine Xqb (Xvx _ am _ ac d none rfl) ?_;refine ρn ?_;refine nop ?_;refine bsl (Xvs _ am _ ac d none rfl) ?_;intro br j2 a8 ie ft;refine ρ ?_;refine Jqt (GrN.ext a8) ?_;refine ρn ?_;refine nop ?_;have au:Ext w8 br:=((a3.trans bu).trans a1).trans a8;have eo:BkE d (Jyz w5.heap.size (.slice LA G.length lc)) br [.slice am (x.take m).length ac,.bool d,.pointer none] (x.take m,.nil):=⟨_,_,rfl,(er.ext a1).ext a8,rfl⟩;refine apB (bn.ext au) ft eo (by omega) (a7.trans au).size ?_;intro du bq fh ag;refine ρ ?_;refine Jqt (GrN.by ag λg eg=>(an g eg).1) ?_;refine ρn ?_;refine ρ ?_;refine Jjn ((G,.slice am (x.take m).length ac,none,.nil),du) sB ⟨?_,?_,fh,?_,gg,by simp [Tr.sum],by simp [Tr.sz],b2⟩
    ·exact Jjk (a7.trans au) ag λg eg=>(an g eg).1
    ·exact (GrN.ext (a5.trans au)).trans (GrN.by ag λg eg=>⟨.inr eg,(an g eg).1⟩)
    ·rw [bv,Jdf,<-aa];exact Qfb h0 (by rw [List.getLast?_map];simpa [Option.map_map] using ek)
   ·have hl:(G.getLast?.map (·.2.1))=some (x.take m):=Classical.byContradiction λh'=>by rw [f6.2 h']at h;cases h
    have d7:G≠[]:=λe=>by rw [e]at hl;cases hl
    obtain ⟨o,z,ez,dn,_⟩:=Jkr d7;rw [dn]at hl;have dz:z.2.1=x.take m:=by simpa using hl
    have ae:z∈G:=by rw [ez];simp
    obtain ⟨kv,zq,b3,bs,b4⟩:=bn.el z ae;obtain ⟨zp,rfl⟩:=b4.ptr;obtain ⟨zc,zk,zt⟩:=z;simp only at b3 dz;subst b3;subst dz;have f9:=b2 _ ae;refine ρ ?_;refine Jjn ((o,kv,zp,zt),.slice LA G.length lc) sB ⟨c8.trans a5,GrN.ext a5,by rw [<-ez];exact bn,?_,?_,f9.1,f9.2,λq hq=>b2 q (by rw [ez];simp [hq])⟩
    ·rw [bv,Jdf,<-aa,ez,List.map_append];exact Qyj h0
    ·have:G.length=o.length+1:=by rw [ez];simp
     simp only;omega
  ·rintro ⟨⟨o,kv,q,t⟩,du⟩ w9 ⟨b8,ey,ai,ex,gs,gd,gb,eu⟩;simp only at ai ex gs gd gb eu;obtain ⟨LB,lb,rfl,gn,aw⟩:=ai.form;have ab:(o++[([kv,.bool d,.pointer q],(x.take m,t))]).length=o.length+1:=by simp
   rw [ab]at gn aw ⊢;have ax:=ai.own;rw [ab]at ax;refine ρ ?_;refine ixq 3 o.length (Rd.own ax) (by omega) ?_;refine ρ ?_;have U:Ext w9 w9.drew:=(Ext.refl w9).drew;have b7:=b8.trans U;have ig:=ai.ext U;have dg:=Jjb ax U;have g8:RowV w9.drew (.slice XA x.length xc) x:=by
    have:=(av _ (getD_mem' z0 ps li)).ext b7;rw [<-bt,fu]at this;exact this
   obtain ⟨j3,ih,hr,_,_,c4⟩:=id g8;injection hr with exx1 _ exx2
   subst exx1;subst exx2;have f5:BkE d (Jyz w5.heap.size (.slice LB (o.length+1) lb)) w9 [kv,.bool d,.pointer q] (x.take m,t):=by
    have:=ai.el ([kv,.bool d,.pointer q],(x.take m,t)) (by simp);rw [ab]at this;exact this
   obtain ⟨ik,q',g2,eo,ef⟩:=id f5;simp only [List.cons.injEq,and_true,true_and]at g2;obtain ⟨g1,g0⟩:=g2;subst g1;subst g0;have d9:∀ j u,([.bool d,.pointer q]:List Value)[j]?=some u->w9.drew.cell? (((adr LB (o.length*3)).add 1).add j)=some u:=λj u hu=>by
    have iw:j<2:=(List.getElem?_eq_some_iff.1 hu).1;have J:(Jxf (o++[([kv,.bool d,.pointer q],(x.take m,t))]))[o.length*3+(1+j)]?=some u:=by
     rw [Jkk (p:=([kv,.bool d,.pointer q],(x.take m,t))) (λp hp=>(ai.el p hp).len) (by simp) (by omega),Nat.add_comm 1 j];exact hu
    have:=(Rd.own dg).cell J;rw [Jqr,Jqr,Nat.add_assoc];exact this
   have ec:NatV w9.drew (.slice WA (Jjf (wt x)).length wc) (wt x):=by
    have J:NatX (λk=>Jyz w5.heap.size (.slice LA G.length lc) k/\w5.heap.size<=k) w7 (.slice WA (Jjf (wt x)).length wc) (wt x):=f3.x d3 λk C=>by
     rcases C.1 with h'|h'
     ·have:=D.size;omega
     ·exact (an k h').2
    exact (J.gr ey).1.ext U
   have bc:Jqz (x.getD m V0)=true:=hval x e0;have ca:Nb (t.sum+wt x):=Nb.big (k:=i+1) fd he (by omega) (by have:=eb x;rw [Nat.succ_mul];omega);have dv:t.sz+1<=1000000:=by omega
   have bg:∀ k,Jyz w5.heap.size (.slice LB (o.length+1) lb) k->k<w9.heap.size:=λk C=>by
    rcases C with h'|h'
    ·exact nM h' b8.size
    ·exact (aw k h').2
   refine drH (λi=>Nat.ble 16 i) ?_;refine Qjk (fuel':=7) 8 [(0,0),(0,1),(0,2),(0,3),(0,4),(0,5),(0,6),(0,7),(0,8),(0,9),(0,10)] #[true,true,true,true,true,true,true,true,true,true,true,false,false,false,false,false,false,false] (by kernel_rfl) (by kernel_rfl) rfl ?_;refine ρd ?_;refine Jws (cs:=[.bool d,.pointer q]) d9 ?_;refine ρd ?_;refine Qpd 3 m c4 (by omega) ?_;refine ρd ?_;refine Jws (cs:=(x.getD m V0).cells) (λj u hu=>RdR.cell c4 (by omega) hu) ?_;refine ρd ?_;refine Jzn ?_;refine hcut 2 (lst 18 16) (fun (y:Nat×Option Addr)=>[(12,.pointer (some ⟨y.1,0,none⟩)),(100,.agg #[.bool d,.pointer y.2]),(101,.int .i64 0),(0,.pointer (some ⟨b,0,none⟩)),(1,.int .i64 (v:Int)),(5,vl),(6,.slice LB (o.length+1) lb),(11,.pointer (some (adr LB (o.length*3)))),(34,.slice GA ps.length gc),(35,.int .i64 (ps.length:Int)),(36,.int .i64 (i:Int))])
    (λy W=>Ext w9.drew W/\Blk W y.1 126 [.bool false,.pointer none]/\w9.drew.heap.size<=y.1/\TrV (λk=>Jyz w5.heap.size (.slice LB (o.length+1) lb) k∨k=y.1) W (Tr.put d (x.getD m V0) (wt x) t) (.pointer y.2)) ?_ ?_
   ·rintro ⟨dt,p2⟩ W ⟨e5,fq,f7,fc⟩;simp only at fq f7 fc;refine Qjk (fuel':=0) 8 [(2,16),(2,17)] (lst 18 18) (by kernel_rfl) (by kernel_rfl) rfl ?_;refine Jqs ?_;refine stW fq ?_;intro W2 fp ce i1;refine Jzr (Jxr ?_);refine Jqs ?_;refine ρ ?_;refine Jxr ?_;refine Qhs (Jzn ?_);refine hend (by kernel_rfl) ?_;refine ρ ?_;have d0:Ext w5 W:=b7.trans e5;have c6:Ext w9 W:=U.trans e5;have e8:w9.heap.size<=dt:=nL U.size f7;have ao:GrN (λk=>k=dt) W W2:=GrN.by ce λk C=>by injection C with C;exact C.symm
    have fg:W2.ownsRow w5.heap.size 141 3 (.slice LB (o.length+1) lb) (o.length+1) (Jxf (o++[([kv,.bool d,.pointer q],(x.take m,t))])):=Jjq (Jjb ax c6) ao λg eg e=>by have:=(aw g eg).2;omega
    refine ρ ?_;refine ldW fp ?_;refine ρ ?_;refine Go.Wk.kv 108 (congrArg (λp=>Value.pointer (some p)) (Jqr LB (o.length*3) 1)) ?_;refine stoG (q:=o.length*3+1) (cs:=[.bool d,.pointer p2]) fg (by simp;omega) (by simp) ?_ Qnh;intro W3 co cd;have db:∀ p∈o,p.1.length=3:=λp hp=>(ai.el p (by simp [hp])).len;have hx:=Qbt db kv (.bool d) (.pointer q) (.bool d) (.pointer p2) (x.take m,t) (x.take m,Tr.put d (x.getD m V0) (wt x) t);rw [show o.length*3+1+([Value.bool d,.pointer p2]:List Value).length=o.length*3+1+2 from rfl,hx]at co;have cz:Ext w5 W2:=Jjk d0 ce λk C=>by injection C with C;have:=b8.size;omega
    have cy:Ext w5 W3:=Jjk cz cd λk C=>(aw k C).1;have cg:GrN (λk=>Jyz w5.heap.size (.slice LB (o.length+1) lb) k) W2 W3:=GrN.by cd λk C=>.inr C
    have cj:∀ p:List Value×BkT,BkE d (Jyz w5.heap.size (.slice LB (o.length+1) lb)) w9 p.1 p.2->BkE d (Jyz w5.heap.size (.slice LB (o.length+1) lb)) W3 p.1 p.2:=λp hp=>by
     have J:BkE d (λk=>Jyz w5.heap.size (.slice LB (o.length+1) lb) k∨k=dt) w9 p.1 p.2:=hp.old λk C=>C.imp id λe=>by rw [e];exact e8
     exact (((J.ext c6).gr (ao.mono λk _ C=>.inr C)).old λk C=>.inl (.inl C)).gr cg
    refine ρ ?_;refine Jjm (i+1) (.slice LB (o.length+1) lb) sO ⟨li,cy,o++[([kv,.bool d,.pointer p2],(x.take m,Tr.put d (x.getD m V0) (wt x) t))],⟨?_,λp hp=>?_⟩,?_,by simp;omega,λp hp=>?_⟩ (by omega)
    ·have:(o++[([kv,Value.bool d,.pointer p2],(x.take m,Tr.put d (x.getD m V0) (wt x) t))]).length=o.length+1:=by simp
     rw [this];exact co
    ·rcases List.mem_append.1 hp with J|J
     ·have:=ai.el p (by simp [J]);rw [ab]at this;exact cj p this
     ·rw [List.mem_singleton.1 J];obtain ⟨ij,q3,e3,et,_⟩:=cj ([kv,.bool d,.pointer q],(x.take m,t)) f5;simp only [List.cons.injEq,and_true,true_and]at e3;rw [<-e3.1]at et;exact ⟨kv,.pointer p2,rfl,et,((fc.gr (ao.mono λk _ C=>.inr C)).old λk C=>.inl (.inl C)).gr cg⟩
    ·rw [ex];simp
    ·rcases List.mem_append.1 hp with J|J
     ·have:=eu p J;rw [Nat.succ_mul];omega
     ·rw [List.mem_singleton.1 J];have h2:=Jhw d (x.getD m V0) (wt x) t;have h3:=Tr.put_sz d (x.getD m V0) (wt x) t;have h4:=eb x;simp only;rw [Nat.succ_mul];omega
   intro rest;refine htwo 11 15 (by kernel_rfl) rfl rfl rfl ?_ ?_
   ·refine ρ ?_;refine cl (Jhg (ef.ext U) bc ec (λk C=>nM (bg k C) U.size) h0 ca dv) ?_;rintro u W ⟨q2,rfl,be,hy⟩;obtain ⟨p2,rfl⟩:=be.ptr;refine Jzr (Jfx hy ?_);refine Qjk (fuel':=4) 8 [(0,12),(0,13)] (lst 18 14) (by kernel_rfl) (by kernel_rfl) rfl ?_;refine ρd ?_;refine Jzn ?_;refine Qct (fuel':=3) 14 (by kernel_rfl) (by kernel_rfl) rfl rfl ?_;refine ρp ?_;refine ρd ?_;refine Jzn ?_;refine Qjk (fuel':=2) 8 [(1,15)] (lst 18 16) (by kernel_rfl) (by kernel_rfl) rfl ?_;refine dalc' (cs:=[.bool false,.pointer none]) Jdk ?_;intro W2 bp az ah ay;refine Qhs (Jzn ?_);exact rest (bp,p2) _ _ ⟨hy.trans az,ay,Nat.le_trans hy.size ah,(be.old λk C=>C.imp id λe=>by rw [e];exact ah).ext az⟩ sB
   ·refine ρ ?_;refine alc Jdk ?_;intro W bp hy ah ay;refine Jzr (Jfx hy ?_);refine Qjk (fuel':=3) 8 [(1,11),(0,12),(0,13)] #[true,true,true,true,true,true,true,true,true,true,true,true,true,true,false,true,false,false] (by kernel_rfl) (by kernel_rfl) rfl ?_;refine ρd ?_;have h6:∀ k,(Jyz w5.heap.size (.slice LB (o.length+1) lb) k∨k=bp)->k<W.heap.size:=λk C=>by
     rcases C with h'|h'
     ·exact nM (bg k h') (U.trans hy).size
     ·rw [h'];exact ay.lt
    refine dcl (Jhg (N:=λk=>Jyz w5.heap.size (.slice LB (o.length+1) lb) k∨k=bp) (((ef.ext U).old λk C=>C.imp id λe=>by rw [e];exact ah).ext hy) bc (ec.ext hy) h6 h0 ca dv) ?_;rintro u W2 ⟨q2,rfl,be,az⟩;obtain ⟨p2,rfl⟩:=be.ptr;refine ⟨az,?_⟩;refine ρd ?_;refine Jzn ?_;refine Qct (fuel':=2) 14 (by kernel_rfl) (by kernel_rfl) rfl rfl ?_;refine ρp ?_;refine ρd ?_;refine Jzn ?_;refine hlist (listed':=lst 18 16) (by kernel_rfl) ?_;exact rest (bp,p2) _ _ ⟨hy.trans az,ay.ext az,ah,be⟩ sB
 ·have gu:i=ps.length:=by have:=oF h;omega
  clear h;rw [gu,<-d8,List.take_length]at aa;have dj:GInv d wt m (R v) (Qjm d wt m (R v)):=Jdg hlt λy hy=>by rw [(hF.rows v hv y hy).1,c0];omega
  have b5:=aq.trans D;have ib:=(GrN.ext (N:=λk=>k=mb) (Z.trans D));have fj:=di.ext D;have i6:=fj.lt;have hf:=c2.ext D;have gz:=Jjb s3 (Z.trans D);have en:∀ g,(Value.slice LA G.length lc).ownBlock=some g->¬ g=mb:=λg eg e=>by have:=(an g eg).1;have:=di.lt;omega
  have gx:¬ b=mb:=λe=>by have:=hB.lt;omega
  have dh:=di.lt;have ho:∀ k,(AR k∨k=mb)->k<w6.heap.size:=by
   rintro k (h'|h')
   ·have:=hARl k h';have:=(bi.size);have:=D.size;omega
   ·omega
  refine ρ ?_;refine Jxx (fun (j:Nat) (mc:Nat) (fm:Lit->Option Value)=>[(0,.pointer (some ⟨b,0,none⟩)),(1,.int .i64 (v:Int)),(6,.slice LA G.length lc),(110,.slice LA G.length lc),(111,.int .i64 (G.length:Int)),(112,.int .i64 (j:Int))])
   (λj mc fm w'=>j<=G.length/\GrN (λk=>k=mb) w6 w'/\MapS Tryz.prog 9 w' mb mc fm/\mc<=j/\∀ k:Row,(fm (.string (idn k))=none/\Qdt ((G.map (·.2)).take j) k=0)∨∃ y,fm (.string (idn k))=some y/\0<Qdt ((G.map (·.2)).take j) k/\NatX (λk=>AR k∨k=mb) w' y (Qdt ((G.map (·.2)).take j) k)) (λj _ _=>G.length-j) 0 0 (λ_=>none) sB
   ⟨Nat.zero_le _,GrN.refl _ _,fj,Nat.le_refl _,λk=>.inl ⟨rfl,rfl⟩⟩ ?_
  rintro j mc fm w7 ⟨hj,O,fi,iv,de⟩;have c1:=Jjw hf O gx;have aj:=Jjq ak.own O en;have fe:=Jjq gz O λg eg e=>by have:=(cr g eg).2;omega
  have c5:Ext wF w7:=O.old b5 λk C=>by rw [C];exact gl
  refine ρ ?_;refine ci (λh=>?_) (λh=>?_)
  ·have lj:j<G.length:=by have:=oT h;omega
   clear h;obtain ⟨z,hz⟩:∃ z,z=G[j]:=⟨_,rfl⟩;have ae:z∈G:=by rw [hz];exact List.getElem_mem lj
   have dx:z.2∈Qjm d wt m (R v):=by rw [<-aa];exact List.mem_map_of_mem ae
   have f4:=(ak.el z ae).gr (O.mono λk _ C=>.inl (by rw [C];exact dh));obtain ⟨kv,zq,b3,bs,b4⟩:=id f4;obtain ⟨zp,rfl⟩:=b4.ptr;obtain ⟨am,ac,rfl,ia,i9,ep,_⟩:=id bs;have a6:FitR z.2.1:=by
    obtain ⟨y,hy,e1,_⟩:=entL_ne.1 (dj.con z.2 dx).2;have:=(hF.rows v hv y hy).2;rw [<-e1];exact ⟨by have:=this.1;rw [List.length_take];omega,λu hu=>this.2 u (List.mem_of_mem_take hu)⟩
   have df:∀ i u,([.slice am z.2.1.length ac,.bool d,.pointer zp]:List Value)[i]?=some u->w7.cell? ((adr LA (j*3)).add i)=some u:=λi u hu=>by
    have gt:i<3:=(List.getElem?_eq_some_iff.1 hu).1;rw [Jqr];refine (Rd.own aj).cell ?_;rw [Jkk (p:=z) (λp hp=>(ak.el p hp).len) (by rw [hz];exact gE lj) gt,b3];exact hu
   refine ρ ?_;refine ixq 3 j (Rd.own aj) lj ?_;refine ρ ?_;refine lds (cs:=[.slice am z.2.1.length ac,.bool d,.pointer zp]) df ?_;refine ρ ?_;refine alc Qqp ?_;intro w8 j1 cx f8 fr;refine ρ ?_;refine stb (cs':=[.slice am z.2.1.length ac,.bool d,.pointer zp]) fr ?_ (Qwc rfl);intro w9 dl iz bu;have e9:Ext w7 w9:=bu w7 cx f8;have e4:Ext w9 w9.drew:=(Ext.refl w9).drew;have a4:=e9.trans e4;refine ρ ?_;refine drN (λ_=>False) 10 [(0,0),(0,1),(0,2),(0,3),(0,4),(0,5),(0,6),(0,7),(0,8),(0,10),(0,11),(1,9),(1,12),(2,13)] (by kernel_rfl) ?_;have cn:=Rd.own (Jjb fe a4);have bo:=dl.ext e4;refine ρn ?_;refine nld (Jjg ((c1.ext a4).at (i:=8) rfl) (λe=>e)) ?_;refine ρn ?_;refine nix v cn hv ?_;refine ρn ?_;refine nld (Jjg (cn.cell (show (ta.set v (.map (some mb)))[v]?=some (.map (some mb)) by rw [List.getElem?_set_self (by omega)])) (λe=>e)) ?_;refine ρn ?_;refine nld (Jjg (bo.at (i:=0) rfl) (λe=>e)) ?_
   refine ρn ?_;refine Jlg (cs:=[.bool d,.pointer zp]) (λw' hg j u hu=>Jjg (bo.sub (i:=1) (j:=j) (by rw [Nat.add_comm];exact hu)) (λe=>e) w' hg) ?_;refine ρn ?_;refine nop ?_;refine cl (Jzd (r:=z.2.1) (hF.tb.ext (c5.trans a4)) (ep.ext a4) (λu hu=>(a6.2 u hu).1) (by have:=a6.len;omega) (by have:=a6.1;omega)) ?_;rintro un g4 ⟨rfl,a1⟩;refine ρ ?_;refine Jqt (GrN.ext a1) ?_;refine ρn ?_;refine nop ?_;refine cl (Jbn ((b4.ext a4).ext a1) (Nb.big (k:=i) fd he (by omega) (b2 z ae).1)) ?_;rintro uy br ⟨c3,gw,a8⟩;obtain ⟨YA,yc,rfl,_⟩:=id c3;have c7:=(a4.trans a1).trans a8;refine ρ ?_;refine Jqt (GrN.ext a8) ?_;refine ρn ?_;refine Jzx ?_;refine mup KS (fi.ext c7) (by unfold maxLen;omega) (Jbx a6) ?_;intro bq fl ag;have bm:GrN (λk=>k=mb) br bq:=GrN.by ag λk C=>by injection C with C;exact C.symm
   have bl:GrN (λk=>k=mb) w7 bq:=(GrN.ext c7).trans bm;have g7:NatX (λk=>AR k∨k=mb) bq (.slice YA (Jjf z.2.2.sum).length yc) z.2.2.sum :=
    (gw.x c3 λk C=>nM (ho k C) (nL O.size (a4.trans a1).size)).gr (bm.mono λk _ C=>.inr C)
   have fx:(G.map (·.2)).take (j+1)=(G.map (·.2)).take j++[z.2]:=by
    rw [List.take_succ_eq_append_getElem (by rw [List.length_map];exact lj),List.getElem_map,hz]
   have gi:z.2.1 ∉ ((G.map (·.2)).take j).map (·.1):=by
    have J:=dj.lt;rw [<-aa,<-List.take_append_drop (j+1) (G.map (·.2)),fx,List.map_append,List.map_append]at J
    intro hm;have h2:=(List.pairwise_append.1 (List.pairwise_append.1 J).1).2.2 _ hm z.2.1 (by simp);rw [Jxl]at h2;omega
   refine ρ ?_;refine Jqc (j+1) (mc+1) (upL fm (.string (idn z.2.1)) (some (.slice YA (Jjf z.2.2.sum).length yc))) sO ⟨lj,O.trans bl,fl,by omega,λk=>?_⟩ (by omega);rw [fx,Qds _ _ _ gi];by_cases e:z.2.1=k
   ·rw [if_pos e,<-e,Jcr (KS.key (Jbx a6))];exact .inr ⟨_,rfl,Qyf dj dx,g7⟩
   ·rw [if_neg e,Jvx (λe'=>e (Jrt (by injection e'.symm)))];rcases de k with J|⟨y,J,h2,h3⟩
    ·exact .inl J
    ·exact .inr ⟨y,J,h2,h3.gr (bl.mono λk _ C=>.inr C)⟩
  ·have gq:j=G.length:=by have:=oF h;omega
   clear h;have dd:(G.map (·.2)).take j=Qjm d wt m (R v):=by rw [aa,gq,List.take_of_length_le];rw [<-aa,List.length_map];exact Nat.le_refl _
   rw [dd]at de;have a9:=Jjq (Jjb fo (Z.trans D)) O λg eg e=>by have:=(dw g eg).2;omega
   have fa:=Jjq (Jjb cm (Z.trans D)) O λg eg e=>by have:=(g5 g eg).2;omega
   obtain ⟨r1,r2,r3,r4,r5⟩:=Jqj a9 (q:=v) (by omega) (.slice LA G.length lc);have ic:ba.length=f:=by have:=hBa.1;omega
   refine ρ ?_;refine ld (c1.at (i:=9) rfl) ?_;refine ρ ?_;refine ix v (Rd.own a9) hvf ?_;refine ρ ?_;refine sto (r1.trans (show ba[v]?=some (ba.getD v (.slice none 0 0)) by simp [List.getD,List.getElem?_eq_getElem (show v<ba.length by omega)])) r2 ?_;refine ρ ?_;obtain ⟨w8,ed⟩:∃ w8,w8=w7.setCell (adr KA v) (.slice LA G.length lc):=⟨_,rfl⟩;rw [<-ed]at r3 r5 ⊢;clear ed;have ew:GrN AR w w7:=(((bi.trans (GrN.ext D)).mono λk _ C=>(.inl C:AR k∨k=mb)).trans (O.mono λk _ C=>.inr C)).mono λk C h=>h.elim id λe=>by omega
   have bj:GrN AR w7 w8:=GrN.by r5 λk C=>hAR k (.inr (.inr C))
   have f0:GrN (λk=>AR k∨k=mb) w6 w8:=(O.mono λk _ C=>.inr C).trans (bj.mono λk _ C=>.inl C);have bn:=Jjs aj a9 r5 rfl;have cp:¬ AR mb:=by
    intro h';have:=hARl mb h';omega
   have cq:∀ k,(AR k∨k=mb)->k<w5.heap.size:=by
    rintro k (h'|h')
    ·have:=hARl k h';have:=(bi.size);omega
    ·omega
   refine Jjr ⟨rfl,.map (some mb),.slice LA G.length lc,⟨Jjk c5 r5 λk C=>(dw k C).1,c1.grown r5 (c1.ne_own a9 rfl),Jjs fa a9 r5 rfl,Jjs fe a9 r5 rfl⟩,r3,ew.trans bj,
    ⟨mb,mc,fm,rfl,by omega,⟨fi.kept r5 (λe=>cp (hAR mb (.inr (.inr e.symm)))),cp⟩,λk=>?_⟩,
    ⟨G,LA,lc,aa.symm,rfl,gm,by omega,Rd.own bn,λh0 ad e=>?_,λp hp=>⟨(ak.el p hp).len,?_⟩⟩⟩
   ·rcases de k with J|⟨y,J,h2,h3⟩
    ·exact .inl J
    ·exact .inr ⟨y,J,h2,(h3.old λk C=>.inl (.inl C)).gr bj⟩
   ·intro hA;have:=(an ad.block (by rw [e];simp [Value.ownBlock])).1;have:=cq _ (.inl hA);omega
   ·have J:BkE d (λk=>AR k∨k=mb) w6 p.1 p.2:=(ak.el p hp).old λk C=>.inl (.inl (cq k C));exact (J.gr f0).old λk C=>.inl (.inl C)
end Go.Proofs.YtefpailelagbkaaGreatDoor
