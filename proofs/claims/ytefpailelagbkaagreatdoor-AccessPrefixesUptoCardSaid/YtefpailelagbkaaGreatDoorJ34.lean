/- Part 34 of the proof: Ix6. -/
import Derived.Test.YtefpailelagbkaaGreatDoorJ33
set_option linter.unusedVariables false
set_option maxRecDepth 100000
set_option maxHeartbeats 40000000
namespace Go.Wk
theorem dalc'{P:Program}{n:Nat}{al:AL}{w:World}{Q:Exit->Act->World->Prop}{ops:Array Oper}{drest:List (Nat×Oper)}{d ty:Nat}{pos:String}{aft:Array Edge}{t:Nat}{z:Value}{cs:List Value}(hz:Jxc P t=some z)(kk:∀ w1 b,Ext w w1->w.heap.size<=b->Blk w1 b t cs->WD P n ops Q drest ((d,.pointer (some ⟨b,0,none⟩))::al) w1)(hv:z.cells=cs.toArray:=by rfl)(hd:Nat.blt d n=true:=by rfl):
  WD P n ops Q ((1,⟨some d,.alloc t,ty,pos,aft,none⟩)::drest) al w:=Jnh (alc hz (λw1 b hx1 hb1 hk1=>Jxz (Jng hx1 (kk w1 b hx1 hb1 hk1))) hv hd)
end Go.Wk
namespace Go.Proofs.YtefpailelagbkaaGreatDoor
open Go.RowKit Pl Go.Wk
attribute [local irreducible] WC WL QX WD WDB WP WN WG
theorem Xcx(kv:Value)(A:Option Addr)(n c:Nat)(d:Bool)(p:Option Addr)(h:kv=.slice A n c)(w:World): (Instr.build 141 #[(0,kv),(1,.agg #[.bool d,.pointer p])]).run Tryz.prog w=.ok (.agg [kv,.bool d,.pointer p].toArray) w:=by subst h;kernel_rfl
theorem Xcq(kv:Value)(A:Option Addr)(n c:Nat)(d:Bool)(p:Option Addr)(h:kv=.slice A n c)(w:World): (Instr.buildSlice 138 1 #[(0,.agg [kv,.bool d,.pointer p].toArray)]).run Tryz.prog w=.ok (.slice (some ⟨w.heap.size,0,none⟩) 1 1) (w.alloc (.cells [kv,.bool d,.pointer p].toArray 141)):=by subst h;kernel_rfl
def DnB(AR:Nat->Prop)(d:Bool)(w:World)(x:Value)(bs:List BkT): Prop:=∃ (ps:List (List Value×BkT)) (A:Option Addr) (c:Nat),bs=ps.map (·.2)/\x=.slice A ps.length c/\ps.length<=c/\ps.length<=65536/\Rd w 3 A ps.length (Jxh ps)/\(0<ps.length->∀ ad,A=some ad->¬ AR ad.block)/\∀ p∈ps,p.1.length=3/\BkE d AR w p.1 p.2
theorem DnB.gr{AR:Nat->Prop}{d:Bool}{w w':World}{x:Value}{bs:List BkT}(h:DnB AR d w x bs)(hg:GrN AR w w'): DnB AR d w' x bs:=by
 obtain ⟨ps,A,c,h1,h2,h3,h4,h5,h6,h7⟩:=h;refine ⟨ps,A,c,h1,h2,h3,h4,Qzl h5 hg λh0 ad e=>h6 ?_ ad e,h6,λp hp=>⟨(h7 p hp).1,(h7 p hp).2.gr hg⟩⟩;have:=h5.1;omega
theorem Nb.big{k S e:Nat}(hS:S<=4294967296^e)(he:e<=800)(hk:k<=4294967296){n:Nat}(hn:n<=k*S): Nb n:=by
 have h1:k*S<=4294967296^(e+1):=by
  rw [Nat.pow_succ,Nat.mul_comm];exact Nat.mul_le_mul hS hk
 exact Nat.lt_of_le_of_lt (Nat.le_trans hn h1) (Nat.pow_lt_pow_right (by decide) (by rw [Xkv];omega))
theorem Qqd(x:Row){m:Nat}(h:m<=x.length): (Jxs x).take (m*3)=Jxs (x.take m):=by
 have e:Jxs x=Jxs (x.take m)++Jxs (x.drop m):=by rw [<-rowC_app',List.take_append_drop]
 rw [e];refine List.take_left' ?_;rw [Jsl,List.length_take,Nat.min_eq_left h]
theorem Jbz{N:Nat->Prop}{w:World}{d:Bool}{p:Value}{t:Tr}(h:TrV N w t p)(hn:Nb t.sum): Ret Tryz.prog 101 [.agg #[.bool d,p]] w λu w'=>NatV w' u t.sum/\Fresh w u/\Ext w w':=by
 obtain ⟨q,rfl⟩:=h.ptr;refine Jjb Tryz.func101 Tryz.ntmps101 rfl (by kernel_rfl) rfl ?_;refine ρ ?_;refine bx (cs:=[.bool d,.pointer q]) ?_;intro w1 b hx1 hb hB;refine ρ ?_;refine ld (hB.at (i:=1) rfl) ?_;refine ρ ?_;refine cl (Jvj (h.ext hx1)) ?_;rintro u w2 ⟨hu,rfl⟩;refine ρ ?_;refine cl (Jyt hu.1 hn.len) ?_;rintro u3 w3 ⟨hu3,hf3,hx3⟩;refine ρ ?_;exact Jjq ⟨hu3,λad m c e=>Nat.le_trans hx1.size (hf3 ad m c e),hx1.trans hx3⟩
theorem Qzq: Jxc Tryz.prog 141=some (.agg #[.slice none 0 0,.bool false,.pointer none]):=by kernel_rfl
theorem Qyj{v:Value}{d:Bool}{p:Option Addr}(h:v.oneCell'=true): ∀ u∈[v,.bool d,.pointer p],u.oneCell'=true:=λu hu=>by
 simp only [List.mem_cons,List.not_mem_nil,or_false]at hu;rcases hu with rfl|rfl|rfl
 ·exact h
 ·rfl
 ·rfl
theorem Qgs(bs:List BkT)(b:BkT)(k:Row)(h:b.1 ∉ bs.map (·.1)): Qgt (bs++[b]) k=if b.1=k then b.2.sum else Qgt bs k:=by
 unfold Qgt;rw [List.find?_append];by_cases e:b.1=k
 ·rw [if_pos e];have:bs.find? (λc=>decide (c.1=k))=none:=List.find?_eq_none.2 λc hc h'=>h (by rw [e];exact List.mem_map.2 ⟨c,hc,by simpa using h'⟩);rw [this];simp [e]
 ·rw [if_neg e];cases hf:bs.find? (λc=>decide (c.1=k)) with
  | some c=>simp
  | none=>simp [e]
theorem Qcj{wt:Row->Nat}{m:Nat}{rs:List Row}{bs:List BkT}{d:Bool}(h:GInv d wt m rs bs){b:BkT}(hb:b∈bs): 0<b.2.sum:=by
 obtain ⟨h1,h2⟩:=h.con b hb;rw [Tr.sum_eq,h1,Jhs];exact (Xqt λp hp=>by obtain ⟨x,_,_,_,_,h5⟩:=entL_mem.1 hp;exact h5).2 h2
theorem Qmf{B0 n f b v cb cv ct ck dc:Nat}{kf:Nat->Nat}{pf:Nat->Int}{R:Nat->List Row}{vR Pv Av:Value}{BA VA TA KA DA:Option Addr}{wF w:World}{va ta ba:List Value}{ds:List Bool}{T:Nat->Row->Nat}{AR:Nat->Prop}(hF:FixW B0 n f kf pf R vR BA wF)(hds:ds.length=f)(hD:RdB wF DA ds)(hW:BldW wF b n (bCs n f (.slice DA f dc) Pv Av BA cb vR VA cv TA ct (.slice KA f ck)) VA cv TA ct w va ta)(hBa:w.ownsRow wF.heap.size 138 1 (.slice KA f ck) f ba)(hvf:v<f)(hm:0<(bk (kf v ||| 2^v) 32).length)(hval:∀ x∈R v,Jxd (x.getD ((bk (kf v ||| 2^v) 32).length-1) V0)=true)(hlt:Lt [] (R v))(hdv:∀ c,c<n->pf c=(v:Int)->f<=c->DnV AR (T c) w (va.getD c (.map none)))(hdt:∀ c,c<n->pf c=(v:Int)->c<f->DnT AR (T c) w (ta.getD c (.map none)))(hT1:∀ c,f<=c->∀ k,T c k<=1)(hTb:∀ c k,T c k<=4294967296^20)(hAR:∀ k,ARk n f VA cv TA ct (.slice KA f ck) k->AR k)(hARl:∀ k,AR k->k<w.heap.size):
  Ret Tryz.prog 84 [.pointer (some ⟨b,0,none⟩),.int .i64 (v:Int)] w λu w'=>u=.int .i64 0/\∃ mv lv,BldW wF b n (bCs n f (.slice DA f dc) Pv Av BA cb vR VA cv TA ct (.slice KA f ck)) VA cv TA ct w' va (ta.set v mv)/\w'.ownsRow wF.heap.size 138 1 (.slice KA f ck) f (ba.set v lv) /\
   GrN AR w w'/\DnT AR (Qgt (Qxm (ds.getD v false) (λx=>wtL T x (chK kf pf v n)) ((bk (kf v ||| 2^v) 32).length-1) (R v))) w' mv /\
   DnB AR (ds.getD v false) w' lv (Qxm (ds.getD v false) (λx=>wtL T x (chK kf pf v n)) ((bk (kf v ||| 2^v) 32).length-1) (R v)):=by
 obtain ⟨hxF,hB,hVa,hTa⟩:=hW;have hn32:=hF.n32;have hfn:=hF.fn;have hv:v<n:=by omega
 have hD':Rd wF 1 DA f (ds.map Value.bool):=hds ▸ hD;refine Jjb Tryz.func84 Tryz.ntmps84 rfl (by kernel_rfl) rfl ?_;refine ρ ?_;refine ld (hB.at (i:=8) rfl) ?_;refine ρ ?_;refine mkm 9 ?_;intro w1 mb hx1 hmb hM;obtain ⟨s1,s2,s3,s4,s5⟩:=Jqq (Jjc hTa hx1) (q:=v) (by omega) (.map (some mb));have htl:ta.length=n:=by have:=hTa.1;omega
 refine ρ ?_;refine ix v (Rd.own (Jjc hTa hx1)) (by omega) ?_;refine ρ ?_;refine sto (s1.trans (show ta[v]?=some (ta.getD v (.map none)) by simp [List.getD,List.getElem?_eq_getElem (show v<ta.length by omega)])) s2 ?_;refine ρ ?_;obtain ⟨w2,hw2⟩:∃ w2,w2=w1.setCell (adr TA v) (.map (some mb)):=⟨_,rfl⟩;rw [<-hw2]at s3 s5 ⊢;clear hw2;have lVA:∀ g,(Value.slice VA n cv).ownBlock=some g->wF.heap.size<=g/\g<w.heap.size:=(Jjd hVa).choose_spec.choose_spec.2.2;have lTA:∀ g,(Value.slice TA n ct).ownBlock=some g->wF.heap.size<=g/\g<w.heap.size:=(Jjd hTa).choose_spec.choose_spec.2.2;have lKA:∀ g,(Value.slice KA f ck).ownBlock=some g->wF.heap.size<=g/\g<w.heap.size:=(Jjd hBa).choose_spec.choose_spec.2.2;have hx1':=hx1.size;have hmb1:=hM.lt;have hB2:Blk w2 b 158 _:=(hB.ext hx1).grown s5 ((hB.ext hx1).ne_own (Jjc hTa hx1) rfl);have hVa2:w2.ownsRow wF.heap.size 200 1 (.slice VA n cv) n va:=Jjs (Jjc hVa hx1) (Jjc hTa hx1) s5 rfl
 have hBa2:w2.ownsRow wF.heap.size 138 1 (.slice KA f ck) f ba:=Jjs (Jjc hBa hx1) (Jjc hTa hx1) s5 rfl;have hM2:MapS Tryz.prog 9 w2 mb 0 (λ_=>none):=hM.kept s5 (λe=>by have:=(lTA mb e.symm).2;omega);have hg02:GrN AR w w2:=(GrN.ext hx1).trans (GrN.by s5 λk hk=>hAR k (.inr (.inl hk)));have hxF2:Ext wF w2:=Jjk (hxF.trans hx1) s5 λk hk=>(lTA k hk).1;have hmF:wF.heap.size<=mb:=Nat.le_trans hxF.size hmb;have hmb2:=hM2.lt;obtain ⟨RA,rc,rcs,evR,hrc,hrm,hRr,hRe⟩:=hF.rels.parts;rw [List.length_map,List.length_range]at evR hrc hrm hRr;obtain ⟨re,hrel,⟨t,ere,hAt⟩,hrcell⟩:=hRe v (by simpa using hv);subst ere;simp only [List.getElem_map,List.getElem_range]at hAt;obtain ⟨⟨PA,pc,ep1,hpc,hpm,hpr⟩,ep2,hprows⟩:=id hAt;obtain ⟨t1,t2,t3⟩:=t;simp only [Jkw]at ep1 ep2;subst ep1;subst ep2;have hnl:(nz (bk (kf v ||| 2^v) 32)).length=(bk (kf v ||| 2^v) 32).length:=Jqc _;subst evR;refine cl (Jhb (R:=R) hB2 rfl rfl (hF.bags.ext hxF2) (hF.rels.ext hxF2 λcs a h=>Qww h hxF2) hn32 hv hF.kb) ?_
 rintro vl w3 ⟨hG3,hx3⟩;have hxF4:=hxF2.trans hx3;have hB4:=hB2.ext hx3;have hrel4:∀ j u,([.int .i64 ((bk (kf v ||| 2^v) 32).length:Int),t3]:List Value)[j]?=some u->w3.cell? (((adr RA (v*3)).add 1).add j)=some u:=λj u hu=>by
  have:=hrcell (1+j) u (by rw [Nat.add_comm];exact hu);rw [Jqw]at this;rw [Jqw,Jqw,Nat.add_assoc];exact Jws hxF4 this
 refine ρ ?_;refine ld (hB4.at (i:=6) rfl) ?_;refine ρ ?_;refine ixq 3 v (hRr.ext hxF4) hv ?_;refine ρ ?_;refine lds (cs:=[.int .i64 ((bk (kf v ||| 2^v) 32).length:Int),t3]) hrel4 ?_;refine ρ ?_;refine cl (Jcv (ar:=(bk (kf v ||| 2^v) 32).length) (ls:=R v) ((hAt.ext hxF4).rel)) ?_;rintro ur w5 ⟨hx5,hrows5⟩;obtain ⟨ps,GA,gc,els,rfl,hgc,hpm2,hrd5,hrow5⟩:=hrows5;have hlenR:(R v).length=ps.length:=by rw [els,List.length_map]
 have hrl:=hF.rlen v hv;have hx25:=hx3.trans hx5;have hrd5':=hrd5.here;have hrow5':∀ p∈ps,RowV w5 p.1 p.2:=λp hp=>(hrow5 p hp).here;have hB5:=hB2.ext hx25;have hxF5:=hxF2.trans hx25;have hG5:=hG3.ext hx5;have hM5:=hM2.ext hx25;have hset:∀ c,c≠v->(ta.set v (.map (some mb))).getD c (.map none)=ta.getD c (.map none):=λc hc=>by simp [List.getD,List.getElem?_set_ne (Ne.symm hc)]
 have hne:∀ c,c<n->pf c=(v:Int)->c≠v:=λc hc hp e=>hF.pn c hc (by rw [hp,e]);have hg05:GrN AR w w5:=hg02.trans (GrN.ext hx25);have hgw5:=hg05;obtain ⟨d,hd⟩:∃ d,d=ds.getD v false:=⟨_,rfl⟩;obtain ⟨m,hmm⟩:∃ m,m=(bk (kf v ||| 2^v) 32).length-1:=⟨_,rfl⟩;obtain ⟨wt,hwt⟩:∃ wt:Row->Nat,wt=λx=>wtL T x (chK kf pf v n):=⟨_,rfl⟩;rw [<-hd,<-hmm,<-hwt];rw [<-hmm]at hval;obtain ⟨S,hS⟩:∃ S:Nat,S=(4294967296^20)^32:=⟨_,rfl⟩;obtain ⟨e,he,hSe⟩:∃ e,e<=800/\S<=4294967296^e:=⟨20*32,by omega,by rw [hS,<-Nat.pow_mul];exact Nat.le_refl _⟩;have hwb:∀ x,wt x<=S:=λx=>by
  rw [hwt,hS];refine Nat.le_trans (Qfz λp hp=>hTb _ _) (Nat.pow_le_pow_right (Nat.pow_pos (by decide)) ?_);have:=Jgj kf pf v n;omega
 refine ρ ?_;refine Jjv (fun (i:Nat) (vb:Value)=>[(0,.pointer (some ⟨b,0,none⟩)),(1,.int .i64 (v:Int)),(5,vl),(6,vb),(34,.slice GA ps.length gc),(35,.int .i64 (ps.length:Int)),(36,.int .i64 (i:Int))])
  (λi vb w'=>i<=ps.length/\Ext w5 w'/\∃ qs,OwnB d w5.heap.size w' vb qs/\qs.map (·.2)=Qxm d wt m ((R v).take i)/\qs.length<=i/\∀ q∈qs,q.2.2.sum<=i*S/\q.2.2.sz<=i) (λi _=>ps.length-i) 0 (.slice none 0 0) sB
  ⟨Nat.zero_le _,Ext.refl _,[],OwnB.nil _ _ _,rfl,Nat.le_refl _,λq hq=>by cases hq⟩ ?_
 clear hS;rintro i vb w6 ⟨hi,hx56,qs,hO6,hqs,hql,hqb⟩;obtain ⟨LA,lc,rfl,hlc,hlf⟩:=hO6.form;refine ρ ?_;refine ci (λh=>?_) (λh=>?_)
 ·have li:i<ps.length:=by have:=of_decide_eq_true h;omega
  clear h;obtain ⟨x,hxe⟩:∃ x,x=(ps.getD i z0).2:=⟨_,rfl⟩;have hxm:x∈R v:=by rw [els,hxe];exact List.mem_map_of_mem (getD_mem' z0 ps li)
  have hxi:(R v).getD i []=x:=by rw [els,hxe];simp [List.getD,List.getElem?_eq_getElem li]
  obtain ⟨hxl,hxfit⟩:=hF.rows v hv x hxm;have hrow6:RowV w6 (ps.getD i z0).1 x:=by rw [hxe];exact (hrow5' _ (getD_mem' z0 ps li)).ext hx56
  have hrd6:=hrd5'.ext hx56;have hxF6:=hxF5.trans hx56;have hgw6:=hg05.trans (GrN.ext hx56);have hG6:GV 2 ChG w6 vl (chK kf pf v n):=(hG5.ext hx56).gv (by have:=Jgj kf pf v n;omega);have htk:=Jjm [] (show i<(R v).length by omega);rw [hxi]at htk;refine ρ ?_;refine ix i hrd6 li ?_;refine ρ ?_;refine ld (hrd6.cell (show (ps.map (·.1))[i]?=some (ps.getD i z0).1 by simp [List.getD,List.getElem?_eq_getElem li])) ?_
  refine ρ ?_;refine cl (Jpp (T:=T) (AR:=AR) (hF.tb.ext hxF6) (hB5.ext hx56) rfl rfl rfl (Rd.own (Jjc hVa2 (hx25.trans hx56))) (Rd.own (Jjc s3 (hx25.trans hx56))) hG6 (by have:=Jgj kf pf v n;omega) (λp hp=>?_) hrow6 hxfit (λp hp hpf=>?_) (λp hp hpf=>?_) (λp hp hpf k=>hT1 _ hpf k) (λp hp k=>hTb _ k)) ?_
  ·obtain ⟨h1,h2,h3⟩:=Jcx hp;refine ⟨h1,λc hc=>?_⟩;rw [h3]at hc;rw [hxl];exact Jvs hc
  ·obtain ⟨h1,h2,h3⟩:=Jcx hp;exact (hdv _ h1 h2 hpf).gr hgw6
  ·obtain ⟨h1,h2,h3⟩:=Jcx hp;rw [hset _ (hne _ h1 h2)];exact (hdt _ h1 h2 hpf).gr hgw6
  rintro vw w7 ⟨hw7,hfw7,hx7⟩;have ewt:wtL T x (chK kf pf v n)=wt x:=by rw [hwt]
  rw [ewt]at hw7;obtain ⟨WA,wc,rfl,hwpos⟩:=Jsz hw7;refine ρ ?_;refine ci (λh=>?_) (λh=>?_)
  ·have h0:wt x=0:=by
    have:=Jql h;rcases Nat.eq_zero_or_pos (wt x) with h'|h'
    ·exact h'
    ·have:=hwpos.2 h';omega
   refine ρ ?_;refine Jjj (i+1) _ sO ⟨li,hx56.trans hx7,qs,hO6.ext hx7,?_,by omega,λq hq=>⟨?_,by have:=(hqb q hq).2;omega⟩⟩ (by omega)
   ·rw [htk,Jdx,Qcl h0];exact hqs
   ·have:=(hqb q hq).1;rw [Nat.succ_mul];omega
  have h0:wt x≠0:=λe=>by (have:=Jqh h;have h1:¬ 0<(Jjf (wt x)).length:=λh'=>by have:=hwpos.1 h';omega);(omega)
  clear h;obtain ⟨XA,xc,ex1,hxc,hxm2,hxR⟩:=id hrow6;have hml:x.length=m+1:=by rw [hxl,hmm];omega
  rw [ex1];have hkeyR:RdR w7 XA (x.take m):=by
   have h1:=(Rd.ext hxR hx7).take (m:=m) (by omega);have h2:(Jxs x).take (m*3)=Jxs (x.take m):=Qqd x (by omega);rw [h2]at h1;have h3:(x.take m).length=m:=by rw [List.length_take];omega
   unfold RdR;rw [h3];exact h1
  have hkeyV:RowV w7 (.slice XA m xc) (x.take m):=⟨XA,xc,by rw [List.length_take,Nat.min_eq_left (by omega)],by rw [List.length_take];omega,by rw [List.length_take];omega,hkeyR⟩;have hx57:=hx56.trans hx7;have hO7:=hO6.ext hx7;refine ρ ?_;refine slh m ?_;refine ρ ?_;refine Qgc (fun (bb:Bool) (_:Unit)=>[(66,.bool bb),(0,.pointer (some ⟨b,0,none⟩)),(1,.int .i64 (v:Int)),(5,vl),(6,.slice LA qs.length lc),(8,.slice XA x.length xc),(9,.slice WA (Jjf (wt x)).length wc),(10,.slice XA m xc),(34,.slice GA ps.length gc),(35,.int .i64 (ps.length:Int)),(36,.int .i64 (i:Int))])
   (λbb _ w'=>Ext w7 w'/\(bb=true↔¬ (qs.getLast?.map (·.2.1))=some (x.take m))) ?_ ?_
  ·refine ki 55 (λh=>?_) (λh=>?_)
   ·have hq0:qs=[]:=List.eq_nil_of_length_eq_zero (by have:=Jql h;omega);refine ρ ?_;refine Jkd true () sB ⟨Ext.refl _,?_⟩;rw [hq0];simp
   ·have hq1:qs≠[]:=λe=>by have:=Jqh h;rw [e]at this;simp at this
    obtain ⟨ini,z,ez,ez2,_⟩:=Jwf hq1;have hzm:z∈qs:=by rw [ez];simp
    obtain ⟨kv,zq,ez1,hzk,hzt⟩:=hO7.el z hzm;have hql':qs.length=ini.length+1:=by rw [ez];simp
    have hzc:(Jxh qs)[(ini.length)*3+0]?=some kv:=by
     rw [Jkt (p:=z) (λp hp=>(hO7.el p hp).len) (by rw [ez];simp) (by omega),ez1];rfl
    have hrd:=Rd.own hO7.own;refine ρ ?_;refine ixq 3 ini.length hrd (by omega) ?_;refine ρ ?_;refine ld (by have:=hrd.cell hzc;rw [<-Jqw]at this;exact this) ?_;refine ρ ?_;refine cl (Jgq hzk.v hkeyV) ?_;rintro u w8 ⟨rfl,hx8⟩;refine ρ ?_;refine Jkd (!decide (z.2.1=x.take m)) () sB ⟨hx8,?_⟩;rw [ez2];simp
  rintro bb _ w8 ⟨hx78,hbb⟩;refine Jzl (λs:((List (List Value×BkT))×Value×Option Addr×Tr)×Value=>[(0,.pointer (some ⟨b,0,none⟩)),(1,.int .i64 (v:Int)),(5,vl),(6,s.2),(8,.slice XA x.length xc),(9,.slice WA (Jjf (wt x)).length wc),(10,.slice XA m xc),(34,.slice GA ps.length gc),(35,.int .i64 (ps.length:Int)),(36,.int .i64 (i:Int))])
   (λs w'=>Ext w5 w'/\GrN (λk=>Jbl w5.heap.size (.slice LA qs.length lc) k/\w5.heap.size<=k) w7 w'/\OwnB d w5.heap.size w' s.2 (s.1.1++[([s.1.2.1,.bool d,.pointer s.1.2.2.1],(x.take m,s.1.2.2.2))])/\Qxm d wt m ((R v).take (i+1))=s.1.1.map (·.2)++[(x.take m,Tr.put d (x.getD m V0) (wt x) s.1.2.2.2)]/\s.1.1.length<=i/\s.1.2.2.2.sum<=i*S/\s.1.2.2.2.sz<=i/\∀ q∈s.1.1,q.2.2.sum<=i*S/\q.2.2.sz<=i) ?_ ?_
  ·have hO8:=hO7.ext hx78;refine ci (λh=>?_) (λh=>?_)
   ·have hnl:=hbb.1 h;have hx58:=hx57.trans hx78;have hxd8:Ext w8 w8.drew:=(Ext.refl w8).drew;have hB8:=(hB5.ext hx58).ext hxd8;have hxF8:=(hxF5.trans hx58).trans hxd8;have hbl:¬ w5.heap.size<=b:=by have:=hB5.lt;omega
    refine ρ ?_;refine drN (λk=>w5.heap.size<=k) 10 [(0,0),(0,1),(0,3),(0,4),(0,5),(0,6),(0,7),(0,8),(0,9),(0,10),(1,2),(1,11),(0,12),(1,13),(1,14),(0,15)] (by kernel_rfl) ?_;refine ρn ?_;refine nld (Jjg (hB8.at (i:=2) rfl) hbl) ?_;refine ρn ?_;refine nix v (Rd.ext hD' hxF8) (by omega) ?_;refine ρn ?_;refine nld (λw' hg=>Jws (hxF5.trans (hg.old (hx58.trans hxd8) λk hk=>hk)) (RdB.cell hD (show v<ds.length by omega))) ?_;refine ρn ?_;refine nop ?_;refine cl (Jbb ((hkeyV.ext hx78).ext hxd8) (Jbl w5.heap.size (.slice LA qs.length lc)) λk hk=>?_) ?_
    ·rcases hk with h'|h'
     ·exact Nat.lt_of_lt_of_le h' (hx58.trans hxd8).size
     ·exact Nat.lt_of_lt_of_le (hlf k h').2 ((hx7.trans hx78).trans hxd8).size
    rintro kv w9 ⟨hk9,hx9⟩;obtain ⟨KA2,kc2,rfl,_⟩:=id hk9;refine ρ ?_;refine Jqm (GrN.ext hx9) ?_;refine ρn ?_;refine nop ?_;refine cl Qkn ?_;rintro u w10 ⟨rfl,hx10⟩;refine ρ ?_;refine Jqm (GrN.ext hx10) ?_;rw [<-hd];refine ρn ?_;refine Xzj (Xcx _ KA2 _ kc2 d none rfl) ?_;refine ρn ?_;refine nop ?_;refine bsl (Xcq _ KA2 _ kc2 d none rfl) ?_;intro w11 b11 hx11 hb11 hB11;refine ρ ?_;refine Jqm (GrN.ext hx11) ?_;refine ρn ?_;refine nop ?_;have hx8b:Ext w8 w11:=((hxd8.trans hx9).trans hx10).trans hx11;have hkx:BkE d (Jbl w5.heap.size (.slice LA qs.length lc)) w11 [.slice KA2 (x.take m).length kc2,.bool d,.pointer none] (x.take m,.nil):=⟨_,_,rfl,(hk9.ext hx10).ext hx11,rfl⟩;refine apB (hO8.ext hx8b) hB11 hkx (by omega) (hx58.trans hx8b).size ?_;intro vb' w12 hO12 hg12;refine ρ ?_;refine Jqm (GrN.by hg12 λg eg=>(hlf g eg).1) ?_;refine ρn ?_;refine ρ ?_;refine Jjn ((qs,.slice KA2 (x.take m).length kc2,none,.nil),vb') sB ⟨?_,?_,hO12,?_,hql,by simp [Tr.sum],by simp [Tr.sz],hqb⟩
    ·exact Jjk (hx58.trans hx8b) hg12 λg eg=>(hlf g eg).1
    ·exact (GrN.ext (hx78.trans hx8b)).trans (GrN.by hg12 λg eg=>⟨.inr eg,(hlf g eg).1⟩)
    ·rw [htk,Jdx,<-hqs];exact Qhb h0 (by rw [List.getLast?_map];simpa [Option.map_map] using hnl)
   ·have hl:(qs.getLast?.map (·.2.1))=some (x.take m):=Classical.byContradiction λh'=>by rw [hbb.2 h']at h;cases h
    have hq1:qs≠[]:=λe=>by rw [e]at hl;cases hl
    obtain ⟨ini,z,ez,ez2,_⟩:=Jwf hq1;rw [ez2]at hl;have hz1:z.2.1=x.take m:=by simpa using hl
    have hzm:z∈qs:=by rw [ez];simp
    obtain ⟨kv,zq,ez1,hzk,hzt⟩:=hO8.el z hzm;obtain ⟨zp,rfl⟩:=hzt.ptr;obtain ⟨zc,zk,zt⟩:=z;simp only at ez1 hz1;subst ez1;subst hz1;have hb1:=hqb _ hzm;refine ρ ?_;refine Jjn ((ini,kv,zp,zt),.slice LA qs.length lc) sB ⟨hx57.trans hx78,GrN.ext hx78,by rw [<-ez];exact hO8,?_,?_,hb1.1,hb1.2,λq hq=>hqb q (by rw [ez];simp [hq])⟩
    ·rw [htk,Jdx,<-hqs,ez,List.map_append];exact Qcm h0
    ·have:qs.length=ini.length+1:=by rw [ez];simp
     simp only;omega
  ·rintro ⟨⟨ini,kv,q,t⟩,vb'⟩ w9 ⟨hx59,hg79,hO9,hgr,hil,hts,htz,hib⟩;simp only at hO9 hgr hil hts htz hib;obtain ⟨LB,lb,rfl,hlb,hlfb⟩:=hO9.form;have hlen1:(ini++[([kv,.bool d,.pointer q],(x.take m,t))]).length=ini.length+1:=by simp
   rw [hlen1]at hlb hlfb ⊢;have hO9':=hO9.own;rw [hlen1]at hO9';refine ρ ?_;refine ixq 3 ini.length (Rd.own hO9') (by omega) ?_;refine ρ ?_;have hxd9:Ext w9 w9.drew:=(Ext.refl w9).drew;have hx59d:=hx59.trans hxd9;have hO9d:=hO9.ext hxd9;have hO9d':=Jjc hO9' hxd9;have hxv:RowV w9.drew (.slice XA x.length xc) x:=by
    have:=(hrow5' _ (getD_mem' z0 ps li)).ext hx59d;rw [<-hxe,ex1]at this;exact this
   obtain ⟨XA',xc',exx,_,_,hxR9⟩:=id hxv;injection exx with exx1 _ exx2
   subst exx1;subst exx2;have hel:BkE d (Jbl w5.heap.size (.slice LB (ini.length+1) lb)) w9 [kv,.bool d,.pointer q] (x.take m,t):=by
    have:=hO9.el ([kv,.bool d,.pointer q],(x.take m,t)) (by simp);rw [hlen1]at this;exact this
   obtain ⟨kv',q',eel,hkx,htx⟩:=id hel;simp only [List.cons.injEq,and_true,true_and]at eel;obtain ⟨eel1,eel2⟩:=eel;subst eel1;subst eel2;have hlast:∀ j u,([.bool d,.pointer q]:List Value)[j]?=some u->w9.drew.cell? (((adr LB (ini.length*3)).add 1).add j)=some u:=λj u hu=>by
    have hjl:j<2:=(List.getElem?_eq_some_iff.1 hu).1;have h1:(Jxh (ini++[([kv,.bool d,.pointer q],(x.take m,t))]))[ini.length*3+(1+j)]?=some u:=by
     rw [Jkt (p:=([kv,.bool d,.pointer q],(x.take m,t))) (λp hp=>(hO9.el p hp).len) (by simp) (by omega),Nat.add_comm 1 j];exact hu
    have:=(Rd.own hO9d').cell h1;rw [Jqw,Jqw,Nat.add_assoc];exact this
   have hw9:NatV w9.drew (.slice WA (Jjf (wt x)).length wc) (wt x):=by
    have h1:NatX (λk=>Jbl w5.heap.size (.slice LA qs.length lc) k/\w5.heap.size<=k) w7 (.slice WA (Jjf (wt x)).length wc) (wt x):=hfw7.x hw7 λk hk=>by
     rcases hk.1 with h'|h'
     ·have:=hx56.size;omega
     ·exact (hlf k h').2
    exact (h1.gr hg79).1.ext hxd9
   have hval2:Jxd (x.getD m V0)=true:=hval x hxm;have hnbS:Nb (t.sum+wt x):=Nb.big (k:=i+1) hSe he (by omega) (by have:=hwb x;rw [Nat.succ_mul];omega);have szt:t.sz+1<=1000000:=by omega
   have hlfb9:∀ k,Jbl w5.heap.size (.slice LB (ini.length+1) lb) k->k<w9.heap.size:=λk hk=>by
    rcases hk with h'|h'
    ·exact Nat.lt_of_lt_of_le h' hx59.size
    ·exact (hlfb k h').2
   refine drH (λi=>Nat.ble 16 i) ?_;refine Jtj (fuel':=7) 8 [(0,0),(0,1),(0,2),(0,3),(0,4),(0,5),(0,6),(0,7),(0,8),(0,9),(0,10)] #[true,true,true,true,true,true,true,true,true,true,true,false,false,false,false,false,false,false] (by kernel_rfl) (by kernel_rfl) rfl ?_;refine ρd ?_;refine Jwv (cs:=[.bool d,.pointer q]) hlast ?_;refine ρd ?_;refine Qsl 3 m hxR9 (by omega) ?_;refine ρd ?_;refine Jwv (cs:=(x.getD m V0).cells) (λj u hu=>RdR.cell hxR9 (by omega) hu) ?_;refine ρd ?_;refine Jzz ?_;refine hcut 2 (lst 18 16) (fun (y:Nat×Option Addr)=>[(12,.pointer (some ⟨y.1,0,none⟩)),(100,.agg #[.bool d,.pointer y.2]),(101,.int .i64 0),(0,.pointer (some ⟨b,0,none⟩)),(1,.int .i64 (v:Int)),(5,vl),(6,.slice LB (ini.length+1) lb),(11,.pointer (some (adr LB (ini.length*3)))),(34,.slice GA ps.length gc),(35,.int .i64 (ps.length:Int)),(36,.int .i64 (i:Int))])
    (λy W=>Ext w9.drew W/\Blk W y.1 126 [.bool false,.pointer none]/\w9.drew.heap.size<=y.1/\TrV (λk=>Jbl w5.heap.size (.slice LB (ini.length+1) lb) k∨k=y.1) W (Tr.put d (x.getD m V0) (wt x) t) (.pointer y.2)) ?_ ?_
   ·rintro ⟨b12,p2⟩ W ⟨hxW,hBW,hbW,hTW⟩;simp only at hBW hbW hTW;refine Jtj (fuel':=0) 8 [(2,16),(2,17)] (lst 18 18) (by kernel_rfl) (by kernel_rfl) rfl ?_;refine Jqz ?_;refine stb (cs':=[.bool d,.pointer p2]) hBW ?_ Jzv;intro W2 hBW2 hgW2 hxW2;refine Jxz (Jxx ?_);refine Jqz ?_;refine ρ ?_;refine Jxx ?_;refine Qxq (Jzz ?_);refine hend (by kernel_rfl) ?_;refine ρ ?_;have hx59W:Ext w5 W:=hx59d.trans hxW;have hx9W:Ext w9 W:=hxd9.trans hxW;have hx92:w9.heap.size<=b12:=Nat.le_trans hxd9.size hbW;have hgW2':GrN (λk=>k=b12) W W2:=GrN.by hgW2 λk hk=>by injection hk with hk;exact hk.symm
    have hOW2:W2.ownsRow w5.heap.size 141 3 (.slice LB (ini.length+1) lb) (ini.length+1) (Jxh (ini++[([kv,.bool d,.pointer q],(x.take m,t))])):=Jjr (Jjc hO9' hx9W) hgW2' λg eg e=>by have:=(hlfb g eg).2;omega
    refine ρ ?_;refine lds (cs:=[.bool d,.pointer p2]) (λj u hu=>hBW2.at hu) ?_;refine ρ ?_;refine Go.Wk.kv 108 (congrArg (λp=>Value.pointer (some p)) (Jqw LB (ini.length*3) 1)) ?_;refine stoG (q:=ini.length*3+1) (cs:=[.bool d,.pointer p2]) hOW2 (by simp;omega) (by simp) ?_ Jzv;intro W3 hOW3 hgW3;have hini3:∀ p∈ini,p.1.length=3:=λp hp=>(hO9.el p (by simp [hp])).len;have efl:=Qdt hini3 kv (.bool d) (.pointer q) (.bool d) (.pointer p2) (x.take m,t) (x.take m,Tr.put d (x.getD m V0) (wt x) t);rw [show ini.length*3+1+([Value.bool d,.pointer p2]:List Value).length=ini.length*3+1+2 from rfl,efl]at hOW3;have hx5W2:Ext w5 W2:=Jjk hx59W hgW2 λk hk=>by injection hk with hk;have:=hx59.size;omega
    have hx5W3:Ext w5 W3:=Jjk hx5W2 hgW3 λk hk=>(hlfb k hk).1;have hg3':GrN (λk=>Jbl w5.heap.size (.slice LB (ini.length+1) lb) k) W2 W3:=GrN.by hgW3 λk hk=>.inr hk
    have hel3:∀ p:List Value×BkT,BkE d (Jbl w5.heap.size (.slice LB (ini.length+1) lb)) w9 p.1 p.2->BkE d (Jbl w5.heap.size (.slice LB (ini.length+1) lb)) W3 p.1 p.2:=λp hp=>by
     have h1:BkE d (λk=>Jbl w5.heap.size (.slice LB (ini.length+1) lb) k∨k=b12) w9 p.1 p.2:=hp.old λk hk=>hk.imp id λe=>by rw [e];exact hx92
     exact (((h1.ext hx9W).gr (hgW2'.mono λk _ hk=>.inr hk)).old λk hk=>.inl (.inl hk)).gr hg3'
    refine ρ ?_;refine Jjj (i+1) (.slice LB (ini.length+1) lb) sO ⟨li,hx5W3,ini++[([kv,.bool d,.pointer p2],(x.take m,Tr.put d (x.getD m V0) (wt x) t))],⟨?_,λp hp=>?_⟩,?_,by simp;omega,λp hp=>?_⟩ (by omega)
    ·have:(ini++[([kv,Value.bool d,.pointer p2],(x.take m,Tr.put d (x.getD m V0) (wt x) t))]).length=ini.length+1:=by simp
     rw [this];exact hOW3
    ·rcases List.mem_append.1 hp with h1|h1
     ·have:=hO9.el p (by simp [h1]);rw [hlen1]at this;exact hel3 p this
     ·rw [List.mem_singleton.1 h1];obtain ⟨kv3,q3,e3,hk3,_⟩:=hel3 ([kv,.bool d,.pointer q],(x.take m,t)) hel;simp only [List.cons.injEq,and_true,true_and]at e3;rw [<-e3.1]at hk3;exact ⟨kv,.pointer p2,rfl,hk3,((hTW.gr (hgW2'.mono λk _ hk=>.inr hk)).old λk hk=>.inl (.inl hk)).gr hg3'⟩
    ·rw [hgr];simp
    ·rcases List.mem_append.1 hp with h1|h1
     ·have:=hib p h1;rw [Nat.succ_mul];omega
     ·rw [List.mem_singleton.1 h1];have h2:=Jlx d (x.getD m V0) (wt x) t;have h3:=Tr.put_sz d (x.getD m V0) (wt x) t;have h4:=hwb x;simp only;rw [Nat.succ_mul];omega
   intro rest;refine htwo 11 15 (by kernel_rfl) rfl rfl rfl ?_ ?_
   ·refine ρ ?_;refine cl (Jlh (htx.ext hxd9) hval2 hw9 (λk hk=>Nat.lt_of_lt_of_le (hlfb9 k hk) hxd9.size) h0 hnbS szt) ?_;rintro u W ⟨q2,rfl,hq2,hy⟩;obtain ⟨p2,rfl⟩:=hq2.ptr;refine Jxz (Jgw hy ?_);refine Jtj (fuel':=4) 8 [(0,12),(0,13)] (lst 18 14) (by kernel_rfl) (by kernel_rfl) rfl ?_;refine ρd ?_;refine Jzz ?_;refine Qfr (fuel':=3) 14 (by kernel_rfl) (by kernel_rfl) rfl rfl ?_;refine ρp ?_;refine ρd ?_;refine Jzz ?_;refine Jtj (fuel':=2) 8 [(1,15)] (lst 18 16) (by kernel_rfl) (by kernel_rfl) rfl ?_;refine dalc' (cs:=[.bool false,.pointer none]) Jff ?_;intro W2 bb2 hy2 hbb2 hBB2;refine Qxq (Jzz ?_);exact rest (bb2,p2) _ _ ⟨hy.trans hy2,hBB2,Nat.le_trans hy.size hbb2,(hq2.old λk hk=>hk.imp id λe=>by rw [e];exact hbb2).ext hy2⟩ sB
   ·refine ρ ?_;refine alc (cs:=[.bool false,.pointer none]) Jff ?_;intro W bb2 hy hbb2 hBB2;refine Jxz (Jgw hy ?_);refine Jtj (fuel':=3) 8 [(1,11),(0,12),(0,13)] #[true,true,true,true,true,true,true,true,true,true,true,true,true,true,false,true,false,false] (by kernel_rfl) (by kernel_rfl) rfl ?_;refine ρd ?_;have hN2:∀ k,(Jbl w5.heap.size (.slice LB (ini.length+1) lb) k∨k=bb2)->k<W.heap.size:=λk hk=>by
     rcases hk with h'|h'
     ·exact Nat.lt_of_lt_of_le (hlfb9 k h') (hxd9.trans hy).size
     ·rw [h'];exact hBB2.lt
    refine dcl (Jlh (N:=λk=>Jbl w5.heap.size (.slice LB (ini.length+1) lb) k∨k=bb2) (((htx.ext hxd9).old λk hk=>hk.imp id λe=>by rw [e];exact hbb2).ext hy) hval2 (hw9.ext hy) hN2 h0 hnbS szt) ?_;rintro u W2 ⟨q2,rfl,hq2,hy2⟩;obtain ⟨p2,rfl⟩:=hq2.ptr;refine ⟨hy2,?_⟩;refine ρd ?_;refine Jzz ?_;refine Qfr (fuel':=2) 14 (by kernel_rfl) (by kernel_rfl) rfl rfl ?_;refine ρp ?_;refine ρd ?_;refine Jzz ?_;refine hlist (listed':=lst 18 16) (by kernel_rfl) ?_;exact rest (bb2,p2) _ _ ⟨hy.trans hy2,hBB2.ext hy2,hbb2,hq2⟩ sB
 ·have hi':i=ps.length:=by have:=of_decide_eq_false h;omega
  clear h;rw [hi',<-hlenR,List.take_length]at hqs;have hGI:GInv d wt m (R v) (Qxm d wt m (R v)):=Jdz hlt λy hy=>by rw [(hF.rows v hv y hy).1,hmm];omega
  have hxF6:=hxF5.trans hx56;have hg26:=(GrN.ext (N:=λk=>k=mb) (hx25.trans hx56));have hM6:=hM5.ext hx56;have hmb6:=hM6.lt;have hB6:=hB5.ext hx56;have hS6:=Jjc s3 (hx25.trans hx56);have hlfm:∀ g,(Value.slice LA qs.length lc).ownBlock=some g->¬ g=mb:=λg eg e=>by have:=(hlf g eg).1;have:=hM5.lt;omega
  have hbm:¬ b=mb:=λe=>by have:=hB.lt;omega
  have hM5lt:=hM5.lt;have hAm:∀ k,(AR k∨k=mb)->k<w6.heap.size:=by
   rintro k (h'|h')
   ·have:=hARl k h';have:=(hgw5.size);have:=hx56.size;omega
   ·omega
  refine ρ ?_;refine Jzk (fun (j:Nat) (mc:Nat) (fm:Lit->Option Value)=>[(0,.pointer (some ⟨b,0,none⟩)),(1,.int .i64 (v:Int)),(6,.slice LA qs.length lc),(110,.slice LA qs.length lc),(111,.int .i64 (qs.length:Int)),(112,.int .i64 (j:Int))])
   (λj mc fm w'=>j<=qs.length/\GrN (λk=>k=mb) w6 w'/\MapS Tryz.prog 9 w' mb mc fm/\mc<=j/\∀ k:Row,(fm (.string (idn k))=none/\Qgt ((qs.map (·.2)).take j) k=0)∨∃ y,fm (.string (idn k))=some y/\0<Qgt ((qs.map (·.2)).take j) k/\NatX (λk=>AR k∨k=mb) w' y (Qgt ((qs.map (·.2)).take j) k)) (λj _ _=>qs.length-j) 0 0 (λ_=>none) sB
   ⟨Nat.zero_le _,GrN.refl _ _,hM6,Nat.le_refl _,λk=>.inl ⟨rfl,rfl⟩⟩ ?_
  rintro j mc fm w7 ⟨hj,hg67,hM7,hmc,hfm⟩;have hB7:=Jqb hB6 hg67 hbm;have hO7:=Jjr hO6.own hg67 hlfm;have hS7:=Jjr hS6 hg67 λg eg e=>by have:=(lTA g eg).2;omega
  have hxF7:Ext wF w7:=hg67.old hxF6 λk hk=>by rw [hk];exact hmF
  refine ρ ?_;refine ci (λh=>?_) (λh=>?_)
  ·have lj:j<qs.length:=by have:=of_decide_eq_true h;omega
   clear h;obtain ⟨z,hz⟩:∃ z,z=qs[j]:=⟨_,rfl⟩;have hzm:z∈qs:=by rw [hz];exact List.getElem_mem lj
   have hzg:z.2∈Qxm d wt m (R v):=by rw [<-hqs];exact List.mem_map_of_mem hzm
   have hel7:=(hO6.el z hzm).gr (hg67.mono λk _ hk=>.inl (by rw [hk];exact hM5lt));obtain ⟨kv,zq,ez1,hzk,hzt⟩:=id hel7;obtain ⟨zp,rfl⟩:=hzt.ptr;obtain ⟨KA2,kc2,rfl,hkc2,hkm2,hkR2,_⟩:=id hzk;have hkfit:FitR z.2.1:=by
    obtain ⟨y,hy,e1,_⟩:=entL_ne.1 (hGI.con z.2 hzg).2;have:=(hF.rows v hv y hy).2;rw [<-e1];exact ⟨by have:=this.1;rw [List.length_take];omega,λu hu=>this.2 u (List.mem_of_mem_take hu)⟩
   have hcell:∀ i u,([.slice KA2 z.2.1.length kc2,.bool d,.pointer zp]:List Value)[i]?=some u->w7.cell? ((adr LA (j*3)).add i)=some u:=λi u hu=>by
    have hi3:i<3:=(List.getElem?_eq_some_iff.1 hu).1;rw [Jqw];refine (Rd.own hO7).cell ?_;rw [Jkt (p:=z) (λp hp=>(hO6.el p hp).len) (by rw [hz];exact List.getElem?_eq_getElem lj) hi3,ez1];exact hu
   refine ρ ?_;refine ixq 3 j (Rd.own hO7) lj ?_;refine ρ ?_;refine lds (cs:=[.slice KA2 z.2.1.length kc2,.bool d,.pointer zp]) hcell ?_;refine ρ ?_;refine alc (cs:=[.slice none 0 0,.bool false,.pointer none]) Qzq ?_;intro w8 b15 hx8 hb15 hB15;refine ρ ?_;refine stb (cs':=[.slice KA2 z.2.1.length kc2,.bool d,.pointer zp]) hB15 ?_ (Qyj rfl);intro w9 hB159 hg9 hx9;have hx79:Ext w7 w9:=hx9 w7 hx8 hb15;have hxd:Ext w9 w9.drew:=(Ext.refl w9).drew;have hx7d:=hx79.trans hxd;refine ρ ?_;refine drN (λ_=>False) 10 [(0,0),(0,1),(0,2),(0,3),(0,4),(0,5),(0,6),(0,7),(0,8),(0,10),(0,11),(1,9),(1,12),(2,13)] (by kernel_rfl) ?_;have hS7d:=Rd.own (Jjc hS7 hx7d);have hB15d:=hB159.ext hxd;refine ρn ?_;refine nld (Jjg ((hB7.ext hx7d).at (i:=8) rfl) (λe=>e)) ?_;refine ρn ?_;refine nix v hS7d hv ?_;refine ρn ?_;refine nld (Jjg (hS7d.cell (show (ta.set v (.map (some mb)))[v]?=some (.map (some mb)) by rw [List.getElem?_set_self (by omega)])) (λe=>e)) ?_
   refine ρn ?_;refine nld (Jjg (hB15d.at (i:=0) rfl) (λe=>e)) ?_;refine ρn ?_;refine Jfd (cs:=[.bool d,.pointer zp]) (λw' hg j u hu=>Jjg (hB15d.sub (i:=1) (j:=j) (by rw [Nat.add_comm];exact hu)) (λe=>e) w' hg) ?_;refine ρn ?_;refine nop ?_;refine cl (Jzp (r:=z.2.1) (hF.tb.ext (hxF7.trans hx7d)) (hkR2.ext hx7d) (λu hu=>(hkfit.2 u hu).1) (by have:=hkfit.len;omega) (by have:=hkfit.1;omega)) ?_;rintro un w10 ⟨rfl,hx10⟩;refine ρ ?_;refine Jqm (GrN.ext hx10) ?_;refine ρn ?_;refine nop ?_;refine cl (Jbz ((hzt.ext hx7d).ext hx10) (Nb.big (k:=i) hSe he (by omega) (hqb z hzm).1)) ?_;rintro uy w11 ⟨hy11,hfy,hx11⟩;obtain ⟨YA,yc,rfl,_⟩:=id hy11;have hx7e:=(hx7d.trans hx10).trans hx11;refine ρ ?_;refine Jqm (GrN.ext hx11) ?_;refine ρn ?_;refine Jkj ?_;refine mup KS (hM7.ext hx7e) (by unfold maxLen;omega) (Jck hkfit) ?_;intro w12 hM12 hg12;have hg12':GrN (λk=>k=mb) w11 w12:=GrN.by hg12 λk hk=>by injection hk with hk;exact hk.symm
   have hg712:GrN (λk=>k=mb) w7 w12:=(GrN.ext hx7e).trans hg12';have hyX:NatX (λk=>AR k∨k=mb) w12 (.slice YA (Jjf z.2.2.sum).length yc) z.2.2.sum :=
    (hfy.x hy11 λk hk=>Nat.lt_of_lt_of_le (hAm k hk) (Nat.le_trans hg67.size (hx7d.trans hx10).size)).gr (hg12'.mono λk _ hk=>.inr hk)
   have etk:(qs.map (·.2)).take (j+1)=(qs.map (·.2)).take j++[z.2]:=by
    rw [List.take_succ_eq_append_getElem (by rw [List.length_map];exact lj),List.getElem_map,hz]
   have hni:z.2.1 ∉ ((qs.map (·.2)).take j).map (·.1):=by
    have h1:=hGI.lt;rw [<-hqs,<-List.take_append_drop (j+1) (qs.map (·.2)),etk,List.map_append,List.map_append]at h1
    intro hm;have h2:=(List.pairwise_append.1 (List.pairwise_append.1 h1).1).2.2 _ hm z.2.1 (by simp);rw [Jxq]at h2;omega
   refine ρ ?_;refine Jqf (j+1) (mc+1) (upL fm (.string (idn z.2.1)) (some (.slice YA (Jjf z.2.2.sum).length yc))) sO ⟨lj,hg67.trans hg712,hM12,by omega,λk=>?_⟩ (by omega);rw [etk,Qgs _ _ _ hni];by_cases e:z.2.1=k
   ·rw [if_pos e,<-e,Jdj (KS.key (Jck hkfit))];exact .inr ⟨_,rfl,Qcj hGI hzg,hyX⟩
   ·rw [if_neg e,Jyl (λe'=>e (Jth (by injection e'.symm)))];rcases hfm k with h1|⟨y,h1,h2,h3⟩
    ·exact .inl h1
    ·exact .inr ⟨y,h1,h2,h3.gr (hg712.mono λk _ hk=>.inr hk)⟩
  ·have hj':j=qs.length:=by have:=of_decide_eq_false h;omega
   clear h;have hfull:(qs.map (·.2)).take j=Qxm d wt m (R v):=by rw [hqs,hj',List.take_of_length_le];rw [<-hqs,List.length_map];exact Nat.le_refl _
   rw [hfull]at hfm;have hBa7:=Jjr (Jjc hBa2 (hx25.trans hx56)) hg67 λg eg e=>by have:=(lKA g eg).2;omega
   have hVa7:=Jjr (Jjc hVa2 (hx25.trans hx56)) hg67 λg eg e=>by have:=(lVA g eg).2;omega
   obtain ⟨r1,r2,r3,r4,r5⟩:=Jqq hBa7 (q:=v) (by omega) (.slice LA qs.length lc);have hbal:ba.length=f:=by have:=hBa.1;omega
   refine ρ ?_;refine ld (hB7.at (i:=9) rfl) ?_;refine ρ ?_;refine ix v (Rd.own hBa7) hvf ?_;refine ρ ?_;refine sto (r1.trans (show ba[v]?=some (ba.getD v (.slice none 0 0)) by simp [List.getD,List.getElem?_eq_getElem (show v<ba.length by omega)])) r2 ?_;refine ρ ?_;obtain ⟨w8,hw8⟩:∃ w8,w8=w7.setCell (adr KA v) (.slice LA qs.length lc):=⟨_,rfl⟩;rw [<-hw8]at r3 r5 ⊢;clear hw8;have hgw7:GrN AR w w7:=(((hgw5.trans (GrN.ext hx56)).mono λk _ hk=>(.inl hk:AR k∨k=mb)).trans (hg67.mono λk _ hk=>.inr hk)).mono λk hk h=>h.elim id λe=>by omega
   have hg78:GrN AR w7 w8:=GrN.by r5 λk hk=>hAR k (.inr (.inr hk))
   have hg68:GrN (λk=>AR k∨k=mb) w6 w8:=(hg67.mono λk _ hk=>.inr hk).trans (hg78.mono λk _ hk=>.inl hk);have hO8:=Jjs hO7 hBa7 r5 rfl;have hAmb:¬ AR mb:=by
    intro h';have:=hARl mb h';omega
   have hAlt:∀ k,(AR k∨k=mb)->k<w5.heap.size:=by
    rintro k (h'|h')
    ·have:=hARl k h';have:=(hgw5.size);omega
    ·omega
   refine Jjq ⟨rfl,.map (some mb),.slice LA qs.length lc,⟨Jjk hxF7 r5 λk hk=>(lKA k hk).1,hB7.grown r5 (hB7.ne_own hBa7 rfl),Jjs hVa7 hBa7 r5 rfl,Jjs hS7 hBa7 r5 rfl⟩,r3,hgw7.trans hg78,
    ⟨mb,mc,fm,rfl,by omega,⟨hM7.kept r5 (λe=>hAmb (hAR mb (.inr (.inr e.symm)))),hAmb⟩,λk=>?_⟩,
    ⟨qs,LA,lc,hqs.symm,rfl,hlc,by omega,Rd.own hO8,λh0 ad e=>?_,λp hp=>⟨(hO6.el p hp).len,?_⟩⟩⟩
   ·rcases hfm k with h1|⟨y,h1,h2,h3⟩
    ·exact .inl h1
    ·exact .inr ⟨y,h1,h2,(h3.old λk hk=>.inl (.inl hk)).gr hg78⟩
   ·intro hA;have:=(hlf ad.block (by rw [e];simp [Value.ownBlock])).1;have:=hAlt _ (.inl hA);omega
   ·have h1:BkE d (λk=>AR k∨k=mb) w6 p.1 p.2:=(hO6.el p hp).old λk hk=>.inl (.inl (hAlt k hk));exact (h1.gr hg68).old λk hk=>.inl (.inl hk)
end Go.Proofs.YtefpailelagbkaaGreatDoor
