/- Part 36 of the proof: Ix8. -/
import Derived.Test.YtefpailelagbkaaGreatDoorJ35
set_option linter.unusedVariables false
set_option maxRecDepth 100000
set_option maxHeartbeats 40000000
namespace Go.Proofs.YtefpailelagbkaaGreatDoor
open Go.RowKit Pl Go.Wk
attribute [local irreducible] WC WL QX WD WDB WP WN WG
theorem DnB.old{N N':Nat->Prop}{d:Bool}{w:World}{x:Value}{bs:List BkT}(h:DnB N d w x bs)(hs:∀ k,N' k->N k∨w.heap.size<=k): DnB N' d w x bs:=by
 obtain ⟨ps,A,c,h1,h2,h3,h4,h5,h6,h7⟩:=h;refine ⟨ps,A,c,h1,h2,h3,h4,h5,λh0 ad e hk=>?_,λp hp=>⟨(h7 p hp).1,(h7 p hp).2.old hs⟩⟩;rcases hs _ hk with h'|h'
 ·exact h6 h0 ad e h'
 ·have hl:0<(Jxh ps).length:=by rw [Jmz λp hp=>(h7 p hp).1];omega
  obtain ⟨ad',e',hb,_⟩:=h5.2 hl;rw [e]at e';injection e' with e';subst e';omega
theorem DnB.ext{N:Nat->Prop}{d:Bool}{w w':World}{x:Value}{bs:List BkT}(h:DnB N d w x bs)(hx:Ext w w'): DnB N d w' x bs:=h.gr (GrN.ext hx)
theorem DnB.nil(N:Nat->Prop)(d:Bool)(w:World): DnB N d w (.slice none 0 0) []:=⟨[],none,0,rfl,rfl,Nat.le_refl _,by simp,Rd.nil,λh=>absurd h (by simp),λp hp=>by cases hp⟩
theorem Xcr(w:World): (Instr.buildSlice 28 0 #[]).run Tryz.prog w=.ok (.slice (some ⟨w.heap.size,0,none⟩) 0 0) (w.alloc (.cells ([]:List Value).toArray 195)):=by kernel_rfl
theorem Qbn{A:Option Addr}{n c:Nat}{cs:List Value}{w:World}(hr:Rd w 3 A n cs)(h1:∀ u∈cs,u.oneCell'=true)(hb:n*24<=140737488355328):
  Ret Tryz.prog 133 [.slice A n c] w λv w'=>(∃ A' c',v=.slice A' n c'/\n<=c'/\Rd w' 3 A' n cs/\∀ ad,A'=some ad->w.heap.size<=ad.block)/\Ext w w':=by
 refine Jjb Tryz.func133 Tryz.ntmps133 rfl (by kernel_rfl) rfl ?_;refine ρ ?_;refine Xjf ?_;refine ρ ?_;refine ci (λh=>?_) (λh=>?_)
 ·have hA:A=none:=by simpa using h
  subst hA;have hn:n=0:=by
   rcases Nat.eq_zero_or_pos n with h0|h0
   ·exact h0
   ·obtain ⟨ad,h2,_⟩:=hr.isome h0 (by omega);cases h2
  subst hn;refine ρ ?_;exact Jjq ⟨⟨none,0,rfl,Nat.le_refl _,hr,λad e=>by cases e⟩,Ext.refl w⟩
 ·refine ρ ?_;refine bsl Xcr ?_;intro w1 b hx1 hb1 hk1;refine ρ ?_;refine apo hx1 EBg (hk1.own (n:=0) hb1 rfl (Nat.zero_le _)) (hr.ext hx1) h1 (by unfold maxLen;omega) (by omega) ?_;intro v2 w2 ho2 hx2 _ _;obtain ⟨A2,c2,rfl,hc2,hf⟩:=Jjd ho2;refine ρ ?_;rw [Nat.zero_add]at ho2 hc2 ⊢;exact Jjq ⟨⟨A2,c2,rfl,hc2,Rd.own ho2,λad e=>by subst e;exact (hf ad.block rfl).1⟩,hx2⟩
theorem Jnb(n:Nat)(kf:Nat->Nat)(pf:Nat->Int): ∀ u∈Jxt n (Jyh kf pf),u.oneCell'=true:=λu hu=>by
 obtain ⟨i,_,h⟩:=List.mem_flatMap.1 hu;exact Jfx u h
theorem Qfc{N:Nat->Prop}{d:Bool}{w:World}{x:Value}{bs:List BkT}(h:DnB N d w x bs)(hN:∀ k,N k->k<w.heap.size):
  Ret Tryz.prog 107 [x] w λu w'=>DnB N d w' u bs/\Ext w w':=by
 obtain ⟨ps,A,c,rfl,rfl,hc,hl,hR,hA,hel⟩:=h;refine Jjb Tryz.func107 Tryz.ntmps107 rfl (by kernel_rfl) rfl ?_;refine ρ ?_;refine Jjv (fun (i:Nat) (vl:Value)=>[(3,vl),(6,.slice A ps.length c),(7,.int .i64 (ps.length:Int)),(8,.int .i64 (i:Int))])
  (λi vl w'=>i<=ps.length/\Ext w w'/\∃ qs:List (List Value×BkT),w'.ownsRow w.heap.size 141 3 vl qs.length (Jxh qs)/\qs.map (·.2)=(ps.map (·.2)).take i/\∀ q∈qs,q.1.length=3/\BkE d (λk=>N k∨vl.ownBlock=some k) w' q.1 q.2) (λi _=>ps.length-i) 0 (.slice none 0 0) sB
  ⟨Nat.zero_le _,Ext.refl _,[],Jxj _ _ _ _,rfl,λq hq=>by cases hq⟩ ?_
 rintro i vl w1 ⟨hi,hx1,qs,ho1,hq1,hqe⟩;obtain ⟨LA,lc,rfl,hlc,hlf⟩:=Jjd ho1;have hql:qs.length=i:=by have:=congrArg List.length hq1;rw [List.length_map,List.length_take,List.length_map]at this;omega
 refine ρ ?_;refine ci (λh=>?_) (λh=>?_)
 ·have li:i<ps.length:=by have:=of_decide_eq_true h;omega
  clear h;obtain ⟨z,hz⟩:∃ z,z=ps[i]:=⟨_,rfl⟩;have hzm:z∈ps:=by rw [hz];exact List.getElem_mem li
  obtain ⟨hz3,hze⟩:=hel z hzm;have hcell:∀ j u,z.1[j]?=some u->w1.cell? ((adr A (i*3)).add j)=some u:=λj u hu=>by
   have hj:j<3:=by have:=(List.getElem?_eq_some_iff.1 hu).1;omega
   rw [Jqw];refine (hR.ext hx1).cell ?_;rw [Jkt (p:=z) (λp hp=>(hel p hp).1) (by rw [hz];exact List.getElem?_eq_getElem li) hj];exact hu
  obtain ⟨kv,zq,ez1,hzk,hzt⟩:=id hze;obtain ⟨zp,rfl⟩:=hzt.ptr;obtain ⟨zc,zk,zt⟩:=z;simp only at ez1 hzk hzt hcell hze;subst ez1;obtain ⟨KA2,kc2,rfl,hkc2,hkm2,hkR2,_⟩:=id hzk;refine ρ ?_;refine ixq 3 i (hR.ext hx1) li ?_;refine ρ ?_;refine lds (cs:=[.slice KA2 zk.length kc2,.bool d,.pointer zp]) hcell ?_;refine ρ ?_;refine alc (cs:=[.slice none 0 0,.bool false,.pointer none]) Qzq ?_;intro w2 bb hx2 hbb hBB;refine ρ ?_;refine stb (cs':=[.slice KA2 zk.length kc2,.bool d,.pointer zp]) hBB ?_ (Qyj rfl);intro w3 hBB3 hg3 hx3;have hx13:Ext w1 w3:=hx3 w1 hx2 hbb;have hxd:Ext w3 w3.drew:=(Ext.refl w3).drew;have hx0d:=hx1.trans (hx13.trans hxd);have hBBd:=hBB3.ext hxd;have hbn:¬ (Value.slice LA qs.length lc).ownBlock=some bb:=λe=>by have:=(hlf bb e).2;omega
  refine ρ ?_;refine drN (λk=>(Value.slice LA qs.length lc).ownBlock=some k) 10 [(0,0),(0,1),(0,2),(0,4),(0,5),(1,3),(0,6),(1,7),(1,8),(0,9)] (by kernel_rfl) ?_;refine ρn ?_;refine nld (Jjg (hBBd.at (i:=0) rfl) hbn) ?_;refine ρn ?_;refine Jfd (cs:=[.bool d,.pointer zp]) (λw' hg j u hu=>Jjg (hBBd.sub (i:=1) (j:=j) (by rw [Nat.add_comm];exact hu)) (by rw [Jzc];exact hbn) w' hg) ?_;refine ρn ?_;refine nop ?_;refine cl (Jbb (r:=zk) (hzk.v.ext hx0d) (λk=>N k∨(Value.slice LA qs.length lc).ownBlock=some k) λk hk=>?_) ?_
  ·rcases hk with h'|h'
   ·exact Nat.lt_of_lt_of_le (hN k h') hx0d.size
   ·exact Nat.lt_of_lt_of_le (hlf k h').2 (hx13.trans hxd).size
  rintro kv w4 ⟨hk4,hx4⟩;obtain ⟨KA3,kc3,rfl,_⟩:=id hk4;refine ρ ?_;refine Jqm (GrN.ext hx4) ?_;refine ρn ?_;refine Xzj (Xcx _ KA3 _ kc3 d zp rfl) ?_;refine ρn ?_;refine nop ?_;refine bsl (Xcq _ KA3 _ kc3 d zp rfl) ?_;intro w5 b5 hx5 hb5 hB5;refine ρ ?_;refine Jqm (GrN.ext hx5) ?_;refine ρn ?_;refine nop ?_;have hx15:Ext w1 w5:=((hx13.trans hxd).trans hx4).trans hx5;have hx05:=hx1.trans hx15;refine apb (m':=1) (news:=[.slice KA3 zk.length kc3,.bool d,.pointer zp]) EBk (Jjc ho1 hx15) (hB5.rd (n:=1) rfl) (Qyj rfl) (by unfold maxLen;omega) (by omega) hx05.size ?_;intro v6 w6 ho6 hg6 hn6;have hlf5:∀ g,(Value.slice LA qs.length lc).ownBlock=some g->g<w5.heap.size:=λg eg=>Nat.lt_of_lt_of_le (hlf g eg).2 hx15.size;refine ρ ?_;refine Jqm (GrN.by hg6 λg eg=>eg) ?_;refine ρn ?_;refine ρ ?_;have key:∀ p:List Value×BkT,BkE d (λk=>N k∨(Value.slice LA qs.length lc).ownBlock=some k) w5 p.1 p.2->BkE d (λk=>N k∨v6.ownBlock=some k) w6 p.1 p.2:=λp h1=>by
   have h2:BkE d (λk=>(N k∨(Value.slice LA qs.length lc).ownBlock=some k)∨v6.ownBlock=some k) w5 p.1 p.2:=h1.old λk hk=>by
    rcases hk with h'|h'
    ·exact .inl h'
    ·rcases hn6 k h' with h''|h''
     ·exact .inl (.inr h'')
     ·exact .inr h''
   exact (h2.gr (GrN.by hg6 λk hk=>.inl (.inr hk))).old λk hk=>.inl (hk.elim (λh'=>.inl (.inl h')) .inr)
  have hzt5:TrV (λk=>N k∨(Value.slice LA qs.length lc).ownBlock=some k) w5 zt (.pointer zp):=by
   refine TrV.ext (TrV.old ?_ hzt) hx05;intro k hk;rcases hk with h'|h'
   ·exact .inl h'
   ·exact .inr (hlf k h').1
  refine Jjj (i+1) v6 sO ⟨li,Jjk hx05 hg6 (λg eg=>(hlf g eg).1),qs++[([.slice KA3 zk.length kc3,.bool d,.pointer zp],(zk,zt))],?_,?_,λq hq=>?_⟩ (by omega)
  ·rw [List.length_append,List.length_singleton];have e:Jxh (qs++[([.slice KA3 zk.length kc3,.bool d,.pointer zp],(zk,zt))])=Jxh qs++[.slice KA3 zk.length kc3,.bool d,.pointer zp]:=by simp [Jxh]
   rw [e];exact ho6
  ·rw [List.map_append,hq1,List.take_succ_eq_append_getElem (by rw [List.length_map];exact li),List.getElem_map,<-hz];rfl
  ·rcases List.mem_append.1 hq with h1|h1
   ·exact ⟨(hqe q h1).1,key q ((hqe q h1).2.ext hx15)⟩
   ·rw [List.mem_singleton.1 h1];exact ⟨rfl,key ([.slice KA3 zk.length kc3,.bool d,.pointer zp],(zk,zt)) ⟨_,_,rfl,hk4.ext hx5,hzt5⟩⟩
 have hi':i=ps.length:=by have:=of_decide_eq_false h;omega
 rw [hi',List.take_of_length_le (by rw [List.length_map];exact Nat.le_refl _)]at hq1;refine ρ ?_;refine Jjq ⟨⟨qs,LA,lc,hq1.symm,rfl,hlc,by omega,Rd.own ho1,λh0 ad e hk=>?_,λp hp=>⟨(hqe p hp).1,?_⟩⟩,hx1⟩
 ·have:=(hlf ad.block (by rw [e];simp [Value.ownBlock])).1;have:=hN _ hk;omega
 ·exact (hqe p hp).2.old λk hk=>.inl (.inl hk)
def Qkz(bs:List BkT)(k:Row): Option Nat:=bs.findIdx? λb=>decide (b.1=k)
theorem Qlz(bs:List BkT)(b:BkT)(k:Row)(h:b.1 ∉ bs.map (·.1)): Qkz (bs++[b]) k=if b.1=k then some bs.length else Qkz bs k:=by
 unfold Qkz;rw [List.findIdx?_append];by_cases e:b.1=k
 ·rw [if_pos e];have:bs.findIdx? (λc=>decide (c.1=k))=none:=by
   rw [List.findIdx?_eq_none_iff];intro c hc;exact decide_eq_false λh'=>h (by rw [e];exact List.mem_map.2 ⟨c,hc,h'⟩)
  rw [this];simp [List.findIdx?_cons,e]
 ·rw [if_neg e];cases hf:bs.findIdx? (λc=>decide (c.1=k)) with
  | some c=>simp
  | none=>simp [List.findIdx?_cons,e]
structure VarQ(N:Nat->Prop)(d:Bool)(w:World)(bv pv:Value)(bs:List BkT): Prop where
 bks:DnB N d w bv bs
 plc:∃ mb m fm,pv=.map (some mb)/\m<=1000000/\(MapS Tryz.prog 9 w mb m fm/\¬ N mb)/\∀ k:Row,fm (.string (idn k))=(Qkz bs k).map λi=>.int .i64 (i:Int)
theorem VarQ.gr{N:Nat->Prop}{d:Bool}{w w':World}{bv pv:Value}{bs:List BkT}(h:VarQ N d w bv pv bs)(hg:GrN N w w'): VarQ N d w' bv pv bs:=by
 refine ⟨h.bks.gr hg,?_⟩;obtain ⟨mb,m,fm,h1,h2,⟨h3,h4⟩,h5⟩:=h.plc;exact ⟨mb,m,fm,h1,h2,⟨h3.gr hg h4,h4⟩,h5⟩
theorem VarQ.none{N:Nat->Prop}{d:Bool}{w:World}{bv pv:Value}{bs:List BkT}(h:VarQ N d w bv pv bs): VarQ (λ_=>False) d w bv pv bs:=by
 refine ⟨h.bks.old λk hk=>hk.elim,?_⟩;obtain ⟨mb,m,fm,h1,h2,⟨h3,h4⟩,h5⟩:=h.plc;exact ⟨mb,m,fm,h1,h2,⟨h3,λe=>e⟩,h5⟩
structure IxV(w:World)(x:Value)(f:Nat)(ds:List Bool)(kf:Nat->Nat)(pf:Nat->Int)(BB:Nat->List BkT)(tot:Nat): Prop where
 ex:∃ DA dc BA cb KA ck PA cp tv kvs pvs,x=.agg #[.slice DA f dc,.slice BA f cb,.slice KA f ck,.slice PA f cp,tv]/\f<=dc/\f<=cb/\RdB w DA ds/\Rd w 3 BA f (Jxt f (Jyh kf pf))/\Rd w 1 KA f kvs/\Rd w 1 PA f pvs/\NatV w tv tot /\
  ∀ v,v<f->VarQ (λ_=>False) (ds.getD v false) w (kvs.getD v (.slice none 0 0)) (pvs.getD v (.map none)) (BB v)
 dl:ds.length=f
 f32:f<=32
theorem IxV.ext{w w':World}{x:Value}{f:Nat}{ds:List Bool}{kf:Nat->Nat}{pf:Nat->Int}{BB:Nat->List BkT}{tot:Nat}(h:IxV w x f ds kf pf BB tot)(hx:Ext w w'): IxV w' x f ds kf pf BB tot:=by
 obtain ⟨DA,dc,BA,cb,KA,ck,PA,cp,tv,kvs,pvs,h1,h2,h3,h4,h5,h6,h7,h8,h9⟩:=h.ex;exact ⟨⟨DA,dc,BA,cb,KA,ck,PA,cp,tv,kvs,pvs,h1,h2,h3,Rd.ext h4 hx,h5.ext hx,h6.ext hx,h7.ext hx,h8.ext hx,λv hv=>(h9 v hv).gr (GrN.ext hx)⟩,h.dl,h.f32⟩
theorem Qjm: Jxc Tryz.prog 34=some (.agg #[.slice none 0 0,.slice none 0 0,.slice none 0 0,.slice none 0 0,.slice none 0 0]):=by kernel_rfl
theorem Qnn(A B C:Option Addr)(a b c a' b' c':Nat)(w:World): (Instr.build 34 #[(0,.slice A a a'),(1,.slice B b b'),(4,.slice C c c')]).run Tryz.prog w=.ok (.agg #[.slice A a a',.slice B b b',.slice none 0 0,.slice none 0 0,.slice C c c']) w:=by kernel_rfl
theorem Jgt{A B C D E:Option Addr}{a b c d e a' b' c' d' e':Nat}: ∀ u∈[Value.slice A a a',.slice B b b',.slice C c c',.slice D d d',.slice E e e'],u.oneCell'=true:=λu hu=>by
 simp only [List.mem_cons,List.not_mem_nil,or_false]at hu;rcases hu with rfl|rfl|rfl|rfl|rfl<;>rfl
theorem EBks: ElT Tryz.prog 29 138 1 24 (.slice none 0 0):=⟨Tryz.underlying29,info_parts (by kernel_rfl),rfl,by decide⟩
theorem EPls: ElT Tryz.prog 30 215 1 8 (.map none):=⟨Tryz.underlying30,info_parts (by kernel_rfl),rfl,by decide⟩
theorem Jhj(z:Value)(h:z.cells = #[z])(n:Nat): (madeCells z.cells (n*1)).toList=List.replicate n z:=by rw [Nat.mul_one,h];exact Jmm _ _
theorem Qzd{B0 f dc cb ck tot:Nat}{w:World}{DA BA KA:Option Addr}{ds:List Bool}{kf:Nat->Nat}{pf:Nat->Int}{bvs:List Value}{BB:Nat->List BkT}{tv:Value}{M:Nat->Prop}(hTB:TB B0 w)(hdl:ds.length=f)(f32:f<=32)(hD:RdB w DA ds)(hBg:Rd w 3 BA f (Jxt f (Jyh kf pf)))(hK:Rd w 1 KA f bvs)(hel:∀ v,v<f->DnB M (ds.getD v false) w (bvs.getD v (.slice none 0 0)) (BB v))(htv:NatX M w tv tot)(hM:∀ k,M k->k<w.heap.size)(hfit:∀ v,v<f->∀ b∈BB v,FitR b.1)(hlt:∀ v,v<f->Lt [] ((BB v).map (·.1))):
  Ret Tryz.prog 86 [.slice DA f dc,.slice BA f cb,.slice KA f ck,tv] w λu w'=>Off M w' (λW=>IxV W u f ds kf pf BB tot)/\IxV w' u f ds kf pf BB tot/\Ext w w':=by
 obtain ⟨TA,tc,rfl,htc⟩:=id htv.1;have hD':Rd w 1 DA f (ds.map Value.bool):=hdl ▸ hD;refine Jjb Tryz.func86 Tryz.ntmps86 rfl (by kernel_rfl) rfl ?_;refine ρ ?_;refine alc (cs:=[.slice none 0 0,.slice none 0 0,.slice none 0 0,.slice none 0 0,.slice none 0 0]) Qjm ?_;intro w1 b8 hx1 hb8 hB8;refine ρ ?_;refine cl (Qfh (hD'.ext hx1) (λu hu=>by obtain ⟨b,_,rfl⟩:=List.mem_map.1 hu;rfl) (by omega)) ?_;rintro _ w2 ⟨⟨DA2,dc2,rfl,hdc2,hD2,hfD⟩,hx2⟩;refine ρ ?_;refine cl (Qbn ((hBg.ext hx1).ext hx2) (Jnb _ _ _) (by omega)) ?_;rintro _ w3 ⟨⟨BA2,cb2,rfl,hcb2,hBg2,hfB⟩,hx3⟩;refine ρ ?_;refine bld (Qnn _ _ _ _ _ _ _ _ _ _) ?_;refine ρ ?_;refine alc (cs:=[.slice none 0 0,.slice none 0 0,.slice none 0 0,.slice none 0 0,.slice none 0 0]) Qjm ?_;intro w4 b9 hx4 hb9 hB9;refine ρ ?_;refine stb (cs':=[.slice DA2 f dc2,.slice BA2 f cb2,.slice none 0 0,.slice none 0 0,.slice TA (Jjf tot).length tc]) hB9 ?_ Jgt
 intro w5 hB95 hg5 hx5;have hx45:Ext w3 w5:=hx5 w3 hx4 hb9;have hx05:Ext w w5:=((hx1.trans hx2).trans hx3).trans hx45;have hxd:Ext w5 w5.drew:=(Ext.refl w5).drew;have hB9d:=hB95.ext hxd;refine ρ ?_;refine drH (λi=>Nat.beq i 7 || Nat.beq i 9) ?_;refine Jtj (fuel':=8) 8 [(0,0),(0,1)] #[true,true,false,false,false,false,false,false,false,false] (by kernel_rfl) (by kernel_rfl) rfl ?_;refine ρd ?_;refine Jzz ?_;refine Qfr (fuel':=7) 3 (by kernel_rfl) (by kernel_rfl) rfl rfl ?_;refine ρp ?_;refine ρd ?_;refine Jzz ?_;refine Qfr (fuel':=6) 4 (by kernel_rfl) (by kernel_rfl) rfl rfl ?_;refine ρp ?_;refine ρd ?_;refine Jzz ?_;have hbE:w5.drew.heap.size=w5.heap.size:=rfl;refine hcut 2 (lst 10 8) (fun (y:Option Addr×Option Addr)=>[(24,.slice y.2 f f),(9,.pointer (some ⟨b9,0,none⟩)),(8,.pointer (some ⟨b8,0,none⟩)),(0,.slice DA f dc),(2,.slice KA f ck)])
  (λy W=>GrN (λk=>k=b9) w5.drew W/\Blk W b9 34 [.slice DA2 f dc2,.slice BA2 f cb2,.slice y.1 f f,.slice none 0 0,.slice TA (Jjf tot).length tc] /\
   W.ownsRow w5.drew.heap.size 138 1 (.slice y.1 f f) f (List.replicate f (.slice none 0 0))/\W.ownsRow w5.drew.heap.size 215 1 (.slice y.2 f f) f (List.replicate f (.map none))) ?_ ?_
 rotate_left
 ·intro rest;refine itwo 2 5 (by kernel_rfl) rfl rfl rfl ?_ ?_
  ·refine mkn EBks f (by omega) (by unfold maxLen;omega) ?_;intro w6 KA2 hx6 hK6 _;rw [Jhj _ rfl]at hK6;refine Jxz (Jdv (λ_=>hx6) ?_);refine Qfr (fuel':=4) 6 (by kernel_rfl) (by kernel_rfl) rfl rfl ?_;refine ρp ?_;refine ρd ?_;refine Jzz ?_;refine itwo 5 7 (by kernel_rfl) rfl rfl rfl ?_ ?_
   ·refine mkn EPls f (by omega) (by unfold maxLen;omega) ?_;intro w7 PA2 hx7 hP7 _;rw [Jhj _ rfl]at hP7;refine Jxz (Jdv (λ_=>hx7) ?_);refine Xbl 7 (by kernel_rfl) rfl rfl ?_;have hB7:=(hB9d.ext hx6).ext hx7;refine sto (hB7.at (i:=2) rfl) (hB7.frozen 2) ?_;refine Jxz (Jdv (λh=>by cases h) ?_);refine hlist (listed':=lst 10 8) (by kernel_rfl) ?_;have hg8:GrN (λk=>k=b9) w7 (w7.setCell ⟨b9,2,none⟩ (.slice KA2 f f)):=GrN.set _ rfl;refine rest (KA2,PA2) _ _ ⟨(GrN.ext (hx6.trans hx7)).trans hg8,hB7.set 2 _,Jjr (Jjc hK6 hx7) hg8 λg eg e=>?_,Jjr (hP7.mono hx6.size) hg8 λg eg e=>?_⟩ sB
    ·rw [e]at eg;exact hB7.ne_own (Jjc hK6 hx7) rfl eg.symm
    ·rw [e]at eg;exact hB7.ne_own hP7 rfl eg.symm
   ·have hB6:=hB9d.ext hx6;refine sto (hB6.at (i:=2) rfl) (hB6.frozen 2) ?_;refine Jxz (Jdv (λh=>by cases h) ?_);refine Xbl 5 (by kernel_rfl) rfl rfl ?_;have hg8:GrN (λk=>k=b9) w6 (w6.setCell ⟨b9,2,none⟩ (.slice KA2 f f)):=GrN.set _ rfl;refine mkn EPls f (by omega) (by unfold maxLen;omega) ?_;intro w7 PA2 hx7 hP7 _;rw [Jhj _ rfl]at hP7;refine Jxz (Jdv (λ_=>hx7) ?_);refine hlist (listed':=lst 10 8) (by kernel_rfl) ?_;refine rest (KA2,PA2) _ _ ⟨((GrN.ext hx6).trans hg8).trans (GrN.ext hx7),(hB6.set 2 _).ext hx7,Jjc (Jjr hK6 hg8 λg eg e=>?_) hx7,hP7.mono (Nat.le_trans hx6.size hg8.size)⟩ sB;rw [e]at eg;exact hB6.ne_own hK6 rfl eg.symm
  ·refine mkn EPls f (by omega) (by unfold maxLen;omega) ?_;intro w6 PA2 hx6 hP6 _;rw [Jhj _ rfl]at hP6;refine Jxz (Jdv (λ_=>hx6) ?_);refine Xbl 2 (by kernel_rfl) rfl rfl ?_;refine mkn EBks f (by omega) (by unfold maxLen;omega) ?_;intro w7 KA2 hx7 hK7 _;rw [Jhj _ rfl]at hK7;refine Jxz (Jdv (λ_=>hx7) ?_);refine Qfr (fuel':=3) 6 (by kernel_rfl) (by kernel_rfl) rfl rfl ?_;refine ρp ?_;refine ρd ?_;refine Jzz ?_;refine Xbl 7 (by kernel_rfl) rfl rfl ?_;have hB7:=(hB9d.ext hx6).ext hx7;refine sto (hB7.at (i:=2) rfl) (hB7.frozen 2) ?_;refine Jxz (Jdv (λh=>by cases h) ?_);refine hlist (listed':=lst 10 8) (by kernel_rfl) ?_;have hg8:GrN (λk=>k=b9) w7 (w7.setCell ⟨b9,2,none⟩ (.slice KA2 f f)):=GrN.set _ rfl;refine rest (KA2,PA2) _ _ ⟨(GrN.ext (hx6.trans hx7)).trans hg8,hB7.set 2 _,Jjr (hK7.mono hx6.size) hg8 λg eg e=>?_,Jjr (Jjc hP6 hx7) hg8 λg eg e=>?_⟩ sB
   ·rw [e]at eg;exact hB7.ne_own hK7 rfl eg.symm
   ·rw [e]at eg;exact hB7.ne_own (Jjc hP6 hx7) rfl eg.symm
 rintro ⟨KA2,PA2⟩ w6 ⟨hg56,hB6,hK6,hP6⟩;simp only at hB6 hK6 hP6;refine Qfr (fuel':=1) 8 (by kernel_rfl) (by kernel_rfl) rfl rfl ?_;refine ρp ?_;refine ρd ?_;refine Jzz ?_;refine Xbl 9 (by kernel_rfl) rfl rfl ?_;refine sto (hB6.at (i:=3) rfl) (hB6.frozen 3) ?_;refine Jxz (Jdv (λh=>by cases h) ?_);refine hend (by kernel_rfl) ?_;obtain ⟨w7,hw7⟩:∃ w7,w7=w6.setCell ⟨b9,3,none⟩ (.slice PA2 f f):=⟨_,rfl⟩;have hg67:GrN (λk=>k=b9) w6 w7:=by rw [hw7];exact GrN.set _ rfl
 have hB7:Blk w7 b9 34 [.slice DA2 f dc2,.slice BA2 f cb2,.slice KA2 f f,.slice PA2 f f,.slice TA (Jjf tot).length tc]:=by rw [hw7];exact hB6.set 3 _
 have hK7:=Jjr hK6 hg67 λg eg e=>by rw [e]at eg;exact hB6.ne_own hK6 rfl eg.symm
 have hP7:=Jjr hP6 hg67 λg eg e=>by rw [e]at eg;exact hB6.ne_own hP6 rfl eg.symm
 rw [show w6.setCell ((⟨b9,0,none⟩:Addr).add 3) (.slice (KA2,PA2).2 f f)=w7 from hw7.symm];clear hw7;obtain ⟨N,hNd⟩:∃ N:Nat->Prop,N=λk=>(Value.slice KA2 f f).ownBlock=some k∨(Value.slice PA2 f f).ownBlock=some k:=⟨_,rfl⟩;obtain ⟨NB,hNB⟩:∃ NB:Nat->Prop,NB=λk=>N k∨k=b8∨M k:=⟨_,rfl⟩;have hNBi:∀ {W W':World},GrN N W W'->GrN NB W W':=λhg=>hg.mono λk _ hk=>by rw [hNB];exact .inl hk
 have lK:∀ g,(Value.slice KA2 f f).ownBlock=some g->w5.heap.size<=g/\g<w7.heap.size:=(Jjd hK7).choose_spec.choose_spec.2.2;have lP:∀ g,(Value.slice PA2 f f).ownBlock=some g->w5.heap.size<=g/\g<w7.heap.size:=(Jjd hP7).choose_spec.choose_spec.2.2;have hNk:∀ k,N k->w5.heap.size<=k/\k<w7.heap.size:=λk hk=>by
  rw [hNd]at hk;exact hk.elim (lK k) (lP k)
 have hNb:¬ N b9:=λhk=>by
  rw [hNd]at hk;rcases hk with h'|h'
  ·exact hB7.ne_own hK7 rfl h'.symm
  ·exact hB7.ne_own hP7 rfl h'.symm
 have hx07:Ext w w7:=by
  have h1:Ext w3 w6:=(hg56.old (hx45.trans hxd) λk hk=>by rw [hk];exact hb9);have h2:Ext w3 w7:=hg67.old h1 λk hk=>by rw [hk];exact hb9
  exact ((hx1.trans hx2).trans hx3).trans h2
 have hb8':b8<w3.heap.size:=Nat.lt_of_lt_of_le hB8.lt (hx2.trans hx3).size;have hB87:Blk w7 b8 34 _:=Jqb (Jqb ((((hB8.ext hx2).ext hx3).ext (hx45.trans hxd))) hg56 λe=>by omega) hg67 λe=>by omega
 have hDd:Rd w7 1 DA2 f (ds.map Value.bool):=by
  have h1:Ext w3 w6:=(hg56.old (hx45.trans hxd) λk hk=>by rw [hk];exact hb9);have h2:Ext w3 w7:=hg67.old h1 λk hk=>by rw [hk];exact hb9
  exact Rd.ext (Rd.ext hD2 hx3) h2
 have hBgd:Rd w7 3 BA2 f (Jxt f (Jyh kf pf)):=by
  have h1:Ext w3 w6:=(hg56.old (hx45.trans hxd) λk hk=>by rw [hk];exact hb9);have h2:Ext w3 w7:=hg67.old h1 λk hk=>by rw [hk];exact hb9
  exact Rd.ext hBg2 h2
 have hs57:w5.heap.size<=w7.heap.size:=Nat.le_trans hg56.size hg67.size;have hx3lt:w3.heap.size<=w5.heap.size:=hx45.size;refine ρ ?_;refine Jzk (fun (v:Nat) (kvs pvs:List Value)=>[(8,.pointer (some ⟨b8,0,none⟩)),(9,.pointer (some ⟨b9,0,none⟩)),(2,.slice KA f ck),(28,.int .i64 (f:Int)),(29,.int .i64 (v:Int))])
  (λv kvs pvs w'=>v<=f/\GrN N w7 w'/\w'.ownsRow w5.drew.heap.size 138 1 (.slice KA2 f f) f kvs/\w'.ownsRow w5.drew.heap.size 215 1 (.slice PA2 f f) f pvs /\
   ∀ u,u<v->VarQ NB (ds.getD u false) w' (kvs.getD u (.slice none 0 0)) (pvs.getD u (.map none)) (BB u)) (λv _ _=>f-v) 0 _ _ sB
  ⟨Nat.zero_le _,GrN.refl _ _,hK7,hP7,λu hu=>by omega⟩ ?_
 rintro v kvs pvs w8 ⟨hv,hg78,hK8,hP8,hVQ⟩;have hB98:=Jqb hB7 hg78 hNb;have hx08:Ext w w8:=hg78.old hx07 λk hk=>by have:=(hNk k hk).1;have:=hx05.size;omega
 refine ρ ?_;refine ci (λh=>?_) (λh=>?_)
 ·have lv:v<f:=by have:=of_decide_eq_true h;omega
  clear h;obtain ⟨d,hd⟩:∃ d,d=ds.getD v false:=⟨_,rfl⟩;have helv:=hel v lv;rw [<-hd]at helv;have hbvl:bvs.length=f:=by have:=hK.len;omega
  have hkl:kvs.length=f:=by have:=hK8.1;omega
  have hpl:pvs.length=f:=by have:=hP8.1;omega
  have hNw:∀ k,N k->w.heap.size<=k:=λk hk=>Nat.le_trans hx05.size (hNk k hk).1;have hxd8:Ext w8 w8.drew:=(Ext.refl w8).drew;have hB98d:=hB98.ext hxd8;have hK8d:=Jjc hK8 hxd8;have hP8d:=Jjc hP8 hxd8;have hKd:Rd w8.drew 1 KA f bvs:=hK.ext (hx08.trans hxd8);have hNK:∀ g,(Value.slice KA2 f f).ownBlock=some g->N g:=λg eg=>by rw [hNd];exact .inl eg
  have hNP:∀ g,(Value.slice PA2 f f).ownBlock=some g->N g:=λg eg=>by rw [hNd];exact .inr eg
  have hcop:∀ (W:World) (N':Nat->Prop),Ext w W->(∀ k,N' k->(M k∨w.heap.size<=k)/\k<W.heap.size)->Ret Tryz.prog 107 [bvs.getD v (.slice none 0 0)] W λu w'=>DnB N' d w' u (BB v)/\Ext W w':=λW N' hxW hN'=>
   Qfc ((((helv.old (N':=λk=>M k∨w.heap.size<=k) λk hk=>hk)).ext hxW).old λk hk=>.inl (hN' k hk).1) λk hk=>(hN' k hk).2
  have hsto:∀ (W:World) (kvs:List Value) (u:Value),W.ownsRow w5.drew.heap.size 138 1 (.slice KA2 f f) f kvs->W.ownsRow w5.drew.heap.size 215 1 (.slice PA2 f f) f pvs ->
    W.cell? (adr KA2 v)=kvs[v]?/\W.frozen? (adr KA2 v)=false/\(W.setCell (adr KA2 v) u).ownsRow w5.drew.heap.size 138 1 (.slice KA2 f f) f (kvs.set v u)/\(W.setCell (adr KA2 v) u).ownsRow w5.drew.heap.size 215 1 (.slice PA2 f f) f pvs/\GrN N W (W.setCell (adr KA2 v) u):=λW kvs u hKW hPW=>by
   obtain ⟨s1,s2,s3,s4,s5⟩:=Jqq hKW (q:=v) (by omega) u;exact ⟨s1,s2,s3,Jjs hPW hKW s5 rfl,GrN.by s5 hNK⟩
  refine ρ ?_;refine drM N ?_;refine Qlm (fuel':=6) [(0,0),(0,1),(0,2),(0,3),(0,4),(0,5),(0,6),(0,7),(0,8),(0,9)] (lst 16 10) (by kernel_rfl) (by kernel_rfl) rfl ?_;refine ρn ?_;refine nld (Jjg (hB98d.at (i:=2) rfl) hNb) ?_;refine ρn ?_;refine nld (Jjg (hB98d.at (i:=3) rfl) hNb) ?_;refine ρn ?_;refine nix v hKd lv ?_;refine ρn ?_;refine nld (v:=bvs.getD v (.slice none 0 0)) (λw' hg=>Jws (hg.old (hx08.trans hxd8) hNw) (hK.cell (show bvs[v]?=some (bvs.getD v (.slice none 0 0)) by simp [List.getD,List.getElem?_eq_getElem (show v<bvs.length by omega)]))) ?_;refine ρn ?_;refine Jmk ?_;refine mcut 2 (lst 16 14) (fun (y:Value×Nat)=>[(43,.map (some y.2)),(36,.slice PA2 f f),(37,.int .i64 (v:Int)),(10,.int .i64 (v:Int)),(8,.pointer (some ⟨b8,0,none⟩)),(9,.pointer (some ⟨b9,0,none⟩)),(2,.slice KA f ck),(28,.int .i64 (f:Int)),(29,.int .i64 (v:Int))])
   (λy W=>GrN N w8.drew W/\W.ownsRow w5.drew.heap.size 138 1 (.slice KA2 f f) f (kvs.set v y.1)/\W.ownsRow w5.drew.heap.size 215 1 (.slice PA2 f f) f pvs/\DnB (λk=>NB k∨k=y.2) d W y.1 (BB v)/\MapS Tryz.prog 9 W y.2 0 (λ_=>none)/\w8.heap.size<=y.2) ?_ ?_
  rotate_left
  ·intro rest;have hNlt:∀ k,NB k->(M k∨w.heap.size<=k)/\k<w8.heap.size:=λk hk=>by
    rw [hNB]at hk;rcases hk with hk|hk|hk
    ·exact ⟨.inr (hNw k hk),Nat.lt_of_lt_of_le (hNk k hk).2 hg78.size⟩
    ·have:=hg78.size;rw [hk];exact ⟨.inr hb8,by omega⟩
    ·exact ⟨.inl hk,Nat.lt_of_lt_of_le (hM k hk) hx08.size⟩
   have hNlt':∀ k,N k->k<w8.heap.size:=λk hk=>Nat.lt_of_lt_of_le (hNk k hk).2 hg78.size;refine Xwl 10 11 (by kernel_rfl) rfl rfl rfl ?_ ?_
   ·refine cl (hcop _ NB (hx08.trans hxd8) hNlt) ?_;rintro u W1 ⟨hD1,hy1⟩;have hK1:=Jjc hK8d hy1;have hP1:=Jjc hP8d hy1;refine Jxz (Jxp (GrN.ext hy1) ?_);refine Qlm (fuel':=4) [(0,12)] #[true,true,true,true,true,true,true,true,true,true,true,false,true,false,false,false] (by kernel_rfl) (by kernel_rfl) rfl ?_;refine ρn ?_;refine nix v (Rd.own hK1) lv ?_;refine ρn ?_;refine Jmk ?_;refine Xwl 11 13 (by kernel_rfl) rfl rfl rfl ?_ ?_
    ·refine mkm 9 ?_;intro W2 mb hy2 hmb hM2;refine Jxz (Jxp (GrN.ext hy2) ?_);refine Qkq 13 (by kernel_rfl) rfl rfl ?_;obtain ⟨s1,s2,s3,s4,s5⟩:=hsto W2 kvs u (Jjc hK1 hy2) (Jjc hP1 hy2);refine sto (s1.trans (show kvs[v]?=some (kvs.getD v (.slice none 0 0)) by simp [List.getD,List.getElem?_eq_getElem (show v<kvs.length by omega)])) s2 ?_ rfl rfl rfl rfl rfl (by obtain ⟨_,_,_,_,e,_⟩:=hD1;rw [e];rfl);refine Jxz (Jxp s5 ?_);refine Jsw (listed':=lst 16 14) (by kernel_rfl) ?_;refine rest (u,mb) _ _ ⟨(GrN.ext (hy1.trans hy2)).trans s5,s3,s4,?_,hM2.gr s5 λhk=>?_,Nat.le_trans hy1.size hmb⟩ sB
     ·exact (((hD1.old (N':=λk=>NB k∨k=mb) λk hk=>hk.imp id λe=>by rw [e];exact hmb).ext hy2).gr ((hNBi s5).mono λk _ hk=>.inl hk))
     ·have h1:=hNlt' _ hk;have h2:w8.heap.size<=W1.heap.size:=hy1.size;omega
    ·obtain ⟨s1,s2,s3,s4,s5⟩:=hsto W1 kvs u hK1 hP1;refine sto (s1.trans (show kvs[v]?=some (kvs.getD v (.slice none 0 0)) by simp [List.getD,List.getElem?_eq_getElem (show v<kvs.length by omega)])) s2 ?_ rfl rfl rfl rfl rfl (by obtain ⟨_,_,_,_,e,_⟩:=hD1;rw [e];rfl);refine Jxz (Jxp s5 ?_);refine Qkq 11 (by kernel_rfl) rfl rfl ?_;refine mkm 9 ?_;intro W2 mb hy2 hmb hM2;refine Jxz (Jxp (GrN.ext hy2) ?_);refine Jsw (listed':=lst 16 14) (by kernel_rfl) ?_;refine rest (u,mb) _ _ ⟨((GrN.ext hy1).trans s5).trans (GrN.ext hy2),Jjc s3 hy2,Jjc s4 hy2,?_,hM2,Nat.le_trans hy1.size (Nat.le_trans s5.size hmb)⟩ sB;exact ((hD1.gr (hNBi s5)).old (N':=λk=>NB k∨k=mb) λk hk=>hk.imp id λe=>by rw [e];exact hmb).ext hy2
   ·refine mkm 9 ?_;intro W1 mb hy1 hmb hM1;refine Jxz (Jxp (GrN.ext hy1) ?_);refine Qkq 10 (by kernel_rfl) rfl rfl ?_;have hmb1:=hM1.lt;have hmb8:w8.heap.size<=mb:=hmb;have h81:w8.heap.size<=W1.heap.size:=hy1.size;refine cl (hcop _ (λk=>NB k∨k=mb) ((hx08.trans hxd8).trans hy1) λk hk=>?_) ?_
    ·rcases hk with hk|hk
     ·have:=hNlt k hk;exact ⟨this.1,by omega⟩
     ·have:=hx08.size;exact ⟨.inr (by omega),by omega⟩
    rintro u W2 ⟨hD2,hy2⟩;have hK2':=Jjc (Jjc hK8d hy1) hy2;have hP2:=Jjc (Jjc hP8d hy1) hy2;refine Jxz (Jxp (GrN.ext hy2) ?_);refine Qlm (fuel':=3) [(0,12)] (lst 16 13) (by kernel_rfl) (by kernel_rfl) rfl ?_;refine ρn ?_;refine nix v (Rd.own hK2') lv ?_;refine ρn ?_;refine Jmk ?_;refine Qkq 13 (by kernel_rfl) rfl rfl ?_;obtain ⟨s1,s2,s3,s4,s5⟩:=hsto W2 kvs u hK2' hP2;refine sto (s1.trans (show kvs[v]?=some (kvs.getD v (.slice none 0 0)) by simp [List.getD,List.getElem?_eq_getElem (show v<kvs.length by omega)])) s2 ?_ rfl rfl rfl rfl rfl (by obtain ⟨_,_,_,_,e,_⟩:=hD2;rw [e];rfl);refine Jxz (Jxp s5 ?_);refine Jsw (listed':=lst 16 14) (by kernel_rfl) ?_;refine rest (u,mb) _ _ ⟨(GrN.ext (hy1.trans hy2)).trans s5,s3,s4,hD2.gr ((hNBi s5).mono λk _ hk=>.inl hk),(hM1.ext hy2).gr s5 λhk=>?_,hmb8⟩ sB;have:=hNlt' _ hk;omega
  rintro ⟨u,mb⟩ w9 ⟨hg89,hK9,hP9,hD9,hM9,hmb9⟩;simp only at hK9 hD9 hM9 hmb9;refine Qlm (fuel':=1) [(0,14)] (lst 16 15) (by kernel_rfl) (by kernel_rfl) rfl ?_;refine ρn ?_;refine nix v (Rd.own hP9) lv ?_;refine ρn ?_;refine Jmk ?_;refine Qkq 15 (by kernel_rfl) rfl rfl ?_;obtain ⟨r1,r2,r3,r4,r5⟩:=Jqq hP9 (q:=v) (by omega) (.map (some mb));refine sto (r1.trans (show pvs[v]?=some (pvs.getD v (.map none)) by simp [List.getD,List.getElem?_eq_getElem (show v<pvs.length by omega)])) r2 ?_;have hr5:=GrN.by r5 hNP
  refine Jxz (Jxp hr5 ?_);refine mend (by kernel_rfl) ?_;obtain ⟨w10,hw10⟩:∃ w10,w10=w9.setCell (adr PA2 v) (.map (some mb)):=⟨_,rfl⟩;rw [<-hw10]at r3 r5 hr5 ⊢;clear hw10;have hNlt:∀ k,N k->k<w8.heap.size:=λk hk=>Nat.lt_of_lt_of_le (hNk k hk).2 hg78.size;have hNmb:¬ N mb:=λhk=>by have:=hNlt _ hk;omega
  have hNBmb:¬ NB mb:=λhk=>by
   rw [hNB]at hk;rcases hk with hk|hk|hk
   ·exact hNmb hk
   ·have:=hg78.size;omega
   ·have:=hM _ hk;have:=hx08.size;omega
  have hg810:=(GrN.ext (N:=N) hxd8).trans (hg89.trans hr5);have hB910:=Jqb hB98 hg810 hNb;have hK10:=Jjs hK9 hP9 r5 rfl;have hD10:=hD9.gr ((hNBi hr5).mono λk _ hk=>.inl hk);have hM10:=hM9.gr hr5 hNmb;have hx10:Ext w w10:=hg810.old hx08 hNw;have hmb10:=hM10.lt;clear hD9 hM9;obtain ⟨ps,GA,gc,eps,rfl,hgc,hpl6,hGR,hGA,hGe⟩:=hD10;have hkd:(kvs.set v (.slice GA ps.length gc))[v]?=some (.slice GA ps.length gc):=by rw [List.getElem?_set_self (by omega)]
  have hb9m:¬ b9=mb:=λe=>by have:=hB98.lt;omega
  have hlen:ps.length=(BB v).length:=by rw [eps,List.length_map]
  have hTB10:=hTB.ext hx10;refine ρ ?_;refine ld (hB910.at (i:=2) rfl) ?_;refine ρ ?_;refine ix v (Rd.own hK10) lv ?_;refine ρ ?_;refine ld ((Rd.own hK10).cell hkd) ?_;refine ρ ?_;refine Jzk (fun (i:Nat) (mc:Nat) (fm:Lit->Option Value)=>[(8,.pointer (some ⟨b8,0,none⟩)),(9,.pointer (some ⟨b9,0,none⟩)),(2,.slice KA f ck),(10,.int .i64 (v:Int)),(28,.int .i64 (f:Int)),(29,.int .i64 (v:Int)),(50,.slice GA ps.length gc),(51,.int .i64 (ps.length:Int)),(52,.int .i64 (i:Int))])
   (λi mc fm w'=>i<=ps.length/\GrN (λk=>k=mb) w10 w'/\MapS Tryz.prog 9 w' mb mc fm/\mc<=i/\∀ k:Row,fm (.string (idn k))=(Qkz ((BB v).take i) k).map λj=>.int .i64 (j:Int)) (λi _ _=>ps.length-i) 0 0 (λ_=>none) sB
   ⟨Nat.zero_le _,GrN.refl _ _,hM10,Nat.le_refl _,λk=>rfl⟩ ?_
  rintro i mc fm w11 ⟨hi,hg11,hM11,hmc,hfm⟩;refine ρ ?_;refine ci (λh=>?_) (λh=>?_)
  ·have li:i<ps.length:=by have:=of_decide_eq_true h;omega
   clear h;obtain ⟨z,hz⟩:∃ z,z=ps[i]:=⟨_,rfl⟩;have hzm:z∈ps:=by rw [hz];exact List.getElem_mem li
   have hzB:z.2∈BB v:=by rw [eps];exact List.mem_map_of_mem hzm
   have hg11':GrN (λk=>NB k∨k=mb) w10 w11:=hg11.mono λk _ hk=>.inr hk;have hGR11:=Qzl hGR hg11' λh0 ad e=>hGA (by have:=hGR.1;omega) ad e;have hel11:=(hGe z hzm).2.gr hg11';have hcell:∀ j u,z.1[j]?=some u->w11.cell? ((adr GA (i*3)).add j)=some u:=λj u hu=>by
    have hj:j<3:=by have:=(List.getElem?_eq_some_iff.1 hu).1;have:=(hGe z hzm).1;omega
    rw [Jqw];refine hGR11.cell ?_;rw [Jkt (p:=z) (λp hp=>(hGe p hp).1) (by rw [hz];exact List.getElem?_eq_getElem li) hj];exact hu
   obtain ⟨kv,zq,ez1,hzk,hzt⟩:=id hel11;obtain ⟨zp,rfl⟩:=hzt.ptr;have hfz:=hfit v lv z.2 hzB;obtain ⟨KA3,kc3,rfl,hkc3,hkm3,hkR3,_⟩:=id hzk;rw [ez1]at hcell;have hxw11:Ext w w11:=hg11.old hx10 λk hk=>by rw [hk];have:=hx08.size;omega
   have hB911:=Jqb hB910 hg11 hb9m;have hP11:=Jjr r3 hg11 λg eg e=>hNmb (by rw [<-e];exact hNP g eg);refine ρ ?_;refine ixq 3 i hGR11 li ?_;refine ρ ?_;refine lds (cs:=[.slice KA3 z.2.1.length kc3,.bool d,.pointer zp]) hcell ?_;refine ρ ?_;refine alc (cs:=[.slice none 0 0,.bool false,.pointer none]) Qzq ?_;intro w12 b12 hx12 hb12 hB12;refine ρ ?_;refine stb (cs':=[.slice KA3 z.2.1.length kc3,.bool d,.pointer zp]) hB12 ?_ (Qyj rfl);intro w13 hB123 hg13 hx13;have hx1113:Ext w11 w13:=hx13 w11 hx12 hb12;have hxd13:Ext w13 w13.drew:=(Ext.refl w13).drew;have hx11d:=hx1113.trans hxd13;have hP13:=Rd.own (Jjc hP11 hx11d);refine ρ ?_;refine drN (λ_=>False) 10 [(0,0),(0,1),(0,2),(0,3),(0,4),(0,5),(0,6),(0,8),(1,7),(2,9)] (by kernel_rfl) ?_;refine ρn ?_;refine nld (Jjg ((hB911.ext hx11d).at (i:=3) rfl) (λe=>e)) ?_;refine ρn ?_;refine nix v hP13 lv ?_;refine ρn ?_;refine nld (Jjg (hP13.cell (show (pvs.set v (.map (some mb)))[v]?=some (.map (some mb)) by rw [List.getElem?_set_self (by omega)])) (λe=>e)) ?_
   refine ρn ?_;refine nld (Jjg ((hB123.ext hxd13).at (i:=0) rfl) (λe=>e)) ?_;refine ρn ?_;refine nop ?_;refine cl (Jzp (r:=z.2.1) (hTB.ext (hxw11.trans hx11d)) (hkR3.ext hx11d) (λu hu=>(hfz.2 u hu).1) (by have:=hfz.len;omega) (by have:=hfz.1;omega)) ?_;rintro un w14 ⟨rfl,hx14⟩;refine ρ ?_;refine Jqm (GrN.ext hx14) ?_;refine ρn ?_;refine Jkj ?_;refine mup KS ((hM11.ext hx11d).ext hx14) (by unfold maxLen;omega) (Jck hfz) ?_;intro w15 hM15 hg15;have hg1115:GrN (λk=>k=mb) w11 w15:=(GrN.ext (hx11d.trans hx14)).trans (GrN.by hg15 λk hk=>by injection hk with hk;exact hk.symm);refine ρ ?_;refine Jqf (i+1) (mc+1) (upL fm (.string (idn z.2.1)) (some (.int .i64 (i:Int)))) sO ⟨li,hg11.trans hg1115,hM15,by omega,λk=>?_⟩ (by omega);have etk:(BB v).take (i+1)=(BB v).take i++[z.2]:=by
    rw [eps,List.take_succ_eq_append_getElem (by rw [List.length_map];exact li),List.getElem_map,hz]
   have hni:z.2.1 ∉ ((BB v).take i).map (·.1):=by
    have h1:=hlt v lv;rw [<-List.take_append_drop (i+1) (BB v),etk,List.map_append,List.map_append]at h1;intro hm;have h2:=(List.pairwise_append.1 (List.pairwise_append.1 h1).1).2.2 _ hm z.2.1 (by simp);rw [Jxq]at h2;omega
   rw [etk,Qlz _ _ _ hni];have hlt':((BB v).take i).length=i:=by rw [List.length_take];omega
   by_cases e:z.2.1=k
   ·rw [if_pos e,<-e,Jdj (KS.key (Jck hfz)),hlt'];rfl
   ·rw [if_neg e,Jyl (λe'=>e (Jth (by injection e'.symm)))];exact hfm k
  ·have hi':i=ps.length:=by have:=of_decide_eq_false h;omega
   clear h;have hfull:(BB v).take i=BB v:=by rw [hi',hlen,List.take_length]
   rw [hfull]at hfm;have hgw:GrN N w8 w11:=by
    refine ((hg810.mono λk _ hk=>(.inl hk:N k∨k=mb)).trans (hg11.mono λk _ hk=>.inr hk)).mono λk hk h=>?_;rcases h with h|h
    ·exact h
    ·omega
   have hset:∀ u,u<v->(kvs.set v (.slice GA ps.length gc)).getD u (.slice none 0 0)=kvs.getD u (.slice none 0 0)/\(pvs.set v (.map (some mb))).getD u (.map none)=pvs.getD u (.map none):=λu hu=>by
    constructor<;>simp [List.getD,List.getElem?_set_ne (show v≠u by omega)]
   have hat:(kvs.set v (.slice GA ps.length gc)).getD v (.slice none 0 0)=.slice GA ps.length gc/\(pvs.set v (.map (some mb))).getD v (.map none)=.map (some mb):=by
    constructor
    ·rw [List.getD,hkd];rfl
    ·rw [List.getD,List.getElem?_set_self (by omega)];rfl
   have hDn:DnB (λk=>NB k∨k=mb) d w10 (.slice GA ps.length gc) (BB v):=⟨ps,GA,gc,eps,rfl,hgc,hpl6,hGR,hGA,hGe⟩;refine ρ ?_;refine Jqf (v+1) (kvs.set v (.slice GA ps.length gc)) (pvs.set v (.map (some mb))) sO ⟨lv,hg78.trans hgw,Jjr hK10 hg11 λg eg e=>hNmb (by rw [<-e];exact hNK g eg),Jjr r3 hg11 λg eg e=>hNmb (by rw [<-e];exact hNP g eg),λu hu=>?_⟩ (by omega);by_cases e:u=v
   ·subst e;rw [hat.1,hat.2,<-hd];refine ⟨(hDn.gr (hg11.mono λk _ hk=>.inr hk)).old λk hk=>.inl (.inl hk),mb,mc,fm,rfl,by omega,⟨hM11,hNBmb⟩,hfm⟩
   ·obtain ⟨e1,e2⟩:=hset u (by omega);rw [e1,e2];exact (hVQ u (by omega)).gr (hNBi hgw)
 ·have hv':v=f:=by have:=of_decide_eq_false h;omega
  clear h;subst hv';refine ρ ?_;refine lds (cs:=[.slice DA2 v dc2,.slice BA2 v cb2,.slice KA2 v v,.slice PA2 v v,.slice TA (Jjf tot).length tc]) (λj u hu=>hB98.at hu) ?_;refine ρ ?_;have hNb8:¬ N b8:=λhk=>by have:=(hNk _ hk).1;omega
  have hB88:=Jqb hB87 hg78 hNb8;refine stb (cs':=[.slice DA2 v dc2,.slice BA2 v cb2,.slice KA2 v v,.slice PA2 v v,.slice TA (Jjf tot).length tc]) hB88 ?_ Jgt;intro w9 hB89 hg89 hx89;have hg89':GrN (λk=>k=b8) w8 w9:=GrN.by hg89 λk hk=>by injection hk with hk;exact hk.symm
  have hx09:Ext w w9:=hg89'.old hx08 λk hk=>by rw [hk];exact hb8
  have hb81:b8<w1.heap.size:=hB8.lt;have hNBf:∀ k,NB k->k<w1.heap.size∨w5.heap.size<=k:=λk hk=>by
   rw [hNB]at hk;rcases hk with hk|hk|hk
   ·exact .inr (hNk k hk).1
   ·left;omega
   ·left;exact Nat.lt_of_lt_of_le (hM k hk) hx1.size
  have fin:∀ W,GrN M w9 W->IxV W (.agg #[.slice DA2 v dc2,.slice BA2 v cb2,.slice KA2 v v,.slice PA2 v v,.slice TA (Jjf tot).length tc]) v ds kf pf BB tot:=λW hW=>by
   have hg8W:GrN (λk=>k=b8∨M k) w8 W:=(hg89'.mono λk _ hk=>.inl hk).trans (hW.mono λk _ hk=>.inr hk);have hg8N:GrN NB w8 W:=hg8W.mono λk _ hk=>by rw [hNB];exact .inr hk
   have hg79:GrN NB w7 W:=(hNBi hg78).trans hg8N;have hD7:=Qzl hDd hg79 λh0 ad e hk=>by
    obtain ⟨ad',e',hb,_⟩:=hD2.2 h0;rw [e]at e';injection e' with e';subst e'
    have h1:=hfD ad e;have h2:w2.heap.size<=w5.heap.size:=(hx3.trans hx45).size;rcases hNBf _ hk with h'|h'<;>omega
   have hBg7:=Qzl hBgd hg79 λh0 ad e hk=>by
    obtain ⟨ad',e',hb,_⟩:=hBg2.2 h0;rw [e]at e';injection e' with e';subst e'
    have h1:=hfB ad e;have h2:=hx2.size;rcases hNBf _ hk with h'|h'<;>omega
   have hs15:w1.heap.size<=w5.heap.size:=(hx2.trans (hx3.trans hx45)).size;have hK9:=Jjr hK8 hg8W λg eg e=>by
    have h1:=(lK g eg).1;rcases e with e|e
    ·omega
    ·have:=hM g e;have:=hx1.size;omega
   have hP9:=Jjr hP8 hg8W λg eg e=>by
    have h1:=(lP g eg).1;rcases e with e|e
    ·omega
    ·have:=hM g e;have:=hx1.size;omega
   refine ⟨⟨DA2,dc2,BA2,cb2,KA2,v,PA2,v,_,kvs,pvs,rfl,hdc2,hcb2,?_,hBg7,Rd.own hK9,Rd.own hP9,((htv.ext hx09).gr hW).1,λu hu=>?_⟩,hdl,f32⟩
   ·unfold RdB;rw [hdl];exact hD7
   ·exact ((hVQ u hu).gr hg8N).none
  refine ρ ?_;exact Qwd hB89 ⟨λW hW=>fin W hW,fin w9 (GrN.refl _ _),hx09⟩
end Go.Proofs.YtefpailelagbkaaGreatDoor
