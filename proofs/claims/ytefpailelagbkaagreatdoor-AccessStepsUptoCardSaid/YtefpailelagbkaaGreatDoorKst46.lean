/- Part 4 of the proof: LwD, LwDW. -/
import Derived.Test.YtefpailelagbkaaGreatDoorKst45
set_option linter.unusedVariables false
set_option maxRecDepth 100000
set_option maxHeartbeats 40000000
namespace Go.Proofs.YtefpailelagbkaaGreatDoor
open Go.RowKit Pl Go.Wk
attribute [local irreducible] WC WL QX WD WDB WP WN WG WH WM
theorem ixBuckets_any{w:World}{x:Value}{f:Nat}{ds:List Bool}{kf:Nat->Nat}{pf:Nat->Int}{BB:Nat->List BkT}{tot:Nat}(h:IxV w x f ds kf pf BB tot){v:Nat}(hv:v<f):
  Ret Tryz.prog 69 [x,.int .i64 (v:Int)] w λu w'=>DnB (λ_=>False) (ds.getD v false) w' u (BB v)/\Ext w w':=by
 obtain ⟨DA,dc,BA,cb,KA,ck,PA,cp,tv,C,a3,rfl,a6,a7,hD,hB,hK,hP,a2,a1⟩:=id h.ex;obtain ⟨TA,tc,rfl,_⟩:=id a2;refine Jjc Tryz.func69 Tryz.ntmps69 rfl (by kernel_rfl) rfl ?_;refine ρ ?_;refine bx ?_;intro w1 b o hb O;refine ρ ?_;refine ldW O ?_;refine ρ ?_;refine cl (Jnx (h.ext o) hv) ?_;rintro _ w2 ⟨rfl,j⟩;refine ρ ?_;refine ld ((O.ext j).at (i:=2) rfl) ?_;refine ρ ?_;have J:=(hK.ext o).ext j;have G:C[v]?=some (C.getD v (.slice none 0 0)):=by
  have:=hK.1;simp [List.getD,List.getElem?_eq_getElem (show v<C.length by omega)]
 have D:=((a1 v hv).bks.ext o).ext j;refine ix v J hv ?_;obtain ⟨_,KQ,a5,_,U,_⟩:=id D;refine ρ ?_;refine ld (by rw [U]at G;exact J.cell G) ?_;refine ρ ?_;rw [U]at D;refine cl (Qcd D λk hk=>hk.elim) ?_;rintro u w3 ⟨hu,Z⟩;obtain ⟨_,KR,a4,_,rfl,_⟩:=id hu;refine ρ ?_;exact Jjr ⟨hu,(o.trans j).trans Z⟩
theorem hmB_take(bs:List BkT){i:Nat}(h:i<bs.length): hmB (bs.take (i+1))=max (hmB (bs.take i)) bs[i].2.ht:=by
 unfold hmB;rw [List.take_succ_eq_append_getElem h,List.foldl_append];rfl
theorem hmB_le{bs:List BkT}{B:Nat}(h:∀ b∈bs,b.2.ht<=B): hmB bs<=B:=by
 have key:∀ (l:List BkT) (m:Nat),m<=B->(∀ b∈l,b.2.ht<=B)->l.foldl (λm b=>max m b.2.ht) m<=B:=by
  intro l;induction l with
  | nil=>intro m i _;exact i
  | cons b l ih=>intro m i j;exact ih _ (Nat.max_le.2 ⟨i,j b mC⟩) λc o=>j c (List.mem_cons_of_mem _ o)
 exact key bs 0 (Nat.zero_le _) h
theorem height41_any{w:World}{x:Value}{f:Nat}{ds:List Bool}{kf:Nat->Nat}{pf:Nat->Int}{BB:Nat->List BkT}{tot:Nat}(h:IxV w x f ds kf pf BB tot){v:Nat}(hv:v<f):
  Ret Tryz.prog 25 [x,.int .i64 (v:Int)] w λu w'=>u=.int .i64 (hmB (BB v):Int)/\Ext w w':=by
 obtain ⟨DA,dc,BA,cb,KA,ck,PA,cp,tv,an,am,rfl,au,av,hD,hB,hK,hP,ac,ap⟩:=id h.ex;obtain ⟨TA,tc,rfl,_⟩:=id ac;refine Jjc Tryz.func25 Tryz.ntmps25 rfl (by kernel_rfl) rfl ?_;refine ρ ?_;refine bx ?_;intro w1 b a2 hb ag;refine ρ ?_;refine ldW ag ?_;refine ρ ?_;refine cl (ixBuckets_any (h.ext a2) hv) ?_;rintro u w2 ⟨⟨ps,A,c,J,rfl,hc,hl,hR,_,a3⟩,ab⟩;refine ρ ?_;refine Jqb (fun (i:Nat) (m:Nat)=>[(5,.int .i64 (m:Int)),(10,.slice A ps.length c),(11,.int .i64 (ps.length:Int)),(12,.int .i64 (i:Int))])
  (λi m w'=>i<=ps.length/\Ext w2 w'/\m=hmB ((BB v).take i)) (λi _=>ps.length-i) 0 0 sB ⟨Nat.zero_le _,Ext.refl _,rfl⟩ ?_
 rintro i m w3 ⟨hi,o,hm⟩;refine ρ ?_;refine ci (λh=>?_) (λh=>?_)
 ·have li:i<ps.length:=by have:=oT h;omega
  clear h;have ae:i<(BB v).length:=by rw [J,List.length_map];exact li
  obtain ⟨z,hz⟩:∃ z,z=ps[i]:=⟨_,rfl⟩;have a1:(BB v)[i]=z.2:=by simp only [J,List.getElem_map,hz]
  have a7:z∈ps:=by rw [hz];exact List.getElem_mem li
  obtain ⟨ao,Z⟩:=a3 z a7;have C:∀ j u,z.1[j]?=some u->w3.cell? ((adr A (i*3)).add j)=some u:=λj u hu=>by
   have hj:j<3:=by have:=(List.getElem?_eq_some_iff.1 hu).1;omega
   rw [Jqr];refine (hR.ext o).cell ?_;rw [Jkk (p:=z) (λp hp=>(a3 p hp).1) (by rw [hz];exact gE li) hj];exact hu
  obtain ⟨kv,zq,a5,U,G⟩:=id Z;obtain ⟨zp,rfl⟩:=G.ptr;obtain ⟨zc,zk,zt⟩:=z;simp only at a5 U G C Z a1;subst a5;obtain ⟨a6,O,rfl,aj,ai,ak,_⟩:=id U;refine ρ ?_;refine ixq 3 i (hR.ext o) li ?_;refine ρ ?_;refine lds (cs:=[.slice a6 zk.length O,.bool (ds.getD v false),.pointer zp]) C ?_;refine ρ ?_;refine alc Qqp ?_;intro w4 bb aa af ah;refine ρ ?_;refine stb (cs':=[.slice a6 zk.length O,.bool (ds.getD v false),.pointer zp]) ah ?_ (Qwc rfl);intro w5 a4 ar a9;have D:Ext w3 w5:=a9 w3 aa af;refine ρ ?_;refine lds (cs:=[.bool (ds.getD v false),.pointer zp]) (λj u hu=>(a4.sub (i:=1) (j:=j) (by rw [Nat.add_comm];exact hu))) ?_;refine ρ ?_;refine cl (treeHeight_any (TrV.ext G (o.trans D))) ?_;rintro _ w6 ⟨rfl,a8⟩;refine ρ ?_;have ad:(if (m:Int)<(zt.ht:Int) then (zt.ht:Int) else (m:Int))=((max m zt.ht:Nat):Int):=by split<;>omega
  rw [ad];refine Jjm (i+1) (max m zt.ht) sO ⟨by omega,(o.trans D).trans a8,?_⟩ (by omega);rw [hmB_take _ ae,hm,a1]
 ·have aq:i=ps.length:=by have:=oF h;omega
  have e:(BB v).take i=BB v:=by rw [List.take_of_length_le];rw [J,List.length_map];omega
  rw [e]at hm;subst hm;refine ρ ?_;exact Jjr ⟨rfl,(a2.trans ab).trans o⟩
theorem sumR_bd{n:Nat}{g:Nat->Nat}{B:Nat}(h:∀ c,c<n->g c<=B): Jcg n g<=n*B:=by
 induction n with
 | zero=>simp [Jcg]
 | succ n ih=>rw [Jcg,Nat.succ_mul];have:=ih λc i=>h c (by omega);have:=h n (by omega);omega
theorem nrem{N:Nat->Prop}{P:Program}{n:Nat}{al:AL}{w:World}{Q:Exit->Act->World->Prop}{ops:Array Oper}{drest:List (Nat×Oper)}{d ty:Nat}{pos:String}{aft:Array Edge}{x y:Operand}{t yt:TypeId}{k1:IntKind}{a b:Int}(h0:b≠0)(kk:WN N P n ops Q drest ((d,.int k1 (a.tmod b))::al) w)(hx:ev al x=some (.int k1 a):=by rfl)(hy:ev al y=some (.int k1 b):=by rfl)(hd:Nat.blt d n=true:=by rfl):
  WN N P n ops Q ((0,⟨some d,.binOp .rem t x y yt,ty,pos,aft,none⟩)::drest) al w:=ny_ (λw' _ e i=>Xjg h0 i hx hy (some d) w') hd kk
theorem tmod_is{k:Int}{n:Nat}(hk:0<=k)(hn:0<n): ∃ r:Nat,k.tmod (n:Int)=(r:Int)/\r<n:=by
 refine ⟨(k.tmod (n:Int)).toNat,?_,?_⟩
 ·have:=Int.tmod_nonneg (a:=k) (n:Int) hk;omega
 ·have j:=Int.tmod_nonneg (a:=k) (n:Int) hk;have i:=Int.tmod_lt_of_pos k (show (0:Int)<(n:Int) by omega);omega
set_option linter.constructorNameAsVariable false in
theorem accessSteps_any{B0:Nat}{w:World}{cs:List Value}{c:Cse}{k q:Int}(hTB:TB B0 w)(h:CseV w cs c)(hfit:∀ i,i<c.rss.length->∀ r∈c.rss.getD i [],∀ u∈r,Qwt u)(hk:0<=k/\k<=65535)(hq:0<=q/\q<=65535):
  Ret Tryz.prog 6 [.agg cs.toArray,.int .u16 k,.int .u16 q] w λu w'=>u=.bool true/\Ext w w':=by
 obtain ⟨dA,dc,pA,pc,vA,vc,rA,rc,rfl,hD,hP,hV,hR,hn,hf⟩:=id h;refine Jjc Tryz.func6 Tryz.ntmps6 rfl (by kernel_rfl) rfl ?_;refine ρ ?_;refine bx ?_;intro w1 b a2 hb hB;refine ρ ?_;refine ldW hB ?_;refine ρ ?_;refine cl (built_any (hTB.ext a2) (h.ext a2) hfit) ?_;rintro u w2 ⟨a5,ax⟩;rcases ax with ⟨rfl,b6⟩|⟨ats,x,av,kf,pf,BB,tot,hOk,rfl,hIx,hav⟩
 ·refine ρ ?_;refine alc Qcz ?_;intro w3 b3 ab af ae;refine ρ ?_;refine stW ae ?_;intro w4 a6 au aa;have C:Ext w2 w4:=aa w2 ab af;refine ρ ?_;refine cl (awake41_any (hTB.ext ((a2.trans a5).trans C))) ?_;rintro _ w5 ⟨rfl,G⟩;refine ρ ?_;exact Jjr ⟨rfl,((a2.trans a5).trans C).trans G⟩
 obtain ⟨XA,xd,YB,yd,ZA,zd,UA,ud,tv,b5,b4,rfl,_,_,_,_,_,_,ao,_⟩:=id hIx.ix.ex;obtain ⟨TA,tc,rfl,_⟩:=id ao;obtain ⟨LA,lc,rfl,ba,b9,_⟩:=hav.parts;obtain ⟨L,hL⟩:∃ L,L=c.ans:=⟨_,rfl⟩;have bb:L.length<=5000:=by rw [hL];exact hOk.anl
 rw [<-hL]at hIx hav;rw [show c.ans.length=L.length by rw [hL]];have ay:∀ r∈L,r.length=c.F:=λr hr=>hOk.arow (hL ▸ hr);refine ρ ?_;refine alc Qcz ?_;intro w3 b3 ab af ae;refine ρ ?_;refine stW ae ?_;intro w4 a6 au aa;have C:Ext w2 w4:=aa w2 ab af;have O:=(a2.trans a5).trans C;have Z:=hIx.ext C;have az:=hav.ext C;have a1:=hB.ext (a5.trans C);rcases Nat.eq_zero_or_pos L.length with h0|hpos
 ·have eL:L=[]:=List.eq_nil_of_length_eq_zero h0;subst eL;refine ρ ?_;refine cl (awake41_any (hTB.ext O)) ?_;rintro _ w5 ⟨rfl,G⟩;refine ρ ?_;exact Jjr ⟨rfl,O.trans G⟩
 have bc:c.F<=6:=by have:=hOk.fF.2;have:=hOk.nN.2;omega
 have aw:=hOk.fF.1;have hH:∀ v,hmB (BB v)<=65536:=λv=>hmB_le λb hb=>Z.hb v b hb;refine ρ ?_;refine ci (λh=>?_) (λh=>?_)
 ·exfalso
  have:=Jqn h;omega
 clear h;refine ρ ?_;refine ld (a1.at (i:=1) rfl) ?_;refine ρ ?_;refine Jqb (fun (v:Nat) (D:Nat)=>[(1,.int .u16 k),(2,.int .u16 q),(3,.pointer (some ⟨b,0,none⟩)),(6,.bool false),(7,.pointer (some ⟨b3,0,none⟩)),(8,.slice LA L.length lc),(11,.int .i64 (D:Int)),(38,.int .i64 c.f),(39,.int .i64 (v:Int))])
  (λv D w'=>v<=c.F/\Ext w4 w'/\D=Jcg v λv=>hmB (BB v)) (λv _=>c.F-v) 0 0 sB ⟨Nat.zero_le _,Ext.refl _,rfl⟩ ?_
 rintro v D w5 ⟨hv,G,J⟩;have b8:D<=v*65536:=by rw [J];exact sumR_bd λc _=>hH c
 refine ρ ?_;refine ci (λh=>?_) (λh=>?_)
 ·have lv:v<c.F:=by have:=oT h;omega
  clear h;refine ρ ?_;refine ldW (a6.ext G) ?_;refine ρ ?_;refine cl (height41_any (Z.ix.ext G) lv) ?_;rintro _ w6 ⟨rfl,a4⟩;have bd:=hH v;refine ρ ?_;refine Jjm (v+1) (D+hmB (BB v)) sO ⟨by omega,G.trans a4,?_⟩ (by omega);rw [Jcg,<-J]
 have an:v=c.F:=by have:=oF h;omega
 subst an;clear h;obtain ⟨at_,e1,ad⟩:=tmod_is hk.1 hpos;have ap:=ay (L.getD at_ []) (getD_mem' [] _ ad);have ag:Ext w5 w5.drew:=(Ext.refl w5).drew;refine ρ ?_;refine drN (λ_=>False) 17 [(0,0),(0,1),(0,2),(0,3),(0,4),(0,5),(0,6),(1,7),(1,8),(0,9),(0,10),(0,11),(0,12),(0,13),(0,14),(0,15)] (by kernel_rfl) ?_;refine ρn ?_;refine Jlg (cs:=[.slice XA c.F xd,.slice YB c.F yd,.slice ZA c.F zd,.slice UA c.F ud,.slice TA (Jjf tot).length tc]) (λw' hg j u hu=>(((a6.ext G).ext ag).ext hg.toExt).at hu) ?_;refine ρn ?_;refine nkv 51 (congrArg (λz=>Value.int .i64 z) (Qsm (z:=k) (by omega))) ?_;refine nrem (b:=(L.length:Int)) (by omega) ?_;refine nkv 54 (congrArg (λz=>Value.int .i64 z) e1) ?_;refine ρn ?_;refine nop ?_;refine cl (natOf_wrap (i:=at_) (by omega) _) ?_;rintro o w6 ⟨ho,a4⟩;refine ρ ?_;refine Jqt (GrN.ext a4) ?_;refine ρn ?_;refine nop ?_;have a9:=(G.trans ag).trans a4;refine cl (at_any (Z.ext a9) ho) ?_
 rintro u w7 ⟨ai,h7⟩;unfold AtR at h7;rw [getD_some ad]at h7;obtain ⟨A1,c1,b2,rfl,q1,q2,q3,q4⟩:=h7;refine ρ ?_;refine Jqt (GrN.ext ai) ?_;refine ρn ?_;refine ρ ?_;have U:=a9.trans ai;have ak:RowV w7 (.slice A1 (L.getD at_ []).length c1) (L.getD at_ []):=⟨A1,c1,rfl,q2,by omega,q1⟩;obtain ⟨r,hr⟩:∃ r,r=L.getD at_ []:=⟨_,rfl⟩;rw [<-hr]at ak ap q2;rw [show (L.getD at_ []).length=r.length by rw [hr]];rw [<-J]at q4;refine Go.Wk.kf 67 ?_ ?_
 ·exact dF (by omega)
 refine ρ ?_;refine Go.Wk.kf 72 ?_ ?_
 ·exact dF (by omega)
 refine ρ ?_;refine ld ((a1.ext U).at (i:=1) rfl) ?_;refine ρ ?_;refine ci (λh=>?_) (λh=>?_)
 ·exfalso
  have:=Jwp h;omega
 clear h;have a3:Ext w7 w7.drew:=(Ext.refl w7).drew;obtain ⟨m,e2,b7⟩:=tmod_is (n:=c.F+1) hq.1 (by omega);have ac:=take_rowV (ak.ext a3) (show m<=r.length by omega);refine ρ ?_;refine drN (λ_=>False) 17 [(0,0),(0,1),(0,2),(0,3),(0,4),(0,5),(0,6),(0,7),(0,8),(1,9),(0,10),(0,11),(0,12),(0,13),(0,14),(0,15)] (by kernel_rfl) ?_;refine ρn ?_;refine Jlg (cs:=[.slice XA c.F xd,.slice YB c.F yd,.slice ZA c.F zd,.slice UA c.F ud,.slice TA (Jjf tot).length tc]) (λw' hg j u hu=>(((a6.ext U).ext a3).ext hg.toExt).at hu) ?_;refine ρn ?_;refine nld (Jjg (((a1.ext U).ext a3).at (i:=1) rfl) (λe=>e)) ?_;refine ρn ?_;refine nkv 83 (congrArg (λz=>Value.int .i64 z) (Qsm (z:=q) (by omega))) ?_;refine nrem (b:=c.f+1) (by omega) ?_;refine nkv 87 (congrArg (λz=>Value.int .i64 z) (show q.tmod (c.f+1)=(m:Int) by rw [aw];exact e2)) ?_;refine ρn ?_;refine nslh (A:=A1) (m:=r.length) (c:=c1) m ?_ (by omega);refine ρn ?_
 refine nop ?_;have a7:=U.trans a3;have aj:=Qvv (y:=r.take m) (PA:=A1) (pc:=c1) (Z.ext a7) (by obtain ⟨A',c',e,_,_,h3⟩:=ac.1;injection e with e1 e2 e3;subst e1;exact h3) (NatV.nil _);rw [ac.2.1]at aj;refine cl aj ?_;rintro u w8 ⟨ah,_,h8⟩;have h8:=h8 (by omega);unfold AcR at h8;have aq:∃ z,(wiL L (r.take m))[0]?=some z:=by
  have ar:r∈wiL L (r.take m):=List.mem_filter.2 ⟨hr ▸ getD_mem' [] _ ad,by rw [ac.2.1];simp⟩;exact ⟨_,List.getElem?_eq_getElem (List.length_pos_of_mem ar)⟩
 obtain ⟨z,hz⟩:=aq;rw [hz]at h8;obtain ⟨A3,c3,b1,rfl,p1,p2,p3,p4⟩:=h8;rw [<-J]at p4;refine ρ ?_;refine Jqt (GrN.ext ah) ?_;refine ρn ?_;refine ρ ?_;refine Go.Wk.kt 99 ?_ ?_
 ·exact decide_eq_true (by omega)
 refine ρ ?_;refine Go.Wk.kt 105 ?_ ?_
 ·exact decide_eq_true (by omega)
 refine ρ ?_;have a8:=a7.trans ah;refine cl (awake41_any (hTB.ext (O.trans a8))) ?_;rintro _ w9 ⟨rfl,am⟩;refine ρ ?_;exact Jjr ⟨rfl,(O.trans a8).trans am⟩
end Go.Proofs.YtefpailelagbkaaGreatDoor
namespace Go.Proofs.YtefpailelagbkaaGreatDoor
open Go.RowKit Pl Go.Wk Go.ChangeShapes Go.WideShapes
section
variable {H:Type} {enc:TypeId×Value->H} {w:World} {base b0:Nat} {spare:Nat->Bool} {held:Bool}
end
theorem accessSteps_walk{B0:Nat}{w:World}{v:Value}{k q:Int}(hTB:TB B0 w)(h:CaseE w v)(hk:0<=k/\k<=65535)(hq:0<=q/\q<=65535): Ret Tryz.prog 6 [v,.int .u16 k,.int .u16 q] w λu w'=>u=.bool true/\Ext w w':=by
 obtain ⟨cs,c,rfl,j,i⟩:=h;exact accessSteps_any hTB j i hk hq
end Go.Proofs.YtefpailelagbkaaGreatDoor
