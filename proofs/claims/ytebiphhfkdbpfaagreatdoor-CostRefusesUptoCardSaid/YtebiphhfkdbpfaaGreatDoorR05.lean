/- Part 5. -/
import Derived.Test.YtebiphhfkdbpfaaGreatDoorR04
import Derived.Scope
set_option linter.unusedVariables false
set_option maxRecDepth 100000
set_option maxHeartbeats 40000000
namespace Go.Proofs.YtebiphhfkdbpfaaGreatDoor
open Go.RowKit Pl Go.Wk
attribute [local irreducible] WC WL QX WD WDB WP WN WG WH
variable {c r:Nat}{vb vg vg' vr:Value}
def pvr(t:PT)(r c:Nat): List PR:=dvR (t.rows.getD r []) ((t.rows.getD r []).getD c pr0)
def Uv(t:PT)(r c:Nat): List (List PR):=t.rows.mapIdx λi row=>if i=r then row else Xp row (pvr t r c) (row.getD c pr0)
theorem Yl(t:PT)(r c:Nat): (Uv t r c).length=t.rows.length:=by simp[Uv]
theorem Jlg(t:PT)(hr:r<t.rows.length): (Uv t r c).set r (pvr t r c)=(t.pivot r c).rows:=by
 refine List.ext_getElem? λi=>?_;have e:(t.pivot r c).rows=t.rows.mapIdx λi j=>if i=r then pvr t r c else Xp j (pvr t r c) (j.getD c pr0):=rfl
 rw[e];by_cases h:r=i
 .subst h;rw[List.getElem?_set_self (by rw[Yl];exact hr),List.getElem?_mapIdx,List.getElem?_eq_getElem hr];simp
 rw[List.getElem?_set_ne h,Uv,List.getElem?_mapIdx,List.getElem?_mapIdx];cases t.rows[i]? with
 | none=>rfl
 | some x=>
  have hi:¬ i=r:=λe=>h e.symm;simp[hi]
theorem nzS(l:List Nat)(i x:Nat): (Jh (nz l)).set i (.int .i64 (x:Int))=Jh (nz (l.set i x)):=by simp[Jh,nz,List.map_set]
section
variable {w w':World} {base b:Nat} {vr vg vb:Value} {t:PT}
theorem TbV.rowsT(h:TbV w base b vr vg vb t){rows':List (List PR)}(ho:OX 56 1 MxC (TN b vr vb) w' base vr rows')(hg:w.grownBy w' vr.ownBlock): TbV w' base b vr vg vb ⟨t.n,t.m,rows',t.goal,t.basis⟩:=by
 obtain⟨ps,_,i,_⟩:=id h.rows;refine⟨h.blk.grown hg (λe=>h.ne1 e.symm),ho,h.goal.gr RtC.sta (by decide) (GrN.by hg λk j=>.inr (.inl j)),Qf h.bas (N:=λk=>vr.ownBlock=some k) (GrN.by hg λk j=>j) λg y u=>Jkq h.bas i kr y u⟩
theorem TbV.goalT(h:TbV w base b vr vg vb t){goal':List PR}(hB:Blk w' b 182 [.int .i64 (t.n:Int),.int .i64 (t.m:Int),vr,vg',vb])(hG:GX 3 RtC (TN b vr vb) w' vg' goal')(hg:w.grownBy w' (some b)): TbV w' base b vr vg' vb ⟨t.n,t.m,t.rows,goal',t.basis⟩ :=
 ⟨hB,h.rows.gr MxC.sta (M:=λk=>k=b) (GrN.by hg λk i=>by injection i with i;exact i.symm) λk i=>⟨.inl i,λe=>h.ne1 (by rw[e,i])⟩,hG,Qf h.bas (N:=λk=>k=b) (GrN.by hg λk i=>by injection i with i;exact i.symm) λg u j=>h.ne2 (by rw[u,j])⟩
theorem TbV.basT(h:TbV w base b vr vg vb t){basis':List Nat}(ho:Zr w' base vb basis')(hg:w.grownBy w' vb.ownBlock): TbV w' base b vr vg vb ⟨t.n,t.m,t.rows,t.goal,basis'⟩:=by
 obtain⟨ps,_,j,_⟩:=id h.rows;exact⟨h.blk.grown hg (λe=>h.ne2 e.symm),h.rows.gr MxC.sta (M:=λk=>vb.ownBlock=some k) (GrN.by hg λk i=>i) λk i=>⟨.inr (.inr i),λe=>Jkq h.bas j kr i e⟩,h.goal.gr RtC.sta (by decide) (GrN.by hg λk i=>.inr (.inr i)),ho⟩
end
structure TSl(t:PT): Prop where
 row:∀ l∈t.rows,∀ q∈l,Sl q
 goal:∀ q∈t.goal,Sl q
theorem Qvd{w:World}{base b:Nat}{t:PT}(hT:TbV w base b vr vg vb t)(hp:POk t)(hs:TSl t)(hs':TSl (t.pivot r c))(hr:r<t.m)(hc:c<t.n+t.m+1)(hz:((t.rows.getD r []).getD c pr0).norm.num≠0)(hn:t.n<=100)(hm:t.m<=100)(hbase:base<=w.heap.size):
  Ret Tryz.prog 162 [.pointer (some ⟨b,0,none⟩),.int .i64 (r:Int),.int .i64 (c:Int)] w λu w'=>u=.tuple #[]/\∃ vg',TbV w' base b vr vg' vb (t.pivot r c)/\GrN (TN b vr vb) w w':=by
 have a5:r<t.rows.length:=by rw[hp.rows];exact hr
 have hL:t.rows[r]?=some (t.rows.getD r []):=by rw[List.getElem?_eq_getElem a5];simp[List.getD,List.getElem?_eq_getElem a5]
 obtain⟨av,dt⟩:=hp.row r hr;generalize hrow:t.rows.getD r []=row at *
 have bm:t.right+1=t.n+t.m+2:=rfl;rw[bm]at av;have af:c<row.length:=om
 have e4:t.rows.length<=100:=by rw[hp.rows];exact hm
 have c2:row∈t.rows:=List.mem_of_getElem? hL;have d3:t.rows[r]=row:=by rw[List.getElem?_eq_getElem a5]at hL;injection hL
 refine Jz Tryz.func162 Tryz.ntmps162 rfl kr rfl ?_;obtain⟨R,rc,_,rfl,e3,co,db⟩:=id hT.rows.el;obtain⟨ce,e7,⟨ds,rfl,hG⟩,bs⟩:=db r a5;rw[d3]at hG;obtain⟨A,ac,_,rfl,e8,_,ea,_,e9⟩:=id hG.el;have ai:∀ {w'},Ext w w'->w'.cell? (adr R r)=some (.slice A row.length ac):=λhx=>by
  have:=Xd hx (bs 0 _ rfl);rwa [Nat.mul_one,add_zero]at this
 refine ρ ?_;refine ld (hT.blk.at (i:=2) rfl) ?_;refine ρ ?_;refine ix r co a5 ?_;refine ρ ?_;refine ld (ai (Ext.refl w)) ?_;refine ρ ?_;refine mkRt row.length om ?_;intro w1 O au hO de;have az:∀ {k},(Value.slice O row.length row.length).ownBlock=some k->w.heap.size<=k:=fun {k} h=>by
  cases O with
  | none=>cases h
  | some ad=>injection h with h;subst h;exact de ad rfl
 have ck:=hT.lt;have d9:∀ k,TN b (.slice R t.rows.length rc) vb k->(Value.slice O row.length row.length).ownBlock≠some k:=λk hk e=>by have:=az e;have:=ck k hk;omega
 have hO:=hO (λk=>TN b (.slice R t.rows.length rc) vb k∨(Value.slice O row.length row.length).ownBlock=some k);have dh:∀ k,(TN b (.slice R t.rows.length rc) vb k∨(Value.slice O row.length row.length).ownBlock=some k)->TN b (.slice R t.rows.length rc) vb k∨w.heap.size<=k:=λk hk=>hk.elim .inl λh=>.inr (az h);have dl:=hG.old RtC.sta (by decide) dh;generalize hM:(λk=>TN b (.slice R t.rows.length rc) vb k∨(Value.slice O row.length row.length).ownBlock=some k)=M at *
 have ag:∀ g,(Value.slice O row.length row.length).ownBlock=some g->M g:=λg hg=>by rw[<-hM];exact .inr hg
 have da:=hT.ext au;refine ρ ?_;refine ld (da.blk.at (i:=2) rfl) ?_;refine ρ ?_;refine ix r (co.ext au) a5 ?_;refine ρ ?_;refine ld (ai au) ?_;refine ρ ?_;refine cpX RtC.sta hO (by simp) (dl.ext RtC.sta (by decide) au) om (by decide) (λcs a h=>h) RtC.one ag ?_;intro w2 bt hg2;have bw:Ext w w2:=Js au hg2 λk hk=>az hk;obtain⟨O',oc,_,ev,_,dg,df⟩:=id bt.el;injection ev with ev1 ev2 ev3
 subst ev1;obtain⟨ce,dz,d5,aj⟩:=df c af;obtain⟨C,cc,D,dc,rfl,ca⟩:=d5.sl;have cb:row[c]=row.getD c pr0:=by simp[List.getD,List.getElem?_eq_getElem af]
 rw[cb]at ca aj;have bl:Sl (row.getD c pr0):=by rw[<-cb];exact hs.row row c2 _ (List.getElem_mem _)
 generalize hdd:row.getD c pr0=dv at *
 refine ρ ?_;refine ixq 3 c dg af ?_;refine ρ ?_;refine lds (λj u hu=>aj j u hu) ?_;refine ρ ?_;refine alc Vx ?_;intro w3 b3 cx d7 dn;refine ρ ?_;refine stb (cs':=[.bool dv.neg,.slice C _ cc,.slice D _ dc]) dn ?_ (Jt rfl rfl rfl);intro w4 dm e6 cw;have ah:Ext w2 w4:=cw w2 cx d7;refine ρ ?_;have ba:∀ k,M k->k<w2.heap.size:=λk hk=>by
  rw[<-hM]at hk;rcases hk with hk|hk
  .exact nM (ck k hk) bw.size
  obtain⟨_,_,_,_,h3⟩:=id bt.form;exact(h3 k hk).2
 have ae:(dvR row dv).length=row.length:=by simp[dvR]
 refine Jr (fun (k:Nat)=>[(0,.pointer (some ⟨b,0,none⟩)),(1,.int .i64 (r:Int)),(2,.int .i64 (c:Int)),(6,.slice O row.length row.length),(7,.pointer (some ⟨b3,0,none⟩)),(33,.int .i64 (row.length:Int)),(34,.int .i64 (k:Int))])
  (λk w'=>k<=row.length/\Ext w w'/\Blk w' b3 58 [.bool dv.neg,.slice C (Jj dv.num).length cc,.slice D (Jj dv.den).length dc]/\OX 58 3 RtC M w' w.heap.size (.slice O row.length row.length) (mix (dvR row dv) row k)/\RtX M w' (.agg #[.bool dv.neg,.slice C (Jj dv.num).length cc,.slice D (Jj dv.den).length dc]) dv/\w2.heap.size<=w'.heap.size) (λk=>row.length-k) 0 sB ⟨Nat.zero_le _,bw.trans ah,dm,by rw[Kl];exact bt.ext RtC.sta ah,ca.ext ah,ah.size⟩ ?_
 rintro k w5 ⟨hk,ar,b1,a9,ax,am⟩;have bo:(mix (dvR row dv) row k).length=row.length:=Uf ae hk;refine ρ ?_;refine ci (λh=>?_) (λh=>?_)
 .have y:k<row.length:=by have:=oT h;omega
  clear h;obtain⟨O2,_,_,ev,_,b5,c9⟩:=id a9.el;rw[bo]at ev b5;injection ev with ev1 ev2 ev3
  subst ev1;obtain⟨ce,e0,be,bf⟩:=c9 k om;have ab:row[k]?=some row[k]:=gE y;have e2:(mix (dvR row dv) row k)[k]'(by omega)=row[k]:=by
   have:=Jwb ae y;rw[List.getElem?_eq_getElem om,ab]at this;injection this
  rw[e2]at be;obtain⟨E2,y1,F2,y2,rfl,c1⟩:=be.sl;have b4:=hs.row row c2 row[k] (List.getElem_mem _);have b2:(dvR row dv)[k]?=some (if row[k].sign≠0 then PR.div row[k] dv else row[k]):=by simp[dvR,ab]
  refine ρ ?_;refine ixq 3 k b5 y ?_;refine ρ ?_;refine lds (λj u hu=>bf j u hu) ?_;refine ρ ?_;refine cl (Uz c1 b4.len) ?_;rintro _ w6 ⟨rfl,ak⟩;refine ρ ?_;refine ci (λh=>?_) (λh=>?_)
  .have bj:row[k].sign≠0:=λe=>by rw[e]at h;simp at h
   rw[if_pos bj]at b2;have a8:Ext w6 w6.drew:=(Ext.refl w6).drew;have a4:=ak.trans a8;refine ρ ?_;refine drH (λi=>i == 12) ?_;refine Ve (fuel':=2) 14 [(0,0),(0,1),(0,2),(0,3),(0,4),(0,5),(0,6),(1,7),(0,8),(0,9),(0,11)] #[true,true,true,true,true,true,true,true,true,true,false,true,false] kr kr rfl ?_;refine ρd ?_;refine Xx 3 k (b5.ext a4) y ?_;refine ρd ?_;refine Qb (λj u hu=>Xd a4 (bf j u hu)) ?_;refine ρd ?_;refine Qb (cs:=[.bool dv.neg,.slice C _ cc,.slice D _ dc]) (λj u hu=>(b1.ext a4).at hu) ?_;refine ρd ?_;have f1:=b4.n;have f2:=b4.d;have f3:=bl.n;have f4:=bl.d;have f5:row[k].den*dv.num<=120*720:=Nat.mul_le_mul f2 f3;refine dcl (Jlf (c1.ext a4) (ax.ext a4) hz b4.d0 bl.d0 om om om om om) ?_;rintro _ w7 ⟨⟨x7,rfl,d8⟩,a3⟩;refine⟨a3,?_⟩;have J:=a4.trans a3;obtain⟨G1,g1,G2,g2,rfl,cg⟩:=d8.cell;refine ρd ?_
   refine Xx 3 k (b5.ext J) y ?_;refine ρd ?_;refine Ze ?_;refine Jxk 10 12 kr rfl rfl rfl ?_ ?_
   .refine ρ ?_;refine Qn (λ_=>Ext.refl _) ?_;refine Zl 12 kr rfl rfl ?_;refine stX RtC.sta (a9.ext RtC.sta J) bo.symm (show k<_ by omega) (cs:=[.bool (PR.div row[k] dv).neg,.slice G1 _ g1,.slice G2 _ g2]) (a:=PR.div row[k] dv) (RtC.sta.old cg λj hj=>.inl (nM (ba j hj) (nL am a4.size))) ag (Jt rfl rfl rfl) ?_;intro w8 aa a1;rw[Ud ae y b2]at aa;have aw:GrN M w7 w8:=GrN.by a1 ag
    refine ρ ?_;refine Qn (λh=>absurd h (by decide)) ?_;refine Zk kr ?_;refine ρ ?_;refine Jm (k+1) sO ⟨om,Js (ar.trans J) a1 (λg hg=>az hg),(b1.ext J).grown a1 ?_,aa,(ax.ext J).gr aw,Nat.le_trans am (nL J.size a1.size)⟩ om;intro e;have h1:=ba b3 (ag b3 e.symm);omega
   refine ρ ?_;refine stX RtC.sta (a9.ext RtC.sta J) bo.symm (show k<_ by omega) (cs:=[.bool (PR.div row[k] dv).neg,.slice G1 _ g1,.slice G2 _ g2]) (a:=PR.div row[k] dv) (RtC.sta.old cg λj hj=>.inl (nM (ba j hj) (nL am a4.size))) ag (Jt rfl rfl rfl) ?_;intro w8 aa a1;rw[Ud ae y b2]at aa;have aw:GrN M w7 w8:=GrN.by a1 ag
   refine ρ ?_;refine Qn (λh=>absurd h (by decide)) ?_;refine Zl 10 kr rfl rfl ?_;refine ρ ?_;refine Qn (λ_=>Ext.refl _) ?_;refine Zk kr ?_;refine ρ ?_;refine Jm (k+1) sO ⟨om,Js (ar.trans J) a1 (λg hg=>az hg),(b1.ext J).grown a1 ?_,aa,(ax.ext J).gr aw,Nat.le_trans am (nL J.size a1.size)⟩ om;intro e;have h1:=ba b3 (ag b3 e.symm);omega
  have bj:row[k].sign=0:=by simpa using h
  have dq:(dvR row dv)[k]?=row[k]?:=by rw[b2,ab,if_neg (by simp[bj])]
  rw[Jbr ae y dq]at a9;refine ρ ?_;exact Jm (k+1) sO ⟨om,ar.trans ak,b1.ext ak,a9.ext RtC.sta ak,ax.ext ak,Nat.le_trans am ak.size⟩ om
 have bq:k=row.length:=by have:=oF h;omega
 clear h hk;subst bq;rw[Jxh ae]at a9;have c4:dvR row dv=pvr t r c:=by unfold pvr;rw[hrow,hdd]
 have c5:(pvr t r c).length=row.length:=by rw[<-c4];exact ae
 rw[c4]at a9;have cm:=hT.ext ar;have d4:GX 3 RtC (TN b (.slice R t.rows.length rc) vb) w5 (.slice O row.length row.length) (pvr t r c):=a9.gx RtC.sta om λk hk=>⟨by rw[<-hM];exact .inl hk,d9 k hk⟩;clear a9 ax b1 am;refine ρ ?_;refine ld (cm.blk.at (i:=2) rfl) ?_;have cz:pvr t r c∈(t.pivot r c).rows:=by rw[<-Jlg t a5];exact List.mem_set (by rw[Yl];exact a5) _
 have bz:∀ q∈pvr t r c,Sl q:=hs'.row _ cz;have Z:∀ i (hi:i<t.rows.length),t.rows[i].length=row.length:=λi hi=>by
  have:=(hp.row i (by rw[<-hp.rows];exact hi)).1;rw[List.getD,List.getElem?_eq_getElem hi,bm]at this;rw[av];exact this
 refine ρ ?_;refine Jr (fun (k:Nat)=>[(0,.pointer (some ⟨b,0,none⟩)),(1,.int .i64 (r:Int)),(2,.int .i64 (c:Int)),(6,.slice O row.length row.length),(60,.int .i64 (t.rows.length:Int)),(61,.int .i64 (k:Int))])
  (λk w'=>k<=t.rows.length/\TbV w' base b (.slice R t.rows.length rc) vg vb ⟨t.n,t.m,mix (Uv t r c) t.rows k,t.goal,t.basis⟩/\GX 3 RtC (TN b (.slice R t.rows.length rc) vb) w' (.slice O row.length row.length) (pvr t r c)/\GrN (TN b (.slice R t.rows.length rc) vb) w w') (λk=>t.rows.length-k) 0 sB
  ⟨Nat.zero_le _,by rw[Kl];exact cm,d4,GrN.ext ar⟩ ?_
 rintro k w6 ⟨hk,ap,b9,hg6⟩;have bn:(mix (Uv t r c) t.rows k).length=t.rows.length:=Uf (Yl t r c) hk;refine ρ ?_;refine ci (λh=>?_) (λh=>?_)
 .have y:k<t.rows.length:=by have:=oT h;omega
  clear h;have ab:t.rows[k]?=some t.rows[k]:=gE y;have b6:(Uv t r c)[k]?=some (if k=r then t.rows[k] else Xp t.rows[k] (pvr t r c) (t.rows[k].getD c pr0)):=by simp[Uv,ab]
  refine ρ ?_;refine ci (λh=>?_) (λh=>?_)
  .have bp:k≠r:=λe=>by subst e;simp at h
   rw[if_neg bp]at b6;have a8:Ext w6 w6.drew:=(Ext.refl w6).drew;have a2:=ap.ext a8;have aq:=b9.ext RtC.sta (by decide) a8;obtain⟨R',cu,_,ev,_,a6,bi⟩:=id a2.rows.el;simp only[bn]at ev a6 bi;injection ev with ev1 ev2 ev3
   subst ev1;obtain⟨ce,dx,⟨vk,rfl,bu⟩,d6⟩:=bi k y;have e2:(mix (Uv t r c) t.rows k)[k]'(by omega)=t.rows[k]:=by
    have:=Jwb (Yl t r c) y;rw[List.getElem?_eq_getElem om,ab]at this;injection this
   rw[e2]at bu;obtain⟨K,kc,_,ek,e5,_,cq,_,di⟩:=id bu.el;rw[Z k y]at ek cq;subst ek;obtain⟨ce,dw,bd,b8⟩:=di c (by rw[Z k y];exact af);have bc:t.rows[k][c]'(by rw[Z k y];exact af)=t.rows[k].getD c pr0:=by simp[List.getD,List.getElem?_eq_getElem (show c<t.rows[k].length by rw[Z k y];exact af)]
   rw[bc]at bd;have c0:Sl (t.rows[k].getD c pr0):=by rw[<-bc];exact hs.row _ (List.getElem_mem _) _ (List.getElem_mem _)
   obtain⟨E1,x1,E2,x2,rfl,d1⟩:=bd.sl;have bg:w6.drew.cell? (adr R k)=some (.slice K row.length kc):=by
    have:=d6 0 _ rfl;rwa [Nat.mul_one,add_zero]at this
   refine ρ ?_;refine dr [(0,0),(0,1),(0,2),(0,3),(0,4),(0,5),(0,6),(0,7),(0,8),(0,9),(0,10),(0,11),(0,12),(0,13),(0,14),(0,15),(0,16),(0,17),(0,18),(0,19),(0,20),(0,21),(0,22),(1,23),(0,24),(2,25)] kr ?_;refine ρd ?_;refine dld (a2.blk.at (i:=2) rfl) ?_;refine ρd ?_;refine dld (a2.blk.at (i:=2) rfl) ?_;refine ρd ?_;refine dix k a6 y ?_;refine ρd ?_;refine dld bg ?_;refine ρd ?_;refine dld (a2.blk.at (i:=2) rfl) ?_;refine ρd ?_;refine dix k a6 y ?_;refine ρd ?_;refine dld bg ?_;refine ρd ?_;refine Xx 3 c cq af ?_;refine ρd ?_;refine Qb (λj u hu=>b8 j u hu) ?_;refine ρd ?_;refine dcl (Jsj bu aq d1 a2.lt (by rw[c5,Z k y]) (by rw[Z k y];omega) (by rw[Z k y];omega) (hs.row _ (List.getElem_mem _)) bz c0) ?_;rintro u w7 ⟨hU,a3⟩;refine⟨a3,?_⟩;have ao:=a2.ext a3;obtain⟨U,uc,_,rfl,_,_,_,_,_⟩:=id hU.el;refine ρd ?_;refine dix k (a6.ext a3) y ?_;refine ρd ?_;refine Jy ?_
   refine stX1 MxC.sta ao.rows bn.symm (show k<_ by rw[bn];exact y) (u:=.slice U _ uc) (a:=Xp t.rows[k] (pvr t r c) (t.rows[k].getD c pr0)) ⟨_,rfl,hU⟩ (λg hg=>.inr (.inl hg)) rfl ?_;intro w8 aa a1;rw[Ud (Yl t r c) y b6]at aa;have an:=ao.rowsT aa a1;have a7:GrN (TN b (.slice R t.rows.length rc) vb) w7 w8:=GrN.by a1 λk hk=>.inr (.inl hk)
   refine ρ ?_;exact Jm (k+1) sO ⟨om,an,(aq.ext RtC.sta (by decide) a3).gr RtC.sta (by decide) a7,(hg6.trans (GrN.ext (a8.trans a3))).trans a7⟩ om
  have bp:k=r:=by
   have:((k:Int) == (r:Int))=true:=by simpa using h
   have:=eq_of_beq this;omega
  rw[if_pos bp]at b6;rw[Jbr (Yl t r c) y (by rw[b6,ab])]at ap;refine ρ ?_;exact Jm (k+1) sO ⟨om,ap,b9,hg6⟩ om
 have bq:k=t.rows.length:=by have:=oF h;omega
 clear h hk;subst bq;rw[Jxh (Yl t r c)]at ap;have a8:Ext w6 w6.drew:=(Ext.refl w6).drew;have a2:=ap.ext a8;have aq:=b9.ext RtC.sta (by decide) a8;have b7:=hp.goal.1;rw[bm]at b7;obtain⟨G,gc,_,rfl,_,_,dk,_,dj⟩:=id a2.goal.el;have br:c<t.goal.length:=om
 obtain⟨ce,du,bh,cd⟩:=dj c br;have bb:t.goal[c]=t.goal.getD c pr0:=by simp[List.getD,List.getElem?_eq_getElem br]
 simp only[bb]at bh;have cy:Sl (t.goal.getD c pr0):=by rw[<-bb];exact hs.goal _ (List.getElem_mem _)
 obtain⟨E1,x1,E2,x2,rfl,d2⟩:=bh.sl;refine ρ ?_;refine drC 18 [0,1,5,6,10] [(0,2),(0,3),(0,4),(0,7),(0,8),(0,9),(0,11),(0,12),(1,13),(0,14),(0,15),(2,16)] kr ?_;refine ρp ?_;refine ρd ?_;refine dld (a2.blk.at (i:=3) rfl) ?_;refine ρd ?_;refine dld (a2.blk.at (i:=3) rfl) ?_;refine ρd ?_;refine Xx 3 c dk br ?_;refine ρd ?_;refine Qb (λj u hu=>cd j u hu) ?_;refine ρd ?_;refine dcl (Jsj a2.goal aq d2 a2.lt (by rw[c5,b7,av]) (by rw[b7];omega) (by rw[b7];omega) hs.goal bz cy) ?_;rintro u w7 ⟨hU,a3⟩;refine⟨a3,?_⟩;have ao:=a2.ext a3;obtain⟨U,uc,_,rfl,_,_,_,_,_⟩:=id hU.el;refine ρd ?_;refine Jy ?_;refine stF (i:=3) ao.blk rfl ?_;intro w8 cr a1;have a7:GrN (TN b (.slice R t.rows.length rc) vb) w7 w8:=GrN.by a1 λk hk=>by injection hk with hk;exact .inl hk.symm
 have an:=ao.goalT (vg':=.slice U _ uc) (goal':=Xp t.goal (pvr t r c) (t.goal.getD c pr0)) cr (hU.gr RtC.sta (by decide) a7) a1;have dd:=(aq.ext RtC.sta (by decide) a3).gr RtC.sta (by decide) a7;have c8:=(hg6.trans (GrN.ext (a8.trans a3))).trans a7;clear ao a2 ap aq b9 cr;obtain⟨R',cu,_,ev,_,a6,_⟩:=id an.rows.el;simp only[Yl]at ev a6;injection ev with ev1 ev2 ev3
 subst ev1;refine ρ ?_;refine ld (an.blk.at (i:=2) rfl) ?_;refine ρ ?_;refine ix r a6 a5 ?_;refine ρ ?_;refine stX1 MxC.sta an.rows (Yl t r c).symm (show r<_ by rw[Yl];exact a5) (u:=.slice O row.length row.length) (a:=pvr t r c) ⟨_,rfl,dd⟩ (λg hg=>.inr (.inl hg)) rfl ?_;intro w9 cp c7;rw[Jlg t a5]at cp;have ay:=an.rowsT cp c7;have c6:=c8.trans (GrN.by c7 λk hk=>.inr (.inl hk));obtain⟨S,sc,eS,e1,_⟩:=Jd ay.bas;subst eS;have ch:r<t.basis.length:=by rw[hp.basis];exact hr
 refine ρ ?_;refine ld (ay.blk.at (i:=4) rfl) ?_;refine ρ ?_;refine ix r (Rd.own ay.bas) ch ?_;refine ρ ?_;obtain⟨s1,s2,s3,s4,s5⟩:=Zy ay.bas (q:=r) (show r<t.basis.length*1 by omega) (.int .i64 (c:Int));refine sto (s1.trans (Xb ch)) s2 ?_;have cj:Zr (w9.setCell (adr S r) (.int .i64 (c:Int))) base (.slice S t.basis.length sc) (t.basis.set r c):=by
  rw[Zr,<-nzS,List.length_set];exact s3
 have cn:=ay.basT cj s5;refine ρ ?_;exact Vy ⟨rfl,_,cn,c6.trans (GrN.by s5 λk hk=>.inr (.inr hk))⟩
open Go.RowKit Pl Go.Wk
variable {cs:List Value}{b base c k n:Nat}{N:Nat->Prop}{p q qc qr:PR}{t:PT}{v vb vg vr:Value}{w:World}
def Vu: Option (Nat×PR)->Int
 | none=>-1
 | some p=>(p.1:Int)
theorem div_le'(hp:p.den≠0)(hq:q.den≠0)(h0:q.norm.num≠0): (PR.div p q).num<=p.num*q.den/\(PR.div p q).den<=p.den*q.num/\(PR.div p q).den≠0:=by
 unfold PR.div;rw[if_neg h0];obtain⟨j,i⟩:=mul_le' (p:=p) (q:=⟨q.norm.neg,q.norm.den,q.norm.num⟩) hp h0;exact⟨nL j (Nat.mul_le_mul_left _ (Vt hq)),Nat.le_trans i (Nat.mul_le_mul_left _ (Gh q)),(PR.mul_val (a:=p) (b:=⟨q.norm.neg,q.norm.den,q.norm.num⟩) hp h0).2⟩
def lvT(t:PT)(k:Nat)(q:PR): Option (Nat×PR)->Bool
 | none=>true
 | some p=>decide (PR.cmp q p.2<0∨(PR.cmp q p.2=0/\t.basis.getD k 0<t.basis.getD p.1 0))
theorem Qcn(hc:(t.rows.getD k []).getD c pr0=qc)(hr:(t.rows.getD k []).getD t.right pr0=qr)(hs:¬ qc.sign<=0): lvS t c (k+1)=if lvT t k (PR.div qr qc) (lvS t c k)=true then some (k,PR.div qr qc) else lvS t c k:=by
 conv=>lhs;unfold lvS
 simp only[hc,hr];rw[if_neg hs];cases lvS t c k with
 | none=>simp[lvT]
 | some p=>
  simp only[lvT,decide_eq_true_eq]
theorem Qzk(h:0<q.sign): q.num≠0:=λe=>by unfold PR.sign at h;rw[if_pos e]at h;omega
theorem Jmj(h:q.num≠0): q.norm.num≠0:=by
 unfold PR.norm;split
 .exact h
 have i:=Nat.gcd_dvd_left q.num q.den;obtain⟨k,j⟩:=i;show q.num / Nat.gcd q.num q.den≠0;have u:0<Nat.gcd q.num q.den:=Nat.gcd_pos_of_pos_left _ om;intro e;have y:=Nat.div_eq_zero_iff.1 e;have:=Nat.le_of_dvd om (Nat.gcd_dvd_left q.num q.den);omega
theorem NatX.box{t:Nat}(h:NatX N w v n)(hB:Blk w b t cs)(hc:∀ u∈cs,∀ z,u≠.int .u32 z): NatX (λk=>N k∨k=b) w v n:=by
 refine⟨h.1,λh0 y m c e i=>?_⟩;rcases i with i|i
 .exact h.2 h0 y m c e i
 obtain⟨A,U,j,_,_,J⟩:=h.1;rw[e]at j;injection j with j _ _
 subst j;have G:=J.cell (Qk (limbs_pos' h0));have O:adr (some y) 0=y:=by rw[adr,add_zero];rfl
 rw[O]at G;obtain⟨Z,off,D⟩:=y;simp only at i;subst i;unfold Blk at hB;simp[World.cell?,hB]at G;grind
theorem RtX.bx{t:Nat}(h:RtX N w v q)(hB:Blk w b t cs)(hc:∀ u∈cs,∀ z,u≠.int .u32 z): RtX (λk=>N k∨k=b) w v q:=by
 obtain⟨x,y,e,j,i⟩:=h;exact⟨x,y,e,j.box hB hc,i.box hB hc⟩
theorem no32{b:Bool}{A B:Option Addr}{m m' c':Nat}: ∀ u∈[Value.bool b,.slice A m c,.slice B m' c'],∀ z,u≠.int .u32 z:=λu i z e=>by
 simp only[List.mem_cons,List.not_mem_nil,or_false]at i;rcases i with rfl|rfl|rfl<;>cases e
def SF.dv(N:Nat->Prop)(q:PR): SF:=⟨λv w=>∃ x,v=.tuple #[x,.int .i64 0]/\RtX N w x q,λ⟨x,e,h⟩ hx=>⟨x,e,h.ext hx⟩⟩
def SF.rb(s:Nat): SF:=⟨λv w=>∃ b,v=.pointer (some ⟨b,0,none⟩)/\s<=b/\Blk w b 58 [.bool false,.slice none 0 0,.slice none 0 0],λ⟨b,e,h,hb⟩ hx=>⟨b,e,h,hb.ext hx⟩⟩
theorem Qdc(hT:TbV w base b vr vg vb t)(hp:POk t)(hs:TSl t)(hc:c<t.n+t.m)(hn:t.n<=100)(hm:t.m<=100):
  Ret Tryz.prog 165 [.pointer (some ⟨b,0,none⟩),.int .i64 (c:Int)] w λu w'=>u=.int .i64 (Vu (lvS t c t.m))/\Ext w w':=by
 have cq:=hT.lt;have cj:t.rows.length=t.m:=hp.rows;have G:∀ i (hi:i<t.rows.length),t.rows[i].length=t.n+t.m+2:=λi hi=>by
  have:=(hp.row i (by rw[<-hp.rows];exact hi)).1;rwa [List.getD,List.getElem?_eq_getElem hi]at this
 refine Jz Tryz.func165 Tryz.ntmps165 rfl kr rfl ?_;obtain⟨R,rc,_,rfl,ch,ca,c8⟩:=id hT.rows.el;refine ρ ?_;refine alc Vx ?_;intro w1 b6 az c1 bo;have c7:=hT.ext az;refine ρ ?_;refine ld (c7.blk.at (i:=2) rfl) ?_;refine ρ ?_;refine Qj (fun (k:Nat) (ls:List Value)=>[(0,.pointer (some ⟨b,0,none⟩)),(1,.int .i64 (c:Int)),(5,.int .i64 (Vu (lvS t c k))),(6,.pointer (some ⟨b6,0,none⟩)),(15,.slice R t.rows.length rc),(16,.int .i64 (t.rows.length:Int)),(17,.int .i64 (k:Int))])
  (λk ls w'=>k<=t.m/\Ext w w'/\w1.heap.size<=w'.heap.size/\Blk w' b6 58 ls/\ls.length=3/\(∀ u∈ls,u.oneCell'=true)/\∀ p,lvS t c k=some p->RtC (Ol w1) w' ls p.2/\p.2.num<=86400/\p.2.den<=86400/\p.1<t.m) (λk _=>t.m-k) 0 [.bool false,.slice none 0 0,.slice none 0 0] sB ⟨Nat.zero_le _,az,Nat.le_refl _,bo,rfl,Jt rfl rfl rfl,λp h=>by cases h⟩ ?_
 rintro k ls w2 ⟨hk,a9,ai,av,ay,b5,hI⟩;have l6:=bo.lt;refine ρ ?_;refine ci (λh=>?_) (λh=>?_)
 .have a2:k<t.rows.length:=by have:=oT h;omega
  clear h;have b4:k<t.m:=om
  have bi:=ca.ext a9;obtain⟨ce,cn,⟨vk,rfl,cd⟩,bz⟩:=c8 k a2;obtain⟨K,kc,_,rfl,cm,_,cc,_,bj⟩:=id cd.el;rw[G k a2]at *;have bc:w2.cell? (adr R k)=some (.slice K (t.n+t.m+2) kc):=by
   have:=Xd a9 (bz 0 _ rfl);rwa [Nat.mul_one,add_zero]at this
  have ar:=cc.ext a9;obtain⟨ce,_,b8,bb⟩:=bj c (by rw[G k a2];omega);obtain⟨cr,_,b2,bt⟩:=bj (t.n+t.m+1) (by rw[G k a2];omega);have ec:t.rows[k][c]'(by rw[G k a2];omega)=(t.rows.getD k []).getD c pr0:=by simp[List.getD,List.getElem?_eq_getElem a2,List.getElem?_eq_getElem (show c<t.rows[k].length by rw[G k a2];omega)]
  have er:t.rows[k][t.n+t.m+1]'(by rw[G k a2];omega)=(t.rows.getD k []).getD t.right pr0:=by simp[PT.right,List.getD,List.getElem?_eq_getElem a2,List.getElem?_eq_getElem (show t.n+t.m+1<t.rows[k].length by rw[G k a2];omega)]
  have ad:Sl ((t.rows.getD k []).getD c pr0):=by rw[<-ec];exact hs.row _ (List.getElem_mem _) _ (List.getElem_mem _)
  have ah:Sl ((t.rows.getD k []).getD t.right pr0):=by rw[<-er];exact hs.row _ (List.getElem_mem _) _ (List.getElem_mem _)
  rw[ec]at b8;rw[er]at b2;generalize hqc:(t.rows.getD k []).getD c pr0=qc at *
  generalize hqr:(t.rows.getD k []).getD t.right pr0=qr at *
  obtain⟨E1,x1,E2,x2,rfl,bd⟩:=b8.sl;obtain⟨F1,y1,F2,y2,rfl,bu⟩:=b2.sl;refine ρ ?_;refine ix k bi a2 ?_;refine ρ ?_;refine ld bc ?_;refine ρ ?_;refine ixq 3 c ar om ?_;refine ρ ?_;refine lds (λj u hu=>Xd a9 (bb j u hu)) ?_;refine ρ ?_;refine cl (Uz (bd.ext a9) ad.len) ?_;rintro _ w3 ⟨rfl,a1⟩;have ao:=a9.trans a1;refine ρ ?_;refine ci (λh=>?_) (λh=>?_)
  .have aw:qc.sign<=0:=oT h;have e:lvS t c (k+1)=lvS t c k:=by
    conv=>lhs;unfold lvS
    simp only[hqc];rw[if_pos aw]
   refine ρ ?_;refine Ja (k+1) ls (by rw[e];exact sO) ⟨om,ao,Nat.le_trans ai a1.size,av.ext a1,ay,b5,λp a3=>?_⟩ om;rw[e]at a3;obtain⟨h1,h2⟩:=hI p a3;exact⟨RtC.sta.gr h1 (GrN.ext a1),h2⟩
  have aw:¬ qc.sign<=0:=oF h;have a5:Ext w3 w3.drew:=(Ext.refl w3).drew;have a4:=ao.trans a5;have aq:=ar.ext (a1.trans a5);have b3:qc.norm.num≠0:=Jmj (Qzk om);have f1:=ah.n;have f2:=ah.d;have f3:=ad.n;have f4:=ad.d;have f5:qr.den*qc.num<=120*720:=Nat.mul_le_mul f2 f3;have f6:qr.num*qc.den<=720*120:=Nat.mul_le_mul f1 f4;obtain⟨g1,g2,g3⟩:=div_le' ah.d0 ad.d0 b3;have c6:=hT.ext a4;have ax:w1.heap.size<=w3.drew.heap.size:=nL ai (a1.trans a5).size;refine ρ ?_;refine drH (λi=>i == 14 || i == 15) ?_;refine Ve (fuel':=10) 17 [(0,0),(0,1),(0,5),(0,6),(0,7),(0,8)] #[true,true,false,false,false,true,true,true,true,false,false,false,false,false,false,false] kr kr rfl ?_;refine ρd ?_;refine Xx 3 c aq om ?_;refine ρd ?_;refine Qb (λj u hu=>Xd a4 (bb j u hu)) ?_;refine ρd ?_;refine Ze ?_;refine hcut 1 (lst 16 15) (fun (y:Nat×List Value)=>[(40,.int .i64 0),(9,.pointer (some ⟨y.1,0,none⟩)),(0,.pointer (some ⟨b,0,none⟩)),(1,.int .i64 (c:Int)),(5,.int .i64 (Vu (lvS t c k))),(6,.pointer (some ⟨b6,0,none⟩)),(7,.int .i64 (k:Int)),(15,.slice R t.rows.length rc),(16,.int .i64 (t.rows.length:Int)),(17,.int .i64 (k:Int))])
   (λy W=>Ext w3.drew W/\w3.drew.heap.size<=y.1/\Blk W y.1 58 y.2/\y.2.length=3/\RtC (λk=>Ol w1 k∨k=y.1) W y.2 (PR.div qr qc)) ?_ ?_
  rotate_left
  .intro rest;have bp:∀ {v4:World} {x:Value} {b9:Nat},Ext w3.drew v4->RtX (Ol w1) v4 x (PR.div qr qc)->w3.drew.heap.size<=b9->Blk v4 b9 58 [.bool false,.slice none 0 0,.slice none 0 0]->∃ cs:List Value,x=.agg cs.toArray/\cs.length=3/\(∀ u∈cs,u.oneCell'=true)/\∀ {v5:World},Blk v5 b9 58 cs->v4.grownBy v5 (some b9)->RtC (λk=>Ol w1 k∨k=b9) v5 cs (PR.div qr qc):=fun {v4 x b9} hx hX hb hB=>by
    obtain⟨A',c',B',d',rfl,c4,c2⟩:=(hX.bx hB no32).sl;refine⟨_,rfl,rfl,Jt rfl rfl rfl,fun {v5} hB5 hg=>?_⟩;have b7:GrN (λk=>Ol w1 k∨k=b9) v4 v5:=GrN.by hg λk ek=>by injection ek with ek;exact .inr ek.symm
    exact⟨_,_,rfl,c4.gr b7,c2.gr b7⟩
   refine Jpc 17 12 2 _ #[true,true,true,true,true,true,true,true,true,true,true,true,true,true,false,false] [2,3,4,9,10,11,12,13] [31,32,33,38,28,39,40,9] [SF.eq (.int .i64 ((t.n+t.m+1:Nat):Int)),SF.eq (.pointer (some (adr K ((t.n+t.m+1)*3)))),SF.eq (.agg #[.bool qr.neg,.slice F1 (Jj qr.num).length y1,.slice F2 (Jj qr.den).length y2]),SF.dv (Ol w1) (PR.div qr qc),SF.dv (Ol w1) (PR.div qr qc),SF.rx (Ol w1) (PR.div qr qc),SF.eq (.int .i64 0),SF.rb w3.drew.heap.size] kr (by rfl) ?_ ?_ ?_
   .refine gsc (λvs v1 D hd=>?_) ?_
    .simp only[slM];refine cl (Kk (c6.ext D).blk rfl rfl om om) ?_;rintro _ v2 ⟨rfl,U⟩;exact Jp (Xq U rfl)
    refine gsc (λvs v1 D hd=>?_) ?_
    .have e0:vs 0=_:=hd 0;simp only[slM,e0];refine ixq 3 (t.n+t.m+1) (aq.ext D) om ?_;exact Jp (Xq (Ext.refl _) rfl)
    refine gsc (λvs v1 D hd=>?_) ?_
    .have e0:vs 1=_:=hd 1;simp only[slM,e0];refine lds (λj u hu=>Xd (a4.trans D) (bt j u hu)) ?_;exact Jp (Xq (Ext.refl _) rfl)
    refine gsc (λvs v1 D hd=>?_) ?_
    .have e0:vs 2=_:=hd 2;simp only[slM,e0];refine cl (Jlf (bu.ext (a4.trans D)) (bd.ext (a4.trans D)) b3 ah.d0 ad.d0 om om om om om) ?_;rintro _ v2 ⟨⟨x,rfl,hX⟩,U⟩;exact Jp (Xq U ⟨x,rfl,hX.old λj hj=>.inl (nM hj (nL ax D.size))⟩)
    refine gsc (λvs v1 D hd=>?_) ?_
    .obtain⟨x,e0,hX⟩:=hd 3;simp only[slM,e0];refine ρ ?_;exact Xq (Ext.refl _) ⟨x,rfl,hX⟩
    refine gsc (λvs v1 D hd=>?_) ?_
    .obtain⟨x,e0,hX⟩:=hd 4;simp only[slM,e0];refine ρ ?_;exact Xq (Ext.refl _) hX
    refine gsc (λvs v1 D hd=>?_) ?_
    .obtain⟨x,e0,hX⟩:=hd 4;simp only[slM,e0];refine ρ ?_;exact Xq (Ext.refl _) rfl
    refine gsc (λvs v1 D hd=>?_) gse
    simp only[slM];refine alc Vx ?_;intro v2 b9 U J O;exact Jp (Xq U ⟨b9,rfl,Nat.le_trans D.size J,O⟩)
   .intro vs v1 D hd;obtain⟨b9,e7,J,O⟩:=hd 7;have hX:RtX (Ol w1) v1 (vs 5) (PR.div qr qc):=hd 5;have e6:vs 6=_:=hd 6;obtain⟨cs,e5,hl,h1,ab⟩:=bp D hX J O;simp only[slM,e7,e5,e6];refine Zl 14 kr rfl rfl ?_;refine stb O ?_ h1 (by simp[hl]) rfl rfl (by rw[hl]);intro v2 a8 hg2 U;refine Jp (Qn (λh=>by cases h) ?_);refine Um (listed':=lst 16 15) kr ?_;exact rest (b9,cs) _ _ ⟨U _ D J,J,a8,hl,ab a8 hg2⟩ sB
   intro _ vs v1 D hd;obtain⟨b9,e7,J,O⟩:=hd 7;have hX:RtX (Ol w1) v1 (vs 5) (PR.div qr qc):=hd 5;obtain⟨x4,e4,cp⟩:=hd 4;obtain⟨cs,e5,hl,h1,ab⟩:=bp D hX J O;simp only[slM,e7,e5,e4];refine Jxk 12 14 kr rfl rfl rfl ?_ ?_
   .refine ρ ?_;refine Qn (λ_=>Ext.refl _) ?_;refine Zl 14 kr rfl rfl ?_;refine stb O ?_ h1 (by simp[hl]) rfl rfl (by rw[hl]);intro v2 a8 hg2 U;refine Jp (Qn (λh=>by cases h) ?_);refine Um (listed':=lst 16 15) kr ?_;exact rest (b9,cs) _ _ ⟨U _ D J,J,a8,hl,ab a8 hg2⟩ sB
   refine stb O ?_ h1 (by simp[hl]) rfl rfl (by rw[hl]);intro v2 a8 hg2 U;refine Jp (Qn (λh=>by cases h) ?_);refine Zl 12 kr rfl rfl ?_;refine ρ ?_;refine Qn (λ_=>Ext.refl _) ?_;refine Um (listed':=lst 16 15) kr ?_;exact rest (b9,cs) _ _ ⟨U _ D J,J,a8,hl,ab a8 hg2⟩ sB
  rintro⟨b9,cs⟩ w4 ⟨a6,J,O,ba,bl⟩;simp only at J O ba bl;refine Zl 15 kr rfl rfl ?_;refine ρ ?_;refine Qn (λ_=>Ext.refl _) ?_;refine Zk kr ?_;have ae:Blk w4 b6 _ ls:=av.ext ((a1.trans a5).trans a6);have an:=a4.trans a6;have c5:=hT.ext an;obtain⟨A9,c9,D9,d9,rfl,bh⟩:=bl.sl;have ck:b6<w4.heap.size:=ae.lt;refine ρ ?_;refine Xv (fun (o:Int)=>[(11,.int .i64 o),(9,.pointer (some ⟨b9,0,none⟩)),(0,.pointer (some ⟨b,0,none⟩)),(1,.int .i64 (c:Int)),(5,.int .i64 (Vu (lvS t c k))),(6,.pointer (some ⟨b6,0,none⟩)),(7,.int .i64 (k:Int)),(15,.slice R t.rows.length rc),(16,.int .i64 (t.rows.length:Int)),(17,.int .i64 (k:Int))])
   (λo W=>Ext w4 W/\o=match lvS t c k with|none=>-1|some p=>PR.cmp (PR.div qr qc) p.2) ?_ ?_
  .refine ci (λh=>?_) (λh=>?_)
   .have h1:0<=Vu (lvS t c k):=oT h;obtain⟨p,a7⟩:∃ p,lvS t c k=some p:=by
     cases e:lvS t c k with
     | none=>rw[e]at h1;simp[Vu]at h1
     | some p=>exact⟨p,rfl⟩
    obtain⟨i1,i2,i3,i4⟩:=hI p a7;obtain⟨P1,p1,P2,p2,rfl,cb⟩:=i1.sl;refine ρ ?_;refine ldW O ?_;refine ρ ?_;refine ldW ae ?_;refine ρ ?_;refine cl (Qwd bh (cb.ext ((a1.trans a5).trans a6)) (λj hj=>?_) (λj hj=>nM hj (nL ax a6.size)) om om om om) ?_
    .rcases hj with hj|hj
     .exact nM hj (nL ax a6.size)
     rw[hj];exact O.lt
    rintro _ w5 ⟨rfl,ag⟩;refine ρ ?_;exact Jc _ sB ⟨ag,by rw[a7]⟩
   have h1:¬ 0<=Vu (lvS t c k):=oF h;have e:lvS t c k=none:=by
    cases e:lvS t c k with
    | none=>rfl
    | some p=>rw[e]at h1;simp[Vu]at h1
   refine ρ ?_;exact Jc _ sB ⟨Ext.refl _,by rw[e]⟩
  rintro o w5 ⟨ag,ho⟩;have af:Ext w5 w5.drew:=(Ext.refl w5).drew;have aj:=c5.ext (ag.trans af);obtain⟨S,sc,eS,cg,_⟩:=Jd aj.bas;have ak:=Rd.own (show w5.drew.ownsRow base 3 1 (.slice S t.basis.length sc) t.basis.length (Jh (nz t.basis)) by rw[<-eS];exact aj.bas);have co:t.basis.length=t.m:=hp.basis;subst eS;refine ρ ?_;refine Xv (fun (tk:Bool)=>[(68,.bool tk),(9,.pointer (some ⟨b9,0,none⟩)),(0,.pointer (some ⟨b,0,none⟩)),(1,.int .i64 (c:Int)),(5,.int .i64 (Vu (lvS t c k))),(6,.pointer (some ⟨b6,0,none⟩)),(7,.int .i64 (k:Int)),(15,.slice R t.rows.length rc),(16,.int .i64 (t.rows.length:Int)),(17,.int .i64 (k:Int))])
   (λtk W=>Ext w5 W/\tk=lvT t k (PR.div qr qc) (lvS t c k)) ?_ ?_
  .refine dr [(0,0),(0,1),(0,2),(0,3),(0,4),(0,5),(0,6),(0,7),(0,8),(0,9),(0,10),(0,11),(0,12),(0,13),(0,14),(0,15),(0,16),(0,17),(0,18),(0,19),(0,20),(0,21),(0,22)] kr ?_;refine ρd ?_;refine dki 48 (λh=>?_) (λh=>?_)
   .have h1:o<0:=oT h;refine ρd ?_;refine Jc true sB ⟨af,?_⟩;cases e:lvS t c k with
    | none=>rfl
    | some p=>rw[e]at ho;simp only at ho;simp[lvT];left;omega
   have h1:¬ o<0:=oF h;obtain⟨p,a7⟩:∃ p,lvS t c k=some p:=by
    cases e:lvS t c k with
    | none=>rw[e]at ho;simp only at ho;omega
    | some p=>exact⟨p,rfl⟩
   obtain⟨_,_,_,i4⟩:=hI p a7;rw[a7]at ho;simp only at ho;have c0:Vu (lvS t c k)=(p.1:Int):=by rw[a7];rfl
   refine ρd ?_;refine dki 51 (λh=>?_) (λh=>?_)
   .have h2:o=0:=by simpa using h
    refine ρd ?_;refine dld (aj.blk.at (i:=4) rfl) ?_;refine ρd ?_;have bf:k<t.basis.length:=om
    have be:p.1<t.basis.length:=om
    refine dix k ak bf ?_;refine ρd ?_;refine dld (ak.cell (Xb bf)) ?_;refine ρd ?_;refine dld (aj.blk.at (i:=4) rfl) ?_;refine ρd ?_;refine dkv 63 (u:=.int .i64 (p.1:Int)) (congrArg (Value.int .i64) c0) ?_;refine dix p.1 ak be ?_;refine ρd ?_;refine dld (ak.cell (Xb be)) ?_;refine ρd ?_;refine Jc (decide (((t.basis.getD k 0:Nat):Int)<((t.basis.getD p.1 0:Nat):Int))) sB ⟨af,?_⟩;rw[a7];simp only[lvT];rw[decide_eq_decide];omega
   have h2:¬ o=0:=by simpa using h
   refine ρd ?_;refine Jc false sB ⟨af,?_⟩;rw[a7];simp only[lvT];symm
   rw[decide_eq_false_iff_not];omega
  rintro tk w6 ⟨br,bs⟩;have aa:=Qcn hqc hqr aw;rw[<-bs]at aa;have Z:=ag.trans br;have am:=an.trans Z;have au:=ae.ext Z;have bm:=O.ext Z;have bg:=bh.ext Z;refine ρ ?_;refine ci (λh=>?_) (λh=>?_)
  .rw[if_pos h]at aa;have ac:Ext w6 w6.drew:=(Ext.refl w6).drew;refine ρ ?_;refine dr [(0,0),(0,1),(0,2),(2,3)] kr ?_;refine ρd ?_;refine Qb (λj u hu=>(bm.ext ac).at hu) ?_;refine ρd ?_;refine Jy ?_;refine stb (cs':=[.bool (PR.div qr qc).neg,.slice A9 _ c9,.slice D9 _ d9]) (au.ext ac) ?_ (Jt rfl rfl rfl) (by rw[ay];rfl);intro w7 bn hg7 bq;have b1:Ext w w7:=bq w (am.trans ac) c1;obtain⟨_,_,ee,e1,e2⟩:=(bg.ext ac);injection ee with ee
   injection ee with ee
   injection ee with _ ee
   injection ee with ea ee
   injection ee with eb _
   subst ea;subst eb;have ap:GrN (λk=>Ol w1 k∨k=b9) w6.drew w7:=GrN.by hg7 λj ej=>by injection ej with ej;subst ej;exact .inl l6
   refine ρ ?_;refine Ja (k+1) [.bool (PR.div qr qc).neg,.slice A9 _ c9,.slice D9 _ d9] (by rw[aa];exact sO) ⟨om,b1,Nat.le_trans ai (nL (a1.trans a5).size (nL a6.size (nL Z.size (nL ac.size hg7.size)))),bn,rfl,Jt rfl rfl rfl,λp a3=>?_⟩ om;rw[aa]at a3;injection a3 with a3
   subst a3;exact⟨RtC.sta.old ⟨_,_,rfl,e1.gr ap,e2.gr ap⟩ λj hj=>.inl (.inl hj),by show(PR.div qr qc).num<=_;omega,by show(PR.div qr qc).den<=_;omega,b4⟩
  rw[if_neg (by rw[h];decide)]at aa;refine ρ ?_;refine Ja (k+1) ls (by rw[aa];exact sO) ⟨om,am,Nat.le_trans ai (nL (a1.trans a5).size (nL a6.size Z.size)),au,ay,b5,λp a3=>?_⟩ om;rw[aa]at a3;obtain⟨h1,h2⟩:=hI p a3;exact⟨RtC.sta.gr h1 (GrN.ext (((a1.trans a5).trans a6).trans Z)),h2⟩
 have bw:k=t.m:=by have:=oF h;omega
 subst bw;refine ρ ?_;exact Jq ⟨rfl,a9⟩
end Go.Proofs.YtebiphhfkdbpfaaGreatDoor
namespace Go.Wk
variable {al:AL}{Q:Exit->Act->World->Prop}{l n:Nat}{P:Program}{w:World}
theorem wlab(h:QX n Q .normal al w): WC P n (.label l) Q al w:=λa i=>wp_label (h a i)
theorem Qjm{c:Code}(h:WC P n c (Exit.noGoto Q) al w): WC P n (.scope c) Q al w:=λa i=>wp_scope_straight (h a i)
theorem xret(h:QX n Q .ret al w): QX n (Exit.noGoto Q) .ret al w:=h
end Go.Wk
namespace Go.Proofs.YtebiphhfkdbpfaaGreatDoor
open Go.RowKit Pl Go.Wk Bl
attribute [local irreducible] WC WL QX WD WDB WP WN WG WH
variable {cols j m n:Nat}{t t':PT}{S T0:QT}
theorem Qgb(hj:j<cols)(h:(t.goal.getD j pr0).sign<0)(h0:∀ i,i<j->¬ (t.goal.getD i pr0).sign<0): t.enter cols=some j:=by
 unfold PT.enter;induction cols with
 | zero=>omega
 | succ n ih=>
  rw[List.range_succ,List.find?_append];rcases Nat.lt_or_ge j n with h1|h1
  .rw[ih h1];rfl
  have e:j=n:=om
  subst e;have:(List.range j).find? (λj=>decide ((t.goal.getD j pr0).sign<0))=none:=by
   rw[List.find?_eq_none];intro i hi;simpa using h0 i (List.mem_range.1 hi)
  rw[this];simp only[List.find?_cons,h,decide_true];rfl
theorem Qgc(h0:∀ i,i<cols->¬ (t.goal.getD i pr0).sign<0): t.enter cols=none:=by
 unfold PT.enter;rw[List.find?_eq_none];intro i hi;simpa using h0 i (List.mem_range.1 hi)
theorem Qqv{q:PR}(h:q.val≠0): q.num≠0:=λe=>h (by
 unfold PR.val;rw[e];have:((0:Nat):Rat)=0:=rfl;rw[this];split<;>grind)
theorem Qqz(h:PSt n m T0 t S)(h0:∀ i j,i<m->j<n+m->isI (T0.a i j) 1)(h1:∀ i,i<m->isI (T0.b i) 1)(h2:∀ j,j<n+m->isI (T0.g j) 1)(hz:T0.z=0)(hnm:0<n+m)(hm:m<=5): TSl t:=by
 obtain⟨hr,hg⟩:=h.small h0 h1 h2 hz hnm;have a2:fct (m+1)<=720:=nL (Jxt (show m+1<=6 by omega)) (by decide);have a1:fct m<=120:=nL (Jxt hm) (by decide);have hn:=h.en;have J:=h.em;have D:=h.agr.ok;refine⟨λl hl q G=>?_,λq G=>?_⟩
 .obtain⟨i,hi,rfl⟩:=List.getElem_of_mem hl;have U:i<m:=by rw[<-J,<-D.rows];exact hi
  obtain⟨y,h4⟩:=D.row i om;have e1:t.rows.getD i []=t.rows[i]:=by simp[List.getD,List.getElem?_eq_getElem hi]
  obtain⟨j,O,rfl⟩:=List.getElem_of_mem G;have e2:t.rows[i].getD j pr0=t.rows[i][j]:=by simp[List.getD,List.getElem?_eq_getElem O]
  have Z:=hr i j U (by rw[e1]at y;rw[PT.right]at y;omega);have u:=h4 j (by rw[e1]at y;omega);rw[e1,e2]at Z u;exact⟨u,om,om⟩
 obtain⟨y,h4⟩:=D.goal;obtain⟨j,O,rfl⟩:=List.getElem_of_mem G;have e2:t.goal.getD j pr0=t.goal[j]:=by simp[List.getD,List.getElem?_eq_getElem O]
 have Z:=hg j (by rw[PT.right]at y;omega);have u:=h4 j om;rw[e2]at Z u;exact⟨u,om,om⟩
theorem Qcf{w:World}{base b fuel:Nat}{vr vg vb:Value}(hT:TbV w base b vr vg vb t)(hst:PSt n m T0 t S)(hsl:∀ t S,PSt n m T0 t S->TSl t)(hB:Bnd m (n+m) T0)(hmx:PT.maxim (n+m) fuel t=some t')(hn:n<=100)(hm:m<=100)(hbase:base<=w.heap.size):
  Ret Tryz.prog 94 [.pointer (some ⟨b,0,none⟩),.int .i64 ((n+m:Nat):Int)] w λu w'=>u=.tuple #[.int .i64 0,.bool true]/\∃ vg',TbV w' base b vr vg' vb t'/\GrN (TN b vr vb) w w':=by
 refine Jz Tryz.func94 Tryz.ntmps94 rfl kr rfl ?_;refine ρ ?_;refine Qjm ?_;refine wseq ?_;refine wlab ?_;refine ρ ?_;refine Qj (fun (k:Nat) (t:PT)=>[(0,.pointer (some ⟨b,0,none⟩)),(1,.int .i64 ((n+m:Nat):Int))])
  (λk t w'=>PT.maxim (n+m) k t=some t'/\(∃ S,PSt n m T0 t S)/\(∃ vg',TbV w' base b vr vg' vb t)/\GrN (TN b vr vb) w w') (λk _=>k) fuel t ?_ ⟨hmx,⟨S,hst⟩,⟨vg,hT⟩,GrN.refl _ _⟩ ?_
 .exact sB
 rintro k t w1 ⟨hmx,⟨S,hst⟩,⟨vg,hT⟩,a3⟩;have hs:=hsl t S hst;have ok:=hst.agr.ok;have an:=hst.en;have ao:=hst.em;obtain⟨k,rfl⟩:∃ j,k=j+1:=by
  cases k with
  | zero=>cases hmx
  | succ j=>exact⟨j,rfl⟩
 have am:t.goal.length=n+m+2:=by have:=ok.goal.1;rw[PT.right]at this;omega
 refine ρ ?_;refine Jr (fun (j:Nat)=>[(0,.pointer (some ⟨b,0,none⟩)),(1,.int .i64 ((n+m:Nat):Int)),(8,.int .i64 ((n+m:Nat):Int)),(9,.int .i64 (j:Int))])
  (λj w'=>j<=n+m/\Ext w1 w'/\∀ i,i<j->¬ (t.goal.getD i pr0).sign<0) (λj=>n+m-j) 0 sB ⟨Nat.zero_le _,Ext.refl _,λi hi=>absurd hi om⟩ ?_
 rintro j w2 ⟨hj,D,a2⟩;have O:=hT.ext D;refine ρ ?_;refine ci (λh=>?_) (λh=>?_)
 .have ab:j<n+m:=by have:=oT h;omega
  clear h;obtain⟨G,gc,_,rfl,_,_,aj,_,ai⟩:=id O.goal.el;obtain⟨ce,_,a7,af⟩:=ai j om;have e1:t.goal[j]'(by omega)=t.goal.getD j pr0:=by simp[List.getD,List.getElem?_eq_getElem (show j<t.goal.length by omega)]
  have aa:Sl (t.goal.getD j pr0):=by rw[<-e1];exact hs.goal _ (List.getElem_mem _)
  simp only[e1]at a7;obtain⟨E1,x1,E2,x2,rfl,ag⟩:=a7.sl;refine ρ ?_;refine ld (O.blk.at (i:=3) rfl) ?_;refine ρ ?_;refine ixq 3 j aj om ?_;refine ρ ?_;refine lds (λi u hu=>af i u hu) ?_;refine ρ ?_;refine cl (Uz ag aa.len) ?_;rintro _ w3 ⟨rfl,J⟩;have a9:=O.ext J;refine ρ ?_;refine ci (λh=>?_) (λh=>?_)
  .have ad:¬ (t.goal.getD j pr0).sign<0:=by have:=oT h;omega
   refine ρ ?_;exact Jm (j+1) sO ⟨om,D.trans J,λi hi=>by
    rcases Nat.lt_or_ge i j with h1|h1
    .exact a2 i h1
    have:i=j:=om
    subst this;exact ad⟩ om
  have a4:(t.goal.getD j pr0).sign<0:=by have:=oF h;omega
  have Z:=Qgb ab a4 a2;obtain⟨_,r,y,ak,a8,U⟩:=hst.next hB Z;have a6:Vu (lvS t j t.m)=(r:Int):=by
   unfold PT.leaving at y;rw[ok.rows]at y;cases e:lvS t j t.m with
   | none=>rw[e]at y;cases y
   | some p=>rw[e]at y;simp only[Option.map_some,Option.some.injEq]at y;simp[Vu,y]
  have a5:PT.maxim (n+m) k (t.pivot r j)=some t':=by
   rw[PT.maxim,Z]at hmx;simp only[y]at hmx;exact hmx
  refine ρ ?_;refine cl (Qdc (c:=j) a9 ok hs om om om) ?_;rintro _ w4 ⟨rfl,a1⟩;rw[a6];refine ρ ?_;refine cl (Qvd (r:=r) (c:=j) (a9.ext a1) ok hs (hsl _ _ U) om om (Jmj (Qqv ?_)) om om (nL hbase (nL a3.size ((D.trans J).trans a1).size))) ?_
  .rw[hst.agr.a r j om om];have:=a8.pos;intro e;rw[e]at this;exact absurd this (by decide)
  rintro _ w5 ⟨rfl,vg',ah,ae⟩;refine ρ ?_;exact Ja k (t.pivot r j) sB ⟨a5,⟨_,U⟩,⟨vg',ah⟩,(a3.trans (GrN.ext ((D.trans J).trans a1))).trans ae⟩ om
 have ac:j=n+m:=by have:=oF h;omega
 subst ac;rw[PT.maxim,Qgc a2]at hmx;injection hmx with hmx
 subst hmx;refine ρ ?_;refine xret ?_;exact Qr ⟨rfl,vg,O,a3.trans (GrN.ext D)⟩
open Go.RowKit Pl Go.Wk Bl
variable {A rows':List (List PR)}{i n:Nat}
theorem Qmq(a b:Int)(w:World): (Instr.build 182 #[(0,.int .i64 a),(1,.int .i64 b)]).run Tryz.prog w=.ok (.agg #[.int .i64 a,.int .i64 b,.slice none 0 0,.slice none 0 0,.slice none 0 0]) w:=kr
theorem Jtf(A:Option Addr)(m c:Nat)(w:World): (Instr.buildSlice 122 1 #[(0,.slice A m c)]).run Tryz.prog w=.ok (.slice (some ⟨w.heap.size,0,none⟩) 1 1) (w.alloc (.cells [.slice A m c].toArray 56)):=kr
theorem Jjt(z:Int)(w:World): (Instr.buildSlice 22 1 #[(0,.int .i64 z)]).run Tryz.prog w=.ok (.slice (some ⟨w.heap.size,0,none⟩) 1 1) (w.alloc (.cells [.int .i64 z].toArray 3)):=kr
theorem GX.nil{α:Type}{sz:Nat}{Φ:(Nat->Prop)->World->List Value->α->Prop}(N:Nat->Prop)(w:World): GX sz Φ N w (.slice none 0 0) ([]:List α):=⟨⟨[],none,0,rfl,rfl,Nat.le_refl _,by simp,Rd.nil,λp i=>by cases i⟩,λh=>absurd rfl h⟩
theorem Qcs{α:Type}(d:α){l k:List α}(h:l.length=k.length)(he:∀ i,i<l.length->l.getD i d=k.getD i d): l=k:=by
 refine List.ext_getElem h λi j u=>?_;have:=he i j;simpa [List.getD,List.getElem?_eq_getElem j,List.getElem?_eq_getElem u] using this
theorem Qyr(hA:Bin n A)(hi:i<A.length): (((mix (A.getD i []++List.replicate (A.length+2) pr0) (List.replicate (n+A.length+2) pr0) n).set (n+i) (PR.int 1)).set (n+A.length) (PR.int (-1))).set (n+A.length+1) (PR.int 1)=(PT.ofP n A).rows.getD i []:=by
 have G:=(hA i hi).1;have D:((PT.ofP n A).rows.getD i []).length=n+A.length+2:=by
  rw[Jxb i hi,List.length_append,List.length_append,G,List.length_map,List.length_range];rfl
 have y:=λj=>Ia hA.rok i j hi;generalize A.getD i []=a at *
 have u:(mix (a++List.replicate (A.length+2) pr0) (List.replicate (n+A.length+2) pr0) n).length=n+A.length+2:=by
  rw[Uf (by simp[G];omega) (by simp;omega)];simp
 refine Qcs pr0 (by rw[List.length_set,List.length_set,List.length_set,u,D]) λj U=>?_;rw[List.length_set,List.length_set,List.length_set,u]at U;rw[y j];have J:∀(l:List PR) (k:Nat) (x:PR),k<l.length->(l.set k x).getD j pr0=if k=j then x else l.getD j pr0:=λl k x O=>by
  by_cases h:k=j
  .subst h;simp[List.getD,O]
  simp[List.getD,List.getElem?_set_ne h,h]
 rw[J _ _ _ (by rw[List.length_set,List.length_set,u];omega),J _ _ _ (by rw[List.length_set,u];omega),J _ _ _ (by rw[u];omega)];have Z:(mix (a++List.replicate (A.length+2) pr0) (List.replicate (n+A.length+2) pr0) n).getD j pr0=if j<n then(a).getD j pr0 else pr0:=by
  unfold mix;rw[Jxn,List.length_take,List.length_append,G,List.length_replicate,Nat.min_eq_left om];by_cases h:j<n
  .rw[if_pos h,if_pos h];simp only[List.getD_eq_getElem?_getD,List.getElem?_take,h,if_true,List.getElem?_append_left (show j<a.length by omega)]
  rw[if_neg h,if_neg h];simp only[List.getD_eq_getElem?_getD,List.getElem?_drop,List.getElem?_replicate];split<;>rfl
 rw[Z];by_cases h1:j<n
 .rw[if_neg om,if_neg om,if_neg om,if_pos h1,if_pos h1]
 rw[if_neg h1,if_neg h1];by_cases h2:j<n+A.length
 .rw[if_neg om,if_neg om,if_pos h2];by_cases h3:n+i=j
  .rw[if_pos h3,if_pos om]
  rw[if_neg h3,if_neg om]
 rw[if_neg h2];by_cases h3:j=n+A.length
 .rw[if_neg om,if_pos h3.symm,if_pos h3]
 rw[if_pos om,if_neg h3,if_pos om]
section
variable {w w1 w2:World} {base b:Nat} {vr vr' vg vb vb':Value} {t:PT}
theorem TbV.addRow(hT:TbV w base b vr vg vb t)(ho:OX 56 1 MxC (λk=>TN b vr vb k∨w.heap.size<=k) w1 base vr' rows')(hg:w.grownBy w1 vr.ownBlock)(hn:∀ g,vr'.ownBlock=some g->vr.ownBlock=some g∨w.heap.size<=g)(hB:Blk w2 b 182 [.int .i64 (t.n:Int),.int .i64 (t.m:Int),vr',vg,vb])(hg2:w1.grownBy w2 (some b)): TbV w2 base b vr' vg vb ⟨t.n,t.m,rows',t.goal,t.basis⟩:=by
 have J:=hT.blk.lt;have j:∀ k,TN b vr' vb k->TN b vr vb k∨w.heap.size<=k:=λk i=>by
  rcases i with i|i|i
  .exact .inl (.inl i)
  .rcases hn k i with h|h
   .exact .inl (.inr (.inl h))
   exact .inr h
  exact .inl (.inr (.inr i))
 have D:vr'.ownBlock≠some b:=λe=>by
  rcases hn b e with h|h
  .exact hT.ne1 h
  omega
 obtain⟨ps,_,y,_⟩:=id hT.rows;have U:GrN (λk=>TN b vr vb k∨w.heap.size<=k) w w1:=GrN.by hg λk i=>.inl (.inr (.inl i))
 have O:GrN (λk=>TN b vr vb k∨w.heap.size<=k) w1 w2:=GrN.by hg2 λk i=>by injection i with i;exact .inl (.inl i.symm)
 refine⟨hB,(ho.gr MxC.sta (M:=λk=>k=b) (GrN.by hg2 λk i=>by injection i with i;exact i.symm) λk i=>⟨.inl (.inl i),λe=>D (by rw[e,i])⟩).old MxC.sta λk i=>.inl (j k i),?_,?_⟩
 .exact(((hT.goal.old RtC.sta (by decide) (λk i=>i)).gr RtC.sta (by decide) U).gr RtC.sta (by decide) O).old RtC.sta (by decide) λk i=>.inl (j k i)
 have u:Zr w1 base vb t.basis:=Qf hT.bas (N:=λk=>vr.ownBlock=some k) (GrN.by hg λk i=>i) λg u G=>Jkq hT.bas y kr u G;exact Qf u (N:=λk=>k=b) (GrN.by hg2 λk i=>by injection i with i;exact i.symm) λg u G=>hT.ne2 (by rw[u,G])
theorem TbV.addBas(hT:TbV w base b vr vg vb t){basis':List Nat}(ho:Zr w1 base vb' basis')(hg:w.grownBy w1 vb.ownBlock)(hn:∀ g,vb'.ownBlock=some g->vb.ownBlock=some g∨w.heap.size<=g)(hB:Blk w2 b 182 [.int .i64 (t.n:Int),.int .i64 (t.m:Int),vr,vg,vb'])(hg2:w1.grownBy w2 (some b)): TbV w2 base b vr vg vb' ⟨t.n,t.m,t.rows,t.goal,basis'⟩:=by
 have J:=hT.blk.lt;have j:∀ k,TN b vr vb' k->TN b vr vb k∨w.heap.size<=k:=λk i=>by
  rcases i with i|i|i
  .exact .inl (.inl i)
  .exact .inl (.inr (.inl i))
  rcases hn k i with h|h
  .exact .inl (.inr (.inr h))
  exact .inr h
 have y:vb'.ownBlock≠some b:=λe=>by
  rcases hn b e with h|h
  .exact hT.ne2 h
  omega
 obtain⟨ps,_,u,_⟩:=id hT.rows;have U:GrN (λk=>TN b vr vb k∨w.heap.size<=k) w w1:=GrN.by hg λk i=>.inl (.inr (.inr i))
 have O:GrN (λk=>TN b vr vb k∨w.heap.size<=k) w1 w2:=GrN.by hg2 λk i=>by injection i with i;exact .inl (.inl i.symm)
 refine⟨hB,?_,?_,Qf ho (N:=λk=>k=b) (GrN.by hg2 λk i=>by injection i with i;exact i.symm) λg G D=>y (by rw[G,D])⟩
 .have h0:=hT.rows.old MxC.sta (N':=λk=>TN b vr vb k∨w.heap.size<=k) λk i=>i;have G:=h0.gr MxC.sta (M:=λk=>vb.ownBlock=some k) (GrN.by hg λk i=>i) λk i=>⟨.inl (.inr (.inr i)),λe=>Jkq hT.bas u kr i e⟩;have D:=G.gr MxC.sta (M:=λk=>k=b) (GrN.by hg2 λk i=>by injection i with i;exact i.symm) λk i=>⟨.inl (.inl i),λe=>hT.ne1 (by rw[e,i])⟩;exact D.old MxC.sta λk i=>.inl (j k i)
 exact(((hT.goal.old RtC.sta (by decide) (λk i=>i)).gr RtC.sta (by decide) U).gr RtC.sta (by decide) O).old RtC.sta (by decide) λk i=>.inl (j k i)
end
open Go.RowKit Pl Go.Wk Bl
theorem Qbl{N:Nat->Prop}{w:World}{vC vA vB:Value}{n:Nat}{A:List (List PR)}(hC:GX 3 RtC N w vC (List.replicate n (PR.int 1)))(hA:GX 1 MxC N w vA A)(hB:GX 3 RtC N w vB (List.replicate A.length (PR.int 1)))(hbin:Bin n A)(hn:n<=64)(hm:A.length<=64):
  Ret Tryz.prog 90 [.agg #[vC,vA,vB]] w λu w'=>∃ base b vr vb,u=.pointer (some ⟨b,0,none⟩)/\w.heap.size<=base/\w.heap.size<=b/\base<=w'.heap.size/\TbV w' base b vr (.slice none 0 0) vb ⟨n,A.length,(PT.ofP n A).rows,[],(PT.ofP n A).basis⟩/\Ext w w':=by
 have aw:(PT.ofP n A).rows.length=A.length:=by simp[PT.ofP]
 obtain⟨CA,cc,_,rfl,ef,_,_,_,_⟩:=id hC.el;obtain⟨AA,ac,_,rfl,fo,_,f5,_,f4⟩:=id hA.el;obtain⟨BA,bc,_,rfl,ej,_,ds,_,dq⟩:=id hB.el;simp only[List.length_replicate]at hC hB ef ej ds dq ⊢;refine Jz Tryz.func90 Tryz.ntmps90 rfl kr rfl ?_;refine ρ ?_;refine bx ?_;intro w1 b1 ba fn bi;refine ρ ?_;refine ld (bi.at (i:=0) rfl) ?_;refine ρ ?_;refine ld (bi.at (i:=2) rfl) ?_;refine ρ ?_;refine bld (Qmq _ _ _) ?_;refine ρ ?_;refine bx ?_;intro w2 b b9 ch dx;have c1:=bi.ext b9;have a9:=ba.trans b9;have l1:=bi.lt;refine ρ ?_;refine ld (c1.at (i:=1) rfl) ?_;refine ρ ?_;refine Xg (fun (i:Nat) (vr vb:Value)=>[(1,.pointer (some ⟨b1,0,none⟩)),(3,.pointer (some ⟨b,0,none⟩)),(18,.slice AA A.length ac),(19,.int .i64 (A.length:Int)),(20,.int .i64 (i:Int))])
  (λi vr vb w'=>i<=A.length/\Ext w w'/\w2.heap.size<=w'.heap.size/\Blk w' b1 124 [.slice CA n cc,.slice AA A.length ac,.slice BA A.length bc]/\TbV w' w2.heap.size b vr (.slice none 0 0) vb ⟨n,A.length,(PT.ofP n A).rows.take i,[],(List.range i).map (n + ·)⟩) (λi _ _=>A.length-i) 0 (.slice none 0 0) (.slice none 0 0) sB
  ⟨Nat.zero_le _,a9,Nat.le_refl _,c1,dx,OX.nil _ _,GX.nil _ _,Zh _ _ _ _⟩ ?_
 rintro i vr vb w3 ⟨hi,aj,cu,b3,D⟩;refine ρ ?_;refine ci (λh=>?_) (λh=>?_)
 .have G:i<A.length:=by have:=oT h;omega
  clear h;obtain⟨ce,fl,⟨va,rfl,hG⟩,ee⟩:=f4 i G;have en:A.getD i []=A[i]:=by simp[List.getD,List.getElem?_eq_getElem G]
  obtain⟨be,dh⟩:=hbin i G;rw[<-en]at hG;generalize haa:A.getD i []=a at *
  obtain⟨K,kc,_,rfl,ea,_,dn,_,ey⟩:=id hG.el;rw[be]at dn ea;have bp:w3.cell? (adr AA i)=some (.slice K a.length kc):=by
   have:=Xd aj (ee 0 _ rfl);rwa [Nat.mul_one,add_zero]at this
  rw[be]at bp;refine ρ ?_;refine ix i (f5.ext aj) G ?_;refine ρ ?_;refine ld bp ?_;refine ρ ?_;refine cl (Kk (n:=n) (m:=A.length) D.blk rfl rfl om om) ?_;rintro _ w4 ⟨rfl,O⟩;refine ρ ?_;refine Go.Wk.kv 27 (u:=.int .i64 ((n+A.length+2:Nat):Int)) (congrArg (Value.int .i64) (by show((n+A.length+1:Nat):Int)+1=_;omega)) ?_;refine cl (Jzg (n+A.length+2) om w4) ?_;rintro u w5 ⟨hU,cq⟩;have f7:=O.trans cq;obtain⟨U,uc,_,eu,fi,ax,fp⟩:=id hU.el;rw[List.length_replicate]at eu ax;subst eu;obtain⟨_,_,_,_,bf⟩:=id hU.form;have bg:∀ g,(Value.slice U (n+A.length+2) uc).ownBlock=some g->Ov w4 (.slice U (n+A.length+2) uc) g:=λg hg=>.inr hg;have d3:(a++List.replicate (A.length+2) pr0).length=(List.replicate (n+A.length+2) pr0).length:=by simp[be];omega
  refine ρ ?_;refine Jr (fun (j:Nat)=>[(1,.pointer (some ⟨b1,0,none⟩)),(3,.pointer (some ⟨b,0,none⟩)),(4,.int .i64 (i:Int)),(6,.slice U (n+A.length+2) uc),(18,.slice AA A.length ac),(19,.int .i64 (A.length:Int)),(20,.int .i64 (i:Int)),(29,.slice K n kc),(30,.int .i64 (n:Int)),(31,.int .i64 (j:Int))])
   (λj w'=>j<=n/\Ext w4 w'/\OX 58 3 RtC (Ov w4 (.slice U (n+A.length+2) uc)) w' w4.heap.size (.slice U (n+A.length+2) uc) (mix (a++List.replicate (A.length+2) pr0) (List.replicate (n+A.length+2) pr0) j)) (λj=>n-j) 0 sB ⟨Nat.zero_le _,cq,by rw[Kl];exact hU⟩ ?_
  rintro j w6 ⟨hj,aq,ay⟩;have c9:(mix (a++List.replicate (A.length+2) pr0) (List.replicate (n+A.length+2) pr0) j).length=n+A.length+2:=by rw[Uf d3 (by simp;omega)];simp
  have au:=O.trans aq;obtain⟨U',e4,_,ev,_,bs,_⟩:=id ay.el;rw[c9]at ev bs;injection ev with ev1 ev2 ev3
  subst ev1;obtain⟨_,_,_,_,di⟩:=id ay.form;refine ρ ?_;refine ci (λh=>?_) (λh=>?_)
  .have bd:j<n:=by have:=oT h;omega
   clear h;obtain⟨ce,_,db,ed⟩:=ey j om;have dg:a[j]'(by omega)=a.getD j pr0:=by simp[List.getD,List.getElem?_eq_getElem (show j<a.length by omega)]
   rw[dg]at db;have e1:=dh j bd;have cz:(a.getD j pr0).Nrm:=by
    rcases e1 with e|e<;>rw[e]
    .exact Ih
    exact PR.int_nrm 1
   have e8:=cz.norm;have f8:(a.getD j pr0).num<=1/\(a.getD j pr0).den<=1:=by rcases e1 with e|e<;>rw[e]<;>decide
   have d4:(a++List.replicate (A.length+2) pr0)[j]?=some (a.getD j pr0):=by rw[List.getElem?_append_left om,<-dg];exact gE om
   generalize a.getD j pr0=q at *
   obtain⟨E1,x1,E2,x2,rfl,e7⟩:=db.sl;have ak:=aj.trans au;refine ρ ?_;refine ixq 3 j (dn.ext ak) bd ?_;refine ρ ?_;refine lds (λk u hu=>Xd ak (ed k u hu)) ?_;refine ρ ?_;refine alc Vx ?_;intro w7 b8 b7 em f3;refine ρ ?_;refine stb (cs':=[.bool q.neg,.slice E1 _ x1,.slice E2 _ x2]) f3 ?_ (Jt rfl rfl rfl);intro w8 du d5 e5;have a7:Ext w6 w8:=e5 w6 b7 em;refine ρ ?_;refine ldW du ?_;refine ρ ?_;refine cl (Zf (e7.ext (ak.trans a7)) om om) ?_;rintro r w9 ⟨hR,an⟩;rw[e8]at hR;have ap:=a7.trans an;obtain⟨G1,g1,G2,g2,rfl,cg⟩:=hR.cell;refine ρ ?_;refine ixq 3 j (bs.ext ap) om ?_;refine ρ ?_;refine stX RtC.sta (ay.ext RtC.sta ap) c9.symm (show j<_ by omega) (cs:=[.bool q.neg,.slice G1 _ g1,.slice G2 _ g2]) (a:=q) (RtC.sta.old cg λk y=>.inl ?_) bg (Jt rfl rfl rfl) ?_
   .rcases y with y|y
    .exact nM y (aq.trans a7).size
    exact nM (di k y).2 a7.size
   intro e3 a6 d8;rw[Ud d3 (by simp;omega) d4]at a6;refine ρ ?_;exact Jm (j+1) sO ⟨om,Js (aq.trans ap) d8 (λg hg=>(bf g hg).1),a6⟩ om
  have bd:j=n:=by have:=oF h;omega
  clear h;subst bd;have ew:=D.ext au;have fa:=b3.ext au;have cd:(mix (a++List.replicate (A.length+2) pr0) (List.replicate (j+A.length+2) pr0) j).length=j+A.length+2:=c9;have cj:∀ {w':World} {ls:List PR},OX 58 3 RtC (Ov w4 (.slice U (j+A.length+2) uc)) w' w4.heap.size (.slice U (j+A.length+2) uc) ls->Ext w4 w'->∀ k,Ov w4 (.slice U (j+A.length+2) uc) k->k<w'.heap.size:=fun {w' ls} h hx k y=>by
   rcases y with y|y
   .exact nM y hx.size
   obtain⟨_,_,_,_,h3⟩:=id h.form;exact(h3 k y).2
  have ax:∀ {w':World} {ls:List PR},OX 58 3 RtC (Ov w4 (.slice U (j+A.length+2) uc)) w' w4.heap.size (.slice U (j+A.length+2) uc) ls->ls.length=j+A.length+2->∃ cs,Rd w' 3 U (j+A.length+2) cs:=fun {w' ls} h hl=>by
   obtain⟨U',e4,cs,ev,_,hd,_⟩:=id h.el;rw[hl]at ev hd;injection ev with ev1 ev2 ev3
   subst ev1;exact⟨cs,hd⟩
  generalize hL0:mix (a++List.replicate (A.length+2) pr0) (List.replicate (j+A.length+2) pr0) j=L0 at *
  have b6:Ext w6 w6.drew:=(Ext.refl w6).drew;have ep:=ew.ext b6;refine ρ ?_;refine dr [(0,0),(0,1),(0,2),(0,3),(0,4),(0,5),(0,6),(1,7),(0,8),(2,9)] kr ?_;refine ρd ?_;refine dld (v:=.int .i64 (j:Int)) (ep.blk.at (i:=0) rfl) ?_;refine ρd ?_;refine dcl (Ky 1 (by decide) (by decide) _) ?_;rintro r w7 ⟨hR,b7⟩;refine⟨b7,?_⟩;have bj:=b6.trans b7;have dk:=ay.ext RtC.sta bj;obtain⟨_,ec⟩:=ax dk cd;obtain⟨G1,g1,G2,g2,rfl,cg⟩:=hR.cell;refine ρd ?_;refine Xx 3 (j+i) ec om ?_;refine ρd ?_;refine Jy ?_;refine stX RtC.sta dk cd.symm (show j+i<_ by omega) (cs:=[.bool (PR.int 1).neg,.slice G1 _ g1,.slice G2 _ g2]) (a:=PR.int 1) (RtC.sta.old cg λk y=>.inl (cj (ay.ext RtC.sta b6) (aq.trans b6) k y)) bg (Jt rfl rfl rfl) ?_;intro w8 dj d5;have ar:Ext w4 w8:=Js (aq.trans bj) d5 (λg hg=>(bf g hg).1);have ca:(L0.set (j+i) (PR.int 1)).length=j+A.length+2:=by rw[List.length_set];exact cd
  have et:=D.ext (O.trans ar);refine ρ ?_;refine cl (Qnr (n:=j) (m:=A.length) et.blk rfl rfl om om) ?_;rintro _ w9 ⟨rfl,an⟩;refine ρ ?_;refine cl (Ky (-1) (by decide) (by decide) _) ?_;rintro r e3 ⟨hR,cr⟩;have ao:=an.trans cr;have a6:=dj.ext RtC.sta ao;obtain⟨_,da⟩:=ax a6 ca;obtain⟨H1,h1,H2,h2,rfl,de⟩:=hR.cell;refine ρ ?_;refine ixq 3 (j+A.length) da om ?_;refine ρ ?_;refine stX RtC.sta a6 ca.symm (show j+A.length<_ by omega) (cs:=[.bool (PR.int (-1)).neg,.slice H1 _ h1,.slice H2 _ h2]) (a:=PR.int (-1)) (RtC.sta.old de λk y=>.inl (cj (dj.ext RtC.sta an) (ar.trans an) k y)) bg (Jt rfl rfl rfl) ?_;intro b5 bw d7;have J:Ext w4 b5:=Js (ar.trans ao) d7 (λg hg=>(bf g hg).1);have bo:((L0.set (j+i) (PR.int 1)).set (j+A.length) (PR.int (-1))).length=j+A.length+2:=by rw[List.length_set];exact ca
  have ai:Ext b5 b5.drew:=(Ext.refl b5).drew;have dm:=(D.ext (O.trans J)).ext ai;have cp:=(b3.ext (O.trans J)).ext ai;have av:=(aj.trans (O.trans J)).trans ai;obtain⟨cb,_,bq,dc⟩:=dq i G;have ei:(List.replicate A.length (PR.int 1))[i]'(by simpa using G)=PR.int 1:=by simp
  simp only[ei]at bq;obtain⟨F1,f1,F2,f2,rfl,ek⟩:=bq.sl;have e9:(PR.int 1).norm=PR.int 1:=(PR.int_nrm 1).norm;refine ρ ?_;refine dr [(0,0),(0,1),(0,3),(0,4),(0,5),(0,6),(0,7),(1,2),(1,8),(0,9),(2,10)] kr ?_;refine ρd ?_;refine dld (cp.at (i:=2) rfl) ?_;refine ρd ?_;refine Xx 3 i (ds.ext av) G ?_;refine ρd ?_;refine Qb (λk u hu=>Xd av (dc k u hu)) ?_;refine ρd ?_;refine dcl (Kk (n:=j) (m:=A.length) dm.blk rfl rfl om om) ?_;rintro _ ff ⟨rfl,a4⟩;refine⟨a4,?_⟩;refine ρd ?_;refine dcl (Zf (ek.ext (av.trans a4)) (by decide) (by decide)) ?_;rintro r fe ⟨hR,bl⟩;refine⟨bl,?_⟩;rw[e9]at hR;have a8:=(ai.trans a4).trans bl;have bu:=bw.ext RtC.sta a8;obtain⟨_,d9⟩:=ax bu bo;obtain⟨I1,i1,I2,i2,rfl,dd⟩:=hR.cell;refine ρd ?_;refine Xx 3 (j+A.length+1) d9 om ?_;refine ρd ?_;refine Jy ?_;refine stX RtC.sta bu bo.symm (show j+A.length+1<_ by omega) (cs:=[.bool (PR.int 1).neg,.slice I1 _ i1,.slice I2 _ i2]) (a:=PR.int 1) (RtC.sta.old dd λk y=>.inl (cj (bw.ext RtC.sta (ai.trans a4)) (J.trans (ai.trans a4)) k y)) bg (Jt rfl rfl rfl) ?_
  intro e2 az d6;have a3:Ext w4 e2:=Js (J.trans a8) d6 (λg hg=>(bf g hg).1);rw[<-hL0]at az;have df:=Qyr hbin G;rw[haa]at df;rw[df]at az;have cy:(PT.ofP j A).rows.getD i []=(PT.ofP j A).rows[i]'(by rw[aw];exact G):=by simp[List.getD,List.getElem?_eq_getElem (show i<(PT.ofP j A).rows.length by rw[aw];exact G)]
  have cx:((PT.ofP j A).rows.getD i []).length=j+A.length+2:=by rw[Jxb i G,haa,List.length_append,List.length_append,be,List.length_map,List.length_range];rfl
  generalize hrw:(PT.ofP j A).rows.getD i []=rw' at *
  have c0:=D.ext (O.trans a3);have co:=b3.ext (O.trans a3);have c8:=aj.trans (O.trans a3);have bn:=nL cu (O.trans a3).size;refine ρ ?_;refine ld (c0.blk.at (i:=2) rfl) ?_;refine ρ ?_;refine bsl (Jtf _ _ _) ?_;intro b4 bb a1 fm f0;have ae:=c0.ext a1;have bt:=(az.ext RtC.sta a1).old RtC.sta (N':=λk=>Ov w4 (.slice U (j+A.length+2) uc) k∨b4.heap.size<=k) λk y=>y;have eo:=D.lt;have ez:GX 3 RtC (λk=>TN b vr vb k∨b4.heap.size<=k) b4 (.slice U (j+A.length+2) uc) rw':=bt.gx RtC.sta (by rw[cx];omega) λk y=>by
   obtain⟨_,_,_,_,h3⟩:=id bt.form;rcases y with y|y
   .have:=eo k y;have:=O.size;exact⟨.inl (.inl om),λe=>by have:=(h3 k e).1;omega⟩
   exact⟨.inr y,λe=>by have:=(h3 k e).2;omega⟩
  refine ρ ?_;refine apX (N:=λk=>TN b vr vb k∨b4.heap.size<=k) EMx MxC.sta (ae.rows.old MxC.sta λk y=>y) f0 rfl (λu hu=>by rw[List.mem_singleton.1 hu];rfl) ⟨_,rfl,ez⟩ (λg hg=>.inl (.inr (.inl hg))) (by simp;omega) (by decide) (nL bn a1.size) ?_;intro vr' fd ag a5 d2;have e6:(PT.ofP j A).rows.take i++[rw']=(PT.ofP j A).rows.take (i+1):=by rw[List.take_add_one,List.getElem?_eq_getElem (by rw[aw];exact G),cy];rfl
  simp only at ag;rw[e6]at ag;obtain⟨R',fh,ev,_,_⟩:=id ag.form;subst ev;have ck:=ae.blk.grown a5 (λe=>ae.ne1 e.symm);refine ρ ?_;refine stF (i:=2) ck rfl ?_;intro ah e0 ab;have bz:=ae.addRow ag a5 d2 e0 ab;have er:∀ k,TN b vr vb k->w2.heap.size<=k∨k=b:=λk y=>by
   rcases y with y|y|y
   .exact .inr y
   .obtain⟨_,_,_,_,h3⟩:=id D.rows.form;exact .inl (h3 k y).1
   obtain⟨_,_,_,_,h3⟩:=Jd D.bas;exact .inl (h3 k y).1
  have fk:=dx.lt;have br:b1≠b:=om
  have c7:=c8.trans a1;have c6:Ext w ah:=Js (Js c7 a5 λk y=>by
   obtain⟨_,_,_,_,h3⟩:=id D.rows.form;have:=(h3 k y).1;have:=a9.size;omega) ab λk y=>by injection y with y;subst y;exact nL ba.size ch
  have cn:Blk ah b1 _ _:=((co.ext a1).grown a5 λe=>by
   obtain⟨_,_,_,_,h3⟩:=id D.rows.form;have:=(h3 b1 e.symm).1;have:=b9.size;omega).grown ab λe=>by injection e with e;exact br e
  have bm:w2.heap.size<=ah.heap.size:=nL bn (nL a1.size (nL a5.size ab.size));obtain⟨S,sc,eS,fj,_⟩:=Jd bz.bas;have am:Ext ah ah.drew:=(Ext.refl ah).drew;have bh:=bz.ext am;have d0:¬ vb.ownBlock=some b:=bh.ne2;have eh:((List.range i).map (j + ·)).length=i:=by simp
  refine ρ ?_;refine drN (λk=>vb.ownBlock=some k) 18 [(0,0),(0,1),(0,2),(0,3),(0,4),(0,5),(0,6),(0,7),(0,8),(0,9),(0,10),(1,11),(1,12),(0,13),(0,14),(2,15)] kr ?_;refine ρn ?_;refine nld (λw' hg=>(Qs bh.blk hg d0).at (i:=4) rfl) ?_;refine ρn ?_;refine nld (v:=.int .i64 (j:Int)) (λw' hg=>(Qs bh.blk hg d0).at (i:=0) rfl) ?_;refine ρn ?_;refine nkv 86 (u:=.int .i64 ((j+i:Nat):Int)) (congrArg (Value.int .i64) (show(j:Int)+(i:Int)=((j+i:Nat):Int) by omega)) ?_;refine nop ?_;refine bsl (Jjt _) ?_;intro fc b2 Z f9 dt;refine Jp (Vv (GrN.ext Z) ?_);have ad:=bh.ext Z;refine ρn ?_;refine nop ?_;refine apI (z:=j+i) ad.bas dt (by rw[eh];omega) (nL bm (am.trans Z).size) ?_;intro vb' fb af a2 d1;have eg:(List.range i).map (j + ·)++[j+i]=(List.range (i+1)).map (j + ·):=by rw[List.range_succ,List.map_append];rfl
  simp only at af;rw[eg]at af;refine Jp (Vv (GrN.by a2 λk e=>e) ?_);obtain⟨S',fg,f6,_,_⟩:=Jd af;subst f6;have dz:=ad.blk.grown a2 (λe=>ad.ne2 e.symm);refine ρn ?_;refine Io ?_;refine stF (i:=4) dz rfl ?_;intro c2 dw aa;have dl:=ad.addBas af a2 d1 dw aa;have c5:=c6.trans (am.trans Z);have c4:Ext w c2:=Js (Js c5 a2 λk y=>by
   obtain⟨_,_,_,_,h3⟩:=Jd D.bas;have:=(h3 k y).1;have:=a9.size;omega) aa λk y=>by injection y with y;subst y;exact nL ba.size ch
  have cm:Blk c2 b1 _ _:=((cn.ext (am.trans Z)).grown a2 λe=>by
   obtain⟨_,_,_,_,h3⟩:=Jd D.bas;have:=(h3 b1 e.symm).1;have:=b9.size;omega).grown aa λe=>by injection e with e;exact br e
  have cw:w2.heap.size<=c2.heap.size:=nL bm (nL (am.trans Z).size (nL a2.size aa.size));refine Jp (Ie ?_);refine ρn ?_;refine ρ ?_;exact Qm (i+1) _ _ sO ⟨om,c4,cw,cm,dl⟩ om
 have eb:i=A.length:=by have:=oF h;omega
 subst eb;rw[<-aw,List.take_length,aw]at D;refine ρ ?_;exact Jq ⟨w2.heap.size,b,vr,vb,rfl,a9.size,Nat.le_trans ba.size ch,cu,D,aj⟩
open Go.RowKit Pl Go.Wk Bl
variable {A:List (List PR)}{g:List PR}{b base i n:Nat}{N:Nat->Prop}{vA vB vC vb vg vr:Value}{w:World}
theorem Qqq(hC:GX 3 RtC N w vC (List.replicate n (PR.int 1)))(hA:GX 1 MxC N w vA A)(hB:GX 3 RtC N w vB (List.replicate A.length (PR.int 1)))(hbin:Bin n A)(hm:A.length<=64):
  Ret Tryz.prog 89 [.agg #[vC,vA,vB]] w λu w'=>u=.bool true/\Ext w w':=by
 obtain⟨CA,cc,_,rfl,U,_,_,_,_⟩:=id hC.el;obtain⟨AA,ac,_,rfl,a9,_,a5,_,a4⟩:=id hA.el;obtain⟨BA,bc,_,rfl,Z,_,a3,_,a2⟩:=id hB.el;simp only[List.length_replicate]at hC hB U Z a3 a2 ⊢;refine Jz Tryz.func89 Tryz.ntmps89 rfl kr rfl ?_;refine ρ ?_;refine bx ?_;intro w1 b1 D a8 y;refine ρ ?_;refine ld (y.at (i:=1) rfl) ?_;refine ρ ?_;refine ld (y.at (i:=2) rfl) ?_;refine ρ ?_;refine cf ?_ ?_
 .simp
 refine ρ ?_;refine ld (y.at (i:=1) rfl) ?_;refine ρ ?_;refine Jr (fun (i:Nat)=>[(1,.pointer (some ⟨b1,0,none⟩)),(13,.slice AA A.length ac),(14,.int .i64 (A.length:Int)),(15,.int .i64 (i:Int))]) (λi w'=>i<=A.length/\w'=w1) (λi=>A.length-i) 0 sB ⟨Nat.zero_le _,rfl⟩ ?_;rintro i w2 ⟨hi,rfl⟩;refine ρ ?_;refine ci (λh=>?_) (λh=>?_)
 .have j:i<A.length:=by have:=oT h;omega
  clear h;obtain⟨ce,a7,⟨va,rfl,hG⟩,J⟩:=a4 i j;obtain⟨K,kc,_,rfl,a6,_,_,_,_⟩:=id hG.el;have O:=(hbin i j).1;have a1:A.getD i []=A[i]:=by simp[List.getD,List.getElem?_eq_getElem j]
  rw[a1]at O;rw[O]at J;have G:w2.cell? (adr AA i)=some (.slice K n kc):=by
   have:=Xd D (J 0 _ rfl);rwa [Nat.mul_one,add_zero]at this
  refine ρ ?_;refine ix i (a5.ext D) j ?_;refine ρ ?_;refine ld G ?_;refine ρ ?_;refine ld (y.at (i:=0) rfl) ?_;refine ρ ?_;refine cf ?_ ?_
  .simp
  refine ρ ?_;exact Jm (i+1) sO ⟨om,rfl⟩ om
 refine ρ ?_;exact Jq ⟨rfl,D⟩
theorem Qyp(hbin:Bin n A)(hi:i<A.length): ((PT.ofP n A).rows.getD i []).getD (n+A.length+1) pr0=PR.int 1:=by
 rw[Ia hbin.rok i _ hi,if_neg om,if_neg om,if_neg om,if_pos rfl]
theorem Qyn(hbin:Bin n A)(hi:i<A.length): ((PT.ofP n A).rows.getD i []).length=n+A.length+2:=by
 rw[Jxb i hi,List.length_append,List.length_append,(hbin i hi).1,List.length_map,List.length_range];rfl
theorem Qft(hT:TbV w base b vr vg vb ⟨n,A.length,(PT.ofP n A).rows,g,(PT.ofP n A).basis⟩)(hbin:Bin n A)(hn:n<=64)(hm:A.length<=64):
  Ret Tryz.prog 91 [.pointer (some ⟨b,0,none⟩)] w λu w'=>u=.bool true/\Ext w w':=by
 have Z:(PT.ofP n A).rows.length=A.length:=by simp[PT.ofP]
 obtain⟨R,rc,_,ev,ak,a8,a7⟩:=id hT.rows.el;simp only[Z]at ev a8 a7;subst ev;refine Jz Tryz.func91 Tryz.ntmps91 rfl kr rfl ?_;refine ρ ?_;refine ld (hT.blk.at (i:=2) rfl) ?_;refine ρ ?_;refine Jr (fun (k:Nat)=>[(0,.pointer (some ⟨b,0,none⟩)),(3,.int .i64 (-1)),(13,.slice R A.length rc),(14,.int .i64 (A.length:Int)),(15,.int .i64 (k:Int))]) (λk w'=>k<=A.length/\Ext w w') (λk=>A.length-k) 0 sB ⟨Nat.zero_le _,Ext.refl _⟩ ?_;rintro k w1 ⟨hk,y⟩;refine ρ ?_;refine ci (λh=>?_) (λh=>?_)
 .have D:k<A.length:=by have:=oT h;omega
  clear h;obtain⟨ce,ao,⟨vk,rfl,aa⟩,a6⟩:=a7 k D;have ag:(PT.ofP n A).rows[k]'(by rw[Z];exact D)=(PT.ofP n A).rows.getD k []:=by simp[List.getD,List.getElem?_eq_getElem (show k<(PT.ofP n A).rows.length by rw[Z];exact D)]
  rw[ag]at aa;have G:=Qyn hbin D;have af:=Qyp hbin D;generalize (PT.ofP n A).rows.getD k []=row at *
  obtain⟨K,kc,_,rfl,am,_,a9,_,ai⟩:=id aa.el;rw[G]at a6 a9;have a5:w1.cell? (adr R k)=some (.slice K (n+A.length+2) kc):=by
   have:=Xd y (a6 0 _ rfl);rwa [Nat.mul_one,add_zero]at this
  obtain⟨cr,_,a3,a4⟩:=ai (n+A.length+1) (by rw[G];omega);have er:row[n+A.length+1]'(by rw[G];omega)=PR.int 1:=by rw[<-af];simp[List.getD,List.getElem?_eq_getElem (show n+A.length+1<row.length by rw[G];omega)]
  rw[er]at a3;obtain⟨F1,f1,F2,f2,rfl,ae⟩:=a3.sl;refine ρ ?_;refine ix k (a8.ext y) D ?_;refine ρ ?_;refine ld a5 ?_;refine ρ ?_;refine cl (Kk (n:=n) (m:=A.length) (hT.blk.ext y) rfl rfl om om) ?_;rintro _ w2 ⟨rfl,U⟩;refine ρ ?_;refine ixq 3 (n+A.length+1) ((a9.ext y).ext U) om ?_;refine ρ ?_;refine lds (λj u hu=>Xd (y.trans U) (a4 j u hu)) ?_;refine ρ ?_;refine alc Vx ?_;intro w3 b6 ad ah aj;refine ρ ?_;refine stb (cs':=[.bool (PR.int 1).neg,.slice F1 _ f1,.slice F2 _ f2]) aj ?_ (Jt rfl rfl rfl);intro w4 ab an ac;have a2:Ext w2 w4:=ac w2 ad ah;have J:=(y.trans U).trans a2;have O:Ext w4 w4.drew:=(Ext.refl w4).drew;refine ρ ?_;refine dr [(0,0),(1,1),(0,2),(0,3),(0,4),(0,5),(0,6),(0,7),(0,8),(0,9),(0,10),(0,11),(0,12),(0,13),(0,14),(0,15),(1,16),(0,17),(0,18),(1,19),(0,20),(0,21),(0,22)] kr ?_;refine ρd ?_;refine Qb (λj u hu=>(ab.ext O).at hu) ?_
  refine ρd ?_;refine dcl (Uz (ae.ext (J.trans O)) (by have:=Qy (n:=(PR.int 1).num) (by decide);omega)) ?_;rintro _ w5 ⟨rfl,a1⟩;refine⟨a1,?_⟩;refine ρd ?_;refine ρ ?_;exact Jm (k+1) sO ⟨om,(J.trans O).trans a1⟩ om
 refine ρ ?_;exact Jq ⟨rfl,y⟩
theorem Qyq: (PT.ofP n A).goal=mix (List.replicate n (PR.int (-1))++List.replicate (A.length+2) pr0) (List.replicate (n+A.length+2) pr0) n:=by
 unfold mix PT.ofP;simp only;rw[List.take_append_of_le_length (by simp),List.take_of_length_le (by simp),List.drop_replicate,show n+A.length+2-n=A.length+2 by omega]
theorem Qyt(hT:TbV w base b vr vg vb ⟨n,A.length,(PT.ofP n A).rows,g,(PT.ofP n A).basis⟩)(hC:GX 3 RtC N w vC (List.replicate n (PR.int 1)))(hNC:∀ k,TN b vr vb k->N k)(hbin:Bin n A)(hn:n<=64)(hm:A.length<=64):
  Ret Tryz.prog 93 [.pointer (some ⟨b,0,none⟩),vC] w λu w'=>u=.tuple #[]/\∃ vg',TbV w' base b vr vg' vb (PT.ofP n A)/\GrN (TN b vr vb) w w':=by
 obtain⟨CA,cc,_,rfl,b2,_,be,_,bd⟩:=id hC.el;simp only[List.length_replicate]at hC b2 be bd ⊢;have a1:=hT.lt;refine Jz Tryz.func93 Tryz.ntmps93 rfl kr rfl ?_;refine ρ ?_;refine cl (Kk (n:=n) (m:=A.length) hT.blk rfl rfl om om) ?_;rintro _ w1 ⟨rfl,G⟩;refine ρ ?_;refine Go.Wk.kv 10 (u:=.int .i64 ((n+A.length+2:Nat):Int)) (congrArg (Value.int .i64) (show((n+A.length+1:Nat):Int)+1=_ by omega)) ?_;refine cl (Jzg (n+A.length+2) om w1) ?_;rintro u w2 ⟨hU,a3⟩;obtain⟨U,uc,_,eu,bj,_,_⟩:=id hU.el;rw[List.length_replicate]at eu;subst eu;obtain⟨_,_,_,_,Z⟩:=id hU.form;have af:=G.trans a3;have a7:=hT.ext G;generalize hu:Value.slice U (n+A.length+2) uc=u at *
 have bc:∀ k,(TN b vr vb k∨u.ownBlock=some k)->TN b vr vb k∨w1.heap.size<=k:=λk y=>y.elim .inl λh=>.inr (Z k h).1;have bb:=(a7.rows.old MxC.sta bc).ext MxC.sta a3;have b7:OX 58 3 RtC (λk=>TN b vr vb k∨u.ownBlock=some k) w2 w1.heap.size u (List.replicate (n+A.length+2) pr0):=hU.old RtC.sta λk y=>by
  rcases y with y|y
  .exact .inl (.inl (nM (a1 k y) G.size))
  exact .inl (.inr y)
 have ao:u.ownBlock≠some b:=λe=>by have:=(Z b e).1;have:=a7.blk.lt;omega
 have b9:=Je a7.bas a3;have bh:=a7.blk.ext a3;refine ρ ?_;refine stF (i:=3) (v:=u) bh rfl ?_ rfl rfl rfl rfl rfl (by rw[<-hu];rfl);intro w3 bg ay;have O:GrN (λk=>k=b) w2 w3:=GrN.by ay λk y=>by injection y with y;exact y.symm
 have ba:=bb.gr MxC.sta O λk y=>⟨.inl (.inl y),λe=>hT.ne1 (by rw[e,y])⟩;have b6:=b7.gr RtC.sta O λk y=>⟨.inl (.inl y),λe=>ao (by rw[e,y])⟩;have b8:Zr w3 base vb (PT.ofP n A).basis:=Qf b9 O λg h1 h2=>hT.ne2 (by rw[h1,h2]);have am:GrN (TN b vr vb) w w3:=(GrN.ext af).trans (O.mono λk _ y=>.inl y);have aj:(List.replicate n (PR.int (-1))++List.replicate (A.length+2) pr0).length=(List.replicate (n+A.length+2) pr0).length:=by simp;omega
 refine ρ ?_;refine Jr (fun (j:Nat)=>[(0,.pointer (some ⟨b,0,none⟩)),(1,.slice CA n cc),(15,.int .i64 (n:Int)),(16,.int .i64 (j:Int))])
  (λj w'=>j<=n/\GrN (TN b vr vb) w w'/\Blk w' b 182 [.int .i64 (n:Int),.int .i64 (A.length:Int),vr,u,vb]/\OX 56 1 MxC (λk=>TN b vr vb k∨u.ownBlock=some k) w' base vr (PT.ofP n A).rows/\Zr w' base vb (PT.ofP n A).basis/\OX 58 3 RtC (λk=>TN b vr vb k∨u.ownBlock=some k) w' w1.heap.size u (mix (List.replicate n (PR.int (-1))++List.replicate (A.length+2) pr0) (List.replicate (n+A.length+2) pr0) j)) (λj=>n-j) 0 sB
  ⟨Nat.zero_le _,am,bg,ba,b8,by rw[Kl];exact b6⟩ ?_
 rintro j w4 ⟨hj,a4,ad,ac,ar,a6⟩;have ai:(mix (List.replicate n (PR.int (-1))++List.replicate (A.length+2) pr0) (List.replicate (n+A.length+2) pr0) j).length=n+A.length+2:=by rw[Uf aj (by simp;omega)];simp
 refine ρ ?_;refine ci (λh=>?_) (λh=>?_)
 .have J:j<n:=by have:=oT h;omega
  clear h;have aa:Ext w4 w4.drew:=(Ext.refl w4).drew;have bf:=(hC.gr RtC.sta (by decide) (a4.mono λk _ y=>hNC k y)).ext RtC.sta (by decide) aa;obtain⟨bo,bn,_,ev,_,_,a9,_,au⟩:=id bf.el;simp only[List.length_replicate]at ev a9;injection ev with ev1 ev2 ev3
  subst ev1;obtain⟨ce,_,an,b1⟩:=au j (by simpa using J);have e1:(List.replicate n (PR.int 1))[j]'(by simpa using J)=PR.int 1:=by simp
  simp only[e1]at an;obtain⟨F1,f1,F2,f2,rfl,b3⟩:=an.sl;have ag:(PR.int 1).opp=PR.int (-1):=by decide +kernel
  have av:=ad.ext aa;have aw:∀ {w':World} {ls:List PR},OX 58 3 RtC (λk=>TN b vr vb k∨u.ownBlock=some k) w' w1.heap.size u ls->ls.length=n+A.length+2->∃ cs,Rd w' 3 U (n+A.length+2) cs:=fun {w' ls} h hl=>by
   obtain⟨U',bi,cs,ev,_,hd,_⟩:=id h.el;rw[hl]at ev hd;rw[<-hu]at ev;injection ev with ev1 ev2 ev3
   subst ev1;exact⟨cs,hd⟩
  refine ρ ?_;refine dr [(0,0),(0,1),(0,2),(0,3),(0,4),(0,5),(0,6),(0,7),(0,8),(1,9),(0,10),(2,11)] kr ?_;refine ρd ?_;refine dld (v:=.slice U (n+A.length+2) uc) (by rw[hu];exact av.at (i:=3) rfl) ?_;refine ρd ?_;refine Xx 3 j a9 J ?_;refine ρd ?_;refine Qb (λk x hx=>b1 k x hx) ?_;refine ρd ?_;refine dcl (Jlc b3 (by decide) (by decide)) ?_;rintro r w5 ⟨hR,ae⟩;refine⟨ae,?_⟩;rw[ag]at hR;have D:=aa.trans ae;have ab:=a6.ext RtC.sta D;obtain⟨_,az⟩:=aw ab ai;obtain⟨G1,g1,G2,g2,rfl,b4⟩:=hR.cell;refine ρd ?_;refine Xx 3 j az om ?_;refine ρd ?_;refine Jy ?_;obtain⟨_,_,_,_,ap⟩:=id a6.form;have ak:∀ w1' ,OX 58 3 RtC (λk=>TN b vr vb k∨u.ownBlock=some k) w1' w1.heap.size u ((mix (List.replicate n (PR.int (-1))++List.replicate (A.length+2) pr0) (List.replicate (n+A.length+2) pr0) j).set j (PR.int (-1)))->w5.grownBy w1' u.ownBlock->GrN (TN b vr vb) w w1'/\Blk w1' b 182 [.int .i64 (n:Int),.int .i64 (A.length:Int),vr,u,vb]/\OX 56 1 MxC (λk=>TN b vr vb k∨u.ownBlock=some k) w1' base vr (PT.ofP n A).rows/\Zr w1' base vb (PT.ofP n A).basis/\OX 58 3 RtC (λk=>TN b vr vb k∨u.ownBlock=some k) w1' w1.heap.size u (mix (List.replicate n (PR.int (-1))++List.replicate (A.length+2) pr0) (List.replicate (n+A.length+2) pr0) (j+1)):=λw6 a5 hg6=>by
   rw[Ud aj (by simp;omega) (by rw[List.getElem?_append_left (by simpa using J)];simp[J])]at a5;have a8:GrN (λk=>u.ownBlock=some k) w5 w6:=GrN.by hg6 λk y=>y
   refine⟨?_,?_,?_,?_,a5⟩
   .have h1:GrN (TN b vr vb) w w5:=a4.trans (GrN.ext D);refine⟨hg6.os.trans h1.os,hg6.tape.trans h1.tape,hg6.output.trans h1.output,Nat.le_trans h1.size hg6.size,λk y hn=>(hg6.block k (nM y h1.size) λe=>?_).trans (h1.block k y hn)⟩;have:=(Z k e.symm).1;have:=G.size;omega
   .exact(ad.ext D).grown hg6 (λe=>ao e.symm)
   .obtain⟨_,_,_,_,h3⟩:=id ac.form;refine(ac.ext MxC.sta D).gr MxC.sta a8 λk y=>⟨.inr y,λe=>?_⟩;have:=a1 k (.inr (.inl e));have:=(Z k y).1;have:=G.size;omega
   exact Qf (Je ar D) a8 λg h1 h2=>by
    have:=a1 g (.inr (.inr h1));have:=(Z g h2).1;have:=G.size;omega
  rw[<-hu]at ab ak ⊢;refine stX RtC.sta ab ai.symm (show j<_ by omega) (cs:=[.bool (PR.int (-1)).neg,.slice G1 _ g1,.slice G2 _ g2]) (a:=PR.int (-1)) (RtC.sta.old b4 λk y=>.inl ?_) (λg hg=>.inr hg) (Jt rfl rfl rfl) ?_
  .rcases y with y|y
   .exact nM (a1 k y) a4.size
   rw[hu]at y;exact(ap k y).2
  intro w6 a5 hg6;obtain⟨k1,k2,k3,k4,k5⟩:=ak w6 a5 hg6;refine ρ ?_;exact Jm (j+1) sO ⟨om,k1,k2,k3,k4,k5⟩ om
 have J:j=n:=by have:=oF h;omega
 clear h;subst J;rw[<-Qyq]at a6;have ax:(PT.ofP j A).goal.length<=1100000:=by simp[PT.ofP];omega
 have a2:TbV w4 base b vr u vb (PT.ofP j A):=⟨ad,ac.old MxC.sta λk y=>.inl (.inl y),a6.gx RtC.sta ax λk y=>⟨.inl y,λe=>by
  have:=a1 k y;have:=(Z k e).1;have:=G.size;omega⟩,ar⟩
 obtain⟨S,sc,eS,bl,_⟩:=Jd a2.bas;have bm:(PT.ofP j A).basis.length=A.length:=by simp[PT.ofP]
 have b5:∀ k,k<A.length->(PT.ofP j A).basis.getD k 0=j+k:=λk y=>by simp[PT.ofP,List.getD,y]
 have aq:=Rd.own (show w4.ownsRow base 3 1 (.slice S (PT.ofP j A).basis.length sc) (PT.ofP j A).basis.length (Jh (nz (PT.ofP j A).basis)) by rw[<-eS];exact a2.bas);subst eS;refine ρ ?_;refine ld (a2.blk.at (i:=4) rfl) ?_;refine ρ ?_;refine Jr (fun (k:Nat)=>[(0,.pointer (some ⟨b,0,none⟩)),(34,.slice S (PT.ofP j A).basis.length sc),(35,.int .i64 ((PT.ofP j A).basis.length:Int)),(36,.int .i64 (k:Int))]) (λk w'=>k<=A.length/\w'=w4) (λk=>A.length-k) 0 sB ⟨Nat.zero_le _,rfl⟩ ?_;rintro k w5 ⟨y,rfl⟩;refine ρ ?_;refine ci (λh=>?_) (λh=>?_)
 .have ah:k<(PT.ofP j A).basis.length:=by have:=oT h;omega
  clear h;refine ρ ?_;refine ix k aq ah ?_;refine ρ ?_;refine ld (aq.cell (Xb ah)) ?_;refine ρ ?_;refine ld (v:=.int .i64 (j:Int)) (a2.blk.at (i:=0) rfl) ?_;refine ρ ?_;refine cf ?_ ?_
  .rw[b5 k om];exact dF om
  refine ρ ?_;exact Jm (k+1) sO ⟨om,rfl⟩ om
 refine ρ ?_;exact Vy ⟨rfl,u,a2,a4⟩
end Go.Proofs.YtebiphhfkdbpfaaGreatDoor
namespace Go.Wk
open Go.RowKit
theorem Jpw{α:Type}{sz:Nat}: ∀ {ps:List (List Value×α)} {k:Nat},(∀ p∈ps,p.1.length=sz)->k<=ps.length->Jg (ps.drop k)=(Jg ps).drop (k*sz)
 | ps,0,_,_=>by simp
 | [],k+1,_,h=>by simp at h
 | p::ps,k+1,h,hk=>by
  have hp:=h p (by simp);have ih:=Jpw (ps:=ps) (k:=k) (λx hx=>h x (by simp[hx])) (by simpa using hk);have e:Jg (p::ps)=p.1++Jg ps:=rfl;rw[List.drop_succ_cons,ih,e,Nat.succ_mul,List.drop_append,show p.1.drop (k*sz+sz)=[] from List.drop_of_length_le om,List.nil_append,hp,show k*sz+sz-sz=k*sz by omega]
theorem Jps{α:Type}{sz:Nat}: ∀ {ps:List (List Value×α)} {k:Nat},(∀ p∈ps,p.1.length=sz)->k<=ps.length->Jg (ps.take k)=(Jg ps).take (k*sz)
 | ps,0,_,_=>by simp[Jg]
 | [],k+1,_,h=>by simp at h
 | p::ps,k+1,h,hk=>by
  have hp:=h p (by simp);have ih:=Jps (ps:=ps) (k:=k) (λx hx=>h x (by simp[hx])) (by simpa using hk);have e:Jg (p::ps)=p.1++Jg ps:=rfl;have e2:Jg (p::ps.take k)=p.1++Jg (ps.take k):=rfl;rw[List.take_succ_cons,e2,ih,e,Nat.succ_mul,List.take_append,show p.1.take (k*sz+sz)=p.1 from List.take_of_length_le om,hp,show k*sz+sz-sz=k*sz by omega]
theorem OX.rd{α:Type}{e sz base m c:Nat}{A:Option Addr}{Φ:(Nat->Prop)->World->List Value->α->Prop}{N:Nat->Prop}{w:World}{ls:List α}(h:OX e sz Φ N w base (.slice A m c) ls)(hm:m=ls.length): ∃ L,Rd w sz A m L:=by
 obtain⟨ps,j,i,u⟩:=h;have:m=ps.length:=by rw[hm,j,List.length_map]
 subst this;exact⟨_,Rd.own i⟩
theorem GX.cut{α:Type}{sz:Nat}{Φ:(Nat->Prop)->World->List Value->α->Prop}{N:Nat->Prop}{w:World}{A:Option Addr}{L c:Nat}{ls:List α}(h:GX sz Φ N w (.slice A L c) ls)(hs:0<sz){k m:Nat}(hk:k<=m)(hm:m<=ls.length):
  GX sz Φ N w (.slice (if c=k then A else A.map (·.add (k*sz))) (m-k) (c-k)) ((ls.drop k).take (m-k)):=by
 obtain⟨⟨ps,A0,c0,e,O,e2,e3,J,D⟩,hn⟩:=h;injection O with h1 h2 h3
 subst h1;subst h3;have hl:ls.length=ps.length:=by rw[e,List.length_map]
 have hcut:=J.cut k m c hk om om;have u:((ps.drop k).take (m-k)).length=m-k:=by rw[List.length_take,List.length_drop];omega
 have G:Jg ((ps.drop k).take (m-k))=((Jg ps).drop (k*sz)).take ((m-k)*sz):=by
  rw[Jps (sz:=sz) (λp i=>(D p (List.mem_of_mem_drop i)).1) (by rw[List.length_drop];omega),Jpw (λp i=>(D p i).1) om]
 refine⟨⟨(ps.drop k).take (m-k),_,c-k,by rw[e];simp[List.map_drop,List.map_take],by rw[u],om,om,by rw[u,G];exact hcut,λp i=>D p (List.mem_of_mem_drop (List.mem_of_mem_take i))⟩,λh0 Z m' c' ev j=>?_⟩;injection ev with ev _ _
 have y:ls≠[]:=λU=>h0 (by rw[U];simp);split at ev
 .exact hn y Z L c (by rw[ev]) j
 cases A with
 | none=>cases ev
 | some a0=>
  simp only[Option.map_some,Option.some.injEq]at ev;subst ev;rw[Jzf]at j;exact hn y a0 L c rfl j
end Go.Wk
namespace Go.Proofs.YtebiphhfkdbpfaaGreatDoor
open Go.RowKit Pl Go.Wk Bl
attribute [local irreducible] WC WL QX WD WDB WP WN WG WH
variable {b base i:Nat}{t:PT}{vb vg vr:Value}{w:World}
def ptK(t:PT)(i:Nat): List PR:=(List.range t.n).map λv=>match(List.range i).reverse.find? λi=>t.basis.getD i 0 == v with
 | none=>pr0
 | some i=>(t.rows.getD i []).getD t.right pr0
theorem ptK_0(t:PT): ptK t 0=List.replicate t.n pr0:=by
 unfold ptK;exact List.eq_replicate_iff.2 ⟨by simp,λx i=>by obtain⟨_,_,e⟩:=List.mem_map.1 i;exact e.symm⟩
theorem Jyv(t:PT)(i:Nat): (ptK t i).length=t.n:=by simp[ptK]
theorem Qwk(h:t.basis.getD i 0<t.n): ptK t (i+1)=(ptK t i).set (t.basis.getD i 0) ((t.rows.getD i []).getD t.right pr0):=by
 refine List.ext_getElem? λv=>?_;have j:∀ k,(ptK t k)[v]?=if v<t.n then some (match(List.range k).reverse.find? λi=>t.basis.getD i 0 == v with|none=>pr0|some i=>(t.rows.getD i []).getD t.right pr0) else none:=λk=>by
  unfold ptK;rw[List.getElem?_map];by_cases hv:v<t.n
  .rw[if_pos hv,List.getElem?_range hv];rfl
  rw[if_neg hv,List.getElem?_eq_none (by simpa using hv)];rfl
 have u:(List.range (i+1)).reverse=i::(List.range i).reverse:=by rw[List.range_succ];simp
 by_cases hv:t.basis.getD i 0=v
 .subst hv;rw[List.getElem?_set_self (by rw[Jyv];exact h),j,if_pos h,u,List.find?_cons];simp only[beq_self_eq_true]
 rw[List.getElem?_set_ne hv,j,j,u,List.find?_cons];have:(t.basis.getD i 0 == v)=false:=by simpa using hv
 rw[this]
theorem Qwl(h:¬ t.basis.getD i 0<t.n): ptK t (i+1)=ptK t i:=by
 unfold ptK;refine List.map_congr_left λv j=>?_;have u:(List.range (i+1)).reverse=i::(List.range i).reverse:=by rw[List.range_succ];simp
 have:(t.basis.getD i 0 == v)=false:=by
  have:=List.mem_range.1 j;exact beq_eq_false_iff_ne.2 om
 rw[u,List.find?_cons,this]
theorem Jlk(t:PT): ptK t t.basis.length=t.point:=rfl
theorem Qwz(hT:TbV w base b vr vg vb t)(hp:POk t)(hn:t.n<=64)(hm:t.m<=64):
  Ret Tryz.prog 95 [.pointer (some ⟨b,0,none⟩)] w λu w'=>GX 3 RtC (TN b vr vb) w' u t.point/\(∀ k,u.ownBlock=some k->w.heap.size<=k)/\Ext w w':=by
 have ad:=hT.lt;have ay:t.rows.length=t.m:=hp.rows;have b3:t.basis.length=t.m:=hp.basis;have G:∀ i (hi:i<t.rows.length),t.rows[i].length=t.n+t.m+2:=λi hi=>by
  have:=(hp.row i (by rw[<-hp.rows];exact hi)).1;rwa [List.getD,List.getElem?_eq_getElem hi]at this
 refine Jz Tryz.func95 Tryz.ntmps95 rfl kr rfl ?_;refine ρ ?_;refine ld (hT.blk.at (i:=0) rfl) ?_;refine ρ ?_;refine cl (Jzg t.n om w) ?_;rintro u w1 ⟨hU,a6⟩;obtain⟨U,uc,_,eu,aw,_,_⟩:=id hU.el;rw[List.length_replicate]at eu;subst eu;obtain⟨_,_,_,_,a2⟩:=id hU.form;have ap:∀ k,(TN b vr vb k∨(Value.slice U t.n uc).ownBlock=some k)->TN b vr vb k∨w.heap.size<=k:=λk Z=>Z.elim .inl λh=>.inr (a2 k h).1;have hR:=hT.rows.old MxC.sta ap;have am:OX 58 3 RtC (λk=>TN b vr vb k∨(Value.slice U t.n uc).ownBlock=some k) w1 w.heap.size (.slice U t.n uc) (ptK t 0):=by
  rw[ptK_0];exact hU.old RtC.sta λk Z=>.inl (Z.elim (λh=>.inl (ad k h)) .inr)
 obtain⟨S,sc,eS,ax,_⟩:=Jd hT.bas;have ae:=Rd.own (show w.ownsRow base 3 1 (.slice S t.basis.length sc) t.basis.length (Jh (nz t.basis)) by rw[<-eS];exact hT.bas);subst eS;obtain⟨R,rc,_,eR,az,ao,an⟩:=id hR.el;subst eR;have av:=hT.blk.ext a6;refine ρ ?_;refine ld (av.at (i:=4) rfl) ?_;refine ρ ?_;refine Jr (fun (k:Nat)=>[(0,.pointer (some ⟨b,0,none⟩)),(3,.slice U t.n uc),(14,.slice S t.basis.length sc),(15,.int .i64 (t.basis.length:Int)),(16,.int .i64 (k:Int))]) (λk w'=>k<=t.m/\Ext w w'/\OX 58 3 RtC (λk=>TN b (.slice R t.rows.length rc) (.slice S t.basis.length sc) k∨(Value.slice U t.n uc).ownBlock=some k) w' w.heap.size (.slice U t.n uc) (ptK t k)) (λk=>t.m-k) 0 sB ⟨Nat.zero_le _,a6,am⟩ ?_;rintro k w2 ⟨Z,J,a3⟩;refine ρ ?_;refine ci (λh=>?_) (λh=>?_)
 .have a9:k<t.basis.length:=by have:=oT h;omega
  clear h;refine ρ ?_;refine ix k (ae.ext J) a9 ?_;refine ρ ?_;refine ld ((ae.ext J).cell (Xb a9)) ?_;refine ρ ?_;refine ld ((hT.blk.ext J).at (i:=0) rfl) ?_;refine ρ ?_;refine ci (λh=>?_) (λh=>?_)
  .have a1:t.basis.getD k 0<t.n:=by have:=oT h;omega
   clear h;have a4:Ext w2 w2.drew:=(Ext.refl w2).drew;have y:=J.trans a4;have D:k<t.rows.length:=om
   obtain⟨ce,_,⟨vk,rfl,au⟩,ai⟩:=an k D;obtain⟨K,kc,_,rfl,b2,_,ar,_,aq⟩:=id au.el;rw[G k D]at *;have aa:w2.drew.cell? (adr R k)=some (.slice K (t.n+t.m+2) kc):=by
    have:=Xd y (ai 0 _ rfl);rwa [Nat.mul_one,add_zero]at this
   obtain⟨cr,_,a5,a8⟩:=aq (t.n+t.m+1) (by rw[G k D];omega);have er:t.rows[k][t.n+t.m+1]'(by rw[G k D];omega)=(t.rows.getD k []).getD t.right pr0:=by simp[PT.right,List.getD,List.getElem?_eq_getElem D,List.getElem?_eq_getElem (show t.n+t.m+1<t.rows[k].length by rw[G k D];omega)]
   rw[er]at a5;have af:=Qwk a1;generalize (t.rows.getD k []).getD t.right pr0=q at *
   obtain⟨F1,f1,F2,f2,rfl,b1⟩:=a5.sl;have ac:=a3.ext RtC.sta a4;have a7:t.n=(ptK t k).length:=(Jyv t k).symm;refine ρ ?_;refine dr [(0,0),(0,1),(0,2),(0,3),(0,4),(0,5),(0,6),(0,7),(0,8),(0,9),(1,10),(0,11),(0,12),(0,13),(2,14)] kr ?_;refine ρd ?_;refine dld ((hT.blk.ext y).at (i:=2) rfl) ?_;refine ρd ?_;refine dix k (ao.ext y) D ?_;refine ρd ?_;refine dld aa ?_;refine ρd ?_;refine dcl (Kk (n:=t.n) (m:=t.m) (hT.blk.ext y) rfl rfl om om) ?_;rintro _ w3 ⟨rfl,O⟩;refine⟨O,?_⟩;refine ρd ?_;refine Xx 3 (t.n+t.m+1) ((ar.ext y).ext O) om ?_;refine ρd ?_;refine Qb (λj u hu=>Xd (y.trans O) (a8 j u hu)) ?_;refine ρd ?_;have ab:=ac.ext RtC.sta O;obtain⟨_,aj⟩:=ab.rd a7;refine Xx 3 (t.basis.getD k 0) aj a1 ?_;refine ρd ?_;refine Jy ?_;refine stX RtC.sta ab a7 (show t.basis.getD k 0<_ by omega) (cs:=[.bool q.neg,.slice F1 _ f1,.slice F2 _ f2]) (a:=q) (RtC.sta.gr a5 (GrN.ext (y.trans O))) (λg hg=>.inr hg) (Jt rfl rfl rfl) ?_
   intro w4 ak ah;refine ρ ?_;exact Jm (k+1) sO ⟨om,Js (J.trans (a4.trans O)) ah λk Z=>(a2 k Z).1,by rw[af];exact ak⟩ om
  have a1:¬ t.basis.getD k 0<t.n:=by have:=oF h;omega
  refine ρ ?_;exact Jm (k+1) sO ⟨om,J,by rw[Qwl a1];exact a3⟩ om
 have ag:k=t.basis.length:=by have:=oF h;omega
 subst ag;rw[Jlk]at a3;refine ρ ?_;refine Jq ⟨a3.gx RtC.sta ?_ λk Z=>⟨.inl Z,λe=>by have:=ad k Z;have:=(a2 k e).1;omega⟩,λk Z=>(a2 k Z).1,J⟩;rw[<-Jlk,Jyv];omega
theorem Qgl(hT:TbV w base b vr vg vb t)(hp:POk t)(hn:t.n<=64)(hm:t.m<=64)(h0:0<t.m):
  Ret Tryz.prog 92 [.pointer (some ⟨b,0,none⟩)] w λu w'=>GX 3 RtC (TN b vr vb) w' u t.dual/\(∀ k,u.ownBlock=some k->w.heap.size<=k)/\Ext w w':=by
 have a1:=hT.lt;have Z:t.goal.length=t.n+t.m+2:=hp.goal.1;refine Jz Tryz.func92 Tryz.ntmps92 rfl kr rfl ?_;refine ρ ?_;refine ld (hT.blk.at (i:=1) rfl) ?_;refine ρ ?_;refine cl (Jzg t.m om w) ?_;rintro u w1 ⟨hU,a2⟩;obtain⟨U,uc,_,eu,a7,_,_⟩:=id hU.el;rw[List.length_replicate]at eu;subst eu;obtain⟨_,_,_,_,D⟩:=id hU.form;have a6:∀ k,(TN b vr vb k∨(Value.slice U t.m uc).ownBlock=some k)->TN b vr vb k∨w.heap.size<=k:=λk y=>y.elim .inl λh=>.inr (D k h).1;have a5:OX 58 3 RtC (λk=>TN b vr vb k∨(Value.slice U t.m uc).ownBlock=some k) w1 w.heap.size (.slice U t.m uc) (List.replicate t.m pr0):=hU.old RtC.sta λk y=>.inl (y.elim (λh=>.inl (a1 k h)) .inr);have hG:=hT.goal.old RtC.sta (by decide) a6;obtain⟨G,gc,_,eG,a3,a9,a8⟩:=id hG.el;subst eG;have hcut:=hG.cut (by decide) (k:=t.n) (m:=t.n+t.m) om (by rw[Z];omega);rw[Z]at a3;rw[show t.n+t.m-t.n=t.m by omega]at hcut
 have O:Ext w1 w1.drew:=(Ext.refl w1).drew;have j:=a2.trans O;have J:=hT.ext j;refine ρ ?_;refine drC 14 [0,1,5,9,13] [(0,2),(0,3),(0,4),(0,6),(0,7),(0,8),(0,10),(0,11),(0,12),(0,14),(0,15),(0,16),(0,17),(0,18),(2,19)] kr ?_;refine ρp ?_;refine ρd ?_;refine dld (J.blk.at (i:=3) rfl) ?_;refine ρd ?_;refine dld (J.blk.at (i:=0) rfl) ?_;refine ρd ?_;refine dld (J.blk.at (i:=0) rfl) ?_;refine ρd ?_;refine dld (J.blk.at (i:=1) rfl) ?_;refine ρd ?_;refine Qgm Iv t.n (t.n+t.m) gc rfl rfl rfl rfl ⟨_,_,rfl,rfl⟩ ⟨_,_,rfl,by push_cast;rfl⟩ rfl (.inl rfl) om om (Nat.le_refl _) rfl ?_;rw[show t.n+t.m-t.n=t.m by omega];refine ρd ?_;refine Jy ?_;refine cpX RtC.sta (a5.ext RtC.sta O) (by simp) (hcut.ext RtC.sta (by decide) j) h0 (by decide) (λcs a h=>h) RtC.one (λg hg=>.inr hg) ?_;intro w2 a4 hg2;refine ρ ?_;exact Jq ⟨a4.gx RtC.sta (by simp;omega) λk y=>⟨.inl y,λe=>by have:=a1 k y;have:=(D k e).1;omega⟩,λk y=>(D k y).1,Js j hg2 λk y=>(D k y).1⟩
open Go.RowKit Pl Go.Wk Bl
variable {b fuel n t:Nat}{N:Nat->Prop}{v vA vB vC:Value}{w:World}
abbrev Nn: Nat->Prop:=λ_=>False
theorem zSol: Qa Tryz.prog 128=some (.agg #[.int .i64 0,.slice none 0 0,.slice none 0 0,.slice none 0 0,.bool false,.slice none 0 0,.slice none 0 0]):=kr
theorem Qmr(A B C D:Option Addr)(m c m' c' k d k' d':Nat)(b:Bool)(w:World): (Instr.build 128 #[(0,.int .i64 0),(1,.slice A m c),(2,.slice B m' c'),(4,.agg #[.bool b,.slice C k d,.slice D k' d'])]).run Tryz.prog w=.ok (.agg #[.int .i64 0,.slice A m c,.slice B m' c',.slice none 0 0,.bool b,.slice C k d,.slice D k' d']) w:=kr
theorem Jwm{ls:List PR}{cs:List Value}(h:GX 3 RtC N w v ls)(hB:Blk w b t cs)(hc:∀ u∈cs,∀ z,u≠.int .u32 z)(hv:v.ownBlock≠some b): GX 3 RtC (λk=>N k∨k=b) w v ls:=by
 obtain⟨⟨ps,A,c,e,e1,e2,Z,U,j⟩,hn⟩:=h;refine⟨⟨ps,A,c,e,e1,e2,Z,U,λp D=>⟨(j p D).1,?_⟩⟩,λh0 ad m c' ev i=>i.elim (hn h0 ad m c' ev) λi=>hv (by rw[ev,<-i];rfl)⟩;obtain⟨x,y,O,J,G⟩:=(j p D).2;exact⟨x,y,O,J.box hB hc,G.box hB hc⟩
theorem noS: ∀ u∈[Value.int .i64 0,.slice none 0 0,.slice none 0 0,.slice none 0 0,.bool false,.slice none 0 0,.slice none 0 0],∀ z,u≠.int .u32 z:=λu i z e=>by
 simp only[List.mem_cons,List.not_mem_nil,or_false]at i;rcases i with rfl|rfl|rfl|rfl|rfl|rfl|rfl<;>cases e
theorem Qzh{A:List (List PR)}{t':PT}(hC:GX 3 RtC N w vC (List.replicate n (PR.int 1)))(hA:GX 1 MxC N w vA A)(hB:GX 3 RtC N w vB (List.replicate A.length (PR.int 1)))(hNw:∀ k,N k->k<w.heap.size)(hbin:Bin n A)(h1:∀ j,j<n->∃ i,i<A.length/\Xw A i j=1)(hn:n<=64)(hm:A.length<=5)(h0:0<A.length)(hf:(n+A.length)^A.length<=fuel)(hmx:PT.maxim (n+A.length) fuel (PT.ofP n A)=some t'):
  Ret Tryz.prog 52 [.agg #[vC,vA,vB]] w λu w'=>∃ X Y q1 q2,u=.tuple #[.agg #[.int .i64 0,X,Y,.slice none 0 0,.bool (t'.goal.getD t'.right pr0).neg,q1,q2],.int .i64 0]/\GX 3 RtC Nn w' X t'.point/\GX 3 RtC Nn w' Y t'.dual/\NatX Nn w' q1 (t'.goal.getD t'.right pr0).num/\NatX Nn w' q2 (t'.goal.getD t'.right pr0).den/\Ext w w':=by
 obtain⟨c6,cb,S,b4,hS,cm⟩:=Jbh hbin h1 hf;rw[hmx]at b4;cases b4
 obtain⟨i1,i2,i3⟩:=Qvk hbin;have bo:∀ t S,PSt n A.length (pck n (Xw A)) t S->TSl t:=λt S h=>Qqz h i1 i2 i3 rfl om hm;have ak:=hS.agr.ok;have cj:=hS.en;have ck:=hS.em;obtain⟨CA,cc,_,rfl,br,_,_,_,_⟩:=id hC.el;obtain⟨AA,ac,_,rfl,cp,_,_,_,_⟩:=id hA.el;obtain⟨BA,bc,_,rfl,bs,_,_,_,_⟩:=id hB.el;simp only[List.length_replicate]at hC hB br bs ⊢;refine Jz Tryz.func52 Tryz.ntmps52 rfl kr rfl ?_;refine ρ ?_;refine bx ?_;intro w1 b1 ax co bh;refine ρ ?_;refine alc zSol ?_;intro w2 b2 av bt ao;have Z:=ax.trans av;have af:=bh.ext av;have c7:b1≠b2:=by have:=bh.lt;omega
 have be:=hC.ext RtC.sta (by decide) Z;have bi:=hA.ext MxC.sta (by decide) Z;have ae:=hB.ext RtC.sta (by decide) Z;refine ρ ?_;refine lds (cs:=[.slice CA n cc,.slice AA A.length ac,.slice BA A.length bc]) (λj u hu=>af.at hu) ?_;refine ρ ?_;refine cl (Qqq be bi ae hbin om) ?_;rintro _ w3 ⟨rfl,D⟩;have U:=af.ext D;refine ρ ?_;refine ld (U.at (i:=0) rfl) ?_;refine ρ ?_;refine kf 15 ?_ ?_
 .simp;omega
 refine ρ ?_;refine ld (U.at (i:=2) rfl) ?_;refine ρ ?_;refine cf ?_ ?_
 .simp;omega
 have a4:=Z.trans D;refine ρ ?_;refine lds (cs:=[.slice CA n cc,.slice AA A.length ac,.slice BA A.length bc]) (λj u hu=>U.at hu) ?_;refine ρ ?_;refine cl (Qbl (be.ext RtC.sta (by decide) D) (bi.ext MxC.sta (by decide) D) (ae.ext RtC.sta (by decide) D) hbin hn om) ?_;rintro _ w4 ⟨base,b,vr,vb,rfl,ad,b9,b8,aa,aj⟩;refine ρ ?_;refine cl (Qft aa hbin hn om) ?_;rintro _ w5 ⟨rfl,a1⟩;have ay:=a4.trans (aj.trans a1);have bf:=(U.ext aj).ext a1;refine ρ ?_;refine ld (bf.at (i:=0) rfl) ?_;refine ρ ?_;have c2:=aa.ext a1;have am:∀ k,TN b vr vb k->w3.heap.size<=k:=λk y=>by
  rcases y with y|y|y
  .rw[y];exact b9
  .obtain⟨_,_,_,_,h⟩:=id aa.rows.form;exact nL ad (h k y).1
  obtain⟨_,_,_,_,h⟩:=Jd aa.bas;exact nL ad (h k y).1
 refine cl (Qyt (N:=TN b vr vb) c2 ((hC.old RtC.sta (by decide) λk y=>.inr (nL a4.size (am k y))).ext RtC.sta (by decide) ay) (λk y=>y) hbin hn om) ?_;rintro _ w6 ⟨rfl,vg,c1,hg6⟩;have a3:Ext w3 w6:=hg6.old (aj.trans a1) am;have c9:=U.ext a3;have c8:=(ao.ext D).ext a3;have b7:base<=w6.heap.size:=nL b8 (nL a1.size hg6.size);have ai:Ext w6 w6.drew:=(Ext.refl w6).drew;have a6:=c1.ext ai;have au:=a3.trans ai;refine ρ ?_;refine drH (λi=>i == 10) ?_;refine Ve (fuel':=6) 17 [(0,0),(0,1),(0,2),(0,3),(0,4),(0,5),(0,6),(0,7),(0,8),(0,9)] #[true,true,true,true,true,true,true,true,true,true,false,false,false,false,false,false] kr kr rfl ?_;refine ρd ?_;refine dld (a6.blk.at (i:=0) rfl) ?_;refine ρd ?_;refine dld (a6.blk.at (i:=1) rfl) ?_;refine ρd ?_;refine Ze ?_;refine Zl 10 kr rfl rfl ?_;refine Go.Wk.kv 45 (u:=.int .i64 ((n+A.length:Nat):Int)) (congrArg (Value.int .i64) ((Zn ⟨by show _<=((n:Nat):Int)+((A.length:Nat):Int);omega,by show((n:Nat):Int)+((A.length:Nat):Int)<=_;omega⟩).trans (by show((n:Nat):Int)+((A.length:Nat):Int)=_;omega))) ?_
 refine cl (Qcf a6 (PSt.start hbin) bo c6 hmx om om (nL b7 ai.size)) ?_;rintro _ w7 ⟨rfl,ca,an,hg7⟩;have a2:Ext w3 w7:=hg7.old au am;refine Jp (Qn (λh=>by cases h) ?_);refine Zl 11 kr rfl rfl ?_;refine ρ ?_;refine Qn (λ_=>Ext.refl _) ?_;refine hmkS 17 0 _ #[true,true,true,true,true,true,true,true,true,true,true,true,true,true,true,true] [12,13,14,15] [47,48,5,6] [SF.eq (.int .i64 0),SF.eq (.bool true),SF.eq (.int .i64 0),SF.eq (.bool true)] kr (by rfl) ?_ ?_
 .refine gsc (λvs v1 ah hd=>?_) ?_
  .simp only[slM];refine ρ ?_;exact Xq (Ext.refl _) rfl
  refine gsc (λvs v1 ah hd=>?_) ?_
  .simp only[slM];refine ρ ?_;exact Xq (Ext.refl _) rfl
  refine gsc (λvs v1 ah hd=>?_) ?_
  .have e0:vs 0=_:=hd 0;simp only[slM,e0];refine ρ ?_;exact Xq (Ext.refl _) rfl
  refine gsc (λvs v1 ah hd=>?_) gse
  have e1:vs 1=_:=hd 1;simp only[slM,e1];refine ρ ?_;exact Xq (Ext.refl _) rfl
 intro vs bj ap hd;have e0:vs 0=_:=hd 0;have e1:vs 1=_:=hd 1;have e2:vs 2=_:=hd 2;have e3:vs 3=_:=hd 3;simp only[slM,e0,e1,e2,e3];clear e0 e1 e2 e3 hd;have an:=an.ext ap;have a2:=a2.trans ap;generalize bj=w7 at *
 refine Zk kr ?_;refine ρ ?_;have ar:Ext w7 w7.drew:=(Ext.refl w7).drew;have a5:=an.ext ar;have ab:=a2.trans ar;refine ρ ?_;refine drC 18 [0,2,4,8] [(0,5),(0,6),(0,7),(1,1),(1,3),(1,9),(0,10),(0,11),(0,12),(2,13),(2,14)] kr ?_;refine ρp ?_;refine ρd ?_;refine dld (a5.blk.at (i:=3) rfl) ?_;refine ρd ?_;refine dcl (Qwz a5 ak om om) ?_;rintro X w8 ⟨hX,bz,a8⟩;refine⟨a8,?_⟩;have bb:=a5.ext a8;refine ρd ?_;refine dcl (Qgl bb ak om om om) ?_;rintro Y w9 ⟨hY,bu,a7⟩;refine⟨a7,?_⟩;have ba:=bb.ext a7;refine ρd ?_;refine dcl (Kk (n:=t'.n) (m:=t'.m) ba.blk rfl rfl om om) ?_;rintro _ ag ⟨rfl,J⟩;refine⟨J,?_⟩;have bd:=ba.ext J;refine ρd ?_;obtain⟨G,gc,_,eG,cn,_,c5,_,c4⟩:=id bd.goal.el;have b5:t'.goal.length=t'.n+t'.m+2:=ak.goal.1;rw[b5]at eG;subst eG;have aq:Ext w3 ag:=ab.trans (a8.trans (a7.trans J));have O:=(ao.ext D).ext aq
 obtain⟨cr,_,az,b3⟩:=c4 (t'.n+t'.m+1) om;have er:t'.goal[t'.n+t'.m+1]'(by omega)=t'.goal.getD t'.right pr0:=by simp[PT.right,List.getD,List.getElem?_eq_getElem (show t'.n+t'.m+1<t'.goal.length by omega)]
 rw[er]at az;generalize t'.goal.getD t'.right pr0=q at *
 obtain⟨F1,f1,F2,f2,rfl,bp⟩:=az.sl;have bq:Rd ag 3 G (t'.n+t'.m+2) _:=b5 ▸ c5;refine Xx 3 (t'.n+t'.m+1) bq om ?_;refine ρd ?_;refine Qb (λj u hu=>b3 j u hu) ?_;refine ρd ?_;obtain⟨X1,X2,_,rfl,_,_,_,_,_⟩:=id hX.el;obtain⟨Y1,Y2,_,rfl,_,_,_,_,_⟩:=id hY.el;refine dbld (λw=>Qmr _ _ _ _ _ _ _ _ _ _ _ _ _ w) ?_;refine ρd ?_;refine Jy ?_;have ch:=ao.lt;have cg:=D.size;have ce:=ab.size;have cd:=a8.size;have c0:=Jwm (hX.ext RtC.sta (by decide) (a7.trans J)) O noS (λe=>by have:=bz b2 e;omega);have bw:=Jwm (hY.ext RtC.sta (by decide) J) O noS (λe=>by have:=bu b2 e;omega);obtain⟨_,_,ev,q2,q3⟩:=bp;cases ev
 have bn:=q2.box O noS;have bm:=q3.box O noS;refine stb (cs':=[.int .i64 0,.slice X1 _ X2,.slice Y1 _ Y2,.slice none 0 0,.bool q.neg,.slice F1 _ f1,.slice F2 _ f2]) O ?_ (λu hu=>by
  simp only[List.mem_cons,List.not_mem_nil,or_false]at hu;rcases hu with rfl|rfl|rfl|rfl|rfl|rfl|rfl<;>rfl)
 intro bl bg b6 aw;have a9:GrN (λk=>TN b vr vb k∨k=b2) ag bl:=GrN.by b6 λk y=>by injection y with y;exact .inr y.symm
 refine ρ ?_;refine Qq ?_;refine Jy ?_;refine ρ ?_;exact Zb bg ⟨_,_,_,_,rfl,(c0.gr RtC.sta (by decide) a9).old RtC.sta (by decide) λk y=>y.elim,(bw.gr RtC.sta (by decide) a9).old RtC.sta (by decide) λk y=>y.elim,(bn.gr a9).old λk y=>y.elim,(bm.gr a9).old λk y=>y.elim,aw w (a4.trans aq) (nL ax.size bt)⟩
end Go.Proofs.YtebiphhfkdbpfaaGreatDoor
namespace Go.Wk
open Go.RowKit
variable {base d e k n s ty:Nat}{N:Nat->Prop}{v v':Value}{w w1 w2:World}
theorem Jgz{P:Program}{al:AL}{Q:Exit->Act->World->Prop}{ops:Array Oper}{rest:List Oper}{pos:String}{aft:Array Edge}{x y:Operand}{t yt:TypeId}{k2:IntKind}{v:Nat}(hv:v<=32)(kk:WL P n ops Q rest ((d,.int .u32 ((s / 2^v:Nat):Int))::al) w)(hx:ev al x=some (.int .u32 (s:Int)):=by rfl)(hy:ev al y=some (.int k2 (v:Int)):=by rfl)(hd:Nat.blt d n=true:=by rfl):
  WL P n ops Q (⟨some d,.binOp .shr t x y yt,ty,pos,aft,none⟩::rest) al w:=by
 rw[<-Jhg s v hv]at kk;exact wop hd (λa i=>Jhn hx hy om i (some d) w) kk
theorem Uy{sz m base' e' sz' m':Nat}{xs xs':List Value}(h:w.ownsRow base e sz v m xs)(h':w.ownsRow base' e' sz' v' m' xs')(hne:Nat.beq e e'=false)(hk:v.ownBlock=some k): v'.ownBlock≠some k:=by
 have j:e≠e':=by intro i;subst i;simp at hne
 rcases h.2 with⟨rfl,_⟩|⟨g,cap,cur,rfl,_,hh,_⟩
 .simp[Value.ownBlock]at hk
 intro u;rcases h'.2 with⟨rfl,_⟩|⟨g',cap',cur',rfl,_,hh',_⟩
 .simp[Value.ownBlock]at u
 have D:g=k:=by simpa [Value.ownBlock] using hk
 have y:g'=k:=by simpa [Value.ownBlock] using u
 grind
theorem OX.own{α:Type}{sz:Nat}{Φ:(Nat->Prop)->World->List Value->α->Prop}{ls:List α}(h:OX e sz Φ N w base v ls): ∃ m xs,w.ownsRow base e sz v m xs:=by
 obtain⟨ps,_,i,_⟩:=h;exact⟨_,_,i⟩
theorem GrN.by2{g:Option Nat}(h:GrN N w w1)(hg:w1.grownBy w2 g)(ho:∀ k,g=some k->w.heap.size<=k∨N k): GrN N w w2 :=
 ⟨hg.os.trans h.os,hg.tape.trans h.tape,hg.output.trans h.output,Nat.le_trans h.size hg.size,λk i hn=>(hg.block k (nM i h.size) λe=>(ho k e.symm).elim (λj=>om) hn).trans (h.block k i hn)⟩
end Go.Wk
namespace Go.Proofs.YtebiphhfkdbpfaaGreatDoor
open Go.RowKit Pl Go.Wk Bl
attribute [local irreducible] WC WL QX WD WDB WP WN WG WH
theorem Qhh(n:Nat)(hn:n<=1000)(w:World): Ret Tryz.prog 53 [.int .i64 (n:Int)] w λu w'=>OX 58 3 RtC (Ov w u) w' w.heap.size u (List.replicate n pr0)/\Ext w w':=by
 refine Jz Tryz.func53 Tryz.ntmps53 rfl kr rfl ?_;refine ρ ?_;refine mkRt n hn ?_;intro w1 A a2 hO hA;have hO:=hO (Ov w (.slice A n n));refine ρ ?_;refine Jr (fun (k:Nat)=>[(3,.slice A n n),(8,.int .i64 (n:Int)),(9,.int .i64 (k:Int))]) (λk w'=>k<=n/\Ext w w'/\OX 58 3 RtC (Ov w (.slice A n n)) w' w.heap.size (.slice A n n) (mix (List.replicate n pr0) (List.replicate n prz) k)) (λk=>n-k) 0 sB ⟨Nat.zero_le _,a2,by rw[Kl];exact hO⟩ ?_;rintro k w2 ⟨hk,y,i⟩;have Z:(mix (List.replicate n pr0) (List.replicate n prz) k).length=n:=by rw[Uf (by simp) (by simpa using hk)];simp
 refine ρ ?_;refine ci (λh=>?_) (λh=>?_)
 .have G:k<n:=by have:=oT h;omega
  clear h;refine ρ ?_;refine cl (Ky 0 (by decide) (by decide) w2) ?_;rintro r w3 ⟨hr,O⟩;have e0:PR.int 0=pr0:=rfl;rw[e0]at hr;obtain⟨C,e,D,f,rfl,hc⟩:=hr.cell;have J:=i.ext RtC.sta O;obtain⟨A',c',cs,ev,_,U,_⟩:=id J.el;rw[Z]at ev U;injection ev with ev1 ev2 ev3
  subst ev1;refine ρ ?_;refine ixq 3 k U G ?_;refine ρ ?_;obtain⟨_,_,_,_,a3⟩:=id J.form;have a5:k<(mix (List.replicate n pr0) (List.replicate n prz) k).length:=om
  refine stX RtC.sta J Z.symm a5 (cs:=[.bool pr0.neg,.slice C _ e,.slice D _ f]) (a:=pr0) (RtC.sta.old hc λj hj=>.inl ?_) (λg hg=>.inr hg) (Jt rfl rfl rfl) ?_
  .rcases hj with hj|hj
   .exact nM hj y.size
   obtain⟨_,_,_,_,h3⟩:=id i.form;exact(h3 j hj).2
  intro w4 a1 a6;rw[Ud (l':=List.replicate n pr0) (l:=List.replicate n prz) (x:=pr0) (by simp) (by simpa using G) (by simp[G])]at a1;refine ρ ?_;exact Jm (k+1) sO ⟨om,Js (y.trans O) a6 (λg hg=>(a3 g hg).1),a1⟩ om
 have a4:k=n:=by have:=oF h;omega
 subst a4;have e:=Jxh (l':=List.replicate k pr0) (l:=List.replicate k prz) (by simp);rw[List.length_replicate]at e;rw[e]at i;refine ρ ?_;exact Jq ⟨i,y⟩
theorem Qql{w:World}{A:Option Addr}{c n:Nat}{es:List Nat}(hn:n<=32): Ret Tryz.prog 50 [.agg (grC A c n es).toArray] w λu w'=>u=.int .u32 ((2^n-1:Nat):Int)/\Ext w w':=by
 have G:=Gb hn;have y:0<2^n:=Nat.two_pow_pos n;refine Jz Tryz.func50 Tryz.ntmps50 rfl kr rfl ?_;refine ρ ?_;refine bx (cs:=grC A c n es) ?_;intro w1 b j J D;refine ρ ?_;refine ld (D.at (i:=0) rfl) ?_;refine ρ ?_;refine sl64 (v:=n) om ?_;refine ρ ?_;refine Jq ⟨?_,j⟩;generalize 2^n=p at *
 congr 1
 rw[IntKind.wrap_u64,IntKind.wrap_u32];omega
open Go.RowKit Pl Go.Wk Bl
variable {E es:List Nat}{c i k n p s set v:Nat}
theorem zBl: Qa Tryz.prog 4=some (.bool false):=kr
theorem wfU(h:p<4294967296): (Lit.int .u32 (p:Int)).wf=true:=by
 simp only[Lit.wf,Bool.and_eq_true,decide_eq_true_eq];exact⟨by show(0:Int)<=_;omega,by show _<=(4294967295:Int);omega⟩
theorem Qng(hs:s<4294967296): bits .and .u32 ((s / 2^v:Nat):Int) 1=((s.testBit v).toNat:Int):=by
 have u:s / 2^v<4294967296:=Nat.lt_of_le_of_lt (Nat.div_le_self _ _) hs;have i:=u32_and_nat (s / 2^v) 1 u om;have j:s / 2^v &&& 1=(s.testBit v).toNat:=by
  rw[Nat.and_one_is_mod,Nat.toNat_testBit]
 rw[j]at i;exact i
theorem KU: Maps.Keyed Tryz.prog 63:=Maps.int_keyed Tryz.underlying63
theorem Jds(b:Bool)(A B:Option Addr)(m c m' c':Nat)(w:World): (Instr.buildSlice 56 1 #[(0,.agg #[.bool b,.slice A m c,.slice B m' c'])]).run Tryz.prog w=.ok (.slice (some ⟨w.heap.size,0,none⟩) 1 1) (w.alloc (.cells #[.bool b,.slice A m c,.slice B m' c'] 58)):=kr
def pkA(n:Nat)(E:List Nat)(set i:Nat): List (List PR):=(Jb E set i).map λi=>(Jv n set).map λv=>PR.int (((E.getD i 0) &&& set).testBit v).toNat
theorem Jxr(E:List Nat)(set:Nat): ∀ i,(Jb E set i).length<=i
 | 0=>by simp[Jb]
 | i+1=>by
  have:=Jxr E set i;unfold Jb;simp only;split<;>simp<;>omega
def Vk(E:List Nat)(set i p:Nat): Bool:=(List.range i).any λk=>(E.getD k 0) &&& set == p
theorem Jjk(h:(E.getD i 0) &&& set=0∨Vk E set i ((E.getD i 0) &&& set)=true): Jb E set (i+1)=Jb E set i:=by
 rw[Jb];exact if_pos h
theorem Jxp(h0:(E.getD i 0) &&& set≠0)(h1:Vk E set i ((E.getD i 0) &&& set)=false): Jb E set (i+1)=Jb E set i++[i]:=by
 rw[Jb];exact if_neg (by rintro(h|h);exact h0 h;unfold Vk at h1;rw[h1]at h;cases h)
theorem Jyk(E:List Nat)(set i p:Nat): Vk E set (i+1) p=(Vk E set i p || ((E.getD i 0) &&& set == p)):=by
 unfold Vk;rw[List.range_succ,List.any_append];simp
abbrev N2(s:Nat)(vF vA vB:Value): Nat->Prop:=λk=>k<s∨vA.ownBlock=some k∨vB.ownBlock=some k∨vF.ownBlock=some k
abbrev N1(s:Nat)(vM vC:Value): Nat->Prop:=λk=>k<s∨vC.ownBlock=some k∨vM.ownBlock=some k
theorem zPb: Qa Tryz.prog 124=some (.agg #[.slice none 0 0,.slice none 0 0,.slice none 0 0]):=kr
theorem Jmx(k set:Nat): Jv (k+1) set=if set.testBit k then Jv k set++[k] else Jv k set:=by
 unfold Jv;rw[List.range_succ,List.filter_append];cases h:set.testBit k<;>simp[h]
theorem Jbv(h:v∈Jv k set): v<k:=List.mem_range.1 (List.mem_filter.1 h).1
theorem Jbw(k set:Nat): (Jv k set).length<=k:=by
 unfold Jv;exact nL (List.length_filter_le _ _) (by simp)
theorem Qvq{w:World}{A:Option Addr}(h:GrV w A c n es)(hs:set<2^n)(hm:es.length<=5):
  Ret Tryz.prog 51 [.agg (grC A c n es).toArray,.int .u32 (set:Int)] w λu w'=>∃ vC vA vB MA mc FA fc,u=.tuple #[.agg #[vC,vA,vB],.slice MA (Jv n set).length mc,.slice FA (Jb es set es.length).length fc] /\
   GX 3 RtC Nn w' vC (List.replicate (Jv n set).length (PR.int 1))/\GX 1 MxC Nn w' vA (Zg n es set)/\GX 3 RtC Nn w' vB (List.replicate (Zg n es set).length (PR.int 1))/\Rd w' 1 MA (Jv n set).length (Jh (nz (Jv n set)))/\Rd w' 1 FA (Jb es set es.length).length (Jh (nz (Jb es set es.length)))/\Ext w w':=by
 have hn:=h.n32;have bd:set<4294967296:=nM hs (Gb hn);refine Jz Tryz.func51 Tryz.ntmps51 rfl kr rfl ?_;refine ρ ?_;refine bx (cs:=grC A c n es) ?_;intro w1 b1 cm gs en;refine ρ ?_;refine alc zPb ?_;intro w2 b2 ck fg eh;refine ρ ?_;refine alc zPb ?_;intro w3 b3 cj ff ap;have dd:=cm.trans (ck.trans cj);have ay:=(en.ext ck).ext cj;have eg:=eh.ext cj;refine ρ ?_;refine ld (ay.at (i:=0) rfl) ?_;refine ρ ?_;refine Xg (fun (k:Nat) (vM vC:Value)=>[(1,.int .u32 (set:Int)),(2,.pointer (some ⟨b1,0,none⟩)),(4,.pointer (some ⟨b2,0,none⟩)),(7,.pointer (some ⟨b3,0,none⟩)),(8,vM),(9,.slice none 0 0),(19,.int .i64 (n:Int)),(20,.int .i64 (k:Int))])
  (λk vM vC w'=>k<=n/\GrN (λi=>i=b3) w3 w'/\Zr w' w3.heap.size vM (Jv k set)/\OX 58 3 RtC (N1 w3.heap.size vM vC) w' w3.heap.size vC (List.replicate (Jv k set).length (PR.int 1))/\Blk w' b3 124 [vC,.slice none 0 0,.slice none 0 0]) (λk _ _=>n-k) 0 (.slice none 0 0) (.slice none 0 0) sB ⟨Nat.zero_le _,GrN.refl _ _,by simp[Jv,Zr];exact Zh _ _ _ _,by simp[Jv];exact OX.nil _ _,ap⟩ ?_
 rintro k vM vC w4 ⟨hk,a6,ak,an,d6⟩;refine ρ ?_;refine ci (λhc=>?_) (λhc=>?_)
 .have bw:k<n:=by have:=oT hc;omega
  clear hc;refine ρ ?_;refine Jgz (s:=set) (v:=k) om ?_;refine ρ ?_;rw[Jvh bd];refine ci (λhc=>?_) (λhc=>?_)
  .have cq:set.testBit k=true:=hc;have hmk:Jv (k+1) set=Jv k set++[k]:=by rw[Jmx,if_pos cq]
   have f6:=Jbw k set;refine ρ ?_;refine bsl (Jjt _) ?_;intro w5 b5 Z gq fm;refine ρ ?_;refine apI (z:=k) (Je ak Z) fm om (nL a6.size Z.size) ?_;intro ch w6 ab hg6 f5;rw[<-hmk]at ab;refine ρ ?_;have ad:¬ vC.ownBlock=some b3:=λe=>by
    obtain⟨_,_,_,_,h3⟩:=id an.form;have:=(h3 b3 e).1;have:=ap.lt;omega
   have ag:Ext w6 w6.drew:=(Ext.refl w6).drew;have c8:∀ k,vM.ownBlock=some k->w3.heap.size<=k:=λk e=>by
    obtain⟨_,_,_,_,h3⟩:=Jd ak;exact(h3 k e).1
   have dj:some b3≠vM.ownBlock:=λe=>by
    have:=c8 b3 e.symm;have:=ap.lt;omega
   have ao:=((d6.ext Z).grown hg6 dj).ext ag;have c1:=(((an.ext RtC.sta Z).old RtC.sta (N':=λk=>N1 w3.heap.size vM vC k∨ch.ownBlock=some k) λk hk=>hk.elim .inl λhk=>(f5 k hk).imp (λhk=>.inr (.inr hk)) id).gr RtC.sta (GrN.by hg6 λk e=>e) (M:=λk=>vM.ownBlock=some k) λk hk=>⟨.inl (.inr (.inr hk)),by
    obtain⟨_,_,ho⟩:=an.own;exact Uy ak ho rfl hk⟩)
   refine drN (λk=>vC.ownBlock=some k) 18 [(0,0),(0,1),(1,2),(1,3),(1,4),(0,5),(2,6)] kr ?_;refine ρn ?_;refine nld (λw' hg=>(Qs ao hg ad).at (i:=0) rfl) ?_;refine ρn ?_;refine nop ?_;refine cl (Ky 1 (by decide) (by decide) _) ?_;rintro r w7 ⟨hr,bb⟩;obtain⟨D,e,F,f,rfl,hc⟩:=hr.cell;refine Jp (Vv (GrN.ext bb) ?_);refine ρn ?_;refine nop ?_;refine bsl (Jds _ _ _ _ _ _ _) ?_;intro w8 b8 G fe d4;refine Jp (Vv (GrN.ext G) ?_);have au:=ag.trans (bb.trans G);have e8:=(c1.ext RtC.sta au).old RtC.sta (N':=λk=>(N1 w3.heap.size vM vC k∨ch.ownBlock=some k)∨w8.heap.size<=k) λk hk=>hk;have gp:(List.replicate (Jv k set).length (PR.int 1)).length=(Jv k set).length:=by simp
   refine ρn ?_;refine nop ?_;refine apX ERt RtC.sta e8 d4 rfl (Jt rfl rfl rfl) (RtC.sta.old (RtC.sta.gr hc (GrN.ext G)) λj hj=>?_) (λg hg=>.inl (.inl (.inr (.inl hg)))) om (by decide) (nL a6.size (nL Z.size (nL hg6.size au.size))) ?_
   .have z1:=a6.size;have z2:=Z.size;have z3:=hg6.size;have z4:=ag.size;rcases hj with((hj|hj|hj)|hj)|hj
    .exact .inl (show j<w6.drew.heap.size by omega)
    .obtain⟨_,_,_,_,h3⟩:=id c1.form;have:=(h3 j hj).2;exact .inl (show j<w6.drew.heap.size by omega)
    .obtain⟨_,_,_,_,h3⟩:=Jd ak;have:=(h3 j hj).2;exact .inl (show j<w6.drew.heap.size by omega)
    .obtain⟨_,_,_,_,h3⟩:=Jd ab;have:=(h3 j hj).2;exact .inl (show j<w6.drew.heap.size by omega)
    exact .inr hj
   intro ga w9 b7 a4 bu;obtain⟨_,g7,bn⟩:=e8.own;have cy:=Jkp (Je ab au) bn a4 rfl;have be:List.replicate (Jv k set).length (PR.int 1)++[PR.int 1]=List.replicate (Jv (k+1) set).length (PR.int 1):=by rw[hmk,List.length_append,List.length_singleton,List.replicate_succ']
   rw[be]at b7;obtain⟨U,uc,eU,gf,_⟩:=id b7.form;subst eU;have cw:¬ (Value.slice U (List.replicate (Jv (k+1) set).length (PR.int 1)).length uc).ownBlock=some b3:=λe=>by
    obtain⟨_,_,_,_,h3⟩:=id b7.form;have:=(h3 b3 e).1;have:=ap.lt;omega
   have cu:¬ ch.ownBlock=some b3:=λe=>by
    obtain⟨_,_,_,_,h3⟩:=Jd ab;have:=(h3 b3 e).1;have:=ap.lt;omega
   refine Jp (Vv (GrN.by a4 λk e=>e) ?_);have d3:=(ao.ext (bb.trans G)).grown a4 λe=>ad e.symm;refine ρn ?_;refine Io ?_;refine stF (i:=0) d3 rfl ?_;intro cg az c5;have bh:GrN (λi=>i=b3) w9 cg:=GrN.by c5 λk hk=>by injection hk with hk;exact hk.symm
   have ec:=b7.gr RtC.sta bh λk hk=>⟨.inl (.inl (.inl (by rw[hk];exact ap.lt))),by rw[hk];exact cw⟩;have dz:=Qf cy bh λg hg e=>cu (e ▸ hg);refine Jp (Ie ?_);refine ρn ?_;refine ρ ?_;refine Qm (k+1) _ _ sO ⟨om,?_,dz,ec.old RtC.sta λi hi=>?_,az⟩ om
   .exact((((a6.trans (GrN.ext Z)).by2 hg6 λk e=>.inl (c8 k e)).trans (GrN.ext au)).by2 a4 λi e=>.inl (by
     obtain⟨_,_,_,_,h3⟩:=id an.form;exact(h3 i e).1)).by2 c5 λi e=>.inr (by injection e with e;exact e.symm)
   rcases hi with hi|hi|hi
   .exact .inl (.inl (.inl (.inl hi)))
   .exact .inl ((bu i hi).elim (λh=>.inl (.inl (.inr (.inl h)))) .inr)
   exact .inl (.inl (.inr hi))
  have cq:¬ set.testBit k=true:=by rw[hc];decide
  have hmk:Jv (k+1) set=Jv k set:=by rw[Jmx,if_neg cq]
  refine ρ ?_;exact Qm (k+1) _ _ sO ⟨om,a6,by rw[hmk];exact ak,by rw[hmk];exact an,d6⟩ om
 have f7:k=n:=by have:=oF hc;omega
 subst f7;clear hk hc;have gn:=a6;refine ρ ?_;refine mkm 63 ?_;intro w5 bm Z cr co;have gm:=en.lt;have gl:=eh.lt;have gk:=ap.lt;have gd:=a6.size;have ek:=Qs ay (a6.trans (GrN.ext Z)) om;have cn:w.heap.size<=b3:=nL (cm.trans ck).size ff;have ar:Ext w w4:=a6.old dd λk e=>by rw[e];exact cn
 have e0:Jb es set 0=[]:=rfl;refine ρ ?_;refine ld (ek.at (i:=1) rfl) ?_;obtain⟨MA,mc,eM,gj,cx⟩:=Jd ak;have ds:=Je ak Z;subst eM;have f6:=Jbw k set;refine ρ ?_;refine Jqg (fun (i:Nat) (vF vA vB:Value)=>[(1,.int .u32 (set:Int)),(2,.pointer (some ⟨b1,0,none⟩)),(4,.pointer (some ⟨b2,0,none⟩)),(7,.pointer (some ⟨b3,0,none⟩)),(8,.slice MA (Jv k set).length mc),(9,vF),(11,.map (some bm)),(41,.slice A es.length c),(42,.int .i64 (es.length:Int)),(43,.int .i64 (i:Int))])
  (λi vF vA vB w'=>i<=es.length/\GrN (λi=>i=b3∨i=bm) w5 w'/\Zr w' w5.heap.size vF (Jb es set i)/\OX 56 1 MxC (N2 w5.heap.size vF vA vB) w' w5.heap.size vA (pkA k es set i)/\OX 58 3 RtC (N2 w5.heap.size vF vA vB) w' w5.heap.size vB (List.replicate (Jb es set i).length (PR.int 1))/\Blk w' b3 124 [vC,vA,vB]/\(∃ m f,m<=i/\MapS Tryz.prog 63 w' bm m f/\∀ p:Nat,0<p->p<4294967296->(f (.int .u32 (p:Int))).getD (.bool false)=.bool (Vk es set i p)))
  (λi _ _ _=>es.length-i) 0 (.slice none 0 0) (.slice none 0 0) (.slice none 0 0) sB ⟨Nat.zero_le _,GrN.refl _ _,by rw[e0];exact Zh _ _ _ _,by rw[pkA,e0];exact OX.nil _ _,by rw[e0];exact OX.nil _ _,d6.ext Z,0,_,Nat.le_refl _,co,λp _ _=>rfl⟩ ?_
 rintro i vF vA vB w6 ⟨hi,hg6,am,b9,aa,ao,m,f,gi,ab,bz⟩;have gc:=Z.size;refine ρ ?_;refine ci (λhc=>?_) (λhc=>?_)
 .have bw:i<es.length:=by have:=oT hc;omega
  clear hc;have ba:Ext w w6:=hg6.old (ar.trans Z) λk e=>e.elim (λe=>by rw[e];exact cn) λe=>by rw[e];exact nL ar.size cr
  have hm:=getD_mem' 0 es bw;have h6:=h.ext ba;refine ρ ?_;refine ix i h6.rd bw ?_;refine ρ ?_;refine ld (h6.rd.cell (Jvm bw)) ?_;refine ρ ?_;have dh:=h6.lt32 hm;have bt:es.getD i 0 &&& set<4294967296:=Nat.lt_of_le_of_lt Nat.and_le_right bd;have f9:=Jxr es set i;have fd:bits .and .u32 ((es.getD i 0:Nat):Int) ((set:Nat):Int)=((es.getD i 0 &&& set:Nat):Int):=u32_and_nat _ _ dh bd;rw[fd];have gg:Jb es set (i+1)=Jb es set i->∀ w',GrN (λi=>i=b3∨i=bm) w5 w'->True:=λ_ _ _=>trivial;by_cases hp0:es.getD i 0 &&& set=0
  .refine kt 53 ?_ ?_
   .rw[hp0];rfl
   refine ρ ?_;have hk:=Jjk (E:=es) (set:=set) (i:=i) (.inl hp0);refine Uk (i+1) _ _ _ sO ⟨om,hg6,by rw[hk];exact am,by rw[pkA,hk];exact b9,by rw[hk];exact aa,ao,m,f,om,ab,λp h1 h2=>?_⟩ om;rw[bz p h1 h2,Jyk,hp0,show(0 == p)=false from beq_eq_false_iff_ne.2 om,Bool.or_false]
  refine kf 53 ?_ ?_
  .exact beq_eq_false_iff_ne.2 om
  refine ρ ?_;refine mlk KU ab zBl (Maps.keyOf_int_mk Tryz.underlying63 (a:=((es.getD i 0 &&& set:Nat):Int)) (wfU bt)) ?_;rw[bz (es.getD i 0 &&& set) om bt];refine ρ ?_;refine ci (λhc=>?_) (λhc=>?_)
  .refine ρ ?_;have hk:=Jjk (E:=es) (set:=set) (i:=i) (.inr hc);refine Uk (i+1) _ _ _ sO ⟨om,hg6,by rw[hk];exact am,by rw[pkA,hk];exact b9,by rw[hk];exact aa,ao,m,f,om,ab,λp h1 h2=>?_⟩ om;rw[bz p h1 h2,Jyk];by_cases e:es.getD i 0 &&& set=p
   .subst e;rw[hc];rfl
   rw[beq_eq_false_iff_ne.2 e,Bool.or_false]
  have hk:=Jxp hp0 hc;have ax:∀ k,vF.ownBlock=some k->w5.heap.size<=k:=λk e=>by
   obtain⟨_,_,_,_,h3⟩:=Jd am;exact(h3 k e).1
  have af:∀ k,vA.ownBlock=some k->w5.heap.size<=k/\k<w6.heap.size:=λk e=>by
   obtain⟨_,_,_,_,h3⟩:=id b9.form;exact h3 k e
  have a9:∀ k,vB.ownBlock=some k->w5.heap.size<=k/\k<w6.heap.size:=λk e=>by
   obtain⟨_,_,_,_,h3⟩:=id aa.form;exact h3 k e
  have di:bm<w5.heap.size:=co.lt;refine ρ ?_;refine mup KU ab (by unfold maxLen;omega) (Maps.keyOf_int_mk Tryz.underlying63 (a:=((es.getD i 0 &&& set:Nat):Int)) (wfU bt)) ?_;intro w7 cz hg7;have a1:GrN (λi=>i=bm) w6 w7:=GrN.by hg7 λk e=>by injection e with e;exact e.symm
  have bl:=Qf am a1 λg hg e=>by have:=ax g hg;omega
  have c2:=b9.gr MxC.sta a1 λk e=>⟨.inl om,λe'=>by have:=(af k e').1;omega⟩;have c0:=aa.gr RtC.sta a1 λk e=>⟨.inl om,λe'=>by have:=(a9 k e').1;omega⟩;have d5:=Qs ao a1 om;refine ρ ?_;refine bsl (Jjt _) ?_;intro w8 b8 G fe d4;refine ρ ?_;refine apI (z:=i) (Je bl G) d4 om (nL hg6.size (nL hg7.size G.size)) ?_;intro a2 w9 d0 a4 bu;rw[<-hk]at d0;have bf:GrN (λi=>i=b3∨i=bm) w5 w9:=((hg6.by2 hg7 λq e=>.inr (by injection e with e;exact .inr e.symm)).trans (GrN.ext G)).by2 a4 λq e=>.inl (ax q e);have cy:=Qf ds bf λg hg e=>by
   have:=cx g hg;omega
  have dm:=Rd.own cy;refine ρ ?_;refine Qj (fun (j:Nat) (vR:Value)=>[(1,.int .u32 (set:Int)),(2,.pointer (some ⟨b1,0,none⟩)),(4,.pointer (some ⟨b2,0,none⟩)),(7,.pointer (some ⟨b3,0,none⟩)),(8,.slice MA (Jv k set).length mc),(9,a2),(11,.map (some bm)),(14,.int .u32 ((es.getD i 0 &&& set:Nat):Int)),(15,vR),(41,.slice A es.length c),(42,.int .i64 (es.length:Int)),(43,.int .i64 (i:Int)),(64,.slice MA (Jv k set).length mc),(65,.int .i64 ((Jv k set).length:Int)),(66,.int .i64 (j:Int))])
   (λj vR w'=>j<=(Jv k set).length/\Ext w9 w'/\OX 58 3 RtC (λq=>q<w9.heap.size∨vR.ownBlock=some q) w' w9.heap.size vR (((Jv k set).take j).map λv=>PR.int (((es.getD i 0) &&& set).testBit v).toNat)) (λj _=>(Jv k set).length-j) 0 (.slice none 0 0) sB ⟨Nat.zero_le _,Ext.refl _,OX.nil _ _⟩ ?_
  rintro j vR cg ⟨hj,O,ae⟩;refine ρ ?_;refine ci (λhc=>?_) (λhc=>?_)
  .have ah:j<(Jv k set).length:=by have:=oT hc;omega
   clear hc;refine ρ ?_;refine ix j (dm.ext O) ah ?_;refine ρ ?_;refine ld ((dm.ext O).cell (Xb ah)) ?_;refine ρ ?_;have ge:(Jv k set).getD j 0<k:=Jbv (getD_mem' 0 _ ah);refine Jgz (s:=es.getD i 0 &&& set) (v:=(Jv k set).getD j 0) om ?_;refine ρ ?_;refine Go.Wk.kv 75 (u:=.int .i64 (((es.getD i 0 &&& set).testBit ((Jv k set).getD j 0)).toNat:Int)) (congrArg (Value.int .i64) ?_) ?_
   .rw[Qng bt];exact Zn (by cases (es.getD i 0 &&& set).testBit ((Jv k set).getD j 0)<;>decide)
   refine cl (Ky ((((es.getD i 0 &&& set).testBit ((Jv k set).getD j 0)).toNat:Nat):Int) (by cases (es.getD i 0 &&& set).testBit ((Jv k set).getD j 0)<;>decide) (by cases (es.getD i 0 &&& set).testBit ((Jv k set).getD j 0)<;>decide) _) ?_;rintro r b6 ⟨hr,J⟩;obtain⟨D,e,F,f',rfl,fa⟩:=hr.cell;refine ρ ?_;refine bsl (Jds _ _ _ _ _ _ _) ?_;intro ce gu aw g5 bq;have dk:=((ae.ext RtC.sta J).ext RtC.sta aw).old RtC.sta (N':=λq=>(q<w9.heap.size∨vR.ownBlock=some q)∨ce.heap.size<=q) λq y=>y;have bi:∀ q,vR.ownBlock=some q->w9.heap.size<=q/\q<cg.heap.size:=λq e=>by
    obtain⟨_,_,_,_,h3⟩:=id ae.form;exact h3 q e
   refine ρ ?_;refine apX ERt RtC.sta dk bq rfl (Jt rfl rfl rfl) (RtC.sta.old (RtC.sta.gr fa (GrN.ext aw)) λq y=>?_) (λg hg=>.inl (.inr hg)) (by simp;omega) (by decide) (nL O.size (nL J.size aw.size)) ?_
   .rcases y with(y|y)|y
    .exact .inl (nM y O.size)
    .exact .inl (bi q y).2
    exact .inr y
   intro g9 b4 c6 a7 dg;refine ρ ?_;refine Ja (j+1) _ sO ⟨om,Js (O.trans (J.trans aw)) a7 λq e=>(bi q e).1,?_⟩ om;have e1:((Jv k set).take j).map (λv=>PR.int (((es.getD i 0) &&& set).testBit v).toNat)++[PR.int ((((es.getD i 0 &&& set).testBit ((Jv k set).getD j 0)).toNat:Nat):Int)]=((Jv k set).take (j+1)).map λv=>PR.int (((es.getD i 0) &&& set).testBit v).toNat:=by
    rw[List.take_add_one,List.getElem?_eq_getElem ah,List.map_append];simp[List.getD,List.getElem?_eq_getElem ah]
   rw[e1]at c6;exact c6.old RtC.sta λq y=>.inl (y.elim (λy=>.inl (.inl y)) λy=>(dg q y).elim (λy=>.inl (.inr y)) .inr)
  have ah:j=(Jv k set).length:=by have:=oF hc;omega
  subst ah;rw[List.take_length]at ae;clear hc hj;have e7:∀ q,vB.ownBlock=some q->q<w9.heap.size:=λq e=>by have:=(a9 q e).2;have:=hg7.size;have:=G.size;have:=a4.size;omega
  have eo:∀ q,vA.ownBlock=some q->q<w9.heap.size:=λq e=>by have:=(af q e).2;have:=hg7.size;have:=G.size;have:=a4.size;omega
  have bj:∀ q,a2.ownBlock=some q->w5.heap.size<=q/\q<w9.heap.size:=λq e=>by
   obtain⟨_,_,_,_,h3⟩:=Jd d0;exact h3 q e
  have g3:b3<w5.heap.size:=om
  have e2:∀ q,vF.ownBlock=some q->q<w9.heap.size:=λq e=>by
   obtain⟨_,_,_,_,h3⟩:=Jd am;have:=(h3 q e).2;have:=hg7.size;have:=G.size;have:=a4.size;omega
  have fx:=bf.size;have g2:=O.size;have d3:=(d5.ext G).grown a4 λe=>by have:=ax b3 e.symm;omega
  have az:=d3.ext O;have dn:=(cz.ext G).kept a4 λe=>by have:=ax bm e.symm;omega
  have fo:=(((c2.ext MxC.sta G).old MxC.sta (N':=λq=>N2 w5.heap.size vF vA vB q∨a2.ownBlock=some q) λq y=>y.elim .inl λy=>(bu q y).imp (λy=>.inr (.inr (.inr y))) id).gr MxC.sta (GrN.by a4 λq e=>e) (M:=λq=>vF.ownBlock=some q) λq y=>⟨.inl (.inr (.inr (.inr y))),by
   obtain⟨_,_,ho⟩:=(c2.ext MxC.sta G).own;exact Uy (Je bl G) ho rfl y⟩)
  have b7:=(((c0.ext RtC.sta G).old RtC.sta (N':=λq=>N2 w5.heap.size vF vA vB q∨a2.ownBlock=some q) λq y=>y.elim .inl λy=>(bu q y).imp (λy=>.inr (.inr (.inr y))) id).gr RtC.sta (GrN.by a4 λq e=>e) (M:=λq=>vF.ownBlock=some q) λq y=>⟨.inl (.inr (.inr (.inr y))),by
   obtain⟨_,_,ho⟩:=(c0.ext RtC.sta G).own;exact Uy (Je bl G) ho rfl y⟩)
  have dl:∀ q,(N2 w5.heap.size vF vA vB q∨a2.ownBlock=some q)->q<w9.heap.size:=λq y=>by
   rcases y with(y|y|y|y)|y
   .omega
   .exact eo q y
   .exact e7 q y
   .exact e2 q y
   exact(bj q y).2
  obtain⟨RA,rc,eR,_,bi⟩:=id ae.form;subst eR;refine ρ ?_;refine ld (az.at (i:=1) rfl) ?_;refine ρ ?_;refine bsl (Jtf _ _ _) ?_;intro b6 gw J g6 em;have g1:=J.size;have cc:=((fo.ext MxC.sta O).ext MxC.sta J).old MxC.sta (N':=λq=>(N2 w5.heap.size vF vA vB q∨a2.ownBlock=some q)∨b6.heap.size<=q) λq y=>y;have ca:=((b7.ext RtC.sta O).ext RtC.sta J).old RtC.sta (N':=λq=>(N2 w5.heap.size vF vA vB q∨a2.ownBlock=some q)∨b6.heap.size<=q) λq y=>y;generalize hrow:(Jv k set).map (λv=>PR.int (((es.getD i 0) &&& set).testBit v).toNat)=row at *
  have gh:row.length=(Jv k set).length:=by rw[<-hrow];simp
  have fi:GX 3 RtC (λq=>(N2 w5.heap.size vF vA vB q∨a2.ownBlock=some q)∨b6.heap.size<=q) b6 (.slice RA row.length rc) row:=((ae.ext RtC.sta J).old RtC.sta (N':=λq=>(q<w9.heap.size∨(Value.slice RA row.length rc).ownBlock=some q)∨b6.heap.size<=q) λq y=>y).gx RtC.sta om λq y=>by
   rcases y with y|y
   .have:=dl q y;exact⟨.inl (.inl this),λe=>by have:=(bi q e).1;omega⟩
   exact⟨.inr y,λe=>by have:=(bi q e).2;omega⟩
  have de:(pkA k es set i).length=(Jb es set i).length:=by simp[pkA]
  refine ρ ?_;refine apX EMx MxC.sta cc em rfl (λu hu=>by rw[List.mem_singleton.1 hu];rfl) ⟨_,rfl,fi⟩ (λg hg=>.inl (.inl (.inr (.inl hg)))) om (by decide) om ?_;intro ac ce br a8 c4;have f4:pkA k es set i++[row]=pkA k es set (i+1):=by rw[pkA,pkA,hk,List.map_append,<-hrow];rfl
  rw[f4]at br;obtain⟨A',fw,fu,_,aq⟩:=id br.form;subst fu;have g0:=a8.size;obtain⟨_,_,bs⟩:=cc.own;obtain⟨_,_,d2⟩:=ca.own;have e6:=Jkp (Je d0 (O.trans J)) bs a8 rfl;have eb:=ca.gr RtC.sta (GrN.by a8 λq e=>e) (M:=λq=>vA.ownBlock=some q) λq y=>⟨.inl (.inl (.inr (.inl y))),Uy bs d2 rfl y⟩;have bq:=(az.ext J).grown a8 λe=>by have:=(af b3 e.symm).1;omega
  have dx:=((dn.ext O).ext J).kept a8 λe=>by have:=(af bm e.symm).1;omega
  refine ρ ?_;refine stF (i:=1) bq rfl ?_;intro b4 ay a7;have aj:GrN (λq=>q=b3) ce b4:=GrN.by a7 λq e=>by injection e with e;exact e.symm
  have fz:=a7.size;generalize hvA:Value.slice A' (pkA k es set (i+1)).length fw=ac at *
  have et:=(br.old MxC.sta (N':=λq=>(N2 w5.heap.size vF vA vB q∨a2.ownBlock=some q)∨ac.ownBlock=some q) λq y=>.inl (y.elim .inl λy=>(c4 q y).imp (λy=>.inl (.inr (.inl y))) id)).gr MxC.sta aj λq y=>⟨.inl (.inl (.inl om)),λe=>by have:=(aq q e).1;omega⟩;have ea:=(eb.old RtC.sta (N':=λq=>(N2 w5.heap.size vF vA vB q∨a2.ownBlock=some q)∨ac.ownBlock=some q) λq y=>.inl (y.elim .inl λy=>(c4 q y).imp (λy=>.inl (.inr (.inl y))) id)).gr RtC.sta aj λq y=>⟨.inl (.inl (.inl om)),λe=>by have:=(a9 q e).1;omega⟩;have e5:=Qf e6 aj λg hg e=>by have:=(bj g hg).1;omega
  have dw:=dx.kept a7 λe=>by injection e with e;omega
  have fh:∀ q,((N2 w5.heap.size vF vA vB q∨a2.ownBlock=some q)∨ac.ownBlock=some q)->q<b4.heap.size:=λq y=>by
   rcases y with y|y
   .have:=dl q y;omega
   have:=(aq q y).2;omega
  have ag:Ext b4 b4.drew:=(Ext.refl b4).drew;have f2:=ag.size;have ed:=ay.ext ag;have ad:¬ vB.ownBlock=some b3:=λe=>by have:=(a9 b3 e).1;omega
  refine ρ ?_;refine drN (λq=>vB.ownBlock=some q) 18 [(0,0),(0,1),(1,2),(1,3),(1,4),(0,5),(2,6)] kr ?_;refine ρn ?_;refine nld (λw' hg=>(Qs ed hg ad).at (i:=2) rfl) ?_;refine ρn ?_;refine nop ?_;refine cl (Ky 1 (by decide) (by decide) _) ?_;rintro r g8 ⟨hr,bc⟩;obtain⟨D,e,F,f',rfl,fb⟩:=hr.cell;refine Jp (Vv (GrN.ext bc) ?_);refine ρn ?_;refine nop ?_;refine bsl (Jds _ _ _ _ _ _ _) ?_;intro cd gt av g4 d7;have a3:=ag.trans (bc.trans av);have f3:=a3.size;have c9:=(ea.ext RtC.sta a3).old RtC.sta (N':=λq=>((N2 w5.heap.size vF vA vB q∨a2.ownBlock=some q)∨ac.ownBlock=some q)∨cd.heap.size<=q) λq y=>y;have cb:=(et.ext MxC.sta a3).old MxC.sta (N':=λq=>((N2 w5.heap.size vF vA vB q∨a2.ownBlock=some q)∨ac.ownBlock=some q)∨cd.heap.size<=q) λq y=>y;refine Jp (Vv (GrN.ext av) ?_);refine ρn ?_;refine nop ?_;refine apX ERt RtC.sta c9 d7 rfl (Jt rfl rfl rfl) (RtC.sta.old (RtC.sta.gr fb (GrN.ext av)) λq y=>y.elim (λy=>.inl (nM (fh q y) f2)) .inr) (λg hg=>.inl (.inl (.inl (.inr (.inr (.inl hg)))))) (by simp;omega) (by decide) om ?_
  intro dc f0 bo a5 df;have be:List.replicate (Jb es set i).length (PR.int 1)++[PR.int 1]=List.replicate (Jb es set (i+1)).length (PR.int 1):=by rw[hk,List.length_append,List.length_singleton,List.replicate_succ']
  rw[be]at bo;obtain⟨_,_,bp⟩:=c9.own;obtain⟨_,_,d8⟩:=cb.own;have e4:=Jkp (Je e5 a3) bp a5 rfl;have er:=cb.gr MxC.sta (GrN.by a5 λq e=>e) (M:=λq=>vB.ownBlock=some q) λq y=>⟨.inl (.inl (.inl (.inr (.inr (.inl y))))),Uy bp d8 rfl y⟩;have ej:=(ed.ext (bc.trans av)).grown a5 λe=>ad e.symm;have du:=(dw.ext a3).kept a5 λe=>by have:=(a9 bm e.symm).1;omega
  obtain⟨U,uc,eU,_,d1⟩:=id bo.form;subst eU;have fy:=a5.size;refine Jp (Vv (GrN.by a5 λq e=>e) ?_);refine ρn ?_;refine Io ?_;refine stF (i:=2) ej rfl ?_;intro db ei bg;have ai:GrN (λq=>q=b3) f0 db:=GrN.by bg λq e=>by injection e with e;exact e.symm
  generalize hvB:Value.slice U (List.replicate (Jb es set (i+1)).length (PR.int 1)).length uc=dc at *
  have c7:∀ q,N2 w5.heap.size a2 ac dc q->(((N2 w5.heap.size vF vA vB q∨a2.ownBlock=some q)∨ac.ownBlock=some q)∨cd.heap.size<=q):=λq y=>by
   rcases y with y|y|y|y
   .exact .inl (.inl (.inl (.inl y)))
   .exact .inl (.inr y)
   .exact(df q y).imp (λy=>.inl (.inl (.inr (.inr (.inl y))))) id
   exact .inl (.inl (.inr y))
  have ep:=(er.gr MxC.sta ai λq y=>⟨.inl (.inl (.inl (.inl om))),λe=>by have:=(aq q e).1;omega⟩).old MxC.sta λq y=>.inl (c7 q y);have e9:=(bo.gr RtC.sta ai λq y=>⟨.inl (.inl (.inl (.inl om))),λe=>by have:=(d1 q e).1;omega⟩).old RtC.sta λq y=>.inl (c7 q y);have e3:=Qf e4 ai λg hg e=>by have:=(bj g hg).1;omega
  have dt:=du.kept bg λe=>by injection e with e;omega
  have cp:GrN (λi=>i=b3∨i=bm) w5 db:=((((bf.trans (GrN.ext (O.trans J))).by2 a8 λq e=>.inl (af q e).1).by2 a7 λq e=>.inr (by injection e with e;exact .inl e.symm)).trans (GrN.ext a3)).by2 a5 (λq e=>.inl (a9 q e).1) |>.by2 bg λq e=>.inr (by injection e with e;exact .inl e.symm);refine Jp (Ie ?_);refine ρn ?_;refine ρ ?_;refine Uk (i+1) _ _ _ sO ⟨om,cp,e3,ep,e9,ei,m+1,_,om,dt,λp h1 h2=>?_⟩ om;rw[Jyk];by_cases e:es.getD i 0 &&& set=p
  .subst e;rw[Jqj (by trivial)];simp
  rw[Jqh (λe'=>e (by injection e' with _ e';omega)),bz p h1 h2,beq_eq_false_iff_ne.2 e,Bool.or_false]
 have f8:i=es.length:=by have:=oF hc;omega
 subst f8;obtain⟨ew,eu,fq,_,bn⟩:=id an.form;obtain⟨ez,ey,ft,_,fn⟩:=id b9.form;obtain⟨da,d9,fr,_,fk⟩:=id aa.form;obtain⟨gz,gy,fp,_,fj⟩:=Jd am;have di:bm<w5.heap.size:=co.lt;have c1:=((an.old RtC.sta (N':=λq=>N1 w3.heap.size (.slice MA (Jv k set).length mc) vC q∨q=bm) λq y=>y.imp id λy=>by rw[y];exact cr).ext RtC.sta Z).gr RtC.sta hg6 λq y=>y.elim (λy=>⟨.inl (.inl om),λe=>by have:=(bn q e).1;omega⟩) λy=>⟨.inr y,λe=>by have:=(bn q e).2;omega⟩;have dq:=Qf ds hg6 λg hg e=>by
  have:=cx g hg;omega
 have ef:=Qs (Qs (eg.ext (Ext.refl _)) (a6.trans (GrN.ext Z)) om) hg6 om;subst fq;subst ft;subst fr;subst fp;refine ρ ?_;refine lds (cs:=[.slice ew _ eu,.slice ez _ ey,.slice da _ d9]) (λj u hu=>ao.at hu) ?_;refine ρ ?_;refine stb (cs':=[.slice ew _ eu,.slice ez _ ey,.slice da _ d9]) ef ?_ (λu hu=>by
  simp only[List.mem_cons,List.not_mem_nil,or_false]at hu;rcases hu with rfl|rfl|rfl<;>rfl)
 intro w7 d5 hg7 bb;have a1:GrN (λq=>q=b2) w6 w7:=GrN.by hg7 λq e=>by injection e with e;exact e.symm
 have gb:=hg6.size;have c0:=(c1.gr RtC.sta a1 λq y=>⟨.inl (.inl om),λe=>by have:=(bn q e).1;omega⟩).gx (N':=Nn) RtC.sta (by simp;omega) λq y=>y.elim;have de:(pkA k es set es.length).length=(Jb es set es.length).length:=by simp[pkA]
 have f9:=Jxr es set es.length;have c2:=(b9.gr MxC.sta a1 λq y=>⟨.inl om,λe=>by have:=(fn q e).1;omega⟩).gx (N':=Nn) MxC.sta om λq y=>y.elim;have ee:=(aa.gr RtC.sta a1 λq y=>⟨.inl om,λe=>by have:=(fk q e).1;omega⟩).gx (N':=Nn) RtC.sta (by simp;omega) λq y=>y.elim;have cz:=Rd.own (Qf dq a1 λg hg e=>by have:=cx g hg;omega);have bl:=Rd.own (Qf am a1 λg hg e=>by have:=fj g hg;omega);have ba:Ext w w6:=hg6.old (ar.trans Z) λq e=>e.elim (λe=>by rw[e];exact cn) λe=>by rw[e];exact nL ar.size cr
 have fl:GX 3 RtC Nn w7 (.slice da (List.replicate (Jb es set es.length).length (PR.int 1)).length d9) (List.replicate (Zg k es set).length (PR.int 1)):=by
  rw[show(Zg k es set).length=(Jb es set es.length).length from de];exact ee
 refine ρ ?_;exact finC3 d5 ⟨_,_,_,_,_,_,_,rfl,c0,c2,fl,cz,bl,bb w ba (nL cm.size fg)⟩
open Go.RowKit Pl Go.Wk Bl
variable {E es is:List Nat}{l l1 l2 xs:List PR}{b i j n s set:Nat}
theorem Jqw(n:Nat)(E:List Nat)(set:Nat): (Zg n E set).length=(Jb E set E.length).length:=by simp[Zg]
theorem Jlx(hi:i<(Jb E set E.length).length): (Zg n E set).getD i []=(Jv n set).map λv=>PR.int (((E.getD (Jb E set E.length)[i] 0) &&& set).testBit v).toNat:=by
 unfold Zg;simp[List.getD,List.getElem?_map,List.getElem?_eq_getElem hi]
theorem Jbg(hi:i<(Jb E set E.length).length)(hj:j<(Jv n set).length): ((Zg n E set).getD i []).getD j pr0=PR.int (((E.getD (Jb E set E.length)[i] 0) &&& set).testBit (Jv n set)[j]).toNat:=by
 rw[Jlx hi];simp[List.getD,List.getElem?_map,List.getElem?_eq_getElem hj]
theorem Jbf(n:Nat)(E:List Nat)(set:Nat): Bin (Jv n set).length (Zg n E set):=λi hi=>by
 rw[Jqw]at hi;refine⟨by rw[Jlx hi];simp,λj u=>?_⟩;rw[Jbg hi u];cases ((E.getD (Jb E set E.length)[i] 0) &&& set).testBit (Jv n set)[j]
 .exact .inl rfl
 exact .inr rfl
theorem Jwp(E:List Nat)(set:Nat): ∀ {i k:Nat},k<i->(E.getD k 0) &&& set≠0->∃ x∈Jb E set i,(E.getD x 0) &&& set=(E.getD k 0) &&& set
 | i+1,k,hk,h0=>by
  by_cases e:k=i
  .subst e;cases hs:Vk E set k ((E.getD k 0) &&& set) with
   | true=>
    obtain⟨x,hx,e⟩:=List.any_eq_true.1 hs;have e:=eq_of_beq e;obtain⟨y,hy,e2⟩:=Jwp E set (List.mem_range.1 hx) (by rw[e];exact h0);exact⟨y,by rw[Jjk (.inr hs)];exact hy,e2.trans e⟩
   | false=>exact⟨k,by rw[Jxp h0 hs];simp,rfl⟩
  obtain⟨x,hx,e2⟩:=Jwp E set (show k<i by omega) h0;refine⟨x,?_,e2⟩;by_cases h1:(E.getD i 0) &&& set=0∨Vk E set i ((E.getD i 0) &&& set)=true
  .rw[Jjk h1];exact hx
  rw[Jxp (λe=>h1 (.inl e)) (by cases hs:Vk E set i ((E.getD i 0) &&& set);rfl;exact absurd (.inr hs) h1)];simp[hx]
theorem Jxq{E:List Nat}{set:Nat}: ∀ {i x:Nat},x∈Jb E set i->x<i
 | i+1,x,h=>by
  by_cases h1:(E.getD i 0) &&& set=0∨Vk E set i ((E.getD i 0) &&& set)=true
  .rw[Jjk h1]at h;have:=Jxq h;omega
  rw[Jxp (λe=>h1 (.inl e)) (by cases hs:Vk E set i ((E.getD i 0) &&& set);rfl;exact absurd (.inr hs) h1)]at h;rcases List.mem_append.1 h with h|h
  .have:=Jxq h;omega
  rw[List.mem_singleton.1 h];omega
theorem noC: ∀ u∈[Value.slice none 0 0,.slice none 0 0,.bool false,.slice none 0 0,.slice none 0 0],∀ z,u≠.int .u32 z:=λu i z e=>by
 simp only[List.mem_cons,List.not_mem_nil,or_false]at i;rcases i with rfl|rfl|rfl|rfl|rfl<;>cases e
def Ut(n:Nat)(E:List Nat)(set:Nat): Prop:=∀ v,v<n->set.testBit v=true->∃ k,k<E.length/\(E.getD k 0).testBit v=true
theorem Jkn(h:Ut n E set): ∀ j,j<(Jv n set).length->∃ i,i<(Zg n E set).length/\Xw (Zg n E set) i j=1:=λj Z=>by
 have O:(Jv n set)[j]∈Jv n set:=List.getElem_mem _;obtain⟨J,D⟩:=List.mem_filter.1 O;obtain⟨k,U,y⟩:=h _ (List.mem_range.1 J) D;have u:((E.getD k 0) &&& set).testBit (Jv n set)[j]=true:=by rw[Nat.testBit_and,y,D];rfl
 obtain⟨x,G,e⟩:=Jwp E set U (λe=>by rw[e]at u;simp at u);obtain⟨i,hi,ei⟩:=List.getElem_of_mem G;refine⟨i,by rw[Jqw];exact hi,?_⟩;unfold Xw;rw[Jbg hi Z,ei,e,u];decide +kernel
def Zq(l:List PR)(is:List Nat)(xs:List PR)(i:Nat): List PR:=Zx l (is.take i) (xs.take i)
theorem Jqv(l:List PR)(is:List Nat)(xs:List PR): Zq l is xs 0=l:=by simp[Zq,Zx]
theorem Kb(h:is.length=xs.length): Zq l is xs is.length=Zx l is xs:=by
 rw[Zq,List.take_length,h,List.take_length]
theorem Jkl(hi:i<is.length)(hx:i<xs.length): Zq l is xs (i+1)=(Zq l is xs i).set is[i] xs[i]:=by
 unfold Zq Zx;rw[List.take_add_one,List.take_add_one,List.getElem?_eq_getElem hi,List.getElem?_eq_getElem hx,List.zip_append (by simp;omega),List.foldl_append];rfl
theorem Ic(l:List PR)(is:List Nat)(xs:List PR)(i:Nat): (Zq l is xs i).length=l.length:=by
 unfold Zq Zx;generalize (is.take i).zip (xs.take i)=z
 induction z generalizing l with
 | nil=>rfl
 | cons p z ih=>rw[List.foldl_cons,ih,List.length_set]
abbrev NZ(s b:Nat)(v1 v2:Value): Nat->Prop:=λk=>k<s∨k=b∨v1.ownBlock=some k∨v2.ownBlock=some k
structure TwoZ(s b:Nat)(w:World)(v1 v2:Value)(l1 l2:List PR): Prop where
 o1:∃ base,OX 58 3 RtC (NZ s b v1 v2) w base v1 l1
 o2:∃ base,OX 58 3 RtC (NZ s b v1 v2) w base v2 l2
 ne:∀ k,v1.ownBlock=some k->v2.ownBlock≠some k
 f1:∀ k,v1.ownBlock=some k->s<=k
 f2:∀ k,v2.ownBlock=some k->s<=k
theorem TwoZ.ext{s b:Nat}{w w':World}{v1 v2:Value}{l1 l2:List PR}(h:TwoZ s b w v1 v2 l1 l2)(hx:Ext w w'): TwoZ s b w' v1 v2 l1 l2:=by
 obtain⟨⟨_,D⟩,⟨_,y⟩,u,j,i⟩:=h;exact⟨⟨_,D.ext RtC.sta hx⟩,⟨_,y.ext RtC.sta hx⟩,u,j,i⟩
theorem twoZ{wa w1 wb w2:World}{v1 v2:Value}(hs:s<=wa.heap.size)(h1:OX 58 3 RtC (Ov wa v1) w1 wa.heap.size v1 l1)(hx0:Ext wa w1)(hx1:Ext w1 wb)(h2:OX 58 3 RtC (Ov wb v2) w2 wb.heap.size v2 l2)(hx2:Ext wb w2)(hb:b<wa.heap.size∨(w1.heap.size<=b/\b<wb.heap.size)∨w2.heap.size<=b): TwoZ s b w2 v1 v2 l1 l2:=by
 obtain⟨_,_,_,_,f1⟩:=id h1.form;obtain⟨_,_,_,_,j⟩:=id h2.form;have z0:=hx0.size;have D:=hx1.size;have y:=hx2.size;refine⟨⟨_,(h1.old RtC.sta (N':=NZ s b v1 v2) λk i=>?_).ext RtC.sta (hx1.trans hx2)⟩,⟨_,h2.old RtC.sta λk i=>?_⟩,λk e u=>?_,λk e=>nL hs (f1 k e).1,λk e=>?_⟩
 .rcases i with i|i|i|i
  .exact .inl (.inl om)
  .rcases hb with hb|hb|hb
   .exact .inl (.inl om)
   .exact .inr om
   exact .inr om
  .exact .inl (.inr i)
  exact .inr (by have:=(j k i).1;omega)
 .rcases i with i|i|i|i
  .exact .inl (.inl om)
  .rcases hb with hb|hb|hb
   .exact .inl (.inl om)
   .exact .inl (.inl om)
   exact .inr om
  .exact .inl (.inl (by have:=(f1 k i).2;omega))
  exact .inl (.inr i)
 .have:=(f1 k e).2;have:=(j k u).1;omega
 have:=(j k e).1;omega
theorem Iz: Qa Tryz.prog 60=some (.agg #[.slice none 0 0,.slice none 0 0,.bool false,.slice none 0 0,.slice none 0 0]):=kr
theorem Jvf(A B C D:Option Addr)(m c m' c' k d k' d':Nat)(b:Bool)(w:World): (Instr.build 60 #[(0,.slice A m c),(1,.slice B m' c'),(2,.agg #[.bool b,.slice C k d,.slice D k' d'])]).run Tryz.prog w=.ok (.agg #[.slice A m c,.slice B m' c',.bool b,.slice C k d,.slice D k' d']) w:=kr
theorem Jmc{E:List Nat}: ∀ {i v:Nat},i<=E.length->(((List.range i).foldl (λa k=>a ||| E.getD k 0) 0).testBit v=true↔∃ k,k<i/\(E.getD k 0).testBit v=true)
 | 0,v,_=>by simp
 | i+1,v,h=>by
  rw[List.range_succ,List.foldl_append,List.foldl_cons,List.foldl_nil,Nat.testBit_or,Bool.or_eq_true,Jmc om];constructor
  .rintro(⟨k,hk,e⟩|e)
   .exact⟨k,om,e⟩
   exact⟨i,om,e⟩
  rintro⟨k,hk,e⟩;by_cases h1:k=i
  .subst h1;exact .inr e
  exact .inl ⟨k,om,e⟩
def orK(E:List Nat)(i:Nat): Nat:=(List.range i).foldl (λa k=>a ||| E.getD k 0) 0
theorem Jmd(E:List Nat)(i:Nat): orK E (i+1)=orK E i ||| E.getD i 0:=by unfold orK;rw[List.range_succ,List.foldl_append];rfl
theorem Qhn{w:World}{A:Option Addr}{c fuel:Nat}{pc:PC}(h:GrV w A c n es)(hs:set<2^n)(h0:set≠0)(hm:es.length<=5)(hcv:Ut n es set)(hf:((Jv n set).length+(Jb es set es.length).length)^(Jb es set es.length).length<=fuel)(hpc:cvr fuel n es set=some pc):
  Ret Tryz.prog 22 [.agg (grC A c n es).toArray,.int .u32 (set:Int)] w λu w'=>∃ W P q1 q2,u=.tuple #[.agg #[W,P,.bool pc.val.neg,q1,q2],.int .i64 0]/\GX 3 RtC Nn w' W pc.ws/\GX 3 RtC Nn w' P pc.ps/\NatX Nn w' q1 pc.val.num/\NatX Nn w' q2 pc.val.den/\Ext w w':=by
 have hn:=h.n32;have f6:=Gb hn;have ar:set<4294967296:=om
 obtain⟨t',c4,ea⟩:=Option.map_eq_some_iff.1 hpc;rw[<-Jqw n]at c4 hf;have f9:=Jbw n set;have f7:=Jqw n es set;have fd:=Jxr es set es.length;have ez:0<(Zg n es set).length:=by
  obtain⟨v,hv⟩:=Nat.exists_testBit_of_ne_zero h0;have aq:v<n:=Nat.lt_of_not_le λc5=>by
   rw[Nat.testBit_lt_two_pow (nM hs (Nat.pow_le_pow_right (n:=2) (by decide) c5))]at hv;cases hv
  have e7:v∈Jv n set:=List.mem_filter.2 ⟨List.mem_range.2 aq,hv⟩;obtain⟨j,hj,_⟩:=List.getElem_of_mem e7;obtain⟨i,hi,_⟩:=Jkn hcv j hj;omega
 obtain⟨d1,cz⟩:t'.point.length=(Jv n set).length/\t'.dual.length=(Jb es set es.length).length:=by
  obtain⟨_,t2,S,cy,hS,_⟩:=Jbh (Jbf n es set) (Jkn hcv) hf;rw[c4]at cy;cases cy
  have h1:=hS.en;have h2:=hS.em;have h3:=hS.agr.ok.goal.1;refine⟨by simp[PT.point,h1],?_⟩;simp only[PT.dual,List.length_take,List.length_drop,h3];simp only[PT.right];omega
 refine Jz Tryz.func22 Tryz.ntmps22 rfl kr rfl ?_;refine ρ ?_;refine bx (cs:=grC A c n es) ?_;intro w1 b1 c0 fe ey;refine ρ ?_;refine alc Iz ?_;intro w2 b2 bz ed de;have a5:=ey.ext bz;refine ρ ?_;refine lds (cs:=grC A c n es) (λj u G=>a5.at G) ?_;refine ρ ?_;refine cl (Jxm ((h.ext c0).ext bz)) ?_;rintro u w3 ⟨rfl,ba⟩;have am:=a5.ext ba;refine ρ ?_;refine lds (cs:=grC A c n es) (λj u G=>am.at G) ?_;refine ρ ?_;refine cl (Qql (w:=w3) hn) ?_;rintro u w4 ⟨rfl,b9⟩;have b6:=am.ext b9;have f8:0<2^n:=Nat.two_pow_pos n;refine ρ ?_;refine cf ?_ ?_
 .rw[Jzc ar om,Jtx hs hn];rfl
 refine ρ ?_;refine ld (b6.at (i:=1) rfl) ?_;have bf:=c0.trans (bz.trans (ba.trans b9));have h4:=h.ext bf;refine ρ ?_;refine Jr (fun (i:Nat)=>[(1,.int .u32 (set:Int)),(2,.pointer (some ⟨b1,0,none⟩)),(4,.pointer (some ⟨b2,0,none⟩)),(7,.int .u32 ((orK es i:Nat):Int)),(33,.slice A es.length c),(34,.int .i64 (es.length:Int)),(35,.int .i64 (i:Int))]) (λi w'=>i<=es.length/\w'=w4/\orK es i<4294967296) (λi=>es.length-i) 0 sB ⟨Nat.zero_le _,rfl,show 0<4294967296 by decide⟩ ?_;rintro i w5 ⟨hi,rfl,ho⟩;refine ρ ?_;refine ci (λhc=>?_) (λhc=>?_)
 .have a2:i<es.length:=by have:=oT hc;omega
  clear hc;refine ρ ?_;refine ix i h4.rd a2 ?_;refine ρ ?_;refine ld (h4.rd.cell (Jvm a2)) ?_;have bl:=h4.lt32 (getD_mem' 0 es a2);refine ρ ?_;rw[Ka ho bl,<-Jmd];exact Jm (i+1) sO ⟨om,rfl,by rw[Jmd];exact Jqx ho bl⟩ om
 have aw:i=es.length:=by have:=oF hc;omega
 subst aw;clear hc hi;have d4:Yd set (orK es es.length)=0:=by
  apply Nat.eq_of_testBit_eq
  intro v;rw[Jvk ar ho,Nat.zero_testBit];cases hb:set.testBit v with
  | false=>rfl
  | true=>
   have hv:v<n:=Nat.lt_of_not_le λc5=>by
    rw[Nat.testBit_lt_two_pow (nM hs (Nat.pow_le_pow_right (n:=2) (by decide) c5))]at hb;cases hb
   have:=(Jmc (E:=es) (v:=v) (Nat.le_refl _)).2 (hcv v hv hb);unfold orK;rw[this];rfl
 refine ρ ?_;refine cf ?_ ?_
 .rw[Jzc ar ho,d4];rfl
 refine ρ ?_;refine lds (cs:=grC A c n es) (λj u G=>b6.at G) ?_;refine ρ ?_;refine cl (Qvq h4 hs hm) ?_;rintro _ w6 ⟨vC,vA,vB,MA,mc,FA,fc,rfl,dd,dj,bu,er,et,co⟩;obtain⟨dn,dm,_,rfl,_,_,_,_,_⟩:=id dd.el;obtain⟨du,dt,_,rfl,_,_,_,_,_⟩:=id dj.el;obtain⟨ds,dq,_,rfl,_,_,_,_,_⟩:=id bu.el;refine ρ ?_;refine alc zPb ?_;intro w7 b7 e5 ec ew;refine ρ ?_;refine stb (cs':=[.slice dn _ dm,.slice du _ dt,.slice ds _ dq]) ew ?_ (λu G=>by
  simp only[List.mem_cons,List.not_mem_nil,or_false]at G;rcases G with rfl|rfl|rfl<;>rfl)
 intro w8 eu fb e4;have ac:Ext w6 w8:=e4 w6 e5 ec;have f0:=co.trans ac;refine ρ ?_;refine lds (cs:=[.slice dn _ dm,.slice du _ dt,.slice ds _ dq]) (λj u G=>eu.at G) ?_;refine cl (Qzh (dd.ext RtC.sta (by decide) ac) (dj.ext MxC.sta (by decide) ac) (bu.ext RtC.sta (by decide) ac) (λk O=>O.elim) (Jbf n es set) (Jkn hcv) om om ez hf c4) ?_;rintro _ w9 ⟨X,Y,q1,q2,rfl,d6,d5,cw,cu,e3⟩;generalize hq:t'.goal.getD t'.right pr0=q at *
 obtain⟨X1,X2,_,rfl,_,_,_,_,_⟩:=id d6.el;obtain⟨Y1,Y2,_,rfl,_,_,_,_,_⟩:=id d5.el;obtain⟨Q1,c1,rfl⟩:=cw.1.sl;obtain⟨Q2,c2,rfl⟩:=cu.1.sl;refine ρ ?_;refine alc zSol ?_;intro f4 ck cr d3 di;refine ρ ?_;refine stb (cs':=[.int .i64 0,.slice X1 _ X2,.slice Y1 _ Y2,.slice none 0 0,.bool q.neg,.slice Q1 _ c1,.slice Q2 _ c2]) di ?_ (λu G=>by
  simp only[List.mem_cons,List.not_mem_nil,or_false]at G;rcases G with rfl|rfl|rfl|rfl|rfl|rfl|rfl<;>rfl)
 intro a6 dh f3 cq;have ap:Ext w9 a6:=cq w9 cr d3;have ao:Ext a6 a6.drew:=(Ext.refl a6).drew;have af:=ac.trans (e3.trans ap);have ai:=co.trans (af.trans ao);have bw:=b6.ext ai;have ad:=dh.ext ao;refine ρ ?_;refine drH (λi=>i == 11) ?_;refine Ve (fuel':=5) 18 [(0,0),(0,1),(0,2),(0,4),(0,5),(0,7),(0,8)] #[true,true,true,false,true,true,false,true,true,false,false,false] kr kr rfl ?_;refine ρd ?_;refine dld (bw.at (i:=1) rfl) ?_;refine ρd ?_;refine dld (bw.at (i:=0) rfl) ?_;refine ρd ?_;refine Qb (cs:=[.bool q.neg,.slice Q1 (Jj q.num).length c1,.slice Q2 (Jj q.den).length c2]) (λj u G=>match j,G with
  | 0,G=>by injection G with G;subst G;exact ad.at (i:=4) rfl
  | 1,G=>by injection G with G;subst G;exact ad.at (i:=5) rfl
  | 2,G=>by injection G with G;subst G;exact ad.at (i:=6) rfl
  | j+3,G=>by cases G) ?_
 refine ρd ?_;refine Ze ?_;refine hcut 1 (lst 12 11) (fun (y:(Option Addr×Nat)×(Option Addr×Nat)×Nat)=>[(73,.agg #[.slice y.1.1 es.length y.1.2,.slice y.2.1.1 n y.2.1.2,.bool q.neg,.slice Q1 (Jj q.num).length c1,.slice Q2 (Jj q.den).length c2]),(15,.pointer (some ⟨y.2.2,0,none⟩)),(2,.pointer (some ⟨b1,0,none⟩)),(4,.pointer (some ⟨b2,0,none⟩)),(11,.slice MA (Jv n set).length mc),(12,.slice FA (Jb es set es.length).length fc),(13,.pointer (some ⟨ck,0,none⟩))])
  (λy W=>Ext a6.drew W/\TwoZ a6.drew.heap.size y.2.2 W (.slice y.1.1 es.length y.1.2) (.slice y.2.1.1 n y.2.1.2) (List.replicate es.length pr0) (List.replicate n pr0)/\Blk W y.2.2 60 [.slice none 0 0,.slice none 0 0,.bool false,.slice none 0 0,.slice none 0 0]/\a6.drew.heap.size<=y.2.2) ?_ ?_
 rotate_left
 .intro rest;have zl (m:Nat) (W:World) (hm:m<=64):=Qhh m (show m<=1000 by omega) W;refine Jxk 3 10 kr rfl rfl rfl ?_ ?_
  .refine cl (zl es.length _ om) ?_;rintro W v1 ⟨hW,a3⟩;obtain⟨W1,W2,_,eW,_,_⟩:=id hW.el;rw[List.length_replicate]at eW;subst eW;refine Jp (Qn (λ_=>a3) ?_);refine Jxk 6 10 kr rfl rfl rfl ?_ ?_
   .refine cl (zl n _ om) ?_;rintro P v2 ⟨hP,a1⟩;obtain⟨P1,P2,_,eP,_,_⟩:=id hP.el;rw[List.length_replicate]at eP;subst eP;have hZ (b:Nat) (hb:v2.heap.size<=b):=twoZ (b:=b) (Nat.le_refl _) hW a3 (Ext.refl _) hP a1 (.inr (.inr hb));refine Jp (Qn (λ_=>a1) ?_);refine Jxk 9 10 kr rfl rfl rfl ?_ ?_
    .refine bld (Jvf _ _ _ _ _ _ _ _ _ _ _ _ _ _) ?_;refine Jp (Qn (λ_=>Ext.refl _) ?_);refine Zl 10 kr rfl rfl ?_;refine alc Iz ?_;intro v3 D U J Z;refine Jp (Qn (λ_=>U) ?_);refine Um (listed':=lst 12 11) kr ?_;exact rest ((W1,W2),(P1,P2),D) _ _ ⟨a3.trans (a1.trans U),(hZ D J).ext U,Z,Nat.le_trans (a3.trans a1).size J⟩ sB
    refine alc Iz ?_;intro v3 D U J Z;refine Jp (Qn (λ_=>U) ?_);refine Zl 9 kr rfl rfl ?_;refine bld (Jvf _ _ _ _ _ _ _ _ _ _ _ _ _ _) ?_;refine Jp (Qn (λ_=>Ext.refl _) ?_);refine Um (listed':=lst 12 11) kr ?_;exact rest ((W1,W2),(P1,P2),D) _ _ ⟨a3.trans (a1.trans U),(hZ D J).ext U,Z,Nat.le_trans (a3.trans a1).size J⟩ sB
   refine alc Iz ?_;intro v2 D a1 J Z;refine Jp (Qn (λ_=>a1) ?_);refine Zl 6 kr rfl rfl ?_;refine cl (zl n _ om) ?_;rintro P v3 ⟨hP,U⟩;obtain⟨P1,P2,_,eP,_,_⟩:=id hP.el;rw[List.length_replicate]at eP;subst eP;have hZ:=twoZ (b:=D) (Nat.le_refl _) hW a3 a1 hP U (.inr (.inl ⟨J,Z.lt⟩));refine Jp (Qn (λ_=>U) ?_);refine Zl 9 kr rfl rfl ?_;refine bld (Jvf _ _ _ _ _ _ _ _ _ _ _ _ _ _) ?_;refine Jp (Qn (λ_=>Ext.refl _) ?_);refine Um (listed':=lst 12 11) kr ?_;exact rest ((W1,W2),(P1,P2),D) _ _ ⟨a3.trans (a1.trans U),hZ,Z.ext U,Nat.le_trans a3.size J⟩ sB
  refine alc Iz ?_;intro v1 D a3 J Z;refine Jp (Qn (λ_=>a3) ?_);refine Zl 3 kr rfl rfl ?_;refine cl (zl es.length _ om) ?_;rintro W v2 ⟨hW,a1⟩;obtain⟨W1,W2,_,eW,_,_⟩:=id hW.el;rw[List.length_replicate]at eW;subst eW;refine Jp (Qn (λ_=>a1) ?_);refine Zl 6 kr rfl rfl ?_;refine cl (zl n _ om) ?_;rintro P v3 ⟨hP,U⟩;obtain⟨P1,P2,_,eP,_,_⟩:=id hP.el;rw[List.length_replicate]at eP;subst eP;have hZ:=twoZ (b:=D) a3.size hW a1 (Ext.refl _) hP U (.inl Z.lt);refine Jp (Qn (λ_=>U) ?_);refine Zl 9 kr rfl rfl ?_;refine bld (Jvf _ _ _ _ _ _ _ _ _ _ _ _ _ _) ?_;refine Jp (Qn (λ_=>Ext.refl _) ?_);refine Um (listed':=lst 12 11) kr ?_;exact rest ((W1,W2),(P1,P2),D) _ _ ⟨a3.trans (a1.trans U),hZ,(Z.ext a1).ext U,J⟩ sB
 rintro⟨⟨W1,W2⟩,⟨P1,P2⟩,D⟩ dz ⟨be,bm,a5,J⟩;simp only at bm a5 J ⊢;refine Zl 11 kr rfl rfl ?_;refine stb (cs':=[.slice W1 es.length W2,.slice P1 n P2,.bool q.neg,.slice Q1 (Jj q.num).length c1,.slice Q2 (Jj q.den).length c2]) a5 ?_ (λu G=>by
  simp only[List.mem_cons,List.not_mem_nil,or_false]at G;rcases G with rfl|rfl|rfl|rfl|rfl<;>rfl)
 intro cn am bj bd;have e2:Ext a6.drew cn:=bd _ be J;obtain⟨⟨dl,b3⟩,⟨dk,b5⟩,cx,c9,c8⟩:=bm;have ag:GrN (λk=>k=D) dz cn:=GrN.by bj λk e=>by injection e with e;exact e.symm
 obtain⟨_,_,bb⟩:=b3.own;obtain⟨_,_,bc⟩:=b5.own;have bp:=b3.gr RtC.sta ag λk e=>⟨.inr (.inl e),by rw[e];exactλe'=>a5.ne_own bb kr e'.symm⟩;have bs:=b5.gr RtC.sta ag λk e=>⟨.inr (.inl e),by rw[e];exactλe'=>a5.ne_own bc kr e'.symm⟩;refine Jp (Qn (λh=>by cases h) ?_);refine Zk kr ?_;generalize hsz:a6.drew.heap.size=s at *
 clear b3 b5 bb bc a5 be bd bj ag;have cg:=bp.old RtC.sta (N':=λk=>k=D∨(Value.slice W1 es.length W2).ownBlock=some k∨(Value.slice P1 n P2).ownBlock=some k) λk O=>.inl (.inr O);have cj:=bs.old RtC.sta (N':=λk=>k=D∨(Value.slice W1 es.length W2).ownBlock=some k∨(Value.slice P1 n P2).ownBlock=some k) λk O=>.inl (.inr O);clear bp bs;have ep:∀ k,(k=D∨(Value.slice W1 es.length W2).ownBlock=some k∨(Value.slice P1 n P2).ownBlock=some k)->s<=k:=λk O=>by
  rcases O with O|O|O
  .omega
  .exact c9 k O
  exact c8 k O
 generalize hNN:(λk=>k=D∨(Value.slice W1 es.length W2).ownBlock=some k∨(Value.slice P1 n P2).ownBlock=some k)=NN at *
 have da:∀ k,(Value.slice W1 es.length W2).ownBlock=some k->NN k:=λk O=>by rw[<-hNN];exact .inr (.inl O)
 have d9:∀ k,(Value.slice P1 n P2).ownBlock=some k->NN k:=λk O=>by rw[<-hNN];exact .inr (.inr O)
 have bt:∀ k,NN k->s<=k:=λk O=>ep k (by rw[<-hNN]at O;exact O);have ah:Ext w9 a6.drew:=ap.trans ao;have ej:=(d6.ext RtC.sta (by decide) ah).old RtC.sta (by decide) (N':=NN) λk O=>.inr (by rw[hsz];exact bt k O);have eg:=(d5.ext RtC.sta (by decide) ah).old RtC.sta (by decide) (N':=NN) λk O=>.inr (by rw[hsz];exact bt k O);have db:=er.ext (af.trans ao);have dc:=et.ext (af.trans ao);have d2:t'.point.length=(Jv n set).length:=d1;have d0:t'.dual.length=(Jb es set es.length).length:=cz;obtain⟨XA,XC,_,eX,_,_,eh,_,ei⟩:=id ej.el;injection eX with eXa _ eXc
 subst eXa;obtain⟨YA,YC,_,eY,_,_,ee,_,ef⟩:=id eg.el;injection eY with eYa _ eYc
 subst eYa;refine ρ ?_;refine Jr (fun (i:Nat)=>[(2,.pointer (some ⟨b1,0,none⟩)),(4,.pointer (some ⟨b2,0,none⟩)),(11,.slice MA (Jv n set).length mc),(12,.slice FA (Jb es set es.length).length fc),(13,.pointer (some ⟨ck,0,none⟩)),(15,.pointer (some ⟨D,0,none⟩)),(74,.slice MA (Jv n set).length mc),(75,.int .i64 ((Jv n set).length:Int)),(76,.int .i64 (i:Int))])
  (λi w'=>i<=(Jv n set).length/\Ext a6.drew w'/\OX 58 3 RtC NN w' dl (.slice W1 es.length W2) (List.replicate es.length pr0)/\OX 58 3 RtC NN w' dk (.slice P1 n P2) (Zq (List.replicate n pr0) (Jv n set) t'.point i)/\Blk w' D 60 [.slice W1 es.length W2,.slice P1 n P2,.bool q.neg,.slice Q1 (Jj q.num).length c1,.slice Q2 (Jj q.den).length c2]) (λi=>(Jv n set).length-i) 0 sB ⟨Nat.zero_le _,e2,cg,by rw[Jqv];exact cj,am⟩ ?_
 rintro i b8 ⟨hi,aj,bo,b4,ab⟩;refine ρ ?_;refine ci (λhc=>?_) (λhc=>?_)
 .have a2:i<(Jv n set).length:=by have:=oT hc;omega
  clear hc;refine ρ ?_;refine ix i (db.ext aj) a2 ?_;refine ρ ?_;refine ld ((db.ext aj).cell (Xb a2)) ?_;refine ρ ?_;have cc:i<t'.point.length:=om
  have aq:(Jv n set).getD i 0<n:=Jbv (getD_mem' 0 _ a2);have a4:Ext b8 b8.drew:=(Ext.refl b8).drew;have a9:=aj.trans a4;have ch:=b4.ext RtC.sta a4;have bh:n=(Zq (List.replicate n pr0) (Jv n set) t'.point i).length:=by rw[Ic];simp
  obtain⟨ce,_,au,ca⟩:=ei i cc;have av:=Jkl (l:=List.replicate n pr0) a2 cc;rw[show(Jv n set)[i]=(Jv n set).getD i 0 by simp[List.getD,List.getElem?_eq_getElem a2]]at av;generalize t'.point[i]=x at *
  obtain⟨F1,f1,F2,f2,rfl,e8⟩:=au.sl;refine dr [(0,0),(0,1),(0,2),(0,3),(0,4),(0,5),(0,6),(0,7),(0,8),(2,9)] kr ?_;refine ρd ?_;refine dld ((ab.ext a4).at (i:=1) rfl) ?_;refine ρd ?_;refine dld ((ad.ext a9).at (i:=1) rfl) ?_;refine ρd ?_;refine Xx 3 i (eh.ext a9) cc ?_;refine ρd ?_;refine Qb (λj u G=>Xd a9 (ca j u G)) ?_;refine ρd ?_;obtain⟨_,eo⟩:=ch.rd bh;refine Xx 3 ((Jv n set).getD i 0) eo aq ?_;refine ρd ?_;refine Jy ?_;refine stX RtC.sta ch bh (show(Jv n set).getD i 0<_ by omega) (cs:=[.bool x.neg,.slice F1 _ f1,.slice F2 _ f2]) (a:=x) (RtC.sta.gr au (GrN.ext a9)) d9 (Jt rfl rfl rfl) ?_;intro dx br ay;have c7:GrN (λk=>(Value.slice P1 n P2).ownBlock=some k) b8.drew dx:=GrN.by ay λk e=>e
  rw[<-av]at br;obtain⟨_,_,bc⟩:=ch.own;have d7:=(bo.ext RtC.sta a4).gr RtC.sta c7 λk e=>⟨d9 k e,λe'=>cx k e' e⟩;have Z:=(ab.ext a4).grown ay λe=>(ab.ext a4).ne_own bc kr e;refine ρ ?_;exact Jm (i+1) sO ⟨om,Js a9 ay λk O=>by rw[hsz];exact c8 k O,d7,br,Z⟩ om
 have aw:i=(Jv n set).length:=by have:=oF hc;omega
 subst aw;clear hc hi;rw[Kb d2.symm]at b4;refine ρ ?_;refine Jr (fun (i:Nat)=>[(2,.pointer (some ⟨b1,0,none⟩)),(4,.pointer (some ⟨b2,0,none⟩)),(12,.slice FA (Jb es set es.length).length fc),(13,.pointer (some ⟨ck,0,none⟩)),(15,.pointer (some ⟨D,0,none⟩)),(91,.slice FA (Jb es set es.length).length fc),(92,.int .i64 ((Jb es set es.length).length:Int)),(93,.int .i64 (i:Int))])
  (λi w'=>i<=(Jb es set es.length).length/\Ext a6.drew w'/\OX 58 3 RtC NN w' dl (.slice W1 es.length W2) (Zq (List.replicate es.length pr0) (Jb es set es.length) t'.dual i)/\OX 58 3 RtC NN w' dk (.slice P1 n P2) (Zx (List.replicate n pr0) (Jv n set) t'.point)/\Blk w' D 60 [.slice W1 es.length W2,.slice P1 n P2,.bool q.neg,.slice Q1 (Jj q.num).length c1,.slice Q2 (Jj q.den).length c2]) (λi=>(Jb es set es.length).length-i) 0 sB ⟨Nat.zero_le _,aj,by rw[Jqv];exact bo,b4,ab⟩ ?_
 rintro i an ⟨hi,a8,az,bq,ak⟩;refine ρ ?_;refine ci (λhc=>?_) (λhc=>?_)
 .have a2:i<(Jb es set es.length).length:=by have:=oT hc;omega
  clear hc;refine ρ ?_;refine ix i (dc.ext a8) a2 ?_;refine ρ ?_;refine ld ((dc.ext a8).cell (Xb a2)) ?_;refine ρ ?_;have cb:i<t'.dual.length:=om
  have aq:(Jb es set es.length).getD i 0<es.length:=Jxq (getD_mem' 0 _ a2);have a4:Ext an an.drew:=(Ext.refl an).drew;have a7:=a8.trans a4;have cd:=az.ext RtC.sta a4;have bg:es.length=(Zq (List.replicate es.length pr0) (Jb es set es.length) t'.dual i).length:=by rw[Ic];simp
  obtain⟨ce,_,au,ca⟩:=ef i cb;have av:=Jkl (l:=List.replicate es.length pr0) a2 cb;rw[show(Jb es set es.length)[i]=(Jb es set es.length).getD i 0 by simp[List.getD,List.getElem?_eq_getElem a2]]at av;generalize t'.dual[i]=x at *
  obtain⟨F1,f1,F2,f2,rfl,e8⟩:=au.sl;refine dr [(0,0),(0,1),(0,2),(0,3),(0,4),(0,5),(0,6),(0,7),(0,8),(2,9)] kr ?_;refine ρd ?_;refine dld ((ak.ext a4).at (i:=0) rfl) ?_;refine ρd ?_;refine dld ((ad.ext a7).at (i:=2) rfl) ?_;refine ρd ?_;refine Xx 3 i (ee.ext a7) cb ?_;refine ρd ?_;refine Qb (λj u G=>Xd a7 (ca j u G)) ?_;refine ρd ?_;obtain⟨_,ek⟩:=cd.rd bg;refine Xx 3 ((Jb es set es.length).getD i 0) ek aq ?_;refine ρd ?_;refine Jy ?_;refine stX RtC.sta cd bg (show(Jb es set es.length).getD i 0<_ by omega) (cs:=[.bool x.neg,.slice F1 _ f1,.slice F2 _ f2]) (a:=x) (RtC.sta.gr au (GrN.ext a7)) da (Jt rfl rfl rfl) ?_;intro dw bn ax;have c6:GrN (λk=>(Value.slice W1 es.length W2).ownBlock=some k) an.drew dw:=GrN.by ax λk e=>e
  rw[<-av]at bn;obtain⟨_,_,bb⟩:=cd.own;have d8:=(bq.ext RtC.sta a4).gr RtC.sta c6 λk e=>⟨da k e,λe'=>cx k e e'⟩;have dg:=(ak.ext a4).grown ax λe=>(ak.ext a4).ne_own bb kr e;refine ρ ?_;exact Jm (i+1) sO ⟨om,Js a7 ax λk O=>by rw[hsz];exact c9 k O,bn,d8,dg⟩ om
 have aw:i=(Jb es set es.length).length:=by have:=oF hc;omega
 subst aw;clear hc hi;rw[Kb d0.symm]at az;have ae:=((de.ext (ba.trans b9)).ext (ai)).ext a8;refine ρ ?_;refine lds (cs:=[.slice W1 es.length W2,.slice P1 n P2,.bool q.neg,.slice Q1 (Jj q.num).length c1,.slice Q2 (Jj q.den).length c2]) (λj u G=>ak.at G) ?_;refine ρ ?_;refine stb (cs':=[.slice W1 es.length W2,.slice P1 n P2,.bool q.neg,.slice Q1 (Jj q.num).length c1,.slice Q2 (Jj q.den).length c2]) ae ?_ (λu G=>by
  simp only[List.mem_cons,List.not_mem_nil,or_false]at G;rcases G with rfl|rfl|rfl|rfl|rfl<;>rfl)
 intro cm df bi cp;have eb:GrN (λk=>NN k∨k=b2) an cm:=GrN.by bi λk e=>by injection e with e;exact .inr e.symm
 refine ρ ?_;have fa:=de.lt;have f5:w2.heap.size<=s:=by rw[<-hsz];exact((ba.trans b9).trans ai).size
 have e9:(Zx (List.replicate n pr0) (Jv n set) t'.point).length=n:=by rw[<-Kb d2.symm,Ic];simp
 have e6:(Zx (List.replicate es.length pr0) (Jb es set es.length) t'.dual).length=es.length:=by rw[<-Kb d0.symm,Ic];simp
 have e1:=(cw.ext (ah.trans a8)).box ae noC;have e0:=(cu.ext (ah.trans a8)).box ae noC;have g1:=Jwm (az.gx (N':=Nn) RtC.sta om λk O=>O.elim) ae noC (λe=>by have:=c9 b2 e;omega);have g2:=Jwm (bq.gx (N':=Nn) RtC.sta om λk O=>O.elim) ae noC (λe=>by have:=c8 b2 e;omega);have aa:GrN (λk=>Nn k∨k=b2) an cm:=GrN.by bi λk e=>by injection e with e;exact .inr e.symm
 subst ea;subst hq;exact Zb df ⟨_,_,_,_,rfl,(g1.gr RtC.sta (by decide) aa).old RtC.sta (by decide) λk O=>O.elim,(g2.gr RtC.sta (by decide) aa).old RtC.sta (by decide) λk O=>O.elim,(e1.gr aa).old λk O=>O.elim,(e0.gr aa).old λk O=>O.elim,cp w (bf.trans (ai.trans a8)) (nL c0.size ed)⟩
open Go.RowKit Pl Go.Wk Bl
variable {m n:Nat}{v vl x y:Value}{w:World}
theorem Jgc{fid:FuncId}{cap:Array Value}{ls:List PR}(Inv:Nat->World->Prop)(hx:∀ i w w',Inv i w->Ext w w'->Inv i w')(hl:∀ i w,Inv i w->GX 3 RtC Nn w vl ls)(step:∀ i (hi:i<ls.length) w v,Inv i w->RtX Nn w v ls[i]->Ret Tryz.prog fid ([.int .i64 (i:Int),v]++cap.toList) w λu w'=>Inv (i+1) w')(h0:Inv 0 w):
  Ret Tryz.prog 99 [vl,.func (.func fid) #[] cap] w λu w'=>Inv ls.length w':=by
 obtain⟨A,c,_,rfl,_,a8,_⟩:=id (hl 0 w h0).el;refine Jz Tryz.func99 Tryz.ntmps99 rfl kr rfl ?_;refine ρ ?_;refine Jr (fun (i:Nat)=>[(1,.func (.func fid) #[] cap),(6,.slice A ls.length c),(7,.int .i64 (ls.length:Int)),(8,.int .i64 (i:Int))]) (λi w'=>i<=ls.length/\Inv i w') (λi=>ls.length-i) 0 sB ⟨Nat.zero_le _,h0⟩ ?_;rintro i w1 ⟨hi,hI⟩;refine ρ ?_;refine ci (λG=>?_) (λG=>?_)
 .have D:i<ls.length:=by have:=oT G;omega
  clear G;obtain⟨A',c',_,ev,_,_,hr,_,he⟩:=id (hl i w1 hI).el;injection ev with ev1 _ ev3
  subst ev1;obtain⟨ce,_,Z,a3⟩:=he i D;obtain⟨F1,f1,F2,f2,rfl,a1⟩:=Z.sl;refine ρ ?_;refine ixq 3 i hr D ?_;refine ρ ?_;refine lds (λj u U=>a3 j u U) ?_;refine ρ ?_;refine alc Vx ?_;intro w2 b2 O a4 a7;refine ρ ?_;refine stb (cs':=[.bool ls[i].neg,.slice F1 _ f1,.slice F2 _ f2]) a7 ?_ (Jt rfl rfl rfl);intro w3 a6 a9 J;have y:Ext w1 w3:=J w1 O a4;refine ρ ?_;refine lds (cs:=[.bool ls[i].neg,.slice F1 _ f1,.slice F2 _ f2]) (λj u U=>a6.at U) ?_;refine ρ ?_;refine clv (step i D w3 _ (hx i _ _ hI y) (a1.ext y)) ?_;rintro u w4 a5;refine ρ ?_;exact Jm (i+1) sO ⟨om,a5⟩ om
 have a2:i=ls.length:=by have:=oF G;omega
 subst a2;refine ρ ?_;exact Vy hI
theorem Jrf(hv:NatV w v n)(hn:n<=2147483648): Ret Tryz.prog 56 [v] w λr w'=>r=.tuple #[.int .i64 (n:Int),.int .i64 0]/\w'=w:=by
 refine Jz Tryz.func56 Tryz.ntmps56 rfl kr rfl ?_;refine ρ ?_;refine cl (Jbp hv om) ?_;rintro _ w1 ⟨rfl,rfl⟩;refine ρ ?_;refine cf ?_ ?_
 .simp;omega
 refine ρ ?_;rw[Zn (z:=(n:Int)) om];exact Qr ⟨rfl,rfl⟩
theorem Qgs(hx:NatX Nn w x n)(hy:NatX Nn w y m)(hn:n<4294967296)(hm:m<4294967296)(h0:0<m): Ret Tryz.prog 103 [x,y] w λr w'=>NatX Nn w' r (Nat.gcd n m)/\Ext w w':=by
 have Z:∀ {k:Nat},k<4294967296->(Jj k).length<=1000:=fun {k} h=>by have:=Qy (n:=k) om;omega
 refine Jz Tryz.func103 Tryz.ntmps103 rfl kr rfl ?_;refine ρ ?_;refine Jqg (fun (a b:Nat) (G vb:Value)=>[(0,G),(1,vb)]) (λa b G vb w'=>Ext w w'/\NatX Nn w' G a/\NatX Nn w' vb b/\a<4294967296/\b<4294967296/\Nat.gcd a b=Nat.gcd n m) (λ_ b _ _=>b) n m x y sB ⟨Ext.refl _,hx,hy,hn,hm,rfl⟩ ?_;rintro a b G vb w1 ⟨u,ha,O,U,i,J⟩;refine ρ ?_;refine cl (Yw O.1 (Z i)) ?_;rintro _ w2 ⟨rfl,rfl⟩;refine ρ ?_;refine ci (λh=>?_) (λh=>?_)
 .have D:b≠0:=by rintro rfl;revert h;decide
  clear h;refine ρ ?_;refine cl (Kh ha.1 O.1 (Z U) om i) ?_;rintro _ w3 ⟨⟨q,r,rfl,hq,hr⟩,j⟩;refine ρ ?_;exact Uk b (a % b) _ _ sO ⟨u.trans j,O.ext j,hr.old λk hk=>hk.elim,i,Nat.lt_of_lt_of_le (Nat.mod_lt _ om) om,by rw[<-J,Nat.gcd_comm a b,Nat.gcd_rec b a];exact Nat.gcd_comm _ _⟩ (Nat.mod_lt _ om)
 have D:b=0:=by
  rcases Nat.eq_zero_or_pos b with h1|h1
  .exact h1
  have:=(Uh (x:=b) om).1;simp at h;omega
 subst D;rw[Nat.gcd_zero_right]at J;subst J;refine ρ ?_;exact Jq ⟨ha,u⟩
end Go.Proofs.YtebiphhfkdbpfaaGreatDoor
