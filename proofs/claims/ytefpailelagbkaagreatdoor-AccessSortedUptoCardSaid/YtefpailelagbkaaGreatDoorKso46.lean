/- Part 4 of the proof: LwE, LwEW. -/
import Derived.Test.YtefpailelagbkaaGreatDoorKso45
set_option linter.unusedVariables false
set_option maxRecDepth 100000
set_option maxHeartbeats 40000000
namespace Go.Proofs.YtefpailelagbkaaGreatDoor
open Go.RowKit Pl Go.Wk
attribute [local irreducible] WC WL QX WD WDB WP WN WG WH WM
section
variable {c:Cse} {ats:List Atm}
theorem CseOk.mks(h:CseOk c ats): MkS c:=⟨h.len,λi hi=>(h.mka i hi).l32,λi hi=>(h.mka i hi).ok,λi hi=>nL (h.few.row i (by rw [<-h.len];exact hi)) (by decide)⟩
theorem CseOk.of2(h:CseOk c ats){ats':List Atm}(hal:ats'.length=c.vs.length)(hmk:∀ i,i<c.vs.length->MkA (ats'.getD i a0) (c.vs.getD i []) (c.rss.getD i [])): CseOk c ats':=by
 refine ⟨h.few,h.len,hal,hmk,?_,h.fit⟩;obtain ⟨h1,h2,h3,h4,h5,h6,h7,h8,Z,J,G,D,C⟩:=h.chk;have key:∀ i,i<c.vs.length->(ats'.getD i a0).vars=(ats.getD i a0).vars/\(ats'.getD i a0).ar=(ats.getD i a0).ar:=λi hi=>⟨(hmk i hi).vars.trans (h.mka i hi).vars.symm,(hmk i hi).ar.trans (h.mka i hi).ar.symm⟩;have U:=h.al;refine ⟨h1,h2,h3,h4,h5,h6,h7,h8,Z,J,by rw [hal,<-U];exact G,λa u=>?_,λv O=>?_⟩
 ·obtain ⟨i,hi,rfl⟩:=List.getElem_of_mem u;have hi:i<ats'.length:=hi;have j:i<c.vs.length:=by omega
  have k:=key i j;have e:ats'[i]=ats'.getD i a0:=by simp [List.getD,List.getElem?_eq_getElem hi]
  have h0:=D (ats.getD i a0) (getD_mem' a0 _ (show i<ats.length by omega));rw [e];unfold Xyg at h0 ⊢;rw [k.1,k.2];exact h0
 ·obtain ⟨a,u,o⟩:=C v O;obtain ⟨i,hi,rfl⟩:=List.getElem_of_mem u;have hi:i<ats.length:=hi;have j:i<c.vs.length:=by omega
  refine ⟨ats'.getD i a0,getD_mem' a0 _ (show i<ats'.length by omega),?_⟩;rw [(key i j).1];have e:ats[i]=ats.getD i a0:=by simp [List.getD,List.getElem?_eq_getElem hi]
  rw [<-e];exact o
theorem CseOk.again(h:CseOk c ats): ∀ ats':List Atm,ats'.length=c.vs.length->(∀ i,i<c.vs.length->MkA (ats'.getD i a0) (c.vs.getD i []) (c.rss.getD i []))->Xxx ⟨c.n,c.f,c.ds,c.pm,ats'⟩:=λats' j hmk=>(h.of2 j hmk).chk
theorem CseOk.ltA(h:CseOk c ats){i:Nat}(hi:i<c.vs.length): Lt [] (ats.getD i a0).rows:=((h.mka i hi).set (nL (h.few.row i (by rw [<-h.len];exact hi)) (by decide))).1
end
theorem pm_filter{vs:List Nat}{z r:Row}{F:Nat}(e:z.take F=r)(h:(vs.filter λv=>decide (v<F)).length=vs.length)(hF:F<=z.length): pmR (vs.filter λv=>decide (v<F)) r=pmR vs z:=by
 have j:vs.filter (λv=>decide (v<F))=vs:=List.filter_eq_self.2 (by
  intro v i;have:=(List.length_filter_eq_length_iff (p:=λv=>decide (v<F))).1 h v i;exact this)
 have o:∀ v∈vs,v<F:=λv i=>oT ((List.filter_eq_self.1 j) v i);rw [j];unfold pmR;refine List.map_congr_left λv i=>?_;subst e;have:=o v i;rw [List.getD_eq_getElem?_getD,List.getD_eq_getElem?_getD,List.getElem?_take,if_pos this]
theorem filter_snoc{vs:List Nat}{F j:Nat}(hj:j<vs.length): (vs.take (j+1)).filter (λv=>decide (v<F))=(vs.take j).filter (λv=>decide (v<F))++if vs.getD j 0<F then [vs.getD j 0] else []:=by
 rw [Jjp 0 hj,List.filter_append];congr 1
 by_cases h:vs.getD j 0<F
 ·rw [if_pos h];simp only [List.filter_cons,decide_eq_true h,if_true,List.filter_nil]
 ·rw [if_neg h];simp only [List.filter_cons,decide_eq_false h,List.filter_nil];rfl
theorem pmR_app(a b:List Nat)(r:Row): pmR (a++b) r=pmR a r++pmR b r:=by simp [pmR]
theorem lt_step{ds:List Bool}{L:List Row}(h:Lt ds L){k:Nat}(h0:0<k)(hk:k<L.length): Jxg (L.getD (k-1) []) (L.getD k []) ds<0:=by
 have i:=List.pairwise_iff_getElem.1 h (k-1) k (by omega) hk (by omega);rw [List.getD_eq_getElem?_getD,List.getElem?_eq_getElem (by omega:k-1<L.length),List.getD_eq_getElem?_getD,List.getElem?_eq_getElem hk];exact i
set_option linter.constructorNameAsVariable false in
theorem accessSorted_any{B0:Nat}{w:World}{cs:List Value}{c:Cse}(hTB:TB B0 w)(h:CseV w cs c)(hfit:∀ i,i<c.rss.length->∀ r∈c.rss.getD i [],∀ u∈r,Qwt u):
  Ret Tryz.prog 7 [.agg cs.toArray] w λu w'=>u=.bool true/\Ext w w':=by
 obtain ⟨dA,dc,pA,pc,vA,vc,rA,rc,rfl,hD,hP,hV,hR,hn,hf⟩:=id h;refine Jjc Tryz.func7 Tryz.ntmps7 rfl (by kernel_rfl) rfl ?_;refine ρ ?_;refine bx ?_;intro w1 b ag hb hB;refine ρ ?_;refine ldW hB ?_;refine ρ ?_;refine cl (built_any (hTB.ext ag) (h.ext ag) hfit) ?_;rintro u w2 ⟨am,d3⟩;rcases d3 with ⟨rfl,dm⟩|⟨ats,x,av,kf,pf,BB,tot,hOk,rfl,hIx,hav⟩
 ·refine ρ ?_;refine alc Qcz ?_;intro w3 b3 bc bl bh;refine ρ ?_;refine stW bh ?_;intro w4 bg cz b9;have U:Ext w2 w4:=b9 w2 bc bl;refine ρ ?_;refine cl (awake41_any (hTB.ext ((ag.trans am).trans U))) ?_;rintro _ w5 ⟨rfl,af⟩;refine ρ ?_;exact Jjr ⟨rfl,((ag.trans am).trans U).trans af⟩
 obtain ⟨XA,xd,YA,yd,ZA,zd,UA,ud,tv,dk,dh,rfl,_,_,_,_,_,_,ck,_⟩:=id hIx.ix.ex;obtain ⟨TA,tc,rfl,_⟩:=id ck;obtain ⟨LA,lc,rfl,dq,dn,_⟩:=hav.parts;obtain ⟨L,hL⟩:∃ L,L=c.ans:=⟨_,rfl⟩;have dt:L.length<=5000:=by rw [hL];exact hOk.anl
 rw [<-hL]at hIx hav;rw [show c.ans.length=L.length by rw [hL]];have d6:∀ r∈L,r.length=c.F:=λr hr=>hOk.arow (hL ▸ hr);have bu:tot=L.length:=hIx.ip.len;have cr:Lt c.ds L:=by rw [hL];exact hOk.ans.1
 have d2:=hOk.fF.1;have e0:c.F<=6:=by have:=hOk.fF.2;have:=hOk.nN.2;omega
 refine ρ ?_;refine alc Qcz ?_;intro w3 b3 bc bl bh;refine ρ ?_;refine stW bh ?_;intro w4 bg cz b9;have U:Ext w2 w4:=b9 w2 bc bl;have a6:=(ag.trans am).trans U;have ai:=hIx.ext U;have c6:=(hB.ext am).ext U;refine ρ ?_;refine ldW bg ?_;refine ρ ?_;refine cl (Qxt ai.ix ai.ip.nbT) ?_;rintro tu w5 ⟨cm,_,af⟩;refine ρ ?_;refine cl (natUint64_any cm (by omega)) ?_;rintro _ _ ⟨rfl,rfl⟩;rw [bu];refine ρ ?_;refine ci (λh=>?_) (λh=>?_)
 ·exfalso
  have:=oT h;omega
 clear h;refine ρ ?_;refine ldW (c6.ext af) ?_;refine ρ ?_;refine cl (Xzx (h.ext (a6.trans af))) ?_;rintro u w6 ⟨ch,e6,dj,aA,e5,di,ac,an,ok,rfl,e4,dz,cp,bv⟩;obtain rfl:ok=true:=bv hOk.mks hOk.again;obtain ⟨_,c8,az,hG,ax,_⟩:=cp rfl;have aa:=hOk.of2 az ax;refine ρ ?_;refine alc zInp ?_;intro w7 b7 cg d5 da;refine ρ ?_;refine stW da ?_;intro w8 d9 dw ce;have ae:Ext w6 w8:=ce w6 cg d5;have O:=(af.trans ch).trans ae;have c5:=ai.ext O;have cv:=bg.ext O;have b1:=c6.ext O;obtain ⟨ts,GA,gc,c7,eG,dv,du,cy,cx⟩:=Jmw (hG.ext ae λcs a ⟨t,e,h⟩=>⟨t,e,h.ext ae⟩);injection eG with e1 e2 e3
 subst e1;subst e2;subst e3;have dl:ts.length=c.vs.length:=by rw [<-az,c7,List.length_map]
 refine ρ ?_;refine Jqb (fun (k:Nat) (lv:Value)=>[(1,.pointer (some ⟨b,0,none⟩)),(2,.bool false),(3,.pointer (some ⟨b3,0,none⟩)),(9,.pointer (some ⟨b7,0,none⟩)),(11,lv),(56,.int .u64 (L.length:Int)),(57,.int .u64 (k:Int))])
  (λk lv w'=>k<=L.length/\Ext w8 w'/\(k=0/\lv=.slice none 0 0∨0<k/\RowV w' lv (L.getD (k-1) []))) (λk _=>L.length-k) 0 (.slice none 0 0) sB ⟨Nat.zero_le _,Ext.refl _,.inl ⟨rfl,rfl⟩⟩ ?_
 rintro k lv w9 ⟨hk,ab,cq⟩;refine ρ ?_;refine ci (λh=>?_) (λh=>?_);rotate_left
 ·refine ρ ?_;refine cl (awake41_any (hTB.ext ((a6.trans O).trans ab))) ?_;rintro _ c9 ⟨rfl,a3⟩;refine ρ ?_;exact Jjr ⟨rfl,((a6.trans O).trans ab).trans a3⟩
 have lk:k<L.length:=by have:=oT h;omega
 clear h;refine ρ ?_;have b8:Ext w9 w9.drew:=(Ext.refl w9).drew;refine drN (λ_=>False) 12 [(0,0),(0,1),(1,2),(1,3),(0,4),(0,5),(0,6),(0,7),(0,8),(0,9),(0,10)] (by kernel_rfl) ?_;refine ρn ?_;refine Jlg (cs:=[.slice XA c.F xd,.slice YA c.F yd,.slice ZA c.F zd,.slice UA c.F ud,.slice TA (Jjf tot).length tc]) (λw' hg j u hu=>(((cv.ext ab).ext b8).ext hg.toExt).at hu) ?_;refine ρn ?_;refine nop ?_;refine cl (Jfc k (by omega) _) ?_;rintro o c9 ⟨ho,_,a3⟩;refine ρ ?_;refine Jqt (GrN.ext a3) ?_;refine ρn ?_;refine nop ?_;refine cl (at_any (c5.ext ((ab.trans b8).trans a3)) ho) ?_;rintro u b6 ⟨au,bm⟩;unfold AtR at bm;rw [getD_some lk]at bm;obtain ⟨A1,c1,dg,rfl,q1,q2,q3,q4⟩:=bm;refine ρ ?_;refine Jqt (GrN.ext au) ?_;refine ρn ?_;refine ρ ?_;have ap:Ext w9 b6:=(b8.trans a3).trans au;obtain ⟨r,hr⟩:∃ r,r=L.getD k []:=⟨_,rfl⟩;have cn:r.length=c.F:=by rw [hr];exact d6 _ (getD_mem' [] _ lk)
 rw [<-hr]at q1 q2 q3;rw [show (L.getD k []).length=r.length by rw [hr]];have bw:RowV b6 (.slice A1 r.length c1) r:=⟨A1,c1,rfl,q2,by omega,q1⟩;have a7:=ab.trans ap;refine Jwr (fun (_:Unit)=>[(88,.bool false),(1,.pointer (some ⟨b,0,none⟩)),(2,.bool false),(3,.pointer (some ⟨b3,0,none⟩)),(9,.pointer (some ⟨b7,0,none⟩)),(13,.slice A1 r.length c1),(56,.int .u64 (L.length:Int)),(57,.int .u64 (k:Int))]) (λ_ w'=>Ext b6 w') ?_ ?_
 ·refine ld ((b1.ext a7).at (i:=1) rfl) ?_;refine ρ ?_;rw [show ((r.length:Int) != c.f)=false by rw [cn,d2];simp];refine ρ ?_;rcases cq with ⟨h0,_⟩|⟨h0,hl⟩
  ·rw [show decide ((0:Int)<(k:Int))=false from dF (by omega)];refine ρ ?_;exact Jjn () sB (Ext.refl _)
  ·rw [show decide ((0:Int)<(k:Int))=true from decide_eq_true (by omega)];refine ρ ?_;refine ld ((b1.ext a7).at (i:=2) rfl) ?_;refine ρ ?_;refine cl (Jsb (hl.ext ap) bw (hD.ext ((a6.trans O).trans a7))) ?_;rintro _ b5 ⟨rfl,a2⟩;refine ρ ?_;have d1:=lt_step cr h0 lk;rw [<-hr]at d1;rw [show decide ((0:Int)<=Jxg (L.getD (k-1) []) r c.ds)=false from dF (by omega)];refine ρ ?_;exact Jjn () sB a2
 rintro _ b5 a2;have aq:=a7.trans a2;refine ρ ?_;refine ld ((d9.ext aq).at (i:=4) rfl) ?_;refine ρ ?_;refine Jqw (fun (i:Nat)=>[(1,.pointer (some ⟨b,0,none⟩)),(2,.bool false),(3,.pointer (some ⟨b3,0,none⟩)),(9,.pointer (some ⟨b7,0,none⟩)),(13,.slice A1 r.length c1),(56,.int .u64 (L.length:Int)),(57,.int .u64 (k:Int)),(90,.slice aA ts.length ac),(91,.int .i64 (ts.length:Int)),(92,.int .i64 (i:Int))]) (λi w'=>i<=ts.length/\Ext b5 w') (λi=>ts.length-i) 0 sB ⟨Nat.zero_le _,Ext.refl _⟩ ?_;rintro i ak ⟨hi,a8⟩;have ad:=aq.trans a8;refine ρ ?_;refine ci (λh=>?_) (λh=>?_);rotate_left
 ·refine ρ ?_;rw [Xxr (z:=(k:Int)+1) (by omega)];refine Jjm (k+1) (.slice A1 r.length c1) sO ⟨by omega,ad,.inr ⟨by omega,?_⟩⟩ (by omega);rw [show k+1-1=k by omega,<-hr];exact bw.ext (a2.trans a8)
 have li:i<ts.length:=by have:=oT h;omega
 clear h;have a5:i<c.vs.length:=by omega
 obtain ⟨q,hq⟩:∃ q,q=ts.getD i ta0:=⟨_,rfl⟩;have co:=(cx q (hq ▸ Jhk rfl li)).ext ad;have bf:q.2=c8.getD i a0:=by rw [hq,c7];simp [List.getD,List.getElem?_eq_getElem li]
 have ao:=aa.vars (i:=i) a5;have be:q.2.vars=nz (c.vars i):=by rw [bf,(ax i a5).vars,ao.1]
 have aw:Lt [] q.2.rows:=by rw [bf];exact aa.ltA a5
 obtain ⟨z,hz,ca⟩:=(aa.ans.2 r).1 (by rw [hr,<-hL];exact getD_mem' [] _ lk);have bq:pmR (c.vars i) z∈q.2.rows:=by rw [bf];exact hz.2 i a5
 have ay:=cy.ext ad;have a1:∀ j u,q.1.cells[j]?=some u->ak.cell? ((adr aA (i*3)).add j)=some u:=λj u hu=>Jmx ay rfl li (by rw [<-hq];exact hu);obtain ⟨⟨v1,v2,v3⟩,qa⟩:=q;obtain ⟨⟨D,d,e1,hd,d0,bi⟩,e2,a4⟩:=id co;simp only at e1 e2 be aw bq a1 a4 hd d0 bi;subst e1;subst e2;obtain ⟨ps,G,bn,_,cj,_⟩:=id a4;subst cj;have a1:∀ j u,([.slice D qa.vars.length d,.int .i64 (qa.ar:Int),.slice G ps.length bn]:List Value)[j]?=some u->ak.cell? ((adr aA (i*3)).add j)=some u:=a1;refine ρ ?_;refine ixq 3 i ay li ?_;refine ρ ?_;refine lds (cs:=[.slice D qa.vars.length d,.int .i64 (qa.ar:Int),.slice G ps.length bn]) a1 ?_;refine ρ ?_;refine alc Jcp ?_;intro df ba bt d4 d7;refine ρ ?_;refine stW d7 ?_;intro b4 b2 dd bs;have Z:Ext ak b4:=bs ak bt d4;have bj:qa.vars.length=(c.vars i).length:=by rw [be];simp [nz]
 rw [be,show (nz (c.vars i)).length=(c.vars i).length by simp [nz]]at bi;refine ρ ?_;refine ld (b2.at (i:=0) rfl) ?_;refine ρ ?_;rw [bj];refine Jqb (fun (j:Nat) (yv:Value)=>[(1,.pointer (some ⟨b,0,none⟩)),(2,.bool false),(3,.pointer (some ⟨b3,0,none⟩)),(9,.pointer (some ⟨b7,0,none⟩)),(13,.slice A1 r.length c1),(56,.int .u64 (L.length:Int)),(57,.int .u64 (k:Int)),(90,.slice aA ts.length ac),(91,.int .i64 (ts.length:Int)),(92,.int .i64 (i:Int)),(17,.pointer (some ⟨ba,0,none⟩)),(18,yv),(97,.slice D (c.vars i).length d),(98,.int .i64 ((c.vars i).length:Int)),(99,.int .i64 (j:Int))])
  (λj yv w'=>j<=(c.vars i).length/\Ext b4 w'/\Qzv w' b4.heap.size yv (pmR (((c.vars i).take j).filter λv=>decide (v<c.F)) r)) (λj _=>(c.vars i).length-j) 0 (.slice none 0 0) sB ⟨Nat.zero_le _,Ext.refl _,Jxm _ _ _ _⟩ ?_
 rintro j yv bp ⟨hj,C,a9⟩;have ah:=((bi.ext Z).ext C);refine ρ ?_;refine ci (λh=>?_) (λh=>?_)
 ·have lj:j<(c.vars i).length:=by have:=oT h;omega
  clear h;have cb:(pmR (((c.vars i).take j).filter λv=>decide (v<c.F)) r).length<=j:=by
   rw [Jxb];exact nL (List.length_filter_le _ _) (by rw [List.length_take];omega)
  have c3:=filter_snoc (F:=c.F) lj;refine ρ ?_;refine ix j ah lj ?_;refine ρ ?_;refine ld (ah.cell (Jzc lj)) ?_;refine ρ ?_;refine ci (λh=>?_) (λh=>?_)
  ·have bd:(c.vars i).getD j 0<c.F:=by have:=oT h;omega
   clear h;have c4:RdR bp A1 r:=Rd.ext q1 (((a2.trans a8).trans Z).trans C);refine ρ ?_;refine ixq 3 ((c.vars i).getD j 0) c4 (by omega) ?_;refine ρ ?_;refine lds (cs:=(r.getD ((c.vars i).getD j 0) V0).cells) (λj u hu=>RdR.cell c4 (by omega) hu) ?_;refine ρ ?_;refine bsl (Xqs _) ?_;intro bo bb J dx d8;refine ρ ?_;refine apb (m':=1) (news:=(r.getD ((c.vars i).getD j 0) V0).cells) EV (Jjb a9 J) (d8.rd (n:=1) rfl) (V.one _) (by have:=ao.2.2.2;unfold maxLen;have:=(aa.mka i a5).l32;omega) (by have:=ao.2.2.2;have:=(aa.mka i a5).l32;omega) (C.trans J).size ?_;intro v3 de bz c2 db;refine ρ ?_;refine Jjm (j+1) v3 sO ⟨lj,Jjk (C.trans J) c2 (Jyx (Jjb a9 J)),?_⟩ (by omega);rw [c3,if_pos bd,pmR_app];rw [Qzv,List.length_append,rowC_app'];have e1:pmR [(c.vars i).getD j 0] r=[r.getD ((c.vars i).getD j 0) V0]:=rfl;rw [e1,rowC_one''];exact bz
  ·have bd:¬ (c.vars i).getD j 0<c.F:=by have:=oF h;omega
   clear h;refine ρ ?_;refine Jjm (j+1) yv sO ⟨lj,C,?_⟩ (by omega);rw [c3,if_neg bd,List.append_nil];exact a9
 ·have cw:j=(c.vars i).length:=by have:=oF h;omega
  rw [cw,List.take_length]at a9;clear h;obtain ⟨Y,yc,rfl,cc,_⟩:=Jjd a9;have cb:(pmR ((c.vars i).filter λv=>decide (v<c.F)) r).length<=32:=by
   rw [Jxb];have:=List.length_filter_le (λv=>decide (v<c.F)) (c.vars i);have:=ao.2.2.2;have:=(aa.mka i a5).l32;omega
  have cd:RowV bp (.slice Y (pmR ((c.vars i).filter λv=>decide (v<c.F)) r).length yc) (pmR ((c.vars i).filter λv=>decide (v<c.F)) r):=⟨Y,yc,rfl,cc,by omega,Rd.own a9⟩;have aj:=b2.ext C;refine ρ ?_;refine lds (cs:=[.int .i64 (qa.ar:Int),.slice G ps.length bn]) (λj u hu=>(aj.sub (i:=1) (j:=j) (by rw [Nat.add_comm];exact hu))) ?_;refine ρ ?_;refine cl (relSearch_any ⟨_,rfl,a4.ext (Z.trans C)⟩ cd aw) ?_;rintro _ bo ⟨rfl,J⟩;refine ρ ?_;refine ld ((aj.ext J).at (i:=0) rfl) ?_;refine ρ ?_;have br:Ext b5 bo:=((a8.trans Z).trans C).trans J;by_cases hle:((c.vars i).filter λv=>decide (v<c.F)).length=(c.vars i).length
  ·have c0:pmR ((c.vars i).filter λv=>decide (v<c.F)) r∈qa.rows:=by
    rw [pm_filter ca hle (by rw [hz.1];exact hOk.fF.2)];exact bq
   rw [decide_eq_true c0,show (((pmR ((c.vars i).filter λv=>decide (v<c.F)) r).length:Int) == (qa.vars.length:Int))=true by rw [Jxb,bj,hle];simp];refine ρ ?_;exact Jjx (i+1) sO ⟨li,br⟩ (by omega)
  ·rw [show (((pmR ((c.vars i).filter λv=>decide (v<c.F)) r).length:Int) == (qa.vars.length:Int))=false by rw [Jxb,bj];simpa using λe=>hle (by omega)];refine ρ ?_;exact Jjx (i+1) sO ⟨li,br⟩ (by omega)
end Go.Proofs.YtefpailelagbkaaGreatDoor
namespace Go.Proofs.YtefpailelagbkaaGreatDoor
open Go.RowKit Pl Go.Wk
theorem accessSorted_walk{B0:Nat}{w:World}{v:Value}(hTB:TB B0 w)(h:CaseE w v): Ret Tryz.prog 7 [v] w λu w'=>u=.bool true/\Ext w w':=by
 obtain ⟨cs,c,rfl,j,i⟩:=h;exact accessSorted_any hTB j i
end Go.Proofs.YtefpailelagbkaaGreatDoor
