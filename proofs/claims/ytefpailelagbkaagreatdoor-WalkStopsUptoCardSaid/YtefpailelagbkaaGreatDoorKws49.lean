/- Part 4 of the proof: WaA, WaB. -/
import Derived.Test.YtefpailelagbkaaGreatDoorKws48
set_option linter.unusedVariables false
set_option maxRecDepth 100000
set_option maxHeartbeats 40000000
namespace Go.Proofs.YtefpailelagbkaaGreatDoor
open Go.RowKit Pl Go.Wk
attribute [local irreducible] WC WL QX WD WDB WP WN WG WH WM
theorem callableAll: Qbg Tryz.prog 91:=⟨_,_,Tryz.func91,rfl,by kernel_rfl⟩
structure LpI(W:World)(D fn:Nat)(tmps:Array Value)(ps:Array Tmp)(assign body:Code)(st:LoopState)(pe:Option Code): Prop where
 l:W.heap[D+1]?=some (.loop (rec0 D fn tmps ps assign body st pe))
 d:W.heap[D]?=some (.deferred (some []))
section
variable {W W':World} {D fn:Nat} {tmps:Array Value} {ps:Array Tmp} {assign body:Code} {st st':LoopState} {pe pe':Option Code}
theorem LpI.gr{N:Nat->Prop}(h:LpI W D fn tmps ps assign body st pe)(hg:GrN N W W')(h0:¬ N D)(h1:¬ N (D+1)): LpI W' D fn tmps ps assign body st pe :=
 ⟨(hg.block _ (Array.getElem?_eq_some_iff.1 h.l).1 h1).trans h.l,(hg.block _ (Array.getElem?_eq_some_iff.1 h.d).1 h0).trans h.d⟩
theorem LpI.put(h:LpI W D fn tmps ps assign body st pe): LpI (W.putObj (D+1) (.loop (rec0 D fn tmps ps assign body st' pe'))) D fn tmps ps assign body st' pe' :=
 ⟨World.putObj_heap_same (Array.getElem?_eq_some_iff.1 h.l).1,(World.putObj_heap_other (by omega)).trans h.d⟩
theorem LpI.new(W:World): LpI ((W.alloc (.deferred (some []))).alloc (.loop (rec0 W.heap.size fn tmps ps assign body st pe))) W.heap.size fn tmps ps assign body st pe:=by
 refine ⟨?_,?_⟩
 ·have:=World.alloc_heap_new (W.alloc (.deferred (some []))) (.loop (rec0 W.heap.size fn tmps ps assign body st pe));rwa [World.size_alloc]at this
 ·exact (Below.heap_alloc _ _ _ (by simp)).trans (World.alloc_heap_new W _)
end
set_option linter.constructorNameAsVariable false in
theorem walkStops_any{B0:Nat}{w:World}{cs:List Value}{c:Cse}{k stop:Nat}(hTB:TB B0 w)(h:CseV w cs c)(hfit:∀ i,i<c.rss.length->∀ r∈c.rss.getD i [],∀ u∈r,Qyf u)(hk:k<=255)(hs:stop<=255):
  Ret Tryz.prog 13 [.agg cs.toArray,.int .u8 (k:Int),.int .u8 (stop:Int)] w λu w'=>u=.bool true/\Ext w w':=by
 obtain ⟨dA,dc,pA,pc,vA,vc,rA,rc,rfl,hD,hP,hV,hR,hn,hf⟩:=id h;refine enterM Tryz.func13 Tryz.ntmps13 rfl (by kernel_rfl) rfl ?_;refine ρ ?_;refine bx ?_;intro w1 b bg hb hB;refine ρ ?_;refine bx ?_;intro c4 b5 ae ck b9;have a3:=bg.trans ae;refine ρ ?_;refine ldW (hB.ext ae) ?_;refine ρ ?_;refine cl (made44_any (hTB.ext a3) (h.ext a3) hfit) ?_;rintro u w2 ⟨a9,br⟩;rcases br with ⟨rfl,c9⟩|⟨ats,x,av,kf,pf,BB,tot,hOk,rfl,hIx,hav⟩
 ·refine ρ ?_;refine alc Qfg ?_;intro w3 b3 aa am ai;refine ρ ?_;refine stW ai ?_;intro w4 aw bo ah;have O:Ext w2 w4:=ah w2 aa am;refine ρ ?_;refine cl (awake44_any (hTB.ext ((a3.trans a9).trans O))) ?_;rintro _ w5 ⟨rfl,a4⟩;refine ρ ?_;exact finM (Jjq ⟨rfl,((a3.trans a9).trans O).trans a4⟩)
 obtain ⟨XA,xd,YA,yd,ZA,zd,UA,ud,tv,c6,c5,rfl,_,_,_,_,_,_,bh,_⟩:=id hIx.ix.ex;obtain ⟨TA,tc,rfl,_⟩:=id bh;obtain ⟨LA,lc,rfl,cd,cb,_⟩:=hav.parts;obtain ⟨L,hL⟩:∃ L,L=c.ans:=⟨_,rfl⟩;have bl:L.length<=5000:=by rw [hL];exact hOk.anl
 rw [<-hL]at hIx hav;rw [show c.ans.length=L.length by rw [hL]];refine ρ ?_;refine alc Qfg ?_;intro w3 b3 aa am ai;refine ρ ?_;refine stW ai ?_;intro w4 aw bo ah;have O:Ext w2 w4:=ah w2 aa am;have ac:=(a3.trans a9).trans O;have ag:=hIx.ext O;have a7:Ext w4 w4.drew:=(Ext.refl w4).drew;refine ρ ?_;refine drN (λ_=>False) 7 [(0,0),(0,1),(0,2),(1,3),(1,4),(0,5)] (by kernel_rfl) ?_;refine ρn ?_;refine Jgr (cs:=[.slice XA c.F xd,.slice YA c.F yd,.slice ZA c.F zd,.slice UA c.F ud,.slice TA (Jjf tot).length tc]) (λw' hg j u hu=>((aw.ext a7).ext hg.toExt).at hu) ?_;refine ρn ?_;rw [Qrl (z:=(k:Int)) (by omega)];refine nop ?_;refine cl (of44_any (n:=k) (by omega) _) ?_;rintro o w5 ⟨ho,a4⟩;refine ρ ?_;refine Jqv (GrN.ext a4) ?_;refine ρn ?_;refine nop ?_;have cc:=limbs_s (p:=k) (by omega);refine cl (all_any ho (by omega)) ?_;rintro u w6 ⟨a8,b1,b2,QA,qc,rfl,c1,c0,bn⟩;refine ρ ?_;refine Jqv (GrN.ext a8) ?_
 refine ρn ?_;refine ρ ?_;refine fnl0 (ps:=#[166]) (rs:=#[]) (va:=false) (by kernel_rfl) ?_;refine ρ ?_;refine alc zInt ?_;intro w7 bm bf bs bz;refine ρ ?_;refine Xqk bz ?_ rfl;intro C b8 ch be;have U:Ext w6 C:=be w6 bf bs;have a2:=((a7.trans a4).trans a8).trans U;have aq:=ac.trans a2;refine ρ ?_;refine wrfB callableAll ?_;intro a1 b6 bd bt fn tmps bq;obtain ⟨W1,ab⟩:∃ W1,W1=(C.alloc (.deferred (some []))).alloc (.loop (rec0 C.heap.size fn tmps #[34,35] a1 bd .ready none)):=⟨_,rfl⟩;rw [<-ab];have G:Ext C W1:=by rw [ab];exact ((Ext.refl C).alloc _).alloc _
 have c2:W1.heap.size=C.heap.size+2:=by rw [ab];simp
 have bu:LpI W1 C.heap.size fn tmps #[34,35] a1 bd .ready none:=by rw [ab];exact LpI.new C
 have cj:=b8.lt;have Z:=((b9.ext a9).ext O).ext a2;have c3:=ag.ext (a2.trans G);have au:Off (λq=>q=bm∨q=C.heap.size+1) W1 λu=>IxA u _ c.F c.ds kf pf BB tot L:=Off.old (λu hu=>ag.ext hu) (a2.trans G) λq hq=>by
  have:=(a7.trans (a4.trans a8)).size;have:=a2.size;omega
 have bv:=allIter_any (l:=C.heap.size+1) (b1:=b1) (b2:=b2) (S0:=λq=>q=bm∨q=C.heap.size+1)
  (J:=λi S W=>Blk W bm 3 [.int .i64 (i:Int)]/\Blk W b5 5 [.int .u8 (stop:Int)]/\LpI W C.heap.size fn tmps #[34,35] a1 bd .ready none/\S bm/\S (C.heap.size+1)/\(i=0∨i<stop)/\i<=L.length-k)
  (Jx:=λW=>∃ i:Nat,Blk W bm 3 [.int .i64 (i:Int)]/\Blk W b5 5 [.int .u8 (stop:Int)]/\LpI W C.heap.size fn tmps #[34,35] a1 bd .done (some (.exit 0))/\i=min (L.length-k) (max stop 1))
  rfl au bl ((c1.ext U).ext G) ((c0.ext U).ext G) (bn.ext (U.trans G)) (by omega) (λq hq=>by omega)
  ⟨b8.ext G,Z.ext G,bu,.inl rfl,.inr rfl,.inl rfl,Nat.zero_le _⟩ ?_ ?_ ?_
 rotate_left
 ·rintro i S W W' ⟨j1,j2,j3,j4,j5,j6,j7⟩ hx;exact ⟨j1.ext hx,j2.ext hx,j3.gr (GrN.ext hx:GrN (λ_=>False) _ _) id id,j4,j5,j6,j7⟩
 ·rintro i S W W' b4 cu ⟨j1,j2,j3,j4,j5,j6,j7⟩ cm _ _ _ hg;exact ⟨Jqb j1 hg (by omega),Jqb j2 hg (by have:=Z.lt;omega),j3.gr hg (by omega) (by omega),j4,j5,j6,j7⟩
 ·rintro i r S W RA ao hr ax co cn ⟨j1,j2,j3,j4,j5,j6,j7⟩ c8 c7 _ _;have ce:k+i<L.length:=(List.getElem?_eq_some_iff.1 hr).1;refine ⟨_,_,_,_,yield_run2 j3.l,?_⟩;have ay:Fr 58 ((35,.slice RA r.length ao)::(34,.int .i64 (i:Int))::[(5,.pointer (some ⟨b5,0,none⟩)),(12,.pointer (some ⟨bm,0,none⟩))]) ⟨(tmps.setIfInBounds 34 (.int .i64 (i:Int))).setIfInBounds 35 (.slice RA r.length ao),[]⟩:=fr_set (p:=35) _ (fr_set (p:=34) _ (bq.sub sB) (by decide)) (by decide);refine xround ay ?_;refine XC.code b6 ?_;refine xskip ?_;refine xbegin j3.l ?_;have g1:GrN S W (W.putObj (C.heap.size+1) (.loop (rec0 C.heap.size fn tmps #[34,35] a1 bd .busy none))):=GrN.put _ j5;have gp:GrN (λq=>q=C.heap.size+1) W (W.putObj (C.heap.size+1) (.loop (rec0 C.heap.size fn tmps #[34,35] a1 bd .busy none))):=GrN.put _ rfl;have ap:=Jqb j1 gp (by omega);have bb:=Jqb j2 gp (by have:=Z.lt;omega);have ba:=LpI.put (st':=.busy) (pe':=none) j3
  refine XC.code bt ?_;refine xblock ?_;refine xseq ?_;refine xreg ?_;refine ld (ap.at (i:=0) rfl) ?_;refine ρ ?_;refine Xqk ap ?_ rfl;intro W3 an bp aa;have g3:GrN (λq=>q=bm) _ W3:=GrN.by bp λq hq=>by injection hq with hq;exact hq.symm
  refine ρ ?_;refine xend ?_;refine xnext ?_;refine xseq ?_;refine xreg ?_;have a6:=Jqb bb g3 (by have:=b9.lt;have:=(a9.trans (O.trans ((a7.trans a4).trans a8))).size;omega);have a5:=ba.gr g3 (by omega) (by omega);refine ld (an.at (i:=0) rfl) ?_;refine ρ ?_;refine ld (a6.at (i:=0) rfl) ?_;refine ρ ?_;refine xend ?_;refine xnext ?_;have gS:GrN S W W3:=g1.trans (g3.mono λq _ e=>e ▸ j4);refine xcond (λh=>?_) (λh=>?_)
  ·have cg:stop<=i+1:=by have:=oT h;rw [Qrl (z:=(stop:Int)) (by omega)]at this;omega
   refine xexit ?_;refine xbother ?_;refine xrexit a5.l ⟨gS.trans (GrN.put _ j5),.inr ⟨rfl,i+1,Jqb an (GrN.put _ rfl:GrN (λq=>q=C.heap.size+1) _ _) (by omega),Jqb a6 (GrN.put _ rfl:GrN (λq=>q=C.heap.size+1) _ _) (by have:=Z.lt;omega),a5.put,by omega⟩⟩
  ·have ca:i+1<stop:=by have:=oF h;rw [Qrl (z:=(stop:Int)) (by omega)]at this;omega
   refine xskip ?_;refine xbnormal ?_;refine xrend a5.l ⟨gS.trans (GrN.put _ j5),.inl ⟨rfl,S,λb hb=>.inl hb,Jqb an (GrN.put _ rfl:GrN (λq=>q=C.heap.size+1) _ _) (by omega),Jqb a6 (GrN.put _ rfl:GrN (λq=>q=C.heap.size+1) _ _) (by have:=Z.lt;omega),a5.put,j4,j5,by omega,by omega⟩⟩
 refine bv.calls.mono ?_;rintro e W ⟨v,rfl,ax,aj⟩;obtain ⟨m,st,pe,b7,ak,af,hm,bi,bj⟩:∃ (m:Nat) (st:LoopState) (pe:Option Code),Blk W bm 3 [.int .i64 (m:Int)]/\Blk W b5 5 [.int .u8 (stop:Int)]/\LpI W C.heap.size fn tmps #[34,35] a1 bd st pe/\m=min (L.length-k) (max stop 1)/\st≠.busy/\(pe=none∨pe=some (.exit 0)):=by
  rcases aj with ⟨S,⟨j1,j2,j3,j4,j5,j6,j7⟩,_⟩|⟨i,j1,j2,j3,j4⟩
  ·exact ⟨_,_,_,j1,j2,j3,by omega,by simp,.inl rfl⟩
  ·exact ⟨_,_,_,j1,j2,j3,j4,by simp,.inr rfl⟩
 refine ⟨v,rfl,st,pe,af.l,bi,bj,?_⟩;have gE:GrN (λq=>q=C.heap.size+1) W (W.putObj (C.heap.size+1) (.loop (rec0 C.heap.size fn tmps #[34,35] a1 bd .exhausted pe))):=GrN.put _ rfl;have k1:=Jqb b7 gE (by omega);have k2:=Jqb ak gE (by have:=Z.lt;omega);have k3:=LpI.put (st':=.exhausted) (pe':=pe) af;have bc:Ext w6 (W.putObj (C.heap.size+1) (.loop (rec0 C.heap.size fn tmps #[34,35] a1 bd .exhausted pe))):=(ax.trans (gE.mono λq _ e=>.inr e)).old (U.trans G) λq hq=>by
  have:=U.size;omega
 have ad:=((ac.trans ((a7.trans a4).trans a8))).trans bc;refine xnextw ?_;refine xseq ?_;refine xreg ?_;refine ρ ?_;refine xend ?_;refine xnext ?_;refine xseq ?_;refine xreg ?_;refine ld (k1.at (i:=0) rfl) ?_;refine ρ ?_;refine ld (k2.at (i:=0) rfl) ?_;refine ρ ?_;refine kt 55 ?_ ?_
 ·rw [Qrl (z:=(k:Int)) (by omega),Qrl (z:=(stop:Int)) (by omega),Qrl (z:=(L.length:Int)-(k:Int)) (by omega),beq_iff_eq];repeat' split
  all_goals omega
 refine ρ ?_;refine cl (awake44_any (hTB.ext ad)) ?_;rintro _ w9 ⟨rfl,ar⟩;refine ρ ?_;refine xend ?_;refine xnext ?_;refine xret ?_;have bw:=(ar.block _ (Array.getElem?_eq_some_iff.1 k3.d).1).trans k3.d;refine finX bw (Jjq ⟨rfl,(GrN.put _ rfl:GrN (λq=>q=C.heap.size) _ _).old (ad.trans ar) λq hq=>?_⟩);have:=aq.size;omega
end Go.Proofs.YtefpailelagbkaaGreatDoor
namespace Go.Proofs.YtefpailelagbkaaGreatDoor
open Go.RowKit Pl Go.Wk
theorem walkStops_walk{B0:Nat}{w:World}{v:Value}{k s:Int}(hTB:TB B0 w)(h:CaseE w v)(hk:0<=k/\k<=255)(hs:0<=s/\s<=255): Ret Tryz.prog 13 [v,.int .u8 k,.int .u8 s] w λu w'=>u=.bool true/\Ext w w':=by
 obtain ⟨cs,c,rfl,j,i⟩:=h;obtain ⟨C,rfl⟩:=Int.eq_ofNat_of_zero_le hk.1;obtain ⟨o,rfl⟩:=Int.eq_ofNat_of_zero_le hs.1;exact walkStops_any hTB j i (by omega) (by omega)
end Go.Proofs.YtefpailelagbkaaGreatDoor
