/- Part 4. -/
import Derived.Test.YtebcagekopgdhaaGreatDoorKwp48
set_option linter.unusedVariables false
set_option maxRecDepth 100000
set_option maxHeartbeats 40000000
namespace Go.Proofs.YtebcagekopgdhaaGreatDoor
open Go.RowKit Pl Go.Wk
attribute [local irreducible] WC WL QX WD WDB WP WN WG WH WM
theorem offRow{N:Nat->Prop}{w:World}{u:Value}{r:Row}{b t:Nat}{cs:List Value}(h:Off N w λW=>RowV W u r)(hB:Blk w b t cs)(hs:∀ u∈cs,∀ s,u≠.string s): Off (λk=>N k∨k=b) w λW=>RowV W u r:=λW G=>by
 obtain ⟨o,J⟩:∃ o,w.heap[b]?=some o:=⟨_,hB⟩;have O:b<w.heap.size:=(Array.getElem?_eq_some_iff.1 J).1;have C:b<W.heap.size:=nM O G.size;have h1:GrN N w (W.putObj b o):=⟨G.os,G.tape,G.output,by simpa using G.size,λk Z hn=>by
  by_cases e:k=b
  .subst e;rw [World.putObj_heap_same C,J]
  .rw [World.putObj_heap_other e];exact G.block k Z λh=>h.elim hn e⟩
 have h2:GrN (λk=>k=b) (W.putObj b o) W:=⟨rfl,rfl,rfl,by simp,λk Z hn=>(World.putObj_heap_other hn).symm⟩;have U:Blk (W.putObj b o) b t cs:=(World.putObj_heap_same C).trans (J ▸ hB);obtain ⟨A,c,e,e1,e2,hR⟩:=h _ h1;exact ⟨A,c,e,e1,e2,(rowOff hR U hs) W h2⟩
theorem ownRows_b{N0:Nat->Prop}{W W':World}{base b t:Nat}{v:Value}{ls:List Row}{cs:List Value}(h:OwnM 37 1 RowΦ N0 W base v ls)(hB:Blk W b t cs)(hs:∀ u∈cs,∀ s,u≠.string s)(hv:v.ownBlock≠some b)(hg:GrN (λk=>k=b) W W'): OwnM 37 1 RowΦ N0 W' base v ls:=by
 obtain ⟨ps,h1,h2,J⟩:=h;refine ⟨ps,h1,Jr h2 hg (λg eg e=>hv (e ▸ eg)),λp C=>⟨(J p C).1,?_⟩⟩;obtain ⟨u,O,_⟩:=(J p C).2.here;have Z:Off (λk=>N0 k∨v.ownBlock=some k) W λW=>RowV W u p.2:=(J p C).2.imp λW ⟨u',o,h'⟩=>by rw [O]at o;injection o with o;rw [o];exact h'
 have U:=offRow Z hB hs;intro W2 G;refine ⟨u,O,U W2 ?_⟩;exact (hg.mono λk _ e=>.inr e).trans (G.mono λk _ e=>.inl e)
theorem own_lower{w:World}{base base' e sz:Nat}{v:Value}{m:Nat}{xs:List Value}(h:w.ownsRow base e sz v m xs)(hb:base'<=base): w.ownsRow base' e sz v m xs:=by
 obtain ⟨u,h|⟨g,o,cur,J,G,C⟩⟩:=h
 .exact ⟨u,.inl h⟩
 .exact ⟨u,.inr ⟨g,o,cur,J,Nat.le_trans hb G,C⟩⟩
section
variable {w:World} {x:Value} {f:Nat} {ds:List Bool} {kf:Nat->Nat} {pf:Nat->Int} {BB:Nat->List BkT} {tot:Nat} {L:List Row}
theorem collect_off(h:IxA w x f ds kf pf BB tot L){k:Nat}{kv:Value}{most:Int}(hk:NatV w kv k)(hk5:k<=5000)(hl5:L.length<=5000)(hm:-9223372036854775808<=most/\most<=9223372036854775807):
  Ret Tryz.prog 25 [x,kv,.int .i64 most] w λu w'=>Ext w w'/\if most<0∨L.length<k then u=.tuple #[.slice none 0 0,.int .i64 3] else ∃ v,u=.tuple #[v,.int .i64 0]/\OwnM 37 1 RowΦ (λq=>q<w.heap.size) w' w.heap.size v ((L.drop k).take most.toNat):=by
 obtain ⟨XA,xd,YA,yd,ZA,zd,UA,ud,tv,cw,cv,rfl,_,_,_,_,_,_,bo,_⟩:=id h.ix.ex;obtain ⟨TA,tc,rfl,_⟩:=id bo;obtain ⟨KA,kc,rfl,_⟩:=id hk;have cn:tot=L.length:=h.ip.len;refine enterM Tryz.func25 Tryz.ntmps25 rfl kr rfl ?_;refine ρ ?_;refine bx ?_;intro w1 b3 bn d6 bc;refine ρ ?_;refine bx ?_;intro w2 b5 ai d4 af;have a6:=bn.trans ai;refine ρ ?_;refine ld (af.at (i:=0) rfl) ?_;refine ρ ?_;refine ki 13 (λhc=>?_) (λhc=>?_)
 .have ay:most<0:=oT hc;refine ρ ?_;exact finM (Ve ⟨a6,by rw [if_pos (.inl ay)]⟩)
 have au:¬ most<0:=oF hc;clear hc;refine ρ ?_;refine ldW (bc.ext ai) ?_;refine ρ ?_;refine cl (Qfw (h.ix.ext a6) h.ip.nbT) ?_;rintro tu w3 ⟨bp,_,G⟩;refine ρ ?_;refine cl (Jqh (hk.ext (a6.trans G)) bp) ?_;rintro _ w4 ⟨rfl,bm⟩;have a1:=G.trans bm;have O:=a6.trans a1;refine ρ ?_;refine ci (λhc=>?_) (λhc=>?_)
 .have c5:L.length<k:=by
   have:=oT hc;rcases Nat.lt_or_ge tot k with h'|h'
   .omega
   .exfalso
    rcases Nat.eq_or_lt_of_le h' with e|e
    .rw [e]at this;unfold Yl at this;rw [if_neg om,if_neg om]at this;omega
    .unfold Yl at this;rw [if_pos e]at this;omega
  refine ρ ?_;exact finM (Ve ⟨O,by rw [if_pos (.inr c5)]⟩)
 have c2:¬ L.length<k:=by
  have:=oF hc;intro h';have:Yl k tot=1:=by unfold Yl;rw [if_neg om,if_pos om]
  omega
 clear hc;have c4:¬ (most<0∨L.length<k):=λh=>h.elim au c2;simp only [if_neg c4];refine ρ ?_;refine ld ((af.ext a1).at (i:=0) rfl) ?_;refine ρ ?_;refine ci (λhc=>?_) (λhc=>?_)
 .have h0:most=0:=Xf hc;refine ρ ?_;refine finM (Ve ⟨O,_,rfl,?_⟩);rw [h0];exact OwnM.nil _ _
 have h0:most≠0:=Xg hc;clear hc;refine ρ ?_;refine alc zRows ?_;intro w5 b8 a8 d3 bb;refine ρ ?_;refine ldW ((bc.ext ai).ext (a1.trans a8)) ?_;refine ρ ?_;have d0:=limbs_s (p:=k) om;refine cl (all_any (hk.ext (O.trans a8)) om) ?_;rintro u o ⟨a7,b1,b2,QA,qc,rfl,ck,cj,c3⟩;have a2:=(O.trans a8).trans a7;refine ρ ?_;refine wrfB callableAll ?_;intro Z b9 bd ca fn tmps c8;obtain ⟨W1,ae⟩:∃ W1,W1=(o.alloc (.deferred (some []))).alloc (.loop (rec0 o.heap.size fn tmps #[25,26] Z bd .ready none)):=⟨_,rfl⟩;rw [<-ae];have C:Ext o W1:=by rw [ae];exact ((Ext.refl o).alloc _).alloc _
 have co:W1.heap.size=o.heap.size+2:=by rw [ae];simp
 have cd:LpI W1 o.heap.size fn tmps #[25,26] Z bd .ready none:=by rw [ae];exact LpI.new o
 have cq:=(bb.ext a7).lt;have ah:=(af.ext (a1.trans a8)).ext a7;have cr:=ah.lt;have b7:b5≠b8:=by have:=(af.ext a1).lt;omega
 have aw:Off (λq=>q=b8∨q=o.heap.size+1) W1 λu=>IxA u _ f ds kf pf BB tot L:=Off.old (λu hu=>h.ext hu) (a2.trans C) λq hq=>by
  have:=O.size;have:=a2.size;omega
 have cp:=h.ip.f32;have a5:∀ g,W1.heap.size<=g->¬ (g=b8∨g=o.heap.size+1∨g=o.heap.size∨g<w.heap.size):=λg hg=>by
  have:=a2.size;omega
 have ce:=allIter_any (l:=o.heap.size+1) (b1:=b1) (b2:=b2) (S0:=λq=>q=b8∨q=o.heap.size+1)
  (J:=λi S W=>∃ U,(∀ q,S q↔(q=b8∨q=o.heap.size+1∨U.ownBlock=some q))/\Blk W b8 54 [U]/\OwnM 37 1 RowΦ (λq=>q=b8∨q=o.heap.size+1∨q=o.heap.size∨q<w.heap.size) W W1.heap.size U ((L.drop k).take i)/\Blk W b5 3 [.int .i64 most]/\LpI W o.heap.size fn tmps #[25,26] Z bd .ready none/\(i=0∨(i:Int)<most)/\i<=L.length-k)
  (Jx:=λW=>∃ (i:Nat) (U:Value),Blk W b8 54 [U]/\OwnM 37 1 RowΦ (λq=>q=b8∨q=o.heap.size+1∨q=o.heap.size∨q<w.heap.size) W W1.heap.size U ((L.drop k).take i)/\LpI W o.heap.size fn tmps #[25,26] Z bd .done (some (.exit 0))/\(i:Int)=most)
  rfl aw hl5 (ck.ext C) (cj.ext C) (c3.ext C) hk5 (λq hq=>om)
  ⟨.slice none 0 0,λq=>by simp [Value.ownBlock],(bb.ext a7).ext C,OwnM.nil _ _,ah.ext C,cd,.inl rfl,Nat.zero_le _⟩ ?_ ?_ ?_
 rotate_left
 .rintro i S W W' ⟨U,jS,j1,jo,j2,j3,j6,j7⟩ hx;exact ⟨U,jS,j1.ext hx,jo.ext hx,j2.ext hx,j3.gr (GrN.ext hx:GrN (λ_=>False) _ _) id id,j6,j7⟩
 .rintro i S W W' b4 cu ⟨U,jS,j1,jo,j2,j3,j6,j7⟩ d5 cb ch c9 hg;exact ⟨U,jS,Jd j1 hg om,ownRows_b jo ch c9 (λe=>cb ((jS b4).2 (.inr (.inr e)))) hg,Jd j2 hg om,j3.gr hg om om,j6,j7⟩
 .rintro i r S W RA a9 hr ak d8 d7 ⟨U,jS,j1,jo,j2,j3,j6,j7⟩ bu bs cy ar;have d1:k+i<L.length:=(List.getElem?_eq_some_iff.1 hr).1;refine ⟨_,_,_,_,yield_run2 j3.l,?_⟩;have b6:Fr 36 ((26,.slice RA r.length a9)::(25,.int .i64 (i:Int))::[(5,.pointer (some ⟨b5,0,none⟩)),(8,.pointer (some ⟨b8,0,none⟩))]) ⟨(tmps.setIfInBounds 25 (.int .i64 (i:Int))).setIfInBounds 26 (.slice RA r.length a9),[]⟩:=fr_set (p:=26) _ (fr_set (p:=25) _ (c8.sub sB) (by decide)) (by decide);refine xround b6 ?_;refine XC.code b9 ?_;refine xseq ?_;refine xreg ?_ (hO:=λ_ _ h=>h);refine ρ ?_;refine xend ?_;refine xnext ?_;refine xreg ?_ (hO:=λ_ _ h=>h);refine ρ ?_;refine xend ?_;refine xbegin j3.l ?_;have jl:S (o.heap.size+1):=(jS _).2 (.inr (.inl rfl));have j8:S b8:=(jS _).2 (.inl rfl);obtain ⟨Wb,ac⟩:∃ Wb,Wb=W.putObj (o.heap.size+1) (.loop (rec0 o.heap.size fn tmps #[25,26] Z bd .busy none)):=⟨_,rfl⟩;have g1:GrN S W Wb:=by rw [ac];exact GrN.put _ jl
  have gp:GrN (λq=>q=o.heap.size+1) W Wb:=by rw [ac];exact GrN.put _ rfl
  have aq:=Jd j1 gp om;have bj:=Jd j2 gp om;have bh:LpI Wb o.heap.size fn tmps #[25,26] Z bd .busy none:=by rw [ac];exact LpI.put j3
  have ao:=jo.gr (gp.mono λq _ e=>.inr (.inl e)) λg hg=>a5 g (by obtain ⟨_,_,_,_,hf⟩:=jo.form;exact (hf g hg).1);rw [<-ac];obtain ⟨OA,oc,rfl,bw,a4⟩:=ao.form;refine XC.code ca ?_;refine xblock ?_;refine xseq ?_;refine xreg ?_;refine ld (aq.at (i:=0) rfl) ?_;refine ρ ?_;refine bsl (λw=>Jvx (.slice RA r.length a9) w _ _ _ rfl) ?_;intro W3 bz G d2 cg;refine ρ ?_;have bt:RdR W3 RA r:=Rd.ext (Zo bu gp λh0 ad e e2=>by
   have:=(ar (λe=>by subst e;simp [Jl]at h0) ad e).1;omega) G
  have cc:Off (λq=>(q=b8∨q=o.heap.size+1∨q=o.heap.size∨q<w.heap.size)∨(Value.slice OA ((L.drop k).take i).length oc).ownBlock=some q) W3 λu=>RowΦ u [.slice RA r.length a9] r:=(Jnm bt λh0 ad e hn=>by
   have h1:=ar (λe=>by subst e;simp [Jl]at h0) ad e;rcases hn with hn|hn
   .exact a5 _ h1.1 hn
   .exact h1.2 ((jS _).2 (.inr (.inr hn)))).imp λu hu=>⟨_,rfl,RA,a9,rfl,bs,om,hu⟩
  have be:=ao.ext G;have cx:((L.drop k).take i).length<=5000:=by rw [List.length_take,List.length_drop];omega
  refine apM ER (Φ:=RowΦ) be cg rfl (λu hu=>by rw [List.mem_singleton.1 hu];rfl) cc om om (nL ak.size (nL gp.size G.size)) ?_;intro v4 W4 ax c7 c0;have g4:GrN (λq=>(Value.slice OA ((L.drop k).take i).length oc).ownBlock=some q) W3 W4:=GrN.by c7 λq hq=>hq
  have bf:=Jd (aq.ext G) g4 λe=>by have:=(a4 _ e).1;omega
  have bi:=Jd (bj.ext G) g4 λe=>by have:=(a4 _ e).1;omega
  have bg:=(bh.gr (GrN.ext G:GrN (λ_=>False) _ _) id id).gr g4 (λe=>by have:=(a4 _ e).1;omega) (λe=>by have:=(a4 _ e).1;omega);obtain ⟨OB,od,rfl,cz,a3⟩:=ax.form;have bq:((L.drop k).take i++[r])=(L.drop k).take (i+1):=by
   have e:(L.drop k)[i]?=some r:=by rw [List.getElem?_drop];exact hr
   obtain ⟨hi,e⟩:=List.getElem?_eq_some_iff.1 e;rw [List.take_succ_eq_append_getElem hi,e]
  refine ρ ?_;refine Ij bf ?_ rfl;intro W5 aa c6 cm;have g5:GrN (λq=>q=b8) W4 W5:=GrN.by c6 λq hq=>by injection hq with hq;exact hq.symm
  have aj:=ax.gr (g5.mono λq _ e=>.inl e) λg hg=>a5 g (a3 g hg).1;have ap:=Jd bi g5 b7;have ab:=bg.gr g5 om om;have gS:GrN S W W5:=((g1.trans (GrN.ext G)).trans (g4.mono λq _ e=>(jS _).2 (.inr (.inr e)))).trans (g5.mono λq _ e=>e ▸ j8);refine ρ ?_;refine xend ?_;refine xnext ?_;refine xseq ?_;refine xreg ?_;refine ρ ?_;refine ld (ap.at (i:=0) rfl) ?_;refine ρ ?_;refine xend ?_;refine xnext ?_;rw [bq]at aj a3 aa;refine xcond (λhc=>?_) (λhc=>?_)
  .have he:(i:Int)+1=most:=Xf hc;refine xexit ?_;refine xbother ?_;refine xrexit ab.l ⟨gS.trans (GrN.put _ jl),.inr ⟨rfl,i+1,_,Jd aa (GrN.put _ rfl:GrN (λq=>q=o.heap.size+1) _ _) om,aj.gr (GrN.put _ (.inr (.inl rfl))) (λg hg=>a5 g (a3 g hg).1),ab.put,om⟩⟩
  .have he:(i:Int)+1≠most:=Xg hc;refine xskip ?_;refine xbnormal ?_;refine xrend ab.l ⟨gS.trans (GrN.put _ jl),.inl ⟨rfl,λq=>q=b8∨q=o.heap.size+1∨(Value.slice OB ((L.drop k).take (i+1)).length od).ownBlock=some q,λq hq=>?_,_,λq=>Iff.rfl,Jd aa (GrN.put _ rfl:GrN (λq=>q=o.heap.size+1) _ _) om,aj.gr (GrN.put _ (.inr (.inl rfl))) (λg hg=>a5 g (a3 g hg).1),Jd ap (GrN.put _ rfl:GrN (λq=>q=o.heap.size+1) _ _) om,ab.put,om,om⟩⟩;rcases hq with rfl|rfl|hq
   .exact .inl j8
   .exact .inl jl
   .rcases c0 q ((ownB _ _ _ _ _).trans hq) with h'|h'
    .exact .inl ((jS _).2 (.inr (.inr h')))
    .refine .inr ⟨nL gp.size (nL G.size h'),?_⟩;have h1:=(a3 q hq).2;have h2:=g5.size;rw [World.putObj_size];omega
 refine ce.calls.mono ?_;rintro e W ⟨v,rfl,ak,am⟩;obtain ⟨m,U,st,pe,ba,av,ag,c1,br,bv⟩:∃ (m:Nat) (U:Value) (st:LoopState) (pe:Option Code),Blk W b8 54 [U]/\OwnM 37 1 RowΦ (λq=>q=b8∨q=o.heap.size+1∨q=o.heap.size∨q<w.heap.size) W W1.heap.size U ((L.drop k).take m)/\LpI W o.heap.size fn tmps #[25,26] Z bd st pe/\(L.drop k).take m=(L.drop k).take most.toNat/\st≠.busy/\(pe=none∨pe=some (.exit 0)):=by
  rcases am with ⟨S,⟨U,jS,j1,jo,j2,j3,j6,j7⟩,_⟩|⟨i,U,j1,jo,j3,j4⟩
  .refine ⟨_,U,_,_,j1,jo,j3,?_,by simp,.inl rfl⟩;rw [List.take_of_length_le (by rw [List.length_drop];exact Nat.le_refl _),List.take_of_length_le (by rw [List.length_drop];omega)]
  .exact ⟨i,U,_,_,j1,jo,j3,by rw [<-j4];rfl,by simp,.inr rfl⟩
 refine ⟨v,rfl,st,pe,ag.l,br,bv,?_⟩;obtain ⟨Wf,an⟩:∃ Wf,Wf=W.putObj (o.heap.size+1) (.loop (rec0 o.heap.size fn tmps #[25,26] Z bd .exhausted pe)):=⟨_,rfl⟩;rw [<-an];have gE:GrN (λq=>q=o.heap.size+1) W Wf:=by rw [an];exact GrN.put _ rfl
 have k1:=Jd ba gE om;have k3:LpI Wf o.heap.size fn tmps #[25,26] Z bd .exhausted pe:=by rw [an];exact LpI.put ag
 obtain ⟨OA,oc,rfl,bw,a4⟩:=av.form;have ko:=av.gr (gE.mono λq _ e=>.inr (.inl e)) λg hg=>a5 g (a4 g hg).1;have bl:Ext w4 Wf:=(ak.trans (gE.mono λq _ e=>.inr e)).old ((a8.trans a7).trans C) λq hq=>by
  have:=(a8.trans a7).size;omega
 refine xnextw ?_;refine xseq ?_;refine xreg ?_;refine ld (k1.at (i:=0) rfl) ?_;refine ρ ?_;refine xend ?_;refine xnext ?_;refine xret ?_;have gD:GrN (λq=>q=o.heap.size) Wf (Wf.putObj o.heap.size (.deferred none)):=GrN.put _ rfl;refine finX k3.d (Ve ⟨gD.old (O.trans bl) λq hq=>?_,_,rfl,?_⟩)
 .have:=a2.size;omega
 .have h1:=ko.gr (gD.mono λq _ e=>.inr (.inr (.inl e))) λg hg=>a5 g (a4 g hg).1;rw [c1]at h1 ⊢;obtain ⟨ps,e1,e2,e3⟩:=h1;exact ⟨ps,e1,own_lower e2 (by have:=a2.size;omega),λp hp=>⟨(e3 p hp).1,(e3 p hp).2.mono λq _ hq=>hq.elim (λh=>.inl (.inr (.inr (.inr h)))) .inr⟩⟩
end
end Go.Proofs.YtebcagekopgdhaaGreatDoor
namespace Go.Wk
open Go.RowKit
section
variable {α:Type} {E:TypeId} {sz base:Nat} {Φ:World->List Value->α->Prop} {N0:Nat->Prop} {w w':World} {v:Value} {ls:List α}
theorem apL{P:Program}{n:Nat}{al:AL}{Q:Exit->Act->World->Prop}{ops:Array Oper}{rest:List Oper}{d ty:Nat}{pos:String}{aft:Array Edge}{t bytes:Nat}{z:Value}(hE:ElT P t E sz bytes z){x y:Operand}{A':Option Addr}{m' c':Nat}{qs:List (List Value×α)}(ho:OwnM E sz Φ N0 w base v ls)(hr':Rd w sz A' m' (Qj qs))(hm':m'=qs.length)(hq:∀ q∈qs,q.1.length=sz/\(∀ u∈q.1,u.oneCell'=true)/\Off (λk=>N0 k∨v.ownBlock=some k) w (λu=>Φ u q.1 q.2))(hm:ls.length<=1100000)(hm2:m'<=1100000)(hby:bytes<=64)(hbase:base<=w.heap.size)(kk:∀ v' w',OwnM E sz Φ N0 w' base v' (ls++qs.map (·.2))->w.grownBy w' v.ownBlock->(∀ g,v'.ownBlock=some g->v.ownBlock=some g∨w.heap.size<=g)->WL P n ops Q rest ((d,v')::al) w')(hx:ev al x=some v:=by rfl)(hy:ev al y=some (.slice A' m' c'):=by rfl)(hd:Nat.blt d n=true:=by rfl):
  WL P n ops Q (⟨some d,.call { callee:=.builtin .append,args:=#[x,y],argTypes:=#[t,t] },ty,pos,aft,none⟩::rest) al w:=by
 obtain ⟨ps,e,hr,hp⟩:=ho;have a3:ps.length<=1100000:=by rw [e,List.length_map]at hm;exact hm
 have a4:(ps.length+m')*bytes<=2200000*64:=Nat.mul_le_mul om hby;have h1:∀ u∈Qj qs,u.oneCell'=true:=λu U=>by
  obtain ⟨q,Z,U⟩:=List.mem_flatMap.1 U;exact (hq q Z).2.1 u U
 refine apb hE hr hr' h1 (by unfold maxLen;omega) om hbase ?_ hx hy hd;intro v' w' a2 O J;have C:∀ {Ψ:World->Prop},Off (λk=>N0 k∨v.ownBlock=some k) w Ψ->Off (λk=>N0 k∨v'.ownBlock=some k) w' Ψ:=fun {Ψ} h W hW=>by
  refine h W ?_;have h1:GrN (λk=>(N0 k∨v.ownBlock=some k)∨w.heap.size<=k) w W:=(GrN.by O λk G=>.inl (.inr G)).trans (hW.mono λk _ G=>by
   rcases G with G|G
   .exact .inl (.inl G)
   .rcases J k G with o|o
    .exact .inl (.inr o)
    .exact .inr o)
  exact h1.mono λk G h=>h.elim id λo=>by omega
 refine kk v' w' ⟨ps++qs,by rw [e];simp,?_,λp a1=>?_⟩ O J
 .have e2:Qj (ps++qs)=Qj ps++Qj qs:=by simp [Qj]
  rw [List.length_append,e2,<-hm'];exact a2
 .rcases List.mem_append.1 a1 with o|o
  .exact ⟨(hp p o).1,C (hp p o).2⟩
  .exact ⟨(hq p o).1,C (hq p o).2.2⟩
end
end Go.Wk
namespace Go.Proofs.YtebcagekopgdhaaGreatDoor
open Go.RowKit Pl Go.Wk
attribute [local irreducible] WC WL QX WD WDB WP WN WG WH WM
set_option linter.constructorNameAsVariable false in
theorem walkPieces_any{B0:Nat}{w:World}{cs:List Value}{c:Cse}{sz:Int}(hTB:TB B0 w)(h:CseV w cs c)(hfit:∀ i,i<c.rss.length->∀ r∈c.rss.getD i [],∀ u∈r,Va u)(hsz:0<=sz/\sz<=255):
  Ret Tryz.prog 4 [.agg cs.toArray,.int .u8 sz] w λu w'=>u=.bool true/\Ext w w':=by
 obtain ⟨dA,dc,pA,pc,vA,vc,rA,rc,rfl,hD,hP,hV,hR,hn,hf⟩:=id h;obtain ⟨m,hm,dv⟩:=tmod_is (n:=5) hsz.1 (by decide);rw [show ((5:Nat):Int)=5 from rfl]at hm;refine Jz Tryz.func4 Tryz.ntmps4 rfl kr rfl ?_;refine ρ ?_;refine bx ?_;intro w1 b an hb hB;refine ρ ?_;refine ldW hB ?_;refine ρ ?_;refine cl (made44_any (hTB.ext an) (h.ext an) hfit) ?_;rintro u w2 ⟨ax,d6⟩;rcases d6 with ⟨rfl,dt⟩|⟨ats,x,av,kf,pf,BB,tot,hOk,rfl,hIx,hav⟩
 .refine ρ ?_;refine alc Jyj ?_;intro w3 b3 bf bn bm;refine ρ ?_;refine stW bm ?_;intro w4 bl d5 be;have a3:Ext w2 w4:=be w2 bf bn;refine ρ ?_;refine cl (awake44_any (hTB.ext ((an.trans ax).trans a3))) ?_;rintro _ w5 ⟨rfl,Z⟩;refine ρ ?_;exact Jj ⟨rfl,((an.trans ax).trans a3).trans Z⟩
 have cg:=hOk.ans.1;obtain ⟨XA,xd,YA,yd,ZA,zd,UA,ud,tv,dl,dj,rfl,_,_,_,_,_,_,cw,_⟩:=id hIx.ix.ex;obtain ⟨TA,tc,rfl,_⟩:=id cw;obtain ⟨LA,lc,rfl,e5,dx,_⟩:=hav.parts;obtain ⟨L,hL⟩:∃ L,L=c.ans:=⟨_,rfl⟩;have d1:L.length<=5000:=by rw [hL];exact hOk.anl
 rw [<-hL]at hIx hav cg;rw [show c.ans.length=L.length by rw [hL]];have bw:tot=L.length:=hIx.ip.len;subst bw;have hF:c.F<=1100000:=by have:=hOk.fF.2;have:=hOk.nN.2;omega
 refine ρ ?_;refine alc Jyj ?_;intro w3 b3 bf bn bm;refine ρ ?_;refine stW bm ?_;intro w4 bl d5 be;have a3:Ext w2 w4:=be w2 bf bn;have b2:=(an.trans ax).trans a3;have O:=hIx.ext a3;have cd:=hav.ext a3;have da:=(hB.ext ax).ext a3;refine ρ ?_;refine Go.Wk.rem (b:=5) (by decide) ?_;rw [hm];refine ρ ?_;rw [Gm (z:=(m:Int)) om,Gm (z:=1+(m:Int)) om];refine Jt (fun (k:Nat) (v:Value)=>[(2,.pointer (some ⟨b,0,none⟩)),(4,.bool false),(5,.pointer (some ⟨b3,0,none⟩)),(6,.slice LA L.length lc),(9,.int .i64 (1+(m:Int))),(10,v),(11,.int .i64 (k:Int))])
  (λk v w'=>k<=L.length+5/\Ext w4 w'/\OwnM 37 1 RowΦ (λ_=>False) w' w4.heap.size v (L.take k)) (λk _=>L.length+5-k) 0 (.slice none 0 0) sB ⟨om,Ext.refl _,OwnM.nil _ _⟩ ?_
 rintro k v w5 ⟨hk,Z,ao⟩;refine ρ ?_;refine ci (λhc=>?_) (λhc=>?_)
 .have lk:k<L.length:=by have:=oT hc;omega
  clear hc;obtain ⟨VA,bc,rfl,cq,bg⟩:=ao.form;have a2:Ext w5 w5.drew:=(Ext.refl w5).drew;have b4:=Z.trans a2;have dz:=limbs_s (p:=k) om;refine ρ ?_;refine drN (λ_=>False) 11 [(0,0),(0,1),(0,3),(1,2),(1,4),(0,5),(0,6),(0,7),(0,8),(0,9)] kr ?_;refine ρn ?_;refine Xd (cs:=[.slice XA c.F xd,.slice YA c.F yd,.slice ZA c.F zd,.slice UA c.F ud,.slice TA (Jq L.length).length tc]) (λw' hg j u hu=>((bl.ext b4).ext hg.toExt).at hu) ?_;refine ρn ?_;refine nop ?_;refine cl (of44_any (n:=k) om _) ?_;rintro o w6 ⟨ho,ag⟩;refine ρ ?_;refine Je (GrN.ext ag) ?_;refine ρn ?_;refine nop ?_;refine cl (collect_off (O.ext (b4.trans ag)) ho om d1 (most:=1+(m:Int)) om) ?_;rintro u w7 ⟨aw,hu⟩;rw [if_neg om,show (1+(m:Int)).toNat=m+1 by omega]at hu;obtain ⟨cv,rfl,c8⟩:=hu;obtain ⟨CA,cc,rfl,ea,e9⟩:=c8.form;obtain ⟨qs,c3,c2,bi⟩:=id c8;have c1:((L.drop k).take (m+1)).length=qs.length:=by rw [c3,List.length_map]
  rw [<-c1]at c2;refine ρ ?_;refine Je (GrN.ext aw) ?_;refine ρn ?_;have a6:=(a2.trans ag).trans aw;have cz:=ao.ext a6;have dm:=Z.size;have cn:=(a2.trans ag).size;have dd:=a6.size;refine ρ ?_;refine apL ER (Φ:=RowΦ) cz (Rd.own c2) c1 (λq hq=>⟨(bi q hq).1,?_,(bi q hq).2.mono λg _ hg=>?_⟩) (by rw [List.length_take];omega) (by rw [List.length_take,List.length_drop];omega) om om ?_
  .obtain ⟨u,e,hu⟩:=(bi q hq).2.here;intro u' bv;rw [e,List.mem_singleton]at bv;rw [bv];exact hu.one
  .rcases hg with hg|hg
   .exact hg.elim
   .exact .inl (nM (bg g hg).2 cn)
  intro v8 w8 c4 d3 du;rw [<-c3,show L.take k++(L.drop k).take (m+1)=L.take (k+(m+1)) from List.take_add.symm]at c4;have aj:Ext w4 w8:=Qv (Z.trans a6) d3 λg hg=>(bg g hg).1;refine ρ ?_;exact Jg (k+(m+1)) v8 sO ⟨om,aj,c4⟩ om
 have d2:L.length<=k:=by have:=oF hc;omega
 clear hc;rw [List.take_of_length_le d2]at ao;obtain ⟨VA,bc,rfl,cq,bg⟩:=ao.form;refine ρ ?_;refine ci (λhc=>?_) (λhc=>?_)
 .exact absurd hc (by simp)
 clear hc;refine ρ ?_;have a2:Ext w5 w5.drew:=(Ext.refl w5).drew;have ay:=bl.ext Z;have e8:=limbs_s (p:=L.length) om;refine drH (λi=>Nat.ble 8 i) ?_;refine hcut 2 (lst 10 8) (fun (y:Nat×Value)=>[(14,.pointer (some ⟨y.1,0,none⟩)),(69,y.2),(70,.int .i64 0),(2,.pointer (some ⟨b,0,none⟩)),(4,.bool false),(6,.slice LA L.length lc),(10,.slice VA L.length bc)])
  (λy W=>Ext w5 W/\O.Cu W y.2 L.length 0/\w5.heap.size<=y.1/\CuZ W y.1) ?_ ?_
 rotate_left
 .intro rest;refine hmkq 8 6 11 2 [65,66,67,68,64,69,70,14] [SF.bk ay,SF.bk ay,SF.nat L.length,SF.seek O L.length,SF.seek O L.length,SF.cur O L.length,SF.eq (.int .i64 0),SF.box w5.heap.size] kr (by rfl) ?_ ?_ ?_
  .refine gmc (λvs w9 J hd=>?_) ?_
   .simp only [slM];refine ldW ((ay.ext a2).ext J) ?_;refine ρ ?_;exact mdone (Ext.refl _) rfl
   refine gmc (λvs w9 J hd=>?_) ?_
   .simp only [slM];refine ldW ((ay.ext a2).ext J) ?_;refine ρ ?_;exact mdone (Ext.refl _) rfl
   refine gmc (λvs w9 J hd=>?_) ?_
   .have e1:vs 1=_:=hd 1;simp only [slM,e1];refine cl (Qfw (O.ix.ext ((Z.trans a2).trans J)) O.ip.nbT) ?_;rintro u W ⟨hu,_,hy⟩;exact Jh (mdone hy hu)
   refine gmc (λvs w9 J hd=>?_) ?_
   .have e0:vs 0=_:=hd 0;have d0:NatV w9 (vs 2) L.length:=hd 2;simp only [slM,e0];refine cl (seek_any (O.ext ((Z.trans a2).trans J)) d0 om) ?_;rintro u W ⟨hy,hu⟩;rw [if_neg om]at hu;exact Jh (mdone hy hu)
   refine gmc (λvs w9 J hd=>?_) ?_
   .obtain ⟨cu,e3,a5⟩:=hd 3;simp only [slM,e3];refine ρ ?_;exact mdone (Ext.refl _) ⟨cu,rfl,a5⟩
   refine gmc (λvs w9 J hd=>?_) ?_
   .obtain ⟨cu,e4,a5⟩:=hd 4;simp only [slM,e4];refine ρ ?_;exact mdone (Ext.refl _) a5
   refine gmc (λvs w9 J hd=>?_) ?_
   .obtain ⟨cu,e4,a5⟩:=hd 4;simp only [slM,e4];refine ρ ?_;exact mdone (Ext.refl _) rfl
   refine gmc (λvs w9 J hd=>?_) gme
   .simp only [slM];refine alc zCur ?_;intro W b9 hy d7 aq;exact Jh (mdone hy ⟨b9,rfl,Nat.le_trans (a2.trans J).size d7,aq⟩)
  .intro vs W hy hf;obtain ⟨b9,e7,h9,aq⟩:=hf 7;have e6:vs 6=.int .i64 0:=hf 6;simp only [slM,e7,e6];exact rest (b9,vs 5) _ _ ⟨a2.trans hy,hf 5,h9,aq⟩ sB
  .intro _ vs W hy hf;obtain ⟨b9,e7,h9,aq⟩:=hf 7;obtain ⟨cu,e4,a5⟩:=hf 4;simp only [slM,e7,e4];refine Yf (fuel':=2) 6 kr kr rfl rfl ?_;refine ρp ?_;refine ρd ?_;refine Xx ?_;refine hlist (listed':=lst 10 8) kr ?_;exact rest (b9,vs 5) _ _ ⟨a2.trans hy,hf 5,h9,aq⟩ sB
 rintro ⟨bo,cu⟩ w6 ⟨ag,a5,af,au⟩;simp only at a5 af au;obtain ⟨Q0,q0,rfl⟩:=a5.parts;refine Zf 11 [(2,8),(2,9)] (fuel':=0) (lst 10 10) kr kr rfl ?_;refine Jo ?_;refine stW au ?_;intro w7 d9 d4 aw;have c7:GrN (λk=>k=bo) w6 w7:=GrN.by d4 λk hk=>by injection hk with hk;exact hk.symm
 have c9:=(a5.off au no_u32) w7 c7;have a6:Ext w5 w7:=aw w5 ag af;refine Jh (Ql ?_);refine Jo ?_;refine ρ ?_;refine Ql ?_;refine Uw (Xx ?_);refine hend kr ?_;have ce:=gv_rows (ao.gv om);refine ρ ?_;refine Qd (fun (p:Nat)=>[(2,.pointer (some ⟨b,0,none⟩)),(4,.bool false),(6,.slice LA L.length lc),(10,.slice VA L.length bc),(14,.pointer (some ⟨bo,0,none⟩)),(16,.int .i64 ((p:Int)-1))])
  (λp w'=>p<=L.length/\Ext w5 w'/\∃ Q q,∃ st:Nat,Blk w' bo 61 [.slice XA c.F xd,.slice YA c.F yd,.slice ZA c.F zd,.slice UA c.F ud,.slice TA (Jq L.length).length tc,.slice Q (Jq p).length q,.int .i64 (st:Int)]/\O.Cu w' (.agg #[.slice XA c.F xd,.slice YA c.F yd,.slice ZA c.F zd,.slice UA c.F ud,.slice TA (Jq L.length).length tc,.slice Q (Jq p).length q,.int .i64 (st:Int)]) p st) (λp=>p) L.length sO ⟨Nat.le_refl _,a6,Q0,q0,0,d9,c9⟩ ?_
 rintro p w8 ⟨hp,aj,Q,q,st,b1,b7⟩;have dw:=limbs_s (p:=p) om;have b8:=O.ext (Z.trans aj);refine ρ ?_;refine ci (λhc=>?_) (λhc=>?_)
 .have lp:p-1<L.length:=by have:=oT hc;omega
  have bj:p≠0:=by have:=oT hc;omega
  clear hc;refine ρ ?_;refine ldW b1 ?_;refine ρ ?_;refine cl (prev_any b8 b7 om) ?_;rintro u w9 ⟨J,h9⟩;rw [if_neg bj,getD_some lp]at h9;obtain ⟨db,RA,bq,bp,rfl,a8,cy,cx,dn,_⟩:=h9;obtain ⟨Q2,q2,rfl⟩:=a8.parts;refine ρ ?_;refine alc zCur ?_;intro cm ec am cb c6;refine ρ ?_;refine stW c6 ?_;intro a9 ba df bt;have U:Ext w9 a9:=bt w9 am cb;have ab:=J.trans U;have ac:=aj.trans ab;have aa:Ext a9 a9.drew:=(Ext.refl a9).drew;have ae:=ac.trans aa;have c0:RowV a9.drew (.slice RA (L.getD (p-1) []).length bq) (L.getD (p-1) []):=⟨RA,bq,rfl,cx,om,Rd.ext cy (U.trans aa)⟩;obtain ⟨_,_,eA,_,_,ed,ah,cj⟩:=(ce.ext ae).parts;injection eA with e1 e2 e3
  subst e1;subst e3;obtain ⟨_,_,eA,_,_,dk,ch,d8⟩:=(cd.ext (Z.trans ae)).parts;injection eA with e1 e2 e3
  subst e1;subst e3;obtain ⟨va,bu,bh⟩:=cj (p-1) lp;obtain ⟨vl,cp,b6⟩:=d8 (p-1) lp;obtain ⟨X1,x1,rfl,_⟩:=id bh;obtain ⟨X2,x2,rfl,_⟩:=id b6;refine ρ ?_;refine drN (λ_=>False) 40 [(0,0),(0,1),(0,2),(0,3),(0,4),(0,5),(0,6),(0,7),(1,8),(0,9),(0,10),(0,11),(0,12),(0,13),(0,14),(0,15),(0,16),(1,17),(0,18),(0,19),(0,20),(0,21),(0,22),(0,23),(0,24),(0,25),(0,26),(0,27),(0,28),(0,29),(0,30),(0,31),(0,32),(0,33),(0,34),(1,35),(0,36),(0,37),(0,38)] kr ?_;refine ρn ?_;refine nkf 88 rfl ?_;refine ρn ?_;refine nix (p-1) ah lp ?_;refine ρn ?_;refine nld (λw' hg=>((ah.ext hg.toExt).cell bu)) ?_;refine ρn ?_;refine nop ?_;refine cl (Jmm c0 bh) ?_;rintro _ ck ⟨rfl,a1⟩;rw [decide_eq_true rfl];refine ρ ?_;refine Je (GrN.ext a1) ?_;refine ρn ?_;refine nkf 97 rfl ?_;refine ρn ?_;refine nix (p-1) (ch.ext a1) lp ?_;refine ρn ?_;refine nld (λw' hg=>(((ch.ext a1).ext hg.toExt).cell cp)) ?_;refine ρn ?_
  refine nop ?_;refine cl (Jmm (c0.ext a1) (b6.ext a1)) ?_;rintro _ di ⟨rfl,b5⟩;rw [decide_eq_true rfl];refine ρ ?_;refine Je (GrN.ext b5) ?_;refine ρn ?_;refine nkf 106 rfl ?_;refine ρn ?_;have G:=a1.trans b5;have C:=aa.trans G;refine nki 109 (λhg=>?_) (λhg=>?_)
  .have dq:1<p:=by have:=oT hg;omega
   have br:p-1-1<L.length:=om
   clear hg;obtain ⟨vb,cr,bz⟩:=cj (p-1-1) br;obtain ⟨X3,x3,rfl,_⟩:=id bz;refine ρn ?_;refine nix (p-1-1) (ah.ext G) br ?_;refine ρn ?_;refine nld (λw' hg=>(((ah.ext G).ext hg.toExt).cell cr)) ?_;refine ρn ?_;refine nix (p-1) (ah.ext G) lp ?_;refine ρn ?_;refine nld (λw' hg=>(((ah.ext G).ext hg.toExt).cell bu)) ?_;refine ρn ?_;refine nld (λw' hg=>((((da.ext Z).ext ae).ext G).ext hg.toExt).at (i:=2) rfl) ?_;refine ρn ?_;refine nop ?_;have bd:=((b2.trans Z).trans ae).trans G;refine cl (Jnj (bz.ext G) (bh.ext G) (hD.ext bd)) ?_;rintro _ dh ⟨⟨z,rfl,co,_⟩,a7⟩;have hz:z<0:=co.2 (lt_getD cg om lp);refine ρ ?_;refine Je (GrN.ext a7) ?_;refine ρn ?_;refine ci (λhc=>?_) (λ_=>?_)
   .exact absurd (oT hc) om
   refine ρ ?_;refine ldW ((ba.ext C).ext a7) ?_;refine ρ ?_;have a4:=((b1.ext ab).ext C).ext a7;refine stW a4 ?_;intro bb ar ap ak;have ad:=(CuV.ext a8 ((U.trans C).trans a7)).off a4 no_u32 bb (GrN.by ap λk hk=>by injection hk with hk;exact hk.symm);refine ρ ?_;exact Qw (p-1) sO ⟨om,ak w5 ((ac.trans C).trans a7) af,Q2,q2,bp,ar,ad⟩ om
  .clear hg;refine ρn ?_;refine ρ ?_;refine ldW (ba.ext C) ?_;refine ρ ?_;have a4:=(b1.ext ab).ext C;refine stW a4 ?_;intro bb ar ap ak;have ad:=(CuV.ext a8 (U.trans C)).off a4 no_u32 bb (GrN.by ap λk hk=>by injection hk with hk;exact hk.symm);refine ρ ?_;exact Qw (p-1) sO ⟨om,ak w5 (ac.trans C) af,Q2,q2,bp,ar,ad⟩ om
 .have bj:p=0:=by have:=oF hc;omega
  clear hc;refine ρ ?_;refine ldW b1 ?_;refine ρ ?_;refine cl (prev_any b8 b7 om) ?_;rintro u w9 ⟨J,h9⟩;rw [if_pos bj]at h9;obtain ⟨db,rfl,a8⟩:=h9;obtain ⟨Q2,q2,rfl⟩:=a8.parts;refine ρ ?_;refine alc zCur ?_;intro cm eb am ca c5;refine ρ ?_;refine stW c5 ?_;intro a9 dg de bs;have U:Ext w9 a9:=bs w9 am ca;have ai:=(b2.trans Z).trans ((aj.trans J).trans U);refine ρ ?_;refine Go.Wk.kt 134 ?_ ?_
  .rfl
  refine ρ ?_;refine cl (awake44_any (hTB.ext ai)) ?_;rintro _ ck ⟨rfl,a1⟩;refine ρ ?_;exact Jj ⟨rfl,ai.trans a1⟩
end Go.Proofs.YtebcagekopgdhaaGreatDoor
namespace Go.Proofs.YtebcagekopgdhaaGreatDoor
open Go.RowKit Pl Go.Wk
theorem walkPieces_walk{B0:Nat}{w:World}{v:Value}{k:Int}(hTB:TB B0 w)(h:CaseE w v)(hk:0<=k/\k<=255): Ret Tryz.prog 4 [v,.int .u8 k] w λu w'=>u=.bool true/\Ext w w':=by
 obtain ⟨cs,c,rfl,C,o⟩:=h;exact walkPieces_any hTB C o hk
end Go.Proofs.YtebcagekopgdhaaGreatDoor
