/- Part 4 of the proof: WaC, WaD, WaE. -/
import Derived.Test.YtefpailelagbkaaGreatDoorKwc48
set_option linter.unusedVariables false
set_option maxRecDepth 100000
set_option maxHeartbeats 40000000
namespace Go.Proofs.YtefpailelagbkaaGreatDoor
open Go.RowKit Pl Go.Wk
attribute [local irreducible] WC WL QX WD WDB WP WN WG WH WM
theorem offRow{N:Nat->Prop}{w:World}{u:Value}{r:Row}{b t:Nat}{cs:List Value}(h:Off N w λW=>RowV W u r)(hB:Blk w b t cs)(hs:∀ u∈cs,∀ s,u≠.string s): Off (λk=>N k∨k=b) w λW=>RowV W u r:=λW j=>by
 obtain ⟨o,C⟩:∃ o,w.heap[b]?=some o:=⟨_,hB⟩;have G:b<w.heap.size:=(Array.getElem?_eq_some_iff.1 C).1;have i:b<W.heap.size:=nM G j.size;have h1:GrN N w (W.putObj b o):=⟨j.os,j.tape,j.output,by simpa using j.size,λk O hn=>by
  by_cases e:k=b
  .subst e;rw [World.putObj_heap_same i,C]
  .rw [World.putObj_heap_other e];exact j.block k O λh=>h.elim hn e⟩
 have Z:GrN (λk=>k=b) (W.putObj b o) W:=⟨rfl,rfl,rfl,by simp,λk O hn=>(World.putObj_heap_other hn).symm⟩;have J:Blk (W.putObj b o) b t cs:=(World.putObj_heap_same i).trans (C ▸ hB);obtain ⟨A,c,e,e1,e2,U⟩:=h _ h1;exact ⟨A,c,e,e1,e2,(rowOff U J hs) W Z⟩
theorem ownRows_b{N0:Nat->Prop}{W W':World}{base b t:Nat}{v:Value}{ls:List Row}{cs:List Value}(h:OwnM 40 1 RowΦ N0 W base v ls)(hB:Blk W b t cs)(hs:∀ u∈cs,∀ s,u≠.string s)(hv:v.ownBlock≠some b)(hg:GrN (λk=>k=b) W W'): OwnM 40 1 RowΦ N0 W' base v ls:=by
 obtain ⟨ps,Z,U,C⟩:=h;refine ⟨ps,Z,Jjr U hg (λg eg e=>hv (e ▸ eg)),λp j=>⟨(C p j).1,?_⟩⟩;obtain ⟨u,G,_⟩:=(C p j).2.here;have O:Off (λk=>N0 k∨v.ownBlock=some k) W λW=>RowV W u p.2:=(C p j).2.imp λW ⟨u',i,h'⟩=>by rw [G]at i;injection i with i;rw [i];exact h'
 have J:=offRow O hB hs;intro W2 o;refine ⟨u,G,J W2 ?_⟩;exact (hg.mono λk _ e=>.inr e).trans (o.mono λk _ e=>.inl e)
section
variable {w:World} {x:Value} {f:Nat} {ds:List Bool} {kf:Nat->Nat} {pf:Nat->Int} {BB:Nat->List BkT} {tot:Nat} {L:List Row}
theorem collect_any(h:IxA w x f ds kf pf BB tot L){k:Nat}{kv:Value}{most:Int}(hk:NatV w kv k)(hk5:k<=5000)(hl5:L.length<=5000)(hm:-9223372036854775808<=most/\most<=9223372036854775807):
  Ret Tryz.prog 52 [x,kv,.int .i64 most] w λu w'=>Ext w w'/\if most<0∨L.length<k then u=.tuple #[.slice none 0 0,.int .i64 3] else ∃ v,u=.tuple #[v,.int .i64 0]/\RowsV w' v ((L.drop k).take most.toNat):=by
 obtain ⟨XA,xd,YA,yd,ZA,zd,UA,ud,tv,cw,cv,rfl,_,_,_,_,_,_,bo,_⟩:=id h.ix.ex;obtain ⟨TA,tc,rfl,_⟩:=id bo;obtain ⟨KA,kc,rfl,_⟩:=id hk;have cn:tot=L.length:=h.ip.len;refine enterM Tryz.func52 Tryz.ntmps52 rfl kr rfl ?_;refine ρ ?_;refine bx ?_;intro w1 b3 bn d6 bc;refine ρ ?_;refine bx ?_;intro w2 b5 ai d4 af;have a5:=bn.trans ai;refine ρ ?_;refine ld (af.at (i:=0) rfl) ?_;refine ρ ?_;refine ki 13 (λZ=>?_) (λZ=>?_)
 .have ay:most<0:=oT Z;refine ρ ?_;exact finM (Qyg ⟨a5,by rw [if_pos (.inl ay)]⟩)
 have au:¬ most<0:=oF Z;clear Z;refine ρ ?_;refine ldW (bc.ext ai) ?_;refine ρ ?_;refine cl (Qkc (h.ix.ext a5) h.ip.nbT) ?_;rintro tu w3 ⟨bp,_,C⟩;refine ρ ?_;refine cl (Jwh (hk.ext (a5.trans C)) bp) ?_;rintro _ w4 ⟨rfl,bm⟩;have a1:=C.trans bm;have G:=a5.trans a1;refine ρ ?_;refine ci (λZ=>?_) (λZ=>?_)
 .have c5:L.length<k:=by
   have:=oT Z;rcases Nat.lt_or_ge tot k with h'|h'
   .omega
   .exfalso
    rcases Nat.eq_or_lt_of_le h' with e|e
    .rw [e]at this;unfold Qfc at this;rw [if_neg om,if_neg om]at this;omega
    .unfold Qfc at this;rw [if_pos e]at this;omega
  refine ρ ?_;exact finM (Qyg ⟨G,by rw [if_pos (.inr c5)]⟩)
 have c2:¬ L.length<k:=by
  have:=oF Z;intro h';have:Qfc k tot=1:=by unfold Qfc;rw [if_neg om,if_pos om]
  omega
 clear Z;have c4:¬ (most<0∨L.length<k):=λh=>h.elim au c2;simp only [if_neg c4];refine ρ ?_;refine ld ((af.ext a1).at (i:=0) rfl) ?_;refine ρ ?_;refine ci (λZ=>?_) (λZ=>?_)
 .have h0:most=0:=Jqn Z;refine ρ ?_;refine finM (Qyg ⟨G,_,rfl,?_⟩);rw [h0];exact ⟨[],none,0,rfl,rfl,Nat.le_refl _,by simp,Rd.nil,λp hp=>by cases hp⟩
 have h0:most≠0:=Jqk Z;clear Z;refine ρ ?_;refine alc zRows ?_;intro w5 b8 a7 d3 bb;refine ρ ?_;refine ldW ((bc.ext ai).ext (a1.trans a7)) ?_;refine ρ ?_;have d0:=limbs_s (p:=k) om;refine cl (all_any (hk.ext (G.trans a7)) om) ?_;rintro u j ⟨a6,b1,b2,QA,qc,rfl,ck,cj,c3⟩;have a9:=(G.trans a7).trans a6;refine ρ ?_;refine wrfB callableAll ?_;intro U b9 bd ca fn tmps c8;obtain ⟨W1,ae⟩:∃ W1,W1=(j.alloc (.deferred (some []))).alloc (.loop (rec0 j.heap.size fn tmps #[25,26] U bd .ready none)):=⟨_,rfl⟩;rw [<-ae];have o:Ext j W1:=by rw [ae];exact ((Ext.refl j).alloc _).alloc _
 have co:W1.heap.size=j.heap.size+2:=by rw [ae];simp
 have cd:LpI W1 j.heap.size fn tmps #[25,26] U bd .ready none:=by rw [ae];exact LpI.new j
 have cq:=(bb.ext a6).lt;have ah:=(af.ext (a1.trans a7)).ext a6;have cr:=ah.lt;have b7:b5≠b8:=by have:=(af.ext a1).lt;omega
 have aw:Off (λq=>q=b8∨q=j.heap.size+1) W1 λu=>IxA u _ f ds kf pf BB tot L:=Off.old (λu hu=>h.ext hu) (a9.trans o) λq hq=>by
  have:=G.size;have:=a9.size;omega
 have cp:=h.ip.f32;have a4:∀ g,W1.heap.size<=g->¬ (g=b8∨g=j.heap.size+1∨g=j.heap.size):=λg hg=>by omega
 have ce:=allIter_any (l:=j.heap.size+1) (b1:=b1) (b2:=b2) (S0:=λq=>q=b8∨q=j.heap.size+1)
  (J:=λi S W=>∃ O,(∀ q,S q↔(q=b8∨q=j.heap.size+1∨O.ownBlock=some q))/\Blk W b8 35 [O]/\OwnM 40 1 RowΦ (λq=>q=b8∨q=j.heap.size+1∨q=j.heap.size) W W1.heap.size O ((L.drop k).take i)/\Blk W b5 3 [.int .i64 most]/\LpI W j.heap.size fn tmps #[25,26] U bd .ready none/\(i=0∨(i:Int)<most)/\i<=L.length-k)
  (Jx:=λW=>∃ (i:Nat) (O:Value),Blk W b8 35 [O]/\OwnM 40 1 RowΦ (λq=>q=b8∨q=j.heap.size+1∨q=j.heap.size) W W1.heap.size O ((L.drop k).take i)/\LpI W j.heap.size fn tmps #[25,26] U bd .done (some (.exit 0))/\(i:Int)=most)
  rfl aw hl5 (ck.ext o) (cj.ext o) (c3.ext o) hk5 (λq hq=>om)
  ⟨.slice none 0 0,λq=>by simp [Value.ownBlock],(bb.ext a6).ext o,OwnM.nil _ _,ah.ext o,cd,.inl rfl,Nat.zero_le _⟩ ?_ ?_ ?_
 rotate_left
 .rintro i S W W' ⟨O,jS,j1,jo,j2,j3,j6,j7⟩ hx;exact ⟨O,jS,j1.ext hx,jo.ext hx,j2.ext hx,j3.gr (GrN.ext hx:GrN (λ_=>False) _ _) id id,j6,j7⟩
 .rintro i S W W' b4 cu ⟨O,jS,j1,jo,j2,j3,j6,j7⟩ d5 cb ch c9 hg;exact ⟨O,jS,Jqb j1 hg om,ownRows_b jo ch c9 (λe=>cb ((jS b4).2 (.inr (.inr e)))) hg,Jqb j2 hg om,j3.gr hg om om,j6,j7⟩
 .rintro i r S W RA a8 hr ak d8 d7 ⟨O,jS,j1,jo,j2,j3,j6,j7⟩ bu bs cy ar;have d1:k+i<L.length:=(List.getElem?_eq_some_iff.1 hr).1;refine ⟨_,_,_,_,yield_run2 j3.l,?_⟩;have b6:Fr 36 ((26,.slice RA r.length a8)::(25,.int .i64 (i:Int))::[(5,.pointer (some ⟨b5,0,none⟩)),(8,.pointer (some ⟨b8,0,none⟩))]) ⟨(tmps.setIfInBounds 25 (.int .i64 (i:Int))).setIfInBounds 26 (.slice RA r.length a8),[]⟩:=fr_set (p:=26) _ (fr_set (p:=25) _ (c8.sub sB) (by decide)) (by decide);refine xround b6 ?_;refine XC.code b9 ?_;refine xseq ?_;refine xreg ?_ (hO:=λ_ _ h=>h);refine ρ ?_;refine xend ?_;refine xnext ?_;refine xreg ?_ (hO:=λ_ _ h=>h);refine ρ ?_;refine xend ?_;refine xbegin j3.l ?_;have jl:S (j.heap.size+1):=(jS _).2 (.inr (.inl rfl));have j8:S b8:=(jS _).2 (.inl rfl);obtain ⟨Wb,ac⟩:∃ Wb,Wb=W.putObj (j.heap.size+1) (.loop (rec0 j.heap.size fn tmps #[25,26] U bd .busy none)):=⟨_,rfl⟩;have g1:GrN S W Wb:=by rw [ac];exact GrN.put _ jl
  have gp:GrN (λq=>q=j.heap.size+1) W Wb:=by rw [ac];exact GrN.put _ rfl
  have aq:=Jqb j1 gp om;have bj:=Jqb j2 gp om;have bh:LpI Wb j.heap.size fn tmps #[25,26] U bd .busy none:=by rw [ac];exact LpI.put j3
  have ao:=jo.gr (gp.mono λq _ e=>.inr (.inl e)) λg hg=>a4 g (by obtain ⟨_,_,_,_,hf⟩:=jo.form;exact (hf g hg).1);rw [<-ac];obtain ⟨OA,oc,rfl,bw,a3⟩:=ao.form;refine XC.code ca ?_;refine xblock ?_;refine xseq ?_;refine xreg ?_;refine ld (aq.at (i:=0) rfl) ?_;refine ρ ?_;refine bsl (λw=>Qyx (.slice RA r.length a8) w _ _ _ rfl) ?_;intro W3 bz C d2 cg;refine ρ ?_;have bt:RdR W3 RA r:=Rd.ext (Qxm bu gp λh0 ad e e2=>by
   have:=(ar (λe=>by subst e;simp [Jzf]at h0) ad e).1;omega) C
  have cc:Off (λq=>(q=b8∨q=j.heap.size+1∨q=j.heap.size)∨(Value.slice OA ((L.drop k).take i).length oc).ownBlock=some q) W3 λu=>RowΦ u [.slice RA r.length a8] r:=(Xwx bt λh0 ad e hn=>by
   have h1:=ar (λe=>by subst e;simp [Jzf]at h0) ad e;rcases hn with hn|hn
   .exact a4 _ h1.1 hn
   .exact h1.2 ((jS _).2 (.inr (.inr hn)))).imp λu hu=>⟨_,rfl,RA,a8,rfl,bs,om,hu⟩
  have be:=ao.ext C;have cx:((L.drop k).take i).length<=5000:=by rw [List.length_take,List.length_drop];omega
  refine apM ER (Φ:=RowΦ) be cg rfl (λu hu=>by rw [List.mem_singleton.1 hu];rfl) cc om om (nL ak.size (nL gp.size C.size)) ?_;intro v4 W4 ax c7 c0;have g4:GrN (λq=>(Value.slice OA ((L.drop k).take i).length oc).ownBlock=some q) W3 W4:=GrN.by c7 λq hq=>hq
  have bf:=Jqb (aq.ext C) g4 λe=>by have:=(a3 _ e).1;omega
  have bi:=Jqb (bj.ext C) g4 λe=>by have:=(a3 _ e).1;omega
  have bg:=(bh.gr (GrN.ext C:GrN (λ_=>False) _ _) id id).gr g4 (λe=>by have:=(a3 _ e).1;omega) (λe=>by have:=(a3 _ e).1;omega);obtain ⟨OB,od,rfl,cz,a2⟩:=ax.form;have bq:((L.drop k).take i++[r])=(L.drop k).take (i+1):=by
   have e:(L.drop k)[i]?=some r:=by rw [List.getElem?_drop];exact hr
   obtain ⟨hi,e⟩:=List.getElem?_eq_some_iff.1 e;rw [List.take_succ_eq_append_getElem hi,e]
  refine ρ ?_;refine Xqk bf ?_ rfl;intro W5 aa c6 cm;have g5:GrN (λq=>q=b8) W4 W5:=GrN.by c6 λq hq=>by injection hq with hq;exact hq.symm
  have aj:=ax.gr (g5.mono λq _ e=>.inl e) λg hg=>a4 g (a2 g hg).1;have ap:=Jqb bi g5 b7;have ab:=bg.gr g5 om om;have gS:GrN S W W5:=((g1.trans (GrN.ext C)).trans (g4.mono λq _ e=>(jS _).2 (.inr (.inr e)))).trans (g5.mono λq _ e=>e ▸ j8);refine ρ ?_;refine xend ?_;refine xnext ?_;refine xseq ?_;refine xreg ?_;refine ρ ?_;refine ld (ap.at (i:=0) rfl) ?_;refine ρ ?_;refine xend ?_;refine xnext ?_;rw [bq]at aj a2 aa;refine xcond (λZ=>?_) (λZ=>?_)
  .have he:(i:Int)+1=most:=Jqn Z;refine xexit ?_;refine xbother ?_;refine xrexit ab.l ⟨gS.trans (GrN.put _ jl),.inr ⟨rfl,i+1,_,Jqb aa (GrN.put _ rfl:GrN (λq=>q=j.heap.size+1) _ _) om,aj.gr (GrN.put _ (.inr (.inl rfl))) (λg hg=>a4 g (a2 g hg).1),ab.put,om⟩⟩
  .have he:(i:Int)+1≠most:=Jqk Z;refine xskip ?_;refine xbnormal ?_;refine xrend ab.l ⟨gS.trans (GrN.put _ jl),.inl ⟨rfl,λq=>q=b8∨q=j.heap.size+1∨(Value.slice OB ((L.drop k).take (i+1)).length od).ownBlock=some q,λq hq=>?_,_,λq=>Iff.rfl,Jqb aa (GrN.put _ rfl:GrN (λq=>q=j.heap.size+1) _ _) om,aj.gr (GrN.put _ (.inr (.inl rfl))) (λg hg=>a4 g (a2 g hg).1),Jqb ap (GrN.put _ rfl:GrN (λq=>q=j.heap.size+1) _ _) om,ab.put,om,om⟩⟩;rcases hq with rfl|rfl|hq
   .exact .inl j8
   .exact .inl jl
   .rcases c0 q ((ownB _ _ _ _ _).trans hq) with h'|h'
    .exact .inl ((jS _).2 (.inr (.inr h')))
    .refine .inr ⟨nL gp.size (nL C.size h'),?_⟩;have h1:=(a2 q hq).2;have h2:=g5.size;rw [World.putObj_size];omega
 refine ce.calls.mono ?_;rintro e W ⟨v,rfl,ak,am⟩;obtain ⟨m,O,st,pe,ba,av,ag,c1,br,bv⟩:∃ (m:Nat) (O:Value) (st:LoopState) (pe:Option Code),Blk W b8 35 [O]/\OwnM 40 1 RowΦ (λq=>q=b8∨q=j.heap.size+1∨q=j.heap.size) W W1.heap.size O ((L.drop k).take m)/\LpI W j.heap.size fn tmps #[25,26] U bd st pe/\(L.drop k).take m=(L.drop k).take most.toNat/\st≠.busy/\(pe=none∨pe=some (.exit 0)):=by
  rcases am with ⟨S,⟨O,jS,j1,jo,j2,j3,j6,j7⟩,_⟩|⟨i,O,j1,jo,j3,j4⟩
  .refine ⟨_,O,_,_,j1,jo,j3,?_,by simp,.inl rfl⟩;rw [List.take_of_length_le (by rw [List.length_drop];exact Nat.le_refl _),List.take_of_length_le (by rw [List.length_drop];omega)]
  .exact ⟨i,O,_,_,j1,jo,j3,by rw [<-j4];rfl,by simp,.inr rfl⟩
 refine ⟨v,rfl,st,pe,ag.l,br,bv,?_⟩;obtain ⟨Wf,an⟩:∃ Wf,Wf=W.putObj (j.heap.size+1) (.loop (rec0 j.heap.size fn tmps #[25,26] U bd .exhausted pe)):=⟨_,rfl⟩;rw [<-an];have gE:GrN (λq=>q=j.heap.size+1) W Wf:=by rw [an];exact GrN.put _ rfl
 have k1:=Jqb ba gE om;have k3:LpI Wf j.heap.size fn tmps #[25,26] U bd .exhausted pe:=by rw [an];exact LpI.put ag
 obtain ⟨OA,oc,rfl,bw,a3⟩:=av.form;have ko:=av.gr (gE.mono λq _ e=>.inr (.inl e)) λg hg=>a4 g (a3 g hg).1;have bl:Ext w4 Wf:=(ak.trans (gE.mono λq _ e=>.inr e)).old ((a7.trans a6).trans o) λq hq=>by
  have:=(a7.trans a6).size;omega
 refine xnextw ?_;refine xseq ?_;refine xreg ?_;refine ld (k1.at (i:=0) rfl) ?_;refine ρ ?_;refine xend ?_;refine xnext ?_;refine xret ?_;have gD:GrN (λq=>q=j.heap.size) Wf (Wf.putObj j.heap.size (.deferred none)):=GrN.put _ rfl;refine finX k3.d (Qyg ⟨gD.old (G.trans bl) λq hq=>?_,_,rfl,?_⟩)
 .have:=a9.size;omega
 .have h1:=(ko.gr (gD.mono λq _ e=>.inr (.inr e)) λg hg=>a4 g (a3 g hg).1).gv (by rw [List.length_take,List.length_drop];omega);rw [c1]at h1 ⊢;exact gv_rows h1
end
end Go.Proofs.YtefpailelagbkaaGreatDoor
namespace Go.Wk
theorem finCb{P:Program}{n:Nat}{al:AL}{w:World}{tt:TT}[h:Tab P tt]{fn:Func}{Φ:Value->World->Prop}{c t b:Nat}{k:TK}{v:Value}(hb:Blk w b t [v])(hp:Φ v w)(hr:fn.results = #[.cell c t]:=by rfl)(ht:tk tt t=some k:=by rfl)(hk:Jwl k.desc=true:=by rfl)(hc:lk al c=some (.pointer (some ⟨b,0,none⟩)):=by rfl):
  QX n (Qwg P fn Φ) .ret al w :=
 Qdh (rs:=[.cell c t]) (vs:=[v]) hr ⟨⟨_,hc,Qjk h.ok ht hk (hb.at (i:=0) rfl)⟩,trivial⟩ rfl hp
end Go.Wk
namespace Go.Proofs.YtefpailelagbkaaGreatDoor
open Go.RowKit Pl Go.Wk
attribute [local irreducible] WC WL QX WD WDB WP WN WG WH WM
theorem RowsV.drop{w:World}{A:Option Addr}{n c:Nat}{L:List Row}(h:RowsV w (.slice A n c) L){k:Nat}(hk:k<=L.length): RowsV w (.slice (if c=k then A else A.map (·.add (k*1))) (n-k) (c-k)) (L.drop k):=by
 obtain ⟨ps,A,c,rfl,e,u,C,o,j⟩:=h;injection e with e1 e2 e3
 subst e1;subst e2;subst e3;rw [List.length_map]at hk;refine ⟨ps.drop k,_,c-k,by rw [List.map_drop],by rw [List.length_drop],by rw [List.length_drop];omega,by rw [List.length_drop];omega,?_,λp i=>j p (List.mem_of_mem_drop i)⟩;have:=Rd.drop o hk u;rw [Nat.mul_one]at this;rw [List.length_drop,List.map_drop,Nat.mul_one];exact this
theorem RowsV.take{w:World}{A:Option Addr}{n c:Nat}{L:List Row}(h:RowsV w (.slice A n c) L){k:Nat}(hk:k<=L.length): RowsV w (.slice A k c) (L.take k):=by
 obtain ⟨ps,A,c,rfl,e,C,u,o,j⟩:=h;injection e with e1 e2 e3
 subst e1;subst e2;subst e3;rw [List.length_map]at hk;refine ⟨ps.take k,_,c,by rw [List.map_take],by rw [List.length_take,Nat.min_eq_left hk],by rw [List.length_take];omega,by rw [List.length_take];omega,?_,λp i=>j p (List.mem_of_mem_take i)⟩;have:=Rd.take o hk;rw [Nat.mul_one]at this;rw [List.length_take,Nat.min_eq_left hk,List.map_take];exact this
theorem piece_any{w:World}{A:Option Addr}{n c:Nat}{L:List Row}(h:RowsV w (.slice A n c) L){k:Nat}{most:Int}(hk:k<=5000)(hm:0<=most):
  Ret Tryz.prog 53 [.slice A n c,.int .i64 (k:Int),.int .i64 most] w λu w'=>Ext w w'/\∀ w0,RowsV w0 (.slice A n c) L->RowsV w0 u ((L.drop k).take most.toNat):=by
 obtain ⟨Z,U,e,O,J,_⟩:=h.parts;injection e with e1 e2 e3
 subst e1;subst e2;subst e3;refine Jjc Tryz.func53 Tryz.ntmps53 rfl kr rfl ?_;refine ρ ?_;refine ci (λi=>?_) (λi=>?_)
 .have o:L.length<k:=by have:=oT i;omega
  refine ρ ?_;refine Jjq ⟨Ext.refl _,λw0 h0=>?_⟩;rw [List.drop_eq_nil_of_le om,List.take_nil];exact RowsV.nil w0 none 0
 have j:k<=L.length:=by have:=oF i;omega
 clear i;refine ρ ?_;refine sll k ?_;refine ρ ?_;have G:(L.drop k).length=L.length-k:=List.length_drop;refine ci (λi=>?_) (λi=>?_)
 .have o:most<((L.length-k:Nat):Int):=oT i;clear i;obtain ⟨m,rfl⟩:=Int.eq_ofNat_of_zero_le hm;refine ρ ?_;refine slh m ?_;refine ρ ?_;refine Jjq ⟨Ext.refl _,λw0 h0=>?_⟩;exact (h0.drop j).take (k:=m) om
 .have C:((L.length-k:Nat):Int)<=most:=by have:=oF i;omega
  clear i;refine ρ ?_;refine Jjq ⟨Ext.refl _,λw0 h0=>?_⟩;rw [List.take_of_length_le om];exact h0.drop j
set_option linter.constructorNameAsVariable false in
theorem walkCollects_any{B0:Nat}{w:World}{cs:List Value}{c:Cse}{k:Nat}{most:Int}(hTB:TB B0 w)(h:CseV w cs c)(hfit:∀ i,i<c.rss.length->∀ r∈c.rss.getD i [],∀ u∈r,Qyf u)(hk:k<=255)(hm:-9223372036854775808<=most/\most<=9223372036854775807):
  Ret Tryz.prog 14 [.agg cs.toArray,.int .u8 (k:Int),.int .i64 most] w λu w'=>u=.bool true/\Ext w w':=by
 obtain ⟨dA,dc,pA,pc,vA,vc,rA,rc,rfl,hD,hP,hV,hR,hn,hf⟩:=id h;refine enterM Tryz.func14 Tryz.ntmps14 rfl kr rfl ?_;refine ρ ?_;refine bx ?_;intro w1 b bq hb hB;refine ρ ?_;refine alc Xkp ?_;intro ew b6 bb co cz;have a8:=bq.trans bb;refine ρ ?_;refine ldW (hB.ext bb) ?_;refine ρ ?_;refine cl (made44_any (hTB.ext a8) (h.ext a8) hfit) ?_;rintro u w2 ⟨ah,dz⟩;rcases dz with ⟨rfl,f6⟩|⟨ats,x,av,kf,pf,BB,tot,hOk,rfl,hIx,hav⟩
 .refine ρ ?_;refine alc Qfg ?_;intro w3 b3 a4 bz bv;refine ρ ?_;refine stW bv ?_;intro w4 bu dw bp;have Z:Ext w2 w4:=bp w2 a4 bz;refine ρ ?_;refine cl (awake44_any (hTB.ext ((a8.trans ah).trans Z))) ?_;rintro _ w5 ⟨rfl,ac⟩;refine ρ ?_;refine Xqk (((cz.ext ah).ext Z).ext ac) ?_ rfl;intro w6 cy fc au;refine ρ ?_;exact finM (finCb cy ⟨rfl,au w (((a8.trans ah).trans Z).trans ac) (nL bq.size co)⟩)
 obtain ⟨XA,xd,YA,yd,ZA,zd,UA,ud,tv,f3,f2,rfl,_,_,_,_,_,_,dj,_⟩:=id hIx.ix.ex;obtain ⟨TA,tc,rfl,_⟩:=id dj;obtain ⟨LA,lc,rfl,f9,f7,_⟩:=hav.parts;obtain ⟨L,hL⟩:∃ L,L=c.ans:=⟨_,rfl⟩;have ce:L.length<=5000:=by rw [hL];exact hOk.anl
 rw [<-hL]at hIx hav;rw [show c.ans.length=L.length by rw [hL]];refine ρ ?_;refine alc Qfg ?_;intro w3 b3 a4 bz bv;refine ρ ?_;refine stW bv ?_;intro w4 bu dw bp;have Z:Ext w2 w4:=bp w2 a4 bz;have c6:=(a8.trans ah).trans Z;have bf:=hIx.ext Z;have a9:=hav.ext Z;have bh:=(cz.ext ah).ext Z;have bl:Ext w4 w4.drew:=(Ext.refl w4).drew;have f8:=limbs_s (p:=k) om;refine ρ ?_;refine drN (λ_=>False) 12 [(0,0),(0,1),(0,2),(0,4),(1,3),(1,5),(0,6),(0,7),(0,8),(0,9),(0,10)] kr ?_;refine ρn ?_;refine Jgr (cs:=[.slice XA c.F xd,.slice YA c.F yd,.slice ZA c.F zd,.slice UA c.F ud,.slice TA (Jjf tot).length tc]) (λw' hg j u hu=>((bu.ext bl).ext hg.toExt).at hu) ?_;refine ρn ?_;rw [Qrl (z:=(k:Int)) om];refine nop ?_;refine cl (of44_any (n:=k) om _) ?_;rintro o w5 ⟨ho,ac⟩;refine ρ ?_;refine Jqv (GrN.ext ac) ?_;refine ρn ?_;refine nop ?_;refine cl (collect_any (bf.ext (bl.trans ac)) ho om ce hm) ?_
 rintro u w6 ⟨au,U⟩;obtain ⟨QA,qn,qc,e,rfl,be,cm⟩:∃ (A:Option Addr) (n cc:Nat) (e:Int),u=.tuple #[.slice A n cc,.int .i64 e]/\((most<0∨L.length<k)->n=0/\e=3)/\(¬ (most<0∨L.length<k)->e=0/\RowsV w6 (.slice A n cc) ((L.drop k).take most.toNat)):=by
  by_cases hq:most<0∨L.length<k
  .rw [if_pos hq]at U;exact ⟨none,0,0,3,U,λ_=>⟨rfl,rfl⟩,λh=>absurd hq h⟩
  .rw [if_neg hq]at U;obtain ⟨v,rfl,hv⟩:=U;obtain ⟨A,cc,rfl,_⟩:=hv.parts;exact ⟨A,_,cc,0,rfl,λh=>absurd h hq,λ_=>⟨rfl,hv⟩⟩
 refine ρ ?_;refine Jqv (GrN.ext au) ?_;refine ρn ?_;have ag:=(bl.trans ac).trans au;refine wseq ?_;refine Xkr [(1,.int .u8 (k:Int)),(6,.pointer (some ⟨b6,0,none⟩)),(7,.pointer (some ⟨b3,0,none⟩)),(8,.slice LA L.length lc)] (λw'=>Ext w6 w') ?_ ?_
 .refine ρ ?_;refine ki 43 (λhc=>?_) (λhc=>?_)
  .obtain ⟨rfl,rfl⟩:=be (.inl (oT hc));clear hc;refine ρ ?_;exact Qtl sB (Ext.refl _)
  .have bc:¬ most<0:=oF hc;clear hc;refine ρ ?_;rw [Qrl (z:=(k:Int)) om];refine ci (λhc=>?_) (λhc=>?_)
   .obtain ⟨rfl,rfl⟩:=be (.inr (by have:=oT hc;omega));clear hc;refine ρ ?_;exact Qtl sB (Ext.refl _)
   .have dt:¬ L.length<k:=by have:=oF hc;omega
    clear hc;obtain ⟨rfl,hQ⟩:=cm (λh=>h.elim bc dt);refine ρ ?_;rw [Qrl (z:=(k:Int)) om];refine cl (piece_any (k:=k) (a9.ext ag) om (Int.not_lt.1 bc)) ?_;rintro u w7 ⟨bo,hW⟩;have hW:=hW w7 (a9.ext (ag.trans bo));have cw:=hQ.ext bo;obtain ⟨M,hM⟩:∃ M,M=(L.drop k).take most.toNat:=⟨_,rfl⟩;rw [<-hM]at cw hW;obtain ⟨WA,wc,rfl,dh,dg,d5,ak,c1⟩:=hW.parts;obtain ⟨fg,f0,eQ,f5,f4,ez,cv,e6⟩:=cw.parts;injection eQ with e1 e2 e3
    subst e1;subst e2;subst e3;refine ρ ?_;refine ci (λhc=>?_) (λhc=>?_)
    .exact absurd hc (by simp)
    clear hc;refine ρ ?_;refine Jqq (fun (i:Nat)=>[(1,.int .u8 (k:Int)),(6,.pointer (some ⟨b6,0,none⟩)),(7,.pointer (some ⟨b3,0,none⟩)),(8,.slice LA L.length lc),(11,.slice QA M.length qc),(13,.slice WA M.length wc),(14,.int .i64 (i:Int))])
     (λi w'=>i<=M.length/\Ext w7 w') (λi=>M.length-i) 0 sB ⟨Nat.zero_le _,Ext.refl _⟩ ?_
    rintro i w8 ⟨hi,af⟩;refine ρ ?_;refine ci (λhc=>?_) (λhc=>?_)
    .have li:i<M.length:=by have:=oT hc;omega
     clear hc;obtain ⟨v1,di,aw⟩:=e6 i li;obtain ⟨v2,bs,ae⟩:=c1 i li;have df:Ext w8 w8.drew:=(Ext.refl w8).drew;have a1:=af.trans df;obtain ⟨Q1,q1,rfl,_⟩:=id aw;obtain ⟨Q2,q2,rfl,_⟩:=id ae;refine ρ ?_;refine drN (λ_=>False) 11 [(0,0),(0,1),(0,2),(0,3),(0,4),(0,5),(0,6),(0,7),(1,8),(0,9)] kr ?_;refine ρn ?_;refine nix i (cv.ext a1) li ?_;refine ρn ?_;refine nld (λw' hg=>(((cv.ext a1).ext hg.toExt).cell di)) ?_;refine ρn ?_;refine nix i (ak.ext a1) li ?_;refine ρn ?_;refine nld (λw' hg=>(((ak.ext a1).ext hg.toExt).cell bs)) ?_;refine ρn ?_;refine nop ?_;refine cl (Jpf (aw.ext a1) (ae.ext a1)) ?_;rintro _ w9 ⟨rfl,ar⟩;rw [decide_eq_true rfl];refine ρ ?_;refine Jqv (GrN.ext ar) ?_;refine ρn ?_;refine ρ ?_;exact Jjv (i+1) sO ⟨om,a1.trans ar⟩ om
    .clear hc;refine ρ ?_;exact Qtl sB (bo.trans af)
 intro w7 c7;have a7:=ag.trans c7;have b5:=c6.trans a7;refine ρ ?_;refine alc zInt ?_;intro w8 bm af e0 e9;refine ρ ?_;refine Xqk e9 ?_ rfl;intro w9 bg fb ar;have a6:Ext w7 w9:=ar w7 af e0;refine ρ ?_;rw [Qrl (z:=(k:Int)) om];refine cl (piece_any (k:=k) (most:=(L.length:Int)) (a9.ext (a7.trans a6)) om om) ?_;rintro u bi ⟨aj,c2⟩;rw [List.take_of_length_le (by rw [List.length_drop];omega)]at c2;have hW:=c2 bi (a9.ext ((a7.trans a6).trans aj));obtain ⟨WA,wc,rfl,dh,dg,_⟩:=hW.parts;refine ρ ?_;refine alc zRows ?_;intro eu c3 ca cp d1;refine ρ ?_;refine Xqk d1 ?_ rfl;intro ao d2 ek c9;have a5:Ext bi ao:=c9 bi ca cp;have er:=hW.ext a5;have a2:=aj.trans a5;have b8:Ext ao ao.drew:=(Ext.refl ao).drew;have a3:=(a7.trans a6).trans a2;refine ρ ?_;refine drN (λ_=>False) 7 [(0,0),(0,1),(0,2),(1,3),(1,4),(0,5)] kr ?_;refine ρn ?_;refine Jgr (cs:=[.slice XA c.F xd,.slice YA c.F yd,.slice ZA c.F zd,.slice UA c.F ud,.slice TA (Jjf tot).length tc]) (λw' hg j u hu=>(((bu.ext a3).ext b8).ext hg.toExt).at hu) ?_
 refine ρn ?_;rw [Qrl (z:=(k:Int)) om];refine nop ?_;refine cl (of44_any (n:=k) om _) ?_;rintro o et ⟨ho,ba⟩;refine ρ ?_;refine Jqv (GrN.ext ba) ?_;refine ρn ?_;refine nop ?_;refine cl (all_any ho om) ?_;rintro u C ⟨b9,b1,b2,RA,ey,rfl,ec,eb,du⟩;refine ρ ?_;refine Jqv (GrN.ext b9) ?_;refine ρn ?_;refine ρ ?_;refine fnl0 (ps:=#[166]) (rs:=#[]) (va:=false) kr ?_;refine ρ ?_;refine wrfB callableAll ?_;intro aa cq bd e4 fn tmps dx;obtain ⟨W1,ay⟩:∃ W1,W1=(C.alloc (.deferred (some []))).alloc (.loop (rec0 C.heap.size fn tmps #[101,102] aa bd .ready none)):=⟨_,rfl⟩;rw [<-ay];have O:Ext C W1:=by rw [ay];exact ((Ext.refl C).alloc _).alloc _
 have ej:W1.heap.size=C.heap.size+2:=by rw [ay];simp
 have e7:LpI W1 C.heap.size fn tmps #[101,102] aa bd .ready none:=by rw [ay];exact LpI.new C
 have G:=(b8.trans ba).trans b9;have bn:=a2.trans G;have d4:=a5.trans G;have am:=bg.ext bn;have ab:=d2.ext G;have an:=bh.ext (a3.trans G);have em:=am.lt;have e5:=ab.lt;have ep:=an.lt;have eo:=bh.lt;have ee:=a7.size;have dd:=(a6.trans a2).size;have en:=bg.lt;have ef:=aj.size;have d3:=G.size;have cd:bm≠c3:=om
 have el:=hIx.ip.f32;have dq:b6≠bm:=om
 have cb:Off (λq=>q=bm∨q=C.heap.size+1) W1 λu=>IxA u _ c.F c.ds kf pf BB tot L:=Off.old (λu hu=>bf.ext hu) ((a3.trans G).trans O) λq hq=>by omega
 have bt:Off (λq=>q=bm∨q=C.heap.size+1) W1 λu=>RowsV u (.slice WA (L.drop k).length wc) (L.drop k):=Off.old (λu hu=>c2 u (a9.ext hu)) ((a3.trans G).trans O) λq hq=>by omega
 have e8:=allIter_any (l:=C.heap.size+1) (b1:=b1) (b2:=b2) (S0:=λq=>q=bm∨q=C.heap.size+1)
  (J:=λi S W=>Blk W bm 3 [.int .i64 (i:Int)]/\Blk W c3 35 [.slice WA (L.drop k).length wc]/\Blk W b6 4 [.bool false]/\LpI W C.heap.size fn tmps #[101,102] aa bd .ready none/\S bm/\S (C.heap.size+1)/\i<=L.length-k)
  (Jx:=λW=>False)
  rfl cb ce ((ec.ext O)) ((eb.ext O)) (du.ext O) om (λq hq=>om)
  ⟨am.ext O,ab.ext O,an.ext O,e7,.inl rfl,.inr rfl,Nat.zero_le _⟩ ?_ ?_ ?_
 rotate_left
 .rintro i S W W' ⟨j1,j2,j3,j4,j5,j6,j7⟩ hx;exact ⟨j1.ext hx,j2.ext hx,j3.ext hx,j4.gr (GrN.ext hx:GrN (λ_=>False) _ _) id id,j5,j6,j7⟩
 .rintro i S W W' b4 cu ⟨j1,j2,j3,j4,j5,j6,j7⟩ fd _ _ _ hg;exact ⟨Jqb j1 hg om,Jqb j2 hg om,Jqb j3 hg om,j4.gr hg om om,j5,j6,j7⟩
 .rintro i r S W RA ap hr bw ff fe ⟨j1,j2,j3,j4,j5,j6,j7⟩ dm dl dk dn;have fa:k+i<L.length:=(List.getElem?_eq_some_iff.1 hr).1;refine ⟨_,_,_,_,yield_run2 j4.l,?_⟩;have cj:Fr 130 ((102,.slice RA r.length ap)::(101,.int .i64 (i:Int))::[(6,.pointer (some ⟨b6,0,none⟩)),(15,.pointer (some ⟨bm,0,none⟩)),(16,.pointer (some ⟨c3,0,none⟩))]) ⟨(tmps.setIfInBounds 101 (.int .i64 (i:Int))).setIfInBounds 102 (.slice RA r.length ap),[]⟩:=fr_set (p:=102) _ (fr_set (p:=101) _ (dx.sub sB) (by decide)) (by decide);refine xround cj ?_;refine XC.code cq ?_;refine xseq ?_;refine xreg ?_ (hO:=λ_ _ h=>h);refine ρ ?_;refine xend ?_;refine xnext ?_;refine xreg ?_ (hO:=λ_ _ h=>h);refine ρ ?_;refine xend ?_;refine xbegin j4.l ?_;obtain ⟨Wb,ax⟩:∃ Wb,Wb=W.putObj (C.heap.size+1) (.loop (rec0 C.heap.size fn tmps #[101,102] aa bd .busy none)):=⟨_,rfl⟩;have g1:GrN S W Wb:=by rw [ax];exact GrN.put _ j6
  have gp:GrN (λq=>q=C.heap.size+1) W Wb:=by rw [ax];exact GrN.put _ rfl
  have aq:=Jqb j1 gp om;have bj:=Jqb j2 gp om;have d9:LpI Wb C.heap.size fn tmps #[101,102] aa bd .busy none:=by rw [ax];exact LpI.put j4
  have cr:=bt Wb (bw.trans (gp.mono λq _ e=>.inr e));obtain ⟨_,_,eW,ei,eh,d5,ak,c1⟩:=cr.parts;injection eW with e1 e2 e3
  subst e1;subst e3;have ck:(L.drop k).length=L.length-k:=List.length_drop;have li:i<(L.drop k).length:=om
  obtain ⟨v2,bs,ae⟩:=c1 i li;have dv:(L.drop k).getD i []=r:=by rw [List.getD_eq_getElem?_getD,List.getElem?_drop,hr];rfl
  rw [dv]at ae;obtain ⟨Q2,q2,rfl,_⟩:=id ae;have aw:RowV Wb (.slice RA r.length ap) r:=⟨RA,ap,rfl,dl,by rw [dk];omega,Qxm dm gp λh0 ad e e2=>by
   have:=(dn (λe=>by subst e;simp [Jzf]at h0) ad e).1;omega⟩
  rw [<-ax];refine XC.code e4 ?_;refine xblock ?_;refine xseq ?_;refine xseq ?_;refine xreg ?_;refine ρ ?_;refine ld (aq.at (i:=0) rfl) ?_;refine ρ ?_;refine Go.Wk.kf 106 ?_ ?_
  .simp
  refine ρ ?_;refine ld (aq.at (i:=0) rfl) ?_;refine ρ ?_;refine ld (bj.at (i:=0) rfl) ?_;refine ρ ?_;refine Go.Wk.kf 112 ?_ ?_
  .exact dF om
  refine ρ ?_;refine ld (bj.at (i:=0) rfl) ?_;refine ρ ?_;refine ld (aq.at (i:=0) rfl) ?_;refine ρ ?_;refine ix i ak li ?_;refine ρ ?_;refine ld (ak.cell bs) ?_;refine ρ ?_;refine cl (Jpf aw ae) ?_;rintro _ W3 ⟨rfl,a4⟩;rw [decide_eq_true rfl];refine ρ ?_;refine xend ?_;refine xnext ?_;refine xcond (λhc=>?_) (λhc=>?_)
  .exact absurd hc (by simp)
  clear hc;refine xskip ?_;refine xnext ?_;have c5:=aq.ext a4;have d8:=d9.gr (GrN.ext a4:GrN (λ_=>False) _ _) id id;refine xreg ?_;refine ρ ?_;refine ld (c5.at (i:=0) rfl) ?_;refine ρ ?_;refine Xqk c5 ?_ rfl;intro W4 ea cg eg;have g4:GrN (λq=>q=bm) W3 W4:=GrN.by cg λq hq=>by injection hq with hq;exact hq.symm
  refine ρ ?_;refine xend ?_;refine xbnormal ?_;have db:=Jqb (bj.ext a4) g4 λe=>cd e.symm;have da:=Jqb ((Jqb j3 gp om).ext a4) g4 dq;have c4:=d8.gr g4 om om;have gS:GrN S W W4:=(g1.trans (GrN.ext a4)).trans (g4.mono λq _ e=>e ▸ j5);refine xrend c4.l ⟨gS.trans (GrN.put _ j6),.inl ⟨rfl,S,λb hb=>.inl hb,Jqb ea (GrN.put _ rfl:GrN (λq=>q=C.heap.size+1) _ _) om,Jqb db (GrN.put _ rfl:GrN (λq=>q=C.heap.size+1) _ _) om,Jqb da (GrN.put _ rfl:GrN (λq=>q=C.heap.size+1) _ _) om,c4.put,j5,j6,om⟩⟩
 refine e8.calls.mono ?_;rintro e W ⟨v,rfl,bw,U⟩;obtain ⟨S,⟨j1,j2,j3,j4,j5,j6,j7⟩,_⟩:=U.resolve_right id;refine ⟨v,rfl,.ready,none,j4.l,by simp,.inl rfl,?_⟩;obtain ⟨Wf,c0⟩:∃ Wf,Wf=W.putObj (C.heap.size+1) (.loop (rec0 C.heap.size fn tmps #[101,102] aa bd .exhausted none)):=⟨_,rfl⟩;rw [<-c0];have gE:GrN (λq=>q=C.heap.size+1) W Wf:=by rw [c0];exact GrN.put _ rfl
 have k1:=Jqb j1 gE om;have k2:=Jqb j2 gE om;have k3:=Jqb j3 gE om;have k4:LpI Wf C.heap.size fn tmps #[101,102] aa bd .exhausted none:=by rw [c0];exact LpI.put j4
 have de:Ext w7 Wf:=(bw.trans (gE.mono λq _ e=>.inr e)).old ((a6.trans (a2.trans G)).trans O) λq hq=>by
  have:=af.size;omega
 have b7:=b5.trans de;have ck:(L.drop k).length=L.length-k:=List.length_drop;refine xnextw ?_;refine xseq ?_;refine xreg ?_;refine ρ ?_;refine ld (k1.at (i:=0) rfl) ?_;refine ρ ?_;refine ld (k2.at (i:=0) rfl) ?_;refine ρ ?_;refine Go.Wk.kt 127 ?_ ?_
 .rw [ck];simp
 refine ρ ?_;refine cl (awake44_any (hTB.ext b7)) ?_;rintro _ d7 ⟨rfl,ai⟩;refine ρ ?_;refine Xqk (k3.ext ai) ?_ rfl;intro d6 d0 ch c8;have cn:w.heap.size<=b6:=nL bq.size co;have br:=c8 w (b7.trans ai) cn;refine ρ ?_;refine xend ?_;refine xnext ?_;refine xret ?_;have ed:GrN (λq=>q=b6) d7 d6:=GrN.by ch λq hq=>by injection hq with hq;exact hq.symm
 have cx:=(k4.gr (GrN.ext ai:GrN (λ_=>False) _ _) id id).gr ed om om;refine finX cx.d (finCb (Jqb d0 (GrN.put _ rfl:GrN (λq=>q=C.heap.size) _ _) om) ⟨rfl,(GrN.put _ rfl:GrN (λq=>q=C.heap.size) _ _).old br λq hq=>?_⟩);have:=b5.size;omega
end Go.Proofs.YtefpailelagbkaaGreatDoor
namespace Go.Proofs.YtefpailelagbkaaGreatDoor
open Go.RowKit Pl Go.Wk
theorem walkCollects_walk{B0:Nat}{w:World}{v:Value}{k m:Int}(hTB:TB B0 w)(h:CaseE w v)(hk:0<=k/\k<=255)(hm:-9223372036854775808<=m/\m<=9223372036854775807): Ret Tryz.prog 14 [v,.int .u8 k,.int .i64 m] w λu w'=>u=.bool true/\Ext w w':=by
 obtain ⟨cs,c,rfl,j,i⟩:=h;obtain ⟨o,rfl⟩:=Int.eq_ofNat_of_zero_le hk.1;exact walkCollects_any hTB j i om hm
end Go.Proofs.YtefpailelagbkaaGreatDoor
