/- Part 1. -/
import Derived.Test.YtebcagekopgdhaaGreatDoorKd20
set_option linter.unusedVariables false
set_option maxRecDepth 100000
set_option maxHeartbeats 40000000
namespace Go.Proofs.YtebcagekopgdhaaGreatDoor
open Go.RowKit Pl Go.Wk
attribute [local irreducible] WC WL QX WD WDB WP WN WG WH WM
set_option linter.constructorNameAsVariable false in
theorem rankInverse_any(hAw:Aw42){B0:Nat}{w:World}{cs:List Value}{c:Cse}(hTB:TB B0 w)(h:CseV w cs c)(hfit:∀ i,i<c.rss.length->∀ r∈c.rss.getD i [],∀ u∈r,Vt u):
  Ret Tryz.prog 8 [.agg cs.toArray] w λu w'=>u=.bool true/\Ext w w':=by
 obtain ⟨dA,dc,pA,bf,vA,vc,rA,rc,rfl,hD,hP,hV,hR,hn,hf⟩:=id h;refine Jz Tryz.func8 Tryz.ntmps8 rfl kr rfl ?_;refine ρ ?_;refine bx ?_;intro w1 b a4 hb hB;refine ρ ?_;refine ldW hB ?_;refine ρ ?_;refine cl (Xjz (hTB.ext a4) (h.ext a4) hfit) ?_;rintro u w2 ⟨a5,b5⟩;rcases b5 with ⟨rfl,bi⟩|⟨ats,x,av,kf,pf,BB,tot,hOk,rfl,hIx,hav⟩
 .refine ρ ?_;refine alc Kw ?_;intro w3 b3 ad ai ah;refine ρ ?_;refine stW ah ?_;intro w4 a6 b2 ac;have C:Ext w2 w4:=ac w2 ad ai;refine ρ ?_;refine cl (hAw (hTB.ext ((a4.trans a5).trans C))) ?_;rintro _ w5 ⟨rfl,ab⟩;refine ρ ?_;exact Jq ⟨rfl,((a4.trans a5).trans C).trans ab⟩
 have ak:=hOk.ans.1;obtain ⟨XA,xd,YA,yd,ZA,zd,UA,ud,tv,bg,be,rfl,_,_,_,_,_,_,ax,_⟩:=id hIx.ix.ex;obtain ⟨TA,tc,rfl,_⟩:=id ax;obtain ⟨LA,lc,rfl,bm,bj,_⟩:=hav.parts;have bp:=hOk.fF.1;obtain ⟨L,hL⟩:∃ L,L=c.ans:=⟨_,rfl⟩;have bn:L.length<=5000:=by rw [hL];exact hOk.anl
 have aj:∀ r∈L,r.length=c.F:=λr hr=>hOk.arow (hL ▸ hr);rw [<-hL]at hIx hav ak;rw [show c.ans.length=L.length by rw [hL]];refine ρ ?_;refine alc Kw ?_;intro w3 b3 ad ai ah;refine ρ ?_;refine stW ah ?_;intro w4 a6 b2 ac;have C:Ext w2 w4:=ac w2 ad ai;have U:=(a4.trans a5).trans C;have a1:=hIx.ext C;have b7:=hav.ext C;have b6:=(hB.ext a5).ext C;have ap:tot=L.length:=hIx.ip.len;subst ap;have b8:=hIx.ip.f32;refine ρ ?_;refine ldW a6 ?_;refine ρ ?_;refine cl (Jgj a1.ix a1.ip.nbT) ?_;rintro bc w5 ⟨ao,_,ab⟩;refine ρ ?_;refine cl (natUint64_any ao om) ?_;rintro _ w6 ⟨rfl,rfl⟩;refine ρ ?_;rw [Ga (z:=(L.length:Int)) om];refine Je (fun (k:Nat) (lv:Value)=>[(1,.pointer (some ⟨b,0,none⟩)),(3,.pointer (some ⟨b3,0,none⟩)),(8,lv),(35,.int .i64 (L.length:Int)),(36,.int .i64 (k:Int))])
  (λk lv w'=>k<=L.length/\Ext w4 w'/\(0<k->RowV w' lv (L.getD (k-1) []))) (λk _=>L.length-k) 0 (.slice none 0 0) sB ⟨Nat.zero_le _,ab,λh=>absurd h (by decide)⟩ ?_
 rintro k lv w7 ⟨hk,aa,ag⟩;refine ρ ?_;refine ci (λhc=>?_) (λhc=>?_)
 .have lk:k<L.length:=by have:=oT hc;omega
  clear hc;have am:Ext w7 w7.drew:=(Ext.refl w7).drew;have a3:=aa.trans am;have a8:L.getD k []∈L:=getD_mem' [] _ lk;have af:=aj _ a8;refine ρ ?_;refine drN (λ_=>False) 13 [(0,0),(0,1),(0,2),(1,3),(1,4),(0,5),(0,6),(0,7),(0,8),(0,9),(0,10),(0,11)] kr ?_;refine ρn ?_;refine Qe (cs:=[.slice XA c.F xd,.slice YA c.F yd,.slice ZA c.F zd,.slice UA c.F ud,.slice TA (Jj L.length).length tc]) (λw' hg j u hu=>((a6.ext a3).ext hg.toExt).at hu) ?_;refine ρn ?_;refine nop ?_;refine cl (natOf_wrap (i:=k) om _) ?_;rintro o w8 ⟨ho,a2⟩;refine ρ ?_;refine Jb (GrN.ext a2) ?_;refine ρn ?_;refine nop ?_;refine cl (Qtw (a1.ext (a3.trans a2)) ho) ?_;rintro u w9 ⟨a9,h9⟩;unfold AtR at h9;rw [getD_some lk]at h9;obtain ⟨A1,c1,st,rfl,aw,au,bo,_⟩:=h9;refine ρ ?_;refine Jb (GrN.ext a9) ?_;refine ρn ?_;have Z:=(a3.trans a2).trans a9;have an:=(am.trans a2).trans a9;have ae:RowV w9 (.slice A1 (L.getD k []).length c1) (L.getD k []):=⟨A1,c1,rfl,au,om,aw⟩
  refine ρ ?_;refine ldW (a6.ext Z) ?_;refine ρ ?_;refine cl (Jkb (hTB.ext (U.trans Z)) (a1.ext Z) aw au) ?_;rintro u bb ⟨O,_,b4⟩;obtain ⟨kv,bd,rfl,ar,_⟩:=b4 af;obtain ⟨KA,kc,rfl,_⟩:=id ar;rw [wi_mem aj af,decide_eq_true a8];refine ρ ?_;have ay:Qy c.ds L (L.getD k [])=k:=rk_at ak lk λy hy=>by rw [aj y hy,af]
  refine cl (Jjw ar (k:=k) om) ?_;rintro _ ba ⟨rfl,J⟩;rw [decide_eq_true ay];have G:=(Z.trans O).trans J;refine ρ ?_;refine ki 75 (λhg=>?_) (λhg=>?_)
  .have b1:0<k:=by have:=oT hg;omega
   have aq:=ag b1;obtain ⟨LB,lb,rfl,_⟩:=id aq;refine ρ ?_;refine ld ((b6.ext G).at (i:=2) rfl) ?_;refine ρ ?_;refine cl (Jrs (((aq.ext an).ext O).ext J) ((ae.ext O).ext J) (hD.ext (U.trans G))) ?_;rintro _ b9 ⟨⟨z,rfl,hz,_⟩,a7⟩;have bh:z<0:=hz.2 (lt_getD ak om lk);refine ρ ?_;refine ci (λhc=>?_) (λhc=>?_)
   .exact absurd (oT hc) om
   clear hc;refine ρ ?_;exact Jl (k+1) _ sO ⟨om,G.trans a7,λ_=>by rw [Nat.add_sub_cancel];exact ((ae.ext O).ext J).ext a7⟩ om
  .refine ρ ?_;exact Jl (k+1) _ sO ⟨om,G,λ_=>by rw [Nat.add_sub_cancel];exact (ae.ext O).ext J⟩ om
 .clear hc;refine ρ ?_;refine cl (hAw (hTB.ext (U.trans aa))) ?_;rintro _ w8 ⟨rfl,a2⟩;refine ρ ?_;exact Jq ⟨rfl,(U.trans aa).trans a2⟩
open Go.RowKit Pl Go.Wk
def tt4: TT:=(106,{ desc:=.array 3 37,size:=3,esz:=1 })::tt
theorem tt4_ok: TOk Tryz.prog tt4:=⟨⟨kr,kr,kr⟩,Jqk⟩
instance (priority:=20000):Tab Tryz.prog tt4:=⟨tt4_ok,mixed⟩
end Go.Proofs.YtebcagekopgdhaaGreatDoor
namespace Go.Proofs.YtebcagekopgdhaaGreatDoor
open Go.RowKit Pl Go.Wk
theorem rankInverse_walk{B0:Nat}{w:World}{v:Value}(hTB:TB B0 w)(h:CaseE w v): Ret Tryz.prog 8 [v] w λu w'=>u=.bool true/\Ext w w':=by
 obtain ⟨cs,c,rfl,C,o⟩:=h;exact rankInverse_any Xqb hTB C o
end Go.Proofs.YtebcagekopgdhaaGreatDoor
