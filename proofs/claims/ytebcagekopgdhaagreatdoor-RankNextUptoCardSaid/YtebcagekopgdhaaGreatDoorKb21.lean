/- Part 1. -/
import Derived.Test.YtebcagekopgdhaaGreatDoorKb20
set_option linter.unusedVariables false
set_option maxRecDepth 100000
set_option maxHeartbeats 40000000
namespace Go.Proofs.YtebcagekopgdhaaGreatDoor
open Go.RowKit Pl Go.Wk
attribute [local irreducible] WC WL QX WD WDB WP WN WG WH WM
variable {B0 f k pc:Nat}{w:World}
theorem RkA.form{L:List Row}{u:Value}(h:RkA f L k u w)(hl:∀ r∈L,r.length<=1100000): ∃ A m c,u=.tuple #[.slice A m c,.bool (decide (k<L.length)),.int .i64 0]/\(k<L.length->RowV w (.slice A m c) (L.getD k [])):=by
 unfold RkA at h;by_cases hk:k<L.length
 .rw [getD_some hk]at h;obtain ⟨A,c,e,C,o,_⟩:=h;exact ⟨A,_,c,by rw [e,decide_eq_true hk],λ_=>⟨A,c,rfl,o,hl _ (getD_mem' [] _ hk),C⟩⟩
 .rw [List.getElem?_eq_none om]at h;exact ⟨none,0,0,by rw [h,decide_eq_false hk],λh=>absurd h hk⟩
set_option linter.constructorNameAsVariable false in
theorem rankNext_any(hAw:Aw42){cs:List Value}{c:Cse}{PA:Option Addr}{p:Row}(hTB:TB B0 w)(h:CseV w cs c)(hfit:∀ i,i<c.rss.length->∀ r∈c.rss.getD i [],∀ u∈r,Vt u)(hp:RowV w (.slice PA p.length pc) p):
  Ret Tryz.prog 6 [.agg cs.toArray,.slice PA p.length pc] w λu w'=>u=.bool true/\Ext w w':=by
 obtain ⟨dA,dc,pA,bi,vA,vc,rA,rc,rfl,hD,hP,hV,hR,hn,hf⟩:=id h;obtain ⟨_,_,eP,ak,bm,am⟩:=id hp;injection eP with e1 _ e2
 subst e1;subst e2;refine Jz Tryz.func6 Tryz.ntmps6 rfl kr rfl ?_;refine ρ ?_;refine bx ?_;intro w1 b a6 hb hB;refine ρ ?_;refine ldW hB ?_;refine ρ ?_;refine cl (Xjz (hTB.ext a6) (h.ext a6) hfit) ?_;rintro u w2 ⟨ac,bc⟩;rcases bc with ⟨rfl,bn⟩|⟨ats,x,av,kf,pf,BB,tot,hOk,rfl,hIx,hav⟩
 .refine ρ ?_;refine alc Kw ?_;intro w3 b3 aj au ap;refine ρ ?_;refine stW ap ?_;intro w4 ae ba ai;have G:Ext w2 w4:=ai w2 aj au;refine ρ ?_;refine Go.Wk.kt 25 ?_ ?_
  .rfl
  refine ρ ?_;refine cl (hAw (hTB.ext ((a6.trans ac).trans G))) ?_;rintro _ w5 ⟨rfl,C⟩;refine ρ ?_;exact Jq ⟨rfl,((a6.trans ac).trans G).trans C⟩
 have bf:=hOk.ans.1;obtain ⟨XA,xd,YA,yd,ZA,zd,UA,ud,tv,bj,bh,rfl,_,_,_,_,_,_,b7,_⟩:=id hIx.ix.ex;obtain ⟨TA,tc,rfl,_⟩:=id b7;obtain ⟨LA,lc,rfl,bp,ao,_⟩:=hav.parts;have bs:=hOk.fF.1;obtain ⟨L,hL⟩:∃ L,L=c.ans:=⟨_,rfl⟩;have bq:L.length<=5000:=by rw [hL];exact hOk.anl
 have aw:∀ r∈L,r.length=c.F:=λr hr=>hOk.arow (hL ▸ hr);have bt:c.F<=6:=nL hOk.fF.2 hOk.nN.2;rw [<-hL]at hIx hav bf;rw [show c.ans.length=L.length by rw [hL]];refine ρ ?_;refine alc Kw ?_;intro w3 b3 aj au ap;refine ρ ?_;refine stW ap ?_;intro w4 ae ba ai;have G:Ext w2 w4:=ai w2 aj au;have o:=(a6.trans ac).trans G;have ab:=hIx.ext G;have ah:=hav.ext G;have ax:=(hB.ext ac).ext G;have b8:=hp.ext o;refine ρ ?_;refine ci (λhc=>?_) (λhc=>?_)
 .clear hc;refine ρ ?_;refine cl (hAw (hTB.ext o)) ?_;rintro _ w5 ⟨rfl,C⟩;refine ρ ?_;exact Jq ⟨rfl,o.trans C⟩
 clear hc;refine ρ ?_;refine ldW ae ?_;refine ρ ?_;refine cl (Qdj (hTB.ext o) ab (Rd.ext am o) ak) ?_;rintro u w5 ⟨C,an,bb⟩;have J:=o.trans C;by_cases hpF:p.length=c.F
 rotate_left
 .have e:=an hpF;subst e;refine ρ ?_;refine ldW (ae.ext C) ?_;refine ρ ?_;refine cl (Qdh (hTB.ext J) (ab.ext C) (Rd.ext am J) ak) ?_;rintro u w6 ⟨a2,an,_⟩;have e:=an hpF;subst e;refine ρ ?_;refine ld (((ax.ext C).ext a2).at (i:=1) rfl) ?_;refine ρ ?_;refine ci (λhc=>?_) (λhc=>?_);rotate_left
  .exfalso
   simp at hc;omega
  clear hc;refine ρ ?_;refine cl (hAw (hTB.ext (J.trans a2))) ?_;rintro _ w7 ⟨rfl,a1⟩;refine ρ ?_;exact Jq ⟨rfl,(J.trans a2).trans a1⟩
 have ao:∀ r∈L,r.length<=1100000:=λr hr=>by rw [aw r hr];omega
 have hA:=bb hpF;obtain ⟨n,ad⟩:∃ n,n=Qy c.ds L p:=⟨_,rfl⟩;obtain ⟨g,ar⟩:∃ g,g=if 0<(wiL L p).length then 1 else 0:=⟨_,rfl⟩
 rw [<-ad,<-ar]at hA;obtain ⟨A1,m1,c1,rfl,bd⟩:=hA.form ao;refine ρ ?_;refine ldW (ae.ext C) ?_;refine ρ ?_;refine cl (Qdh (hTB.ext J) (ab.ext C) (Rd.ext am J) ak) ?_;rintro u w6 ⟨a2,_,b4⟩;have bo:n<=L.length:=by rw [ad];exact Jhm c.ds L p
 have be:∃ A m c',u=.tuple #[.slice A m c',.bool (decide (0<n)),.int .i64 0]/\(0<n->RowV w6 (.slice A m c') (L.getD (n-1) [])):=by
  have h1:=b4 hpF;rw [<-ad]at h1;rcases Nat.eq_zero_or_pos n with h0|h0
  .rw [if_pos h0]at h1;exact ⟨none,0,0,by rw [h1,decide_eq_false om],λh=>om⟩
  .rw [if_neg om]at h1;obtain ⟨A,m,c',e,hR⟩:=h1.form ao;exact ⟨A,m,c',by rw [e,decide_eq_true (by omega:n-1<L.length),decide_eq_true h0],λ_=>hR om⟩
 obtain ⟨A2,m2,c2,rfl,b5⟩:=be;have O:=C.trans a2;refine ρ ?_;refine ld ((ax.ext O).at (i:=1) rfl) ?_;refine ρ ?_;refine ci (λhc=>?_) (λhc=>?_)
 .exfalso
  simp at hc;omega
 clear hc;refine ρ ?_;refine ld ((ax.ext O).at (i:=2) rfl) ?_;refine ρ ?_;refine cl (ref42Before_any (ah.ext O) (b8.ext O) (hD.ext (o.trans O))) ?_;rintro _ w7 ⟨rfl,a1⟩;rw [<-cntP_row (ds:=c.ds) aw hpF,<-ad];have ag:=O.trans a1;have af:=o.trans ag;have b9:decide (p∈L)=decide (g=1):=by
  rw [<-wi_mem aw hpF,ar];by_cases h0:0<(wiL L p).length
  .rw [if_pos h0];simp [h0]
  .rw [if_neg h0];simp [h0]
 have br:g<=1:=by rw [ar];split<;>omega
 rw [b9];refine ρ ?_;refine Xt (fun (_:Unit)=>[(16,.int .i64 ((n+g:Nat):Int)),(1,.slice PA p.length pc),(6,.slice LA L.length lc),(8,.slice A1 m1 c1),(9,.bool (decide (n+g<L.length))),(10,.int .i64 0),(11,.slice A2 m2 c2),(12,.bool (decide (0<n))),(13,.int .i64 0),(14,.int .i64 (n:Int))]) (λ_ w'=>w'=w7) ?_ ?_
 .refine ci (λhc=>?_) (λhc=>?_)
  .have:g=1:=oT hc;subst this;refine ρ ?_;exact Jf () sO rfl
  .have:g=0:=by have:=oF hc;omega
   subst this;refine ρ ?_;exact Jf () sO rfl
 rintro _ w8 rfl;refine ρ ?_;refine neb ?_;rw [show (!(decide (n+g<L.length) == decide (((n+g:Nat):Int)<(L.length:Int))))=false by simp;omega];refine ρ ?_;refine neb ?_;rw [show (!(decide (0<n) == decide ((n:Int) > 0)))=false by simp];refine ρ ?_;refine cl (hAw (hTB.ext af)) ?_;rintro _ w9 ⟨rfl,a5⟩;have b1:=ag.trans a5;have aa:=ah.ext b1;have a3:=af.trans a5;refine ρ ?_;refine ki 103 (λhg=>?_) (λhg=>?_)
 .refine ρ ?_;refine ki 115 (λhg=>?_) (λhg=>?_)
  .refine ρ ?_;exact Jq ⟨rfl,a3⟩
  .have h0:0<n:=by simpa using hg
   have a9:n-1<L.length:=om
   obtain ⟨rv,ay,Z,_,a7,a8⟩:=aa.one a9;refine ρ ?_;refine ix (n-1) Z a9 ?_;refine ρ ?_;refine ld (Z.cell a7) ?_;refine ρ ?_;refine cl (Jvn (((b5 h0).ext a1).ext a5) a8) ?_;rintro _ b6 ⟨rfl,U⟩;rw [decide_eq_true rfl];refine ρ ?_;exact Jq ⟨rfl,a3.trans U⟩
 .have aq:n+g<L.length:=by simpa using hg
  obtain ⟨rv,ay,Z,_,a7,a8⟩:=aa.one aq;refine ρ ?_;refine ix (n+g) Z aq ?_;refine ρ ?_;refine ld (Z.cell a7) ?_;refine ρ ?_;refine cl (Jvn ((((bd aq).ext a2).ext a1).ext a5) a8) ?_;rintro _ b6 ⟨rfl,U⟩;rw [decide_eq_true rfl];have a4:=a3.trans U;refine ρ ?_;refine ki 115 (λhg=>?_) (λhg=>?_)
  .refine ρ ?_;exact Jq ⟨rfl,a4⟩
  .have h0:0<n:=by simpa using hg
   have a9:n-1<L.length:=om
   obtain ⟨rv,ay,Z,_,a7,a8⟩:=(aa.ext U).one a9;refine ρ ?_;refine ix (n-1) Z a9 ?_;refine ρ ?_;refine ld (Z.cell a7) ?_;refine ρ ?_;refine cl (Jvn ((((b5 h0).ext a1).ext a5).ext U) a8) ?_;rintro _ bg ⟨rfl,b2⟩;rw [decide_eq_true rfl];refine ρ ?_;exact Jq ⟨rfl,a4.trans b2⟩
open Go.RowKit Pl Go.Wk
def tt4: TT:=(106,{ desc:=.array 3 37,size:=3,esz:=1 })::tt
theorem tt4_ok: TOk Tryz.prog tt4:=⟨⟨kr,kr,kr⟩,Jqk⟩
instance (priority:=20000):Tab Tryz.prog tt4:=⟨tt4_ok,mixed⟩
end Go.Proofs.YtebcagekopgdhaaGreatDoor
namespace Go.Proofs.YtebcagekopgdhaaGreatDoor
open Go.RowKit Pl Go.Wk
theorem rankNext_walk{B0:Nat}{w:World}{v u:Value}(hTB:TB B0 w)(h:CaseE w v)(hu:∃ r,RowE w u r): Ret Tryz.prog 6 [v,u] w λu w'=>u=.bool true/\Ext w w':=by
 obtain ⟨cs,c,rfl,G,C⟩:=h;obtain ⟨p,o,_⟩:=hu;obtain ⟨J,pc,rfl,_⟩:=id o;exact rankNext_any Xqb hTB G C o
end Go.Proofs.YtebcagekopgdhaaGreatDoor
