/- Part 1. -/
import Derived.Test.YtebcagekopgdhaaGreatDoorKe20
set_option linter.unusedVariables false
set_option maxRecDepth 100000
set_option maxHeartbeats 40000000
namespace Go.Proofs.YtebcagekopgdhaaGreatDoor
open Go.RowKit Pl Go.Wk
attribute [local irreducible] WC WL QX WD WDB WP WN WG WH WM
variable {B0 c1 c2:Nat}
set_option linter.constructorNameAsVariable false in
theorem rankBetween_any(hAw:Aw42){w:World}{cs:List Value}{c:Cse}{A1 A2:Option Addr}{a b:Row}(hTB:TB B0 w)(h:CseV w cs c)(hfit:∀ i,i<c.rss.length->∀ r∈c.rss.getD i [],∀ u∈r,Vt u)(ha:RowV w (.slice A1 a.length c1) a)(hbr:RowV w (.slice A2 b.length c2) b):
  Ret Tryz.prog 10 [.agg cs.toArray,.slice A1 a.length c1,.slice A2 b.length c2] w λu w'=>u=.bool true/\Ext w w':=by
 obtain ⟨dA,dc,pA,b9,vA,vc,rA,rc,rfl,hD,hP,hV,hR,hn,hf⟩:=id h;refine Jz Tryz.func10 Tryz.ntmps10 rfl kr rfl ?_;refine ρ ?_;refine bx ?_;intro w1 b3 a4 bh hB;refine ρ ?_;refine ldW hB ?_;refine ρ ?_;refine cl (Xjz (hTB.ext a4) (h.ext a4) hfit) ?_;rintro u w2 ⟨a6,b1⟩;rcases b1 with ⟨rfl,bc⟩|⟨ats,x,av,kf,pf,BB,tot,hOk,rfl,hIx,hav⟩
 .refine ρ ?_;refine alc Kw ?_;intro w3 b7 a9 ac ab;refine ρ ?_;refine stW ab ?_;intro w4 ag aw a8;have U:Ext w2 w4:=a8 w2 a9 ac;refine ρ ?_;refine Go.Wk.kt 23 ?_ ?_
  .rfl
  refine ρ ?_;refine Go.Wk.kt 28 ?_ ?_
  .rfl
  refine ρ ?_;refine cl (hAw (hTB.ext ((a4.trans a6).trans U))) ?_;rintro _ w5 ⟨rfl,O⟩;refine ρ ?_;exact Jq ⟨rfl,((a4.trans a6).trans U).trans O⟩
 have b4:=hOk.ans.1;obtain ⟨XA,xd,YA,yd,ZA,zd,UA,ud,tv,bb,b8,rfl,_,_,_,_,_,_,ap,_⟩:=id hIx.ix.ex;obtain ⟨TA,tc,rfl,_⟩:=id ap;obtain ⟨LA,lc,rfl,be,bd,_⟩:=hav.parts;have bg:=hOk.fF.1;obtain ⟨L,hL⟩:∃ L,L=c.ans:=⟨_,rfl⟩;have bf:L.length<=5000:=by rw [hL];exact hOk.anl
 have b2:∀ r∈L,r.length=c.F:=λr hr=>hOk.arow (hL ▸ hr);rw [<-hL]at hIx hav b4;rw [show c.ans.length=L.length by rw [hL]];refine ρ ?_;refine alc Kw ?_;intro w3 b7 a9 ac ab;refine ρ ?_;refine stW ab ?_;intro w4 ag aw a8;have U:Ext w2 w4:=a8 w2 a9 ac;have C:=(a4.trans a6).trans U;have ao:=hIx.ext U;have ak:=hav.ext U;have b6:=(hB.ext a6).ext U;have am:=ha.ext C;have ai:=hbr.ext C;refine ρ ?_;refine ki 28 (λJ=>?_) (λJ=>?_)
 .clear J;refine ρ ?_;refine cl (hAw (hTB.ext C)) ?_;rintro _ w5 ⟨rfl,O⟩;refine ρ ?_;exact Jq ⟨rfl,C.trans O⟩
 clear J;refine ρ ?_;refine ci (λJ=>?_) (λJ=>?_)
 .clear J;refine ρ ?_;refine cl (hAw (hTB.ext C)) ?_;rintro _ w5 ⟨rfl,O⟩;refine ρ ?_;exact Jq ⟨rfl,C.trans O⟩
 clear J;refine ρ ?_;refine ldW ag ?_;refine ρ ?_;refine cl (rkBetween_any (hTB.ext C) ao b2 am ai) ?_;rintro u w5 ⟨O,ar,ay⟩;have a3:=b6.ext O;have a1:=C.trans O;by_cases hab:a.length=c.F/\b.length=c.F
 rotate_left
 .have e:=ar hab;subst e;refine ρ ?_;refine ld (a3.at (i:=1) rfl) ?_;refine ρ ?_;by_cases ad:a.length=c.F
  .have ah:¬ b.length=c.F:=λe=>hab ⟨ad,e⟩;refine Go.Wk.kf 46 ?_ ?_
   .simp;omega
   refine ρ ?_;refine ld (a3.at (i:=1) rfl) ?_;refine ρ ?_;refine ci (λJ=>?_) (λJ=>?_);rotate_left
   .exfalso
    simp at J;omega
   clear J;refine ρ ?_;refine cl (hAw (hTB.ext a1)) ?_;rintro _ w6 ⟨rfl,o⟩;refine ρ ?_;exact Jq ⟨rfl,a1.trans o⟩
  .refine Go.Wk.kt 46 ?_ ?_
   .simp;omega
   refine ρ ?_;refine cl (hAw (hTB.ext a1)) ?_;rintro _ w6 ⟨rfl,o⟩;refine ρ ?_;exact Jq ⟨rfl,a1.trans o⟩
 obtain ⟨ad,ah⟩:=hab;obtain ⟨nv,rfl,aa⟩:=ay ad ah;obtain ⟨G,hG⟩:∃ G:Row->Bool,G=λy=>decide (0<=Jw y a c.ds) && decide (Jw y b c.ds<0):=⟨_,rfl⟩;rw [<-hG]at aa;obtain ⟨NA,nc,rfl,_⟩:=id aa;refine ρ ?_;refine ld (a3.at (i:=1) rfl) ?_;refine ρ ?_;refine Go.Wk.kf 46 ?_ ?_
 .simp;omega
 refine ρ ?_;refine ld (a3.at (i:=1) rfl) ?_;refine ρ ?_;refine ci (λJ=>?_) (λJ=>?_)
 .exfalso
  simp at J;omega
 clear J;refine ρ ?_;have aj:=ak.ext O;obtain ⟨_,_,eA,_,_,ba,an,b5⟩:=aj.parts;injection eA with e1 e2 e3
 subst e1;subst e3;refine Qh (fun (i:Nat)=>[(1,.slice A1 a.length c1),(2,.slice A2 b.length c2),(3,.pointer (some ⟨b3,0,none⟩)),(10,.slice NA (Jj (L.filter G).length).length nc),(11,.int .i64 0),(12,.int .i64 (((L.take i).filter G).length:Nat)),(63,.slice LA L.length lc),(64,.int .i64 (L.length:Int)),(65,.int .i64 (i:Int))])
  (λi w'=>i<=L.length/\Ext w5 w') (λi=>L.length-i) 0 sB ⟨Nat.zero_le _,Ext.refl _⟩ ?_
 rintro i w6 ⟨hi,o⟩;have ax:((L.take i).filter G).length<=i:=nL (List.length_filter_le _ _) (by rw [List.length_take];omega);refine ρ ?_;refine ci (λJ=>?_) (λJ=>?_)
 .have li:i<L.length:=by have:=oT J;omega
  clear J;obtain ⟨v,hv,hr⟩:=b5 i li;obtain ⟨X1,x1,rfl,_⟩:=id hr;have aq:L.take (i+1)=L.take i++[L.getD i []]:=Qb [] li;have a7:=filter_sn8 G (L.take i) (L.getD i []);rw [<-aq]at a7;have ae:G (L.getD i [])=(decide (0<=Jw (L.getD i []) a c.ds) && decide (Jw (L.getD i []) b c.ds<0)):=by rw [hG]
  have a2:=a1.trans o;refine ρ ?_;refine ix i (an.ext o) li ?_;refine ρ ?_;refine ld ((an.ext o).cell hv) ?_;refine ρ ?_;refine ld ((a3.ext o).at (i:=2) rfl) ?_;refine ρ ?_;refine cl (Jrs (hr.ext o) ((am.ext O).ext o) (hD.ext a2)) ?_;rintro _ w7 ⟨⟨z,rfl,hz,_⟩,Z⟩;refine ρ ?_;refine ki 75 (λhm=>?_) (λhm=>?_)
  .have h1:decide (0<=Jw (L.getD i []) a c.ds)=true:=decide_eq_true (Int.not_lt.1 λe=>by have:=oT hm;have:=hz.2 e;omega);refine ρ ?_;refine ld (((a3.ext o).ext Z).at (i:=2) rfl) ?_;refine ρ ?_;refine cl (Jrs ((hr.ext o).ext Z) (((ai.ext O).ext o).ext Z) ((hD.ext a2).ext Z)) ?_;rintro _ w8 ⟨⟨z2,rfl,af,_⟩,a5⟩;refine ρ ?_;refine ci (λJ=>?_) (λJ=>?_)
   .rw [if_pos (by rw [ae,h1,decide_eq_true (af.1 (oT J))];rfl)]at a7;refine ρ ?_;exact Qv (i+1) sO ⟨om,(o.trans Z).trans a5⟩ om
   .rw [if_neg (by rw [ae,h1,decide_eq_false (λe=>absurd (af.2 e) (oF J))];decide)]at a7;refine ρ ?_;exact Qv (i+1) sO ⟨om,(o.trans Z).trans a5⟩ om
  .have h1:decide (0<=Jw (L.getD i []) a c.ds)=false:=dF (by have:=oF hm;have:=hz.1 om;omega);rw [if_neg (by rw [ae,h1];simp)]at a7;refine ρ ?_;exact Qv (i+1) sO ⟨om,o.trans Z⟩ om
 .have au:i=L.length:=by have:=oF J;omega
  clear J;rw [au,List.take_length]at ax ⊢;have a2:=a1.trans o;refine ρ ?_;refine cl (hAw (hTB.ext a2)) ?_;rintro _ w7 ⟨rfl,Z⟩;refine ρ ?_;refine cl (Jjw (k:=(L.filter G).length) ((aa.ext o).ext Z) om) ?_;rintro _ w8 ⟨rfl,a5⟩;rw [decide_eq_true rfl];refine ρ ?_;exact Jq ⟨rfl,(a2.trans Z).trans a5⟩
open Go.RowKit Pl Go.Wk
def tt4: TT:=(106,{ desc:=.array 3 37,size:=3,esz:=1 })::tt
theorem tt4_ok: TOk Tryz.prog tt4:=⟨⟨kr,kr,kr⟩,Jqk⟩
instance (priority:=20000):Tab Tryz.prog tt4:=⟨tt4_ok,mixed⟩
end Go.Proofs.YtebcagekopgdhaaGreatDoor
namespace Go.Proofs.YtebcagekopgdhaaGreatDoor
open Go.RowKit Pl Go.Wk
theorem rankBetween_walk{B0:Nat}{w:World}{v u1 u2:Value}(hTB:TB B0 w)(h:CaseE w v)(ha:∃ r,RowE w u1 r)(hb:∃ r,RowE w u2 r): Ret Tryz.prog 10 [v,u1,u2] w λu w'=>u=.bool true/\Ext w w':=by
 obtain ⟨cs,c,rfl,J,G⟩:=h;obtain ⟨p,C,_⟩:=ha;obtain ⟨Z,pc,rfl,_⟩:=id C;obtain ⟨q,o,_⟩:=hb;obtain ⟨U,O,rfl,_⟩:=id o;exact rankBetween_any Xqb hTB J G C o
end Go.Proofs.YtebcagekopgdhaaGreatDoor
