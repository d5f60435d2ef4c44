/- Part 2 of the proof: Lw1, Lw2, Qc, Lw4. -/
import Derived.Test.YtefpailelagbkaaGreatDoorKso43
set_option linter.unusedVariables false
set_option maxRecDepth 100000
set_option maxHeartbeats 40000000
namespace Go.Proofs.YtefpailelagbkaaGreatDoor
open Go.RowKit Pl Go.Wk
attribute [local irreducible] WC WL QX WD WDB WP WN WG WH WM
theorem Xys.ext{w w':World}{v:Value}{zss:List (List Int)}(h:Xys w v zss)(hx:Ext w w'): Xys w' v zss:=by
 obtain ⟨A,c,cs,J,G,D,C,o⟩:=h;exact ⟨A,c,cs,J,G,D,C.ext hx,λi hi=>by obtain ⟨u,e,j⟩:=o i hi;exact ⟨u,e,j.ext hx⟩⟩
theorem Xym.ext{w w':World}{v:Value}{zss:List (List Row)}(h:Xym w v zss)(hx:Ext w w'): Xym w' v zss:=by
 obtain ⟨A,c,cs,J,G,D,C,o⟩:=h;exact ⟨A,c,cs,J,G,D,C.ext hx,λi hi=>by obtain ⟨u,e,j⟩:=o i hi;exact ⟨u,e,j.ext hx⟩⟩
theorem CseV.ext{w w':World}{cs:List Value}{c:Cse}(h:CseV w cs c)(hx:Ext w w'): CseV w' cs c:=by
 obtain ⟨U,O,pA,pc,i,vc,j,rc,J,G,D,C,u,o⟩:=h;exact ⟨U,O,pA,pc,i,vc,j,rc,J,G.ext hx,D.ext hx,C.ext hx,u.ext hx,o⟩
theorem few_any{w:World}{cs:List Value}{c:Cse}(h:CseV w cs c): Ret Tryz.prog 54 [.agg cs.toArray] w λu w'=>Ext w w'/\∃ b:Bool,u=.bool b/\(b=true->FewP c)/\(FewS c->b=true):=by
 obtain ⟨dA,dc,pA,pc,vA,vc,rA,rc,rfl,hD,hP,hV,hR,hn,hf⟩:=h;obtain ⟨_,_,ae,e1,_,_,a1,ac⟩:=id hR;injection e1 with e1 e2 e3
 subst e1;subst e3;obtain ⟨_,_,ad,e1,_,_,a5,ab⟩:=id hV;injection e1 with e1 e2 e3
 subst e1;subst e3;refine Jjc Tryz.func54 Tryz.ntmps54 rfl (by kernel_rfl) rfl ?_;refine ρ ?_;refine bx ?_;intro w1 b C hb J;refine ρ ?_;refine Jqb (fun (i:Nat) (o:Nat)=>[(1,.pointer (some ⟨b,0,none⟩)),(2,.bool false),(3,.int .i64 (o:Int)),(4,.int .i64 (i:Int))])
  (λi o w'=>i<=6/\i<=c.rss.length/\w'=w1/\o=(Jjz i λi=>max 1 (c.rss.getD i []).length)/\o<=10^i/\∀ j,j<i->(c.rss.getD j []).length<=10) (λi _=>6-i) 0 1 sB ⟨by omega,Nat.zero_le _,rfl,rfl,by simp,λj hj=>by omega⟩ ?_
 rintro i o w2 ⟨h6,hi,rfl,G,a2,O⟩;refine ρ ?_;refine ld (J.at (i:=5) rfl) ?_;refine ρ ?_;refine Jwr (fun (t:Bool)=>[(14,.bool t),(1,.pointer (some ⟨b,0,none⟩)),(2,.bool false),(3,.int .i64 (o:Int)),(4,.int .i64 (i:Int))]) (λt w3=>w3=w2/\(t=true↔i<c.rss.length/\i<6)) ?_ ?_
 ·refine ki 11 (λh=>?_) (λh=>?_)
  ·have:=oT h;refine ρ ?_;refine Jjn (decide ((i:Int)<6)) sB ⟨rfl,?_⟩;rw [decide_eq_true_eq];omega
  ·have:=oF h;refine ρ ?_;refine Jjn false sB ⟨rfl,?_⟩;constructor
   ·intro h;cases h
   ·omega
 rintro t w3 ⟨rfl,ht⟩;refine ρ ?_;refine ci (λh=>?_) (λh=>?_)
 ·obtain ⟨li,l6⟩:=ht.1 h;clear h;obtain ⟨ru,a4,a9⟩:=ac i li;obtain ⟨TA,tc,rfl,_,_,_⟩:=id (a9.ext C).parts;refine ρ ?_;refine ld (J.at (i:=5) rfl) ?_;refine ρ ?_;refine ix i (a1.ext C) li ?_;refine ρ ?_;refine ld ((a1.ext C).cell a4) ?_;refine ρ ?_;refine ci (λh=>?_) (λh=>?_)
  ·refine ρ ?_;exact Jjr ⟨C,false,rfl,λh=>(by cases h),λD=>by have h1:=D.row i li;have h2:=oT h;exact False.elim (by omega)⟩
  ·have a6:(c.rss.getD i []).length<=10:=by have:=oF h;omega
   clear h;refine ρ ?_;refine ld (J.at (i:=5) rfl) ?_;refine ρ ?_;refine ix i (a1.ext C) li ?_;refine ρ ?_;refine ld ((a1.ext C).cell a4) ?_;refine ρ ?_;have aa:(if (1:Int)<((c.rss.getD i []).length:Int) then ((c.rss.getD i []).length:Int) else 1)=((max 1 (c.rss.getD i []).length:Nat):Int):=by
    split<;>omega
   have a3:o<=100000:=nL a2 (Nat.pow_le_pow_right (by decide) (show i<=5 by omega));have af:o*max 1 (c.rss.getD i []).length<=o*10:=Nat.mul_le_mul_left _ (by omega);have e:IntKind.i64.wrap ((o:Int)*(if (1:Int)<((c.rss.getD i []).length:Int) then ((c.rss.getD i []).length:Int) else 1))=((o*max 1 (c.rss.getD i []).length:Nat):Int):=by
    rw [aa,<-Int.natCast_mul];exact Qsm (by omega)
   rw [e];refine Jjm (i+1) (o*max 1 (c.rss.getD i []).length) sO ⟨by omega,by omega,rfl,?_,?_,λj hj=>?_⟩ (by omega)
   ·rw [Jjz,<-G]
   ·rw [Nat.pow_succ];exact Nat.mul_le_mul a2 (by omega)
   ·by_cases e:j=i
    ·rw [e];exact a6
    ·exact O j (by omega)
 have ag:¬ (i<c.rss.length/\i<6):=λh'=>by have:=ht.2 h';rw [h]at this;cases this
 clear h ht;refine ρ ?_;refine ci (λh=>?_) (λh=>?_)
 ·refine ρ ?_;exact Jjr ⟨C,false,rfl,λh=>(by cases h),λD=>by
   have h1:=D.cnt;have h2:=D.r5;have h3:=oT h;have h4:i=c.rss.length:=by omega
   rw [<-h4,<-G]at h1;exact False.elim (by omega)⟩
 have a3:o<=5000:=by have:=oF h;omega
 clear h;refine ρ ?_;refine Jqw (fun (k:Nat)=>[(1,.pointer (some ⟨b,0,none⟩)),(2,.bool false),(5,.int .i64 (k:Int))])
  (λk w'=>k<=6/\k<=c.vs.length/\w'=w3) (λk=>6-k) 0 sB ⟨by omega,Nat.zero_le _,rfl⟩ ?_
 rintro k w4 ⟨k6,hk,rfl⟩;refine ρ ?_;refine ld (J.at (i:=4) rfl) ?_;refine ρ ?_;refine Jwr (fun (t:Bool)=>[(43,.bool t),(1,.pointer (some ⟨b,0,none⟩)),(2,.bool false),(5,.int .i64 (k:Int))]) (λt w5=>w5=w4/\(t=true->k<c.vs.length/\k<6)) ?_ ?_
 ·refine ki 40 (λh=>?_) (λh=>?_)
  ·have:=oT h;refine ρ ?_;refine Jjn (decide ((k:Int)<6)) sB ⟨rfl,?_⟩;rw [decide_eq_true_eq];omega
  ·refine ρ ?_;exact Jjn false sB ⟨rfl,λh=>by cases h⟩
 rintro t w5 ⟨rfl,ht⟩;refine ρ ?_;refine ci (λh=>?_) (λh=>?_)
 ·obtain ⟨lk,l6⟩:=ht h;clear h;obtain ⟨vu,a7,a8⟩:=ab k lk;obtain ⟨QA,qc,rfl,_⟩:=id a8;refine ρ ?_;refine ld (J.at (i:=4) rfl) ?_;refine ρ ?_;refine ix k (a5.ext C) lk ?_;refine ρ ?_;refine ld ((a5.ext C).cell a7) ?_;refine ρ ?_;refine ci (λh=>?_) (λh=>?_)
  ·refine ρ ?_;exact Jjr ⟨C,false,rfl,λh=>(by cases h),λD=>by have h1:=D.v8 k lk;have h2:=oT h;exact False.elim (by omega)⟩
  ·refine ρ ?_;exact Jjx (k+1) sO ⟨by omega,by omega,rfl⟩ (by omega)
 clear h ht;refine ρ ?_;refine ld (J.at (i:=0) rfl) ?_;refine ρ ?_;refine ki 56 (λh=>?_) (λh=>?_)
 ·have hN:c.n<=6:=oT h;clear h;refine ρ ?_;refine ld (J.at (i:=4) rfl) ?_;refine ρ ?_;refine ki 67 (λh4=>?_) (λh4=>?_)
  ·refine ρ ?_;refine ld (J.at (i:=5) rfl) ?_;refine ρ ?_;refine ki 73 (λh5=>?_) (λh5=>?_)
   ·have r5:c.rss.length<=5:=by have:=oT h5;omega
    have v5:c.vs.length<=5:=by have:=oT h4;omega
    have ir:i=c.rss.length:=by omega
    have Z:FewP c:=⟨λj hj=>O j (by omega),by rw [<-ir,<-G];exact a3,.inl hN,v5,r5⟩;refine ρ ?_;refine ld (J.at (i:=2) rfl) ?_;refine ρ ?_;refine ki 79 (λh6=>?_) (λh6=>?_)
    ·refine ρ ?_;refine ld (J.at (i:=3) rfl) ?_;refine ρ ?_;exact Jjr ⟨C,decide ((c.pm.length:Int)<=10),rfl,λ_=>Z,λD=>by have:=D.p10;exact decide_eq_true (by omega)⟩
    ·refine ρ ?_;exact Jjr ⟨C,false,rfl,λh=>(by cases h),λD=>by have h1:=D.d10;have h2:=oF h6;exact False.elim (by omega)⟩
   ·refine ρ ?_;exact Jjr ⟨C,false,rfl,λh=>(by cases h),λD=>by have h1:=D.r5;have h2:=oF h5;exact False.elim (by omega)⟩
  ·refine ρ ?_;exact Jjr ⟨C,false,rfl,λh=>(by cases h),λD=>by have h1:=D.v5;have h2:=oF h4;exact False.elim (by omega)⟩
 ·have U:¬ c.n<=6:=oF h;clear h;refine ρ ?_;refine ld (J.at (i:=0) rfl) ?_;refine ρ ?_;refine ki 61 (λh=>?_) (λh=>?_)
  ·have hN:32<c.n:=oT h;clear h;refine ρ ?_;refine ld (J.at (i:=4) rfl) ?_;refine ρ ?_;refine ki 67 (λh4=>?_) (λh4=>?_)
   ·refine ρ ?_;refine ld (J.at (i:=5) rfl) ?_;refine ρ ?_;refine ki 73 (λh5=>?_) (λh5=>?_)
    ·have r5:c.rss.length<=5:=by have:=oT h5;omega
     have v5:c.vs.length<=5:=by have:=oT h4;omega
     have ir:i=c.rss.length:=by omega
     have Z:FewP c:=⟨λj hj=>O j (by omega),by rw [<-ir,<-G];exact a3,.inr hN,v5,r5⟩;refine ρ ?_;refine ld (J.at (i:=2) rfl) ?_;refine ρ ?_;refine ki 79 (λh6=>?_) (λh6=>?_)
     ·refine ρ ?_;refine ld (J.at (i:=3) rfl) ?_;refine ρ ?_;exact Jjr ⟨C,decide ((c.pm.length:Int)<=10),rfl,λ_=>Z,λD=>absurd D.n6 U⟩
     ·refine ρ ?_;exact Jjr ⟨C,false,rfl,λh=>(by cases h),λD=>absurd D.n6 U⟩
    ·refine ρ ?_;exact Jjr ⟨C,false,rfl,λh=>(by cases h),λD=>absurd D.n6 U⟩
   ·refine ρ ?_;exact Jjr ⟨C,false,rfl,λh=>(by cases h),λD=>absurd D.n6 U⟩
  ·refine ρ ?_;exact Jjr ⟨C,false,rfl,λh=>(by cases h),λD=>absurd D.n6 U⟩
end Go.Proofs.YtefpailelagbkaaGreatDoor
namespace Go.Wk
open Go.RowKit
section
variable {α:Type} {E:TypeId} {sz base:Nat} {Φ:World->List Value->α->Prop} {N0:Nat->Prop} {w w':World} {v:Value} {ls:List α}
end
end Go.Wk
namespace Go.Proofs.YtefpailelagbkaaGreatDoor
open Go.RowKit Pl Go.Wk
attribute [local irreducible] WC WL QX WD WDB WP WN WG WH WM
theorem zRin: Jxd Tryz.prog 114=some (.agg #[.int .i64 0,.int .i64 0,.slice none 0 0,.slice none 0 0,.slice none 0 0]):=by kernel_rfl
theorem bldRin(n f:Int)(A B C:Option Addr)(a a' b b' c c':Nat)(w:World): (Instr.build 114 #[(0,.int .i64 n),(1,.int .i64 f),(2,.slice A a a'),(3,.slice B b b'),(4,.slice C c c')]).run Tryz.prog w=.ok (.agg #[.int .i64 n,.int .i64 f,.slice A a a',.slice B b b',.slice C c c']) w:=by kernel_rfl
theorem ref_any{w:World}{n f:Int}{dA pA vA rA:Option Addr}{d dc p pc v vc r rc:Nat}:
  Ret Tryz.prog 56 [.agg #[.int .i64 n,.int .i64 f,.slice dA d dc,.slice pA p pc,.slice vA v vc,.slice rA r rc]] w λu w'=>u=.agg #[.int .i64 n,.int .i64 f,.slice pA p pc,.slice vA v vc,.slice rA r rc]/\Ext w w':=by
 refine Jjc Tryz.func56 Tryz.ntmps56 rfl (by kernel_rfl) rfl ?_;refine ρ ?_;refine bx ?_;intro w1 b C hb Z;refine ρ ?_;refine alc zRin ?_;intro w2 b2 o G O;have j:=Z.ext o;refine ρ ?_;refine ld (j.at (i:=0) rfl) ?_;refine ρ ?_;refine ld (j.at (i:=1) rfl) ?_;refine ρ ?_;refine ld (j.at (i:=3) rfl) ?_;refine ρ ?_;refine ld (j.at (i:=4) rfl) ?_;refine ρ ?_;refine ld (j.at (i:=5) rfl) ?_;refine ρ ?_;refine bld (bldRin _ _ _ _ _ _ _ _ _ _ _ _) ?_;refine ρ ?_;refine stW O ?_;intro w3 J U D;refine ρ ?_;exact Qhj J ⟨rfl,D w (C.trans o) (nL C.size G)⟩
end Go.Proofs.YtefpailelagbkaaGreatDoor
namespace Go.Proofs.YtefpailelagbkaaGreatDoor
open Pl Go.Wk
section
variable {c:Cse} {ats:List Atm}
theorem CseOk.arow(h:CseOk c ats){y:Row}(hy:y∈c.ans): y.length=c.F:=by
 obtain ⟨z,i,e⟩:=(h.ans.2 y).1 hy;rw [<-e,List.length_take,i.1];have:=h.fF.2;omega
end
open Go.RowKit Pl Go.Wk
attribute [local irreducible] WC WL QX WD WDB WP WN WG WH WM
theorem blk_same{w w':World}{b t:Nat}{cs:List Value}(h:Blk w b t cs)(h':Blk w' b t cs)(hg:GrN (λk=>k=b) w w'): Ext w w':=⟨hg.os,hg.tape,hg.output,hg.size,λk i=>if e:k=b then by subst e;exact h'.trans h.symm else hg.block k i e⟩
theorem bldIndex0(w:World): (Instr.build 34 #[]).run Tryz.prog w=.ok (.agg #[.slice none 0 0,.slice none 0 0,.slice none 0 0,.slice none 0 0,.slice none 0 0]) w:=by kernel_rfl
theorem CseV.rin{w:World}{c:Cse}{ats:List Atm}{vA rA:Option Addr}{vc rc:Nat}(hV:Xys w (.slice vA c.vs.length vc) c.vs)(hR:Xym w (.slice rA c.rss.length rc) c.rss)(h:CseOk c ats): RInM w vA rA c.m c.vars c.crs:=by
 obtain ⟨_,_,o,j,_,_,D,C⟩:=hV;injection j with j e2 e3
 subst j;subst e3;obtain ⟨_,_,u,j,_,_,J,G⟩:=hR;injection j with j e2 e3
 subst j;subst e3;refine ⟨⟨o,D,λi hi=>?_⟩,⟨u,?_,λi hi=>G i (by rw [<-h.len];exact hi)⟩⟩
 ·rw [(h.vars hi).1];exact C i hi
 ·have:=h.len;unfold Cse.m;rw [this];exact J
theorem built_any{B0:Nat}{w:World}{cs:List Value}{c:Cse}(hTB:TB B0 w)(h:CseV w cs c)(hfit:∀ i,i<c.rss.length->∀ r∈c.rss.getD i [],∀ u∈r,Qwt u):
  Ret Tryz.prog 15 [.agg cs.toArray] w λu w'=>Ext w w'/\((u=.tuple #[.agg #[.slice none 0 0,.slice none 0 0,.slice none 0 0,.slice none 0 0,.slice none 0 0],.slice none 0 0,.bool true,.bool true]/\¬ Xyt c) ∨
   ∃ (ats:List Atm) (x av:Value) (kf:Nat->Nat) (pf:Nat->Int) (BB:Nat->List BkT) (tot:Nat),CseOk c ats/\u=.tuple #[x,av,.bool false,.bool true]/\IxA w' x c.F c.ds kf pf BB tot c.ans/\RowsV w' av c.ans):=by
 obtain ⟨dA,dc,pA,pc,vA,vc,rA,rc,rfl,hD,hP,hV,hR,hn,hf⟩:=id h;refine Jjc Tryz.func15 Tryz.ntmps15 rfl (by kernel_rfl) rfl ?_;refine ρ ?_;refine bx ?_;intro w1 b a6 hb hB;refine ρ ?_;refine alc Qcz ?_;intro w2 b2 ai az bw;have b7:=hB.ext ai;refine ρ ?_;refine ldW b7 ?_;refine ρ ?_;refine cl (Xzx (h.ext (a6.trans ai))) ?_;rintro u w3 ⟨ah,ca,c4,aA,c9,c3,ac,an,ok,rfl,bq,bp,bg,ar⟩;refine ρ ?_;refine alc zInp ?_;intro w4 b4 bc bl bv;refine ρ ?_;refine stW bv ?_;intro w5 bu c8 bb;have O:Ext w3 w5:=bb w3 bc bl;have b5:=(bw.ext ah).ext O;have ae:=(b7.ext ah).ext O;have a9:=((a6.trans ai).trans ah).trans O;refine ρ ?_;refine ldW ae ?_;refine ρ ?_;refine cl (few_any (h.ext a9)) ?_;rintro u w6 ⟨a2,fw,rfl,ax,bi⟩;have J:=O.trans a2;have U:=a9.trans a2;have a3:=b5.ext a2;refine ρ ?_;refine Jwr (fun (t:Bool)=>[(21,.bool t),(1,.pointer (some ⟨b,0,none⟩)),(2,.pointer (some ⟨b2,0,none⟩)),(3,.slice none 0 0),(4,.bool false),(5,.bool false),(6,.pointer (some ⟨b4,0,none⟩)),(7,.bool ok)]) (λt w7=>w7=w6/\t = !(fw && ok)) ?_ ?_
 ·cases fw with
  | false=>
   refine ρ ?_;exact Jjn true sB ⟨rfl,rfl⟩
  | true=>
   refine ρ ?_;exact Jjn (!ok) sB ⟨rfl,by simp⟩
 rintro t w7 ⟨rfl,ht⟩;refine ρ ?_;refine ci (λh=>?_) (λh=>?_)
 ·subst h;refine ρ ?_;refine bld (bldIndex0 _) ?_;refine ρ ?_;refine stW a3 ?_;intro w8 bt c7 a1;have b9:Ext w w8:=a1 w U (nL a6.size az);refine ρ ?_;refine finC4 bt ⟨b9,.inl ⟨rfl,λhG=>?_⟩⟩;have h1:=bi hG.1;have h2:=ar hG.2.1 hG.2.2;rw [h1,h2]at ht;cases ht
 ·subst h;obtain ⟨c0,bz⟩:fw=true/\ok=true:=by
   cases fw<;>cases ok<;>simp at ht ⊢
  subst c0;subst bz;obtain ⟨au,ats,bn,hG,hmk,ay⟩:=bg rfl;have D:CseOk c ats:=⟨ax rfl,au,bn,hmk,ay trivial,hfit⟩;have b1:=bu.ext a2;refine ρ ?_;refine ldW b1 ?_;obtain ⟨ts,a7,br⟩:=bldV_of D (bq.ext J) (bp.ext J) (hG.ext J λcs a ⟨t,e,h⟩=>⟨t,e,h.ext J⟩);have be:ts.length=c.m:=by have:=D.al;rw [a7,List.length_map]at this;exact this
  refine ρ ?_;refine cl (Xqm (hTB.ext U) (D.bldI a7) br) ?_;rintro u w8 ⟨a1,x,st,kf,pf,R,rfl,hE,aa⟩;obtain ⟨XA,xd,YA,yd,ZA,zd,UA,ud,tv,c5,c2,rfl,_,_,_,_,_,_,bd,_⟩:=id aa.here.ex;obtain ⟨TA,tc,rfl,_⟩:=id bd;have b3:=a3.ext a1;refine ρ ?_;refine stW b3 ?_;intro w9 bs bh ba;have aq:Ext w w9:=ba w (U.trans a1) (nL a6.size az);have ab:GrN (λk=>k=b2) w8 w9:=GrN.by bh λk hk=>by injection hk with hk;exact hk.symm
  have bj:=a3.lt;have aj:=aa.gr (ab.mono λk _ hk=>by rw [hk];exact bj);have b8:¬ b=b2:=λe=>by have:=hB.lt;omega
  have b6:=Jjw ((ae.ext a2).ext a1) ab b8;have a5:Ext w9 w9.drew:=(Ext.refl w9).drew;have a4:=aq.trans a5;have am:=bs.ext a5;have ad:=b6.ext a5;have bo:=CseV.rin (hV.ext a4) (hR.ext a4) D;have c6:c.vs.length=c.m:=rfl;have bf:c.rss.length=c.m:=by rw [<-D.len];rfl
  refine ρ ?_;refine drN (λ_=>False) 13 [(0,0),(0,1),(0,3),(0,4),(0,6),(0,7),(1,2),(1,5),(1,8),(0,9),(0,10),(0,11)] (by kernel_rfl) ?_;refine ρn ?_;refine Jlg (cs:=[.slice XA c.F xd,.slice YA c.F yd,.slice ZA c.F zd,.slice UA c.F ud,.slice TA _ tc]) (λw' hg j u hu=>(am.ext hg.toExt).at hu) ?_;refine ρn ?_;refine Jlg (cs:=[.int .i64 c.n,.int .i64 c.f,.slice dA c.ds.length dc,.slice pA c.pm.length pc,.slice vA c.vs.length vc,.slice rA c.rss.length rc]) (λw' hg j u hu=>(ad.ext hg.toExt).at hu) ?_;refine ρn ?_;refine nld (Jjg (ad.at (i:=2) rfl) (λe=>e)) ?_;refine ρn ?_;refine nop ?_;refine cl ref_any ?_;rintro u ap ⟨rfl,o⟩;refine ρ ?_;refine Jqt (GrN.ext o) ?_;refine ρn ?_;refine nop ?_;have hA:Ret Tryz.prog 55 [.agg #[.int .i64 c.n,.int .i64 c.f,.slice pA c.pm.length pc,.slice vA c.vs.length vc,.slice rA c.rss.length rc],.slice dA c.ds.length dc] ap λu w'=>RowsV w' u c.ans/\Ext ap w':=by
   rw [D.nN.1,D.fF.1,bf];exact rAnswers_any (pA:=pA) (pn:=c.pm.length) (pc:=pc) (vc:=vc) (rc:=rc) D.refP (bo.ext o) (by have:=D.nN.2;omega) D.fF.2 (hD.ext (a4.trans o))
  refine cl hA ?_;rintro av ao ⟨bm,C⟩;refine ρ ?_;refine Jqt (GrN.ext C) ?_;refine ρn ?_;refine nop ?_;refine stW ((am.ext o).ext C) ?_;intro ag af aw c1;have ak:GrN (λk=>k=b2) ao ag:=GrN.by aw λk hk=>by injection hk with hk;exact hk.symm
  have G:Ext ao ag:=blk_same ((am.ext o).ext C) af ak;have Z:Ext w ag:=((a4.trans o).trans C).trans G;refine Jzr (Jqt (GrN.ext G) ?_);refine ρn ?_;refine ρ ?_;have a8:=(aj.here.ext (((a5.trans o).trans C).trans G));refine finC4 af ⟨Z,.inr ⟨ats,_,av,kf,pf,_,_,D,rfl,ixA_of ⟨B0,hTB.ext Z⟩ (D.bldI a7) (rsA_ts a7) hE a8 D.ans.1 (λy=>by rw [be];exact D.ans.2 y) (by have:=D.anl;omega),bm.ext G⟩⟩
end Go.Proofs.YtefpailelagbkaaGreatDoor
