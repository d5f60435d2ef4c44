/- Part 2 of the proof: Lw4. -/
import Derived.Test.YtefpailelagbkaaGreatDoorKst43
set_option linter.unusedVariables false
set_option maxRecDepth 100000
set_option maxHeartbeats 40000000
namespace Go.Proofs.YtefpailelagbkaaGreatDoor
open Go.RowKit Pl Go.Wk
attribute [local irreducible] WC WL QX WD WDB WP WN WG WH WM
theorem blk_same{w w':World}{b t:Nat}{cs:List Value}(h:Blk w b t cs)(h':Blk w' b t cs)(hg:GrN (λk=>k=b) w w'): Ext w w':=⟨hg.os,hg.tape,hg.output,hg.size,λk i=>if e:k=b then by subst e;exact h'.trans h.symm else hg.block k i e⟩
theorem bldIndex0(w:World): (Instr.build 34 #[]).run Tryz.prog w=.ok (.agg #[.slice none 0 0,.slice none 0 0,.slice none 0 0,.slice none 0 0,.slice none 0 0]) w:=by kernel_rfl
theorem CseV.rin{w:World}{c:Cse}{ats:List Atm}{vA rA:Option Addr}{vc rc:Nat}(hV:Xys w (.slice vA c.vs.length vc) c.vs)(hR:Xym w (.slice rA c.rss.length rc) c.rss)(h:CseOk c ats): RInM w vA rA c.m c.vars c.crs:=by
 obtain ⟨_,_,o,j,_,_,D,C⟩:=hV;injection j with j e2 e3
 subst j;subst e3;obtain ⟨_,_,u,j,_,_,J,G⟩:=hR;injection j with j e2 e3
 subst j;subst e3;refine ⟨⟨o,D,λi hi=>?_⟩,⟨u,?_,λi hi=>G i (by rw [<-h.len];exact hi)⟩⟩
 ·rw [(h.vars hi).1];exact C i hi
 ·have:=h.len;unfold Cse.m;rw [this];exact J
theorem built_any{B0:Nat}{w:World}{cs:List Value}{c:Cse}(hTB:TB B0 w)(h:CseV w cs c)(hfit:∀ i,i<c.rss.length->∀ r∈c.rss.getD i [],∀ u∈r,Qwt u):
  Ret Tryz.prog 15 [.agg cs.toArray] w λu w'=>Ext w w'/\((u=.tuple #[.agg #[.slice none 0 0,.slice none 0 0,.slice none 0 0,.slice none 0 0,.slice none 0 0],.slice none 0 0,.bool true,.bool true]/\¬ Xyt c) ∨
   ∃ (ats:List Atm) (x av:Value) (kf:Nat->Nat) (pf:Nat->Int) (BB:Nat->List BkT) (tot:Nat),CseOk c ats/\u=.tuple #[x,av,.bool false,.bool true]/\IxA w' x c.F c.ds kf pf BB tot c.ans/\RowsV w' av c.ans):=by
 obtain ⟨dA,dc,pA,pc,vA,vc,rA,rc,rfl,hD,hP,hV,hR,hn,hf⟩:=id h;refine Jjc Tryz.func15 Tryz.ntmps15 rfl (by kernel_rfl) rfl ?_;refine ρ ?_;refine bx ?_;intro w1 b a6 hb hB;refine ρ ?_;refine alc Qcz ?_;intro w2 b2 ai az bw;have b7:=hB.ext ai;refine ρ ?_;refine ldW b7 ?_;refine ρ ?_;refine cl (Xzx (h.ext (a6.trans ai))) ?_;rintro u w3 ⟨ah,ca,c4,aA,c9,c3,ac,an,ok,rfl,bq,bp,bg,ar⟩;refine ρ ?_;refine alc zInp ?_;intro w4 b4 bc bl bv;refine ρ ?_;refine stW bv ?_;intro w5 bu c8 bb;have O:Ext w3 w5:=bb w3 bc bl;have b5:=(bw.ext ah).ext O;have ae:=(b7.ext ah).ext O;have a9:=((a6.trans ai).trans ah).trans O;refine ρ ?_;refine ldW ae ?_;refine ρ ?_;refine cl (few_any (h.ext a9)) ?_;rintro u w6 ⟨a2,fw,rfl,ax,bi⟩;have J:=O.trans a2;have U:=a9.trans a2;have a3:=b5.ext a2;refine ρ ?_;refine Jwr (fun (t:Bool)=>[(21,.bool t),(1,.pointer (some ⟨b,0,none⟩)),(2,.pointer (some ⟨b2,0,none⟩)),(3,.slice none 0 0),(4,.bool false),(5,.bool false),(6,.pointer (some ⟨b4,0,none⟩)),(7,.bool ok)]) (λt w7=>w7=w6/\t = !(fw && ok)) ?_ ?_
 ·cases fw with
  | false=>
   refine ρ ?_;exact Jjn true sB ⟨rfl,rfl⟩
  | true=>
   refine ρ ?_;exact Jjn (!ok) sB ⟨rfl,by simp⟩
 rintro t w7 ⟨rfl,ht⟩;refine ρ ?_;refine ci (λh=>?_) (λh=>?_)
 ·subst h;refine ρ ?_;refine bld (bldIndex0 _) ?_;refine ρ ?_;refine stW a3 ?_;intro w8 bt c7 a1;have b9:Ext w w8:=a1 w U (nL a6.size az);refine ρ ?_;refine finC4 bt ⟨b9,.inl ⟨rfl,λhG=>?_⟩⟩;have h1:=bi hG.1;have h2:=ar hG.2.1 hG.2.2;rw [h1,h2]at ht;cases ht
 ·subst h;obtain ⟨c0,bz⟩:fw=true/\ok=true:=by
   cases fw<;>cases ok<;>simp at ht ⊢
  subst c0;subst bz;obtain ⟨au,ats,bn,hG,hmk,ay⟩:=bg rfl;have D:CseOk c ats:=⟨ax rfl,au,bn,hmk,ay trivial,hfit⟩;have b1:=bu.ext a2;refine ρ ?_;refine ldW b1 ?_;obtain ⟨ts,a7,br⟩:=bldV_of D (bq.ext J) (bp.ext J) (hG.ext J λcs a ⟨t,e,h⟩=>⟨t,e,h.ext J⟩);have be:ts.length=c.m:=by have:=D.al;rw [a7,List.length_map]at this;exact this
  refine ρ ?_;refine cl (Xqm (hTB.ext U) (D.bldI a7) br) ?_;rintro u w8 ⟨a1,x,st,kf,pf,R,rfl,hE,aa⟩;obtain ⟨XA,xd,YA,yd,ZA,zd,UA,ud,tv,c5,c2,rfl,_,_,_,_,_,_,bd,_⟩:=id aa.here.ex;obtain ⟨TA,tc,rfl,_⟩:=id bd;have b3:=a3.ext a1;refine ρ ?_;refine stW b3 ?_;intro w9 bs bh ba;have aq:Ext w w9:=ba w (U.trans a1) (nL a6.size az);have ab:GrN (λk=>k=b2) w8 w9:=GrN.by bh λk hk=>by injection hk with hk;exact hk.symm
  have bj:=a3.lt;have aj:=aa.gr (ab.mono λk _ hk=>by rw [hk];exact bj);have b8:¬ b=b2:=λe=>by have:=hB.lt;omega
  have b6:=Jjw ((ae.ext a2).ext a1) ab b8;have a5:Ext w9 w9.drew:=(Ext.refl w9).drew;have a4:=aq.trans a5;have am:=bs.ext a5;have ad:=b6.ext a5;have bo:=CseV.rin (hV.ext a4) (hR.ext a4) D;have c6:c.vs.length=c.m:=rfl;have bf:c.rss.length=c.m:=by rw [<-D.len];rfl
  refine ρ ?_;refine drN (λ_=>False) 13 [(0,0),(0,1),(0,3),(0,4),(0,6),(0,7),(1,2),(1,5),(1,8),(0,9),(0,10),(0,11)] (by kernel_rfl) ?_;refine ρn ?_;refine Jlg (cs:=[.slice XA c.F xd,.slice YA c.F yd,.slice ZA c.F zd,.slice UA c.F ud,.slice TA _ tc]) (λw' hg j u hu=>(am.ext hg.toExt).at hu) ?_;refine ρn ?_;refine Jlg (cs:=[.int .i64 c.n,.int .i64 c.f,.slice dA c.ds.length dc,.slice pA c.pm.length pc,.slice vA c.vs.length vc,.slice rA c.rss.length rc]) (λw' hg j u hu=>(ad.ext hg.toExt).at hu) ?_;refine ρn ?_;refine nld (Jjg (ad.at (i:=2) rfl) (λe=>e)) ?_;refine ρn ?_;refine nop ?_;refine cl ref_any ?_;rintro u ap ⟨rfl,o⟩;refine ρ ?_;refine Jqt (GrN.ext o) ?_;refine ρn ?_;refine nop ?_;have hA:Ret Tryz.prog 55 [.agg #[.int .i64 c.n,.int .i64 c.f,.slice pA c.pm.length pc,.slice vA c.vs.length vc,.slice rA c.rss.length rc],.slice dA c.ds.length dc] ap λu w'=>RowsV w' u c.ans/\Ext ap w':=by
   rw [D.nN.1,D.fF.1,bf];exact rAnswers_any (pA:=pA) (pn:=c.pm.length) (pc:=pc) (vc:=vc) (rc:=rc) D.refP (bo.ext o) (by have:=D.nN.2;omega) D.fF.2 (hD.ext (a4.trans o))
  refine cl hA ?_;rintro av ao ⟨bm,C⟩;refine ρ ?_;refine Jqt (GrN.ext C) ?_;refine ρn ?_;refine nop ?_;refine stW ((am.ext o).ext C) ?_;intro ag af aw c1;have ak:GrN (λk=>k=b2) ao ag:=GrN.by aw λk hk=>by injection hk with hk;exact hk.symm
  have G:Ext ao ag:=blk_same ((am.ext o).ext C) af ak;have Z:Ext w ag:=((a4.trans o).trans C).trans G;refine Jzr (Jqt (GrN.ext G) ?_);refine ρn ?_;refine ρ ?_;have a8:=(aj.here.ext (((a5.trans o).trans C).trans G));refine finC4 af ⟨Z,.inr ⟨ats,_,av,kf,pf,_,_,D,rfl,ixA_of ⟨B0,hTB.ext Z⟩ (D.bldI a7) (rsA_ts a7) hE a8 D.ans.1 (λy=>by rw [be];exact D.ans.2 y) (by have:=D.anl;omega),bm.ext G⟩⟩
end Go.Proofs.YtefpailelagbkaaGreatDoor
