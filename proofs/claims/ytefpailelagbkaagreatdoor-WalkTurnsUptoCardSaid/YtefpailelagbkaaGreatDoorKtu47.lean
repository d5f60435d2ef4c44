/- Part 5 of the proof: Wa6, WaW. -/
import Derived.Test.YtefpailelagbkaaGreatDoorKtu46
set_option linter.unusedVariables false
set_option maxRecDepth 100000
set_option maxHeartbeats 40000000
namespace Go.Proofs.YtefpailelagbkaaGreatDoor
open Go.RowKit Pl Go.Wk
attribute [local irreducible] WC WL QX WD WDB WP WN WG WH WM
abbrev CuZ(W:World)(b:Nat): Prop:=Blk W b 87 [.slice none 0 0,.slice none 0 0,.slice none 0 0,.slice none 0 0,.slice none 0 0,.slice none 0 0,.int .i64 0]
section
variable {w:World} {x:Value} {f:Nat} {ds:List Bool} {kf:Nat->Nat} {pf:Nat->Int} {BB:Nat->List BkT} {tot:Nat} {L:List Row}
abbrev IxA.Cu(h:IxA w x f ds kf pf BB tot L)(W:World)(cu:Value)(p st:Nat): Prop:=CuV W x cu p st
end
def SF.nat(p:Nat): SF:=⟨λv w=>NatV w v p,λh hx=>h.ext hx⟩
section
variable {w:World} {x:Value} {f:Nat} {ds:List Bool} {kf:Nat->Nat} {pf:Nat->Int} {BB:Nat->List BkT} {tot:Nat} {L:List Row}
def SF.cur(h:IxA w x f ds kf pf BB tot L)(p:Nat): SF:=⟨λv w=>CuV w x v p 0,λh hx=>h.ext hx⟩
def SF.seek(h:IxA w x f ds kf pf BB tot L)(p:Nat): SF:=⟨λv w=>∃ cu,v=.tuple #[cu,.int .i64 0]/\CuV w x cu p 0,λ⟨cu,e,h⟩ hx=>⟨cu,e,h.ext hx⟩⟩
end
def SF.box(s:Nat): SF:=⟨λv w=>∃ b,v=.pointer (some ⟨b,0,none⟩)/\s<=b/\CuZ w b,λ⟨b,e,h1,h2⟩ hx=>⟨b,e,h1,h2.ext hx⟩⟩
theorem cmpN_m1{p q:Nat}(h:p<q): Qcv p q = -1:=by unfold Qcv;rw [if_pos h]
theorem cmpN_self(p:Nat): Qcv p p=0:=by unfold Qcv;rw [if_neg (by omega),if_neg (by omega)]
theorem limbs_1l: (Jjf 1).length<=1000:=by rw [Qgn (by decide) (by decide)];decide
set_option linter.constructorNameAsVariable false in
theorem walkTurns_any{B0:Nat}{w:World}{cs:List Value}{c:Cse}{k:Int}(hTB:TB B0 w)(h:CseV w cs c)(hfit:∀ i,i<c.rss.length->∀ r∈c.rss.getD i [],∀ u∈r,Qwt u)(hk:0<=k/\k<=255):
  Ret Tryz.prog 11 [.agg cs.toArray,.int .u8 k] w λu w'=>u=.bool true/\Ext w w':=by
 obtain ⟨dA,dc,pA,pc,vA,vc,rA,rc,rfl,hD,hP,hV,hR,hn,hf⟩:=id h;refine Jjc Tryz.func11 Tryz.ntmps11 rfl (by kernel_rfl) rfl ?_;refine ρ ?_;refine bx ?_;intro w1 b ar hb hB;refine ρ ?_;refine ldW hB ?_;refine ρ ?_;refine cl (made44_any (hTB.ext ar) (h.ext ar) hfit) ?_;rintro u w2 ⟨bd,cd⟩;rcases cd with ⟨rfl,d2⟩|⟨ats,x,av,kf,pf,BB,tot,hOk,rfl,hIx,hav⟩
 ·refine ρ ?_;refine alc Qcz ?_;intro w3 b3 bc bh be;refine ρ ?_;refine stW be ?_;intro w4 az cc bb;have af:Ext w2 w4:=bb w2 bc bh;refine ρ ?_;refine cl (awake44_any (hTB.ext ((ar.trans bd).trans af))) ?_;rintro _ w5 ⟨rfl,ba⟩;refine ρ ?_;exact Jjr ⟨rfl,((ar.trans bd).trans af).trans ba⟩
 obtain ⟨XA,xd,YA,yd,ZA,zd,UA,ud,tv,d0,cz,rfl,_,_,_,_,_,_,c3,_⟩:=id hIx.ix.ex;obtain ⟨TA,tc,rfl,_⟩:=id c3;obtain ⟨LA,lc,rfl,d4,d3,_⟩:=hav.parts;obtain ⟨L,hL⟩:∃ L,L=c.ans:=⟨_,rfl⟩;have d5:L.length<=5000:=by rw [hL];exact hOk.anl
 rw [<-hL]at hIx hav;rw [show c.ans.length=L.length by rw [hL]];have b2:tot=L.length:=hIx.ip.len;refine ρ ?_;refine alc Qcz ?_;intro w3 b3 bc bh be;refine ρ ?_;refine stW be ?_;intro w4 az cc bb;have af:Ext w2 w4:=bb w2 bc bh;have aj:=(ar.trans bd).trans af;have a9:=hIx.ext af;obtain ⟨p,hp,d1⟩:=tmod_is (n:=L.length+1) hk.1 (by omega);rw [show ((L.length+1:Nat):Int)=(L.length:Int)+1 by omega]at hp;refine ρ ?_;refine drH (λi=>Nat.ble 13 i) ?_;have an:Ext w4 w4.drew:=(Ext.refl w4).drew;refine hcut 2 (lst 15 13) (fun (y:Nat×Value)=>[(9,.pointer (some ⟨y.1,0,none⟩)),(39,y.2),(40,.int .i64 0),(1,.int .u8 k),(4,.bool false),(5,.pointer (some ⟨b3,0,none⟩)),(6,.slice LA L.length lc)])
  (λy W=>Ext w4 W/\a9.Cu W y.2 p 0/\w4.heap.size<=y.1/\CuZ W y.1) ?_ ?_
 rotate_left
 ·intro rest;refine hmkq 13 11 16 2 [30,31,32,33,34,35,36,37,38,29,39,40,9] [SF.bk az,SF.eq (.int .u8 k),SF.eq (.int .i64 k),SF.eq (.slice LA L.length lc),SF.eq (.int .i64 (L.length:Int)),SF.eq (.int .i64 ((L.length:Int)+1)),SF.eq (.int .i64 (p:Int)),SF.nat p,SF.seek a9 p,SF.seek a9 p,SF.cur a9 p,SF.eq (.int .i64 0),SF.box w4.heap.size] (by kernel_rfl) (by rfl) ?_ ?_ ?_
  ·refine gmc (λvs w9 Z j=>?_) ?_
   ·simp only [slM];refine ldW ((az.ext an).ext Z) ?_;refine ρ ?_;exact mdone (Ext.refl _) rfl
   refine gmc (λvs w9 Z j=>?_) ?_
   ·simp only [slM];refine ρ ?_;exact mdone (Ext.refl _) rfl
   refine gmc (λvs w9 Z j=>?_) ?_
   ·have e1:vs 1=_:=j 1;simp only [slM,e1];refine ρ ?_;exact mdone (Ext.refl _) (congrArg (λz=>Value.int .i64 z) (Qsm (by omega)))
   refine gmc (λvs w9 Z j=>?_) ?_
   ·simp only [slM];refine ρ ?_;exact mdone (Ext.refl _) rfl
   refine gmc (λvs w9 Z j=>?_) ?_
   ·have e3:vs 3=_:=j 3;simp only [slM,e3];refine ρ ?_;exact mdone (Ext.refl _) rfl
   refine gmc (λvs w9 Z j=>?_) ?_
   ·have e4:vs 4=_:=j 4;simp only [slM,e4];refine ρ ?_;exact mdone (Ext.refl _) rfl
   refine gmc (λvs w9 Z j=>?_) ?_
   ·have G:vs 2=_:=j 2;have e5:vs 5=_:=j 5;simp only [slM,G,e5];refine Go.Wk.rem (b:=(L.length:Int)+1) (by omega) ?_;rw [hp];refine ρ ?_;exact mdone (Ext.refl _) rfl
   refine gmc (λvs w9 Z j=>?_) ?_
   ·have e6:vs 6=_:=j 6;simp only [slM,e6];refine cl (of44_any (n:=p) (by omega) _) ?_;rintro u W ⟨hu,D⟩;exact Jzr (mdone D hu)
   refine gmc (λvs w9 Z j=>?_) ?_
   ·have e0:vs 0=_:=j 0;simp only [slM,e0];have c7:NatV w9 (vs 7) p:=j 7;refine cl (seek_any (a9.ext (an.trans Z)) c7 (by have:=limbs_s (p:=p) (by omega);omega)) ?_;rintro u W ⟨D,hu⟩;rw [if_neg (by omega)]at hu;exact Jzr (mdone D hu)
   refine gmc (λvs w9 Z j=>?_) ?_
   ·obtain ⟨cu,e8,ac⟩:=j 8;simp only [slM,e8];refine ρ ?_;exact mdone (Ext.refl _) ⟨cu,rfl,ac⟩
   refine gmc (λvs w9 Z j=>?_) ?_
   ·obtain ⟨cu,e9,ac⟩:=j 9;simp only [slM,e9];refine ρ ?_;exact mdone (Ext.refl _) ac
   refine gmc (λvs w9 Z j=>?_) ?_
   ·obtain ⟨cu,e9,ac⟩:=j 9;simp only [slM,e9];refine ρ ?_;exact mdone (Ext.refl _) rfl
   refine gmc (λvs w9 Z j=>?_) gme
   ·simp only [slM];refine alc zCur ?_;intro W b9 D b1 ad;exact Jzr (mdone D ⟨b9,rfl,Nat.le_trans (an.trans Z).size b1,ad⟩)
  ·intro vs W D hf;obtain ⟨b9,aw,h9,ad⟩:=hf 12;have ai:vs 11=.int .i64 0:=hf 11;simp only [slM,aw,ai];exact rest (b9,vs 10) _ _ ⟨an.trans D,hf 10,h9,ad⟩ sB
  ·intro _ vs W D hf;obtain ⟨b9,aw,h9,ad⟩:=hf 12;obtain ⟨cu,e9,ac⟩:=hf 9;simp only [slM,aw,e9];refine Qct (fuel':=2) 11 (by kernel_rfl) (by kernel_rfl) rfl rfl ?_;refine ρp ?_;refine ρd ?_;refine Jzn ?_;refine hlist (listed':=lst 15 13) (by kernel_rfl) ?_;exact rest (b9,vs 10) _ _ ⟨an.trans D,hf 10,h9,ad⟩ sB
 rintro ⟨b9,cu⟩ w5 ⟨ba,ac,b1,ad⟩;simp only at ac b1 ad;obtain ⟨Q,q,rfl⟩:=ac.parts;refine Qjk 16 [(2,13),(2,14)] (fuel':=0) (lst 15 15) (by kernel_rfl) (by kernel_rfl) rfl ?_;refine Jqs ?_;refine stW ad ?_;intro w6 a3 cb c0;have bt:GrN (λk=>k=b9) w5 w6:=GrN.by cb λk hk=>by injection hk with hk;exact hk.symm
 have a7:=(ac.off ad no_u32) w6 bt;have a6:Ext w4 w6:=c0 w4 ba b1;refine Jzr (Jxr ?_);refine Jqs ?_;refine ρ ?_;refine Jxr ?_;refine Qhs (Jzn ?_);refine hend (by kernel_rfl) ?_;have ay:=az.ext a6;have a8:=a9.ext a6;refine ρ ?_;refine ldW a3 ?_;refine ρ ?_;refine cl (next_any a8 a7 (by have:=limbs_s (p:=p) (by omega);omega)) ?_;rintro u w7 ⟨bp,h7⟩;cases hr:L[p]? with
 | none=>
  rw [hr]at h7;simp only at h7;obtain ⟨cq,rfl,ag⟩:=h7;obtain ⟨Q2,q2,rfl⟩:=ag.parts;have ce:p=L.length:=by have:=List.getElem?_eq_none_iff.1 hr;omega
  have bf:Qcv p tot=0:=by rw [b2,<-ce,cmpN_self]
  refine ρ ?_;refine alc zCur ?_;intro w8 b8 b7 bg bi;refine ρ ?_;refine stW bi ?_;intro w9 aa ca ao;have a5:Ext w7 w9:=ao w7 b7 bg;have ap:=bp.trans a5;have ab:=ag.ext a5;refine ρ ?_;refine drH (λi=>Nat.ble 12 i) ?_;have a1:Ext w9 w9.drew:=(Ext.refl w9).drew;have O:=ap.trans a1;refine hmk 12 16 0 [47,48,49,50,51,52,53,54,55,56,57,58] [SF.eq (.int .i64 0),SF.eq (.bool false),SF.eq (.bool false),SF.eq (.bool false),SF.bk a3,SF.nat p,SF.bk ay,SF.nat tot,SF.eq (.int .i64 0),SF.eq (.bool false),SF.eq (.bool false),SF.eq (.bool false)] (by kernel_rfl) (by rfl) ?_ ?_
  ·refine gmc (λvs C o j=>?_) ?_
   ·simp only [slM];refine ρ ?_;exact mdone (Ext.refl _) rfl
   refine gmc (λvs C o j=>?_) ?_
   ·have e0:vs 0=_:=j 0;simp only [slM,e0];refine ρ ?_;exact mdone (Ext.refl _) rfl
   refine gmc (λvs C o j=>?_) ?_
   ·have e1:vs 1=_:=j 1;simp only [slM,e1];refine ρ ?_;exact mdone (Ext.refl _) rfl
   refine gmc (λvs C o j=>?_) ?_
   ·have G:vs 2=_:=j 2;simp only [slM,G];refine ρ ?_;exact mdone (Ext.refl _) rfl
   refine gmc (λvs C o j=>?_) ?_
   ·have G:vs 2=_:=j 2;simp only [slM,G];refine ρ ?_;refine ldW (a3.ext (O.trans o)) ?_;refine ρ ?_;exact mdone (Ext.refl _) rfl
   refine gmc (λvs C o j=>?_) ?_
   ·have G:vs 2=_:=j 2;have e4:vs 4=_:=j 4;simp only [slM,G,e4];refine ρ ?_;refine cl (pos_any (a7.ext (O.trans o)) (by have:=limbs_s (p:=p) (by omega);omega)) ?_;rintro u W ⟨hu,D⟩;exact Jzr (mdone D hu)
   refine gmc (λvs C o j=>?_) ?_
   ·have G:vs 2=_:=j 2;simp only [slM,G];refine ρ ?_;refine ldW (ay.ext (O.trans o)) ?_;refine ρ ?_;exact mdone (Ext.refl _) rfl
   refine gmc (λvs C o j=>?_) ?_
   ·have G:vs 2=_:=j 2;have e6:vs 6=_:=j 6;simp only [slM,G,e6];refine ρ ?_;refine cl (Qxt (a8.ext (O.trans o)).ix a8.ip.nbT) ?_;rintro u W ⟨hu,_,D⟩;exact Jzr (mdone D hu)
   refine gmc (λvs C o j=>?_) ?_
   ·have G:vs 2=_:=j 2;simp only [slM,G];have h5:NatV C (vs 5) p:=j 5;have h7:NatV C (vs 7) tot:=j 7;refine ρ ?_;refine cl (Jkw h5 h7) ?_;rintro _ W ⟨rfl,D⟩;rw [bf];exact Jzr (mdone D rfl)
   refine gmc (λvs C o j=>?_) ?_
   ·have G:vs 2=_:=j 2;have e8:vs 8=_:=j 8;simp only [slM,G,e8];refine ρ ?_;exact mdone (Ext.refl _) rfl
   refine gmc (λvs C o j=>?_) ?_
   ·have G:vs 2=_:=j 2;have e3:vs 3=_:=j 3;have e9:vs 9=_:=j 9;simp only [slM,G,e3,e9];refine ρ ?_;refine neb ?_;refine ρ ?_;exact mdone (Ext.refl _) rfl
   refine gmc (λvs C o j=>?_) gme
   ·have G:vs 2=_:=j 2;have bm:vs 10=_:=j 10;simp only [slM,G,bm];refine ρ ?_;exact mdone (Ext.refl _) rfl
  intro vs b6 a2 au;have ai:vs 11=.bool false:=au 11;simp only [slM,ai];refine hend (by kernel_rfl) ?_;have ak:=O.trans a2;refine ρ ?_;have J:Ext w6 b6.drew:=ak.drew;have a4:Ext w9 b6.drew:=(a1.trans a2).drew;refine drH (λi=>Nat.ble 9 i) ?_;refine hmk 9 32 1 [61,62,63,64,65,66,67,68,69] [SF.bk aa,SF.nat p,SF.bk a3,SF.nat p,SF.eq (.int .i64 0),SF.eq (.bool true),SF.eq (.bool true),SF.eq (.bool true),SF.eq (.bool true)] (by kernel_rfl) (by rfl) ?_ ?_
  ·refine gmc (λvs C o j=>?_) ?_
   ·simp only [slM];refine ldW (aa.ext (a4.trans o)) ?_;refine ρ ?_;exact mdone (Ext.refl _) rfl
   refine gmc (λvs C o j=>?_) ?_
   ·have e0:vs 0=_:=j 0;simp only [slM,e0];refine cl (pos_any (ab.ext (a4.trans o)) (by have:=limbs_s (p:=p) (by omega);omega)) ?_;rintro u W ⟨hu,D⟩;exact Jzr (mdone D hu)
   refine gmc (λvs C o j=>?_) ?_
   ·simp only [slM];refine ldW (a3.ext (J.trans o)) ?_;refine ρ ?_;exact mdone (Ext.refl _) rfl
   refine gmc (λvs C o j=>?_) ?_
   ·have G:vs 2=_:=j 2;simp only [slM,G];refine cl (pos_any (a7.ext (J.trans o)) (by have:=limbs_s (p:=p) (by omega);omega)) ?_;rintro u W ⟨hu,D⟩;exact Jzr (mdone D hu)
   refine gmc (λvs C o j=>?_) ?_
   ·simp only [slM];have h1:NatV C (vs 1) p:=j 1;have h3:NatV C (vs 3) p:=j 3;refine cl (Jkw h1 h3) ?_;rintro _ W ⟨rfl,D⟩;rw [cmpN_self];exact Jzr (mdone D rfl)
   refine gmc (λvs C o j=>?_) ?_
   ·have e4:vs 4=_:=j 4;simp only [slM,e4];refine ρ ?_;exact mdone (Ext.refl _) rfl
   refine gmc (λvs C o j=>?_) ?_
   ·have e5:vs 5=_:=j 5;simp only [slM,e5];refine ρ ?_;exact mdone (Ext.refl _) rfl
   refine gmc (λvs C o j=>?_) ?_
   ·have e6:vs 6=_:=j 6;simp only [slM,e6];refine ρ ?_;refine cl (awake44_any (hTB.ext (((aj.trans a6).trans J).trans o))) ?_;rintro _ W ⟨rfl,D⟩;exact Jzr (mdone D rfl)
   refine gmc (λvs C o j=>?_) gme
   ·have e6:vs 6=_:=j 6;have e7:vs 7=_:=j 7;simp only [slM,e6,e7];refine ρ ?_;exact mdone (Ext.refl _) rfl
  intro vs ax am bv;have e8:vs 8=.bool true:=bv 8;simp only [slM,e8];refine Qjk 16 [(2,9)] (fuel':=0) (lst 10 10) (by kernel_rfl) (by kernel_rfl) rfl ?_;refine Jqs ?_;refine ρ ?_;refine Jxr ?_;refine Qhs (Jzn ?_);refine hend (by kernel_rfl) ?_;refine ρ ?_;exact Jjr ⟨rfl,((aj.trans a6).trans J).trans am⟩
 | some r=>
  rw [hr]at h7;simp only at h7;obtain ⟨cq,A1,c1,cy,rfl,ag,c5,c9,d7,_⟩:=h7;obtain ⟨Q2,q2,rfl⟩:=ag.parts;have c6:p<L.length:=(List.getElem?_eq_some_iff.1 hr).1;have bf:Qcv p tot = -1:=by rw [b2];exact cmpN_m1 c6
  have hF:c.F<=1100000:=by have:=hOk.fF.2;have:=hOk.nN.2;omega
  refine ρ ?_;refine alc zCur ?_;intro w8 b8 b7 bg bi;refine ρ ?_;refine stW bi ?_;intro w9 aa ca ao;have a5:Ext w7 w9:=ao w7 b7 bg;have ap:=bp.trans a5;have ab:=ag.ext a5;refine ρ ?_;refine drH (λi=>Nat.ble 12 i) ?_;have a1:Ext w9 w9.drew:=(Ext.refl w9).drew;have O:=ap.trans a1;refine hmk 12 16 0 [47,48,49,50,51,52,53,54,55,56,57,58] [SF.eq (.int .i64 0),SF.eq (.bool false),SF.eq (.bool false),SF.eq (.bool true),SF.bk a3,SF.nat p,SF.bk ay,SF.nat tot,SF.eq (.int .i64 (-1)),SF.eq (.bool true),SF.eq (.bool false),SF.eq (.bool false)] (by kernel_rfl) (by rfl) ?_ ?_
  ·refine gmc (λvs C o j=>?_) ?_
   ·simp only [slM];refine ρ ?_;exact mdone (Ext.refl _) rfl
   refine gmc (λvs C o j=>?_) ?_
   ·have e0:vs 0=_:=j 0;simp only [slM,e0];refine ρ ?_;exact mdone (Ext.refl _) rfl
   refine gmc (λvs C o j=>?_) ?_
   ·have e1:vs 1=_:=j 1;simp only [slM,e1];refine ρ ?_;exact mdone (Ext.refl _) rfl
   refine gmc (λvs C o j=>?_) ?_
   ·have G:vs 2=_:=j 2;simp only [slM,G];refine ρ ?_;exact mdone (Ext.refl _) rfl
   refine gmc (λvs C o j=>?_) ?_
   ·have G:vs 2=_:=j 2;simp only [slM,G];refine ρ ?_;refine ldW (a3.ext (O.trans o)) ?_;refine ρ ?_;exact mdone (Ext.refl _) rfl
   refine gmc (λvs C o j=>?_) ?_
   ·have G:vs 2=_:=j 2;have e4:vs 4=_:=j 4;simp only [slM,G,e4];refine ρ ?_;refine cl (pos_any (a7.ext (O.trans o)) (by have:=limbs_s (p:=p) (by omega);omega)) ?_;rintro u W ⟨hu,D⟩;exact Jzr (mdone D hu)
   refine gmc (λvs C o j=>?_) ?_
   ·have G:vs 2=_:=j 2;simp only [slM,G];refine ρ ?_;refine ldW (ay.ext (O.trans o)) ?_;refine ρ ?_;exact mdone (Ext.refl _) rfl
   refine gmc (λvs C o j=>?_) ?_
   ·have G:vs 2=_:=j 2;have e6:vs 6=_:=j 6;simp only [slM,G,e6];refine ρ ?_;refine cl (Qxt (a8.ext (O.trans o)).ix a8.ip.nbT) ?_;rintro u W ⟨hu,_,D⟩;exact Jzr (mdone D hu)
   refine gmc (λvs C o j=>?_) ?_
   ·have G:vs 2=_:=j 2;simp only [slM,G];have h5:NatV C (vs 5) p:=j 5;have h7:NatV C (vs 7) tot:=j 7;refine ρ ?_;refine cl (Jkw h5 h7) ?_;rintro _ W ⟨rfl,D⟩;rw [bf];exact Jzr (mdone D rfl)
   refine gmc (λvs C o j=>?_) ?_
   ·have G:vs 2=_:=j 2;have e8:vs 8=_:=j 8;simp only [slM,G,e8];refine ρ ?_;exact mdone (Ext.refl _) rfl
   refine gmc (λvs C o j=>?_) ?_
   ·have G:vs 2=_:=j 2;have e3:vs 3=_:=j 3;have e9:vs 9=_:=j 9;simp only [slM,G,e3,e9];refine ρ ?_;refine neb ?_;refine ρ ?_;exact mdone (Ext.refl _) rfl
   refine gmc (λvs C o j=>?_) gme
   ·have G:vs 2=_:=j 2;have bm:vs 10=_:=j 10;simp only [slM,G,bm];refine ρ ?_;exact mdone (Ext.refl _) rfl
  intro vs b6 a2 au;have ai:vs 11=.bool false:=au 11;simp only [slM,ai];refine hend (by kernel_rfl) ?_;have ak:=O.trans a2;refine ρ ?_;refine ldW (aa.ext (a1.trans a2)) ?_;refine ρ ?_;refine cl (prev_any (a8.ext ak) (ab.ext (a1.trans a2)) (by have:=limbs_s (p:=(p+1)) (by omega);omega)) ?_;rintro u ax ⟨am,bj⟩;rw [if_neg (by omega),show p+1-1=p by omega,hr]at bj;simp only at bj;obtain ⟨d8,A2,c2,cx,rfl,b4,c4,c8,d6,_⟩:=bj;obtain ⟨Q3,q3,rfl⟩:=b4.parts;refine ρ ?_;refine alc zCur ?_;intro cw d9 bs bw bz;refine ρ ?_;refine stW bz ?_;intro ae b5 cr br;have ah:Ext ax ae:=br ax bs bw;refine ρ ?_;have J:Ext w6 ae.drew:=((ak.trans am).trans ah).drew;have a4:Ext w9 ae.drew:=(((a1.trans a2).trans am).trans ah).drew;have bo:Ext w7 ae.drew:=a5.trans a4;have aq:Ext ax ae.drew:=ah.drew;have bn:Ext ae ae.drew:=(Ext.refl ae).drew;refine drH (λi=>Nat.ble 27 i) ?_;refine hmk 27 32 1 [76,77,78,79,80,81,82,83,84,85,86,87,88,89,90,91,92,93,94,95,96,97,98,99,100,101,102] [SF.eq (.bool true),SF.eq (.bool true),SF.eq (.slice A1 r.length c1),SF.eq (.slice A2 r.length c2),SF.eq (.bool true),SF.eq (.bool true),SF.eq (.bool true),SF.bk b5,SF.nat p,SF.bk a3,SF.nat p,SF.eq (.int .i64 0),SF.eq (.bool true),SF.eq (.bool true),SF.eq (.bool true),SF.bk aa,SF.nat (p+1),SF.bk a3,SF.nat p,SF.nat 1,SF.nat (p+1),SF.eq (.int .i64 0),SF.eq (.bool true),SF.eq (.bool true),SF.eq (.bool true),SF.eq (.bool true),SF.eq (.bool true)] (by kernel_rfl) (by rfl) ?_ ?_
  ·refine gmc (λvs C o j=>?_) ?_
   ·simp only [slM];refine ρ ?_;exact mdone (Ext.refl _) rfl
   refine gmc (λvs C o j=>?_) ?_
   ·have e0:vs 0=_:=j 0;simp only [slM,e0];refine ρ ?_;exact mdone (Ext.refl _) rfl
   refine gmc (λvs C o j=>?_) ?_
   ·have e1:vs 1=_:=j 1;simp only [slM,e1];refine ρ ?_;exact mdone (Ext.refl _) rfl
   refine gmc (λvs C o j=>?_) ?_
   ·have e1:vs 1=_:=j 1;simp only [slM,e1];refine ρ ?_;exact mdone (Ext.refl _) rfl
   refine gmc (λvs C o j=>?_) ?_
   ·have e1:vs 1=_:=j 1;have G:vs 2=_:=j 2;have e3:vs 3=_:=j 3;simp only [slM,e1,G,e3];refine ρ ?_;refine cl (Xxt (a:=r) (b:=r) ⟨A1,c1,rfl,c9,by omega,Rd.ext c5 (bo.trans o)⟩ ⟨A2,c2,rfl,c8,by omega,Rd.ext c4 (aq.trans o)⟩) ?_;rintro _ W ⟨rfl,D⟩;rw [decide_eq_true rfl];exact Jzr (mdone D rfl)
   refine gmc (λvs C o j=>?_) ?_
   ·have e1:vs 1=_:=j 1;have e4:vs 4=_:=j 4;simp only [slM,e1,e4];refine ρ ?_;exact mdone (Ext.refl _) rfl
   refine gmc (λvs C o j=>?_) ?_
   ·have e5:vs 5=_:=j 5;simp only [slM,e5];refine ρ ?_;exact mdone (Ext.refl _) rfl
   refine gmc (λvs C o j=>?_) ?_
   ·have e6:vs 6=_:=j 6;simp only [slM,e6];refine ρ ?_;refine ldW (b5.ext (bn.trans o)) ?_;refine ρ ?_;exact mdone (Ext.refl _) rfl
   refine gmc (λvs C o j=>?_) ?_
   ·have e6:vs 6=_:=j 6;have e7:vs 7=_:=j 7;simp only [slM,e6,e7];refine ρ ?_;refine cl (pos_any (b4.ext (aq.trans o)) (by have:=limbs_s (p:=p) (by omega);omega)) ?_;rintro u W ⟨hu,D⟩;exact Jzr (mdone D hu)
   refine gmc (λvs C o j=>?_) ?_
   ·have e6:vs 6=_:=j 6;simp only [slM,e6];refine ρ ?_;refine ldW (a3.ext (J.trans o)) ?_;refine ρ ?_;exact mdone (Ext.refl _) rfl
   refine gmc (λvs C o j=>?_) ?_
   ·have e6:vs 6=_:=j 6;have e9:vs 9=_:=j 9;simp only [slM,e6,e9];refine ρ ?_;refine cl (pos_any (a7.ext (J.trans o)) (by have:=limbs_s (p:=p) (by omega);omega)) ?_;rintro u W ⟨hu,D⟩;exact Jzr (mdone D hu)
   refine gmc (λvs C o j=>?_) ?_
   ·have e6:vs 6=_:=j 6;simp only [slM,e6];have ha:NatV C (vs 8) p:=j 8;have hb:NatV C (vs 10) p:=j 10;refine ρ ?_;refine cl (Jkw ha hb) ?_;rintro _ W ⟨rfl,D⟩;rw [cmpN_self];exact Jzr (mdone D rfl)
   refine gmc (λvs C o j=>?_) ?_
   ·have e6:vs 6=_:=j 6;have ai:vs 11=_:=j 11;simp only [slM,e6,ai];refine ρ ?_;exact mdone (Ext.refl _) rfl
   refine gmc (λvs C o j=>?_) ?_
   ·have e6:vs 6=_:=j 6;have aw:vs 12=_:=j 12;simp only [slM,e6,aw];refine ρ ?_;exact mdone (Ext.refl _) rfl
   refine gmc (λvs C o j=>?_) ?_
   ·have cp:vs 13=_:=j 13;simp only [slM,cp];refine ρ ?_;exact mdone (Ext.refl _) rfl
   refine gmc (λvs C o j=>?_) ?_
   ·have U:vs 14=_:=j 14;simp only [slM,U];refine ρ ?_;refine ldW (aa.ext (a4.trans o)) ?_;refine ρ ?_;exact mdone (Ext.refl _) rfl
   refine gmc (λvs C o j=>?_) ?_
   ·have U:vs 14=_:=j 14;have co:vs 15=_:=j 15;simp only [slM,U,co];refine ρ ?_;refine cl (pos_any (ab.ext (a4.trans o)) (by have:=limbs_s (p:=(p+1)) (by omega);omega)) ?_;rintro u W ⟨hu,D⟩;exact Jzr (mdone D hu)
   refine gmc (λvs C o j=>?_) ?_
   ·have U:vs 14=_:=j 14;simp only [slM,U];refine ρ ?_;refine ldW (a3.ext (J.trans o)) ?_;refine ρ ?_;exact mdone (Ext.refl _) rfl
   refine gmc (λvs C o j=>?_) ?_
   ·have U:vs 14=_:=j 14;have cn:vs 17=_:=j 17;simp only [slM,U,cn];refine ρ ?_;refine cl (pos_any (a7.ext (J.trans o)) (by have:=limbs_s (p:=p) (by omega);omega)) ?_;rintro u W ⟨hu,D⟩;exact Jzr (mdone D hu)
   refine gmc (λvs C o j=>?_) ?_
   ·have U:vs 14=_:=j 14;simp only [slM,U];refine ρ ?_;refine cl (of44_any (n:=1) (by omega) _) ?_;rintro u W ⟨hu,D⟩;exact Jzr (mdone D hu)
   refine gmc (λvs C o j=>?_) ?_
   ·have U:vs 14=_:=j 14;simp only [slM,U];have ha:NatV C (vs 18) p:=j 18;have hb:NatV C (vs 19) 1:=j 19;refine ρ ?_;refine cl (Jzz ha hb (by have:=limbs_s (p:=p) (by omega);omega) limbs_1l) ?_;rintro u W ⟨hu,_,D⟩;exact Jzr (mdone D hu)
   refine gmc (λvs C o j=>?_) ?_
   ·have U:vs 14=_:=j 14;simp only [slM,U];have ha:NatV C (vs 16) (p+1):=j 16;have hb:NatV C (vs 20) (p+1):=j 20;refine ρ ?_;refine cl (Jkw ha hb) ?_;rintro _ W ⟨rfl,D⟩;rw [cmpN_self];exact Jzr (mdone D rfl)
   refine gmc (λvs C o j=>?_) ?_
   ·have U:vs 14=_:=j 14;have cm:vs 21=_:=j 21;simp only [slM,U,cm];refine ρ ?_;exact mdone (Ext.refl _) rfl
   refine gmc (λvs C o j=>?_) ?_
   ·have U:vs 14=_:=j 14;have ck:vs 22=_:=j 22;simp only [slM,U,ck];refine ρ ?_;exact mdone (Ext.refl _) rfl
   refine gmc (λvs C o j=>?_) ?_
   ·have cj:vs 23=_:=j 23;simp only [slM,cj];refine ρ ?_;exact mdone (Ext.refl _) rfl
   refine gmc (λvs C o j=>?_) ?_
   ·have bl:vs 24=_:=j 24;simp only [slM,bl];refine ρ ?_;refine cl (awake44_any (hTB.ext (((aj.trans a6).trans J).trans o))) ?_;rintro _ W ⟨rfl,D⟩;exact Jzr (mdone D rfl)
   refine gmc (λvs C o j=>?_) gme
   ·have bl:vs 24=_:=j 24;have ch:vs 25=_:=j 25;simp only [slM,bl,ch];refine ρ ?_;exact mdone (Ext.refl _) rfl
  intro vs cv bq bu;have cg:vs 26=.bool true:=bu 26;simp only [slM,cg];refine Qjk 32 [(2,27)] (fuel':=0) (lst 28 28) (by kernel_rfl) (by kernel_rfl) rfl ?_;refine Jqs ?_;refine ρ ?_;refine Jxr ?_;refine Qhs (Jzn ?_);refine hend (by kernel_rfl) ?_;refine ρ ?_;exact Jjr ⟨rfl,((aj.trans a6).trans J).trans bq⟩
end Go.Proofs.YtefpailelagbkaaGreatDoor
namespace Go.Proofs.YtefpailelagbkaaGreatDoor
open Go.RowKit Pl Go.Wk Go.ChangeShapes Go.WideShapes
section
variable {H:Type} {enc:TypeId×Value->H} {w:World} {base b0:Nat} {spare:Nat->Bool} {held:Bool}
end
theorem walkTurns_walk{B0:Nat}{w:World}{v:Value}{k:Int}(hTB:TB B0 w)(h:CaseE w v)(hk:0<=k/\k<=255): Ret Tryz.prog 11 [v,.int .u8 k] w λu w'=>u=.bool true/\Ext w w':=by
 obtain ⟨cs,c,rfl,j,i⟩:=h;exact walkTurns_any hTB j i hk
end Go.Proofs.YtefpailelagbkaaGreatDoor
