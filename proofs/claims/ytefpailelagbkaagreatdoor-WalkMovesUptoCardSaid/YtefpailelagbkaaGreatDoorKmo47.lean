/- Part 5 of the proof: Wa8, WaW. -/
import Derived.Test.YtefpailelagbkaaGreatDoorKmo46
set_option linter.unusedVariables false
set_option maxRecDepth 100000
set_option maxHeartbeats 40000000
namespace Go.Proofs.YtefpailelagbkaaGreatDoor
open Go.RowKit Pl Go.Wk
attribute [local irreducible] WC WL QX WD WDB WP WN WG WH WM
set_option linter.constructorNameAsVariable false in
theorem walkMoves_any{B0:Nat}{w:World}{cs:List Value}{c:Cse}{mv:Value}{ms:List (Nat×Nat)}(hTB:TB B0 w)(h:CseV w cs c)(hfit:∀ i,i<c.rss.length->∀ r∈c.rss.getD i [],∀ u∈r,Qwt u)(hM:MvsV w mv ms):
  Ret Tryz.prog 12 [.agg cs.toArray,mv] w λu w'=>u=.bool true/\Ext w w':=by
 obtain ⟨dA,dc,pA,pc,vA,vc,rA,rc,rfl,hD,hP,hV,hR,hn,hf⟩:=id h;obtain ⟨MA,mc,rfl,f3,ef,dm⟩:=id hM;refine Jjc Tryz.func12 Tryz.ntmps12 rfl (by kernel_rfl) rfl ?_;refine ρ ?_;refine bx ?_;intro w1 b bp hb hB;refine ρ ?_;refine ldW hB ?_;refine ρ ?_;refine cl (made44_any (hTB.ext bp) (h.ext bp) hfit) ?_;rintro u w2 ⟨cd,ed⟩;rcases ed with ⟨rfl,f2⟩|⟨ats,x,av,kf,pf,BB,tot,hOk,rfl,hIx,hav⟩
 ·refine ρ ?_;refine alc Qcz ?_;intro w3 b3 cb cv cm;refine ρ ?_;refine stW cm ?_;intro w4 c1 eb ca;have aq:Ext w2 w4:=ca w2 cb cv;refine ρ ?_;refine cl (awake44_any (hTB.ext ((bp.trans cd).trans aq))) ?_;rintro _ w5 ⟨rfl,bj⟩;refine ρ ?_;exact Jjr ⟨rfl,((bp.trans cd).trans aq).trans bj⟩
 obtain ⟨XA,xd,YA,yd,ZA,zd,UA,ud,tv,ez,ey,rfl,_,_,_,_,_,_,dz,_⟩:=id hIx.ix.ex;obtain ⟨TA,tc,rfl,_⟩:=id dz;obtain ⟨LA,lc,rfl,f6,f5,_⟩:=hav.parts;obtain ⟨L,hL⟩:∃ L,L=c.ans:=⟨_,rfl⟩;have ea:L.length<=5000:=by rw [hL];exact hOk.anl
 rw [<-hL]at hIx hav;rw [show c.ans.length=L.length by rw [hL]];have eh:tot=L.length:=hIx.ip.len;have hF:c.F<=1100000:=by have:=hOk.fF.2;have:=hOk.nN.2;omega
 refine ρ ?_;refine alc Qcz ?_;intro w3 b3 cb cv cm;refine ρ ?_;refine stW cm ?_;intro w4 c1 eb ca;have aq:Ext w2 w4:=ca w2 cb cv;have bf:=(bp.trans cd).trans aq;have bi:=hIx.ext aq;refine ρ ?_;refine ci (λhc=>?_) (λhc=>?_)
 ·refine ρ ?_;refine cl (awake44_any (hTB.ext bf)) ?_;rintro _ w5 ⟨rfl,bj⟩;refine ρ ?_;exact Jjr ⟨rfl,bf.trans bj⟩
 have ek:ms.length<=60:=by have:=oF hc;omega
 clear hc;obtain ⟨ae,cj⟩:∃ m,m=Jcg c.F λv=>hmB (BB v):=⟨_,rfl⟩;have f4:ae<=2097152:=by
  have h1:=sumR_bd (n:=c.F) (g:=λv=>hmB (BB v)) (B:=65536) λv _=>hmB_le λb ee=>hIx.hb v b ee;have h2:c.F*65536<=32*65536:=nO _ hIx.ip.f32;omega
 refine ρ ?_;refine ldW c1 ?_;refine ρ ?_;refine cl (height44_any bi.ix bi.ip.f32 bi.hb) ?_;rintro _ w5 ⟨rfl,bj⟩;rw [<-cj];refine ρ ?_;refine ldW (c1.ext bj) ?_;refine ρ ?_;refine cl start_any ?_;rintro cu w6 ⟨a7,dx⟩;obtain ⟨Q0,q0,rfl⟩:=a7.parts;refine ρ ?_;refine alc zCur ?_;intro w7 b7 dw dl eg;refine ρ ?_;refine stW eg ?_;intro w8 cw f7 dv;have bg:Ext w6 w8:=dv w6 dw dl;have b5:=bj.trans dx;have c0:=c1.ext b5;have a9:=bi.ext b5;have f8:=hM.ext (bf.trans b5);have c4:=hav.ext (aq.trans b5);have bm:=bf.trans b5;refine ρ ?_;refine ldW cw ?_;refine ρ ?_;refine cl (pos_any (a7.ext bg) (by rw [limbs_0];decide)) ?_;rintro pv w9 ⟨bt,o⟩;refine ρ ?_;refine cl (is44_any (n:=0) bt (by decide)) ?_;rintro _ ew ⟨rfl,db⟩;rw [decide_eq_true rfl];have bo:=o.trans db;refine ρ ?_;refine ldW (cw.ext bo) ?_;refine ρ ?_;refine cl (steps_any (a7.ext (bg.trans bo))) ?_;rintro _ eu ⟨rfl,da⟩;have bn:=bo.trans da
 refine ρ ?_;refine Jqb (fun (i:Nat) (p:Nat)=>[(1,.slice MA ms.length mc),(4,.bool false),(5,.pointer (some ⟨b3,0,none⟩)),(6,.slice LA L.length lc),(9,.int .i64 (ae:Int)),(10,.pointer (some ⟨b7,0,none⟩)),(11,.int .i64 (p:Int)),(12,.int .i64 (i:Int))])
  (λi p w'=>i<=ms.length/\Ext w6 w'/\p<=L.length/\∃ Q q,∃ st:Nat,st<=ae/\Blk w' b7 87 [.slice XA c.F xd,.slice YA c.F yd,.slice ZA c.F zd,.slice UA c.F ud,.slice TA (Jjf tot).length tc,.slice Q (Jjf p).length q,.int .i64 (st:Int)]/\a9.Cu w' (.agg #[.slice XA c.F xd,.slice YA c.F yd,.slice ZA c.F zd,.slice UA c.F ud,.slice TA (Jjf tot).length tc,.slice Q (Jjf p).length q,.int .i64 (st:Int)]) p st) (λi _=>ms.length-i) 0 0 sB
  ⟨Nat.zero_le _,bg.trans bn,Nat.zero_le _,Q0,q0,0,Nat.zero_le _,cw.ext bn,a7.ext (bg.trans bn)⟩ ?_
 rintro i p et ⟨hi,ai,bz,Q,q,st,e7,ba,b1⟩;refine ρ ?_;refine ci (λhc=>?_) (λhc=>?_);rotate_left
 ·refine ρ ?_;refine cl (awake44_any (hTB.ext (bm.trans ai))) ?_;rintro _ aa ⟨rfl,ak⟩;refine ρ ?_;exact Jjr ⟨rfl,(bm.trans ai).trans ak⟩
 have li:i<ms.length:=by have:=oT hc;omega
 clear hc;obtain ⟨kd,di⟩:∃ kd,kd=(ms.getD i (0,0)).1:=⟨_,rfl⟩;obtain ⟨kk,dg⟩:∃ kk,kk=(ms.getD i (0,0)).2:=⟨_,rfl⟩;have de:ms.getD i (0,0)∈ms:=getD_mem' (0,0) _ li;have dh:kd<256:=by rw [di];exact (dm _ de).1
 have df:kk<65536:=by rw [dg];exact (dm _ de).2
 have au:=ef.ext bm;have bd:∀ {W:World},Ext w6 W->∀ j u,([.int .u8 (kd:Int),.int .u16 (kk:Int)]:List Value)[j]?=some u->W.cell? ((adr MA (i*2)).add j)=some u:=λhy j u hu=>by
  have hj:j<2:=by have:=(List.getElem?_eq_some_iff.1 hu).1;simpa using this
  rw [Jqr];refine (au.ext hy).cell ?_;rw [mv_get li hj,<-di,<-dg];exact hu
 have ej:∀ {W:World},Ext w6 W->W.cell? (adr MA (i*2+0))=some (.int .u8 (kd:Int)):=λhy=>by have:=bd hy 0 _ rfl;rwa [Jqr]at this
 have ei:∀ {W:World},Ext w6 W->W.cell? (adr MA (i*2+1))=some (.int .u16 (kk:Int)):=λhy=>by have:=bd hy 1 _ rfl;rwa [Jqr]at this
 refine ρ ?_;refine ixq 2 i (au.ext ai) li ?_;refine ρ ?_;refine lds (cs:=[.int .u8 (kd:Int),.int .u16 (kk:Int)]) (bd ai) ?_;refine ρ ?_;refine cl (step44_any ea bz dh df) ?_;rintro _ aa ⟨rfl,ak⟩;obtain ⟨p',a',f',Z⟩:∃ p' a' f',stepR L.length p kd kk=(p',a',f'):=⟨_,_,_,rfl⟩;rw [Z];simp only;refine ρ ?_;refine alc zCur ?_;intro a8 aj ah an a2;have a1:=(ai.trans ak).trans ah;have ag:=ak.trans ah;refine ρ ?_;refine ixq 2 i (au.ext a1) li ?_;refine ρ ?_;refine ld (bd a1 0 _ rfl) ?_;refine ρ ?_;refine Go.Wk.rem (b:=4) (by decide) ?_;rw [mod4];refine ρ ?_;refine Jxz (fun (y:(Option Addr×Nat)×Nat)=>[(1,.slice MA ms.length mc),(4,.bool false),(5,.pointer (some ⟨b3,0,none⟩)),(6,.slice LA L.length lc),(9,.int .i64 (ae:Int)),(10,.pointer (some ⟨b7,0,none⟩)),(11,.int .i64 (p:Int)),(12,.int .i64 (i:Int)),(13,.int .i64 (p':Int)),(16,.pointer (some ⟨aj,0,none⟩))])
  (λy W=>Ext aa W/\y.2<=ae/\p'<=L.length/\Blk W aj 87 [.slice XA c.F xd,.slice YA c.F yd,.slice ZA c.F zd,.slice UA c.F ud,.slice TA (Jjf tot).length tc,.slice y.1.1 (Jjf p').length y.1.2,.int .i64 (y.2:Int)]/\a9.Cu W (.agg #[.slice XA c.F xd,.slice YA c.F yd,.slice ZA c.F zd,.slice UA c.F ud,.slice TA (Jjf tot).length tc,.slice y.1.1 (Jjf p').length y.1.2,.int .i64 (y.2:Int)]) p' y.2) ?_ ?_
 rotate_left
 ·rintro ⟨⟨Q2,q2⟩,b4⟩ er ⟨d8,bh,dd,b8,am⟩;simp only at bh b8 am;have bc:=ak.trans d8;have bv:=ba.ext bc;refine ρ ?_;refine ldW b8 ?_;refine ρ ?_;refine cl (pos_any am (by have:=limbs_s (p:=p') (by omega);omega)) ?_;rintro pv ep ⟨bt,d7⟩;refine ρ ?_;refine cl (is44_any (n:=p') bt (by omega)) ?_;rintro _ eo ⟨rfl,d6⟩;rw [decide_eq_true rfl];have c7:=d7.trans d6;refine ρ ?_;refine ldW (bv.ext c7) ?_;refine ρ ?_;refine cl (pos_any (b1.ext (bc.trans c7)) (by have:=limbs_s (p:=p) (by omega);omega)) ?_;rintro pv en ⟨bt,d5⟩;refine ρ ?_;refine cl (is44_any (n:=p) bt (by omega)) ?_;rintro _ em ⟨rfl,cc⟩;rw [decide_eq_true rfl];have c6:=(c7.trans d5).trans cc;refine ρ ?_;refine ldW (b8.ext c6) ?_;refine ρ ?_;refine cl (steps_any (am.ext c6)) ?_;rintro _ el ⟨rfl,d4⟩;have c5:=c6.trans d4;refine ρ ?_;rw [show decide ((b4:Int)<0)=false from dF (by omega)];refine ρ ?_;refine ldW (b8.ext c5) ?_
  refine ρ ?_;refine cl (steps_any (am.ext c5)) ?_;rintro _ dq ⟨rfl,d3⟩;have bl:=c5.trans d3;refine ρ ?_;refine ci (λhc=>?_) (λhc=>?_)
  ·exfalso
   have:=oT hc;omega
  refine ρ ?_;refine ldW (b8.ext bl) ?_;refine ρ ?_;refine stW (bv.ext bl) ?_;intro c8 dn dj d2;have cn:GrN (λk=>k=b7) dq c8:=GrN.by dj λk hk=>by injection hk with hk;exact hk.symm
  have du:Ext w6 c8:=d2 w6 ((ai.trans bc).trans bl) dl;refine ρ ?_;exact Jjm (i+1) p' sO ⟨by omega,du,dd,Q2,q2,b4,bh,dn,((am.ext bl).off (bv.ext bl) no_u32) c8 cn⟩ (by omega)
 refine ci (λhc=>?_) (λhc=>?_)
 ·have hr:kd % 4=3:=by have:=Jqn hc;omega
  rw [show stepR L.length p kd kk=if L.length<kk then (p,-1,false) else (kk,-1,true) by unfold stepR;rw [if_neg (by omega),if_neg (by omega)]]at Z;by_cases hlk:L.length<kk
  ·rw [if_pos hlk]at Z;obtain ⟨rfl,rfl,rfl⟩:p=p'/\-1=a'/\false=f':=by simp only [Prod.mk.injEq]at Z;exact Z
   refine ρ ?_;refine drH (λi=>Nat.ble 13 i) ?_;have ab:Ext a8 a8.drew:=(Ext.refl a8).drew;refine hcut 2 (lst 15 13) (fun (y:Nat×Value)=>[(17,.pointer (some ⟨y.1,0,none⟩)),(86,y.2),(87,.int .i64 3),(1,.slice MA ms.length mc),(4,.bool false),(5,.pointer (some ⟨b3,0,none⟩)),(6,.slice LA L.length lc),(9,.int .i64 (ae:Int)),(10,.pointer (some ⟨b7,0,none⟩)),(11,.int .i64 (p:Int)),(12,.int .i64 (i:Int)),(13,.int .i64 (p:Int)),(15,.bool false),(16,.pointer (some ⟨aj,0,none⟩))])
    (λy W=>Ext a8 W/\y.2=.agg #[.slice none 0 0,.slice none 0 0,.slice none 0 0,.slice none 0 0,.slice none 0 0,.slice none 0 0,.int .i64 0]/\a8.heap.size<=y.1/\CuZ W y.1) ?_ ?_
   rotate_left
   ·intro rest;refine hmkq 13 11 16 2 [77,78,79,80,81,82,83,84,85,76,86,87,17] [SF.bk c0,SF.eq (.slice MA ms.length mc),SF.eq (.int .i64 (i:Int)),SF.eq (.pointer (some (adr MA (i*2)))),SF.eq (.pointer (some ((adr MA (i*2)).add 1))),SF.eq (.int .u16 (kk:Int)),SF.eq (.int .i64 (kk:Int)),SF.nat kk,SF.eq (.tuple #[.agg #[.slice none 0 0,.slice none 0 0,.slice none 0 0,.slice none 0 0,.slice none 0 0,.slice none 0 0,.int .i64 0],.int .i64 3]),SF.eq (.tuple #[.agg #[.slice none 0 0,.slice none 0 0,.slice none 0 0,.slice none 0 0,.slice none 0 0,.slice none 0 0,.int .i64 0],.int .i64 3]),SF.eq (.agg #[.slice none 0 0,.slice none 0 0,.slice none 0 0,.slice none 0 0,.slice none 0 0,.slice none 0 0,.int .i64 0]),SF.eq (.int .i64 3),SF.box a8.heap.size] (by kernel_rfl) (by rfl) ?_ ?_ ?_
    ·refine gmc (λvs w9 o U=>?_) ?_
     ·simp only [slM];refine ldW ((c0.ext a1).ext (ab.trans o)) ?_;refine ρ ?_;exact mdone (Ext.refl _) rfl
     refine gmc (λvs w9 o U=>?_) ?_
     ·simp only [slM];refine ρ ?_;exact mdone (Ext.refl _) rfl
     refine gmc (λvs w9 o U=>?_) ?_
     ·simp only [slM];refine ρ ?_;exact mdone (Ext.refl _) rfl
     refine gmc (λvs w9 o U=>?_) ?_
     ·have e1:vs 1=_:=U 1;have e2:vs 2=_:=U 2;simp only [slM,e1,e2];refine ixq 2 i (au.ext (a1.trans (ab.trans o))) li ?_;refine ρ ?_;exact mdone (Ext.refl _) rfl
     refine gmc (λvs w9 o U=>?_) ?_
     ·have e3:vs 3=_:=U 3;simp only [slM,e3];refine ρ ?_;exact mdone (Ext.refl _) rfl
     refine gmc (λvs w9 o U=>?_) ?_
     ·have e4:vs 4=_:=U 4;simp only [slM,e4];refine ld (bd (a1.trans (ab.trans o)) 1 _ rfl) ?_;refine ρ ?_;exact mdone (Ext.refl _) rfl
     refine gmc (λvs w9 o U=>?_) ?_
     ·have e5:vs 5=_:=U 5;simp only [slM,e5];refine ρ ?_;exact mdone (Ext.refl _) (congrArg (λz=>Value.int .i64 z) (Qsm (by omega)))
     refine gmc (λvs w9 o U=>?_) ?_
     ·have e6:vs 6=_:=U 6;simp only [slM,e6];refine cl (of44_any (n:=kk) (by omega) _) ?_;rintro u W ⟨hu,hy⟩;exact Jzr (mdone hy hu)
     refine gmc (λvs w9 o U=>?_) ?_
     ·have e0:vs 0=_:=U 0;simp only [slM,e0];have ch:NatV w9 (vs 7) kk:=U 7;refine cl (seek_any (a9.ext (a1.trans (ab.trans o))) ch (by have:=limbs_s (p:=kk) (by omega);omega)) ?_;rintro u W ⟨hy,hu⟩;rw [if_pos hlk]at hu;exact Jzr (mdone hy hu)
     refine gmc (λvs w9 o U=>?_) ?_
     ·have e8:vs 8=_:=U 8;simp only [slM,e8];refine ρ ?_;exact mdone (Ext.refl _) rfl
     refine gmc (λvs w9 o U=>?_) ?_
     ·have e9:vs 9=_:=U 9;simp only [slM,e9];refine ρ ?_;exact mdone (Ext.refl _) rfl
     refine gmc (λvs w9 o U=>?_) ?_
     ·have e9:vs 9=_:=U 9;simp only [slM,e9];refine ρ ?_;exact mdone (Ext.refl _) rfl
     refine gmc (λvs w9 o U=>?_) gme
     ·simp only [slM];refine alc zCur ?_;intro W b9 hy cr ao;exact Jzr (mdone hy ⟨b9,rfl,Nat.le_trans (ab.trans o).size cr,ao⟩)
    ·intro vs W hy hf;obtain ⟨b9,be,h9,ao⟩:=hf 12;have cz:vs 11=.int .i64 3:=hf 11;simp only [slM,be,cz];exact rest (b9,vs 10) _ _ ⟨ab.trans hy,hf 10,h9,ao⟩ sB
    ·intro _ vs W hy hf;obtain ⟨b9,be,h9,ao⟩:=hf 12;have e9:vs 9=.tuple #[.agg #[.slice none 0 0,.slice none 0 0,.slice none 0 0,.slice none 0 0,.slice none 0 0,.slice none 0 0,.int .i64 0],.int .i64 3]:=hf 9;simp only [slM,be,e9];refine Qct (fuel':=2) 11 (by kernel_rfl) (by kernel_rfl) rfl rfl ?_;refine ρp ?_;refine ρd ?_;refine Jzn ?_;refine hlist (listed':=lst 15 13) (by kernel_rfl) ?_;exact rest (b9,vs 10) _ _ ⟨ab.trans hy,hf 10,h9,ao⟩ sB
   rintro ⟨c3,cu⟩ ax ⟨C,a7,b6,aw⟩;simp only at a7 b6 aw;subst a7;refine Qjk 16 [(2,13),(2,14)] (fuel':=0) (lst 15 15) (by kernel_rfl) (by kernel_rfl) rfl ?_;refine Jqs ?_;refine stW aw ?_;intro J bw a5 a4;have O:GrN (λk=>k=c3) ax J:=GrN.by a5 λk hk=>by injection hk with hk;exact hk.symm
   have ac:Ext a8 J:=a4 a8 C b6;refine Jzr (Jxr ?_);refine Jqs ?_;refine ρ ?_;refine Jxr ?_;refine Qhs (Jzn ?_);refine hend (by kernel_rfl) ?_;have G:=a2.ext ac;have ay:=ag.trans ac;have D:=ah.trans ac;refine ρ ?_;refine neb ?_;refine ρ ?_;refine ldW (ba.ext ay) ?_;refine ρ ?_;refine stW G ?_;intro ap b2 bu a3;have bb:Ext aa ap:=a3 aa D an;have az:GrN (λk=>k=aj) J ap:=GrN.by bu λk hk=>by injection hk with hk;exact hk.symm
   refine ρ ?_;exact Jjn ((Q,q),st) sB ⟨bb,e7,bz,b2,((b1.ext ay).off G no_u32) ap az⟩
  ·rw [if_neg hlk]at Z;obtain ⟨rfl,rfl,rfl⟩:kk=p'/\-1=a'/\true=f':=by simp only [Prod.mk.injEq]at Z;exact Z
   refine ρ ?_;refine drH (λi=>Nat.ble 13 i) ?_;have ab:Ext a8 a8.drew:=(Ext.refl a8).drew;refine hcut 2 (lst 15 13) (fun (y:Nat×Value)=>[(17,.pointer (some ⟨y.1,0,none⟩)),(86,y.2),(87,.int .i64 0),(1,.slice MA ms.length mc),(4,.bool false),(5,.pointer (some ⟨b3,0,none⟩)),(6,.slice LA L.length lc),(9,.int .i64 (ae:Int)),(10,.pointer (some ⟨b7,0,none⟩)),(11,.int .i64 (p:Int)),(12,.int .i64 (i:Int)),(13,.int .i64 (kk:Int)),(15,.bool true),(16,.pointer (some ⟨aj,0,none⟩))])
    (λy W=>Ext a8 W/\a9.Cu W y.2 kk 0/\a8.heap.size<=y.1/\CuZ W y.1) ?_ ?_
   rotate_left
   ·intro rest;refine hmkq 13 11 16 2 [77,78,79,80,81,82,83,84,85,76,86,87,17] [SF.bk c0,SF.eq (.slice MA ms.length mc),SF.eq (.int .i64 (i:Int)),SF.eq (.pointer (some (adr MA (i*2)))),SF.eq (.pointer (some ((adr MA (i*2)).add 1))),SF.eq (.int .u16 (kk:Int)),SF.eq (.int .i64 (kk:Int)),SF.nat kk,SF.seek a9 kk,SF.seek a9 kk,SF.cur a9 kk,SF.eq (.int .i64 0),SF.box a8.heap.size] (by kernel_rfl) (by rfl) ?_ ?_ ?_
    ·refine gmc (λvs w9 o U=>?_) ?_
     ·simp only [slM];refine ldW ((c0.ext a1).ext (ab.trans o)) ?_;refine ρ ?_;exact mdone (Ext.refl _) rfl
     refine gmc (λvs w9 o U=>?_) ?_
     ·simp only [slM];refine ρ ?_;exact mdone (Ext.refl _) rfl
     refine gmc (λvs w9 o U=>?_) ?_
     ·simp only [slM];refine ρ ?_;exact mdone (Ext.refl _) rfl
     refine gmc (λvs w9 o U=>?_) ?_
     ·have e1:vs 1=_:=U 1;have e2:vs 2=_:=U 2;simp only [slM,e1,e2];refine ixq 2 i (au.ext (a1.trans (ab.trans o))) li ?_;refine ρ ?_;exact mdone (Ext.refl _) rfl
     refine gmc (λvs w9 o U=>?_) ?_
     ·have e3:vs 3=_:=U 3;simp only [slM,e3];refine ρ ?_;exact mdone (Ext.refl _) rfl
     refine gmc (λvs w9 o U=>?_) ?_
     ·have e4:vs 4=_:=U 4;simp only [slM,e4];refine ld (bd (a1.trans (ab.trans o)) 1 _ rfl) ?_;refine ρ ?_;exact mdone (Ext.refl _) rfl
     refine gmc (λvs w9 o U=>?_) ?_
     ·have e5:vs 5=_:=U 5;simp only [slM,e5];refine ρ ?_;exact mdone (Ext.refl _) (congrArg (λz=>Value.int .i64 z) (Qsm (by omega)))
     refine gmc (λvs w9 o U=>?_) ?_
     ·have e6:vs 6=_:=U 6;simp only [slM,e6];refine cl (of44_any (n:=kk) (by omega) _) ?_;rintro u W ⟨hu,hy⟩;exact Jzr (mdone hy hu)
     refine gmc (λvs w9 o U=>?_) ?_
     ·have e0:vs 0=_:=U 0;simp only [slM,e0];have ch:NatV w9 (vs 7) kk:=U 7;refine cl (seek_any (a9.ext (a1.trans (ab.trans o))) ch (by have:=limbs_s (p:=kk) (by omega);omega)) ?_;rintro u W ⟨hy,hu⟩;rw [if_neg hlk]at hu;exact Jzr (mdone hy hu)
     refine gmc (λvs w9 o U=>?_) ?_
     ·obtain ⟨cu,e8,a7⟩:=U 8;simp only [slM,e8];refine ρ ?_;exact mdone (Ext.refl _) ⟨cu,rfl,a7⟩
     refine gmc (λvs w9 o U=>?_) ?_
     ·obtain ⟨cu,e9,a7⟩:=U 9;simp only [slM,e9];refine ρ ?_;exact mdone (Ext.refl _) a7
     refine gmc (λvs w9 o U=>?_) ?_
     ·obtain ⟨cu,e9,a7⟩:=U 9;simp only [slM,e9];refine ρ ?_;exact mdone (Ext.refl _) rfl
     refine gmc (λvs w9 o U=>?_) gme
     ·simp only [slM];refine alc zCur ?_;intro W b9 hy cr ao;exact Jzr (mdone hy ⟨b9,rfl,Nat.le_trans (ab.trans o).size cr,ao⟩)
    ·intro vs W hy hf;obtain ⟨b9,be,h9,ao⟩:=hf 12;have cz:vs 11=.int .i64 0:=hf 11;simp only [slM,be,cz];exact rest (b9,vs 10) _ _ ⟨ab.trans hy,hf 10,h9,ao⟩ sB
    ·intro _ vs W hy hf;obtain ⟨b9,be,h9,ao⟩:=hf 12;obtain ⟨cu,e9,a7⟩:=hf 9;simp only [slM,be,e9];refine Qct (fuel':=2) 11 (by kernel_rfl) (by kernel_rfl) rfl rfl ?_;refine ρp ?_;refine ρd ?_;refine Jzn ?_;refine hlist (listed':=lst 15 13) (by kernel_rfl) ?_;exact rest (b9,vs 10) _ _ ⟨ab.trans hy,hf 10,h9,ao⟩ sB
   rintro ⟨c3,cu⟩ ax ⟨C,a7,b6,aw⟩;simp only at a7 b6 aw;obtain ⟨Q1,q1,rfl⟩:=a7.parts;refine Qjk 16 [(2,13),(2,14)] (fuel':=0) (lst 15 15) (by kernel_rfl) (by kernel_rfl) rfl ?_;refine Jqs ?_;refine stW aw ?_;intro J bw a5 a4;have O:GrN (λk=>k=c3) ax J:=GrN.by a5 λk hk=>by injection hk with hk;exact hk.symm
   have ac:Ext a8 J:=a4 a8 C b6;refine Jzr (Jxr ?_);refine Jqs ?_;refine ρ ?_;refine Jxr ?_;refine Qhs (Jzn ?_);refine hend (by kernel_rfl) ?_;have G:=a2.ext ac;have ay:=ag.trans ac;have D:=ah.trans ac;refine ρ ?_;refine neb ?_;refine ρ ?_;refine ldW (ba.ext ay) ?_;refine ρ ?_;refine stW G ?_;intro ap b2 bu a3;have bb:Ext aa ap:=a3 aa D an;have az:GrN (λk=>k=aj) J ap:=GrN.by bu λk hk=>by injection hk with hk;exact hk.symm
   refine ρ ?_;have c9:¬ c3=aj:=λe=>by have:=a2.lt;omega
   refine ldW (Jjw bw az c9) ?_;refine ρ ?_;refine stW b2 ?_;intro d1 cx dk d9;have co:GrN (λk=>k=aj) ap d1:=GrN.by dk λk hk=>by injection hk with hk;exact hk.symm
   have cq:=(a7.off aw no_u32) J O;have cp:=(cq.off G no_u32) ap az;refine ρ ?_;exact Jjn ((Q1,q1),0) sB ⟨d9 aa bb an,Nat.zero_le _,by show kk<=L.length;omega,cx,(cp.off b2 no_u32) d1 co⟩
 have f0:kd % 4≠3:=λe=>by have:=Jqk hc;rw [e]at this;exact this rfl
 clear hc;refine ρ ?_;refine ixq 2 i (au.ext a1) li ?_;refine ρ ?_;refine ld (bd a1 0 _ rfl) ?_;refine ρ ?_;refine Go.Wk.rem (b:=4) (by decide) ?_;rw [mod4];refine ρ ?_;refine ci (λhc=>?_) (λhc=>?_)
 ·have hr:kd % 4=2:=by have:=Jqn hc;omega
  rw [show stepR L.length p kd kk=if 0<p then (p-1,((p-1:Nat):Int),true) else (p,-1,false) by unfold stepR;rw [if_neg (by omega),if_pos hr]]at Z;refine ρ ?_;refine ldW (ba.ext ag) ?_;refine ρ ?_;refine cl (prev_any (a9.ext a1) (b1.ext ag) (by have:=limbs_s (p:=p) (by omega);omega)) ?_;rintro u ax ⟨C,af⟩;by_cases hp0:p=0
  ·rw [if_pos hp0]at af;simp only at af;obtain ⟨d0,rfl,a6⟩:=af;obtain ⟨Q2,q2,rfl⟩:=a6.parts;rw [if_neg (by omega)]at Z;obtain ⟨rfl,rfl,rfl⟩:p=p'/\-1=a'/\false=f':=by simp only [Prod.mk.injEq]at Z;exact Z
   refine ρ ?_;refine stW (a2.ext C) ?_;intro J G a5 a4;have O:GrN (λk=>k=aj) ax J:=GrN.by a5 λk hk=>by injection hk with hk;exact hk.symm
   have D:Ext aa J:=a4 aa (ah.trans C) an;have ad:=(a6.off (a2.ext C) no_u32) J O;refine ρ ?_;refine neb ?_;refine ρ ?_;exact Jjn ((Q2,q2),0) sB ⟨D,Nat.zero_le _,bz,G,ad⟩
  rw [if_neg hp0]at af;cases hrr:L[p-1]? with
  | none=>
   have:=List.getElem?_eq_none_iff.1 hrr;omega
  | some r=>
   rw [hrr]at af;simp only at af;obtain ⟨d0,A2,c2,b4,rfl,a6,cg,ck,ec,bh⟩:=af;obtain ⟨Q2,q2,rfl⟩:=a6.parts;have ar:p-1<L.length:=(List.getElem?_eq_some_iff.1 hrr).1;rw [if_pos (by omega)]at Z;obtain ⟨rfl,rfl,rfl⟩:p-1=p'/\((p-1:Nat):Int)=a'/\true=f':=by simp only [Prod.mk.injEq]at Z;exact Z
   refine ρ ?_;refine stW (a2.ext C) ?_;intro J G a5 a4;have O:GrN (λk=>k=aj) ax J:=GrN.by a5 λk hk=>by injection hk with hk;exact hk.symm
   have D:Ext aa J:=a4 aa (ah.trans C) an;have bs:=(rowOff cg (a2.ext C) no_str) J O;have ad:=(a6.off (a2.ext C) no_u32) J O;refine ρ ?_;refine neb ?_;refine ρ ?_;obtain ⟨rv,dt,br,_,ce,bq⟩:=(c4.ext ((ai.trans ak).trans D)).one ar;have cy:L.getD (p-1) []=r:=by rw [List.getD_eq_getElem?_getD,hrr];rfl
   rw [cy]at bq;refine ix (p-1) br ar ?_;refine ρ ?_;refine ld (br.cell ce) ?_;refine ρ ?_;refine cl (Xxt (a:=r) (b:=r) ⟨A2,c2,rfl,ck,by omega,bs⟩ bq) ?_;rintro _ ap ⟨rfl,a3⟩;rw [decide_eq_true rfl];refine ρ ?_;exact Jjn ((Q2,q2),b4) sB ⟨D.trans a3,by show b4<=ae;omega,by show p-1<=L.length;omega,G.ext a3,ad.ext a3⟩
 ·have hr:kd % 4<2:=by
   have h2:kd % 4≠2:=λe=>by have:=Jqk hc;rw [e]at this;exact this rfl
   omega
  rw [show stepR L.length p kd kk=if p<L.length then (p+1,(p:Int),true) else (p,-1,false) by unfold stepR;rw [if_pos hr]]at Z;refine ρ ?_;refine ldW (ba.ext ag) ?_;refine ρ ?_;refine cl (next_any (a9.ext a1) (b1.ext ag) (by have:=limbs_s (p:=p) (by omega);omega)) ?_;rintro u ax ⟨C,af⟩;cases hrr:L[p]? with
  | none=>
   rw [hrr]at af;simp only at af;obtain ⟨d0,rfl,a6⟩:=af;obtain ⟨Q2,q2,rfl⟩:=a6.parts;rw [if_neg (by have:=List.getElem?_eq_none_iff.1 hrr;omega)]at Z;obtain ⟨rfl,rfl,rfl⟩:p=p'/\-1=a'/\false=f':=by simp only [Prod.mk.injEq]at Z;exact Z
   refine ρ ?_;refine stW (a2.ext C) ?_;intro J G a5 a4;have O:GrN (λk=>k=aj) ax J:=GrN.by a5 λk hk=>by injection hk with hk;exact hk.symm
   have D:Ext aa J:=a4 aa (ah.trans C) an;have ad:=(a6.off (a2.ext C) no_u32) J O;refine ρ ?_;refine neb ?_;refine ρ ?_;exact Jjn ((Q2,q2),0) sB ⟨D,Nat.zero_le _,bz,G,ad⟩
  | some r=>
   rw [hrr]at af;simp only at af;obtain ⟨d0,A2,c2,b4,rfl,a6,cg,ck,ec,bh⟩:=af;obtain ⟨Q2,q2,rfl⟩:=a6.parts;have ar:p<L.length:=(List.getElem?_eq_some_iff.1 hrr).1;rw [if_pos ar]at Z;obtain ⟨rfl,rfl,rfl⟩:p+1=p'/\((p:Nat):Int)=a'/\true=f':=by simp only [Prod.mk.injEq]at Z;exact Z
   refine ρ ?_;refine stW (a2.ext C) ?_;intro J G a5 a4;have O:GrN (λk=>k=aj) ax J:=GrN.by a5 λk hk=>by injection hk with hk;exact hk.symm
   have D:Ext aa J:=a4 aa (ah.trans C) an;have bs:=(rowOff cg (a2.ext C) no_str) J O;have ad:=(a6.off (a2.ext C) no_u32) J O;refine ρ ?_;refine neb ?_;refine ρ ?_;obtain ⟨rv,dt,br,_,ce,bq⟩:=(c4.ext ((ai.trans ak).trans D)).one ar;have cy:L.getD (p) []=r:=by rw [List.getD_eq_getElem?_getD,hrr];rfl
   rw [cy]at bq;refine ix (p) br ar ?_;refine ρ ?_;refine ld (br.cell ce) ?_;refine ρ ?_;refine cl (Xxt (a:=r) (b:=r) ⟨A2,c2,rfl,ck,by omega,bs⟩ bq) ?_;rintro _ ap ⟨rfl,a3⟩;rw [decide_eq_true rfl];refine ρ ?_;exact Jjn ((Q2,q2),b4) sB ⟨D.trans a3,by show b4<=ae;omega,by show p+1<=L.length;omega,G.ext a3,ad.ext a3⟩
end Go.Proofs.YtefpailelagbkaaGreatDoor
namespace Go.Proofs.YtefpailelagbkaaGreatDoor
open Go.RowKit Pl Go.Wk Go.ChangeShapes Go.WideShapes
section
variable {H:Type} {enc:TypeId×Value->H} {w:World} {base b0:Nat} {spare:Nat->Bool} {held:Bool}
theorem open_move{n:Nat}{cs:List Value}{y:DataW H×List MemPlace}(h:DataW.trod enc Tryz.prog w base spare held n 102 cs=some y): ∃ m:Nat×Nat,cs=[.int .u8 (m.1:Int),.int .u16 (m.2:Int)]/\m.1<256/\m.2<65536:=by
 obtain ⟨o,m,_,_,j,u,D⟩:=DataW.trod_struct Tryz.underlying102 h;have C:cs.length=2:=by rw [j];kernel_rfl
 have a1:o.length=2:=u;match cs,C with
 | [c0,c1],_=>
  have G:DataW.trod enc Tryz.prog w base spare held m 5 (([c0,c1].drop 0).take (Tryz.prog.cellsOf 5))=o[0]?:=D 0 _ rfl;have f1:DataW.trod enc Tryz.prog w base spare held m 53 (([c0,c1].drop 1).take (Tryz.prog.cellsOf 53))=o[1]?:=D 1 _ rfl;rw [show Tryz.prog.cellsOf 5=1 by kernel_rfl,List.getElem?_eq_getElem (by omega)]at G;rw [show Tryz.prog.cellsOf 53=1 by kernel_rfl,List.getElem?_eq_getElem (by omega)]at f1;obtain ⟨k,O,_,U⟩:=DataW.trod_int Tryz.underlying5 G;obtain ⟨i,J,_,Z⟩:=DataW.trod_int Tryz.underlying53 f1;simp at O J;subst O;subst J;have b0:=bounds_u8 U;have b1:=bounds_u16 Z;refine ⟨(k.toNat,i.toNat),?_,by simp only;omega,by simp only;omega⟩;rw [show ((k.toNat:Nat):Int)=k by omega,show ((i.toNat:Nat):Int)=i by omega]
theorem open_moves{v:Value}{d:DataW H}{p:List MemPlace}(hv:Value.okWide Tryz.prog w .any b0 96 v)(h:DataW.Trod enc Tryz.prog w base spare held 96 v d p)(hb:Rows.uptoBulk d<=1048576): ∃ ms,MvsV w v ms:=by
 obtain ⟨a,len,J,rfl⟩:=okWide_slice Tryz.underlying96 hv;obtain ⟨j,u⟩:=h;obtain ⟨l,A,i,e,D,C,U,O⟩:=open_elemsB (sz:=2) (λm:Nat×Nat=>[Value.int .u8 (m.1:Int),.int .u16 (m.2:Int)]) (λm=>m.1<256/\m.2<65536) Tryz.underlying96 (by kernel_rfl) hb (λn G y o _=>open_move o) u;injection e with e
 exact ⟨l,A,i,e,by omega,D,C⟩
end
theorem walkMoves_walk{B0:Nat}{w:World}{v mv:Value}(hTB:TB B0 w)(h:CaseE w v)(hm:∃ ms,MvsV w mv ms): Ret Tryz.prog 12 [v,mv] w λu w'=>u=.bool true/\Ext w w':=by
 obtain ⟨cs,c,rfl,o,i⟩:=h;obtain ⟨ms,j⟩:=hm;exact walkMoves_any hTB o i j
end Go.Proofs.YtefpailelagbkaaGreatDoor
