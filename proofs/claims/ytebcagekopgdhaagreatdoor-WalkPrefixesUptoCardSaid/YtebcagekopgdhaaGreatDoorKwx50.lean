/- Part 5. -/
import Derived.Test.YtebcagekopgdhaaGreatDoorKwx49
set_option linter.unusedVariables false
set_option maxRecDepth 100000
set_option maxHeartbeats 40000000
namespace Go.Proofs.YtebcagekopgdhaaGreatDoor
open Go.RowKit Pl Go.Wk
attribute [local irreducible] WC WL QX WD WDB WP WN WG WH WM
set_option linter.constructorNameAsVariable false in
theorem walkPrefixes_any{B0:Nat}{w:World}{cs:List Value}{c:Cse}{PA:Option Addr}{pc:Nat}{p:Row}(hTB:TB B0 w)(h:CseV w cs c)(hfit:∀ i,i<c.rss.length->∀ r∈c.rss.getD i [],∀ u∈r,Va u)(hp:RowV w (.slice PA p.length pc) p):
  Ret Tryz.prog 5 [.agg cs.toArray,.slice PA p.length pc] w λu w'=>u=.bool true/\Ext w w':=by
 obtain ⟨dA,dc,pA,d8,vA,vc,rA,rc,rfl,hD,hP,hV,hR,hn,hf⟩:=id h;obtain ⟨_,_,eP,cj,dd,ck⟩:=id hp;injection eP with e1 _ e2
 subst e1;subst e2;refine Jz Tryz.func5 Tryz.ntmps5 rfl kr rfl ?_;refine ρ ?_;refine bx ?_;intro w1 b a5 hb hB;refine ρ ?_;refine ci (λO=>?_) (λO=>?_)
 .clear O;refine ρ ?_;refine cl (awake44_any (hTB.ext a5)) ?_;rintro _ w5 ⟨rfl,a1⟩;refine ρ ?_;exact Jj ⟨rfl,a5.trans a1⟩
 have de:p.length<=8:=by have:=oF O;omega
 clear O;refine ρ ?_;refine ldW hB ?_;refine ρ ?_;refine cl (made44_any (hTB.ext a5) (h.ext a5) hfit) ?_;rintro u w2 ⟨ah,cr⟩;rcases cr with ⟨rfl,df⟩|⟨ats,x,av,kf,pf,BB,tot,hOk,rfl,hIx,hav⟩
 .refine ρ ?_;refine alc Jyj ?_;intro w3 b3 ay b8 b5;refine ρ ?_;refine stW b5 ?_;intro w4 b4 cq ax;have J:Ext w2 w4:=ax w2 ay b8;refine ρ ?_;refine Go.Wk.kt 33 ?_ ?_
  .rfl
  refine ρ ?_;refine cl (awake44_any (hTB.ext ((a5.trans ah).trans J))) ?_;rintro _ w5 ⟨rfl,a1⟩;refine ρ ?_;exact Jj ⟨rfl,((a5.trans ah).trans J).trans a1⟩
 have bt:=hOk.ans.1;obtain ⟨XA,xd,YA,yd,ZA,zd,UA,ud,tv,da,d7,rfl,_,_,_,_,_,_,c9,_⟩:=id hIx.ix.ex;obtain ⟨TA,tc,rfl,_⟩:=id c9;obtain ⟨LA,lc,rfl,dk,di,_⟩:=hav.parts;have dn:=hOk.fF.1;obtain ⟨L,hL⟩:∃ L,L=c.ans:=⟨_,rfl⟩;have dl:L.length<=5000:=by rw [hL];exact hOk.anl
 have cv:∀ r∈L,r.length=c.F:=λr hr=>hOk.arow (hL ▸ hr);rw [<-hL]at hIx hav bt;rw [show c.ans.length=L.length by rw [hL]];have bg:tot=L.length:=hIx.ip.len;subst bg;have hF:c.F<=1100000:=by have:=hOk.fF.2;have:=hOk.nN.2;omega
 refine ρ ?_;refine alc Jyj ?_;intro w3 b3 ay b8 b5;refine ρ ?_;refine stW b5 ?_;intro w4 b4 cq ax;have J:Ext w2 w4:=ax w2 ay b8;have U:=(a5.trans ah).trans J;have a7:=hIx.ext J;have bs:=hav.ext J;have cy:=(hB.ext ah).ext J;have cn:=hp.ext U;refine ρ ?_;refine Go.Wk.kf 33 ?_ ?_
 .rfl
 refine ρ ?_;refine ld (cy.at (i:=1) rfl) ?_;refine ρ ?_;refine ci (λO=>?_) (λO=>?_)
 .clear O;refine ρ ?_;refine cl (awake44_any (hTB.ext U)) ?_;rintro _ w5 ⟨rfl,a1⟩;refine ρ ?_;exact Jj ⟨rfl,U.trans a1⟩
 have cm:p.length<=c.F:=by have:=oF O;omega
 clear O;refine ρ ?_;refine ldW b4 ?_;refine ρ ?_;refine cl (rkPrefix_any (hTB.ext U) a7 (Rd.ext ck U) cj) ?_;rintro u w5 ⟨a1,_,hu⟩;obtain ⟨lv,hv,st,rfl,ai,b6,_⟩:=hu cm;obtain ⟨lo,b2⟩:∃ lo,lo=cntP c.ds L p:=⟨_,rfl⟩;have d4:lo<=L.length:=by rw [b2];exact cntP_le _ _ _
 have d2:(wiL L p).length<=L.length:=List.length_filter_le _ _;rw [<-b2]at ai b6;obtain ⟨lA,lC,rfl,_⟩:=id ai;obtain ⟨hA,hC,rfl,_⟩:=id b6;have dj:=limbs_s (p:=lo) om;refine ρ ?_;refine ldW (b4.ext a1) ?_;refine ρ ?_;refine cl (seek_any (a7.ext a1) ai om) ?_;rintro u w6 ⟨aw,hu⟩;rw [if_neg om]at hu;obtain ⟨cu,rfl,bq⟩:=hu;obtain ⟨Q0,q0,rfl⟩:=bq.parts;refine ρ ?_;refine alc zCur ?_;intro w7 c1 c8 ap bz;refine ρ ?_;refine stW bz ?_;intro w8 cx dm c7;have ak:Ext w6 w8:=c7 w6 c8 ap;have bp:=bq.ext ak;have bd:=a1.trans aw;refine ρ ?_;refine Qd (fun (i:Nat)=>[(1,.slice PA p.length pc),(4,.bool false),(6,.slice LA L.length lc),(9,.slice lA (Jq lo).length lC),(10,.slice hA (Jq (lo+(wiL L p).length)).length hC),(13,.pointer (some ⟨c1,0,none⟩)),(15,.int .i64 (((wiL (L.take i) p).length:Nat):Int)),(16,.int .i64 (i:Int))])
  (λi w'=>i<=L.length/\Ext w6 w'/\∃ Q q,∃ st:Nat,Blk w' c1 61 [.slice XA c.F xd,.slice YA c.F yd,.slice ZA c.F zd,.slice UA c.F ud,.slice TA (Jq L.length).length tc,.slice Q (Jq (lo+(wiL (L.take i) p).length)).length q,.int .i64 (st:Int)]/\a7.Cu w' (.agg #[.slice XA c.F xd,.slice YA c.F yd,.slice ZA c.F zd,.slice UA c.F ud,.slice TA (Jq L.length).length tc,.slice Q (Jq (lo+(wiL (L.take i) p).length)).length q,.int .i64 (st:Int)]) (lo+(wiL (L.take i) p).length) st) (λi=>L.length-i) 0 sB ⟨Nat.zero_le _,ak,Q0,q0,0,cx,bp⟩ ?_
 rintro i w9 ⟨hi,aa,Q,q,c6,b9,ad⟩;have dg:(wiL (L.take i) p).length<=i:=nL (List.length_filter_le _ _) (by rw [List.length_take];omega);have cp:=limbs_s (p:=lo+(wiL (L.take i) p).length) om;have a6:=bd.trans aa;have bu:=a7.ext a6;refine ρ ?_;refine ci (λO=>?_) (λO=>?_)
 .have li:i<L.length:=by have:=oT O;omega
  clear O;obtain ⟨_,_,eA,_,_,d9,aj,cw⟩:=(bs.ext a6).parts;injection eA with e1 e2 e3
  subst e1;subst e3;obtain ⟨vl,bf,b1⟩:=cw i li;obtain ⟨X1,x1,rfl,d0,cz,d1⟩:=id b1;have d5:(L.getD i []).length=c.F:=cv _ (getD_mem' [] _ li);have ch:p.length<=(L.getD i []).length:=om
  have a8:=wiL_take L p li;obtain ⟨ca,bh,db⟩:=take_rowV b1 ch;refine ρ ?_;refine ix i aj li ?_;refine ρ ?_;refine ld (aj.cell bf) ?_;refine ρ ?_;refine slh p.length ?_;refine ρ ?_;have bi:RowV w9 (.slice X1 ((L.getD i []).take p.length).length x1) ((L.getD i []).take p.length):=by rw [bh];exact ca
  rw [bh]at bi;refine cl (Jmm bi (cn.ext a6)) ?_;rintro _ c4 ⟨rfl,C⟩;have ag:=b9.ext C;have af:=CuV.ext ad C;refine ρ ?_;refine ci (λO=>?_) (λO=>?_)
  .have co:¬ (L.getD i []).take p.length=p:=by simpa using O
   clear O;rw [if_neg co,List.append_nil]at a8;have an:(wiL (L.take (i+1)) p).length=(wiL (L.take i) p).length:=by rw [a8]
   refine ρ ?_;refine Qw (i+1) sO ⟨om,aa.trans C,Q,q,c6,?_,?_⟩ om
   .rw [a8];exact ag
   .rw [a8];exact af
  .have bo:(L.getD i []).take p.length=p:=by simpa using O
   clear O;rw [if_pos bo]at a8;have ac:=rk_pre bt li bo;rw [<-b2]at ac;have an:(wiL (L.take (i+1)) p).length=(wiL (L.take i) p).length+1:=by rw [a8,List.length_append];rfl
   refine ρ ?_;refine ldW ag ?_;refine ρ ?_;refine cl (next_any (bu.ext C) af om) ?_;rintro u au ⟨a4,c0⟩;rw [<-ac,getD_some li]at c0;obtain ⟨dq,RA,bb,c5,rfl,ae,cd,cc,d3,_⟩:=c0;rw [ac,Nat.add_assoc,<-an]at ae;obtain ⟨Q2,q2,rfl⟩:=ae.parts;refine ρ ?_;refine alc zCur ?_;intro c3 dt a3 br bl;refine ρ ?_;refine stW bl ?_;intro ar bv d6 be;have a2:Ext au ar:=be au a3 br;have G:=a4.trans a2;have ce:RowV ar (.slice RA (L.getD i []).length bb) (L.getD i []):=⟨RA,bb,rfl,cc,om,Rd.ext cd a2⟩;refine ρ ?_;refine Go.Wk.kf 86 ?_ ?_
   .rfl
   refine ρ ?_;refine ix i ((aj.ext C).ext G) li ?_;refine ρ ?_;refine ld (((aj.ext C).ext G).cell bf) ?_;refine ρ ?_;refine cl (Jmm ce ((b1.ext C).ext G)) ?_;rintro _ c2 ⟨rfl,Z⟩;rw [decide_eq_true rfl];refine ρ ?_;refine ldW (bv.ext Z) ?_;refine ρ ?_;have aq:=(ag.ext G).ext Z;refine stW aq ?_;intro ba bw bn ab;have b7:=(CuV.ext ae (a2.trans Z)).off aq no_u32 ba (GrN.by bn λk hk=>by injection hk with hk;exact hk.symm);refine ρ ?_;exact Qw (i+1) sO ⟨om,ab w6 (((aa.trans C).trans G).trans Z) ap,Q2,q2,c5,bw,b7⟩ om
 .have bm:i=L.length:=by have:=oF O;omega
  clear O;rw [bm,List.take_length]at b9 ad cp;rw [bm,List.take_length];have bc:=U.trans a6;have ao:=b6.ext (aw.trans aa);have bj:=ai.ext (aw.trans aa);have dh:=limbs_s (p:=(wiL L p).length) om;refine ρ ?_;refine ldW b9 ?_;refine ρ ?_;refine cl (pos_any ad om) ?_;rintro pv c4 ⟨cg,C⟩;refine ρ ?_;refine cl (Jqh cg (ao.ext C)) ?_;rintro _ au ⟨rfl,a4⟩;rw [cmpN_self];refine ρ ?_;refine Go.Wk.kt 103 ?_ ?_
  .rfl
  refine ρ ?_;refine cl (of44_any (n:=(wiL L p).length) om _) ?_;rintro o c3 ⟨ho,a3⟩;refine ρ ?_;refine cl (natAdd_any (((bj.ext C).ext a4).ext a3) ho om om) ?_;rintro sv ar ⟨cb,am⟩;refine ρ ?_;refine cl (Jqh ((((ao.ext C).ext a4).ext a3).ext am) cb) ?_;rintro _ c2 ⟨rfl,Z⟩;rw [cmpN_self];refine ρ ?_;refine Go.Wk.kt 112 ?_ ?_
  .rfl
  refine ρ ?_;have a9:=bc.trans ((((C.trans a4).trans a3).trans am).trans Z);refine cl (awake44_any (hTB.ext a9)) ?_;rintro _ ba ⟨rfl,ab⟩;refine ρ ?_;exact Jj ⟨rfl,a9.trans ab⟩
end Go.Proofs.YtebcagekopgdhaaGreatDoor
namespace Go.Proofs.YtebcagekopgdhaaGreatDoor
open Go.RowKit Pl Go.Wk
theorem walkPrefixes_walk{B0:Nat}{w:World}{v u:Value}(hTB:TB B0 w)(h:CaseE w v)(hu:∃ r,RowE w u r): Ret Tryz.prog 5 [v,u] w λu w'=>u=.bool true/\Ext w w':=by
 obtain ⟨cs,c,rfl,G,C⟩:=h;obtain ⟨p,o,_⟩:=hu;obtain ⟨J,pc,rfl,_⟩:=id o;exact walkPrefixes_any hTB G C o
end Go.Proofs.YtebcagekopgdhaaGreatDoor
