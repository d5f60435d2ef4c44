/- Part 3 of the proof: LwF, LwFW. -/
import Derived.Test.YtefpailelagbkaaGreatDoorKaf47
set_option linter.unusedVariables false
set_option maxRecDepth 100000
set_option maxHeartbeats 40000000
namespace Go.Wk
open Go.RowKit
def SF.own(base e sz m:Nat)(xs:List Value): SF:=⟨λv W=>W.ownsRow base e sz v m xs,λh hx=>Jjb h hx⟩
section
variable {P:Program} {n:Nat} {al:AL} {w:World} {Q:Exit->Act->World->Prop} {ops:Array Oper} {rest:List Oper} {d ty:Nat} {pos:String} {aft:Array Edge}
theorem apz{t e sz bytes base:Nat}{z:Value}(hE:ElT P t e sz bytes z){x y:Operand}{b:Addr}{A':Option Addr}{m' c':Nat}{news:List Value}(hr:Rd w sz A' m' news)(h1:∀ u∈news,u.oneCell'=true)(h0:0<m')(h63:m'<=maxLen)(hby:m'*bytes<=140737488355328)(hbase:base<=w.heap.size)(kk:∀ v' w',Ext w w'->w'.ownsRow base e sz v' m' news->WL P n ops Q rest ((d,v')::al) w')(hx:ev al x=some (.slice (some b) 0 0):=by rfl)(hy:ev al y=some (.slice A' m' c'):=by rfl)(hd:Nat.blt d n=true:=by rfl):
  WL P n ops Q (⟨some d,.call { callee:=.builtin .append,args:=#[x,y],argTypes:=#[t,t] },ty,pos,aft,none⟩::rest) al w:=by
 obtain ⟨i,hi,Z,J,O⟩:=hE.info;obtain ⟨ad,rfl,hb,hc⟩:=hr.2 (by rw [hr.1];exact Nat.mul_pos h0 hE.pos);obtain ⟨v',w',o,h2,G⟩:=run_append_arg_grows (P:=P) w t ty e i z sz bytes hE.sl hi Z J O hE.cells hE.pos b 0 0 [] (by simp) (λj u hu=>by simp at hu) ad m' c' news hr.1 hc (by omega) (by omega) (by rw [Nat.zero_add];exact hby);have U:w'.ownsRow base e sz v' m' news:=by
  have:=World.ownsRow.mono h2 hbase;simpa using this
 refine wop hd (λa C=>?_) (kk v' w' ⟨G.os,G.tape,G.output,G.size,λk hk=>G.block k hk (by simp)⟩ U);simp [execOp,resolve,invoke,builtin,C.ev hx,C.ev hy,o]
end
end Go.Wk
namespace Go.Proofs.YtefpailelagbkaaGreatDoor
open Go.RowKit Pl Go.Wk
attribute [local irreducible] WC WL QX WD WDB WP WN WG WH WM
theorem bs0Atoms(w:World): (Instr.buildSlice 60 0 #[]).run Tryz.prog w=.ok (.slice (some ⟨w.heap.size,0,none⟩) 0 0) (w.alloc (.cells [].toArray 69)):=by kernel_rfl
theorem bs1I(a:Int)(w:World): (Instr.buildSlice 23 1 #[(0,.int .i64 a)]).run Tryz.prog w=.ok (.slice (some ⟨w.heap.size,0,none⟩) 1 1) (w.alloc (.cells [Value.int .i64 a].toArray 3)):=by kernel_rfl
def atLit(W:World)(B:Option Addr)(mm d:Nat)(cs:List Value): Prop:=∃ b4,cs=[.slice (some ⟨b4,0,none⟩) 1 1,.int .i64 1,.slice B mm d]/\Blk W b4 3 [.int .i64 0]
theorem atLit.ext{W W':World}{B:Option Addr}{mm d:Nat}{cs:List Value}(h:atLit W B mm d cs)(hx:Ext W W'): atLit W' B mm d cs:=by
 obtain ⟨j,e,i⟩:=h;exact ⟨j,e,i.ext hx⟩
def SF.rw(y:V): SF:=⟨λv W=>∃ b:Nat,v=.slice (some ⟨b,0,none⟩) 1 1/\Blk W b 71 (Jzf [y]),λ⟨b,e,h⟩ hx=>⟨b,e,h.ext hx⟩⟩
def SF.nt(k:Nat): SF:=⟨λv W=>NatV W v k,λh hx=>h.ext hx⟩
def SF.zs: SF:=⟨λv _=>∃ b:Nat,v=.slice (some ⟨b,0,none⟩) 0 0,λh _=>h⟩
def SF.il: SF:=⟨λv W=>∃ b:Nat,v=.slice (some ⟨b,0,none⟩) 1 1/\Blk W b 3 [.int .i64 0],λ⟨b,e,h⟩ hx=>⟨b,e,h.ext hx⟩⟩
def SF.al(B:Option Addr)(mm d:Nat): SF:=⟨λv W=>∃ cs:List Value,v=.agg cs.toArray/\atLit W B mm d cs,λ⟨cs,e,h⟩ hx=>⟨cs,e,h.ext hx⟩⟩
def SF.az(B:Option Addr)(mm d:Nat): SF:=⟨λv W=>∃ (b:Nat) (cs:List Value),v=.slice (some ⟨b,0,none⟩) 1 1/\Blk W b 69 cs/\atLit W B mm d cs,λ⟨b,cs,e,h,h2⟩ hx=>⟨b,cs,e,h.ext hx,h2.ext hx⟩⟩
set_option linter.constructorNameAsVariable false in
theorem accessFilters_any{B0:Nat}{w:World}{cs:List Value}{c:Cse}{first:Int}(hTB:TB B0 w)(h:CseV w cs c)(hfit:∀ i,i<c.rss.length->∀ r∈c.rss.getD i [],∀ u∈r,Qyf u)(hfs:0<=first/\first<=255):
  Ret Tryz.prog 8 [.agg cs.toArray,.int .u8 first] w λu w'=>u=.bool true/\Ext w w':=by
 obtain ⟨dA,dc,pA,pc,vA,vc,rA,rc,rfl,hD,hP,hV,hR,hn,hf⟩:=id h;obtain ⟨m,hm,ha⟩:=tmod_is (n:=4) hfs.1 (by decide);rw [show ((4:Nat):Int)=4 from rfl]at hm;refine Jjc Tryz.func8 Tryz.ntmps8 rfl (by kernel_rfl) rfl ?_;refine ρ ?_;refine bx ?_;intro w1 b b5 hb hB;refine ρ ?_;refine ldW hB ?_;refine ρ ?_;refine cl (built_any (hTB.ext b5) (h.ext b5) hfit) ?_;rintro u w2 ⟨bl,eb⟩;rcases eb with ⟨rfl,h8⟩|⟨ats,x,av,kf,pf,BB,tot,hOk,rfl,hIx,hav⟩
 ·refine ρ ?_;refine alc Qfg ?_;intro w3 b3 co cy cw;refine ρ ?_;refine stW cw ?_;intro w4 dz fl cn;have Z:Ext w2 w4:=cn w2 co cy;refine ρ ?_;refine cl (awake41_any (hTB.ext ((b5.trans bl).trans Z))) ?_;rintro _ w5 ⟨rfl,cm⟩;refine ρ ?_;exact Jjq ⟨rfl,((b5.trans bl).trans Z).trans cm⟩
 obtain ⟨XA,xd,YA,yd,ZA,zd,UA,ud,tv,gy,gw,rfl,_,_,_,_,_,_,fc,_⟩:=id hIx.ix.ex;obtain ⟨TX,tc,rfl,_⟩:=id fc;obtain ⟨LA,lc,rfl,hh,he,_⟩:=hav.parts;have hx:=hOk.fF.1;refine ρ ?_;refine alc Qfg ?_;intro w3 b3 co cy cw;refine ρ ?_;refine stW cw ?_;intro w4 dz fl cn;have Z:Ext w2 w4:=cn w2 co cy;have am:=(b5.trans bl).trans Z;have ei:=hIx.ext Z;have el:=(hB.ext bl).ext Z;refine ρ ?_;refine ld (el.at (i:=1) rfl) ?_;refine ρ ?_;refine ci (λhc=>?_) (λhc=>?_)
 ·clear hc;refine ρ ?_;refine cl (awake41_any (hTB.ext am)) ?_;rintro _ w5 ⟨rfl,cm⟩;refine ρ ?_;exact Jjq ⟨rfl,am.trans cm⟩
 have hF:0<c.F:=by have:=Jqk hc;omega
 clear hc;refine ρ ?_;refine ldW el ?_;refine ρ ?_;refine cl (Xwg (h.ext am)) ?_;rintro u w6 ⟨fa,d5,ch,aA,d4,cg,ac,an,ok,rfl,fw,fu,fh,dt⟩;obtain rfl:ok=true:=dt hOk.mks hOk.again;obtain ⟨_,gd,ef,hG,dx,_⟩:=fh rfl;have ad:=hOk.of2 ef dx;refine ρ ?_;refine alc zInp ?_;intro w7 b9 f9 ft g0;refine ρ ?_;refine stW g0 ?_;intro w8 ek hw f8;have a9:Ext w6 w8:=f8 w6 f9 ft;have dd:=fa.trans a9;obtain ⟨ts,GA,gc,cp,eG,hv,hs,fk,e6⟩:=Jnm (hG.ext a9 λcs a ⟨t,e,h⟩=>⟨t,e,h.ext a9⟩);injection eG with e1 e2 e3
 subst e1;subst e2;subst e3;have dq:ts.length=c.m:=by have:=ad.al;rw [cp,List.length_map]at this;exact this
 have fe:0<ts.length:=by
  obtain ⟨i,hi,_⟩:=hOk.cov (v:=0) (by have:=hOk.fF.2;omega);omega
 refine ρ ?_;refine Go.Wk.rem (b:=4) (by decide) ?_;rw [hm];refine ρ ?_;rw [Qrl (z:=(m:Int)) (by omega)];refine cl (num41_any (m:Int) _) ?_;rintro _ w9 ⟨rfl,f7⟩;refine ρ ?_;refine alc (cs:=V0.cells) Qns ?_;intro gj g3 dm ee eu;refine ρ ?_;refine stb (cs':=(nV (m:Int)).cells) eu ?_ (V.one _);intro f4 cz gb dk;have ck:Ext w9 f4:=dk w9 dm ee;obtain ⟨y,hy⟩:∃ y,y=nV (m:Int):=⟨_,rfl⟩;rw [<-hy]at cz;have d9:Jxc y=true:=by rw [hy];rfl
 have f6:Qyf y:=by rw [hy];exact Xvp (by omega)
 refine ρ ?_;refine lds (cs:=y.cells) (λj u' fb=>cz.at fb) ?_;refine ρ ?_;refine bsl (bs1V y) ?_;intro gi br c0 eb fx;refine ρ ?_;refine bsl (λw=>Qyx (.slice (some ⟨br,0,none⟩) 1 1) w _ _ _ rfl) ?_;intro f3 bq b1 i0 fy;have cq:RowsV f3 (.slice (some ⟨bq,0,none⟩) 1 1) [[y]]:=⟨[(.slice (some ⟨br,0,none⟩) 1 1,[y])],some ⟨bq,0,none⟩,1,rfl,rfl,Nat.le_refl _,by simp,fy.rd rfl,λp hp=>by
  rw [List.mem_singleton.1 hp];exact litRow (r:=[y]) (fx.ext b1) (by simp)⟩
 refine ρ ?_;refine cl (Jlj (ar:=1) cq) ?_;rintro u d8 ⟨bw,rv,e,rfl,⟨z,B,mm,d,rfl⟩,fp,dv⟩;obtain rfl:e=0:=fp (by decide) (λr hr=>by rw [List.mem_singleton.1 hr];exact ⟨rfl,by simp [d9]⟩) (by simp);obtain ⟨_,_,ms,eg,_,_,c3⟩:=dv rfl;obtain rfl:ms=[[y]]:=Jyz (c3 (.inl (by simp))).1 (List.pairwise_singleton _ _) (c3 (.inl (by simp))).2;refine ρ ?_;refine alc Qnq ?_;intro gh i2 dj ed et;refine ρ ?_;refine stb (cs':=[.int .i64 z,.slice B mm d]) et ?_ (Qvn (z:=z) (A:=B) (n:=mm) (c:=d));intro bi er ga di;have a6:Ext d8 bi:=di d8 dj ed;have ag:=(((f7.trans ck).trans c0).trans b1).trans (bw.trans a6);have bo:=eg.here.ext a6;obtain ⟨f5,d3,ff⟩:=id bo;injection d3 with d3
 obtain ⟨rfl,rfl⟩:z=1/\f5=.slice B mm d:=by
  simpa [eq_comm] using d3
 refine ρ ?_;refine ldW (ek.ext ag) ?_;refine ρ ?_;refine alc zInp ?_;intro gg d6 dh ca ep;refine ρ ?_;refine stW ep ?_;intro a8 cc g9 dg;have a5:Ext bi a8:=dg bi dh ca;have ax:=ag.trans a5;have au:Ext a8 a8.drew:=(Ext.refl a8).drew;have db:=ax.trans au;have bh:=cc.ext au;have d1:=(er.ext a5).ext au;have ej:=(ek.ext ax).ext au;have e8:=fk.ext db;have e5:∀ u∈atC ts,u.oneCell'=true:=λu hu=>by
  obtain ⟨p,hp,hu⟩:=List.mem_flatMap.1 hu;exact (e6 p hp).one u hu
 have h9:ts.length<=5:=by rw [dq];exact hOk.few.v5
 refine ρ ?_;refine drH (λi=>Nat.ble 8 i) ?_;refine Jst (fuel':=8) 12 [(0,1),(0,2),(0,5)] #[false,true,true,false,false,true,false,false,false,false,false] (by kernel_rfl) (by kernel_rfl) rfl ?_;refine ρd ?_;refine dld (ej.at (i:=4) rfl) ?_;refine ρd ?_;refine Jvb (cs:=[.int .i64 1,.slice B mm d]) (λj u hu=>d1.at hu) ?_;refine ρd ?_;refine Jzt ?_;refine hmkS 12 3 _ #[true,true,true,true,true,true,true,true,false,false,false] [0,3,4,6,7] [68,71,72,74,75] [SF.zs,SF.own a8.drew.heap.size 69 3 ts.length (atC ts),SF.il,SF.al B mm d,SF.az B mm d] (by kernel_rfl) (by rfl) ?_ ?_
 ·refine gsc (λvs v1 C hd=>?_) ?_
  ·simp only [slM];refine bsl bs0Atoms ?_;intro v2 b2 G bn ab;refine ρ ?_;exact mdone G ⟨b2,rfl⟩
  refine gsc (λvs v1 C hd=>?_) ?_
  ·obtain ⟨b0,e0⟩:=hd 0;simp only [slM,e0];refine apz EA (base:=a8.drew.heap.size) (e8.ext C) e5 fe (by unfold maxLen;omega) (by omega) C.size ?_;intro v' v2 G fi;refine ρ ?_;exact mdone G fi
  refine gsc (λvs v1 C hd=>?_) ?_
  ·simp only [slM];refine bsl (bs1I 0) ?_;intro v2 b2 G bn ab;refine ρ ?_;exact mdone G ⟨b2,rfl,ab⟩
  refine gsc (λvs v1 C hd=>?_) ?_
  ·obtain ⟨b0,e0,cx⟩:=hd 2;simp only [slM,e0];refine bld (Qbb _ _ _ _ _ _ _ _) ?_;refine ρ ?_;exact mdone (Ext.refl _) ⟨_,rfl,b0,rfl,cx⟩
  refine gsc (λvs v1 C hd=>?_) gse
  ·obtain ⟨cs,e0,b0,rfl,cx⟩:=hd 3;simp only [slM,e0];refine bsl (Qkt _ _ _ _ _ _ _ _ _ _ rfl rfl rfl) ?_;intro v2 b2 G bn ab;refine ρ ?_;exact mdone G ⟨b2,_,rfl,ab,b0,rfl,cx.ext G⟩
 intro vs v1 C hd;have bm:v1.ownsRow a8.drew.heap.size 69 3 (vs 1) ts.length (atC ts):=hd 1;obtain ⟨b7,i1,e7,fj,b4,rfl,c8⟩:=hd 4;have g1:=bh.ext C;obtain ⟨A1,c1,e1,hz,e9⟩:=Jjd bm;rw [e1]at bm e9;simp only [slM,e1,e7];refine Jst (fuel':=0) 12 [(2,8),(2,9),(2,10)] #[true,true,true,true,true,true,true,true,true,true,true] (by kernel_rfl) (by kernel_rfl) rfl ?_;refine Jqz ?_;refine apb EA bm (fj.rd (n:=1) rfl) (Qtn rfl) (by unfold maxLen;omega) (by omega) C.size ?_;intro v2 ce c7 c9 g7;have bv:Ext a8.drew ce:=Jjk C c9 λk hk=>(e9 k hk).1;refine Jzd (Jxt ?_);refine Jqz ?_;refine ρ ?_;refine Jxt ?_;refine Jqz ?_;have a7:=bh.ext bv;obtain ⟨A2,c2,rfl,fq,fo⟩:=Jjd c7;refine sto (a7.at (i:=4) rfl) (a7.frozen 4) ?_;refine Jzd (Jxt ?_);refine Qmd (Jzt ?_);refine hend (by kernel_rfl) ?_;obtain ⟨ae,b6⟩:∃ ae,ae=ce.setCell ((⟨d6,0,none⟩:Addr).add 4) (.slice A2 (ts.length+1) c2):=⟨_,rfl⟩
 rw [<-b6];have d0:Blk ae d6 62 [.int .i64 c.n,.int .i64 c.f,.slice d5 c.ds.length d4,.slice ch c.pm.length cg,.slice A2 (ts.length+1) c2]:=by rw [b6];exact a7.set 4 _
 have bd:GrN (λq=>q=d6) ce ae:=by rw [b6];exact GrN.set _ rfl
 have a4:Ext bi ae:=bd.old (a5.trans (au.trans bv)) λq hq=>by rw [hq];exact ca
 have a2:=ag.trans a4;have ah:=dd.trans a2;have af:=am.trans ah;have dw:=Jjr c7 bd (λg hg e=>by
  have h1:=(fo g hg).1;have h2:=cc.lt;have:=au.size;subst e;omega)
 have bc:=c8.grown c9 (c8.ne_own bm rfl);have e4:=Jqb bc bd λe=>by
  rw [e]at bc;have:=bc.symm.trans a7;simp at this
 obtain ⟨q,hq⟩:∃ q:TA,q=((.slice (some ⟨b4,0,none⟩) 1 1,.int .i64 1,.slice B mm d),⟨[0],1,[[y]]⟩):=⟨_,rfl⟩;have fg:AtV ae q.1 q.2:=by
  rw [hq];exact ⟨⟨some ⟨b4,0,none⟩,1,rfl,Nat.le_refl _,by simp,e4.rd (n:=1) rfl⟩,rfl,ff.ext a4⟩
 have ea:=(ad.bldI cp).dl;have cr:(toN c.pm).length=c.pm.length:=by simp [toN]
 have fz:BldV ae (.agg #[.int .i64 c.n,.int .i64 c.f,.slice d5 c.ds.length d4,.slice ch c.pm.length cg,.slice A2 (ts.length+1) c2]) c.N c.F c.ds (toN c.pm) (ts++[q]):=by
  obtain ⟨D,d',e1,h1,h2,h3⟩:=fw.ext (a9.trans a2);injection e1 with e1 e2 e3
  subst e1;subst e3;obtain ⟨Q,q',e1,h4,h5,h6⟩:=fu.ext (a9.trans a2);injection e1 with e1 e2 e3
  subst e1;subst e3;refine ⟨d5,d4,ch,cg,A2,c2,?_,by rw [<-ea];exact h1,h3,?_,by rw [cr];exact h4,?_,?_,λp hp=>?_⟩
  ·rw [ad.nN.1.symm,ad.fF.1.symm,cr,<-ea,List.length_append];rfl
  ·rw [ad.pm.2,cr];exact h6
  ·have h7:=Rd.own dw;have e:atC (ts++[q])=atC ts++[.slice (some ⟨b4,0,none⟩) 1 1,.int .i64 1,.slice B mm d]:=by rw [hq];simp [atC,V3.cells]
   rw [e,List.length_append];exact h7
  ·rw [List.length_append];exact fq
  ·rcases List.mem_append.1 hp with h'|h'
   ·exact (e6 p h').ext a2
   ·rw [List.mem_singleton.1 h'];exact fg
 have hI:=bldAdd ad cp (q:=q) (y:=y) (by rw [hq]) hF d9 f6;refine ρ ?_;refine ldW d0 ?_;refine ρ ?_;refine cl (Xxw (hTB.ext af) hI fz) ?_;rintro u d7 ⟨bu,x2,gq,gz,gx,R2,rfl,hE,c6⟩;obtain ⟨SA,sd,SB,gu,SC,gt,SD,gs,gk,g6,g5,rfl,_,_,_,_,_,_,dn,_⟩:=id c6.here.ex;obtain ⟨i3,gl,rfl,_⟩:=id dn;obtain ⟨L2,be⟩:∃ L2,L2=wiL c.ans [y]:=⟨_,rfl⟩;have hj:L2.length<=5000:=by rw [be];exact nL (wiL_len _ _) hOk.anl
 have bp:=ixA_of (L:=L2) ⟨B0,hTB.ext (af.trans bu)⟩ hI (λi hi=>by
   have:=hI.run.at_ i hi;have e:(((ts++[q]).map (·.2)).getD i a0)=((ts++[q]).getD i ta0).2:=by rw [List.getD_eq_getElem?_getD,List.getElem?_map,List.getD_eq_getElem?_getD,List.getElem?_eq_getElem hi];rfl
   rw [e,this]) hE c6.here (by rw [be];exact (ansAdd ad hF).1) (λz=>by rw [be,List.length_append,dq];exact (ansAdd ad hF).2 z) (by omega)
 refine ρ ?_;refine alc Qfg ?_;intro gf g2 df ec eo;refine ρ ?_;refine stW eo ?_;intro f2 cb g8 de;have a3:Ext d7 f2:=de d7 df ec;have b8:=bp.ip.len;refine ρ ?_;refine ldW cb ?_;refine ρ ?_;refine cl (Qkc (bp.ext a3).ix bp.ip.nbT) ?_;rintro tu g4 ⟨fd,_,ai⟩;refine ρ ?_;refine cl (natUint64_any fd (by rw [b8];omega)) ?_;rintro _ f0 ⟨rfl,rfl⟩;rw [b8];refine ρ ?_;refine ci (λh=>?_) (λh=>?_)
 ·exfalso
  have:=oT h;omega
 clear h;have eh:=bp.ext (a3.trans ai);have O:=(bu.trans a3).trans ai;have bf:=ei.ext (ah.trans O);have bb:=dz.ext (ah.trans O);have bg:=cz.ext ((((c0.trans b1).trans bw).trans (a6.trans a4)).trans O);have cj:=af.trans O;have em:=cb.ext ai;refine ρ ?_;refine Jqq (fun (k:Nat)=>[(4,.bool false),(5,.pointer (some ⟨b3,0,none⟩)),(11,.pointer (some ⟨g3,0,none⟩)),(15,.pointer (some ⟨g2,0,none⟩)),(18,.int .u64 (L2.length:Int)),(102,.int .u64 (L2.length:Int)),(103,.int .u64 (k:Int))])
  (λk w'=>k<=L2.length/\Ext f0 w') (λk=>L2.length-k) 0 sB ⟨Nat.zero_le _,Ext.refl _⟩ ?_
 rintro k aq ⟨hk,U⟩;refine ρ ?_;refine ci (λh=>?_) (λh=>?_)
 ·have lk:k<L2.length:=by have:=oT h;omega
  clear h;have da:Ext aq aq.drew:=(Ext.refl aq).drew;refine ρ ?_;refine drN (λ_=>False) 12 [(0,0),(0,1),(1,2),(1,3),(0,4),(0,5),(0,6),(0,7),(0,8),(0,9),(0,10)] (by kernel_rfl) ?_;refine ρn ?_;refine Jgr (λw' hg j u hu=>(((em.ext U).ext da).ext hg.toExt).at hu) ?_;refine ρn ?_;refine nop ?_;refine cl (Jfl k (by omega) _) ?_;rintro o ge ⟨ho,_,bt⟩;refine ρ ?_;refine Jqv (GrN.ext bt) ?_;refine ρn ?_;refine nop ?_;have ap:=da.trans bt;refine cl (at_any (eh.ext (U.trans ap)) ho) ?_;rintro u cd ⟨bs,d2⟩;unfold AtR at d2;rw [getD_some lk]at d2;obtain ⟨A4,c4,gn,rfl,q1,q2,q3,q4⟩:=d2;refine ρ ?_;refine Jqv (GrN.ext bs) ?_;refine ρn ?_;refine ρ ?_;have bj:=ap.trans bs;have J:=U.trans bj;have a1:Ext cd cd.drew:=(Ext.refl cd).drew;refine drH (λ_=>false) ?_;refine Jst (fuel':=10) 14 [(0,0),(0,1),(0,3)] #[true,true,false,true,false,false,false,false,false,false,false,false,false] (by kernel_rfl) (by kernel_rfl) rfl ?_
  refine ρd ?_;refine Jvb (λj u hu=>((bb.ext J).ext a1).at hu) ?_;refine ρd ?_;refine Jvb (cs:=y.cells) (λj u hu=>((bg.ext J).ext a1).at hu) ?_;refine ρd ?_;refine Jzt ?_;refine hmkS 14 8 _ #[true,true,true,true,true,false,false,false,false,false,false,false,false] [2,4] [117,119] [SF.rw y,SF.nt k] (by kernel_rfl) (by rfl) ?_ ?_
  ·refine gsc (λvs v1 C hd=>?_) ?_
   ·simp only [slM];refine bsl (bs1V y) ?_;intro v2 b2 G bn ab;refine ρ ?_;exact mdone G ⟨b2,rfl,ab⟩
   refine gsc (λvs v1 C hd=>?_) gse
   ·simp only [slM];refine cl (Jfl k (by omega) _) ?_;rintro o v2 ⟨ho,_,G⟩;refine ρ ?_;exact mdone G ho
  intro vs v1 C hd;obtain ⟨bz,ez,cv⟩:=hd 0;have ak:NatV v1 (vs 1) k:=hd 1;obtain ⟨NA,nc,en,_⟩:=id ak;rw [en]at ak;simp only [slM,ez,en];refine Jst (fuel':=0) 14 [(1,5),(0,6),(0,7),(0,8),(0,9),(0,10),(0,11),(0,12)] #[true,true,true,true,true,true,true,true,true,true,true,true,true] (by kernel_rfl) (by kernel_rfl) rfl ?_;refine dcl (within_any (y:=[y]) (bf.ext ((J.trans a1).trans C)) (cv.rd rfl) ak) ?_;rintro u ey ⟨aa,_,ba⟩;refine ⟨aa,?_⟩;have aj:=ba (Nat.succ_le_of_lt hF);unfold AcR at aj;rw [<-be,getD_some lk]at aj;obtain ⟨A5,c5,gm,rfl,p1,p2,p3,p4⟩:=aj;refine ρd ?_;refine Jzt ?_;refine hend (by kernel_rfl) ?_;refine ρ ?_;have ao:=(a1.trans C).trans aa;have du:(L2.getD k []).length<=1100000:=by rw [q3];have:=hOk.fF.2;have:=hOk.nN.2;omega
  refine cl (Jpf (a:=L2.getD k []) (b:=L2.getD k []) ⟨A4,c4,rfl,q2,du,Rd.ext q1 ao⟩ ⟨A5,c5,rfl,p2,du,p1⟩) ?_;rintro _ ew ⟨rfl,ay⟩;rw [decide_eq_true rfl];refine ρ ?_;rw [Qnx (z:=(k:Int)+1) (by omega)];exact Jjv (k+1) sO ⟨by omega,(J.trans ao).trans ay⟩ (by omega)
 ·have hl:k=L2.length:=by have:=oF h;omega
  clear h;refine ρ ?_;have a1:Ext aq aq.drew:=(Ext.refl aq).drew;refine drH (λ_=>false) ?_;refine Jst (fuel':=10) 14 [(0,0),(0,1),(0,3)] #[true,true,false,true,false,false,false,false,false,false,false,false,false] (by kernel_rfl) (by kernel_rfl) rfl ?_;refine ρd ?_;refine Jvb (λj u hu=>((bb.ext U).ext a1).at hu) ?_;refine ρd ?_;refine Jvb (cs:=y.cells) (λj u hu=>((bg.ext U).ext a1).at hu) ?_;refine ρd ?_;refine Jzt ?_;refine hmkS 14 8 _ #[true,true,true,true,true,false,false,false,false,false,false,false,false] [2,4] [140,142] [SF.rw y,SF.nt L2.length] (by kernel_rfl) (by rfl) ?_ ?_
  ·refine gsc (λvs v1 C hd=>?_) ?_
   ·simp only [slM];refine bsl (bs1V y) ?_;intro v2 b2 G bn ab;refine ρ ?_;exact mdone G ⟨b2,rfl,ab⟩
   refine gsc (λvs v1 C hd=>?_) gse
   ·simp only [slM];refine cl (Jfl L2.length (by omega) _) ?_;rintro o v2 ⟨ho,_,G⟩;refine ρ ?_;exact mdone G ho
  intro vs v1 C hd;obtain ⟨bz,ez,cv⟩:=hd 0;have ak:NatV v1 (vs 1) L2.length:=hd 1;obtain ⟨NA,nc,en,_⟩:=id ak;rw [en]at ak;simp only [slM,ez,en];refine Jst (fuel':=0) 14 [(1,5),(0,6),(0,7),(0,8),(0,9),(0,10),(0,11),(0,12)] #[true,true,true,true,true,true,true,true,true,true,true,true,true] (by kernel_rfl) (by kernel_rfl) rfl ?_;refine dcl (within_any (y:=[y]) (bf.ext ((U.trans a1).trans C)) (cv.rd rfl) ak) ?_;rintro u ey ⟨aa,_,ba⟩;refine ⟨aa,?_⟩;have aj:=ba (Nat.succ_le_of_lt hF);unfold AcR at aj;rw [<-be,List.getElem?_eq_none (Nat.le_refl _)]at aj;subst aj;refine ρd ?_;refine Jzt ?_;refine hend (by kernel_rfl) ?_;have aw:=cj.trans (((U.trans a1).trans C).trans aa);refine ρ ?_;refine cl (awake41_any (hTB.ext aw)) ?_;rintro _ ew ⟨rfl,ay⟩;refine ρ ?_;exact Jjq ⟨rfl,aw.trans ay⟩
end Go.Proofs.YtefpailelagbkaaGreatDoor
namespace Go.Proofs.YtefpailelagbkaaGreatDoor
open Go.RowKit Pl Go.Wk
theorem accessFilters_walk{B0:Nat}{w:World}{v:Value}{k:Int}(hTB:TB B0 w)(h:CaseE w v)(hk:0<=k/\k<=255): Ret Tryz.prog 8 [v,.int .u8 k] w λu w'=>u=.bool true/\Ext w w':=by
 obtain ⟨cs,c,rfl,j,i⟩:=h;exact accessFilters_any hTB j i hk
end Go.Proofs.YtefpailelagbkaaGreatDoor
