/- Part 6. -/
import Derived.Test.YtebiphhfkdbpfaaGreatDoorE05
set_option linter.unusedVariables false
set_option maxRecDepth 100000
set_option maxHeartbeats 40000000
namespace Go.Wk
open Go.RowKit
variable {i:Nat}{x:Operand}{t:TypeId}{u v:Value}
section
variable {P:Program} {n:Nat} {al:AL} {w:World} {Q:Exit->Act->World->Prop} {ops:Array Oper} {rest:List Oper} {drest:List (Nat×Oper)} {d ty:Nat} {pos:String} {aft:Array Edge}
theorem fld(hb:∀ w,(Instr.field t v i).run P w=.ok u w)(kk:WL P n ops Q rest ((d,u)::al) w)(hx:ev al x=some v:=by rfl)(hd:Nat.blt d n=true:=by rfl):
  WL P n ops Q (⟨some d,.field t x i,ty,pos,aft,none⟩::rest) al w:=wop hd (λa j=>by simp[execOp,j.ev hx,hb]) kk
theorem dfld(hb:∀ w,(Instr.field t v i).run P w=.ok u w)(kk:WD P n ops Q drest ((d,u)::al) w)(hx:ev al x=some v:=by rfl)(hd:Nat.blt d n=true:=by rfl):
  WD P n ops Q ((0,⟨some d,.field t x i,ty,pos,aft,none⟩)::drest) al w:=dy (λw' _ a j=>by simp[execOp,j.ev hx,hb]) hd kk
end
end Go.Wk
namespace Go.Proofs.YtebiphhfkdbpfaaGreatDoor
open Go.RowKit Pl Go.Wk Bl
attribute [local irreducible] WC WL QX WD WDB WP WN WG WH
variable {ws:List PR}{d i sc:Nat}{P1 Q1 Q2 SA:Option Addr}{v vW vd vl:Value}{w:World}
theorem fldD(b:Bool)(A B:Option Addr)(m c m' c':Nat)(w:World): (Instr.field 58 (.agg #[.bool b,.slice A m c,.slice B m' c']) 2).run Tryz.prog w=.ok (.slice B m' c') w:=kr
theorem fldN(b:Bool)(A B:Option Addr)(m c m' c':Nat)(w:World): (Instr.field 58 (.agg #[.bool b,.slice A m c,.slice B m' c']) 1).run Tryz.prog w=.ok (.slice A m c) w:=kr
theorem Qnj{b:Bool}{P2 P3 m1 c1 m2 c2:Nat}{sizes:List Nat}(hW:GX 3 RtC Nn w vW ws)(hS:Rd w 1 SA sizes.length (Jb (nz sizes)))(hl:sizes.length=ws.length)(hn:∀ q∈ws,0<=q.sign/\q.num<18446744073709551616):
  Ret Tryz.prog 54 [.agg #[vW,.slice P1 P2 P3,.bool b,.slice Q1 m1 c1,.slice Q2 m2 c2],.slice SA sizes.length sc] w λu w'=>u=.int .i64 0/\Ext w w':=by
 obtain⟨W1,W2,_,rfl,_,a6,a4,_,a5⟩:=id hW.el;refine Jz Tryz.func54 Tryz.ntmps54 rfl kr rfl ?_;refine ρ ?_;refine bx (cs:=[.slice W1 ws.length W2,.slice P1 P2 P3,.bool b,.slice Q1 m1 c1,.slice Q2 m2 c2]) ?_;intro w1 b1 Z a8 O;refine ρ ?_;refine ld (O.at (i:=0) rfl) ?_;refine ρ ?_;refine cf ?_ ?_
 .simp;omega
 refine ρ ?_;refine Jr (fun (i:Nat)=>[(2,.pointer (some ⟨b1,0,none⟩)),(13,.slice SA sizes.length sc),(14,.int .i64 (sizes.length:Int)),(15,.int .i64 (i:Int))]) (λi w'=>i<=sizes.length/\Ext w1 w') (λi=>sizes.length-i) 0 sB ⟨Nat.zero_le _,Ext.refl _⟩ ?_;rintro i w2 ⟨hi,B⟩;have y:=Z.trans B;refine ρ ?_;refine ci (λhc=>?_) (λhc=>?_)
 .have J:i<sizes.length:=by have:=oT hc;omega
  clear hc;have D:i<ws.length:=om
  obtain⟨ce,_,a1,a3⟩:=a5 i D;obtain⟨F1,f1,F2,f2,rfl,a2⟩:=a1.sl;obtain⟨a7,G⟩:=hn _ (List.getElem_mem D);refine ρ ?_;refine ix i (hS.ext y) J ?_;refine ρ ?_;refine ld ((hS.ext y).cell (Xc J)) ?_;refine ρ ?_;refine kf 22 ?_ ?_
  .simp
  refine ρ ?_;refine ld ((O.ext B).at (i:=0) rfl) ?_;refine ρ ?_;refine ixq 3 i (a4.ext y) D ?_;refine ρ ?_;refine lds (λj u hu=>Xf y (a3 j u hu)) ?_;refine ρ ?_;refine cl (Um (a2.ext y) (by have:=Qb G;omega)) ?_;rintro _ w3 ⟨rfl,U⟩;refine ρ ?_;refine cf ?_ ?_
  .simp;omega
  refine ρ ?_;exact Jl (i+1) sO ⟨om,B.trans U⟩ om
 refine ρ ?_;exact Jq ⟨rfl,y⟩
def dnK(ws:List PR)(i:Nat): Nat:=dnm (ws.take i)
theorem Qhz(hi:i<ws.length): dnK ws (i+1)=dnK ws i / Nat.gcd (dnK ws i) ws[i].norm.den*ws[i].norm.den:=by
 unfold dnK dnm;rw[List.take_add_one,List.getElem?_eq_getElem hi,Option.toList_some,List.foldl_append];rfl
theorem Qlr{b:Nat}{q:PR}{i:Int}(hB:Blk w b 40 [vd])(hd:NatX (λk=>k=b) w vd d)(hq:RtX Nn w v q)(hd1:d<4294967296)(hqn:q.num<18446744073709551616)(hqd:q.den<4294967296)(h0:0<q.norm.den)(hqd':q.norm.den<4294967296):
  Ret Tryz.prog 100 [.int .i64 i,v,.pointer (some ⟨b,0,none⟩)] w λu w'=>∃ vd',Blk w' b 40 [vd']/\NatX (λk=>k=b) w' vd' (d / Nat.gcd d q.norm.den*q.norm.den)/\GrN (λk=>k=b) w w':=by
 obtain⟨A1,c1,A2,c2,rfl,a8,a7⟩:=hq.sl;refine Jz Tryz.func100 Tryz.ntmps100 rfl kr rfl ?_;refine ρ ?_;refine bx ?_;intro w1 b1 U ah af;refine ρ ?_;refine lds (cs:=[.bool q.neg,.slice A1 _ c1,.slice A2 _ c2]) (λj u hu=>af.at hu) ?_;refine ρ ?_;refine cl (Zn (N:=Nn) (q:=q) ⟨_,_,rfl,a8.ext U,a7.ext U⟩ hqn hqd) ?_;rintro r w2 ⟨hr,a4⟩;have aa:=hB.lt;obtain⟨R1,r1,R2,r2,rfl,a5,Z⟩:=hr.sl;obtain⟨_,_,er,a5,Z⟩:=hr;cases er
 have a2:=U.trans a4;have ab:0<Nat.gcd d q.norm.den:=Nat.gcd_pos_of_pos_right _ h0;have hl:∀ {k:Nat},k<4294967296->(Jj k).length<=1000:=fun {k} h=>by have:=Qb (n:=k) om;omega
 refine ρ ?_;refine fld (fldD _ _ _ _ _ _ _) ?_;have J:Ext w2 w2.drew:=(Ext.refl w2).drew;have y:=a2.trans J;refine ρ ?_;refine dr [(0,0),(0,1),(0,2),(1,3),(1,4),(0,5),(0,6),(0,7),(0,8),(0,9),(0,10),(0,11)] kr ?_;refine ρd ?_;refine dld ((hB.ext y).at (i:=0) rfl) ?_;refine ρd ?_;refine dld ((hB.ext y).at (i:=0) rfl) ?_;refine ρd ?_;refine dcl (Qlf ((hd.ext y).old λk hk=>hk.elim) ((Z.ext J).old λk hk=>hk.elim) hd1 hqd' h0) ?_;rintro g w3 ⟨hg,D⟩;refine⟨D,?_⟩;refine ρd ?_;refine dcl (Ke ((hd.ext y).ext D).1 hg.1 (hl hd1) ab (Nat.lt_of_le_of_lt (Nat.gcd_le_right _ h0) hqd')) ?_;rintro _ w4 ⟨⟨qv,rv,rfl,a6,ag⟩,O⟩;refine⟨O,?_⟩;refine ρd ?_;have B:=y.trans (D.trans O);refine ρ ?_;refine cl (Vr a6.1 ((Z.ext J).ext (D.trans O)).1 (hl (Nat.lt_of_le_of_lt (Nat.div_le_self _ _) hd1)) (hl hqd')) ?_;rintro mv w5 ⟨a3,ac,a1⟩;have a9:NatX (Ol w4) w5 mv (d / Nat.gcd d q.norm.den*q.norm.den):=⟨a3,λ_ ad m c e hk=>by have:=ac ad m c e;exact absurd (show ad.block<w4.heap.size from hk) om⟩
 obtain⟨M1,m1,rfl⟩:=a3.sl;refine ρ ?_;refine stF (i:=0) (hB.ext (B.trans a1)) rfl ?_;intro w6 ae hg6;have G:GrN (λk=>k=b) w5 w6:=GrN.by hg6 λk e=>by injection e with e;exact e.symm
 refine ρ ?_;exact Vg ⟨_,ae,(a9.old λk hk=>.inl (show k<w4.heap.size by rw[hk];exact nM aa B.size)).gr G,(GrN.ext (B.trans a1)).trans G⟩
theorem Qlq(hl:GX 3 RtC Nn w vl ws)(hd:∀ i,i<=ws.length->dnK ws i<4294967296)(hq:∀ q∈ws,q.num<18446744073709551616/\q.den<4294967296/\0<q.norm.den/\q.norm.den<4294967296):
  Ret Tryz.prog 55 [vl] w λu w'=>NatX Nn w' u (dnm ws)/\Ext w w':=by
 obtain⟨A,c,_,rfl,_,a8,_⟩:=id hl.el;refine Jz Tryz.func55 Tryz.ntmps55 rfl kr rfl ?_;refine ρ ?_;refine cl (Xd 1 (by decide) _) ?_;rintro o w1 ⟨ho,a1⟩;obtain⟨O1,o1,rfl⟩:=ho.1.sl;refine ρ ?_;refine alc (z:=.slice none 0 0) kr ?_;intro w2 b a4 D a7;refine ρ ?_;refine stF (i:=0) a7 rfl ?_;intro w3 a6 a5;have y:Ext w1 w3:=Jt a4 a5 λk e=>by injection e with e;rw[<-e];exact D
 have B:=a1.trans y;have a2:w.heap.size<=b:=nL a1.size D;refine ρ ?_;refine cl (Jhc (λi w'=>Ext w w'/\GX 3 RtC (λk=>k=b) w' (.slice A ws.length c) ws/\∃ J,Blk w' b 40 [J]/\NatX (λk=>k=b) w' J (dnK ws i)) (λi v v' ⟨Z,U,J,O,G⟩ hy=>⟨Z.trans hy,U.ext RtC.sta (by decide) hy,J,O.ext hy,G.ext hy⟩) (λi v ⟨Z,U,O⟩=>U.old RtC.sta (by decide) λk j=>j.elim) (λi hi v u ⟨Z,U,J,O,G⟩ hu=>?_) ⟨B,(hl.old RtC.sta (by decide) λk j=>.inr (by rw[j];exact a2)).ext RtC.sta (by decide) B,_,a6,?_⟩) ?_
 .obtain⟨e1,e2,e3,e4⟩:=hq _ (List.getElem_mem hi);refine(Qlr O G hu (hd i om) e1 e2 e3 e4).mono λr v' ⟨a3,g1,g2,g3⟩=>?_;rw[<-Qhz hi]at g2;exact⟨g3.old Z λk j=>by rw[j];exact a2,U.gr RtC.sta (by decide) g3,a3,g1,g2⟩
 .exact(ho.old λk j=>.inr (by rw[j];exact D)).ext y
 rintro u w4 ⟨Z,U,J,O,G⟩;have e5:dnK ws ws.length=dnm ws:=by unfold dnK;rw[List.take_length]
 rw[e5]at G;obtain⟨D1,d1,rfl⟩:=G.1.sl;refine ρ ?_;refine ld (O.at (i:=0) rfl) ?_;refine ρ ?_;exact Jq ⟨G.old λk j=>False.elim j,Z⟩
open Go.RowKit Pl Go.Wk Bl
variable {K a n:Nat}{u v:Value}{w:World}
theorem Vt(h:n<2^K)(hK:K<=30000): (Jj n).length<=1000:=by
 by_cases h0:n=0
 .subst h0;rw[limbs_0];decide
 have i:=Jwr h0;refine Nat.le_of_not_lt λj=>?_;have y:(4294967296:Nat)=2^32:=by decide
 rw[y,<-Nat.pow_mul]at i;have u:2^K<=2^(32*((Jj n).length-1)):=Nat.pow_le_pow_right (by decide) om;exact absurd (nM (nM h u) i) (Nat.lt_irrefl _)
theorem Jct(h:n<2^K): Jw n<=K:=by
 by_cases h0:n=0
 .subst h0;exact Nat.zero_le _
 refine Nat.le_of_not_lt λi=>?_;have u:=(Uu h0).2;have j:2^K<=2^(Jw n-1):=Nat.pow_le_pow_right (by decide) om;exact absurd (nM (nM h j) u) (Nat.lt_irrefl _)
theorem Qps: ∀ q:Nat,q<=400->(bits .and .i64 (q:Int) 1 == 1)=decide (q % 2=1):=by decide +kernel
theorem Qyl(hv:NatV w v a)(hn:n<=400)(ha:a<4294967296)(hb:a^n<2^K)(hK:K<=30000): Ret Tryz.prog 168 [v,.int .i64 (n:Int)] w λr w'=>(∃ u,r=.tuple #[u,.int .i64 0]/\NatX (Ol w) w' u (a^n))/\Ext w w':=by
 have la:(Jj a).length<=1000:=by have:=Qb (n:=a) om;omega
 refine Jz Tryz.func168 Tryz.ntmps168 rfl kr rfl ?_;refine ρ ?_;refine cl (Zj hv) ?_;rintro v' w' ⟨⟨A,rfl,hA⟩,rfl⟩;have Z:NatV w' (.slice A (Jj a).length (Jj a).length) a:=⟨A,_,rfl,Nat.le_refl _,om,hA⟩;refine ρ ?_;refine cl (Yd Z la) ?_;rintro _ w1 ⟨rfl,rfl⟩;refine ρ ?_;by_cases hn0:n=0
 .subst hn0;refine kt 17 ?_ ?_
  .rfl
  refine ρ ?_;refine cl (Xd 1 (by decide) _) ?_;rintro o w2 ⟨ho,y⟩;refine ρ ?_;exact Xj ⟨⟨_,rfl,by rw[Nat.pow_zero];exact ho⟩,y⟩
 refine kf 17 ?_ ?_
 .exact beq_eq_false_iff_ne.2 om
 refine ρ ?_;refine ci (λi=>?_) (λi=>?_)
 .have U:Jw a=1:=by have:=eq_of_beq i;omega
  have J:a=1:=by
   have h2:=Yg (x:=a);rw[U]at h2;have:a≠0:=by rintro rfl;revert U;decide
   omega
  subst J;refine ρ ?_;refine cl (Xd 1 (by decide) _) ?_;rintro o w2 ⟨ho,y⟩;refine ρ ?_;exact Xj ⟨⟨_,rfl,by rw[Nat.one_pow];exact ho⟩,y⟩
 have a8:Jw a≠1:=λe=>by rw[e]at i;revert i;decide
 clear i;refine ρ ?_;refine ci (λi=>?_) (λi=>?_)
 .have U:Jw a=0:=by have:=eq_of_beq i;omega
  have a5:a=0:=by
   have h2:=Yg (x:=a);rw[U]at h2;omega
  subst a5;refine ρ ?_;refine Xj ⟨⟨_,rfl,?_⟩,Ext.refl _⟩;rw[Nat.zero_pow om];exact⟨NatV.nil _,λh=>absurd rfl h⟩
 have a9:Jw a≠0:=λe=>by rw[e]at i;revert i;decide
 clear i;have ai:2<=a:=by
  have a5:a≠0:=by rintro rfl;exact a9 (by decide)
  have J:a≠1:=by rintro rfl;exact a8 (by decide)
  omega
 have ag:Jw a<=32:=Vs om;have ah:(Jw a-1)*n<65536:=Nat.lt_of_le_of_lt (Nat.mul_le_mul (show Jw a-1<=31 by omega) hn) (by decide);refine ρ ?_;refine kf 26 ?_ ?_
 .exact dF om
 refine ρ ?_;refine kf 30 ?_ ?_
 .exact dF om
 refine ρ ?_;have a3:((Jw a:Int)-1)*(n:Int)=(((Jw a-1)*n:Nat):Int):=by
  rw[Int.natCast_mul,Int.natCast_sub om];rfl
 refine cf ?_ ?_
 .rw[a3,Zt om];exact dF om
 have J:0<a:=om
 have G:∀ k,k<=n->(Jj (a^k)).length<=1000:=λk hk=>Vt (Nat.lt_of_le_of_lt (Nat.pow_le_pow_right J hk) hb) hK;refine ρ ?_;refine cl (Xd 1 (by decide) _) ?_;rintro o w2 ⟨ho,y⟩;refine ρ ?_;rw[Zf (z:=(n:Int)) om];refine cl (Jfs n om _) ?_;rintro _ w3 ⟨rfl,rfl⟩;have hL:Jw n<=9:=Vs om;refine ρ ?_;refine Ju (fun (t:Nat) (ov:Value)=>[(0,.slice A (Jj a).length (Jj a).length),(1,.int .i64 (n:Int)),(7,ov),(8,.int .i64 ((t:Int)-1))])
  (λt ov w'=>t<=9/\NatX (Ol w1) w' ov (a^(n / 2^t))/\Ext w1 w') (λt _=>t) (Jw n) o sB ⟨hL,by rw[Nat.div_eq_of_lt Yg];exact ho,y⟩ ?_
 rintro t ov w4 ⟨ht,B,j⟩;have a2:n / 2^t<=n:=Nat.div_le_self _ _;refine ρ ?_;refine ci (λi=>?_) (λi=>?_)
 .obtain⟨t,rfl⟩:∃ s,t=s+1:=⟨t-1,by have:=oT i;omega⟩;clear i;rw[show((t+1:Nat):Int)-1=(t:Int) by omega];have hd:n / 2^t=2*(n / 2^(t+1))+n / 2^t % 2:=by rw[Nat.pow_succ,<-Nat.div_div_eq_div_mul];omega
  have ac:n / 2^t<=n:=Nat.div_le_self _ _;refine ρ ?_;refine cl (Vr B.1 B.1 (G _ a2) (G _ a2)) ?_;rintro o5 w5 ⟨O,ab,D⟩;have af:=j.size;rw[<-Nat.pow_add]at O;have a6:NatX (Ol w1) w5 o5 (a^(n / 2^(t+1)+n / 2^(t+1))):=⟨O,λ_ ad m c e hk=>by have:=ab ad m c e;exact absurd (show ad.block<w1.heap.size from hk) om⟩;refine ρ ?_;refine Xs rfl rfl om rfl ?_;have es:((n:Int)).fdiv (2^min ((t:Nat):Int).toNat IntKind.i64.bits)=((n / 2^t:Nat):Int):=by rw[Kc n t IntKind.i64.bits,Nat.min_eq_left (by show t<=64;omega)]
  refine Go.Wk.kv 51 (u:=.int .i64 ((n / 2^t:Nat):Int)) (congrArg (Value.int .i64) es) ?_;have a4:=Qps (n / 2^t) om;refine ρ ?_;refine ci (λi=>?_) (λi=>?_)
  .have U:n / 2^t % 2=1:=by rw[a4]at i;exact oT i
   refine ρ ?_;refine cl (Vr O (Z.ext (j.trans D)) (G _ om) la) ?_;rintro o6 w6 ⟨a1,aa,a7⟩;have ae:=D.size;rw[<-Nat.pow_succ,show(n / 2^(t+1)+n / 2^(t+1)).succ=n / 2^t by omega]at a1;refine ρ ?_;exact Js t o6 sB ⟨om,⟨a1,λ_ ad m c e hk=>by have:=aa ad m c e;exact absurd (show ad.block<w1.heap.size from hk) om⟩,(j.trans D).trans a7⟩ om
  have U:n / 2^t % 2=0:=by
   rw[a4]at i;have:=oF i;omega
  rw[show n / 2^(t+1)+n / 2^(t+1)=n / 2^t by omega]at a6;refine ρ ?_;exact Js t o5 sB ⟨om,a6,j.trans D⟩ om
 have h0:t=0:=by have:=oF i;omega
 clear i;subst h0;rw[Nat.pow_zero,Nat.div_one]at B;refine ρ ?_;refine cl (Yd B.1 (G n (Nat.le_refl _))) ?_;rintro _ w5 ⟨rfl,rfl⟩;have hl:Jw (a^n)<=K:=Jct hb;refine ρ ?_;refine cf ?_ ?_
 .exact dF om
 refine ρ ?_;exact Xj ⟨⟨_,rfl,B⟩,j⟩
theorem Qyk(hv:NatV w v a)(hu:NatV w u n)(hn:n<=400)(ha:a<4294967296)(hb:a^n<2^K)(hK:K<=30000): Ret Tryz.prog 109 [v,u] w λr w'=>(∃ u,r=.tuple #[u,.int .i64 0]/\NatX (Ol w) w' u (a^n))/\Ext w w':=by
 refine Jz Tryz.func109 Tryz.ntmps109 rfl kr rfl ?_;refine ρ ?_;refine cl (Jsj hu om) ?_;rintro _ w1 ⟨rfl,rfl⟩;refine ρ ?_;refine cl (Qyl hv hn ha hb hK) ?_;rintro _ w2 ⟨⟨r,rfl,j⟩,i⟩;refine ρ ?_;exact Xj ⟨⟨_,rfl,j⟩,i⟩
open Go.RowKit Pl Go.Wk Bl
variable {sizes:List Nat}{ws:List PR}{K d i sc:Nat}{SA:Option Addr}{v vd vl vr:Value}{w:World}
def Za(q:PR)(d:Nat): Nat:=(PR.norm (PR.mul q (PR.norm ⟨false,d,0⟩))).num
def prK(ws:List PR)(sizes:List Nat)(d i:Nat): Nat:=Vj (ws.take i) (sizes.take i) d
theorem Jms(hi:i<ws.length)(hs:i<sizes.length): prK ws sizes d (i+1)=prK ws sizes d i*sizes[i]^Za ws[i] d:=by
 unfold prK Vj;rw[List.take_add_one,List.take_add_one,List.getElem?_eq_getElem hi,List.getElem?_eq_getElem hs,Option.toList_some,Option.toList_some,List.zip_append (by simp;omega),List.foldl_append];rfl
structure EOk(q:PR)(d:Nat): Prop where
 d64:d<18446744073709551616
 h1:q.num<4294967296
 h2:q.den<4294967296
 h3:(PR.norm ⟨false,d,0⟩).num<4294967296
 h4:(PR.norm ⟨false,d,0⟩).den<4294967296
 h5:q.norm.den*(PR.norm ⟨false,d,0⟩).norm.den<4294967296
 m1:(PR.mul q (PR.norm ⟨false,d,0⟩)).num<18446744073709551616
 m2:(PR.mul q (PR.norm ⟨false,d,0⟩)).den<4294967296
 e:Za q d<=400
structure PrOk(ws:List PR)(sizes:List Nat)(d K:Nat): Prop where
 k:K<=30000
 len:sizes.length=ws.length
 q:∀ q∈ws,EOk q d
 s:∀ s∈sizes,s<4294967296
 p:∀ i,i<=ws.length->prK ws sizes d i<2^K
 f:∀ i (h1:i<ws.length) (h2:i<sizes.length),sizes[i]^Za ws[i] d<2^K
theorem Qyg{b1 b2 b3 b4 r:Nat}{q:PR}(hF:Blk w b1 43 [.int .i64 0])(hD:Blk w b2 40 [vd])(hS:Blk w b3 22 [.slice SA sizes.length sc])(hR:Blk w b4 40 [vr])(hd:NatX (λk=>k=b4) w vd d)(hr:NatX (λk=>k=b4) w vr r)(hs:Rd w 1 SA sizes.length (Jb (nz sizes)))(hq:RtX Nn w v q)(hi:i<sizes.length)(he:EOk q d)(hs32:sizes[i]<4294967296)(hrK:r<2^K)(hfK:sizes[i]^Za q d<2^K)(hK:K<=30000):
  Ret Tryz.prog 106 [.int .i64 (i:Int),v,.pointer (some ⟨b1,0,none⟩),.pointer (some ⟨b2,0,none⟩),.pointer (some ⟨b3,0,none⟩),.pointer (some ⟨b4,0,none⟩)] w λu w'=>∃ vr',Blk w' b4 40 [vr']/\NatX (λk=>k=b4) w' vr' (r*sizes[i]^Za q d)/\GrN (λk=>k=b4) w w':=by
 obtain⟨A1,c1,A2,c2,rfl,ab,aa⟩:=hq.sl;refine Jz Tryz.func106 Tryz.ntmps106 rfl kr rfl ?_;refine ρ ?_;refine bx ?_;intro w1 bq a3 ao ak;refine ρ ?_;refine ld ((hF.ext a3).at (i:=0) rfl) ?_;have O:Ext w1 w1.drew:=(Ext.refl w1).drew;have y:=a3.trans O;have ah:=hR.lt;have a5:NatX Nn w vd d:=hd.old λk hk=>False.elim hk;obtain⟨D1,d1,rfl⟩:=a5.1.sl;refine ρ ?_;refine dr [(0,0),(0,1),(1,2),(1,3),(1,4),(0,5),(0,6)] kr ?_;refine ρd ?_;refine Qw (cs:=[.bool q.neg,.slice A1 (Jj q.num).length c1,.slice A2 (Jj q.den).length c2]) (λj u hu=>(ak.ext O).at hu) ?_;refine ρd ?_;refine dld ((hD.ext y).at (i:=0) rfl) ?_;refine ρd ?_;refine dcl (Qvm (a5.ext y).1 he.d64) ?_;rintro x1 w2 ⟨a7,G⟩;refine⟨G,?_⟩;obtain⟨B1,e1,B2,e2,rfl,au,ar⟩:=a7.sl;refine ρd ?_;refine dcl (Jbj (N:=Nn) (p:=q) ⟨_,_,rfl,(ab.ext y).ext G,(aa.ext y).ext G⟩ a7 he.h1 he.h2 he.h3 he.h4 he.h5) ?_
 rintro x2 w3 ⟨a6,a2⟩;refine⟨a2,?_⟩;obtain⟨C1,f1,C2,f2,rfl,aq,ap⟩:=a6.sl;refine ρd ?_;refine dcl (Zn a6 he.m1 he.m2) ?_;rintro x3 w4 ⟨ai,a1⟩;refine⟨a1,?_⟩;obtain⟨E1,g1,E2,g2,rfl,aj,av⟩:=ai.sl;refine ρd ?_;refine dfld (fldN _ _ _ _ _ _ _) ?_;refine ρd ?_;have D:=y.trans (G.trans (a2.trans a1));refine ρ ?_;refine ld ((hS.ext D).at (i:=0) rfl) ?_;refine ρ ?_;refine ix i (hs.ext D) hi ?_;refine ρ ?_;refine ld ((hs.ext D).cell (Xc hi)) ?_;have an:sizes.getD i 0=sizes[i]:=by simp[List.getD,List.getElem?_eq_getElem hi]
 rw[an];refine ρ ?_;rw[Zf (z:=(sizes[i]:Int)) om];refine cl (Xd sizes[i] om _) ?_;rintro sv w5 ⟨a9,Z⟩;refine ρ ?_;refine cl (Qyk a9.1 (aj.ext Z).1 he.e hs32 hfK hK) ?_;rintro _ w6 ⟨⟨pv,rfl,ac⟩,a8⟩;have B:=D.trans (Z.trans a8);refine ρ ?_;refine ld ((hR.ext B).at (i:=0) rfl) ?_;refine ρ ?_;refine cl (Vr (hr.ext B).1 ac.1 (Vt hrK hK) (Vt hfK hK)) ?_;rintro mv w7 ⟨a4,ag,U⟩;have ae:NatX (Ol w6) w7 mv (r*sizes[i]^Za q d):=⟨a4,λ_ ad m c e hk=>by have:=ag ad m c e;exact absurd (show ad.block<w6.heap.size from hk) om⟩;obtain⟨M1,m1,rfl⟩:=a4.sl;refine ρ ?_;refine stF (i:=0) (hR.ext (B.trans U)) rfl ?_;intro w8 am af;have J:GrN (λk=>k=b4) w7 w8:=GrN.by af λk e=>by injection e with e;exact e.symm
 refine ρ ?_;exact Vg ⟨_,am,(ae.old λk hk=>.inl (show k<w6.heap.size by rw[hk];exact nM ah B.size)).gr J,(GrN.ext (B.trans U)).trans J⟩
theorem Qyc(hl:GX 3 RtC Nn w vl ws)(hd:NatX Nn w vd d)(hs:Rd w 1 SA sizes.length (Jb (nz sizes)))(ho:PrOk ws sizes d K):
  Ret Tryz.prog 57 [vl,.slice SA sizes.length sc,vd] w λu w'=>(∃ v,u=.tuple #[v,.int .i64 0]/\NatX Nn w' v (Vj ws sizes d))/\Ext w w':=by
 obtain⟨A,c,_,rfl,_,ai,_⟩:=id hl.el;obtain⟨D1,d1,rfl⟩:=hd.1.sl;refine Jz Tryz.func57 Tryz.ntmps57 rfl kr rfl ?_;refine ρ ?_;refine bx (cs:=[.slice SA sizes.length sc]) ?_;intro w1 b4 a5 ap af;refine ρ ?_;refine bx (cs:=[.slice D1 _ d1]) ?_;intro w2 b5 Z ao ae;refine ρ ?_;refine cl (Xd 1 (by decide) _) ?_;rintro o w3 ⟨a8,D⟩;obtain⟨O1,o1,rfl⟩:=a8.1.sl;refine ρ ?_;refine alc (z:=.slice none 0 0) kr ?_;intro w4 b8 a3 ag ad;refine ρ ?_;refine alc (z:=.int .i64 0) kr ?_;intro w5 b9 a2 an ah;have aj:=ad.lt;have am:=af.lt;have ak:=ae.lt;have z2:=Z.size;have z3:=D.size;have z4:=a3.size;have z1:=a5.size;refine ρ ?_;refine stF (i:=0) (ad.ext a2) rfl ?_;intro w6 ac hg6;have U:GrN (λk=>k=b8) w5 w6:=GrN.by hg6 λk e=>by injection e with e;exact e.symm
 have aa:=Qs ah U om;refine ρ ?_;refine stF (i:=0) aa rfl ?_;intro w7 a9 hg7;have O:GrN (λk=>k=b9) w6 w7:=GrN.by hg7 λk e=>by injection e with e;exact e.symm
 have ab:=Qs ac O om;have a4:Ext w3 w6:=U.old (a3.trans a2) λk e=>by omega
 have j:Ext w3 w7:=O.old a4 λk e=>by omega
 have a6:=a5.trans (Z.trans D);have y:=a6.trans j;have a1:w.heap.size<=b8:=om
 have a7:NatX (λk=>k=b8) w7 (.slice O1 (Jj 1).length o1) 1:=(a8.old λk B=>.inr (by rw[B];exact ag)).ext j;refine ρ ?_;refine cl (Jhc (λi w'=>Ext w w'/\GX 3 RtC (λk=>k=b8) w' (.slice A ws.length c) ws/\Blk w' b9 43 [.int .i64 0]/\Blk w' b5 40 [.slice D1 (Jj d).length d1]/\Blk w' b4 22 [.slice SA sizes.length sc]/\NatX (λk=>k=b8) w' (.slice D1 (Jj d).length d1) d/\∃ vr,Blk w' b8 40 [vr]/\NatX (λk=>k=b8) w' vr (prK ws sizes d i)) (λi v v' ⟨h1,h2,h3,h4,h5,h6,vr,h7,h8⟩ J=>⟨h1.trans J,h2.ext RtC.sta (by decide) J,h3.ext J,h4.ext J,h5.ext J,h6.ext J,vr,h7.ext J,h8.ext J⟩) (λi v ⟨h1,h2,h3⟩=>h2.old RtC.sta (by decide) λk B=>False.elim B) (λi hi v u ⟨h1,h2,h3,h4,h5,h6,vr,h7,h8⟩ hu=>?_)
  ⟨y,(hl.old RtC.sta (by decide) λk B=>.inr (by rw[B];exact a1)).ext RtC.sta (by decide) y,a9,(ae.ext D).ext j,((af.ext Z).ext D).ext j,(hd.old λk B=>.inr (by rw[B];exact a1)).ext y,_,ab,a7⟩) ?_
 .have G:i<sizes.length:=by rw[ho.len];exact hi
  refine(Qyg h3 h4 h5 h7 h6 h8 (hs.ext h1) hu G (ho.q _ (List.getElem_mem hi)) (ho.s _ (List.getElem_mem G)) (ho.p i om) (ho.f i hi G) ho.k).mono λr v' ⟨vr',g1,g2,g3⟩=>?_;rw[<-Jms hi G]at g2;exact⟨g3.old h1 λk B=>by rw[B];exact a1,h2.gr RtC.sta (by decide) g3,Qs h3 g3 om,Qs h4 g3 om,Qs h5 g3 om,h6.gr g3,vr',g1,g2⟩
 rintro u w8 ⟨h1,h2,h3,h4,h5,h6,vr,h7,h8⟩;have e5:prK ws sizes d ws.length=Vj ws sizes d:=by unfold prK;rw[List.take_length,<-ho.len,List.take_length]
 rw[e5]at h8;obtain⟨V1,v1,rfl⟩:=h8.1.sl;refine ρ ?_;refine ld (h3.at (i:=0) rfl) ?_;refine ρ ?_;refine ld (h7.at (i:=0) rfl) ?_;refine ρ ?_;exact Xj ⟨⟨_,rfl,h8.old λk B=>False.elim B⟩,h1⟩
end Go.Proofs.YtebiphhfkdbpfaaGreatDoor
namespace Go.Wk
open Go.RowKit
variable {d n ty v:Nat}
theorem sl32q{P:Program}{al:AL}{w:World}{Q:Exit->Act->World->Prop}{ops:Array Oper}{rest:List Oper}{pos:String}{aft:Array Edge}{y:Operand}{t yt:TypeId}{k2:IntKind}(hv:v<32)(kk:WL P n ops Q rest ((d,.int .u32 ((2^v:Nat):Int))::al) w)(hy:ev al y=some (.int k2 (v:Int)):=by rfl)(hd:Nat.blt d n=true:=by rfl):
  WL P n ops Q (⟨some d,.binOp .shl t (.const (.int .u32 1)) y yt,ty,pos,aft,none⟩::rest) al w:=by
 rw[<-Jkj hv]at kk;exact wop hd (λa i=>Jqw (x:=.const (.int .u32 1)) rfl hy om i (some d) w) kk
end Go.Wk
namespace Go.Proofs.YtebiphhfkdbpfaaGreatDoor
open Go.RowKit Pl Go.Wk Bl
attribute [local irreducible] WC WL QX WD WDB WP WN WG WH
theorem Jps: ∀(q r:Nat),r<32->Jj (2^(32*q+r))=List.replicate q 0++[UInt32.ofNat (2^r)]
 | 0,r,hr=>by
  have h1:2^r<4294967296:=nM (Nat.pow_lt_pow_right (by decide) hr) (by decide);rw[Nat.mul_zero,Nat.zero_add,Jcr (Nat.pos_iff_ne_zero.1 (Nat.two_pow_pos r)) h1];rfl
 | q+1,r,hr=>by
  have e:2^(32*(q+1)+r)=4294967296*2^(32*q+r):=by
   rw[show 32*(q+1)+r=32+(32*q+r) by omega,Nat.pow_add]
  have ih:=Jps q r hr;have h0:=Nat.two_pow_pos (32*q+r);rw[e];have:=Jpr (c:=0) (m:=2^(32*q+r)) (by show 0+4294967296*_≠0;omega);rw[show(0:UInt32).toNat+4294967296*2^(32*q+r)=4294967296*2^(32*q+r) by show 0+_=_;omega]at this;rw[this,ih];rfl
theorem Qpr{i:Nat}(hi:i<=31000)(w:World): Ret Tryz.prog 112 [.int .i64 (i:Int)] w λu w'=>NatV w' u (2^i)/\Ext w w':=by
 refine Jz Tryz.func112 Tryz.ntmps112 rfl kr rfl ?_;have eq:IntKind.i64.wrap ((i:Int).tdiv 32)=((i / 32:Nat):Int):=by
  rw[show(i:Int).tdiv 32=((i / 32:Nat):Int) from rfl,Zt om]
 have er:(i:Int).tmod 32=((i % 32:Nat):Int):=rfl;refine ρ ?_;refine Kz rfl rfl (by decide) rfl ?_;rw[eq];refine ρ ?_;refine mkn EN (i / 32+1) om (by unfold maxLen;omega) ?_;intro w1 O G a1 hO;have j:Qt w1 w.heap.size (.slice O (i / 32+1) (i / 32+1)) (List.replicate (i / 32+1) 0):=by
  have e:(madeCells (Value.int .u32 0).cells ((i / 32+1)*1)).toList=Nc (List.replicate (i / 32+1) 0):=by rw[Nat.mul_one,<-Iy];exact Vc _ _
  grind
 refine ρ ?_;refine Kz rfl rfl (by decide) rfl ?_;rw[eq];refine ρ ?_;refine wrem rfl rfl (by decide) rfl ?_;rw[er];refine sl32q (v:=i % 32) (Nat.mod_lt _ (by decide)) ?_;refine ρ ?_;rw[Qt,List.length_replicate]at j;refine ix (i / 32) (Rd.own j) om ?_;refine ρ ?_;obtain⟨s1,Z,D,U,s5⟩:=Zw j (q:=i / 32) om (.int .u32 ((UInt32.ofNat (2^(i % 32))).toNat:Int));have hp:2^(i % 32)<4294967296:=nM (Nat.pow_lt_pow_right (by decide) (Nat.mod_lt i (by decide:32 > 0))) (by decide);have ep:((UInt32.ofNat (2^(i % 32))).toNat:Int)=((2^(i % 32):Nat):Int):=by rw[UInt32.toNat_ofNat',Nat.mod_eq_of_lt (show 2^(i % 32)<2^32 from hp)]
 refine Go.Wk.kv 13 (u:=.int .u32 ((UInt32.ofNat (2^(i % 32))).toNat:Int)) (congrArg (Value.int .u32) ep.symm) ?_;refine sto (s1.trans (Qv (by simp))) Z ?_;rw[Vm]at D;have B:Jj (2^i)=(List.replicate (i / 32+1) 0).set (i / 32) (UInt32.ofNat (2^(i % 32))):=by
  have J:=Jps (i / 32) (i % 32) (Nat.mod_lt _ (by decide));rw[Nat.div_add_mod]at J;rw[J,List.replicate_succ',List.set_append_right _ _ (by simp)];simp
 have y:(Jj (2^i)).length=i / 32+1:=by rw[B];simp
 rw[<-B,<-y]at D;refine ρ ?_;refine Jq ⟨⟨O,i / 32+1,by rw[y],om,om,?_⟩,G.setCell U _⟩;rw[<-y]at *;exact Rd.own D
open Go.RowKit Pl Go.Wk Bl Nw
def Uy(K:Nat): Prop:=∀ {v u:Value} {a b:Nat} {w:World},NatV w v a->NatV w u b->a<2^K->b<2^K->0<b->Ret Tryz.prog 102 [v,u] w λr w'=>(∃ x y,r=.tuple #[x,y,.int .i64 0]/\NatX (Ol w) w' x (a / b)/\NatX (Ol w) w' y (a % b))/\Ext w w'
theorem Jsw: Uy 32:=λi j y u h0=>Ke i j (Vt y (by decide)) h0 u
theorem Qcw{v:Value}{p n K:Nat}{w:World}(hv:NatV w v p)(hn:2<=n)(hn64:n<=64)(hp:1<p)(hK:K<=29000)(hK6:7<=K)(hpK:p<2^K)(hx0:(2^((Jw p+n-1) / n))^(n-1)<2^K)(hdiv:Uy K): Ret Tryz.prog 111 [v,.int .i64 (n:Int)] w λu w'=>(∃ r,NatV w' u r/\Gj p n r)/\Ext w w':=by
 have av:Jw p<=K:=Jct hpK;have b2:1<=Jw p:=(Uu (x:=p) om).1;have ba:(Jw p+n-1) / n<=K:=by
  refine nL (Nat.div_le_of_le_mul (m:=Jw p+n-1) (k:=n) (n:=Jw p) ?_) av;obtain⟨l,hl⟩:∃ l,Jw p=l+1:=⟨Jw p-1,om⟩;rw[hl,Nat.mul_succ];have:l<=n*l:=Nat.le_mul_of_pos_left l om;omega
 have aj:p<(2^((Jw p+n-1) / n))^n:=by
  refine nM Yg ?_;rw[<-Nat.pow_mul];refine Nat.pow_le_pow_right (by decide) ?_;have:=Nat.div_add_mod (Jw p+n-1) n;have h2:=Nat.mod_lt (Jw p+n-1) (show n > 0 by omega);rw[Nat.mul_comm];omega
 generalize O:(Jw p+n-1) / n=c at *
 refine Jz Tryz.func111 Tryz.ntmps111 rfl kr rfl ?_;refine ρ ?_;refine cl (Yd hv (Vt hpK om)) ?_;rintro _ w1 ⟨rfl,rfl⟩;have eq:IntKind.i64.wrap (((Jw p:Int)+(n:Int)-1).tdiv (n:Int))=(c:Int):=by
  rw[show(Jw p:Int)+(n:Int)-1=((Jw p+n-1:Nat):Int) by omega,show(((Jw p+n-1:Nat):Int)).tdiv (n:Int)=(((Jw p+n-1) / n:Nat):Int) from rfl,O,Zt om]
 refine ρ ?_;refine Kz rfl rfl om rfl ?_;rw[eq];refine ρ ?_;refine cl (Qpr (i:=c) om _) ?_;rintro x0 w2 ⟨ay,ai⟩;have b9:=Vt hpK om;refine ρ ?_;refine Ju (fun (x:Nat) (xv:Value)=>[(0,v),(1,.int .i64 (n:Int)),(5,xv)]) (λx xv w'=>Ext w1 w'/\NatV w' xv x/\0<x/\x<=2^c/\p<(x+1)^n) (λx _=>x) (2^c) x0 sB ⟨ai,ay,Nat.two_pow_pos c,Nat.le_refl _,Nat.lt_of_lt_of_le aj (Nat.pow_le_pow_left (Nat.le_succ _) n)⟩ ?_;rintro x xv w3 ⟨ah,hX,U,af,ap⟩;have a4:∀ k,k<=n-1->x^k<2^K:=λk hk=>Nat.lt_of_le_of_lt (nL (Nat.pow_le_pow_left af k) (Nat.pow_le_pow_right (Nat.two_pow_pos c) hk)) hx0;have a6:x<2^K:=by have:=a4 1 om;rwa [Nat.pow_one]at this
 have ac:=Vt a6 om;refine ρ ?_;refine cl (Xd 1 (by decide) _) ?_;rintro o w4 ⟨ho,a1⟩;have a8:=ah.trans a1;have aa:((n:Int)-1)=((n-1:Nat):Int):=om
 refine ρ ?_;rw[aa];refine Ju (fun (i:Nat) (bv:Value)=>[(0,v),(1,.int .i64 (n:Int)),(5,xv),(6,bv),(24,.int .i64 ((n-1:Nat):Int)),(25,.int .i64 (i:Int))]) (λi bv w'=>i<=n-1/\Ext w4 w'/\NatV w' bv (x^i)) (λi _=>n-1-i) 0 o sB ⟨Nat.zero_le _,Ext.refl _,by rw[Nat.pow_zero];exact ho.1⟩ ?_;rintro i bv w5 ⟨hi,D,hb⟩;refine ρ ?_;refine ci (λO=>?_) (λO=>?_)
 .have ad:i<n-1:=by have:=oT O;omega
  clear O;refine ρ ?_;refine cl (Vr hb (hX.ext (a1.trans D)) (Vt (a4 i hi) om) ac) ?_;rintro b6 w6 ⟨ae,_,y⟩;rw[<-Nat.pow_succ]at ae;refine ρ ?_;exact Js (i+1) b6 sO ⟨om,D.trans y,ae⟩ om
 have aw:i=n-1:=by have:=oF O;omega
 subst aw;clear O hi;have G:=a8.trans D;refine ρ ?_;refine cl (hdiv (hv.ext G) hb hpK (a4 _ (Nat.le_refl _)) (Nat.pow_pos U)) ?_;rintro _ w6 ⟨⟨qv,rv,rfl,hq,hr⟩,y⟩;have bb:n-1<64:=om
 have an:(n-1)*x<2^(K+6):=by
  rw[Nat.pow_add,Nat.mul_comm];exact Nat.lt_of_le_of_lt (Nat.mul_le_mul_left x (show n-1<=2^6 by omega)) (Nat.mul_lt_mul_of_pos_right a6 (by decide))
 have ao:p / x^(n-1)<2^K:=Nat.lt_of_le_of_lt (Nat.div_le_self _ _) hpK;have am:(n-1)*x+p / x^(n-1)<2^(K+7):=by
  have:2^(K+7)=2^(K+6)+2^(K+6):=by rw[show K+7=K+6+1 by omega,Nat.pow_succ];omega
  have h2:2^K<=2^(K+6):=Nat.pow_le_pow_right (by decide) om;omega
 refine ρ ?_;rw[aa,Zf (z:=((n-1:Nat):Int)) om];refine cl (Xd (n-1) om _) ?_;rintro m7 w7 ⟨au,Z⟩;have az:=G.trans (y.trans Z);refine ρ ?_;refine cl (Vr au.1 (hX.ext (a1.trans (D.trans (y.trans Z)))) (by have:=Qb (n:=n-1) om;omega) ac) ?_;rintro m8 w8 ⟨ar,_,a7⟩;refine ρ ?_;refine cl (Jnt ar ((hq.ext Z).ext a7).1 (Vt an om) (Vt ao om)) ?_;rintro m9 w9 ⟨aq,ag⟩;refine ρ ?_;rw[Zf (z:=(n:Int)) om];refine cl (Xd n om _) ?_;rintro b8 b5 ⟨ab,a2⟩;refine ρ ?_;refine cl (Ke (aq.ext a2) ab.1 (Vt am om) om om) ?_;rintro _ b4 ⟨⟨nv,b7,rfl,a5,b1⟩,a9⟩;have B:=Z.trans (a7.trans (ag.trans (a2.trans a9)));have J:=G.trans (y.trans B);have a3:=hX.ext (a1.trans (D.trans (y.trans B)));have ak:((n-1)*x+p / x^(n-1)) / n=Nw.step p n x:=rfl;rw[ak]at a5;refine ρ ?_;refine cl (Gt a5.1 a3) ?_
 rintro _ b3 ⟨rfl,j⟩;refine ρ ?_;refine ci (λO=>?_) (λO=>?_)
 .have ax:x<=Nw.step p n x:=by
   have:=oT O;unfold Ze at this;split at this
   .omega
   omega
  refine ρ ?_;exact Jq ⟨⟨x,a3.ext j,Qkj om U ax,ap⟩,J.trans j⟩
 have ad:Nw.step p n x<x:=by
  have:=oF O;unfold Ze at this;split at this
  .assumption
  split at this<;>omega
 refine ρ ?_;exact Js (Nw.step p n x) nv sB ⟨J.trans j,(a5.ext j).1,Qkk om om U,om,Jhx om U⟩ ad
end Go.Proofs.YtebiphhfkdbpfaaGreatDoor
namespace Go.Wk
open Go.RowKit
variable {cs xs:List Value}{base e g j m n t ty:Nat}{w:World}
theorem Blk.rdAt(h:Blk w g t cs)(hl:j+m<=cs.length): Rd w 1 (some ⟨g,j,none⟩) m ((cs.drop j).take m):=by
 refine⟨by simp;omega,λh0=>⟨⟨g,j,none⟩,rfl,h.lt,λi u y=>?_⟩⟩;rw[Ve,h.cell];rw[List.getElem?_take]at y;split at y
 .rw[List.getElem?_drop]at y;exact y
 cases y
theorem stJ{P:Program}{al:AL}{Q:Exit->Act->World->Prop}{ops:Array Oper}{rest:List Oper}{pos:String}{aft:Array Edge}{tt:TT}[h:Tab P tt]{x y:Operand}{bt i:Nat}{k:TK}{v:Value}(hb:Blk w g bt cs)(hu:j+i<cs.length)(kk:∀ w1,Blk w1 g bt (cs.set (j+i) v)->w.grownBy w1 (some g)->WL P n ops Q rest al w1)(ht:tk tt t=some k:=by rfl)(hk:k.size=1:=by rfl)(hp:Zk k.desc=true:=by rfl)(hx:ev al x=some (.pointer (some (adr (some ⟨g,j,none⟩) i))):=by rfl)(hy:ev al y=some v:=by rfl)(hv:v.oneCell'=true:=by rfl):
  WL P n ops Q (⟨none,.store t x y,ty,pos,aft,none⟩::rest) al w:=by
 have e:adr (some ⟨g,j,none⟩) i=⟨g,j+i,none⟩:=by unfold adr;exact Ve _ _ _
 refine sto (u:=cs[j+i]) ?_ ?_ (kk _ ?_ ⟨rfl,rfl,rfl,by simp[World.setCell],λk hk hn=>Below.heap_setCell w _ v k (λB=>hn (by rw[B,e]))⟩) ht hk hp hx hy hv
 .rw[e,hb.cell];exact gE hu
 .rw[e];exact hb.frozen _
 rw[e];exact hb.set _ v
theorem Jnd{O:Option Addr}(h:w.ownsRow base e 1 (.slice O n n) n xs)(h0:0<n): ∃ g,O=some ⟨g,0,none⟩/\base<=g/\Blk w g e xs:=by
 rcases h.2 with⟨i,_⟩|⟨g,cap,cur,i,hb,hh,_,_,hs,ht⟩
 .injection i with _ e2 _;omega
 injection i with e1 _ e3
 refine⟨g,e1,hb,?_⟩;rw[List.take_of_length_le (by simp[hs];omega)]at ht;unfold Blk;rw[hh,<-ht]
end Go.Wk
namespace Go.Proofs.YtebiphhfkdbpfaaGreatDoor
open Go.RowKit Pl Go.Wk Kn
attribute [local irreducible] WC WL QX WD WDB WP WN WG WH
variable {l os us vs:List UInt32}{L b c cv f g gu gv i j k n s t v x y:Nat}{A:Option Addr}{w:World}
theorem Qkv(s:Nat)(h:s<32): (2:Int)^min ((s:Nat):Int).toNat IntKind.u64.bits=((2^s:Nat):Int):=by
 have:min ((s:Nat):Int).toNat IntKind.u64.bits=s:=by simp[IntKind.bits];omega
 rw[this];simp
theorem Qbj(hs:s<32)(hc:c<2^s)(hx:x<4294967296): bits .or .u64 (c:Int) (IntKind.u64.wrap (IntKind.u64.wrap (x:Int)*2^min ((s:Nat):Int).toNat IntKind.u64.bits))=((c+x*2^s:Nat):Int):=by
 have i:2^s<=2^31:=Nat.pow_le_pow_right (by decide) om;have y:x*2^s<=4294967295*2^31:=Nat.mul_le_mul om i;have u:IntKind.u64.wrap (x:Int)=(x:Int):=by rw[IntKind.wrap_u64];omega
 rw[Qkv s hs,u,<-Int.natCast_mul];have j:IntKind.u64.wrap ((x*2^s:Nat):Int)=((x*2^s:Nat):Int):=by rw[IntKind.wrap_u64];omega
 rw[j,u64_or_nat _ _ om om,Nat.or_comm,nat_join s (x*2^s) c (by simp) hc,Nat.add_comm]
theorem Jlj(hL:l.length=L)(hLm:L<=1000)(hr:Rd w 1 A L (Nc l))(hs:s<32):
  Ret Tryz.prog 195 [.slice A L c,.int .u64 (s:Int)] w λr w'=>∃ g os,r=.slice (some ⟨g,0,none⟩) (L+1) (L+1)/\os.length=L+1/\val os=val l*2^s/\w.heap.size<=g/\Blk w' g 63 (Nc os)/\Ext w w':=by
 refine Jz Tryz.func195 Tryz.ntmps195 rfl kr rfl ?_;refine ρ ?_;refine mkn EN (L+1) om (by unfold maxLen;omega) ?_;intro w1 O a5 ad hO;have a3:Qt w1 w.heap.size (.slice O (L+1) (L+1)) ([]++List.replicate (L+1) 0):=by
  have e:(madeCells (Value.int .u32 0).cells ((L+1)*1)).toList=Nc (List.replicate (L+1) 0):=by rw[Nat.mul_one,<-Iy];exact Vc _ _
  grind
 refine ρ ?_;refine Xh (fun (k j:Nat) (os:List UInt32)=>[(0,.slice A L c),(1,.int .u64 (s:Int)),(5,.slice O (L+1) (L+1)),(6,.int .u64 (j:Int)),(13,.int .i64 (L:Int)),(14,.int .i64 (k:Int))])
  (λk j os w2=>Ext w w2/\k<=L/\ShlI l s k j os/\Qt w2 w.heap.size (.slice O (L+1) (L+1)) (os++List.replicate (L+1-k) 0)) (λk _ _=>L-k) 0 0 [] sB
  ⟨a5,Nat.zero_le _,⟨rfl,Nat.two_pow_pos s,by simp[val]⟩,a3⟩ ?_
 rintro k j os w2 ⟨a1,hk,hI,a7⟩;have a6:=hI.len;have a2:=hr.ext a1;have B:(os++List.replicate (L+1-k) (0:UInt32)).length=L+1:=by simp;omega
 have y:=a7;rw[Qt,B]at y;have i:(Nc (os++List.replicate (L+1-k) 0))[k]?=some (.int .u32 (((os++List.replicate (L+1-k) 0).getD k 0).toNat:Int)):=Qv (by rw[B];omega);have store:∀ x:Nat,w2.cell? (adr O k)=(Nc (os++List.replicate (L+1-k) 0))[k]?/\w2.frozen? (adr O k)=false /\
   Qt (w2.setCell (adr O k) (.int .u32 ((UInt32.ofNat x).toNat:Int))) w.heap.size (.slice O (L+1) (L+1)) ((os++[UInt32.ofNat x])++List.replicate (L+1-(k+1)) 0)/\Ext w (w2.setCell (adr O k) (.int .u32 ((UInt32.ofNat x).toNat:Int))):=λx=>by
  obtain⟨Z,U,D,J,s5⟩:=Zw y (q:=k) om (.int .u32 ((UInt32.ofNat x).toNat:Int));refine⟨Z,U,?_,a1.setCell J _⟩;rw[Vm,show L+1-k=(L-k)+1 by omega]at D;have e:=Jkl os (L-k) (UInt32.ofNat x);grind
 refine ρ ?_;refine ci (λh=>?_) (λh=>?_)
 .have a9:k<L:=by have:=oT h;omega
  clear h;have a8:(l.getD k 0).toNat<4294967296:=(l.getD k 0).toNat_lt;obtain⟨G,ab⟩:=hI.step hs rfl;obtain⟨Z,U,D,J⟩:=store (j+(l.getD k 0).toNat*2^s);refine ρ ?_;refine ix k a2 a9 ?_;refine ρ ?_;refine ld (a2.cell (Qv (show k<l.length by omega))) ?_;refine ρ ?_;refine Jqj rfl rfl om rfl ?_;refine ρ ?_;have eo:=Qbj hs hI.lt a8;refine kv 6 (u:=.int .u64 ((j+(l.getD k 0).toNat*2^s:Nat):Int)) (congrArg (Value.int .u64) eo) ?_;refine kv 29 (u:=.int .u32 ((UInt32.ofNat (j+(l.getD k 0).toNat*2^s)).toNat:Int)) (congrArg (Value.int .u32) ((congrArg IntKind.u32.wrap eo).trans (Xu _))) ?_;refine ix k (Rd.own y) om ?_;refine sto (Z.trans i) U ?_;refine ρ ?_;refine Xs rfl rfl (by decide) rfl ?_;rw[Im];refine ρ ?_;exact Qn (k+1) _ _ sO ⟨J,om,G,D⟩ om
 have aa:k=L:=by have:=oF h;omega
 subst aa;clear h;obtain⟨Z,U,D,J⟩:=store j;refine ρ ?_;refine ix k (Rd.own y) om ?_;rw[Xu];refine sto (Z.trans i) U ?_;refine ρ ?_;rw[show k+1-(k+1)=0 by omega,List.replicate_zero,List.append_nil]at D;have a4:(os++[UInt32.ofNat j]).length=k+1:=by simp;omega
 rw[Qt,a4]at D;obtain⟨g,e,hg,hB⟩:=Jnd D om;subst e;refine Jq ⟨g,_,rfl,a4,?_,hg,hB,J⟩;obtain⟨_,h2,h3⟩:=hI;have ac:2^s<=2^31:=Nat.pow_le_pow_right (by decide) om;rw[Xz,a6];simp only[val,UInt32.toNat_ofNat'];rw[List.take_of_length_le om]at h3;rw[show j % 2^32+4294967296*0=j by omega,h3]
theorem Qkw(hL:l.length=L)(hLm:L<=1001)(hr:Rd w 1 A L (Nc l))(hs:s<32):
  Ret Tryz.prog 199 [.slice A L c,.int .u64 (s:Int)] w λr w'=>∃ O os,r=.slice O L L/\os.length=L/\val os=val l / 2^s/\w'.ownsRow w.heap.size 63 1 (.slice O L L) L (Nc os)/\Ext w w':=by
 refine Jz Tryz.func199 Tryz.ntmps199 rfl kr rfl ?_;refine ρ ?_;refine mkn EN L om (by unfold maxLen;omega) ?_;intro w1 O J a5 hO;have D:w1.ownsRow w.heap.size 63 1 (.slice O L L) L (Nc (List.replicate L 0++[])):=by
  have e:(madeCells (Value.int .u32 0).cells (L*1)).toList=Nc (List.replicate L 0):=by rw[Nat.mul_one,<-Iy];exact Vc _ _
  grind
 refine ρ ?_;refine Xh (fun (k hi:Nat) (os:List UInt32)=>[(0,.slice A L c),(1,.int .u64 (s:Int)),(5,.slice O L L),(6,.int .u64 (hi:Int)),(7,.int .i64 ((k:Int)-1))])
  (λk hi os w2=>Ext w w2/\k<=L/\hi<18446744073709551616/\os.length=L-k/\val os=val (l.drop k) / 2^s/\hi % 2^s=val (l.drop k) % 2^s/\w2.ownsRow w.heap.size 63 1 (.slice O L L) L (Nc (List.replicate k 0++os))) (λk _ _=>k) L 0 [] sB
  ⟨J,Nat.le_refl _,by decide,by simp,by rw[List.drop_of_length_le om];simp[val],by rw[List.drop_of_length_le om];simp[val],D⟩ ?_
 rintro k hi os w2 ⟨y,hk,a6,a4,hv,hm,i⟩;have B:=hr.ext y;refine ρ ?_;refine ci (λh=>?_) (λh=>?_)
 .obtain⟨k,rfl⟩:∃ j,k=j+1:=⟨k-1,by grind⟩;clear h;have a2:(l.getD k 0).toNat<4294967296:=(l.getD k 0).toNat_lt;have hp:2^s*2^(32-s)=4294967296:=by rw[<-Nat.pow_add,show s+(32-s)=32 by omega]
  have Z:(hi % 4294967296) % 2^s=val (l.drop (k+1)) % 2^s:=by
   rw[<-hm,Nat.mod_mod_of_dvd _ ⟨2^(32-s),hp.symm⟩]
  obtain⟨U,a1⟩:=Qkt hs (show k<l.length by omega) hv Z;have eo:bits .or .u64 (IntKind.u64.wrap ((hi:Int)*2^min (32:Int).toNat IntKind.u64.bits)) (IntKind.u64.wrap ((l.getD k 0).toNat:Int))=(((hi % 4294967296)*4294967296+(l.getD k 0).toNat:Nat):Int):=by
   have e1:IntKind.u64.wrap ((hi:Int)*2^min (32:Int).toNat IntKind.u64.bits)=IntKind.u64.wrap (((hi % 4294967296:Nat):Int)*2^min (32:Int).toNat IntKind.u64.bits):=by
    have e1:(2:Int)^min (32:Int).toNat IntKind.u64.bits=4294967296:=by decide
    rw[e1];simp only[IntKind.wrap_u64];omega
   rw[e1,Jvk (Nat.mod_lt _ (by decide)) a2]
  obtain⟨s1,s2,G,s4,s5⟩:=Zw i (q:=k) om (.int .u32 ((UInt32.ofNat (((hi % 4294967296)*4294967296+(l.getD k 0).toNat) / 2^s)).toNat:Int));refine ρ ?_;refine Jqj rfl rfl (by decide) rfl ?_;refine ρ ?_;refine ix k B om ?_;refine ρ ?_;refine ld (B.cell (Qv (show k<l.length by omega))) ?_;refine ρ ?_;refine kv 6 (u:=.int .u64 (((hi % 4294967296)*4294967296+(l.getD k 0).toNat:Nat):Int)) (congrArg (Value.int .u64) eo) ?_;refine kv 28 (u:=.int .u64 (((hi % 4294967296)*4294967296+(l.getD k 0).toNat:Nat):Int)) (congrArg (Value.int .u64) eo) ?_;refine Xs rfl rfl om rfl ?_;have er:((((hi % 4294967296)*4294967296+(l.getD k 0).toNat:Nat):Int)).fdiv (2^min ((s:Nat):Int).toNat IntKind.u64.bits)=((((hi % 4294967296)*4294967296+(l.getD k 0).toNat) / 2^s:Nat):Int):=by
   rw[Kc,show min s IntKind.u64.bits=s by simp[IntKind.bits];omega]
  rw[er];refine ρ ?_;refine ix k (Rd.own i) om ?_;rw[Xu];refine sto (s1.trans (Qv (by simp;omega))) s2 ?_;refine ρ ?_;refine Qn k _ (UInt32.ofNat (((hi % 4294967296)*4294967296+(l.getD k 0).toNat) / 2^s)::os) sO ⟨y.setCell s4 _,om,by have:=Nat.mod_lt hi (show 0<4294967296 by decide);omega,by simp;omega,U,a1,?_⟩ om;rw[Vm]at G;have e:(List.replicate (k+1) (0:UInt32)++os).set k (UInt32.ofNat (((hi % 4294967296)*4294967296+(l.getD k 0).toNat) / 2^s))=List.replicate k 0++UInt32.ofNat (((hi % 4294967296)*4294967296+(l.getD k 0).toNat) / 2^s)::os:=by
   rw[List.replicate_succ',List.append_assoc,List.set_append_right _ _ (by simp)];simp
  rw[e]at G;exact G
 have a3:k=0:=by have:=oF h;omega
 subst a3;refine ρ ?_;rw[List.replicate_zero,List.nil_append]at i;exact Jq ⟨O,os,rfl,om,hv,i,y⟩
theorem Jhw(hx:x<4294967296)(hb:b<=1)(hy:y<4294967296): IntKind.u64.wrap (IntKind.u64.wrap (IntKind.u64.wrap (x:Int)-(y:Int))-(b:Int))=(dif x b y:Int):=by
 unfold dif;simp only[IntKind.wrap_u64];omega
theorem Qrg(h:x<18446744073709551616): bits .and .u64 (x:Int) 4294967295=((x % 4294967296:Nat):Int):=by
 rw[show(4294967295:Int)=((4294967295:Nat):Int) from rfl,u64_and_nat _ _ h (by decide)];congr 1
 exact Nat.and_two_pow_sub_one_eq_mod x 32
theorem Qdn(hv:v<4294967296)(h:c+f*v<18446744073709551616): IntKind.u64.wrap ((c:Int)+IntKind.u64.wrap ((f:Int)*IntKind.u64.wrap (v:Int)))=((c+f*v:Nat):Int):=by
 have i:IntKind.u64.wrap (v:Int)=(v:Int):=by rw[IntKind.wrap_u64];omega
 rw[i,<-Int.natCast_mul];generalize f*v=z at *
 simp only[IntKind.wrap_u64];omega
def mid(us:List UInt32)(j i:Nat)(os:List UInt32): List UInt32:=us.take j++os++us.drop (j+i)
theorem Jwm(h:os.length=i)(hl:j+i<=us.length): (mid us j i os).length=us.length:=by simp[mid];omega
theorem Jch(h:os.length=i)(hl:j+i<=us.length)(hk:i<=k): (mid us j i os).getD (j+k) 0=us.getD (j+k) 0:=by
 unfold mid;rw[List.getD,List.getElem?_append_right (by simp;omega),List.getElem?_drop,List.getD];congr 2
 simp;omega
theorem Jwl(x:UInt32)(h:os.length=i)(hl:j+i<us.length): (mid us j i os).set (j+i) x=mid us j (i+1) (os++[x]):=by
 unfold mid;have u:(us.take j++os).length=j+i:=by simp;omega
 rw[List.set_append_right _ _ om,u,Nat.sub_self,List.drop_eq_getElem_cons hl,List.set_cons_zero,show j+i+1=j+(i+1) by omega];simp
theorem Jnz(us:List UInt32)(j:Nat): mid us j 0 []=us:=by simp[mid]
abbrev prt(us:List UInt32)(j n:Nat): List UInt32:=(us.drop j).take (n+1)
theorem Jbm(h:i<=n): (prt us j n).getD i 0=us.getD (j+i) 0:=by
 simp only[prt,List.getD,List.getElem?_take,List.getElem?_drop];rw[if_pos om]
theorem adrJ(g j i:Nat): adr (some ⟨g,j,none⟩) i=⟨g,j+i,none⟩:=by unfold adr;exact Ve _ _ _
theorem Jzk(h:Blk w g t (Nc us))(hl:j+i<us.length): w.cell? (adr (some ⟨g,j,none⟩) i)=some (.int .u32 ((us.getD (j+i) 0).toNat:Int)):=by
 rw[adrJ,h.cell,Qv hl]
theorem Qkd(hU:Blk w gu 63 (Nc us))(hV:Blk w gv 63 (Nc vs))(hne:gv≠gu)(hj:j+n+1<=us.length)(hn:n<=vs.length)(hn1:n<=1000)(hf:f<4294967296):
  Ret Tryz.prog 197 [.slice (some ⟨gu,j,none⟩) (n+1) c,.slice (some ⟨gv,0,none⟩) n cv,.int .u64 (f:Int)] w λr w'=>∃ neg os,r=.bool (neg == 1)/\neg<=1/\os.length=n+1/\val os+f*val (vs.take n)=val (prt us j n)+4294967296^(n+1)*neg/\Blk w' gu 63 (Nc (mid us j (n+1) os))/\w.grownBy w' (some gu):=by
 refine Jz Tryz.func197 Tryz.ntmps197 rfl kr rfl ?_;refine ρ ?_;have a6:(vs.take n).length=n:=by simp;omega
 refine Jql (fun (i y b:Nat) (os:List UInt32)=>[(0,.slice (some ⟨gu,j,none⟩) (n+1) c),(1,.slice (some ⟨gv,0,none⟩) n cv),(2,.int .u64 (f:Int)),(7,.int .u64 (y:Int)),(8,.int .u64 (b:Int)),(13,.int .i64 (n:Int)),(14,.int .i64 (i:Int))])
  (λi y b os w2=>i<=n/\SbI (prt us j n) (vs.take n) f i y b os/\Blk w2 gu 63 (Nc (mid us j i os))/\w.grownBy w2 (some gu)) (λi _ _ _=>n-i) 0 0 0 [] sB
  ⟨Nat.zero_le _,⟨rfl,by decide,by decide,by simp[val]⟩,by rw[Jnz];exact hU,Xq (Ext.refl w) _⟩ ?_
 rintro i y b os w2 ⟨hi,hI,hB,hg⟩;have B:=hI.len;have a3:Blk w2 gv 63 (Nc vs):=hV.grown hg (λe=>hne (by injection e));have O:=Jwm (us:=us) (j:=j) B om;have J:Rd w2 1 (some ⟨gu,j,none⟩) (n+1) (((Nc (mid us j i os)).drop j).take (n+1)):=hB.rdAt (by rw[Zu,O];omega);have a7:Rd w2 1 (some ⟨gv,0,none⟩) n (((Nc vs).drop 0).take n):=a3.rdAt (by rw[Zu];omega);have a2:∀ k,i<=k->k<=n->w2.cell? (adr (some ⟨gu,j,none⟩) k)=some (.int .u32 (((prt us j n).getD k 0).toNat:Int)):=λk h1 h2=>by
  rw[Jzk hB (by rw[O];omega),Jch B om h1,Jbm h2]
 refine ρ ?_;refine ci (λh=>?_) (λh=>?_)
 .have a1:i<n:=by have:=oT h;omega
  clear h;have hx:((prt us j n).getD i 0).toNat<4294967296:=((prt us j n).getD i 0).toNat_lt;have hy:((vs.take n).getD i 0).toNat<4294967296:=((vs.take n).getD i 0).toNat_lt;have aa:w2.cell? (adr (some ⟨gv,0,none⟩) i)=some (.int .u32 (((vs.take n).getD i 0).toNat:Int)):=by
   rw[Jzk a3 om,Nat.zero_add];congr 3
   simp[List.getD,a1]
  obtain⟨U,a4⟩:=hI.step hf rfl rfl;have a5:=Qdn hy a4;refine ρ ?_;refine ix i a7 a1 ?_;refine ρ ?_;refine ld aa ?_;refine ρ ?_;refine kv 7 (u:=.int .u64 ((y+f*((vs.take n).getD i 0).toNat:Nat):Int)) (congrArg (Value.int .u64) a5) ?_;refine ix i J om ?_;refine ρ ?_;refine ld (a2 i (Nat.le_refl _) om) ?_;refine ρ ?_;have ed:IntKind.u64.wrap (IntKind.u64.wrap (IntKind.u64.wrap (((prt us j n).getD i 0).toNat:Int)-bits .and .u64 ((y+f*((vs.take n).getD i 0).toNat:Nat):Int) 4294967295)-(b:Int))=(dif ((prt us j n).getD i 0).toNat b ((y+f*((vs.take n).getD i 0).toNat) % 4294967296):Int):=by
   rw[Qrg a4];exact Jhw hx hI.le (Nat.mod_lt _ (by decide))
  refine kv 10 (u:=.int .u64 (dif ((prt us j n).getD i 0).toNat b ((y+f*((vs.take n).getD i 0).toNat) % 4294967296):Int)) (congrArg (Value.int .u64) ed) ?_;refine kv 39 (u:=.int .u32 ((UInt32.ofNat (dif ((prt us j n).getD i 0).toNat b ((y+f*((vs.take n).getD i 0).toNat) % 4294967296))).toNat:Int)) (congrArg (Value.int .u32) ((congrArg IntKind.u32.wrap ed).trans (Xu _))) ?_;refine ix i J om ?_;refine stJ (j:=j) (i:=i) hB (by rw[Zu,O];omega) ?_;intro w3 G Z;rw[Vm,Jwl _ B om]at G;refine ρ ?_;refine Xs rfl rfl (by decide) rfl ?_;rw[Jkh];refine ρ ?_;refine Xs rfl rfl (by decide) rfl ?_;rw[Im];refine ρ ?_;exact Un (i+1) _ _ _ sO ⟨om,U,G,Qr hg Z⟩ om
 have a9:i=n:=by have:=oF h;omega
 subst a9;clear h;have hx:((prt us j i).getD i 0).toNat<4294967296:=((prt us j i).getD i 0).toNat_lt;obtain⟨D,a8⟩:=hI.last a6 rfl;have ed:IntKind.u64.wrap (IntKind.u64.wrap (IntKind.u64.wrap (((prt us j i).getD i 0).toNat:Int)-(y:Int))-(b:Int))=(dif ((prt us j i).getD i 0).toNat b y:Int):=Jhw hx hI.le hI.lt;refine ρ ?_;refine ix i J om ?_;refine ρ ?_;refine ld (a2 i (Nat.le_refl _) om) ?_;refine ρ ?_;refine kv 11 (u:=.int .u64 (dif ((prt us j i).getD i 0).toNat b y:Int)) (congrArg (Value.int .u64) ed) ?_;refine kv 60 (u:=.int .u32 ((UInt32.ofNat (dif ((prt us j i).getD i 0).toNat b y)).toNat:Int)) (congrArg (Value.int .u32) ((congrArg IntKind.u32.wrap ed).trans (Xu _))) ?_;refine ix i J om ?_;refine stJ (j:=j) (i:=i) hB (by rw[Zu,O];omega) ?_;intro w3 G Z;rw[Vm,Jwl _ B om]at G;refine ρ ?_;refine Xs rfl rfl (by decide) rfl ?_;rw[Jkh];refine ρ ?_
 refine Jq ⟨dif ((prt us j i).getD i 0).toNat b y / 9223372036854775808,_,?_,a8,by simp[B],?_,G,Qr hg Z⟩
 .congr 1
  rcases(show dif ((prt us j i).getD i 0).toNat b y / 9223372036854775808=0∨dif ((prt us j i).getD i 0).toNat b y / 9223372036854775808=1 by omega) with e|e<;>rw[e]<;>rfl
 rw[List.take_of_length_le (l:=prt us j i) (by simp;omega)]at D;exact D
theorem Qrl(hU:Blk w gu 63 (Nc us))(hV:Blk w gv 63 (Nc vs))(hne:gv≠gu)(hj:j+n+1<=us.length)(hn:n<=vs.length)(hn1:n<=1000):
  Ret Tryz.prog 198 [.slice (some ⟨gu,j,none⟩) (n+1) c,.slice (some ⟨gv,0,none⟩) n cv] w λr w'=>∃ os k,os.length=n+1/\val os+4294967296^(n+1)*k=val (prt us j n)+val (vs.take n)/\Blk w' gu 63 (Nc (mid us j (n+1) os))/\w.grownBy w' (some gu):=by
 refine Jz Tryz.func198 Tryz.ntmps198 rfl kr rfl ?_;refine ρ ?_;have a6:(vs.take n).length=n:=by simp;omega
 refine Xh (fun (i O:Nat) (os:List UInt32)=>[(0,.slice (some ⟨gu,j,none⟩) (n+1) c),(1,.slice (some ⟨gv,0,none⟩) n cv),(4,.int .u64 (O:Int)),(7,.int .i64 (n:Int)),(8,.int .i64 (i:Int))])
  (λi O os w2=>i<=n/\AddInv (prt us j n) (vs.take n) i O os/\Blk w2 gu 63 (Nc (mid us j i os))/\w.grownBy w2 (some gu)) (λi _ _=>n-i) 0 0 [] sB
  ⟨Nat.zero_le _,⟨rfl,by decide,by simp[val]⟩,by rw[Jnz];exact hU,Xq (Ext.refl w) _⟩ ?_
 rintro i O os w2 ⟨hi,hI,hB,hg⟩;have y:=hI.1;have aa:=hI.2.1;have B:=Jwm (us:=us) (j:=j) y om;refine ρ ?_;refine ci (λh=>?_) (λh=>?_)
 .have a3:i<n:=by have:=oT h;omega
  clear h;have hx:((prt us j n).getD i 0).toNat<4294967296:=((prt us j n).getD i 0).toNat_lt;have hy:((vs.take n).getD i 0).toNat<4294967296:=((vs.take n).getD i 0).toNat_lt;refine ρ ?_;have a2:Ext w2 w2.drew:=(Ext.refl w2).drew;have a4:w.grownBy w2.drew (some gu):=Qr hg (Xq a2 _);have a1:=hB.ext a2;have a5:Blk w2.drew gv 63 (Nc vs):=hV.grown a4 (λe=>hne (by injection e));have D:Rd w2.drew 1 (some ⟨gu,j,none⟩) (n+1) (((Nc (mid us j i os)).drop j).take (n+1)):=a1.rdAt (by rw[Zu,B];omega);have a7:Rd w2.drew 1 (some ⟨gv,0,none⟩) n (((Nc vs).drop 0).take n):=a5.rdAt (by rw[Zu];omega);have Z:w2.drew.cell? (adr (some ⟨gu,j,none⟩) i)=some (.int .u32 (((prt us j n).getD i 0).toNat:Int)):=by
   rw[Jzk a1 (by rw[B];omega),Jch y om (Nat.le_refl _),Jbm hi]
  have a9:w2.drew.cell? (adr (some ⟨gv,0,none⟩) i)=some (.int .u32 (((vs.take n).getD i 0).toNat:Int)):=by
   rw[Jzk a5 om,Nat.zero_add];congr 3
   simp[List.getD,a3]
  have es:IntKind.u64.wrap ((O:Int)+IntKind.u64.wrap (IntKind.u64.wrap (((prt us j n).getD i 0).toNat:Int)+IntKind.u64.wrap (((vs.take n).getD i 0).toNat:Int)))=((O+((prt us j n).getD i 0).toNat+((vs.take n).getD i 0).toNat:Nat):Int):=by
   simp only[IntKind.wrap_u64];omega
  refine dr [(0,0),(0,1),(0,2),(0,3),(0,4),(0,5),(0,6),(0,7),(0,8),(0,9),(0,10),(0,11),(0,12),(0,13)] kr ?_;refine ρd ?_;refine dix i D om ?_;refine ρd ?_;refine dld Z ?_;refine ρd ?_;refine dix i a7 a3 ?_;refine ρd ?_;refine dld a9 ?_;refine ρd ?_;refine ρ ?_;refine kv 4 (u:=.int .u64 ((O+((prt us j n).getD i 0).toNat+((vs.take n).getD i 0).toNat:Nat):Int)) (congrArg (Value.int .u64) es) ?_;refine kv 27 (u:=.int .u32 ((UInt32.ofNat (O+((prt us j n).getD i 0).toNat+((vs.take n).getD i 0).toNat)).toNat:Int)) (congrArg (Value.int .u32) ((congrArg IntKind.u32.wrap es).trans (Xu _))) ?_;refine ix i D om ?_;refine stJ (j:=j) (i:=i) a1 (by rw[Zu,B];omega) ?_;intro w3 J U;rw[Vm,Jwl _ y om]at J;refine ρ ?_;refine Xs rfl rfl (by decide) rfl ?_;rw[Im];refine ρ ?_;exact Qn (i+1) _ _ sO ⟨om,hI.step rfl,J,Qr a4 U⟩ om
 have a8:i=n:=by have:=oF h;omega
 subst a8;clear h;have hx:((prt us j i).getD i 0).toNat<4294967296:=((prt us j i).getD i 0).toNat_lt;have D:Rd w2 1 (some ⟨gu,j,none⟩) (i+1) (((Nc (mid us j i os)).drop j).take (i+1)):=hB.rdAt (by rw[Zu,B];omega);have Z:w2.cell? (adr (some ⟨gu,j,none⟩) i)=some (.int .u32 (((prt us j i).getD i 0).toNat:Int)):=by
  rw[Jzk hB (by rw[B];omega),Jch y om (Nat.le_refl _),Jbm (Nat.le_refl _)]
 obtain⟨kk,G⟩:=Qrk hI a6;have es:IntKind.u32.wrap ((((prt us j i).getD i 0).toNat:Int)+IntKind.u32.wrap (O:Int))=((UInt32.ofNat (((prt us j i).getD i 0).toNat+O)).toNat:Int):=by
  rw[<-Xu];simp only[IntKind.wrap_u32];omega
 refine ρ ?_;refine ix i D om ?_;refine ρ ?_;refine ld Z ?_;refine ρ ?_;refine ix i D om ?_;refine kv 39 (u:=.int .u32 ((UInt32.ofNat (((prt us j i).getD i 0).toNat+O)).toNat:Int)) (congrArg (Value.int .u32) es) ?_;refine stJ (j:=j) (i:=i) hB (by rw[Zu,B];omega) ?_;intro w3 J U;rw[Vm,Jwl _ y om]at J;refine ρ ?_;refine Vg ⟨_,kk,by simp[y],?_,J,Qr hg U⟩;rw[List.take_of_length_le (l:=prt us j i) (by simp;omega)]at G;exact G
open Go.RowKit Pl Go.Wk Kn
variable {al bl l os os2 ul us vl vs:List UInt32}{g i j k la n rest s x:Nat}{AA BA UA VA:Option Addr}{w:World}
theorem Jhh(h:l.length=k+2): val l=((l.getD (k+1) 0).toNat*4294967296+(l.getD k 0).toNat)*4294967296^k+val (l.take k):=by
 have e:l.take (k+2)=l:=List.take_of_length_le om;have j:=Xe (a:=l) (i:=k+1);have u:=Xe (a:=l) (i:=k);rw[show k+1+1=k+2 by omega,e]at j;rw[j,u,Nat.pow_succ];grind
theorem Jhg(h:l.length=k+3): val l=(((l.getD (k+2) 0).toNat*4294967296+(l.getD (k+1) 0).toNat)*4294967296+(l.getD k 0).toNat)*4294967296^k+val (l.take k):=by
 have e:l.take (k+3)=l:=List.take_of_length_le om;have h0:=Xe (a:=l) (i:=k+2);have j:=Xe (a:=l) (i:=k+1);have u:=Xe (a:=l) (i:=k);rw[show k+2+1=k+3 by omega,e]at h0;rw[show k+1+1=k+2 by omega]at j;rw[h0,j,u,show k+2=k+1+1 by omega,Nat.pow_succ,Nat.pow_succ];grind
theorem Jqr(l:List UInt32)(k:Nat): val (l.take k)<4294967296^k:=by
 refine nM (Yp _) (Nat.pow_le_pow_right (by decide) ?_);rw[List.length_take];omega
theorem Qzp(hul:ul.length=k+3)(hvl:vl.length=k+2)(h:val ul<4294967296*val vl): (ul.getD (k+2) 0).toNat<=(vl.getD (k+1) 0).toNat:=by
 have D:=Jhg hul;have B:=Jhh hvl;have u:=Jqr vl k;have i:(vl.getD k 0).toNat<4294967296:=(vl.getD k 0).toNat_lt;generalize (ul.getD (k+2) 0).toNat=a at *
 generalize (ul.getD (k+1) 0).toNat=b at *
 generalize (ul.getD k 0).toNat=c at *
 generalize (vl.getD (k+1) 0).toNat=x at *
 generalize (vl.getD k 0).toNat=y at *
 generalize val (ul.take k)=r at *
 generalize val (vl.take k)=s at *
 have j:0<4294967296^k:=Nat.pow_pos (by decide);generalize 4294967296^k=E at *
 rcases Nat.lt_or_ge x a with hlt|hge
 .exfalso
  have U:(x+1)*(4294967296*4294967296)*E<=a*(4294967296*4294967296)*E:=nO _ (nO _ hlt);have O:(x*4294967296+y)*E+E<=(x*4294967296+4294967296)*E:=by
   have:=nO E (show x*4294967296+y+1<=x*4294967296+4294967296 by omega);rw[Nat.add_mul (x*4294967296+y) 1 E,Nat.one_mul]at this;exact this
  have J:((a*4294967296+b)*4294967296+c)*E=a*(4294967296*4294967296)*E+(b*4294967296+c)*E:=by grind
  have G:(x*4294967296+4294967296)*E*4294967296=(x+1)*(4294967296*4294967296)*E:=by grind
  omega
 exact hge
theorem Jrk(hul:ul.length=k+3)(hvl:vl.length=k+2)(hv1:2147483648<=(vl.getD (k+1) 0).toNat)(hinv:rest+g*(vl.getD (k+1) 0).toNat=(ul.getD (k+2) 0).toNat*4294967296+(ul.getD (k+1) 0).toNat)(hq:val ul / val vl<=g∨((ul.getD (k+2) 0).toNat*4294967296+(ul.getD (k+1) 0).toNat)*4294967296+(ul.getD k 0).toNat<(g+1)*((vl.getD (k+1) 0).toNat*4294967296+(vl.getD k 0).toNat))(hg:g<4294967296)(hgv:g*(vl.getD k 0).toNat<=rest*4294967296+(ul.getD k 0).toNat): val ul / val vl<=g/\g<=val ul / val vl+1:=by
 have j:=Jhg hul;have i:=Jhh hvl;refine Qgl (B:=0) (E:=4294967296^k) (P':=val (ul.take k)) (V':=val (vl.take k)) (Nat.pow_pos (by decide)) j (Jqr _ _) i (Jqr _ _) ?_ ?_ hq ?_
 .omega
 .rw[Nat.mul_add,<-Nat.mul_assoc];generalize g*(vl.getD (k+1) 0).toNat=z at *
  omega
 omega
theorem Qgm{T r a u b:Nat}(h:r+a=T)(h1:r*4294967296+u<b): T*4294967296+u<a*4294967296+b:=by
 rw[<-h,Nat.add_mul,Nat.add_comm (r*4294967296),Nat.add_assoc];exact Nat.add_lt_add_left h1 _
theorem Qgn{c cv:Nat}(hn:n=k+2)(hU:Rd w 1 UA (n+1) (Nc ul))(hV:Rd w 1 VA n (Nc vl))(hul:ul.length=n+1)(hvl:vl.length=n)(hn1:n<=1000)(hv1:2147483648<=(vl.getD (k+1) 0).toNat)(hP:val ul<4294967296*val vl):
  Ret Tryz.prog 196 [.slice UA (n+1) c,.slice VA n cv] w λr w'=>∃ g:Nat,r=.int .u64 (g:Int)/\g<4294967296/\val ul / val vl<=g/\g<=val ul / val vl+1/\Ext w w':=by
 subst hn;have ae:=Qzp hul hvl hP;have a8:(ul.getD (k+2) 0).toNat<4294967296:=(ul.getD (k+2) 0).toNat_lt;have a7:(ul.getD (k+1) 0).toNat<4294967296:=(ul.getD (k+1) 0).toNat_lt;have a6:(ul.getD k 0).toNat<4294967296:=(ul.getD k 0).toNat_lt;have a1:(vl.getD (k+1) 0).toNat<4294967296:=(vl.getD (k+1) 0).toNat_lt;have Z:(vl.getD k 0).toNat<4294967296:=(vl.getD k 0).toNat_lt;have aj:val ul / val vl<=4294967295:=by
  have:=Nat.div_lt_of_lt_mul (m:=val ul) (n:=val vl) (k:=4294967296) (by rw[Nat.mul_comm];exact hP);omega
 have cU:∀ {w':World} (j:Nat),Ext w w'->j<k+3->w'.cell? (adr UA j)=some (.int .u32 ((ul.getD j 0).toNat:Int)):=λj hx hj=>(hU.ext hx).cell (Qv om);have cV:∀ {w':World} (j:Nat),Ext w w'->j<k+2->w'.cell? (adr VA j)=some (.int .u32 ((vl.getD j 0).toNat:Int)):=λj hx hj=>(hV.ext hx).cell (Qv om);have eU:IntKind.u64.wrap ((vl.getD (k+1) 0).toNat:Int)=((vl.getD (k+1) 0).toNat:Int):=by rw[IntKind.wrap_u64];omega
 refine Jz Tryz.func196 Tryz.ntmps196 rfl kr rfl ?_;refine ρ ?_;have y:Ext w w.drew:=(Ext.refl w).drew;refine dr [(0,0),(0,1),(0,2),(0,3),(0,4),(0,5),(0,6),(0,7),(0,8),(0,9),(0,10),(0,11),(0,12),(0,13)] kr ?_;refine ρd ?_;refine dix (k+2) (hU.ext y) om ?_;refine ρd ?_;refine dld (cU (k+2) y om) ?_;refine ρd ?_;refine dshl ?_;refine ρd ?_;refine dix (k+1) (hU.ext y) om ?_;refine ρd ?_;refine dld (cU (k+1) y om) ?_;refine ρd ?_;have O:bits .or .u64 (IntKind.u64.wrap (IntKind.u64.wrap ((ul.getD (k+2) 0).toNat:Int)*2^min (32:Int).toNat IntKind.u64.bits)) (IntKind.u64.wrap ((ul.getD (k+1) 0).toNat:Int))=(((ul.getD (k+2) 0).toNat*4294967296+(ul.getD (k+1) 0).toNat:Nat):Int):=by
  rw[Zf (z:=((ul.getD (k+2) 0).toNat:Int)) om];exact Jvk a8 a7
 obtain⟨T,hT⟩:∃ T,(ul.getD (k+2) 0).toNat*4294967296+(ul.getD (k+1) 0).toNat=T:=⟨_,rfl⟩;rw[hT]at O;have ag:T<18446744073709551616:=om
 have a4:T / (vl.getD (k+1) 0).toNat<=T:=Nat.div_le_self _ _;have ad:IntKind.u64.wrap ((T:Int).tdiv ((vl.getD (k+1) 0).toNat:Int))=((T / (vl.getD (k+1) 0).toNat:Nat):Int):=by
  rw[show(T:Int).tdiv ((vl.getD (k+1) 0).toNat:Int)=((T / (vl.getD (k+1) 0).toNat:Nat):Int) from rfl];generalize T / (vl.getD (k+1) 0).toNat=q at a4 ⊢
  exact Zf om
 have ac:(T:Int).tmod ((vl.getD (k+1) 0).toNat:Int)=((T % (vl.getD (k+1) 0).toNat:Nat):Int):=rfl;refine ρ ?_;refine kv 6 (u:=.int .u64 (T:Int)) (congrArg (Value.int .u64) O) ?_;refine kv 24 (u:=.int .u64 (T:Int)) (congrArg (Value.int .u64) O) ?_;refine ix (k+1) (hV.ext y) om ?_;refine ρ ?_;refine ld (cV (k+1) y om) ?_;refine ρ ?_;refine kv 30 (u:=.int .u64 ((vl.getD (k+1) 0).toNat:Int)) (congrArg (Value.int .u64) eU) ?_;refine Kz rfl rfl om rfl ?_;rw[ad];refine ρ ?_;refine ix (k+1) (hV.ext y) om ?_;refine ρ ?_;refine ld (cV (k+1) y om) ?_;refine ρ ?_;refine kv 38 (u:=.int .u64 ((vl.getD (k+1) 0).toNat:Int)) (congrArg (Value.int .u64) eU) ?_;refine wrem rfl rfl om rfl ?_;rw[ac];refine ρ ?_;have U:T % (vl.getD (k+1) 0).toNat+T / (vl.getD (k+1) 0).toNat*(vl.getD (k+1) 0).toNat=T:=by rw[Nat.mul_comm];exact Nat.mod_add_div _ _
 have af:=Nat.mod_lt T (show 0<(vl.getD (k+1) 0).toNat by omega);have a9:T*4294967296+(ul.getD k 0).toNat<(T / (vl.getD (k+1) 0).toNat+1)*((vl.getD (k+1) 0).toNat*4294967296+(vl.getD k 0).toNat):=by
  have e:(T / (vl.getD (k+1) 0).toNat+1)*(vl.getD (k+1) 0).toNat ≥ T+1:=by rw[Nat.add_mul];omega
  have e1:=nO 4294967296 e;rw[Nat.mul_add,<-Nat.mul_assoc];omega
 refine Ju (fun (g r:Nat)=>[(0,.slice UA (k+2+1) c),(1,.slice VA (k+2) cv),(5,.int .i64 ((k+2:Nat):Int)),(7,.int .u64 (g:Int)),(8,.int .u64 (r:Int))])
  (λg r w'=>Ext w w'/\g<=T/\r<4294967296/\r+g*(vl.getD (k+1) 0).toNat=T/\(val ul / val vl<=g∨T*4294967296+(ul.getD k 0).toNat<(g+1)*((vl.getD (k+1) 0).toNat*4294967296+(vl.getD k 0).toNat))) (λg _=>g) (T / (vl.getD (k+1) 0).toNat) (T % (vl.getD (k+1) 0).toNat) sB
  ⟨y,a4,om,U,.inr a9⟩ ?_
 rintro g r w2 ⟨a5,ah,hr,J,hq⟩;have i:Ext w w2.drew:=a5.drew;refine ρ ?_;refine Xy (fun (t:Bool)=>[(0,.slice UA (k+2+1) c),(1,.slice VA (k+2) cv),(5,.int .i64 ((k+2:Nat):Int)),(7,.int .u64 (g:Int)),(8,.int .u64 (r:Int)),(61,.bool t)])
  (λt w'=>Ext w w'/\(t=true↔4294967295<g∨r*4294967296+(ul.getD k 0).toNat<g*(vl.getD k 0).toNat)) ?_ ?_
 .refine dr [(0,0),(0,1),(0,2),(0,3),(0,4),(0,5),(0,6),(0,7),(0,8),(0,9),(0,10),(0,11),(0,12),(0,13),(0,14),(0,15),(0,16),(0,17),(0,18),(0,19),(0,20),(0,21)] kr ?_;refine ρd ?_;refine dki 42 (λh=>?_) (λh=>?_)
  .have a3:=oT h;refine ρd ?_;exact Jf true sB ⟨i,⟨λ_=>.inl om,λ_=>rfl⟩⟩
  have a3:g<4294967296:=by have:=oF h;omega
  refine ρd ?_;refine dix k (hV.ext i) om ?_;refine ρd ?_;refine dld (cV k i om) ?_;refine ρd ?_;refine dshl ?_;refine ρd ?_;refine dix k (hU.ext i) om ?_;refine ρd ?_;refine dld (cU k i om) ?_;have em:IntKind.u64.wrap ((g:Int)*IntKind.u64.wrap ((vl.getD k 0).toNat:Int))=((g*(vl.getD k 0).toNat:Nat):Int):=by
   rw[Zf (z:=((vl.getD k 0).toNat:Int)) om,<-Int.natCast_mul];have:=Jjk a3 Z;generalize g*(vl.getD k 0).toNat=z at *
   exact Zf om
  refine ρd ?_;rw[Jvk hr a6,em];refine Jf _ sB ⟨i,?_⟩;rw[decide_eq_true_eq];generalize g*(vl.getD k 0).toNat=z at *
  omega
 rintro t w3 ⟨D,ht⟩;refine ρ ?_;refine ci (λh=>?_) (λh=>?_)
 .have hc:=ht.1 h;have ai:1<=g:=by
   rcases Nat.eq_zero_or_pos g with h0|h0
   .subst h0;simp at hc
   exact h0
  obtain⟨g,rfl⟩:∃ x,g=x+1:=⟨g-1,om⟩;have e7:IntKind.u64.wrap (((g+1:Nat):Int)-1)=(g:Int):=by
   rw[show(((g+1:Nat):Int)-1)=(g:Int) by omega];exact Zf om
  have e8:IntKind.u64.wrap ((r:Int)+IntKind.u64.wrap ((vl.getD (k+1) 0).toNat:Int))=((r+(vl.getD (k+1) 0).toNat:Nat):Int):=Qqk om a1;have G:(r+(vl.getD (k+1) 0).toNat)+g*(vl.getD (k+1) 0).toNat=T:=by
   rw[Nat.add_mul,Nat.one_mul]at J;omega
  have a2:val ul / val vl<=g∨T*4294967296+(ul.getD k 0).toNat<(g+1)*((vl.getD (k+1) 0).toNat*4294967296+(vl.getD k 0).toNat):=by
   rcases hc with h1|h1
   .exact .inl om
   right
   rw[Nat.mul_add,<-Nat.mul_assoc];exact Qgm J h1
  refine ρ ?_;refine kv 7 (u:=.int .u64 (g:Int)) (congrArg (Value.int .u64) e7) ?_;refine ix (k+1) (hV.ext D) om ?_;refine ρ ?_;refine ld (cV (k+1) D om) ?_;refine ρ ?_;rw[e8];refine ci (λh2=>?_) (λh2=>?_)
  .have ab:=oT h2;have B:g<4294967296:=by
    rcases Nat.lt_or_ge g 4294967296 with h3|h3
    .exact h3
    have:=nO (vl.getD (k+1) 0).toNat h3;omega
   refine ρ ?_;refine Jq ⟨g,rfl,B,?_⟩;have aa:g*(vl.getD k 0).toNat<=(r+(vl.getD (k+1) 0).toNat)*4294967296+(ul.getD k 0).toNat:=by
    have:=Jjk B Z;omega
   obtain⟨a,b⟩:=Jrk hul hvl hv1 (by rw[hT];exact G) (by rw[hT];exact a2) B aa;exact⟨a,b,D⟩
  have ab:=oF h2;refine ρ ?_;exact Js g (r+(vl.getD (k+1) 0).toNat) sB ⟨D,om,om,G,a2⟩ om
 have hc:¬ (4294967295<g∨r*4294967296+(ul.getD k 0).toNat<g*(vl.getD k 0).toNat):=λe=>by
  have:=ht.2 e;rw[h]at this;cases this
 have B:g<4294967296:=om
 obtain⟨a,b⟩:=Jrk hul hvl hv1 (by rw[hT];exact J) (by rw[hT];exact hq) B om;refine ρ ?_;exact Jq ⟨g,rfl,B,a,b,D⟩
theorem Qdq(h:os.length=i)(hl:j+i<=us.length): mid (mid us j i os) j i os2=mid us j i os2:=by
 unfold mid;have y:(us.take j++os++us.drop (j+i)).take j=us.take j:=by
  rw[List.append_assoc,List.take_append_of_le_length (by simp;omega),List.take_of_length_le (by simp;omega)]
 have u:(us.take j++os++us.drop (j+i)).drop (j+i)=us.drop (j+i):=by
  rw[List.drop_append_of_le_length (by simp;omega),List.drop_of_length_le (by simp;omega),List.nil_append]
 rw[y,u]
theorem Jnx(hl:j+i<=us.length): (mid us j i os).drop j=os++us.drop (j+i):=by
 unfold mid;rw[List.append_assoc,List.drop_append_of_le_length (by simp;omega),List.drop_of_length_le (by simp;omega),List.nil_append]
theorem Qyb(h:os.length=n+1)(hl:j+(n+1)<=us.length): prt (mid us j (n+1) os) j n=os:=by
 unfold prt;rw[Jnx hl,List.take_append_of_le_length om,List.take_of_length_le om]
theorem Jsz{V:Nat}(hV:0<V)(hVn:V<=4294967296^n)(hl:j+(n+1)<=us.length)(hlt:val (us.drop (j+1))<V):
  val (prt us j n)=val (us.drop j)/\val (us.drop j)<4294967296*V/\(os.length=n+1->val os=val (prt us j n) % V->val ((mid us j (n+1) os).drop j)<V/\val (mid us j (n+1) os)+4294967296^j*(val (prt us j n) / V)*V=val us):=by
 have h1:val (us.drop j)=(us.getD j 0).toNat+4294967296*val (us.drop (j+1)):=Jzv om;have hu:(us.getD j 0).toNat<4294967296:=(us.getD j 0).toNat_lt;have G:val (us.drop j)<4294967296*V:=om
 have e:us.drop j=prt us j n++us.drop (j+(n+1)):=by
  unfold prt;rw[<-List.drop_drop,List.take_append_drop]
 have y:(prt us j n).length=n+1:=by simp[prt];omega
 have u:val (us.drop j)=val (prt us j n)+4294967296^(n+1)*val (us.drop (j+(n+1))):=by
  conv=>lhs;rw[e,Xz,y]
 have B:val (us.drop (j+(n+1)))=0:=by
  rcases Nat.eq_zero_or_pos (val (us.drop (j+(n+1)))) with h0|h0
  .exact h0
  exfalso
  have Z:=Nat.mul_le_mul_left (4294967296^(n+1)) h0;have h4:=Nat.mul_le_mul_left 4294967296 hVn;rw[Nat.pow_succ]at Z u;omega
 rw[B,Nat.mul_zero,Nat.add_zero]at u;refine⟨u.symm,G,λD i=>?_⟩;have U:val ((mid us j (n+1) os).drop j)=val os:=by
  rw[Jnx hl,Xz,B,Nat.mul_zero,Nat.add_zero]
 refine⟨by rw[U,i];exact Nat.mod_lt _ hV,?_⟩;have e2:us=us.take j++us.drop j:=(List.take_append_drop j us).symm;have O:val us=val (us.take j)+4294967296^j*val (us.drop j):=by
  conv=>lhs;rw[e2,Xz,List.length_take,Nat.min_eq_left om]
 have J:val (mid us j (n+1) os)=val (us.take j)+4294967296^j*val os:=by
  unfold mid;rw[List.append_assoc,Xz,List.length_take,Nat.min_eq_left om,Xz,B,Nat.mul_zero,Nat.add_zero]
 rw[O,J,i,<-u,Nat.mul_assoc,Nat.add_assoc,<-Nat.mul_add,Nat.mod_add_div']
theorem Qcm(h0:0<x)(h:x<4294967296): Jw x<=32/\32-Jw x<32/\2147483648<=x*2^(32-Jw x)/\x*2^(32-Jw x)<4294967296:=by
 have D:=Vs (x:=x) (k:=32) h;obtain⟨B,j⟩:=Uu (x:=x) om;have i:=Yg (x:=x);have J:2^(Jw x-1)*2^(32-Jw x)=2147483648:=by rw[<-Nat.pow_add,show Jw x-1+(32-Jw x)=31 by omega]
 have G:2^Jw x*2^(32-Jw x)=4294967296:=by rw[<-Nat.pow_add,show Jw x+(32-Jw x)=32 by omega]
 have y:=nO (2^(32-Jw x)) j;have u:=Nat.mul_lt_mul_of_pos_right i (Nat.two_pow_pos (32-Jw x));omega
theorem Qdt(h:x<4294967296)(w:World): Ret Tryz.prog 194 [.int .u32 (x:Int)] w λv w'=>v=.int .i64 ((32-Jw x:Nat):Int)/\w'=w:=by
 have i:=Vs (x:=x) (k:=32) h;refine Jz Tryz.func194 Tryz.ntmps194 rfl kr rfl ?_;refine ρ ?_;refine cl (Jpt x h _) ?_;rintro _ w1 ⟨rfl,rfl⟩;have e:IntKind.i64.wrap ((32:Int)-(Jw x:Int))=((32-Jw x:Nat):Int):=by rw[Zt om];omega
 refine ρ ?_;refine Jq ⟨?_,rfl⟩;first
  | exact congrArg (Value.int .i64) e
  | exact congrArg (Value.int .i64) om
theorem Qld(hn:n=k+2)(hbl:bl.length=n)(hvl:vs.length=n+1)(hvv:val vs=val bl*2^s)(hs:s<32)(hs3:2147483648<=(bl.getD (k+1) 0).toNat*2^s)(hs4:(bl.getD (k+1) 0).toNat*2^s<4294967296):
  val (vs.take n)=val bl*2^s/\val bl*2^s<4294967296^n/\2147483648*4294967296^(k+1)<=val bl*2^s/\2147483648<=((vs.take n).getD (k+1) 0).toNat:=by
 subst hn;have e:bl.take (k+2)=bl:=List.take_of_length_le om;have O:=Xe (a:=bl) (i:=k+1);rw[show k+1+1=k+2 by omega,e]at O;have h2:=Jqr bl (k+1);have hp:2^s*2^(32-s)=4294967296:=by rw[<-Nat.pow_add,show s+(32-s)=32 by omega]
 have B:=Nat.two_pow_pos s;generalize (bl.getD (k+1) 0).toNat=t at *
 generalize val (bl.take (k+1))=lo at *
 have hE:0<4294967296^(k+1):=Nat.pow_pos (by decide);have J:4294967296^(k+2)=4294967296^(k+1)*4294967296:=Nat.pow_succ ..;have y:(t+1)*2^s<=4294967296:=by
  rw[<-hp,Nat.mul_comm (2^s)]at hs4 ⊢;exact nO _ (Nat.lt_of_mul_lt_mul_right hs4)
 have G:val bl*2^s<4294967296^(k+2):=by
  have u:val bl<4294967296^(k+1)*(t+1):=by rw[O,Nat.mul_add];omega
  have U:=Nat.mul_lt_mul_of_pos_right u B;have a3:=Nat.mul_le_mul_left (4294967296^(k+1)) y;rw[Nat.mul_assoc]at U;rw[J];omega
 have D:2147483648*4294967296^(k+1)<=val bl*2^s:=by
  have u:=nO (4294967296^(k+1)) hs3;have U:t*2^s*4294967296^(k+1)=4294967296^(k+1)*t*2^s:=by grind
  have a3:val bl*2^s=lo*2^s+4294967296^(k+1)*t*2^s:=by rw[O,Nat.add_mul]
  omega
 have j:=Xe (a:=vs) (i:=k+2);rw[show k+2+1=k+3 by omega,List.take_of_length_le om,hvv]at j;have Z:(vs.getD (k+2) 0).toNat=0:=by
  rcases Nat.eq_zero_or_pos (vs.getD (k+2) 0).toNat with h0|h0
  .exact h0
  have:=Nat.mul_le_mul_left (4294967296^(k+2)) h0;omega
 rw[Z,Nat.mul_zero,Nat.add_zero]at j;refine⟨j.symm,G,D,?_⟩;have h4:=Xe (a:=vs) (i:=k+1);have h5:=Jqr vs (k+1);have e2:(vs.take (k+2)).getD (k+1) 0=vs.getD (k+1) 0:=by simp[List.getD]
 rw[e2];rw[show k+1+1=k+2 by omega,<-j]at h4;generalize (vs.getD (k+1) 0).toNat=x at *
 rcases Nat.lt_or_ge x 2147483648 with h6|h6
 .exfalso
  have u:=Nat.mul_le_mul_left (4294967296^(k+1)) (show x+1<=2147483648 from h6);rw[Nat.mul_add,Nat.mul_one,Nat.mul_comm _ 2147483648]at u;omega
 exact h6
theorem Qlc{V:Nat}(hn:n=k+2)(hal:al.length=la)(hul:us.length=la+1)(hle:n<=la)(huv:val us=val al*2^s)(hs:s<32)(hV:2147483648*4294967296^(k+1)<=V): val (us.drop (la-n+1))<V:=by
 subst hn;have y:us=us.take (la-(k+2)+1)++us.drop (la-(k+2)+1):=(List.take_append_drop _ us).symm;have D:val us=val (us.take (la-(k+2)+1))+4294967296^(la-(k+2)+1)*val (us.drop (la-(k+2)+1)):=by
  conv=>lhs;rw[y,Xz,List.length_take,Nat.min_eq_left om]
 have i:=Yp al;rw[hal]at i;have j:2^s<=2^31:=Nat.pow_le_pow_right (by decide) om;have u:4294967296^la=4294967296^(la-(k+2)+1)*4294967296^(k+1):=by rw[<-Nat.pow_add];congr 1;omega
 have B:val al*2^s<4294967296^(la-(k+2)+1)*(2147483648*4294967296^(k+1)):=by
  refine nM (Nat.mul_lt_mul_of_pos_right i (Nat.two_pow_pos s)) ?_;rw[u,Nat.mul_assoc];refine Nat.mul_le_mul_left _ ?_;rw[Nat.mul_comm];exact nO _ j
 refine nM ?_ hV;refine Nat.lt_of_mul_lt_mul_left (a:=4294967296^(la-(k+2)+1)) ?_;omega
theorem Jfz(us:List UInt32)(j m:Nat): ((Nc us).drop j).take m=Nc ((us.drop j).take m):=by simp[Nc,List.map_drop,List.map_take]
theorem Qlw(g j c:Nat)(h:¬ c=j): (if c=j then(some ⟨g,0,none⟩:Option Addr) else(some ⟨g,0,none⟩:Option Addr).map λx=>x.add (j*1))=some ⟨g,j,none⟩:=by
 rw[if_neg h,Option.map_some,Ve];simp
theorem Qlg{ca cb:Nat}(hn:n=k+2)(hA:Rd w 1 AA la (Nc al))(hB:Rd w 1 BA n (Nc bl))(hal:al.length=la)(hbl:bl.length=n)(hla:la<=1000)(hle:n<=la)(htop:0<(bl.getD (k+1) 0).toNat):
  Ret Tryz.prog 167 [.slice AA la ca,.slice BA n cb] w λr w'=>∃ Q R qs rs,r=.tuple #[.slice Q (la-n+1) (la-n+1),.slice R n n]/\qs.length=la-n+1/\rs.length=n/\val qs=val al / val bl/\val rs=val al % val bl/\w'.ownsRow w.heap.size 63 1 (.slice Q (la-n+1) (la-n+1)) (la-n+1) (Nc qs)/\w'.ownsRow w.heap.size 63 1 (.slice R n n) n (Nc rs)/\Ext w w':=by
 have b1:(bl.getD (k+1) 0).toNat<4294967296:=(bl.getD (k+1) 0).toNat_lt;obtain⟨c0,a5,bg,bf⟩:=Qcm htop b1;generalize hS:32-Jw (bl.getD (k+1) 0).toNat=s at *
 refine Jz Tryz.func167 Tryz.ntmps167 rfl kr rfl ?_;refine ρ ?_;refine ix (k+1) hB om ?_;refine ρ ?_;refine ld (hB.cell (Qv (show k+1<bl.length by omega))) ?_;refine ρ ?_;refine cl (Qdt b1 _) ?_;rintro _ w1 ⟨rfl,rfl⟩;rw[hS];refine ρ ?_;rw[Zf (z:=(s:Int)) om];refine cl (Jlj hbl om hB a5) ?_;rintro _ w2 ⟨gv,vs,rfl,be,bc,c2,G,aa⟩;refine ρ ?_;refine slh n ?_;refine ρ ?_;refine cl (Jlj hal hla (hA.ext aa) a5) ?_;rintro _ w3 ⟨B,us,rfl,a3,ao,bs,J,an⟩;refine ρ ?_;refine mkn EN (la-n+1) om (by unfold maxLen;omega) ?_;intro w4 O ay b4 _;have af:w4.ownsRow w3.heap.size 63 1 (.slice O (la-n+1) (la-n+1)) (la-n+1) (Nc (List.replicate (la-n+1) 0)):=by
  have e:(madeCells (Value.int .u32 0).cells ((la-n+1)*1)).toList=Nc (List.replicate (la-n+1) 0):=by rw[Nat.mul_one,<-Iy];exact Vc _ _
  rw[<-e];exact b4
 obtain⟨gq,rfl,bt,a9⟩:=Jnd af om;obtain⟨d1,d2,d3,d4⟩:=Qld hn hbl be bc a5 bg bf;have d5:=Qlc hn hal a3 hle ao a5 d3;have ac:0<val bl*2^s:=by
  have:=Nat.mul_le_mul_left 2147483648 (Nat.pow_pos (n:=k+1) (show 0<4294967296 by decide));omega
 generalize hVd:val bl*2^s=V at *
 have ab:gv≠B:=by have:=G.lt;omega
 have bd:gv≠gq:=by have:=(G.ext an).lt;omega
 have ap:B≠gq:=by have:=J.lt;omega
 have ad:=an.trans ay;have az:=aa.trans ad;have b9:w1.heap.size<=B:=nL aa.size bs;have ba:w1.heap.size<=gq:=nL (aa.trans an).size bt;refine ρ ?_;refine Xh (fun (kk:Nat) (us qs:List UInt32)=>[(0,.slice AA la ca),(1,.slice BA n cb),(6,.int .i64 (n:Int)),(7,.int .u64 (s:Int)),(8,.slice (some ⟨gv,0,none⟩) n (n+1)),(9,.slice (some ⟨B,0,none⟩) (la+1) (la+1)),(10,.slice (some ⟨gq,0,none⟩) (la-n+1) (la-n+1)),(11,.int .i64 ((kk:Int)-1))])
  (λkk us qs w'=>Ext w1 w'/\kk<=la-n+1/\us.length=la+1/\qs.length=la-n+1/\Blk w' B 63 (Nc us)/\Blk w' gv 63 (Nc vs)/\Blk w' gq 63 (Nc qs)/\val (us.drop kk)<V/\val qs*V+val us=val al*2^s/\∀ j,j<kk->qs.getD j 0=0) (λkk _ _=>kk) (la-n+1) us (List.replicate (la-n+1) 0) sO
  ⟨az,Nat.le_refl _,a3,by simp,J.ext ay,G.ext ad,a9,d5,?_,λj hj=>by simp[List.getD,hj]⟩ ?_
 .have e0:∀ m,val (List.replicate m (0:UInt32))=0:=λm=>by
   induction m with
   | zero=>rfl
   | succ m ih=>rw[List.replicate_succ];simp[val,ih]
  rw[e0,Nat.zero_mul,Nat.zero_add,ao]
 clear J G a9 d5 ao a3 b4 af;rintro kk us qs w5 ⟨am,c1,a3,ar,J,G,a9,a6,a2,hz⟩;refine ρ ?_;refine ci (λh=>?_) (λh=>?_)
 .obtain⟨j,rfl⟩:∃ j,kk=j+1:=⟨kk-1,by have:=oT h;omega⟩;clear h;obtain⟨p1,p2,p3⟩:=Jsz (us:=us) (os:=(us.drop j).take (n+1)) (j:=j) (n:=n) ac (Nat.le_of_lt d2) om a6;have b3:(prt us j n).length=n+1:=by simp[prt];omega
  have b2:(vs.take n).length=n:=by simp;omega
  refine ρ ?_;refine slb j (j+n+1) ?_ (show j<=j+n+1 by omega) (show j+n+1<=la+1 by omega) (show((j+1:Nat):Int)-1=(j:Int) by omega) (show((j+1:Nat):Int)-1+(n:Int)+1=((j+n+1:Nat):Int) by omega);have ec:(if la+1=j then(some ⟨B,0,none⟩:Option Addr) else(some ⟨B,0,none⟩:Option Addr).map λx=>x.add (j*1))=some ⟨B,j,none⟩:=Qlw B j (la+1) om;have ev:Value.slice (if la+1=j then(some ⟨B,0,none⟩:Option Addr) else(some ⟨B,0,none⟩:Option Addr).map λx=>x.add (j*1)) (j+n+1-j) (la+1-j)=.slice (some ⟨B,j,none⟩) (n+1) (la+1-j):=by rw[ec,show j+n+1-j=n+1 by omega]
  refine ρ ?_;refine kv 12 (u:=.slice (some ⟨B,j,none⟩) (n+1) (la+1-j)) ev ?_;refine kv 52 (u:=.slice (some ⟨B,j,none⟩) (n+1) (la+1-j)) ev ?_;have aq:Rd w5 1 (some ⟨B,j,none⟩) (n+1) (Nc (prt us j n)):=by
   have:=J.rdAt (j:=j) (m:=n+1) (by rw[Zu];omega);rwa [Jfz]at this
  have bm:Rd w5 1 (some ⟨gv,0,none⟩) n (Nc (vs.take n)):=by
   have:=G.rdAt (j:=0) (m:=n) (by rw[Zu];omega);rwa [Jfz,List.drop_zero]at this
  refine cl (Qgn hn aq bm b3 b2 om d4 (by rw[p1,d1];exact p2)) ?_;rintro _ w6 ⟨g,rfl,hg,av,au,D⟩;have ai:=G.ext D;have b7:=a9.ext D;refine ρ ?_;refine cl (Qkd (n:=n) (j:=j) (J.ext D) ai ab om om om hg) ?_;rintro _ w7 ⟨neg,os,rfl,ag,y,a4,a7,hg7⟩;rw[d1]at a4 av au;have U:=ai.grown hg7 (λe=>ab (by injection e));have a8:=b7.grown hg7 (λe=>ap (by injection e with e;exact e.symm));have ak:Ext w1 w7:=Jt (am.trans D) hg7 λq e=>by injection e with e;rw[<-e];exact b9
  have bw:val (prt us j n)<4294967296^(n+1):=by have:=Yp (prt us j n);rwa [b3]at this
  have b5:val os<4294967296^(n+1):=by have:=Yp os;rwa [y]at this
  obtain⟨g0,g1⟩:=digit ac a4 bw b5 ag ⟨av,au⟩;refine ρ ?_;refine Gw (fun (g:Nat) (os:List UInt32)=>[(0,.slice AA la ca),(1,.slice BA n cb),(6,.int .i64 (n:Int)),(7,.int .u64 (s:Int)),(8,.slice (some ⟨gv,0,none⟩) n (n+1)),(9,.slice (some ⟨B,0,none⟩) (la+1) (la+1)),(10,.slice (some ⟨gq,0,none⟩) (la-n+1) (la-n+1)),(11,.int .i64 (((j+1:Nat):Int)-1)),(13,.int .u64 (g:Int))])
   (λg os w'=>Ext w1 w'/\g=val (prt us j n) / V/\os.length=n+1/\val os=val (prt us j n) % V/\Blk w' B 63 (Nc (mid us j (n+1) os))/\Blk w' gv 63 (Nc vs)/\Blk w' gq 63 (Nc qs)) ?_ ?_
  .refine ci (λh=>?_) (λh=>?_)
   .have bo:neg=1:=eq_of_beq h;obtain⟨q1,q2⟩:=g1 bo;have e7:IntKind.u64.wrap ((g:Int)-1)=((val (prt us j n) / V:Nat):Int):=by
     rw[q1];generalize val (prt us j n) / V=z at *
     rw[Zf om];omega
    have bq:(mid us j (n+1) os).length=us.length:=Jwm y om;refine ρ ?_;rw[e7];refine cl (Qrl (n:=n) (j:=j) a7 U ab (by rw[bq];omega) om om) ?_;rintro _ w8 ⟨a1,k2,ae,ah,Z,ax⟩;rw[Qyb y om,d1]at ah;rw[Qdq y om]at Z;have bz:val a1<4294967296^(n+1):=by have:=Yp a1;rwa [ae]at this
    refine ρ ?_;exact Zg (val (prt us j n) / V) a1 sB ⟨Jt ak ax λq e=>by injection e with e;rw[<-e];exact b9,rfl,ae,q2 _ k2 bz ah,Z,U.grown ax (λe=>ab (by injection e)),a8.grown ax (λe=>ap (by injection e with e;exact e.symm))⟩
   have bp:neg=0:=by
    have:neg≠1:=λe=>by rw[e]at h;cases h
    omega
   obtain⟨q1,q2⟩:=g0 bp;refine ρ ?_;exact Zg g os sB ⟨ak,q1,y,q2,a7,U,a8⟩
  clear g0 g1 a4 b5 a7 U a8 hg7 ak y ag av au hg p3;rintro g a1 w8 ⟨bb,rfl,y,bn,Z,b6,aj⟩;obtain⟨_,_,p3⟩:=Jsz (us:=us) (os:=a1) (j:=j) (n:=n) ac (Nat.le_of_lt d2) om a6;obtain⟨p4,p5⟩:=p3 y bn;have bu:val (prt us j n) / V<4294967296:=Nat.div_lt_of_lt_mul (by rw[p1,Nat.mul_comm];exact p2);refine ρ ?_;rw[Xu];refine ix j (aj.rd (n:=la-n+1) (by rw[Zu];omega)) om ?_;refine stJ (j:=0) (i:=j) aj (by rw[Zu];omega) ?_;intro w9 b8 aw;rw[Nat.zero_add,Vm]at b8;refine ρ ?_;refine Qn j (mid us j (n+1) a1) (qs.set j (UInt32.ofNat (val (prt us j n) / V))) sO ⟨Jt bb aw λq e=>by injection e with e;rw[<-e];exact ba,om,by rw[Jwm y om];exact a3,by simp[ar],Z.grown aw (λe=>ap (by injection e)),b6.grown aw (λe=>bd (by injection e)),b8,p4,?_,λi hi=>?_⟩ om
  .have h1:=Jyl (UInt32.ofNat (val (prt us j n) / V)) (show j<qs.length by omega);rw[hz j om,UInt32.toNat_ofNat',Nat.mod_eq_of_lt (show val (prt us j n) / V<2^32 from bu)]at h1;rw[show(0:UInt32).toNat=0 from rfl,Nat.mul_zero,Nat.add_zero]at h1;rw[h1,Nat.add_mul,Nat.add_assoc,Nat.add_comm (4294967296^j*_*V),p5];exact a2
  rw[Jrm _ om];exact hz i om
 have br:kk=0:=by have:=oF h;omega
 subst br;clear h;rw[List.drop_zero]at a6;have ht:val (us.take n)=val us:=by
  have e2:us=us.take n++us.drop n:=(List.take_append_drop _ us).symm;have h6:val us=val (us.take n)+4294967296^n*val (us.drop n):=by
   conv=>lhs;rw[e2,Xz,List.length_take,Nat.min_eq_left om]
  rcases Nat.eq_zero_or_pos (val (us.drop n)) with h0|h0
  .rw[h0]at h6;omega
  have:=Nat.mul_le_mul_left (4294967296^n) h0;omega
 have hp:=Nat.two_pow_pos s;have hq:val qs=val al / val bl:=by
  rw[<-Nat.mul_div_mul_right _ _ hp,hVd,<-a2,Nat.add_comm,Nat.add_mul_div_right _ _ ac,Nat.div_eq_of_lt a6,Nat.zero_add]
 have hr:val us=val al % val bl*2^s:=by
  rw[<-Nat.mul_mod_mul_right,hVd,<-a2,Nat.add_comm,Nat.add_mul_mod_self_right,Nat.mod_eq_of_lt a6]
 refine ρ ?_;refine slh n ?_;refine ρ ?_;have aq:Rd w5 1 (some ⟨B,0,none⟩) n (Nc (us.take n)):=by
  have:=J.rdAt (j:=0) (m:=n) (by rw[Zu];omega);rwa [Jfz,List.drop_zero]at this
 refine cl (Qkw (l:=us.take n) (by simp;omega) om aq a5) ?_;rintro _ w6 ⟨R,rs,rfl,bj,bh,bi,D⟩;refine ρ ?_;refine Xj ⟨_,R,qs,rs,rfl,ar,bj,hq,?_,(a9.ext D).own ba (by rw[Zu,ar];omega) (by unfold maxLen;omega),Io bi am.size,am.trans D⟩;rw[bh,ht,hr,Nat.mul_div_cancel _ hp]
open Go.RowKit Pl Go.Wk Kn
variable {K a b:Nat}
theorem Qdk{v u:Value}{w:World}(hv:NatV w v a)(hu:NatV w u b)(hn:(Jj a).length<=1000)(hb:4294967296<=b):
  Ret Tryz.prog 102 [v,u] w λr w'=>(∃ x y,r=.tuple #[x,y,.int .i64 0]/\NatX (Ol w) w' x (a / b)/\NatX (Ol w) w' y (a % b))/\Ext w w':=by
 have ag:(Jj b).length<=4611686018427387904:=by obtain⟨_,_,_,_,h,_⟩:=hu;exact h
 have a7:2<=(Jj b).length:=by
  rcases Nat.lt_or_ge (Jj b).length 2 with h|h
  .exfalso
   have h1:=Jpq b;have h2:4294967296^(Jj b).length<=4294967296^1:=Nat.pow_le_pow_right (by decide) om;omega
  exact h
 refine Jz Tryz.func102 Tryz.ntmps102 rfl kr rfl ?_;refine ρ ?_;refine cl (Zj hv) ?_;rintro v' w' ⟨⟨A,rfl,ha⟩,rfl⟩;refine ρ ?_;refine cl (Zj hu) ?_;rintro u' D ⟨⟨B,rfl,a6⟩,rfl⟩;refine ρ ?_;refine cf ?_ ?_
 .exact Qjx om
 refine ρ ?_;refine cl (Gt (n:=a) (m:=b) ⟨A,_,rfl,Nat.le_refl _,om,ha⟩ ⟨B,_,rfl,Nat.le_refl _,ag,a6⟩) ?_;rintro t w' ⟨rfl,i⟩;refine ρ ?_;refine ci (λh=>?_) (λh=>?_)
 .have a4:a<b:=by
   have:=oT h;unfold Ze at this;grind
  refine ρ ?_;refine cl (Jzj (ha.ext i) (Jqd _) om) ?_;rintro v' w1 ⟨ho,hx⟩;obtain⟨A',c',rfl,hc,hf⟩:=Jc ho;refine ρ ?_;refine fin3 ⟨⟨.slice none 0 0,_,rfl,?_,?_⟩,i.trans hx⟩
  .rw[Nat.div_eq_of_lt a4];exact NatX.nil _
  rw[Nat.mod_eq_of_lt a4];exact⟨⟨A',c',rfl,hc,om,Rd.own ho⟩,λ_ j m c e hk=>by
   injection e with O e2 e3
   subst O;have:=(hf j.block rfl).1;have:=i.size;have a5:j.block<D.heap.size:=hk;omega⟩
 have ah:b<=a:=by
  have:=oF h;unfold Ze at this;grind
 clear h;have ae:(Jj b).length<=(Jj a).length:=by
  rcases Nat.lt_or_ge (Jj a).length (Jj b).length with h1|h1
  .have:=Jcn h1;omega
  exact h1
 refine ρ ?_;refine cf ?_ ?_
 .exact Qjx om
 refine ρ ?_;obtain⟨l,c,hl,af⟩:=Jcs (n:=b) om;have U:0<((Jj b).getD ((Jj b).length-2+1) 0).toNat:=by
  have e:(Jj b).length-2+1=l.length:=by rw[hl];simp;rw[hl]at a7;simp at a7;omega
  rw[e,hl];simp only[List.getD,List.getElem?_concat_length,Option.getD_some];rcases Nat.eq_zero_or_pos c.toNat with h0|h0
  .exact absurd (UInt32.toNat_inj.1 h0) af
  exact h0
 refine cl (Qlg (k:=(Jj b).length-2) om (ha.ext i) (a6.ext i) rfl rfl hn ae U) ?_;rintro _ w1 ⟨Q,R,qs,rs,rfl,ab,a9,a2,Z,a3,a1,a8⟩;rw[Xo,Xo]at a2 Z;obtain⟨_,_,O,_,ac⟩:=Jc a3;obtain⟨_,_,e2,_,aa⟩:=Jc a1;have J:=Rd.own a3;have G:=Rd.own a1;rw[<-ab]at J ⊢;rw[<-a9]at G ⊢;refine ρ ?_;refine cl (Uf J (Nat.le_refl _) om) ?_;rintro t w3 ⟨rfl,rfl⟩;have kq:=Kw J om;rw[a2]at kq ⊢;refine ρ ?_;refine cl (Uf G (Nat.le_refl _) om) ?_;rintro t w3 ⟨rfl,rfl⟩;have kr:=Kw G om;rw[Z]at kr ⊢;have hs:=i.size;refine ρ ?_;refine fin3 ⟨⟨_,_,rfl,⟨kq,λ_ j m c e hk=>?_⟩,⟨kr,λ_ j m c e hk=>?_⟩⟩,i.trans a8⟩
 .injection e with O e2 e3
  subst O;have:=(ac j.block rfl).1;have a5:j.block<D.heap.size:=hk;omega
 injection e with O e2 e3
 subst O;have:=(aa j.block rfl).1;have a5:j.block<D.heap.size:=hk;omega
theorem divCL(hK:K<=29000): Uy K:=λi j y B h0=>by
 have u:=Vt y om;rename_i a b w;rcases Nat.lt_or_ge b 4294967296 with h|h
 .exact Ke i j u h0 h
 exact Qdk i j u h
open Go.RowKit Pl Go.Wk Bl Nw
variable {K n p sc:Nat}{P1 Q1 Q2 SA:Option Addr}{v vW:Value}{w:World}
theorem Qwx(hv:NatV w v p)(hn:1<=n)(hn64:n<=64)(hK:K<=29000)(hK6:7<=K)(hL:Jw p+n<=K)(hdiv:Uy K): Ret Tryz.prog 58 [v,.int .i64 (n:Int)] w λu w'=>(∃ r,NatV w' u r/\Gj p n r)/\Ext w w':=by
 have D:p<2^K:=nM Yg (Nat.pow_le_pow_right (by decide) om);have y:=Vt D om;have O:=Yg (x:=p);refine Jz Tryz.func58 Tryz.ntmps58 rfl kr rfl ?_;refine ρ ?_;refine cl (Yd hv y) ?_;rintro _ w1 ⟨rfl,rfl⟩;refine ρ ?_;by_cases h1:Jw p<=1
 .have a1:p<=1:=by
   have:2^Jw p<=2^1:=Nat.pow_le_pow_right (by decide) h1;omega
  refine kt 14 ?_ ?_
  .exact decide_eq_true om
  refine ρ ?_;refine cl (Jnr hv y) ?_;rintro u w2 ⟨B,i⟩;refine ρ ?_;refine Jq ⟨⟨p,B,?_⟩,i⟩;rcases(show p=0∨p=1 by omega) with rfl|rfl
  .exact⟨by rw[Nat.zero_pow om];exact Nat.le_refl _,by rw[Nat.zero_add,Nat.one_pow];decide⟩
  exact⟨by rw[Nat.one_pow];exact Nat.le_refl _,Nat.lt_of_lt_of_le (show 1<(1+1)^1 by decide) (Nat.pow_le_pow_right (by decide) hn)⟩
 refine kf 14 ?_ ?_
 .exact dF om
 refine ρ ?_;refine ci (λj=>?_) (λj=>?_)
 .have J:n=1:=by have:=eq_of_beq j;omega
  subst J;refine ρ ?_;refine cl (Jnr hv y) ?_;rintro u w2 ⟨B,i⟩;refine ρ ?_;exact Jq ⟨⟨p,B,by rw[Nat.pow_one];exact Nat.le_refl _,by rw[Nat.pow_one];omega⟩,i⟩
 have a2:n≠1:=λe=>by rw[e]at j;revert j;decide
 have Z:2<=p:=by
  rcases(show p=0∨p=1∨2<=p by omega) with rfl|rfl|h
  .exact absurd (show Jw 0<=1 by decide) h1
  .exact absurd (show Jw 1<=1 by decide) h1
  exact h
 clear j;refine ρ ?_;refine ci (λj=>?_) (λj=>?_)
 .have G:Jw p<=n:=by have:=oT j;omega
  refine ρ ?_;refine cl (Xd 1 (by decide) _) ?_;rintro o w2 ⟨ho,i⟩;refine ρ ?_;exact Jq ⟨⟨1,ho.1,by rw[Nat.one_pow];omega,Nat.lt_of_lt_of_le O (Nat.pow_le_pow_right (by decide) G)⟩,i⟩
 clear j;refine ρ ?_;refine ci (λj=>?_) (λj=>?_)
 .refine ρ ?_;refine cl (Qcw hv om hn64 om hK hK6 D ?_ hdiv) ?_
  .rw[<-Nat.pow_mul];refine Nat.pow_lt_pow_right (by decide) ?_;have h3:=Nat.div_mul_le_self (Jw p+n-1) n;have h4:(Jw p+n-1) / n*(n-1)<=(Jw p+n-1) / n*n:=Nat.mul_le_mul_left _ om;omega
  rintro u w2 ⟨⟨r,B,U⟩,i⟩;refine ρ ?_;exact Jq ⟨⟨r,B,U⟩,i⟩
 exfalso
 have:=oF j;omega
theorem Qjr{b:Bool}{P2 P3 m1 c1 m2 c2 K2:Nat}{ws:List PR}{sizes:List Nat}(hW:GX 3 RtC Nn w vW ws)(hS:Rd w 1 SA sizes.length (Jb (nz sizes)))(hn:∀ q∈ws,0<=q.sign/\q.num<18446744073709551616)(hd:∀ i,i<=ws.length->dnK ws i<4294967296)(hq:∀ q∈ws,q.num<18446744073709551616/\q.den<4294967296/\0<q.norm.den/\q.norm.den<4294967296)(hd1:1<=dnm ws)(hd64:dnm ws<=64)(ho:PrOk ws sizes (dnm ws) K)(hK:K2<=29000)(hK6:7<=K2)(hL:Jw (Vj ws sizes (dnm ws))+dnm ws<=K2)(hdiv:Uy K2):
  Ret Tryz.prog 24 [.agg #[vW,.slice P1 P2 P3,.bool b,.slice Q1 m1 c1,.slice Q2 m2 c2],.slice SA sizes.length sc] w λu w'=>(∃ v r,u=.tuple #[v,.int .i64 0]/\NatV w' v r/\Gj (Vj ws sizes (dnm ws)) (dnm ws) r)/\Ext w w':=by
 obtain⟨W1,W2,_,rfl,_,a4,a6,_,a7⟩:=id hW.el;refine Jz Tryz.func24 Tryz.ntmps24 rfl kr rfl ?_;refine ρ ?_;refine bx (cs:=[.slice W1 ws.length W2,.slice P1 P2 P3,.bool b,.slice Q1 m1 c1,.slice Q2 m2 c2]) ?_;intro w1 b1 G a5 J;refine ρ ?_;refine lds (cs:=[.slice W1 ws.length W2,.slice P1 P2 P3,.bool b,.slice Q1 m1 c1,.slice Q2 m2 c2]) (λj u hu=>J.at hu) ?_;refine ρ ?_;refine cl (Qnj (hW.ext RtC.sta (by decide) G) (hS.ext G) ho.len hn) ?_;rintro _ w2 ⟨rfl,D⟩;refine ρ ?_;refine ld ((J.ext D).at (i:=0) rfl) ?_;have B:=G.trans D;refine ρ ?_;refine cl (Qlq (hW.ext RtC.sta (by decide) B) hd hq) ?_;rintro dv w3 ⟨U,O⟩;refine ρ ?_;refine cl (Jsj U.1 om) ?_;rintro _ w4 ⟨rfl,rfl⟩;refine ρ ?_;refine ld (((J.ext D).ext O).at (i:=0) rfl) ?_;have y:=B.trans O;refine ρ ?_;refine cl (Qyc (hW.ext RtC.sta (by decide) y) U (hS.ext y) ho) ?_;rintro _ w5 ⟨⟨pv,rfl,a2⟩,a1⟩
 refine ρ ?_;refine cl (Qwx a2.1 hd1 hd64 hK hK6 hL hdiv) ?_;rintro rv w6 ⟨⟨r,hr,a3⟩,Z⟩;refine ρ ?_;exact Xj ⟨⟨_,r,rfl,hr,a3⟩,y.trans (a1.trans Z)⟩
open Go.RowKit Pl Go.Wk Bl Nw
abbrev hlf: PR:=⟨false,1,2⟩
theorem Qzn: cvr 216 3 [3,6,5] 7=some ⟨[hlf,hlf,hlf],[hlf,hlf,hlf],⟨false,3,2⟩⟩:=by decide +kernel
theorem Jqp: dnm [hlf,hlf,hlf]=2:=by decide +kernel
theorem Jhm: Vj [hlf,hlf,hlf] [4,4,4] 2=64:=by decide +kernel
theorem Jhn: Ub 3 [3,6,5] 7:=by
 intro v i _;rcases(show v=0∨v=1∨v=2 by omega) with rfl|rfl|rfl
 .exact⟨0,by decide,by decide⟩
 .exact⟨0,by decide,by decide⟩
 exact⟨1,by decide,by decide⟩
theorem Qgd: EOk hlf 2:=⟨by decide,by decide,by decide,by decide +kernel,by decide +kernel,by decide +kernel,by decide +kernel,by decide +kernel,by decide +kernel⟩
theorem Qzm: PrOk [hlf,hlf,hlf] [4,4,4] 2 32:=by
 refine⟨by decide,rfl,λq u=>?_,λs j=>?_,λi hi=>?_,λi y B=>?_⟩
 .simp only[List.mem_cons,List.not_mem_nil,or_false,or_self]at u;rw[u];exact Qgd
 .simp only[List.mem_cons,List.not_mem_nil,or_false,or_self]at j;rw[j];decide
 .have hi:i<=3:=hi;rcases(show i=0∨i=1∨i=2∨i=3 by omega) with rfl|rfl|rfl|rfl<;>decide +kernel
 have y:i<3:=y;have e:4^Za hlf 2<2^32:=by decide +kernel
 rcases(show i=0∨i=1∨i=2 by omega) with rfl|rfl|rfl<;>exact e
end Go.Proofs.YtebiphhfkdbpfaaGreatDoor
namespace Go.Proofs.YtebiphhfkdbpfaaGreatDoor
open Bl
variable {l:List PR}{a n set:Nat}{c f g:Nat->Rat}
def bv(b:Bool): Rat:=if b then 1 else 0
theorem bv_nn(b:Bool): 0<=bv b:=by cases b<;>decide
def wv(ws:List PR)(k:Nat): Rat:=(ws.getD k pr0).val
theorem Qfv(b:Bool): (PR.int b.toNat).val=bv b:=by cases b<;>decide +kernel
theorem Jkf(h:∀ j,j<n->f j<=g j): Jk n f<=Jk n g:=by
 induction n with
 | zero=>simp[Jk]
 | succ n ih=>
  have y:=ih λj i=>h j om;have u:=h n om;rw[Jk,Jk];grind
theorem Jgf(ha:a<l.length)(x:PR)(k:Nat): wv (l.set a x) k=if k=a then x.val else wv l k:=by
 unfold wv;by_cases e:k=a
 .subst e;rw[if_pos rfl];simp[List.getD,ha]
 rw[if_neg e];simp[List.getD,Ne.symm e]
theorem Qzx(ha:a<l.length)(x:PR)(hn:a<n): Jk n (λk=>c k*wv (l.set a x) k)=Jk n (λk=>c k*wv l k)+c a*(x.val-wv l a):=by
 have e:Jk n (λk=>c k*wv (l.set a x) k)=Jk n (λk=>c k*wv l k+if k=a then c a*(x.val-wv l a) else 0):=Zq λk u=>by
  rw[Jgf ha];split
  .rename_i e;subst e;grind
  grind
 rw[e,Jkg,Ys hn λj _ i=>if_neg i,if_pos rfl]
theorem Jmj{n:Nat}{is:List Nat}{xs:List PR}{c:Nat->Rat}(hnd:is.Nodup)(hlt:∀ i∈is,i<n)(hl:is.length=xs.length): ∀ i,i<=is.length->Jk n (λk=>c k*wv (Zx (List.replicate n pr0) is xs i) k)=Jk i (λj=>c (is.getD j 0)*(xs.getD j pr0).val)/\∀ k,k ∉ is.take i->wv (Zx (List.replicate n pr0) is xs i) k=0
 | 0,_=>by
  have h0:∀ k,wv (List.replicate n pr0) k=0:=λk=>by
   unfold wv;simp only[List.getD,List.getElem?_replicate];split<;>exact Gh
  refine⟨?_,λk _=>by rw[Jxd];exact h0 k⟩;rw[Jxd,Gb λk _=>by rw[h0];grind];rfl
 | i+1,hi=>by
  obtain⟨h1,h2⟩:=Jmj (c:=c) hnd hlt hl i om;have hi':i<is.length:=om
  have hn:is[i]<n:=hlt _ (List.getElem_mem _);have hll:is[i]<(Zx (List.replicate n pr0) is xs i).length:=by rw[Ir,List.length_replicate];exact hn
  have hz:wv (Zx (List.replicate n pr0) is xs i) is[i]=0:=h2 _ (λhm=>by
   obtain⟨j,hj,e⟩:=List.getElem_of_mem hm;rw[List.getElem_take]at e;have hj':j<i:=by simp at hj;omega
   have:=(List.getElem_inj hnd).1 e;omega)
  rw[Jkt hi' om];refine⟨?_,λk hk=>?_⟩
  .rw[Qzx hll _ hn,h1,hz,Jk,Ja 0 hi',Ja pr0 (show i<xs.length by omega)];grind
  rw[List.take_add_one,List.getElem?_eq_getElem hi']at hk;simp only[Option.toList_some,List.mem_append,List.mem_singleton,not_or]at hk;rw[Jgf hll,if_neg hk.2];exact h2 k hk.1
theorem Jmk{l:List PR}{is:List Nat}{xs:List PR}(hl:is.length=xs.length){q:PR}: ∀ {i},i<=is.length->q∈Zx l is xs i->q∈l∨q∈xs
 | 0,_,h=>by rw[Jxd]at h;exact .inl h
 | i+1,hi,h=>by
  rw[Jkt om om]at h;rcases List.mem_or_eq_of_mem_set h with h|h
  .exact Jmk hl om h
  exact .inr (h ▸ List.getElem_mem _)
theorem Jdg(E:List Nat)(set:Nat): ∀ i,(Jd E set i).Nodup
 | 0=>List.nodup_nil
 | i+1=>by
  by_cases h1:(E.getD i 0) &&& set=0∨Vv E set i ((E.getD i 0) &&& set)=true
  .rw[Jjq h1];exact Jdg E set i
  rw[Jxv (λe=>h1 (.inl e)) (by cases hs:Vv E set i ((E.getD i 0) &&& set);rfl;exact absurd (.inr hs) h1)];refine List.nodup_append.2 ⟨Jdg E set i,by simp,λa ha b hb e=>?_⟩;rw[List.mem_singleton.1 hb]at e;have:=Jxw ha;omega
structure CvOk(n:Nat)(es:List Nat)(set:Nat)(ws:List PR): Prop where
 len:ws.length=es.length
 nrm:∀ q∈ws,q.Nrm
 nn:∀ q∈ws,0<=q.val
 den:∃ D,0<D/\D<=60/\∀ q∈ws,q.den ∣ D
 cov:∀ v,v<n->set.testBit v=true->1<=Jk es.length λk=>bv ((es.getD k 0).testBit v)*wv ws k
 opt:∀ u:Nat->Rat,(∀ k,0<=u k)->(∀ v,v<n->set.testBit v=true->1<=Jk es.length λk=>bv ((es.getD k 0).testBit v)*u k)->Jk es.length (wv ws)<=Jk es.length u
def Jjp(n:Nat)(es:List Nat)(set:Nat): Nat:=((Jv n set).length+(Jd es set es.length).length)^(Jd es set es.length).length
theorem fc2_5: ∀ m,m<=5->fc2 m<=60:=by decide
theorem Qlv{es:List Nat}(h5:es.length<=5)(h0:set≠0)(hlt:set<2^n)(hc:Ub n es set): ∃ pc,cvr (Jjp n es set) n es set=some pc/\CvOk n es set pc.ws:=by
 have ab:=Jbs n es set;have aa:=Jkw hc;have a8:(Zp n es set).length=(Jd es set es.length).length:=Jxf n es set;have af:(Jd es set es.length).length<=5:=nL (Jxx es set es.length) h5;obtain⟨hb,B,S,a7,J,hg⟩:=Jbv ab aa (fuel:=Jjp n es set) (by rw[a8];exact Nat.le_refl _);obtain⟨U,a3⟩:=PSt.dual J;rw[a8]at a7 J hg U a3;have a1:∀ v,v<n->set.testBit v=true->∃ j,∃ h:j<(Jv n set).length,(Jv n set)[j]=v:=λv hv hb=>by
  have:v∈Jv n set:=List.mem_filter.2 ⟨List.mem_range.2 hv,hb⟩;obtain⟨j,y,e⟩:=List.getElem_of_mem this;exact⟨j,y,e⟩
 have O:∀ j (h:j<(Jv n set).length),set.testBit (Jv n set)[j]=true:=λj h=>(List.mem_filter.1 (List.getElem_mem h)).2;have ao:0<(Jv n set).length:=by
  obtain⟨v,hv⟩:=Nat.exists_testBit_of_ne_zero h0;have ac:v<n:=by
   rcases Nat.lt_or_ge v n with h|h
   .exact h
   rw[Nat.testBit_lt_two_pow (nM hlt (Nat.pow_le_pow_right (by decide) h))]at hv;cases hv
  obtain⟨j,y,_⟩:=a1 v ac hv;omega
 generalize hF:Jd es set es.length=F at *
 generalize hV:Jv n set=V at *
 have Z:∀ i j (hi:i<F.length) (y:j<V.length),Xw (Zp n es set) i j=bv ((es.getD F[i] 0).testBit V[j]):=λi j hi y=>by
  subst hF;subst hV;unfold Xw;rw[Jbt hi y,Nat.testBit_and,O j y,Bool.and_true,Qfv]
 obtain⟨a4,hz⟩:=Qbm J.wf J.e1 om hg;obtain⟨a2,ad⟩:=Qbl J.wf J.feas J.e2 (show 0<V.length+F.length by omega);have ak:F.Nodup:=by subst hF;exact Jdg _ _ _
 have am:∀ i∈F,i<es.length:=λi hi=>by subst hF;exact Jxw hi
 have a6:∀ c:Nat->Rat,Jk es.length (λk=>c k*wv (Zz (List.replicate es.length pr0) F B.dual) k)=Jk F.length λi=>c (F.getD i 0)*S.g (V.length+i):=λc=>by
  rw[<-Km U.symm,(Jmj ak am U.symm F.length (Nat.le_refl _)).1];exact Zq λi hi=>by rw[a3 i hi]
 have G:∀ q∈Zz (List.replicate es.length pr0) F B.dual,q=pr0∨∃ i,i<F.length/\q=B.dual.getD i pr0:=λq hq=>by
  rw[<-Km U.symm]at hq;rcases Jmk U.symm (Nat.le_refl _) hq with h|h
  .exact .inl (List.eq_of_mem_replicate h)
  obtain⟨i,hi,e⟩:=List.getElem_of_mem h;exact .inr ⟨i,om,by rw[Ja pr0 hi,e]⟩
 have a9:∀ i,i<F.length->B.dual.getD i pr0=B.goal.getD (V.length+i) pr0:=λi hi=>by
  have h1:=J.em;have h2:=J.en;have hl:=J.agr.ok.goal.1;have er:B.right=B.n+B.m+1:=rfl;rw[Ja pr0 om,Ja pr0 (l:=B.goal) om];simp[PT.dual,h2]
 have ae:cvr (Jjp n es set) n es set=some ⟨Zz (List.replicate es.length pr0) F B.dual,Zz (List.replicate n pr0) V B.point,B.goal.getD B.right pr0⟩:=by
  unfold cvr;rw[hF,hV,a7];rfl
 refine⟨_,ae,?_,λq hq=>?_,λq hq=>?_,?_,λv hv hb=>?_,λu hu aj=>?_⟩
 .show(Zz (List.replicate es.length pr0) F B.dual).length=_;rw[<-Km U.symm,Ir,List.length_replicate]
 .rcases G q hq with rfl|⟨i,hi,rfl⟩
  .exact Ie
  rw[a9 i hi];exact J.nrm.goal _ (by have:=J.em;have:=J.en;simp only[PT.right];omega)
 .rcases G q hq with rfl|⟨i,hi,rfl⟩
  .rw[Gh];exact Rat.le_refl
  rw[a3 i hi];exact hg _ om
 .obtain⟨D,an,hD,ah⟩:=PSt.dens J λi j hi y=>by
   rw[Z i j hi y];cases (es.getD F[i] 0).testBit V[j]
   .exact .inl rfl
   exact .inr rfl
  refine⟨D,an,Nat.le_trans hD (fc2_5 _ af),λq hq=>?_⟩;rcases G q hq with rfl|⟨i,hi,rfl⟩
  .exact Nat.one_dvd _
  rw[a9 i hi];exact ah _ om
 .obtain⟨j,y,e⟩:=a1 v hv hb;have h:=a4 j y;rw[a6 λk=>bv ((es.getD k 0).testBit v)];refine Rat.le_trans h (Jkf λi hi=>?_);rw[Z i j hi y,e,Ja 0 hi];grind
 have hx:∀ j,0<=bpt F.length S j:=λj=>Qjq J.feas j;have hk:∀ k,k<es.length->Jk V.length (λj=>bv ((es.getD k 0).testBit (V.getD j 0))*bpt F.length S j)<=1:=λk hk=>by
  by_cases hz0:(es.getD k 0) &&& set=0
  .rw[Gb λj y=>by
    have hb:((es.getD k 0) &&& set).testBit V[j]=false:=by rw[hz0];simp
    rw[Nat.testBit_and,O j y,Bool.and_true]at hb;rw[Ja 0 y,hb];show 0*_=_;grind]
   decide
  obtain⟨x,a5,e⟩:=Jvb es set hk hz0;rw[hF]at a5;obtain⟨i,hi,rfl⟩:=List.getElem_of_mem a5;refine Rat.le_trans (Jkf λj y=>?_) (a2 i hi);have hb:((es.getD F[i] 0) &&& set).testBit V[j]=((es.getD k 0) &&& set).testBit V[j]:=by rw[e]
  rw[Nat.testBit_and,Nat.testBit_and,O j y,Bool.and_true,Bool.and_true]at hb;rw[Ja 0 y,Z i j hi y,hb];exact Rat.le_refl
 have e1:Jk es.length (wv (Zz (List.replicate es.length pr0) F B.dual))=Jk V.length (bpt F.length S):=by
  have:=a6 λ_=>1;rw[Zq (g:=wv (Zz (List.replicate es.length pr0) F B.dual)) λk _=>by grind]at this;rw[this,ad,hz];exact Zq λi _=>by grind
 show Jk es.length (wv (Zz (List.replicate es.length pr0) F B.dual))<=_;rw[e1];have e2:Jk V.length (bpt F.length S)<=Jk V.length λj=>Jk es.length λk=>u k*(bv ((es.getD k 0).testBit (V.getD j 0))*bpt F.length S j):=Jkf λj y=>by
  have ai:=aj V[j] (by subst hV;exact Jck (List.getElem_mem y)) (O j y);have h3:Jk es.length (λk=>u k*(bv ((es.getD k 0).testBit (V.getD j 0))*bpt F.length S j))=bpt F.length S j*Jk es.length λk=>bv ((es.getD k 0).testBit V[j])*u k:=by
   rw[<-Vu];exact Zq λk _=>by rw[Ja 0 y];grind
  rw[h3];have:=Rat.mul_le_mul_of_nonneg_left ai (hx j);grind
 refine Rat.le_trans e2 ?_;rw[Jhs];refine Jkf λk ag=>?_;rw[Vu];have:=Rat.mul_le_mul_of_nonneg_left (hk k ag) (hu k);grind
open Bl Nw
variable {ws:List PR}{a d i k n p:Nat}{e f s:Nat->Nat}{q:PR}
def sN: Nat->(Nat->Nat)->Nat
 | 0,_=>0
 | n+1,f=>sN n f+f n
def prN: Nat->(Nat->Nat)->Nat
 | 0,_=>1
 | n+1,f=>prN n f*f n
theorem sN_ge(h:k<n): f k<=sN n f:=by
 induction n with
 | zero=>omega
 | succ n ih=>
  rw[sN];by_cases e:k=n
  .subst e;omega
  have:=ih om;omega
theorem Qwb(h:i<=n): sN i f<=sN n f:=by
 induction n with
 | zero=>rw[show i=0 by omega];exact Nat.le_refl _
 | succ n ih=>
  by_cases e:i=n+1
  .rw[e];exact Nat.le_refl _
  have:=ih om;rw[sN];omega
theorem Jlm(n:Nat)(f:Nat->Nat): ((sN n f:Nat):Rat)=Jk n λk=>(f k:Rat):=by
 induction n with
 | zero=>rfl
 | succ n ih=>rw[sN,Jk,Rat.natCast_add,ih]
theorem Jmr(h:∀ k,k<n->0<e k->s k<=a): prN n (λk=>s k^e k)<=a^sN n e:=by
 induction n with
 | zero=>exact Nat.le_refl _
 | succ n ih=>
  rw[prN,sN,Nat.pow_add];refine Nat.mul_le_mul (ih λk i=>h k om) ?_;rcases Nat.eq_zero_or_pos (e n) with h0|h0
  .rw[h0,Nat.pow_zero,Nat.pow_zero];exact Nat.le_refl _
  exact Nat.pow_le_pow_left (h n om h0) _
theorem Qfq(d e:Nat): d / Nat.gcd d e*e=Nat.lcm d e:=by
 unfold Nat.lcm;rw[Nat.mul_comm d e,Nat.mul_div_assoc e (Nat.gcd_dvd_left d e),Nat.mul_comm]
theorem Jss: ∀(ws:List PR) (d:Nat),0<d->(∀ q∈ws,0<q.norm.den)->d ∣ ws.foldl (λd w=>d / Nat.gcd d w.norm.den*w.norm.den) d/\(∀ q∈ws,q.norm.den ∣ ws.foldl (λd w=>d / Nat.gcd d w.norm.den*w.norm.den) d)/\0<ws.foldl (λd w=>d / Nat.gcd d w.norm.den*w.norm.den) d/\∀ D,d ∣ D->(∀ q∈ws,q.norm.den ∣ D)->ws.foldl (λd w=>d / Nat.gcd d w.norm.den*w.norm.den) d ∣ D
 | [],d,h0,_=>⟨Nat.dvd_refl _,by simp,h0,λD h _=>h⟩
 | w::ws,d,h0,h=>by
  have hw:=h w (by simp);have hl:0<Nat.lcm d w.norm.den:=Nat.lcm_pos h0 hw;rw[List.foldl_cons,Qfq];obtain⟨h1,h2,h3,h4⟩:=Jss ws _ hl λq hq=>h q (by simp[hq]);refine⟨Nat.dvd_trans (Nat.dvd_lcm_left _ _) h1,λq hq=>?_,h3,λD hd hD=>h4 D (Nat.lcm_dvd hd (hD w (by simp))) λq hq=>hD q (by simp[hq])⟩;rcases List.mem_cons.1 hq with rfl|hq
  .exact Nat.dvd_trans (Nat.dvd_lcm_right _ _) h1
  exact h2 q hq
theorem Jvj(h:∀ q∈ws,q.Nrm): (∀ q∈ws,q.den ∣ dnm ws)/\0<dnm ws/\∀ D,(∀ q∈ws,q.den ∣ D)->dnm ws ∣ D:=by
 have e:∀ q∈ws,q.norm.den=q.den:=λq i=>by rw[(h q i).norm]
 obtain⟨_,B,y,u⟩:=Jss ws 1 (by decide) λq i=>by rw[e q i];exact Nat.pos_of_ne_zero (h q i).den
 exact⟨λq i=>by rw[<-e q i];exact B q i,y,λD j=>u D (Nat.one_dvd _) λq i=>by rw[e q i];exact j q i⟩
theorem Jjg(d:Nat): PR.norm ⟨false,d,0⟩=⟨false,d,1⟩:=by simp[PR.norm]
theorem Jcb(d:Nat): PR.norm ⟨false,d,1⟩=⟨false,d,1⟩:=by
 unfold PR.norm;split<;>simp
theorem Jnw(hq:q.Nrm)(hn:q.neg=false)(hd:q.den ∣ d): PR.mul q ⟨false,d,1⟩=⟨false,q.num*(d / q.den),1⟩:=by
 unfold PR.mul;rw[hq.norm,Jcb];unfold PR.mulN;have e:(q.neg != false)=false:=by rw[hn];rfl
 simp only[e,Nat.mul_one];have i:=Nat.pos_of_ne_zero hq.den;unfold PR.norm;by_cases h0:q.num*d=0
 .rw[if_pos (.inl h0)];have:q.num*(d / q.den)=0:=by
   rcases Nat.mul_eq_zero.1 h0 with h|h
   .rw[h,Nat.zero_mul]
   rw[h,Nat.zero_div,Nat.mul_zero]
  simp[h0,this]
 rw[if_neg (by simp only[not_or];exact⟨h0,om⟩)];have j:Nat.gcd (q.num*d) q.den=q.den:=Nat.gcd_eq_right (Nat.dvd_mul_left_of_dvd hd q.num);simp only[j];rw[Nat.div_self i,Nat.mul_div_assoc _ hd]
theorem Jdn(hq:q.Nrm)(hn:q.neg=false)(hd:q.den ∣ d): Za q d=q.num*(d / q.den):=by
 unfold Za;rw[Jjg,Jnw hq hn hd,Jcb]
theorem Jhf(hq:q.Nrm)(h:0<=q.val): q.neg=false:=by
 cases hn:q.neg with
 | false=>rfl
 | true=>
  exfalso
  have j:=(PR.sign_val hq.den).1;have i:¬ q.sign<0:=λe=>by have:=j.1 e;grind
  unfold PR.sign at i;by_cases h0:q.num=0
  .have:=hq.sgn h0;rw[hn]at this;cases this
  rw[if_neg h0,hn]at i;simp at i
theorem Qhg(hq:q.Nrm)(h:0<=q.val)(hd:q.den ∣ d): (Za q d:Rat)=(d:Rat)*q.val:=by
 have hn:=Jhf hq h;rw[Jdn hq hn hd];obtain⟨k,rfl⟩:=hd;have i:=Vq hq.den;rw[Nat.mul_div_cancel_left _ (Nat.pos_of_ne_zero hq.den),Rat.natCast_mul,Rat.natCast_mul];unfold PR.val;rw[hn];simp only[Bool.false_eq_true,if_false];grind
def exK(ws:List PR)(k:Nat): Nat:=Za (ws.getD k pr0) (dnm ws)
section
variable {n:Nat} {es:List Nat} {set:Nat} {ws:List PR}
theorem CvOk.mem(h:CvOk n es set ws)(hk:k<es.length): ws.getD k pr0∈ws:=by
 rw[Ja pr0 (by rw[h.len];exact hk)];exact List.getElem_mem _
theorem CvOk.d60(h:CvOk n es set ws): dnm ws ∣ dnm ws/\0<dnm ws/\dnm ws<=60:=by
 obtain⟨D,h0,j,i⟩:=h.den;obtain⟨_,y,u⟩:=Jvj h.nrm;exact⟨Nat.dvd_refl _,y,Nat.le_trans (Nat.le_of_dvd h0 (u D i)) j⟩
theorem CvOk.ex(h:CvOk n es set ws)(hk:k<es.length): (exK ws k:Rat)=(dnm ws:Rat)*wv ws k :=
 Qhg (h.nrm _ (h.mem hk)) (h.nn _ (h.mem hk)) ((Jvj h.nrm).1 _ (h.mem hk))
theorem CvOk.totN(h:CvOk n es set ws)(u:Nat->Nat)(hu:∀ v,v<n->set.testBit v=true->∃ k,k<es.length/\(es.getD k 0).testBit v=true/\1<=u k): sN es.length (exK ws)<=dnm ws*sN es.length u:=by
 have i:=h.opt (λk=>(u k:Rat)) (λk=>Rat.natCast_nonneg) λv G J=>by
  obtain⟨k,B,y,i⟩:=hu v G J;refine Rat.le_trans ?_ (Jhv (λj _=>Jnv (bv_nn _) Rat.natCast_nonneg) B);rw[y];have:((1:Nat):Rat)<=(u k:Rat):=Rat.natCast_le_natCast.2 i;have O:((1:Nat):Rat)=1:=rfl;unfold bv;rw[if_pos rfl];grind
 rw[<-Jlm]at i;have D:=Rat.mul_le_mul_of_nonneg_left i (Rat.natCast_nonneg (a:=dnm ws));rw[<-Vu,<-Rat.natCast_mul,Zq (g:=λk=>(exK ws k:Rat)) λk B=>(h.ex B).symm,<-Jlm]at D;exact Rat.natCast_le_natCast.1 D
theorem CvOk.tot5(h:CvOk n es set ws)(hc:Ub n es set): sN es.length (exK ws)<=dnm ws*es.length:=by
 have j:=h.totN (λ_=>1) λv u i=>by
  obtain⟨k,y,i⟩:=hc v u i;exact⟨k,y,i,Nat.le_refl _⟩
 have e:∀ m,sN m (λ_=>1)=m:=λm=>by induction m with
  | zero=>rfl
  | succ m ih=>rw[sN,ih]
 rw[e]at j;exact j
end
theorem Jbn{ws:List PR}{sizes:List Nat}{d:Nat}(hl:sizes.length=ws.length): ∀ i,i<=ws.length->prK ws sizes d i=prN i λk=>sizes.getD k 0^Za (ws.getD k pr0) d
 | 0,_=>by unfold prK Vj;simp[prN]
 | i+1,h=>by
  rw[Jms om om,Jbn hl i om,prN,Ja 0 om,Ja pr0 om]
theorem Jmm{sizes:List Nat}(hl:sizes.length=ws.length): Vj ws sizes d=prN ws.length λk=>sizes.getD k 0^Za (ws.getD k pr0) d:=by
 rw[<-Jbn hl _ (Nat.le_refl _)];unfold prK;rw[List.take_length,<-hl,List.take_length]
def rtN(p n:Nat): Nat->Nat
 | 0=>0
 | k+1=>if(k+1)^n<=p then k+1 else rtN p n k
theorem Jlw{p n:Nat}(hn:0<n): ∀ k,p<(k+1)^n->Gj p n (rtN p n k)
 | 0,h=>⟨by rw[rtN,Nat.zero_pow hn];omega,h⟩
 | k+1,h=>by
  rw[rtN];split
  .exact⟨by assumption,h⟩
  exact Jlw hn k om
def Jqz(p n:Nat): Nat:=rtN p n p
theorem Qwz(hn:0<n): Gj p n (Jqz p n):=Jlw hn p (nM (show p<p+1 by omega) (Nat.le_self_pow om _))
open Bl Nw
def Kq(n:Nat)(es sizes:List Nat)(set:Nat): Nat:=match cvr (Jjp n es set) n es set with
 | some pc=>Jqz (Vj pc.ws sizes (dnm pc.ws)) (dnm pc.ws)
 | none=>0
section
variable {n:Nat} {es sizes:List Nat} {set:Nat} {ws:List PR}
theorem Qjt(h5:es.length<=5)(h0:set≠0)(hlt:set<2^n)(hc:Ub n es set): ∃ pc,cvr (Jjp n es set) n es set=some pc/\CvOk n es set pc.ws/\∀ sizes:List Nat,sizes.length=es.length->Kq n es sizes set=Jqz (prN es.length λk=>sizes.getD k 0^exK pc.ws k) (dnm pc.ws)/\Gj (prN es.length λk=>sizes.getD k 0^exK pc.ws k) (dnm pc.ws) (Kq n es sizes set):=by
 obtain⟨pc,j,i⟩:=Qlv h5 h0 hlt hc;refine⟨pc,j,i,λsizes u=>?_⟩;have e:Kq n es sizes set=Jqz (prN es.length λk=>sizes.getD k 0^exK pc.ws k) (dnm pc.ws):=by
  unfold Kq;rw[j];show Jqz (Vj pc.ws sizes (dnm pc.ws)) (dnm pc.ws)=_;rw[Jmm (by rw[u,i.len]),i.len];rfl
 exact⟨e,by rw[e];exact Qwz i.d60.2.1⟩
end
open Go.RowKit Pl Go.Wk Bl Nw
attribute [local irreducible] WC WL QX WD WDB WP WN WG WH
variable {ad:Addr}{pr:Int->Bool}{zs:List Int}{cs us:List Value}{b base c e k m n t:Nat}{r:Nat->Nat}{A B SA W:Option Addr}{fv u v:Value}{w w' w0:World}
def Jfx(w:World)(fv:Value)(pr:Int->Bool): Prop:=∃ fid first cap,fv=.func (.func fid) first cap /\
 ∀ w',Ext w w'->∀ x,Ret Tryz.prog fid (first.toList++[.int .i64 x]++cap.toList) w' λr w''=>r=.bool (pr x)/\Ext w' w''
theorem Qfz(h:IntsV w v zs)(hT:Jfx w fv pr):
  Ret Tryz.prog 87 [v,fv] w λx w'=>(∃ k:Int,x=.int .i64 k/\(0<=k↔zs.any pr=true))/\Ext w w':=by
 obtain⟨A,c,rfl,hc,hl,O⟩:=h;obtain⟨G,first,J,rfl,hT⟩:=hT;refine Jz Tryz.func87 Tryz.ntmps87 rfl kr rfl ?_;refine ρ ?_;refine Jr (fun (k:Nat)=>[(0,.slice A zs.length c),(1,.func (.func G) first J),(7,.int .i64 (zs.length:Int)),(8,.int .i64 (k:Int))])
  (λk w'=>k<=zs.length/\(∀ j,j<k->pr (zs.getD j 0)=false)/\Ext w w') (λk=>zs.length-k) 0 sB ⟨Nat.zero_le _,λj hj=>om,Ext.refl w⟩ ?_
 rintro k w1 ⟨hk,U,u⟩;refine ρ ?_;refine ci (λh=>?_) (λh=>?_)
 .have y:k<zs.length:=by have:=oT h;omega
  refine ρ ?_;refine ix k (O.ext u) y ?_;refine ρ ?_;refine ld ((O.ext u).cell (Yx y)) ?_;refine ρ ?_;refine clv (hT _ u (zs.getD k 0)) ?_;rintro r w2 ⟨rfl,B⟩;refine ρ ?_;refine ci (λh=>?_) (λh=>?_)
  .refine ρ ?_;refine Jq ⟨⟨k,rfl,?_⟩,u.trans B⟩;refine⟨λ_=>List.any_eq_true.2 ⟨_,getD_mem' 0 zs y,h⟩,λ_=>om⟩
  refine ρ ?_;refine Jl (k+1) sB ⟨om,λj hj=>?_,u.trans B⟩ om;by_cases e:j=k
  .rw[e];exact h
  exact U j om
 have a1:k=zs.length:=by have:=oF h;omega
 refine ρ ?_;refine Jq ⟨⟨-1,rfl,?_⟩,u⟩;refine⟨λh=>om,λh=>?_⟩;obtain⟨x,Z,D⟩:=List.any_eq_true.1 h;obtain⟨i,hi,rfl⟩:=List.getElem_of_mem Z;have:=U i om;rw[List.getD,List.getElem?_eq_getElem hi,Option.getD_some,D]at this;cases this
theorem Qmf(h:IntsV w v zs)(hT:Jfx w fv pr):
  Ret Tryz.prog 47 [v,fv] w λx w'=>x=.bool (zs.any pr)/\Ext w w':=by
 refine Jz Tryz.func47 Tryz.ntmps47 rfl kr rfl ?_;refine ρ ?_;refine cl (Qfz h hT) ?_;rintro x w1 ⟨⟨k,rfl,j⟩,i⟩;refine ρ ?_;refine Jq ⟨?_,i⟩;rw[show decide (0<=k)=zs.any pr by rw[Bool.eq_iff_iff,decide_eq_true_iff,j]]
theorem Qdb(z:Int)(w:World): Ret Tryz.prog 48 [.int .i64 z] w λu w'=>u=.bool (decide (z<0))/\Ext w w':=by
 refine Jz Tryz.func48 Tryz.ntmps48 rfl kr rfl ?_;refine ρ ?_;exact Jq ⟨rfl,Ext.refl _⟩
theorem Qdc(w:World): Jfx w (.func (.func 48) #[] #[]) λz=>decide (z<0):=⟨_,_,_,rfl,λw' _ x=>Qdb x w'⟩
structure BagB(n:Nat)(es sizes:List Nat)(set r:Nat): Prop where
 lt:set<2^n
 ne:set≠0
 cov:Ub n es set
 bnd:∃ fuel pc K K2,((Jv n set).length+(Jd es set es.length).length)^(Jd es set es.length).length<=fuel/\cvr fuel n es set=some pc/\(∀ q∈pc.ws,0<q.den)/\(∀ q∈pc.ws,0<=q.sign/\q.num<18446744073709551616)/\(∀ i,i<=pc.ws.length->dnK pc.ws i<4294967296) /\
  (∀ q∈pc.ws,q.num<18446744073709551616/\q.den<4294967296/\0<q.norm.den/\q.norm.den<4294967296)/\1<=dnm pc.ws/\dnm pc.ws<=64/\PrOk pc.ws sizes (dnm pc.ws) K/\K2<=29000/\7<=K2/\Jw (Vj pc.ws sizes (dnm pc.ws))+dnm pc.ws<=K2/\Uy K2/\∀ x,Gj (Vj pc.ws sizes (dnm pc.ws)) (dnm pc.ws) x->x=r
theorem Qbg(h:w.ownsRow base e 1 (.slice A n n) n us)(hg:(Value.slice A n n).ownBlock=some ad.block)(hc:w.cell? ad=some u): u∈us:=by
 rcases h.2 with⟨i,_⟩|⟨g,cap,cur,i,_,hh,_,_,hs,ht⟩
 .injection i with e1 _ _
  subst e1;cases hg
 injection i with e1 _ e3
 subst e1;subst e3;have j:g=ad.block:=by injection hg
 unfold World.cell? at hc;rw[<-j,hh]at hc;simp only at hc;split at hc
 .cases hc
 rw[List.take_of_length_le (by simp[hs])]at ht;rw[<-ht];rw[<-Array.getElem?_toList]at hc;exact List.mem_of_getElem? hc
theorem Jnp(h:w.ownsRow base e 1 (.slice A n n) n us)(hs:∀ u∈us,∃ B m c,u=.slice B m c)(hv:NatV w v m): NatX (λk=>(Value.slice A n n).ownBlock=some k) w v m:=by
 refine⟨hv,λh0 ad O c e j=>?_⟩;obtain⟨A',c',rfl,h2,Z,D⟩:=hv;injection e with e1 e2 e3
 subst e1;have i:Jj m≠[]:=λe=>by rw[Jjl h0]at e;cases e
 have U:=List.length_pos_iff.2 i;have y:=D.cell (Qv (l:=Jj m) (k:=0) om);obtain⟨B,J,c2,G⟩:=hs _ (Qbg h (ad:=adr (some ad) 0) j y);cases G
theorem ENat: ElT Tryz.prog 38 40 1 24 (.slice none 0 0):=⟨Tryz.underlying38,info_parts kr,rfl,by decide⟩
theorem NatV.slc(h:NatV w v m): ∃ A n c,v=.slice A n c:=by
 obtain⟨A,c,rfl,_⟩:=h;exact⟨_,_,_,rfl⟩
theorem Jvr(hB:Blk w b t cs)(he:ad.block=b)(hc:w.cell? ad=some u): cs[ad.off]?=some u:=by
 unfold World.cell? at hc;rw[he]at hc;rw[show w.heap[b]?=_ from hB]at hc;simp only at hc;split at hc
 .cases hc
 simpa using hc
theorem Jwj(hB:Blk w b t cs)(hcs:∀ u∈cs,∀ x,u≠.int .u32 x)(hv:NatV w v m): NatX (λk=>k=b) w v m:=by
 refine⟨hv,λh0 ad D c e j=>?_⟩;obtain⟨Z,U,rfl,O,J,B⟩:=hv;injection e with e1 e2 e3
 subst e1;have i:Jj m≠[]:=λe=>by rw[Jjl h0]at e;cases e
 have G:=List.length_pos_iff.2 i;have y:=B.cell (Qv (l:=Jj m) (k:=0) om);exact hcs _ (List.mem_of_getElem? (Jvr hB (ad:=adr (some ad) 0) j y)) _ rfl
theorem Jtm{ws:List PR}(h:GX 3 RtC Nn w (.slice W ws.length c) ws)(hB:Blk w b t [.slice none 0 0,.slice none 0 0,.bool false,.slice none 0 0,.slice none 0 0])(hd:∀ q∈ws,0<q.den): GX 3 RtC (λk=>k=b) w (.slice W ws.length c) ws:=by
 have i:∀ u∈([.slice none 0 0,.slice none 0 0,.bool false,.slice none 0 0,.slice none 0 0]:List Value),∀ x,u≠.int .u32 x:=λu hu x=>by
  simp only[List.mem_cons,List.not_mem_nil,or_false]at hu;rcases hu with rfl|rfl|rfl|rfl|rfl<;>exactλe=>by cases e
 obtain⟨⟨ps,A,c',e,ev,e2,e3,G,J⟩,_⟩:=h;refine⟨⟨ps,A,c',e,ev,e2,e3,G,λp hm=>⟨(J p hm).1,?_⟩⟩,λh0 ad m cc j hk=>?_⟩
 .obtain⟨x,y,O,hx,D⟩:=(J p hm).2;exact⟨x,y,O,Jwj hB i hx.1,Jwj hB i D.1⟩
 rw[ev]at j;injection j with j _ _
 subst j;cases ps with
 | nil=>exact h0 e
 | cons p ps'=>
  obtain⟨_,x,y,O,hx,D⟩:=J p (mC ..);have hq:0<p.2.den:=hd _ (by rw[e];simp);have hf:Jh (p::ps')=[.bool p.2.neg,x,y]++Jh ps':=by simp[Jh,O]
  have c0:=G.cell (k:=0) (u:=.bool p.2.neg) (by rw[hf];rfl);have c2:=G.cell (k:=2) (u:=y) (by rw[hf];rfl);have Z:=Jvr hB (ad:=adr (some ad) 0) hk c0;have U:=Jvr hB (ad:=adr (some ad) 2) hk c2;have o0:(adr (some ad) 0).off=ad.off:=rfl;have o2:(adr (some ad) 2).off=ad.off+2:=rfl;rw[o0]at Z;rw[o2]at U;have ho:ad.off=2:=by
   generalize ad.off=o at Z
   rcases o with _|_|_|_|_|o<;>simp at Z ⊢
  rw[ho]at U;obtain⟨B,d,rfl,_⟩:=D.1;simp at U;have:=limbs_pos' (n:=p.2.den) om;omega
def BndsO(w0 w:World)(A:Option Addr)(n k:Nat)(r:Nat->Nat)(us:List Value): Prop:=us.length=n/\w.ownsRow w0.heap.size 40 1 (.slice A n n) n us/\(∀ u∈us,∃ B m c,u=.slice B m c)/\∀ j,j<k->∃ u,us[j]?=some u/\NatV w u (r j)
theorem BndsO.ext{w0 w w':World}{A:Option Addr}{n k:Nat}{r:Nat->Nat}{us:List Value}(h:BndsO w0 w A n k r us)(hx:Ext w w'): BndsO w0 w' A n k r us :=
 ⟨h.1,Jo h.2.1 hx,h.2.2.1,λj y=>by obtain⟨u,e,i⟩:=h.2.2.2 j y;exact⟨u,e,i.ext hx⟩⟩
theorem BndsO.put(h:BndsO w0 w A n k r us)(hk:k<n)(hv:NatV w v (r k))(ho:w'.ownsRow w0.heap.size 40 1 (.slice A n n) n (us.set k v))(hg:w.grownBy w' (Value.slice A n n).ownBlock): BndsO w0 w' A n (k+1) r (us.set k v):=by
 obtain⟨J,D,B,G⟩:=h;have y:GrN (λq=>(Value.slice A n n).ownBlock=some q) w w':=GrN.by hg λq e=>e
 refine⟨by simp[J],ho,λu i=>?_,λj Z=>?_⟩
 .rcases List.mem_or_eq_of_mem_set i with i|rfl
  .exact B u i
  exact hv.slc
 by_cases e:j=k
 .subst e;exact⟨v,by rw[List.getElem?_set_self om],((Jnp D B hv).gr y).1⟩
 obtain⟨u,O,i⟩:=G j om;exact⟨u,by rw[List.getElem?_set_ne (λU=>e U.symm)];exact O,((Jnp D B i).gr y).1⟩
def SF.bxz(s:Nat): SF:=⟨λv w=>∃ b,v=.pointer (some ⟨b,0,none⟩)/\Blk w b 60 [.slice none 0 0,.slice none 0 0,.bool false,.slice none 0 0,.slice none 0 0]/\s<=b,λ⟨b,e,h,hs⟩ hx=>⟨b,e,h.ext hx,hs⟩⟩
def CovC(ws:List PR)(w:World)(cs:List Value): Prop:=∃ W W3 P1 P2 P3 b Q1 m1 c1 Q2 m2 c2,cs=[.slice W ws.length W3,.slice P1 P2 P3,.bool b,.slice Q1 m1 c1,.slice Q2 m2 c2]/\GX 3 RtC Nn w (.slice W ws.length W3) ws
theorem CovC.ext{ws:List PR}{w w':World}{cs:List Value}(h:CovC ws w cs)(hx:Ext w w'): CovC ws w' cs:=by
 obtain⟨W,B,O,J,G,b,D,j,y,Q2,i,u,e,h⟩:=h;exact⟨W,B,O,J,G,b,D,j,y,Q2,i,u,e,h.ext RtC.sta (by decide) hx⟩
def SF.cov(ws:List PR): SF:=⟨λv w=>∃ cs:List Value,v=.tuple #[.agg cs.toArray,.int .i64 0]/\CovC ws w cs,λh hx=>h.elim λcs h=>⟨cs,h.1,h.2.ext hx⟩⟩
def SF.cv(ws:List PR): SF:=⟨λv w=>∃ cs:List Value,v=.agg cs.toArray/\CovC ws w cs,λh hx=>h.elim λcs h=>⟨cs,h.1,h.2.ext hx⟩⟩
theorem Jtp{cb sc:Nat}{es sizes:List Nat}{kf:Nat->Nat}{pf:Nat->Int}(hG:GrV w A c n es)(hB:Rd w 3 B n (Ql n (Zd kf pf)))(hk:∀ v,v<n->kf v<4294967296)(hS:Rd w 1 SA sizes.length (Jb (nz sizes)))(hsc:sizes.length<=sc)(hsl:sizes.length=es.length)(hm:es.length<=5)(hb:∀ v,v<n->BagB n es sizes (kf v ||| 2^v) (r v)):
  Ret Tryz.prog 20 [.agg (grC A c n es).toArray,.slice B n cb,.slice SA sizes.length sc] w λu w'=>∃ O us,u=.tuple #[.slice O n n,.int .i64 0]/\BndsO w w' O n n r us/\Ext w w':=by
 have c0:=hG.n32;have bw:IntsV w (.slice SA sizes.length sc) (nz sizes):=⟨SA,sc,by rw[nzl],by rw[nzl];exact hsc,by rw[nzl];omega,by rw[nzl];exact hS⟩;refine Jz Tryz.func20 Tryz.ntmps20 rfl kr rfl ?_;refine ρ ?_;refine bx (cs:=grC A c n es) ?_;intro w1 b3 ap c9 ba;refine ρ ?_;refine lds (cs:=grC A c n es) (λj u hu=>ba.at hu) ?_;refine ρ ?_;refine cl (Jww (hG.ext ap)) ?_;rintro u w2 ⟨rfl,ao⟩;have aa:=ba.ext ao;have a8:=ap.trans ao;refine ρ ?_;refine ld (aa.at (i:=1) rfl) ?_;refine ρ ?_;refine Go.Wk.kf 25 ?_ ?_
 .simp[hsl]
 refine ρ ?_;refine cl (Qmf (bw.ext a8) (Qdc w2)) ?_;rintro u w3 ⟨rfl,ab⟩;have b4:((nz sizes).any λz=>decide (z<0))=false:=by
  rw[List.any_eq_false];intro z hz;obtain⟨m,_,rfl⟩:=List.mem_map.1 hz;simp
 rw[b4];refine ρ ?_;have a1:=a8.trans ab;refine ρ ?_;refine mkn ENat n om (by unfold maxLen;omega) ?_;intro w4 O am aq hO;have bz:=a1.trans am;have e0:(madeCells (Value.slice none 0 0).cells (n*1)).toList=List.replicate n (.slice none 0 0):=by rw[Nat.mul_one];exact Vc _ _
 rw[e0]at aq;refine ρ ?_;refine Ju (fun (k:Nat) (_:List Value)=>[(2,.slice SA sizes.length sc),(3,.pointer (some ⟨b3,0,none⟩)),(9,.slice O n n),(32,.slice B n cb),(33,.int .i64 (n:Int)),(34,.int .i64 (k:Int))])
  (λk us w'=>k<=n/\Ext w3 w'/\BndsO w3 w' O n k r us) (λk _=>n-k) 0 (List.replicate n (.slice none 0 0)) sB
  ⟨Nat.zero_le _,am,by simp,aq,λu hu=>⟨none,0,0,List.eq_of_mem_replicate hu⟩,λj hj=>absurd hj (Nat.not_lt_zero j)⟩ ?_
 rintro k us w5 ⟨c7,Z,a6⟩;have U:=a1.trans Z;refine ρ ?_;refine ci (λh=>?_) (λh=>?_)
 .have lk:k<n:=by have:=oT h;omega
  clear h;have b7:=hB.ext U;have ae:∀ j u,(Zd kf pf k)[j]?=some u->w5.cell? ((adr B (k*3)).add j)=some u:=λj u hu=>by
   have hj:j<3:=by grind [Nat.lt_or_ge,List.getElem?_eq_none,Zd]
   rw[Uv];exact b7.cell ((Jdj (sz:=3) (λ_ _=>rfl) lk hj).trans hu)
  obtain⟨az,ay,af,c4,pc,K,K2,ad,bl,aw,bi,bp,bh,bq,ax,bj,hK,bu,bt,av,ac⟩:=hb k lk;refine ρ ?_;refine ixq 3 k b7 lk ?_;refine ρ ?_;refine lds (cs:=Zd kf pf k) ae ?_;refine ρ ?_;refine alc zBag ?_;intro w6 cc bf b2 bc;refine ρ ?_;refine stb (cs':=Zd kf pf k) bc ?_ Jnk;intro w7 ai hg7 be;have ak:Ext w5 w7:=be w5 bf b2;have G:Ext w5 w7.drew:=ak.trans (Ext.refl w7).drew;have ah:=ai.ext (Ext.refl w7).drew;have b8:=((aa.ext ab).ext Z).ext G;have an:=ab.trans (Z.trans G);refine ρ ?_;have c8:=an;refine drH (λi=>Nat.ble 8 i) ?_;refine hcut 2 (lst 10 8) (fun (y:List Value×Nat)=>[(44,.agg y.1.toArray),(45,.int .i64 0),(12,.pointer (some ⟨y.2,0,none⟩)),(2,.slice SA sizes.length sc),(3,.pointer (some ⟨b3,0,none⟩)),(9,.slice O n n),(10,.int .i64 (k:Int)),(32,.slice B n cb),(33,.int .i64 (n:Int)),(34,.int .i64 (k:Int))])
   (λy W=>Ext w7.drew W/\CovC pc.ws W y.1/\Blk W y.2 60 [.slice none 0 0,.slice none 0 0,.bool false,.slice none 0 0,.slice none 0 0]/\w7.drew.heap.size<=y.2) ?_ ?_
  rotate_left
  .intro rest;refine Jdb 11 6 2 _ (lst 10 8) [0,1,2,3,4,5,6,7] [40,41,42,43,39,44,45,12] [SF.eq (.agg (grC A c n es).toArray),SF.eq (.agg (Zd kf pf k).toArray),SF.eq (.int .u32 ((kf k ||| 2^k:Nat):Int)),SF.cov pc.ws,SF.cov pc.ws,SF.cv pc.ws,SF.eq (.int .i64 0),SF.bxz w7.drew.heap.size] kr (by rfl) ?_ ?_ ?_
   .refine gsc (λvs w9 D hd=>?_) ?_
    .simp only[slM];refine lds (cs:=grC A c n es) (λj u hu=>(b8.ext D).at hu) ?_;refine ρ ?_;exact Qd (Ext.refl _) rfl
    refine gsc (λvs w9 D hd=>?_) ?_
    .simp only[slM];refine lds (cs:=Zd kf pf k) (λj u hu=>(ah.ext D).at hu) ?_;refine ρ ?_;exact Qd (Ext.refl _) rfl
    refine gsc (λvs w9 D hd=>?_) ?_
    .have e1:vs 1=_:=hd 1;simp only[slM,e1];refine cl (Jsp om (hk k lk) _) ?_;rintro u W ⟨rfl,hy⟩;exact Jp (Qd hy rfl)
    refine gsc (λvs w9 D hd=>?_) ?_
    .have e0:vs 0=_:=hd 0;have e2:vs 2=_:=hd 2;simp only[slM,e0,e2];refine cl (Jtl (hG.ext ((U.trans G).trans D)) az ay hm af ad bl) ?_;rintro u W ⟨W0,P0,q1,q2,rfl,hW,hP,bo,bn,hy⟩;obtain⟨W1,W3,_,rfl,_⟩:=id hW.el;obtain⟨P1,P3,_,rfl,_⟩:=id hP.el;obtain⟨Q1,m1,c1,rfl⟩:=bo.1.slc;obtain⟨Q2,m2,c2,rfl⟩:=bn.1.slc;exact Jp (Qd hy ⟨_,rfl,W1,W3,P1,_,P3,_,Q1,m1,c1,Q2,m2,c2,rfl,hW⟩)
    refine gsc (λvs w9 D hd=>?_) ?_
    .obtain⟨cs,e3,J⟩:=hd 3;simp only[slM,e3];refine ρ ?_;exact Qd (Ext.refl _) ⟨cs,rfl,J⟩
    refine gsc (λvs w9 D hd=>?_) ?_
    .obtain⟨cs,e4,J⟩:=hd 4;simp only[slM,e4];refine ρ ?_;exact Qd (Ext.refl _) ⟨cs,rfl,J⟩
    refine gsc (λvs w9 D hd=>?_) ?_
    .obtain⟨cs,e4,J⟩:=hd 4;simp only[slM,e4];refine ρ ?_;exact Qd (Ext.refl _) rfl
    refine gsc (λvs w9 D hd=>?_) gse
    simp only[slM];refine alc Kx ?_;intro W b9 hy br a7;exact Jp (Qd hy ⟨b9,rfl,a7,Nat.le_trans D.size br⟩)
   .intro vs W hy hf;obtain⟨b9,e7,a7,h9⟩:=hf 7;obtain⟨cs,e5,J⟩:=hf 5;have e6:vs 6=_:=hf 6;simp only[slM,e7,e6,e5];exact rest (cs,b9) _ _ ⟨hy,J,a7,h9⟩ sB
   intro _ vs W hy hf;obtain⟨b9,e7,a7,h9⟩:=hf 7;obtain⟨cs,e5,J⟩:=hf 5;obtain⟨ca,e4,_⟩:=hf 4;simp only[slM,e7,e5,e4];refine hpur (fuel':=2) 6 kr kr rfl rfl ?_;refine ρp ?_;refine ρd ?_;refine Zb ?_;refine Uj (listed':=lst 10 8) kr ?_;exact rest (cs,b9) _ _ ⟨hy,J,a7,h9⟩ sB
  rintro⟨cs,b9⟩ W ⟨bd,⟨WA,W3,P1,P2,P3,bb,Q1,m1,c1,Q2,m2,c2,e,bs⟩,ag,b1⟩;simp only at e ag b1;subst e;refine Vd (fuel':=0) 11 [(2,8),(2,9)] (lst 10 10) kr kr rfl ?_;refine Jy ?_;refine stW ag ?_;intro W2 b6 au a2;refine Jp (Qz ?_);refine Jy ?_;refine ρ ?_;refine Qz ?_;refine Jzd (Zb ?_);refine Xm kr ?_;have aj:Ext w7.drew W2:=a2 w7.drew bd b1;have a3:=G.trans aj;have b5:=(Jtm bs ag aw).gr RtC.sta (by decide) (GrN.by (N:=λq=>q=b9) au λq e=>by injection e with e;exact e.symm);have a2:=U.trans a3;refine ρ ?_;refine lds (cs:=[.slice WA pc.ws.length W3,.slice P1 P2 P3,.bool bb,.slice Q1 m1 c1,.slice Q2 m2 c2]) (λj u hu=>b6.at hu) ?_;refine ρ ?_;refine cl (Qjr (sizes:=sizes) (b5.old RtC.sta (by decide) λk hk=>hk.elim) (hS.ext a2) bi bp bh bq ax bj hK bu bt av) ?_;rintro u c5 ⟨⟨v,r',rfl,hv,hr⟩,a9⟩;rw[ac r' hr]at hv;obtain⟨VA,vn,vc,rfl⟩:=hv.slc
  have a5:=a6.ext (a3.trans a9);obtain⟨c6,a4,_,_⟩:=id a5;obtain⟨_,_,_,_,bm⟩:=Jc a4;obtain⟨s1,s2,s3,s4,s5⟩:=Zw a4 (q:=k) om (.slice VA vn vc);have bg:us[k]?=some (us.getD k (.slice none 0 0)):=by grind
  refine ρ ?_;refine ix k (Rd.own a4) lk ?_;refine ρ ?_;refine sto (s1.trans bg) s2 ?_;refine ρ ?_;exact Js (k+1) (us.set k (.slice VA vn vc)) sO ⟨lk,Jt (Z.trans (a3.trans a9)) s5 λg hg=>(bm g hg).1,a5.put lk hv s3 s5⟩ om
 have ar:k=n:=by have:=oF h;omega
 subst ar;refine ρ ?_;exact Xj ⟨O,us,rfl,⟨a6.1,Io a6.2.1 a1.size,a6.2.2.1,a6.2.2.2⟩,U⟩
end Go.Proofs.YtebiphhfkdbpfaaGreatDoor
namespace Go.Proofs.YtebiphhfkdbpfaaGreatDoor
open Go.RowKit Pl Go.Wk Bl Nw
variable {a n set:Nat}
theorem Qks{q:PR}(h:q.neg=false): 0<=q.sign:=by
 unfold PR.sign;rw[h];split
 .exact Int.le_refl _
 show(0:Int)<=if false=true then -1 else 1
 decide
def KP: Nat:=3301
def KQ: Nat:=3400
theorem pw11(h:a<=300): 2048^a<2^KP:=by
 rw[show 2048=2^11 from rfl,<-Nat.pow_mul];exact Nat.pow_lt_pow_right (by decide) (by unfold KP;omega)
theorem Qpx{es sizes:List Nat}(hdiv:Uy KQ)(h5:es.length<=5)(hl:sizes.length=es.length)(hs:∀ s∈sizes,s<2048)(hlt:set<2^n)(h0:set≠0)(hc:Ub n es set): BagB n es sizes set (Kq n es sizes set):=by
 obtain⟨B,a9,u,hb⟩:=Qjt h5 h0 hlt hc;obtain⟨he,hr⟩:=hb sizes hl;have a4:sizes.length=B.ws.length:=by rw[hl,u.len]
 have a6:Vj B.ws sizes (dnm B.ws)=prN es.length λk=>sizes.getD k 0^exK B.ws k:=by
  rw[Jmm a4,u.len];rfl
 obtain⟨_,a2,a3⟩:=u.d60;have a5:=u.tot5 hc;have J:sN es.length (exK B.ws)<=300:=nL a5 (Nat.mul_le_mul a3 h5);obtain⟨G,_,aa⟩:=Jvj u.nrm;have a1:∀ q∈B.ws,Za q (dnm B.ws)<=300:=λq j=>by
  obtain⟨k,hk,rfl⟩:=List.getElem_of_mem j;have Z:=sN_ge (f:=exK B.ws) (show k<es.length by rw[<-u.len];exact hk);unfold exK at Z;rw[Ja pr0 hk]at Z;exact nL Z J
 have D:∀ q∈B.ws,q.neg=false:=λq j=>Jhf (u.nrm q j) (u.nn q j);have y:∀ q∈B.ws,0<q.den/\q.den<=60:=λq j=>⟨Nat.pos_of_ne_zero (u.nrm q j).den,Nat.le_trans (Nat.le_of_dvd a2 (G q j)) a3⟩;have U:∀ q∈B.ws,q.num<=300:=λq j=>by
  have Z:=a1 q j;rw[Jdn (u.nrm q j) (D q j) (G q j)]at Z;have h2:1<=dnm B.ws / q.den:=Nat.div_pos (Nat.le_of_dvd a2 (G q j)) (y q j).1;have:=Nat.mul_le_mul_left q.num h2;omega
 have a8:∀ k,sizes.getD k 0<=2048:=λk=>by
  by_cases hk:k<sizes.length
  .rw[Ja 0 hk];exact Nat.le_of_lt (hs _ (List.getElem_mem _))
  rw[List.getD,List.getElem?_eq_none om];exact Nat.zero_le _
 have O:∀ i,i<=es.length->(prN i λk=>sizes.getD k 0^exK B.ws k)<2^KP:=λi hi=>by
  refine Nat.lt_of_le_of_lt (Jmr (a:=2048) (s:=λk=>sizes.getD k 0) (e:=exK B.ws) λk _ _=>a8 k) (pw11 (nL (Qwb hi) J))
 refine⟨hlt,h0,hc,Jjp n es set,B,KP,KQ,Nat.le_refl _,a9,λq j=>(y q j).1,λq j=>⟨Qks (D q j),by have:=U q j;omega⟩,λi hi=>?_,λq j=>⟨by have:=U q j;omega,by have:=y q j;omega,by rw[(u.nrm q j).norm];exact(y q j).1,by rw[(u.nrm q j).norm];have:=y q j;omega⟩,a2,om,⟨by unfold KP;decide,a4,λq j=>?_,λs a7=>by have:=hs s a7;omega,λi hi=>?_,λi Z h2=>?_⟩,by unfold KQ;decide,by unfold KQ;decide,?_,hdiv,λx hx=>?_⟩
 .have Z:dnK B.ws i ∣ dnm B.ws:=by
   unfold dnK;exact(Jvj λq j=>u.nrm q (List.mem_of_mem_take j)).2.2 _ λq j=>G q (List.mem_of_mem_take j)
  have:=Nat.le_of_dvd a2 Z;omega
 .have hn:=U q j;have hd:=y q j;have e1:=Jnw (u.nrm q j) (D q j) (G q j);have Z:=a1 q j;rw[Jdn (u.nrm q j) (D q j) (G q j)]at Z;refine⟨om,om,om,by rw[Jjg];show dnm B.ws<_;omega,by rw[Jjg];show 1<_;decide,?_,?_,?_,Nat.le_trans (a1 q j) (by decide)⟩
  .rw[Jjg,Jcb,(u.nrm q j).norm];show q.den*1<_;omega
  .rw[Jjg,e1];show q.num*(dnm B.ws / q.den)<_;omega
  rw[Jjg,e1];show 1<_;decide
 .rw[Jbn a4 i hi];exact O i (by rw[<-u.len];exact hi)
 .refine Nat.lt_of_le_of_lt (Nat.pow_le_pow_left (Nat.le_of_lt (hs _ (List.getElem_mem h2))) _) (pw11 (a1 _ (List.getElem_mem Z)))
 .rw[a6];have:=Jct (O es.length (Nat.le_refl _));unfold KP at this;unfold KQ;omega
 rw[a6]at hx;exact Jbh hx hr
open Go.RowKit Pl Go.Wk Bl Nw
attribute [local irreducible] WC WL QX WD WDB WP WN WG WH
variable {t x:Int}{w:World}
theorem Qgc{A:Option Addr}{n c:Nat}{zs:List Int}(hR:Rd w 1 A n (Jb zs))(hn:zs.length=n)(hm:n<=1100000): Ret Tryz.prog 82 [.slice A n c,.int .i64 t] w λu w'=>w'=w/\((u=.int .i64 (-1)/\t ∉ zs)∨∃ k:Nat,u=.int .i64 k/\k<n/\zs.getD k 0=t):=by
 refine Jz Tryz.func82 Tryz.ntmps82 rfl kr rfl ?_;refine ρ ?_;refine Jr (fun (k:Nat)=>[(0,.slice A n c),(1,.int .i64 t),(7,.int .i64 (n:Int)),(8,.int .i64 (k:Int))]) (λk w'=>w'=w/\k<=n/\t ∉ zs.take k) (λk=>n-k) 0 sB ⟨rfl,Nat.zero_le _,by simp⟩ ?_;rintro k w' ⟨rfl,j,y⟩;refine ρ ?_;refine ci (λh=>?_) (λh=>?_)
 .have lk:k<n:=by have:=oT h;omega
  have i:k<zs.length:=om
  refine ρ ?_;refine ix k hR lk ?_;refine ρ ?_;refine ld (hR.cell (Yx i)) ?_;refine ρ ?_;refine ci (λh=>?_) (λh=>?_)
  .refine ρ ?_;exact Jq ⟨rfl,.inr ⟨k,rfl,lk,by grind⟩⟩
  refine ρ ?_;refine Jl (k+1) sO ⟨rfl,om,?_⟩ om;rw[Qo 0 i,List.mem_append,List.mem_singleton];grind
 refine ρ ?_;refine Jq ⟨rfl,.inl ⟨rfl,?_⟩⟩;grind
def Uq(d:Atm->Nat)(x:Int)(e:Int)(a:Atm): Int:=if x∈a.vars then(if e<0∨(d a:Int)<e then(d a:Int) else e) else e
def Qf(d:Atm->Nat)(x:Int)(ats:List Atm): Int:=ats.foldl (Uq d x) (-1)
theorem Jsg(d:Atm->Nat)(x:Int)(l:List Atm)(a:Atm): Qf d x (l++[a])=Uq d x (Qf d x l) a:=by simp[Qf]
structure CntA(d:Atm->Nat)(x:Int)(a:Atm): Prop where
 asc:Iv a.vars
 ar:a.vars.length=a.ar
 len:∀ r∈a.rows,r.length=a.ar
 few:a.rows.length<=12
 cnt:∀(col:Nat) (m:List Row),col<a.vars.length->a.vars.getD col 0=x->Vn [] (a.rows.map (pmR [col])) m->m.length=d a
theorem Qhc{d:Atm->Nat}{v:Value}{inp:Inp}(h:InV w v inp)(hA:∀ a∈inp.ats,CntA d x a):
  Ret Tryz.prog 43 [v,.int .i64 x] w λu w'=>u=.int .i64 (max (Qf d x inp.ats) 0)/\Ext w w':=by
 obtain⟨cs,rfl,vd,vp,va,rfl,hD,hP,J,A,c,aa,rfl,bo,bn,hR,bd⟩:=h;obtain⟨DA,dc,rfl,_⟩:=id hD;obtain⟨PA,pc,rfl,_⟩:=id hP;have ah:inp.ats.length=J.length:=by rw[aa,List.length_map]
 refine Jz Tryz.func43 Tryz.ntmps43 rfl kr rfl ?_;refine ρ ?_;refine bx ?_;intro w1 b2 b3 br bh;refine ρ ?_;refine ld (bh.at (i:=4) rfl) ?_;refine ρ ?_;refine Jr (fun (k:Nat)=>[(1,.int .i64 x),(2,.pointer (some ⟨b2,0,none⟩)),(5,.int .i64 (Qf d x (inp.ats.take k))),(12,.slice A J.length c),(13,.int .i64 (J.length:Int)),(14,.int .i64 (k:Int))])
  (λk w'=>k<=J.length/\Ext w w') (λk=>J.length-k) 0 sB ⟨Nat.zero_le _,b3⟩ ?_
 rintro k w2 ⟨hk,G⟩;refine ρ ?_;refine ci (λh=>?_) (λh=>?_)
 .have lk:k<J.length:=by have:=oT h;omega
  clear h;have hp:=bd _ (Jkb rfl lk);have aj:∀ j u,(J.getD k ta0).1.cells[j]?=some u->w2.cell? ((adr A (k*3)).add j)=some u:=λj u hu=>Jzm (hR.ext G) rfl lk hu;have a3:inp.ats.take (k+1)=inp.ats.take k++[(J.getD k ta0).2]:=by
   rw[aa,<-List.map_take,<-List.map_take,Qo ta0 lk,List.map_append];rfl
  have D:=hA (J.getD k ta0).2 (by rw[aa];exact List.mem_map_of_mem (Jkb rfl lk));generalize hq:J.getD k ta0=q at hp aj a3 D
  obtain⟨⟨t1,t2,t3⟩,a⟩:=q;simp only at D a3;have ae:=hp.ext G;obtain⟨⟨QA,qc,ap,bm,b5,b4⟩,ao,a4⟩:=id ae;simp only at ap ao;obtain⟨a1,PG,a2,bs,an,_⟩:=id a4;simp only at an;subst ap;subst ao;subst an;refine ρ ?_;refine ixq 3 k (hR.ext G) lk ?_;refine ρ ?_;refine lds (cs:=[.slice QA a.vars.length qc,.int .i64 (a.ar:Int),.slice PG a1.length a2]) aj ?_;refine ρ ?_;refine alc Jyd ?_;intro w3 b7 b1 bc bg;refine ρ ?_;refine stb (cs':=[.slice QA a.vars.length qc,.int .i64 (a.ar:Int),.slice PG a1.length a2]) bg ?_ (one3 rfl);intro w4 a7 bq az;have O:Ext w2 w4:=az w2 b1 bc;refine ρ ?_;refine ld (a7.at (i:=0) rfl) ?_;refine ρ ?_;refine cl (Qgc (b4.ext O) rfl b5) ?_;rintro u w5 ⟨rfl,⟨rfl,b6⟩|⟨aq,rfl,a9,ai⟩⟩
  .have e:Qf d x (inp.ats.take (k+1))=Qf d x (inp.ats.take k):=by rw[a3,Jsg,Uq,if_neg b6]
   refine ρ ?_;rw[<-e];exact Jl (k+1) sO ⟨lk,G.trans O⟩ om
  have ag:x∈a.vars:=by
   rw[<-ai];exact getD_mem' 0 _ a9
  refine ρ ?_;refine lds (cs:=[.int .i64 (a.ar:Int),.slice PG a1.length a2]) (a7.sub2 (i:=1) rfl rfl) ?_;refine ρ ?_;refine bsl (Jjz _) ?_;intro w6 bi ay bj am;have a6:=O.trans ay;have ak:RelV w6 (.agg #[.int .i64 (a.ar:Int),.slice PG a1.length a2]) a.ar a.rows:=(ae.ext a6).rel;have ba:IntsV w6 (.slice (some ⟨bi,0,none⟩) 1 1) (nz [aq]):=⟨_,1,rfl,Nat.le_refl _,by simp[nz],am.rd (n:=1) rfl⟩;refine ρ ?_;refine cl (Qvd ak ba D.len (λc hc=>by rw[List.mem_singleton.1 hc,<-D.ar];exact a9) (by simp) (by have:=D.few;omega)) ?_;rintro u w7 ⟨ax,rv,rfl,⟨z,RB,rm,rd,rfl⟩,m,af,_,_,ad⟩;have U:=D.cnt aq m a9 ai (ad (.inl D.few));refine ρ ?_;refine alc Gz ?_;intro w8 b9 aw bb bf;refine ρ ?_;refine stb (cs':=[.int .i64 z,.slice RB rm rd]) bf ?_ (λu hu=>by
   simp only[List.mem_cons,List.not_mem_nil,or_false]at hu;rcases hu with rfl|rfl<;>rfl)
  intro w9 Z bp av;have a5:Ext w7 w9:=av w7 aw bb;have ab:=a6.trans (ax.trans a5);have hM:=af.here.ext a5;have a8:=G.trans ab;have es:∀ e:Int,(if e<0∨(d a:Int)<e then(d a:Int) else e)=Uq d x e a:=λe=>by rw[Uq,if_pos ag]
  have B:=es (Qf d x (inp.ats.take k));rw[<-Jsg,<-a3]at B;refine ρ ?_;refine ρ ?_;refine ki 37 (λh=>?_) (λh=>?_)
  .have h:=oT h;refine ρ ?_;refine lds (cs:=[.int .i64 z,.slice RB rm rd]) (λj u hu=>Z.at hu) ?_;refine ρ ?_;refine cl (Jxb hM) ?_;rintro u au ⟨rfl,y⟩;rw[U];refine ρ ?_;rw[if_pos (.inl h)]at B;rw[B];exact Jl (k+1) sO ⟨lk,a8.trans y⟩ om
  have h:=oF h;refine ρ ?_;refine lds (cs:=[.int .i64 z,.slice RB rm rd]) (λj u hu=>Z.at hu) ?_;refine ρ ?_;refine cl (Jxb hM) ?_;rintro u au ⟨rfl,y⟩;rw[U];have be:=hM.ext y;refine ρ ?_;refine ci (λh2=>?_) (λh2=>?_)
  .have h2:=oT h2;refine ρ ?_;refine lds (cs:=[.int .i64 z,.slice RB rm rd]) (λj u hu=>(Z.ext y).at hu) ?_;refine ρ ?_;refine cl (Jxb be) ?_;rintro u bl ⟨rfl,ac⟩;rw[U];refine ρ ?_;rw[if_pos (.inr h2)]at B;rw[B];exact Jl (k+1) sO ⟨lk,a8.trans (y.trans ac)⟩ om
  have h2:=oF h2;refine ρ ?_;rw[if_neg (λh'=>h'.elim h h2)]at B;rw[B];exact Jl (k+1) sO ⟨lk,a8.trans y⟩ om
 have b8:k=J.length:=by have:=oF h;omega
 subst b8;rw[<-ah,List.take_length];refine ρ ?_;refine Jq ⟨?_,G⟩;exact congrArg (Value.int .i64) (by split<;>omega)
open Go.RowKit Pl Go.Wk Bl Nw
variable {perm sizes:List Nat}{r:Nat->Nat}{w w' w0:World}
theorem Jqg: Qa Tryz.prog 42=some (.agg #[.int .i64 0,.int .i64 0,.slice none 0 0,.slice none 0 0]):=kr
theorem Qpg(a b:Int)(A B:Option Addr)(n c m d:Nat)(w:World): (Instr.build 42 #[(0,.int .i64 a),(1,.int .i64 b),(2,.slice A n c),(3,.slice B m d)]).run Tryz.prog w=.ok (.agg #[.int .i64 a,.int .i64 b,.slice A n c,.slice B m d]) w:=kr
theorem EIs: ElT Tryz.prog 28 22 1 24 (.slice none 0 0):=⟨Tryz.underlying28,info_parts kr,rfl,by decide⟩
theorem bs0Is(w:World): (Instr.buildSlice 28 0 #[]).run Tryz.prog w=.ok (.slice (some ⟨w.heap.size,0,none⟩) 0 0) (w.alloc (.cells ([]:List Value).toArray 22)):=kr
theorem bs0I(w:World): (Instr.buildSlice 22 0 #[]).run Tryz.prog w=.ok (.slice (some ⟨w.heap.size,0,none⟩) 0 0) (w.alloc (.cells ([]:List Value).toArray 3)):=kr
theorem Qjn(A:Option Addr)(n c:Nat)(w:World): (Instr.buildSlice 28 1 #[(0,.slice A n c)]).run Tryz.prog w=.ok (.slice (some ⟨w.heap.size,0,none⟩) 1 1) (w.alloc (.cells [.slice A n c].toArray 22)):=kr
theorem BndsO.box{A:Option Addr}{n k b t:Nat}{us cs:List Value}(h:BndsO w0 w A n k r us)(hB:Blk w b t cs)(hcs:∀ u∈cs,∀ x,u≠.int .u32 x)(hne:Nat.beq 40 t=false)(hg:GrN (λq=>q=b) w w'): BndsO w0 w' A n k r us :=
 ⟨h.1,Qc h.2.1 hg λg i e=>by rw[e]at i;exact hB.ne_own h.2.1 hne i.symm,h.2.2.1,λj B=>by
  obtain⟨u,e,y⟩:=h.2.2.2 j B;exact⟨u,e,((Jwj hB hcs y).gr hg).1⟩⟩
structure CostI(n f:Nat)(perm:List Nat)(vss:List (List Nat))(sizes:List Nat)(d:Nat->Atm->Nat)(r:Nat->Nat)(inp:Inp): Prop where
 chk:Yl inp
 en:inp.n=(n:Int)
 ef:inp.free=(f:Int)
 ep:inp.perm=nz perm
 ev:inp.ats.map (·.vars)=vss.map nz
 es:inp.ats.map (λa=>a.rows.length)=sizes
 five:inp.ats.length<=5
 pok:PermOk n f perm
 n32:n<=32
 vlt:∀ vs∈vss,∀ x∈vs,x<n
 cnt:∀ x,x<f->∀ a∈inp.ats,CntA (d x) (x:Int) a
 bag:∀ kf pf,Vo n (vss.map Xx) (Zv perm f) kf pf->∀ v,v<n->BagB n (vss.map Xx) sizes (kf v ||| 2^v) (r v)
 sumN:Nb (((List.range n).map r).foldl (· + ·) 0)
 subN:∀ i,i<=n->Nb ((((List.range n).map r).take i).foldl (· + ·) 0)
 oneN:∀ x∈(List.range n).map r,Nb x
def Jqv(f:Nat)(d:Nat->Atm->Nat)(inp:Inp): Nat:=hgS ((List.range f).map λx:Nat=>max (Qf (d x) (x:Int) inp.ats) 0)
theorem Jtn{B0 n f:Nat}{vss:List (List Nat)}{d:Nat->Atm->Nat}{v:Value}{inp:Inp}(hT:FB B0 w)(hC:CostI n f perm vss sizes d r inp)(h:InV w v inp):
  Ret Tryz.prog 17 [v] w λu w'=>∃ O us VS vn vc,u=.tuple #[.agg #[.int .i64 (Jqv f d inp:Int),.int .i64 (Jqv f d inp:Int),.slice O n n,.slice VS vn vc],.int .i64 0]/\BndsO w w' O n n r us/\NatV w' (.slice VS vn vc) (((List.range n).map r).foldl (· + ·) 0)/\Ext w w':=by
 have bf:=h;obtain⟨cs,rfl,vd,vp,va,rfl,hD,hP,df⟩:=h;obtain⟨ts,A,c,c7,rfl,f8,f7,hR,e7⟩:=id df;obtain⟨DA,dc,rfl,_⟩:=id hD;obtain⟨PA,pc,rfl,f6,f5,du⟩:=id hP;have cw:=hC.n32;have fd:=hC.pok.fn;have cy:inp.ats.length=ts.length:=by rw[c7,List.length_map]
 have bt:vss.length=ts.length:=by have:=congrArg List.length hC.ev;simp only[List.length_map]at this;omega
 have dz:sizes.length=ts.length:=by rw[<-hC.es,List.length_map,cy]
 have h5:ts.length<=5:=by have:=hC.five;omega
 refine Jz Tryz.func17 Tryz.ntmps17 rfl kr rfl ?_;refine ρ ?_;refine bx ?_;intro w1 b1 cn fe em;refine ρ ?_;refine alc Jqg ?_;intro w2 b2 ck e6 ek;have ao:=em.ext ck;have b4:=cn.trans ck;refine ρ ?_;refine ldW ao ?_;refine ρ ?_;refine cl (Jrf (bf.ext b4) (by rw[hC.en];omega) (by rw[hC.ef];omega)) ?_;rintro u w3 ⟨ax,e,rfl,he⟩;obtain rfl:e=0:=he.2 hC.chk;have a5:=b4.trans ax;refine ρ ?_;refine bsl bs0Is ?_;intro w4 dk bq d6 dd;refine ρ ?_;refine bsl bs0I ?_;intro w5 dj bp d5 db;have ch:=a5.trans bq;have b5:=bq.trans bp;have et:=ch.trans bp;have de:=(ao.ext ax).ext b5;refine ρ ?_;refine ld (de.at (i:=4) rfl) ?_;have ea:OX 22 1 NtC (λq=>w3.heap.size<=q) w5 w3.heap.size (.slice (some ⟨dk,0,none⟩) 0 0) ([]:List (List Nat)):=⟨[],rfl,(dd.ext bp).own (n:=0) d6 rfl (Nat.zero_le _),λp hp=>by cases hp⟩;have e8:w5.ownsRow w3.heap.size 3 1 (.slice (some ⟨dj,0,none⟩) 0 0) 0 (Jb (nz [])):=db.own (n:=0) (nL bq.size d5) rfl (Nat.zero_le _)
 refine ρ ?_;refine Xh (fun (k:Nat) (vs vz:Value)=>[(1,.pointer (some ⟨b1,0,none⟩)),(2,.pointer (some ⟨b2,0,none⟩)),(3,.int .i64 0),(5,vs),(6,vz),(25,.slice A ts.length c),(26,.int .i64 (ts.length:Int)),(27,.int .i64 (k:Int))])
  (λk vs vz w'=>k<=ts.length/\Ext w3 w'/\OX 22 1 NtC (λq=>w3.heap.size<=q) w' w3.heap.size vs (vss.take k)/\w'.ownsRow w3.heap.size 3 1 vz k (Jb (nz (sizes.take k)))) (λk _ _=>ts.length-k) 0 (.slice (some ⟨dk,0,none⟩) 0 0) (.slice (some ⟨dj,0,none⟩) 0 0) sB
  ⟨Nat.zero_le _,b5,by rw[List.take_zero];exact ea,by rw[List.take_zero];exact e8⟩ ?_
 rintro k vs vz w6 ⟨hk,a6,ak,b3⟩;have Z:=a5.trans a6;obtain⟨SA,sc,rfl,dt,bs⟩:=ak.form;obtain⟨ZA,zc,rfl,f0,ce⟩:=Jc b3;have co:(vss.take k).length=k:=by rw[List.length_take];omega
 rw[co]at ak dt bs ⊢;refine ρ ?_;refine ci (λh=>?_) (λh=>?_)
 .have lk:k<ts.length:=by have:=oT h;omega
  clear h;have cd:k<vss.length:=om
  have cc:k<sizes.length:=om
  have hp:=e7 _ (Jkb rfl lk);have d4:∀ j u,(ts.getD k ta0).1.cells[j]?=some u->w6.cell? ((adr A (k*3)).add j)=some u:=λj u hu=>Jzm (hR.ext Z) rfl lk hu;have az:(ts.getD k ta0).2.vars=nz (vss.getD k []):=by
   have e1:(inp.ats.map (·.vars))[k]?=(vss.map nz)[k]?:=by rw[hC.ev]
   rw[c7]at e1;simpa [List.getElem?_eq_getElem lk,List.getElem?_eq_getElem cd,List.getD] using e1
  have bu:(ts.getD k ta0).2.rows.length=sizes.getD k 0:=by
   have e1:(inp.ats.map λa=>a.rows.length)[k]?=sizes[k]?:=by rw[hC.es]
   rw[c7]at e1;simpa [List.getElem?_eq_getElem lk,List.getElem?_eq_getElem cc,List.getD] using e1
  generalize hq:ts.getD k ta0=q at hp d4 az bu
  obtain⟨⟨t1,t2,t3⟩,a⟩:=q;simp only at az bu;obtain⟨⟨QA,qc,di,f4,f3,f2⟩,dh,ay⟩:=id hp;simp only at di dh;obtain⟨au,PG,av,ff,dg,_⟩:=id ay;simp only at dg;subst di;subst dh;subst dg;refine ρ ?_;refine ixq 3 k (hR.ext Z) lk ?_;refine ρ ?_;refine lds (cs:=[.slice QA a.vars.length qc,.int .i64 (a.ar:Int),.slice PG au.length av]) d4 ?_;refine ρ ?_;refine alc Jyd ?_;intro w7 b8 bo e5 ej;refine ρ ?_;refine stb (cs':=[.slice QA a.vars.length qc,.int .i64 (a.ar:Int),.slice PG au.length av]) ej ?_ (one3 rfl);intro w8 bi fc bn;have cj:Ext w6 w8:=bn w6 bo e5;refine ρ ?_;refine ld (bi.at (i:=0) rfl) ?_;refine ρ ?_;refine bsl (Qjn _ _ _) ?_;intro w9 fh aw ez da;have y:=cj.trans aw;have a9:=a6.trans y;have ed:∀ u,Ext w3 u->IntsV u (.slice QA a.vars.length qc) (nz (vss.getD k [])):=λu hu=>by
   have:=(hp.ext (a5.trans hu)).1;rw[az]at this;rwa [az]
  have be:=ak.ext NtC.sta y;obtain⟨_,_,bd⟩:=id be.own;have bc:=Jo b3 y;have bh:=bi.ext aw;refine ρ ?_;refine apX EIs NtC.sta be da rfl (λu hu=>by rw[List.mem_singleton.1 hu];rfl) ⟨_,rfl,Off.old ed a9 λq hq=>hq⟩ (λg hg=>(bs g hg).1) om (by decide) a9.size ?_;intro dq aq c2 ah _;have ab:Ext w3 aq:=Jt a9 ah λg eg=>(bs g eg).1;have bz:=Qc bc (GrN.by (N:=λq=>(Value.slice SA k sc).ownBlock=some q) ah λq e=>e) λg eg e=>Us bd bc kr e eg;have c4:=bh.grown ah (bh.ne_own bd rfl);refine ρ ?_;refine lds (cs:=[.int .i64 (a.ar:Int),.slice PG au.length av]) (c4.sub2 (i:=1) rfl rfl) ?_;have d7:RelV aq (.agg #[.int .i64 (a.ar:Int),.slice PG au.length av]) a.ar a.rows:=(hp.ext (a5.trans ab)).rel;refine ρ ?_;refine cl (Jxb d7) ?_;rintro u bl ⟨rfl,ae⟩;refine ρ ?_;refine bsl (Jjz _) ?_;intro dm fg ad ey d9;have J:=ae.trans ad;have aa:=ab.trans J;have ai:=Jo bz J
  have aj:=c2.ext NtC.sta J;obtain⟨_,_,c0⟩:=id aj.own;refine ρ ?_;refine apb (m':=1) (news:=[.int .i64 (a.rows.length:Int)]) EI ai (d9.rd (n:=1) rfl) (by simp[Value.oneCell']) (by unfold maxLen;omega) om aa.size ?_;intro dn ca bw bb _;have c1:=aj.gr NtC.sta (GrN.by (N:=λq=>(Value.slice ZA k zc).ownBlock=some q) bb λq e=>e) λq e=>⟨(ce q e).1,λe'=>Us ai c0 kr e e'⟩;have er:vss.take (k+1)=vss.take k++[vss.getD k []]:=Qo [] cd;have eo:Jb (nz (sizes.take (k+1)))=Jb (nz (sizes.take k))++[.int .i64 (a.rows.length:Int)]:=by
   rw[Qo 0 cc,bu];simp[Jb,nz]
  refine ρ ?_;exact Qn (k+1) dq dn sO ⟨lk,Jt aa bb λg eg=>(ce g eg).1,by rw[er];exact c1,by rw[eo];exact bw⟩ om
 have e3:k=ts.length:=by have:=oF h;omega
 subst e3;have f9:ts.length=vss.length:=bt.symm;rw[<-bt,List.take_length]at ak;rw[<-dz,List.take_length]at b3;have e9:=ak.gx (N':=Nn) NtC.sta om λk hk=>hk.elim;have an:=(ao.ext ax).ext a6;refine ρ ?_;refine ld (an.at (i:=0) rfl) ?_;rw[hC.en,<-bt];refine ρ ?_;refine cl (Jrj e9 cw om hC.vlt) ?_;rintro u w7 ⟨GA,gc,rfl,hG,bo⟩;refine ρ ?_;refine alc Ic ?_;intro w8 b9 bn e4 ei;refine ρ ?_;refine stW ei ?_;intro w9 bg fb aw;have a8:Ext w7 w9:=aw w7 bn e4;have y:=bo.trans a8;have bj:=an.ext y;have cq:inp.perm.length=perm.length:=by rw[hC.ep,nzl]
 have cp:Rd w 1 PA perm.length (Jb (nz perm)):=by rw[<-cq,<-hC.ep];exact du
 refine ρ ?_;refine ldW bg ?_;refine ρ ?_;refine ld (bj.at (i:=1) rfl) ?_;rw[hC.ef];refine ρ ?_;refine ld (bj.at (i:=3) rfl) ?_;rw[cq];refine ρ ?_;have cg:=Z.trans y;refine cl (Jsq (pc:=pc) (hG.ext a8) hC.pok (cp.ext cg)) ?_;rintro u aq ⟨a1,B,kf,pf,rfl,ee,d8⟩;have cx:sizes.length=vss.length:=om
 have d3:=Jtp (w:=aq) (A:=GA) (c:=gc) (cb:=n) (SA:=ZA) (sc:=zc) (r:=r) ((hG.ext a8).ext a1) (Rd.own ee) (λv hv=>(d8 v hv).1) (Rd.own (Jo b3 (y.trans a1))) om (by rw[List.length_map];exact cx) (by rw[List.length_map];omega) (hC.bag kf pf d8);rw[cx]at d3;refine ρ ?_;refine ldW (bg.ext a1) ?_;refine ρ ?_;refine cl d3 ?_;rintro u bl ⟨O,us,rfl,eh,ae⟩;have a3:=y.trans (a1.trans ae);have ap:=an.ext a3;have a2:=Z.trans a3;refine ρ ?_;refine ld (ap.at (i:=1) rfl) ?_;rw[hC.ef];refine ρ ?_;refine mkn EI f om (by unfold maxLen;omega) ?_;intro dm YA ad b7 ew;have e0:(madeCells (Value.int .i64 0).cells (f*1)).toList=Jb (List.replicate f 0):=by
  rw[Nat.mul_one];refine(Vc _ _).trans ?_;simp[Jb]
 rw[e0]at b7;refine ρ ?_;refine Ju (fun (k:Nat) (_:List Int)=>[(1,.pointer (some ⟨b1,0,none⟩)),(2,.pointer (some ⟨b2,0,none⟩)),(3,.int .i64 0),(12,.slice O n n),(13,.slice YA f f),(82,.int .i64 (f:Int)),(83,.int .i64 (k:Int))])
  (λk ls w'=>k<=f/\Ext bl w'/\ls.length=f/\(∀ j:Nat,j<k->ls[j]?=some (max (Qf (d j) (j:Int) inp.ats) 0))/\w'.ownsRow bl.heap.size 3 1 (.slice YA f f) f (Jb ls)) (λk _=>f-k) 0 (List.replicate f 0) sB
  ⟨Nat.zero_le _,ad,by simp,λj hj=>absurd hj (Nat.not_lt_zero j),b7⟩ ?_
 rintro k ls ca ⟨fa,D,e2,ba,b6⟩;have c6:=ap.ext D;refine ρ ?_;refine ci (λh=>?_) (λh=>?_)
 .have lk:k<f:=by have:=oT h;omega
  clear h;refine ρ ?_;refine ldW c6 ?_;refine ρ ?_;refine cl (Qhc (d:=d k) (bf.ext (a2.trans D)) (hC.cnt k lk)) ?_;rintro u c9 ⟨rfl,a7⟩;have af:=Jo b6 a7;obtain⟨_,_,_,_,dw⟩:=Jc af;obtain⟨s1,s2,s3,s4,s5⟩:=Zw af (q:=k) om (.int .i64 (max (Qf (d k) (k:Int) inp.ats) 0));have ds:(Jb ls)[k]?=some (.int .i64 (ls.getD k 0)):=Yx om;have es:(Jb ls).set k (.int .i64 (max (Qf (d k) (k:Int) inp.ats) 0))=Jb (ls.set k (max (Qf (d k) (k:Int) inp.ats) 0)):=by simp[Jb,List.map_set]
  rw[es]at s3;refine ρ ?_;refine ix k (Rd.own af) lk ?_;refine ρ ?_;refine sto (s1.trans ds) s2 ?_;refine ρ ?_;refine Js (k+1) (ls.set k (max (Qf (d k) (k:Int) inp.ats) 0)) sO ⟨lk,Jt (D.trans a7) s5 λg hg=>(dw g hg).1,by simp[e2],λj hj=>?_,s3⟩ om;by_cases e:j=k
  .subst e;rw[List.getElem?_set_self om]
  rw[List.getElem?_set_ne (λe'=>e e'.symm)];exact ba j om
 have cz:k=f:=by have:=oF h;omega
 subst cz;have e:ls=(List.range k).map λx:Nat=>max (Qf (d x) (x:Int) inp.ats) 0:=by
  refine List.ext_getElem? λj=>?_;by_cases lj:j<k
  .rw[ba j lj,List.getElem?_map,List.getElem?_range lj];rfl
  rw[List.getElem?_eq_none om,List.getElem?_eq_none (by simp;omega)]
 subst e;have ec:IntsV ca (.slice YA k k) ((List.range k).map λx:Nat=>max (Qf (d x) (x:Int) inp.ats) 0):=⟨YA,k,by simp,by simp,by simp;omega,by simpa using Rd.own b6⟩;refine ρ ?_;refine cl (Qnl (hT.ext (a2.trans D)) ec) ?_;rintro u c9 ⟨rfl,a7⟩;have G:=D.trans a7;have am:=eh.ext G;obtain⟨br,cr,_,dx⟩:=id am;have eb:NatsV c9 O us ((List.range n).map r):=⟨by rw[br];exact Rd.own cr,by simp[br],λi hi=>by
  have d0:i<n:=by simpa using hi
  obtain⟨u,eu,hu⟩:=dx i d0;simpa [List.getD,eu,List.getElem?_range d0] using hu⟩
 have cu:=Qdh (c:=n) eb hC.sumN (by simp;omega) (λi hi=>hC.subN i (by simpa using hi)) hC.oneN;rw[br]at cu;refine ρ ?_;refine cl cu ?_;rintro u c8 ⟨hv,_,ac⟩;obtain⟨VS,vn,vc,rfl⟩:=hv.slc;have a4:Blk c8 b2 42 [.int .i64 0,.int .i64 0,.slice none 0 0,.slice none 0 0]:=((ek.ext ax).ext a6).ext (a3.trans (G.trans ac));refine ρ ?_;refine bld (Qpg _ _ _ _ _ _ _ _ _) ?_;refine ρ ?_;refine stW a4 ?_;intro dl c5 d1 cm;have ag:GrN (λq=>q=b2) c8 dl:=GrN.by d1 λq e=>by injection e with e;exact e.symm
 have d2:∀ u∈([.int .i64 0,.int .i64 0,.slice none 0 0,.slice none 0 0]:List Value),∀ x,u≠.int .u32 x:=λu hu x=>by
  simp only[List.mem_cons,List.not_mem_nil,or_false]at hu;rcases hu with rfl|rfl|rfl|rfl<;>exactλe=>by cases e
 have U:=(am.ext ac).box a4 d2 kr ag;have bm:=a2.trans (G.trans ac);refine ρ ?_;exact Zc c5 ⟨O,us,VS,vn,vc,rfl,⟨U.1,Io U.2.1 (Z.trans (y.trans a1)).size,U.2.2.1,U.2.2.2⟩,((Jwj a4 d2 hv).gr ag).1,cm w bm (nL cn.size e6)⟩
end Go.Proofs.YtebiphhfkdbpfaaGreatDoor
namespace Go.Proofs.YtebiphhfkdbpfaaGreatDoor
open Go.RowKit Pl Go.Wk
attribute [local irreducible] WC WL QX WD WDB WP
variable {r:List V}{w:World}
def RowM(w:World)(v:Value)(r:List V): Prop:=∃ A c,v=.slice A r.length c/\r.length<=c/\RdR w A r
def RowsM(w:World)(v:Value)(ls:List (List V)): Prop:=∃(ps:List Pr) (A:Option Addr) (c:Nat),ls=ps.map (·.2)/\v=.slice A ps.length c/\ps.length<=c/\Rd w 1 A ps.length (ps.map (·.1))/\∀ p∈ps,RowM w p.1 p.2
def IntsM(w:World)(v:Value)(zs:List Int): Prop:=∃ A c,v=.slice A zs.length c/\zs.length<=c/\Rd w 1 A zs.length (Jb zs)
def BoolsM(w:World)(v:Value)(ds:List Bool): Prop:=∃ A c,v=.slice A ds.length c/\ds.length<=c/\RdB w A ds
theorem RowM.ext{w w':World}{v:Value}{r:List V}(h:RowM w v r)(hx:Ext w w'): RowM w' v r:=by
 obtain⟨A,c,u,j,i⟩:=h;exact⟨A,c,u,j,i.ext hx⟩
theorem RowM.one{v:Value}(h:RowM w v r): v.oneCell'=true:=by obtain⟨A,c,rfl,_⟩:=h;rfl
theorem RowM.v{v:Value}(h:RowM w v r)(hl:r.length<=1100000): RowV w v r:=by
 obtain⟨A,c,u,j,i⟩:=h;exact⟨A,c,u,j,hl,i⟩
theorem RowV.m{v:Value}(h:RowV w v r): RowM w v r:=by
 obtain⟨A,c,u,j,_,i⟩:=h;exact⟨A,c,u,j,i⟩
theorem RowsM.ext{w w':World}{v:Value}{ls:List (List V)}(h:RowsM w v ls)(hx:Ext w w'): RowsM w' v ls:=by
 obtain⟨ps,A,c,D,B,y,u,j⟩:=h;exact⟨ps,A,c,D,B,y,u.ext hx,λp i=>(j p i).ext hx⟩
theorem RowsM.v{w:World}{v:Value}{ls:List (List V)}(h:RowsM w v ls)(hm:ls.length<=1100000)(hl:∀ r∈ls,r.length<=1100000): RowsV w v ls:=by
 obtain⟨ps,A,c,D,B,y,u,j⟩:=h;subst D;rw[List.length_map]at hm;exact⟨ps,A,c,rfl,B,y,hm,u,λp i=>(j p i).v (hl _ (List.mem_map.2 ⟨p,i,rfl⟩))⟩
theorem RowsV.m{w:World}{v:Value}{ls:List (List V)}(h:RowsV w v ls): RowsM w v ls:=by
 obtain⟨ps,A,c,D,B,y,_,u,j⟩:=h;exact⟨ps,A,c,D,B,y,u,λp i=>(j p i).m⟩
theorem RowsM.form{v:Value}{ls:List (List V)}(h:RowsM w v ls): ∃ A c,v=.slice A ls.length c/\ls.length<=c:=by
 obtain⟨ps,A,c,u,j,i,_⟩:=h;subst u;exact⟨A,c,by rw[List.length_map];exact j,by rw[List.length_map];exact i⟩
theorem IntsM.ext{w w':World}{v:Value}{r:List Int}(h:IntsM w v r)(hx:Ext w w'): IntsM w' v r:=by
 obtain⟨A,c,u,j,i⟩:=h;exact⟨A,c,u,j,i.ext hx⟩
theorem IntsM.v{v:Value}{r:List Int}(h:IntsM w v r)(hl:r.length<=1100000): IntsV w v r:=by
 obtain⟨A,c,u,j,i⟩:=h;exact⟨A,c,u,j,hl,i⟩
theorem BoolsM.ext{w w':World}{v:Value}{r:List Bool}(h:BoolsM w v r)(hx:Ext w w'): BoolsM w' v r:=by
 obtain⟨A,c,u,j,i⟩:=h;exact⟨A,c,u,j,i.ext hx⟩
theorem BoolsM.v{v:Value}{r:List Bool}(h:BoolsM w v r)(hl:r.length<=1100000): BoolsV w v r:=by
 obtain⟨A,c,u,j,i⟩:=h;exact⟨A,c,u,j,hl,i⟩
theorem Qrm{ar:Int}{sv v:Value}{r:Row}{A:Option Addr}{n c:Nat}(hs:sv=.slice A n c)(h:RowM w v r)(ha:ar<=1000000): Ret Tryz.prog 77 [.agg #[.int .i64 ar,sv],v] w λu w'=>Ext w w'/\∃ e,u=.int .i64 e/\(e=0↔(r.length:Int)=ar/\r.all Xa=true):=by
 subst hs;obtain⟨B,c',rfl,D,U⟩:=id h;refine Jz Tryz.func77 Tryz.ntmps77 rfl kr rfl ?_;refine ρ ?_;refine bx ?_;intro w1 b j Z G;refine ρ ?_;refine ld (G.at (i:=0) rfl) ?_;refine ρ ?_;refine ci (λh=>?_) (λJ=>?_)
 .refine ρ ?_;exact Jq ⟨j,6,rfl,⟨λe=>(by cases e),λe=>absurd e.1 (Kt h)⟩⟩
 have O:=Ka J;refine ρ ?_;refine cl (Qwq ((h.v om).ext j)) ?_;rintro u w2 ⟨rfl,y⟩;refine ρ ?_;refine ci (λh=>?_) (λD=>?_)
 .refine ρ ?_;refine Jq ⟨j.trans y,4,rfl,⟨λe=>(by cases e),λe=>?_⟩⟩;rw[e.2]at h;cases h
 refine ρ ?_;refine Jq ⟨j.trans y,0,rfl,⟨λ_=>⟨O,by simpa using D⟩,λ_=>rfl⟩⟩
theorem Jmc{v:Value}{ls:List Row}{ar:Nat}(h:RowsM w v ls)(hm0:ls.length<=1000000):
  Ret Tryz.prog 40 [.int .i64 (ar:Int),v] w λu w'=>Ext w w'/\∃ rv e,u=.tuple #[rv,.int .i64 e]/\(∃ z B m d,rv=.agg #[.int .i64 z,.slice B m d])/\(ar<=32->(∀ r∈ls,r.length=ar/\r.all Xa=true)->ls.length<=65536->e=0) /\
   (e=0->ar<=32/\(∀ r∈ls,r.length=ar/\r.all Xa=true)/\∃ m,Off (λk=>k<w.heap.size) w' (λu=>RelV u rv ar m)/\m.length<=65536/\(∀ x∈m,x∈ls)/\((ls.length<=12∨Srt [] ls)->Vn [] ls m)):=by
 obtain⟨ps,A,c,rfl,rfl,b6,hR,G⟩:=h;have ag:ps.length<=1100000:=by rw[List.length_map]at hm0;omega
 generalize hn:ps.length=n at *
 have b4:∀ i,(ps.map (·.2)).getD i []=(ps.getD i z0).2:=λi=>Jcq
 have ae:∀ p∈ps,p.1.oneCell'=true:=λp hp=>(G p hp).one;refine Jz Tryz.func40 Tryz.ntmps40 rfl kr rfl ?_;refine ρ ?_;refine alc Gz ?_;intro w1 b aq hb hB;refine ρ ?_;refine cl (Qvf (ar:Int) w1) ?_;rintro v2 w2 ⟨ad,z',e2,rfl,ai,J⟩;refine ρ ?_;refine alc Gz ?_;intro w3 b3 ap ax b2;refine ρ ?_;refine stb b2 ?_ (Ye (z:=z') (A:=none) (n:=0) (c:=0));intro w4 b1 b8 ao;have a7:Ext w1 w4:=ao w1 (ad.trans ap) (nL ad.size ax);have U:=aq.trans a7;have ab:=hB.ext a7;refine ρ ?_;refine ci (λh=>?_) (λh=>?_)
 .have a8:=Kt h;refine ρ ?_;refine bld (Jvt _) ?_;refine ρ ?_;refine stb ab ?_ Ye;intro w5 aa b7 a1;refine ρ ?_;refine Zc aa ⟨a1 w U hb,_,e2,rfl,⟨0,none,0,0,rfl⟩,λh1 _ _=>J.2 om,λe=>absurd e a8⟩
 have hz:=Ka h;subst hz;have ay:ar<=32:=by have:=J.1 rfl;omega
 have ak:=ai rfl;subst ak;clear h ai J;refine ρ ?_;refine Jr (fun (k:Nat)=>[(0,.int .i64 (ar:Int)),(1,.slice A n c),(4,.pointer (some ⟨b,0,none⟩)),(6,.pointer (some ⟨b3,0,none⟩)),(20,.int .i64 (n:Int)),(21,.int .i64 (k:Int))])
  (λk w'=>Ext w4 w'/\k<=n/\∀ i,i<k->(ps.getD i z0).2.length=ar/\(ps.getD i z0).2.all Xa=true) (λk=>n-k) 0 sB ⟨Ext.refl _,Nat.zero_le _,λi hi=>om⟩ ?_
 rintro k w5 ⟨a1,hk,hI⟩;have y:=U.trans a1;refine ρ ?_;refine ci (λh=>?_) (λh=>?_)
 .have lk:k<n:=by have:=oT h;omega
  clear h;refine ρ ?_;refine dr [(0,0),(0,1),(0,2),(0,3),(0,4),(1,5),(0,6)] kr ?_;have a6:=a1.drew;have aa:=b1.ext a6;have aj:=hR.ext y.drew;refine ρd ?_;refine Qw (cs:=[.int .i64 (ar:Int),.slice none 0 0]) (λj u hu=>aa.at hu) ?_;refine ρd ?_;refine dix k aj lk ?_;refine ρd ?_;refine dld (Jkr aj hn lk) ?_;refine ρd ?_;have ha:(ar:Int)<=1000000:=om
  refine dcl (Qrm (A:=none) (n:=0) (c:=0) rfl ((G _ (Uk hn lk)).ext y.drew) ha) ?_;rintro u w6 ⟨Z,e,rfl,J⟩;refine⟨Z,?_⟩;refine ρd ?_;refine ρ ?_;have a2:=a6.trans Z;refine ci (λh=>?_) (λh=>?_)
  .have a8:=Kt h;refine ρ ?_;refine bld (Jvt _) ?_;refine ρ ?_;refine stb (ab.ext a2) ?_ Ye;intro w7 a9 hg7 an;refine ρ ?_;refine Zc a9 ⟨an w (U.trans a2) hb,_,e,rfl,⟨0,none,0,0,rfl⟩,λ_ h2 _=>?_,λe=>absurd e a8⟩;grind
  have hz:=Ka h;have b5:=J.1 hz;refine ρ ?_;refine Jl (k+1) sO ⟨a2,om,λi hi=>?_⟩ om;grind
 have e:k=n:=by have:=oF h;omega
 subst e;have G:∀ p∈ps,RowV w p.1 p.2:=λp hp=>by
  obtain⟨j,hj,rfl⟩:=List.getElem_of_mem hp;have:=(hI j om).1;rw[Xv z0 _ hj]at this;exact(G _ hp).v om
 refine ρ ?_;refine cl (Qnd (hR.ext y) hn ag ae) ?_;rintro u w6 ⟨Z,D,d,rfl,hd,a4⟩;have O:=y.trans Z;have a3:∀ j,(Value.slice D k d).ownBlock=some j->w5.heap.size<=j/\j<w6.heap.size:=by
  obtain⟨_,_,_,_,hf⟩:=Jc a4.1;grind
 have af:∀ p∈ps,Off (one (Value.slice D k d).ownBlock) w6 (λu=>RowV u p.1 p.2):=λp hp=>Off.old (a:=w) (λu hu=>(G p hp).ext hu) O (λj ej=>nL y.size (a3 j ej).1);refine ρ ?_;refine cl (Qjl (ar:=ar) a4 hn ag hd af) ?_;rintro u w7 ⟨hg7,rv,e,rfl,⟨z,B,m,d',au⟩,ah,av⟩;have ac:Ext w w7:=Jt O hg7 (λj ej=>nL y.size (a3 j ej).1);have a5:=(ab.ext a1).ext Z;have a9:=a5.grown hg7 (a5.ne_own a4.1 rfl);subst au;refine ρ ?_;refine stb a9 ?_ (Ye (z:=z) (A:=B) (n:=m) (c:=d'));intro w8 az aw am;refine ρ ?_;refine Zc az ⟨am w ac hb,_,e,rfl,⟨z,B,m,d',rfl⟩,λ_ _ h3=>ah (by grind),λe0=>⟨ay,λr hr=>?_,?_⟩⟩
 .grind [List.mem_map.1,List.getElem_of_mem,Xv,z0]
 obtain⟨ms,m1,m2,m3,m4⟩:=av e0;refine⟨ms,?_,m2,m3,λhc=>m4 (by grind)⟩;have b9:b<w6.heap.size/\(Value.slice D k d).ownBlock≠some b:=⟨a5.lt,λe=>a5.ne_own a4.1 rfl e.symm⟩;refine(m1.grown aw (λj ej=>by grind)).mono λj _ hj=>⟨nM hj O.size,λe=>?_⟩;have:=(a3 j e).1;have:=y.size;omega
open Go.RowKit Pl Go.Wk
attribute [local irreducible] WN WG WH WM
def IntssV(w:World)(v:Value)(zss:List (List Int)): Prop:=∃ A c cs,v=.slice A zss.length c/\zss.length<=c/\Rd w 1 A zss.length cs/\∀ i,i<zss.length->∃ u,cs[i]?=some u/\IntsM w u (zss.getD i [])
def RowssV(w:World)(v:Value)(rss:List (List Row)): Prop:=∃ A c cs,v=.slice A rss.length c/\rss.length<=c/\Rd w 1 A rss.length cs/\∀ i,i<rss.length->∃ u,cs[i]?=some u/\RowsM w u (rss.getD i [])
theorem IntssV.ext{w w':World}{v:Value}{zss:List (List Int)}(h:IntssV w v zss)(hx:Ext w w'): IntssV w' v zss:=by
 obtain⟨A,c,cs,G,D,B,y⟩:=h;exact⟨A,c,cs,G,D,B.ext hx,λi hi=>by obtain⟨u,e,j⟩:=y i hi;exact⟨u,e,j.ext hx⟩⟩
theorem RowssV.ext{w w':World}{v:Value}{zss:List (List Row)}(h:RowssV w v zss)(hx:Ext w w'): RowssV w' v zss:=by
 obtain⟨A,c,cs,G,D,B,y⟩:=h;exact⟨A,c,cs,G,D,B.ext hx,λi hi=>by obtain⟨u,e,j⟩:=y i hi;exact⟨u,e,j.ext hx⟩⟩
structure Cse where
 n: Int
 f:Int
 ds:List Bool
 pm:List Int
 vs:List (List Int)
 rss:List (List Row)
def CseV(w:World)(cs:List Value)(c:Cse): Prop:=∃ dA dc pA pc vA vc rA rc,cs=[.int .i64 c.n,.int .i64 c.f,.slice dA c.ds.length dc,.slice pA c.pm.length pc,.slice vA c.vs.length vc,.slice rA c.rss.length rc] /\
 BoolsM w (.slice dA c.ds.length dc) c.ds/\IntsM w (.slice pA c.pm.length pc) c.pm/\IntssV w (.slice vA c.vs.length vc) c.vs/\RowssV w (.slice rA c.rss.length rc) c.rss/\(-9223372036854775808<=c.n/\c.n<=9223372036854775807)/\(-9223372036854775808<=c.f/\c.f<=9223372036854775807)
theorem CseV.ext{w w':World}{cs:List Value}{c:Cse}(h:CseV w cs c)(hx:Ext w w'): CseV w' cs c:=by
 obtain⟨dA,dc,D,B,j,i,y,u,h1,Z,U,O,J,G⟩:=h;exact⟨dA,dc,D,B,j,i,y,u,h1,Z.ext hx,U.ext hx,O.ext hx,J.ext hx,G⟩
structure FewP(c:Cse): Prop where
 row:∀ i,i<c.rss.length->(c.rss.getD i []).length<=10
 cnt:(Xb c.rss.length λi=>max 1 (c.rss.getD i []).length)<=5000
 n6:c.n<=6∨32<c.n
 v5:c.vs.length<=5
 r5:c.rss.length<=5
 v8:∀ i,i<c.vs.length->(c.vs.getD i []).length<=8
 d10:c.ds.length<=10
 p10:c.pm.length<=10
structure FewS(c:Cse): Prop where
 row:∀ i,i<c.rss.length->(c.rss.getD i []).length<=10
 cnt:(Xb c.rss.length λi=>max 1 (c.rss.getD i []).length)<=5000
 n6:c.n<=6
 v5:c.vs.length<=5
 r5:c.rss.length<=5
 v8:∀ i,i<c.vs.length->(c.vs.getD i []).length<=8
 d10:c.ds.length<=10
 p10:c.pm.length<=10
theorem FewS.p{c:Cse}(h:FewS c): FewP c:=⟨h.row,h.cnt,.inl h.n6,h.v5,h.r5,h.v8,h.d10,h.p10⟩
theorem Qhd{w:World}{cs:List Value}{c:Cse}(h:CseV w cs c): Ret Tryz.prog 15 [.agg cs.toArray] w λu w'=>Ext w w'/\∃ b:Bool,u=.bool b/\(b=true->FewP c)/\(FewS c->b=true):=by
 obtain⟨dA,dc,pA,pc,vA,vc,rA,rc,rfl,hD,hP,hV,hR,hn,hf⟩:=h;obtain⟨_,_,ag,e1,_,Z,ae⟩:=id hR;injection e1 with e1 e2 e3
 subst e1;subst e3;obtain⟨_,_,af,e1,_,a8,ad⟩:=id hV;injection e1 with e1 e2 e3
 subst e1;subst e3;refine Jz Tryz.func15 Tryz.ntmps15 rfl kr rfl ?_;refine ρ ?_;refine bx ?_;intro w1 b B hb G;refine ρ ?_;refine Ju (fun (i:Nat) (y:Nat)=>[(1,.pointer (some ⟨b,0,none⟩)),(2,.bool false),(3,.int .i64 (y:Int)),(4,.int .i64 (i:Int))])
  (λi y w'=>i<=6/\i<=c.rss.length/\w'=w1/\y=(Xb i λi=>max 1 (c.rss.getD i []).length)/\y<=10^i/\∀ j,j<i->(c.rss.getD j []).length<=10) (λi _=>6-i) 0 1 sB ⟨om,Nat.zero_le _,rfl,rfl,by simp,λj hj=>om⟩ ?_
 rintro i y w2 ⟨h6,hi,rfl,O,a7,a1⟩;refine ρ ?_;refine ld (G.at (i:=5) rfl) ?_;refine ρ ?_;refine Yb (fun (t:Bool)=>[(14,.bool t),(1,.pointer (some ⟨b,0,none⟩)),(2,.bool false),(3,.int .i64 (y:Int)),(4,.int .i64 (i:Int))]) (λt w3=>w3=w2/\(t=true↔i<c.rss.length/\i<6)) ?_ ?_
 .refine ki 11 (λh=>?_) (λh=>?_)
  .have:=oT h;refine ρ ?_;refine Jf (decide ((i:Int)<6)) sB ⟨rfl,?_⟩;rw[decide_eq_true_eq];omega
  have:=oF h;refine ρ ?_;refine Jf false sB ⟨rfl,?_⟩;grind
 rintro t w3 ⟨rfl,ht⟩;refine ρ ?_;refine ci (λh=>?_) (λh=>?_)
 .obtain⟨li,l6⟩:=ht.1 h;clear h;obtain⟨ru,a6,ac⟩:=ae i li;obtain⟨TA,tc,rfl,_⟩:=id (ac.ext B).form;refine ρ ?_;refine ld (G.at (i:=5) rfl) ?_;refine ρ ?_;refine ix i (Z.ext B) li ?_;refine ρ ?_;refine ld ((Z.ext B).cell a6) ?_;refine ρ ?_;refine ci (λh=>?_) (λh=>?_)
  .refine ρ ?_;exact Jq ⟨B,false,rfl,λh=>(by cases h),λD=>by have h1:=D.row i li;grind⟩
  have ah:(c.rss.getD i []).length<=10:=by have:=oF h;omega
  clear h;refine ρ ?_;refine ld (G.at (i:=5) rfl) ?_;refine ρ ?_;refine ix i (Z.ext B) li ?_;refine ρ ?_;refine ld ((Z.ext B).cell a6) ?_;refine ρ ?_;have ai:(if(1:Int)<((c.rss.getD i []).length:Int) then((c.rss.getD i []).length:Int) else 1)=((max 1 (c.rss.getD i []).length:Nat):Int):=by
   split<;>omega
  have a4:y<=100000:=nL a7 (Nat.pow_le_pow_right (by decide) (show i<=5 by omega));have aj:y*max 1 (c.rss.getD i []).length<=y*10:=Nat.mul_le_mul_left _ om;have e:IntKind.i64.wrap ((y:Int)*(if(1:Int)<((c.rss.getD i []).length:Int) then((c.rss.getD i []).length:Int) else 1))=((y*max 1 (c.rss.getD i []).length:Nat):Int):=by grind [Int.natCast_mul,Zt]
  rw[e];refine Js (i+1) (y*max 1 (c.rss.getD i []).length) sO ⟨om,om,rfl,?_,?_,λj hj=>?_⟩ om;repeat grind [Xb,Nat.pow_succ,Nat.mul_le_mul]
 have am:¬ (i<c.rss.length/\i<6):=by grind
 clear h ht;refine ρ ?_;refine ci (λh=>?_) (λh=>?_)
 .refine ρ ?_;exact Jq ⟨B,false,rfl,λh=>(by cases h),λD=>by
   have h1:=D.cnt;have h2:=D.r5;grind⟩
 have a4:y<=5000:=by grind
 clear h;refine ρ ?_;refine Jr (fun (k:Nat)=>[(1,.pointer (some ⟨b,0,none⟩)),(2,.bool false),(5,.int .i64 (k:Int))])
  (λk w'=>k<=6/\k<=c.vs.length/\w'=w3/\∀ j,j<k->(c.vs.getD j []).length<=8) (λk=>6-k) 0 sB ⟨om,Nat.zero_le _,rfl,λj hj=>absurd hj (Nat.not_lt_zero j)⟩ ?_
 rintro k w4 ⟨k6,hk,rfl,a3⟩;refine ρ ?_;refine ld (G.at (i:=4) rfl) ?_;refine ρ ?_;refine Yb (fun (t:Bool)=>[(43,.bool t),(1,.pointer (some ⟨b,0,none⟩)),(2,.bool false),(5,.int .i64 (k:Int))]) (λt w5=>w5=w4/\(t=true↔k<c.vs.length/\k<6)) ?_ ?_
 .refine ki 40 (λh=>?_) (λh=>?_)
  .have:=oT h;refine ρ ?_;refine Jf (decide ((k:Int)<6)) sB ⟨rfl,?_⟩;rw[decide_eq_true_eq];omega
  have:=oF h;refine ρ ?_;refine Jf false sB ⟨rfl,?_⟩;grind
 rintro t w5 ⟨rfl,ht⟩;refine ρ ?_;refine ci (λh=>?_) (λh=>?_)
 .obtain⟨lk,l6⟩:=ht.1 h;clear h;obtain⟨vu,a9,aa⟩:=ad k lk;obtain⟨QA,qc,rfl,_⟩:=id aa;refine ρ ?_;refine ld (G.at (i:=4) rfl) ?_;refine ρ ?_;refine ix k (a8.ext B) lk ?_;refine ρ ?_;refine ld ((a8.ext B).cell a9) ?_;refine ρ ?_;refine ci (λh=>?_) (λh=>?_)
  .refine ρ ?_;exact Jq ⟨B,false,rfl,λh=>(by cases h),λD=>by have h1:=D.v8 k lk;grind⟩
  have l8:(c.vs.getD k []).length<=8:=by have:=oF h;omega
  have ab:∀ j,j<k+1->(c.vs.getD j []).length<=8:=λj hj=>by
   rcases Nat.lt_or_ge j k with h'|h'
   .exact a3 j h'
   obtain rfl:j=k:=om
   exact l8
  refine ρ ?_;exact Jl (k+1) sO ⟨om,om,rfl,ab⟩ om
 have ak:¬ (k<c.vs.length/\k<6):=by grind
 clear h ht;refine ρ ?_;refine ld (G.at (i:=0) rfl) ?_;refine ρ ?_;refine ki 56 (λh=>?_) (λh=>?_)
 .have hN:c.n<=6:=oT h;clear h;refine ρ ?_;refine ld (G.at (i:=4) rfl) ?_;refine ρ ?_;refine ki 67 (λh4=>?_) (λh4=>?_)
  .refine ρ ?_;refine ld (G.at (i:=5) rfl) ?_;refine ρ ?_;refine ki 73 (λh5=>?_) (λh5=>?_)
   .have r5:c.rss.length<=5:=by have:=oT h5;omega
    have v5:c.vs.length<=5:=by grind
    have ir:i=c.rss.length:=om
    have U:=λa5 a2=>FewP.mk (c:=c) (λj hj=>a1 j om) (by rw[<-ir,<-O];exact a4) (.inl hN) v5 r5 (λj hj=>a3 j om) a5 a2;refine ρ ?_;refine ld (G.at (i:=2) rfl) ?_;refine ρ ?_;refine ki 79 (λh6=>?_) (λh6=>?_)
    .refine ρ ?_;refine ld (G.at (i:=3) rfl) ?_;refine ρ ?_;exact Jq ⟨B,decide ((c.pm.length:Int)<=10),rfl,λe=>U (by have:=oT h6;omega) (by have:=oT e;omega),λD=>by have:=D.p10;grind⟩
    refine ρ ?_;exact Jq ⟨B,false,rfl,λh=>(by cases h),λD=>by have h1:=D.d10;grind⟩
   refine ρ ?_;exact Jq ⟨B,false,rfl,λh=>(by cases h),λD=>by have h1:=D.r5;grind⟩
  refine ρ ?_;exact Jq ⟨B,false,rfl,λh=>(by cases h),λD=>by have h1:=D.v5;grind⟩
 have J:¬ c.n<=6:=oF h;clear h;refine ρ ?_;refine ld (G.at (i:=0) rfl) ?_;refine ρ ?_;refine ki 61 (λh=>?_) (λh=>?_)
 .have hN:32<c.n:=oT h;clear h;refine ρ ?_;refine ld (G.at (i:=4) rfl) ?_;refine ρ ?_;refine ki 67 (λh4=>?_) (λh4=>?_)
  .refine ρ ?_;refine ld (G.at (i:=5) rfl) ?_;refine ρ ?_;refine ki 73 (λh5=>?_) (λh5=>?_)
   .have r5:c.rss.length<=5:=by have:=oT h5;omega
    have v5:c.vs.length<=5:=by grind
    have ir:i=c.rss.length:=om
    have U:=λa5 a2=>FewP.mk (c:=c) (λj hj=>a1 j om) (by rw[<-ir,<-O];exact a4) (.inr hN) v5 r5 (λj hj=>a3 j om) a5 a2;refine ρ ?_;refine ld (G.at (i:=2) rfl) ?_;refine ρ ?_;refine ki 79 (λh6=>?_) (λh6=>?_)
    .refine ρ ?_;refine ld (G.at (i:=3) rfl) ?_;refine ρ ?_;exact Jq ⟨B,decide ((c.pm.length:Int)<=10),rfl,λe=>U (by have:=oT h6;omega) (by have:=oT e;omega),λD=>absurd D.n6 J⟩
    refine ρ ?_;exact Jq ⟨B,false,rfl,λh=>(by cases h),λD=>absurd D.n6 J⟩
   refine ρ ?_;exact Jq ⟨B,false,rfl,λh=>(by cases h),λD=>absurd D.n6 J⟩
  refine ρ ?_;exact Jq ⟨B,false,rfl,λh=>(by cases h),λD=>absurd D.n6 J⟩
 refine ρ ?_;exact Jq ⟨B,false,rfl,λh=>(by cases h),λD=>absurd D.n6 J⟩
end Go.Proofs.YtebiphhfkdbpfaaGreatDoor
