/- Part 6. -/
import Derived.Test.YtebiphhfkdbpfaaGreatDoorI05
set_option linter.unusedVariables false
set_option maxRecDepth 100000
set_option maxHeartbeats 40000000
namespace Go.Wk
open Go.RowKit
variable {i:Nat}{x:Operand}{t:TypeId}{u v:Value}
section
variable {P:Program} {n:Nat} {al:AL} {w:World} {Q:Exit->Act->World->Prop} {ops:Array Oper} {rest:List Oper} {drest:List (Nat×Oper)} {d ty:Nat} {pos:String} {aft:Array Edge}
theorem fld(hb:∀ w,(Instr.field t v i).run P w=.ok u w)(kk:WL P n ops Q rest ((d,u)::al) w)(hx:ev al x=some v:=by rfl)(hd:Nat.blt d n=true:=by rfl):
  WL P n ops Q (⟨some d,.field t x i,ty,pos,aft,none⟩::rest) al w:=wop hd (λa j=>by simp[execOp,j.ev hx,hb]) kk
theorem dfld(hb:∀ w,(Instr.field t v i).run P w=.ok u w)(kk:WD P n ops Q drest ((d,u)::al) w)(hx:ev al x=some v:=by rfl)(hd:Nat.blt d n=true:=by rfl):
  WD P n ops Q ((0,⟨some d,.field t x i,ty,pos,aft,none⟩)::drest) al w:=dy (λw' _ a j=>by simp[execOp,j.ev hx,hb]) hd kk
end
end Go.Wk
namespace Go.Proofs.YtebiphhfkdbpfaaGreatDoor
open Go.RowKit Pl Go.Wk Bl
attribute [local irreducible] WC WL QX WD WDB WP WN WG WH
variable {ws:List PR}{d i sc:Nat}{P1 Q1 Q2 SA:Option Addr}{v vW vd vl:Value}{w:World}
theorem fldD(b:Bool)(A B:Option Addr)(m c m' c':Nat)(w:World): (Instr.field 58 (.agg #[.bool b,.slice A m c,.slice B m' c']) 2).run Tryz.prog w=.ok (.slice B m' c') w:=kr
theorem fldN(b:Bool)(A B:Option Addr)(m c m' c':Nat)(w:World): (Instr.field 58 (.agg #[.bool b,.slice A m c,.slice B m' c']) 1).run Tryz.prog w=.ok (.slice A m c) w:=kr
theorem Qmg{b:Bool}{P2 P3 m1 c1 m2 c2:Nat}{sizes:List Nat}(hW:GX 3 RtC Nn w vW ws)(hS:Rd w 1 SA sizes.length (Jh (nz sizes)))(hl:sizes.length=ws.length)(hn:∀ q∈ws,0<=q.sign/\q.num<18446744073709551616):
  Ret Tryz.prog 54 [.agg #[vW,.slice P1 P2 P3,.bool b,.slice Q1 m1 c1,.slice Q2 m2 c2],.slice SA sizes.length sc] w λu w'=>u=.int .i64 0/\Ext w w':=by
 obtain⟨W1,W2,_,rfl,_,a7,a5,_,a6⟩:=id hW.el;refine Jz Tryz.func54 Tryz.ntmps54 rfl kr rfl ?_;refine ρ ?_;refine bx (cs:=[.slice W1 ws.length W2,.slice P1 P2 P3,.bool b,.slice Q1 m1 c1,.slice Q2 m2 c2]) ?_;intro w1 b1 a1 a9 U;refine ρ ?_;refine ld (U.at (i:=0) rfl) ?_;refine ρ ?_;refine cf ?_ ?_
 .simp;omega
 refine ρ ?_;refine Jr (fun (i:Nat)=>[(2,.pointer (some ⟨b1,0,none⟩)),(13,.slice SA sizes.length sc),(14,.int .i64 (sizes.length:Int)),(15,.int .i64 (i:Int))]) (λi w'=>i<=sizes.length/\Ext w1 w') (λi=>sizes.length-i) 0 sB ⟨Nat.zero_le _,Ext.refl _⟩ ?_;rintro i w2 ⟨hi,D⟩;have y:=a1.trans D;refine ρ ?_;refine ci (λhc=>?_) (λhc=>?_)
 .have O:i<sizes.length:=by have:=oT hc;omega
  clear hc;have G:i<ws.length:=om
  obtain⟨ce,_,a2,a4⟩:=a6 i G;obtain⟨F1,f1,F2,f2,rfl,a3⟩:=a2.sl;obtain⟨a8,J⟩:=hn _ (List.getElem_mem G);refine ρ ?_;refine ix i (hS.ext y) O ?_;refine ρ ?_;refine ld ((hS.ext y).cell (Xw O)) ?_;refine ρ ?_;refine kf 22 ?_ ?_
  .simp
  refine ρ ?_;refine ld ((U.ext D).at (i:=0) rfl) ?_;refine ρ ?_;refine ixq 3 i (a5.ext y) G ?_;refine ρ ?_;refine lds (λj u hu=>Xd y (a4 j u hu)) ?_;refine ρ ?_;refine cl (Uw (a3.ext y) (by have:=Qy J;omega)) ?_;rintro _ w3 ⟨rfl,Z⟩;refine ρ ?_;refine cf ?_ ?_
  .simp;omega
  refine ρ ?_;exact Jm (i+1) sO ⟨om,D.trans Z⟩ om
 refine ρ ?_;exact Jq ⟨rfl,y⟩
def dnK(ws:List PR)(i:Nat): Nat:=dnm (ws.take i)
theorem Qgw(hi:i<ws.length): dnK ws (i+1)=dnK ws i / Nat.gcd (dnK ws i) ws[i].norm.den*ws[i].norm.den:=by
 unfold dnK dnm;rw[List.take_add_one,List.getElem?_eq_getElem hi,Option.toList_some,List.foldl_append];rfl
theorem Qhn{b:Nat}{q:PR}{i:Int}(hB:Blk w b 40 [vd])(hd:NatX (λk=>k=b) w vd d)(hq:RtX Nn w v q)(hd1:d<4294967296)(hqn:q.num<18446744073709551616)(hqd:q.den<4294967296)(h0:0<q.norm.den)(hqd':q.norm.den<4294967296):
  Ret Tryz.prog 100 [.int .i64 i,v,.pointer (some ⟨b,0,none⟩)] w λu w'=>∃ vd',Blk w' b 40 [vd']/\NatX (λk=>k=b) w' vd' (d / Nat.gcd d q.norm.den*q.norm.den)/\GrN (λk=>k=b) w w':=by
 obtain⟨A1,c1,A2,c2,rfl,a9,a8⟩:=hq.sl;refine Jz Tryz.func100 Tryz.ntmps100 rfl kr rfl ?_;refine ρ ?_;refine bx ?_;intro w1 b1 Z ai ag;refine ρ ?_;refine lds (cs:=[.bool q.neg,.slice A1 _ c1,.slice A2 _ c2]) (λj u hu=>ag.at hu) ?_;refine ρ ?_;refine cl (Zl (N:=Nn) (q:=q) ⟨_,_,rfl,a9.ext Z,a8.ext Z⟩ hqn hqd) ?_;rintro r w2 ⟨hr,a5⟩;have ab:=hB.lt;obtain⟨R1,r1,R2,r2,rfl,a6,a1⟩:=hr.sl;obtain⟨_,_,er,a6,a1⟩:=hr;cases er
 have a3:=Z.trans a5;have ac:0<Nat.gcd d q.norm.den:=Nat.gcd_pos_of_pos_right _ h0;have hl:∀ {k:Nat},k<4294967296->(Jj k).length<=1000:=fun {k} h=>by have:=Qy (n:=k) om;omega
 refine ρ ?_;refine fld (fldD _ _ _ _ _ _ _) ?_;have O:Ext w2 w2.drew:=(Ext.refl w2).drew;have y:=a3.trans O;refine ρ ?_;refine dr [(0,0),(0,1),(0,2),(1,3),(1,4),(0,5),(0,6),(0,7),(0,8),(0,9),(0,10),(0,11)] kr ?_;refine ρd ?_;refine dld ((hB.ext y).at (i:=0) rfl) ?_;refine ρd ?_;refine dld ((hB.ext y).at (i:=0) rfl) ?_;refine ρd ?_;refine dcl (Qhc ((hd.ext y).old λk hk=>hk.elim) ((a1.ext O).old λk hk=>hk.elim) hd1 hqd' h0) ?_;rintro g w3 ⟨hg,G⟩;refine⟨G,?_⟩;refine ρd ?_;refine dcl (Kh ((hd.ext y).ext G).1 hg.1 (hl hd1) ac (Nat.lt_of_le_of_lt (Nat.gcd_le_right _ h0) hqd')) ?_;rintro _ w4 ⟨⟨qv,rv,rfl,a7,ah⟩,U⟩;refine⟨U,?_⟩;refine ρd ?_;have D:=y.trans (G.trans U);refine ρ ?_;refine cl (Vh a7.1 ((a1.ext O).ext (G.trans U)).1 (hl (Nat.lt_of_le_of_lt (Nat.div_le_self _ _) hd1)) (hl hqd')) ?_;rintro mv w5 ⟨a4,ae,a2⟩;have aa:NatX (Ol w4) w5 mv (d / Nat.gcd d q.norm.den*q.norm.den):=⟨a4,λ_ ad m c e hk=>by have:=ae ad m c e;exact absurd (show ad.block<w4.heap.size from hk) om⟩
 obtain⟨M1,m1,rfl⟩:=a4.sl;refine ρ ?_;refine stF (i:=0) (hB.ext (D.trans a2)) rfl ?_;intro w6 af hg6;have J:GrN (λk=>k=b) w5 w6:=GrN.by hg6 λk e=>by injection e with e;exact e.symm
 refine ρ ?_;exact Vb ⟨_,af,(aa.old λk hk=>.inl (show k<w4.heap.size by rw[hk];exact nM ab D.size)).gr J,(GrN.ext (D.trans a2)).trans J⟩
theorem Qhm(hl:GX 3 RtC Nn w vl ws)(hd:∀ i,i<=ws.length->dnK ws i<4294967296)(hq:∀ q∈ws,q.num<18446744073709551616/\q.den<4294967296/\0<q.norm.den/\q.norm.den<4294967296):
  Ret Tryz.prog 55 [vl] w λu w'=>NatX Nn w' u (dnm ws)/\Ext w w':=by
 obtain⟨A,c,_,rfl,_,a8,_⟩:=id hl.el;refine Jz Tryz.func55 Tryz.ntmps55 rfl kr rfl ?_;refine ρ ?_;refine cl (Xp 1 (by decide) _) ?_;rintro o w1 ⟨ho,a1⟩;obtain⟨O1,o1,rfl⟩:=ho.1.sl;refine ρ ?_;refine alc (z:=.slice none 0 0) kr ?_;intro w2 b a4 G a7;refine ρ ?_;refine stF (i:=0) a7 rfl ?_;intro w3 a6 a5;have y:Ext w1 w3:=Js a4 a5 λk e=>by injection e with e;rw[<-e];exact G
 have D:=a1.trans y;have a2:w.heap.size<=b:=nL a1.size G;refine ρ ?_;refine cl (Jgg (λi w'=>Ext w w'/\GX 3 RtC (λk=>k=b) w' (.slice A ws.length c) ws/\∃ O,Blk w' b 40 [O]/\NatX (λk=>k=b) w' O (dnK ws i)) (λi v v' ⟨h1,Z,O,U,J⟩ hy=>⟨h1.trans hy,Z.ext RtC.sta (by decide) hy,O,U.ext hy,J.ext hy⟩) (λi v ⟨h1,Z,U⟩=>Z.old RtC.sta (by decide) λk j=>j.elim) (λi hi v u ⟨h1,Z,O,U,J⟩ hu=>?_) ⟨D,(hl.old RtC.sta (by decide) λk j=>.inr (by rw[j];exact a2)).ext RtC.sta (by decide) D,_,a6,?_⟩) ?_
 .obtain⟨e1,e2,e3,e4⟩:=hq _ (List.getElem_mem hi);refine(Qhn U J hu (hd i om) e1 e2 e3 e4).mono λr v' ⟨a3,g1,g2,g3⟩=>?_;rw[<-Qgw hi]at g2;exact⟨g3.old h1 λk j=>by rw[j];exact a2,Z.gr RtC.sta (by decide) g3,a3,g1,g2⟩
 .exact(ho.old λk j=>.inr (by rw[j];exact G)).ext y
 rintro u w4 ⟨h1,Z,O,U,J⟩;have e5:dnK ws ws.length=dnm ws:=by unfold dnK;rw[List.take_length]
 rw[e5]at J;obtain⟨D1,d1,rfl⟩:=J.1.sl;refine ρ ?_;refine ld (U.at (i:=0) rfl) ?_;refine ρ ?_;exact Jq ⟨J.old λk j=>False.elim j,h1⟩
open Go.RowKit Pl Go.Wk Bl
variable {K a n:Nat}{u v:Value}{w:World}
theorem Vn(h:n<2^K)(hK:K<=30000): (Jj n).length<=1000:=by
 by_cases h0:n=0
 .subst h0;rw[limbs_0];decide
 have i:=Jwh h0;refine Nat.le_of_not_lt λj=>?_;have y:(4294967296:Nat)=2^32:=by decide
 rw[y,<-Nat.pow_mul]at i;have u:2^K<=2^(32*((Jj n).length-1)):=Nat.pow_le_pow_right (by decide) om;exact absurd (nM (nM h u) i) (Nat.lt_irrefl _)
theorem Jch(h:n<2^K): Jw n<=K:=by
 by_cases h0:n=0
 .subst h0;exact Nat.zero_le _
 refine Nat.le_of_not_lt λi=>?_;have u:=(Um h0).2;have j:2^K<=2^(Jw n-1):=Nat.pow_le_pow_right (by decide) om;exact absurd (nM (nM h j) u) (Nat.lt_irrefl _)
theorem Qns: ∀ q:Nat,q<=400->(bits .and .i64 (q:Int) 1 == 1)=decide (q % 2=1):=by decide +kernel
theorem Qvg(hv:NatV w v a)(hn:n<=400)(ha:a<4294967296)(hb:a^n<2^K)(hK:K<=30000): Ret Tryz.prog 168 [v,.int .i64 (n:Int)] w λr w'=>(∃ u,r=.tuple #[u,.int .i64 0]/\NatX (Ol w) w' u (a^n))/\Ext w w':=by
 have la:(Jj a).length<=1000:=by have:=Qy (n:=a) om;omega
 refine Jz Tryz.func168 Tryz.ntmps168 rfl kr rfl ?_;refine ρ ?_;refine cl (Zq hv) ?_;rintro v' w' ⟨⟨A,rfl,hA⟩,rfl⟩;have a1:NatV w' (.slice A (Jj a).length (Jj a).length) a:=⟨A,_,rfl,Nat.le_refl _,om,hA⟩;refine ρ ?_;refine cl (Yw a1 la) ?_;rintro _ w1 ⟨rfl,rfl⟩;refine ρ ?_;by_cases hn0:n=0
 .subst hn0;refine kt 17 ?_ ?_
  .rfl
  refine ρ ?_;refine cl (Xp 1 (by decide) _) ?_;rintro o w2 ⟨ho,y⟩;refine ρ ?_;exact Qo ⟨⟨_,rfl,by rw[Nat.pow_zero];exact ho⟩,y⟩
 refine kf 17 ?_ ?_
 .exact beq_eq_false_iff_ne.2 om
 refine ρ ?_;refine ci (λi=>?_) (λi=>?_)
 .have Z:Jw a=1:=by have:=eq_of_beq i;omega
  have O:a=1:=by
   have h2:=Yy (x:=a);rw[Z]at h2;have:a≠0:=by rintro rfl;revert Z;decide
   omega
  subst O;refine ρ ?_;refine cl (Xp 1 (by decide) _) ?_;rintro o w2 ⟨ho,y⟩;refine ρ ?_;exact Qo ⟨⟨_,rfl,by rw[Nat.one_pow];exact ho⟩,y⟩
 have a9:Jw a≠1:=λe=>by rw[e]at i;revert i;decide
 clear i;refine ρ ?_;refine ci (λi=>?_) (λi=>?_)
 .have Z:Jw a=0:=by have:=eq_of_beq i;omega
  have a6:a=0:=by
   have h2:=Yy (x:=a);rw[Z]at h2;omega
  subst a6;refine ρ ?_;refine Qo ⟨⟨_,rfl,?_⟩,Ext.refl _⟩;rw[Nat.zero_pow om];exact⟨NatV.nil _,λh=>absurd rfl h⟩
 have aa:Jw a≠0:=λe=>by rw[e]at i;revert i;decide
 clear i;have aj:2<=a:=by
  have a6:a≠0:=by rintro rfl;exact aa (by decide)
  have O:a≠1:=by rintro rfl;exact a9 (by decide)
  omega
 have ah:Jw a<=32:=Vm om;have ai:(Jw a-1)*n<65536:=Nat.lt_of_le_of_lt (Nat.mul_le_mul (show Jw a-1<=31 by omega) hn) (by decide);refine ρ ?_;refine kf 26 ?_ ?_
 .exact dF om
 refine ρ ?_;refine kf 30 ?_ ?_
 .exact dF om
 refine ρ ?_;have a4:((Jw a:Int)-1)*(n:Int)=(((Jw a-1)*n:Nat):Int):=by
  rw[Int.natCast_mul,Int.natCast_sub om];rfl
 refine cf ?_ ?_
 .rw[a4,Zd om];exact dF om
 have O:0<a:=om
 have J:∀ k,k<=n->(Jj (a^k)).length<=1000:=λk hk=>Vn (Nat.lt_of_le_of_lt (Nat.pow_le_pow_right O hk) hb) hK;refine ρ ?_;refine cl (Xp 1 (by decide) _) ?_;rintro o w2 ⟨ho,y⟩;refine ρ ?_;rw[Zj (z:=(n:Int)) om];refine cl (Jdx n om _) ?_;rintro _ w3 ⟨rfl,rfl⟩;have hL:Jw n<=9:=Vm om;refine ρ ?_;refine Ju (fun (t:Nat) (ov:Value)=>[(0,.slice A (Jj a).length (Jj a).length),(1,.int .i64 (n:Int)),(7,ov),(8,.int .i64 ((t:Int)-1))])
  (λt ov w'=>t<=9/\NatX (Ol w1) w' ov (a^(n / 2^t))/\Ext w1 w') (λt _=>t) (Jw n) o sB ⟨hL,by rw[Nat.div_eq_of_lt Yy];exact ho,y⟩ ?_
 rintro t ov w4 ⟨ht,D,j⟩;have a3:n / 2^t<=n:=Nat.div_le_self _ _;refine ρ ?_;refine ci (λi=>?_) (λi=>?_)
 .obtain⟨t,rfl⟩:∃ s,t=s+1:=⟨t-1,by have:=oT i;omega⟩;clear i;rw[show((t+1:Nat):Int)-1=(t:Int) by omega];have hd:n / 2^t=2*(n / 2^(t+1))+n / 2^t % 2:=by rw[Nat.pow_succ,<-Nat.div_div_eq_div_mul];omega
  have ae:n / 2^t<=n:=Nat.div_le_self _ _;refine ρ ?_;refine cl (Vh D.1 D.1 (J _ a3) (J _ a3)) ?_;rintro o5 w5 ⟨U,ac,G⟩;have ag:=j.size;rw[<-Nat.pow_add]at U;have a7:NatX (Ol w1) w5 o5 (a^(n / 2^(t+1)+n / 2^(t+1))):=⟨U,λ_ ad m c e hk=>by have:=ac ad m c e;exact absurd (show ad.block<w1.heap.size from hk) om⟩;refine ρ ?_;refine Xf rfl rfl om rfl ?_;have es:((n:Int)).fdiv (2^min ((t:Nat):Int).toNat IntKind.i64.bits)=((n / 2^t:Nat):Int):=by rw[Kz n t IntKind.i64.bits,Nat.min_eq_left (by show t<=64;omega)]
  refine Go.Wk.kv 51 (u:=.int .i64 ((n / 2^t:Nat):Int)) (congrArg (Value.int .i64) es) ?_;have a5:=Qns (n / 2^t) om;refine ρ ?_;refine ci (λi=>?_) (λi=>?_)
  .have Z:n / 2^t % 2=1:=by rw[a5]at i;exact oT i
   refine ρ ?_;refine cl (Vh U (a1.ext (j.trans G)) (J _ om) la) ?_;rintro o6 w6 ⟨a2,ab,a8⟩;have af:=G.size;rw[<-Nat.pow_succ,show(n / 2^(t+1)+n / 2^(t+1)).succ=n / 2^t by omega]at a2;refine ρ ?_;exact Jt t o6 sB ⟨om,⟨a2,λ_ ad m c e hk=>by have:=ab ad m c e;exact absurd (show ad.block<w1.heap.size from hk) om⟩,(j.trans G).trans a8⟩ om
  have Z:n / 2^t % 2=0:=by
   rw[a5]at i;have:=oF i;omega
  rw[show n / 2^(t+1)+n / 2^(t+1)=n / 2^t by omega]at a7;refine ρ ?_;exact Jt t o5 sB ⟨om,a7,j.trans G⟩ om
 have h0:t=0:=by have:=oF i;omega
 clear i;subst h0;rw[Nat.pow_zero,Nat.div_one]at D;refine ρ ?_;refine cl (Yw D.1 (J n (Nat.le_refl _))) ?_;rintro _ w5 ⟨rfl,rfl⟩;have hl:Jw (a^n)<=K:=Jch hb;refine ρ ?_;refine cf ?_ ?_
 .exact dF om
 refine ρ ?_;exact Qo ⟨⟨_,rfl,D⟩,j⟩
theorem Qvf(hv:NatV w v a)(hu:NatV w u n)(hn:n<=400)(ha:a<4294967296)(hb:a^n<2^K)(hK:K<=30000): Ret Tryz.prog 109 [v,u] w λr w'=>(∃ u,r=.tuple #[u,.int .i64 0]/\NatX (Ol w) w' u (a^n))/\Ext w w':=by
 refine Jz Tryz.func109 Tryz.ntmps109 rfl kr rfl ?_;refine ρ ?_;refine cl (Jrn hu om) ?_;rintro _ w1 ⟨rfl,rfl⟩;refine ρ ?_;refine cl (Qvg hv hn ha hb hK) ?_;rintro _ w2 ⟨⟨r,rfl,j⟩,i⟩;refine ρ ?_;exact Qo ⟨⟨_,rfl,j⟩,i⟩
open Go.RowKit Pl Go.Wk Bl
variable {sizes:List Nat}{ws:List PR}{K d i sc:Nat}{SA:Option Addr}{v vd vl vr:Value}{w:World}
def Zr(q:PR)(d:Nat): Nat:=(PR.norm (PR.mul q (PR.norm ⟨false,d,0⟩))).num
def prK(ws:List PR)(sizes:List Nat)(d i:Nat): Nat:=Ze (ws.take i) (sizes.take i) d
theorem Jlz(hi:i<ws.length)(hs:i<sizes.length): prK ws sizes d (i+1)=prK ws sizes d i*sizes[i]^Zr ws[i] d:=by
 unfold prK Ze;rw[List.take_add_one,List.take_add_one,List.getElem?_eq_getElem hi,List.getElem?_eq_getElem hs,Option.toList_some,Option.toList_some,List.zip_append (by simp;omega),List.foldl_append];rfl
structure EOk(q:PR)(d:Nat): Prop where
 d64:d<18446744073709551616
 h1:q.num<4294967296
 h2:q.den<4294967296
 h3:(PR.norm ⟨false,d,0⟩).num<4294967296
 h4:(PR.norm ⟨false,d,0⟩).den<4294967296
 h5:q.norm.den*(PR.norm ⟨false,d,0⟩).norm.den<4294967296
 m1:(PR.mul q (PR.norm ⟨false,d,0⟩)).num<18446744073709551616
 m2:(PR.mul q (PR.norm ⟨false,d,0⟩)).den<4294967296
 e:Zr q d<=400
structure PrOk(ws:List PR)(sizes:List Nat)(d K:Nat): Prop where
 k:K<=30000
 len:sizes.length=ws.length
 q:∀ q∈ws,EOk q d
 s:∀ s∈sizes,s<4294967296
 p:∀ i,i<=ws.length->prK ws sizes d i<2^K
 f:∀ i (h1:i<ws.length) (h2:i<sizes.length),sizes[i]^Zr ws[i] d<2^K
theorem Qvb{b1 b2 b3 b4 r:Nat}{q:PR}(hF:Blk w b1 43 [.int .i64 0])(hD:Blk w b2 40 [vd])(hS:Blk w b3 22 [.slice SA sizes.length sc])(hR:Blk w b4 40 [vr])(hd:NatX (λk=>k=b4) w vd d)(hr:NatX (λk=>k=b4) w vr r)(hs:Rd w 1 SA sizes.length (Jh (nz sizes)))(hq:RtX Nn w v q)(hi:i<sizes.length)(he:EOk q d)(hs32:sizes[i]<4294967296)(hrK:r<2^K)(hfK:sizes[i]^Zr q d<2^K)(hK:K<=30000):
  Ret Tryz.prog 106 [.int .i64 (i:Int),v,.pointer (some ⟨b1,0,none⟩),.pointer (some ⟨b2,0,none⟩),.pointer (some ⟨b3,0,none⟩),.pointer (some ⟨b4,0,none⟩)] w λu w'=>∃ vr',Blk w' b4 40 [vr']/\NatX (λk=>k=b4) w' vr' (r*sizes[i]^Zr q d)/\GrN (λk=>k=b4) w w':=by
 obtain⟨A1,c1,A2,c2,rfl,ac,ab⟩:=hq.sl;refine Jz Tryz.func106 Tryz.ntmps106 rfl kr rfl ?_;refine ρ ?_;refine bx ?_;intro w1 bq a4 ap am;refine ρ ?_;refine ld ((hF.ext a4).at (i:=0) rfl) ?_;have U:Ext w1 w1.drew:=(Ext.refl w1).drew;have y:=a4.trans U;have ai:=hR.lt;have a6:NatX Nn w vd d:=hd.old λk hk=>False.elim hk;obtain⟨D1,d1,rfl⟩:=a6.1.sl;refine ρ ?_;refine dr [(0,0),(0,1),(1,2),(1,3),(1,4),(0,5),(0,6)] kr ?_;refine ρd ?_;refine Qb (cs:=[.bool q.neg,.slice A1 (Jj q.num).length c1,.slice A2 (Jj q.den).length c2]) (λj u hu=>(am.ext U).at hu) ?_;refine ρd ?_;refine dld ((hD.ext y).at (i:=0) rfl) ?_;refine ρd ?_;refine dcl (Qwl (a6.ext y).1 he.d64) ?_;rintro x1 w2 ⟨a8,J⟩;refine⟨J,?_⟩;obtain⟨B1,e1,B2,e2,rfl,av,au⟩:=a8.sl;refine ρd ?_;refine dcl (Jyv (N:=Nn) (p:=q) ⟨_,_,rfl,(ac.ext y).ext J,(ab.ext y).ext J⟩ a8 he.h1 he.h2 he.h3 he.h4 he.h5) ?_
 rintro x2 w3 ⟨a7,a3⟩;refine⟨a3,?_⟩;obtain⟨C1,f1,C2,f2,rfl,ar,aq⟩:=a7.sl;refine ρd ?_;refine dcl (Zl a7 he.m1 he.m2) ?_;rintro x3 w4 ⟨aj,a2⟩;refine⟨a2,?_⟩;obtain⟨E1,g1,E2,g2,rfl,ak,aw⟩:=aj.sl;refine ρd ?_;refine dfld (fldN _ _ _ _ _ _ _) ?_;refine ρd ?_;have G:=y.trans (J.trans (a3.trans a2));refine ρ ?_;refine ld ((hS.ext G).at (i:=0) rfl) ?_;refine ρ ?_;refine ix i (hs.ext G) hi ?_;refine ρ ?_;refine ld ((hs.ext G).cell (Xw hi)) ?_;have ao:sizes.getD i 0=sizes[i]:=by simp[List.getD,List.getElem?_eq_getElem hi]
 rw[ao];refine ρ ?_;rw[Zj (z:=(sizes[i]:Int)) om];refine cl (Xp sizes[i] om _) ?_;rintro sv w5 ⟨aa,a1⟩;refine ρ ?_;refine cl (Qvf aa.1 (ak.ext a1).1 he.e hs32 hfK hK) ?_;rintro _ w6 ⟨⟨pv,rfl,ae⟩,a9⟩;have D:=G.trans (a1.trans a9);refine ρ ?_;refine ld ((hR.ext D).at (i:=0) rfl) ?_;refine ρ ?_;refine cl (Vh (hr.ext D).1 ae.1 (Vn hrK hK) (Vn hfK hK)) ?_;rintro mv w7 ⟨a5,ah,Z⟩;have af:NatX (Ol w6) w7 mv (r*sizes[i]^Zr q d):=⟨a5,λ_ ad m c e hk=>by have:=ah ad m c e;exact absurd (show ad.block<w6.heap.size from hk) om⟩;obtain⟨M1,m1,rfl⟩:=a5.sl;refine ρ ?_;refine stF (i:=0) (hR.ext (D.trans Z)) rfl ?_;intro w8 an ag;have O:GrN (λk=>k=b4) w7 w8:=GrN.by ag λk e=>by injection e with e;exact e.symm
 refine ρ ?_;exact Vb ⟨_,an,(af.old λk hk=>.inl (show k<w6.heap.size by rw[hk];exact nM ai D.size)).gr O,(GrN.ext (D.trans Z)).trans O⟩
theorem Qww(hl:GX 3 RtC Nn w vl ws)(hd:NatX Nn w vd d)(hs:Rd w 1 SA sizes.length (Jh (nz sizes)))(ho:PrOk ws sizes d K):
  Ret Tryz.prog 57 [vl,.slice SA sizes.length sc,vd] w λu w'=>(∃ v,u=.tuple #[v,.int .i64 0]/\NatX Nn w' v (Ze ws sizes d))/\Ext w w':=by
 obtain⟨A,c,_,rfl,_,aj,_⟩:=id hl.el;obtain⟨D1,d1,rfl⟩:=hd.1.sl;refine Jz Tryz.func57 Tryz.ntmps57 rfl kr rfl ?_;refine ρ ?_;refine bx (cs:=[.slice SA sizes.length sc]) ?_;intro w1 b4 a6 aq ag;refine ρ ?_;refine bx (cs:=[.slice D1 _ d1]) ?_;intro w2 b5 a1 ap af;refine ρ ?_;refine cl (Xp 1 (by decide) _) ?_;rintro o w3 ⟨a9,G⟩;obtain⟨O1,o1,rfl⟩:=a9.1.sl;refine ρ ?_;refine alc (z:=.slice none 0 0) kr ?_;intro w4 b8 a4 ah ae;refine ρ ?_;refine alc (z:=.int .i64 0) kr ?_;intro w5 b9 a3 ao ai;have ak:=ae.lt;have an:=ag.lt;have am:=af.lt;have z2:=a1.size;have z3:=G.size;have z4:=a4.size;have z1:=a6.size;refine ρ ?_;refine stF (i:=0) (ae.ext a3) rfl ?_;intro w6 ad hg6;have Z:GrN (λk=>k=b8) w5 w6:=GrN.by hg6 λk e=>by injection e with e;exact e.symm
 have ab:=Qr ai Z om;refine ρ ?_;refine stF (i:=0) ab rfl ?_;intro w7 aa hg7;have U:GrN (λk=>k=b9) w6 w7:=GrN.by hg7 λk e=>by injection e with e;exact e.symm
 have ac:=Qr ad U om;have a5:Ext w3 w6:=Z.old (a4.trans a3) λk e=>by omega
 have j:Ext w3 w7:=U.old a5 λk e=>by omega
 have a7:=a6.trans (a1.trans G);have y:=a7.trans j;have a2:w.heap.size<=b8:=om
 have a8:NatX (λk=>k=b8) w7 (.slice O1 (Jj 1).length o1) 1:=(a9.old λk D=>.inr (by rw[D];exact ah)).ext j;refine ρ ?_;refine cl (Jgg (λi w'=>Ext w w'/\GX 3 RtC (λk=>k=b8) w' (.slice A ws.length c) ws/\Blk w' b9 43 [.int .i64 0]/\Blk w' b5 40 [.slice D1 (Jj d).length d1]/\Blk w' b4 22 [.slice SA sizes.length sc]/\NatX (λk=>k=b8) w' (.slice D1 (Jj d).length d1) d/\∃ vr,Blk w' b8 40 [vr]/\NatX (λk=>k=b8) w' vr (prK ws sizes d i)) (λi v v' ⟨h1,h2,h3,h4,h5,h6,vr,h7,h8⟩ O=>⟨h1.trans O,h2.ext RtC.sta (by decide) O,h3.ext O,h4.ext O,h5.ext O,h6.ext O,vr,h7.ext O,h8.ext O⟩) (λi v ⟨h1,h2,h3⟩=>h2.old RtC.sta (by decide) λk D=>False.elim D) (λi hi v u ⟨h1,h2,h3,h4,h5,h6,vr,h7,h8⟩ hu=>?_)
  ⟨y,(hl.old RtC.sta (by decide) λk D=>.inr (by rw[D];exact a2)).ext RtC.sta (by decide) y,aa,(af.ext G).ext j,((ag.ext a1).ext G).ext j,(hd.old λk D=>.inr (by rw[D];exact a2)).ext y,_,ac,a8⟩) ?_
 .have J:i<sizes.length:=by rw[ho.len];exact hi
  refine(Qvb h3 h4 h5 h7 h6 h8 (hs.ext h1) hu J (ho.q _ (List.getElem_mem hi)) (ho.s _ (List.getElem_mem J)) (ho.p i om) (ho.f i hi J) ho.k).mono λr v' ⟨vr',g1,g2,g3⟩=>?_;rw[<-Jlz hi J]at g2;exact⟨g3.old h1 λk D=>by rw[D];exact a2,h2.gr RtC.sta (by decide) g3,Qr h3 g3 om,Qr h4 g3 om,Qr h5 g3 om,h6.gr g3,vr',g1,g2⟩
 rintro u w8 ⟨h1,h2,h3,h4,h5,h6,vr,h7,h8⟩;have e5:prK ws sizes d ws.length=Ze ws sizes d:=by unfold prK;rw[List.take_length,<-ho.len,List.take_length]
 rw[e5]at h8;obtain⟨V1,v1,rfl⟩:=h8.1.sl;refine ρ ?_;refine ld (h3.at (i:=0) rfl) ?_;refine ρ ?_;refine ld (h7.at (i:=0) rfl) ?_;refine ρ ?_;exact Qo ⟨⟨_,rfl,h8.old λk D=>False.elim D⟩,h1⟩
end Go.Proofs.YtebiphhfkdbpfaaGreatDoor
namespace Go.Wk
open Go.RowKit
variable {d n ty v:Nat}
theorem sl32q{P:Program}{al:AL}{w:World}{Q:Exit->Act->World->Prop}{ops:Array Oper}{rest:List Oper}{pos:String}{aft:Array Edge}{y:Operand}{t yt:TypeId}{k2:IntKind}(hv:v<32)(kk:WL P n ops Q rest ((d,.int .u32 ((2^v:Nat):Int))::al) w)(hy:ev al y=some (.int k2 (v:Int)):=by rfl)(hd:Nat.blt d n=true:=by rfl):
  WL P n ops Q (⟨some d,.binOp .shl t (.const (.int .u32 1)) y yt,ty,pos,aft,none⟩::rest) al w:=by
 rw[<-Jzw hv]at kk;exact wop hd (λa i=>Jqr (x:=.const (.int .u32 1)) rfl hy om i (some d) w) kk
end Go.Wk
namespace Go.Proofs.YtebiphhfkdbpfaaGreatDoor
open Go.RowKit Pl Go.Wk Bl
attribute [local irreducible] WC WL QX WD WDB WP WN WG WH
theorem Jnw: ∀(q r:Nat),r<32->Jj (2^(32*q+r))=List.replicate q 0++[UInt32.ofNat (2^r)]
 | 0,r,hr=>by
  have h1:2^r<4294967296:=nM (Nat.pow_lt_pow_right (by decide) hr) (by decide);rw[Nat.mul_zero,Nat.zero_add,Jcf (Nat.pos_iff_ne_zero.1 (Nat.two_pow_pos r)) h1];rfl
 | q+1,r,hr=>by
  have e:2^(32*(q+1)+r)=4294967296*2^(32*q+r):=by
   rw[show 32*(q+1)+r=32+(32*q+r) by omega,Nat.pow_add]
  have ih:=Jnw q r hr;have h0:=Nat.two_pow_pos (32*q+r);rw[e];have:=Jnv (c:=0) (m:=2^(32*q+r)) (by show 0+4294967296*_≠0;omega);rw[show(0:UInt32).toNat+4294967296*2^(32*q+r)=4294967296*2^(32*q+r) by show 0+_=_;omega]at this;rw[this,ih];rfl
theorem Qnr{i:Nat}(hi:i<=31000)(w:World): Ret Tryz.prog 112 [.int .i64 (i:Int)] w λu w'=>NatV w' u (2^i)/\Ext w w':=by
 refine Jz Tryz.func112 Tryz.ntmps112 rfl kr rfl ?_;have eq:IntKind.i64.wrap ((i:Int).tdiv 32)=((i / 32:Nat):Int):=by
  rw[show(i:Int).tdiv 32=((i / 32:Nat):Int) from rfl,Zd om]
 have er:(i:Int).tmod 32=((i % 32:Nat):Int):=rfl;refine ρ ?_;refine Ge rfl rfl (by decide) rfl ?_;rw[eq];refine ρ ?_;refine mkn EN (i / 32+1) om (by unfold maxLen;omega) ?_;intro w1 O J a1 hO;have j:Qs w1 w.heap.size (.slice O (i / 32+1) (i / 32+1)) (List.replicate (i / 32+1) 0):=by
  have e:(madeCells (Value.int .u32 0).cells ((i / 32+1)*1)).toList=Nc (List.replicate (i / 32+1) 0):=by rw[Nat.mul_one,<-Ku];exact Vl _ _
  grind
 refine ρ ?_;refine Ge rfl rfl (by decide) rfl ?_;rw[eq];refine ρ ?_;refine wrem rfl rfl (by decide) rfl ?_;rw[er];refine sl32q (v:=i % 32) (Nat.mod_lt _ (by decide)) ?_;refine ρ ?_;rw[Qs,List.length_replicate]at j;refine ix (i / 32) (Rd.own j) om ?_;refine ρ ?_;obtain⟨s1,s2,G,Z,s5⟩:=Zb j (q:=i / 32) om (.int .u32 ((UInt32.ofNat (2^(i % 32))).toNat:Int));have hp:2^(i % 32)<4294967296:=nM (Nat.pow_lt_pow_right (by decide) (Nat.mod_lt i (by decide:32 > 0))) (by decide);have ep:((UInt32.ofNat (2^(i % 32))).toNat:Int)=((2^(i % 32):Nat):Int):=by rw[UInt32.toNat_ofNat',Nat.mod_eq_of_lt (show 2^(i % 32)<2^32 from hp)]
 refine Go.Wk.kv 13 (u:=.int .u32 ((UInt32.ofNat (2^(i % 32))).toNat:Int)) (congrArg (Value.int .u32) ep.symm) ?_;refine sto (s1.trans (Qk (by simp))) s2 ?_;rw[Vd]at G;have D:Jj (2^i)=(List.replicate (i / 32+1) 0).set (i / 32) (UInt32.ofNat (2^(i % 32))):=by
  have U:=Jnw (i / 32) (i % 32) (Nat.mod_lt _ (by decide));rw[Nat.div_add_mod]at U;rw[U,List.replicate_succ',List.set_append_right _ _ (by simp)];simp
 have y:(Jj (2^i)).length=i / 32+1:=by rw[D];simp
 rw[<-D,<-y]at G;refine ρ ?_;refine Jq ⟨⟨O,i / 32+1,by rw[y],om,om,?_⟩,J.setCell Z _⟩;rw[<-y]at *;exact Rd.own G
open Go.RowKit Pl Go.Wk Bl Nw
def Ut(K:Nat): Prop:=∀ {v u:Value} {a b:Nat} {w:World},NatV w v a->NatV w u b->a<2^K->b<2^K->0<b->Ret Tryz.prog 102 [v,u] w λr w'=>(∃ x y,r=.tuple #[x,y,.int .i64 0]/\NatX (Ol w) w' x (a / b)/\NatX (Ol w) w' y (a % b))/\Ext w w'
theorem Jsc: Ut 32:=λi j y u h0=>Kh i j (Vn y (by decide)) h0 u
theorem Qbs{v:Value}{p n K:Nat}{w:World}(hv:NatV w v p)(hn:2<=n)(hn64:n<=64)(hp:1<p)(hK:K<=29000)(hK6:7<=K)(hpK:p<2^K)(hx0:(2^((Jw p+n-1) / n))^(n-1)<2^K)(hdiv:Ut K): Ret Tryz.prog 111 [v,.int .i64 (n:Int)] w λu w'=>(∃ r,NatV w' u r/\Ur p n r)/\Ext w w':=by
 have aw:Jw p<=K:=Jch hpK;have b3:1<=Jw p:=(Um (x:=p) om).1;have bb:(Jw p+n-1) / n<=K:=by
  refine nL (Nat.div_le_of_le_mul (m:=Jw p+n-1) (k:=n) (n:=Jw p) ?_) aw;obtain⟨l,hl⟩:∃ l,Jw p=l+1:=⟨Jw p-1,om⟩;rw[hl,Nat.mul_succ];have:l<=n*l:=Nat.le_mul_of_pos_left l om;omega
 have ak:p<(2^((Jw p+n-1) / n))^n:=by
  refine nM Yy ?_;rw[<-Nat.pow_mul];refine Nat.pow_le_pow_right (by decide) ?_;have:=Nat.div_add_mod (Jw p+n-1) n;have h2:=Nat.mod_lt (Jw p+n-1) (show n > 0 by omega);rw[Nat.mul_comm];omega
 generalize U:(Jw p+n-1) / n=c at *
 refine Jz Tryz.func111 Tryz.ntmps111 rfl kr rfl ?_;refine ρ ?_;refine cl (Yw hv (Vn hpK om)) ?_;rintro _ w1 ⟨rfl,rfl⟩;have eq:IntKind.i64.wrap (((Jw p:Int)+(n:Int)-1).tdiv (n:Int))=(c:Int):=by
  rw[show(Jw p:Int)+(n:Int)-1=((Jw p+n-1:Nat):Int) by omega,show(((Jw p+n-1:Nat):Int)).tdiv (n:Int)=(((Jw p+n-1) / n:Nat):Int) from rfl,U,Zd om]
 refine ρ ?_;refine Ge rfl rfl om rfl ?_;rw[eq];refine ρ ?_;refine cl (Qnr (i:=c) om _) ?_;rintro x0 w2 ⟨az,aj⟩;have ba:=Vn hpK om;refine ρ ?_;refine Ju (fun (x:Nat) (xv:Value)=>[(0,v),(1,.int .i64 (n:Int)),(5,xv)]) (λx xv w'=>Ext w1 w'/\NatV w' xv x/\0<x/\x<=2^c/\p<(x+1)^n) (λx _=>x) (2^c) x0 sB ⟨aj,az,Nat.two_pow_pos c,Nat.le_refl _,Nat.lt_of_lt_of_le ak (Nat.pow_le_pow_left (Nat.le_succ _) n)⟩ ?_;rintro x xv w3 ⟨ai,hX,Z,ag,aq⟩;have a5:∀ k,k<=n-1->x^k<2^K:=λk hk=>Nat.lt_of_le_of_lt (nL (Nat.pow_le_pow_left ag k) (Nat.pow_le_pow_right (Nat.two_pow_pos c) hk)) hx0;have a7:x<2^K:=by have:=a5 1 om;rwa [Nat.pow_one]at this
 have ad:=Vn a7 om;refine ρ ?_;refine cl (Xp 1 (by decide) _) ?_;rintro o w4 ⟨ho,a2⟩;have a9:=ai.trans a2;have ab:((n:Int)-1)=((n-1:Nat):Int):=om
 refine ρ ?_;rw[ab];refine Ju (fun (i:Nat) (bv:Value)=>[(0,v),(1,.int .i64 (n:Int)),(5,xv),(6,bv),(24,.int .i64 ((n-1:Nat):Int)),(25,.int .i64 (i:Int))]) (λi bv w'=>i<=n-1/\Ext w4 w'/\NatV w' bv (x^i)) (λi _=>n-1-i) 0 o sB ⟨Nat.zero_le _,Ext.refl _,by rw[Nat.pow_zero];exact ho.1⟩ ?_;rintro i bv w5 ⟨hi,G,hb⟩;refine ρ ?_;refine ci (λU=>?_) (λU=>?_)
 .have ae:i<n-1:=by have:=oT U;omega
  clear U;refine ρ ?_;refine cl (Vh hb (hX.ext (a2.trans G)) (Vn (a5 i hi) om) ad) ?_;rintro b6 w6 ⟨af,_,y⟩;rw[<-Nat.pow_succ]at af;refine ρ ?_;exact Jt (i+1) b6 sO ⟨om,G.trans y,af⟩ om
 have ax:i=n-1:=by have:=oF U;omega
 subst ax;clear U hi;have J:=a9.trans G;refine ρ ?_;refine cl (hdiv (hv.ext J) hb hpK (a5 _ (Nat.le_refl _)) (Nat.pow_pos Z)) ?_;rintro _ w6 ⟨⟨qv,rv,rfl,hq,hr⟩,y⟩;have bc:n-1<64:=om
 have ao:(n-1)*x<2^(K+6):=by
  rw[Nat.pow_add,Nat.mul_comm];exact Nat.lt_of_le_of_lt (Nat.mul_le_mul_left x (show n-1<=2^6 by omega)) (Nat.mul_lt_mul_of_pos_right a7 (by decide))
 have ap:p / x^(n-1)<2^K:=Nat.lt_of_le_of_lt (Nat.div_le_self _ _) hpK;have an:(n-1)*x+p / x^(n-1)<2^(K+7):=by
  have:2^(K+7)=2^(K+6)+2^(K+6):=by rw[show K+7=K+6+1 by omega,Nat.pow_succ];omega
  have h2:2^K<=2^(K+6):=Nat.pow_le_pow_right (by decide) om;omega
 refine ρ ?_;rw[ab,Zj (z:=((n-1:Nat):Int)) om];refine cl (Xp (n-1) om _) ?_;rintro m7 w7 ⟨av,a1⟩;have b1:=J.trans (y.trans a1);refine ρ ?_;refine cl (Vh av.1 (hX.ext (a2.trans (G.trans (y.trans a1)))) (by have:=Qy (n:=n-1) om;omega) ad) ?_;rintro m8 w8 ⟨au,_,a8⟩;refine ρ ?_;refine cl (Qcj au ((hq.ext a1).ext a8).1 (Vn ao om) (Vn ap om)) ?_;rintro m9 w9 ⟨ar,ah⟩;refine ρ ?_;rw[Zj (z:=(n:Int)) om];refine cl (Xp n om _) ?_;rintro b9 b7 ⟨ac,a3⟩;refine ρ ?_;refine cl (Kh (ar.ext a3) ac.1 (Vn an om) om om) ?_;rintro _ b5 ⟨⟨nv,b8,rfl,a6,b2⟩,aa⟩;have D:=a1.trans (a8.trans (ah.trans (a3.trans aa)));have O:=J.trans (y.trans D);have a4:=hX.ext (a2.trans (G.trans (y.trans D)));have am:((n-1)*x+p / x^(n-1)) / n=Nw.step p n x:=rfl;rw[am]at a6;refine ρ ?_;refine cl (Jjf a6.1 a4) ?_
 rintro _ b4 ⟨rfl,j⟩;refine ρ ?_;refine ci (λU=>?_) (λU=>?_)
 .have ay:x<=Nw.step p n x:=by
   have:=oT U;unfold Zs at this;split at this
   .omega
   omega
  refine ρ ?_;exact Jq ⟨⟨x,a4.ext j,Qzg om Z ay,aq⟩,O.trans j⟩
 have ae:Nw.step p n x<x:=by
  have:=oF U;unfold Zs at this;split at this
  .assumption
  split at this<;>omega
 refine ρ ?_;exact Jt (Nw.step p n x) nv sB ⟨O.trans j,(a6.ext j).1,Qzh om om Z,om,Jhd om Z⟩ ae
end Go.Proofs.YtebiphhfkdbpfaaGreatDoor
namespace Go.Wk
open Go.RowKit
variable {cs xs:List Value}{base e g j m n t ty:Nat}{w:World}
theorem Blk.rdAt(h:Blk w g t cs)(hl:j+m<=cs.length): Rd w 1 (some ⟨g,j,none⟩) m ((cs.drop j).take m):=by
 refine⟨by simp;omega,λh0=>⟨⟨g,j,none⟩,rfl,h.lt,λi u y=>?_⟩⟩;rw[Vr,h.cell];rw[List.getElem?_take]at y;split at y
 .rw[List.getElem?_drop]at y;exact y
 cases y
theorem stJ{P:Program}{al:AL}{Q:Exit->Act->World->Prop}{ops:Array Oper}{rest:List Oper}{pos:String}{aft:Array Edge}{tt:TT}[h:Tab P tt]{x y:Operand}{bt i:Nat}{k:TK}{v:Value}(hb:Blk w g bt cs)(hu:j+i<cs.length)(kk:∀ w1,Blk w1 g bt (cs.set (j+i) v)->w.grownBy w1 (some g)->WL P n ops Q rest al w1)(ht:tk tt t=some k:=by rfl)(hk:k.size=1:=by rfl)(hp:Zk k.desc=true:=by rfl)(hx:ev al x=some (.pointer (some (adr (some ⟨g,j,none⟩) i))):=by rfl)(hy:ev al y=some v:=by rfl)(hv:v.oneCell'=true:=by rfl):
  WL P n ops Q (⟨none,.store t x y,ty,pos,aft,none⟩::rest) al w:=by
 have e:adr (some ⟨g,j,none⟩) i=⟨g,j+i,none⟩:=by unfold adr;exact Vr _ _ _
 refine sto (u:=cs[j+i]) ?_ ?_ (kk _ ?_ ⟨rfl,rfl,rfl,by simp[World.setCell],λk hk hn=>Below.heap_setCell w _ v k (λD=>hn (by rw[D,e]))⟩) ht hk hp hx hy hv
 .rw[e,hb.cell];exact gE hu
 .rw[e];exact hb.frozen _
 rw[e];exact hb.set _ v
theorem Jmk{O:Option Addr}(h:w.ownsRow base e 1 (.slice O n n) n xs)(h0:0<n): ∃ g,O=some ⟨g,0,none⟩/\base<=g/\Blk w g e xs:=by
 rcases h.2 with⟨i,_⟩|⟨g,cap,cur,i,hb,hh,_,_,hs,ht⟩
 .injection i with _ e2 _;omega
 injection i with e1 _ e3
 refine⟨g,e1,hb,?_⟩;rw[List.take_of_length_le (by simp[hs];omega)]at ht;unfold Blk;rw[hh,<-ht]
end Go.Wk
namespace Go.Proofs.YtebiphhfkdbpfaaGreatDoor
open Go.RowKit Pl Go.Wk Kn
attribute [local irreducible] WC WL QX WD WDB WP WN WG WH
variable {l os us vs:List UInt32}{L b c cv f g gu gv i j k n s t v x y:Nat}{A:Option Addr}{w:World}
theorem Qzs(s:Nat)(h:s<32): (2:Int)^min ((s:Nat):Int).toNat IntKind.u64.bits=((2^s:Nat):Int):=by
 have:min ((s:Nat):Int).toNat IntKind.u64.bits=s:=by simp[IntKind.bits];omega
 rw[this];simp
theorem Qyd(hs:s<32)(hc:c<2^s)(hx:x<4294967296): bits .or .u64 (c:Int) (IntKind.u64.wrap (IntKind.u64.wrap (x:Int)*2^min ((s:Nat):Int).toNat IntKind.u64.bits))=((c+x*2^s:Nat):Int):=by
 have i:2^s<=2^31:=Nat.pow_le_pow_right (by decide) om;have y:x*2^s<=4294967295*2^31:=Nat.mul_le_mul om i;have u:IntKind.u64.wrap (x:Int)=(x:Int):=by rw[IntKind.wrap_u64];omega
 rw[Qzs s hs,u,<-Int.natCast_mul];have j:IntKind.u64.wrap ((x*2^s:Nat):Int)=((x*2^s:Nat):Int):=by rw[IntKind.wrap_u64];omega
 rw[j,u64_or_nat _ _ om om,Nat.or_comm,nat_join s (x*2^s) c (by simp) hc,Nat.add_comm]
theorem Jhn(hL:l.length=L)(hLm:L<=1000)(hr:Rd w 1 A L (Nc l))(hs:s<32):
  Ret Tryz.prog 195 [.slice A L c,.int .u64 (s:Int)] w λr w'=>∃ g os,r=.slice (some ⟨g,0,none⟩) (L+1) (L+1)/\os.length=L+1/\val os=val l*2^s/\w.heap.size<=g/\Blk w' g 63 (Nc os)/\Ext w w':=by
 refine Jz Tryz.func195 Tryz.ntmps195 rfl kr rfl ?_;refine ρ ?_;refine mkn EN (L+1) om (by unfold maxLen;omega) ?_;intro w1 O a5 ad hO;have a3:Qs w1 w.heap.size (.slice O (L+1) (L+1)) ([]++List.replicate (L+1) 0):=by
  have e:(madeCells (Value.int .u32 0).cells ((L+1)*1)).toList=Nc (List.replicate (L+1) 0):=by rw[Nat.mul_one,<-Ku];exact Vl _ _
  grind
 refine ρ ?_;refine Xh (fun (k j:Nat) (os:List UInt32)=>[(0,.slice A L c),(1,.int .u64 (s:Int)),(5,.slice O (L+1) (L+1)),(6,.int .u64 (j:Int)),(13,.int .i64 (L:Int)),(14,.int .i64 (k:Int))])
  (λk j os w2=>Ext w w2/\k<=L/\ShlI l s k j os/\Qs w2 w.heap.size (.slice O (L+1) (L+1)) (os++List.replicate (L+1-k) 0)) (λk _ _=>L-k) 0 0 [] sB
  ⟨a5,Nat.zero_le _,⟨rfl,Nat.two_pow_pos s,by simp[val]⟩,a3⟩ ?_
 rintro k j os w2 ⟨a1,hk,hI,a7⟩;have a6:=hI.len;have a2:=hr.ext a1;have D:(os++List.replicate (L+1-k) (0:UInt32)).length=L+1:=by simp;omega
 have y:=a7;rw[Qs,D]at y;have i:(Nc (os++List.replicate (L+1-k) 0))[k]?=some (.int .u32 (((os++List.replicate (L+1-k) 0).getD k 0).toNat:Int)):=Qk (by rw[D];omega);have store:∀ x:Nat,w2.cell? (adr O k)=(Nc (os++List.replicate (L+1-k) 0))[k]?/\w2.frozen? (adr O k)=false /\
   Qs (w2.setCell (adr O k) (.int .u32 ((UInt32.ofNat x).toNat:Int))) w.heap.size (.slice O (L+1) (L+1)) ((os++[UInt32.ofNat x])++List.replicate (L+1-(k+1)) 0)/\Ext w (w2.setCell (adr O k) (.int .u32 ((UInt32.ofNat x).toNat:Int))):=λx=>by
  obtain⟨s1,Z,G,U,s5⟩:=Zb y (q:=k) om (.int .u32 ((UInt32.ofNat x).toNat:Int));refine⟨s1,Z,?_,a1.setCell U _⟩;rw[Vd,show L+1-k=(L-k)+1 by omega]at G;have e:=Jzz os (L-k) (UInt32.ofNat x);grind
 refine ρ ?_;refine ci (λh=>?_) (λh=>?_)
 .have a9:k<L:=by have:=oT h;omega
  clear h;have a8:(l.getD k 0).toNat<4294967296:=(l.getD k 0).toNat_lt;obtain⟨J,ab⟩:=hI.step hs rfl;obtain⟨s1,Z,G,U⟩:=store (j+(l.getD k 0).toNat*2^s);refine ρ ?_;refine ix k a2 a9 ?_;refine ρ ?_;refine ld (a2.cell (Qk (show k<l.length by omega))) ?_;refine ρ ?_;refine Jqf rfl rfl om rfl ?_;refine ρ ?_;have eo:=Qyd hs hI.lt a8;refine kv 6 (u:=.int .u64 ((j+(l.getD k 0).toNat*2^s:Nat):Int)) (congrArg (Value.int .u64) eo) ?_;refine kv 29 (u:=.int .u32 ((UInt32.ofNat (j+(l.getD k 0).toNat*2^s)).toNat:Int)) (congrArg (Value.int .u32) ((congrArg IntKind.u32.wrap eo).trans (Xl _))) ?_;refine ix k (Rd.own y) om ?_;refine sto (s1.trans i) Z ?_;refine ρ ?_;refine Xf rfl rfl (by decide) rfl ?_;rw[Iy];refine ρ ?_;exact Qm (k+1) _ _ sO ⟨U,om,J,G⟩ om
 have aa:k=L:=by have:=oF h;omega
 subst aa;clear h;obtain⟨s1,Z,G,U⟩:=store j;refine ρ ?_;refine ix k (Rd.own y) om ?_;rw[Xl];refine sto (s1.trans i) Z ?_;refine ρ ?_;rw[show k+1-(k+1)=0 by omega,List.replicate_zero,List.append_nil]at G;have a4:(os++[UInt32.ofNat j]).length=k+1:=by simp;omega
 rw[Qs,a4]at G;obtain⟨g,e,hg,hB⟩:=Jmk G om;subst e;refine Jq ⟨g,_,rfl,a4,?_,hg,hB,U⟩;obtain⟨_,h2,h3⟩:=hI;have ac:2^s<=2^31:=Nat.pow_le_pow_right (by decide) om;rw[Xz,a6];simp only[val,UInt32.toNat_ofNat'];rw[List.take_of_length_le om]at h3;rw[show j % 2^32+4294967296*0=j by omega,h3]
theorem Qzt(hL:l.length=L)(hLm:L<=1001)(hr:Rd w 1 A L (Nc l))(hs:s<32):
  Ret Tryz.prog 199 [.slice A L c,.int .u64 (s:Int)] w λr w'=>∃ O os,r=.slice O L L/\os.length=L/\val os=val l / 2^s/\w'.ownsRow w.heap.size 63 1 (.slice O L L) L (Nc os)/\Ext w w':=by
 refine Jz Tryz.func199 Tryz.ntmps199 rfl kr rfl ?_;refine ρ ?_;refine mkn EN L om (by unfold maxLen;omega) ?_;intro w1 O U a6 hO;have G:w1.ownsRow w.heap.size 63 1 (.slice O L L) L (Nc (List.replicate L 0++[])):=by
  have e:(madeCells (Value.int .u32 0).cells (L*1)).toList=Nc (List.replicate L 0):=by rw[Nat.mul_one,<-Ku];exact Vl _ _
  grind
 refine ρ ?_;refine Xh (fun (k hi:Nat) (os:List UInt32)=>[(0,.slice A L c),(1,.int .u64 (s:Int)),(5,.slice O L L),(6,.int .u64 (hi:Int)),(7,.int .i64 ((k:Int)-1))])
  (λk hi os w2=>Ext w w2/\k<=L/\hi<18446744073709551616/\os.length=L-k/\val os=val (l.drop k) / 2^s/\hi % 2^s=val (l.drop k) % 2^s/\w2.ownsRow w.heap.size 63 1 (.slice O L L) L (Nc (List.replicate k 0++os))) (λk _ _=>k) L 0 [] sB
  ⟨U,Nat.le_refl _,by decide,by simp,by rw[List.drop_of_length_le om];simp[val],by rw[List.drop_of_length_le om];simp[val],G⟩ ?_
 rintro k hi os w2 ⟨y,hk,a7,a5,hv,hm,i⟩;have D:=hr.ext y;refine ρ ?_;refine ci (λh=>?_) (λh=>?_)
 .obtain⟨k,rfl⟩:∃ j,k=j+1:=⟨k-1,by grind⟩;clear h;have a3:(l.getD k 0).toNat<4294967296:=(l.getD k 0).toNat_lt;have hp:2^s*2^(32-s)=4294967296:=by rw[<-Nat.pow_add,show s+(32-s)=32 by omega]
  have a1:(hi % 4294967296) % 2^s=val (l.drop (k+1)) % 2^s:=by
   rw[<-hm,Nat.mod_mod_of_dvd _ ⟨2^(32-s),hp.symm⟩]
  obtain⟨Z,a2⟩:=Qzr hs (show k<l.length by omega) hv a1;have eo:bits .or .u64 (IntKind.u64.wrap ((hi:Int)*2^min (32:Int).toNat IntKind.u64.bits)) (IntKind.u64.wrap ((l.getD k 0).toNat:Int))=(((hi % 4294967296)*4294967296+(l.getD k 0).toNat:Nat):Int):=by
   have e1:IntKind.u64.wrap ((hi:Int)*2^min (32:Int).toNat IntKind.u64.bits)=IntKind.u64.wrap (((hi % 4294967296:Nat):Int)*2^min (32:Int).toNat IntKind.u64.bits):=by
    have e1:(2:Int)^min (32:Int).toNat IntKind.u64.bits=4294967296:=by decide
    rw[e1];simp only[IntKind.wrap_u64];omega
   rw[e1,Jww (Nat.mod_lt _ (by decide)) a3]
  obtain⟨s1,s2,J,s4,s5⟩:=Zb i (q:=k) om (.int .u32 ((UInt32.ofNat (((hi % 4294967296)*4294967296+(l.getD k 0).toNat) / 2^s)).toNat:Int));refine ρ ?_;refine Jqf rfl rfl (by decide) rfl ?_;refine ρ ?_;refine ix k D om ?_;refine ρ ?_;refine ld (D.cell (Qk (show k<l.length by omega))) ?_;refine ρ ?_;refine kv 6 (u:=.int .u64 (((hi % 4294967296)*4294967296+(l.getD k 0).toNat:Nat):Int)) (congrArg (Value.int .u64) eo) ?_;refine kv 28 (u:=.int .u64 (((hi % 4294967296)*4294967296+(l.getD k 0).toNat:Nat):Int)) (congrArg (Value.int .u64) eo) ?_;refine Xf rfl rfl om rfl ?_;have er:((((hi % 4294967296)*4294967296+(l.getD k 0).toNat:Nat):Int)).fdiv (2^min ((s:Nat):Int).toNat IntKind.u64.bits)=((((hi % 4294967296)*4294967296+(l.getD k 0).toNat) / 2^s:Nat):Int):=by
   rw[Kz,show min s IntKind.u64.bits=s by simp[IntKind.bits];omega]
  rw[er];refine ρ ?_;refine ix k (Rd.own i) om ?_;rw[Xl];refine sto (s1.trans (Qk (by simp;omega))) s2 ?_;refine ρ ?_;refine Qm k _ (UInt32.ofNat (((hi % 4294967296)*4294967296+(l.getD k 0).toNat) / 2^s)::os) sO ⟨y.setCell s4 _,om,by have:=Nat.mod_lt hi (show 0<4294967296 by decide);omega,by simp;omega,Z,a2,?_⟩ om;rw[Vd]at J;have e:(List.replicate (k+1) (0:UInt32)++os).set k (UInt32.ofNat (((hi % 4294967296)*4294967296+(l.getD k 0).toNat) / 2^s))=List.replicate k 0++UInt32.ofNat (((hi % 4294967296)*4294967296+(l.getD k 0).toNat) / 2^s)::os:=by
   rw[List.replicate_succ',List.append_assoc,List.set_append_right _ _ (by simp)];simp
  rw[e]at J;exact J
 have a4:k=0:=by have:=oF h;omega
 subst a4;refine ρ ?_;rw[List.replicate_zero,List.nil_append]at i;exact Jq ⟨O,os,rfl,om,hv,i,y⟩
theorem Jhc(hx:x<4294967296)(hb:b<=1)(hy:y<4294967296): IntKind.u64.wrap (IntKind.u64.wrap (IntKind.u64.wrap (x:Int)-(y:Int))-(b:Int))=(dif x b y:Int):=by
 unfold dif;simp only[IntKind.wrap_u64];omega
theorem Qpf(h:x<18446744073709551616): bits .and .u64 (x:Int) 4294967295=((x % 4294967296:Nat):Int):=by
 rw[show(4294967295:Int)=((4294967295:Nat):Int) from rfl,u64_and_nat _ _ h (by decide)];congr 1
 exact Nat.and_two_pow_sub_one_eq_mod x 32
theorem Qcm(hv:v<4294967296)(h:c+f*v<18446744073709551616): IntKind.u64.wrap ((c:Int)+IntKind.u64.wrap ((f:Int)*IntKind.u64.wrap (v:Int)))=((c+f*v:Nat):Int):=by
 have i:IntKind.u64.wrap (v:Int)=(v:Int):=by rw[IntKind.wrap_u64];omega
 rw[i,<-Int.natCast_mul];generalize f*v=z at *
 simp only[IntKind.wrap_u64];omega
def mid(us:List UInt32)(j i:Nat)(os:List UInt32): List UInt32:=us.take j++os++us.drop (j+i)
theorem Jwc(h:os.length=i)(hl:j+i<=us.length): (mid us j i os).length=us.length:=by simp[mid];omega
theorem Jbt(h:os.length=i)(hl:j+i<=us.length)(hk:i<=k): (mid us j i os).getD (j+k) 0=us.getD (j+k) 0:=by
 unfold mid;rw[List.getD,List.getElem?_append_right (by simp;omega),List.getElem?_drop,List.getD];congr 2
 simp;omega
theorem Jwb(x:UInt32)(h:os.length=i)(hl:j+i<us.length): (mid us j i os).set (j+i) x=mid us j (i+1) (os++[x]):=by
 unfold mid;have u:(us.take j++os).length=j+i:=by simp;omega
 rw[List.set_append_right _ _ om,u,Nat.sub_self,List.drop_eq_getElem_cons hl,List.set_cons_zero,show j+i+1=j+(i+1) by omega];simp
theorem Jng(us:List UInt32)(j:Nat): mid us j 0 []=us:=by simp[mid]
abbrev prt(us:List UInt32)(j n:Nat): List UInt32:=(us.drop j).take (n+1)
theorem Jyz(h:i<=n): (prt us j n).getD i 0=us.getD (j+i) 0:=by
 simp only[prt,List.getD,List.getElem?_take,List.getElem?_drop];rw[if_pos om]
theorem adrJ(g j i:Nat): adr (some ⟨g,j,none⟩) i=⟨g,j+i,none⟩:=by unfold adr;exact Vr _ _ _
theorem Jxx(h:Blk w g t (Nc us))(hl:j+i<us.length): w.cell? (adr (some ⟨g,j,none⟩) i)=some (.int .u32 ((us.getD (j+i) 0).toNat:Int)):=by
 rw[adrJ,h.cell,Qk hl]
theorem Qzb(hU:Blk w gu 63 (Nc us))(hV:Blk w gv 63 (Nc vs))(hne:gv≠gu)(hj:j+n+1<=us.length)(hn:n<=vs.length)(hn1:n<=1000)(hf:f<4294967296):
  Ret Tryz.prog 197 [.slice (some ⟨gu,j,none⟩) (n+1) c,.slice (some ⟨gv,0,none⟩) n cv,.int .u64 (f:Int)] w λr w'=>∃ neg os,r=.bool (neg == 1)/\neg<=1/\os.length=n+1/\val os+f*val (vs.take n)=val (prt us j n)+4294967296^(n+1)*neg/\Blk w' gu 63 (Nc (mid us j (n+1) os))/\w.grownBy w' (some gu):=by
 refine Jz Tryz.func197 Tryz.ntmps197 rfl kr rfl ?_;refine ρ ?_;have a7:(vs.take n).length=n:=by simp;omega
 refine Jqh (fun (i y b:Nat) (os:List UInt32)=>[(0,.slice (some ⟨gu,j,none⟩) (n+1) c),(1,.slice (some ⟨gv,0,none⟩) n cv),(2,.int .u64 (f:Int)),(7,.int .u64 (y:Int)),(8,.int .u64 (b:Int)),(13,.int .i64 (n:Int)),(14,.int .i64 (i:Int))])
  (λi y b os w2=>i<=n/\SbI (prt us j n) (vs.take n) f i y b os/\Blk w2 gu 63 (Nc (mid us j i os))/\w.grownBy w2 (some gu)) (λi _ _ _=>n-i) 0 0 0 [] sB
  ⟨Nat.zero_le _,⟨rfl,by decide,by decide,by simp[val]⟩,by rw[Jng];exact hU,Qu (Ext.refl w) _⟩ ?_
 rintro i y b os w2 ⟨hi,hI,hB,hg⟩;have D:=hI.len;have a4:Blk w2 gv 63 (Nc vs):=hV.grown hg (λe=>hne (by injection e));have U:=Jwc (us:=us) (j:=j) D om;have O:Rd w2 1 (some ⟨gu,j,none⟩) (n+1) (((Nc (mid us j i os)).drop j).take (n+1)):=hB.rdAt (by rw[Za,U];omega);have a8:Rd w2 1 (some ⟨gv,0,none⟩) n (((Nc vs).drop 0).take n):=a4.rdAt (by rw[Za];omega);have a3:∀ k,i<=k->k<=n->w2.cell? (adr (some ⟨gu,j,none⟩) k)=some (.int .u32 (((prt us j n).getD k 0).toNat:Int)):=λk h1 h2=>by
  rw[Jxx hB (by rw[U];omega),Jbt D om h1,Jyz h2]
 refine ρ ?_;refine ci (λh=>?_) (λh=>?_)
 .have a2:i<n:=by have:=oT h;omega
  clear h;have hx:((prt us j n).getD i 0).toNat<4294967296:=((prt us j n).getD i 0).toNat_lt;have hy:((vs.take n).getD i 0).toNat<4294967296:=((vs.take n).getD i 0).toNat_lt;have ab:w2.cell? (adr (some ⟨gv,0,none⟩) i)=some (.int .u32 (((vs.take n).getD i 0).toNat:Int)):=by
   rw[Jxx a4 om,Nat.zero_add];congr 3
   simp[List.getD,a2]
  obtain⟨Z,a5⟩:=hI.step hf rfl rfl;have a6:=Qcm hy a5;refine ρ ?_;refine ix i a8 a2 ?_;refine ρ ?_;refine ld ab ?_;refine ρ ?_;refine kv 7 (u:=.int .u64 ((y+f*((vs.take n).getD i 0).toNat:Nat):Int)) (congrArg (Value.int .u64) a6) ?_;refine ix i O om ?_;refine ρ ?_;refine ld (a3 i (Nat.le_refl _) om) ?_;refine ρ ?_;have ed:IntKind.u64.wrap (IntKind.u64.wrap (IntKind.u64.wrap (((prt us j n).getD i 0).toNat:Int)-bits .and .u64 ((y+f*((vs.take n).getD i 0).toNat:Nat):Int) 4294967295)-(b:Int))=(dif ((prt us j n).getD i 0).toNat b ((y+f*((vs.take n).getD i 0).toNat) % 4294967296):Int):=by
   rw[Qpf a5];exact Jhc hx hI.le (Nat.mod_lt _ (by decide))
  refine kv 10 (u:=.int .u64 (dif ((prt us j n).getD i 0).toNat b ((y+f*((vs.take n).getD i 0).toNat) % 4294967296):Int)) (congrArg (Value.int .u64) ed) ?_;refine kv 39 (u:=.int .u32 ((UInt32.ofNat (dif ((prt us j n).getD i 0).toNat b ((y+f*((vs.take n).getD i 0).toNat) % 4294967296))).toNat:Int)) (congrArg (Value.int .u32) ((congrArg IntKind.u32.wrap ed).trans (Xl _))) ?_;refine ix i O om ?_;refine stJ (j:=j) (i:=i) hB (by rw[Za,U];omega) ?_;intro w3 J a1;rw[Vd,Jwb _ D om]at J;refine ρ ?_;refine Xf rfl rfl (by decide) rfl ?_;rw[Jzv];refine ρ ?_;refine Xf rfl rfl (by decide) rfl ?_;rw[Iy];refine ρ ?_;exact Uv (i+1) _ _ _ sO ⟨om,Z,J,Qp hg a1⟩ om
 have aa:i=n:=by have:=oF h;omega
 subst aa;clear h;have hx:((prt us j i).getD i 0).toNat<4294967296:=((prt us j i).getD i 0).toNat_lt;obtain⟨G,a9⟩:=hI.last a7 rfl;have ed:IntKind.u64.wrap (IntKind.u64.wrap (IntKind.u64.wrap (((prt us j i).getD i 0).toNat:Int)-(y:Int))-(b:Int))=(dif ((prt us j i).getD i 0).toNat b y:Int):=Jhc hx hI.le hI.lt;refine ρ ?_;refine ix i O om ?_;refine ρ ?_;refine ld (a3 i (Nat.le_refl _) om) ?_;refine ρ ?_;refine kv 11 (u:=.int .u64 (dif ((prt us j i).getD i 0).toNat b y:Int)) (congrArg (Value.int .u64) ed) ?_;refine kv 60 (u:=.int .u32 ((UInt32.ofNat (dif ((prt us j i).getD i 0).toNat b y)).toNat:Int)) (congrArg (Value.int .u32) ((congrArg IntKind.u32.wrap ed).trans (Xl _))) ?_;refine ix i O om ?_;refine stJ (j:=j) (i:=i) hB (by rw[Za,U];omega) ?_;intro w3 J a1;rw[Vd,Jwb _ D om]at J;refine ρ ?_;refine Xf rfl rfl (by decide) rfl ?_;rw[Jzv]
 refine ρ ?_;refine Jq ⟨dif ((prt us j i).getD i 0).toNat b y / 9223372036854775808,_,?_,a9,by simp[D],?_,J,Qp hg a1⟩
 .congr 1
  rcases(show dif ((prt us j i).getD i 0).toNat b y / 9223372036854775808=0∨dif ((prt us j i).getD i 0).toNat b y / 9223372036854775808=1 by omega) with e|e<;>rw[e]<;>rfl
 rw[List.take_of_length_le (l:=prt us j i) (by simp;omega)]at G;exact G
theorem Qpk(hU:Blk w gu 63 (Nc us))(hV:Blk w gv 63 (Nc vs))(hne:gv≠gu)(hj:j+n+1<=us.length)(hn:n<=vs.length)(hn1:n<=1000):
  Ret Tryz.prog 198 [.slice (some ⟨gu,j,none⟩) (n+1) c,.slice (some ⟨gv,0,none⟩) n cv] w λr w'=>∃ os k,os.length=n+1/\val os+4294967296^(n+1)*k=val (prt us j n)+val (vs.take n)/\Blk w' gu 63 (Nc (mid us j (n+1) os))/\w.grownBy w' (some gu):=by
 refine Jz Tryz.func198 Tryz.ntmps198 rfl kr rfl ?_;refine ρ ?_;have a7:(vs.take n).length=n:=by simp;omega
 refine Xh (fun (i U:Nat) (os:List UInt32)=>[(0,.slice (some ⟨gu,j,none⟩) (n+1) c),(1,.slice (some ⟨gv,0,none⟩) n cv),(4,.int .u64 (U:Int)),(7,.int .i64 (n:Int)),(8,.int .i64 (i:Int))])
  (λi U os w2=>i<=n/\AddInv (prt us j n) (vs.take n) i U os/\Blk w2 gu 63 (Nc (mid us j i os))/\w.grownBy w2 (some gu)) (λi _ _=>n-i) 0 0 [] sB
  ⟨Nat.zero_le _,⟨rfl,by decide,by simp[val]⟩,by rw[Jng];exact hU,Qu (Ext.refl w) _⟩ ?_
 rintro i U os w2 ⟨hi,hI,hB,hg⟩;have y:=hI.1;have ab:=hI.2.1;have D:=Jwc (us:=us) (j:=j) y om;refine ρ ?_;refine ci (λh=>?_) (λh=>?_)
 .have a4:i<n:=by have:=oT h;omega
  clear h;have hx:((prt us j n).getD i 0).toNat<4294967296:=((prt us j n).getD i 0).toNat_lt;have hy:((vs.take n).getD i 0).toNat<4294967296:=((vs.take n).getD i 0).toNat_lt;refine ρ ?_;have a3:Ext w2 w2.drew:=(Ext.refl w2).drew;have a5:w.grownBy w2.drew (some gu):=Qp hg (Qu a3 _);have a2:=hB.ext a3;have a6:Blk w2.drew gv 63 (Nc vs):=hV.grown a5 (λe=>hne (by injection e));have G:Rd w2.drew 1 (some ⟨gu,j,none⟩) (n+1) (((Nc (mid us j i os)).drop j).take (n+1)):=a2.rdAt (by rw[Za,D];omega);have a8:Rd w2.drew 1 (some ⟨gv,0,none⟩) n (((Nc vs).drop 0).take n):=a6.rdAt (by rw[Za];omega);have a1:w2.drew.cell? (adr (some ⟨gu,j,none⟩) i)=some (.int .u32 (((prt us j n).getD i 0).toNat:Int)):=by
   rw[Jxx a2 (by rw[D];omega),Jbt y om (Nat.le_refl _),Jyz hi]
  have aa:w2.drew.cell? (adr (some ⟨gv,0,none⟩) i)=some (.int .u32 (((vs.take n).getD i 0).toNat:Int)):=by
   rw[Jxx a6 om,Nat.zero_add];congr 3
   simp[List.getD,a4]
  have es:IntKind.u64.wrap ((U:Int)+IntKind.u64.wrap (IntKind.u64.wrap (((prt us j n).getD i 0).toNat:Int)+IntKind.u64.wrap (((vs.take n).getD i 0).toNat:Int)))=((U+((prt us j n).getD i 0).toNat+((vs.take n).getD i 0).toNat:Nat):Int):=by
   simp only[IntKind.wrap_u64];omega
  refine dr [(0,0),(0,1),(0,2),(0,3),(0,4),(0,5),(0,6),(0,7),(0,8),(0,9),(0,10),(0,11),(0,12),(0,13)] kr ?_;refine ρd ?_;refine dix i G om ?_;refine ρd ?_;refine dld a1 ?_;refine ρd ?_;refine dix i a8 a4 ?_;refine ρd ?_;refine dld aa ?_;refine ρd ?_;refine ρ ?_;refine kv 4 (u:=.int .u64 ((U+((prt us j n).getD i 0).toNat+((vs.take n).getD i 0).toNat:Nat):Int)) (congrArg (Value.int .u64) es) ?_;refine kv 27 (u:=.int .u32 ((UInt32.ofNat (U+((prt us j n).getD i 0).toNat+((vs.take n).getD i 0).toNat)).toNat:Int)) (congrArg (Value.int .u32) ((congrArg IntKind.u32.wrap es).trans (Xl _))) ?_;refine ix i G om ?_;refine stJ (j:=j) (i:=i) a2 (by rw[Za,D];omega) ?_;intro w3 O Z;rw[Vd,Jwb _ y om]at O;refine ρ ?_;refine Xf rfl rfl (by decide) rfl ?_;rw[Iy];refine ρ ?_;exact Qm (i+1) _ _ sO ⟨om,hI.step rfl,O,Qp a5 Z⟩ om
 have a9:i=n:=by have:=oF h;omega
 subst a9;clear h;have hx:((prt us j i).getD i 0).toNat<4294967296:=((prt us j i).getD i 0).toNat_lt;have G:Rd w2 1 (some ⟨gu,j,none⟩) (i+1) (((Nc (mid us j i os)).drop j).take (i+1)):=hB.rdAt (by rw[Za,D];omega);have a1:w2.cell? (adr (some ⟨gu,j,none⟩) i)=some (.int .u32 (((prt us j i).getD i 0).toNat:Int)):=by
  rw[Jxx hB (by rw[D];omega),Jbt y om (Nat.le_refl _),Jyz (Nat.le_refl _)]
 obtain⟨kk,J⟩:=Qpj hI a7;have es:IntKind.u32.wrap ((((prt us j i).getD i 0).toNat:Int)+IntKind.u32.wrap (U:Int))=((UInt32.ofNat (((prt us j i).getD i 0).toNat+U)).toNat:Int):=by
  rw[<-Xl];simp only[IntKind.wrap_u32];omega
 refine ρ ?_;refine ix i G om ?_;refine ρ ?_;refine ld a1 ?_;refine ρ ?_;refine ix i G om ?_;refine kv 39 (u:=.int .u32 ((UInt32.ofNat (((prt us j i).getD i 0).toNat+U)).toNat:Int)) (congrArg (Value.int .u32) es) ?_;refine stJ (j:=j) (i:=i) hB (by rw[Za,D];omega) ?_;intro w3 O Z;rw[Vd,Jwb _ y om]at O;refine ρ ?_;refine Vb ⟨_,kk,by simp[y],?_,O,Qp hg Z⟩;rw[List.take_of_length_le (l:=prt us j i) (by simp;omega)]at J;exact J
open Go.RowKit Pl Go.Wk Kn
variable {al bl l os os2 ul us vl vs:List UInt32}{g i j k la n rest s x:Nat}{AA BA UA VA:Option Addr}{w:World}
theorem Jgm(h:l.length=k+2): val l=((l.getD (k+1) 0).toNat*4294967296+(l.getD k 0).toNat)*4294967296^k+val (l.take k):=by
 have e:l.take (k+2)=l:=List.take_of_length_le om;have j:=Xo (a:=l) (i:=k+1);have u:=Xo (a:=l) (i:=k);rw[show k+1+1=k+2 by omega,e]at j;rw[j,u,Nat.pow_succ];grind
theorem Jgl(h:l.length=k+3): val l=(((l.getD (k+2) 0).toNat*4294967296+(l.getD (k+1) 0).toNat)*4294967296+(l.getD k 0).toNat)*4294967296^k+val (l.take k):=by
 have e:l.take (k+3)=l:=List.take_of_length_le om;have h0:=Xo (a:=l) (i:=k+2);have j:=Xo (a:=l) (i:=k+1);have u:=Xo (a:=l) (i:=k);rw[show k+2+1=k+3 by omega,e]at h0;rw[show k+1+1=k+2 by omega]at j;rw[h0,j,u,show k+2=k+1+1 by omega,Nat.pow_succ,Nat.pow_succ];grind
theorem Jqn(l:List UInt32)(k:Nat): val (l.take k)<4294967296^k:=by
 refine nM (Yf _) (Nat.pow_le_pow_right (by decide) ?_);rw[List.length_take];omega
theorem Qxl(hul:ul.length=k+3)(hvl:vl.length=k+2)(h:val ul<4294967296*val vl): (ul.getD (k+2) 0).toNat<=(vl.getD (k+1) 0).toNat:=by
 have G:=Jgl hul;have D:=Jgm hvl;have u:=Jqn vl k;have i:(vl.getD k 0).toNat<4294967296:=(vl.getD k 0).toNat_lt;generalize (ul.getD (k+2) 0).toNat=a at *
 generalize (ul.getD (k+1) 0).toNat=b at *
 generalize (ul.getD k 0).toNat=c at *
 generalize (vl.getD (k+1) 0).toNat=x at *
 generalize (vl.getD k 0).toNat=y at *
 generalize val (ul.take k)=r at *
 generalize val (vl.take k)=s at *
 have j:0<4294967296^k:=Nat.pow_pos (by decide);generalize 4294967296^k=E at *
 rcases Nat.lt_or_ge x a with hlt|hge
 .exfalso
  have Z:(x+1)*(4294967296*4294967296)*E<=a*(4294967296*4294967296)*E:=nO _ (nO _ hlt);have U:(x*4294967296+y)*E+E<=(x*4294967296+4294967296)*E:=by
   have:=nO E (show x*4294967296+y+1<=x*4294967296+4294967296 by omega);rw[Nat.add_mul (x*4294967296+y) 1 E,Nat.one_mul]at this;exact this
  have O:((a*4294967296+b)*4294967296+c)*E=a*(4294967296*4294967296)*E+(b*4294967296+c)*E:=by grind
  have J:(x*4294967296+4294967296)*E*4294967296=(x+1)*(4294967296*4294967296)*E:=by grind
  omega
 exact hge
theorem Jpq(hul:ul.length=k+3)(hvl:vl.length=k+2)(hv1:2147483648<=(vl.getD (k+1) 0).toNat)(hinv:rest+g*(vl.getD (k+1) 0).toNat=(ul.getD (k+2) 0).toNat*4294967296+(ul.getD (k+1) 0).toNat)(hq:val ul / val vl<=g∨((ul.getD (k+2) 0).toNat*4294967296+(ul.getD (k+1) 0).toNat)*4294967296+(ul.getD k 0).toNat<(g+1)*((vl.getD (k+1) 0).toNat*4294967296+(vl.getD k 0).toNat))(hg:g<4294967296)(hgv:g*(vl.getD k 0).toNat<=rest*4294967296+(ul.getD k 0).toNat): val ul / val vl<=g/\g<=val ul / val vl+1:=by
 have j:=Jgl hul;have i:=Jgm hvl;refine Qfl (B:=0) (E:=4294967296^k) (P':=val (ul.take k)) (V':=val (vl.take k)) (Nat.pow_pos (by decide)) j (Jqn _ _) i (Jqn _ _) ?_ ?_ hq ?_
 .omega
 .rw[Nat.mul_add,<-Nat.mul_assoc];generalize g*(vl.getD (k+1) 0).toNat=z at *
  omega
 omega
theorem Qfm{T r a u b:Nat}(h:r+a=T)(h1:r*4294967296+u<b): T*4294967296+u<a*4294967296+b:=by
 rw[<-h,Nat.add_mul,Nat.add_comm (r*4294967296),Nat.add_assoc];exact Nat.add_lt_add_left h1 _
theorem Qfn{c cv:Nat}(hn:n=k+2)(hU:Rd w 1 UA (n+1) (Nc ul))(hV:Rd w 1 VA n (Nc vl))(hul:ul.length=n+1)(hvl:vl.length=n)(hn1:n<=1000)(hv1:2147483648<=(vl.getD (k+1) 0).toNat)(hP:val ul<4294967296*val vl):
  Ret Tryz.prog 196 [.slice UA (n+1) c,.slice VA n cv] w λr w'=>∃ g:Nat,r=.int .u64 (g:Int)/\g<4294967296/\val ul / val vl<=g/\g<=val ul / val vl+1/\Ext w w':=by
 subst hn;have af:=Qxl hul hvl hP;have a9:(ul.getD (k+2) 0).toNat<4294967296:=(ul.getD (k+2) 0).toNat_lt;have a8:(ul.getD (k+1) 0).toNat<4294967296:=(ul.getD (k+1) 0).toNat_lt;have a7:(ul.getD k 0).toNat<4294967296:=(ul.getD k 0).toNat_lt;have a2:(vl.getD (k+1) 0).toNat<4294967296:=(vl.getD (k+1) 0).toNat_lt;have a1:(vl.getD k 0).toNat<4294967296:=(vl.getD k 0).toNat_lt;have ak:val ul / val vl<=4294967295:=by
  have:=Nat.div_lt_of_lt_mul (m:=val ul) (n:=val vl) (k:=4294967296) (by rw[Nat.mul_comm];exact hP);omega
 have cU:∀ {w':World} (j:Nat),Ext w w'->j<k+3->w'.cell? (adr UA j)=some (.int .u32 ((ul.getD j 0).toNat:Int)):=λj hx hj=>(hU.ext hx).cell (Qk om);have cV:∀ {w':World} (j:Nat),Ext w w'->j<k+2->w'.cell? (adr VA j)=some (.int .u32 ((vl.getD j 0).toNat:Int)):=λj hx hj=>(hV.ext hx).cell (Qk om);have eU:IntKind.u64.wrap ((vl.getD (k+1) 0).toNat:Int)=((vl.getD (k+1) 0).toNat:Int):=by rw[IntKind.wrap_u64];omega
 refine Jz Tryz.func196 Tryz.ntmps196 rfl kr rfl ?_;refine ρ ?_;have y:Ext w w.drew:=(Ext.refl w).drew;refine dr [(0,0),(0,1),(0,2),(0,3),(0,4),(0,5),(0,6),(0,7),(0,8),(0,9),(0,10),(0,11),(0,12),(0,13)] kr ?_;refine ρd ?_;refine dix (k+2) (hU.ext y) om ?_;refine ρd ?_;refine dld (cU (k+2) y om) ?_;refine ρd ?_;refine dshl ?_;refine ρd ?_;refine dix (k+1) (hU.ext y) om ?_;refine ρd ?_;refine dld (cU (k+1) y om) ?_;refine ρd ?_;have U:bits .or .u64 (IntKind.u64.wrap (IntKind.u64.wrap ((ul.getD (k+2) 0).toNat:Int)*2^min (32:Int).toNat IntKind.u64.bits)) (IntKind.u64.wrap ((ul.getD (k+1) 0).toNat:Int))=(((ul.getD (k+2) 0).toNat*4294967296+(ul.getD (k+1) 0).toNat:Nat):Int):=by
  rw[Zj (z:=((ul.getD (k+2) 0).toNat:Int)) om];exact Jww a9 a8
 obtain⟨T,hT⟩:∃ T,(ul.getD (k+2) 0).toNat*4294967296+(ul.getD (k+1) 0).toNat=T:=⟨_,rfl⟩;rw[hT]at U;have ah:T<18446744073709551616:=om
 have a5:T / (vl.getD (k+1) 0).toNat<=T:=Nat.div_le_self _ _;have ae:IntKind.u64.wrap ((T:Int).tdiv ((vl.getD (k+1) 0).toNat:Int))=((T / (vl.getD (k+1) 0).toNat:Nat):Int):=by
  rw[show(T:Int).tdiv ((vl.getD (k+1) 0).toNat:Int)=((T / (vl.getD (k+1) 0).toNat:Nat):Int) from rfl];generalize T / (vl.getD (k+1) 0).toNat=q at a5 ⊢
  exact Zj om
 have ad:(T:Int).tmod ((vl.getD (k+1) 0).toNat:Int)=((T % (vl.getD (k+1) 0).toNat:Nat):Int):=rfl;refine ρ ?_;refine kv 6 (u:=.int .u64 (T:Int)) (congrArg (Value.int .u64) U) ?_;refine kv 24 (u:=.int .u64 (T:Int)) (congrArg (Value.int .u64) U) ?_;refine ix (k+1) (hV.ext y) om ?_;refine ρ ?_;refine ld (cV (k+1) y om) ?_;refine ρ ?_;refine kv 30 (u:=.int .u64 ((vl.getD (k+1) 0).toNat:Int)) (congrArg (Value.int .u64) eU) ?_;refine Ge rfl rfl om rfl ?_;rw[ae];refine ρ ?_;refine ix (k+1) (hV.ext y) om ?_;refine ρ ?_;refine ld (cV (k+1) y om) ?_;refine ρ ?_;refine kv 38 (u:=.int .u64 ((vl.getD (k+1) 0).toNat:Int)) (congrArg (Value.int .u64) eU) ?_;refine wrem rfl rfl om rfl ?_;rw[ad];refine ρ ?_;have Z:T % (vl.getD (k+1) 0).toNat+T / (vl.getD (k+1) 0).toNat*(vl.getD (k+1) 0).toNat=T:=by rw[Nat.mul_comm];exact Nat.mod_add_div _ _
 have ag:=Nat.mod_lt T (show 0<(vl.getD (k+1) 0).toNat by omega);have aa:T*4294967296+(ul.getD k 0).toNat<(T / (vl.getD (k+1) 0).toNat+1)*((vl.getD (k+1) 0).toNat*4294967296+(vl.getD k 0).toNat):=by
  have e:(T / (vl.getD (k+1) 0).toNat+1)*(vl.getD (k+1) 0).toNat ≥ T+1:=by rw[Nat.add_mul];omega
  have e1:=nO 4294967296 e;rw[Nat.mul_add,<-Nat.mul_assoc];omega
 refine Ju (fun (g r:Nat)=>[(0,.slice UA (k+2+1) c),(1,.slice VA (k+2) cv),(5,.int .i64 ((k+2:Nat):Int)),(7,.int .u64 (g:Int)),(8,.int .u64 (r:Int))])
  (λg r w'=>Ext w w'/\g<=T/\r<4294967296/\r+g*(vl.getD (k+1) 0).toNat=T/\(val ul / val vl<=g∨T*4294967296+(ul.getD k 0).toNat<(g+1)*((vl.getD (k+1) 0).toNat*4294967296+(vl.getD k 0).toNat))) (λg _=>g) (T / (vl.getD (k+1) 0).toNat) (T % (vl.getD (k+1) 0).toNat) sB
  ⟨y,a5,om,Z,.inr aa⟩ ?_
 rintro g r w2 ⟨a6,ai,hr,O,hq⟩;have i:Ext w w2.drew:=a6.drew;refine ρ ?_;refine Xy (fun (t:Bool)=>[(0,.slice UA (k+2+1) c),(1,.slice VA (k+2) cv),(5,.int .i64 ((k+2:Nat):Int)),(7,.int .u64 (g:Int)),(8,.int .u64 (r:Int)),(61,.bool t)])
  (λt w'=>Ext w w'/\(t=true↔4294967295<g∨r*4294967296+(ul.getD k 0).toNat<g*(vl.getD k 0).toNat)) ?_ ?_
 .refine dr [(0,0),(0,1),(0,2),(0,3),(0,4),(0,5),(0,6),(0,7),(0,8),(0,9),(0,10),(0,11),(0,12),(0,13),(0,14),(0,15),(0,16),(0,17),(0,18),(0,19),(0,20),(0,21)] kr ?_;refine ρd ?_;refine dki 42 (λh=>?_) (λh=>?_)
  .have a4:=oT h;refine ρd ?_;exact Jc true sB ⟨i,⟨λ_=>.inl om,λ_=>rfl⟩⟩
  have a4:g<4294967296:=by have:=oF h;omega
  refine ρd ?_;refine dix k (hV.ext i) om ?_;refine ρd ?_;refine dld (cV k i om) ?_;refine ρd ?_;refine dshl ?_;refine ρd ?_;refine dix k (hU.ext i) om ?_;refine ρd ?_;refine dld (cU k i om) ?_;have em:IntKind.u64.wrap ((g:Int)*IntKind.u64.wrap ((vl.getD k 0).toNat:Int))=((g*(vl.getD k 0).toNat:Nat):Int):=by
   rw[Zj (z:=((vl.getD k 0).toNat:Int)) om,<-Int.natCast_mul];have:=Jjg a4 a1;generalize g*(vl.getD k 0).toNat=z at *
   exact Zj om
  refine ρd ?_;rw[Jww hr a7,em];refine Jc _ sB ⟨i,?_⟩;rw[decide_eq_true_eq];generalize g*(vl.getD k 0).toNat=z at *
  omega
 rintro t w3 ⟨G,ht⟩;refine ρ ?_;refine ci (λh=>?_) (λh=>?_)
 .have hc:=ht.1 h;have aj:1<=g:=by
   rcases Nat.eq_zero_or_pos g with h0|h0
   .subst h0;simp at hc
   exact h0
  obtain⟨g,rfl⟩:∃ x,g=x+1:=⟨g-1,om⟩;have e7:IntKind.u64.wrap (((g+1:Nat):Int)-1)=(g:Int):=by
   rw[show(((g+1:Nat):Int)-1)=(g:Int) by omega];exact Zj om
  have e8:IntKind.u64.wrap ((r:Int)+IntKind.u64.wrap ((vl.getD (k+1) 0).toNat:Int))=((r+(vl.getD (k+1) 0).toNat:Nat):Int):=Qjk om a2;have J:(r+(vl.getD (k+1) 0).toNat)+g*(vl.getD (k+1) 0).toNat=T:=by
   rw[Nat.add_mul,Nat.one_mul]at O;omega
  have a3:val ul / val vl<=g∨T*4294967296+(ul.getD k 0).toNat<(g+1)*((vl.getD (k+1) 0).toNat*4294967296+(vl.getD k 0).toNat):=by
   rcases hc with h1|h1
   .exact .inl om
   right
   rw[Nat.mul_add,<-Nat.mul_assoc];exact Qfm O h1
  refine ρ ?_;refine kv 7 (u:=.int .u64 (g:Int)) (congrArg (Value.int .u64) e7) ?_;refine ix (k+1) (hV.ext G) om ?_;refine ρ ?_;refine ld (cV (k+1) G om) ?_;refine ρ ?_;rw[e8];refine ci (λh2=>?_) (λh2=>?_)
  .have ac:=oT h2;have D:g<4294967296:=by
    rcases Nat.lt_or_ge g 4294967296 with h3|h3
    .exact h3
    have:=nO (vl.getD (k+1) 0).toNat h3;omega
   refine ρ ?_;refine Jq ⟨g,rfl,D,?_⟩;have ab:g*(vl.getD k 0).toNat<=(r+(vl.getD (k+1) 0).toNat)*4294967296+(ul.getD k 0).toNat:=by
    have:=Jjg D a1;omega
   obtain⟨a,b⟩:=Jpq hul hvl hv1 (by rw[hT];exact J) (by rw[hT];exact a3) D ab;exact⟨a,b,G⟩
  have ac:=oF h2;refine ρ ?_;exact Jt g (r+(vl.getD (k+1) 0).toNat) sB ⟨G,om,om,J,a3⟩ om
 have hc:¬ (4294967295<g∨r*4294967296+(ul.getD k 0).toNat<g*(vl.getD k 0).toNat):=λe=>by
  have:=ht.2 e;rw[h]at this;cases this
 have D:g<4294967296:=om
 obtain⟨a,b⟩:=Jpq hul hvl hv1 (by rw[hT];exact O) (by rw[hT];exact hq) D om;refine ρ ?_;exact Jq ⟨g,rfl,D,a,b,G⟩
theorem Qcp(h:os.length=i)(hl:j+i<=us.length): mid (mid us j i os) j i os2=mid us j i os2:=by
 unfold mid;have y:(us.take j++os++us.drop (j+i)).take j=us.take j:=by
  rw[List.append_assoc,List.take_append_of_le_length (by simp;omega),List.take_of_length_le (by simp;omega)]
 have u:(us.take j++os++us.drop (j+i)).drop (j+i)=us.drop (j+i):=by
  rw[List.drop_append_of_le_length (by simp;omega),List.drop_of_length_le (by simp;omega),List.nil_append]
 rw[y,u]
theorem Jnf(hl:j+i<=us.length): (mid us j i os).drop j=os++us.drop (j+i):=by
 unfold mid;rw[List.append_assoc,List.drop_append_of_le_length (by simp;omega),List.drop_of_length_le (by simp;omega),List.nil_append]
theorem Qwv(h:os.length=n+1)(hl:j+(n+1)<=us.length): prt (mid us j (n+1) os) j n=os:=by
 unfold prt;rw[Jnf hl,List.take_append_of_le_length om,List.take_of_length_le om]
theorem Jsf{V:Nat}(hV:0<V)(hVn:V<=4294967296^n)(hl:j+(n+1)<=us.length)(hlt:val (us.drop (j+1))<V):
  val (prt us j n)=val (us.drop j)/\val (us.drop j)<4294967296*V/\(os.length=n+1->val os=val (prt us j n) % V->val ((mid us j (n+1) os).drop j)<V/\val (mid us j (n+1) os)+4294967296^j*(val (prt us j n) / V)*V=val us):=by
 have h1:val (us.drop j)=(us.getD j 0).toNat+4294967296*val (us.drop (j+1)):=Jzl om;have hu:(us.getD j 0).toNat<4294967296:=(us.getD j 0).toNat_lt;have J:val (us.drop j)<4294967296*V:=om
 have e:us.drop j=prt us j n++us.drop (j+(n+1)):=by
  unfold prt;rw[<-List.drop_drop,List.take_append_drop]
 have y:(prt us j n).length=n+1:=by simp[prt];omega
 have u:val (us.drop j)=val (prt us j n)+4294967296^(n+1)*val (us.drop (j+(n+1))):=by
  conv=>lhs;rw[e,Xz,y]
 have D:val (us.drop (j+(n+1)))=0:=by
  rcases Nat.eq_zero_or_pos (val (us.drop (j+(n+1)))) with h0|h0
  .exact h0
  exfalso
  have h3:=Nat.mul_le_mul_left (4294967296^(n+1)) h0;have h4:=Nat.mul_le_mul_left 4294967296 hVn;rw[Nat.pow_succ]at h3 u;omega
 rw[D,Nat.mul_zero,Nat.add_zero]at u;refine⟨u.symm,J,λG i=>?_⟩;have Z:val ((mid us j (n+1) os).drop j)=val os:=by
  rw[Jnf hl,Xz,D,Nat.mul_zero,Nat.add_zero]
 refine⟨by rw[Z,i];exact Nat.mod_lt _ hV,?_⟩;have e2:us=us.take j++us.drop j:=(List.take_append_drop j us).symm;have U:val us=val (us.take j)+4294967296^j*val (us.drop j):=by
  conv=>lhs;rw[e2,Xz,List.length_take,Nat.min_eq_left om]
 have O:val (mid us j (n+1) os)=val (us.take j)+4294967296^j*val os:=by
  unfold mid;rw[List.append_assoc,Xz,List.length_take,Nat.min_eq_left om,Xz,D,Nat.mul_zero,Nat.add_zero]
 rw[U,O,i,<-u,Nat.mul_assoc,Nat.add_assoc,<-Nat.mul_add,Nat.mod_add_div']
theorem Qbj(h0:0<x)(h:x<4294967296): Jw x<=32/\32-Jw x<32/\2147483648<=x*2^(32-Jw x)/\x*2^(32-Jw x)<4294967296:=by
 have G:=Vm (x:=x) (k:=32) h;obtain⟨D,j⟩:=Um (x:=x) om;have i:=Yy (x:=x);have O:2^(Jw x-1)*2^(32-Jw x)=2147483648:=by rw[<-Nat.pow_add,show Jw x-1+(32-Jw x)=31 by omega]
 have J:2^Jw x*2^(32-Jw x)=4294967296:=by rw[<-Nat.pow_add,show Jw x+(32-Jw x)=32 by omega]
 have y:=nO (2^(32-Jw x)) j;have u:=Nat.mul_lt_mul_of_pos_right i (Nat.two_pow_pos (32-Jw x));omega
theorem Qct(h:x<4294967296)(w:World): Ret Tryz.prog 194 [.int .u32 (x:Int)] w λv w'=>v=.int .i64 ((32-Jw x:Nat):Int)/\w'=w:=by
 have i:=Vm (x:=x) (k:=32) h;refine Jz Tryz.func194 Tryz.ntmps194 rfl kr rfl ?_;refine ρ ?_;refine cl (Jnx x h _) ?_;rintro _ w1 ⟨rfl,rfl⟩;have e:IntKind.i64.wrap ((32:Int)-(Jw x:Int))=((32-Jw x:Nat):Int):=by rw[Zd om];omega
 refine ρ ?_;refine Jq ⟨?_,rfl⟩;first
  | exact congrArg (Value.int .i64) e
  | exact congrArg (Value.int .i64) om
theorem Qhb(hn:n=k+2)(hbl:bl.length=n)(hvl:vs.length=n+1)(hvv:val vs=val bl*2^s)(hs:s<32)(hs3:2147483648<=(bl.getD (k+1) 0).toNat*2^s)(hs4:(bl.getD (k+1) 0).toNat*2^s<4294967296):
  val (vs.take n)=val bl*2^s/\val bl*2^s<4294967296^n/\2147483648*4294967296^(k+1)<=val bl*2^s/\2147483648<=((vs.take n).getD (k+1) 0).toNat:=by
 subst hn;have e:bl.take (k+2)=bl:=List.take_of_length_le om;have U:=Xo (a:=bl) (i:=k+1);rw[show k+1+1=k+2 by omega,e]at U;have h2:=Jqn bl (k+1);have hp:2^s*2^(32-s)=4294967296:=by rw[<-Nat.pow_add,show s+(32-s)=32 by omega]
 have D:=Nat.two_pow_pos s;generalize (bl.getD (k+1) 0).toNat=t at *
 generalize val (bl.take (k+1))=lo at *
 have hE:0<4294967296^(k+1):=Nat.pow_pos (by decide);have O:4294967296^(k+2)=4294967296^(k+1)*4294967296:=Nat.pow_succ ..;have y:(t+1)*2^s<=4294967296:=by
  rw[<-hp,Nat.mul_comm (2^s)]at hs4 ⊢;exact nO _ (Nat.lt_of_mul_lt_mul_right hs4)
 have J:val bl*2^s<4294967296^(k+2):=by
  have u:val bl<4294967296^(k+1)*(t+1):=by rw[U,Nat.mul_add];omega
  have Z:=Nat.mul_lt_mul_of_pos_right u D;have a3:=Nat.mul_le_mul_left (4294967296^(k+1)) y;rw[Nat.mul_assoc]at Z;rw[O];omega
 have G:2147483648*4294967296^(k+1)<=val bl*2^s:=by
  have u:=nO (4294967296^(k+1)) hs3;have Z:t*2^s*4294967296^(k+1)=4294967296^(k+1)*t*2^s:=by grind
  have a3:val bl*2^s=lo*2^s+4294967296^(k+1)*t*2^s:=by rw[U,Nat.add_mul]
  omega
 have j:=Xo (a:=vs) (i:=k+2);rw[show k+2+1=k+3 by omega,List.take_of_length_le om,hvv]at j;have hz:(vs.getD (k+2) 0).toNat=0:=by
  rcases Nat.eq_zero_or_pos (vs.getD (k+2) 0).toNat with h0|h0
  .exact h0
  have:=Nat.mul_le_mul_left (4294967296^(k+2)) h0;omega
 rw[hz,Nat.mul_zero,Nat.add_zero]at j;refine⟨j.symm,J,G,?_⟩;have h4:=Xo (a:=vs) (i:=k+1);have h5:=Jqn vs (k+1);have e2:(vs.take (k+2)).getD (k+1) 0=vs.getD (k+1) 0:=by simp[List.getD]
 rw[e2];rw[show k+1+1=k+2 by omega,<-j]at h4;generalize (vs.getD (k+1) 0).toNat=x at *
 rcases Nat.lt_or_ge x 2147483648 with h6|h6
 .exfalso
  have u:=Nat.mul_le_mul_left (4294967296^(k+1)) (show x+1<=2147483648 from h6);rw[Nat.mul_add,Nat.mul_one,Nat.mul_comm _ 2147483648]at u;omega
 exact h6
theorem Qgz{V:Nat}(hn:n=k+2)(hal:al.length=la)(hul:us.length=la+1)(hle:n<=la)(huv:val us=val al*2^s)(hs:s<32)(hV:2147483648*4294967296^(k+1)<=V): val (us.drop (la-n+1))<V:=by
 subst hn;have y:us=us.take (la-(k+2)+1)++us.drop (la-(k+2)+1):=(List.take_append_drop _ us).symm;have G:val us=val (us.take (la-(k+2)+1))+4294967296^(la-(k+2)+1)*val (us.drop (la-(k+2)+1)):=by
  conv=>lhs;rw[y,Xz,List.length_take,Nat.min_eq_left om]
 have i:=Yf al;rw[hal]at i;have j:2^s<=2^31:=Nat.pow_le_pow_right (by decide) om;have u:4294967296^la=4294967296^(la-(k+2)+1)*4294967296^(k+1):=by rw[<-Nat.pow_add];congr 1;omega
 have D:val al*2^s<4294967296^(la-(k+2)+1)*(2147483648*4294967296^(k+1)):=by
  refine nM (Nat.mul_lt_mul_of_pos_right i (Nat.two_pow_pos s)) ?_;rw[u,Nat.mul_assoc];refine Nat.mul_le_mul_left _ ?_;rw[Nat.mul_comm];exact nO _ j
 refine nM ?_ hV;refine Nat.lt_of_mul_lt_mul_left (a:=4294967296^(la-(k+2)+1)) ?_;omega
theorem Jfc(us:List UInt32)(j m:Nat): ((Nc us).drop j).take m=Nc ((us.drop j).take m):=by simp[Nc,List.map_drop,List.map_take]
theorem Qhs(g j c:Nat)(h:¬ c=j): (if c=j then(some ⟨g,0,none⟩:Option Addr) else(some ⟨g,0,none⟩:Option Addr).map λx=>x.add (j*1))=some ⟨g,j,none⟩:=by
 rw[if_neg h,Option.map_some,Vr];simp
theorem Qhd{ca cb:Nat}(hn:n=k+2)(hA:Rd w 1 AA la (Nc al))(hB:Rd w 1 BA n (Nc bl))(hal:al.length=la)(hbl:bl.length=n)(hla:la<=1000)(hle:n<=la)(htop:0<(bl.getD (k+1) 0).toNat):
  Ret Tryz.prog 167 [.slice AA la ca,.slice BA n cb] w λr w'=>∃ Q R qs rs,r=.tuple #[.slice Q (la-n+1) (la-n+1),.slice R n n]/\qs.length=la-n+1/\rs.length=n/\val qs=val al / val bl/\val rs=val al % val bl/\w'.ownsRow w.heap.size 63 1 (.slice Q (la-n+1) (la-n+1)) (la-n+1) (Nc qs)/\w'.ownsRow w.heap.size 63 1 (.slice R n n) n (Nc rs)/\Ext w w':=by
 have b2:(bl.getD (k+1) 0).toNat<4294967296:=(bl.getD (k+1) 0).toNat_lt;obtain⟨c1,a6,bh,bg⟩:=Qbj htop b2;generalize hS:32-Jw (bl.getD (k+1) 0).toNat=s at *
 refine Jz Tryz.func167 Tryz.ntmps167 rfl kr rfl ?_;refine ρ ?_;refine ix (k+1) hB om ?_;refine ρ ?_;refine ld (hB.cell (Qk (show k+1<bl.length by omega))) ?_;refine ρ ?_;refine cl (Qct b2 _) ?_;rintro _ w1 ⟨rfl,rfl⟩;rw[hS];refine ρ ?_;rw[Zj (z:=(s:Int)) om];refine cl (Jhn hbl om hB a6) ?_;rintro _ w2 ⟨gv,vs,rfl,bf,bd,c4,J,ab⟩;refine ρ ?_;refine slh n ?_;refine ρ ?_;refine cl (Jhn hal hla (hA.ext ab) a6) ?_;rintro _ w3 ⟨D,us,rfl,a4,ap,bt,U,ao⟩;refine ρ ?_;refine mkn EN (la-n+1) om (by unfold maxLen;omega) ?_;intro w4 O az b5 _;have ag:w4.ownsRow w3.heap.size 63 1 (.slice O (la-n+1) (la-n+1)) (la-n+1) (Nc (List.replicate (la-n+1) 0)):=by
  have e:(madeCells (Value.int .u32 0).cells ((la-n+1)*1)).toList=Nc (List.replicate (la-n+1) 0):=by rw[Nat.mul_one,<-Ku];exact Vl _ _
  rw[<-e];exact b5
 obtain⟨gq,rfl,bu,aa⟩:=Jmk ag om;obtain⟨d1,d2,d3,d4⟩:=Qhb hn hbl bf bd a6 bh bg;have d5:=Qgz hn hal a4 hle ap a6 d3;have ad:0<val bl*2^s:=by
  have:=Nat.mul_le_mul_left 2147483648 (Nat.pow_pos (n:=k+1) (show 0<4294967296 by decide));omega
 generalize hVd:val bl*2^s=V at *
 have ac:gv≠D:=by have:=J.lt;omega
 have be:gv≠gq:=by have:=(J.ext ao).lt;omega
 have aq:D≠gq:=by have:=U.lt;omega
 have ae:=ao.trans az;have b1:=ab.trans ae;have ba:w1.heap.size<=D:=nL ab.size bt;have bb:w1.heap.size<=gq:=nL (ab.trans ao).size bu;refine ρ ?_;refine Xh (fun (kk:Nat) (us qs:List UInt32)=>[(0,.slice AA la ca),(1,.slice BA n cb),(6,.int .i64 (n:Int)),(7,.int .u64 (s:Int)),(8,.slice (some ⟨gv,0,none⟩) n (n+1)),(9,.slice (some ⟨D,0,none⟩) (la+1) (la+1)),(10,.slice (some ⟨gq,0,none⟩) (la-n+1) (la-n+1)),(11,.int .i64 ((kk:Int)-1))])
  (λkk us qs w'=>Ext w1 w'/\kk<=la-n+1/\us.length=la+1/\qs.length=la-n+1/\Blk w' D 63 (Nc us)/\Blk w' gv 63 (Nc vs)/\Blk w' gq 63 (Nc qs)/\val (us.drop kk)<V/\val qs*V+val us=val al*2^s/\∀ j,j<kk->qs.getD j 0=0) (λkk _ _=>kk) (la-n+1) us (List.replicate (la-n+1) 0) sO
  ⟨b1,Nat.le_refl _,a4,by simp,U.ext az,J.ext ae,aa,d5,?_,λj hj=>by simp[List.getD,hj]⟩ ?_
 .have e0:∀ m,val (List.replicate m (0:UInt32))=0:=λm=>by
   induction m with
   | zero=>rfl
   | succ m ih=>rw[List.replicate_succ];simp[val,ih]
  rw[e0,Nat.zero_mul,Nat.zero_add,ap]
 clear U J aa d5 ap a4 b5 ag;rintro kk us qs w5 ⟨an,c2,a4,au,U,J,aa,a7,a3,hz⟩;refine ρ ?_;refine ci (λh=>?_) (λh=>?_)
 .obtain⟨j,rfl⟩:∃ j,kk=j+1:=⟨kk-1,by have:=oT h;omega⟩;clear h;obtain⟨p1,p2,p3⟩:=Jsf (us:=us) (os:=(us.drop j).take (n+1)) (j:=j) (n:=n) ad (Nat.le_of_lt d2) om a7;have b4:(prt us j n).length=n+1:=by simp[prt];omega
  have b3:(vs.take n).length=n:=by simp;omega
  refine ρ ?_;refine slb j (j+n+1) ?_ (show j<=j+n+1 by omega) (show j+n+1<=la+1 by omega) (show((j+1:Nat):Int)-1=(j:Int) by omega) (show((j+1:Nat):Int)-1+(n:Int)+1=((j+n+1:Nat):Int) by omega);have ec:(if la+1=j then(some ⟨D,0,none⟩:Option Addr) else(some ⟨D,0,none⟩:Option Addr).map λx=>x.add (j*1))=some ⟨D,j,none⟩:=Qhs D j (la+1) om;have ev:Value.slice (if la+1=j then(some ⟨D,0,none⟩:Option Addr) else(some ⟨D,0,none⟩:Option Addr).map λx=>x.add (j*1)) (j+n+1-j) (la+1-j)=.slice (some ⟨D,j,none⟩) (n+1) (la+1-j):=by rw[ec,show j+n+1-j=n+1 by omega]
  refine ρ ?_;refine kv 12 (u:=.slice (some ⟨D,j,none⟩) (n+1) (la+1-j)) ev ?_;refine kv 52 (u:=.slice (some ⟨D,j,none⟩) (n+1) (la+1-j)) ev ?_;have ar:Rd w5 1 (some ⟨D,j,none⟩) (n+1) (Nc (prt us j n)):=by
   have:=U.rdAt (j:=j) (m:=n+1) (by rw[Za];omega);rwa [Jfc]at this
  have bn:Rd w5 1 (some ⟨gv,0,none⟩) n (Nc (vs.take n)):=by
   have:=J.rdAt (j:=0) (m:=n) (by rw[Za];omega);rwa [Jfc,List.drop_zero]at this
  refine cl (Qfn hn ar bn b4 b3 om d4 (by rw[p1,d1];exact p2)) ?_;rintro _ w6 ⟨g,rfl,hg,aw,av,G⟩;have aj:=J.ext G;have b8:=aa.ext G;refine ρ ?_;refine cl (Qzb (n:=n) (j:=j) (U.ext G) aj ac om om om hg) ?_;rintro _ w7 ⟨neg,os,rfl,ah,y,a5,a8,hg7⟩;rw[d1]at a5 aw av;have Z:=aj.grown hg7 (λe=>ac (by injection e));have a9:=b8.grown hg7 (λe=>aq (by injection e with e;exact e.symm));have am:Ext w1 w7:=Js (an.trans G) hg7 λq e=>by injection e with e;rw[<-e];exact ba
  have bz:val (prt us j n)<4294967296^(n+1):=by have:=Yf (prt us j n);rwa [b4]at this
  have b6:val os<4294967296^(n+1):=by have:=Yf os;rwa [y]at this
  obtain⟨g0,g1⟩:=digit ad a5 bz b6 ah ⟨aw,av⟩;refine ρ ?_;refine Uu (fun (g:Nat) (os:List UInt32)=>[(0,.slice AA la ca),(1,.slice BA n cb),(6,.int .i64 (n:Int)),(7,.int .u64 (s:Int)),(8,.slice (some ⟨gv,0,none⟩) n (n+1)),(9,.slice (some ⟨D,0,none⟩) (la+1) (la+1)),(10,.slice (some ⟨gq,0,none⟩) (la-n+1) (la-n+1)),(11,.int .i64 (((j+1:Nat):Int)-1)),(13,.int .u64 (g:Int))])
   (λg os w'=>Ext w1 w'/\g=val (prt us j n) / V/\os.length=n+1/\val os=val (prt us j n) % V/\Blk w' D 63 (Nc (mid us j (n+1) os))/\Blk w' gv 63 (Nc vs)/\Blk w' gq 63 (Nc qs)) ?_ ?_
  .refine ci (λh=>?_) (λh=>?_)
   .have bp:neg=1:=eq_of_beq h;obtain⟨q1,q2⟩:=g1 bp;have e7:IntKind.u64.wrap ((g:Int)-1)=((val (prt us j n) / V:Nat):Int):=by
     rw[q1];generalize val (prt us j n) / V=z at *
     rw[Zj om];omega
    have br:(mid us j (n+1) os).length=us.length:=Jwc y om;refine ρ ?_;rw[e7];refine cl (Qpk (n:=n) (j:=j) a8 Z ac (by rw[br];omega) om om) ?_;rintro _ w8 ⟨a2,k2,af,ai,a1,ay⟩;rw[Qwv y om,d1]at ai;rw[Qcp y om]at a1;have c0:val a2<4294967296^(n+1):=by have:=Yf a2;rwa [af]at this
    refine ρ ?_;exact Zy (val (prt us j n) / V) a2 sB ⟨Js am ay λq e=>by injection e with e;rw[<-e];exact ba,rfl,af,q2 _ k2 c0 ai,a1,Z.grown ay (λe=>ac (by injection e)),a9.grown ay (λe=>aq (by injection e with e;exact e.symm))⟩
   have bq:neg=0:=by
    have:neg≠1:=λe=>by rw[e]at h;cases h
    omega
   obtain⟨q1,q2⟩:=g0 bq;refine ρ ?_;exact Zy g os sB ⟨am,q1,y,q2,a8,Z,a9⟩
  clear g0 g1 a5 b6 a8 Z a9 hg7 am y ah aw av hg p3;rintro g a2 w8 ⟨bc,rfl,y,bo,a1,b7,ak⟩;obtain⟨_,_,p3⟩:=Jsf (us:=us) (os:=a2) (j:=j) (n:=n) ad (Nat.le_of_lt d2) om a7;obtain⟨p4,p5⟩:=p3 y bo;have bw:val (prt us j n) / V<4294967296:=Nat.div_lt_of_lt_mul (by rw[p1,Nat.mul_comm];exact p2);refine ρ ?_;rw[Xl];refine ix j (ak.rd (n:=la-n+1) (by rw[Za];omega)) om ?_;refine stJ (j:=0) (i:=j) ak (by rw[Za];omega) ?_;intro w9 b9 ax;rw[Nat.zero_add,Vd]at b9;refine ρ ?_;refine Qm j (mid us j (n+1) a2) (qs.set j (UInt32.ofNat (val (prt us j n) / V))) sO ⟨Js bc ax λq e=>by injection e with e;rw[<-e];exact bb,om,by rw[Jwc y om];exact a4,by simp[au],a1.grown ax (λe=>aq (by injection e)),b7.grown ax (λe=>be (by injection e)),b9,p4,?_,λi hi=>?_⟩ om
  .have h1:=Jvv (UInt32.ofNat (val (prt us j n) / V)) (show j<qs.length by omega);rw[hz j om,UInt32.toNat_ofNat',Nat.mod_eq_of_lt (show val (prt us j n) / V<2^32 from bw)]at h1;rw[show(0:UInt32).toNat=0 from rfl,Nat.mul_zero,Nat.add_zero]at h1;rw[h1,Nat.add_mul,Nat.add_assoc,Nat.add_comm (4294967296^j*_*V),p5];exact a3
  rw[Jps _ om];exact hz i om
 have bs:kk=0:=by have:=oF h;omega
 subst bs;clear h;rw[List.drop_zero]at a7;have ht:val (us.take n)=val us:=by
  have e2:us=us.take n++us.drop n:=(List.take_append_drop _ us).symm;have h6:val us=val (us.take n)+4294967296^n*val (us.drop n):=by
   conv=>lhs;rw[e2,Xz,List.length_take,Nat.min_eq_left om]
  rcases Nat.eq_zero_or_pos (val (us.drop n)) with h0|h0
  .rw[h0]at h6;omega
  have:=Nat.mul_le_mul_left (4294967296^n) h0;omega
 have hp:=Nat.two_pow_pos s;have hq:val qs=val al / val bl:=by
  rw[<-Nat.mul_div_mul_right _ _ hp,hVd,<-a3,Nat.add_comm,Nat.add_mul_div_right _ _ ad,Nat.div_eq_of_lt a7,Nat.zero_add]
 have hr:val us=val al % val bl*2^s:=by
  rw[<-Nat.mul_mod_mul_right,hVd,<-a3,Nat.add_comm,Nat.add_mul_mod_self_right,Nat.mod_eq_of_lt a7]
 refine ρ ?_;refine slh n ?_;refine ρ ?_;have ar:Rd w5 1 (some ⟨D,0,none⟩) n (Nc (us.take n)):=by
  have:=U.rdAt (j:=0) (m:=n) (by rw[Za];omega);rwa [Jfc,List.drop_zero]at this
 refine cl (Qzt (l:=us.take n) (by simp;omega) om ar a6) ?_;rintro _ w6 ⟨R,rs,rfl,bm,bi,bj,G⟩;refine ρ ?_;refine Qo ⟨_,R,qs,rs,rfl,au,bm,hq,?_,(aa.ext G).own bb (by rw[Za,au];omega) (by unfold maxLen;omega),Il bj an.size,an.trans G⟩;rw[bi,ht,hr,Nat.mul_div_cancel _ hp]
open Go.RowKit Pl Go.Wk Kn
variable {K a b:Nat}
theorem Qch{v u:Value}{w:World}(hv:NatV w v a)(hu:NatV w u b)(hn:(Jj a).length<=1000)(hb:4294967296<=b):
  Ret Tryz.prog 102 [v,u] w λr w'=>(∃ x y,r=.tuple #[x,y,.int .i64 0]/\NatX (Ol w) w' x (a / b)/\NatX (Ol w) w' y (a % b))/\Ext w w':=by
 have ag:(Jj b).length<=4611686018427387904:=by obtain⟨_,_,_,_,h,_⟩:=hu;exact h
 have a7:2<=(Jj b).length:=by
  rcases Nat.lt_or_ge (Jj b).length 2 with h|h
  .exfalso
   have h1:=Jnt b;have h2:4294967296^(Jj b).length<=4294967296^1:=Nat.pow_le_pow_right (by decide) om;omega
  exact h
 refine Jz Tryz.func102 Tryz.ntmps102 rfl kr rfl ?_;refine ρ ?_;refine cl (Zq hv) ?_;rintro v' w' ⟨⟨A,rfl,ha⟩,rfl⟩;refine ρ ?_;refine cl (Zq hu) ?_;rintro u' D ⟨⟨B,rfl,a6⟩,rfl⟩;refine ρ ?_;refine cf ?_ ?_
 .exact Jtx om
 refine ρ ?_;refine cl (Jjf (n:=a) (m:=b) ⟨A,_,rfl,Nat.le_refl _,om,ha⟩ ⟨B,_,rfl,Nat.le_refl _,ag,a6⟩) ?_;rintro t w' ⟨rfl,i⟩;refine ρ ?_;refine ci (λh=>?_) (λh=>?_)
 .have a4:a<b:=by
   have:=oT h;unfold Zs at this;grind
  refine ρ ?_;refine cl (Jxw (ha.ext i) (Jqb _) om) ?_;rintro v' w1 ⟨ho,hx⟩;obtain⟨A',c',rfl,hc,hf⟩:=Jd ho;refine ρ ?_;refine fin3 ⟨⟨.slice none 0 0,_,rfl,?_,?_⟩,i.trans hx⟩
  .rw[Nat.div_eq_of_lt a4];exact NatX.nil _
  rw[Nat.mod_eq_of_lt a4];exact⟨⟨A',c',rfl,hc,om,Rd.own ho⟩,λ_ j m c e hk=>by
   injection e with O e2 e3
   subst O;have:=(hf j.block rfl).1;have:=i.size;have a5:j.block<D.heap.size:=hk;omega⟩
 have ah:b<=a:=by
  have:=oF h;unfold Zs at this;grind
 clear h;have ae:(Jj b).length<=(Jj a).length:=by
  rcases Nat.lt_or_ge (Jj a).length (Jj b).length with h1|h1
  .have:=Jcb h1;omega
  exact h1
 refine ρ ?_;refine cf ?_ ?_
 .exact Jtx om
 refine ρ ?_;obtain⟨l,c,hl,af⟩:=Jcg (n:=b) om;have U:0<((Jj b).getD ((Jj b).length-2+1) 0).toNat:=by
  have e:(Jj b).length-2+1=l.length:=by rw[hl];simp;rw[hl]at a7;simp at a7;omega
  rw[e,hl];simp only[List.getD,List.getElem?_concat_length,Option.getD_some];rcases Nat.eq_zero_or_pos c.toNat with h0|h0
  .exact absurd (UInt32.toNat_inj.1 h0) af
  exact h0
 refine cl (Qhd (k:=(Jj b).length-2) om (ha.ext i) (a6.ext i) rfl rfl hn ae U) ?_;rintro _ w1 ⟨Q,R,qs,rs,rfl,ab,a9,a2,Z,a3,a1,a8⟩;rw[Xu,Xu]at a2 Z;obtain⟨_,_,O,_,ac⟩:=Jd a3;obtain⟨_,_,e2,_,aa⟩:=Jd a1;have J:=Rd.own a3;have G:=Rd.own a1;rw[<-ab]at J ⊢;rw[<-a9]at G ⊢;refine ρ ?_;refine cl (Yh J (Nat.le_refl _) om) ?_;rintro t w3 ⟨rfl,rfl⟩;have kq:=Gj J om;rw[a2]at kq ⊢;refine ρ ?_;refine cl (Yh G (Nat.le_refl _) om) ?_;rintro t w3 ⟨rfl,rfl⟩;have kr:=Gj G om;rw[Z]at kr ⊢;have hs:=i.size;refine ρ ?_;refine fin3 ⟨⟨_,_,rfl,⟨kq,λ_ j m c e hk=>?_⟩,⟨kr,λ_ j m c e hk=>?_⟩⟩,i.trans a8⟩
 .injection e with O e2 e3
  subst O;have:=(ac j.block rfl).1;have a5:j.block<D.heap.size:=hk;omega
 injection e with O e2 e3
 subst O;have:=(aa j.block rfl).1;have a5:j.block<D.heap.size:=hk;omega
theorem divCL(hK:K<=29000): Ut K:=λi j y D h0=>by
 have u:=Vn y om;rename_i a b w;rcases Nat.lt_or_ge b 4294967296 with h|h
 .exact Kh i j u h0 h
 exact Qch i j u h
open Go.RowKit Pl Go.Wk Bl Nw
variable {K n p sc:Nat}{P1 Q1 Q2 SA:Option Addr}{v vW:Value}{w:World}
theorem Qkw(hv:NatV w v p)(hn:1<=n)(hn64:n<=64)(hK:K<=29000)(hK6:7<=K)(hL:Jw p+n<=K)(hdiv:Ut K): Ret Tryz.prog 58 [v,.int .i64 (n:Int)] w λu w'=>(∃ r,NatV w' u r/\Ur p n r)/\Ext w w':=by
 have G:p<2^K:=nM Yy (Nat.pow_le_pow_right (by decide) om);have y:=Vn G om;have U:=Yy (x:=p);refine Jz Tryz.func58 Tryz.ntmps58 rfl kr rfl ?_;refine ρ ?_;refine cl (Yw hv y) ?_;rintro _ w1 ⟨rfl,rfl⟩;refine ρ ?_;by_cases h1:Jw p<=1
 .have a2:p<=1:=by
   have:2^Jw p<=2^1:=Nat.pow_le_pow_right (by decide) h1;omega
  refine kt 14 ?_ ?_
  .exact decide_eq_true om
  refine ρ ?_;refine cl (Jmw hv y) ?_;rintro u w2 ⟨D,i⟩;refine ρ ?_;refine Jq ⟨⟨p,D,?_⟩,i⟩;rcases(show p=0∨p=1 by omega) with rfl|rfl
  .exact⟨by rw[Nat.zero_pow om];exact Nat.le_refl _,by rw[Nat.zero_add,Nat.one_pow];decide⟩
  exact⟨by rw[Nat.one_pow];exact Nat.le_refl _,Nat.lt_of_lt_of_le (show 1<(1+1)^1 by decide) (Nat.pow_le_pow_right (by decide) hn)⟩
 refine kf 14 ?_ ?_
 .exact dF om
 refine ρ ?_;refine ci (λj=>?_) (λj=>?_)
 .have O:n=1:=by have:=eq_of_beq j;omega
  subst O;refine ρ ?_;refine cl (Jmw hv y) ?_;rintro u w2 ⟨D,i⟩;refine ρ ?_;exact Jq ⟨⟨p,D,by rw[Nat.pow_one];exact Nat.le_refl _,by rw[Nat.pow_one];omega⟩,i⟩
 have a3:n≠1:=λe=>by rw[e]at j;revert j;decide
 have a1:2<=p:=by
  rcases(show p=0∨p=1∨2<=p by omega) with rfl|rfl|h
  .exact absurd (show Jw 0<=1 by decide) h1
  .exact absurd (show Jw 1<=1 by decide) h1
  exact h
 clear j;refine ρ ?_;refine ci (λj=>?_) (λj=>?_)
 .have J:Jw p<=n:=by have:=oT j;omega
  refine ρ ?_;refine cl (Xp 1 (by decide) _) ?_;rintro o w2 ⟨ho,i⟩;refine ρ ?_;exact Jq ⟨⟨1,ho.1,by rw[Nat.one_pow];omega,Nat.lt_of_lt_of_le U (Nat.pow_le_pow_right (by decide) J)⟩,i⟩
 clear j;refine ρ ?_;refine ci (λj=>?_) (λj=>?_)
 .refine ρ ?_;refine cl (Qbs hv om hn64 om hK hK6 G ?_ hdiv) ?_
  .rw[<-Nat.pow_mul];refine Nat.pow_lt_pow_right (by decide) ?_;have h3:=Nat.div_mul_le_self (Jw p+n-1) n;have h4:(Jw p+n-1) / n*(n-1)<=(Jw p+n-1) / n*n:=Nat.mul_le_mul_left _ om;omega
  rintro u w2 ⟨⟨r,D,Z⟩,i⟩;refine ρ ?_;exact Jq ⟨⟨r,D,Z⟩,i⟩
 exfalso
 have:=oF j;omega
theorem Qmt{b:Bool}{P2 P3 m1 c1 m2 c2 K2:Nat}{ws:List PR}{sizes:List Nat}(hW:GX 3 RtC Nn w vW ws)(hS:Rd w 1 SA sizes.length (Jh (nz sizes)))(hn:∀ q∈ws,0<=q.sign/\q.num<18446744073709551616)(hd:∀ i,i<=ws.length->dnK ws i<4294967296)(hq:∀ q∈ws,q.num<18446744073709551616/\q.den<4294967296/\0<q.norm.den/\q.norm.den<4294967296)(hd1:1<=dnm ws)(hd64:dnm ws<=64)(ho:PrOk ws sizes (dnm ws) K)(hK:K2<=29000)(hK6:7<=K2)(hL:Jw (Ze ws sizes (dnm ws))+dnm ws<=K2)(hdiv:Ut K2):
  Ret Tryz.prog 24 [.agg #[vW,.slice P1 P2 P3,.bool b,.slice Q1 m1 c1,.slice Q2 m2 c2],.slice SA sizes.length sc] w λu w'=>(∃ v r,u=.tuple #[v,.int .i64 0]/\NatV w' v r/\Ur (Ze ws sizes (dnm ws)) (dnm ws) r)/\Ext w w':=by
 obtain⟨W1,W2,_,rfl,_,a5,a7,_,a8⟩:=id hW.el;refine Jz Tryz.func24 Tryz.ntmps24 rfl kr rfl ?_;refine ρ ?_;refine bx (cs:=[.slice W1 ws.length W2,.slice P1 P2 P3,.bool b,.slice Q1 m1 c1,.slice Q2 m2 c2]) ?_;intro w1 b1 J a6 O;refine ρ ?_;refine lds (cs:=[.slice W1 ws.length W2,.slice P1 P2 P3,.bool b,.slice Q1 m1 c1,.slice Q2 m2 c2]) (λj u hu=>O.at hu) ?_;refine ρ ?_;refine cl (Qmg (hW.ext RtC.sta (by decide) J) (hS.ext J) ho.len hn) ?_;rintro _ w2 ⟨rfl,G⟩;refine ρ ?_;refine ld ((O.ext G).at (i:=0) rfl) ?_;have D:=J.trans G;refine ρ ?_;refine cl (Qhm (hW.ext RtC.sta (by decide) D) hd hq) ?_;rintro dv w3 ⟨Z,U⟩;refine ρ ?_;refine cl (Jrn Z.1 om) ?_;rintro _ w4 ⟨rfl,rfl⟩;refine ρ ?_;refine ld (((O.ext G).ext U).at (i:=0) rfl) ?_;have y:=D.trans U;refine ρ ?_;refine cl (Qww (hW.ext RtC.sta (by decide) y) Z (hS.ext y) ho) ?_;rintro _ w5 ⟨⟨pv,rfl,a3⟩,a2⟩
 refine ρ ?_;refine cl (Qkw a3.1 hd1 hd64 hK hK6 hL hdiv) ?_;rintro rv w6 ⟨⟨r,hr,a4⟩,a1⟩;refine ρ ?_;exact Qo ⟨⟨_,r,rfl,hr,a4⟩,y.trans (a2.trans a1)⟩
open Go.RowKit Pl Go.Wk Bl Nw
abbrev hlf: PR:=⟨false,1,2⟩
theorem Qxk: cvr 216 3 [3,6,5] 7=some ⟨[hlf,hlf,hlf],[hlf,hlf,hlf],⟨false,3,2⟩⟩:=by decide +kernel
theorem Jql: dnm [hlf,hlf,hlf]=2:=by decide +kernel
theorem Jgr: Ze [hlf,hlf,hlf] [4,4,4] 2=64:=by decide +kernel
theorem Jgs: Uj 3 [3,6,5] 7:=by
 intro v i _;rcases(show v=0∨v=1∨v=2 by omega) with rfl|rfl|rfl
 .exact⟨0,by decide,by decide⟩
 .exact⟨0,by decide,by decide⟩
 exact⟨1,by decide,by decide⟩
theorem Qfd: EOk hlf 2:=⟨by decide,by decide,by decide,by decide +kernel,by decide +kernel,by decide +kernel,by decide +kernel,by decide +kernel,by decide +kernel⟩
theorem Qxj: PrOk [hlf,hlf,hlf] [4,4,4] 2 32:=by
 refine⟨by decide,rfl,λq u=>?_,λs j=>?_,λi hi=>?_,λi y D=>?_⟩
 .simp only[List.mem_cons,List.not_mem_nil,or_false,or_self]at u;rw[u];exact Qfd
 .simp only[List.mem_cons,List.not_mem_nil,or_false,or_self]at j;rw[j];decide
 .have hi:i<=3:=hi;rcases(show i=0∨i=1∨i=2∨i=3 by omega) with rfl|rfl|rfl|rfl<;>decide +kernel
 have y:i<3:=y;have e:4^Zr hlf 2<2^32:=by decide +kernel
 rcases(show i=0∨i=1∨i=2 by omega) with rfl|rfl|rfl<;>exact e
end Go.Proofs.YtebiphhfkdbpfaaGreatDoor
namespace Go.Proofs.YtebiphhfkdbpfaaGreatDoor
open Bl
variable {l:List PR}{a n set:Nat}{c f g:Nat->Rat}
def bv(b:Bool): Rat:=if b then 1 else 0
theorem bv_nn(b:Bool): 0<=bv b:=by cases b<;>decide
def wv(ws:List PR)(k:Nat): Rat:=(ws.getD k pr0).val
theorem Qds(b:Bool): (PR.int b.toNat).val=bv b:=by cases b<;>decide +kernel
theorem Jzs(h:∀ j,j<n->f j<=g j): Jk n f<=Jk n g:=by
 induction n with
 | zero=>simp[Jk]
 | succ n ih=>
  have y:=ih λj i=>h j om;have u:=h n om;rw[Jk,Jk];grind
theorem Jfj(ha:a<l.length)(x:PR)(k:Nat): wv (l.set a x) k=if k=a then x.val else wv l k:=by
 unfold wv;by_cases e:k=a
 .subst e;rw[if_pos rfl];simp[List.getD,ha]
 rw[if_neg e];simp[List.getD,Ne.symm e]
theorem Qxv(ha:a<l.length)(x:PR)(hn:a<n): Jk n (λk=>c k*wv (l.set a x) k)=Jk n (λk=>c k*wv l k)+c a*(x.val-wv l a):=by
 have e:Jk n (λk=>c k*wv (l.set a x) k)=Jk n (λk=>c k*wv l k+if k=a then c a*(x.val-wv l a) else 0):=Xn λk u=>by
  rw[Jfj ha];split
  .rename_i e;subst e;grind
  grind
 rw[e,Jzt,Yl hn λj _ i=>if_neg i,if_pos rfl]
theorem Jlp{n:Nat}{is:List Nat}{xs:List PR}{c:Nat->Rat}(hnd:is.Nodup)(hlt:∀ i∈is,i<n)(hl:is.length=xs.length): ∀ i,i<=is.length->Jk n (λk=>c k*wv (Zx (List.replicate n pr0) is xs i) k)=Jk i (λj=>c (is.getD j 0)*(xs.getD j pr0).val)/\∀ k,k ∉ is.take i->wv (Zx (List.replicate n pr0) is xs i) k=0
 | 0,_=>by
  have h0:∀ k,wv (List.replicate n pr0) k=0:=λk=>by
   unfold wv;simp only[List.getD,List.getElem?_replicate];split<;>exact Gb
  refine⟨?_,λk _=>by rw[Jqw];exact h0 k⟩;rw[Jqw,Gz λk _=>by rw[h0];grind];rfl
 | i+1,hi=>by
  obtain⟨h1,h2⟩:=Jlp (c:=c) hnd hlt hl i om;have hi':i<is.length:=om
  have hn:is[i]<n:=hlt _ (List.getElem_mem _);have hll:is[i]<(Zx (List.replicate n pr0) is xs i).length:=by rw[Ic,List.length_replicate];exact hn
  have hz:wv (Zx (List.replicate n pr0) is xs i) is[i]=0:=h2 _ (λhm=>by
   obtain⟨j,hj,e⟩:=List.getElem_of_mem hm;rw[List.getElem_take]at e;have hj':j<i:=by simp at hj;omega
   have:=(List.getElem_inj hnd).1 e;omega)
  rw[Jkj hi' om];refine⟨?_,λk hk=>?_⟩
  .rw[Qxv hll _ hn,h1,hz,Jk,Qj 0 hi',Qj pr0 (show i<xs.length by omega)];grind
  rw[List.take_add_one,List.getElem?_eq_getElem hi']at hk;simp only[Option.toList_some,List.mem_append,List.mem_singleton,not_or]at hk;rw[Jfj hll,if_neg hk.2];exact h2 k hk.1
theorem Jlq{l:List PR}{is:List Nat}{xs:List PR}(hl:is.length=xs.length){q:PR}: ∀ {i},i<=is.length->q∈Zx l is xs i->q∈l∨q∈xs
 | 0,_,h=>by rw[Jqw]at h;exact .inl h
 | i+1,hi,h=>by
  rw[Jkj om om]at h;rcases List.mem_or_eq_of_mem_set h with h|h
  .exact Jlq hl om h
  exact .inr (h ▸ List.getElem_mem _)
theorem Jcn(E:List Nat)(set:Nat): ∀ i,(Jb E set i).Nodup
 | 0=>List.nodup_nil
 | i+1=>by
  by_cases h1:(E.getD i 0) &&& set=0∨Vw E set i ((E.getD i 0) &&& set)=true
  .rw[Jjm h1];exact Jcn E set i
  rw[Jxm (λe=>h1 (.inl e)) (by cases hs:Vw E set i ((E.getD i 0) &&& set);rfl;exact absurd (.inr hs) h1)];refine List.nodup_append.2 ⟨Jcn E set i,by simp,λa ha b hb e=>?_⟩;rw[List.mem_singleton.1 hb]at e;have:=Jxn ha;omega
structure CvOk(n:Nat)(es:List Nat)(set:Nat)(ws:List PR): Prop where
 len:ws.length=es.length
 nrm:∀ q∈ws,q.Nrm
 nn:∀ q∈ws,0<=q.val
 den:∃ D,0<D/\D<=60/\∀ q∈ws,q.den ∣ D
 cov:∀ v,v<n->set.testBit v=true->1<=Jk es.length λk=>bv ((es.getD k 0).testBit v)*wv ws k
 opt:∀ u:Nat->Rat,(∀ k,0<=u k)->(∀ v,v<n->set.testBit v=true->1<=Jk es.length λk=>bv ((es.getD k 0).testBit v)*u k)->Jk es.length (wv ws)<=Jk es.length u
def Jjl(n:Nat)(es:List Nat)(set:Nat): Nat:=((Jv n set).length+(Jb es set es.length).length)^(Jb es set es.length).length
theorem fc2_5: ∀ m,m<=5->fc2 m<=60:=by decide
theorem Qhr{es:List Nat}(h5:es.length<=5)(h0:set≠0)(hlt:set<2^n)(hc:Uj n es set): ∃ pc,cvr (Jjl n es set) n es set=some pc/\CvOk n es set pc.ws:=by
 have ac:=Jbg n es set;have ab:=Jkl hc;have a9:(Zm n es set).length=(Jb es set es.length).length:=Jqx n es set;have ag:(Jb es set es.length).length<=5:=nL (Jxp es set es.length) h5;obtain⟨hb,G,S,a8,O,hg⟩:=Jbj ac ab (fuel:=Jjl n es set) (by rw[a9];exact Nat.le_refl _);obtain⟨Z,a4⟩:=PSt.dual O;rw[a9]at a8 O hg Z a4;have a2:∀ v,v<n->set.testBit v=true->∃ j,∃ h:j<(Jv n set).length,(Jv n set)[j]=v:=λv hv hb=>by
  have:v∈Jv n set:=List.mem_filter.2 ⟨List.mem_range.2 hv,hb⟩;obtain⟨j,y,e⟩:=List.getElem_of_mem this;exact⟨j,y,e⟩
 have U:∀ j (h:j<(Jv n set).length),set.testBit (Jv n set)[j]=true:=λj h=>(List.mem_filter.1 (List.getElem_mem h)).2;have ap:0<(Jv n set).length:=by
  obtain⟨v,hv⟩:=Nat.exists_testBit_of_ne_zero h0;have ad:v<n:=by
   rcases Nat.lt_or_ge v n with h|h
   .exact h
   rw[Nat.testBit_lt_two_pow (nM hlt (Nat.pow_le_pow_right (by decide) h))]at hv;cases hv
  obtain⟨j,y,_⟩:=a2 v ad hv;omega
 generalize hF:Jb es set es.length=F at *
 generalize hV:Jv n set=V at *
 have a1:∀ i j (hi:i<F.length) (y:j<V.length),Xv (Zm n es set) i j=bv ((es.getD F[i] 0).testBit V[j]):=λi j hi y=>by
  subst hF;subst hV;unfold Xv;rw[Jbh hi y,Nat.testBit_and,U j y,Bool.and_true,Qds]
 obtain⟨a5,hz⟩:=Qyh O.wf O.e1 om hg;obtain⟨a3,ae⟩:=Qyg O.wf O.feas O.e2 (show 0<V.length+F.length by omega);have am:F.Nodup:=by subst hF;exact Jcn _ _ _
 have an:∀ i∈F,i<es.length:=λi hi=>by subst hF;exact Jxn hi
 have a7:∀ c:Nat->Rat,Jk es.length (λk=>c k*wv (Zz (List.replicate es.length pr0) F G.dual) k)=Jk F.length λi=>c (F.getD i 0)*S.g (V.length+i):=λc=>by
  rw[<-Kc Z.symm,(Jlp am an Z.symm F.length (Nat.le_refl _)).1];exact Xn λi hi=>by rw[a4 i hi]
 have J:∀ q∈Zz (List.replicate es.length pr0) F G.dual,q=pr0∨∃ i,i<F.length/\q=G.dual.getD i pr0:=λq hq=>by
  rw[<-Kc Z.symm]at hq;rcases Jlq Z.symm (Nat.le_refl _) hq with h|h
  .exact .inl (List.eq_of_mem_replicate h)
  obtain⟨i,hi,e⟩:=List.getElem_of_mem h;exact .inr ⟨i,om,by rw[Qj pr0 hi,e]⟩
 have aa:∀ i,i<F.length->G.dual.getD i pr0=G.goal.getD (V.length+i) pr0:=λi hi=>by
  have h1:=O.em;have h2:=O.en;have hl:=O.agr.ok.goal.1;have er:G.right=G.n+G.m+1:=rfl;rw[Qj pr0 om,Qj pr0 (l:=G.goal) om];simp[PT.dual,h2]
 have af:cvr (Jjl n es set) n es set=some ⟨Zz (List.replicate es.length pr0) F G.dual,Zz (List.replicate n pr0) V G.point,G.goal.getD G.right pr0⟩:=by
  unfold cvr;rw[hF,hV,a8];rfl
 refine⟨_,af,?_,λq hq=>?_,λq hq=>?_,?_,λv hv hb=>?_,λu hu ak=>?_⟩
 .show(Zz (List.replicate es.length pr0) F G.dual).length=_;rw[<-Kc Z.symm,Ic,List.length_replicate]
 .rcases J q hq with rfl|⟨i,hi,rfl⟩
  .exact Ih
  rw[aa i hi];exact O.nrm.goal _ (by have:=O.em;have:=O.en;simp only[PT.right];omega)
 .rcases J q hq with rfl|⟨i,hi,rfl⟩
  .rw[Gb];exact Rat.le_refl
  rw[a4 i hi];exact hg _ om
 .obtain⟨D,ao,hD,ai⟩:=PSt.dens O λi j hi y=>by
   rw[a1 i j hi y];cases (es.getD F[i] 0).testBit V[j]
   .exact .inl rfl
   exact .inr rfl
  refine⟨D,ao,Nat.le_trans hD (fc2_5 _ ag),λq hq=>?_⟩;rcases J q hq with rfl|⟨i,hi,rfl⟩
  .exact Nat.one_dvd _
  rw[aa i hi];exact ai _ om
 .obtain⟨j,y,e⟩:=a2 v hv hb;have h:=a5 j y;rw[a7 λk=>bv ((es.getD k 0).testBit v)];refine Rat.le_trans h (Jzs λi hi=>?_);rw[a1 i j hi y,e,Qj 0 hi];grind
 have hx:∀ j,0<=bpt F.length S j:=λj=>Jtr O.feas j;have hk:∀ k,k<es.length->Jk V.length (λj=>bv ((es.getD k 0).testBit (V.getD j 0))*bpt F.length S j)<=1:=λk hk=>by
  by_cases hz0:(es.getD k 0) &&& set=0
  .rw[Gz λj y=>by
    have hb:((es.getD k 0) &&& set).testBit V[j]=false:=by rw[hz0];simp
    rw[Nat.testBit_and,U j y,Bool.and_true]at hb;rw[Qj 0 y,hb];show 0*_=_;grind]
   decide
  obtain⟨x,a6,e⟩:=Jwp es set hk hz0;rw[hF]at a6;obtain⟨i,hi,rfl⟩:=List.getElem_of_mem a6;refine Rat.le_trans (Jzs λj y=>?_) (a3 i hi);have hb:((es.getD F[i] 0) &&& set).testBit V[j]=((es.getD k 0) &&& set).testBit V[j]:=by rw[e]
  rw[Nat.testBit_and,Nat.testBit_and,U j y,Bool.and_true,Bool.and_true]at hb;rw[Qj 0 y,a1 i j hi y,hb];exact Rat.le_refl
 have e1:Jk es.length (wv (Zz (List.replicate es.length pr0) F G.dual))=Jk V.length (bpt F.length S):=by
  have:=a7 λ_=>1;rw[Xn (g:=wv (Zz (List.replicate es.length pr0) F G.dual)) λk _=>by grind]at this;rw[this,ae,hz];exact Xn λi _=>by grind
 show Jk es.length (wv (Zz (List.replicate es.length pr0) F G.dual))<=_;rw[e1];have e2:Jk V.length (bpt F.length S)<=Jk V.length λj=>Jk es.length λk=>u k*(bv ((es.getD k 0).testBit (V.getD j 0))*bpt F.length S j):=Jzs λj y=>by
  have aj:=ak V[j] (by subst hV;exact Jbw (List.getElem_mem y)) (U j y);have h3:Jk es.length (λk=>u k*(bv ((es.getD k 0).testBit (V.getD j 0))*bpt F.length S j))=bpt F.length S j*Jk es.length λk=>bv ((es.getD k 0).testBit V[j])*u k:=by
   rw[<-Vf];exact Xn λk _=>by rw[Qj 0 y];grind
  rw[h3];have:=Rat.mul_le_mul_of_nonneg_left aj (hx j);grind
 refine Rat.le_trans e2 ?_;rw[Jgx];refine Jzs λk ah=>?_;rw[Vf];have:=Rat.mul_le_mul_of_nonneg_left (hk k ah) (hu k);grind
open Bl Nw
variable {ws:List PR}{a d i k n p v:Nat}{e f g s:Nat->Nat}{q:PR}
def sN: Nat->(Nat->Nat)->Nat
 | 0,_=>0
 | n+1,f=>sN n f+f n
def prN: Nat->(Nat->Nat)->Nat
 | 0,_=>1
 | n+1,f=>prN n f*f n
theorem sN_le(h:∀ j,j<n->f j<=g j): sN n f<=sN n g:=by
 induction n with
 | zero=>exact Nat.le_refl _
 | succ n ih=>have:=ih λj i=>h j om;have:=h n om;rw[sN,sN];omega
theorem Jhr(h:k<n): f k<=sN n f:=by
 induction n with
 | zero=>omega
 | succ n ih=>
  rw[sN];by_cases e:k=n
  .subst e;omega
  have:=ih om;omega
theorem Qzz(h:i<=n): sN i f<=sN n f:=by
 induction n with
 | zero=>rw[show i=0 by omega];exact Nat.le_refl _
 | succ n ih=>
  by_cases e:i=n+1
  .rw[e];exact Nat.le_refl _
  have:=ih om;rw[sN];omega
theorem Jyp(n:Nat)(f:Nat->Nat): ((sN n f:Nat):Rat)=Jk n λk=>(f k:Rat):=by
 induction n with
 | zero=>rfl
 | succ n ih=>rw[sN,Jk,Rat.natCast_add,ih]
theorem Jlx(h:∀ k,k<n->0<e k->s k<=a): prN n (λk=>s k^e k)<=a^sN n e:=by
 induction n with
 | zero=>exact Nat.le_refl _
 | succ n ih=>
  rw[prN,sN,Nat.pow_add];refine Nat.mul_le_mul (ih λk i=>h k om) ?_;rcases Nat.eq_zero_or_pos (e n) with h0|h0
  .rw[h0,Nat.pow_zero,Nat.pow_zero];exact Nat.le_refl _
  exact Nat.pow_le_pow_left (h n om h0) _
theorem Qdp(d e:Nat): d / Nat.gcd d e*e=Nat.lcm d e:=by
 unfold Nat.lcm;rw[Nat.mul_comm d e,Nat.mul_div_assoc e (Nat.gcd_dvd_left d e),Nat.mul_comm]
theorem Jrx: ∀(ws:List PR) (d:Nat),0<d->(∀ q∈ws,0<q.norm.den)->d ∣ ws.foldl (λd w=>d / Nat.gcd d w.norm.den*w.norm.den) d/\(∀ q∈ws,q.norm.den ∣ ws.foldl (λd w=>d / Nat.gcd d w.norm.den*w.norm.den) d)/\0<ws.foldl (λd w=>d / Nat.gcd d w.norm.den*w.norm.den) d/\∀ D,d ∣ D->(∀ q∈ws,q.norm.den ∣ D)->ws.foldl (λd w=>d / Nat.gcd d w.norm.den*w.norm.den) d ∣ D
 | [],d,h0,_=>⟨Nat.dvd_refl _,by simp,h0,λD h _=>h⟩
 | w::ws,d,h0,h=>by
  have hw:=h w (by simp);have hl:0<Nat.lcm d w.norm.den:=Nat.lcm_pos h0 hw;rw[List.foldl_cons,Qdp];obtain⟨h1,h2,h3,h4⟩:=Jrx ws _ hl λq hq=>h q (by simp[hq]);refine⟨Nat.dvd_trans (Nat.dvd_lcm_left _ _) h1,λq hq=>?_,h3,λD hd hD=>h4 D (Nat.lcm_dvd hd (hD w (by simp))) λq hq=>hD q (by simp[hq])⟩;rcases List.mem_cons.1 hq with rfl|hq
  .exact Nat.dvd_trans (Nat.dvd_lcm_right _ _) h1
  exact h2 q hq
theorem Jwv(h:∀ q∈ws,q.Nrm): (∀ q∈ws,q.den ∣ dnm ws)/\0<dnm ws/\∀ D,(∀ q∈ws,q.den ∣ D)->dnm ws ∣ D:=by
 have e:∀ q∈ws,q.norm.den=q.den:=λq i=>by rw[(h q i).norm]
 obtain⟨_,G,y,u⟩:=Jrx ws 1 (by decide) λq i=>by rw[e q i];exact Nat.pos_of_ne_zero (h q i).den
 exact⟨λq i=>by rw[<-e q i];exact G q i,y,λD j=>u D (Nat.one_dvd _) λq i=>by rw[e q i];exact j q i⟩
theorem Jjb(d:Nat): PR.norm ⟨false,d,0⟩=⟨false,d,1⟩:=by simp[PR.norm]
theorem Jbn(d:Nat): PR.norm ⟨false,d,1⟩=⟨false,d,1⟩:=by
 unfold PR.norm;split<;>simp
theorem Jnb(hq:q.Nrm)(hn:q.neg=false)(hd:q.den ∣ d): PR.mul q ⟨false,d,1⟩=⟨false,q.num*(d / q.den),1⟩:=by
 unfold PR.mul;rw[hq.norm,Jbn];unfold PR.mulN;have e:(q.neg != false)=false:=by rw[hn];rfl
 simp only[e,Nat.mul_one];have i:=Nat.pos_of_ne_zero hq.den;unfold PR.norm;by_cases h0:q.num*d=0
 .rw[if_pos (.inl h0)];have:q.num*(d / q.den)=0:=by
   rcases Nat.mul_eq_zero.1 h0 with h|h
   .rw[h,Nat.zero_mul]
   rw[h,Nat.zero_div,Nat.mul_zero]
  simp[h0,this]
 rw[if_neg (by simp only[not_or];exact⟨h0,om⟩)];have j:Nat.gcd (q.num*d) q.den=q.den:=Nat.gcd_eq_right (Nat.dvd_mul_left_of_dvd hd q.num);simp only[j];rw[Nat.div_self i,Nat.mul_div_assoc _ hd]
theorem Jcv(hq:q.Nrm)(hn:q.neg=false)(hd:q.den ∣ d): Zr q d=q.num*(d / q.den):=by
 unfold Zr;rw[Jjb,Jnb hq hn hd,Jbn]
theorem Jgk(hq:q.Nrm)(h:0<=q.val): q.neg=false:=by
 cases hn:q.neg with
 | false=>rfl
 | true=>
  exfalso
  have j:=(PR.sign_val hq.den).1;have i:¬ q.sign<0:=λe=>by have:=j.1 e;grind
  unfold PR.sign at i;by_cases h0:q.num=0
  .have:=hq.sgn h0;rw[hn]at this;cases this
  rw[if_neg h0,hn]at i;simp at i
theorem Qgg(hq:q.Nrm)(h:0<=q.val)(hd:q.den ∣ d): (Zr q d:Rat)=(d:Rat)*q.val:=by
 have hn:=Jgk hq h;rw[Jcv hq hn hd];obtain⟨k,rfl⟩:=hd;have i:=Vj hq.den;rw[Nat.mul_div_cancel_left _ (Nat.pos_of_ne_zero hq.den),Rat.natCast_mul,Rat.natCast_mul];unfold PR.val;rw[hn];simp only[Bool.false_eq_true,if_false];grind
def exK(ws:List PR)(k:Nat): Nat:=Zr (ws.getD k pr0) (dnm ws)
section
variable {n:Nat} {es:List Nat} {set:Nat} {ws:List PR}
theorem CvOk.mem(h:CvOk n es set ws)(hk:k<es.length): ws.getD k pr0∈ws:=by
 rw[Qj pr0 (by rw[h.len];exact hk)];exact List.getElem_mem _
theorem CvOk.d60(h:CvOk n es set ws): dnm ws ∣ dnm ws/\0<dnm ws/\dnm ws<=60:=by
 obtain⟨D,h0,j,i⟩:=h.den;obtain⟨_,y,u⟩:=Jwv h.nrm;exact⟨Nat.dvd_refl _,y,Nat.le_trans (Nat.le_of_dvd h0 (u D i)) j⟩
theorem CvOk.ex(h:CvOk n es set ws)(hk:k<es.length): (exK ws k:Rat)=(dnm ws:Rat)*wv ws k :=
 Qgg (h.nrm _ (h.mem hk)) (h.nn _ (h.mem hk)) ((Jwv h.nrm).1 _ (h.mem hk))
theorem CvOk.covN(h:CvOk n es set ws)(hv:v<n)(hb:set.testBit v=true): dnm ws<=sN es.length λk=>if(es.getD k 0).testBit v then exK ws k else 0:=by
 have i:=Rat.mul_le_mul_of_nonneg_left (h.cov v hv hb) (Rat.natCast_nonneg (a:=dnm ws));rw[<-Vf]at i;rw[<-Rat.natCast_le_natCast,Jyp];rw[Xn (g:=λk=>(((if(es.getD k 0).testBit v then exK ws k else 0:Nat):Nat):Rat)) λk j=>by
  split
  .rename_i e;rw[e,h.ex j];unfold bv;rw[if_pos rfl];grind
  rename_i e;rw[Bool.not_eq_true]at e;rw[e];unfold bv;show _=(0:Rat);grind]at i
 grind
theorem CvOk.totN(h:CvOk n es set ws)(u:Nat->Nat)(hu:∀ v,v<n->set.testBit v=true->∃ k,k<es.length/\(es.getD k 0).testBit v=true/\1<=u k): sN es.length (exK ws)<=dnm ws*sN es.length u:=by
 have i:=h.opt (λk=>(u k:Rat)) (λk=>Rat.natCast_nonneg) λv J O=>by
  obtain⟨k,D,y,i⟩:=hu v J O;refine Rat.le_trans ?_ (Jhb (λj _=>Jmz (bv_nn _) Rat.natCast_nonneg) D);rw[y];have:((1:Nat):Rat)<=(u k:Rat):=Rat.natCast_le_natCast.2 i;have U:((1:Nat):Rat)=1:=rfl;unfold bv;rw[if_pos rfl];grind
 rw[<-Jyp]at i;have G:=Rat.mul_le_mul_of_nonneg_left i (Rat.natCast_nonneg (a:=dnm ws));rw[<-Vf,<-Rat.natCast_mul,Xn (g:=λk=>(exK ws k:Rat)) λk D=>(h.ex D).symm,<-Jyp]at G;exact Rat.natCast_le_natCast.1 G
theorem CvOk.tot5(h:CvOk n es set ws)(hc:Uj n es set): sN es.length (exK ws)<=dnm ws*es.length:=by
 have j:=h.totN (λ_=>1) λv u i=>by
  obtain⟨k,y,i⟩:=hc v u i;exact⟨k,y,i,Nat.le_refl _⟩
 have e:∀ m,sN m (λ_=>1)=m:=λm=>by induction m with
  | zero=>rfl
  | succ m ih=>rw[sN,ih]
 rw[e]at j;exact j
end
theorem Jbb{ws:List PR}{sizes:List Nat}{d:Nat}(hl:sizes.length=ws.length): ∀ i,i<=ws.length->prK ws sizes d i=prN i λk=>sizes.getD k 0^Zr (ws.getD k pr0) d
 | 0,_=>by unfold prK Ze;simp[prN]
 | i+1,h=>by
  rw[Jlz om om,Jbb hl i om,prN,Qj 0 om,Qj pr0 om]
theorem Jls{sizes:List Nat}(hl:sizes.length=ws.length): Ze ws sizes d=prN ws.length λk=>sizes.getD k 0^Zr (ws.getD k pr0) d:=by
 rw[<-Jbb hl _ (Nat.le_refl _)];unfold prK;rw[List.take_length,<-hl,List.take_length]
def rtN(p n:Nat): Nat->Nat
 | 0=>0
 | k+1=>if(k+1)^n<=p then k+1 else rtN p n k
theorem Jlc{p n:Nat}(hn:0<n): ∀ k,p<(k+1)^n->Ur p n (rtN p n k)
 | 0,h=>⟨by rw[rtN,Nat.zero_pow hn];omega,h⟩
 | k+1,h=>by
  rw[rtN];split
  .exact⟨by assumption,h⟩
  exact Jlc hn k om
def Jqs(p n:Nat): Nat:=rtN p n p
theorem Qkx(hn:0<n): Ur p n (Jqs p n):=Jlc hn p (nM (show p<p+1 by omega) (Nat.le_self_pow om _))
open Bl Nw
variable {c k0 most n:Nat}
def Up(n:Nat)(es sizes:List Nat)(set:Nat): Nat:=match cvr (Jjl n es set) n es set with
 | some pc=>Jqs (Ze pc.ws sizes (dnm pc.ws)) (dnm pc.ws)
 | none=>0
theorem Qkb(hc:c<n): sN n (λk=>if k=c then 1 else 0)=1:=by
 have h0:∀ m,m<=c->sN m (λk=>if k=c then 1 else 0)=0:=λm=>by
  induction m with
  | zero=>intro _;rfl
  | succ m ih=>intro h;rw[sN,ih om,if_neg om]
 induction n with
 | zero=>omega
 | succ n ih=>
  rw[sN];by_cases e:c=n
  .subst e;rw[if_pos rfl,h0 _ (Nat.le_refl _)]
  rw[if_neg (λh=>e h.symm),ih om]
theorem Qzx{f:Nat->Nat}{p:Nat->Bool}(n:Nat): sN n f=(sN n λk=>if p k then f k else 0)+sN n λk=>if p k then 0 else f k:=by
 induction n with
 | zero=>rfl
 | succ n ih=>simp only[sN];rw[ih];cases p n<;>simp<;>omega
section
variable {n:Nat} {es sizes:List Nat} {set:Nat} {ws:List PR}
theorem Qzw(h0:set≠0)(hlt:set<2^n): ∃ v,v<n/\set.testBit v=true:=by
 obtain⟨v,i⟩:=Nat.exists_testBit_of_ne_zero h0;refine⟨v,?_,i⟩;rcases Nat.lt_or_ge v n with h|h
 .exact h
 rw[Nat.testBit_lt_two_pow (nM hlt (Nat.pow_le_pow_right (by decide) h))]at i;cases i
theorem Jtt(h5:es.length<=5)(h0:set≠0)(hlt:set<2^n)(hc:Uj n es set): ∃ pc,cvr (Jjl n es set) n es set=some pc/\CvOk n es set pc.ws/\∀ sizes:List Nat,sizes.length=es.length->Up n es sizes set=Jqs (prN es.length λk=>sizes.getD k 0^exK pc.ws k) (dnm pc.ws)/\Ur (prN es.length λk=>sizes.getD k 0^exK pc.ws k) (dnm pc.ws) (Up n es sizes set):=by
 obtain⟨pc,j,i⟩:=Qhr h5 h0 hlt hc;refine⟨pc,j,i,λsizes u=>?_⟩;have e:Up n es sizes set=Jqs (prN es.length λk=>sizes.getD k 0^exK pc.ws k) (dnm pc.ws):=by
  unfold Up;rw[j];show Jqs (Ze pc.ws sizes (dnm pc.ws)) (dnm pc.ws)=_;rw[Jls (by rw[u,i.len]),i.len];rfl
 exact⟨e,by rw[e];exact Qkx i.d60.2.1⟩
theorem Qmx(h5:es.length<=5)(h0:set≠0)(hlt:set<2^n)(hc:Uj n es set)(hl:sizes.length=es.length)(hk0:k0<es.length)(hin:es.getD k0 0 &&& set=set)(hm:∀ k,k<es.length->es.getD k 0 &&& set=set->sizes.getD k 0<=most): Up n es sizes set<=most:=by
 obtain⟨i,_,j,G⟩:=Jtt h5 h0 hlt hc;obtain⟨_,a2,a1⟩:=G sizes hl;have J:=j.totN (λk=>if k=k0 then 1 else 0) λv D G=>by
  refine⟨k0,hk0,?_,by rw[if_pos rfl];exact Nat.le_refl _⟩;have h1:(es.getD k0 0 &&& set).testBit v=true:=by rw[hin];exact G
  rw[Nat.testBit_and,G,Bool.and_true]at h1;exact h1
 rw[Qkb hk0,Nat.mul_one]at J;have O:∀ k,k<es.length->0<exK i.ws k->es.getD k 0 &&& set=set:=λk U u=>by
  refine Nat.eq_of_testBit_eq λv=>?_;rw[Nat.testBit_and];cases D:set.testBit v with
  | false=>rw[Bool.and_false]
  | true=>
   rw[Bool.and_true];have y:v<n:=by
    rcases Nat.lt_or_ge v n with h|h
    .exact h
    rw[Nat.testBit_lt_two_pow (nM hlt (Nat.pow_le_pow_right (by decide) h))]at D;cases D
   have h1:=j.covN y D;have h2:=Qzx (f:=exK i.ws) (p:=λk=>(es.getD k 0).testBit v) es.length;cases G:(es.getD k 0).testBit v with
   | true=>rfl
   | false=>
    exfalso
    have Z:=Jhr (f:=λk=>if(es.getD k 0).testBit v then 0 else exK i.ws k) U;simp only[G]at Z;have:(if false=true then 0 else exK i.ws k)=exK i.ws k:=rfl;rw[this]at Z;omega
 obtain⟨v,y,D⟩:=Qzw h0 hlt;have a4:=j.covN y D;have a3:sN es.length (λk=>if(es.getD k 0).testBit v then exK i.ws k else 0)<=sN es.length (exK i.ws):=sN_le λk _=>by
  split
  .exact Nat.le_refl _
  exact Nat.zero_le _
 have hP:=Jlx (a:=most) (s:=λk=>sizes.getD k 0) (e:=exK i.ws) (n:=es.length) λk U u=>hm k U (O k U u);rw[show sN es.length (exK i.ws)=dnm i.ws by omega]at hP;rcases Nat.lt_or_ge most (Up n es sizes set) with h|h
 .exfalso
  have Z:=Nat.pow_lt_pow_left h (show dnm i.ws≠0 by have:=j.d60.2.1;omega);omega
 exact h
end
open Go.RowKit Pl Go.Wk Bl Nw
attribute [local irreducible] WC WL QX WD WDB WP WN WG WH
variable {ad:Addr}{pr:Int->Bool}{zs:List Int}{cs us:List Value}{b base c e k m n t:Nat}{r:Nat->Nat}{A B SA W:Option Addr}{fv u v:Value}{w w' w0:World}
def Jfb(w:World)(fv:Value)(pr:Int->Bool): Prop:=∃ fid first cap,fv=.func (.func fid) first cap /\
 ∀ w',Ext w w'->∀ x,Ret Tryz.prog fid (first.toList++[.int .i64 x]++cap.toList) w' λr w''=>r=.bool (pr x)/\Ext w' w''
theorem Qdw(h:IntsV w v zs)(hT:Jfb w fv pr):
  Ret Tryz.prog 87 [v,fv] w λx w'=>(∃ k:Int,x=.int .i64 k/\(0<=k↔zs.any pr=true))/\Ext w w':=by
 obtain⟨A,c,rfl,hc,hl,U⟩:=h;obtain⟨J,first,O,rfl,hT⟩:=hT;refine Jz Tryz.func87 Tryz.ntmps87 rfl kr rfl ?_;refine ρ ?_;refine Jr (fun (k:Nat)=>[(0,.slice A zs.length c),(1,.func (.func J) first O),(7,.int .i64 (zs.length:Int)),(8,.int .i64 (k:Int))])
  (λk w'=>k<=zs.length/\(∀ j,j<k->pr (zs.getD j 0)=false)/\Ext w w') (λk=>zs.length-k) 0 sB ⟨Nat.zero_le _,λj hj=>om,Ext.refl w⟩ ?_
 rintro k w1 ⟨hk,Z,u⟩;refine ρ ?_;refine ci (λh=>?_) (λh=>?_)
 .have y:k<zs.length:=by have:=oT h;omega
  refine ρ ?_;refine ix k (U.ext u) y ?_;refine ρ ?_;refine ld ((U.ext u).cell (Gl y)) ?_;refine ρ ?_;refine clv (hT _ u (zs.getD k 0)) ?_;rintro r w2 ⟨rfl,D⟩;refine ρ ?_;refine ci (λh=>?_) (λh=>?_)
  .refine ρ ?_;refine Jq ⟨⟨k,rfl,?_⟩,u.trans D⟩;refine⟨λ_=>List.any_eq_true.2 ⟨_,getD_mem' 0 zs y,h⟩,λ_=>om⟩
  refine ρ ?_;refine Jm (k+1) sB ⟨om,λj hj=>?_,u.trans D⟩ om;by_cases e:j=k
  .rw[e];exact h
  exact Z j om
 have a1:k=zs.length:=by have:=oF h;omega
 refine ρ ?_;refine Jq ⟨⟨-1,rfl,?_⟩,u⟩;refine⟨λh=>om,λh=>?_⟩;obtain⟨x,hx,G⟩:=List.any_eq_true.1 h;obtain⟨i,hi,rfl⟩:=List.getElem_of_mem hx;have:=Z i om;rw[List.getD,List.getElem?_eq_getElem hi,Option.getD_some,G]at this;cases this
theorem Qlf(h:IntsV w v zs)(hT:Jfb w fv pr):
  Ret Tryz.prog 47 [v,fv] w λx w'=>x=.bool (zs.any pr)/\Ext w w':=by
 refine Jz Tryz.func47 Tryz.ntmps47 rfl kr rfl ?_;refine ρ ?_;refine cl (Qdw h hT) ?_;rintro x w1 ⟨⟨k,rfl,j⟩,i⟩;refine ρ ?_;refine Jq ⟨?_,i⟩;rw[show decide (0<=k)=zs.any pr by rw[Bool.eq_iff_iff,decide_eq_true_iff,j]]
theorem Qbw(z:Int)(w:World): Ret Tryz.prog 48 [.int .i64 z] w λu w'=>u=.bool (decide (z<0))/\Ext w w':=by
 refine Jz Tryz.func48 Tryz.ntmps48 rfl kr rfl ?_;refine ρ ?_;exact Jq ⟨rfl,Ext.refl _⟩
theorem Qbx(w:World): Jfb w (.func (.func 48) #[] #[]) λz=>decide (z<0):=⟨_,_,_,rfl,λw' _ x=>Qbw x w'⟩
structure BagB(n:Nat)(es sizes:List Nat)(set r:Nat): Prop where
 lt:set<2^n
 ne:set≠0
 cov:Uj n es set
 bnd:∃ fuel pc K K2,((Jv n set).length+(Jb es set es.length).length)^(Jb es set es.length).length<=fuel/\cvr fuel n es set=some pc/\(∀ q∈pc.ws,0<q.den)/\(∀ q∈pc.ws,0<=q.sign/\q.num<18446744073709551616)/\(∀ i,i<=pc.ws.length->dnK pc.ws i<4294967296) /\
  (∀ q∈pc.ws,q.num<18446744073709551616/\q.den<4294967296/\0<q.norm.den/\q.norm.den<4294967296)/\1<=dnm pc.ws/\dnm pc.ws<=64/\PrOk pc.ws sizes (dnm pc.ws) K/\K2<=29000/\7<=K2/\Jw (Ze pc.ws sizes (dnm pc.ws))+dnm pc.ws<=K2/\Ut K2/\∀ x,Ur (Ze pc.ws sizes (dnm pc.ws)) (dnm pc.ws) x->x=r
theorem Qyb(h:w.ownsRow base e 1 (.slice A n n) n us)(hg:(Value.slice A n n).ownBlock=some ad.block)(hc:w.cell? ad=some u): u∈us:=by
 rcases h.2 with⟨i,_⟩|⟨g,cap,cur,i,_,hh,_,_,hs,ht⟩
 .injection i with e1 _ _
  subst e1;cases hg
 injection i with e1 _ e3
 subst e1;subst e3;have j:g=ad.block:=by injection hg
 unfold World.cell? at hc;rw[<-j,hh]at hc;simp only at hc;split at hc
 .cases hc
 rw[List.take_of_length_le (by simp[hs])]at ht;rw[<-ht];rw[<-Array.getElem?_toList]at hc;exact List.mem_of_getElem? hc
theorem Jmt(h:w.ownsRow base e 1 (.slice A n n) n us)(hs:∀ u∈us,∃ B m c,u=.slice B m c)(hv:NatV w v m): NatX (λk=>(Value.slice A n n).ownBlock=some k) w v m:=by
 refine⟨hv,λh0 ad O c e j=>?_⟩;obtain⟨A',c',rfl,h2,Z,D⟩:=hv;injection e with e1 e2 e3
 subst e1;have i:Jj m≠[]:=λe=>by rw[Jjh h0]at e;cases e
 have U:=List.length_pos_iff.2 i;have y:=D.cell (Qk (l:=Jj m) (k:=0) om);obtain⟨B,J,c2,G⟩:=hs _ (Qyb h (ad:=adr (some ad) 0) j y);cases G
theorem ENat: ElT Tryz.prog 38 40 1 24 (.slice none 0 0):=⟨Tryz.underlying38,info_parts kr,rfl,by decide⟩
theorem NatV.slc(h:NatV w v m): ∃ A n c,v=.slice A n c:=by
 obtain⟨A,c,rfl,_⟩:=h;exact⟨_,_,_,rfl⟩
theorem Jvd(hB:Blk w b t cs)(he:ad.block=b)(hc:w.cell? ad=some u): cs[ad.off]?=some u:=by
 unfold World.cell? at hc;rw[he]at hc;rw[show w.heap[b]?=_ from hB]at hc;simp only at hc;split at hc
 .cases hc
 simpa using hc
theorem Jkx(hB:Blk w b t cs)(hcs:∀ u∈cs,∀ x,u≠.int .u32 x)(hv:NatV w v m): NatX (λk=>k=b) w v m:=by
 refine⟨hv,λh0 ad G c e j=>?_⟩;obtain⟨A',Z,rfl,U,O,D⟩:=hv;injection e with e1 e2 e3
 subst e1;have i:Jj m≠[]:=λe=>by rw[Jjh h0]at e;cases e
 have J:=List.length_pos_iff.2 i;have y:=D.cell (Qk (l:=Jj m) (k:=0) om);exact hcs _ (List.mem_of_getElem? (Jvd hB (ad:=adr (some ad) 0) j y)) _ rfl
theorem Qhx{ws:List PR}(h:GX 3 RtC Nn w (.slice W ws.length c) ws)(hB:Blk w b t [.slice none 0 0,.slice none 0 0,.bool false,.slice none 0 0,.slice none 0 0])(hd:∀ q∈ws,0<q.den): GX 3 RtC (λk=>k=b) w (.slice W ws.length c) ws:=by
 have i:∀ u∈([.slice none 0 0,.slice none 0 0,.bool false,.slice none 0 0,.slice none 0 0]:List Value),∀ x,u≠.int .u32 x:=λu hu x=>by
  simp only[List.mem_cons,List.not_mem_nil,or_false]at hu;rcases hu with rfl|rfl|rfl|rfl|rfl<;>exactλe=>by cases e
 obtain⟨⟨ps,A,c',e,ev,e2,e3,G,J⟩,_⟩:=h;refine⟨⟨ps,A,c',e,ev,e2,e3,G,λp hm=>⟨(J p hm).1,?_⟩⟩,λh0 ad m cc j hk=>?_⟩
 .obtain⟨x,y,O,hx,D⟩:=(J p hm).2;exact⟨x,y,O,Jkx hB i hx.1,Jkx hB i D.1⟩
 rw[ev]at j;injection j with j _ _
 subst j;cases ps with
 | nil=>exact h0 e
 | cons p ps'=>
  obtain⟨_,x,y,O,hx,D⟩:=J p (mC ..);have hq:0<p.2.den:=hd _ (by rw[e];simp);have hf:Jg (p::ps')=[.bool p.2.neg,x,y]++Jg ps':=by simp[Jg,O]
  have c0:=G.cell (k:=0) (u:=.bool p.2.neg) (by rw[hf];rfl);have c2:=G.cell (k:=2) (u:=y) (by rw[hf];rfl);have Z:=Jvd hB (ad:=adr (some ad) 0) hk c0;have U:=Jvd hB (ad:=adr (some ad) 2) hk c2;have o0:(adr (some ad) 0).off=ad.off:=rfl;have o2:(adr (some ad) 2).off=ad.off+2:=rfl;rw[o0]at Z;rw[o2]at U;have ho:ad.off=2:=by
   generalize ad.off=o at Z
   rcases o with _|_|_|_|_|o<;>simp at Z ⊢
  rw[ho]at U;obtain⟨B,d,rfl,_⟩:=D.1;simp at U;have:=limbs_pos' (n:=p.2.den) om;omega
def BndsO(w0 w:World)(A:Option Addr)(n k:Nat)(r:Nat->Nat)(us:List Value): Prop:=us.length=n/\w.ownsRow w0.heap.size 40 1 (.slice A n n) n us/\(∀ u∈us,∃ B m c,u=.slice B m c)/\∀ j,j<k->∃ u,us[j]?=some u/\NatV w u (r j)
theorem BndsO.ext{w0 w w':World}{A:Option Addr}{n k:Nat}{r:Nat->Nat}{us:List Value}(h:BndsO w0 w A n k r us)(hx:Ext w w'): BndsO w0 w' A n k r us :=
 ⟨h.1,Je h.2.1 hx,h.2.2.1,λj y=>by obtain⟨u,e,i⟩:=h.2.2.2 j y;exact⟨u,e,i.ext hx⟩⟩
theorem BndsO.put(h:BndsO w0 w A n k r us)(hk:k<n)(hv:NatV w v (r k))(ho:w'.ownsRow w0.heap.size 40 1 (.slice A n n) n (us.set k v))(hg:w.grownBy w' (Value.slice A n n).ownBlock): BndsO w0 w' A n (k+1) r (us.set k v):=by
 obtain⟨O,G,D,J⟩:=h;have y:GrN (λq=>(Value.slice A n n).ownBlock=some q) w w':=GrN.by hg λq e=>e
 refine⟨by simp[O],ho,λu i=>?_,λj hj=>?_⟩
 .rcases List.mem_or_eq_of_mem_set i with i|rfl
  .exact D u i
  exact hv.slc
 by_cases e:j=k
 .subst e;exact⟨v,by rw[List.getElem?_set_self om],((Jmt G D hv).gr y).1⟩
 obtain⟨u,U,i⟩:=J j om;exact⟨u,by rw[List.getElem?_set_ne (λZ=>e Z.symm)];exact U,((Jmt G D i).gr y).1⟩
def SF.bxz(s:Nat): SF:=⟨λv w=>∃ b,v=.pointer (some ⟨b,0,none⟩)/\Blk w b 60 [.slice none 0 0,.slice none 0 0,.bool false,.slice none 0 0,.slice none 0 0]/\s<=b,λ⟨b,e,h,hs⟩ hx=>⟨b,e,h.ext hx,hs⟩⟩
def CovC(ws:List PR)(w:World)(cs:List Value): Prop:=∃ W W3 P1 P2 P3 b Q1 m1 c1 Q2 m2 c2,cs=[.slice W ws.length W3,.slice P1 P2 P3,.bool b,.slice Q1 m1 c1,.slice Q2 m2 c2]/\GX 3 RtC Nn w (.slice W ws.length W3) ws
theorem CovC.ext{ws:List PR}{w w':World}{cs:List Value}(h:CovC ws w cs)(hx:Ext w w'): CovC ws w' cs:=by
 obtain⟨W,D,U,O,J,b,G,j,y,Q2,i,u,e,h⟩:=h;exact⟨W,D,U,O,J,b,G,j,y,Q2,i,u,e,h.ext RtC.sta (by decide) hx⟩
def SF.cov(ws:List PR): SF:=⟨λv w=>∃ cs:List Value,v=.tuple #[.agg cs.toArray,.int .i64 0]/\CovC ws w cs,λh hx=>h.elim λcs h=>⟨cs,h.1,h.2.ext hx⟩⟩
def SF.cv(ws:List PR): SF:=⟨λv w=>∃ cs:List Value,v=.agg cs.toArray/\CovC ws w cs,λh hx=>h.elim λcs h=>⟨cs,h.1,h.2.ext hx⟩⟩
theorem Jsq{cb sc:Nat}{es sizes:List Nat}{kf:Nat->Nat}{pf:Nat->Int}(hG:GrV w A c n es)(hB:Rd w 3 B n (Qg n (Zv kf pf)))(hk:∀ v,v<n->kf v<4294967296)(hS:Rd w 1 SA sizes.length (Jh (nz sizes)))(hsc:sizes.length<=sc)(hsl:sizes.length=es.length)(hm:es.length<=5)(hb:∀ v,v<n->BagB n es sizes (kf v ||| 2^v) (r v)):
  Ret Tryz.prog 20 [.agg (grC A c n es).toArray,.slice B n cb,.slice SA sizes.length sc] w λu w'=>∃ O us,u=.tuple #[.slice O n n,.int .i64 0]/\BndsO w w' O n n r us/\Ext w w':=by
 have c0:=hG.n32;have bw:IntsV w (.slice SA sizes.length sc) (nz sizes):=⟨SA,sc,by rw[nzl],by rw[nzl];exact hsc,by rw[nzl];omega,by rw[nzl];exact hS⟩;refine Jz Tryz.func20 Tryz.ntmps20 rfl kr rfl ?_;refine ρ ?_;refine bx (cs:=grC A c n es) ?_;intro w1 b3 ap c9 ba;refine ρ ?_;refine lds (cs:=grC A c n es) (λj u hu=>ba.at hu) ?_;refine ρ ?_;refine cl (Jwl (hG.ext ap)) ?_;rintro u w2 ⟨rfl,ao⟩;have aa:=ba.ext ao;have a8:=ap.trans ao;refine ρ ?_;refine ld (aa.at (i:=1) rfl) ?_;refine ρ ?_;refine Go.Wk.kf 25 ?_ ?_
 .simp[hsl]
 refine ρ ?_;refine cl (Qlf (bw.ext a8) (Qbx w2)) ?_;rintro u w3 ⟨rfl,ab⟩;have b4:((nz sizes).any λz=>decide (z<0))=false:=by
  rw[List.any_eq_false];intro z hz;obtain⟨m,_,rfl⟩:=List.mem_map.1 hz;simp
 rw[b4];refine ρ ?_;have a1:=a8.trans ab;refine ρ ?_;refine mkn ENat n om (by unfold maxLen;omega) ?_;intro w4 O am aq hO;have bz:=a1.trans am;have e0:(madeCells (Value.slice none 0 0).cells (n*1)).toList=List.replicate n (.slice none 0 0):=by rw[Nat.mul_one];exact Vl _ _
 rw[e0]at aq;refine ρ ?_;refine Ju (fun (k:Nat) (_:List Value)=>[(2,.slice SA sizes.length sc),(3,.pointer (some ⟨b3,0,none⟩)),(9,.slice O n n),(32,.slice B n cb),(33,.int .i64 (n:Int)),(34,.int .i64 (k:Int))])
  (λk us w'=>k<=n/\Ext w3 w'/\BndsO w3 w' O n k r us) (λk _=>n-k) 0 (List.replicate n (.slice none 0 0)) sB
  ⟨Nat.zero_le _,am,by simp,aq,λu hu=>⟨none,0,0,List.eq_of_mem_replicate hu⟩,λj hj=>absurd hj (Nat.not_lt_zero j)⟩ ?_
 rintro k us w5 ⟨c7,Z,a6⟩;have U:=a1.trans Z;refine ρ ?_;refine ci (λh=>?_) (λh=>?_)
 .have lk:k<n:=by have:=oT h;omega
  clear h;have b7:=hB.ext U;have ae:∀ j u,(Zv kf pf k)[j]?=some u->w5.cell? ((adr B (k*3)).add j)=some u:=λj u hu=>by
   have hj:j<3:=by grind [Nat.lt_or_ge,List.getElem?_eq_none,Zv]
   rw[Gt];exact b7.cell ((Jcq (sz:=3) (λ_ _=>rfl) lk hj).trans hu)
  obtain⟨az,ay,af,c4,pc,K,K2,ad,bl,aw,bi,bp,bh,bq,ax,bj,hK,bu,bt,av,ac⟩:=hb k lk;refine ρ ?_;refine ixq 3 k b7 lk ?_;refine ρ ?_;refine lds (cs:=Zv kf pf k) ae ?_;refine ρ ?_;refine alc zBag ?_;intro w6 cc bf b2 bc;refine ρ ?_;refine stb (cs':=Zv kf pf k) bc ?_ Jmq;intro w7 ai hg7 be;have ak:Ext w5 w7:=be w5 bf b2;have G:Ext w5 w7.drew:=ak.trans (Ext.refl w7).drew;have ah:=ai.ext (Ext.refl w7).drew;have b8:=((aa.ext ab).ext Z).ext G;have an:=ab.trans (Z.trans G);refine ρ ?_;have c8:=an;refine drH (λi=>Nat.ble 8 i) ?_;refine hcut 2 (lst 10 8) (fun (y:List Value×Nat)=>[(44,.agg y.1.toArray),(45,.int .i64 0),(12,.pointer (some ⟨y.2,0,none⟩)),(2,.slice SA sizes.length sc),(3,.pointer (some ⟨b3,0,none⟩)),(9,.slice O n n),(10,.int .i64 (k:Int)),(32,.slice B n cb),(33,.int .i64 (n:Int)),(34,.int .i64 (k:Int))])
   (λy W=>Ext w7.drew W/\CovC pc.ws W y.1/\Blk W y.2 60 [.slice none 0 0,.slice none 0 0,.bool false,.slice none 0 0,.slice none 0 0]/\w7.drew.heap.size<=y.2) ?_ ?_
  rotate_left
  .intro rest;refine Jpm 11 6 2 _ (lst 10 8) [0,1,2,3,4,5,6,7] [40,41,42,43,39,44,45,12] [SF.eq (.agg (grC A c n es).toArray),SF.eq (.agg (Zv kf pf k).toArray),SF.eq (.int .u32 ((kf k ||| 2^k:Nat):Int)),SF.cov pc.ws,SF.cov pc.ws,SF.cv pc.ws,SF.eq (.int .i64 0),SF.bxz w7.drew.heap.size] kr (by rfl) ?_ ?_ ?_
   .refine gsc (λvs w9 D hd=>?_) ?_
    .simp only[slM];refine lds (cs:=grC A c n es) (λj u hu=>(b8.ext D).at hu) ?_;refine ρ ?_;exact Xq (Ext.refl _) rfl
    refine gsc (λvs w9 D hd=>?_) ?_
    .simp only[slM];refine lds (cs:=Zv kf pf k) (λj u hu=>(ah.ext D).at hu) ?_;refine ρ ?_;exact Xq (Ext.refl _) rfl
    refine gsc (λvs w9 D hd=>?_) ?_
    .have e1:vs 1=_:=hd 1;simp only[slM,e1];refine cl (Jrt om (hk k lk) _) ?_;rintro u W ⟨rfl,hy⟩;exact Jp (Xq hy rfl)
    refine gsc (λvs w9 D hd=>?_) ?_
    .have e0:vs 0=_:=hd 0;have e2:vs 2=_:=hd 2;simp only[slM,e0,e2];refine cl (Qhw (hG.ext ((U.trans G).trans D)) az ay hm af ad bl) ?_;rintro u W ⟨W0,P0,q1,q2,rfl,hW,hP,bo,bn,hy⟩;obtain⟨W1,W3,_,rfl,_⟩:=id hW.el;obtain⟨P1,P3,_,rfl,_⟩:=id hP.el;obtain⟨Q1,m1,c1,rfl⟩:=bo.1.slc;obtain⟨Q2,m2,c2,rfl⟩:=bn.1.slc;exact Jp (Xq hy ⟨_,rfl,W1,W3,P1,_,P3,_,Q1,m1,c1,Q2,m2,c2,rfl,hW⟩)
    refine gsc (λvs w9 D hd=>?_) ?_
    .obtain⟨cs,e3,J⟩:=hd 3;simp only[slM,e3];refine ρ ?_;exact Xq (Ext.refl _) ⟨cs,rfl,J⟩
    refine gsc (λvs w9 D hd=>?_) ?_
    .obtain⟨cs,e4,J⟩:=hd 4;simp only[slM,e4];refine ρ ?_;exact Xq (Ext.refl _) ⟨cs,rfl,J⟩
    refine gsc (λvs w9 D hd=>?_) ?_
    .obtain⟨cs,e4,J⟩:=hd 4;simp only[slM,e4];refine ρ ?_;exact Xq (Ext.refl _) rfl
    refine gsc (λvs w9 D hd=>?_) gse
    simp only[slM];refine alc Iz ?_;intro W b9 hy br a7;exact Jp (Xq hy ⟨b9,rfl,a7,Nat.le_trans D.size br⟩)
   .intro vs W hy hf;obtain⟨b9,e7,a7,h9⟩:=hf 7;obtain⟨cs,e5,J⟩:=hf 5;have e6:vs 6=_:=hf 6;simp only[slM,e7,e6,e5];exact rest (cs,b9) _ _ ⟨hy,J,a7,h9⟩ sB
   intro _ vs W hy hf;obtain⟨b9,e7,a7,h9⟩:=hf 7;obtain⟨cs,e5,J⟩:=hf 5;obtain⟨ca,e4,_⟩:=hf 4;simp only[slM,e7,e5,e4];refine hpur (fuel':=2) 6 kr kr rfl rfl ?_;refine ρp ?_;refine ρd ?_;refine Zu ?_;refine Un (listed':=lst 10 8) kr ?_;exact rest (cs,b9) _ _ ⟨hy,J,a7,h9⟩ sB
  rintro⟨cs,b9⟩ W ⟨bd,⟨WA,W3,P1,P2,P3,bb,Q1,m1,c1,Q2,m2,c2,e,bs⟩,ag,b1⟩;simp only at e ag b1;subst e;refine Ve (fuel':=0) 11 [(2,8),(2,9)] (lst 10 10) kr kr rfl ?_;refine Jy ?_;refine stW ag ?_;intro W2 b6 au a2;refine Jp (Qq ?_);refine Jy ?_;refine ρ ?_;refine Qq ?_;refine dnil (Zu ?_);refine Zw kr ?_;have aj:Ext w7.drew W2:=a2 w7.drew bd b1;have a3:=G.trans aj;have b5:=(Qhx bs ag aw).gr RtC.sta (by decide) (GrN.by (N:=λq=>q=b9) au λq e=>by injection e with e;exact e.symm);have a2:=U.trans a3;refine ρ ?_;refine lds (cs:=[.slice WA pc.ws.length W3,.slice P1 P2 P3,.bool bb,.slice Q1 m1 c1,.slice Q2 m2 c2]) (λj u hu=>b6.at hu) ?_;refine ρ ?_;refine cl (Qmt (sizes:=sizes) (b5.old RtC.sta (by decide) λk hk=>hk.elim) (hS.ext a2) bi bp bh bq ax bj hK bu bt av) ?_;rintro u c5 ⟨⟨v,r',rfl,hv,hr⟩,a9⟩;rw[ac r' hr]at hv;obtain⟨VA,vn,vc,rfl⟩:=hv.slc
  have a5:=a6.ext (a3.trans a9);obtain⟨c6,a4,_,_⟩:=id a5;obtain⟨_,_,_,_,bm⟩:=Jd a4;obtain⟨s1,s2,s3,s4,s5⟩:=Zb a4 (q:=k) om (.slice VA vn vc);have bg:us[k]?=some (us.getD k (.slice none 0 0)):=by grind
  refine ρ ?_;refine ix k (Rd.own a4) lk ?_;refine ρ ?_;refine sto (s1.trans bg) s2 ?_;refine ρ ?_;exact Jt (k+1) (us.set k (.slice VA vn vc)) sO ⟨lk,Js (Z.trans (a3.trans a9)) s5 λg hg=>(bm g hg).1,a5.put lk hv s3 s5⟩ om
 have ar:k=n:=by have:=oF h;omega
 subst ar;refine ρ ?_;exact Qo ⟨O,us,rfl,⟨a6.1,Il a6.2.1 a1.size,a6.2.2.1,a6.2.2.2⟩,U⟩
end Go.Proofs.YtebiphhfkdbpfaaGreatDoor
namespace Go.Proofs.YtebiphhfkdbpfaaGreatDoor
open Go.RowKit Pl Go.Wk Bl Nw
variable {a n set:Nat}
theorem Qzq{q:PR}(h:q.neg=false): 0<=q.sign:=by
 unfold PR.sign;rw[h];split
 .exact Int.le_refl _
 show(0:Int)<=if false=true then -1 else 1
 decide
def KP: Nat:=3301
def KQ: Nat:=3400
theorem pw11(h:a<=300): 2048^a<2^KP:=by
 rw[show 2048=2^11 from rfl,<-Nat.pow_mul];exact Nat.pow_lt_pow_right (by decide) (by unfold KP;omega)
theorem Qnw{es sizes:List Nat}(hdiv:Ut KQ)(h5:es.length<=5)(hl:sizes.length=es.length)(hs:∀ s∈sizes,s<2048)(hlt:set<2^n)(h0:set≠0)(hc:Uj n es set): BagB n es sizes set (Up n es sizes set):=by
 obtain⟨D,a9,u,hb⟩:=Jtt h5 h0 hlt hc;obtain⟨he,hr⟩:=hb sizes hl;have a4:sizes.length=D.ws.length:=by rw[hl,u.len]
 have a6:Ze D.ws sizes (dnm D.ws)=prN es.length λk=>sizes.getD k 0^exK D.ws k:=by
  rw[Jls a4,u.len];rfl
 obtain⟨_,a2,a3⟩:=u.d60;have a5:=u.tot5 hc;have O:sN es.length (exK D.ws)<=300:=nL a5 (Nat.mul_le_mul a3 h5);obtain⟨J,_,aa⟩:=Jwv u.nrm;have a1:∀ q∈D.ws,Zr q (dnm D.ws)<=300:=λq j=>by
  obtain⟨k,hk,rfl⟩:=List.getElem_of_mem j;have h1:=Jhr (f:=exK D.ws) (show k<es.length by rw[<-u.len];exact hk);unfold exK at h1;rw[Qj pr0 hk]at h1;exact nL h1 O
 have G:∀ q∈D.ws,q.neg=false:=λq j=>Jgk (u.nrm q j) (u.nn q j);have y:∀ q∈D.ws,0<q.den/\q.den<=60:=λq j=>⟨Nat.pos_of_ne_zero (u.nrm q j).den,Nat.le_trans (Nat.le_of_dvd a2 (J q j)) a3⟩;have Z:∀ q∈D.ws,q.num<=300:=λq j=>by
  have h1:=a1 q j;rw[Jcv (u.nrm q j) (G q j) (J q j)]at h1;have h2:1<=dnm D.ws / q.den:=Nat.div_pos (Nat.le_of_dvd a2 (J q j)) (y q j).1;have:=Nat.mul_le_mul_left q.num h2;omega
 have a8:∀ k,sizes.getD k 0<=2048:=λk=>by
  by_cases hk:k<sizes.length
  .rw[Qj 0 hk];exact Nat.le_of_lt (hs _ (List.getElem_mem _))
  rw[List.getD,List.getElem?_eq_none om];exact Nat.zero_le _
 have U:∀ i,i<=es.length->(prN i λk=>sizes.getD k 0^exK D.ws k)<2^KP:=λi hi=>by
  refine Nat.lt_of_le_of_lt (Jlx (a:=2048) (s:=λk=>sizes.getD k 0) (e:=exK D.ws) λk _ _=>a8 k) (pw11 (nL (Qzz hi) O))
 refine⟨hlt,h0,hc,Jjl n es set,D,KP,KQ,Nat.le_refl _,a9,λq j=>(y q j).1,λq j=>⟨Qzq (G q j),by have:=Z q j;omega⟩,λi hi=>?_,λq j=>⟨by have:=Z q j;omega,by have:=y q j;omega,by rw[(u.nrm q j).norm];exact(y q j).1,by rw[(u.nrm q j).norm];have:=y q j;omega⟩,a2,om,⟨by unfold KP;decide,a4,λq j=>?_,λs a7=>by have:=hs s a7;omega,λi hi=>?_,λi h1 h2=>?_⟩,by unfold KQ;decide,by unfold KQ;decide,?_,hdiv,λx hx=>?_⟩
 .have h1:dnK D.ws i ∣ dnm D.ws:=by
   unfold dnK;exact(Jwv λq j=>u.nrm q (List.mem_of_mem_take j)).2.2 _ λq j=>J q (List.mem_of_mem_take j)
  have:=Nat.le_of_dvd a2 h1;omega
 .have hn:=Z q j;have hd:=y q j;have e1:=Jnb (u.nrm q j) (G q j) (J q j);have h1:=a1 q j;rw[Jcv (u.nrm q j) (G q j) (J q j)]at h1;refine⟨om,om,om,by rw[Jjb];show dnm D.ws<_;omega,by rw[Jjb];show 1<_;decide,?_,?_,?_,Nat.le_trans (a1 q j) (by decide)⟩
  .rw[Jjb,Jbn,(u.nrm q j).norm];show q.den*1<_;omega
  .rw[Jjb,e1];show q.num*(dnm D.ws / q.den)<_;omega
  rw[Jjb,e1];show 1<_;decide
 .rw[Jbb a4 i hi];exact U i (by rw[<-u.len];exact hi)
 .refine Nat.lt_of_le_of_lt (Nat.pow_le_pow_left (Nat.le_of_lt (hs _ (List.getElem_mem h2))) _) (pw11 (a1 _ (List.getElem_mem h1)))
 .rw[a6];have:=Jch (U es.length (Nat.le_refl _));unfold KP at this;unfold KQ;omega
 rw[a6]at hx;exact Jyt hx hr
open Go.RowKit Pl Go.Wk Bl Nw
attribute [local irreducible] WC WL QX WD WDB WP WN WG WH
variable {t x:Int}{w:World}
theorem Qdz{A:Option Addr}{n c:Nat}{zs:List Int}(hR:Rd w 1 A n (Jh zs))(hn:zs.length=n)(hm:n<=1100000): Ret Tryz.prog 82 [.slice A n c,.int .i64 t] w λu w'=>w'=w/\((u=.int .i64 (-1)/\t ∉ zs)∨∃ k:Nat,u=.int .i64 k/\k<n/\zs.getD k 0=t):=by
 refine Jz Tryz.func82 Tryz.ntmps82 rfl kr rfl ?_;refine ρ ?_;refine Jr (fun (k:Nat)=>[(0,.slice A n c),(1,.int .i64 t),(7,.int .i64 (n:Int)),(8,.int .i64 (k:Int))]) (λk w'=>w'=w/\k<=n/\t ∉ zs.take k) (λk=>n-k) 0 sB ⟨rfl,Nat.zero_le _,by simp⟩ ?_;rintro k w' ⟨rfl,j,y⟩;refine ρ ?_;refine ci (λh=>?_) (λh=>?_)
 .have lk:k<n:=by have:=oT h;omega
  have i:k<zs.length:=om
  refine ρ ?_;refine ix k hR lk ?_;refine ρ ?_;refine ld (hR.cell (Gl i)) ?_;refine ρ ?_;refine ci (λh=>?_) (λh=>?_)
  .refine ρ ?_;exact Jq ⟨rfl,.inr ⟨k,rfl,lk,by grind⟩⟩
  refine ρ ?_;refine Jm (k+1) sO ⟨rfl,om,?_⟩ om;rw[Qa 0 i,List.mem_append,List.mem_singleton];grind
 refine ρ ?_;refine Jq ⟨rfl,.inl ⟨rfl,?_⟩⟩;grind
def Gp(d:Atm->Nat)(x:Int)(e:Int)(a:Atm): Int:=if x∈a.vars then(if e<0∨(d a:Int)<e then(d a:Int) else e) else e
def Qh(d:Atm->Nat)(x:Int)(ats:List Atm): Int:=ats.foldl (Gp d x) (-1)
theorem Jrl(d:Atm->Nat)(x:Int)(l:List Atm)(a:Atm): Qh d x (l++[a])=Gp d x (Qh d x l) a:=by simp[Qh]
structure CntA(d:Atm->Nat)(x:Int)(a:Atm): Prop where
 asc:Ko a.vars
 ar:a.vars.length=a.ar
 len:∀ r∈a.rows,r.length=a.ar
 few:a.rows.length<=12
 cnt:∀(col:Nat) (m:List Row),col<a.vars.length->a.vars.getD col 0=x->Yx [] (a.rows.map (pmR [col])) m->m.length=d a
theorem Qgc{d:Atm->Nat}{v:Value}{inp:Inp}(h:InV w v inp)(hA:∀ a∈inp.ats,CntA d x a):
  Ret Tryz.prog 43 [v,.int .i64 x] w λu w'=>u=.int .i64 (max (Qh d x inp.ats) 0)/\Ext w w':=by
 obtain⟨cs,rfl,vd,vp,va,rfl,hD,hP,O,A,c,ab,rfl,bp,bo,hR,be⟩:=h;obtain⟨DA,dc,rfl,_⟩:=id hD;obtain⟨PA,pc,rfl,_⟩:=id hP;have ai:inp.ats.length=O.length:=by rw[ab,List.length_map]
 refine Jz Tryz.func43 Tryz.ntmps43 rfl kr rfl ?_;refine ρ ?_;refine bx ?_;intro w1 b2 b4 bs bi;refine ρ ?_;refine ld (bi.at (i:=4) rfl) ?_;refine ρ ?_;refine Jr (fun (k:Nat)=>[(1,.int .i64 x),(2,.pointer (some ⟨b2,0,none⟩)),(5,.int .i64 (Qh d x (inp.ats.take k))),(12,.slice A O.length c),(13,.int .i64 (O.length:Int)),(14,.int .i64 (k:Int))])
  (λk w'=>k<=O.length/\Ext w w') (λk=>O.length-k) 0 sB ⟨Nat.zero_le _,b4⟩ ?_
 rintro k w2 ⟨hk,J⟩;refine ρ ?_;refine ci (λh=>?_) (λh=>?_)
 .have lk:k<O.length:=by have:=oT h;omega
  clear h;have hp:=be _ (Jzq rfl lk);have ak:∀ j u,(O.getD k ta0).1.cells[j]?=some u->w2.cell? ((adr A (k*3)).add j)=some u:=λj u hu=>Jzb (hR.ext J) rfl lk hu;have a4:inp.ats.take (k+1)=inp.ats.take k++[(O.getD k ta0).2]:=by
   rw[ab,<-List.map_take,<-List.map_take,Qa ta0 lk,List.map_append];rfl
  have G:=hA (O.getD k ta0).2 (by rw[ab];exact List.mem_map_of_mem (Jzq rfl lk));generalize hq:O.getD k ta0=q at hp ak a4 G
  obtain⟨⟨t1,t2,t3⟩,a⟩:=q;simp only at G a4;have af:=hp.ext J;obtain⟨⟨QA,qc,aq,bn,b6,b5⟩,ap,a5⟩:=id af;simp only at aq ap;obtain⟨a2,PG,a3,bt,ao,_⟩:=id a5;simp only at ao;subst aq;subst ap;subst ao;refine ρ ?_;refine ixq 3 k (hR.ext J) lk ?_;refine ρ ?_;refine lds (cs:=[.slice QA a.vars.length qc,.int .i64 (a.ar:Int),.slice PG a2.length a3]) ak ?_;refine ρ ?_;refine alc Jvn ?_;intro w3 b7 b3 bd bh;refine ρ ?_;refine stb (cs':=[.slice QA a.vars.length qc,.int .i64 (a.ar:Int),.slice PG a2.length a3]) bh ?_ (one3 rfl);intro w4 a8 br b1;have U:Ext w2 w4:=b1 w2 b3 bd;refine ρ ?_;refine ld (a8.at (i:=0) rfl) ?_;refine ρ ?_;refine cl (Qdz (b5.ext U) rfl b6) ?_;rintro u w5 ⟨rfl,⟨rfl,b8⟩|⟨au,rfl,aa,aj⟩⟩
  .have e:Qh d x (inp.ats.take (k+1))=Qh d x (inp.ats.take k):=by rw[a4,Jrl,Gp,if_neg b8]
   refine ρ ?_;rw[<-e];exact Jm (k+1) sO ⟨lk,J.trans U⟩ om
  have ah:x∈a.vars:=by
   rw[<-aj];exact getD_mem' 0 _ aa
  refine ρ ?_;refine lds (cs:=[.int .i64 (a.ar:Int),.slice PG a2.length a3]) (a8.sub2 (i:=1) rfl rfl) ?_;refine ρ ?_;refine bsl (Ka _) ?_;intro w6 bj az bl an;have a7:=U.trans az;have am:RelV w6 (.agg #[.int .i64 (a.ar:Int),.slice PG a2.length a3]) a.ar a.rows:=(af.ext a7).rel;have bb:IntsV w6 (.slice (some ⟨bj,0,none⟩) 1 1) (nz [au]):=⟨_,1,rfl,Nat.le_refl _,by simp[nz],an.rd (n:=1) rfl⟩;refine ρ ?_;refine cl (Qwc am bb G.len (λc hc=>by rw[List.mem_singleton.1 hc,<-G.ar];exact aa) (by simp) (by have:=G.few;omega)) ?_;rintro u w7 ⟨ay,rv,rfl,⟨z,RB,rm,rd,rfl⟩,m,ag,_,_,ae⟩;have Z:=G.cnt au m aa aj (ae (.inl G.few));refine ρ ?_;refine alc Ue ?_;intro w8 b9 ax bc bg;refine ρ ?_;refine stb (cs':=[.int .i64 z,.slice RB rm rd]) bg ?_ (λu hu=>by
   simp only[List.mem_cons,List.not_mem_nil,or_false]at hu;rcases hu with rfl|rfl<;>rfl)
  intro w9 a1 bq aw;have a6:Ext w7 w9:=aw w7 ax bc;have ac:=a7.trans (ay.trans a6);have hM:=ag.here.ext a6;have a9:=J.trans ac;have es:∀ e:Int,(if e<0∨(d a:Int)<e then(d a:Int) else e)=Gp d x e a:=λe=>by rw[Gp,if_pos ah]
  have D:=es (Qh d x (inp.ats.take k));rw[<-Jrl,<-a4]at D;refine ρ ?_;refine ρ ?_;refine ki 37 (λh=>?_) (λh=>?_)
  .have h:=oT h;refine ρ ?_;refine lds (cs:=[.int .i64 z,.slice RB rm rd]) (λj u hu=>a1.at hu) ?_;refine ρ ?_;refine cl (Jqt hM) ?_;rintro u av ⟨rfl,y⟩;rw[Z];refine ρ ?_;rw[if_pos (.inl h)]at D;rw[D];exact Jm (k+1) sO ⟨lk,a9.trans y⟩ om
  have h:=oF h;refine ρ ?_;refine lds (cs:=[.int .i64 z,.slice RB rm rd]) (λj u hu=>a1.at hu) ?_;refine ρ ?_;refine cl (Jqt hM) ?_;rintro u av ⟨rfl,y⟩;rw[Z];have bf:=hM.ext y;refine ρ ?_;refine ci (λh2=>?_) (λh2=>?_)
  .have h2:=oT h2;refine ρ ?_;refine lds (cs:=[.int .i64 z,.slice RB rm rd]) (λj u hu=>(a1.ext y).at hu) ?_;refine ρ ?_;refine cl (Jqt bf) ?_;rintro u bm ⟨rfl,ad⟩;rw[Z];refine ρ ?_;rw[if_pos (.inr h2)]at D;rw[D];exact Jm (k+1) sO ⟨lk,a9.trans (y.trans ad)⟩ om
  have h2:=oF h2;refine ρ ?_;rw[if_neg (λh'=>h'.elim h h2)]at D;rw[D];exact Jm (k+1) sO ⟨lk,a9.trans y⟩ om
 have ba:k=O.length:=by have:=oF h;omega
 subst ba;rw[<-ai,List.take_length];refine ρ ?_;refine Jq ⟨?_,J⟩;exact congrArg (Value.int .i64) (by split<;>omega)
open Go.RowKit Pl Go.Wk Bl Nw
variable {perm sizes:List Nat}{r:Nat->Nat}{w w' w0:World}
theorem zEst: Qt Tryz.prog 42=some (.agg #[.int .i64 0,.int .i64 0,.slice none 0 0,.slice none 0 0]):=kr
theorem Qng(a b:Int)(A B:Option Addr)(n c m d:Nat)(w:World): (Instr.build 42 #[(0,.int .i64 a),(1,.int .i64 b),(2,.slice A n c),(3,.slice B m d)]).run Tryz.prog w=.ok (.agg #[.int .i64 a,.int .i64 b,.slice A n c,.slice B m d]) w:=kr
theorem EIs: ElT Tryz.prog 28 22 1 24 (.slice none 0 0):=⟨Tryz.underlying28,info_parts kr,rfl,by decide⟩
theorem bs0Is(w:World): (Instr.buildSlice 28 0 #[]).run Tryz.prog w=.ok (.slice (some ⟨w.heap.size,0,none⟩) 0 0) (w.alloc (.cells ([]:List Value).toArray 22)):=kr
theorem bs0I(w:World): (Instr.buildSlice 22 0 #[]).run Tryz.prog w=.ok (.slice (some ⟨w.heap.size,0,none⟩) 0 0) (w.alloc (.cells ([]:List Value).toArray 3)):=kr
theorem Jtp(A:Option Addr)(n c:Nat)(w:World): (Instr.buildSlice 28 1 #[(0,.slice A n c)]).run Tryz.prog w=.ok (.slice (some ⟨w.heap.size,0,none⟩) 1 1) (w.alloc (.cells [.slice A n c].toArray 22)):=kr
theorem BndsO.box{A:Option Addr}{n k b t:Nat}{us cs:List Value}(h:BndsO w0 w A n k r us)(hB:Blk w b t cs)(hcs:∀ u∈cs,∀ x,u≠.int .u32 x)(hne:Nat.beq 40 t=false)(hg:GrN (λq=>q=b) w w'): BndsO w0 w' A n k r us :=
 ⟨h.1,Qf h.2.1 hg λg i e=>by rw[e]at i;exact hB.ne_own h.2.1 hne i.symm,h.2.2.1,λj D=>by
  obtain⟨u,e,y⟩:=h.2.2.2 j D;exact⟨u,e,((Jkx hB hcs y).gr hg).1⟩⟩
structure CostI(n f:Nat)(perm:List Nat)(vss:List (List Nat))(sizes:List Nat)(d:Nat->Atm->Nat)(r:Nat->Nat)(inp:Inp): Prop where
 chk:Ya inp
 en:inp.n=(n:Int)
 ef:inp.free=(f:Int)
 ep:inp.perm=nz perm
 ev:inp.ats.map (·.vars)=vss.map nz
 es:inp.ats.map (λa=>a.rows.length)=sizes
 five:inp.ats.length<=5
 pok:PermOk n f perm
 n32:n<=32
 vlt:∀ vs∈vss,∀ x∈vs,x<n
 cnt:∀ x,x<f->∀ a∈inp.ats,CntA (d x) (x:Int) a
 bag:∀ kf pf,Ga n (vss.map Xj) (Zo perm f) kf pf->∀ v,v<n->BagB n (vss.map Xj) sizes (kf v ||| 2^v) (r v)
 sumN:Nb (((List.range n).map r).foldl (· + ·) 0)
 subN:∀ i,i<=n->Nb ((((List.range n).map r).take i).foldl (· + ·) 0)
 oneN:∀ x∈(List.range n).map r,Nb x
def Jyc(f:Nat)(d:Nat->Atm->Nat)(inp:Inp): Nat:=hgS ((List.range f).map λx:Nat=>max (Qh (d x) (x:Int) inp.ats) 0)
theorem Qhz{B0 n f:Nat}{vss:List (List Nat)}{d:Nat->Atm->Nat}{v:Value}{inp:Inp}(hT:FB B0 w)(hC:CostI n f perm vss sizes d r inp)(h:InV w v inp):
  Ret Tryz.prog 17 [v] w λu w'=>∃ O us VS vn vc,u=.tuple #[.agg #[.int .i64 (Jyc f d inp:Int),.int .i64 (Jyc f d inp:Int),.slice O n n,.slice VS vn vc],.int .i64 0]/\BndsO w w' O n n r us/\NatV w' (.slice VS vn vc) (((List.range n).map r).foldl (· + ·) 0)/\Ext w w':=by
 have bf:=h;obtain⟨cs,rfl,vd,vp,va,rfl,hD,hP,df⟩:=h;obtain⟨ts,A,c,c7,rfl,f8,f7,hR,e7⟩:=id df;obtain⟨DA,dc,rfl,_⟩:=id hD;obtain⟨PA,pc,rfl,f6,f5,du⟩:=id hP;have cw:=hC.n32;have fd:=hC.pok.fn;have cy:inp.ats.length=ts.length:=by rw[c7,List.length_map]
 have bt:vss.length=ts.length:=by have:=congrArg List.length hC.ev;simp only[List.length_map]at this;omega
 have dz:sizes.length=ts.length:=by rw[<-hC.es,List.length_map,cy]
 have h5:ts.length<=5:=by have:=hC.five;omega
 refine Jz Tryz.func17 Tryz.ntmps17 rfl kr rfl ?_;refine ρ ?_;refine bx ?_;intro w1 b1 cn fe em;refine ρ ?_;refine alc zEst ?_;intro w2 b2 ck e6 ek;have ao:=em.ext ck;have b4:=cn.trans ck;refine ρ ?_;refine ldW ao ?_;refine ρ ?_;refine cl (Jpl (bf.ext b4) (by rw[hC.en];omega) (by rw[hC.ef];omega)) ?_;rintro u w3 ⟨ax,e,rfl,he⟩;obtain rfl:e=0:=he.2 hC.chk;have a5:=b4.trans ax;refine ρ ?_;refine bsl bs0Is ?_;intro w4 dk bq d6 dd;refine ρ ?_;refine bsl bs0I ?_;intro w5 dj bp d5 db;have ch:=a5.trans bq;have b5:=bq.trans bp;have et:=ch.trans bp;have de:=(ao.ext ax).ext b5;refine ρ ?_;refine ld (de.at (i:=4) rfl) ?_;have ea:OX 22 1 NtC (λq=>w3.heap.size<=q) w5 w3.heap.size (.slice (some ⟨dk,0,none⟩) 0 0) ([]:List (List Nat)):=⟨[],rfl,(dd.ext bp).own (n:=0) d6 rfl (Nat.zero_le _),λp hp=>by cases hp⟩;have e8:w5.ownsRow w3.heap.size 3 1 (.slice (some ⟨dj,0,none⟩) 0 0) 0 (Jh (nz [])):=db.own (n:=0) (nL bq.size d5) rfl (Nat.zero_le _)
 refine ρ ?_;refine Xh (fun (k:Nat) (vs vz:Value)=>[(1,.pointer (some ⟨b1,0,none⟩)),(2,.pointer (some ⟨b2,0,none⟩)),(3,.int .i64 0),(5,vs),(6,vz),(25,.slice A ts.length c),(26,.int .i64 (ts.length:Int)),(27,.int .i64 (k:Int))])
  (λk vs vz w'=>k<=ts.length/\Ext w3 w'/\OX 22 1 NtC (λq=>w3.heap.size<=q) w' w3.heap.size vs (vss.take k)/\w'.ownsRow w3.heap.size 3 1 vz k (Jh (nz (sizes.take k)))) (λk _ _=>ts.length-k) 0 (.slice (some ⟨dk,0,none⟩) 0 0) (.slice (some ⟨dj,0,none⟩) 0 0) sB
  ⟨Nat.zero_le _,b5,by rw[List.take_zero];exact ea,by rw[List.take_zero];exact e8⟩ ?_
 rintro k vs vz w6 ⟨hk,a6,ak,b3⟩;have Z:=a5.trans a6;obtain⟨SA,sc,rfl,dt,bs⟩:=ak.form;obtain⟨ZA,zc,rfl,f0,ce⟩:=Jd b3;have co:(vss.take k).length=k:=by rw[List.length_take];omega
 rw[co]at ak dt bs ⊢;refine ρ ?_;refine ci (λh=>?_) (λh=>?_)
 .have lk:k<ts.length:=by have:=oT h;omega
  clear h;have cd:k<vss.length:=om
  have cc:k<sizes.length:=om
  have hp:=e7 _ (Jzq rfl lk);have d4:∀ j u,(ts.getD k ta0).1.cells[j]?=some u->w6.cell? ((adr A (k*3)).add j)=some u:=λj u hu=>Jzb (hR.ext Z) rfl lk hu;have az:(ts.getD k ta0).2.vars=nz (vss.getD k []):=by
   have e1:(inp.ats.map (·.vars))[k]?=(vss.map nz)[k]?:=by rw[hC.ev]
   rw[c7]at e1;simpa [List.getElem?_eq_getElem lk,List.getElem?_eq_getElem cd,List.getD] using e1
  have bu:(ts.getD k ta0).2.rows.length=sizes.getD k 0:=by
   have e1:(inp.ats.map λa=>a.rows.length)[k]?=sizes[k]?:=by rw[hC.es]
   rw[c7]at e1;simpa [List.getElem?_eq_getElem lk,List.getElem?_eq_getElem cc,List.getD] using e1
  generalize hq:ts.getD k ta0=q at hp d4 az bu
  obtain⟨⟨t1,t2,t3⟩,a⟩:=q;simp only at az bu;obtain⟨⟨QA,qc,di,f4,f3,f2⟩,dh,ay⟩:=id hp;simp only at di dh;obtain⟨au,PG,av,ff,dg,_⟩:=id ay;simp only at dg;subst di;subst dh;subst dg;refine ρ ?_;refine ixq 3 k (hR.ext Z) lk ?_;refine ρ ?_;refine lds (cs:=[.slice QA a.vars.length qc,.int .i64 (a.ar:Int),.slice PG au.length av]) d4 ?_;refine ρ ?_;refine alc Jvn ?_;intro w7 b8 bo e5 ej;refine ρ ?_;refine stb (cs':=[.slice QA a.vars.length qc,.int .i64 (a.ar:Int),.slice PG au.length av]) ej ?_ (one3 rfl);intro w8 bi fc bn;have cj:Ext w6 w8:=bn w6 bo e5;refine ρ ?_;refine ld (bi.at (i:=0) rfl) ?_;refine ρ ?_;refine bsl (Jtp _ _ _) ?_;intro w9 fh aw ez da;have y:=cj.trans aw;have a9:=a6.trans y;have ed:∀ u,Ext w3 u->IntsV u (.slice QA a.vars.length qc) (nz (vss.getD k [])):=λu hu=>by
   have:=(hp.ext (a5.trans hu)).1;rw[az]at this;rwa [az]
  have be:=ak.ext NtC.sta y;obtain⟨_,_,bd⟩:=id be.own;have bc:=Je b3 y;have bh:=bi.ext aw;refine ρ ?_;refine apX EIs NtC.sta be da rfl (λu hu=>by rw[List.mem_singleton.1 hu];rfl) ⟨_,rfl,Off.old ed a9 λq hq=>hq⟩ (λg hg=>(bs g hg).1) om (by decide) a9.size ?_;intro dq aq c2 ah _;have ab:Ext w3 aq:=Js a9 ah λg eg=>(bs g eg).1;have bz:=Qf bc (GrN.by (N:=λq=>(Value.slice SA k sc).ownBlock=some q) ah λq e=>e) λg eg e=>Ud bd bc kr e eg;have c4:=bh.grown ah (bh.ne_own bd rfl);refine ρ ?_;refine lds (cs:=[.int .i64 (a.ar:Int),.slice PG au.length av]) (c4.sub2 (i:=1) rfl rfl) ?_;have d7:RelV aq (.agg #[.int .i64 (a.ar:Int),.slice PG au.length av]) a.ar a.rows:=(hp.ext (a5.trans ab)).rel;refine ρ ?_;refine cl (Jqt d7) ?_;rintro u bl ⟨rfl,ae⟩;refine ρ ?_;refine bsl (Ka _) ?_;intro dm fg ad ey d9;have J:=ae.trans ad;have aa:=ab.trans J;have ai:=Je bz J
  have aj:=c2.ext NtC.sta J;obtain⟨_,_,c0⟩:=id aj.own;refine ρ ?_;refine apb (m':=1) (news:=[.int .i64 (a.rows.length:Int)]) EI ai (d9.rd (n:=1) rfl) (by simp[Value.oneCell']) (by unfold maxLen;omega) om aa.size ?_;intro dn ca bw bb _;have c1:=aj.gr NtC.sta (GrN.by (N:=λq=>(Value.slice ZA k zc).ownBlock=some q) bb λq e=>e) λq e=>⟨(ce q e).1,λe'=>Ud ai c0 kr e e'⟩;have er:vss.take (k+1)=vss.take k++[vss.getD k []]:=Qa [] cd;have eo:Jh (nz (sizes.take (k+1)))=Jh (nz (sizes.take k))++[.int .i64 (a.rows.length:Int)]:=by
   rw[Qa 0 cc,bu];simp[Jh,nz]
  refine ρ ?_;exact Qm (k+1) dq dn sO ⟨lk,Js aa bb λg eg=>(ce g eg).1,by rw[er];exact c1,by rw[eo];exact bw⟩ om
 have e3:k=ts.length:=by have:=oF h;omega
 subst e3;have f9:ts.length=vss.length:=bt.symm;rw[<-bt,List.take_length]at ak;rw[<-dz,List.take_length]at b3;have e9:=ak.gx (N':=Nn) NtC.sta om λk hk=>hk.elim;have an:=(ao.ext ax).ext a6;refine ρ ?_;refine ld (an.at (i:=0) rfl) ?_;rw[hC.en,<-bt];refine ρ ?_;refine cl (Jpp e9 cw om hC.vlt) ?_;rintro u w7 ⟨GA,gc,rfl,hG,bo⟩;refine ρ ?_;refine alc Iq ?_;intro w8 b9 bn e4 ei;refine ρ ?_;refine stW ei ?_;intro w9 bg fb aw;have a8:Ext w7 w9:=aw w7 bn e4;have y:=bo.trans a8;have bj:=an.ext y;have cq:inp.perm.length=perm.length:=by rw[hC.ep,nzl]
 have cp:Rd w 1 PA perm.length (Jh (nz perm)):=by rw[<-cq,<-hC.ep];exact du
 refine ρ ?_;refine ldW bg ?_;refine ρ ?_;refine ld (bj.at (i:=1) rfl) ?_;rw[hC.ef];refine ρ ?_;refine ld (bj.at (i:=3) rfl) ?_;rw[cq];refine ρ ?_;have cg:=Z.trans y;refine cl (Jrv (pc:=pc) (hG.ext a8) hC.pok (cp.ext cg)) ?_;rintro u aq ⟨a1,B,kf,pf,rfl,ee,d8⟩;have cx:sizes.length=vss.length:=om
 have d3:=Jsq (w:=aq) (A:=GA) (c:=gc) (cb:=n) (SA:=ZA) (sc:=zc) (r:=r) ((hG.ext a8).ext a1) (Rd.own ee) (λv hv=>(d8 v hv).1) (Rd.own (Je b3 (y.trans a1))) om (by rw[List.length_map];exact cx) (by rw[List.length_map];omega) (hC.bag kf pf d8);rw[cx]at d3;refine ρ ?_;refine ldW (bg.ext a1) ?_;refine ρ ?_;refine cl d3 ?_;rintro u bl ⟨O,us,rfl,eh,ae⟩;have a3:=y.trans (a1.trans ae);have ap:=an.ext a3;have a2:=Z.trans a3;refine ρ ?_;refine ld (ap.at (i:=1) rfl) ?_;rw[hC.ef];refine ρ ?_;refine mkn EI f om (by unfold maxLen;omega) ?_;intro dm YA ad b7 ew;have e0:(madeCells (Value.int .i64 0).cells (f*1)).toList=Jh (List.replicate f 0):=by
  rw[Nat.mul_one];refine(Vl _ _).trans ?_;simp[Jh]
 rw[e0]at b7;refine ρ ?_;refine Ju (fun (k:Nat) (_:List Int)=>[(1,.pointer (some ⟨b1,0,none⟩)),(2,.pointer (some ⟨b2,0,none⟩)),(3,.int .i64 0),(12,.slice O n n),(13,.slice YA f f),(82,.int .i64 (f:Int)),(83,.int .i64 (k:Int))])
  (λk ls w'=>k<=f/\Ext bl w'/\ls.length=f/\(∀ j:Nat,j<k->ls[j]?=some (max (Qh (d j) (j:Int) inp.ats) 0))/\w'.ownsRow bl.heap.size 3 1 (.slice YA f f) f (Jh ls)) (λk _=>f-k) 0 (List.replicate f 0) sB
  ⟨Nat.zero_le _,ad,by simp,λj hj=>absurd hj (Nat.not_lt_zero j),b7⟩ ?_
 rintro k ls ca ⟨fa,D,e2,ba,b6⟩;have c6:=ap.ext D;refine ρ ?_;refine ci (λh=>?_) (λh=>?_)
 .have lk:k<f:=by have:=oT h;omega
  clear h;refine ρ ?_;refine ldW c6 ?_;refine ρ ?_;refine cl (Qgc (d:=d k) (bf.ext (a2.trans D)) (hC.cnt k lk)) ?_;rintro u c9 ⟨rfl,a7⟩;have af:=Je b6 a7;obtain⟨_,_,_,_,dw⟩:=Jd af;obtain⟨s1,s2,s3,s4,s5⟩:=Zb af (q:=k) om (.int .i64 (max (Qh (d k) (k:Int) inp.ats) 0));have ds:(Jh ls)[k]?=some (.int .i64 (ls.getD k 0)):=Gl om;have es:(Jh ls).set k (.int .i64 (max (Qh (d k) (k:Int) inp.ats) 0))=Jh (ls.set k (max (Qh (d k) (k:Int) inp.ats) 0)):=by simp[Jh,List.map_set]
  rw[es]at s3;refine ρ ?_;refine ix k (Rd.own af) lk ?_;refine ρ ?_;refine sto (s1.trans ds) s2 ?_;refine ρ ?_;refine Jt (k+1) (ls.set k (max (Qh (d k) (k:Int) inp.ats) 0)) sO ⟨lk,Js (D.trans a7) s5 λg hg=>(dw g hg).1,by simp[e2],λj hj=>?_,s3⟩ om;by_cases e:j=k
  .subst e;rw[List.getElem?_set_self om]
  rw[List.getElem?_set_ne (λe'=>e e'.symm)];exact ba j om
 have cz:k=f:=by have:=oF h;omega
 subst cz;have e:ls=(List.range k).map λx:Nat=>max (Qh (d x) (x:Int) inp.ats) 0:=by
  refine List.ext_getElem? λj=>?_;by_cases lj:j<k
  .rw[ba j lj,List.getElem?_map,List.getElem?_range lj];rfl
  rw[List.getElem?_eq_none om,List.getElem?_eq_none (by simp;omega)]
 subst e;have ec:IntsV ca (.slice YA k k) ((List.range k).map λx:Nat=>max (Qh (d x) (x:Int) inp.ats) 0):=⟨YA,k,by simp,by simp,by simp;omega,by simpa using Rd.own b6⟩;refine ρ ?_;refine cl (Qmj (hT.ext (a2.trans D)) ec) ?_;rintro u c9 ⟨rfl,a7⟩;have G:=D.trans a7;have am:=eh.ext G;obtain⟨br,cr,_,dx⟩:=id am;have eb:NatsV c9 O us ((List.range n).map r):=⟨by rw[br];exact Rd.own cr,by simp[br],λi hi=>by
  have d0:i<n:=by simpa using hi
  obtain⟨u,eu,hu⟩:=dx i d0;simpa [List.getD,eu,List.getElem?_range d0] using hu⟩
 have cu:=Qcd (c:=n) eb hC.sumN (by simp;omega) (λi hi=>hC.subN i (by simpa using hi)) hC.oneN;rw[br]at cu;refine ρ ?_;refine cl cu ?_;rintro u c8 ⟨hv,_,ac⟩;obtain⟨VS,vn,vc,rfl⟩:=hv.slc;have a4:Blk c8 b2 42 [.int .i64 0,.int .i64 0,.slice none 0 0,.slice none 0 0]:=((ek.ext ax).ext a6).ext (a3.trans (G.trans ac));refine ρ ?_;refine bld (Qng _ _ _ _ _ _ _ _ _) ?_;refine ρ ?_;refine stW a4 ?_;intro dl c5 d1 cm;have ag:GrN (λq=>q=b2) c8 dl:=GrN.by d1 λq e=>by injection e with e;exact e.symm
 have d2:∀ u∈([.int .i64 0,.int .i64 0,.slice none 0 0,.slice none 0 0]:List Value),∀ x,u≠.int .u32 x:=λu hu x=>by
  simp only[List.mem_cons,List.not_mem_nil,or_false]at hu;rcases hu with rfl|rfl|rfl|rfl<;>exactλe=>by cases e
 have U:=(am.ext ac).box a4 d2 kr ag;have bm:=a2.trans (G.trans ac);refine ρ ?_;exact Zf c5 ⟨O,us,VS,vn,vc,rfl,⟨U.1,Il U.2.1 (Z.trans (y.trans a1)).size,U.2.2.1,U.2.2.2⟩,((Jkx a4 d2 hv).gr ag).1,cm w bm (nL cn.size e6)⟩
open Go.RowKit Pl Go.Wk
attribute [local irreducible] WM
def IntssV(w:World)(v:Value)(zss:List (List Int)): Prop:=∃ A c cs,v=.slice A zss.length c/\zss.length<=c/\zss.length<=1100000/\Rd w 1 A zss.length cs/\∀ i,i<zss.length->∃ u,cs[i]?=some u/\IntsV w u (zss.getD i [])
def RowssV(w:World)(v:Value)(rss:List (List Row)): Prop:=∃ A c cs,v=.slice A rss.length c/\rss.length<=c/\rss.length<=1100000/\Rd w 1 A rss.length cs/\∀ i,i<rss.length->∃ u,cs[i]?=some u/\RowsV w u (rss.getD i [])
theorem IntssV.ext{w w':World}{v:Value}{zss:List (List Int)}(h:IntssV w v zss)(hx:Ext w w'): IntssV w' v zss:=by
 obtain⟨A,c,cs,O,J,G,D,y⟩:=h;exact⟨A,c,cs,O,J,G,D.ext hx,λi hi=>by obtain⟨u,e,j⟩:=y i hi;exact⟨u,e,j.ext hx⟩⟩
theorem RowssV.ext{w w':World}{v:Value}{zss:List (List Row)}(h:RowssV w v zss)(hx:Ext w w'): RowssV w' v zss:=by
 obtain⟨A,c,cs,O,J,G,D,y⟩:=h;exact⟨A,c,cs,O,J,G,D.ext hx,λi hi=>by obtain⟨u,e,j⟩:=y i hi;exact⟨u,e,j.ext hx⟩⟩
structure Cse where
 n: Int
 f:Int
 ds:List Bool
 pm:List Int
 vs:List (List Int)
 rss:List (List Row)
def CseV(w:World)(cs:List Value)(c:Cse): Prop:=∃ dA dc pA pc vA vc rA rc,cs=[.int .i64 c.n,.int .i64 c.f,.slice dA c.ds.length dc,.slice pA c.pm.length pc,.slice vA c.vs.length vc,.slice rA c.rss.length rc] /\
 BoolsV w (.slice dA c.ds.length dc) c.ds/\IntsV w (.slice pA c.pm.length pc) c.pm/\IntssV w (.slice vA c.vs.length vc) c.vs/\RowssV w (.slice rA c.rss.length rc) c.rss/\(-9223372036854775808<=c.n/\c.n<=9223372036854775807)/\(-9223372036854775808<=c.f/\c.f<=9223372036854775807)
theorem CseV.ext{w w':World}{cs:List Value}{c:Cse}(h:CseV w cs c)(hx:Ext w w'): CseV w' cs c:=by
 obtain⟨dA,dc,G,D,j,i,y,u,h1,h2,Z,U,O,J⟩:=h;exact⟨dA,dc,G,D,j,i,y,u,h1,h2.ext hx,Z.ext hx,U.ext hx,O.ext hx,J⟩
structure FewP(c:Cse): Prop where
 row:∀ i,i<c.rss.length->(c.rss.getD i []).length<=10
 cnt:(Xb c.rss.length λi=>max 1 (c.rss.getD i []).length)<=5000
 n6:c.n<=6∨32<c.n
 v5:c.vs.length<=5
 r5:c.rss.length<=5
structure FewS(c:Cse): Prop where
 row:∀ i,i<c.rss.length->(c.rss.getD i []).length<=10
 cnt:(Xb c.rss.length λi=>max 1 (c.rss.getD i []).length)<=5000
 n6:c.n<=6
 v5:c.vs.length<=5
 r5:c.rss.length<=5
 v8:∀ i,i<c.vs.length->(c.vs.getD i []).length<=8
 d10:c.ds.length<=10
 p10:c.pm.length<=10
theorem Qgd{w:World}{cs:List Value}{c:Cse}(h:CseV w cs c): Ret Tryz.prog 15 [.agg cs.toArray] w λu w'=>Ext w w'/\∃ b:Bool,u=.bool b/\(b=true->FewP c)/\(FewS c->b=true):=by
 obtain⟨dA,dc,pA,pc,vA,vc,rA,rc,rfl,hD,hP,hV,hR,hn,hf⟩:=h;obtain⟨_,_,ad,e1,_,_,a1,ab⟩:=id hR;injection e1 with e1 e2 e3
 subst e1;subst e3;obtain⟨_,_,ac,e1,_,_,a6,aa⟩:=id hV;injection e1 with e1 e2 e3
 subst e1;subst e3;refine Jz Tryz.func15 Tryz.ntmps15 rfl kr rfl ?_;refine ρ ?_;refine bx ?_;intro w1 b D hb J;refine ρ ?_;refine Ju (fun (i:Nat) (y:Nat)=>[(1,.pointer (some ⟨b,0,none⟩)),(2,.bool false),(3,.int .i64 (y:Int)),(4,.int .i64 (i:Int))])
  (λi y w'=>i<=6/\i<=c.rss.length/\w'=w1/\y=(Xb i λi=>max 1 (c.rss.getD i []).length)/\y<=10^i/\∀ j,j<i->(c.rss.getD j []).length<=10) (λi _=>6-i) 0 1 sB ⟨om,Nat.zero_le _,rfl,rfl,by simp,λj hj=>om⟩ ?_
 rintro i y w2 ⟨h6,hi,rfl,U,a5,a2⟩;refine ρ ?_;refine ld (J.at (i:=5) rfl) ?_;refine ρ ?_;refine Yz (fun (t:Bool)=>[(14,.bool t),(1,.pointer (some ⟨b,0,none⟩)),(2,.bool false),(3,.int .i64 (y:Int)),(4,.int .i64 (i:Int))]) (λt w3=>w3=w2/\(t=true↔i<c.rss.length/\i<6)) ?_ ?_
 .refine ki 11 (λh=>?_) (λh=>?_)
  .have:=oT h;refine ρ ?_;refine Jc (decide ((i:Int)<6)) sB ⟨rfl,?_⟩;rw[decide_eq_true_eq];omega
  have:=oF h;refine ρ ?_;refine Jc false sB ⟨rfl,?_⟩;grind
 rintro t w3 ⟨rfl,ht⟩;refine ρ ?_;refine ci (λh=>?_) (λh=>?_)
 .obtain⟨li,l6⟩:=ht.1 h;clear h;obtain⟨ru,a4,a9⟩:=ab i li;obtain⟨TA,tc,rfl,_,_,_⟩:=id (a9.ext D).parts;refine ρ ?_;refine ld (J.at (i:=5) rfl) ?_;refine ρ ?_;refine ix i (a1.ext D) li ?_;refine ρ ?_;refine ld ((a1.ext D).cell a4) ?_;refine ρ ?_;refine ci (λh=>?_) (λh=>?_)
  .refine ρ ?_;exact Jq ⟨D,false,rfl,λh=>(by cases h),λG=>by have h1:=G.row i li;grind⟩
  have ae:(c.rss.getD i []).length<=10:=by have:=oF h;omega
  clear h;refine ρ ?_;refine ld (J.at (i:=5) rfl) ?_;refine ρ ?_;refine ix i (a1.ext D) li ?_;refine ρ ?_;refine ld ((a1.ext D).cell a4) ?_;refine ρ ?_;have af:(if(1:Int)<((c.rss.getD i []).length:Int) then((c.rss.getD i []).length:Int) else 1)=((max 1 (c.rss.getD i []).length:Nat):Int):=by
   split<;>omega
  have a3:y<=100000:=nL a5 (Nat.pow_le_pow_right (by decide) (show i<=5 by omega));have ag:y*max 1 (c.rss.getD i []).length<=y*10:=Nat.mul_le_mul_left _ om;have e:IntKind.i64.wrap ((y:Int)*(if(1:Int)<((c.rss.getD i []).length:Int) then((c.rss.getD i []).length:Int) else 1))=((y*max 1 (c.rss.getD i []).length:Nat):Int):=by grind [Int.natCast_mul,Zd]
  rw[e];refine Jt (i+1) (y*max 1 (c.rss.getD i []).length) sO ⟨om,om,rfl,?_,?_,λj hj=>?_⟩ om;repeat grind [Xb,Nat.pow_succ,Nat.mul_le_mul]
 have ah:¬ (i<c.rss.length/\i<6):=by grind
 clear h ht;refine ρ ?_;refine ci (λh=>?_) (λh=>?_)
 .refine ρ ?_;exact Jq ⟨D,false,rfl,λh=>(by cases h),λG=>by
   have h1:=G.cnt;have h2:=G.r5;grind⟩
 have a3:y<=5000:=by grind
 clear h;refine ρ ?_;refine Jr (fun (k:Nat)=>[(1,.pointer (some ⟨b,0,none⟩)),(2,.bool false),(5,.int .i64 (k:Int))])
  (λk w'=>k<=6/\k<=c.vs.length/\w'=w3) (λk=>6-k) 0 sB ⟨om,Nat.zero_le _,rfl⟩ ?_
 rintro k w4 ⟨k6,hk,rfl⟩;refine ρ ?_;refine ld (J.at (i:=4) rfl) ?_;refine ρ ?_;refine Yz (fun (t:Bool)=>[(43,.bool t),(1,.pointer (some ⟨b,0,none⟩)),(2,.bool false),(5,.int .i64 (k:Int))]) (λt w5=>w5=w4/\(t=true->k<c.vs.length/\k<6)) ?_ ?_
 .refine ki 40 (λh=>?_) (λh=>?_)
  .have:=oT h;refine ρ ?_;refine Jc (decide ((k:Int)<6)) sB ⟨rfl,?_⟩;rw[decide_eq_true_eq];omega
  refine ρ ?_;exact Jc false sB ⟨rfl,λh=>by cases h⟩
 rintro t w5 ⟨rfl,ht⟩;refine ρ ?_;refine ci (λh=>?_) (λh=>?_)
 .obtain⟨lk,l6⟩:=ht h;clear h;obtain⟨vu,a7,a8⟩:=aa k lk;obtain⟨QA,qc,rfl,_⟩:=id a8;refine ρ ?_;refine ld (J.at (i:=4) rfl) ?_;refine ρ ?_;refine ix k (a6.ext D) lk ?_;refine ρ ?_;refine ld ((a6.ext D).cell a7) ?_;refine ρ ?_;refine ci (λh=>?_) (λh=>?_)
  .refine ρ ?_;exact Jq ⟨D,false,rfl,λh=>(by cases h),λG=>by have h1:=G.v8 k lk;grind⟩
  refine ρ ?_;exact Jm (k+1) sO ⟨om,om,rfl⟩ om
 clear h ht;refine ρ ?_;refine ld (J.at (i:=0) rfl) ?_;refine ρ ?_;refine ki 56 (λh=>?_) (λh=>?_)
 .have hN:c.n<=6:=oT h;clear h;refine ρ ?_;refine ld (J.at (i:=4) rfl) ?_;refine ρ ?_;refine ki 67 (λh4=>?_) (λh4=>?_)
  .refine ρ ?_;refine ld (J.at (i:=5) rfl) ?_;refine ρ ?_;refine ki 73 (λh5=>?_) (λh5=>?_)
   .have r5:c.rss.length<=5:=by have:=oT h5;omega
    have v5:c.vs.length<=5:=by grind
    have ir:i=c.rss.length:=om
    have Z:FewP c:=⟨λj hj=>a2 j om,by rw[<-ir,<-U];exact a3,.inl hN,v5,r5⟩;refine ρ ?_;refine ld (J.at (i:=2) rfl) ?_;refine ρ ?_;refine ki 79 (λh6=>?_) (λh6=>?_)
    .refine ρ ?_;refine ld (J.at (i:=3) rfl) ?_;refine ρ ?_;exact Jq ⟨D,decide ((c.pm.length:Int)<=10),rfl,λ_=>Z,λG=>by have:=G.p10;grind⟩
    refine ρ ?_;exact Jq ⟨D,false,rfl,λh=>(by cases h),λG=>by have h1:=G.d10;grind⟩
   refine ρ ?_;exact Jq ⟨D,false,rfl,λh=>(by cases h),λG=>by have h1:=G.r5;grind⟩
  refine ρ ?_;exact Jq ⟨D,false,rfl,λh=>(by cases h),λG=>by have h1:=G.v5;grind⟩
 have O:¬ c.n<=6:=oF h;clear h;refine ρ ?_;refine ld (J.at (i:=0) rfl) ?_;refine ρ ?_;refine ki 61 (λh=>?_) (λh=>?_)
 .have hN:32<c.n:=oT h;clear h;refine ρ ?_;refine ld (J.at (i:=4) rfl) ?_;refine ρ ?_;refine ki 67 (λh4=>?_) (λh4=>?_)
  .refine ρ ?_;refine ld (J.at (i:=5) rfl) ?_;refine ρ ?_;refine ki 73 (λh5=>?_) (λh5=>?_)
   .have r5:c.rss.length<=5:=by have:=oT h5;omega
    have v5:c.vs.length<=5:=by grind
    have ir:i=c.rss.length:=om
    have Z:FewP c:=⟨λj hj=>a2 j om,by rw[<-ir,<-U];exact a3,.inr hN,v5,r5⟩;refine ρ ?_;refine ld (J.at (i:=2) rfl) ?_;refine ρ ?_;refine ki 79 (λh6=>?_) (λh6=>?_)
    .refine ρ ?_;refine ld (J.at (i:=3) rfl) ?_;refine ρ ?_;exact Jq ⟨D,decide ((c.pm.length:Int)<=10),rfl,λ_=>Z,λG=>absurd G.n6 O⟩
    refine ρ ?_;exact Jq ⟨D,false,rfl,λh=>(by cases h),λG=>absurd G.n6 O⟩
   refine ρ ?_;exact Jq ⟨D,false,rfl,λh=>(by cases h),λG=>absurd G.n6 O⟩
  refine ρ ?_;exact Jq ⟨D,false,rfl,λh=>(by cases h),λG=>absurd G.n6 O⟩
 refine ρ ?_;exact Jq ⟨D,false,rfl,λh=>(by cases h),λG=>absurd G.n6 O⟩
end Go.Proofs.YtebiphhfkdbpfaaGreatDoor
